/- Texts laid together by a program: rules, contracts and the walk that leads to the law. -/
import Derived.Test.YtegiblhkjfiooaaGreatPl14
import Derived.Test.YtegiblhkjfiooaaGreatPl17
import Derived.Test.YtegiblhkjfiooaaGreatPl13
import Derived.Test.YtegiblhkjfiooaaGreatPl3
import Derived.Test.YtegiblhkjfiooaaGreatPl10
import Derived.Test.YtegiblhkjfiooaaGreatPl8
import Derived.Test.YtegiblhkjfiooaaGreatPl9
set_option linter.unusedVariables false
set_option linter.unusedSimpArgs false
set_option linter.unusedSectionVars false
section
namespace Go.AM
def jS (f:Nat→Int):Nat→Int
 |0=>0
 |n+1=>jS f n+f n
theorem KF {f:Nat→Int} {m:Int} (h0:0≤m): ∀n,(∀k,k<n→0≤f k∧f k≤m)→0≤jS f n∧jS f n≤m*n
 |0,_=>by simp[jS]
 |n+1,h=>by
  have h1:=KF h0 n fun k hk=>h k (by omega)
  have h2:=h n (by omega)
  have h3:m*((n+1:Nat):Int)=m*n+m:=by push_cast;rw[Int.mul_add,Int.mul_one]
  simp only[jS]
  omega
def vZ (i:CIn):Prop:=i.ready.length=3∧i.n9.length=4∧i.send.length=3
end Go.AM
namespace Go.Proofs.YtegiblhkjfiooaaGreat
open Go Go.AM
set_option maxRecDepth 100000
set_option maxHeartbeats 8000000
theorem VM:cJ Tryz.prog mW Tryz.f22 AN IC:=cJ.mk Tryz.func22 (by kernel_rfl) UM
section
variable {H : aA} {nx : Nat} {K : D → aA → Nat → Prop}
theorem XI (c:Cfg) (s:CSt) (hb:aQ c) (hcf:jO c) (hs:COk c s):aB Tryz.prog mW [dA (cU c),dA (eI s)] .nil 0 fun r _ _=>r.plain=true∧r=dB true:=by
 have hpl:=hs.pl
 have hsl:=hs.sl
 obtain⟨hwl,_,hhl,_⟩:=hs.atm
 have hat:=decide_eq_true (ZS hs.atm)
 have hbt:=decide_eq_true hb
 refine VM rfl fun Q hQ=> ?_
 unfold AN
 repeat' (first| (with_reducible first| (refine hK _ _ _ ?_;clear hK K)| (refine hB ?_;clear hA hB A B)|refine Z1 ?_|refine Z2 ?_|refine Z3 fun KB hKB=> ?_|refine Z5 (by omega) ?_)| (first| (with_reducible first|refine Y2 fun K hK=> ?_|refine Y3 fun A B hA hB=> ?_|refine Y5 (by omega) ?_)| (refine W6 hcf ?_)| (refine JZ (by omega) (by omega) (aE rfl) ?_))<;>(simp only[go_sem,eq_true hb,hat,hbt,hpl,hsl])|fail)
 (have hKX:=hKB;clear hKB)
 refine aM.abC fun G0 hG0=> ?_
 have c0:G0 0=some ⟨3,1,[cU c]⟩:=by rw[hG0];rfl
 have c1:G0 1=some ⟨5,1,[eI s]⟩:=by rw[hG0];rfl
 clear hG0
 obtain⟨fo,hfo⟩: ∃fo:Nat→Int,fo=fun k=>((aF s k).out.length:Int):=⟨_,rfl⟩
 obtain⟨fh,hfh⟩: ∃fh:Nat→Int,fh=fun k=>(((aL s k).pipe.length:Int)+(aL s k).done.length):=⟨_,rfl⟩
 refine aM.gP (β:=Nat) (fun k=>en [(35,dI k),(34,dI 3),(33,dS (s.bM.map cD)),(6,dI 0),(5,dI (jS fo k)),(3,.one (.c (.ptr 5 1 0 0))),(2,.one (.c (.ptr 3 0 0 0)))])
  (fun k H1 _=>k≤3∧ ∀id,id<30→H1 id=G0 id) (fun k=>3-k) 0 ⟨noF,_,by repeat' (first| (with_reducible first|exact C1|refine C2 ?_ ?_)| ((with_reducible refine C0 ?_);exact CE (by omega) rfl)| ((with_reducible refine D0 ?_);first|exact CA rfl|refine CJ ?_)|fail),aK,by omega,fun _ _=>rfl⟩ ?_
 rintro k H1 nx1 hnx ⟨hk,hfr⟩ KL hKL
 have g0:=(hfr 0 (by omega)).trans c0
 have g1:=(hfr 1 (by omega)).trans c1
 have hA:bQ nx1 [0,1]:=AM.apart (by simp) (by simp;omega)
 simp only[bQ,eZ] at hA
 have hs1:=KF (f:=fo) (m:=4) (by omega) k fun j hj=>by have:=(hs.port j (by omega)).ol;rw[hfo];dsimp only;omega
 by_cases hlt:k<3
 ·obtain⟨p,hpd⟩: ∃p,p=aF s k:=⟨_,rfl⟩
  have hpd':s.bM.getD k default=p:=hpd.symm
  have hpo:=hs.port k hlt
  rw[←hpd] at hpo
  have hol:=hpo.ol
  have hsum:jS fo (k+1)=jS fo k+p.out.length:=by rw[jS,hfo,hpd]
  have hKL1:=hKL
  repeat' (first| (with_reducible first| (refine hK _ _ _ ?_;clear hK K)| (refine hA ?_;clear hA hB A B)| (refine hB ?_;clear hA hB A B)|refine Z1 ?_|refine Z2 ?_|refine Z3 fun KB hKB=> ?_|refine Z4 (by omega) ?_)| (first| (with_reducible first|refine Y2 fun K hK=> ?_|refine Y3 fun A B hA hB=> ?_)| (refine FQ hb hlt hpo ?_))<;>(simp only[go_sem,Nat.add_assoc,Nat.left_eq_add,hpd',g0,g1,hA];try simp (disch:=omega) only[Iw])| ((with_reducible refine Y0 ?_);simp only[AQ.then,AQ.blk])|refine⟨by omega,?_⟩| (with_reducible refine hKB _ _ _ ?_)|fail)
  exact hKL _ _ _ (k+1) noF _ (by omega) (by omega) (by rw[hsum];repeat' (first| (with_reducible first|exact C1|refine C2 ?_ ?_)| ((with_reducible refine C0 ?_);exact CE (by omega) rfl)| ((with_reducible refine D0 ?_);first|exact CA rfl|refine CJ ?_)|fail)) aK ⟨by omega,fun id hid=>by rw[aA.aC (by omega)];exact hfr id hid⟩
 ·repeat' (first| (with_reducible first| (refine hK _ _ _ ?_;clear hK K)| (refine hB ?_;clear hA hB A B)|refine Z1 ?_|refine Z3 fun KB hKB=> ?_|refine Z5 (by omega) ?_|refine hKX _ _ _ ?_)| (with_reducible first|refine Y2 fun K hK=> ?_|refine Y3 fun A B hA hB=> ?_)<;>(simp only[go_sem,g0,g1,hsl])| ((with_reducible refine Y9 ?_);try simp only[AQ.then,AQ.blk,reduceIte,Nat.reduceEqDiff])|fail)
  have hk3:k=3:=by omega
  subst hk3
  (have hKY:=hKB;clear hKB)
  refine aM.gP (β:=Nat) (fun k=>en [(54,dI k),(53,dI 4),(52,dS (s.dD.map gF)),(6,dI (jS fh k)),(5,dI (jS fo 3)),(3,.one (.c (.ptr 5 1 0 0))),(2,.one (.c (.ptr 3 0 0 0)))])
   (fun k H1 _=>k≤4∧ ∀id,id<30→H1 id=G0 id) (fun k=>4-k) 0 ⟨noF,_,by repeat' (first| (with_reducible first|exact C1|refine C2 ?_ ?_)| ((with_reducible refine C0 ?_);exact CE (by omega) rfl)| ((with_reducible refine D0 ?_);first|exact CA rfl|refine CJ ?_)|fail),aK,by omega,hfr⟩ ?_
  clear hfr g0 g1 hA
  rintro k H2 nx2 hnx2 ⟨hk,hfr⟩ KM hKM
  have g0:=(hfr 0 (by omega)).trans c0
  have g1:=(hfr 1 (by omega)).trans c1
  have hA:bQ nx2 [0,1]:=AM.apart (by simp) (by simp;omega)
  simp only[bQ,eZ] at hA
  have hs2:=KF (f:=fh) (m:=4) (by omega) k fun j hj=>by have h1:=(hs.slv j (by omega)).pl;have h2:=(hs.slv j (by omega)).dl;rw[hfh];dsimp only;omega
  by_cases hlt:k<4
  ·obtain⟨v,hvd⟩: ∃v,v=aL s k:=⟨_,rfl⟩
   have hvd':s.dD.getD k default=v:=hvd.symm
   have hv1:=(hs.slv k hlt).pl
   have hv2:=(hs.slv k hlt).dl
   rw[←hvd] at hv1 hv2
   have hsum:jS fh (k+1)=jS fh k+(v.pipe.length+v.done.length):=by rw[jS,hfh,hvd]
   repeat' (first| (with_reducible first| (refine hK _ _ _ ?_;clear hK K)| (refine hA ?_;clear hA hB A B)| (refine hB ?_;clear hA hB A B)|refine Z1 ?_|refine Z2 ?_|refine Z3 fun KB hKB=> ?_|refine Z4 (by omega) ?_)| (first| (with_reducible first|refine Y2 fun K hK=> ?_|refine Y3 fun A B hA hB=> ?_)| (refine EL hb hs hlt ?_))<;>(simp only[go_sem,Nat.add_assoc,Nat.left_eq_add,hvd',g0,g1,hA];try simp (disch:=omega) only[Iw])| ((with_reducible refine Y0 ?_);simp only[AQ.then,AQ.blk])|refine⟨by omega,?_⟩| (with_reducible refine hKB _ _ _ ?_)|fail)
   exact hKM _ _ _ (k+1) noF _ (by omega) (by omega) (by rw[hsum];repeat' (first| (with_reducible first|exact C1|refine C2 ?_ ?_)| ((with_reducible refine C0 ?_);exact CE (by omega) rfl)| ((with_reducible refine D0 ?_);first|exact CA rfl|refine CJ ?_)|fail)) aK ⟨by omega,fun id hid=>by rw[aA.aC (by omega)];exact hfr id hid⟩
  ·have hk4:k=4:=by omega
   subst hk4
   have hct:jS fo 3=jS fh 4:=by
    have:=hs.count
    unfold hU at this
    rw[hfo,hfh]
    simp only[jS]
    omega
   have hct':(jS fo 3=jS fh 4)=True:=eq_true hct
   repeat' (first| (with_reducible first| (refine hK _ _ _ ?_;clear hK K)| (refine hB ?_;clear hA hB A B)|refine Z1 ?_|refine Z5 (by omega) ?_|refine hKY _ _ _ ?_)| (first| (with_reducible first|refine Y2 fun K hK=> ?_|refine Y3 fun A B hA hB=> ?_)| (refine T0 (c:=c) hb hs (fun H' nx' hx' ffr=> ?_)))<;>(simp only[go_sem,Nat.add_assoc,Nat.left_eq_add,g0,g1,hct',hA])| ((with_reducible refine Y9 ?_);try simp only[AQ.then,AQ.blk,reduceIte,Nat.reduceEqDiff])|fail)
   have e0:=(ffr 0 (by omega)).trans g0
   refine⟨fun _=>by rw[e0];rfl,?_⟩
   refine HQ hb hs.st ?_
   simp only[go_sem]
   repeat' (first| (with_reducible (refine hK _ _ _ ?_;clear hK K))| ((with_reducible refine Y8 ?_);try simp only[AQ.then,AQ.blk,reduceIte,Nat.reduceEqDiff])|fail)
   exact hQ _ _ _ _ _ (.inr rfl) rfl ⟨rfl,rfl⟩
theorem C5 {c:Cfg} {s:CSt} (hb:aQ c) (hcf:jO c) (hs:COk c s) (h:K (dB true) H nx):aB Tryz.prog mW [dA (cU c),dA (eI s)] H nx K:=
 (XI c s hb hcf hs).pure rfl (aI ⟨aE rfl,aE rfl,trivial⟩) fun r hr=>hr▸h
theorem YW (i:CIn) (hi:vZ i):aB Tryz.prog uJ [dA (eIn i)] .nil 0 fun rr _ _=>rr.plain=true∧rr=dB true:=by
 refine XL rfl fun Q hQ=> ?_
 unfold CT
 obtain⟨h1,h2,h3⟩:=hi
 have e1:((i.ready.length:Int)=3)=True:=eq_true (by omega)
 have e2:((i.n9.length:Int)=4)=True:=eq_true (by omega)
 have e3:((i.send.length:Int)=3)=True:=eq_true (by omega)
 have e4:decide ((i.send.length:Int)=3)=true:=by simp only[e3,decide_true]
 repeat' (first| (with_reducible first| (refine hK _ _ _ ?_;clear hK K)|refine Z1 ?_)| (with_reducible refine Y2 fun K hK=> ?_)<;>(simp only[go_sem,e1,e2,e3,e4])| ((with_reducible refine Y8 ?_);try simp only[AQ.then,AQ.blk,reduceIte,Nat.reduceEqDiff])|fail)
 all_goals first|with_reducible refine aZ hQ _ rfl rfl ?_|skip
 all_goals first|exact pD (by omega)|exact q9 (by omega)|exact j7 (by omega)|rfl
theorem NV {i:CIn} (hi:vZ i) (h:K (dB true) H nx):aB Tryz.prog uJ [dA (eIn i)] H nx K:=
 (YW i hi).pure rfl (aI ⟨aE rfl,trivial⟩) (fun r hr=>hr▸h)
theorem rY (l:List CIn) (f:FuncId) (caps:List D1) (p:CIn→Bool) (hl:l.length<2^40) (hc:caps.all D1.dQ=true) (hf: ∀x∈l,∀(H:aA) (nx:Nat) (K:D→aA→Nat→Prop),K (dB (p x)) H nx→aB Tryz.prog f (dA (eIn x)::caps.map fun d=>.one (.c d)) H nx K):
 aB Tryz.prog dK [dS (l.map eIn),.one (.c (.clo f caps))] .nil 0 fun r _ _=>r.plain=true∧r=dI (bK p l):=by
 refine q8 rfl fun Q hQ=> ?_
 unfold fI
 repeat' (first| (with_reducible first| (refine hK _ _ _ ?_;clear hK K)|refine Z1 ?_|refine Z3 fun KB hKB=> ?_)| (with_reducible refine Y2 fun K hK=> ?_)<;>(simp only[go_sem])|fail)
 (have hKX:=hKB;clear hKB);(refine aM.loop (α:={k:Nat//k≤l.length∧(∀i,i<k→p (l.getD i default)=false)}) (fun u=>en [(8,dI u.1),(7,dI l.length),(1,.one (.c (.clo f caps))),(0,dS (l.map eIn))]) (fun _=>.nil) _ (fun u=>l.length-u.1) ⟨0,by omega,(by intros;first|trivial|omega)⟩ (bU (Nat.le_refl _) (by repeat' (first| (with_reducible first|exact C1|refine C2 ?_ ?_)| ((with_reducible refine C0 ?_);exact CH (by assumption))| ((with_reducible refine D0 ?_);first|exact CA rfl|refine CJ ?_)|fail))) ?_);(rintro⟨k,hk,hinv⟩ KL hKL)
 by_cases hlt:k<l.length
 ·have hmem:l.getD k default∈l:=by simp[List.getD,hlt]
  repeat' (first| (with_reducible first| (refine hK _ _ _ ?_;clear hK K)| (refine hA ?_;clear hA hB A B)| (refine hB ?_;clear hA hB A B)|refine Z1 ?_|refine Z2 ?_|refine Z3 fun KB hKB=> ?_|refine Z4 (by omega) ?_)| (first| (with_reducible first|refine Y2 fun K hK=> ?_|refine Y3 fun A B hA hB=> ?_)| (with_reducible refine hf _ hmem _ _ _ ?_))<;>(simp only[go_sem];try simp (disch:=omega) only[Iw])| ((with_reducible refine Y8 ?_);try simp only[AQ.then,AQ.blk,reduceIte,Nat.reduceEqDiff])| ((with_reducible refine Y0 ?_);simp only[AQ.then,AQ.blk])| ((with_reducible refine Z8 (fun h=> ?_) (fun h=> ?_))<;>try subst h)|refine⟨by omega,?_⟩| (with_reducible refine hKB _ _ _ ?_)|fail)
  ·refine aZ hQ _ rfl rfl (qA (Eq.symm (CU (by omega) (by assumption) hinv)))
  · (refine hKL _ _ _ ⟨k+1,by omega,iS hinv (by assumption)⟩ (by omega) (by(try dsimp only);omega) (bU (Nat.le_refl _) (by repeat' (first| (with_reducible first|exact C1|refine C2 ?_ ?_)| ((with_reducible refine C0 ?_);exact CH (by assumption))| ((with_reducible refine D0 ?_);first|exact CA rfl|refine CJ ?_)|fail))))
 ·repeat' (first| (with_reducible first| (refine hK _ _ _ ?_;clear hK K)| (refine hB ?_;clear hA hB A B)|refine Z1 ?_|refine Z5 (by omega) ?_|refine hKX _ _ _ ?_)| (with_reducible first|refine Y2 fun K hK=> ?_|refine Y3 fun A B hA hB=> ?_)<;>(simp only[go_sem])| ((with_reducible first|refine Y8 ?_|refine Y9 ?_);try simp only[AQ.then,AQ.blk,reduceIte,Nat.reduceEqDiff])|fail)
  ·refine aZ hQ _ rfl rfl (qA (Eq.symm (tI fun i hi=>hinv i (by omega))))
theorem rX {l:List CIn} {f:FuncId} {caps caps0:List D1} {p:CIn→Bool} {d:D} (hl:l.length<2^40) (hc:caps.all D1.dQ=true) (hd:CvD H (fun _=>True) id 0 (dS (l.map eIn)) d) (hk:CvD H (fun _=>True) id 0 (.one (.c (.clo f caps))) (.one (.c (.clo f caps0)))) (hf: ∀x∈l,∀(H:aA) (nx:Nat) (K:D→aA→Nat→Prop),K (dB (p x)) H nx→aB Tryz.prog f (dA (eIn x)::caps.map fun d=>.one (.c d)) H nx K)
 (h:K (dI (bK p l)) H nx):aB Tryz.prog dK [d,.one (.c (.clo f caps0))] H nx K:=
 (rY l f caps p hl hc hf).pure rfl (aI ⟨hd,hk,trivial⟩) fun r hr=>hr▸h
theorem pC (l:List CIn) (f:FuncId) (caps:List D1) (p:CIn→Bool) (hl:l.length<2^40) (hc:caps.all D1.dQ=true) (hf: ∀x∈l,∀(H:aA) (nx:Nat) (K:D→aA→Nat→Prop),K (dB (p x)) H nx→aB Tryz.prog f (dA (eIn x)::caps.map fun d=>.one (.c d)) H nx K):
 aB Tryz.prog cW [dS (l.map eIn),.one (.c (.clo f caps))] .nil 0 fun r _ _=>r.plain=true∧r=dB (decide (0≤bK p l)):=by
 refine oM rfl fun Q hQ=> ?_
 unfold eM
 repeat' (first| (with_reducible first| (refine hK _ _ _ ?_;clear hK K)|refine Z1 ?_)| (first| (with_reducible refine Y2 fun K hK=> ?_)| (refine rX hl hc (aE rfl) (kC hc) hf ?_))<;>(simp only[go_sem])| ((with_reducible refine Y8 ?_);try simp only[AQ.then,AQ.blk,reduceIte,Nat.reduceEqDiff])|fail)
 all_goals exact aZ hQ _ rfl rfl rfl
theorem pP {l:List CIn} {f:FuncId} {caps caps0:List D1} {p:CIn→Bool} {d:D} (hl:l.length<2^40) (hc:caps.all D1.dQ=true) (hd:CvD H (fun _=>True) id 0 (dS (l.map eIn)) d) (hk:CvD H (fun _=>True) id 0 (.one (.c (.clo f caps))) (.one (.c (.clo f caps0)))) (hf: ∀x∈l,∀(H:aA) (nx:Nat) (K:D→aA→Nat→Prop),K (dB (p x)) H nx→aB Tryz.prog f (dA (eIn x)::caps.map fun d=>.one (.c d)) H nx K)
 (h:K (dB (decide (0≤bK p l))) H nx):aB Tryz.prog cW [d,.one (.c (.clo f caps0))] H nx K:=
 (pC l f caps p hl hc hf).pure rfl (aI ⟨hd,hk,trivial⟩) fun r hr=>hr▸h
theorem U6 (i:CIn) (hi:vZ i):aB Tryz.prog tQ [dA (eIn i)] .nil 0 fun rr _ _=>rr.plain=true∧rr=dB false:=by
 refine RR rfl fun Q hQ=> ?_
 unfold yG
 repeat' (first| (with_reducible first| (refine hK _ _ _ ?_;clear hK K)|refine Z1 ?_)| (first| (with_reducible refine Y2 fun K hK=> ?_)| (refine NV hi ?_))<;>(simp only[go_sem])| ((with_reducible refine Y8 ?_);try simp only[AQ.then,AQ.blk,reduceIte,Nat.reduceEqDiff])|fail)
 all_goals first|with_reducible refine aZ hQ _ rfl rfl ?_|skip
 all_goals first|exact pD (by omega)|exact q9 (by omega)|exact j7 (by omega)|rfl
theorem TR {i:CIn} (hi:vZ i) (h:K (dB false) H nx):aB Tryz.prog tQ [dA (eIn i)] H nx K:=
 (U6 i hi).pure rfl (aI ⟨aE rfl,trivial⟩) (fun r hr=>hr▸h)
theorem aaD (c:Cfg) (s:CSt) (l:List CIn) (hb:aQ c) (hcf:jO c) (hs:COk c s) (hl:l.length≤300) (hi: ∀i∈l,vZ i):aB Tryz.prog zH [dA (cU c),dA (eI s),dS (l.map eIn)] .nil 0 fun rr _ _=>rr.plain=true∧rr=dB true:=by
 refine XF rfl fun Q hQ=> ?_
 unfold B6
 have hlt:((l.length:Int)≤300)=True:=eq_true (by omega)
 have hno:(0≤bK (fun _=>false) l)=False:=eq_false fun h=>by
  obtain⟨x,_,hx⟩:=cH.1 h
  simp at hx
 have hnd:decide (0≤bK (fun _=>false) l)=false:=by simp only[hno,decide_false]
 repeat' (first| (with_reducible first| (refine hK _ _ _ ?_;clear hK K)|refine Z1 ?_)| (first| (with_reducible refine Y2 fun K hK=> ?_)| (refine C5 hb hcf hs ?_)| (refine pP (l:=l) (caps:=[]) (p:=fun _=>false) (by omega) rfl (aE rfl) (kC rfl) (fun x hx H nx K h=>TR (hi x hx) h) ?_))<;>(simp only[go_sem,hlt,hno,hnd])| ((with_reducible refine Y8 ?_);try simp only[AQ.then,AQ.blk,reduceIte,Nat.reduceEqDiff])|fail)
 all_goals first|with_reducible refine aZ hQ _ rfl rfl ?_|skip
 all_goals first|exact pD (by omega)|exact q9 (by omega)|exact j7 (by omega)|rfl
theorem YT {c:Cfg} {s:CSt} {l:List CIn} (hb:aQ c) (hcf:jO c) (hs:COk c s) (hl:l.length≤300) (hi: ∀i∈l,vZ i) (h:K (dB true) H nx):aB Tryz.prog zH [dA (cU c),dA (eI s),dS (l.map eIn)] H nx K:=
 (aaD c s l hb hcf hs hl hi).pure rfl (aI ⟨aE rfl,aE rfl,aE rfl,trivial⟩) (fun r hr=>hr▸h)
end
end Go.Proofs.YtegiblhkjfiooaaGreat
end
section
namespace Go.Proofs.YtegiblhkjfiooaaGreat
open Go Go.AM
set_option maxRecDepth 100000
end Go.Proofs.YtegiblhkjfiooaaGreat
end
section
namespace Go.Proofs.YtegiblhkjfiooaaGreat
open Go Go.AM
set_option maxRecDepth 100000
set_option maxHeartbeats 8000000
section
variable {H : aA} {nx : Nat} {K : D → aA → Nat → Prop}
end
end Go.Proofs.YtegiblhkjfiooaaGreat
end
section
namespace Go.Proofs.YtegiblhkjfiooaaGreat
open Go Go.AM
set_option maxRecDepth 100000
set_option maxHeartbeats 8000000
section
variable {H : aA} {nx : Nat} {K : D → aA → Nat → Prop}
theorem QL:aB Tryz.prog oC [] (hp []) 0
 fun r H' n'=>n'=1∧H'=hp [(0,⟨1,64,(List.replicate 64 (0:Int)).map aJ⟩)]∧r=dA [.osl 1 0 0 64 64]:=by
 refine RT rfl fun Q hQ=> ?_
 unfold xL
 repeat' (first| (with_reducible first| (refine hK _ _ _ ?_;clear hK K)|refine Z1 ?_)| (with_reducible refine Y2 fun K hK=> ?_)<;>(simp only[go_sem])| ((with_reducible refine Y8 ?_);try simp only[AQ.then,AQ.blk,reduceIte,Nat.reduceEqDiff])|fail)
 (refine hQ _ _ _ _ _ 1 (dA [.osl 1 0 0 64 64]) (hp [(0,⟨1,64,(List.replicate 64 (0:Int)).map aJ⟩)]) _ _ (.inr rfl) rfl (fU [1] (by omega) (by repeat' (first| ((with_reducible refine C0 ?_);exact CQ (by omega) rfl rfl (by rfl) rfl)| ((with_reducible refine D0 ?_);refine C9 ?_)|exact C3|refine C4 ?_ ?_|fail)) ⟨⟨by simp,by simp[sgL],_,rfl,bP (aG bF _) rfl rfl⟩,trivial⟩ (by simp[sgL])) ?_)
 exact⟨rfl,rfl,rfl⟩
theorem PY (h:K (dA [.osl 1 nx 0 64 64]) (H.set nx ⟨1,64,(List.replicate 64 (0:Int)).map aJ⟩) (nx+1)):aB Tryz.prog oC [] H nx K:=by
 refine QL.AF (l0:=[]) [] rfl trivial trivial (by simp) (by simp) (by simp) fun r H' n' _ ⟨q1,q2,q3⟩=> ?_
 subst q1;subst q2;subst q3
 have e1:back (tau 0 nx (nth [])) (hp [(0,⟨1,64,(List.replicate 64 (0:Int)).map aJ⟩)]) 1 H=H.set nx ⟨1,64,(List.replicate 64 (0:Int)).map aJ⟩:=by
  simp only[back,hp,aA.set,tau,Nat.not_lt_zero,if_true,if_false,Nat.sub_zero,Nat.add_zero,Option.map_some,uB,aA.eL]
 rw[←e1] at h
 exact h
theorem QT:aB Tryz.prog n8 [] (hp []) 0
 fun r H' n'=>n'=2∧H'=hp [(0,⟨1,64,(List.replicate 64 (0:Int)).map aJ⟩),(1,⟨1,6,(List.replicate 6 (-1:Int)).map aJ⟩)]∧r=dA [.osl 1 0 0 64 64,.osl 1 1 0 6 6]:=by
 refine SY rfl fun Q hQ=> ?_
 unfold xV
 generalize hw0:List.replicate 64 (0:Int)=w0 at*
 have hmn: ∀{H:aA} {nx:Nat} {K:D→aA→Nat→Prop},K (dA [.osl 1 nx 0 64 64]) (H.set nx ⟨1,64,w0.map aJ⟩) (nx+1)→aB Tryz.prog oC [] H nx K:=fun h=>by subst hw0;exact PY h
 generalize hw1:List.replicate 6 (-1:Int)=w1 at*
 have hl1:w1.length=6:=by subst hw1;rfl
 have hrp: ∀{H:aA} {nx i0:Nat} {K:D→aA→Nat→Prop},i0<nx→H i0=some ⟨1,1,[[cI (-1)]]⟩→K (dO 1 nx 6 6) ((H.del i0).set nx ⟨1,6,w1.map aJ⟩) (nx+1)→aB Tryz.prog eJ [dO 1 i0 1 1,dI 6] H nx K:=fun h0 o0 h=>by subst hw1;exact zT h0 o0 h
 repeat' (first| (with_reducible first| (refine hK _ _ _ ?_;clear hK K)|refine Z1 ?_)| (first| (with_reducible refine Y2 fun K hK=> ?_)| (refine hmn ?_)| (refine hrp (by omega) rfl ?_))<;>(simp only[go_sem])| ((with_reducible refine Y8 ?_);try simp only[AQ.then,AQ.blk,reduceIte,Nat.reduceEqDiff])|fail)
 (refine hQ _ _ _ _ _ 2 (dA [.osl 1 0 0 64 64,.osl 1 1 0 6 6]) (hp [(0,⟨1,64,w0.map aJ⟩),(1,⟨1,6,w1.map aJ⟩)]) _ _ (.inr rfl) rfl (fU [6,7] (by omega) (by repeat' (first| ((with_reducible refine C0 ?_);exact CQ (by omega) rfl rfl (by rfl) rfl)| ((with_reducible refine D0 ?_);refine C9 ?_)|exact C3|refine C4 ?_ ?_|fail)) ⟨⟨by simp,by simp[sgL],_,rfl,bP (aG bF _) rfl rfl⟩,⟨by simp,by simp[sgL],_,rfl,bP (aG bF _) rfl rfl⟩,trivial⟩ (by simp[sgL])) ?_)
 exact⟨rfl,rfl,rfl⟩
theorem QG (h:K (dA [.osl 1 nx 0 64 64,.osl 1 (nx+1) 0 6 6]) ((H.set nx ⟨1,64,(List.replicate 64 (0:Int)).map aJ⟩).set (nx+1) ⟨1,6,(List.replicate 6 (-1:Int)).map aJ⟩) (nx+2)):aB Tryz.prog n8 [] H nx K:=by
 refine QT.AF (l0:=[]) [] rfl trivial trivial (by simp) (by simp) (by simp) fun r H' n' _ ⟨q1,q2,q3⟩=> ?_
 subst q1;subst q2;subst q3
 generalize List.replicate 64 (0:Int)=w0 at*
 generalize List.replicate 6 (-1:Int)=w1 at*
 have e1:back (tau 0 nx (nth [])) (hp [(0,⟨1,64,w0.map aJ⟩),(1,⟨1,6,w1.map aJ⟩)]) 2 H=(H.set nx ⟨1,64,w0.map aJ⟩).set (nx+1) ⟨1,6,w1.map aJ⟩:=by
  simp only[asR,hp,aA.set,tau,Nat.not_lt_zero,if_true,if_false,Nat.sub_zero,Nat.add_zero,Option.map_some,uB,aA.eL,Nat.zero_ne_one,Nat.one_ne_zero]
 rw[←e1] at h
 exact h
end
end Go.Proofs.YtegiblhkjfiooaaGreat
end
section
namespace Go.AM
theorem abY.frame {H H':aA} {nm:Nat→Nat} {s:CSt} {cells:List D1} (h:abY H nm s cells) (hf: ∀k,k<19→H' (nm k)=H (nm k)):abY H' nm s cells:=by
 obtain⟨⟨wc,hc,pc,vc,tc,q1,q2,q3,q4,q5⟩,⟨m,rows,j1,j2,j3⟩,⟨m',rows',j4,j5,j6⟩⟩:=h
 refine⟨⟨wc,hc,pc,vc,tc,q1,q2.frame (hf _ (by omega)),q3.frame (hf _ (by omega)),q4.frame (hf _ (by omega)),q5⟩,⟨m,rows,by rw[hf 2 (by omega)];exact j1,j2,fun k hk=> ?_⟩,⟨m',rows',by rw[hf 3 (by omega)];exact j4,j5,fun k hk=> ?_⟩⟩
 ·obtain⟨r,k1,k2⟩:=j3 k hk
  exact⟨r,k1,k2.frame (hf _ (by omega)) (hf _ (by omega))⟩
 ·obtain⟨r,k1,k2⟩:=j6 k hk
  exact⟨r,k1,k2.frame (hf _ (by omega)) (hf _ (by omega))⟩
theorem agA {c:Cfg} {s:CSt} {l:List CIn} {k:Nat} (hk:k<l.length):sQ c s (l.take (k+1))=vF c (l.getD k default) (sQ c s (l.take k)):=by
 rw[nK hk,anC];rfl
theorem COk.sz {c:Cfg} {s:CSt} (hb:aQ c) (h:COk c s):CSz s:=by
 obtain⟨hwl,_,hhl,_⟩:=h.atm
 have htl:s.told.length≤36:=by have:=h.st.lens hb;simp only[cX] at this;omega
 have hd: ∀j∈s.told,j.rsp.data.length<2^20:=fun j hj=>by
  have:=(h.st.R8 j (List.mem_append_right _ hj)).1
  unfold pA at this;omega
 refine⟨h.pl,h.sl,by omega,by omega,⟨by omega,hd⟩,fun k hk=> ?_,fun k hk=> ?_⟩
 ·have h1:=(h.port k hk).ql;have h2:=(h.port k hk).ol;omega
 ·have h1:=(h.slv k hk).pl;have h2:=(h.slv k hk).dl
  refine⟨by omega,by omega,fun j hj=> ?_⟩
  have:=((h.slv k hk).rsp j hj).1
  unfold pA at this;omega
end Go.AM
namespace Go.Proofs.YtegiblhkjfiooaaGreat
open Go Go.AM
set_option maxRecDepth 100000
set_option maxHeartbeats 8000000
section
variable {H : aA} {nx : Nat} {K : D → aA → Nat → Prop}
end
end Go.Proofs.YtegiblhkjfiooaaGreat
end
section
namespace Go.AM
theorem aB.ao4 {P:Program} {f:FuncId} {args args':List D} {H:aA} {nx:Nat} {K:D→aA→Nat→Prop} (H':aA) (F:Nat→Prop) (hl:args.length=args'.length) (hA: ∀(i:Nat) (d0 d:D),args'[i]?=some d0→args[i]?=some d→CvD H F id nx d0 d) (hH:CvX F nx H H') (h:aB P f args' H' nx K):aB P f args H nx K:=by
 refine⟨h.1,fun c vs hs hN hlen hrel=> ?_⟩
 obtain⟨k1,k2⟩:=YO hs (Step.refl c H) hN hH
 refine(h.2 (c.conv nx nx id (c.frI H F)) vs k1 (fun i hi=> ?_) (by omega) fun i d v h1 h2=> ?_).mono ?_
 ·rcases hi with⟨_,hi⟩|⟨h1,h2,h3⟩
  ·exact hN i hi
  ·omega
 ·have hi:i<args.length:=by have:=(List.getElem?_eq_some_iff.1 h1).1;omega
  exact zD hs (fun b h=>.inl h) (fun id o h1 h2 h3=>.inr ⟨id,o,h1,h2,h3,rfl⟩) (fun _ _=>rfl) (hA i d _ h1 (List.getElem?_eq_getElem hi)) (hrel i _ v (List.getElem?_eq_getElem hi) h2)
 ·rintro x w' ⟨v,c2,r,H2,n2,rfl,rfl,p1,p2,p3,p4,p5,p6⟩
  refine⟨v,c2,r,H2,n2,rfl,rfl,p1,k2.trans p2,fun i hi=> ?_,p4,p5,p6⟩
  rcases p3 i hi with h|h
  ·rcases h with⟨_,hi⟩|⟨h1,h2,h3⟩
   ·exact .inl hi
   ·omega
  ·exact .inr h
open Classical in
noncomputable def without (F:Nat→Prop) (H:aA):aA:=fun j=>if F j then none else H j
theorem iI {F:Nat→Prop} {H:aA} {j:Nat} (h: ¬F j):without F H j=H j:=by unfold without;rw[if_neg h]
theorem kS {F:Nat→Prop} {H:aA} {nx:Nat}:CvX F nx H (without F H):=fun j x hj=>by
 by_cases h:F j
 ·unfold without at hj;rw[if_pos h] at hj;cases hj
 ·rw[iI h] at hj;exact⟨h,x,hj,.inl rfl⟩
end Go.AM
namespace Go.Proofs.YtegiblhkjfiooaaGreat
open Go Go.AM
set_option maxRecDepth 100000
set_option maxHeartbeats 8000000
theorem QC:cJ Tryz.prog tV Tryz.f30 xR F5:=cJ.mk Tryz.func30 (by kernel_rfl) PZ
theorem SZ:cJ Tryz.prog AA Tryz.f17 w7 E6:=cJ.mk Tryz.func17 (by kernel_rfl) R7
section
variable {H : aA} {nx : Nat} {K : D → aA → Nat → Prop}
theorem IA {c:Cfg} {s:CSt} {l:List CIn} (hb:aQ c) (hcf:jO c) (hs:COk c s) (hl:l.length≤300) (hi: ∀i∈l,vZ i)
 (h: ∀H' nx',nx≤nx'→(∀id,id<nx→H' id=H id)→K (dA (eI (sQ c s l))) H' nx'):aB Tryz.prog tV [dA (cU c),dA (eI s),dS (l.map eIn)] H nx K:=by
 refine aB.tW ?_
 refine QC rfl fun Q hQ=> ?_
 unfold xR
 repeat' (first| (with_reducible first| (refine hK _ _ _ ?_;clear hK K)| (refine hB ?_;clear hA hB A B)|refine Z1 ?_|refine Z2 ?_)| (first| (with_reducible first|refine Y2 fun K hK=> ?_|refine Y3 fun A B hA hB=> ?_)| (refine YT hb hcf hs hl hi ?_)| (refine fJ (hs.sz hb) (fun H' nx' nm cells hx hR hP ffr=> ?_)))<;>(simp only[go_sem,Nat.add_assoc,Nat.left_eq_add,Nat.add_eq_left])|fail)
 have hcl:cells.length=5:=by obtain⟨_,_,_,_,_,rfl,_⟩:=hR.ex;rfl
 have hrow:cells++List.drop cells.length [D1.osl 0 0 0 0 0,.osl 0 0 0 0 0,.osl 0 0 0 0 0,.osl 0 0 0 0 0,.osl 0 0 0 0 0]=cells:=by rw[hcl];simp
 refine⟨hcl,by omega,?_⟩
 rw[hrow]
 refine hK _ _ _ ?_
 clear hK K
 repeat' (first| (with_reducible first| (refine hK _ _ _ ?_;clear hK K)|refine Z1 ?_|refine Z3 fun KB hKB=> ?_)| (with_reducible refine Y2 fun K hK=> ?_)<;>(simp only[go_sem])|fail)
 (have hKX:=hKB;clear hKB)
 refine aM.TF fun G0 hG0=> ?_
 have gfr: ∀id,id<nx+3→G0 id=H' id:=fun id hid=>by
  rw[hG0,aA.aC (by omega)]
 have c0:G0 nx=some ⟨3,1,[cU c]⟩:=by rw[gfr _ (by omega),ffr _ (by omega)];simp only[aA.set,Nat.left_eq_add,Nat.reduceEqDiff,if_false,if_true,Nat.one_ne_zero,reduceIte]
 have c2:G0 (nx+2)=some ⟨5,1,[[.osl 0 0 0 0 0,.osl 0 0 0 0 0,.osl 0 0 0 0 0,.osl 0 0 0 0 0,.osl 0 0 0 0 0]]⟩:=by rw[gfr _ (by omega),ffr _ (by omega)];simp only[aA.set,Nat.add_left_cancel_iff,Nat.reduceEqDiff,Nat.add_eq_left,if_false,if_true,reduceIte]
 have glo: ∀id,id<nx→G0 id=H id:=fun id hid=>by
  rw[gfr _ (by omega),ffr _ (by omega)];simp only[aA.set,show ¬id=nx by omega,show ¬id=nx+1 by omega,show ¬id=nx+2 by omega,if_false]
 have gR:Rep (fun id=>id<nx+3) G0 nx' (nx+10) nm s:=by
  have hlo:=fun k hk=>hP.rng k hk
  refine⟨⟨cells,by rw[hG0];exact aA.bH,hR.frame fun k hk=>by have:=hlo k hk;rw[hG0,aA.aC (by omega)]⟩,⟨hP.inj,fun k hk=>by have:=hlo k hk;omega,fun k hk hn=>by have:=hlo k hk;omega⟩,fun k hk=>by have:=hlo k hk;omega,⟨by omega,by omega⟩,fun id hid=>by omega⟩
 clear hG0 hR hP ffr gfr
 refine aM.gP (β:=Nat×(Nat→Nat)) (fun u=>en [(20,dI u.1),(19,dI l.length),(18,dS (l.map eIn)),(7,.one (.c (.ptr 5 (nx+10) 0 0))),(6,.one (.c (.ptr 5 (nx+2) 0 0))),(3,.one (.c (.ptr 3 nx 0 0)))])
  (fun u H1 nx1=>u.1≤l.length∧Rep (fun id=>id<nx+3) H1 nx1 (nx+10) u.2 (sQ c s (l.take u.1))∧ ∀id,id<nx+3→H1 id=G0 id)
  (fun u=>l.length-u.1) (0,nm) ⟨noF,_,by repeat' (first| (with_reducible first|exact C1|refine C2 ?_ ?_)| ((with_reducible refine C0 ?_);exact CE (by omega) rfl)| ((with_reducible refine D0 ?_);first|exact CA rfl|refine CJ ?_)|fail),aK,by dsimp only;omega,gR.frame (by omega) rfl (fun _ _=>rfl) (fun id (hid:id<nx+3)=>⟨by omega,by omega,fun k hk he=>gR.names.av k hk (he▸hid)⟩),fun _ _=>rfl⟩ ?_
 rintro⟨k,nm1⟩ H1 nx1 hnx ⟨hk,hR,hfr⟩ KL hKL
 dsimp only at hk hR
 have g0:=(hfr nx (by omega)).trans c0
 have g2:=(hfr (nx+2) (by omega)).trans c2
 obtain⟨S,hSd⟩: ∃S,S=sQ c s (l.take k):=⟨_,rfl⟩
 have hS:COk c S:=by rw[hSd];exact(afM hb hs).1
 rw[←hSd] at hR
 have hi0:=hR.i0
 by_cases hlt:k<l.length
 ·obtain⟨i,hid⟩: ∃i,i=l.getD k default:=⟨_,rfl⟩
  have hii:vZ i:=by rw[hid];exact hi _ (cC hlt)
  have hA:bQ nx1 [nx]:=AM.apart (by simp) (by simp;omega)
  simp only[bQ,eZ] at hA
  repeat' (first| (with_reducible first| (refine hK _ _ _ ?_;clear hK K)| (refine hA ?_;clear hA hB A B)|refine Z1 ?_|refine Z2 ?_|refine Z3 fun KB hKB=> ?_|refine Z4 (by omega) ?_)| (with_reducible first|refine Y2 fun K hK=> ?_|refine Y3 fun A B hA hB=> ?_)<;>(simp only[go_sem,Nat.add_assoc,Nat.left_eq_add,hid.symm,g0,hA])|refine⟨by omega,?_⟩|fail)
  have hnm1:=hR.names.lt
  refine tX (X:=fun id=>id<nx+3) hb hS hii (hR.frame (by omega) (aA.aC (by omega)) (fun k hk=>aA.aC (by have:=hnm1 k hk;omega)) fun id hid2=>⟨by omega,by omega,fun k hk he=>hR.names.av k hk (he▸hid2)⟩) fun H2 nx2 nm2 a b d e hx2 hR2 hX2=> ?_
  have ffr: ∀id,id<nx+3→H2 id=G0 id:=fun id hid=>by rw[hX2 id hid,aA.aC (by omega)];exact hfr id hid
  have hSe:sQ c s (l.take (k+1))=vF c i S:=by rw[agA hlt,←hSd,←hid]
  simp only[go_sem]
  repeat' (first| (with_reducible (refine hK _ _ _ ?_;clear hK K))| (with_reducible refine Y2 fun K hK=> ?_)<;>(simp only[go_sem];try simp (disch:=omega) only[Iw])| ((with_reducible refine Y0 ?_);simp only[AQ.then,AQ.blk])| (with_reducible refine hKB _ _ _ ?_)|fail)
  exact hKL _ _ _ (k+1,nm2) noF _ (by omega) (by dsimp only;omega) (by repeat' (first| (with_reducible first|exact C1|refine C2 ?_ ?_)| ((with_reducible refine C0 ?_);exact CE (by omega) rfl)| ((with_reducible refine D0 ?_);first|exact CA rfl|refine CJ ?_)|fail)) aK ⟨by dsimp only;omega,by dsimp only;rw[hSe];exact hR2.frame (by omega) rfl (fun _ _=>rfl) (fun id hid=>⟨by omega,by omega,fun k hk he=>hR2.names.av k hk (he▸hid)⟩),ffr⟩
 ·have hSe:S=sQ c s l:=by rw[hSd,List.take_of_length_le (by omega)]
  obtain⟨cells2,hst,hRL⟩:=hR.st
  obtain⟨wc,hc,pc,vc,tc,hce,_⟩:=hRL.ex
  have hst2:=hst
  rw[hce] at hst2
  unfold U2 at hst2
  repeat' (first| (with_reducible first| (refine hK _ _ _ ?_;clear hK K)| (refine hB ?_;clear hA hB A B)|refine Z1 ?_|refine Z5 (by omega) ?_|refine hKX _ _ _ ?_)| (with_reducible first|refine Y2 fun K hK=> ?_|refine Y3 fun A B hA hB=> ?_)<;>(simp only[go_sem,hst2])| ((with_reducible refine Y9 ?_);try simp only[AQ.then,AQ.blk,reduceIte,Nat.reduceEqDiff])|fail)
  have hn1:=hR.names.lt
  refine aB.ao4 (args':=[dA (eI S)]) (without (fun j=>∃k,k<19∧j=nm1 k) H1) (fun j=>∃k,k<19∧j=nm1 k) rfl (fun i d0 d h1 h2=> ?_) kS ?_
  ·match i with
   |0=>
    simp only[List.getElem?_cons_zero,Option.some.injEq] at h1 h2
    subst h1;subst h2
    have:=A8 (σ:=id) (nh:=nx1+4) (hRL.VI (F:=fun j=>∃k,k<19∧j=nm1 k) (fun k hk=>⟨k,hk,rfl⟩) hS.pl hS.sl)
    rw[hce] at this
    exact lY this
   |i+1=>simp at h1
  refine fJ (hS.sz hb) fun H2 nx2 nm2 cells3 hx2 hR3 hP3 ffr3=> ?_
  have hcl3:cells3.length=5:=by obtain⟨_,_,_,_,_,rfl,_⟩:=hR3.ex;rfl
  have hrow3:cells3++List.drop cells3.length [D1.osl 0 0 0 0 0,.osl 0 0 0 0 0,.osl 0 0 0 0 0,.osl 0 0 0 0 0,.osl 0 0 0 0 0]=cells3:=by rw[hcl3];simp
  have e2:H2 (nx+2)=some ⟨5,1,[[.osl 0 0 0 0 0,.osl 0 0 0 0 0,.osl 0 0 0 0 0,.osl 0 0 0 0 0,.osl 0 0 0 0 0]]⟩:=by
   rw[ffr3 _ (by omega),iI (fun⟨k,hk,he⟩=>hR.names.av k hk (show nm1 k<nx+3 by omega))];exact g2
  simp only[go_sem,e2]
  refine⟨hcl3,by omega,?_⟩
  rw[hrow3]
  refine hK _ _ _ ?_
  clear hK K
  repeat' (first| ((with_reducible refine Y8 ?_);try simp only[AQ.then,AQ.blk,reduceIte,Nat.reduceEqDiff])|fail)
  refine hQ _ _ _ _ _ (.inr rfl) (fZ rfl aA.bH hcl3) ⟨dA (eI (sQ c s l)),_,fun j=>∃k,k<19∧j=nm2 k,?_,kS,h _ _ (by omega) fun id hid=> ?_⟩
  ·rw[←hSe]
   exact lY (A8 ((hR3.frame fun k hk=>aA.aC (by have:=hP3.rng k hk;omega)).VI (fun k hk=>⟨k,hk,rfl⟩) hS.pl hS.sl))
  ·rw[iI (fun⟨k,hk,he⟩=>by have:=hP3.rng k hk;omega),aA.aC (by omega),ffr3 _ (by omega),iI (fun⟨k,hk,he⟩=>hR.names.av k hk (show nm1 k<nx+3 by omega)),hfr id (by omega)]
   exact glo id hid
end
end Go.Proofs.YtegiblhkjfiooaaGreat
end
section
namespace Go.Proofs.YtegiblhkjfiooaaGreat
open Go Go.AM
set_option maxRecDepth 100000
set_option maxHeartbeats 8000000
section
variable {H : aA} {nx : Nat} {K : D → aA → Nat → Prop}
theorem UC (h: ∀H' nx',nx≤nx'→(∀id,id<nx→H' id=H id)→K (dA (eI HY)) H' nx'):aB Tryz.prog AA [] H nx K:=by
 refine aB.tW ?_
 refine SZ rfl fun Q hQ=> ?_
 unfold w7
 have hsz:CSz HY:=⟨rfl,rfl,by simp[HY],by simp[HY],⟨by simp[HY],fun j hj=>by simp[HY] at hj⟩,fun k hk=>by rw[MX hk];simp,fun k hk=>by rw[K4 hk];simp⟩
 generalize hs:HY=s0 at*
 obtain⟨w0,hw0⟩: ∃w0,w0=List.replicate 64 (0:Int):=⟨_,rfl⟩
 obtain⟨w1,hw1⟩: ∃w1,w1=List.replicate 6 (-1:Int):=⟨_,rfl⟩
 have han: ∀{H:aA} {nx:Nat} {K:D→aA→Nat→Prop},K (dA [.osl 1 nx 0 64 64,.osl 1 (nx+1) 0 6 6]) ((H.set nx ⟨1,64,w0.map aJ⟩).set (nx+1) ⟨1,6,w1.map aJ⟩) (nx+2)→aB Tryz.prog n8 [] H nx K:=fun h=>QG (by rw[hw0,hw1] at h;exact h)
 have hl0:w0.length=64:=by rw[hw0];rfl
 have hl1:w1.length=6:=by rw[hw1];rfl
 have e1:s0.words=w0:=by rw[←hs,hw0];rfl
 have e2:s0.holds=w1:=by rw[←hs,hw1];rfl
 obtain⟨p0,hp0⟩: ∃p0:fR,p0=⟨0,[],[],3⟩:=⟨_,rfl⟩
 obtain⟨v0,hv0⟩: ∃v0:nY,v0=⟨[],[],2⟩:=⟨_,rfl⟩
 have e3:s0.bM=List.replicate 3 p0:=by rw[←hs,hp0];rfl
 have e4:s0.dD=List.replicate 4 v0:=by rw[←hs,hv0];rfl
 have e5:s0.told=[]:=by rw[←hs];rfl
 clear hw0 hw1
 repeat' (first| (with_reducible first| (refine hK _ _ _ ?_;clear hK K)|refine Z1 ?_|refine Z3 fun KB hKB=> ?_)| (first| (with_reducible refine Y2 fun K hK=> ?_)| (refine han ?_))<;>(simp only[go_sem,Nat.add_assoc,Nat.left_eq_add,Nat.add_eq_left])|fail)
 (have hKX:=hKB;clear hKB)
 refine aM.EJ 4 ?_
 refine aM.EJ 3 ?_
 refine aM.tW _ _ noF (fun t=>.inl rfl) (KO (i:=nx+3) (o:=⟨5,1,[[.osl 1 (nx+5) 0 64 64,.osl 1 (nx+6) 0 6 6,.osl 0 0 0 0 0,.osl 0 0 0 0 0,.osl 0 0 0 0 0]]⟩) (o':=⟨5,1,[[.osl 1 (nx+5) 0 64 64,.osl 1 (nx+6) 0 6 6,.osl 4 (nx+8) 0 0 0,.osl 3 (nx+9) 0 0 0,.osl 0 0 0 0 0]]⟩) (by simp only[aA.set,Nat.add_assoc,Nat.add_left_cancel_iff,Nat.reduceEqDiff,Nat.reduceAdd,if_false,if_true]) (aP (aH (.osl _ _ _ _ _ (by omega)) (aH (.osl _ _ _ _ _ (by omega)) (aH (.VS ..) (aH (.VS ..) (aH (.VS ..) eP))))))) ?_
 refine aM.TF fun G0 hG0=> ?_
 have c0:G0 nx=some ⟨5,1,[[.osl 0 0 0 0 0,.osl 0 0 0 0 0,.osl 0 0 0 0 0,.osl 0 0 0 0 0,.osl 0 0 0 0 0]]⟩:=by rw[hG0];simp only[aA.set,Nat.add_assoc,Nat.add_left_cancel_iff,Nat.reduceEqDiff,Nat.reduceAdd,Nat.left_eq_add,if_false,if_true]
 have c3:G0 (nx+3)=some ⟨5,1,[[.osl 1 (nx+5) 0 64 64,.osl 1 (nx+6) 0 6 6,.osl 4 (nx+8) 0 0 0,.osl 3 (nx+9) 0 0 0,.osl 0 0 0 0 0]]⟩:=by rw[hG0];exact aA.bH
 have c5:G0 (nx+5)=some ⟨1,64,w0.map aJ⟩:=by rw[hG0];simp only[aA.set,Nat.add_assoc,Nat.add_left_cancel_iff,Nat.reduceEqDiff,Nat.reduceAdd,Nat.left_eq_add,if_false,if_true]
 have c6:G0 (nx+6)=some ⟨1,6,w1.map aJ⟩:=by rw[hG0];simp only[aA.set,Nat.add_assoc,Nat.add_left_cancel_iff,Nat.reduceEqDiff,Nat.reduceAdd,Nat.left_eq_add,if_false,if_true]
 have c8:G0 (nx+8)=some ⟨4,0,[]⟩:=by rw[hG0];simp only[aA.set,Nat.add_assoc,Nat.add_left_cancel_iff,Nat.reduceEqDiff,Nat.reduceAdd,Nat.left_eq_add,if_false,if_true]
 have c9:G0 (nx+9)=some ⟨3,0,[]⟩:=by rw[hG0];simp only[aA.set,Nat.add_assoc,Nat.add_left_cancel_iff,Nat.reduceEqDiff,Nat.reduceAdd,Nat.left_eq_add,if_false,if_true]
 have cfr: ∀id,id<nx→G0 id=H id:=fun id hid=>by
  rw[hG0];simp only[aA.set,Nat.add_assoc,Nat.reduceAdd,show ¬id=nx by omega,show ¬id=nx+3 by omega,show ¬id=nx+5 by omega,show ¬id=nx+6 by omega,show ¬id=nx+8 by omega,show ¬id=nx+9 by omega,if_false]
 clear hG0
 refine aM.gP (β:=Nat×Nat×Nat) (fun u=>en [(4,dI u.1),(1,.one (.c (.ptr 5 (nx+3) 0 0))),(0,.one (.c (.ptr 5 nx 0 0)))])
  (fun u H1 nx1=>u.1≤3∧H1 (nx+3)=some ⟨5,1,[[.osl 1 (nx+5) 0 64 64,.osl 1 (nx+6) 0 6 6,.osl 4 u.2.1 0 u.1 u.2.2,.osl 3 (nx+9) 0 0 0,.osl 0 0 0 0 0]]⟩∧(∃mp,H1 u.2.1=some ⟨4,mp,(List.replicate u.1 p0).map cD⟩∧u.1≤u.2.2∧u.2.2≤mp)∧(nx+8≤u.2.1∧u.2.1<nx1∧u.2.1≠nx+9)∧ ∀id,id<nx+10→id≠nx+3→id≠nx+8→H1 id=G0 id)
  (fun u=>3-u.1) (0,nx+8,0) ⟨noF,_,by repeat' (first| (with_reducible first|exact C1|refine C2 ?_ ?_)| ((with_reducible refine C0 ?_);exact CE (by omega) rfl)| ((with_reducible refine D0 ?_);first|exact CA rfl|refine CJ ?_)|fail),aK,by dsimp only;omega,c3,⟨0,c8,Nat.le_refl _,Nat.le_refl _⟩,by dsimp only;omega,fun _ _ _ _=>rfl⟩ ?_
 rintro⟨k,ip,cp⟩ H1 nx1 hnx ⟨hk,aAD,⟨mp,ap,ap1,ap2⟩,aa,hfr⟩ KL hKL
 dsimp only at hk aAD ap ap1 ap2 aa
 have hA:bQ nx1 [nx,nx+3,nx+9,ip]:=AM.apart (by simp;omega) (by simp;omega)
 simp only[bQ,eZ] at hA
 by_cases hlt:k<3
 ·obtain⟨P,hP⟩: ∃P,P=List.replicate k p0:=⟨_,rfl⟩
  have hPl:P.length=k:=by rw[hP];simp
  rw[←hP] at ap
  rw[←hPl] at aAD
  repeat' (first| (with_reducible first| (refine hK _ _ _ ?_;clear hK K)| (refine hA ?_;clear hA hB A B)|refine Z1 ?_|refine Z2 ?_|refine Z3 fun KB hKB=> ?_|refine Z4 (by omega) ?_|refine fun(cap:Nat) (hcap:_≤cap)=> ?_|refine fun(hcp:_≤cap)=> ?_)| (with_reducible first|refine Y2 fun K hK=> ?_|refine Y3 fun A B hA hB=> ?_)<;>(simp only[go_sem,Nat.add_assoc,Nat.left_eq_add,Nat.add_eq_left,aAD,ap,hA,List.set];try simp (disch:=omega) only[Iw])| ((with_reducible refine Y0 ?_);simp only[AQ.then,AQ.blk])|refine⟨by omega,?_⟩| (with_reducible refine hKB _ _ _ ?_)|fail)
  have hre:List.replicate (k+1) p0=P++[p0]:=by rw[hP,List.replicate_succ']
  refine af0 (K:=KL) fun G hG=> ?_
  refine hKL _ _ _ (k+1,nx1+5,cap) noF _ (by omega) (by dsimp only;omega) (by repeat' (first| (with_reducible first|exact C1|refine C2 ?_ ?_)| ((with_reducible refine C0 ?_);exact CE (by omega) rfl)| ((with_reducible refine D0 ?_);first|exact CA rfl|refine CJ ?_)|fail)) (KO (i:=nx1+5) (o':=⟨4,cap,(P++[p0]).map cD⟩) (by rw[hG,aA.aC (by omega)];exact aA.bH) (uO (R:=P.map cD) (r':=cD p0) (by rw[List.map_append];rfl) rfl (fun r hr=>(aG t7 _ r hr).2) rfl (by rw[hp0];exact aH (bB rfl) (aH (.frz (.nil ..)) (aH (.frz (.nil ..)) (aH (bB rfl) eP)))))) ⟨by dsimp only;omega,?_,⟨cap,by dsimp only;rw[hre];exact aA.bH,by dsimp only;omega,Nat.le_refl _⟩,by dsimp only;omega,fun id f0 f1 f2=> ?_⟩
  ·dsimp only
   rw[aA.aC (by omega),hG,aA.bH,hPl]
  ·rw[aA.aC (by omega),hG,aA.aC f1,aA.aC (by omega),aA.aC (by omega),aA.jG (by omega)]
   exact hfr id f0 f1 f2
 ·repeat' (first| (with_reducible first| (refine hK _ _ _ ?_;clear hK K)| (refine hB ?_;clear hA hB A B)|refine Z1 ?_|refine Z3 fun KB hKB=> ?_|refine Z5 (by omega) ?_|refine hKX _ _ _ ?_)| (with_reducible first|refine Y2 fun K hK=> ?_|refine Y3 fun A B hA hB=> ?_)<;>(simp only[go_sem])| ((with_reducible refine Y9 ?_);try simp only[AQ.then,AQ.blk,reduceIte,Nat.reduceEqDiff])|fail)
  have hk3:k=3:=by omega
  subst hk3
  have b9:=(hfr (nx+9) (by omega) (by omega) (by omega)).trans c9
  clear hA
  (have hKY:=hKB;clear hKB)
  refine aM.gP (β:=Nat×Nat×Nat) (fun u=>en [(13,dI u.1),(1,.one (.c (.ptr 5 (nx+3) 0 0))),(0,.one (.c (.ptr 5 nx 0 0)))])
   (fun u H2 nx2=>u.1≤4∧H2 (nx+3)=some ⟨5,1,[[.osl 1 (nx+5) 0 64 64,.osl 1 (nx+6) 0 6 6,.osl 4 ip 0 3 cp,.osl 3 u.2.1 0 u.1 u.2.2,.osl 0 0 0 0 0]]⟩∧(∃mp,H2 u.2.1=some ⟨3,mp,(List.replicate u.1 v0).map gF⟩∧u.1≤u.2.2∧u.2.2≤mp)∧(nx+8≤u.2.1∧u.2.1<nx2∧u.2.1≠ip)∧H2 ip=some ⟨4,mp,(List.replicate 3 p0).map cD⟩∧ ∀id,id<nx+8→id≠nx+3→H2 id=G0 id)
   (fun u=>4-u.1) (0,nx+9,0) ⟨noF,_,by repeat' (first| (with_reducible first|exact C1|refine C2 ?_ ?_)| ((with_reducible refine C0 ?_);exact CE (by omega) rfl)| ((with_reducible refine D0 ?_);first|exact CA rfl|refine CJ ?_)|fail),aK,by dsimp only;omega,aAD,⟨0,b9,Nat.le_refl _,Nat.le_refl _⟩,by dsimp only;omega,ap,fun id f0 f1=>hfr id (by omega) f1 (by omega)⟩ ?_
  rintro⟨k,iv,cv⟩ H2 nx2 hnx2 ⟨hk,b3,⟨mv,bp,bp1,bp2⟩,ba,bip,hfr2⟩ KM hKM
  dsimp only at hk b3 bp bp1 bp2 ba
  have hA2:bQ nx2 [nx,nx+3,ip,iv]:=AM.apart (by simp;omega) (by simp;omega)
  simp only[bQ,eZ] at hA2
  by_cases hlt:k<4
  ·obtain⟨P,hP⟩: ∃P,P=List.replicate k v0:=⟨_,rfl⟩
   have hPl:P.length=k:=by rw[hP];simp
   rw[←hP] at bp
   rw[←hPl] at b3
   repeat' (first| (with_reducible first| (refine hK _ _ _ ?_;clear hK K)| (refine hA ?_;clear hA hB A B)|refine Z1 ?_|refine Z2 ?_|refine Z3 fun KB hKB=> ?_|refine Z4 (by omega) ?_|refine fun(cap:Nat) (hcap:_≤cap)=> ?_|refine fun(hcp:_≤cap)=> ?_)| (with_reducible first|refine Y2 fun K hK=> ?_|refine Y3 fun A B hA hB=> ?_)<;>(simp only[go_sem,Nat.add_assoc,Nat.left_eq_add,Nat.add_eq_left,b3,bp,hA2,List.set];try simp (disch:=omega) only[Iw])| ((with_reducible refine Y0 ?_);simp only[AQ.then,AQ.blk])|refine⟨by omega,?_⟩| (with_reducible refine hKB _ _ _ ?_)|fail)
   have hre:List.replicate (k+1) v0=P++[v0]:=by rw[hP,List.replicate_succ']
   refine af0 (K:=KM) fun G hG=> ?_
   refine hKM _ _ _ (k+1,nx2+5,cap) noF _ (by omega) (by dsimp only;omega) (by repeat' (first| (with_reducible first|exact C1|refine C2 ?_ ?_)| ((with_reducible refine C0 ?_);exact CE (by omega) rfl)| ((with_reducible refine D0 ?_);first|exact CA rfl|refine CJ ?_)|fail)) (KO (i:=nx2+5) (o':=⟨3,cap,(P++[v0]).map gF⟩) (by rw[hG,aA.aC (by omega)];exact aA.bH) (uO (R:=P.map gF) (r':=gF v0) (by rw[List.map_append];rfl) rfl (fun r hr=>(aG zJ _ r hr).2) rfl (by rw[hv0];exact aH (.frz (.nil ..)) (aH (.frz (.nil ..)) (aH (bB rfl) eP))))) ⟨by dsimp only;omega,?_,⟨cap,by dsimp only;rw[hre];exact aA.bH,by dsimp only;omega,Nat.le_refl _⟩,by dsimp only;omega,?_,fun id f0 f1=> ?_⟩
   ·dsimp only
    rw[aA.aC (by omega),hG,aA.bH,hPl]
   ·rw[aA.aC (by omega),hG,aA.aC (by omega),aA.aC (by omega),aA.aC (by omega),aA.jG (by omega)]
    exact bip
   ·rw[aA.aC (by omega),hG,aA.aC f1,aA.aC (by omega),aA.aC (by omega),aA.jG (by omega)]
    exact hfr2 id f0 f1
  ·have hk4:k=4:=by omega
   subst hk4
   repeat' (first| (with_reducible first| (refine hK _ _ _ ?_;clear hK K)| (refine hB ?_;clear hA hB A B)|refine Z1 ?_|refine Z5 (by omega) ?_|refine hKY _ _ _ ?_)| (with_reducible first|refine Y2 fun K hK=> ?_|refine Y3 fun A B hA hB=> ?_)<;>(simp only[go_sem,b3])| ((with_reducible refine Y9 ?_);try simp only[AQ.then,AQ.blk,reduceIte,Nat.reduceEqDiff])|fail)
   have f5:=(hfr2 (nx+5) (by omega) (by omega)).trans c5
   have f6:=(hfr2 (nx+6) (by omega) (by omega)).trans c6
   have f0:=(hfr2 nx (by omega) (by omega)).trans c0
   refine aB.ao4 (args':=[dA (eI s0)]) (without (fun j=>j=nx+5∨j=nx+6∨j=ip∨j=iv) H2) (fun j=>j=nx+5∨j=nx+6∨j=ip∨j=iv) rfl (fun i d0 d h1 h2=> ?_) kS ?_
   ·match i with
    |0=>
     simp only[List.getElem?_cons_zero,Option.some.injEq] at h1 h2
     subst h1;subst h2
     have heS:eI s0=[.isl (w0.map aJ),.isl (w1.map aJ),.isl ((List.replicate 3 p0).map cD),.isl ((List.replicate 4 v0).map gF),.isl []]:=by
      unfold eI;rw[e1,e2,e3,e4,e5];rfl
     rw[heS]
     exact lY (aH (bW bF f5 hl0.symm (by omega) (.inl rfl)) (aH (bW bF f6 hl1.symm (by omega) (.inr (.inl rfl))) (aH (bW t7 bip (by simp) (by simp;omega) (.inr (.inr (.inl rfl)))) (aH (bW zJ bp (by simp) (by simp;omega) (.inr (.inr (.inr rfl)))) (aH (.frz (.nil ..)) eP)))))
    |i+1=>simp at h1
   refine fJ hsz fun H3 nx3 nm3 cells3 hx3 hR3 hP3 ffr3=> ?_
   have hcl3:cells3.length=5:=by obtain⟨_,_,_,_,_,rfl,_⟩:=hR3.ex;rfl
   have hrow3:cells3++List.drop cells3.length [D1.osl 0 0 0 0 0,.osl 0 0 0 0 0,.osl 0 0 0 0 0,.osl 0 0 0 0 0,.osl 0 0 0 0 0]=cells3:=by rw[hcl3];simp
   have g0:H3 nx=some ⟨5,1,[[.osl 0 0 0 0 0,.osl 0 0 0 0 0,.osl 0 0 0 0 0,.osl 0 0 0 0 0,.osl 0 0 0 0 0]]⟩:=by
    rw[ffr3 _ (by omega),iI (by omega)];exact f0
   simp only[go_sem,g0]
   refine⟨hcl3,by omega,?_⟩
   rw[hrow3]
   refine hK _ _ _ ?_
   clear hK K
   repeat' (first| ((with_reducible refine Y8 ?_);try simp only[AQ.then,AQ.blk,reduceIte,Nat.reduceEqDiff])|fail)
   refine hQ _ _ _ _ _ (.inr rfl) (fZ rfl aA.bH hcl3) ⟨dA (eI s0),_,fun j=>∃k,k<19∧j=nm3 k,?_,kS,h _ _ (by omega) fun id hid=> ?_⟩
   ·exact lY (A8 ((hR3.frame fun k hk=>aA.aC (by have:=hP3.rng k hk;omega)).VI (fun k hk=>⟨k,hk,rfl⟩) hsz.pl hsz.sl))
   ·rw[iI (fun⟨k,hk,he⟩=>by have:=hP3.rng k hk;omega),aA.aC (by omega),ffr3 _ (by omega),iI (by omega),hfr2 id (by omega) (by omega)]
    exact cfr id hid
end
end Go.Proofs.YtegiblhkjfiooaaGreat
end
section
namespace Go.Proofs.YtegiblhkjfiooaaGreat
open Go Go.AM
set_option maxRecDepth 100000
set_option maxHeartbeats 8000000
def GA (c:Cfg) (k:Nat):Int:=(c.cP.getD k default).length
theorem OO:cJ Tryz.prog xJ Tryz.f18 uZ D2:=cJ.mk Tryz.func18 (by kernel_rfl) O6
section
variable {H : aA} {nx : Nat} {K : D → aA → Nat → Prop}
theorem RV (c:Cfg) (s:CSt) (hb:aQ c) (hcf:jO c) (hs:COk c s):aB Tryz.prog xJ [dA (cU c),dA (eI s)] .nil 0 fun r _ _=>r.plain=true∧r=dB (decide ((s.told.length:Int)=jS (GA c) 3)):=by
 have hpl:=(hC hb).1
 refine OO rfl fun Q hQ=> ?_
 unfold uZ
 repeat' (first| (with_reducible first| (refine hK _ _ _ ?_;clear hK K)| (refine hB ?_;clear hA hB A B)|refine Z1 ?_|refine Z2 ?_|refine Z3 fun KB hKB=> ?_)| (first| (with_reducible first|refine Y2 fun K hK=> ?_|refine Y3 fun A B hA hB=> ?_)| (refine C5 hb hcf hs ?_))<;>(simp only[go_sem,hpl])|fail)
 (have hKX:=hKB;clear hKB)
 refine aM.abC fun G0 hG0=> ?_
 have c0:G0 0=some ⟨3,1,[cU c]⟩:=by rw[hG0];rfl
 have c1:G0 1=some ⟨5,1,[eI s]⟩:=by rw[hG0];rfl
 clear hG0
 refine aM.gP (β:=Nat) (fun k=>en [(15,dI k),(14,dI 3),(13,dS (c.cP.map jR)),(5,dI (jS (GA c) k)),(3,.one (.c (.ptr 5 1 0 0)))])
  (fun k H1 _=>k≤3∧ ∀id,id<2→H1 id=G0 id) (fun k=>3-k) 0 ⟨noF,_,by repeat' (first| (with_reducible first|exact C1|refine C2 ?_ ?_)| ((with_reducible refine C0 ?_);exact CE (by omega) rfl)| ((with_reducible refine D0 ?_);first|exact CA rfl|refine CJ ?_)|fail),aK,by omega,fun _ _=>rfl⟩ ?_
 rintro k H1 nx1 hnx ⟨hk,hfr⟩ KL hKL
 have g0:=(hfr 0 (by omega)).trans c0
 have g1:=(hfr 1 (by omega)).trans c1
 have hs1:=KF (f:=GA c) (m:=12) (by omega) k fun j hj=>by have:=(hC hb).2 j;unfold GA;omega
 by_cases hlt:k<3
 ·have hsum:jS (GA c) (k+1)=jS (GA c) k+(c.cP.getD k default).length:=by rw[jS,GA]
  have hple:=(hC hb).2 k
  repeat' (first| (with_reducible first| (refine hK _ _ _ ?_;clear hK K)| (refine hA ?_;clear hA hB A B)|refine Z1 ?_|refine Z2 ?_|refine Z3 fun KB hKB=> ?_|refine Z4 (by omega) ?_)| (with_reducible first|refine Y2 fun K hK=> ?_|refine Y3 fun A B hA hB=> ?_)<;>(simp only[go_sem,g0,g1];try simp (disch:=omega) only[Iw])| ((with_reducible refine Y0 ?_);simp only[AQ.then,AQ.blk])|refine⟨by omega,?_⟩| (with_reducible refine hKB _ _ _ ?_)|fail)
  exact hKL _ _ _ (k+1) noF _ (by omega) (by omega) (by rw[hsum];repeat' (first| (with_reducible first|exact C1|refine C2 ?_ ?_)| ((with_reducible refine C0 ?_);exact CE (by omega) rfl)| ((with_reducible refine D0 ?_);first|exact CA rfl|refine CJ ?_)|fail)) aK ⟨by omega,hfr⟩
 ·have hk3:k=3:=by omega
  subst hk3
  repeat' (first| (with_reducible first| (refine hK _ _ _ ?_;clear hK K)| (refine hB ?_;clear hA hB A B)|refine Z1 ?_|refine Z5 (by omega) ?_|refine hKX _ _ _ ?_)| (with_reducible first|refine Y2 fun K hK=> ?_|refine Y3 fun A B hA hB=> ?_)<;>(simp only[go_sem,g0,g1])| ((with_reducible first|refine Y8 ?_|refine Y9 ?_);try simp only[AQ.then,AQ.blk,reduceIte,Nat.reduceEqDiff])|fail)
  exact hQ _ _ _ _ _ (.inr rfl) rfl ⟨rfl,rfl⟩
theorem ak3 {c:Cfg} {s:CSt} (hb:aQ c) (hcf:jO c) (hs:COk c s) (h:K (dB (decide ((s.told.length:Int)=jS (GA c) 3))) H nx):aB Tryz.prog xJ [dA (cU c),dA (eI s)] H nx K:=
 (RV c s hb hcf hs).pure rfl (aI ⟨aE rfl,aE rfl,trivial⟩) fun r hr=>hr▸h
end
end Go.Proofs.YtegiblhkjfiooaaGreat
end
section
namespace Go.Proofs.YtegiblhkjfiooaaGreat
open Go Go.AM
set_option maxRecDepth 100000
set_option maxHeartbeats 8000000
section
variable {H : aA} {nx : Nat} {K : D → aA → Nat → Prop}
end
end Go.Proofs.YtegiblhkjfiooaaGreat
end
