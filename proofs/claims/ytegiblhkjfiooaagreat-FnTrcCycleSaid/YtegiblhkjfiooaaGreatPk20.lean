/- Texts laid together by a program: rules, contracts and the walk that leads to the law. -/
import Derived.Test.YtegiblhkjfiooaaGreatPk16
import Derived.Test.YtegiblhkjfiooaaGreatPk19
import Derived.Test.YtegiblhkjfiooaaGreatPk15
import Derived.Test.YtegiblhkjfiooaaGreatPk3
import Derived.Test.YtegiblhkjfiooaaGreatPk11
import Derived.Test.YtegiblhkjfiooaaGreatPk12
import Derived.Test.YtegiblhkjfiooaaGreatPk9
set_option linter.unusedVariables false
set_option linter.unusedSimpArgs false
set_option linter.unusedSectionVars false
section
namespace Go.AM
def sL (f:Nat→Int):Nat→Int
 |0=>0
 |n+1=>sL f n+f n
theorem QX {f:Nat→Int} {m:Int} (h0:0≤m): ∀n,(∀k,k<n→0≤f k∧f k≤m)→0≤sL f n∧sL f n≤m*n
 |0,_=>by simp[sL]
 |n+1,h=>by
  have h1:=QX h0 n fun k hk=>h k (by omega)
  have h2:=h n (by omega)
  have h3:m*((n+1:Nat):Int)=m*n+m:=by push_cast;rw[Int.mul_add,Int.mul_one]
  simp only[sL]
  omega
def CO (i:CIn):Prop:=i.ready.length=3∧i.xX.length=4∧i.send.length=3
end Go.AM
namespace Go.Proofs.YtegiblhkjfiooaaGreat
open Go Go.AM
set_option maxRecDepth 100000
set_option maxHeartbeats 8000000
theorem UY:d8 Tryz.prog yE Tryz.f22 BN JG:=d8.mk Tryz.func22 (by kernel_rfl) V4
section
variable {H : aA} {nx : Nat} {K : D → aA → Nat → Prop}
theorem YB (c:Cfg) (s:CSt) (hb:aY c) (hcf:kC c) (hs:COk c s):aB Tryz.prog yE [dA (cH c),dA (lD s)] .nil 0 fun r _ _=>r.plain=true∧r=dB true:=by
 have hpl:=hs.pl
 have hsl:=hs.sl
 obtain⟨hwl,_,hhl,_⟩:=hs.atm
 have hat:=decide_eq_true (aa1 hs.atm)
 have hbt:=decide_eq_true hb
 refine UY rfl fun Q hQ=> ?_
 unfold BN
 repeat' (first| (with_reducible first| (refine hK _ _ _ ?_;clear hK K)| (refine hB ?_;clear hA hB A B)|refine Z1 ?_|refine Z2 ?_|refine Z3 fun KB hKB=> ?_|refine Z5 (by omega) ?_)| (first| (with_reducible first|refine Y2 fun K hK=> ?_|refine Y3 fun A B hA hB=> ?_|refine Y5 (by omega) ?_)| (refine EG hcf ?_)| (refine MF (by omega) (by omega) (aF rfl) ?_))<;>(simp only[go_sem,eq_true hb,hat,hbt,hpl,hsl])|fail)
 (have hKX:=hKB;clear hKB)
 refine aQ.ak5 fun G0 hG0=> ?_
 have c0:G0 0=some ⟨3,1,[cH c]⟩:=by rw[hG0];rfl
 have c1:G0 1=some ⟨5,1,[lD s]⟩:=by rw[hG0];rfl
 clear hG0
 obtain⟨fo,hfo⟩: ∃fo:Nat→Int,fo=fun k=>((aS s k).out.length:Int):=⟨_,rfl⟩
 obtain⟨fh,hfh⟩: ∃fh:Nat→Int,fh=fun k=>(((bA s k).pipe.length:Int)+(bA s k).done.length):=⟨_,rfl⟩
 refine aQ.iI (β:=Nat) (fun k=>en [(35,dI k),(34,dI 3),(33,dS (s.bS.map cD)),(6,dI 0),(5,dI (sL fo k)),(3,.one (.c (.ptr 5 1 0 0))),(2,.one (.c (.ptr 3 0 0 0)))])
  (fun k H1 _=>k≤3∧ ∀id,id<30→H1 id=G0 id) (fun k=>3-k) 0 ⟨noF,_,by repeat' (first| (with_reducible first|exact C1|refine C2 ?_ ?_)| ((with_reducible refine C0 ?_);exact CE (by omega) rfl)| ((with_reducible refine D0 ?_);first|exact CA rfl|refine CJ ?_)|fail),aL,by omega,fun _ _=>rfl⟩ ?_
 rintro k H1 nx1 hnx ⟨hk,hfr⟩ KL hKL
 have g0:=(hfr 0 (by omega)).trans c0
 have g1:=(hfr 1 (by omega)).trans c1
 have hA:bT nx1 [0,1]:=AM.apart (by simp) (by simp;omega)
 simp only[bT,fN] at hA
 have hs1:=QX (f:=fo) (m:=4) (by omega) k fun j hj=>by have:=(hs.port j (by omega)).ol;rw[hfo];dsimp only;omega
 by_cases hlt:k<3
 ·obtain⟨p,hpd⟩: ∃p,p=aS s k:=⟨_,rfl⟩
  have hpd':s.bS.getD k default=p:=hpd.symm
  have hpo:=hs.port k hlt
  rw[←hpd] at hpo
  have hol:=hpo.ol
  have hsum:sL fo (k+1)=sL fo k+p.out.length:=by rw[sL,hfo,hpd]
  have hKL1:=hKL
  repeat' (first| (with_reducible first| (refine hK _ _ _ ?_;clear hK K)| (refine hA ?_;clear hA hB A B)| (refine hB ?_;clear hA hB A B)|refine Z1 ?_|refine Z2 ?_|refine Z3 fun KB hKB=> ?_|refine Z4 (by omega) ?_)| (first| (with_reducible first|refine Y2 fun K hK=> ?_|refine Y3 fun A B hA hB=> ?_)| (refine HL hb hlt hpo ?_))<;>(simp only[go_sem,Nat.add_assoc,Nat.left_eq_add,hpd',g0,g1,hA];try simp (disch:=omega) only[Iw])| ((with_reducible refine Y0 ?_);simp only[AQ.then,AQ.blk])|refine⟨by omega,?_⟩| (with_reducible refine hKB _ _ _ ?_)|fail)
  exact hKL _ _ _ (k+1) noF _ (by omega) (by omega) (by rw[hsum];repeat' (first| (with_reducible first|exact C1|refine C2 ?_ ?_)| ((with_reducible refine C0 ?_);exact CE (by omega) rfl)| ((with_reducible refine D0 ?_);first|exact CA rfl|refine CJ ?_)|fail)) aL ⟨by omega,fun id hid=>by rw[aA.aD (by omega)];exact hfr id hid⟩
 ·repeat' (first| (with_reducible first| (refine hK _ _ _ ?_;clear hK K)| (refine hB ?_;clear hA hB A B)|refine Z1 ?_|refine Z3 fun KB hKB=> ?_|refine Z5 (by omega) ?_|refine hKX _ _ _ ?_)| (with_reducible first|refine Y2 fun K hK=> ?_|refine Y3 fun A B hA hB=> ?_)<;>(simp only[go_sem,g0,g1,hsl])| ((with_reducible refine Y9 ?_);try simp only[AQ.then,AQ.blk,reduceIte,Nat.reduceEqDiff])|fail)
  have hk3:k=3:=by omega
  subst hk3
  (have hKY:=hKB;clear hKB)
  refine aQ.iI (β:=Nat) (fun k=>en [(54,dI k),(53,dI 4),(52,dS (s.eL.map gM)),(6,dI (sL fh k)),(5,dI (sL fo 3)),(3,.one (.c (.ptr 5 1 0 0))),(2,.one (.c (.ptr 3 0 0 0)))])
   (fun k H1 _=>k≤4∧ ∀id,id<30→H1 id=G0 id) (fun k=>4-k) 0 ⟨noF,_,by repeat' (first| (with_reducible first|exact C1|refine C2 ?_ ?_)| ((with_reducible refine C0 ?_);exact CE (by omega) rfl)| ((with_reducible refine D0 ?_);first|exact CA rfl|refine CJ ?_)|fail),aL,by omega,hfr⟩ ?_
  clear hfr g0 g1 hA
  rintro k H2 nx2 hnx2 ⟨hk,hfr⟩ KM hKM
  have g0:=(hfr 0 (by omega)).trans c0
  have g1:=(hfr 1 (by omega)).trans c1
  have hA:bT nx2 [0,1]:=AM.apart (by simp) (by simp;omega)
  simp only[bT,fN] at hA
  have hs2:=QX (f:=fh) (m:=4) (by omega) k fun j hj=>by have h1:=(hs.slv j (by omega)).pl;have h2:=(hs.slv j (by omega)).dl;rw[hfh];dsimp only;omega
  by_cases hlt:k<4
  ·obtain⟨v,hvd⟩: ∃v,v=bA s k:=⟨_,rfl⟩
   have hvd':s.eL.getD k default=v:=hvd.symm
   have hv1:=(hs.slv k hlt).pl
   have hv2:=(hs.slv k hlt).dl
   rw[←hvd] at hv1 hv2
   have hsum:sL fh (k+1)=sL fh k+(v.pipe.length+v.done.length):=by rw[sL,hfh,hvd]
   repeat' (first| (with_reducible first| (refine hK _ _ _ ?_;clear hK K)| (refine hA ?_;clear hA hB A B)| (refine hB ?_;clear hA hB A B)|refine Z1 ?_|refine Z2 ?_|refine Z3 fun KB hKB=> ?_|refine Z4 (by omega) ?_)| (first| (with_reducible first|refine Y2 fun K hK=> ?_|refine Y3 fun A B hA hB=> ?_)| (refine FI hb hs hlt ?_))<;>(simp only[go_sem,Nat.add_assoc,Nat.left_eq_add,hvd',g0,g1,hA];try simp (disch:=omega) only[Iw])| ((with_reducible refine Y0 ?_);simp only[AQ.then,AQ.blk])|refine⟨by omega,?_⟩| (with_reducible refine hKB _ _ _ ?_)|fail)
   exact hKM _ _ _ (k+1) noF _ (by omega) (by omega) (by rw[hsum];repeat' (first| (with_reducible first|exact C1|refine C2 ?_ ?_)| ((with_reducible refine C0 ?_);exact CE (by omega) rfl)| ((with_reducible refine D0 ?_);first|exact CA rfl|refine CJ ?_)|fail)) aL ⟨by omega,fun id hid=>by rw[aA.aD (by omega)];exact hfr id hid⟩
  ·have hk4:k=4:=by omega
   subst hk4
   have hct:sL fo 3=sL fh 4:=by
    have:=hs.count
    unfold kZ at this
    rw[hfo,hfh]
    simp only[sL]
    omega
   have hct':(sL fo 3=sL fh 4)=True:=eq_true hct
   repeat' (first| (with_reducible first| (refine hK _ _ _ ?_;clear hK K)| (refine hB ?_;clear hA hB A B)|refine Z1 ?_|refine Z5 (by omega) ?_|refine hKY _ _ _ ?_)| (first| (with_reducible first|refine Y2 fun K hK=> ?_|refine Y3 fun A B hA hB=> ?_)| (refine UG (c:=c) hb hs (fun H' nx' hx' ffr=> ?_)))<;>(simp only[go_sem,Nat.add_assoc,Nat.left_eq_add,g0,g1,hct',hA])| ((with_reducible refine Y9 ?_);try simp only[AQ.then,AQ.blk,reduceIte,Nat.reduceEqDiff])|fail)
   have e0:=(ffr 0 (by omega)).trans g0
   refine⟨fun _=>by rw[e0];rfl,?_⟩
   refine H7 hb hs.st ?_
   simp only[go_sem]
   repeat' (first| (with_reducible (refine hK _ _ _ ?_;clear hK K))| ((with_reducible refine Y8 ?_);try simp only[AQ.then,AQ.blk,reduceIte,Nat.reduceEqDiff])|fail)
   exact hQ _ _ _ _ _ (.inr rfl) rfl ⟨rfl,rfl⟩
theorem XQ {c:Cfg} {s:CSt} (hb:aY c) (hcf:kC c) (hs:COk c s) (h:K (dB true) H nx):aB Tryz.prog yE [dA (cH c),dA (lD s)] H nx K:=
 (YB c s hb hcf hs).pure rfl (aI ⟨aF rfl,aF rfl,trivial⟩) fun r hr=>hr▸h
theorem aaH (i:CIn) (hi:CO i):aB Tryz.prog AG [dA (eIn i)] .nil 0 fun rr _ _=>rr.plain=true∧rr=dB true:=by
 refine XV rfl fun Q hQ=> ?_
 unfold DY
 obtain⟨h1,h2,h3⟩:=hi
 have e1:((i.ready.length:Int)=3)=True:=eq_true (by omega)
 have e2:((i.xX.length:Int)=4)=True:=eq_true (by omega)
 have e3:((i.send.length:Int)=3)=True:=eq_true (by omega)
 have e4:decide ((i.send.length:Int)=3)=true:=by simp only[e3,decide_true]
 repeat' (first| (with_reducible first| (refine hK _ _ _ ?_;clear hK K)|refine Z1 ?_)| (with_reducible refine Y2 fun K hK=> ?_)<;>(simp only[go_sem,e1,e2,e3,e4])| ((with_reducible refine Y8 ?_);try simp only[AQ.then,AQ.blk,reduceIte,Nat.reduceEqDiff])|fail)
 all_goals first|with_reducible refine bJ hQ _ rfl rfl ?_|skip
 all_goals first|exact pF (by omega)|exact wT (by omega)|exact pO (by omega)|rfl
theorem ZC {i:CIn} (hi:CO i) (h:K (dB true) H nx):aB Tryz.prog AG [dA (eIn i)] H nx K:=
 (aaH i hi).pure rfl (aI ⟨aF rfl,trivial⟩) (fun r hr=>hr▸h)
theorem tW (l:List CIn) (f:FuncId) (caps:List D1) (p:CIn→Bool) (hl:l.length<2^40) (hc:caps.all D1.dT=true) (hf: ∀x∈l,∀(H:aA) (nx:Nat) (K:D→aA→Nat→Prop),K (dB (p x)) H nx→aB Tryz.prog f (dA (eIn x)::caps.map fun d=>.one (.c d)) H nx K):
 aB Tryz.prog dX [dS (l.map eIn),.one (.c (.clo f caps))] .nil 0 fun r _ _=>r.plain=true∧r=dI (aW p l):=by
 refine sB rfl fun Q hQ=> ?_
 unfold fS
 repeat' (first| (with_reducible first| (refine hK _ _ _ ?_;clear hK K)|refine Z1 ?_|refine Z3 fun KB hKB=> ?_)| (with_reducible refine Y2 fun K hK=> ?_)<;>(simp only[go_sem])|fail)
 (have hKX:=hKB;clear hKB);(refine aQ.loop (α:={k:Nat//k≤l.length∧(∀i,i<k→p (l.getD i default)=false)}) (fun u=>en [(8,dI u.1),(7,dI l.length),(1,.one (.c (.clo f caps))),(0,dS (l.map eIn))]) (fun _=>.nil) _ (fun u=>l.length-u.1) ⟨0,by omega,(by intros;first|trivial|omega)⟩ (dL (Nat.le_refl _) (by repeat' (first| (with_reducible first|exact C1|refine C2 ?_ ?_)| ((with_reducible refine C0 ?_);exact CH (by assumption))| ((with_reducible refine D0 ?_);first|exact CA rfl|refine CJ ?_)|fail))) ?_);(rintro⟨k,hk,hinv⟩ KL hKL)
 by_cases hlt:k<l.length
 ·have hmem:l.getD k default∈l:=by simp[List.getD,hlt]
  repeat' (first| (with_reducible first| (refine hK _ _ _ ?_;clear hK K)| (refine hA ?_;clear hA hB A B)| (refine hB ?_;clear hA hB A B)|refine Z1 ?_|refine Z2 ?_|refine Z3 fun KB hKB=> ?_|refine Z4 (by omega) ?_)| (first| (with_reducible first|refine Y2 fun K hK=> ?_|refine Y3 fun A B hA hB=> ?_)| (with_reducible refine hf _ hmem _ _ _ ?_))<;>(simp only[go_sem];try simp (disch:=omega) only[Iw])| ((with_reducible refine Y8 ?_);try simp only[AQ.then,AQ.blk,reduceIte,Nat.reduceEqDiff])| ((with_reducible refine Y0 ?_);simp only[AQ.then,AQ.blk])| ((with_reducible refine Z8 (fun h=> ?_) (fun h=> ?_))<;>try subst h)|refine⟨by omega,?_⟩| (with_reducible refine hKB _ _ _ ?_)|fail)
  ·refine bJ hQ _ rfl rfl (nQ (Eq.symm (AH (by omega) (by assumption) hinv)))
  · (refine hKL _ _ _ ⟨k+1,by omega,nG hinv (by assumption)⟩ (by omega) (by(try dsimp only);omega) (dL (Nat.le_refl _) (by repeat' (first| (with_reducible first|exact C1|refine C2 ?_ ?_)| ((with_reducible refine C0 ?_);exact CH (by assumption))| ((with_reducible refine D0 ?_);first|exact CA rfl|refine CJ ?_)|fail))))
 ·repeat' (first| (with_reducible first| (refine hK _ _ _ ?_;clear hK K)| (refine hB ?_;clear hA hB A B)|refine Z1 ?_|refine Z5 (by omega) ?_|refine hKX _ _ _ ?_)| (with_reducible first|refine Y2 fun K hK=> ?_|refine Y3 fun A B hA hB=> ?_)<;>(simp only[go_sem])| ((with_reducible first|refine Y8 ?_|refine Y9 ?_);try simp only[AQ.then,AQ.blk,reduceIte,Nat.reduceEqDiff])|fail)
  ·refine bJ hQ _ rfl rfl (nQ (Eq.symm (rI fun i hi=>hinv i (by omega))))
theorem tP {l:List CIn} {f:FuncId} {caps caps0:List D1} {p:CIn→Bool} {d:D} (hl:l.length<2^40) (hc:caps.all D1.dT=true) (hd:CvD H (fun _=>True) id 0 (dS (l.map eIn)) d) (hk:CvD H (fun _=>True) id 0 (.one (.c (.clo f caps))) (.one (.c (.clo f caps0)))) (hf: ∀x∈l,∀(H:aA) (nx:Nat) (K:D→aA→Nat→Prop),K (dB (p x)) H nx→aB Tryz.prog f (dA (eIn x)::caps.map fun d=>.one (.c d)) H nx K)
 (h:K (dI (aW p l)) H nx):aB Tryz.prog dX [d,.one (.c (.clo f caps0))] H nx K:=
 (tW l f caps p hl hc hf).pure rfl (aI ⟨hd,hk,trivial⟩) fun r hr=>hr▸h
theorem qR (l:List CIn) (f:FuncId) (caps:List D1) (p:CIn→Bool) (hl:l.length<2^40) (hc:caps.all D1.dT=true) (hf: ∀x∈l,∀(H:aA) (nx:Nat) (K:D→aA→Nat→Prop),K (dB (p x)) H nx→aB Tryz.prog f (dA (eIn x)::caps.map fun d=>.one (.c d)) H nx K):
 aB Tryz.prog cW [dS (l.map eIn),.one (.c (.clo f caps))] .nil 0 fun r _ _=>r.plain=true∧r=dB (decide (0≤aW p l)):=by
 refine pM rfl fun Q hQ=> ?_
 unfold eT
 repeat' (first| (with_reducible first| (refine hK _ _ _ ?_;clear hK K)|refine Z1 ?_)| (first| (with_reducible refine Y2 fun K hK=> ?_)| (refine tP hl hc (aF rfl) (iV hc) hf ?_))<;>(simp only[go_sem])| ((with_reducible refine Y8 ?_);try simp only[AQ.then,AQ.blk,reduceIte,Nat.reduceEqDiff])|fail)
 all_goals exact bJ hQ _ rfl rfl rfl
theorem qX {l:List CIn} {f:FuncId} {caps caps0:List D1} {p:CIn→Bool} {d:D} (hl:l.length<2^40) (hc:caps.all D1.dT=true) (hd:CvD H (fun _=>True) id 0 (dS (l.map eIn)) d) (hk:CvD H (fun _=>True) id 0 (.one (.c (.clo f caps))) (.one (.c (.clo f caps0)))) (hf: ∀x∈l,∀(H:aA) (nx:Nat) (K:D→aA→Nat→Prop),K (dB (p x)) H nx→aB Tryz.prog f (dA (eIn x)::caps.map fun d=>.one (.c d)) H nx K)
 (h:K (dB (decide (0≤aW p l))) H nx):aB Tryz.prog cW [d,.one (.c (.clo f caps0))] H nx K:=
 (qR l f caps p hl hc hf).pure rfl (aI ⟨hd,hk,trivial⟩) fun r hr=>hr▸h
theorem UI (i:CIn) (hi:CO i):aB Tryz.prog vF [dA (eIn i)] .nil 0 fun rr _ _=>rr.plain=true∧rr=dB false:=by
 refine RW rfl fun Q hQ=> ?_
 unfold y7
 repeat' (first| (with_reducible first| (refine hK _ _ _ ?_;clear hK K)|refine Z1 ?_)| (first| (with_reducible refine Y2 fun K hK=> ?_)| (refine ZC hi ?_))<;>(simp only[go_sem])| ((with_reducible refine Y8 ?_);try simp only[AQ.then,AQ.blk,reduceIte,Nat.reduceEqDiff])|fail)
 all_goals first|with_reducible refine bJ hQ _ rfl rfl ?_|skip
 all_goals first|exact pF (by omega)|exact wT (by omega)|exact pO (by omega)|rfl
theorem UP {i:CIn} (hi:CO i) (h:K (dB false) H nx):aB Tryz.prog vF [dA (eIn i)] H nx K:=
 (UI i hi).pure rfl (aI ⟨aF rfl,trivial⟩) (fun r hr=>hr▸h)
theorem ZT (c:Cfg) (s:CSt) (l:List CIn) (hb:aY c) (hcf:kC c) (hs:COk c s) (hl:l.length≤300) (hi: ∀i∈l,CO i):aB Tryz.prog z7 [dA (cH c),dA (lD s),dS (l.map eIn)] .nil 0 fun rr _ _=>rr.plain=true∧rr=dB true:=by
 refine XZ rfl fun Q hQ=> ?_
 unfold D2
 have hlt:((l.length:Int)≤300)=True:=eq_true (by omega)
 have hno:(0≤aW (fun _=>false) l)=False:=eq_false fun h=>by
  obtain⟨x,_,hx⟩:=cL.1 h
  simp at hx
 have hnd:decide (0≤aW (fun _=>false) l)=false:=by simp only[hno,decide_false]
 repeat' (first| (with_reducible first| (refine hK _ _ _ ?_;clear hK K)|refine Z1 ?_)| (first| (with_reducible refine Y2 fun K hK=> ?_)| (refine XQ hb hcf hs ?_)| (refine qX (l:=l) (caps:=[]) (p:=fun _=>false) (by omega) rfl (aF rfl) (iV rfl) (fun x hx H nx K h=>UP (hi x hx) h) ?_))<;>(simp only[go_sem,hlt,hno,hnd])| ((with_reducible refine Y8 ?_);try simp only[AQ.then,AQ.blk,reduceIte,Nat.reduceEqDiff])|fail)
 all_goals first|with_reducible refine bJ hQ _ rfl rfl ?_|skip
 all_goals first|exact pF (by omega)|exact wT (by omega)|exact pO (by omega)|rfl
theorem abX {c:Cfg} {s:CSt} {l:List CIn} (hb:aY c) (hcf:kC c) (hs:COk c s) (hl:l.length≤300) (hi: ∀i∈l,CO i) (h:K (dB true) H nx):aB Tryz.prog z7 [dA (cH c),dA (lD s),dS (l.map eIn)] H nx K:=
 (ZT c s l hb hcf hs hl hi).pure rfl (aI ⟨aF rfl,aF rfl,aF rfl,trivial⟩) (fun r hr=>hr▸h)
end
end Go.Proofs.YtegiblhkjfiooaaGreat
end
section
namespace Go.Proofs.YtegiblhkjfiooaaGreat
open Go Go.AM
set_option maxRecDepth 100000
def fM:AC:=
 (.seq (.region [rq 0 2 (.move (.kv (.slice none 0 0)))] 1 [0])
 (.seq (.region [RM 0 3 0,
 RM 1 4 0,
 rq 2 5 (.len false (.tm 4)),
 RM 3 6 0,
 rq 4 7 (.len false (.tm 6)),
 rq 5 8 (.slc 3 (.tm 3) none (some (.tm 5)) (some (.tm 7))),
 RM 6 2 8] 7 [2])
 .ret))
def rN:List Cert:=[⟨[],[0]⟩,⟨[],[2]⟩]
def jG:List aZ:=[.tm 2]
theorem rW:aR Tryz.prog Tryz.f81 rN=some (fM,jG):=by kernel_rfl
theorem rT:aP Tryz.prog dJ Tryz.f81 fM jG:=
 aP.mk Tryz.func81 (by kernel_rfl) rW
end Go.Proofs.YtegiblhkjfiooaaGreat
end
section
namespace Go.Proofs.YtegiblhkjfiooaaGreat
open Go Go.AM
set_option maxRecDepth 100000
set_option maxHeartbeats 8000000
section
variable {H : aA} {nx : Nat} {K : D → aA → Nat → Prop}
theorem N1 (l:List Ev) (cap m:Nat) (hl:l.length<2^20) (hc:l.length≤cap):aB Tryz.prog dJ [dO 3 0 l.length cap] (hp [(0,⟨3,m,l.map eEv⟩)]) 1
 fun r H' n'=>n'=1∧ ∃o',H'=hp [(0,o')]∧u6 o'∧o'=⟨3,m,l.map eEv⟩∧r=dO 3 0 l.length l.length:=by
 refine rT rfl fun Q hQ=> ?_
 unfold fM
 repeat' (first| (with_reducible first| (refine hK _ _ _ ?_;clear hK K)|refine Z1 ?_)| (with_reducible refine Y2 fun K hK=> ?_)<;>(simp only[go_sem])| ((with_reducible refine Y8 ?_);try simp only[AQ.then,AQ.blk,reduceIte,Nat.reduceEqDiff])|refine⟨by omega,?_⟩|fail)
 exact lN hQ (dO 3 0 l.length l.length) _ _ rfl (by repeat' (first| ((with_reducible refine C0 ?_);exact CQ (by omega) rfl rfl (by rfl) rfl)| ((with_reducible refine D0 ?_);refine CJ ?_)|fail)) rfl (iH RE _) ⟨rfl,rfl⟩
theorem NJ {l:List Ev} {cap m i:Nat} (hl:l.length<2^20) (hc:l.length≤cap) (hi:i<nx) (ho:H i=some ⟨3,m,l.map eEv⟩) (h:K (dO 3 i l.length l.length) (H.set i ⟨3,m,l.map eEv⟩) nx):
 aB Tryz.prog dJ [dO 3 i l.length cap] H nx K:=
 (N1 l cap m hl hc).PN i rfl (hU ⟨l7 (by omega) rfl rfl rfl rfl,trivial⟩) hi ho (iH RE _) fun r o' ⟨h1,h2⟩=>by
  subst h1;subst h2;exact h
end
end Go.Proofs.YtegiblhkjfiooaaGreat
end
section
namespace Go.AM
theorem afB {c:Cfg} {a b:List CIn}: ∀{s:CSt},gS c s (a++b)=gS c s a++gS c (IM c s a) b:=by
 induction a with
 |nil=>intro s;rfl
 |cons i a ih=>intro s;rw[List.cons_append,gS,gS,ag6,ih,List.append_assoc]
theorem ad6.frame {H H':aA} {nm:Nat→Nat} {s:CSt} {cells:List D1} (h:ad6 H nm s cells) (hf: ∀k,k<19→H' (nm k)=H (nm k)):ad6 H' nm s cells:=by
 obtain⟨⟨wc,hc,pc,vc,tc,q1,q2,q3,q4,q5⟩,⟨m,rows,j1,j2,j3⟩,⟨m',rows',j4,j5,j6⟩⟩:=h
 refine⟨⟨wc,hc,pc,vc,tc,q1,q2.frame (hf _ (by omega)),q3.frame (hf _ (by omega)),q4.frame (hf _ (by omega)),q5⟩,⟨m,rows,by rw[hf 2 (by omega)];exact j1,j2,fun k hk=> ?_⟩,⟨m',rows',by rw[hf 3 (by omega)];exact j4,j5,fun k hk=> ?_⟩⟩
 ·obtain⟨r,k1,k2⟩:=j3 k hk
  exact⟨r,k1,k2.frame (hf _ (by omega)) (hf _ (by omega))⟩
 ·obtain⟨r,k1,k2⟩:=j6 k hk
  exact⟨r,k1,k2.frame (hf _ (by omega)) (hf _ (by omega))⟩
theorem agZ {c:Cfg} {s:CSt} {l:List CIn} {k:Nat} (hk:k<l.length):IM c s (l.take (k+1))=JY c (l.getD k default) (IM c s (l.take k)):=by
 rw[oM hk,akL];rfl
theorem abN {c:Cfg} {s:CSt} {l:List CIn} {k:Nat} (hk:k<l.length):gS c s (l.take (k+1))=gS c s (l.take k)++N6 c (l.getD k default) (IM c s (l.take k)):=by
 rw[oM hk,afB]
 simp[gS]
theorem COk.sz {c:Cfg} {s:CSt} (hb:aY c) (h:COk c s):CSz s:=by
 obtain⟨hwl,_,hhl,_⟩:=h.atm
 have htl:s.told.length≤36:=by have:=h.st.lens hb;simp only[dZ] at this;omega
 have hd: ∀j∈s.told,j.rsp.data.length<2^20:=fun j hj=>by
  have:=(h.st.TK j (List.mem_append_right _ hj)).1
  unfold qN at this;omega
 refine⟨h.pl,h.sl,by omega,by omega,⟨by omega,hd⟩,fun k hk=> ?_,fun k hk=> ?_⟩
 ·have h1:=(h.port k hk).ql;have h2:=(h.port k hk).ol;omega
 ·have h1:=(h.slv k hk).pl;have h2:=(h.slv k hk).dl
  refine⟨by omega,by omega,fun j hj=> ?_⟩
  have:=((h.slv k hk).rsp j hj).1
  unfold qN at this;omega
theorem ZJ {c:Cfg} {i:CIn} {s:CSt}:(N6 c i s).length≤10:=by
 have h1:(gZ c s (JT c i s)).length≤3:=Nat.le_trans Go.Proofs.YtegiblhkjfiooaaGreat.LY Go.Proofs.YtegiblhkjfiooaaGreat.HA
 have h2:(gZ c (KE c i s) (EZ c i (KE c i s))).length≤4:=Nat.le_trans Go.Proofs.YtegiblhkjfiooaaGreat.LY Go.Proofs.YtegiblhkjfiooaaGreat.HA
 have h3:(gZ c (PU c i s) (U9 c i (PU c i s))).length≤3:=Nat.le_trans Go.Proofs.YtegiblhkjfiooaaGreat.LY Go.Proofs.YtegiblhkjfiooaaGreat.HA
 rw[Go.Proofs.YtegiblhkjfiooaaGreat.af9]
 simp only[List.length_append,List.length_nil]
 omega
theorem T4 {c:Cfg}: ∀{l:List CIn} {s:CSt},(gS c s l).length≤10*l.length
 | [],_=>by simp[gS]
 |i::l,s=>by
  have h1:=T4 (c:=c) (l:=l) (s:=JY c i s)
  have h2:=ZJ (c:=c) (i:=i) (s:=s)
  rw[gS,List.length_append,List.length_cons];omega
end Go.AM
namespace Go.Proofs.YtegiblhkjfiooaaGreat
open Go Go.AM
set_option maxRecDepth 100000
set_option maxHeartbeats 8000000
theorem N0:d8 Tryz.prog xI Tryz.f32 uY DB:=d8.mk Tryz.func32 (by kernel_rfl) OB
section
variable {H : aA} {nx : Nat} {K : D → aA → Nat → Prop}
theorem OV {c:Cfg} {s:CSt} {l:List CIn} (hb:aY c) (hcf:kC c) (hs:COk c s) (hl:l.length≤300) (hi: ∀i∈l,CO i)
 (h: ∀H' nx',nx≤nx'→(∀id,id<nx→H' id=H id)→K (dS ((gS c s l).map eEv)) H' nx'):aB Tryz.prog xI [dA (cH c),dA (lD s),dS (l.map eIn)] H nx K:=by
 refine aB.BZ ?_
 refine N0 rfl fun Q hQ=> ?_
 unfold uY
 repeat' (first| (with_reducible first| (refine hK _ _ _ ?_;clear hK K)| (refine hB ?_;clear hA hB A B)|refine Z1 ?_|refine Z2 ?_)| (first| (with_reducible first|refine Y2 fun K hK=> ?_|refine Y3 fun A B hA hB=> ?_)| (refine abX hb hcf hs hl hi ?_)| (refine sY (hs.sz hb) (fun H' nx' nm cells hx hR hP ffr=> ?_)))<;>(simp only[go_sem,Nat.add_assoc,Nat.left_eq_add,Nat.add_eq_left])|fail)
 have hcl:cells.length=5:=by obtain⟨_,_,_,_,_,rfl,_⟩:=hR.ex;rfl
 have hrow:cells++List.drop cells.length [D1.osl 0 0 0 0 0,.osl 0 0 0 0 0,.osl 0 0 0 0 0,.osl 0 0 0 0 0,.osl 0 0 0 0 0]=cells:=by rw[hcl];simp
 refine⟨hcl,by omega,?_⟩
 rw[hrow]
 refine hK _ _ _ ?_
 clear hK K
 repeat' (first| (with_reducible first| (refine hK _ _ _ ?_;clear hK K)|refine Z1 ?_|refine Z3 fun KB hKB=> ?_)| (with_reducible refine Y2 fun K hK=> ?_)<;>(simp only[go_sem])|fail)
 (have hKX:=hKB;clear hKB)
 refine aQ.C6 3 ?_
 refine aQ.WA fun G0 hG0=> ?_
 have gfr: ∀id,id<nx+2→G0 id=((H.set nx ⟨3,1,[cH c]⟩).set (nx+1) ⟨5,1,[lD s]⟩) id:=fun id hid=>by
  rw[hG0,aA.aD (by omega),aA.aD (by omega),ffr id (by omega)]
 have c0:G0 nx=some ⟨3,1,[cH c]⟩:=by rw[gfr _ (by omega),aA.aD (by omega)];exact aA.bN
 have glo: ∀id,id<nx→G0 id=H id:=fun id hid=>by rw[gfr _ (by omega),aA.aD (by omega),aA.aD (by omega)]
 have gR:Rep (fun id=>id<nx+2∨id=nx'+1+3) G0 (nx'+1+3+1) (nx+10) nm s:=by
  have hlo:=fun k hk=>hP.rng k hk
  refine⟨⟨cells,by rw[hG0,aA.aD (by omega)];exact aA.bN,hR.frame fun k hk=>by have:=hlo k hk;rw[hG0,aA.aD (by omega),aA.aD (by omega)]⟩,⟨hP.inj,fun k hk=>by have:=hlo k hk;omega,fun k hk hn=>by have:=hlo k hk;omega⟩,fun k hk=>by have:=hlo k hk;omega,⟨by omega,by omega⟩,fun id hid=>by omega⟩
 have gO:G0 (nx'+1+3)=some ⟨3,0,[]⟩:=by rw[hG0];exact aA.bN
 clear hG0 hR hP ffr
 refine aQ.iI (β:=Nat×(Nat→Nat)×Nat×Nat) (fun u=>en [(20,dI u.1),(19,dI l.length),(18,dS (l.map eIn)),(8,.one (.c (.osl 3 u.2.2.1 0 (gS c s (l.take u.1)).length u.2.2.2))),(7,.one (.c (.ptr 5 (nx+10) 0 0))),(3,.one (.c (.ptr 3 nx 0 0)))])
  (fun u H1 nx1=>u.1≤l.length∧nx+2≤u.2.2.1∧Rep (fun id=>id<nx+2∨id=u.2.2.1) H1 nx1 (nx+10) u.2.1 (IM c s (l.take u.1))∧(∀id,id<nx+2→H1 id=G0 id)∧ ∃m,H1 u.2.2.1=some ⟨3,m,(gS c s (l.take u.1)).map eEv⟩∧(gS c s (l.take u.1)).length≤u.2.2.2∧u.2.2.2≤m)
  (fun u=>l.length-u.1) (0,nm,nx'+1+3,0) ⟨noF,_,by(repeat' (first| (with_reducible first|exact C1|refine C2 ?_ ?_)| ((with_reducible refine C0 ?_);first|exact CC|exact CE (by omega) rfl)| ((with_reducible refine D0 ?_);first|exact CA rfl|refine CJ ?_)|fail));all_goals exact .V2 ..,aL,by dsimp only;omega,by dsimp only;omega,gR,fun _ _=>rfl,0,gO,by simp[gS],Nat.le_refl _⟩ ?_
 rintro⟨k,nm1,io,cap⟩ H1 nx1 hnx ⟨hk,hion,hR,hfr,m,g1,g2,g3⟩ KL hKL
 dsimp only at hk hion hR g1 g2 g3
 have g0:=(hfr nx (by omega)).trans c0
 obtain⟨O,hOd⟩: ∃O,O=gS c s (l.take k):=⟨_,rfl⟩
 obtain⟨S,hSd⟩: ∃S,S=IM c s (l.take k):=⟨_,rfl⟩
 have hS:COk c S:=by rw[hSd];exact(YS hb hs).1
 rw[←hSd] at hR
 rw[←hOd] at g1 g2
 have hio:=hR.x io (.inr rfl)
 have hi0:=hR.i0
 have hOl:O.length≤3000:=by
  have h1:=T4 (c:=c) (l:=l.take k) (s:=s)
  rw[←hOd,List.length_take] at h1
  omega
 by_cases hlt:k<l.length
 ·obtain⟨i,hid⟩: ∃i,i=l.getD k default:=⟨_,rfl⟩
  have hii:CO i:=by rw[hid];exact hi _ (cY hlt)
  have hA:bT nx1 [nx,io]:=AM.apart (by simp;omega) (by simp;omega)
  simp only[bT,fN] at hA
  rw[←hOd]
  repeat' (first| (with_reducible first| (refine hK _ _ _ ?_;clear hK K)| (refine hA ?_;clear hA hB A B)|refine Z1 ?_|refine Z2 ?_|refine Z3 fun KB hKB=> ?_|refine Z4 (by omega) ?_)| (with_reducible first|refine Y2 fun K hK=> ?_|refine Y3 fun A B hA hB=> ?_)<;>(simp only[go_sem,Nat.add_assoc,Nat.left_eq_add,hid.symm,g0,hA])|refine⟨by omega,?_⟩|fail)
  have hnm1:=hR.names.lt
  refine GX (X:=fun id=>id<nx+2∨id=io∨(nx1≤id∧id<nx1+12)) hb hS hii (hR.frame (by omega) (aA.aD (by omega)) (fun k hk=>aA.aD (by have:=hnm1 k hk;omega)) fun id hid2=> ?_) fun H2 nx2 nm2 a b d e hx2 hR2 hX2=> ?_
  ·refine⟨by omega,fun he=> ?_,fun k hk he=> ?_⟩
   ·rcases hid2 with h1|h1|h1
    ·omega
    ·exact hi0.2 (.inr (he▸h1))
    ·omega
   ·have:=hnm1 k hk
    rcases hid2 with h1|h1|h1
    ·exact hR.names.av k hk (.inl (he▸h1))
    ·exact hR.names.av k hk (.inr (he▸h1))
    ·omega
  have f1:H2 io=some ⟨3,m,O.map eEv⟩:=by rw[hX2 io (.inr (.inl rfl)),aA.aD (by omega)];exact g1
  have ffr: ∀id,id<nx+2→H2 id=G0 id:=fun id hid=>by rw[hX2 id (.inl hid),aA.aD (by omega)];exact hfr id hid
  have hEl:=ZJ (c:=c) (i:=i) (s:=S)
  have hA2:bT nx2 [nx,io,nx1+5,nx1+10]:=AM.apart (by simp;omega) (by simp;omega)
  simp only[bT,fN] at hA2
  have hz:(io=nx1+10)=False:=eq_false (by omega)
  simp only[go_sem,Nat.add_assoc,f1,hA,hA2,hz]
  have hTe:gS c s (l.take (k+1))=O++N6 c i S:=by rw[abN hlt,←hOd,←hSd,←hid]
  have hSe:IM c s (l.take (k+1))=JY c i S:=by rw[agZ hlt,←hSd,←hid]
  refine⟨g3,by omega,fun cap1 hcap hcp=> ?_⟩
  refine hK _ _ _ ?_
  clear hK K
  repeat' (first| (with_reducible (refine hK _ _ _ ?_;clear hK K))| (with_reducible refine Y2 fun K hK=> ?_)<;>(simp only[go_sem];try simp (disch:=omega) only[Iw])| ((with_reducible refine Y0 ?_);simp only[AQ.then,AQ.blk])| (with_reducible refine hKB _ _ _ ?_)|fail)
  have hav:=hR2.names.av
  have hi2:=hR2.i0
  have hn2:=hR2.names.lt
  refine hKL _ _ _ (k+1,nm2,nx1+10,cap1) noF _ (by omega) (by dsimp only;omega) (by dsimp only;rw[hTe,List.length_append];repeat' (first| (with_reducible first|exact C1|refine C2 ?_ ?_)| ((with_reducible refine C0 ?_);first|exact CQ (by omega) rfl rfl (by rfl) rfl|exact CE (by omega) rfl)| ((with_reducible refine D0 ?_);first|exact CA rfl|refine CJ ?_)|fail)) aL ⟨by dsimp only;omega,by dsimp only;omega,?_,fun id hid=> ?_,cap1,?_,?_,Nat.le_refl _⟩
  ·dsimp only
   rw[hSe]
   refine hR2.frame (by omega) ?_ (fun k hk=> ?_) fun id hid2=> ?_
   ·rw[aA.aD (fun he=>hi2.2 (.inr (.inr ⟨by omega,by omega⟩))),aA.iS (fun he=>hi2.2 (.inr (.inl he)))]
   ·rw[aA.aD (fun he=>hav k hk (.inr (.inr ⟨by omega,by omega⟩))),aA.iS (fun he=>hav k hk (.inr (.inl he)))]
   ·rcases hid2 with h1|h1
    ·exact⟨by omega,by omega,fun k hk he=>hav k hk (.inl (he▸h1))⟩
    ·exact⟨by omega,by omega,fun k hk he=>hav k hk (.inr (.inr ⟨by omega,by omega⟩))⟩
  ·rw[aA.aD (by omega),aA.iS (by omega)];exact ffr id hid
  ·dsimp only;rw[hTe,List.map_append];exact aA.bN
  ·dsimp only;rw[hTe,List.length_append];exact hcap
 ·rw[←hOd]
  have hOe:O=gS c s l:=by rw[hOd,List.take_of_length_le (by omega)]
  repeat' (first| (with_reducible first| (refine hK _ _ _ ?_;clear hK K)| (refine hB ?_;clear hA hB A B)|refine Z1 ?_|refine Z5 (by omega) ?_|refine hKX _ _ _ ?_)| (first| (with_reducible first|refine Y2 fun K hK=> ?_|refine Y3 fun A B hA hB=> ?_)| (refine NJ (l:=O) (by omega) g2 (by omega) g1 ?_))<;>(simp only[go_sem])| ((with_reducible first|refine Y8 ?_|refine Y9 ?_);try simp only[AQ.then,AQ.blk,reduceIte,Nat.reduceEqDiff])|fail)
  refine hQ _ _ _ _ _ (.inr rfl) rfl ⟨dS ((gS c s l).map eEv),_,fun j=>j=io,?_,MM,h _ _ (by omega) fun id hid=> ?_⟩
  ·rw[←hOe]
   exact vQ RE aA.bN rfl (Nat.le_refl _) rfl
  ·rw[aA.iS (by omega),aA.aD (by omega),hfr id (by omega)]
   exact glo id hid
end
end Go.Proofs.YtegiblhkjfiooaaGreat
end
section
namespace Go.AM
theorem aB.ar5 {P:Program} {f:FuncId} {args args':List D} {H:aA} {nx:Nat} {K:D→aA→Nat→Prop} (H':aA) (F:Nat→Prop) (hl:args.length=args'.length) (hA: ∀(i:Nat) (d0 d:D),args'[i]?=some d0→args[i]?=some d→CvD H F id nx d0 d) (hH:CvX F nx H H') (h:aB P f args' H' nx K):aB P f args H nx K:=by
 refine⟨h.1,fun c vs hs hN hlen hrel=> ?_⟩
 obtain⟨k1,k2⟩:=X9 hs (Step.refl c H) hN hH
 refine(h.2 (c.conv nx nx id (c.frI H F)) vs k1 (fun i hi=> ?_) (by omega) fun i d v h1 h2=> ?_).mono ?_
 ·rcases hi with⟨_,hi⟩|⟨h1,h2,h3⟩
  ·exact hN i hi
  ·omega
 ·have hi:i<args.length:=by have:=(List.getElem?_eq_some_iff.1 h1).1;omega
  exact AE hs (fun b h=>.inl h) (fun id o h1 h2 h3=>.inr ⟨id,o,h1,h2,h3,rfl⟩) (fun _ _=>rfl) (hA i d _ h1 (List.getElem?_eq_getElem hi)) (hrel i _ v (List.getElem?_eq_getElem hi) h2)
 ·rintro x w' ⟨v,c2,r,H2,n2,rfl,rfl,p1,p2,p3,p4,p5,p6⟩
  refine⟨v,c2,r,H2,n2,rfl,rfl,p1,k2.trans p2,fun i hi=> ?_,p4,p5,p6⟩
  rcases p3 i hi with h|h
  ·rcases h with⟨_,hi⟩|⟨h1,h2,h3⟩
   ·exact .inl hi
   ·omega
  ·exact .inr h
open Classical in
noncomputable def without (F:Nat→Prop) (H:aA):aA:=fun j=>if F j then none else H j
theorem CW {F:Nat→Prop} {H:aA} {j:Nat} (h: ¬F j):without F H j=H j:=by unfold without;rw[if_neg h]
theorem G6 {F:Nat→Prop} {H:aA} {nx:Nat}:CvX F nx H (without F H):=fun j x hj=>by
 by_cases h:F j
 ·unfold without at hj;rw[if_pos h] at hj;cases hj
 ·rw[CW h] at hj;exact⟨h,x,hj,.inl rfl⟩
end Go.AM
namespace Go.Proofs.YtegiblhkjfiooaaGreat
open Go Go.AM
set_option maxRecDepth 100000
set_option maxHeartbeats 8000000
theorem R3:d8 Tryz.prog AY Tryz.f17 yP G5:=d8.mk Tryz.func17 (by kernel_rfl) TF
section
variable {H : aA} {nx : Nat} {K : D → aA → Nat → Prop}
end
end Go.Proofs.YtegiblhkjfiooaaGreat
end
section
namespace Go.Proofs.YtegiblhkjfiooaaGreat
open Go Go.AM
set_option maxRecDepth 100000
set_option maxHeartbeats 8000000
section
variable {H : aA} {nx : Nat} {K : D → aA → Nat → Prop}
theorem VT (h: ∀H' nx',nx≤nx'→(∀id,id<nx→H' id=H id)→K (dA (lD OF)) H' nx'):aB Tryz.prog AY [] H nx K:=by
 refine aB.BZ ?_
 refine R3 rfl fun Q hQ=> ?_
 unfold yP
 have hsz:CSz OF:=⟨rfl,rfl,by simp[OF],by simp[OF],⟨by simp[OF],fun j hj=>by simp[OF] at hj⟩,fun k hk=>by rw[WL hk];simp,fun k hk=>by rw[abK hk];simp⟩
 generalize hs:OF=s0 at*
 obtain⟨w0,hw0⟩: ∃w0,w0=List.replicate 64 (0:Int):=⟨_,rfl⟩
 obtain⟨w1,hw1⟩: ∃w1,w1=List.replicate 6 (-1:Int):=⟨_,rfl⟩
 have han: ∀{H:aA} {nx:Nat} {K:D→aA→Nat→Prop},K (dA [.osl 1 nx 0 64 64,.osl 1 (nx+1) 0 6 6]) ((H.set nx ⟨1,64,w0.map aE⟩).set (nx+1) ⟨1,6,w1.map aE⟩) (nx+2)→aB Tryz.prog kB [] H nx K:=fun h=>F7 (by rw[hw0,hw1] at h;exact h)
 have hl0:w0.length=64:=by rw[hw0];rfl
 have hl1:w1.length=6:=by rw[hw1];rfl
 have e1:s0.words=w0:=by rw[←hs,hw0];rfl
 have e2:s0.holds=w1:=by rw[←hs,hw1];rfl
 obtain⟨p0,hp0⟩: ∃p0:fV,p0=⟨0,[],[],3⟩:=⟨_,rfl⟩
 obtain⟨v0,hv0⟩: ∃v0:sC,v0=⟨[],[],2⟩:=⟨_,rfl⟩
 have e3:s0.bS=List.replicate 3 p0:=by rw[←hs,hp0];rfl
 have e4:s0.eL=List.replicate 4 v0:=by rw[←hs,hv0];rfl
 have e5:s0.told=[]:=by rw[←hs];rfl
 clear hw0 hw1
 repeat' (first| (with_reducible first| (refine hK _ _ _ ?_;clear hK K)|refine Z1 ?_|refine Z3 fun KB hKB=> ?_)| (first| (with_reducible refine Y2 fun K hK=> ?_)| (refine han ?_))<;>(simp only[go_sem,Nat.add_assoc,Nat.left_eq_add,Nat.add_eq_left])|fail)
 (have hKX:=hKB;clear hKB)
 refine aQ.C6 4 ?_
 refine aQ.C6 3 ?_
 refine aQ.BZ _ _ noF (fun t=>.inl rfl) (MA (i:=nx+3) (o:=⟨5,1,[[.osl 1 (nx+5) 0 64 64,.osl 1 (nx+6) 0 6 6,.osl 0 0 0 0 0,.osl 0 0 0 0 0,.osl 0 0 0 0 0]]⟩) (o':=⟨5,1,[[.osl 1 (nx+5) 0 64 64,.osl 1 (nx+6) 0 6 6,.osl 4 (nx+8) 0 0 0,.osl 3 (nx+9) 0 0 0,.osl 0 0 0 0 0]]⟩) (by simp only[aA.set,Nat.add_assoc,Nat.add_left_cancel_iff,Nat.reduceEqDiff,Nat.reduceAdd,if_false,if_true]) (aM (aH (.osl _ _ _ _ _ (by omega)) (aH (.osl _ _ _ _ _ (by omega)) (aH (.V2 ..) (aH (.V2 ..) (aH (.V2 ..) eR))))))) ?_
 refine aQ.WA fun G0 hG0=> ?_
 have c0:G0 nx=some ⟨5,1,[[.osl 0 0 0 0 0,.osl 0 0 0 0 0,.osl 0 0 0 0 0,.osl 0 0 0 0 0,.osl 0 0 0 0 0]]⟩:=by rw[hG0];simp only[aA.set,Nat.add_assoc,Nat.add_left_cancel_iff,Nat.reduceEqDiff,Nat.reduceAdd,Nat.left_eq_add,if_false,if_true]
 have c3:G0 (nx+3)=some ⟨5,1,[[.osl 1 (nx+5) 0 64 64,.osl 1 (nx+6) 0 6 6,.osl 4 (nx+8) 0 0 0,.osl 3 (nx+9) 0 0 0,.osl 0 0 0 0 0]]⟩:=by rw[hG0];exact aA.bN
 have c5:G0 (nx+5)=some ⟨1,64,w0.map aE⟩:=by rw[hG0];simp only[aA.set,Nat.add_assoc,Nat.add_left_cancel_iff,Nat.reduceEqDiff,Nat.reduceAdd,Nat.left_eq_add,if_false,if_true]
 have c6:G0 (nx+6)=some ⟨1,6,w1.map aE⟩:=by rw[hG0];simp only[aA.set,Nat.add_assoc,Nat.add_left_cancel_iff,Nat.reduceEqDiff,Nat.reduceAdd,Nat.left_eq_add,if_false,if_true]
 have c8:G0 (nx+8)=some ⟨4,0,[]⟩:=by rw[hG0];simp only[aA.set,Nat.add_assoc,Nat.add_left_cancel_iff,Nat.reduceEqDiff,Nat.reduceAdd,Nat.left_eq_add,if_false,if_true]
 have c9:G0 (nx+9)=some ⟨3,0,[]⟩:=by rw[hG0];simp only[aA.set,Nat.add_assoc,Nat.add_left_cancel_iff,Nat.reduceEqDiff,Nat.reduceAdd,Nat.left_eq_add,if_false,if_true]
 have cfr: ∀id,id<nx→G0 id=H id:=fun id hid=>by
  rw[hG0];simp only[aA.set,Nat.add_assoc,Nat.reduceAdd,show ¬id=nx by omega,show ¬id=nx+3 by omega,show ¬id=nx+5 by omega,show ¬id=nx+6 by omega,show ¬id=nx+8 by omega,show ¬id=nx+9 by omega,if_false]
 clear hG0
 refine aQ.iI (β:=Nat×Nat×Nat) (fun u=>en [(4,dI u.1),(1,.one (.c (.ptr 5 (nx+3) 0 0))),(0,.one (.c (.ptr 5 nx 0 0)))])
  (fun u H1 nx1=>u.1≤3∧H1 (nx+3)=some ⟨5,1,[[.osl 1 (nx+5) 0 64 64,.osl 1 (nx+6) 0 6 6,.osl 4 u.2.1 0 u.1 u.2.2,.osl 3 (nx+9) 0 0 0,.osl 0 0 0 0 0]]⟩∧(∃mp,H1 u.2.1=some ⟨4,mp,(List.replicate u.1 p0).map cD⟩∧u.1≤u.2.2∧u.2.2≤mp)∧(nx+8≤u.2.1∧u.2.1<nx1∧u.2.1≠nx+9)∧ ∀id,id<nx+10→id≠nx+3→id≠nx+8→H1 id=G0 id)
  (fun u=>3-u.1) (0,nx+8,0) ⟨noF,_,by repeat' (first| (with_reducible first|exact C1|refine C2 ?_ ?_)| ((with_reducible refine C0 ?_);exact CE (by omega) rfl)| ((with_reducible refine D0 ?_);first|exact CA rfl|refine CJ ?_)|fail),aL,by dsimp only;omega,c3,⟨0,c8,Nat.le_refl _,Nat.le_refl _⟩,by dsimp only;omega,fun _ _ _ _=>rfl⟩ ?_
 rintro⟨k,ip,cp⟩ H1 nx1 hnx ⟨hk,a3,⟨mp,ap,ap1,ap2⟩,aa,hfr⟩ KL hKL
 dsimp only at hk a3 ap ap1 ap2 aa
 have hA:bT nx1 [nx,nx+3,nx+9,ip]:=AM.apart (by simp;omega) (by simp;omega)
 simp only[bT,fN] at hA
 by_cases hlt:k<3
 ·obtain⟨P,hP⟩: ∃P,P=List.replicate k p0:=⟨_,rfl⟩
  have hPl:P.length=k:=by rw[hP];simp
  rw[←hP] at ap
  rw[←hPl] at a3
  repeat' (first| (with_reducible first| (refine hK _ _ _ ?_;clear hK K)| (refine hA ?_;clear hA hB A B)|refine Z1 ?_|refine Z2 ?_|refine Z3 fun KB hKB=> ?_|refine Z4 (by omega) ?_|refine fun(cap:Nat) (hcap:_≤cap)=> ?_|refine fun(hcp:_≤cap)=> ?_)| (with_reducible first|refine Y2 fun K hK=> ?_|refine Y3 fun A B hA hB=> ?_)<;>(simp only[go_sem,Nat.add_assoc,Nat.left_eq_add,Nat.add_eq_left,a3,ap,hA,List.set];try simp (disch:=omega) only[Iw])| ((with_reducible refine Y0 ?_);simp only[AQ.then,AQ.blk])|refine⟨by omega,?_⟩| (with_reducible refine hKB _ _ _ ?_)|fail)
  have hre:List.replicate (k+1) p0=P++[p0]:=by rw[hP,List.replicate_succ']
  refine afP (K:=KL) fun G hG=> ?_
  refine hKL _ _ _ (k+1,nx1+5,cap) noF _ (by omega) (by dsimp only;omega) (by repeat' (first| (with_reducible first|exact C1|refine C2 ?_ ?_)| ((with_reducible refine C0 ?_);exact CE (by omega) rfl)| ((with_reducible refine D0 ?_);first|exact CA rfl|refine CJ ?_)|fail)) (MA (i:=nx1+5) (o':=⟨4,cap,(P++[p0]).map cD⟩) (by rw[hG,aA.aD (by omega)];exact aA.bN) (BX (R:=P.map cD) (r':=cD p0) (by rw[List.map_append];rfl) rfl (fun r hr=>(aC wF _ r hr).2) rfl (by rw[hp0];exact aH (bG rfl) (aH (.frz (.nil ..)) (aH (.frz (.nil ..)) (aH (bG rfl) eR)))))) ⟨by dsimp only;omega,?_,⟨cap,by dsimp only;rw[hre];exact aA.bN,by dsimp only;omega,Nat.le_refl _⟩,by dsimp only;omega,fun id f0 f1 f2=> ?_⟩
  ·dsimp only
   rw[aA.aD (by omega),hG,aA.bN,hPl]
  ·rw[aA.aD (by omega),hG,aA.aD f1,aA.aD (by omega),aA.aD (by omega),aA.iS (by omega)]
   exact hfr id f0 f1 f2
 ·repeat' (first| (with_reducible first| (refine hK _ _ _ ?_;clear hK K)| (refine hB ?_;clear hA hB A B)|refine Z1 ?_|refine Z3 fun KB hKB=> ?_|refine Z5 (by omega) ?_|refine hKX _ _ _ ?_)| (with_reducible first|refine Y2 fun K hK=> ?_|refine Y3 fun A B hA hB=> ?_)<;>(simp only[go_sem])| ((with_reducible refine Y9 ?_);try simp only[AQ.then,AQ.blk,reduceIte,Nat.reduceEqDiff])|fail)
  have hk3:k=3:=by omega
  subst hk3
  have b9:=(hfr (nx+9) (by omega) (by omega) (by omega)).trans c9
  clear hA
  (have hKY:=hKB;clear hKB)
  refine aQ.iI (β:=Nat×Nat×Nat) (fun u=>en [(13,dI u.1),(1,.one (.c (.ptr 5 (nx+3) 0 0))),(0,.one (.c (.ptr 5 nx 0 0)))])
   (fun u H2 nx2=>u.1≤4∧H2 (nx+3)=some ⟨5,1,[[.osl 1 (nx+5) 0 64 64,.osl 1 (nx+6) 0 6 6,.osl 4 ip 0 3 cp,.osl 3 u.2.1 0 u.1 u.2.2,.osl 0 0 0 0 0]]⟩∧(∃mp,H2 u.2.1=some ⟨3,mp,(List.replicate u.1 v0).map gM⟩∧u.1≤u.2.2∧u.2.2≤mp)∧(nx+8≤u.2.1∧u.2.1<nx2∧u.2.1≠ip)∧H2 ip=some ⟨4,mp,(List.replicate 3 p0).map cD⟩∧ ∀id,id<nx+8→id≠nx+3→H2 id=G0 id)
   (fun u=>4-u.1) (0,nx+9,0) ⟨noF,_,by repeat' (first| (with_reducible first|exact C1|refine C2 ?_ ?_)| ((with_reducible refine C0 ?_);exact CE (by omega) rfl)| ((with_reducible refine D0 ?_);first|exact CA rfl|refine CJ ?_)|fail),aL,by dsimp only;omega,a3,⟨0,b9,Nat.le_refl _,Nat.le_refl _⟩,by dsimp only;omega,ap,fun id f0 f1=>hfr id (by omega) f1 (by omega)⟩ ?_
  rintro⟨k,iv,cv⟩ H2 nx2 hnx2 ⟨hk,b3,⟨mv,bp,bp1,bp2⟩,ba,bip,hfr2⟩ KM hKM
  dsimp only at hk b3 bp bp1 bp2 ba
  have hA2:bT nx2 [nx,nx+3,ip,iv]:=AM.apart (by simp;omega) (by simp;omega)
  simp only[bT,fN] at hA2
  by_cases hlt:k<4
  ·obtain⟨P,hP⟩: ∃P,P=List.replicate k v0:=⟨_,rfl⟩
   have hPl:P.length=k:=by rw[hP];simp
   rw[←hP] at bp
   rw[←hPl] at b3
   repeat' (first| (with_reducible first| (refine hK _ _ _ ?_;clear hK K)| (refine hA ?_;clear hA hB A B)|refine Z1 ?_|refine Z2 ?_|refine Z3 fun KB hKB=> ?_|refine Z4 (by omega) ?_|refine fun(cap:Nat) (hcap:_≤cap)=> ?_|refine fun(hcp:_≤cap)=> ?_)| (with_reducible first|refine Y2 fun K hK=> ?_|refine Y3 fun A B hA hB=> ?_)<;>(simp only[go_sem,Nat.add_assoc,Nat.left_eq_add,Nat.add_eq_left,b3,bp,hA2,List.set];try simp (disch:=omega) only[Iw])| ((with_reducible refine Y0 ?_);simp only[AQ.then,AQ.blk])|refine⟨by omega,?_⟩| (with_reducible refine hKB _ _ _ ?_)|fail)
   have hre:List.replicate (k+1) v0=P++[v0]:=by rw[hP,List.replicate_succ']
   refine afP (K:=KM) fun G hG=> ?_
   refine hKM _ _ _ (k+1,nx2+5,cap) noF _ (by omega) (by dsimp only;omega) (by repeat' (first| (with_reducible first|exact C1|refine C2 ?_ ?_)| ((with_reducible refine C0 ?_);exact CE (by omega) rfl)| ((with_reducible refine D0 ?_);first|exact CA rfl|refine CJ ?_)|fail)) (MA (i:=nx2+5) (o':=⟨3,cap,(P++[v0]).map gM⟩) (by rw[hG,aA.aD (by omega)];exact aA.bN) (BX (R:=P.map gM) (r':=gM v0) (by rw[List.map_append];rfl) rfl (fun r hr=>(aC AB _ r hr).2) rfl (by rw[hv0];exact aH (.frz (.nil ..)) (aH (.frz (.nil ..)) (aH (bG rfl) eR))))) ⟨by dsimp only;omega,?_,⟨cap,by dsimp only;rw[hre];exact aA.bN,by dsimp only;omega,Nat.le_refl _⟩,by dsimp only;omega,?_,fun id f0 f1=> ?_⟩
   ·dsimp only
    rw[aA.aD (by omega),hG,aA.bN,hPl]
   ·rw[aA.aD (by omega),hG,aA.aD (by omega),aA.aD (by omega),aA.aD (by omega),aA.iS (by omega)]
    exact bip
   ·rw[aA.aD (by omega),hG,aA.aD f1,aA.aD (by omega),aA.aD (by omega),aA.iS (by omega)]
    exact hfr2 id f0 f1
  ·have hk4:k=4:=by omega
   subst hk4
   repeat' (first| (with_reducible first| (refine hK _ _ _ ?_;clear hK K)| (refine hB ?_;clear hA hB A B)|refine Z1 ?_|refine Z5 (by omega) ?_|refine hKY _ _ _ ?_)| (with_reducible first|refine Y2 fun K hK=> ?_|refine Y3 fun A B hA hB=> ?_)<;>(simp only[go_sem,b3])| ((with_reducible refine Y9 ?_);try simp only[AQ.then,AQ.blk,reduceIte,Nat.reduceEqDiff])|fail)
   have f5:=(hfr2 (nx+5) (by omega) (by omega)).trans c5
   have f6:=(hfr2 (nx+6) (by omega) (by omega)).trans c6
   have f0:=(hfr2 nx (by omega) (by omega)).trans c0
   refine aB.ar5 (args':=[dA (lD s0)]) (without (fun j=>j=nx+5∨j=nx+6∨j=ip∨j=iv) H2) (fun j=>j=nx+5∨j=nx+6∨j=ip∨j=iv) rfl (fun i d0 d h1 h2=> ?_) G6 ?_
   ·match i with
    |0=>
     simp only[List.getElem?_cons_zero,Option.some.injEq] at h1 h2
     subst h1;subst h2
     have heS:lD s0=[.isl (w0.map aE),.isl (w1.map aE),.isl ((List.replicate 3 p0).map cD),.isl ((List.replicate 4 v0).map gM),.isl []]:=by
      unfold lD;rw[e1,e2,e3,e4,e5];rfl
     rw[heS]
     exact x8 (aH (bU aJ f5 hl0.symm (by omega) (.inl rfl)) (aH (bU aJ f6 hl1.symm (by omega) (.inr (.inl rfl))) (aH (bU wF bip (by simp) (by simp;omega) (.inr (.inr (.inl rfl)))) (aH (bU AB bp (by simp) (by simp;omega) (.inr (.inr (.inr rfl)))) (aH (.frz (.nil ..)) eR)))))
    |i+1=>simp at h1
   refine sY hsz fun H3 nx3 nm3 cells3 hx3 hR3 hP3 ffr3=> ?_
   have hcl3:cells3.length=5:=by obtain⟨_,_,_,_,_,rfl,_⟩:=hR3.ex;rfl
   have hrow3:cells3++List.drop cells3.length [D1.osl 0 0 0 0 0,.osl 0 0 0 0 0,.osl 0 0 0 0 0,.osl 0 0 0 0 0,.osl 0 0 0 0 0]=cells3:=by rw[hcl3];simp
   have g0:H3 nx=some ⟨5,1,[[.osl 0 0 0 0 0,.osl 0 0 0 0 0,.osl 0 0 0 0 0,.osl 0 0 0 0 0,.osl 0 0 0 0 0]]⟩:=by
    rw[ffr3 _ (by omega),CW (by omega)];exact f0
   simp only[go_sem,g0]
   refine⟨hcl3,by omega,?_⟩
   rw[hrow3]
   refine hK _ _ _ ?_
   clear hK K
   repeat' (first| ((with_reducible refine Y8 ?_);try simp only[AQ.then,AQ.blk,reduceIte,Nat.reduceEqDiff])|fail)
   refine hQ _ _ _ _ _ (.inr rfl) (kW rfl aA.bN hcl3) ⟨dA (lD s0),_,fun j=>∃k,k<19∧j=nm3 k,?_,G6,h _ _ (by omega) fun id hid=> ?_⟩
   ·exact x8 (abH ((hR3.frame fun k hk=>aA.aD (by have:=hP3.rng k hk;omega)).ag9 (fun k hk=>⟨k,hk,rfl⟩) hsz.pl hsz.sl))
   ·rw[CW (fun⟨k,hk,he⟩=>by have:=hP3.rng k hk;omega),aA.aD (by omega),ffr3 _ (by omega),CW (by omega),hfr2 id (by omega) (by omega)]
    exact cfr id hid
end
end Go.Proofs.YtegiblhkjfiooaaGreat
end
