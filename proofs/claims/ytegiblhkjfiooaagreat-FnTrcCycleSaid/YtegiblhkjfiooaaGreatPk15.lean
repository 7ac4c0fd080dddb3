/- Texts laid together by a program: rules, contracts and the walk that leads to the law. -/
import Derived.Test.YtegiblhkjfiooaaGreatPk14
import Derived.Test.YtegiblhkjfiooaaGreatPk13
import Derived.Test.YtegiblhkjfiooaaGreatPk10
import Derived.Test.YtegiblhkjfiooaaGreatPk9
import Derived.Test.YtegiblhkjfiooaaGreatPk11
import Derived.Test.YtegiblhkjfiooaaGreatPk12
set_option linter.unusedVariables false
set_option linter.unusedSimpArgs false
set_option linter.unusedSectionVars false
section
namespace Go.AM
def VN (H:aA) (F:Nat→Prop) (r' r:List D1):Prop:=r'.length=r.length∧ ∀(j:Nat) (d':D1),r'[j]?=some d'→∃d,r[j]?=some d∧Frz H F d' d
section
variable {H : aA} {F : Nat → Prop} {σ : Nat → Nat} {nh : Nat}
theorem K6:VN H F [] []:=⟨rfl,fun j d h=>by simp at h⟩
theorem fT {x y:D1} {xs ys:List D1} (h:Frz H F x y) (h2:VN H F xs ys):VN H F (x::xs) (y::ys):=by
 refine⟨by simp[h2.1],fun j d hd=> ?_⟩
 match j with
 |0=>simp at hd;subst hd;exact⟨y,rfl,h⟩
 |j+1=>exact h2.2 j d (by simpa using hd)
theorem al4 {r:List D1} (h: ∀x∈r,x.dT=true):VN H F r r:=⟨rfl,fun j d hd=>⟨d,hd,.same d (h d (List.mem_of_getElem? hd))⟩⟩
theorem abH {r' r:List D1} (h:VN H F r' r):CvL H F σ nh r' r:=⟨h.1,fun i x y hx hy=>by
 obtain⟨d,h1,h2⟩:=h.2 i x hx
 rw[hy] at h1;cases h1
 exact .frz h2⟩
theorem SH {rows:List (List D1)} {n id off len cap:Nat} {o:bC} (hF:F id) (ho:H id=some o) (hn:o.n=n) (hl:len=rows.length) (hlen:off+len≤o.rows.length) (hcap:len≤cap)
 (hr: ∀i r',rows[i]?=some r'→r'.length=n∧ ∃r,o.rows[off+i]?=some r∧VN H F r' r):Frz H F (.isl rows) (.osl n id off len cap):=by
 subst hl
 refine .frz rows n id off cap o (fun i j=>((o.rows[off+i]?.getD [])[j]?).getD .dead) hF ho hn hlen hcap (fun i r' h=>(hr i r' h).1) (fun i j r' d' h1 h2=> ?_) (fun i j r' d' h1 h2=> ?_)
 ·obtain⟨_,r,h3,h4⟩:=hr i r' h1
  obtain⟨d,h5,_⟩:=h4.2 j d' h2
  exact⟨r,h3,by rw[h3];simp[h5]⟩
 ·obtain⟨_,r,h3,h4⟩:=hr i r' h1
  obtain⟨d,h5,h6⟩:=h4.2 j d' h2
  rw[h3];simpa [h5] using h6
theorem vS.frz {n id off len cap:Nat} {R:List (List D1)} (h:vS H n id off len cap R) (hi:am0 n R) (hF:F id):Frz H F (.isl R) (.osl n id off len cap):=by
 obtain⟨m,rows,h1,h2,h3,h4,h5,h6⟩:=h.ex
 refine SH hF h1 rfl h4 h3 h5 fun i r' hr=>⟨(hi r' (List.mem_of_getElem? hr)).1,r',?_,al4 fun x hx=>(hi r' (List.mem_of_getElem? hr)).2 x hx⟩
 subst h2
 rw[List.getElem?_drop] at hr
 exact hr
theorem ZE {x:Value}:Frz H F (.v x) (.v x):=.same _ rfl
theorem ED.ag9 {nq no:Nat} {p:fV} {r:List D1} (h:ED H nq no p r) (h1:F nq) (h2:F no):VN H F (cD p) r:=by
 obtain⟨qo,qc,oc,rfl,q1,q2⟩:=h.ex
 exact fT ZE (fT (q1.frz (aC aJ _) h1) (fT (q2.frz (aC y6 _) h2) (fT ZE K6)))
theorem MQ.ag9 {np nd:Nat} {v:sC} {r:List D1} (h:MQ H np nd v r) (h1:F np) (h2:F nd):VN H F (gM v) r:=by
 obtain⟨qo,qc,o,oc,rfl,q1,q2⟩:=h.ex
 exact fT (q1.frz (aC y6 _) h1) (fT (q2.frz (aC aV _) h2) (fT ZE K6))
theorem getD_some {α:Type} [Inhabited α] {l:List α} {k:Nat} {x:α} (h:l[k]?=some x):l.getD k default=x∧k<l.length:=by
 refine⟨by simp[List.getD,h],(List.getElem?_eq_some_iff.1 h).1⟩
theorem ad6.ag9 {nm:Nat→Nat} {s:CSt} {cells:List D1} (h:ad6 H nm s cells) (hF: ∀k,k<19→F (nm k)) (hp:s.bS.length=3) (hs:s.eL.length=4):VN H F (lD s) cells:=by
 obtain⟨⟨wc,hc,pc,vc,tc,rfl,q1,q2,q3,q4,q5⟩,⟨m,rows,j1,j2,j3⟩,m',rows',j4,j5,j6⟩:=h
 refine fT (q1.frz (aC aJ _) (hF _ (by omega))) (fT (q2.frz (aC aJ _) (hF _ (by omega))) (fT ?_ (fT ?_ (fT (q3.frz (aC aV _) (hF _ (by omega))) K6))))
 ·refine SH (hF _ (by omega)) j1 rfl (by simp[hp]) (by simp;omega) q4 fun i r' hr=> ?_
  rw[List.getElem?_map,Option.map_eq_some_iff] at hr
  obtain⟨p,hr,rfl⟩:=hr
  obtain⟨e1,e2⟩:=getD_some hr
  obtain⟨r,k1,k2⟩:=j3 i (by omega)
  rw[show aS s i=p from e1] at k2
  exact⟨rfl,r,by rw[Nat.zero_add];exact k1,k2.ag9 (hF _ (by omega)) (hF _ (by omega))⟩
 ·refine SH (hF _ (by omega)) j4 rfl (by simp[hs]) (by simp;omega) q5 fun i r' hr=> ?_
  rw[List.getElem?_map,Option.map_eq_some_iff] at hr
  obtain⟨p,hr,rfl⟩:=hr
  obtain⟨e1,e2⟩:=getD_some hr
  obtain⟨r,k1,k2⟩:=j6 i (by omega)
  rw[show bA s i=p from e1] at k2
  exact⟨rfl,r,by rw[Nat.zero_add];exact k1,k2.ag9 (hF _ (by omega)) (hF _ (by omega))⟩
theorem alT {r' r:List D1} {n id:Nat} {o:bC} (hF:F id) (ho:H id=some o) (hn:o.n=n) (hr:o.rows[0]?=some r) (h:VN H F r' r):Frz H F (.dN r') (.ptr n id 0 0):=
 .ptr r' n id 0 0 o r (fun j=>(r[j]?).getD .dead) hF ho hn hr (fun j d hd=>by obtain⟨e,h1,_⟩:=h.2 j d hd;rw[Nat.zero_add];simp[h1]) (fun j d hd=>by obtain⟨e,h1,h2⟩:=h.2 j d hd;simpa [h1] using h2)
theorem Rep.asA {X:Nat→Prop} {nx i0:Nat} {nm:Nat→Nat} {s:CSt} (h:Rep X H nx i0 nm s) (hp:s.bS.length=3) (hs:s.eL.length=4):CvD H (fun _=>True) id 0 (.one (.c (.dN (lD s)))) (.one (.c (.ptr 5 i0 0 0))):=by
 obtain⟨cells,h1,h2⟩:=h.st
 exact .frz (alT trivial h1 rfl rfl (h2.ag9 (fun _ _=>trivial) hp hs))
end
end Go.AM
end
section
namespace Go.Proofs.YtegiblhkjfiooaaGreat
open Go Go.AM
set_option maxRecDepth 100000
set_option maxHeartbeats 8000000
theorem GF:d8 Tryz.prog eM Tryz.f202 nF wE:=d8.mk Tryz.func202 (by kernel_rfl) G1
section
variable {H : aA} {nx : Nat} {K : D → aA → Nat → Prop}
theorem IV {Y:Nat→Prop} {i1:Nat} {es:List Ev} {kind who n:Int} (hh:ag7 Y H nx i1 es) (hl:es.length<1000)
 (h: ∀H' nx',nx≤nx'→ag7 Y H' nx' i1 (es++[⟨kind,who,n⟩])→(∀id,Y id→H' id=H id)→K (.tup []) H' nx'):aB Tryz.prog eM [.one (.c (.ptr 5 i1 0 0)),dI kind,dI who,dI n] H nx K:=by
 obtain⟨⟨d,a,b,c,e,h1,hd⟩,⟨h2,h3⟩,hy⟩:=hh
 have k1: ∀k,(i1=nx+k)=False:=fun k=>eq_false (by omega)
 have k2: ∀k,(nx+k=i1)=False:=fun k=>eq_false (by omega)
 refine GF rfl fun Q hQ=> ?_
 unfold nF
 rcases hd with⟨rfl,rfl⟩|⟨ev,cap,rfl,⟨m,rows,g1,g2,g3,g4,g5,g6⟩,g7,g8,g9⟩
 ·repeat' (first| (with_reducible first| (refine hK _ _ _ ?_;clear hK K)|refine fun(cap:Nat) (hcap:_≤cap)=> ?_|refine fun(hcp:_≤cap)=> ?_)| (with_reducible refine Y2 fun K hK=> ?_)<;>(simp only[go_sem,h1,k1,k2])| ((with_reducible refine Y0 ?_);simp only[AQ.then,AQ.blk])|fail)
  refine hQ _ _ _ _ _ (.inl rfl) rfl (h _ _ (by omega) ⟨⟨_,a,b,c,e,by simp only[aA.set,if_true];rfl,.inr ⟨nx+10,cap,rfl,⟨_,_,by simp only[aA.set,k2,if_false,if_true];rfl,rfl,by simp,by simp,by simpa using hcap,by simp⟩,by omega,fun hn=>by have:=hy _ hn;omega,by omega⟩⟩,⟨by omega,h3⟩,fun id hi=>by have:=hy id hi;omega⟩ fun id hi=> ?_)
  have e0:=hy id hi
  have e1:id≠i1:=fun he=>h3 (he▸hi)
  simp only[aA.set,e1,show ¬id=nx+9 by omega,show ¬id=nx+10 by omega,if_false]
 ·have k3: ∀k,(ev=nx+k)=False:=fun k=>eq_false (by omega)
  have k4: ∀k,(nx+k=ev)=False:=fun k=>eq_false (by omega)
  have k5:=eq_false g9
  have k6:=eq_false (Ne.symm g9)
  rw[List.drop_zero] at g2
  subst g2
  repeat' (first| (with_reducible first| (refine hK _ _ _ ?_;clear hK K)|refine fun(cap:Nat) (hcap:_≤cap)=> ?_|refine fun(hcp:_≤cap)=> ?_)| (with_reducible refine Y2 fun K hK=> ?_)<;>(simp only[go_sem,h1,k1,k2,k3,k4,k5,k6,g1])| ((with_reducible refine Y0 ?_);simp only[AQ.then,AQ.blk])|refine⟨by omega,?_⟩|fail)
  refine hQ _ _ _ _ _ (.inl rfl) rfl (h _ _ (by omega) ⟨⟨_,a,b,c,e,by simp only[aA.set,if_true];rfl,.inr ⟨nx+10,cap,by simp,⟨_,_,by simp only[aA.set,k2,if_false,if_true];rfl,by simp[eEv],by simp,by simp,by simpa using hcap,by simp⟩,by omega,fun hn=>by have:=hy _ hn;omega,by omega⟩⟩,⟨by omega,h3⟩,fun id hi=>by have:=hy id hi;omega⟩ fun id hi=> ?_)
  have e0:=hy id hi
  have e1:id≠i1:=fun he=>h3 (he▸hi)
  have e2:id≠ev:=fun he=>g8 (he▸hi)
  simp only[aA.set,aA.del,e1,e2,show ¬id=nx+9 by omega,show ¬id=nx+10 by omega,if_false]
theorem aqA {X:Nat→Prop} {i0 i1:Nat} {nm:Nat→Nat} {s:CSt} {es:List Ev} {kind who n:Int} (hB:m8 X H nx i0 i1 nm s es) (hl:es.length<1000)
 (h: ∀H' nx',nx≤nx'→m8 X H' nx' i0 i1 nm s (es++[⟨kind,who,n⟩])→(∀id,X id→H' id=H id)→K (.tup []) H' nx'):aB Tryz.prog eM [.one (.c (.ptr 5 i1 0 0)),dI kind,dI who,dI n] H nx K:=by
 refine IV hB.hap hl fun H' nx' hx hc hfr=>h H' nx' hx ⟨hB.rep.frame hx (hfr _ (.inr (.inl rfl))) (fun k hk=>hfr _ (.inr (.inr ⟨k,hk,rfl⟩))) fun id hid=>⟨?_,fun he=>hB.rep.i0.2 (he▸hid),fun k hk he=>hB.rep.names.av k hk (he▸hid)⟩,hc⟩ fun id hid=>hfr id (.inl hid)
 have:=hB.rep.x id hid;omega
theorem acE {X:Nat→Prop} {H0:aA} {i0 i1:Nat} {nm:Nat→Nat} {s:CSt} {es:List Ev} {kind who n:Int} (hB:m8 X H nx i0 i1 nm s es∧ ∀id,X id→H id=H0 id) (hl:es.length<1000)
 (h: ∀H' nx',nx≤nx'→m8 X H' nx' i0 i1 nm s (es++[⟨kind,who,n⟩])→(∀id,X id→H' id=H0 id)→K (.tup []) H' nx'):aB Tryz.prog eM [.one (.c (.ptr 5 i1 0 0)),dI kind,dI who,dI n] H nx K:=
 aqA hB.1 hl fun H' nx' hx h1 h2=>h H' nx' hx h1 fun id hid=>(h2 id hid).trans (hB.2 id hid)
theorem rS (l:List iB) (f:FuncId) (caps:List D1) (p:iB→Bool) (hl:l.length<2^40) (hc:caps.all D1.dT=true) (hf: ∀x∈l,∀(H:aA) (nx:Nat) (K:D→aA→Nat→Prop),K (dB (p x)) H nx→aB Tryz.prog f (dA (eCJ x)::caps.map fun d=>.one (.c d)) H nx K):
 aB Tryz.prog bY [dS (l.map eCJ),.one (.c (.clo f caps))] .nil 0 fun r _ _=>r.plain=true∧r=dI (aW p l):=by
 refine qS rfl fun Q hQ=> ?_
 unfold fD
 repeat' (first| (with_reducible first| (refine hK _ _ _ ?_;clear hK K)|refine Z1 ?_|refine Z3 fun KB hKB=> ?_)| (with_reducible refine Y2 fun K hK=> ?_)<;>(simp only[go_sem])|fail)
 (have hKX:=hKB;clear hKB);(refine aQ.loop (α:={k:Nat//k≤l.length∧(∀i,i<k→p (l.getD i default)=false)}) (fun u=>en [(8,dI u.1),(7,dI l.length),(1,.one (.c (.clo f caps))),(0,dS (l.map eCJ))]) (fun _=>.nil) _ (fun u=>l.length-u.1) ⟨0,by omega,(by intros;first|trivial|omega)⟩ (dL (Nat.le_refl _) (by repeat' (first| (with_reducible first|exact C1|refine C2 ?_ ?_)| ((with_reducible refine C0 ?_);exact CH (by assumption))| ((with_reducible refine D0 ?_);first|exact CA rfl|refine CJ ?_)|fail))) ?_);(rintro⟨k,hk,hinv⟩ KL hKL)
 by_cases hlt:k<l.length
 ·have hmem:l.getD k default∈l:=by simp[List.getD,hlt]
  repeat' (first| (with_reducible first| (refine hK _ _ _ ?_;clear hK K)| (refine hA ?_;clear hA hB A B)| (refine hB ?_;clear hA hB A B)|refine Z1 ?_|refine Z2 ?_|refine Z3 fun KB hKB=> ?_|refine Z4 (by omega) ?_)| (first| (with_reducible first|refine Y2 fun K hK=> ?_|refine Y3 fun A B hA hB=> ?_)| (with_reducible refine hf _ hmem _ _ _ ?_))<;>(simp only[go_sem];try simp (disch:=omega) only[Iw])| ((with_reducible refine Y8 ?_);try simp only[AQ.then,AQ.blk,reduceIte,Nat.reduceEqDiff])| ((with_reducible refine Y0 ?_);simp only[AQ.then,AQ.blk])| ((with_reducible refine Z8 (fun h=> ?_) (fun h=> ?_))<;>try subst h)|refine⟨by omega,?_⟩| (with_reducible refine hKB _ _ _ ?_)|fail)
  ·refine bJ hQ _ rfl rfl (nQ (Eq.symm (AH (by omega) (by assumption) hinv)))
  · (refine hKL _ _ _ ⟨k+1,by omega,nG hinv (by assumption)⟩ (by omega) (by(try dsimp only);omega) (dL (Nat.le_refl _) (by repeat' (first| (with_reducible first|exact C1|refine C2 ?_ ?_)| ((with_reducible refine C0 ?_);exact CH (by assumption))| ((with_reducible refine D0 ?_);first|exact CA rfl|refine CJ ?_)|fail))))
 ·repeat' (first| (with_reducible first| (refine hK _ _ _ ?_;clear hK K)| (refine hB ?_;clear hA hB A B)|refine Z1 ?_|refine Z5 (by omega) ?_|refine hKX _ _ _ ?_)| (with_reducible first|refine Y2 fun K hK=> ?_|refine Y3 fun A B hA hB=> ?_)<;>(simp only[go_sem])| ((with_reducible first|refine Y8 ?_|refine Y9 ?_);try simp only[AQ.then,AQ.blk,reduceIte,Nat.reduceEqDiff])|fail)
  ·refine bJ hQ _ rfl rfl (nQ (Eq.symm (rI fun i hi=>hinv i (by omega))))
theorem jI {l:List iB} {f:FuncId} {caps caps0:List D1} {p:iB→Bool} {d:D} (hl:l.length<2^40) (hc:caps.all D1.dT=true) (hd:CvD H (fun _=>True) id 0 (dS (l.map eCJ)) d) (hk:CvD H (fun _=>True) id 0 (.one (.c (.clo f caps))) (.one (.c (.clo f caps0)))) (hf: ∀x∈l,∀(H:aA) (nx:Nat) (K:D→aA→Nat→Prop),K (dB (p x)) H nx→aB Tryz.prog f (dA (eCJ x)::caps.map fun d=>.one (.c d)) H nx K)
 (h:K (dI (aW p l)) H nx):aB Tryz.prog bY [d,.one (.c (.clo f caps0))] H nx K:=
 (rS l f caps p hl hc hf).pure rfl (aI ⟨hd,hk,trivial⟩) fun r hr=>hr▸h
theorem o9 (l:List iB) (f:FuncId) (caps:List D1) (p:iB→Bool) (hl:l.length<2^40) (hc:caps.all D1.dT=true) (hf: ∀x∈l,∀(H:aA) (nx:Nat) (K:D→aA→Nat→Prop),K (dB (p x)) H nx→aB Tryz.prog f (dA (eCJ x)::caps.map fun d=>.one (.c d)) H nx K):
 aB Tryz.prog cO [dS (l.map eCJ),.one (.c (.clo f caps))] .nil 0 fun r _ _=>r.plain=true∧r=dB (decide (0≤aW p l)):=by
 refine oI rfl fun Q hQ=> ?_
 unfold eF
 repeat' (first| (with_reducible first| (refine hK _ _ _ ?_;clear hK K)|refine Z1 ?_)| (first| (with_reducible refine Y2 fun K hK=> ?_)| (refine jI hl hc (aF rfl) (iV hc) hf ?_))<;>(simp only[go_sem])| ((with_reducible refine Y8 ?_);try simp only[AQ.then,AQ.blk,reduceIte,Nat.reduceEqDiff])|fail)
 all_goals exact bJ hQ _ rfl rfl rfl
theorem pJ {l:List iB} {f:FuncId} {caps caps0:List D1} {p:iB→Bool} {d:D} (hl:l.length<2^40) (hc:caps.all D1.dT=true) (hd:CvD H (fun _=>True) id 0 (dS (l.map eCJ)) d) (hk:CvD H (fun _=>True) id 0 (.one (.c (.clo f caps))) (.one (.c (.clo f caps0)))) (hf: ∀x∈l,∀(H:aA) (nx:Nat) (K:D→aA→Nat→Prop),K (dB (p x)) H nx→aB Tryz.prog f (dA (eCJ x)::caps.map fun d=>.one (.c d)) H nx K)
 (h:K (dB (decide (0≤aW p l))) H nx):aB Tryz.prog cO [d,.one (.c (.clo f caps0))] H nx K:=
 (o9 l f caps p hl hc hf).pure rfl (aI ⟨hd,hk,trivial⟩) fun r hr=>hr▸h
theorem R0 (j:iB) (n:Int):aB Tryz.prog s9 [dA (eCJ j),.one (.c (.dN [cI n]))] .nil 0 fun rr _ _=>rr.plain=true∧rr=dB (isC n j):=by
 refine O1 rfl fun Q hQ=> ?_
 unfold xH
 repeat' (first| (with_reducible first| (refine hK _ _ _ ?_;clear hK K)|refine Z1 ?_)| (with_reducible refine Y2 fun K hK=> ?_)<;>(simp only[go_sem])| ((with_reducible refine Y8 ?_);try simp only[AQ.then,AQ.blk,reduceIte,Nat.reduceEqDiff])|fail)
 all_goals first|with_reducible refine bJ hQ _ rfl rfl ?_|skip
 all_goals first|exact pF (by omega)|exact wT (by omega)|exact pO (by omega)|rfl
theorem SC {j:iB} {n:Int} (h:K (dB (isC n j)) H nx):aB Tryz.prog s9 [dA (eCJ j),.one (.c (.dN [cI n]))] H nx K:=
 (R0 j n).pure rfl (aI ⟨aF rfl,aF rfl,trivial⟩) (fun r hr=>hr▸h)
theorem X0 (p:fV) (n:Int) (hl:p.out.length<2^40):aB Tryz.prog lO [dA (cD p),dI n] .nil 0 fun rr _ _=>rr.plain=true∧rr=dI (aW (isC n) p.out):=by
 refine VJ rfl fun Q hQ=> ?_
 unfold AW
 repeat' (first| (with_reducible first| (refine hK _ _ _ ?_;clear hK K)|refine Z1 ?_)| (first| (with_reducible refine Y2 fun K hK=> ?_)| (refine jI (l:=p.out) (caps:=[.dN [cI n]]) (p:=isC n) hl rfl (aF rfl) (HQ ⟨qB rfl trivial rfl rfl rfl,trivial⟩) (fun x _ H nx K h=>SC h) ?_))<;>(simp only[go_sem])| ((with_reducible refine Y8 ?_);try simp only[AQ.then,AQ.blk,reduceIte,Nat.reduceEqDiff])|fail)
 all_goals first|with_reducible refine bJ hQ _ rfl rfl ?_|skip
 all_goals first|rfl|exact nQ (by omega)
theorem LZ {p:fV} {n:Int} (hl:p.out.length<2^40) {d0:D} (hd0:CvD H (fun _=>True) id 0 (dA (cD p)) d0) (h:K (dI (aW (isC n) p.out)) H nx):aB Tryz.prog lO [d0,dI n] H nx K:=
 (X0 p n hl).pure rfl (aI ⟨hd0,aF rfl,trivial⟩) (fun r hr=>hr▸h)
theorem XP (m:List Rng) (q:Req) (hl:m.length<2^40):aB Tryz.prog sO [dS (m.map eY),dA (d9 q)] .nil 0 fun rr _ _=>rr.plain=true∧rr=dI (y4 m q):=by
 refine VK rfl fun Q hQ=> ?_
 unfold BI
 have hwh:cS m (bE q.addr q.many q.wrap)<m.length:=by have hlt:=QA (p:=(inR · ((bE q.addr q.many q.wrap).getD 0 default))) (l:=m);unfold cS;grind
 repeat' (first| (with_reducible first| (refine hK _ _ _ ?_;clear hK K)| (refine hA ?_;clear hA hB A B)| (refine hB ?_;clear hA hB A B)|refine Z1 ?_|refine Z2 ?_|refine Z6 (fun h=> ?_) fun h=> ?_)| (first| (with_reducible first|refine Y2 fun K hK=> ?_|refine Y3 fun A B hA hB=> ?_)| (with_reducible refine EH hl ?_))<;>(simp only[go_sem])| ((with_reducible refine Y8 ?_);try simp only[AQ.then,AQ.blk,reduceIte,Nat.reduceEqDiff])|refine⟨by omega,?_⟩|fail)
 all_goals first|with_reducible refine bJ hQ _ rfl rfl ?_|skip
 all_goals first|exact nQ (by unfold y4;rw[if_pos (by omega)])|exact nQ (by unfold y4;rw[if_neg (by omega)])
theorem DI {m:List Rng} {q:Req} (hl:m.length<2^40) (h:K (dI (y4 m q)) H nx):aB Tryz.prog sO [dS (m.map eY),dA (d9 q)] H nx K:=
 (XP m q hl).pure rfl (aI ⟨aF rfl,aF rfl,trivial⟩) (fun r hr=>hr▸h)
theorem FM (c:Cfg) (who st:Nat) (i:Int) (j:iB) (hp:c.dG.length=3) (ha:hT c who j.n):aB Tryz.prog jD [dA (eCJ j),.one (.c (.dN (cH c))),.one (.c (.dN [cI who])),.one (.c (.dN [cI i])),.one (.c (.dN [cI st]))] .nil 0 fun rr _ _=>rr.plain=true∧rr=dB (decide ((bF c who j.n).id=i∧ ¬j.left=st)):=by
 refine EF rfl fun Q hQ=> ?_
 unfold lR
 repeat' (first| (with_reducible first| (refine hK _ _ _ ?_;clear hK K)|refine Z1 ?_)| (first| (with_reducible first|refine Y2 fun K hK=> ?_|refine Y6 (fun h=> ?_) fun h=> ?_)| (with_reducible refine fI hp ha ?_))<;>(simp only[go_sem])| ((with_reducible refine Y8 ?_);try simp only[AQ.then,AQ.blk,reduceIte,Nat.reduceEqDiff])|fail)
 all_goals first|with_reducible refine bJ hQ _ rfl rfl ?_|skip
 all_goals first|exact pF (by omega)|exact wT (by omega)|exact pO (by omega)|rfl
theorem E7 {c:Cfg} {who:Nat} {st:Nat} {i:Int} {j:iB} (hp:c.dG.length=3) (ha:hT c who j.n) (h:K (dB (decide ((bF c who j.n).id=i∧ ¬j.left=st))) H nx):aB Tryz.prog jD [dA (eCJ j),.one (.c (.dN (cH c))),.one (.c (.dN [cI who])),.one (.c (.dN [cI i])),.one (.c (.dN [cI st]))] H nx K:=
 (FM c who st i j hp ha).pure rfl (aI ⟨aF rfl,aF rfl,aF rfl,aF rfl,aF rfl,trivial⟩) (fun r hr=>hr▸h)
theorem H8 (c:Cfg) (s:CSt) (who st:Nat) (hb:aY c) (hs:COk c s) (hw:who<3) (hst:st<4):aB Tryz.prog kQ [.one (.c (.dN (lD s))),dA (cH c),dI who,dI st] .nil 0 fun rr _ _=>rr.plain=true∧rr=dB (decide (UE c s who st)):=by
 refine GG rfl fun Q hQ=> ?_
 unfold nB
 obtain⟨hp3,hpr⟩:=i7 hb
 have hprw:=hpr who
 have hml:=hb.1.1
 have hpl:=hs.pl
 have hpo:=hs.port who hw
 obtain⟨p,hpd⟩: ∃p,p=s.bS.getD who default:=⟨_,rfl⟩
 have hM:UE c s who st=(0<p.queue.length∧p.out.length<4∧y4 c.map (bF c who (p.queue.getD 0 default))=st∧ ∀j∈p.out,(bF c who j.n).id=(bF c who (p.queue.getD 0 default)).id→j.left=st):=by subst hpd;rfl
 rw[show aS s who=p from hpd.symm] at hpo
 obtain⟨hn1,hn2⟩:=hpo.next
 obtain⟨hq1,hq2⟩:=hpo.ql
 have hq0:=hpo.queue 0
 have hol:=hpo.ol
 repeat' (first| (with_reducible first| (refine hK _ _ _ ?_;clear hK K)| (refine hA ?_;clear hA hB A B)| (refine hB ?_;clear hA hB A B)|refine Z1 ?_|refine Z2 ?_|refine Z6 (fun h=> ?_) fun h=> ?_)| (first| (with_reducible first|refine Y2 fun K hK=> ?_|refine Y3 fun A B hA hB=> ?_|refine Y6 (fun h=> ?_) fun h=> ?_)| (with_reducible refine DI (by omega) ?_)| (with_reducible refine fI hp3 (hpo.asks hw (by omega) (by omega)) ?_)| (refine pJ (l:=p.out) (caps:=[.dN (cH c),.dN [cI who],.dN [cI (bF c who (p.queue.getD 0 default)).id],.dN [cI st]]) (p:=fun j=>decide ((bF c who j.n).id=(bF c who (p.queue.getD 0 default)).id∧ ¬j.left=st)) (by omega) rfl (aF rfl) (HQ ⟨qB rfl trivial rfl rfl rfl,qB rfl trivial rfl rfl rfl,qB rfl trivial rfl rfl rfl,qB rfl trivial rfl rfl rfl,trivial⟩) (fun x hx H nx K h=>E7 hp3 (hpo.asks hw (hpo.out x hx).2.1.1 (by have:=(hpo.out x hx).2.1.2;omega)) h) ?_))<;>(simp only[go_sem,hpd.symm])| ((with_reducible refine Y8 ?_);try simp only[AQ.then,AQ.blk,reduceIte,Nat.reduceEqDiff])|refine⟨by omega,?_⟩|fail)
 all_goals first|with_reducible refine bJ hQ _ rfl rfl ?_|skip
 all_goals have hr:y4 c.map (List.getD (c.dG.getD who default) (p.queue.getD 0 default).toNat default)=y4 c.map (bF c who (p.queue.getD 0 default)):=rfl
 ·exact pO (by rw[hM];omega)
 ·exact pO (by rw[hM];omega)
 ·exact pO (by rw[hM];omega)
 ·refine pF ?_
  rw[hM,cL]
  refine⟨fun h=>⟨by omega,by omega,by omega,fun j hj hi=>Classical.byContradiction fun hn=>h ⟨j,hj,decide_eq_true ⟨hi,hn⟩⟩⟩,fun h ⟨j,hj,hd⟩=> ?_⟩
  have hd:=of_decide_eq_true hd
  exact hd.2 (h.2.2.2 j hj hd.1)
theorem xV {c:Cfg} {s:CSt} {who:Nat} {st:Nat} (hb:aY c) (hs:COk c s) (hw:who<3) (hst:st<4) {d0:D} (hd0:CvD H (fun _=>True) id 0 (.one (.c (.dN (lD s)))) d0) (h:K (dB (decide (UE c s who st))) H nx):aB Tryz.prog kQ [d0,dA (cH c),dI who,dI st] H nx K:=
 (H8 c s who st hb hs hw hst).pure rfl (aI ⟨hd0,aF rfl,aF rfl,aF rfl,trivial⟩) (fun r hr=>hr▸h)
end
end Go.Proofs.YtegiblhkjfiooaaGreat
end
section
namespace Go.AM
abbrev RY:=List Job
def JU (l:RY):List D1:=[.isl (l.map aK)]
theorem agR {l:RY}:(JU l).length=1:=rfl
theorem aaG {l:RY}:(JU l).take 1=[.isl (l.map aK)]:=rfl
theorem abS {l:RY}:(JU l).drop 1=[]:=rfl
theorem aeF {l:RY} {cs:List D1} {k:Nat}:iX cs (k+1) (JU l)=iX cs (k+1) [.isl (l.map aK)]:=rfl
theorem amM (l:RY):(JU l).length=1∧(JU l).all D1.dT=true:=⟨rfl,rfl⟩
attribute [go_sem] agR aaG abS aeF
end Go.AM
namespace Go.Proofs.YtegiblhkjfiooaaGreat
open Go Go.AM
set_option maxRecDepth 100000
set_option maxHeartbeats 8000000
section
variable {H : aA} {nx : Nat} {K : D → aA → Nat → Prop}
theorem acB {l:List Job} (h: ∀i,i<l.length→1≤i→aa0 (l.getD (i-1) default) (l.getD i default)<0):gQ l:=by
 have h2: ∀(d i:Nat) (hi:i+d+1<l.length),nA (l.getD i default) (l.getD (i+d+1) default)=true:=by
  intro d
  induction d with
  |zero=>intro i hi;have:=h (i+1) (by omega) (by omega);rw[B1] at this;simpa using this
  |succ d ih=>
   intro i hi
   have h3:=ih i (by omega)
   have h4:=h (i+d+2) (by omega) (by omega)
   rw[B1,show i+d+2-1=i+d+1 by omega] at h4
   rw[show i+(d+1)+1=i+d+2 by omega]
   rw[nN] at*
   omega
 refine List.pairwise_iff_getElem.2 fun i j hi hj hij=> ?_
 have:=h2 (j-i-1) i (by omega)
 rw[show i+(j-i-1)+1=j by omega] at this
 simpa [List.getD,hi,hj] using this
theorem UQ (l:List Job) (hl:l.length<2^20):aB Tryz.prog pP [dS (l.map aK)] .nil 0 fun rr _ _=>rr.plain=true∧rr=dB (decide (gQ l)):=by
 refine RQ rfl fun Q hQ=> ?_
 unfold yQ
 repeat' (first| (with_reducible first| (refine hK _ _ _ ?_;clear hK K)|refine Z1 ?_|refine Z3 fun KB hKB=> ?_)| (with_reducible refine Y2 fun K hK=> ?_)<;>(simp only[go_sem])|fail)
 (have hKX:=hKB;clear hKB)
 refine aQ.wI 0 (β:=Nat) (fun b k=>en [(3,dI k),(0,dS (l.map aK))]) (fun b k=>hp []) (fun k=>(1≤k∧(k≤l.length∨k=1))∧ ∀i,i<k→i<l.length→1≤i→aa0 (l.getD (i-1) default) (l.getD i default)<0) (fun k=>l.length-k) 1 (dL (Nat.le_refl _) (by repeat' (first| (with_reducible first|exact C1|refine C2 ?_ ?_)| ((with_reducible refine D0 ?_);exact CA rfl)|fail))) ⟨by omega,fun i hi _ _=>by omega⟩ ?_
 rintro k ⟨hk,hinv⟩ KL hKL
 by_cases hlt:k<l.length
 ·have e1:((k:Int)-1).toNat=k-1:=by omega
  repeat' (first| (with_reducible first| (refine hK _ _ _ ?_;clear hK K)| (refine hA ?_;clear hA hB A B)| (refine hB ?_;clear hA hB A B)|refine Z1 ?_|refine Z2 ?_|refine Z3 fun KB hKB=> ?_|refine Z4 (by omega) ?_|refine Z6 (fun h=> ?_) fun h=> ?_)| (first| (with_reducible first|refine Y2 fun K hK=> ?_|refine Y3 fun A B hA hB=> ?_)| (with_reducible refine lS ?_))<;>(simp only[go_sem,e1];try simp (disch:=omega) only[Iw])| ((with_reducible refine Y8 ?_);try simp only[AQ.then,AQ.blk,reduceIte,Nat.reduceEqDiff])| ((with_reducible refine Y0 ?_);simp only[AQ.then,AQ.blk])|refine⟨by omega,?_⟩| (with_reducible refine hKB _ _ _ ?_)|fail)
  ·refine bJ hQ (dB false) rfl rfl (pO fun hs=> ?_)
   have h5:=List.pairwise_iff_getElem.1 hs (k-1) k (by omega) hlt (by omega)
   have h6:aa0 (l.getD (k-1) default) (l.getD k default)<0:=by rw[B1];simpa [List.getD,hlt,show k-1<l.length by omega] using h5
   omega
  ·exact hKL _ _ _ (k+1) (by omega) (dL (Nat.le_refl _) (by repeat' (first| (with_reducible first|exact C1|refine C2 ?_ ?_)| ((with_reducible refine D0 ?_);exact CA rfl)|fail))) ⟨by omega,fun i hi hl2 h1=>by
    rcases Nat.lt_succ_iff_lt_or_eq.1 hi with h2|h2
    ·exact hinv i h2 hl2 h1
    ·subst h2;omega⟩ (by omega)
 ·repeat' (first| (with_reducible first| (refine hK _ _ _ ?_;clear hK K)| (refine hB ?_;clear hA hB A B)|refine Z1 ?_|refine Z5 (by omega) ?_|refine hKX _ _ _ ?_)| (with_reducible first|refine Y2 fun K hK=> ?_|refine Y3 fun A B hA hB=> ?_)<;>(simp only[go_sem])| ((with_reducible first|refine Y8 ?_|refine Y9 ?_);try simp only[AQ.then,AQ.blk,reduceIte,Nat.reduceEqDiff])|fail)
  exact bJ hQ (dB true) rfl rfl (wT (acB fun i hi h1=>hinv i (by omega) hi h1))
theorem JE {l:List Job} (hl:l.length<2^20) {d0:D} (hd0:CvD H (fun _=>True) id 0 (dS (l.map aK)) d0) (h:K (dB (decide (gQ l))) H nx):aB Tryz.prog pP [d0] H nx K:=
 (UQ l hl).pure rfl (aI ⟨hd0,trivial⟩) (fun r hr=>hr▸h)
theorem JW (r:Rsp) (hr:r.data.length<2^40):aB Tryz.prog iT [dA (qY r)] .nil 0 fun rr _ _=>rr.plain=true∧rr=dB (decide (r=kO)):=by
 refine IE rfl fun Q hQ=> ?_
 unfold pI
 repeat' (first| (with_reducible first| (refine hK _ _ _ ?_;clear hK K)|refine Z1 ?_)| (with_reducible first|refine Y2 fun K hK=> ?_|refine Y6 (fun h=> ?_) fun h=> ?_)<;>(simp only[go_sem])| ((with_reducible refine Y8 ?_);try simp only[AQ.then,AQ.blk,reduceIte,Nat.reduceEqDiff])|fail)
 all_goals first|with_reducible refine bJ hQ _ rfl rfl ?_|skip
 all_goals (obtain⟨r1,r2,r3⟩:=r;unfold kO;dsimp only at*;first|exact wT (by simp_all)|exact pO (by simp_all)|exact pF (by simp_all)|exact pF (by simp only[Rsp.mk.injEq];rw[←List.length_eq_zero_iff];omega))
theorem KC {r:Rsp} (hr:r.data.length<2^40) (h:K (dB (decide (r=kO))) H nx):aB Tryz.prog iT [dA (qY r)] H nx K:=
 (JW r hr).pure rfl (aI ⟨aF rfl,trivial⟩) (fun r hr=>hr▸h)
theorem XN (r:Rsp) (hr:r.data.length<2^40):aB Tryz.prog nZ [dA (qY r)] .nil 0 fun rr _ _=>rr.plain=true∧rr=dB (decide (qN r)):=by
 refine VR rfl fun Q hQ=> ?_
 unfold BA
 repeat' (first| (with_reducible first| (refine hK _ _ _ ?_;clear hK K)|refine Z1 ?_)| (first| (with_reducible first|refine Y2 fun K hK=> ?_|refine Y6 (fun h=> ?_) fun h=> ?_)| (with_reducible refine eG ?_)| (refine wZ hr (aF rfl) ?_))<;>(simp only[go_sem])| ((with_reducible refine Y8 ?_);try simp only[AQ.then,AQ.blk,reduceIte,Nat.reduceEqDiff])|fail)
 all_goals first|with_reducible refine bJ hQ _ rfl rfl ?_|skip
 all_goals first|exact pO (by unfold qN;grind)|exact pF (by unfold qN;grind)|exact wT (by unfold qN;grind)
theorem XR {r:Rsp} (hr:r.data.length<2^40) (h:K (dB (decide (qN r))) H nx):aB Tryz.prog nZ [dA (qY r)] H nx K:=
 (XN r hr).pure rfl (aI ⟨aF rfl,trivial⟩) (fun r hr=>hr▸h)
theorem IL {r:Rsp} (hr:r.data.length<2^40) (h:K (dB (decide (r=kO))) H nx):aB Tryz.prog iT [.one (.agg [cI r.id,cI r.code,.isl (r.data.map aE)])] H nx K:=KC hr h
theorem IZ {r:Rsp} (hr:r.data.length<2^40) (h:K (dB (decide (qN r))) H nx):aB Tryz.prog nZ [.one (.agg [cI r.id,cI r.code,.isl (r.data.map aE)])] H nx K:=XR hr h
def UZ (l:List Job):List (List Int×Int):=l.map fun j=>([j.who,j.n],1)
theorem alB {l:List Job} {j:Job} (h:key j∉l.map key):kI (UZ l) [j.who,j.n]=none:=by
 unfold kI UZ
 rw[Option.map_eq_none_iff,List.find?_eq_none]
 intro p hp
 obtain⟨x,hx,rfl⟩:=List.mem_map.1 hp
 simp only[List.cons.injEq,and_true,decide_eq_true_eq]
 intro he
 exact h (List.mem_map.2 ⟨x,hx,by simp[key,he.1,he.2]⟩)
theorem akZ {l:List Job} {j:Job} (h:key j∉l.map key):wQ (UZ l) [j.who,j.n] 1=UZ (l++[j]):=by
 induction l with
 |nil=>rfl
 |cons x l ih=>
  simp only[List.map_cons,List.mem_cons,not_or] at h
  have hne: ¬[j.who,j.n]=[x.who,x.n]:=fun he=>h.1 (by simp only[List.cons.injEq,and_true] at he;simp[key,he.1,he.2])
  show wQ (([x.who,x.n],1)::UZ l) _ _=_
  simp only[wQ,hne,if_false,ih h.2]
  rfl
theorem aj3 {l:List Job}:(UZ l).length=l.length:=by simp[UZ]
theorem am7 {l:List Int} {k:Nat} (h:k<l.length):(l.take (k+1)).sum=(l.take k).sum+l.getD k default:=by
 rw[List.take_succ_eq_append_getElem h,List.sum_append];simp[List.getD,h]
theorem aiE {l:List Int} (h:l.length=3):(l.take 3).sum=l.getD 0 default+l.getD 1 default+l.getD 2 default:=by
 match l,h with
 | [a,b,c],_=>simp[List.getD];omega
theorem aa1 {w u:List Int} (h:ON w u):KT w u:=⟨⟨by rw[h.wl];rfl,h.wr⟩,by rw[h.hl];rfl,h.hr⟩
theorem ID (c:Cfg) (s:TSt) (hb:aY c) (hs:rL c s):aB Tryz.prog kP [dA (cH c),dA (eSt s)] .nil 0 fun rr _ _=>rr.plain=true∧rr=dB true:=by
 refine FT rfl fun Q hQ=> ?_
 unfold nK
 obtain⟨hp3,hp12⟩:=i7 hb
 have hatm:=aa1 hs.atm
 have hwl:=hs.atm.wl
 have hhl:=hs.atm.hl
 have hal:=hs.mF
 have hls:=hs.lens hb
 have hag:=hs.BQ
 have hsum3:=aiE hal
 have hcnt:=hs.count
 have hd: ∀j∈s.wait++s.done++s.told,j.rsp.data.length<2^40:=fun j hj=>by
  simp only[List.mem_append] at hj
  rcases hj with(hj|hj)|hj
  ·rw[hs.TM j hj];decide
  ·have:=(hs.TK j (by simp[hj])).1.2.2.1;omega
  ·have:=(hs.TK j (by simp[hj])).1.2.2.1;omega
 repeat' (first| (with_reducible first| (refine hK _ _ _ ?_;clear hK K)| (refine hB ?_;clear hA hB A B)|refine Z1 ?_|refine Z2 ?_|refine Z3 fun KB hKB=> ?_)| (first| (with_reducible first|refine Y2 fun K hK=> ?_|refine Y3 fun A B hA hB=> ?_|refine Y5 (by omega) ?_)| (refine MF (w:=s.words) (u:=s.holds) (by omega) (by omega) (aF rfl) ?_)| (refine JE (l:=s.wait) (by omega) (aF rfl) ?_)| (refine JE (l:=s.done) (by omega) (aF rfl) ?_))<;>(simp only[go_sem,eq_true hatm,eq_true hs.K8,eq_true hs.KZ])|fail)
 (have hKX:=hKB;clear hKB)
 refine aQ.wI 0 (β:=Nat) (fun b k=>en [(38,dI k),(37,dI s.asked.length),(36,dS (s.asked.map aE)),(5,dI (s.asked.take k).sum),(3,.one (.c (.dN (eSt s)))),(2,.one (.c (.dN (cH c))))]) (fun b k=>.nil) (fun k=>k≤3∧0≤(s.asked.take k).sum∧(s.asked.take k).sum≤12*k) (fun k=>3-k) 0 (dL (Nat.le_refl _) (by repeat' (first| (with_reducible first|exact C1|refine C2 ?_ ?_)| ((with_reducible refine D0 ?_);first|exact CA rfl|exact CI rfl (by simp) rfl rfl rfl)|fail))) ⟨by omega,by simp,by simp⟩ ?_
 rintro k ⟨hk,h1,h2⟩ KL hKL
 by_cases hlt:k<3
 ·have hg:=hag k hlt
  have hst:=am7 (l:=s.asked) (k:=k) (by omega)
  have hpk:=hp12 k
  repeat' (first| (with_reducible first| (refine hK _ _ _ ?_;clear hK K)| (refine hA ?_;clear hA hB A B)| (refine hB ?_;clear hA hB A B)|refine Z1 ?_|refine Z2 ?_|refine Z3 fun KB hKB=> ?_|refine Z4 (by omega) ?_|refine Z5 (by omega) ?_)| (first| (with_reducible first|refine Y2 fun K hK=> ?_|refine Y3 fun A B hA hB=> ?_)| (with_reducible refine eG ?_))<;>(simp only[go_sem];try simp (disch:=omega) only[Iw])| ((with_reducible refine Y0 ?_);simp only[AQ.then,AQ.blk])|refine⟨by omega,?_⟩| (with_reducible refine hKB _ _ _ ?_)|fail)
  exact hKL _ _ _ (k+1) (by omega) (by rw[hst];exact dL (by omega) (by repeat' (first| (with_reducible first|exact C1|refine C2 ?_ ?_)| ((with_reducible refine D0 ?_);exact CA rfl)|fail))) ⟨by omega,by rw[hst];omega,by rw[hst];omega⟩ (by omega)
 have hk3:k=3:=by omega
 subst hk3
 repeat' (first| (with_reducible first| (refine hK _ _ _ ?_;clear hK K)| (refine hB ?_;clear hA hB A B)|refine Z1 ?_|refine Z3 fun KB hKB=> ?_|refine Z5 (by omega) ?_|refine hKX _ _ _ ?_)| (with_reducible first|refine Y2 fun K hK=> ?_|refine Y3 fun A B hA hB=> ?_)<;>(simp only[go_sem])| ((with_reducible refine Y9 ?_);try simp only[AQ.then,AQ.blk,reduceIte,Nat.reduceEqDiff])|fail)
 (have hKY:=hKB;clear hKB)
 obtain⟨LL,hLL⟩: ∃LL:List RY,LL=[s.wait,s.done,s.told]:=⟨_,rfl⟩
 have hLl:LL.length=3:=by subst hLL;rfl
 have hLr:[[D1.isl (s.wait.map aK)],[D1.isl (s.done.map aK)],[D1.isl (s.told.map aK)]]=LL.map JU:=by subst hLL;rfl
 obtain⟨seen,hse⟩: ∃seen:Nat→List Job,seen=fun k=>(LL.take k).flatten:=⟨_,rfl⟩
 have hs0:seen 0=[]:=by subst hse;rfl
 have hs3:(seen 3).length=s.wait.length+s.done.length+s.told.length:=by subst hse;subst hLL;simp;omega
 have hss: ∀k,k<3→seen (k+1)=seen k++LL.getD k default:=fun k hk=>by
  subst hse
  simp only
  rw[List.take_succ_eq_append_getElem (by omega),List.flatten_append]
  simp[List.getD,show k<LL.length by omega]
 have hnd: ∀k,k<3→((seen k++LL.getD k default).map key).Nodup:=fun k hk=>by
  have hn:=hs.nodup
  unfold keys at hn
  have:k=0∨k=1∨k=2:=by omega
  subst hse;subst hLL
  rcases this with rfl|rfl|rfl
  ·have:(s.wait.map key).Nodup:=by
    simp only[List.map_append,List.append_assoc] at hn;exact(List.nodup_append.1 hn).1
   simpa [List.getD] using this
  ·have:((s.wait++s.done).map key).Nodup:=by
    rw[List.map_append] at hn;exact(List.nodup_append.1 hn).1
   simpa [List.getD] using this
  ·simpa [List.getD] using hn
 have hmem: ∀k,k<3→∀j∈LL.getD k default,j∈s.wait++s.done++s.told:=fun k hk j hj=>by
  have:k=0∨k=1∨k=2:=by omega
  subst hLL
  rcases this with rfl|rfl|rfl<;>(simp[List.getD] at hj;simp[hj])
 have hL0: ∀j∈LL.getD 0 default,j.rsp=kO:=fun j hj=>by
  subst hLL;simp[List.getD] at hj;exact hs.TM j hj
 have hL1: ∀k,k<3→0<k→∀j∈LL.getD k default,qN j.rsp∧j.rsp.id=(bF c j.who j.n).id:=fun k hk h0 j hj=>by
  have:k=1∨k=2:=by omega
  subst hLL
  rcases this with rfl|rfl<;>(simp[List.getD] at hj;exact hs.TK j (by simp[hj]))
 have hLs: ∀k,k<3→(LL.getD k default).length≤36:=fun k hk=>by
  have:k=0∨k=1∨k=2:=by omega
  subst hLL
  rcases this with rfl|rfl|rfl<;>(simp[List.getD];omega)
 rw[hLr]
 clear hLr hLL hse
 refine aQ.wI 1 (β:=Nat) (fun b k=>en [(65,dI k),(64,dI 3),(63,dS (LL.map JU)),(8,.one (.c (.omap b))),(5,dI (s.asked.take 3).sum),(3,.one (.c (.dN (eSt s)))),(2,.one (.c (.dN (cH c))))]) (fun b k=>hp [(b,xA ⟨2,true,UZ (seen k)⟩)]) (fun k=>k≤3) (fun k=>3-k) 0 ?_ (by omega) ?_
 ·refine dH [31] (by omega) ?_ ⟨⟨by simp,by simp[sgL],_,rfl,HE (by rw[hs0];rfl)⟩,trivial⟩ (by simp[sgL])
  refine vY (vY (vY (vY (vY (vY (vY abU ?_) ?_) ?_) ?_) ?_) ?_) ?_
  all_goals first
   |exact EA (rows:=LL.map JU) (aC amM LL) (by simp;omega) (by simp) rfl rfl (List.take_of_length_le (by simp)) (by simp;omega)
   |exact apP (ZR (by omega) rfl)
   | (repeat' ((with_reducible refine D0 ?_);exact CA rfl);done)
 intro k hk KM hKM
 by_cases hlt:k<3
 ·have hss1:=hss k hlt
  have hnd1:=hnd k hlt
  have hmm:=hmem k hlt
  have hr0:k=0→∀j∈LL.getD k default,j.rsp=kO:=fun h=>by subst h;exact hL0
  have hr1:=hL1 k hlt
  have hlk:=hLs k hlt
  generalize hcur:LL.getD k default=cur at hss1 hnd1 hmm hr0 hr1 hlk
  repeat' (first| (with_reducible first| (refine hK _ _ _ ?_;clear hK K)| (refine hA ?_;clear hA hB A B)|refine Z1 ?_|refine Z2 ?_|refine Z3 fun KB hKB=> ?_|refine Z4 (by omega) ?_)| (with_reducible first|refine Y2 fun K hK=> ?_|refine Y3 fun A B hA hB=> ?_)<;>(simp only[go_sem,hcur])|refine⟨by omega,?_⟩|fail)
  (have hKZ:=hKB;clear hKB)
  refine aQ.wI 1 (β:=Nat) (fun b i=>en [(72,dI i),(71,dI cur.length),(70,dS (cur.map aK)),(65,dI k),(64,dI 3),(63,dS (LL.map JU)),(9,dI k),(8,.one (.c (.omap b))),(5,dI (s.asked.take 3).sum),(3,.one (.c (.dN (eSt s)))),(2,.one (.c (.dN (cH c))))]) (fun b i=>hp [(b,xA ⟨2,true,UZ (seen k++cur.take i)⟩)]) (fun i=>i≤cur.length) (fun i=>cur.length-i) 0 (by(refine dH [42] (by omega) (by repeat' (first| (with_reducible first|exact C1|refine C2 ?_ ?_)| ((with_reducible refine C0 ?_);exact CR (by omega) rfl)| ((with_reducible refine D0 ?_);first|exact CA rfl|refine CJ ?_)|fail)) ⟨⟨by simp,by simp[sgL],_,rfl,HE (by simp)⟩,trivial⟩ (by simp[sgL]))) (by omega) ?_
  intro i hi KN hKN
  by_cases hil:i<cur.length
  ·have hjm:=hmm _ (cY hil)
   have hjd:=hd _ hjm
   have hja:=hs.mem hjm
   have hjj:=hs.ZF (key (cur.getD i default)) (List.mem_map_of_mem hjm)
   have hj0:=fun h=>hr0 h _ (cY hil)
   have hj1:=fun h=>hr1 h _ (cY hil)
   have hts:cur.take (i+1)=cur.take i++[cur.getD i default]:=by rw[List.take_succ_eq_append_getElem hil];simp[List.getD,hil]
   have hni:key (cur.getD i default)∉(seen k++cur.take i).map key:=fun hm=>by
    have e:seen k++cur=(seen k++cur.take i)++(cur.getD i default::cur.drop (i+1)):=by
     rw[List.append_assoc];congr 1
     have:cur.getD i default=cur[i]:=by simp[List.getD,hil]
     rw[this,←List.drop_eq_getElem_cons hil,List.take_append_drop]
    rw[e,List.map_append] at hnd1
    exact(List.nodup_append.1 hnd1).2.2 _ hm _ (by simp) rfl
   have hget:=alB hni
   have hset:=akZ hni
   simp only[key] at hjj
   have har:=hs.BQ (cur.getD i default).who.toNat (by omega)
   have hpk:=hp12 (cur.getD i default).who.toNat
   by_cases hk0:k=0
   ·have hjr:=hj0 hk0
    repeat' (first| (with_reducible first| (refine hK _ _ _ ?_;clear hK K)| (refine hA ?_;clear hA hB A B)| (refine hB ?_;clear hA hB A B)|refine Z1 ?_|refine Z2 ?_|refine Z3 fun KB hKB=> ?_|refine Z4 (by omega) ?_)| (first| (with_reducible first|refine Y2 fun K hK=> ?_|refine Y3 fun A B hA hB=> ?_|refine Y4 (by omega) ?_|refine Y5 (by omega) ?_)| (with_reducible refine l4 ?_)| (with_reducible refine eG ?_)| (with_reducible refine IL hjd ?_))<;>(simp only[go_sem,hget,hset,Option.getD_none,eq_true hjr];try simp (disch:=omega) only[Iw])| ((with_reducible refine Y0 ?_);simp only[AQ.then,AQ.blk])|refine⟨by omega,?_⟩| (with_reducible refine hKB _ _ _ ?_)|fail)
    exact hKN _ _ _ (i+1) (by omega) (by(refine dH [52] (by omega) (by repeat' (first| (with_reducible first|exact C1|refine C2 ?_ ?_)| ((with_reducible refine C0 ?_);exact CR (by omega) rfl)| ((with_reducible refine D0 ?_);first|exact CA rfl|refine CJ ?_)|fail)) ⟨⟨by simp,by simp[sgL],_,rfl,HE (by rw[hts,List.append_assoc])⟩,trivial⟩ (by simp[sgL]))) (by omega) (by omega)
   ·obtain⟨hjr1,hjr2⟩:=hj1 (by omega)
    repeat' (first| (with_reducible first| (refine hK _ _ _ ?_;clear hK K)| (refine hA ?_;clear hA hB A B)| (refine hB ?_;clear hA hB A B)|refine Z1 ?_|refine Z2 ?_|refine Z3 fun KB hKB=> ?_|refine Z4 (by omega) ?_|refine Z5 (by omega) ?_)| (first| (with_reducible first|refine Y2 fun K hK=> ?_|refine Y3 fun A B hA hB=> ?_|refine Y4 (by omega) ?_|refine Y5 (by omega) ?_)| (with_reducible refine l4 ?_)| (with_reducible refine eG ?_)| (with_reducible refine IZ hjd ?_)| (with_reducible refine fI hp3 hja ?_))<;>(simp only[go_sem,hget,hset,Option.getD_none,eq_true hjr1];try simp (disch:=omega) only[Iw])| ((with_reducible refine Y0 ?_);simp only[AQ.then,AQ.blk])|refine⟨by omega,?_⟩| (with_reducible refine hKB _ _ _ ?_)|fail)
    exact hKN _ _ _ (i+1) (by omega) (by(refine dH [52] (by omega) (by repeat' (first| (with_reducible first|exact C1|refine C2 ?_ ?_)| ((with_reducible refine C0 ?_);exact CR (by omega) rfl)| ((with_reducible refine D0 ?_);first|exact CA rfl|refine CJ ?_)|fail)) ⟨⟨by simp,by simp[sgL],_,rfl,HE (by rw[hts,List.append_assoc])⟩,trivial⟩ (by simp[sgL]))) (by omega) (by omega)
  ·have hi2:i=cur.length:=by omega
   subst hi2
   rw[List.take_length,←hss1]
   repeat' (first| (with_reducible first| (refine hK _ _ _ ?_;clear hK K)| (refine hB ?_;clear hA hB A B)|refine Z1 ?_|refine Z5 (by omega) ?_|refine hKZ _ _ _ ?_)| (with_reducible first|refine Y2 fun K hK=> ?_|refine Y3 fun A B hA hB=> ?_)<;>(simp only[go_sem];try simp (disch:=omega) only[Iw])| ((with_reducible refine Y9 ?_);try simp only[AQ.then,AQ.blk,reduceIte,Nat.reduceEqDiff])| ((with_reducible refine Y0 ?_);simp only[AQ.then,AQ.blk])| (with_reducible refine hKB _ _ _ ?_)|fail)
   exact hKM _ _ _ (k+1) (by omega) (by(refine dH [52] (by omega) (by repeat' (first| (with_reducible first|exact C1|refine C2 ?_ ?_)| ((with_reducible refine C0 ?_);exact CR (by omega) rfl)| ((with_reducible refine D0 ?_);first|exact CA rfl|refine CJ ?_)|fail)) ⟨⟨by simp,by simp[sgL],_,rfl,HE rfl⟩,trivial⟩ (by simp[sgL]))) (by omega) (by omega)
 ·have hk3:k=3:=by omega
  subst hk3
  repeat' (first| (with_reducible first| (refine hK _ _ _ ?_;clear hK K)| (refine hB ?_;clear hA hB A B)|refine Z1 ?_|refine Z5 (by omega) ?_|refine hKY _ _ _ ?_)| (with_reducible first|refine Y2 fun K hK=> ?_|refine Y3 fun A B hA hB=> ?_)<;>(simp only[go_sem])| ((with_reducible first|refine Y8 ?_|refine Y9 ?_);try simp only[AQ.then,AQ.blk,reduceIte,Nat.reduceEqDiff])|fail)
  refine bJ hQ (dB (decide (((UZ (seen 3)).length:Int)=(s.asked.take 3).sum))) rfl rfl (congrArg dB (decide_eq_true ?_))
  rw[aj3,hs3];omega
theorem H7 {c:Cfg} {s:TSt} (hb:aY c) (hs:rL c s) (h:K (dB true) H nx):aB Tryz.prog kP [dA (cH c),dA (eSt s)] H nx K:=
 (ID c s hb hs).pure rfl (aI ⟨aF rfl,aF rfl,trivial⟩) (fun r hr=>hr▸h)
end
end Go.Proofs.YtegiblhkjfiooaaGreat
end
section
namespace Go.Proofs.YtegiblhkjfiooaaGreat
open Go Go.AM
set_option maxRecDepth 100000
set_option maxHeartbeats 8000000
theorem AX:d8 Tryz.prog cR Tryz.f132 kA pR:=d8.mk Tryz.func132 (by kernel_rfl) BL
theorem DX:d8 Tryz.prog jC Tryz.f66 lP tE:=d8.mk Tryz.func66 (by kernel_rfl) EK
end Go.Proofs.YtegiblhkjfiooaaGreat
namespace Go.AM
theorem aQ.ak5 {P:Program} {T:Nat} {e:Env} {H:aA} {nx:Nat} {Q:AQ} {zs:List AC} (h: ∀G,G=H→aQ P T zs e G nx Q):aQ P T zs e H nx Q:=h H rfl
theorem amU {H:aA} {F:Nat→Prop} {nh:Nat} {f:FuncId} {caps:List D1} (h: ∀x∈caps,∃n id row col,id<nh∧x= .ptr n id row col):Cv1 H F id nh (.clo f caps) (.clo f caps):=
 .clo f caps caps rfl fun i x y hx hy=>by
  rw[hx] at hy
  obtain rfl:x=y:=by simpa using hy
  obtain⟨n,id,row,col,h1,rfl⟩:=h x (List.mem_of_getElem? hx)
  exact .inr ⟨n,id,row,col,h1,rfl,rfl⟩
def ZI (V:List (Int×Int)) (k:Nat) (u:List Int):Prop:=u.length=3∧ ∀w,w<3→u.getD w default= -1∨ ∃i,i<k∧V[i]?=some ((w:Int),u.getD w default)
theorem ZI.next {c:Cfg} {s:CSt} {st k:Nat} {u:List Int} {x:Int×Int} (hs:COk c s) (hst:st<4) (h:ZI (gE (bA s st)) k u) (hx:(gE (bA s st))[k]?=some x):
 (x.1=(x.1.toNat:Int)∧x.1.toNat<3)∧u.getD x.1.toNat default<x.2∧ZI (gE (bA s st)) (k+1) (u.set x.1.toNat x.2):=by
 obtain⟨hk,hxk⟩:=List.getElem?_eq_some_iff.1 hx
 have hm:x∈gE (bA s st):=hxk▸List.getElem_mem hk
 obtain⟨hw,h0,h1⟩:=hs.vIn hst hm
 have hw3:x.1.toNat<3:=by omega
 have hwe:x.1=(x.1.toNat:Int):=by omega
 refine⟨⟨hwe,hw3⟩,?_,by simp[h.1],fun w hw3'=> ?_⟩
 ·rcases h.2 _ hw3 with h2|⟨i,hi,h2⟩
  ·omega
  ·obtain⟨hi2,h3⟩:=List.getElem?_eq_some_iff.1 h2
   have h4:=List.pairwise_iff_getElem.1 (hs.slv st hst).inc i k hi2 hk hi
   rw[h3,hxk] at h4
   exact h4 hwe.symm
 ·by_cases he:w=x.1.toNat
  ·right
   refine⟨k,by omega,?_⟩
   rw[he,BV (by rw[h.1];omega),if_pos rfl,hx,←hwe]
  ·rw[BV (by rw[h.1];omega),if_neg he]
   exact(h.2 w hw3').imp (fun h=>h) fun⟨i,hi,h2⟩=>⟨i,by omega,h2⟩
theorem COk.apY {c:Cfg} {s:CSt} {st:Nat} {x:Int×Int} (hs:COk c s) (hst:st<4) (hm:x∈gE (bA s st)):0≤aW (isC x.2) (aS s x.1.toNat).out∧(aW (isC x.2) (aS s x.1.toNat).out).toNat<(aS s x.1.toNat).out.length∧((aS s x.1.toNat).out.getD (aW (isC x.2) (aS s x.1.toNat).out).toNat default).left=st:=by
 obtain⟨hw,j,hj,h1,h2⟩:=(hs.slv st hst).out x hm
 have hex: ∃j∈(aS s x.1.toNat).out,j.n=x.2:=⟨j,hj,h1⟩
 obtain⟨a1,a2⟩:=QB hex
 refine⟨cL.2 ⟨j,hj,decide_eq_true h1⟩,a1,?_⟩
 have:=aaS (hs.port x.1.toNat (by omega)).ajI (cY a1) hj (by rw[a2,h1])
 rw[this];exact h2
end Go.AM
namespace Go.Proofs.YtegiblhkjfiooaaGreat
open Go Go.AM
set_option maxRecDepth 100000
set_option maxHeartbeats 8000000
section
variable {H : aA} {nx : Nat} {K : D → aA → Nat → Prop}
theorem lF {s:CSt} {st who:Nat} {w n:Int} {u:List Int} {i0 i1 i2:Nat} (hww:w=who) (hu:u.length=3) (hw:who<3) (hn:u.getD who default<n) (hpl:s.bS.length=3) (hol:(aS s who).out.length<2^40)
 (hx:0≤aW (isC n) (aS s who).out) (hx1:(aW (isC n) (aS s who).out).toNat<(aS s who).out.length) (hx2:((aS s who).out.getD (aW (isC n) (aS s who).out).toNat default).left=st)
 (hlt:i0<nx∧i1<nx∧i2<nx) (hd:[i0,i1,i2].Nodup) (o0:H i0=some ⟨3,1,[u.map cI]⟩) (o1:H i1=some ⟨5,1,[lD s]⟩) (o2:H i2=some ⟨1,1,[[cI st]]⟩)
 (h: ∀H' nx',nx≤nx'→H' i0=some ⟨3,1,[(u.set who n).map cI]⟩→(∀id,id<nx→id≠i0→H' id=H id)→K (dB true) H' nx'):
 aB Tryz.prog cR [dI w,dI n,.one (.c (.ptr 3 i0 0 0)),.one (.c (.ptr 5 i1 0 0)),.one (.c (.ptr 1 i2 0 0))] H nx K:=by
 subst hww
 refine AX rfl fun Q hQ=> ?_
 unfold kA
 have hA:bT nx [i0,i1,i2]:=AM.apart hd (by simp;omega)
 simp only[bT,fN] at hA
 obtain⟨p,hpd⟩: ∃p,p=aS s who:=⟨_,rfl⟩
 have hpd':s.bS.getD who default=p:=hpd.symm
 rw[←hpd] at hol hx hx1 hx2
 obtain⟨a,ha⟩: ∃a,a=aW (isC n) p.out:=⟨_,rfl⟩
 have hut:((u.map cI).drop who).take 1=[cI (u.getD who default)]:=by
  rw[List.drop_eq_getElem_cons (by simp;omega)]
  simp[List.getD,show who<u.length by omega]
 have hull:(u.map cI).length=3:=by rw[List.length_map,hu]
 have hle:(who+1≤3)=True:=eq_true (by omega)
 have hou: ∀{H:aA} {nx:Nat} {K:D→aA→Nat→Prop},K (dI a) H nx→aB Tryz.prog lO [dA (cD p),dI n] H nx K:=fun h=>LZ (p:=p) hol (aF rfl) (by rw[←ha];exact h)
 rw[←ha] at hx hx1 hx2
 repeat' (first| (with_reducible first| (refine hK _ _ _ ?_;clear hK K)| (refine hB ?_;clear hA hB A B)|refine Z1 ?_|refine Z2 ?_|refine Z5 (by omega) ?_)| (first| (with_reducible first|refine Y2 fun K hK=> ?_|refine Y3 fun A B hA hB=> ?_|refine Y4 (by omega) ?_|refine Y5 (by omega) ?_)| (with_reducible refine l4 ?_)| (with_reducible refine hou ?_))<;>(simp only[go_sem,Nat.add_assoc,Nat.left_eq_add,Nat.mul_one,o0,o1,o2,hut,hull,hle,hpd',hx2,hA])| ((with_reducible refine Y8 ?_);try simp only[AQ.then,AQ.blk,reduceIte,Nat.reduceEqDiff])|refine⟨by omega,?_⟩|fail)
 have eu:List.take who (List.map cI u)++[D1.v (.int .i64 n)]++List.drop (who+1) (List.map cI u)=(u.set who n).map cI:=by
  rw[List.map_set,List.set_eq_take_append_cons_drop,if_pos (by simp;omega),List.append_assoc];rfl
 rw[eu]
 exact hQ _ _ _ _ _ (.inr rfl) rfl (h _ _ (by omega) aA.bN fun id e0 e1=>aA.aD e1)
theorem E1 (c:Cfg) (s:CSt) (st:Nat) (hb:aY c) (hs:COk c s) (hst:st<4):aB Tryz.prog jC [dA (cH c),dA (lD s),dI st] .nil 0 fun r _ _=>r.plain=true∧r=dB true:=by
 refine DX rfl fun Q hQ=> ?_
 unfold lP
 have hsl:=hs.sl
 obtain⟨v,hvd⟩: ∃v,v=bA s st:=⟨_,rfl⟩
 have hvd':s.eL.getD st default=v:=hvd.symm
 have hso:=hs.slv st hst
 have hpl:=hso.pl
 have hdl:=hso.dl
 obtain⟨hl1,hl2⟩:=hso.last
 rw[←hvd] at hpl hdl hl1 hl2
 repeat' (first| (with_reducible first| (refine hK _ _ _ ?_;clear hK K)| (refine hB ?_;clear hA hB A B)|refine Z1 ?_|refine Z2 ?_|refine Z3 fun KB hKB=> ?_|refine Z5 (by omega) ?_)| (first| (with_reducible first|refine Y2 fun K hK=> ?_|refine Y3 fun A B hA hB=> ?_|refine Y5 (by omega) ?_)| (with_reducible refine l4 ?_))<;>(simp only[go_sem,hvd'])|refine⟨by omega,?_⟩|fail)
 (have hKX:=hKB;clear hKB)
 refine aQ.ak5 fun G0 hG0=> ?_
 have c0:G0 0=some ⟨3,1,[cH c]⟩:=by rw[hG0];rfl
 have c1:G0 1=some ⟨5,1,[lD s]⟩:=by rw[hG0];rfl
 have c2:G0 2=some ⟨1,1,[[cI st]]⟩:=by rw[hG0];rfl
 have c9:G0 9=some ⟨3,1,[gM v]⟩:=by rw[hG0];rfl
 have c28:G0 28=some ⟨3,1,[([-1,-1,-1]:List Int).map cI]⟩:=by rw[hG0];rfl
 clear hG0
 have hp3:=(i7 hb).1
 have hlat4:=hb.2.1
 have hV: ∀k,k<v.done.length→(gE (bA s st))[k]?=some (key (v.done.getD k default)):=fun k hk=>by
  rw[←hvd];unfold gE
  rw[List.getElem?_append_left (by simpa using hk)];simp[List.getD,hk]
 have hV2: ∀k,k<v.pipe.length→(gE (bA s st))[v.done.length+k]?=some ((v.pipe.getD k default).who,(v.pipe.getD k default).n):=fun k hk=>by
  rw[←hvd];unfold gE
  rw[List.getElem?_append_right (by simp)];simp[List.getD,hk]
 have hask: ∀x∈gE (bA s st),hT c x.1 x.2:=fun x hx=>by
  obtain⟨hw,h0,h1⟩:=hs.vIn hst hx
  have:=(hs.port x.1.toNat (by omega)).asks (n:=x.2) (by omega) h0 (by omega)
  rwa [show ((x.1.toNat:Nat):Int)=x.1 by omega] at this
 have hol: ∀w,w<3→(aS s w).out.length<2^40:=fun w hw=>by have:=(hs.port w hw).ol;omega
 have hclo: ∀{H:aA} {F:Nat→Prop} {nh:Nat},36≤nh→Cv1 H F id nh (.clo cR [.ptr 3 28 0 0,.ptr 5 1 0 0,.ptr 1 2 0 0]) (.clo cR [.ptr 3 28 0 0,.ptr 5 1 0 0,.ptr 1 2 0 0]):=fun h=>amU fun x hx=>by
  simp only[List.mem_cons,List.not_mem_nil,or_false] at hx
  rcases hx with rfl|rfl|rfl
  ·exact⟨_,_,_,_,by omega,rfl⟩
  ·exact⟨_,_,_,_,by omega,rfl⟩
  ·exact⟨_,_,_,_,by omega,rfl⟩
 refine aQ.iI (β:=Nat×List Int) (fun u=>en [(40,dI u.1),(39,dI v.done.length),(38,dS (v.done.map aK)),(9,.one (.c (.clo cR [.ptr 3 28 0 0,.ptr 5 1 0 0,.ptr 1 2 0 0]))),(7,.one (.c (.ptr 3 9 0 0))),(5,.one (.c (.ptr 1 2 0 0))),(3,.one (.c (.ptr 3 0 0 0)))])
  (fun u H1 _=>u.1≤v.done.length∧ZI (gE (bA s st)) u.1 u.2∧H1 28=some ⟨3,1,[u.2.map cI]⟩∧ ∀id,id<36→id≠28→H1 id=G0 id) (fun u=>v.done.length-u.1) (0,[-1,-1,-1])
  ⟨noF,_,by(repeat' (first| (with_reducible first|exact C1|refine C2 ?_ ?_)| ((with_reducible refine C0 ?_);exact CE (by omega) rfl)| ((with_reducible refine D0 ?_);first|exact CA rfl|refine CJ ?_)|fail));all_goals exact hclo (by omega),aL,by dsimp only;omega,⟨rfl,fun w hw=>.inl (by rcases(show w=0∨w=1∨w=2 by omega) with rfl|rfl|rfl<;>rfl)⟩,c28,fun _ _ _=>rfl⟩ ?_
 rintro⟨k,u⟩ H1 nx1 hnx ⟨hk,hI,g28,hfr⟩ KL hKL
 dsimp only at hk hI g28
 have g0:H1 0=some ⟨3,1,[cH c]⟩:=by rw[hfr _ (by omega) (by omega)];exact c0
 have g1:H1 1=some ⟨5,1,[lD s]⟩:=by rw[hfr _ (by omega) (by omega)];exact c1
 have g2:H1 2=some ⟨1,1,[[cI st]]⟩:=by rw[hfr _ (by omega) (by omega)];exact c2
 have g9:H1 9=some ⟨3,1,[gM v]⟩:=by rw[hfr _ (by omega) (by omega)];exact c9
 have hA:bT nx1 [0,1,2,9,28]:=AM.apart (by simp) (by simp;omega)
 simp only[bT,fN] at hA
 by_cases hlt:k<v.done.length
 ·obtain⟨d,hdd⟩: ∃d,d=v.done.getD k default:=⟨_,rfl⟩
  have hx:=hV k hlt
  rw[←hdd] at hx
  have hm:key d∈gE (bA s st):=by obtain⟨h1,h2⟩:=List.getElem?_eq_some_iff.1 hx;exact h2▸List.getElem_mem h1
  obtain⟨⟨hw1,hw2⟩,hn,hI2⟩:=hI.next hs hst hx
  obtain⟨ha1,ha2,ha3⟩:=hs.apY hst hm
  obtain⟨hr1,hr2⟩:=hso.rsp d (by rw[hdd,←hvd];exact cY hlt)
  have hrl:d.rsp.data.length<2^40:=by have h1:=hr1;unfold qN at h1;omega
  have hdr:=decide_eq_true hr1
  repeat' (first| (with_reducible first| (refine hK _ _ _ ?_;clear hK K)| (refine hA ?_;clear hA hB A B)|refine Z1 ?_|refine Z2 ?_|refine Z3 fun KB hKB=> ?_|refine Z4 (by omega) ?_)| (first| (with_reducible first|refine Y2 fun K hK=> ?_|refine Y3 fun A B hA hB=> ?_)| (refine lF (w:=d.who) (n:=d.n) hw1 hI.1 hw2 hn hs.pl (hol _ hw2) ha1 ha2 ha3 (by omega) (by simp) (by simp only[aA.set,hA,if_false];exact g28) (by simp only[aA.set,hA,if_false];exact g1) (by simp only[aA.set,hA,if_false];exact g2) (fun H' nx' hx' f28 ffr=> ?_)))<;>(simp only[go_sem,Nat.add_assoc,Nat.left_eq_add,hdd.symm,g0,g1,g2,g28,hA])|refine⟨by omega,?_⟩|fail)
  have e0:H' 0=some ⟨3,1,[cH c]⟩:=by rw[ffr _ (by omega) (by omega)];simp only[aA.set,hA,if_false];exact g0
  have ej:H' (nx1+3)=some ⟨5,1,[aK d]⟩:=by rw[ffr _ (by omega) (by omega)];exact aA.bN
  have hfr2: ∀id,id<36→id≠28→H' id=G0 id:=fun id e0 e1=>by rw[ffr id (by omega) e1,aA.aD (by omega)];exact hfr id e0 e1
  have hA':bT nx' [0,1,2,9,28,nx1+3]:=AM.apart (by simp;omega) (by simp;omega)
  simp only[bT,fN] at hA'
  simp only[go_sem,Nat.add_assoc,Nat.left_eq_add,e0,ej,hdr,hA']
  repeat' (first| (with_reducible first| (refine hK _ _ _ ?_;clear hK K)| (refine hB ?_;clear hA hB A B)|refine Z2 ?_)| (first| (with_reducible first|refine Y2 fun K hK=> ?_|refine Y3 fun A B hA hB=> ?_)| (refine IZ hrl ?_)| (refine fI hp3 (hask _ hm) ?_))<;>(simp only[go_sem,Nat.add_assoc,Nat.left_eq_add,e0,ej,hdr,hr2,hA'];try simp (disch:=omega) only[Iw])| ((with_reducible refine Y0 ?_);simp only[AQ.then,AQ.blk])| (with_reducible refine hKB _ _ _ ?_)|fail)
  exact hKL _ _ _ (k+1,u.set d.who.toNat d.n) noF _ (by omega) (by dsimp only;omega) (by(repeat' (first| (with_reducible first|exact C1|refine C2 ?_ ?_)| ((with_reducible refine C0 ?_);exact CE (by omega) rfl)| ((with_reducible refine D0 ?_);first|exact CA rfl|refine CJ ?_)|fail));all_goals exact hclo (by omega)) aL ⟨by dsimp only;omega,hI2,f28,hfr2⟩
 ·repeat' (first| (with_reducible first| (refine hK _ _ _ ?_;clear hK K)| (refine hB ?_;clear hA hB A B)|refine Z1 ?_|refine Z3 fun KB hKB=> ?_|refine Z5 (by omega) ?_|refine hKX _ _ _ ?_)| (with_reducible first|refine Y2 fun K hK=> ?_|refine Y3 fun A B hA hB=> ?_)<;>(simp only[go_sem,g9])| ((with_reducible refine Y9 ?_);try simp only[AQ.then,AQ.blk,reduceIte,Nat.reduceEqDiff])|fail)
  have hk2:k=v.done.length:=by omega
  subst hk2
  (have hKY:=hKB;clear hKB)
  refine aQ.iI (β:=Nat×List Int) (fun u=>en [(73,dI u.1),(72,dI v.pipe.length),(71,dS (v.pipe.map eCJ)),(9,.one (.c (.clo cR [.ptr 3 28 0 0,.ptr 5 1 0 0,.ptr 1 2 0 0]))),(5,.one (.c (.ptr 1 2 0 0))),(3,.one (.c (.ptr 3 0 0 0)))])
   (fun u H1 _=>u.1≤v.pipe.length∧ZI (gE (bA s st)) (v.done.length+u.1) u.2∧H1 28=some ⟨3,1,[u.2.map cI]⟩∧ ∀id,id<36→id≠28→H1 id=G0 id) (fun u=>v.pipe.length-u.1) (0,u)
   ⟨noF,_,by(repeat' (first| (with_reducible first|exact C1|refine C2 ?_ ?_)| ((with_reducible refine C0 ?_);exact CE (by omega) rfl)| ((with_reducible refine D0 ?_);first|exact CA rfl|refine CJ ?_)|fail));all_goals exact hclo (by omega),aL,by dsimp only;omega,hI,g28,hfr⟩ ?_
  clear hI g28 hfr g0 g1 g2 g9 hA
  rintro⟨k,u⟩ H2 nx2 hnx2 ⟨hk,hI,g28,hfr⟩ KM hKM
  dsimp only at hk hI g28
  have g0:H2 0=some ⟨3,1,[cH c]⟩:=by rw[hfr _ (by omega) (by omega)];exact c0
  have g1:H2 1=some ⟨5,1,[lD s]⟩:=by rw[hfr _ (by omega) (by omega)];exact c1
  have g2:H2 2=some ⟨1,1,[[cI st]]⟩:=by rw[hfr _ (by omega) (by omega)];exact c2
  have hA:bT nx2 [0,1,2,9,28]:=AM.apart (by simp) (by simp;omega)
  simp only[bT,fN] at hA
  by_cases hlt:k<v.pipe.length
  ·obtain⟨d,hdd⟩: ∃d,d=v.pipe.getD k default:=⟨_,rfl⟩
   have hx:=hV2 k hlt
   rw[←hdd] at hx
   have hm:(d.who,d.n)∈gE (bA s st):=by obtain⟨h1,h2⟩:=List.getElem?_eq_some_iff.1 hx;exact h2▸List.getElem_mem h1
   obtain⟨⟨hw1,hw2⟩,hn,hI2⟩:=hI.next hs hst hx
   obtain⟨ha1,ha2,ha3⟩:=hs.apY hst hm
   dsimp only at hw1 hw2 hn hI2 ha1 ha2 ha3
   obtain⟨⟨hl1',hl2'⟩,hl3'⟩:=hso.left k (by rw[←hvd];exact hlt)
   rw[←hvd,←hdd] at hl1' hl2' hl3'
   have hdl:=decide_eq_true (show 0≤d.left∧d.left≤c.lat.getD st default from ⟨hl1',hl2'⟩)
   rcases Nat.eq_zero_or_pos k with h0|h0
   ·have hz3:((k:Int)=0)=True:=eq_true (by omega)
    have hz4:(0<(k:Int))=False:=eq_false (by omega)
    have hlk:True:=trivial
    repeat' (first| (with_reducible first| (refine hK _ _ _ ?_;clear hK K)| (refine hA ?_;clear hA hB A B)|refine Z1 ?_|refine Z2 ?_|refine Z3 fun KB hKB=> ?_|refine Z4 (by omega) ?_)| (first| (with_reducible first|refine Y2 fun K hK=> ?_|refine Y3 fun A B hA hB=> ?_)| (refine lF (w:=d.who) (n:=d.n) hw1 hI.1 hw2 hn hs.pl (hol _ hw2) ha1 ha2 ha3 (by omega) (by simp) (by simp only[aA.set,hA,if_false];exact g28) (by simp only[aA.set,hA,if_false];exact g1) (by simp only[aA.set,hA,if_false];exact g2) (fun H' nx' hx' f28 ffr=> ?_)))<;>(simp only[go_sem,Nat.add_assoc,Nat.left_eq_add,hdd.symm,g0,g1,g2,g28,hz3,hz4,hA])|refine⟨by omega,?_⟩|fail)
    have hfr2: ∀id,id<36→id≠28→H' id=G0 id:=fun id e0 e1=>by rw[ffr id (by omega) e1,aA.aD (by omega)];exact hfr id e0 e1
    have e0:H' 0=some ⟨3,1,[cH c]⟩:=(hfr2 _ (by omega) (by omega)).trans c0
    have e2:H' 2=some ⟨1,1,[[cI st]]⟩:=(hfr2 _ (by omega) (by omega)).trans c2
    have ej:H' (nx2+4)=some ⟨3,1,[eCJ d]⟩:=by rw[ffr _ (by omega) (by omega)];exact aA.bN
    simp only[go_sem,Nat.add_assoc,Nat.left_eq_add,e0,e2,ej,hdl,hz3,hz4,hA]
    repeat' (first| (with_reducible first| (refine hK _ _ _ ?_;clear hK K)| (refine hB ?_;clear hA hB A B)|refine Z2 ?_)| (first| (with_reducible first|refine Y2 fun K hK=> ?_|refine Y3 fun A B hA hB=> ?_)| (with_reducible refine eG ?_))<;>(simp only[go_sem,Nat.add_assoc,Nat.left_eq_add,e0,e2,ej,hdl,hz3,hz4,hlk,hA];try simp (disch:=omega) only[Iw])| ((with_reducible refine Y0 ?_);simp only[AQ.then,AQ.blk])|refine⟨by omega,?_⟩| (with_reducible refine hKB _ _ _ ?_)|fail)
    all_goals exact hKM _ _ _ (k+1,u.set d.who.toNat d.n) noF _ (by omega) (by dsimp only;omega) (by(repeat' (first| (with_reducible first|exact C1|refine C2 ?_ ?_)| ((with_reducible refine C0 ?_);exact CE (by omega) rfl)| ((with_reducible refine D0 ?_);first|exact CA rfl|refine CJ ?_)|fail));all_goals exact hclo (by omega)) aL ⟨by dsimp only;omega,hI2,f28,hfr2⟩
   ·have hz3:((k:Int)=0)=False:=eq_false (by omega)
    have hz4:(0<(k:Int))=True:=eq_true (by omega)
    have hlk:d.left=c.lat.getD st default:=hl3' h0
    repeat' (first| (with_reducible first| (refine hK _ _ _ ?_;clear hK K)| (refine hA ?_;clear hA hB A B)|refine Z1 ?_|refine Z2 ?_|refine Z3 fun KB hKB=> ?_|refine Z4 (by omega) ?_)| (first| (with_reducible first|refine Y2 fun K hK=> ?_|refine Y3 fun A B hA hB=> ?_)| (refine lF (w:=d.who) (n:=d.n) hw1 hI.1 hw2 hn hs.pl (hol _ hw2) ha1 ha2 ha3 (by omega) (by simp) (by simp only[aA.set,hA,if_false];exact g28) (by simp only[aA.set,hA,if_false];exact g1) (by simp only[aA.set,hA,if_false];exact g2) (fun H' nx' hx' f28 ffr=> ?_)))<;>(simp only[go_sem,Nat.add_assoc,Nat.left_eq_add,hdd.symm,g0,g1,g2,g28,hz3,hz4,hA])|refine⟨by omega,?_⟩|fail)
    have hfr2: ∀id,id<36→id≠28→H' id=G0 id:=fun id e0 e1=>by rw[ffr id (by omega) e1,aA.aD (by omega)];exact hfr id e0 e1
    have e0:H' 0=some ⟨3,1,[cH c]⟩:=(hfr2 _ (by omega) (by omega)).trans c0
    have e2:H' 2=some ⟨1,1,[[cI st]]⟩:=(hfr2 _ (by omega) (by omega)).trans c2
    have ej:H' (nx2+4)=some ⟨3,1,[eCJ d]⟩:=by rw[ffr _ (by omega) (by omega)];exact aA.bN
    simp only[go_sem,Nat.add_assoc,Nat.left_eq_add,e0,e2,ej,hdl,hz3,hz4,hA]
    repeat' (first| (with_reducible first| (refine hK _ _ _ ?_;clear hK K)| (refine hB ?_;clear hA hB A B)|refine Z2 ?_)| (with_reducible first|refine Y2 fun K hK=> ?_|refine Y3 fun A B hA hB=> ?_)<;>(simp only[go_sem,Nat.add_assoc,Nat.left_eq_add,e0,e2,ej,hdl,hz3,hz4,hlk,hA];try simp (disch:=omega) only[Iw])| ((with_reducible refine Y0 ?_);simp only[AQ.then,AQ.blk])|refine⟨by omega,?_⟩| (with_reducible refine hKB _ _ _ ?_)|fail)
    all_goals exact hKM _ _ _ (k+1,u.set d.who.toNat d.n) noF _ (by omega) (by dsimp only;omega) (by(repeat' (first| (with_reducible first|exact C1|refine C2 ?_ ?_)| ((with_reducible refine C0 ?_);exact CE (by omega) rfl)| ((with_reducible refine D0 ?_);first|exact CA rfl|refine CJ ?_)|fail));all_goals exact hclo (by omega)) aL ⟨by dsimp only;omega,hI2,f28,hfr2⟩
  ·repeat' (first| (with_reducible first| (refine hK _ _ _ ?_;clear hK K)| (refine hB ?_;clear hA hB A B)|refine Z1 ?_|refine Z5 (by omega) ?_|refine hKY _ _ _ ?_)| (with_reducible first|refine Y2 fun K hK=> ?_|refine Y3 fun A B hA hB=> ?_)<;>(simp only[go_sem])| ((with_reducible first|refine Y8 ?_|refine Y9 ?_);try simp only[AQ.then,AQ.blk,reduceIte,Nat.reduceEqDiff])|fail)
   exact hQ _ _ _ _ _ (.inr rfl) rfl ⟨rfl,rfl⟩
theorem FI {c:Cfg} {s:CSt} {st:Nat} (hb:aY c) (hs:COk c s) (hst:st<4) (h:K (dB true) H nx):aB Tryz.prog jC [dA (cH c),dA (lD s),dI st] H nx K:=
 (E1 c s st hb hs hst).pure rfl (aI ⟨aF rfl,aF rfl,aF rfl,trivial⟩) fun r hr=>hr▸h
end
end Go.Proofs.YtegiblhkjfiooaaGreat
end
