/- Texts laid together by a program: rules, contracts and the walk that leads to the law. -/
import Derived.Test.YtegiblhkjfiooaaGreatPr3
import Derived.Test.YtegiblhkjfiooaaGreatPr18
import Derived.Test.YtegiblhkjfiooaaGreatPr20
import Derived.Test.YtegiblhkjfiooaaGreatPr21
import Derived.Test.YtegiblhkjfiooaaGreatPr6
import Derived.OpenShut
import Derived.Below
set_option linter.unusedVariables false
set_option linter.unusedSimpArgs false
set_option linter.unusedSectionVars false
section
namespace Go.Proofs.YtegiblhkjfiooaaGreat
open Go Go.AM
set_option maxRecDepth 100000
set_option maxHeartbeats 8000000
theorem aB7:cJ Tryz.prog aBL Tryz.f5 aA1 aBJ:=cJ.mk Tryz.func5 (by kernel_rfl) aB6
theorem aEG (l:List Int) (hby: ∀x∈l,0≤x∧x<256):aB Tryz.prog aBL [dS (l.map eU8)] .nil 0 fun rr _ _=>rr.plain=true∧rr=dB true:=by
 refine aB7 rfl fun Q hQ=> ?_
 unfold aA1
 by_cases hbig:l.length≤1048576
 case neg=>
  repeat' (first| (with_reducible first| (refine hK _ _ _ ?_;clear hK K)| (refine hA ?_;clear hA hB A B)|refine Z1 ?_|refine Z4 (by omega) ?_)| (with_reducible first|refine Y2 fun K hK=> ?_|refine Y3 fun A B hA hB=> ?_)<;>(simp only[go_sem])| ((with_reducible refine Y8 ?_);try simp only[AQ.then,AQ.blk,reduceIte,Nat.reduceEqDiff])|fail)
  exact hQ _ _ _ _ _ (.inr rfl) rfl ⟨rfl,rfl⟩
 have hl:kZ l:=⟨by omega,hby⟩
 have hap: ∀{H:aA} {nx:Nat} {K:D→aA→Nat→Prop} {c:Cfg},aQ c→jO c→(c.map=E9 false∧ ∀k,k<3→∀q∈c.cP.getD k default,aBY k q)→K (dB true) H nx→aB Tryz.prog aAS [dA (cU c),dI 0] H nx K:=fun hb hf hg h=>
  aC1 hb hf (fun q hq=>by rw[hg.1];exact(hg.2 0 (by omega) q hq).1.2 rfl) (fun k h1 h3 q hq he=>by rw[hg.1] at he;have:=(hg.2 k h3 q hq).1.1 he;omega) h
 repeat' (first| (with_reducible first| (refine hK _ _ _ ?_;clear hK K)| (refine hB ?_;clear hA hB A B)|refine Z1 ?_|refine Z2 ?_|refine Z5 (by omega) ?_)| (first| (with_reducible first|refine Y2 fun K hK=> ?_|refine Y3 fun A B hA hB=> ?_)| (refine aCM hl (fun c xs hb hf hg hxl hxo=> ?_))| (refine hap hb hf hg ?_)| (refine aDU (fun H1 nx1 r s t hx1 hrst hr hs ht ffr1=> ?_)))<;>(simp only[go_sem])|refine⟨by omega,?_⟩|fail)
 have n16:(r=16)=False:=eq_false (by omega)
 have e9:=(ffr1 9 (by omega)).trans (show _=some ⟨3,1,[cU c]⟩ from rfl)
 simp only[go_sem,n16,hr]
 repeat' (first| (with_reducible first| (refine hK _ _ _ ?_;clear hK K)|refine Z1 ?_|refine Z3 fun KB hKB=> ?_)| (with_reducible refine Y2 fun K hK=> ?_)<;>(simp only[go_sem])|fail)
 (have hKX:=hKB;clear hKB)
 refine aM.TF fun G0 hG0=> ?_
 obtain⟨x0,hx0⟩: ∃x0,x0=in0:=⟨_,rfl⟩
 have hx0o:vZ x0:=by rw[hx0];exact⟨rfl,rfl,rfl⟩
 have c9:G0 9=some ⟨3,1,[cU c]⟩:=by rw[hG0,aA.aC (by omega),aA.aC (by omega),aA.aC (by omega)];exact e9
 have c16:G0 16=some ⟨3,1,[[.osl 1 r 0 3 3,.osl 1 s 0 4 4,.osl 1 t 0 3 3]]⟩:=by rw[hG0,aA.aC (by omega),aA.aC (by omega)];exact aA.bH
 have cr:G0 r=some ⟨1,3,[false,true,true].map eH⟩:=by rw[hG0,aA.aC (by omega)];exact aA.bH
 have cs:G0 s=some ⟨1,4,[false,false,false,false].map eH⟩:=by rw[hG0,aA.aC (by omega),aA.aC (by omega),aA.aC (by omega)];exact hs
 have ct:G0 t=some ⟨1,3,[true,true,true].map eH⟩:=by rw[hG0,aA.aC (by omega),aA.aC (by omega),aA.aC (by omega)];exact ht
 have cl:G0 (nx1+4)=some ⟨3,0,[]⟩:=by rw[hG0];exact aA.bH
 clear hG0 hr hs ht n16 ffr1 e9
 have hw: ∀j,¬(j=r∨j=s∨j=t)→without (fun j=>j=r∨j=s∨j=t) G0 j=G0 j:=fun j hj=>iI (F:=fun j=>j=r∨j=s∨j=t) hj
 refine aM.gP (β:=Nat×Nat×Nat) (fun u=>en [(7,dI u.1),(6,.one (.c (.osl 3 u.2.1 0 u.1 u.2.2))),(5,.one (.c (.ptr 3 16 0 0))),(3,.one (.c (.ptr 3 9 0 0)))])
  (fun u H2 nx2=>u.1≤300∧H2 9=some ⟨3,1,[cU c]⟩∧H2 16=some ⟨3,1,[eIn x0]⟩∧(∃m,H2 u.2.1=some ⟨3,m,(List.replicate u.1 x0).map eIn⟩∧u.1≤u.2.2∧u.2.2≤m)∧nx1≤u.2.1∧u.2.1<nx2) (fun u=>300-u.1) (0,nx1+4,0)
  ⟨fun j=>j=r∨j=s∨j=t,(without (fun j=>j=r∨j=s∨j=t) G0).set 16 ⟨3,1,[eIn x0]⟩,by repeat' (first| (with_reducible first|exact C1|refine C2 ?_ ?_)| ((with_reducible refine C0 ?_);first|exact CC|exact CE (by omega) rfl)| ((with_reducible refine D0 ?_);first|exact CA rfl|refine CJ ?_)|fail),?_,by dsimp only;omega,by rw[aA.aC (by omega),hw _ (by omega)];exact c9,aA.bH,⟨0,by dsimp only;rw[aA.aC (by omega),hw _ (by omega)];exact cl,Nat.le_refl _,Nat.le_refl _⟩,by dsimp only;omega,by dsimp only;omega⟩ ?_
 ·refine apO (t:=16) (o':=⟨3,1,[eIn x0]⟩) (fun j hj=> ?_) aA.bH c16 (by omega) (aP (by rw[hx0];exact aH (bW mK cr rfl (by decide) (.inl rfl)) (aH (bW mK cs rfl (by decide) (.inr (.inl rfl))) (aH (bW mK ct rfl (by decide) (.inr (.inr rfl))) eP)))) fun j hj1 hj2=> ?_
  ·have:j≠16:=by rcases hj with rfl|rfl|rfl<;>omega
   rw[aA.aC this];exact if_pos hj
  ·rw[aA.aC hj1,hw _ hj2]
 clear c9 c16 cr cs ct cl hw hrst
 rintro⟨k,nb,cap⟩ H2 nx2 hnx2 ⟨hk,g9,g16,⟨m,gb,gb1,gb2⟩,hnb⟩ KL hKL
 dsimp only at hk gb gb1 gb2 hnb
 have hA:bQ nx2 [9,16,nb]:=AM.apart (by simp;omega) (by simp;omega)
 simp only[bQ,eZ] at hA
 obtain⟨L,hL⟩: ∃L,L=List.replicate k x0:=⟨_,rfl⟩
 have hLl:L.length=k:=by rw[hL];simp
 rw[←hL] at gb
 by_cases hlt:k<300
 ·have hre:List.replicate (k+1) x0=L++[x0]:=by rw[hL,List.replicate_succ']
  rw[←hLl] at hKL ⊢
  repeat' (first| (with_reducible first| (refine hK _ _ _ ?_;clear hK K)| (refine hA ?_;clear hA hB A B)|refine Z1 ?_|refine Z2 ?_|refine Z3 fun KB hKB=> ?_|refine Z4 (by omega) ?_|refine fun(cap:Nat) (hcap:_≤cap)=> ?_|refine fun(hcp:_≤cap)=> ?_)| (with_reducible first|refine Y2 fun K hK=> ?_|refine Y3 fun A B hA hB=> ?_)<;>(simp only[go_sem,Nat.add_assoc,Nat.left_eq_add,Nat.add_eq_left,g9,g16,gb,hA];try simp (disch:=omega) only[Iw])| ((with_reducible refine Y0 ?_);simp only[AQ.then,AQ.blk])|refine⟨by omega,?_⟩| (with_reducible refine hKB _ _ _ ?_)|fail)
  exact hKL _ _ _ (L.length+1,nx2+5,cap) noF _ (by omega) (by dsimp only;omega) (by dsimp only;repeat' (first| (with_reducible first|exact C1|refine C2 ?_ ?_)| ((with_reducible refine C0 ?_);first|exact CQ (by omega) rfl rfl (by rfl) rfl|exact CE (by omega) rfl)| ((with_reducible refine D0 ?_);first|exact CA rfl|refine CJ ?_)|fail)) aK ⟨by dsimp only;omega,by rw[aA.aC (by omega),aA.aC (by omega),aA.jG (by omega)];exact g9,by rw[aA.aC (by omega),aA.aC (by omega),aA.jG (by omega)];exact g16,⟨cap,by dsimp only;rw[hLl,hre];exact aA.bH,by dsimp only;simpa using hcap,Nat.le_refl _⟩,by dsimp only;omega,by dsimp only;omega⟩
 ·have hk3:k=300:=by omega
  have hLo: ∀i∈L,vZ i:=fun i hi=>by rw[hL] at hi;rw[(List.mem_replicate.1 hi).2];exact hx0o
  have hpl: ∀k n,k<3→oA c (k:Nat) n→(gZ c.map (bT c k n)=0↔k=0):=fun k n hk hn=>by
   have hm:bT c k n∈c.cP.getD k default:=by
    have h1:=hn.2
    rw[Int.toNat_natCast] at h1
    unfold bT
    rw[Int.toNat_natCast]
    exact cC (by omega)
   rw[hg.1];exact(hg.2 k hk _ hm).1
  obtain⟨N,hN⟩: ∃N,N=300:=⟨_,rfl⟩
  have hrt:=aEF (N:=N) (by omega) hb hpl
  have hSk:COk c (sQ c HY L):=(afM hb (anK c)).1
  rw[←hx0,hN,←hk3,←hL] at hrt
  have hL3:L.length≤300:=by omega
  have hnl:((L.length:Int)<300)=False:=eq_false (by omega)
  clear hL hN
  rw[←hLl] at gb1 ⊢
  clear hLl hk3 hk hKL hlt
  have a6: ∀G:aA,msk (nx2+2) [4] G 9=G 9:=fun G=>by unfold msk;rw[if_neg (by simp;omega)]
  repeat' (first| (with_reducible first| (refine hK _ _ _ ?_;clear hK K)| (refine hB ?_;clear hA hB A B)|refine Z1 ?_|refine hKX _ _ _ ?_)| (first| (with_reducible first|refine Y2 fun K hK=> ?_|refine Y3 fun A B hA hB=> ?_)| (refine UC (fun H3 nx3 hx3 ffr3=> ?_)))<;>(simp only[go_sem,hnl,g9,a6])| ((with_reducible refine Y9 ?_);try simp only[AQ.then,AQ.blk,reduceIte,Nat.reduceEqDiff])|fail)
  have um: ∀(i:Nat) (A B:aA),i≠nx2+6→dT (nx2+2) [4] A B i=B i:=fun i A B h=>by unfold dT;rw[if_neg (by simp;omega)]
  have um2: ∀A B:aA,dT (nx2+2) [4] A B (nx2+6)=A (nx2+6):=fun A B=>by unfold dT;rw[if_pos (by simp)]
  have mm: ∀(i:Nat) (A:aA),i≠nx2+6→msk (nx2+2) [4] A i=A i:=fun i A h=>by unfold msk;rw[if_neg (by simp;omega)]
  obtain⟨G,hG⟩: ∃G,G=dT (nx2+2) [4] (H2.set (nx2+2+4) ⟨5,1,[[.osl 0 0 0 0 0,.osl 0 0 0 0 0,.osl 0 0 0 0 0,.osl 0 0 0 0 0,.osl 0 0 0 0 0]]⟩) H3:=⟨_,rfl⟩
  rw[←hG]
  have a7:G 9=some ⟨3,1,[cU c]⟩:=by rw[hG,um _ _ _ (by omega),ffr3 _ (by omega),a6];exact g9
  have qb:G nb=some ⟨3,m,L.map eIn⟩:=by rw[hG,um _ _ _ (by omega),ffr3 _ (by omega),mm _ _ (by omega)];exact gb
  have q6:G (nx2+6)=some ⟨5,1,[[.osl 0 0 0 0 0,.osl 0 0 0 0 0,.osl 0 0 0 0 0,.osl 0 0 0 0 0,.osl 0 0 0 0 0]]⟩:=by rw[hG,um2];exact aA.bH
  clear hG ffr3 g9 g16 hA
  refine⟨fun _=>by rw[a7];rfl,?_⟩
  refine aB.ao4 (args':=[dA (cU c),dA (eI HY),dS (L.map eIn)]) (without (fun j=>j=nb) (msk (nx2+2) [4] G)) (fun j=>j=nb) rfl (fun i d0 d h1 h2=> ?_) kS ?_
  ·match i with
   |0=>
    simp only[List.getElem?_cons_zero,Option.some.injEq] at h1 h2
    subst h1;subst h2
    exact aE rfl
   |1=>
    simp only[List.getElem?_cons_succ,List.getElem?_cons_zero,Option.some.injEq] at h1 h2
    subst h1;subst h2
    exact aE rfl
   |2=>
    simp only[List.getElem?_cons_succ,List.getElem?_cons_zero,Option.some.injEq] at h1 h2
    subst h1;subst h2
    exact yP QX ((mm nb G (by omega)).trans qb) rfl (by omega) rfl
   |i+3=>simp at h1
  refine IA hb hf (anK c) hL3 hLo fun H4 nx4 hx4 ffr4=> ?_
  generalize sQ c HY L=S at*
  refine(fun(h: ∀G',G'=dT (nx2+2) [4] G H4→DQ _ _ _ _ _ _ _ _ _ _ _ _ _ _)=>h _ rfl) fun G' hG'=> ?_
  have a8:G' 9=some ⟨3,1,[cU c]⟩:=by rw[hG',um _ _ _ (by omega),ffr4 _ (by omega),iI (by omega),a6];exact a7
  have aET:G' (nx2+6)=some ⟨5,1,[[.osl 0 0 0 0 0,.osl 0 0 0 0 0,.osl 0 0 0 0 0,.osl 0 0 0 0 0,.osl 0 0 0 0 0]]⟩:=by rw[hG',um2];exact q6
  simp only[go_sem]
  rw[←hG']
  clear hG' ffr4
  simp only[go_sem,Nat.add_assoc,Nat.reduceAdd,aET]
  refine hK _ _ _ ?_
  clear hK K
  have a9:(nx2=3)=False:=eq_false (by omega)
  obtain⟨ht0,htk⟩:=hrt
  have hlens:=hSk.st.lens hb
  have hST:(cX S).told=S.told:=rfl
  rw[hST] at hlens
  have hSr: ∀j∈S.told,j.rsp.data.length<2^20:=fun j hj=>by have:=(hSk.st.R8 j (List.mem_append_right _ hj)).1.2.2.1;omega
  have hpl3:=hSk.pl
  have hp0:=(hSk.port 0 (by omega)).ol
  have hto: ∀{H:aA} {nx:Nat} {K:D→aA→Nat→Prop},K (dS []) H nx→aB Tryz.prog zR [dS (S.told.map aS),dI 0] H nx K:=fun h=>anE (by omega) hSr (by rw[ht0];exact h)
  obtain⟨aEU,hP0⟩: ∃aEU,aEU=aF S 0:=⟨_,rfl⟩
  have hP0':S.bM.getD 0 default=aEU:=hP0.symm
  rw[←hP0] at hp0
  repeat' (first| (with_reducible first| (refine hK _ _ _ ?_;clear hK K)| (refine hB ?_;clear hA hB A B)|refine Z1 ?_|refine Z2 ?_|refine Z3 fun KB hKB=> ?_|refine Z5 (by omega) ?_)| (first| (with_reducible first|refine Y2 fun K hK=> ?_|refine Y3 fun A B hA hB=> ?_|refine Y5 (by omega) ?_)| (refine hto ?_))<;>(simp only[go_sem,a8,aET,a9,hpl3,hP0',Nat.add_assoc,Nat.left_eq_add])|refine⟨by omega,?_⟩|fail)
  (have hKY:=hKB;clear hKB)
  have hp3:=(hC hb).1
  have hp12:=(hC hb).2
  refine aM.gP (β:=Nat) (fun k=>en [(9,dI k),(8,.one (.c (.ptr 5 (nx2+6) 0 0))),(3,.one (.c (.ptr 3 9 0 0)))])
   (fun k H5 _=>(1≤k∧k≤3)∧H5 9=some ⟨3,1,[cU c]⟩∧H5 (nx2+6)=some ⟨5,1,[eI S]⟩) (fun k=>3-k) 1 ⟨noF,_,by repeat' (first| (with_reducible first|exact C1|refine C2 ?_ ?_)| ((with_reducible refine C0 ?_);exact CE (by omega) rfl)| ((with_reducible refine D0 ?_);first|exact CA rfl|refine CJ ?_)|fail),aK,by omega,by rw[aA.aC (by omega)];exact a8,aA.bH⟩ ?_
  clear a8 aET
  rintro k H5 nx5 hnx5 ⟨hk,g9,g6⟩ KM hKM
  by_cases hlt:k<3
  ·have htl:=htk k hk.1 hlt
   have hpk:=hp12 k
   have hto2: ∀{H:aA} {nx:Nat} {K:D→aA→Nat→Prop},K (dS ((fS S.told k).map aS)) H nx→aB Tryz.prog zR [dS (S.told.map aS),dI k] H nx K:=fun h=>anE (by omega) hSr h
   have hne:(¬((fS S.told k).length:Int)=(c.cP.getD k default).length)=False:=eq_false (fun h=>h (by rw[htl]))
   generalize fS S.told k=M at*
   repeat' (first| (with_reducible first| (refine hK _ _ _ ?_;clear hK K)| (refine hA ?_;clear hA hB A B)| (refine hB ?_;clear hA hB A B)|refine Z1 ?_|refine Z2 ?_|refine Z3 fun KB hKB=> ?_|refine Z4 (by omega) ?_)| (first| (with_reducible first|refine Y2 fun K hK=> ?_|refine Y3 fun A B hA hB=> ?_)| (refine hto2 ?_))<;>(simp only[go_sem,g9,g6,hp3,htl,hne,Nat.add_assoc,Nat.left_eq_add];try simp (disch:=omega) only[Iw])| ((with_reducible refine Y0 ?_);simp only[AQ.then,AQ.blk])|refine⟨by omega,?_⟩| (with_reducible refine hKB _ _ _ ?_)|fail)
   exact hKM _ _ _ (k+1) noF _ (by omega) (by omega) (by repeat' (first| (with_reducible first|exact C1|refine C2 ?_ ?_)| ((with_reducible refine C0 ?_);exact CE (by omega) rfl)| ((with_reducible refine D0 ?_);first|exact CA rfl|refine CJ ?_)|fail)) aK ⟨by omega,g9,g6⟩
  ·repeat' (first| (with_reducible first| (refine hK _ _ _ ?_;clear hK K)| (refine hB ?_;clear hA hB A B)|refine Z1 ?_|refine Z5 (by omega) ?_|refine hKY _ _ _ ?_)| (first| (with_reducible first|refine Y2 fun K hK=> ?_|refine Y3 fun A B hA hB=> ?_)| (with_reducible refine apY ?_))<;>(simp only[go_sem])| ((with_reducible first|refine Y8 ?_|refine Y9 ?_);try simp only[AQ.then,AQ.blk,reduceIte,Nat.reduceEqDiff])|fail)
   exact hQ _ _ _ _ _ (.inr rfl) rfl ⟨rfl,rfl⟩
end Go.Proofs.YtegiblhkjfiooaaGreat
end
section
namespace Go.AM
open Go.RowKit
def asV (k:IntKind) (w:World) (a:Option Addr) (len cap:Nat) (zs:List Int):Prop:=
 (a=none∧len=0∧cap=0∧zs=[])∨
 ∃x,a=some x∧len≤cap∧cap≤maxLen∧zs.length=cap∧(∀i,i<zs.length→w.cell? (x.add i)=some (.int k (zs.getD i 0)))∧ ∀n∈zs,(Lit.int k n).wf=true
theorem abA {P:Program} {f:FuncId} {l:List Int} {w:World} {v:Value} {I:Nat→Prop} (h:aB P f [dS (l.map eU8)] .nil 0 fun rr _ _=>rr.plain=true∧rr=dB true) (hI: ∀b,I b→b<w.heap.size) (hv:Imm I w (.isl (l.map eU8)) v):
 Calls P f #[v] w fun e w'=>e= .returned (.bool true)∧Below w.heap.size w w':=by
 have hno: ∀b,¬uG ⟨fun _=>(0,0),fun _=>False,I,w⟩ .nil b:=by rintro b ⟨id,o,h,_⟩;cases h
 have hst:St ⟨fun _=>(0,0),fun _=>False,I,w⟩ .nil:=⟨fun id o h=>(by cases h),fun id o h=>(by cases h),fun id o h=>(by cases h),fun id o i j r d h=>(by cases h),fun id id' o o' h=>(by cases h),fun id o h=>(by cases h),hI⟩
 refine(h.2 ⟨fun _=>(0,0),fun _=>False,I,w⟩ [v] hst (fun i hi=>hi.elim) rfl (fun i d u h1 h2=> ?_)).mono ?_
 ·match i with
  |0=>simp at h1 h2;subst h1;subst h2;exact hv
  |i+1=>simp at h1
 ·rintro x w' ⟨u,c',r,H',nx',rfl,rfl,p1,p2,p3,p4,p5,p6,rfl⟩
  have hu:u= .bool true:=by
   simp only[fD,jZ,Rel,bY] at p5
   cases p5;rfl
  subst hu
  exact⟨rfl,p2.os,p2.tape,p2.output,p2.size,fun k hk=>p2.frame k hk (hno k)⟩
theorem atQ {P:Program} {f:FuncId} (h: ∀l:List Int,(∀x∈l,0≤x∧x<256)→aB P f [dS (l.map eU8)] .nil 0 fun rr _ _=>rr.plain=true∧rr=dB true) (az5:Option Addr) (len0 cap0:Nat) (z0:List Int) (w:World) (w0:asV .u8 w az5 len0 cap0 z0):
 Calls P f #[.slice az5 len0 cap0] w fun e w'=>e= .returned (.bool true)∧Below w.heap.size w w':=by
 rcases w0 with⟨rfl,rfl,rfl,rfl⟩|⟨x,rfl,hl,hm,hz,hc,hw⟩
 ·refine abA (I:=fun _=>False) (h [] (fun x hx=>by cases hx)) (fun b hb=>hb.elim) ?_
  exact .isl [] none 0 1 0 0 (fun _ _=>.int .u8 0) (fun h=>absurd rfl h) (Nat.le_refl _) (fun i r h=>by simp at h) (fun i j r d h=>by simp at h) (fun i j r d h=>by simp at h)
 ·have hlt:(z0.take len0).length=len0:=by simp;omega
  have hby: ∀y∈z0.take len0,0≤y∧y<256:=fun y hy=>by
   have:=bounds_u8 (hw y (List.take_subset _ _ hy));omega
  refine abA (I:=fun b=>b=x.block∧0<len0) (h (z0.take len0) hby) (fun b hb=> ?_) ?_
  ·obtain⟨rfl,h0⟩:=hb
   have:=World.block_lt_of_cell? w _ (hc 0 (by omega))
   simpa [Addr.add] using this
  ·have key:=Imm.isl (I:=fun b=>b=x.block∧0<len0) (w:=w) ((z0.take len0).map eU8) (some x) cap0 1 x.block x.off (fun i _=>.int .u8 (z0.getD i 0)) (fun hne=> ?_) (by simp;omega) (fun i r hr=> ?_) (fun i j r d hr hd=> ?_) (fun i j r d hr hd=> ?_)
   ·rw[List.length_map,hlt] at key;exact key
   ·have h0:0<len0:=by
     rcases Nat.eq_zero_or_pos len0 with h0|h0
     ·subst h0;exact absurd (by simp) hne
     ·exact h0
    have hsp:=World.cell?_spot (hc 0 (by omega))
    refine⟨?_,rfl,h0⟩
    obtain⟨b,o,s⟩:=x
    simp only[Addr.add,if_true] at hsp
    subst hsp
    rfl
   ·obtain⟨y,_,rfl⟩:=List.mem_map.1 (List.mem_of_getElem? hr)
    rfl
   ·rw[List.getElem?_map] at hr
    obtain⟨y,hy,rfl⟩:=Option.map_eq_some_iff.1 hr
    match j with
    |0=>
     have hi:i<len0:=by have:=(List.getElem?_eq_some_iff.1 hy).1;omega
     have h1:=hc i (by omega)
     have hsp:=World.cell?_spot (hc 0 (by omega))
     obtain⟨b,o,s⟩:=x
     simp only[Addr.add,if_true] at hsp
     subst hsp
     have e:(Addr.mk b o none).add i=⟨b,o+(i*1+0),none⟩:=by
      unfold Addr.add
      split
      ·rename_i h;subst h;simp
      ·simp
     rw[e] at h1
     exact h1
    |j+1=>simp[eU8] at hd
   ·rw[List.getElem?_map] at hr
    obtain⟨y,hy,rfl⟩:=Option.map_eq_some_iff.1 hr
    match j with
    |0=>
     simp only[eU8,List.getElem?_cons_zero,Option.some.injEq] at hd
     subst hd
     have hyz:y=z0.getD i 0:=by
      rw[List.getElem?_take] at hy
      split at hy
      ·simp[List.getD,hy]
      ·cases hy
     subst hyz
     exact .v _ rfl
    |j+1=>simp[eU8] at hd
end Go.AM
end
