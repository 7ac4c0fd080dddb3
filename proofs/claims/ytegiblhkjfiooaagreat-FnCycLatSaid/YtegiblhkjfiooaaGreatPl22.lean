/- Texts laid together by a program: rules, contracts and the walk that leads to the law. -/
import Derived.Test.YtegiblhkjfiooaaGreatPl3
import Derived.Test.YtegiblhkjfiooaaGreatPl19
import Derived.Test.YtegiblhkjfiooaaGreatPl20
import Derived.Test.YtegiblhkjfiooaaGreatPl21
import Derived.Test.YtegiblhkjfiooaaGreatPl6
import Derived.OpenShut
import Derived.Below
set_option linter.unusedVariables false
set_option linter.unusedSimpArgs false
set_option linter.unusedSectionVars false
section
namespace Go.Proofs.YtegiblhkjfiooaaGreat
open Go Go.AM
set_option maxRecDepth 100000
set_option maxHeartbeats 8000000
theorem um1 {b k i:Nat} {A B:aA} (h:i≠b+k):dT b [k] A B i=B i:=by unfold dT;rw[if_neg (by simp;omega)]
theorem aH6 {b k:Nat} {A B:aA}:dT b [k] A B (b+k)=A (b+k):=by unfold dT;rw[if_pos (by simp)]
theorem mk1 {b k i:Nat} {A:aA} (h:i≠b+k):msk b [k] A i=A i:=by unfold msk;rw[if_neg (by simp;omega)]
theorem aHR:cJ Tryz.prog aHO Tryz.f3 aHM aHN:=cJ.mk Tryz.func3 (by kernel_rfl) aHP
theorem aH4 (l:List Int) (hby: ∀x∈l,0≤x∧x<256):aB Tryz.prog aHO [dS (l.map eU8)] .nil 0 fun rr _ _=>rr.plain=true∧rr=dB true:=by
 refine aHR rfl fun Q hQ=> ?_
 unfold aHM
 by_cases hbig:l.length≤1048576
 case neg=>
  repeat' (first| (with_reducible first| (refine hK _ _ _ ?_;clear hK K)| (refine hA ?_;clear hA hB A B)|refine Z1 ?_|refine Z4 (by omega) ?_)| (with_reducible first|refine Y2 fun K hK=> ?_|refine Y3 fun A B hA hB=> ?_)<;>(simp only[go_sem])| ((with_reducible refine Y8 ?_);try simp only[AQ.then,AQ.blk,reduceIte,Nat.reduceEqDiff])|fail)
  exact hQ _ _ _ _ _ (.inr rfl) rfl ⟨rfl,rfl⟩
 have hl:kZ l:=⟨by omega,hby⟩
 obtain⟨w,hw⟩: ∃w,w=l.length%3:=⟨_,rfl⟩
 have hw3:w<3:=by omega
 have hrem:(l.length:Int).tmod 3=w:=by rw[hw];rfl
 repeat' (first| (with_reducible first| (refine hK _ _ _ ?_;clear hK K)| (refine hB ?_;clear hA hB A B)|refine Z1 ?_|refine Z2 ?_|refine Z5 (by omega) ?_)| (first| (with_reducible first|refine Y2 fun K hK=> ?_|refine Y3 fun A B hA hB=> ?_)| (refine ajF hl (fun c xs hb hf hxl hxo=> ?_)))<;>(simp only[go_sem,hrem])|fail)
 refine aG1 hb hf hw3 fun H1 nx1 hx1 ffr1=> ?_
 have e9:=(ffr1 9 (by omega)).trans (show _=some ⟨3,1,[cU c]⟩ from rfl)
 have hbA:=aHA hb w
 have hfA:=aG7 hf w
 have hal: ∀k,k<3→k≠w→(aGT c w).cP.getD k default=[]:=fun k hk hne=>by rw[aG3 hb hk,if_neg hne]
 simp only[go_sem]
 repeat' (first| (with_reducible first| (refine hK _ _ _ ?_;clear hK K)|refine Z1 ?_)| (with_reducible refine Y2 fun K hK=> ?_)<;>(simp only[go_sem,e9])|fail)
 refine aG1 hb hf hw3 fun H2 nx2 hx2 ffr2=> ?_
 generalize aGT c w=c' at*
 have f19:=(ffr2 19 (by omega)).trans (show _=some ⟨3,1,[cU c']⟩ from aA.bH)
 clear ffr1 ffr2 e9
 have n2:(nx1+3=nx2)=False:=eq_false (by omega)
 simp only[go_sem]
 refine hK _ _ _ ?_
 clear hK K
 refine aM.asL fun K hK=> ?_
 simp only[go_sem,n2]
 refine hK _ _ _ ?_
 clear hK K
 obtain⟨d,hd⟩: ∃d:Cfg,d=⟨c'.map,[3,3,3,3],c'.cP⟩:=⟨_,rfl⟩
 have hbd:aQ d:=by rw[hd];exact⟨hbA.1,rfl,fun x hx=>by simp at hx;subst hx;omega,hbA.2.2.2⟩
 have hfd:jO d:=by rw[hd];exact⟨hfA.map,by simp,hfA.cP,hfA.prog,hfA.req⟩
 have hdm:d.map=c'.map:=by rw[hd]
 have hdp:d.cP=c'.cP:=by rw[hd]
 refine aM.TF fun G0 hG0=> ?_
 have c3:G0 (nx1+3)=some ⟨3,1,[[.isl (c'.map.map eN),.osl 1 nx2 0 4 4,.isl (c'.cP.map jR)]]⟩:=by rw[hG0];exact aA.bH
 have c2:G0 nx2=some ⟨1,4,[3,3,3,3].map aJ⟩:=by rw[hG0,aA.aC (by omega)];exact aA.bH
 have c19:G0 19=some ⟨3,1,[cU c']⟩:=by rw[hG0,aA.aC (by omega),aA.aC (by omega),aA.aC (by omega)];exact f19
 refine aM.tW _ ((without (fun j=>j=nx2) G0).set (nx1+3) ⟨3,1,[cU d]⟩) (fun j=>j=nx2) (fun t=>.inl rfl) (apO (t:=nx1+3) (o':=⟨3,1,[cU d]⟩) (fun j hj=> ?_) aA.bH c3 (by omega) (aP (by rw[hd];exact aH (bB rfl) (aH (bW bF c2 rfl (by simp) rfl) (aH (bB rfl) eP)))) fun j hj1 hj2=> ?_) ?_
 ·have hj':j=nx2:=hj
  rw[aA.aC (by omega)];exact if_pos hj
 ·rw[aA.aC hj1,iI (F:=fun j=>j=nx2) hj2]
 refine aM.TF fun aHF hG1=> ?_
 have p19:aHF 19=some ⟨3,1,[cU c']⟩:=by rw[hG1,aA.aC (by omega),iI (F:=fun j=>j=nx2) (by omega)];exact c19
 have p3:aHF (nx1+3)=some ⟨3,1,[cU d]⟩:=by rw[hG1];exact aA.bH
 clear hG1 hG0 c3 c2 c19 f19 n2 hd
 have m19: ∀G:aA,msk (nx2+3) [3] G 19=G 19:=fun G=>mk1 (by omega)
 repeat' (first| (with_reducible refine Z1 ?_)| (first| (with_reducible refine Y2 fun K hK=> ?_)| (refine UC (fun H3 nx3 hx3 ffr3=> ?_)))<;>(simp only[go_sem,p19,m19])|fail)
 obtain⟨G,hG⟩: ∃G,G=dT (nx2+3) [3] (aHF.set (nx2+3+3) ⟨5,1,[[.osl 0 0 0 0 0,.osl 0 0 0 0 0,.osl 0 0 0 0 0,.osl 0 0 0 0 0,.osl 0 0 0 0 0]]⟩) H3:=⟨_,rfl⟩
 rw[←hG]
 have q19:G 19=some ⟨3,1,[cU c']⟩:=by rw[hG,um1 (by omega),ffr3 _ (by omega),m19];exact p19
 have q3:G (nx1+3)=some ⟨3,1,[cU d]⟩:=by rw[hG,um1 (by omega),ffr3 _ (by omega),mk1 (by omega)];exact p3
 have q6:G (nx2+3+3)=some ⟨5,1,[[.osl 0 0 0 0 0,.osl 0 0 0 0 0,.osl 0 0 0 0 0,.osl 0 0 0 0 0,.osl 0 0 0 0 0]]⟩:=by rw[hG,aH6];exact aA.bH
 clear hG ffr3 p19 p3 m19
 refine⟨fun _=>by rw[q19];rfl,?_⟩
 refine afT hbA hfA (anK c') fun H4 nx4 hx4 ffr4=> ?_
 have hlat:=aH5 (c:=c') (d:=d) (who:=w) (N:=300) hbA hbd hdm hdp hw3 hal (by omega)
 have hfinS:Fin c' (sQ c' HY (List.replicate 300 pU)):=aiL hbA (anK c') (by have:=(afV hbA (anK c')).2;omega)
 have hfinT:Fin d (sQ d HY (List.replicate 300 pU)):=aiL hbd (anK d) (by have:=(afV hbd (anK d)).2;omega)
 have hSk:COk c' (sQ c' HY (List.replicate 300 pU)):=(afM hbA (anK c')).1
 have hTk:COk d (sQ d HY (List.replicate 300 pU)):=(afM hbd (anK d)).1
 have hfl: ∀{H:aA} {nx:Nat} {K:D→aA→Nat→Prop},(∀H' nx',nx≤nx'→(∀id,id<nx→H' id=H id)→K (dA (eI (sQ d HY (List.replicate 300 pU)))) H' nx')→aB Tryz.prog xN [dA (cU d),dA (eI HY),dI 300] H nx K:=fun h=>afT hbd hfd (anK d) h
 generalize sQ c' HY (List.replicate 300 pU)=S at*
 generalize sQ d HY (List.replicate 300 pU)=T at*
 refine(fun(h: ∀G',G'=dT (nx2+3) [3] G H4→DQ _ _ _ _ _ _ _ _ _ _ _ _ _ _)=>h _ rfl) fun G' hG'=> ?_
 have r19:G' 19=some ⟨3,1,[cU c']⟩:=by rw[hG',um1 (by omega),ffr4 _ (by omega),mk1 (by omega)];exact q19
 have r3:G' (nx1+3)=some ⟨3,1,[cU d]⟩:=by rw[hG',um1 (by omega),ffr4 _ (by omega),mk1 (by omega)];exact q3
 have aET:G' (nx2+3+3)=some ⟨5,1,[[.osl 0 0 0 0 0,.osl 0 0 0 0 0,.osl 0 0 0 0 0,.osl 0 0 0 0 0,.osl 0 0 0 0 0]]⟩:=by rw[hG',aH6];exact q6
 simp only[go_sem]
 rw[←hG']
 clear hG' ffr4 q19 q3 q6
 simp only[go_sem,aET]
 refine hK _ _ _ ?_
 clear hK K
 refine aM.TF fun aID hG2=> ?_
 have s19:aID 19=some ⟨3,1,[cU c']⟩:=by rw[hG2,aA.aC (by omega)];exact r19
 have s3:aID (nx1+3)=some ⟨3,1,[cU d]⟩:=by rw[hG2,aA.aC (by omega)];exact r3
 have aIE:aID (nx2+3+3)=some ⟨5,1,[eI S]⟩:=by rw[hG2];exact aA.bH
 clear hG2 r19 r3 aET
 have m3: ∀G:aA,msk nx4 [3] G (nx1+3)=G (nx1+3):=fun G=>mk1 (by omega)
 repeat' (first| (with_reducible refine Z1 ?_)| (first| (with_reducible refine Y2 fun K hK=> ?_)| (refine UC (fun H5 nx5 hx5 ffr5=> ?_)))<;>(simp only[go_sem,s3,m3])|fail)
 obtain⟨J,aIF⟩: ∃J,J=dT nx4 [3] (aID.set (nx4+3) ⟨5,1,[[.osl 0 0 0 0 0,.osl 0 0 0 0 0,.osl 0 0 0 0 0,.osl 0 0 0 0 0,.osl 0 0 0 0 0]]⟩) H5:=⟨_,rfl⟩
 rw[←aIF]
 have u19:J 19=some ⟨3,1,[cU c']⟩:=by rw[aIF,um1 (by omega),ffr5 _ (by omega),mk1 (by omega)];exact s19
 have aIG:J (nx1+3)=some ⟨3,1,[cU d]⟩:=by rw[aIF,um1 (by omega),ffr5 _ (by omega),m3];exact s3
 have aIH:J (nx2+3+3)=some ⟨5,1,[eI S]⟩:=by rw[aIF,um1 (by omega),ffr5 _ (by omega),mk1 (by omega)];exact aIE
 have aII:J (nx4+3)=some ⟨5,1,[[.osl 0 0 0 0 0,.osl 0 0 0 0 0,.osl 0 0 0 0 0,.osl 0 0 0 0 0,.osl 0 0 0 0 0]]⟩:=by rw[aIF,aH6];exact aA.bH
 clear aIF ffr5 s19 s3 aIE m3
 refine⟨fun _=>by rw[aIG];rfl,?_⟩
 refine hfl fun aIJ nx6 hx6 ffr6=> ?_
 refine(fun(h: ∀J',J'=dT nx4 [3] J aIJ→DQ _ _ _ _ _ _ _ _ _ _ _ _ _ _)=>h _ rfl) fun J' hJ'=> ?_
 have v19:J' 19=some ⟨3,1,[cU c']⟩:=by rw[hJ',um1 (by omega),ffr6 _ (by omega),mk1 (by omega)];exact u19
 have v3:J' (nx1+3)=some ⟨3,1,[cU d]⟩:=by rw[hJ',um1 (by omega),ffr6 _ (by omega),mk1 (by omega)];exact aIG
 have v6:J' (nx2+3+3)=some ⟨5,1,[eI S]⟩:=by rw[hJ',um1 (by omega),ffr6 _ (by omega),mk1 (by omega)];exact aIH
 have v4:J' (nx4+3)=some ⟨5,1,[[.osl 0 0 0 0 0,.osl 0 0 0 0 0,.osl 0 0 0 0 0,.osl 0 0 0 0 0,.osl 0 0 0 0 0]]⟩:=by rw[hJ',aH6];exact aII
 simp only[go_sem]
 rw[←hJ']
 clear hJ' ffr6 u19 aIG aIH aII
 simp only[go_sem,v4]
 refine hK _ _ _ ?_
 clear hK K
 refine aM.TF fun aIK hJ2=> ?_
 have x19:aIK 19=some ⟨3,1,[cU c']⟩:=by rw[hJ2,aA.aC (by omega)];exact v19
 have x3:aIK (nx1+3)=some ⟨3,1,[cU d]⟩:=by rw[hJ2,aA.aC (by omega)];exact v3
 have aIL:aIK (nx2+3+3)=some ⟨5,1,[eI S]⟩:=by rw[hJ2,aA.aC (by omega)];exact v6
 have aAO:aIK (nx4+3)=some ⟨5,1,[eI T]⟩:=by rw[hJ2];exact aA.bH
 clear hJ2 v19 v3 v6 v4
 have hdS:=decide_eq_true ((asX hSk).2 hfinS)
 have hdT:=decide_eq_true ((asX hTk).2 hfinT)
 have hcS: ∀{H:aA} {nx:Nat} {K:D→aA→Nat→Prop},K (dB true) H nx→aB Tryz.prog xJ [dA (cU c'),dA (eI S)] H nx K:=fun h=>ak3 hbA hfA hSk (by rw[hdS];exact h)
 have hcT: ∀{H:aA} {nx:Nat} {K:D→aA→Nat→Prop},K (dB true) H nx→aB Tryz.prog xJ [dA (cU d),dA (eI T)] H nx K:=fun h=>ak3 hbd hfd hTk (by rw[hdT];exact h)
 have hwS:=hSk.atm.wl
 have hwT:=hTk.atm.wl
 have hci: ∀{H:aA} {nx:Nat} {K:D→aA→Nat→Prop},K (dB true) H nx→aB Tryz.prog jM [dS (S.words.map aJ),dS (T.words.map aJ)] H nx K:=fun h=>tP (by omega) (by omega) (by rw[decide_eq_true hlat.1];exact h)
 have hlS:=hSk.st.lens hbA
 have hlT:=hTk.st.lens hbd
 rw[show (cX S).told=S.told from rfl] at hlS
 rw[show (cX T).told=T.told from rfl] at hlT
 have hSr: ∀j∈S.told,j.rsp.data.length<2^40:=fun j hj=>by have:=(hSk.st.R8 j (List.mem_append_right _ hj)).1.2.2.1;omega
 have hTr: ∀j∈T.told,j.rsp.data.length<2^40:=fun j hj=>by have:=(hTk.st.R8 j (List.mem_append_right _ hj)).1.2.2.1;omega
 have hf1: ∀{H:aA} {nx:Nat} {K:D→aA→Nat→Prop},K (dB true) H nx→aB Tryz.prog AW [dS (S.told.map aS),dS (T.told.map aS)] H nx K:=fun h=>anG (by omega) (by omega) hSr (fun j hj=>hlat.2.mem_iff.2 hj) h
 have hf2: ∀{H:aA} {nx:Nat} {K:D→aA→Nat→Prop},K (dB true) H nx→aB Tryz.prog AW [dS (T.told.map aS),dS (S.told.map aS)] H nx K:=fun h=>anG (by omega) (by omega) hTr (fun j hj=>hlat.2.mem_iff.1 hj) h
 repeat' (first| (with_reducible first| (refine hK _ _ _ ?_;clear hK K)| (refine hB ?_;clear hA hB A B)|refine Z1 ?_|refine Z2 ?_)| (first| (with_reducible first|refine Y2 fun K hK=> ?_|refine Y3 fun A B hA hB=> ?_)| (refine hcS ?_)| (refine hcT ?_)| (refine hci ?_)| (refine hf1 ?_)| (refine hf2 ?_))<;>(simp only[go_sem,x19,x3,aIL,aAO])| ((with_reducible refine Y8 ?_);try simp only[AQ.then,AQ.blk,reduceIte,Nat.reduceEqDiff])|fail)
 exact hQ _ _ _ _ _ (.inr rfl) rfl ⟨rfl,rfl⟩
end Go.Proofs.YtegiblhkjfiooaaGreat
end
section
namespace Go.AM
open Go.RowKit
def asV (k:IntKind) (w:World) (a:Option Addr) (len cap:Nat) (zs:List Int):Prop:=
 (a=none∧len=0∧cap=0∧zs=[])∨
 ∃x,a=some x∧len≤cap∧cap≤maxLen∧zs.length=cap∧(∀i,i<zs.length→w.cell? (x.add i)=some (.int k (zs.getD i 0)))∧ ∀n∈zs,(Lit.int k n).wf=true
theorem abA {P:Program} {f:FuncId} {l:List Int} {w:World} {v:Value} {I:Nat→Prop} (h:aB P f [dS (l.map eU8)] .nil 0 fun rr _ _=>rr.plain=true∧rr=dB true) (hI: ∀b,I b→b<w.heap.size) (hv:Imm I w (.isl (l.map eU8)) v):
 Calls P f #[v] w fun e w'=>e= .returned (.bool true)∧Below w.heap.size w w':=by
 have hno: ∀b,¬uG ⟨fun _=>(0,0),fun _=>False,I,w⟩ .nil b:=by rintro b ⟨id,o,h,_⟩;cases h
 have hst:St ⟨fun _=>(0,0),fun _=>False,I,w⟩ .nil:=⟨fun id o h=>(by cases h),fun id o h=>(by cases h),fun id o h=>(by cases h),fun id o i j r d h=>(by cases h),fun id id' o o' h=>(by cases h),fun id o h=>(by cases h),hI⟩
 refine(h.2 ⟨fun _=>(0,0),fun _=>False,I,w⟩ [v] hst (fun i hi=>hi.elim) rfl (fun i d u h1 h2=> ?_)).mono ?_
 ·match i with
  |0=>simp at h1 h2;subst h1;subst h2;exact hv
  |i+1=>simp at h1
 ·rintro x w' ⟨u,c',r,H',nx',rfl,rfl,p1,p2,p3,p4,p5,p6,rfl⟩
  have hu:u= .bool true:=by
   simp only[fD,jZ,Rel,bY] at p5
   cases p5;rfl
  subst hu
  exact⟨rfl,p2.os,p2.tape,p2.output,p2.size,fun k hk=>p2.frame k hk (hno k)⟩
theorem atQ {P:Program} {f:FuncId} (h: ∀l:List Int,(∀x∈l,0≤x∧x<256)→aB P f [dS (l.map eU8)] .nil 0 fun rr _ _=>rr.plain=true∧rr=dB true) (az5:Option Addr) (len0 cap0:Nat) (z0:List Int) (w:World) (w0:asV .u8 w az5 len0 cap0 z0):
 Calls P f #[.slice az5 len0 cap0] w fun e w'=>e= .returned (.bool true)∧Below w.heap.size w w':=by
 rcases w0 with⟨rfl,rfl,rfl,rfl⟩|⟨x,rfl,hl,hm,hz,hc,hw⟩
 ·refine abA (I:=fun _=>False) (h [] (fun x hx=>by cases hx)) (fun b hb=>hb.elim) ?_
  exact .isl [] none 0 1 0 0 (fun _ _=>.int .u8 0) (fun h=>absurd rfl h) (Nat.le_refl _) (fun i r h=>by simp at h) (fun i j r d h=>by simp at h) (fun i j r d h=>by simp at h)
 ·have hlt:(z0.take len0).length=len0:=by simp;omega
  have hby: ∀y∈z0.take len0,0≤y∧y<256:=fun y hy=>by
   have:=bounds_u8 (hw y (List.take_subset _ _ hy));omega
  refine abA (I:=fun b=>b=x.block∧0<len0) (h (z0.take len0) hby) (fun b hb=> ?_) ?_
  ·obtain⟨rfl,h0⟩:=hb
   have:=World.block_lt_of_cell? w _ (hc 0 (by omega))
   simpa [Addr.add] using this
  ·have key:=Imm.isl (I:=fun b=>b=x.block∧0<len0) (w:=w) ((z0.take len0).map eU8) (some x) cap0 1 x.block x.off (fun i _=>.int .u8 (z0.getD i 0)) (fun hne=> ?_) (by simp;omega) (fun i r hr=> ?_) (fun i j r d hr hd=> ?_) (fun i j r d hr hd=> ?_)
   ·rw[List.length_map,hlt] at key;exact key
   ·have h0:0<len0:=by
     rcases Nat.eq_zero_or_pos len0 with h0|h0
     ·subst h0;exact absurd (by simp) hne
     ·exact h0
    have hsp:=World.cell?_spot (hc 0 (by omega))
    refine⟨?_,rfl,h0⟩
    obtain⟨b,o,s⟩:=x
    simp only[Addr.add,if_true] at hsp
    subst hsp
    rfl
   ·obtain⟨y,_,rfl⟩:=List.mem_map.1 (List.mem_of_getElem? hr)
    rfl
   ·rw[List.getElem?_map] at hr
    obtain⟨y,hy,rfl⟩:=Option.map_eq_some_iff.1 hr
    match j with
    |0=>
     have hi:i<len0:=by have:=(List.getElem?_eq_some_iff.1 hy).1;omega
     have h1:=hc i (by omega)
     have hsp:=World.cell?_spot (hc 0 (by omega))
     obtain⟨b,o,s⟩:=x
     simp only[Addr.add,if_true] at hsp
     subst hsp
     have e:(Addr.mk b o none).add i=⟨b,o+(i*1+0),none⟩:=by
      unfold Addr.add
      split
      ·rename_i h;subst h;simp
      ·simp
     rw[e] at h1
     exact h1
    |j+1=>simp[eU8] at hd
   ·rw[List.getElem?_map] at hr
    obtain⟨y,hy,rfl⟩:=Option.map_eq_some_iff.1 hr
    match j with
    |0=>
     simp only[eU8,List.getElem?_cons_zero,Option.some.injEq] at hd
     subst hd
     have hyz:y=z0.getD i 0:=by
      rw[List.getElem?_take] at hy
      split at hy
      ·simp[List.getD,hy]
      ·cases hy
     subst hyz
     exact .v _ rfl
    |j+1=>simp[eU8] at hd
end Go.AM
end
