/- Texts laid together by a program: rules, contracts and the walk that leads to the law. -/
import Derived.Test.YtlncecohbakleaaGreatPB15
set_option linter.unusedVariables false
set_option linter.unusedSimpArgs false
set_option linter.unusedSectionVars false
set_option maxRecDepth 100000
set_option maxHeartbeats 8000000
namespace Go.AM
noncomputable def cyB(c:Cfg)(s:CSt):Bool:=@decide (bI c/\COk c s) (Classical.propDecidable _)
variable{s:CSt}
theorem aeT{c:Cfg}(a:bI c)(h:COk c s):cyB c s=true:=by simp[cyB,h,a]
theorem Qs{c:Cfg}(h: ¬(bI c/\COk c s)):cyB c s=false:=by simp[cyB,h]
theorem ajC{c:Cfg}:cyB c s=true↔bI c/\COk c s:=by simp[cyB]
structure zz(s:CSt):Prop where
 w:s.words.length<2^21
 h:s.holds.length<2^21
 t:s.told.length<2^21
 td: ∀j∈s.told,j.rsp.data.length<2^21
 pl:s.bE.length<2^21
 sl:s.bM.length<2^21
 port: ∀k,(aL s k).queue.length<2^21/\(aL s k).out.length<2^21
 slv: ∀k,(aU s k).pipe.length<2^21/\(aU s k).done.length<2^21/\ ∀j∈(aU s k).done,j.rsp.data.length<2^21
theorem Ko(b:zz s)(c:s.bE.length=3)(d:s.bM.length<=4)(e: ∀k,k<3->(aL s k).queue.length<=3)(f: ∀k,k<s.bM.length->(aU s k).pipe.length<=3/\(aU s k).done.length<=3)(hw:(pN s).length<20)(g:(tP s).length<20):jx s:=by
 refine⟨c,d,e,f,hw,g,⟨b.w,b.h,by simpa [dH] using b.pl,?_,?_,b.t,fun j a=> ?_⟩⟩;·show (cR (pN s)).length<_;rw[(iT _).length_eq];omega
 ·show (cR (tP s)).length<_;rw[(iT _).length_eq];omega
 ·have a:j∈cR (pN s)++cR (tP s)++s.told:=a;simp only[akL,IH] at a;rcases a with(a|a)|a
  ·rcases TI.1 a with⟨k,_,m,_,rfl⟩|⟨k,_,m,_,rfl⟩
   ·exact(by decide:([]:List Int).length<2^21)
   ·exact(by decide:([]:List Int).length<2^21)
  ·obtain⟨k,_,h⟩:=TM.1 a;exact(b.slv k).2.2 j h
  ·exact b.td j a
theorem Ik{a b:Nat}(c:s.bE.length=3)(e:s.bM.length<=4)(g: ∀k,k<3->(aL s k).queue.length<=a)(h: ∀k,k<s.bM.length->(aU s k).pipe.length<=b):(pN s).length<=a*3+b*4:=by
 unfold pN;rw[akG];have i:=yB (f:=gI s) (m:=a) s.bE.length fun k d=>by rw[c] at d;simpa [gI] using g k d
 have j:=yB (f:=eX s) (m:=b) s.bM.length fun k d=>by simpa [eX] using h k d
 rw[c] at i;have l:=Nat.mul_le_mul_left b e;rw[c];omega
theorem vz{b:Nat}(a:s.bM.length<=4)(c: ∀k,k<s.bM.length->(aU s k).done.length<=b):(tP s).length<=b*4:=by unfold tP;have e:=yB (f:=fun k=>(aU s k).done) (m:=b) s.bM.length fun k d=>c k d;have g:=Nat.mul_le_mul_left b a;omega
theorem Dp{c:Cfg}(g:zz s)(hp:C6 c s)(h:s.bM.length=4)(b: ∀k,k<4->rP c s k):jx s:=by have d: ∀k,k<3->(aL s k).queue.length<=2:=fun k a=>(hp.port k a).ql.1;have e: ∀k,k<s.bM.length->(aU s k).pipe.length<=2:=fun k a=>(b k (by omega)).pl;have f: ∀k,k<s.bM.length->(aU s k).done.length<=2:=fun k a=>(b k (by omega)).dl;have i:=Ik hp.pl (by omega) d e;have j:=vz (by omega) f;exact Ko g hp.pl (by omega) (fun k a=>by have:=d k a;omega) (fun k a=>⟨by have:=e k a;omega,by have:=f k a;omega⟩) (by omega) (by omega)
end Go.AM
namespace Go.Proofs.YtlncecohbakleaaGreat
open Go Go.AM
attribute [local irreducible] aH wv aC vd wvH
section
variable{H:aA}{nx:Nat}{K:an4}
theorem yx(c:Cfg)(s:CSt)(O:OJ c)(P:zz s):an3 GV [dA (cD c),dA (dY s)] .nil 0 fun r _ _=>r.plain=true/\r=dB (cyB c s):=by
 have cq:=P.w;have ct:=P.h;have cw:=P.pl;have cx:=P.sl;refine bA.mk Tryz.func105 (by kernel_rfl) yv rfl fun Q V=> ?_;unfold DF;have b: ¬(bI c/\COk c s)->dB false=dB (cyB c s):=fun h=>congrArg dB (Qs h).symm;by_cases t:bI c
 case neg=>
  repeat' first| (first|apply vI|apply OG O)<;>(simp only[go_sem,eq_false t])|fail
  all_goals exact V _ _ _ _ _ (.inr rfl) rfl ⟨rfl,b fun h=>t h.1⟩
 by_cases Z:rH s.words s.holds/\(s.bE.length:Int)=3/\(s.bM.length:Int)=4
 case neg=>
  have R: ¬(bI c/\COk c s):=fun⟨_,h⟩=>Z ⟨tw h.atm,by rw[h.pl];rfl,by rw[h.sl];rfl⟩;repeat' first| (first|apply vI|refine Y6 (fun h=> ?_) fun h=> ?_|apply OG O|refine GY (w:=s.words) (u:=s.holds) (by omega) (by omega) (aD rfl) ?_)<;>(simp only[go_sem,eq_true t])|refine iB (fun h=> ?_) fun h=> ?_|fail
  all_goals first|exact V _ _ _ _ _ (.inr rfl) rfl ⟨rfl,b R⟩|exact absurd ⟨by simp_all,by omega,by omega⟩ Z
 obtain⟨e,F,g⟩:=Z;have F:s.bE.length=3:=by omega
 have g:s.bM.length=4:=by omega
 have aa:=decide_eq_true e;have ab:=decide_eq_true t;repeat' first| (first|apply vI|apply Y5 (by omega)|apply OG O|refine GY (by omega) (by omega) (aD rfl) ?_)<;>(simp only[go_sem,eq_true t,aa,ab,F,g])|apply vF (by omega)|fail
 refine aH.abK fun Y S=> ?_;have c0:Y 0=some ⟨3,1,[cD c]⟩:=by rw[S];rfl
 have c1:Y 1=some ⟨5,1,[dY s]⟩:=by rw[S];rfl
 clear S;obtain⟨C,G⟩: ∃C:Nat->Int,C=fun k=>((aL s k).out.length:Int):=⟨_,rfl⟩
 obtain⟨H,I⟩: ∃H:Nat->Int,H=fun k=>(((aU s k).pipe.length:Int)+(aU s k).done.length):=⟨_,rfl⟩
 refine aH.cE (β:=Nat) (fun k=>en [(35,dI k),(34,dI 3),(33,dS (s.bE.map bV)),(6,dI 0),(5,dI (eM C k)),(3,.one (.c (.ptr 5 1 0 0))),(2,.one (.c (.ptr 3 0 0 0)))])
  (fun k H1 _=>k<=3/\(∀i,i<k->gV c i (aL s i))/\ ∀id,id<30->H1 id=Y id) (fun k=>3-k) 0 ⟨noF,_,by repeat' first|exact C1|refine xqI rfl rfl ?_|refine xqP (by omega) rfl rfl ?_|fail,aF,by omega,fun i hi=>by omega,fun _ _=>rfl⟩ ?_
 rintro k H1 ad cy ⟨hk,J,d⟩ KL ao;have D:=(d 0 (by omega)).trans c0;have K:=(d 1 (by omega)).trans c1;have E:bH ad [0,1]:=AM.apart (by simp) (by simp;omega);simp only[bH,cU] at E;have dc:=M6 (f:=C) (m:=4) (by omega) k fun j hj=>by have:=(J j (by omega)).ol;rw[G];dsimp only;omega
 by_cases l:k<3
 ·obtain⟨p,x⟩: ∃p,p=aL s k:=⟨_,rfl⟩
  have M:s.bE.getD k default=p:=x.symm;obtain⟨o,q⟩:=P.port k;have y:eM C (k+1)=eM C k+p.out.length:=by rw[eM,G,x]
  rw[<-x] at o q;by_cases a:gV c k p
  ·have n:=Qt a;have df:=a.ol;repeat' first| (first|apply vI|apply A1 t l o q)<;>(simp only[go_sem,akB,akC,M,D,K,n,E];try simp (disch:=omega) only[Iw])|apply vT (by omega)|refine⟨by omega,?_⟩|fail
   exact ao _ _ _ (k+1) noF _ (by omega) (by omega) (by rw[y];repeat' first|exact C1|refine xqI rfl rfl ?_|refine xqP (by omega) rfl rfl ?_|fail) aF ⟨by omega,bT J (by rw[<-x];exact a),fun id T=>by rw[aA.aB (by omega)];exact d id T⟩
  ·have n:=cr a;repeat' first| (first|apply vI|apply A1 t l o q)<;>(simp only[go_sem,akB,akC,M,D,K,n,E])|apply vT (by omega)|refine⟨by omega,?_⟩|fail
   all_goals exact V _ _ _ _ _ (.inr rfl) rfl ⟨rfl,b fun h=>a (by rw[x];exact h.2.port k l)⟩
 ·have az:k=3:=by omega
  subst az;have hP:C6 c s:=⟨F,J⟩
  repeat' first|apply vI<;>(simp only[go_sem,D,K,g])|apply vF (by omega)|fail
  refine aH.cE (β:=Nat) (fun k=>en [(54,dI k),(53,dI 4),(52,dS (s.bM.map eV)),(6,dI (eM H k)),(5,dI (eM C 3)),(3,.one (.c (.ptr 5 1 0 0))),(2,.one (.c (.ptr 3 0 0 0)))])
   (fun k H1 _=>k<=4/\(∀i,i<k->rP c s i)/\ ∀id,id<30->H1 id=Y id) (fun k=>4-k) 0 ⟨noF,_,by repeat' first|exact C1|refine xqI rfl rfl ?_|refine xqP (by omega) rfl rfl ?_|fail,aF,by omega,fun i hi=>by omega,d⟩ ?_
  clear d D K E;rintro k H2 br ca ⟨hk,z,d⟩ KM cc;have D:=(d 0 (by omega)).trans c0;have K:=(d 1 (by omega)).trans c1;have E:bH br [0,1]:=AM.apart (by simp) (by simp;omega);simp only[bH,cU] at E;have dh:=M6 (f:=H) (m:=4) (by omega) k fun j hj=>by have h1:=(z j (by omega)).pl;have h2:=(z j (by omega)).dl;rw[I];dsimp only;omega
  by_cases l:k<4
  ·obtain⟨v,U⟩: ∃v,v=aU s k:=⟨_,rfl⟩
   have N:s.bM.getD k default=v:=U.symm;obtain⟨o,q,W⟩:=P.slv k;by_cases a:rP c s k
   ·have cd:=a.pl;have cf:=a.dl;rw[<-U] at cd cf;have y:eM H (k+1)=eM H k+(v.pipe.length+v.done.length):=(by rw[eM,I,U]);have n:=Pw a;repeat' first| (first|apply vI|apply zL t hP g l o q W)<;>(simp only[go_sem,akB,akC,N,D,K,n,E];try simp (disch:=omega) only[Iw])|apply vT (by omega)|refine⟨by omega,?_⟩|fail
    exact cc _ _ _ (k+1) noF _ (by omega) (by omega) (by rw[y];repeat' first|exact C1|refine xqI rfl rfl ?_|refine xqP (by omega) rfl rfl ?_|fail) aF ⟨by omega,bT z a,fun id T=>by rw[aA.aB (by omega)];exact d id T⟩
   ·have n:=VT a;repeat' first| (first|apply vI|apply zL t hP g l o q W)<;>(simp only[go_sem,akB,akC,N,D,K,n,E])|apply vT (by omega)|refine⟨by omega,?_⟩|fail
    all_goals exact V _ _ _ _ _ (.inr rfl) rfl ⟨rfl,b fun h=>a (h.2.slv k l)⟩
  ·have cl:k=4:=(by omega);subst cl;have X:=Dp P hP g z;by_cases A:eM C 3=eM H 4
   case neg=>
    have B:(eM C 3=eM H 4)=False:=eq_false A
    have R: ¬(bI c/\COk c s):=fun⟨_,h⟩=>A (by
     have:=h.count
     unfold lO at this
     rw[G,I]
     simp only[eM]
     omega)
    repeat' first|apply vI<;>(simp only[go_sem,akB,akC,D,K,B,E])|apply vF (by omega)|fail
    all_goals exact V _ _ _ _ _ (.inr rfl) rfl ⟨rfl,b R⟩
   have B:(eM C 3=eM H 4)=True:=eq_true A;repeat' first| (first|apply vI|refine wy X (fun H' nx' ds cp=> ?_))<;>(simp only[go_sem,akB,akC,D,K,B,E])|apply vF (by omega)|fail
   have e0:=(cp 0 (by omega)).trans D;refine⟨fun _=>by rw[e0];rfl,?_⟩;apply QV t X.st;simp only[go_sem];repeat' first|apply vI<;>(simp only[go_sem,e0])|fail
   refine V _ _ _ _ _ (.inr rfl) rfl ⟨rfl,congrArg dB ?_⟩;by_cases L:rU c (dH s);·rw[Wy L];refine(aeT t ⟨⟨by have:=e.1.1;omega,e.1.2,by have:=e.2.1;omega,e.2.2⟩,F,g,J,z,?_,L⟩).symm;unfold lO;rw[G,I] at A;simp only[eM] at A;omega
   ·rw[U0 L,Qs fun h=>L h.2.st]
theorem abP{c:Cfg}{s:CSt}(a:OJ c)(b:zz s)(h:K (dB (cyB c s)) H nx):an3 GV [dA (cD c),dA (dY s)] H nx K:=(yx c s a b).pure rfl (aE ⟨aD rfl,aD rfl,trivial⟩) fun r hr=>hr▸h
end
theorem Tj{l:List Job}(h: ∀i,i<l.length->key (l.getD i default)∉(l.take i).map key):(l.map key).Nodup:=by refine amY.2 (ak5.2 fun i j hi a b he=> ?_);apply h j a;rw[show l.getD j default=l[j] by simp[List.getD,a],<-he];exact al1 (akX.2 ⟨i,by simp;omega,by simp⟩)
theorem Ve{l:List Job}(h:(l.map key).Nodup){i:Nat}(hi:i<l.length):key (l.getD i default)∉(l.take i).map key:=by
 intro hm;obtain⟨x,b,he⟩:=akJ.1 hm;obtain⟨j,c,rfl⟩:=akX.1 b;have a:j<i:=by simp at c;omega
 have d:=ak5.1 (amY.1 h) j i (by omega) hi a;rw[show l.getD i default=l[i] by simp[List.getD,hi]] at he;simp only[amQ] at he;exact d he
section
variable{H:aA}{nx:Nat}{K:an4}
theorem K2{c:Cfg}{s:TSt}(I:bI c)(p:s.asked.length=3)(w:Tk c s.asked)(hl:s.told.length<2^21)(J: ∀j∈s.told,j.rsp.data.length<2^21)(h:K (dB (wi c s)) H nx):an3 KZ [dA (cD c),dA (eSt s)] H nx K:=by
 refine aC.pure (args0:=[dA (cD c),dA (eSt s)]) (R:=fun L=>L=dB (wi c s)) ?_ rfl (aE ⟨aD rfl,aD rfl,trivial⟩) (fun r hr=>hr▸h);clear h;refine aM.mk Tryz.func215 (by kernel_rfl) wh rfl fun Q m=> ?_;unfold y6;obtain⟨d,q⟩:=eN I;repeat' first|apply vI<;>(simp only[go_sem])|fail
 (refine aH.loop (α:={k:Nat//k<=s.told.length/\(∀i,i<k->InA s.asked (s.told.getD i default)/\y4 c (s.told.getD i default)/\key (s.told.getD i default)∉(s.told.take i).map key)}) (fun u=>en [(5,dI u.1),(3,.one (.c (.eT (eSt s)))),(2,.one (.c (.eT (cD c))))]) (fun _=>.nil) _ (fun u=>s.told.length-u.1) ⟨0,by omega,(by intros;first|trivial|omega)⟩ (aS (akA _) (by repeat' first|exact C1|refine xqI rfl rfl ?_| (with_reducible apply C2)| ((with_reducible apply D0);exact CI rfl (by simp) rfl rfl rfl)|fail)) ?_);(rintro⟨k,S,hinv⟩ T y);by_cases t:k<s.told.length
 ·obtain⟨j,z⟩: ∃j,j=s.told.getD k default:=⟨_,rfl⟩
  have b:=z.symm;have hm:j∈s.told:=by rw[z];exact bL t
  have M:=J j hm;have f:InA s.asked j->y4 c j->key j∉(s.told.take k).map key->∀i,i<k+1->InA s.asked (s.told.getD i default)/\y4 c (s.told.getD i default)/\key (s.told.getD i default)∉(s.told.take i).map key:=fun o N O=>bT hinv (by rw[b];exact⟨o,N,O⟩);have a: ¬(InA s.asked j/\y4 c j/\key j∉(s.told.take k).map key)->wi c s=false:=fun h=>Qe fun A=>h ⟨A.inA j hm,A.rsp j hm,by rw[z];exact Ve A.once t⟩;by_cases hw:0<=j.who/\j.who<=2
  ·have F:=w j.who.toNat (by omega);have G:=q j.who.toNat;by_cases g:0<=j.n/\j.n<=s.asked.getD j.who.toNat default-1
   ·have B:InA s.asked j:=⟨hw,g.1,by omega⟩
    by_cases hr:jZ j.rsp
    ·by_cases e:j.rsp.id=((c.b7.getD j.who.toNat default).getD j.n.toNat default).id
     ·have C:y4 c j:=⟨hr,e⟩
      by_cases v:0<=bR (iI j.who j.n) (s.told.take k)
      ·repeat' first| (first|apply vI|apply bF|apply oX (show j.rsp.data.length<2^40 by omega)| (apply l7 (l:=s.told.take k) (by simp;omega)))<;>(simp only[go_sem,b,eq_true hw,eq_true g,eq_true hr,e.symm,d,p];try simp (disch:=omega) only[Iw])|apply vT (by omega)|refine⟨by omega,?_⟩|fail
       all_goals first| (exfalso;omega)|exact aJ m (dB false) rfl rfl (congrArg dB (a fun⟨_,_,h⟩=>h (uJ.1 v))).symm
      ·repeat' first| (first|apply vI|apply bF|apply oX (show j.rsp.data.length<2^40 by omega)| (apply l7 (l:=s.told.take k) (by simp;omega)))<;>(simp only[go_sem,b,eq_true hw,eq_true g,eq_true hr,e.symm,d,p];try simp (disch:=omega) only[Iw])|apply vT (by omega)|apply vF (by omega)|refine⟨by omega,?_⟩|fail
       all_goals first| (exfalso;omega)| (refine y _ _ _ ⟨k+1,by omega,f B C (fun h=>v (uJ.2 h))⟩ (by omega) (by(try dsimp only);omega) (aS (akA _) (by repeat' first|exact C1|refine xqI rfl rfl ?_|fail)))
     ·repeat' first| (first|apply vI|apply Y4 (by omega)|apply bF|apply oX (show j.rsp.data.length<2^40 by omega))<;>(simp only[go_sem,b,eq_true hw,eq_true g,eq_true hr,d,p];try simp (disch:=omega) only[Iw])|apply vT (by omega)|refine⟨by omega,?_⟩|fail
      all_goals first| (exfalso;omega)|exact aJ m (dB false) rfl rfl (congrArg dB (a fun⟨_,h,_⟩=>e h.2)).symm
    ·repeat' first| (first|apply vI|apply bF|apply oX (show j.rsp.data.length<2^40 by omega))<;>(simp only[go_sem,b,eq_true hw,eq_true g,eq_false hr,d,p];try simp (disch:=omega) only[Iw])|apply vT (by omega)|refine⟨by omega,?_⟩|fail
     all_goals first| (exfalso;omega)|exact aJ m (dB false) rfl rfl (congrArg dB (a fun⟨_,h,_⟩=>hr h.1)).symm
   ·repeat' first| (first|apply vI|apply bF)<;>(simp only[go_sem,b,eq_true hw,eq_false g,p];try simp (disch:=omega) only[Iw])|apply vT (by omega)|refine⟨by omega,?_⟩|fail
    all_goals first| (exfalso;omega)|exact aJ m (dB false) rfl rfl (congrArg dB (a fun⟨o,_,_⟩=>g ⟨o.2.1,by have:=o.2.2;omega⟩)).symm
  ·repeat' first| (first|apply vI|apply bF)<;>(simp only[go_sem,b,eq_false hw])|apply vT (by omega)|refine⟨by omega,?_⟩|fail
   all_goals first| (exfalso;omega)|exact aJ m (dB false) rfl rfl (congrArg dB (a fun⟨o,_,_⟩=>hw o.1)).symm
 ·repeat' first|apply vI<;>(simp only[go_sem])|apply vF (by omega)|fail
  have D:k=s.told.length:=by omega
  subst D;exact aJ m (dB true) rfl rfl (congrArg dB (Po ⟨fun x E=>iE (fun i hi=>(hinv i hi).1) x E,Tj fun i hi=>(hinv i hi).2.2,fun x E=>iE (P:=y4 c) (fun i hi=>(hinv i hi).2.1) x E⟩).symm)
theorem Fj{c:Cfg}{s:TSt}(v:OJ c)(w:Fu s)(h:K (dB (tlB c s)) H nx):an3 NR [dA (cD c),dA (eSt s)] H nx K:=by
 refine aC.pure (args0:=[dA (cD c),dA (eSt s)]) (R:=fun rr=>rr=dB (tlB c s)) ?_ rfl (aE ⟨aD rfl,aD rfl,trivial⟩) (fun r hr=>hr▸h);clear h;refine aM.mk Tryz.func129 (by kernel_rfl) Bm rfl fun Q e=> ?_;unfold DE;have ab:=w.words;have ad:=w.holds;have ao:=w.asked;have O:=w.wait;have S:=w.done;have A:=w.told;have T: ∀j∈s.wait,j.rsp.data.length<2^21:=fun j b=>w.data j (by simp[b]);have U: ∀j∈s.done,j.rsp.data.length<2^21:=fun j b=>w.data j (by simp[b]);have B: ∀j∈s.told,j.rsp.data.length<2^21:=fun j b=>w.data j (by simp[b]);by_cases f:bI c
 case neg=>
  repeat' first| (first|apply vI|apply mA v)<;>(simp only[go_sem,eq_false f])|fail
  all_goals exact aJ e (dB false) rfl rfl (congrArg dB (SY fun h=>f h.1)).symm
 by_cases g:rH s.words s.holds
 case neg=>
  repeat' first| (first|apply vI|apply mA v|apply rW (show s.words.length<2^40 by omega) (show s.holds.length<2^40 by omega))<;>(simp only[go_sem,eq_true f,eq_false g])|fail
  all_goals exact aJ e (dB false) rfl rfl (congrArg dB (SY fun h=>g ⟨⟨by rw[h.2.atm.wl];rfl,h.2.atm.wr⟩,by rw[h.2.atm.hl];rfl,h.2.atm.hr⟩)).symm
 by_cases t:s.asked.length=3
 case neg=>
  repeat' first| (first|apply vI|apply mA v|apply rW (show s.words.length<2^40 by omega) (show s.holds.length<2^40 by omega))<;>(simp only[go_sem,eq_true f,eq_true g])|apply vT (by omega)|fail
  all_goals first| (exfalso;omega)|exact aJ e (dB false) rfl rfl (congrArg dB (SY fun h=>t h.2.QH)).symm
 obtain⟨G,z⟩:=eN f;repeat' first| (first|apply vI|apply mA v|apply rW (show s.words.length<2^40 by omega) (show s.holds.length<2^40 by omega))<;>(simp only[go_sem,eq_true f,eq_true g,t])|apply vF (by omega)|fail
 have V: ∀k,k<=3->(∀i,i<k->0<=s.asked.getD i default/\s.asked.getD i default<=((c.b7.getD i default).length:Int))->0<=eM (fun j=>s.asked.getD j default) k/\eM (fun j=>s.asked.getD j default) k<=12*k:=fun k L h=>M6 (m:=12) (by omega) k fun j b=>by have:=h j b;have:=z j;(try dsimp only);omega
 (refine aH.loop (α:={k:Nat//k<=3/\(∀i,i<k->0<=s.asked.getD i default/\s.asked.getD i default<=((c.b7.getD i default).length:Int))}) (fun u=>en [(6,dI u.1),(5,dI (eM (fun j=>s.asked.getD j default) u.1)),(3,.one (.c (.eT (eSt s)))),(2,.one (.c (.eT (cD c))))]) (fun _=>.nil) _ (fun u=>3-u.1) ⟨0,by omega,(by intros;first|trivial|omega)⟩ (aS (akA _) (by repeat' first|exact C1|refine xqI rfl rfl ?_| (with_reducible apply C2)| ((with_reducible apply D0);exact CI rfl (by simp) rfl rfl rfl)|fail)) ?_);(rintro⟨k,L,hinv⟩ KL C);have hz:=V k L hinv;by_cases l:k<3
 ·have az:=z k;have W:eM (fun j=>s.asked.getD j default) (k+1)=eM (fun j=>s.asked.getD j default) k+s.asked.getD k default:=rfl;by_cases hr:0<=s.asked.getD k default/\s.asked.getD k default<=((c.b7.getD k default).length:Int)
  ·repeat' first| (first|apply vI|apply bF)<;>(simp only[go_sem,eq_true hr,G,t];try simp (disch:=omega) only[Iw])|apply vT (by omega)|refine⟨by omega,?_⟩|fail
   all_goals (rw[<-W];(refine C _ _ _ ⟨k+1,by omega,bT hinv hr⟩ (by omega) (by(try dsimp only);omega) (aS (akA _) (by repeat' first|exact C1|refine xqI rfl rfl ?_|fail))))
  ·repeat' first| (first|apply vI|apply bF)<;>(simp only[go_sem,eq_false hr,G,t])|apply vT (by omega)|refine⟨by omega,?_⟩|fail
   all_goals exact aJ e (dB false) rfl rfl (congrArg dB (SY fun h=>hr (h.2.OE k l))).symm
 have X:k=3:=by omega
 subst X;have d:Tk c s.asked:=hinv;have Y:eM (fun j=>s.asked.getD j default) 3=s.asked.getD 0 default+s.asked.getD 1 default+s.asked.getD 2 default:=by simp[eM]
 have o: ∀{H:aA} {nx:Nat} {K:an4},K (dB (aq c s.asked s.wait false)) H nx->an3 pR [dA (cD c),dS (s.asked.map aG),dS (s.wait.map aP),dB false] H nx K:=fun h=>U3 f t d O T h;have x: ∀{H:aA} {nx:Nat} {K:an4},K (dB (aq c s.asked s.done true)) H nx->an3 pR [dA (cD c),dS (s.asked.map aG),dS (s.done.map aP),dB true] H nx K:=fun h=>U3 f t d S U h;by_cases hw:Z0 c s.asked s.wait false
 case neg=>
  have E:=Er hw;repeat' first| (first|apply vI|apply o)<;>(simp only[go_sem,E])|apply vF (by omega)|fail
  all_goals exact aJ e (dB false) rfl rfl (congrArg dB (SY fun h=>hw h.2.aiF)).symm
 by_cases y:Z0 c s.asked s.done true
 case neg=>
  have E:=sa hw;have I:=Er y;repeat' first| (first|apply vI|apply o|apply x)<;>(simp only[go_sem,E,I])|apply vF (by omega)|fail
  all_goals exact aJ e (dB false) rfl rfl (congrArg dB (SY fun h=>y h.2.ai3)).symm
 have E:=sa hw;have I:=sa y;by_cases M:Co c s
 case neg=>
  have N:=Qe M;repeat' first| (first|apply vI|apply o|apply x|apply K2 f t d A B)<;>(simp only[go_sem,E,I,N])|apply vF (by omega)|fail
  all_goals exact aJ e (dB false) rfl rfl (congrArg dB (SY fun h=>M h.2.ai1)).symm
 have N:=Po M;by_cases hc:(s.wait.length:Int)+s.done.length+s.told.length=s.asked.getD 0 default+s.asked.getD 1 default+s.asked.getD 2 default
 case neg=>
  repeat' first| (first|apply vI|apply o|apply x|apply K2 f t d A B)<;>(simp only[go_sem,E,I,N];try simp (disch:=omega) only[Iw])|apply vT (by omega)|apply vF (by omega)|fail
  all_goals first| (exfalso;omega)|exact aJ e (dB false) rfl rfl (congrArg dB (SY fun h=>hc h.2.count)).symm
 repeat' first| (first|apply vI|apply o|apply x|apply K2 f t d A B)<;>(simp only[go_sem,E,I,N];try simp (disch:=omega) only[Iw])|apply vF (by omega)|fail
 refine aH.loop (α:={k:Nat//k<=s.told.length/\ ∀i,i<k->key (s.told.getD i default)∉s.wait.map key/\key (s.told.getD i default)∉s.done.map key}) (fun u=>en [(7,dI u.1),(3,.one (.c (.eT (eSt s))))]) (fun _=>.nil) _ (fun u=>s.told.length-u.1) ⟨0,by omega,fun i hi=>by omega⟩ (aS (akA _) (by repeat' first|exact C1|refine xqI rfl rfl ?_|fail)) ?_;rintro⟨k,L,p⟩ KL C;by_cases l:k<s.told.length
 ·obtain⟨j,b⟩: ∃j,j=s.told.getD k default:=⟨_,rfl⟩
  have a:=b.symm;have hm:j∈s.told:=by rw[b];exact bL l
  by_cases J:0<=bR (iI j.who j.n) s.wait
  ·repeat' first| (first|apply vI|apply Y4 (by omega)|apply l7 (show s.wait.length<2^40 by omega))<;>(simp only[go_sem,a])|apply vT (by omega)|refine⟨by omega,?_⟩|fail
   all_goals first| (exfalso;omega)|exact aJ e (dB false) rfl rfl (congrArg dB (SY fun h=>(h.2.apart.2.1 j hm).1 (uJ.1 J))).symm
  ·by_cases h2:0<=bR (iI j.who j.n) s.done
   ·repeat' first| (first|apply vI|apply Y5 (by omega)|apply l7 (show s.wait.length<2^40 by omega)|apply l7 (show s.done.length<2^40 by omega))<;>(simp only[go_sem,a])|apply vT (by omega)|refine⟨by omega,?_⟩|fail
    all_goals first| (exfalso;omega)|exact aJ e (dB false) rfl rfl (congrArg dB (SY fun h=>(h.2.apart.2.1 j hm).2 (uJ.1 h2))).symm
   ·repeat' first| (first|apply vI|apply Y5 (by omega)|apply l7 (show s.wait.length<2^40 by omega)|apply l7 (show s.done.length<2^40 by omega))<;>(simp only[go_sem,a];try simp (disch:=omega) only[Iw])|apply vT (by omega)|apply vF (by omega)|refine⟨by omega,?_⟩|fail
    all_goals first| (exfalso;omega)|exact C _ _ _ ⟨k+1,by omega,bT p (by rw[a];exact⟨fun h=>J (uJ.2 h),fun h=>h2 (uJ.2 h)⟩)⟩ (by omega) (by(try dsimp only);omega) (aS (akA _) (by repeat' first|exact C1|refine xqI rfl rfl ?_|fail))
 ·have F:k=s.told.length:=by omega
  subst F;repeat' first|apply vI<;>(simp only[go_sem])|apply vF (by omega)|fail
  refine aH.loop (α:={k:Nat//k<=s.done.length/\ ∀i,i<k->key (s.done.getD i default)∉s.wait.map key}) (fun u=>en [(8,dI u.1),(3,.one (.c (.eT (eSt s))))]) (fun _=>.nil) _ (fun u=>s.done.length-u.1) ⟨0,by omega,fun i hi=>by omega⟩ (aS (akA _) (by repeat' first|exact C1|refine xqI rfl rfl ?_|fail)) ?_;rintro⟨k,L,q⟩ KM Z;by_cases l:k<s.done.length
  ·obtain⟨j,b⟩: ∃j,j=s.done.getD k default:=⟨_,rfl⟩
   have a:=b.symm;have hm:j∈s.done:=(by rw[b];exact bL l);by_cases J:0<=bR (iI j.who j.n) s.wait
   ·repeat' first| (first|apply vI|apply l7 (show s.wait.length<2^40 by omega))<;>(simp only[go_sem,a])|apply vT (by omega)|refine⟨by omega,?_⟩|fail
    all_goals first| (exfalso;omega)|exact aJ e (dB false) rfl rfl (congrArg dB (SY fun h=>(h.2.apart.2.2 j hm) (uJ.1 J))).symm
   ·repeat' first| (first|apply vI|apply l7 (show s.wait.length<2^40 by omega))<;>(simp only[go_sem,a];try simp (disch:=omega) only[Iw])|apply vT (by omega)|apply vF (by omega)|refine⟨by omega,?_⟩|fail
    all_goals first| (exfalso;omega)|exact Z _ _ _ ⟨k+1,by omega,bT q (by rw[a];exact fun h=>J (uJ.2 h))⟩ (by omega) (by(try dsimp only);omega) (aS (akA _) (by repeat' first|exact C1|refine xqI rfl rfl ?_|fail))
  ·have F:k=s.done.length:=(by omega);subst F;have aa:rU c s:=Lp g t d hw y M hc (iE (P:=fun j=>key j∉s.wait.map key/\key j∉s.done.map key) p) (iE (P:=fun j=>key j∉s.wait.map key) q);repeat' first|apply vI<;>(simp only[go_sem])|apply vF (by omega)|fail
   exact aJ e (dB true) rfl rfl (congrArg dB (ah2 f aa)).symm
end
end Go.Proofs.YtlncecohbakleaaGreat
