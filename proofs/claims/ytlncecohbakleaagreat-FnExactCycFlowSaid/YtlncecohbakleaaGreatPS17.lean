/- Texts laid together by a program: rules, contracts and the walk that leads to the law. -/
import Derived.Test.YtlncecohbakleaaGreatPS15
set_option linter.unusedVariables false
set_option linter.unusedSimpArgs false
set_option linter.unusedSectionVars false
set_option maxRecDepth 100000
set_option maxHeartbeats 8000000
namespace Go.AM
noncomputable def cyB(c:Cfg)(s:CSt):Bool:=@decide (aQ c/\COk c s) (Classical.propDecidable _)
variable{s:CSt}
theorem bfB{c:Cfg}(a:aQ c)(h:COk c s):cyB c s=true:=by simp[cyB,h,a]
theorem beP{c:Cfg}(h: ¬(aQ c/\COk c s)):cyB c s=false:=by simp[cyB,h]
theorem bmR{c:Cfg}:cyB c s=true↔aQ c/\COk c s:=by simp[cyB]
structure beL(s:CSt):Prop where
 w:s.words.length<2^21
 h:s.holds.length<2^21
 t:s.told.length<2^21
 td: ∀j∈s.told,j.rsp.data.length<2^21
 pl:s.bM.length<2^21
 sl:s.dD.length<2^21
 port: ∀k,(aF s k).queue.length<2^21/\(aF s k).out.length<2^21
 slv: ∀k,(aL s k).pipe.length<2^21/\(aL s k).done.length<2^21/\ ∀j∈(aL s k).done,j.rsp.data.length<2^21
theorem bfE(b:beL s)(c:s.bM.length=3)(d:s.dD.length<=4)(e: ∀k,k<3->(aF s k).queue.length<=3)(f: ∀k,k<s.dD.length->(aL s k).pipe.length<=3/\(aL s k).done.length<=3)(hw:(qU s).length<20)(g:(uQ s).length<20):bdV s:=by
 refine⟨c,d,e,f,hw,g,⟨b.w,b.h,by simpa [cX] using b.pl,?_,?_,b.t,fun j a=> ?_⟩⟩;·show (jX (qU s)).length<_;rw[(fH _).length_eq];omega
 ·show (jX (uQ s)).length<_;rw[(fH _).length_eq];omega
 ·have a:j∈jX (qU s)++jX (uQ s)++s.told:=a;simp only[o3,BF] at a;rcases a with(a|a)|a
  ·rcases wU.1 a with⟨k,_,m,_,rfl⟩|⟨k,_,m,_,rfl⟩
   ·exact(by decide:([]:List Int).length<2^21)
   ·exact(by decide:([]:List Int).length<2^21)
  ·obtain⟨k,_,h⟩:=BU.1 a;exact(b.slv k).2.2 j h
  ·exact b.td j a
theorem be1{a b:Nat}(c:s.bM.length=3)(e:s.dD.length<=4)(g: ∀k,k<3->(aF s k).queue.length<=a)(h: ∀k,k<s.dD.length->(aL s k).pipe.length<=b):(qU s).length<=a*3+b*4:=by
 unfold qU;rw[t2];have i:=QU (f:=jJ s) (m:=a) s.bM.length fun k d=>by rw[c] at d;simpa [jJ] using g k d
 have j:=QU (f:=hJ s) (m:=b) s.dD.length fun k d=>by simpa [hJ] using h k d
 rw[c] at i;have l:=Nat.mul_le_mul_left b e;rw[c];omega
theorem be0{b:Nat}(a:s.dD.length<=4)(c: ∀k,k<s.dD.length->(aL s k).done.length<=b):(uQ s).length<=b*4:=by unfold uQ;have e:=QU (f:=fun k=>(aL s k).done) (m:=b) s.dD.length fun k d=>c k d;have g:=Nat.mul_le_mul_left b a;omega
theorem bd9{c:Cfg}(g:beL s)(hp:a19 c s)(h:s.dD.length=4)(b: ∀k,k<4->Z0 c s k):bdV s:=by have d: ∀k,k<3->(aF s k).queue.length<=2:=fun k a=>(hp.port k a).ql.1;have e: ∀k,k<s.dD.length->(aL s k).pipe.length<=2:=fun k a=>(b k (by omega)).pl;have f: ∀k,k<s.dD.length->(aL s k).done.length<=2:=fun k a=>(b k (by omega)).dl;have k9:=be1 hp.pl (by omega) d e;have l1:=be0 (by omega) f;exact bfE g hp.pl (by omega) (fun k a=>by have:=d k a;omega) (fun k a=>⟨by have:=e k a;omega,by have:=f k a;omega⟩) (by omega) (by omega)
end Go.AM
namespace Go.Proofs.YtlncecohbakleaaGreat
open Go Go.AM
attribute [local irreducible] aM wv aB vd wvH
section
variable{H:aA}{nx:Nat}{K:bNX}
theorem bd0(c:Cfg)(s:CSt)(N:jO c)(O:beL s):bNW mW [boR (cU c),boR (eI s)] .nil 0 fun r _ _=>r.plain=true/\r=dB (cyB c s):=by
 have al:=O.w;have an:=O.h;have ao:=O.pl;have aq:=O.sl;refine cJ.mk Tryz.func105 (by kernel_rfl) UM rfl fun Q U=> ?_;unfold AN;have b: ¬(aQ c/\COk c s)->dB false=dB (cyB c s):=fun h=>congrArg dB (beP h).symm;by_cases t:aQ c
 case neg=>
  repeat' first| (first|apply bn1|apply W6 N)<;>(simp only[go_sem,eq_false t])|fail
  all_goals exact U _ _ _ _ _ (.inr rfl) rfl ⟨rfl,b fun h=>t h.1⟩
 by_cases X:JS s.words s.holds/\(s.bM.length:Int)=3/\(s.dD.length:Int)=4
 case neg=>
  have P: ¬(aQ c/\COk c s):=fun⟨_,h⟩=>X ⟨ZS h.atm,by rw[h.pl];rfl,by rw[h.sl];rfl⟩;repeat' first| (first|apply bn1|refine bpL (fun h=> ?_) fun h=> ?_|apply W6 N|refine JZ (w:=s.words) (u:=s.holds) (by omega) (by omega) (aE rfl) ?_)<;>(simp only[go_sem,eq_true t])|refine bnE (fun h=> ?_) fun h=> ?_|fail
  all_goals first|exact U _ _ _ _ _ (.inr rfl) rfl ⟨rfl,b P⟩|exact absurd ⟨by simp_all,by omega,by omega⟩ X
 obtain⟨e,E,g⟩:=X;have E:s.bM.length=3:=by omega
 have g:s.dD.length=4:=by omega
 have Y:=decide_eq_true e;have Z:=decide_eq_true t;repeat' first| (first|apply bn1|apply bpK (by omega)|apply W6 N|refine JZ (by omega) (by omega) (aE rfl) ?_)<;>(simp only[go_sem,eq_true t,Y,Z,E,g])|apply bn3 (by omega)|fail
 refine aM.abC fun bqO R=> ?_;have c0:bqO 0=some ⟨3,1,[cU c]⟩:=by rw[R];rfl
 have bPB:bqO 1=some ⟨5,1,[eI s]⟩:=by rw[R];rfl
 clear R;obtain⟨C,F⟩: ∃C:Nat->Int,C=fun k=>((aF s k).out.length:Int):=⟨_,rfl⟩
 obtain⟨G,H⟩: ∃G:Nat->Int,G=fun k=>(((aL s k).pipe.length:Int)+(aL s k).done.length):=⟨_,rfl⟩
 refine aM.gP (β:=Nat) (fun k=>en [(35,boP k),(34,boP 3),(33,dS (s.bM.map cD)),(6,boP 0),(5,boP (jS C k)),(3,.one (.c (.ptr 5 1 0 0))),(2,.one (.c (.ptr 3 0 0 0)))])
  (fun k H1 _=>k<=3/\(∀i,i<k->mD c i (aF s i))/\ ∀id,id<30->H1 id=bqO id) (fun k=>3-k) 0 ⟨noF,_,by repeat' first|exact bo2|refine xqI rfl rfl ?_|refine xqP (by omega) rfl rfl ?_|fail,aK,by omega,fun i hi=>by omega,fun _ _=>rfl⟩ ?_
 rintro k H1 aa ar ⟨hk,I,d⟩ bpQ ab;have bqC:=(d 0 (by omega)).trans c0;have J:=(d 1 (by omega)).trans bPB;have D:bQ aa [0,1]:=AM.apart (by simp) (by simp;omega);simp only[bQ,eZ] at D;have au:=KF (f:=C) (m:=4) (by omega) k fun j hj=>by have:=(I j (by omega)).ol;rw[F];dsimp only;omega
 by_cases l:k<3
 ·obtain⟨p,x⟩: ∃p,p=aF s k:=⟨_,rfl⟩
  have L:s.bM.getD k default=p:=x.symm;obtain⟨o,q⟩:=O.port k;have y:jS C (k+1)=jS C k+p.out.length:=by rw[jS,F,x]
  rw[<-x] at o q;by_cases a:mD c k p
  ·have n:=beT a;have aw:=a.ol;repeat' first| (first|apply bn1|apply a2P t l o q)<;>(simp only[go_sem,t1,bqT,L,bqC,J,n,D];try simp (disch:=omega) only[Iw])|apply bn2 (by omega)|refine⟨by omega,?_⟩|fail
   exact ab _ _ _ (k+1) noF _ (by omega) (by omega) (by rw[y];repeat' first|exact bo2|refine xqI rfl rfl ?_|refine xqP (by omega) rfl rfl ?_|fail) aK ⟨by omega,iS I (by rw[<-x];exact a),fun id S=>by rw[aA.aC (by omega)];exact d id S⟩
  ·have n:=a8A a;repeat' first| (first|apply bn1|apply a2P t l o q)<;>(simp only[go_sem,t1,bqT,L,bqC,J,n,D])|apply bn2 (by omega)|refine⟨by omega,?_⟩|fail
   all_goals exact U _ _ _ _ _ (.inr rfl) rfl ⟨rfl,b fun h=>a (by rw[x];exact h.2.port k l)⟩
 ·have ad:k=3:=by omega
  subst ad;have boS:a19 c s:=⟨E,I⟩
  repeat' first|apply bn1<;>(simp only[go_sem,bqC,J,g])|apply bn3 (by omega)|fail
  refine aM.gP (β:=Nat) (fun k=>en [(54,boP k),(53,boP 4),(52,dS (s.dD.map gF)),(6,boP (jS G k)),(5,boP (jS C 3)),(3,.one (.c (.ptr 5 1 0 0))),(2,.one (.c (.ptr 3 0 0 0)))])
   (fun k H1 _=>k<=4/\(∀i,i<k->Z0 c s i)/\ ∀id,id<30->H1 id=bqO id) (fun k=>4-k) 0 ⟨noF,_,by repeat' first|exact bo2|refine xqI rfl rfl ?_|refine xqP (by omega) rfl rfl ?_|fail,aK,by omega,fun i hi=>by omega,d⟩ ?_
  clear d bqC J D;rintro k H2 ae af ⟨hk,z,d⟩ bqG ag;have bqC:=(d 0 (by omega)).trans c0;have J:=(d 1 (by omega)).trans bPB;have D:bQ ae [0,1]:=AM.apart (by simp) (by simp;omega);simp only[bQ,eZ] at D;have ax:=KF (f:=G) (m:=4) (by omega) k fun j hj=>by have h1:=(z j (by omega)).pl;have h2:=(z j (by omega)).dl;rw[H];dsimp only;omega
  by_cases l:k<4
  ·obtain⟨v,T⟩: ∃v,v=aL s k:=⟨_,rfl⟩
   have M:s.dD.getD k default=v:=T.symm;obtain⟨o,q,V⟩:=O.slv k;by_cases a:Z0 c s k
   ·have ah:=a.pl;have ai:=a.dl;rw[<-T] at ah ai;have y:jS G (k+1)=jS G k+(v.pipe.length+v.done.length):=(by rw[jS,H,T]);have n:=beR a;repeat' first| (first|apply bn1|apply a2C t boS g l o q V)<;>(simp only[go_sem,t1,bqT,M,bqC,J,n,D];try simp (disch:=omega) only[Iw])|apply bn2 (by omega)|refine⟨by omega,?_⟩|fail
    exact ag _ _ _ (k+1) noF _ (by omega) (by omega) (by rw[y];repeat' first|exact bo2|refine xqI rfl rfl ?_|refine xqP (by omega) rfl rfl ?_|fail) aK ⟨by omega,iS z a,fun id S=>by rw[aA.aC (by omega)];exact d id S⟩
   ·have n:=a6D a;repeat' first| (first|apply bn1|apply a2C t boS g l o q V)<;>(simp only[go_sem,t1,bqT,M,bqC,J,n,D])|apply bn2 (by omega)|refine⟨by omega,?_⟩|fail
    all_goals exact U _ _ _ _ _ (.inr rfl) rfl ⟨rfl,b fun h=>a (h.2.slv k l)⟩
  ·have aj:k=4:=(by omega);subst aj;have W:=bd9 O boS g z;by_cases A:jS C 3=jS G 4
   case neg=>
    have B:(jS C 3=jS G 4)=False:=eq_false A
    have P: ¬(aQ c/\COk c s):=fun⟨_,h⟩=>A (by
     have:=h.count
     unfold hU at this
     rw[F,H]
     simp only[jS]
     omega)
    repeat' first|apply bn1<;>(simp only[go_sem,t1,bqT,bqC,J,B,D])|apply bn3 (by omega)|fail
    all_goals exact U _ _ _ _ _ (.inr rfl) rfl ⟨rfl,b P⟩
   have B:(jS C 3=jS G 4)=True:=eq_true A;repeat' first| (first|apply bn1|refine bdE W (fun H' nx' ay ak=> ?_))<;>(simp only[go_sem,t1,bqT,bqC,J,B,D])|apply bn3 (by omega)|fail
   have boU:=(ak 0 (by omega)).trans bqC;refine⟨fun _=>by rw[boU];rfl,?_⟩;apply aVW t W.st;simp only[go_sem];repeat' first|apply bn1<;>(simp only[go_sem,boU])|fail
   refine U _ _ _ _ _ (.inr rfl) rfl ⟨rfl,congrArg dB ?_⟩;by_cases K:BA c (cX s);·rw[aXJ K];refine(bfB t ⟨⟨by have:=e.1.1;omega,e.1.2,by have:=e.2.1;omega,e.2.2⟩,E,g,I,z,?_,K⟩).symm;unfold hU;rw[F,H] at A;simp only[jS] at A;omega
   ·rw[aWH K,beP fun h=>K h.2.st]
theorem bd4{c:Cfg}{s:CSt}(a:jO c)(b:beL s)(h:K (dB (cyB c s)) H nx):bNW mW [boR (cU c),boR (eI s)] H nx K:=(bd0 c s a b).pure rfl (aI ⟨aE rfl,aE rfl,trivial⟩) fun r hr=>hr▸h
end
theorem aTP{l:List Job}(h: ∀i,i<l.length->key (l.getD i default)∉(l.take i).map key):(l.map key).Nodup:=by refine brY.2 (Z6.2 fun i j hi a b he=> ?_);apply h j a;rw[show l.getD j default=l[j] by simp[List.getD,a],<-he];exact brI (bqY.2 ⟨i,by simp;omega,by simp⟩)
theorem aTN{l:List Job}(h:(l.map key).Nodup){i:Nat}(hi:i<l.length):key (l.getD i default)∉(l.take i).map key:=by
 intro hm;obtain⟨x,b,he⟩:=CF.1 hm;obtain⟨j,c,rfl⟩:=bqY.1 b;have a:j<i:=by simp at c;omega
 have d:=Z6.1 (brY.1 h) j i (by omega) hi a;rw[show l.getD i default=l[i] by simp[List.getD,hi]] at he;simp only[brU] at he;exact d he
section
variable{H:aA}{nx:Nat}{K:bNX}
theorem aMG{c:Cfg}{s:TSt}(G:aQ c)(p:s.asked.length=3)(w:aTF c s.asked)(hl:s.told.length<2^21)(I: ∀j∈s.told,j.rsp.data.length<2^21)(h:K (dB (aRF c s)) H nx):bNW aIX [boR (cU c),boR (eSt s)] H nx K:=by
 refine aB.pure (args0:=[boR (cU c),boR (eSt s)]) (R:=fun J=>J=dB (aRF c s)) ?_ rfl (aI ⟨aE rfl,aE rfl,trivial⟩) (fun r hr=>hr▸h);clear h;refine aN.mk Tryz.func215 (by kernel_rfl) aK1 rfl fun Q m=> ?_;unfold aJD;obtain⟨d,q⟩:=hC G;repeat' first|apply bn1<;>(simp only[go_sem])|fail
 (refine aM.loop (α:={k:Nat//k<=s.told.length/\(∀i,i<k->InA s.asked (s.told.getD i default)/\as5 c (s.told.getD i default)/\key (s.told.getD i default)∉(s.told.take i).map key)}) (fun u=>en [(5,boP u.1),(3,.one (.c (.fQ (eSt s)))),(2,.one (.c (.fQ (cU c))))]) (fun _=>.nil) _ (fun u=>s.told.length-u.1) ⟨0,by omega,(by intros;first|trivial|omega)⟩ (bU (m5 _) (by repeat' first|exact bo2|refine xqI rfl rfl ?_| (with_reducible apply bo3)| ((with_reducible apply bo1);exact bpH rfl (by simp) rfl rfl rfl)|fail)) ?_);(rintro⟨k,O,hinv⟩ bpQ y);by_cases t:k<s.told.length
 ·obtain⟨j,z⟩: ∃j,j=s.told.getD k default:=⟨_,rfl⟩
  have b:=z.symm;have hm:j∈s.told:=by rw[z];exact cC t
  have L:=I j hm;have f:InA s.asked j->as5 c j->key j∉(s.told.take k).map key->∀i,i<k+1->InA s.asked (s.told.getD i default)/\as5 c (s.told.getD i default)/\key (s.told.getD i default)∉(s.told.take i).map key:=fun o M N=>iS hinv (by rw[b];exact⟨o,M,N⟩);have a: ¬(InA s.asked j/\as5 c j/\key j∉(s.told.take k).map key)->aRF c s=false:=fun h=>aTL fun aIF=>h ⟨aIF.inA j hm,aIF.rsp j hm,by rw[z];exact aTN aIF.once t⟩;by_cases hw:0<=j.who/\j.who<=2
  ·have E:=w j.who.toNat (by omega);have F:=q j.who.toNat;by_cases g:0<=j.n/\j.n<=s.asked.getD j.who.toNat default-1
   ·have A:InA s.asked j:=⟨hw,g.1,by omega⟩
    by_cases hr:pA j.rsp
    ·by_cases e:j.rsp.id=((c.cP.getD j.who.toNat default).getD j.n.toNat default).id
     ·have B:as5 c j:=⟨hr,e⟩
      by_cases v:0<=bK (iM j.who j.n) (s.told.take k)
      ·repeat' first| (first|apply bn1|apply aBC|apply aMP (show j.rsp.data.length<2^40 by omega)| (apply aKK (l:=s.told.take k) (by simp;omega)))<;>(simp only[go_sem,b,eq_true hw,eq_true g,eq_true hr,e.symm,d,p];try simp (disch:=omega) only[Iw])|apply bn2 (by omega)|refine⟨by omega,?_⟩|fail
       all_goals first| (exfalso;omega)|exact aZ m (dB false) rfl rfl (congrArg dB (a fun⟨_,_,h⟩=>h (ZP.1 v))).symm
      ·repeat' first| (first|apply bn1|apply aBC|apply aMP (show j.rsp.data.length<2^40 by omega)| (apply aKK (l:=s.told.take k) (by simp;omega)))<;>(simp only[go_sem,b,eq_true hw,eq_true g,eq_true hr,e.symm,d,p];try simp (disch:=omega) only[Iw])|apply bn2 (by omega)|apply bn3 (by omega)|refine⟨by omega,?_⟩|fail
       all_goals first| (exfalso;omega)| (refine y _ _ _ ⟨k+1,by omega,f A B (fun h=>v (ZP.2 h))⟩ (by omega) (by(try dsimp only);omega) (bU (m5 _) (by repeat' first|exact bo2|refine xqI rfl rfl ?_|fail)))
     ·repeat' first| (first|apply bn1|apply bpJ (by omega)|apply aBC|apply aMP (show j.rsp.data.length<2^40 by omega))<;>(simp only[go_sem,b,eq_true hw,eq_true g,eq_true hr,d,p];try simp (disch:=omega) only[Iw])|apply bn2 (by omega)|refine⟨by omega,?_⟩|fail
      all_goals first| (exfalso;omega)|exact aZ m (dB false) rfl rfl (congrArg dB (a fun⟨_,h,_⟩=>e h.2)).symm
    ·repeat' first| (first|apply bn1|apply aBC|apply aMP (show j.rsp.data.length<2^40 by omega))<;>(simp only[go_sem,b,eq_true hw,eq_true g,eq_false hr,d,p];try simp (disch:=omega) only[Iw])|apply bn2 (by omega)|refine⟨by omega,?_⟩|fail
     all_goals first| (exfalso;omega)|exact aZ m (dB false) rfl rfl (congrArg dB (a fun⟨_,h,_⟩=>hr h.1)).symm
   ·repeat' first| (first|apply bn1|apply aBC)<;>(simp only[go_sem,b,eq_true hw,eq_false g,p];try simp (disch:=omega) only[Iw])|apply bn2 (by omega)|refine⟨by omega,?_⟩|fail
    all_goals first| (exfalso;omega)|exact aZ m (dB false) rfl rfl (congrArg dB (a fun⟨o,_,_⟩=>g ⟨o.2.1,by have:=o.2.2;omega⟩)).symm
  ·repeat' first| (first|apply bn1|apply aBC)<;>(simp only[go_sem,b,eq_false hw])|apply bn2 (by omega)|refine⟨by omega,?_⟩|fail
   all_goals first| (exfalso;omega)|exact aZ m (dB false) rfl rfl (congrArg dB (a fun⟨o,_,_⟩=>hw o.1)).symm
 ·repeat' first|apply bn1<;>(simp only[go_sem])|apply bn3 (by omega)|fail
  have C:k=s.told.length:=by omega
  subst C;exact aZ m (dB true) rfl rfl (congrArg dB (aTM ⟨fun x D=>aKJ (fun i hi=>(hinv i hi).1) x D,aTP fun i hi=>(hinv i hi).2.2,fun x D=>aKJ (P:=as5 c) (fun i hi=>(hinv i hi).2.1) x D⟩).symm)
theorem aMQ{c:Cfg}{s:TSt}(v:jO c)(w:aTQ s)(h:K (dB (tlB c s)) H nx):bNW aI6 [boR (cU c),boR (eSt s)] H nx K:=by
 refine aB.pure (args0:=[boR (cU c),boR (eSt s)]) (R:=fun rr=>rr=dB (tlB c s)) ?_ rfl (aI ⟨aE rfl,aE rfl,trivial⟩) (fun r hr=>hr▸h);clear h;refine aN.mk Tryz.func129 (by kernel_rfl) aMJ rfl fun Q e=> ?_;unfold aJP;have ab:=w.words;have ad:=w.holds;have ae:=w.asked;have O:=w.wait;have S:=w.done;have A:=w.told;have T: ∀j∈s.wait,j.rsp.data.length<2^21:=fun j b=>w.data j (by simp[b]);have U: ∀j∈s.done,j.rsp.data.length<2^21:=fun j b=>w.data j (by simp[b]);have B: ∀j∈s.told,j.rsp.data.length<2^21:=fun j b=>w.data j (by simp[b]);by_cases f:aQ c
 case neg=>
  repeat' first| (first|apply bn1|apply aKG v)<;>(simp only[go_sem,eq_false f])|fail
  all_goals exact aZ e (dB false) rfl rfl (congrArg dB (aOH fun h=>f h.1)).symm
 by_cases g:JS s.words s.holds
 case neg=>
  repeat' first| (first|apply bn1|apply aKG v|apply aKH (show s.words.length<2^40 by omega) (show s.holds.length<2^40 by omega))<;>(simp only[go_sem,eq_true f,eq_false g])|fail
  all_goals exact aZ e (dB false) rfl rfl (congrArg dB (aOH fun h=>g ⟨⟨by rw[h.2.atm.wl];rfl,h.2.atm.wr⟩,by rw[h.2.atm.hl];rfl,h.2.atm.hr⟩)).symm
 by_cases t:s.asked.length=3
 case neg=>
  repeat' first| (first|apply bn1|apply aKG v|apply aKH (show s.words.length<2^40 by omega) (show s.holds.length<2^40 by omega))<;>(simp only[go_sem,eq_true f,eq_true g])|apply bn2 (by omega)|fail
  all_goals first| (exfalso;omega)|exact aZ e (dB false) rfl rfl (congrArg dB (aOH fun h=>t h.2.JI)).symm
 obtain⟨G,z⟩:=hC f;repeat' first| (first|apply bn1|apply aKG v|apply aKH (show s.words.length<2^40 by omega) (show s.holds.length<2^40 by omega))<;>(simp only[go_sem,eq_true f,eq_true g,t])|apply bn3 (by omega)|fail
 have V: ∀k,k<=3->(∀i,i<k->0<=s.asked.getD i default/\s.asked.getD i default<=((c.cP.getD i default).length:Int))->0<=jS (fun j=>s.asked.getD j default) k/\jS (fun j=>s.asked.getD j default) k<=12*k:=fun k L h=>KF (m:=12) (by omega) k fun j b=>by have:=h j b;have:=z j;(try dsimp only);omega
 (refine aM.loop (α:={k:Nat//k<=3/\(∀i,i<k->0<=s.asked.getD i default/\s.asked.getD i default<=((c.cP.getD i default).length:Int))}) (fun u=>en [(6,boP u.1),(5,boP (jS (fun j=>s.asked.getD j default) u.1)),(3,.one (.c (.fQ (eSt s)))),(2,.one (.c (.fQ (cU c))))]) (fun _=>.nil) _ (fun u=>3-u.1) ⟨0,by omega,(by intros;first|trivial|omega)⟩ (bU (m5 _) (by repeat' first|exact bo2|refine xqI rfl rfl ?_| (with_reducible apply bo3)| ((with_reducible apply bo1);exact bpH rfl (by simp) rfl rfl rfl)|fail)) ?_);(rintro⟨k,L,hinv⟩ bpQ C);have hz:=V k L hinv;by_cases l:k<3
 ·have af:=z k;have W:jS (fun j=>s.asked.getD j default) (k+1)=jS (fun j=>s.asked.getD j default) k+s.asked.getD k default:=rfl;by_cases hr:0<=s.asked.getD k default/\s.asked.getD k default<=((c.cP.getD k default).length:Int)
  ·repeat' first| (first|apply bn1|apply aBC)<;>(simp only[go_sem,eq_true hr,G,t];try simp (disch:=omega) only[Iw])|apply bn2 (by omega)|refine⟨by omega,?_⟩|fail
   all_goals (rw[<-W];(refine C _ _ _ ⟨k+1,by omega,iS hinv hr⟩ (by omega) (by(try dsimp only);omega) (bU (m5 _) (by repeat' first|exact bo2|refine xqI rfl rfl ?_|fail))))
  ·repeat' first| (first|apply bn1|apply aBC)<;>(simp only[go_sem,eq_false hr,G,t])|apply bn2 (by omega)|refine⟨by omega,?_⟩|fail
   all_goals exact aZ e (dB false) rfl rfl (congrArg dB (aOH fun h=>hr (h.2.DC k l))).symm
 have X:k=3:=by omega
 subst X;have d:aTF c s.asked:=hinv;have Y:jS (fun j=>s.asked.getD j default) 3=s.asked.getD 0 default+s.asked.getD 1 default+s.asked.getD 2 default:=by simp[jS]
 have o: ∀{H:aA} {nx:Nat} {K:bNX},K (dB (aPK c s.asked s.wait false)) H nx->bNW aIQ [boR (cU c),dS (s.asked.map aJ),dS (s.wait.map aS),dB false] H nx K:=fun h=>aMA f t d O T h;have x: ∀{H:aA} {nx:Nat} {K:bNX},K (dB (aPK c s.asked s.done true)) H nx->bNW aIQ [boR (cU c),dS (s.asked.map aJ),dS (s.done.map aS),dB true] H nx K:=fun h=>aMA f t d S U h;by_cases hw:aPN c s.asked s.wait false
 case neg=>
  have E:=aSY hw;repeat' first| (first|apply bn1|apply o)<;>(simp only[go_sem,E])|apply bn3 (by omega)|fail
  all_goals exact aZ e (dB false) rfl rfl (congrArg dB (aOH fun h=>hw h.2.aUL)).symm
 by_cases y:aPN c s.asked s.done true
 case neg=>
  have E:=aQD hw;have I:=aSY y;repeat' first| (first|apply bn1|apply o|apply x)<;>(simp only[go_sem,E,I])|apply bn3 (by omega)|fail
  all_goals exact aZ e (dB false) rfl rfl (congrArg dB (aOH fun h=>y h.2.aUM)).symm
 have E:=aQD hw;have I:=aQD y;by_cases M:aSQ c s
 case neg=>
  have N:=aTL M;repeat' first| (first|apply bn1|apply o|apply x|apply aMG f t d A B)<;>(simp only[go_sem,E,I,N])|apply bn3 (by omega)|fail
  all_goals exact aZ e (dB false) rfl rfl (congrArg dB (aOH fun h=>M h.2.aUN)).symm
 have N:=aTM M;by_cases hc:(s.wait.length:Int)+s.done.length+s.told.length=s.asked.getD 0 default+s.asked.getD 1 default+s.asked.getD 2 default
 case neg=>
  repeat' first| (first|apply bn1|apply o|apply x|apply aMG f t d A B)<;>(simp only[go_sem,E,I,N];try simp (disch:=omega) only[Iw])|apply bn2 (by omega)|apply bn3 (by omega)|fail
  all_goals first| (exfalso;omega)|exact aZ e (dB false) rfl rfl (congrArg dB (aOH fun h=>hc h.2.count)).symm
 repeat' first| (first|apply bn1|apply o|apply x|apply aMG f t d A B)<;>(simp only[go_sem,E,I,N];try simp (disch:=omega) only[Iw])|apply bn3 (by omega)|fail
 refine aM.loop (α:={k:Nat//k<=s.told.length/\ ∀i,i<k->key (s.told.getD i default)∉s.wait.map key/\key (s.told.getD i default)∉s.done.map key}) (fun u=>en [(7,boP u.1),(3,.one (.c (.fQ (eSt s))))]) (fun _=>.nil) _ (fun u=>s.told.length-u.1) ⟨0,by omega,fun i hi=>by omega⟩ (bU (m5 _) (by repeat' first|exact bo2|refine xqI rfl rfl ?_|fail)) ?_;rintro⟨k,L,p⟩ bpQ C;by_cases l:k<s.told.length
 ·obtain⟨j,b⟩: ∃j,j=s.told.getD k default:=⟨_,rfl⟩
  have a:=b.symm;have hm:j∈s.told:=by rw[b];exact cC l
  by_cases J:0<=bK (iM j.who j.n) s.wait
  ·repeat' first| (first|apply bn1|apply bpJ (by omega)|apply aKK (show s.wait.length<2^40 by omega))<;>(simp only[go_sem,a])|apply bn2 (by omega)|refine⟨by omega,?_⟩|fail
   all_goals first| (exfalso;omega)|exact aZ e (dB false) rfl rfl (congrArg dB (aOH fun h=>(h.2.apart.2.1 j hm).1 (ZP.1 J))).symm
  ·by_cases h2:0<=bK (iM j.who j.n) s.done
   ·repeat' first| (first|apply bn1|apply bpK (by omega)|apply aKK (show s.wait.length<2^40 by omega)|apply aKK (show s.done.length<2^40 by omega))<;>(simp only[go_sem,a])|apply bn2 (by omega)|refine⟨by omega,?_⟩|fail
    all_goals first| (exfalso;omega)|exact aZ e (dB false) rfl rfl (congrArg dB (aOH fun h=>(h.2.apart.2.1 j hm).2 (ZP.1 h2))).symm
   ·repeat' first| (first|apply bn1|apply bpK (by omega)|apply aKK (show s.wait.length<2^40 by omega)|apply aKK (show s.done.length<2^40 by omega))<;>(simp only[go_sem,a];try simp (disch:=omega) only[Iw])|apply bn2 (by omega)|apply bn3 (by omega)|refine⟨by omega,?_⟩|fail
    all_goals first| (exfalso;omega)|exact C _ _ _ ⟨k+1,by omega,iS p (by rw[a];exact⟨fun h=>J (ZP.2 h),fun h=>h2 (ZP.2 h)⟩)⟩ (by omega) (by(try dsimp only);omega) (bU (m5 _) (by repeat' first|exact bo2|refine xqI rfl rfl ?_|fail))
 ·have F:k=s.told.length:=by omega
  subst F;repeat' first|apply bn1<;>(simp only[go_sem])|apply bn3 (by omega)|fail
  refine aM.loop (α:={k:Nat//k<=s.done.length/\ ∀i,i<k->key (s.done.getD i default)∉s.wait.map key}) (fun u=>en [(8,boP u.1),(3,.one (.c (.fQ (eSt s))))]) (fun _=>.nil) _ (fun u=>s.done.length-u.1) ⟨0,by omega,fun i hi=>by omega⟩ (bU (m5 _) (by repeat' first|exact bo2|refine xqI rfl rfl ?_|fail)) ?_;rintro⟨k,L,q⟩ bqG Z;by_cases l:k<s.done.length
  ·obtain⟨j,b⟩: ∃j,j=s.done.getD k default:=⟨_,rfl⟩
   have a:=b.symm;have hm:j∈s.done:=(by rw[b];exact cC l);by_cases J:0<=bK (iM j.who j.n) s.wait
   ·repeat' first| (first|apply bn1|apply aKK (show s.wait.length<2^40 by omega))<;>(simp only[go_sem,a])|apply bn2 (by omega)|refine⟨by omega,?_⟩|fail
    all_goals first| (exfalso;omega)|exact aZ e (dB false) rfl rfl (congrArg dB (aOH fun h=>(h.2.apart.2.2 j hm) (ZP.1 J))).symm
   ·repeat' first| (first|apply bn1|apply aKK (show s.wait.length<2^40 by omega))<;>(simp only[go_sem,a];try simp (disch:=omega) only[Iw])|apply bn2 (by omega)|apply bn3 (by omega)|refine⟨by omega,?_⟩|fail
    all_goals first| (exfalso;omega)|exact Z _ _ _ ⟨k+1,by omega,iS q (by rw[a];exact fun h=>J (ZP.2 h))⟩ (by omega) (by(try dsimp only);omega) (bU (m5 _) (by repeat' first|exact bo2|refine xqI rfl rfl ?_|fail))
  ·have F:k=s.done.length:=(by omega);subst F;have aa:BA c s:=aTG g t d hw y M hc (aKJ (P:=fun j=>key j∉s.wait.map key/\key j∉s.done.map key) p) (aKJ (P:=fun j=>key j∉s.wait.map key) q);repeat' first|apply bn1<;>(simp only[go_sem])|apply bn3 (by omega)|fail
   exact aZ e (dB true) rfl rfl (congrArg dB (aTX f aa)).symm
end
end Go.Proofs.YtlncecohbakleaaGreat
