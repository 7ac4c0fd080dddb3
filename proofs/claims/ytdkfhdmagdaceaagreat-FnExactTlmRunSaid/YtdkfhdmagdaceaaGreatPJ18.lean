/- Texts laid together by a program: rules, contracts and the walk that leads to the law. -/
import Derived.Test.YtdkfhdmagdaceaaGreatPJ13
import Derived.Test.YtdkfhdmagdaceaaGreatPJ4
set_option linter.unusedVariables false
set_option linter.unusedSimpArgs false
set_option linter.unusedSectionVars false
set_option maxRecDepth 100000
set_option maxHeartbeats 8000000
namespace Go.AM
theorem aXE {l:List Job} {j:Job} (h:key j∈l.map key):jT (Go.Proofs.YtdkfhdmagdaceaaGreat.UB l) [j.who,j.n]=some 1:=by
 induction l with
 |nil=>simp at h
 |cons x l a=>
  unfold jT Go.Proofs.YtdkfhdmagdaceaaGreat.UB;rw[n3,List.find?_cons];by_cases he:[j.who,j.n]=[x.who,x.n]
  ·simp[he]
  ·have b:key j∈l.map key:=by
    rw[n3,t3] at h
    rcases h with h|h
    ·exact absurd (by simp only[key,Prod.mk.injEq] at h;rw[h.1,h.2]) he
    ·exact h
   simp only[he,decide_false]
   exact a b
theorem aXB {α:Type} [Inhabited α] {l:List α} {i:Nat} (h:i<l.length):l=l.take i++l.getD i default::l.drop (i+1):=by
 have:l.getD i default=l[i]:=by simp[List.getD,h]
 rw[this,←brB h,boN]
end Go.AM
namespace Go.Proofs.YtdkfhdmagdaceaaGreat
open Go Go.AM
attribute [local irreducible] aM wv aB vd wvH
section
variable {H : aA} {nx : Nat} {K : D → aA → Nat → Prop}
theorem aVW {c:Cfg} {s:TSt} (hb:aQ c) (ht:aTQ s) (h:K (dB (stB c s)) H nx):aB Tryz.prog j9 [boR (cU c),boR (eSt s)] H nx K:=by
 refine aB.pure (args0:=[boR (cU c),boR (eSt s)]) (R:=fun rr=>rr=dB (stB c s)) ?_ rfl (aI ⟨aE rfl,aE rfl,trivial⟩) (fun r hr=>hr▸h);clear h;refine GV rfl fun Q P=> ?_;unfold mC;obtain⟨bj,v⟩:=hC hb;obtain⟨bpN,bpO,bpP,bpY,aU1,aU2,aXK⟩:=ht;have hd: ∀j∈s.wait++s.done++s.told,j.rsp.data.length<2^40:=fun j o=>by have:=aXK j o;omega
 by_cases h0:JS s.words s.holds∧(s.asked.length:Int)=3∧kW s.wait∧kW s.done
 case neg=>
  have bk: ¬BA c s:=fun p=>h0 ⟨ZS p.atm,by rw[p.JI];rfl,p.NR,p.NW⟩;repeat' first| (first|apply bn1|refine bpL (fun h=> ?_) fun h=> ?_|refine JZ (w:=s.words) (u:=s.holds) (by omega) (by omega) (aE rfl) ?_|refine IK (l:=s.wait) (by omega) (aE rfl) ?_|refine IK (l:=s.done) (by omega) (aE rfl) ?_)<;>(simp only[go_sem])|refine bnE (fun h=> ?_) fun h=> ?_|fail
  all_goals first|exact aZ P (dB false) rfl rfl (congrArg dB (aWH bk).symm)|exact absurd ⟨by simp_all,by omega,by simp_all,by simp_all⟩ h0
 obtain⟨S,aa,ar,au⟩:=h0;have aa:s.asked.length=3:=by omega
 have aw:=af9 aa;repeat' first| (first|apply bn1|apply bpK (by omega)|refine JZ (w:=s.words) (u:=s.holds) (by omega) (by omega) (aE rfl) ?_|refine IK (l:=s.wait) (by omega) (aE rfl) ?_|refine IK (l:=s.done) (by omega) (aE rfl) ?_)<;>(simp only[go_sem,eq_true S,eq_true ar,eq_true au])|fail
 refine aM.sG 0 (β:=Nat) (fun b k=>en [(38,boP k),(37,boP s.asked.length),(36,dS (s.asked.map aJ)),(5,boP (s.asked.take k).sum),(3,.one (.c (.fQ (eSt s)))),(2,.one (.c (.fQ (cU c))))]) (fun b k=>.nil) (fun k=>k≤3∧(0≤(s.asked.take k).sum∧(s.asked.take k).sum≤12*k)∧ ∀i,i<k→0≤s.asked.getD i default∧s.asked.getD i default≤(c.cP.getD i default).length) (fun k=>3-k) 0 (bU (m5 _) (by repeat' first|exact bo2|refine xqI rfl rfl ?_| (with_reducible apply bo3)| ((with_reducible apply bo1);exact bpH rfl (by simp) rfl rfl rfl)|fail)) ⟨by omega,by simp,fun i hi=>by omega⟩ ?_;rintro k ⟨T,⟨h1,h2⟩,hinv⟩ bpQ bm;by_cases A:k<3
 ·have ax:=alS (l:=s.asked) (k:=k) (by omega);have ay:=v k;repeat' first| (first|apply bn1|apply fE)<;>(simp only[go_sem];try simp (disch:=omega) only[Iw])|apply bn2 (by omega)|refine bnE (fun h=> ?_) fun h=> ?_|refine⟨by omega,?_⟩|fail
  ·exact aZ P (dB false) rfl rfl (congrArg dB (aWH fun p=>by have:=p.DC k A;omega).symm)
  ·exact bm _ _ _ (k+1) (by omega) (by rw[ax];exact bU (by omega) (by repeat' first|exact bo2|refine xqI rfl rfl ?_|fail)) ⟨by omega,by rw[ax];omega,iS hinv (by omega)⟩ (by omega)
 have ab:k=3:=by omega
 subst ab;have y:aTF c s.asked:=hinv
 have bn: ∀i,0≤s.asked.getD i default∧s.asked.getD i default≤12:=fun i=>by
  by_cases hi:i<3;·have h1:=y i hi;have h2:=v i;omega
  ·have:s.asked.getD i default=0:=(by simp[List.getD,show s.asked.length≤i by omega]);omega
 repeat' first|apply bn1<;>(simp only[go_sem])|apply bn3 (by omega)|fail
 obtain⟨bm8,q⟩: ∃bm8:List TE,bm8=[s.wait,s.done,s.told]:=⟨_,rfl⟩
 have cc:bm8.length=3:=by subst q;rfl
 have az:[[D1.isl (s.wait.map aS)],[D1.isl (s.done.map aS)],[D1.isl (s.told.map aS)]]=bm8.map IF:=by subst q;rfl
 obtain⟨seen,I⟩: ∃seen:Nat→List Job,seen=fun k=>(bm8.take k).flatten:=⟨_,rfl⟩
 have C:seen 0=[]:=by subst I;rfl
 have J:seen 3=s.wait++s.done++s.told:=by subst I;subst q;simp
 have d: ∀k,k<3→seen (k+1)=seen k++bm8.getD k default:=fun k T=>by subst I;simp only;rw[brQ (by omega),List.flatten_append];simp[List.getD,show k<bm8.length by omega]
 have ba: ∀k,k<3→∃r,seen 3=seen k++bm8.getD k default++r:=fun k T=>by
  have:k=0∨k=1∨k=2:=by omega
  rcases this with rfl|rfl|rfl;·exact⟨bm8.getD 1 default++bm8.getD 2 default,by rw[d 2 (by omega),d 1 (by omega),d 0 (by omega),C0]⟩
  ·exact⟨bm8.getD 2 default,by rw[d 2 (by omega),d 1 (by omega)]⟩
  ·exact⟨[],by rw[d 2 (by omega),bq6]⟩
 have ad: ∀k,k<3→∀j∈bm8.getD k default,j∈s.wait++s.done++s.told:=fun k T j o=>by obtain⟨r,hr⟩:=ba k T;rw[←J,hr];exact brA _ (brH _ o)
 have bo:bm8.getD 0 default=s.wait:=by subst q;rfl
 have U: ∀j,j∈s.done++s.told↔∃k,(k=1∨k=2)∧j∈bm8.getD k default:=fun j=>by
  subst q;constructor
  ·intro h;rcases o3.1 h with h|h;·exact⟨1,.inl rfl,h⟩
   ·exact⟨2,.inr rfl,h⟩
  ·rintro⟨k,rfl|rfl,h⟩;·exact brA _ h
   ·exact brH _ h
 have L: ∀k,k<3→(bm8.getD k default).length<2^21:=fun k T=>by
  have:k=0∨k=1∨k=2:=by omega
  subst q;rcases this with rfl|rfl|rfl<;>(simp[List.getD];omega)
 have cd: ∀k,k≤3→(seen k).length≤k*2^21:=fun k T=>by
  have e1:=L 0 (by omega);have e2:=L 1 (by omega);have e3:=L 2 (by omega);have bpR:(seen 1).length=(bm8.getD 0 default).length:=by rw[d 0 (by omega),C,List.nil_append]
  have f2:(seen 2).length=(seen 1).length+(bm8.getD 1 default).length:=by rw[d 1 (by omega),t2]
  have bpS:(seen 3).length=(seen 2).length+(bm8.getD 2 default).length:=by rw[d 2 (by omega),t2]
  have:k=0∨k=1∨k=2∨k=3:=by omega
  rcases this with rfl|rfl|rfl|rfl;·rw[C];simp
  ·omega
  ·omega
  ·omega
 rw[az];clear az q I
 refine aM.sG 1 (β:=Nat) (fun b k=>en [(65,boP k),(64,boP 3),(63,dS (bm8.map IF)),(8,.one (.c (.omap b))),(5,boP (s.asked.take 3).sum),(3,.one (.c (.fQ (eSt s)))),(2,.one (.c (.fQ (cU c))))]) (fun b k=>hp [(b,u4 ⟨2,true,UB (seen k)⟩)])
  (fun k=>k≤3∧(∀j∈seen k,InA s.asked j)∧((seen k).map key).Nodup∧(0<k→∀j∈s.wait,j.rsp=oW)∧ ∀i,i<k→0<i→∀j∈bm8.getD i default,as5 c j) (fun k=>3-k) 0 ?_ ⟨by omega,fun j o=>by rw[C] at o;simp at o,by rw[C];simp,fun h=>by omega,fun i hi=>by omega⟩ ?_
 ·refine cR [31] (by omega) ?_ ⟨⟨by simp,by simp[sgL],_,rfl,GH (by rw[C];rfl)⟩,trivial⟩ (by simp[sgL]);refine oF (oF (oF (oF (oF (oF (oF K6 ?_) ?_) ?_) ?_) ?_) ?_) ?_
  all_goals first
   |exact DJ (rows:=bm8.map IF) (aG al7 bm8) (by simp;omega) (by simp) rfl rfl (boL (by simp)) (by simp;omega)
   |exact apS (aa6 (by omega) rfl)
   | (repeat' (first|exact bo2| ((with_reducible apply bo1);exact bo8 rfl)|fail);done)
 rintro k ⟨T,ae,af,bb,ag⟩ bqG bp;by_cases A:k<3
 ·have D:=d k A;have bc:=ad k A;have bq:=L k A;obtain⟨rest,E⟩:=ba k A;have ah:k=0→bm8.getD k default=s.wait:=fun h=>by rw[h];exact bo
  have bd:0<k→∀j∈bm8.getD k default,j∈s.done++s.told:=fun h j o=>(U j).2 ⟨k,by omega,o⟩;have br: ∀i,i<k→0<i→∀j∈bm8.getD i default,as5 c j:=ag
  have bf:(∀j∈bm8.getD k default,as5 c j)→∀i,i<k+1→0<i→∀j∈bm8.getD i default,as5 c j:=fun h i hi h0=>by
   rcases br8.1 hi with h2|h2;·exact ag i h2 h0
   ·subst h2;exact h
  generalize ai:bm8.getD k default=cur at D bc bq ah bd E bf;repeat' first|apply bn1<;>(simp only[go_sem,ai])|apply bn2 (by omega)|refine⟨by omega,?_⟩|fail
  refine aM.sG 1 (β:=Nat) (fun b i=>en [(72,boP i),(71,boP cur.length),(70,dS (cur.map aS)),(65,boP k),(64,boP 3),(63,dS (bm8.map IF)),(9,boP k),(8,.one (.c (.omap b))),(5,boP (s.asked.take 3).sum),(3,.one (.c (.fQ (eSt s)))),(2,.one (.c (.fQ (cU c))))]) (fun b i=>hp [(b,u4 ⟨2,true,UB (seen k++cur.take i)⟩)])
   (fun i=>i≤cur.length∧(∀j∈seen k++cur.take i,InA s.asked j)∧((seen k++cur.take i).map key).Nodup∧ ∀j∈cur.take i,if k=0 then j.rsp=oW else as5 c j) (fun i=>cur.length-i) 0 (by(refine cR [42] (by omega) (by repeat' first|exact bo2|refine xqI rfl rfl ?_| (with_reducible apply bo3)| ((with_reducible apply bo0);exact bpD (by omega) rfl)| ((with_reducible apply bo1);apply bo7)|fail) ⟨⟨by simp,by simp[sgL],_,rfl,GH (by simp)⟩,trivial⟩ (by simp[sgL]))) ⟨by omega,by simpa using ae,by simpa using af,by simp⟩ ?_
  rintro i ⟨hi,aj,ak,M⟩ bqR bg;by_cases N:i<cur.length
  ·have al:=cC N;have bh:=bc _ al;have O:=hd _ bh;have F:cur.take (i+1)=cur.take i++[cur.getD i default]:=(by rw[brQ N];simp[List.getD,N]);have an:s.wait++s.done++s.told=(seen k++cur.take i)++cur.getD i default::(cur.drop (i+1)++rest):=(by rw[←J,E,C0,C0,←List.cons_append,←C0 (cur.take i),←aXB N]);have bs:k=0→cur.getD i default∈s.wait:=fun h=>by rw[←ah h];exact al
   have bt:0<k→cur.getD i default∈s.done++s.told:=fun h=>bd h _ al;generalize B:cur.getD i default=j at*;have ao: ¬InA s.asked j→¬BA c s:=fun h p=>h (p.inA j bh);have aq:key j∈(seen k++cur.take i).map key→¬BA c s:=fun h p=>by have hn:=p.nodup;unfold keys at hn;rw[an,bqX] at hn;exact(brG.1 hn).2.2 _ h _ (by simp) rfl
   by_cases G:InA s.asked j
   case neg=>
    unfold InA at G;have bu:(s.asked.length:Int)=3:=(by omega);have bw:=bn j.who.toNat;have ay:=v j.who.toNat;repeat' first| (first|apply bn1|apply bpJ (by omega)|refine bpL (fun h=> ?_) fun h=> ?_|apply oR|apply fE)<;>(simp only[go_sem,B];try simp (disch:=omega) only[Iw])|apply bn2 (by omega)|refine⟨by omega,?_⟩|fail
    all_goals first
     |exact aZ P (dB false) rfl rfl (congrArg dB (aWH (ao G)).symm)
     | (exfalso;omega)
   have g:key j∉(seen k++cur.take i).map key∨key j∈(seen k++cur.take i).map key:=(Classical.em _).symm
   have V: ∀x∈seen k++cur.take (i+1),InA s.asked x:=fun x t=>by
    rw[F,←C0] at t;rcases o3.1 t with t|t;·exact aj x t
    ·simp at t;subst t;exact G
   have bx:oA c j.who j.n:=by obtain⟨⟨q1,q2⟩,q3,q4⟩:=G;have:=y j.who.toNat (by omega);exact⟨⟨q1,q2⟩,q3,by omega⟩
   obtain⟨⟨q1,q2⟩,q3,q4⟩:=G;have bw:=y j.who.toNat (by omega);have ay:=v j.who.toNat;rcases g with g|g
   case inr=>
    have e:=aXE g;repeat' first| (first|apply bn1|apply bpK (by omega)|apply oR|apply fE)<;>(simp only[go_sem,B,e,Option.getD_some];try simp (disch:=omega) only[Iw])|apply bn2 (by omega)|refine⟨by omega,?_⟩|fail
    all_goals exact aZ P (dB false) rfl rfl (congrArg dB (aWH (aq g)).symm)
   have e:=alK g;have z:=alD g;have W:((seen k++cur.take (i+1)).map key).Nodup:=by rw[F,←C0,bqX];refine brG.2 ⟨ak,by simp,fun a ha b hb he=> ?_⟩;simp at hb;subst hb;subst he;exact g ha
   have X:(if k=0 then j.rsp=oW else as5 c j)→∀x∈cur.take (i+1),if k=0 then x.rsp=oW else as5 c x:=fun h x t=>by
    rw[F] at t;rcases o3.1 t with t|t;·exact M x t
    ·simp at t;subst t;exact h
   by_cases m:k=0
   ·by_cases f:j.rsp=oW
    ·repeat' first| (first|apply bn1|apply bpJ (by omega)|apply bpK (by omega)|apply oR|apply fE|apply HK O)<;>(simp only[go_sem,B,e,z,Option.getD_none,eq_true f];try simp (disch:=omega) only[Iw])|apply bn2 (by omega)|refine⟨by omega,?_⟩|fail
     exact bg _ _ _ (i+1) (by omega) (by(refine cR [52] (by omega) (by repeat' first|exact bo2|refine xqI rfl rfl ?_| (with_reducible apply bo3)| ((with_reducible apply bo0);exact bpD (by omega) rfl)| ((with_reducible apply bo1);apply bo7)|fail) ⟨⟨by simp,by simp[sgL],_,rfl,GH (by rw[F,C0])⟩,trivial⟩ (by simp[sgL]))) ⟨by omega,V,W,X (by rw[if_pos m];exact f)⟩ (by omega)
    ·repeat' first| (first|apply bn1|apply bpJ (by omega)|apply bpK (by omega)|apply oR|apply fE|apply HK O)<;>(simp only[go_sem,B,e,z,Option.getD_none,eq_false f];try simp (disch:=omega) only[Iw])|apply bn2 (by omega)|refine⟨by omega,?_⟩|fail
     exact aZ P (dB false) rfl rfl (congrArg dB (aWH fun p=>f (p.P4 j (bs m))).symm)
   ·have bz:0<k:=(by omega);have Y: ¬as5 c j→¬BA c s:=fun h p=>h (p.R8 j (bt bz));by_cases f:pA j.rsp
    ·repeat' first| (first|apply bn1|apply bpJ (by omega)|apply bpK (by omega)|apply oR|apply fE|apply I8 O|apply iJ bj bx)<;>(simp only[go_sem,B,e,z,Option.getD_none,eq_true f];try simp (disch:=omega) only[Iw])|apply bn2 (by omega)|refine bnE (fun h=> ?_) fun h=> ?_|refine⟨by omega,?_⟩|fail
     ·exact aZ P (dB false) rfl rfl (congrArg dB (aWH (Y fun h=>by have:=h.2;omega)).symm)
     ·exact bg _ _ _ (i+1) (by omega) (by(refine cR [52] (by omega) (by repeat' first|exact bo2|refine xqI rfl rfl ?_| (with_reducible apply bo3)| ((with_reducible apply bo0);exact bpD (by omega) rfl)| ((with_reducible apply bo1);apply bo7)|fail) ⟨⟨by simp,by simp[sgL],_,rfl,GH (by rw[F,C0])⟩,trivial⟩ (by simp[sgL]))) ⟨by omega,V,W,X (by rw[if_neg m];exact⟨f,by omega⟩)⟩ (by omega)
    ·repeat' first| (first|apply bn1|apply bpJ (by omega)|apply bpK (by omega)|apply oR|apply fE|apply I8 O)<;>(simp only[go_sem,B,e,z,Option.getD_none,eq_false f];try simp (disch:=omega) only[Iw])|apply bn2 (by omega)|refine⟨by omega,?_⟩|fail
     exact aZ P (dB false) rfl rfl (congrArg dB (aWH (Y fun h=>f h.1)).symm)
  ·have ca:i=cur.length:=(by omega);subst ca;rw[bq4,←D] at aj ak;rw[bq4] at M;rw[bq4,←D];repeat' first|apply bn1<;>(simp only[go_sem];try simp (disch:=omega) only[Iw])|apply bn3 (by omega)|fail
   refine bp _ _ _ (k+1) (by omega) (by(refine cR [52] (by omega) (by repeat' first|exact bo2|refine xqI rfl rfl ?_| (with_reducible apply bo3)| ((with_reducible apply bo0);exact bpD (by omega) rfl)| ((with_reducible apply bo1);apply bo7)|fail) ⟨⟨by simp,by simp[sgL],_,rfl,GH rfl⟩,trivial⟩ (by simp[sgL]))) ⟨by omega,aj,ak,fun _=> ?_,?_⟩ (by omega)
   ·by_cases m:k=0;·intro j o;have:=M j (by rw[ah m];exact o);rwa [if_pos m] at this
    ·exact bb (by omega)
   ·intro i2 h1 h2;by_cases m:k=0;·omega
    ·exact bf (fun j o=>by have:=M j o;rwa [if_neg m] at this) i2 h1 h2
 ·have ab:k=3:=by omega
  subst ab;rw[J] at ae af;have cb:=congrArg List.length J;rw[t2,t2] at cb;repeat' first|apply bn1<;>(simp only[go_sem])|apply bn3 (by omega)|fail
  refine aZ P (dB (decide (((UB (seen 3)).length:Int)=(s.asked.take 3).sum))) rfl rfl (congrArg dB ?_);rw[amR];by_cases Z:((seen 3).length:Int)=(s.asked.take 3).sum;·rw[decide_eq_true Z];refine(aXJ (aUA S aa y ar au ae af (by omega) (bb (by omega)) fun j o=> ?_)).symm;obtain⟨k,T,o⟩:=(U j).1 o;exact ag k (by omega) (by omega) j o
  ·rw[decide_eq_false Z];exact(aWH fun p=>by have:=p.count;omega).symm
theorem aV5 {c:Cfg} {s:TSt} (a:jO c) (e:aTQ s) (h:K (dB (tlB c s)) H nx):aB Tryz.prog au7 [boR (cU c),boR (eSt s)] H nx K:=by
 refine aB.pure (args0:=[boR (cU c),boR (eSt s)]) (R:=fun f=>f=dB (tlB c s)) ?_ rfl (aI ⟨aE rfl,aE rfl,trivial⟩) (fun r hr=>hr▸h);clear h;refine ayK rfl fun Q d=> ?_;unfold av2;by_cases b:aQ c
 ·repeat' first| (first|apply bn1|apply W6 a|apply aVW b e)<;>(simp only[go_sem,eq_true b])|fail
  exact aZ d (dB (stB c s)) rfl rfl (congrArg dB (aXH b).symm)
 ·repeat' first| (first|apply bn1|apply W6 a)<;>(simp only[go_sem,eq_false b])|fail
  exact aZ d (dB false) rfl rfl (congrArg dB (aOH fun h=>b h.1).symm)
theorem aRE (c:Cfg) (es:List Ev) (i:aQ c) (w:jO c) (a:TSt) (g:BA c a) (J: ∀{H:aA} {nx:Nat} {K:D→aA→Nat→Prop},K (dB true) H nx→aB Tryz.prog au7 [boR (cU c),boR (eSt a)] H nx K) (hlen:es.length≤200):
 aB Tryz.prog auW [boR (cU c),boR (eSt a),dS (es.map eEv)] .nil 0 fun r _ n=>n=0∧r.imm=true∧r= .tup [.agg (eSt (runM c a (es.take (b9 c a es)))),.c (cI (b9 c a es))]:=by
 refine axV rfl fun Q hQ=> ?_
 unfold avV
 have y:=fun k (v:k≤b9 c a es)=>aPL i g v
 have L:=fun k (v:k<b9 c a es)=>aS0 v
 have M:=aN8 (c:=c) (s:=a) (l:=es)
 have hle:=aNZ (c:=c) (s:=a) (l:=es)
 generalize b9 c a es=n at*
 obtain⟨z,aa⟩:=hC i
 repeat' first| (with_reducible first| (apply d _ _ _;clear d K)| (apply hB;clear j hB A B)|apply btD|apply btE|refine btF fun btO h=> ?_|apply btH (by omega))| (first| (with_reducible first|refine btI fun K d=> ?_|refine btJ fun A B j hB=> ?_)| (apply J)| (refine CM i g (fun m0 m1 bp3 bqM bqN bqQ hm=> ?_)))<;>(simp only[go_sem])|fail
 (have N:=h;clear h)
 refine aM.sG 3 (β:=Nat×(Nat×Nat×Nat)×(Nat×Nat×Nat))
  (fun b u=>en [(25,boP u.1),(24,boP es.length),(23,dS (es.map eEv)),(8,bkP 6 15),(6,bkP 6 2),(3,bkP 3 0),(2,dS (es.map eEv))])
  (fun b u=>hp [(0,⟨3,1,[cU c]⟩),(2,⟨6,1,[[.osl 0 0 0 0 0,.osl 0 0 0 0 0,.osl 0 0 0 0 0,.osl 0 0 0 0 0,.osl 0 0 0 0 0,.osl 0 0 0 0 0]]⟩),(15,⟨6,1,[oIm 17 18 19 b (b+1) (b+2) a.words.length a.holds.length a.asked.length u.2.1.1 u.2.1.2.1 u.2.1.2.2 (runM c a (es.take u.1))]⟩),(17,⟨1,m0,(runM c a (es.take u.1)).words.map aJ⟩),(18,⟨1,m1,(runM c a (es.take u.1)).holds.map aJ⟩),(19,⟨1,bp3,(runM c a (es.take u.1)).asked.map aJ⟩),(b,⟨5,u.2.2.1,(runM c a (es.take u.1)).wait.map aS⟩),((b+1),⟨5,u.2.2.2.1,(runM c a (es.take u.1)).done.map aS⟩),((b+2),⟨5,u.2.2.2.2,(runM c a (es.take u.1)).told.map aS⟩)])
  (fun u=>u.1≤n∧((runM c a (es.take u.1)).wait.length≤u.2.1.1∧(runM c a (es.take u.1)).done.length≤u.2.1.2.1∧(runM c a (es.take u.1)).told.length≤u.2.1.2.2)∧(u.2.1.1≤u.2.2.1∧u.2.1.2.1≤u.2.2.2.1∧u.2.1.2.2≤u.2.2.2.2))
  (fun u=>es.length-u.1) (0,(a.wait.length,a.done.length,a.told.length),(bqM,bqN,bqQ))
  (by(refine cR [20,21,22,0,2,15,17,18,19] (by omega) (by repeat' first|exact bo2|refine xqI rfl rfl ?_|refine xqP (by omega) rfl rfl ?_|fail) ⟨⟨by simp,by simp[sgL],_,rfl,aP (GW fun x C=>w2.1 (azD c).2 x C)⟩,⟨by simp,by simp[sgL],_,rfl,aP (by repeat' first| (with_reducible first|exact bo4|apply bo5)| ((with_reducible apply bo0);exact bpA)|fail)⟩,⟨by simp,by simp[sgL],_,rfl,aP (by unfold oIm;repeat' first|exact bo2| (with_reducible first|exact bo4|apply bo5)| ((with_reducible apply bo0);exact bpB (by omega) rfl rfl (by rfl) rfl)|fail)⟩,⟨by simp,by simp[sgL],_,rfl,bP (aG bF _) rfl rfl⟩,⟨by simp,by simp[sgL],_,rfl,bP (aG bF _) rfl rfl⟩,⟨by simp,by simp[sgL],_,rfl,bP (aG bF _) rfl rfl⟩,⟨by simp,by simp[sgL],_,rfl,bP (aG dZ _) rfl rfl⟩,⟨by simp,by simp[sgL],_,rfl,bP (aG dZ _) rfl rfl⟩,⟨by simp,by simp[sgL],_,rfl,bP (aG dZ _) rfl rfl⟩,trivial⟩ (by simp[sgL]))) ⟨bxY _,⟨m5 _,m5 _,m5 _⟩,hm.2.2.2⟩ ?_
 rintro⟨k,⟨c3,c4,c5⟩,⟨bqM,bqN,bqQ⟩⟩ ⟨v,E,F⟩ bpQ O
 dsimp only at v E F
 have f:=y k v
 have o:=fun p=>av6 (c:=c) (s:=a) (l:=es) (k:=k) p
 have P:=L k
 generalize R:runM c a (es.take k)=s at*
 have S:=f.lens i
 have m:s.words.length≤a.words.length∧s.holds.length≤a.holds.length∧s.asked.length≤a.asked.length∧s.wait.length≤c3∧s.done.length≤c4∧s.told.length≤c5:=by rw[f.atm.wl,g.atm.wl,f.atm.hl,g.atm.hl,f.JI,g.JI];exact⟨m5 _,m5 _,m5 _,E⟩
 by_cases p:k<n
 ·have q:=P p;have G:=o (by omega);have t:=G9 i f q;repeat' first| (with_reducible first| (apply d _ _ _;clear d K)| (apply j;clear j hB A B)| (apply hB;clear j hB A B)|apply btD|apply btE|refine btF fun btO h=> ?_|apply btG (by omega))| (first| (with_reducible first|refine btI fun K d=> ?_|refine btJ fun A B j hB=> ?_)| (refine axC (c:=c) (s:=s) (e:=es.getD k default) w z (f.fit i) (azA m rfl rfl rfl rfl rfl rfl trivial trivial trivial trivial trivial trivial) ?_)| (refine awO i f q m F (by omega) (by simp) rfl rfl rfl rfl rfl rfl rfl (fun T U V W X Y q1 q2=> ?_)))<;>(simp only[go_sem,q];try simp (disch:=omega) only[Iw])| ((with_reducible apply btM);simp only[AQ.then,AQ.blk])|refine⟨by omega,?_⟩| (with_reducible apply h _ _ _)|fail
  refine O _ _ _ (k+1,(T,U,V),(W,X,Y)) (by omega) ?_ ⟨by dsimp only;omega,by dsimp only;rw[G];exact q1,q2⟩ (by dsimp only;omega);dsimp only;rw[G];have ad:(lS c s (es.getD k default)).words.length=s.words.length:=by rw[f.atm.wl,t.atm.wl]
  have ae:(lS c s (es.getD k default)).holds.length=s.holds.length:=by rw[f.atm.hl,t.atm.hl]
  have af:(lS c s (es.getD k default)).asked.length=s.asked.length:=by rw[f.JI,t.JI]
  (refine cR [44,45,46,0,2,15,17,18,19] (by omega) (by repeat' first|exact bo2|refine xqI rfl rfl ?_|refine xqP (by omega) rfl rfl ?_|fail) ⟨⟨by simp,by simp[sgL],_,rfl,aP (GW fun x C=>w2.1 (azD c).2 x C)⟩,⟨by simp,by simp[sgL],_,rfl,aP (by repeat' first|exact bo2| (with_reducible first|exact bo4|apply bo5)| ((with_reducible apply bo0);exact bpA)|fail)⟩,⟨by simp,by simp[sgL],_,rfl,aP (by unfold oIm;repeat' first|exact bo2| (with_reducible first|exact bo4|apply bo5)| ((with_reducible apply bo0);exact bpB (by omega) rfl rfl (by rfl) rfl)|fail)⟩,⟨by simp,by simp[sgL],_,rfl,bP (aG bF _) rfl rfl⟩,⟨by simp,by simp[sgL],_,rfl,bP (aG bF _) rfl rfl⟩,⟨by simp,by simp[sgL],_,rfl,bP (aG bF _) rfl rfl⟩,⟨by simp,by simp[sgL],_,rfl,bP (aG dZ _) rfl rfl⟩,⟨by simp,by simp[sgL],_,rfl,bP (aG dZ _) rfl rfl⟩,⟨by simp,by simp[sgL],_,rfl,bP (aG dZ _) rfl rfl⟩,trivial⟩ (by simp[sgL]))
 have Z:k=n:=by omega
 subst Z
 by_cases ab:k=es.length
 ·repeat' first| (with_reducible first| (apply d _ _ _;clear d K)| (apply hB;clear j hB A B)|apply btD|apply btH (by omega))| (with_reducible first|refine btI fun K d=> ?_|refine btJ fun A B j hB=> ?_)<;>(simp only[go_sem])| ((with_reducible apply btL);try simp only[AQ.then,AQ.blk,reduceIte,Nat.reduceEqDiff])|fail
  apply N _ _ _;refine aM.aqB 0 (en [(8,.one (.c (.fQ (eSt s)))),(6,bkP 6 2),(2,dS (es.map eEv))]) (hp [(2,⟨6,1,[[.osl 0 0 0 0 0,.osl 0 0 0 0 0,.osl 0 0 0 0 0,.osl 0 0 0 0 0,.osl 0 0 0 0 0,.osl 0 0 0 0 0]]⟩)]) ?_ ?_;·refine cR [2] (by omega) (oF (oF (oF K6 (aE rfl)) (DG (by omega) rfl)) (ay3 (σ:=id) (nh:=0) (azX s).2 (azA m rfl rfl rfl rfl rfl rfl (by simp) (by simp) (by simp) (by simp) (by simp) (by simp)) (by simp) rfl rfl rfl)) ?_ (by simp[sgL]);exact⟨⟨by omega,by simp[sgL],_,rfl,aP (by repeat' first| (with_reducible first|exact bo4|apply bo5)| ((with_reducible apply bo0);exact bpA)|fail)⟩,trivial⟩
  subst ab;repeat' first| (with_reducible first| (apply d _ _ _;clear d K)|apply btD)| (first| (with_reducible refine btI fun K d=> ?_)| (refine CM i f (fun n0 bp0 n2 bqP az7 az8 hn=> ?_)))<;>(simp only[go_sem])| ((with_reducible apply btK);try simp only[AQ.then,AQ.blk,reduceIte,Nat.reduceEqDiff])|fail
  exact V4 hQ (.tup [.agg (eSt s),.c (cI es.length)]) _ rfl (ay7 (ayY (azA ⟨m5 _,m5 _,m5 _,m5 _,m5 _,m5 _⟩ rfl rfl rfl rfl rfl rfl trivial trivial trivial trivial trivial trivial)) (azN (bB rfl))) rfl (by rw[R])
 ·have I:=M (by omega);rw[R] at I;refine aM.aqB 0 (en [(25,boP k),(24,boP es.length),(23,dS (es.map eEv)),(8,.one (.c (.fQ (eSt s)))),(6,bkP 6 2),(3,.one (.c (.fQ (cU c)))),(2,dS (es.map eEv))]) (hp [(2,⟨6,1,[[.osl 0 0 0 0 0,.osl 0 0 0 0 0,.osl 0 0 0 0 0,.osl 0 0 0 0 0,.osl 0 0 0 0 0,.osl 0 0 0 0 0]]⟩)]) ?_ ?_;·refine cR [2] (by omega) (oF (oF (oF (oF (oF (oF (oF K6 (aE rfl)) (aeE (azD c).2 (by simp) rfl rfl rfl)) (DG (by omega) rfl)) (ay3 (σ:=id) (nh:=0) (azX s).2 (azA m rfl rfl rfl rfl rfl rfl (by simp) (by simp) (by simp) (by simp) (by simp) (by simp)) (by simp) rfl rfl rfl)) (aE rfl)) (aE rfl)) (aE rfl)) ?_ (by simp[sgL]);exact⟨⟨by omega,by simp[sgL],_,rfl,aP (by repeat' first| (with_reducible first|exact bo4|apply bo5)| ((with_reducible apply bo0);exact bpA)|fail)⟩,trivial⟩
  repeat' first| (with_reducible first| (apply d _ _ _;clear d K)| (apply j;clear j hB A B)|apply btD|apply btE|refine btF fun btO h=> ?_|apply btG (by omega))| (first| (with_reducible first|refine btI fun K d=> ?_|refine btJ fun A B j hB=> ?_)| (refine axC (c:=c) (s:=s) (e:=es.getD k default) w z (f.fit i) (GW fun x C=>w2.1 (azX s).2 x C) ?_)| (refine CM i f (fun n0 bp0 n2 bqP az7 az8 hn=> ?_)))<;>(simp only[go_sem])| ((with_reducible apply btK);try simp only[AQ.then,AQ.blk,reduceIte,Nat.reduceEqDiff])|refine⟨by omega,?_⟩|fail
  exact V4 hQ (.tup [.agg (eSt s),.c (cI k)]) _ rfl (ay7 (ayY (azA ⟨m5 _,m5 _,m5 _,m5 _,m5 _,m5 _⟩ rfl rfl rfl rfl rfl rfl trivial trivial trivial trivial trivial trivial)) (azN (bB rfl))) rfl (by rw[R])
theorem aQT {c:Cfg} {es:List Ev} {s:TSt} (b:aQ c) (a:jO c) (d:BA c s) (hlen:es.length≤200) (h:K (.tup [.agg (eSt (runM c s (es.take (b9 c s es)))),.c (cI (b9 c s es))]) H nx):aB Tryz.prog auW [boR (cU c),boR (eSt s),dS (es.map eEv)] H nx K:=(aRE c es b a s d (fun h=>aPH b a d h) hlen).fresh rfl fun r hr=>hr▸h
end
end Go.Proofs.YtdkfhdmagdaceaaGreat
