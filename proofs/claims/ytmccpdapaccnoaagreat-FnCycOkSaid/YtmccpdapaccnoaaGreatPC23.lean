/- Texts laid together by a program: rules, contracts and the walk that leads to the law. -/
import Derived.Test.YtmccpdapaccnoaaGreatPC22
import Derived.Test.YtmccpdapaccnoaaGreatPC10
import Derived.Test.YtmccpdapaccnoaaGreatPC14
import Derived.Test.YtmccpdapaccnoaaGreatPC3
import Derived.Test.YtmccpdapaccnoaaGreatPC16
import Derived.Test.YtmccpdapaccnoaaGreatPC21
import Derived.Test.YtmccpdapaccnoaaGreatPC15
set_option linter.unusedVariables false
set_option linter.unusedSimpArgs false
set_option linter.unusedSectionVars false
set_option maxRecDepth 100000
set_option maxHeartbeats 8000000
namespace Go.Proofs.YtmccpdapaccnoaaGreat
open Go Go.AM
attribute [local irreducible] aM wv aB vd wvH
section
variable {H : aA} {nx : Nat} {K : D → aA → Nat → Prop}
theorem yO {α:Type} [Inhabited α] {a b:List α} (hl:a.length=b.length) (h: ∀i,i<a.length→a.getD i default=b.getD i default):a=b:=by
 refine br2 hl fun i h1 h2=> ?_
 have:=h i h1
 simpa [List.getD,h1,h2] using this
theorem tP {a:List Int} {b:List Int} (ha:a.length<2^40) (hb:b.length<2^40) (h:K (dB (decide (a=b))) H nx):aB Tryz.prog jM [dS (a.map aJ),dS (b.map aJ)] H nx K:=by
 refine aB.pure (args0:=[dS (a.map aJ),dS (b.map aJ)]) (R:=fun rr=>rr=dB (decide (a=b))) ?_ rfl (aI ⟨aE rfl,aE rfl,trivial⟩) (fun r hr=>hr▸h)
 clear h
 refine SU rfl fun Q hQ=> ?_
 unfold xO
 by_cases hl:a.length=b.length
 ·repeat' first|apply bn1<;>(simp only[go_sem])|apply bn3 (by omega)|fail
  (refine aM.loop (α:={k:Nat//k≤a.length∧(∀i,i<k→a.getD i default=b.getD i default)}) (fun u=>en [(5,boP u.1),(1,dS (b.map aJ)),(0,dS (a.map aJ))]) (fun _=>.nil) _ (fun u=>a.length-u.1) ⟨0,by omega,(by intros;first|trivial|omega)⟩ (bU (m5 _) (by repeat' first|exact bo2|refine xqI rfl rfl ?_|fail)) ?_);(rintro⟨k,hk,hinv⟩ bpQ hKL)
  by_cases hlt:k<a.length
  ·repeat' first|apply bn1<;>(simp only[go_sem];try simp (disch:=omega) only[Iw])|apply bn2 (by omega)|refine bnE (fun h=> ?_) fun h=> ?_|refine⟨by omega,?_⟩|fail
   ·refine aZ hQ _ rfl rfl (j7 ?_)
    intro he;subst he;simp_all
   · (refine hKL _ _ _ ⟨k+1,by omega,iS hinv (by omega)⟩ (by omega) (by(try dsimp only);omega) (bU (m5 _) (by repeat' first|exact bo2|refine xqI rfl rfl ?_|fail)))
  ·repeat' first|apply bn1<;>(simp only[go_sem])|apply bn3 (by omega)|fail
   refine aZ hQ _ rfl rfl (q9 (yO hl fun i hi=>hinv i (by omega)))
 ·repeat' first|apply bn1<;>(simp only[go_sem])|apply bn2 (by omega)|fail
  refine aZ hQ _ rfl rfl (j7 fun he=>hl (by rw[he]))
theorem W9 {a:Rsp} {b:Rsp} (ha:a.data.length<2^40) (hb:b.data.length<2^40) (h:K (dB (decide (a=b))) H nx):aB Tryz.prog qO [boR (tG a),boR (tG b)] H nx K:=by
 refine aB.pure (args0:=[boR (tG a),boR (tG b)]) (R:=fun rr=>rr=dB (decide (a=b))) ?_ rfl (aI ⟨aE rfl,aE rfl,trivial⟩) (fun r hr=>hr▸h)
 clear h
 refine UL rfl fun Q hQ=> ?_
 unfold AT
 repeat' first| (first|apply bn1|refine bpL (fun h=> ?_) fun h=> ?_|apply tP ha hb)<;>(simp only[go_sem])|fail
 all_goals first|with_reducible refine aZ hQ _ rfl rfl ?_|skip
 all_goals (obtain⟨az9,az2,aAD⟩:=a;obtain⟨b1,b2,boX⟩:=b;dsimp only at*;first|exact q9 (by simp_all)|exact j7 (by simp_all)|exact pD (by simp_all))
theorem VN {a b:Rsp} (ha:a.data.length<2^40) (hb:b.data.length<2^40) (h:K (dB (decide (a=b))) H nx):aB Tryz.prog qO [.one (.agg [cI a.id,cI a.code,.isl (a.data.map aJ)]),.one (.agg [cI b.id,cI b.code,.isl (b.data.map aJ)])] H nx K:=W9 ha hb h
theorem AL {a:List Job} {b:List Job} (ha:a.length<2^40) (hb:b.length<2^40) (hda: ∀j∈a,j.rsp.data.length<2^40) (hdb: ∀j∈b,j.rsp.data.length<2^40) (h:K (dB (decide (a=b))) H nx):aB Tryz.prog jN [dS (a.map aS),dS (b.map aS)] H nx K:=by
 refine aB.pure (args0:=[dS (a.map aS),dS (b.map aS)]) (R:=fun rr=>rr=dB (decide (a=b))) ?_ rfl (aI ⟨aE rfl,aE rfl,trivial⟩) (fun r hr=>hr▸h)
 clear h
 refine RW rfl fun Q hQ=> ?_
 unfold xT
 by_cases hl:a.length=b.length
 ·repeat' first|apply bn1<;>(simp only[go_sem])|apply bn3 (by omega)|fail
  (refine aM.loop (α:={k:Nat//k≤a.length∧(∀i,i<k→a.getD i default=b.getD i default)}) (fun u=>en [(5,boP u.1),(1,dS (b.map aS)),(0,dS (a.map aS))]) (fun _=>.nil) _ (fun u=>a.length-u.1) ⟨0,by omega,(by intros;first|trivial|omega)⟩ (bU (m5 _) (by repeat' first|exact bo2|refine xqI rfl rfl ?_|fail)) ?_);(rintro⟨k,hk,hinv⟩ bpQ hKL)
  by_cases hlt:k<a.length
  ·have d1:=hda _ (cC (l:=a) (k:=k) hlt)
   have d2:=hdb _ (cC (l:=b) (k:=k) (by omega))
   have hne: ¬a.getD k default=b.getD k default→¬a=b:=fun h1 h2=>h1 (by rw[h2])
   have heq:(a.getD k default).who=(b.getD k default).who→(a.getD k default).n=(b.getD k default).n→(a.getD k default).rsp=(b.getD k default).rsp→a.getD k default=b.getD k default:=by
    generalize a.getD k default=x
    generalize b.getD k default=y
    obtain⟨x1,bpZ,aYM⟩:=x;obtain⟨y1,aHC,aHD⟩:=y
    dsimp only;intro h1 h2 h3;subst h1;subst h2;subst h3;rfl
   repeat' first| (first|apply bn1|refine bpL (fun h=> ?_) fun h=> ?_|apply VN (a:=(a.getD k default).rsp) (b:=(b.getD k default).rsp) d1 d2)<;>(simp only[go_sem];try simp (disch:=omega) only[Iw])|apply bn2 (by omega)|refine bnE (fun h=> ?_) fun h=> ?_|refine⟨by omega,?_⟩|fail
   ·refine aZ hQ _ rfl rfl (j7 (hne fun he=>absurd (congrArg Job.who he) (by assumption)))
   ·refine aZ hQ _ rfl rfl (j7 (hne fun he=>absurd (congrArg Job.n he) (by assumption)))
   ·refine aZ hQ _ rfl rfl (j7 (hne fun he=>absurd (congrArg Job.rsp he) (by assumption)))
   · (refine hKL _ _ _ ⟨k+1,by omega,iS hinv (heq (by omega) (by omega) (Classical.not_not.1 (by assumption)))⟩ (by omega) (by(try dsimp only);omega) (bU (m5 _) (by repeat' first|exact bo2|refine xqI rfl rfl ?_|fail)))
  ·repeat' first|apply bn1<;>(simp only[go_sem])|apply bn3 (by omega)|fail
   refine aZ hQ _ rfl rfl (q9 (yO hl fun i hi=>hinv i (by omega)))
 ·repeat' first|apply bn1<;>(simp only[go_sem])|apply bn2 (by omega)|fail
  refine aZ hQ _ rfl rfl (j7 fun he=>hl (by rw[he]))
theorem YN {a:List Int} {b:List Int} {u:List Int} {v:List Int} (ha:a.length<2^40) (hb:b.length<2^40) (hu:u.length<2^40) (hv:v.length<2^40) (h:K (dB (decide (a=u∧b=v))) H nx):aB Tryz.prog wK [.one (.agg [.isl (a.map aJ),.isl (b.map aJ)]),.one (.agg [.isl (u.map aJ),.isl (v.map aJ)])] H nx K:=by
 refine aB.pure (args0:=[.one (.agg [.isl (a.map aJ),.isl (b.map aJ)]),.one (.agg [.isl (u.map aJ),.isl (v.map aJ)])]) (R:=fun rr=>rr=dB (decide (a=u∧b=v))) ?_ rfl (aI ⟨aE rfl,aE rfl,trivial⟩) (fun r hr=>hr▸h)
 clear h
 refine UZ rfl fun Q hQ=> ?_
 unfold zY
 repeat' first| (first|apply bn1|refine bpL (fun h=> ?_) fun h=> ?_|apply tP ha hu|apply tP hb hv)<;>(simp only[go_sem])|fail
 all_goals first|with_reducible refine aZ hQ _ rfl rfl ?_|skip
 all_goals first|exact q9 (by simp_all)|exact j7 (by simp_all)|exact pD (by simp_all)
theorem IH {a:List fC} {b:List fC} (ha:a.length<2^40) (hb:b.length<2^40) (h:K (dB (decide (a=b))) H nx):aB Tryz.prog oJ [dS (a.map eCJ),dS (b.map eCJ)] H nx K:=by
 refine aB.pure (args0:=[dS (a.map eCJ),dS (b.map eCJ)]) (R:=fun rr=>rr=dB (decide (a=b))) ?_ rfl (aI ⟨aE rfl,aE rfl,trivial⟩) (fun r hr=>hr▸h)
 clear h
 refine R4 rfl fun Q hQ=> ?_
 unfold xH
 by_cases hl:a.length=b.length
 ·repeat' first|apply bn1<;>(simp only[go_sem])|apply bn3 (by omega)|fail
  (refine aM.loop (α:={k:Nat//k≤a.length∧(∀i,i<k→a.getD i default=b.getD i default)}) (fun u=>en [(5,boP u.1),(1,dS (b.map eCJ)),(0,dS (a.map eCJ))]) (fun _=>.nil) _ (fun u=>a.length-u.1) ⟨0,by omega,(by intros;first|trivial|omega)⟩ (bU (m5 _) (by repeat' first|exact bo2|refine xqI rfl rfl ?_|fail)) ?_);(rintro⟨k,hk,hinv⟩ bpQ hKL)
  by_cases hlt:k<a.length
  ·have h1:xY (eCJ (a.getD k default))=some [(a.getD k default).who,(a.getD k default).n,(a.getD k default).left]:=rfl
   have h2:xY (eCJ (b.getD k default))=some [(b.getD k default).who,(b.getD k default).n,(b.getD k default).left]:=rfl
   have hne: ¬a.getD k default=b.getD k default→¬a=b:=fun h1 h2=>h1 (by rw[h2])
   have heq:[(a.getD k default).who,(a.getD k default).n,(a.getD k default).left]=[(b.getD k default).who,(b.getD k default).n,(b.getD k default).left]↔a.getD k default=b.getD k default:=by
    generalize a.getD k default=x
    generalize b.getD k default=y
    obtain⟨x1,bpZ,aYM⟩:=x;obtain⟨y1,aHC,aHD⟩:=y
    simp
   generalize hX:[(a.getD k default).who,(a.getD k default).n,(a.getD k default).left]=X at*
   generalize hY:[(b.getD k default).who,(b.getD k default).n,(b.getD k default).left]=Y at*
   by_cases hXY:X=Y
   ·have hf:(¬X=Y)=False:=eq_false (Classical.not_not.2 hXY)
    repeat' first|apply bn1<;>(simp only[go_sem,h1,h2,hXY];try simp (disch:=omega) only[Iw])|apply bn2 (by omega)|refine⟨by omega,?_⟩|fail
    (refine hKL _ _ _ ⟨k+1,by omega,iS hinv (heq.1 hXY)⟩ (by omega) (by(try dsimp only);omega) (bU (m5 _) (by repeat' first|exact bo2|refine xqI rfl rfl ?_|fail)))
   ·have hf:(X=Y)=False:=eq_false hXY
    repeat' first|apply bn1<;>(simp only[go_sem,h1,h2,hf])|apply bn2 (by omega)|refine⟨by omega,?_⟩|fail
    refine aZ hQ _ rfl rfl (j7 (hne fun he=>hXY (heq.2 he)))
  ·repeat' first|apply bn1<;>(simp only[go_sem])|apply bn3 (by omega)|fail
   refine aZ hQ _ rfl rfl (q9 (yO hl fun i hi=>hinv i (by omega)))
 ·repeat' first|apply bn1<;>(simp only[go_sem])|apply bn2 (by omega)|fail
  refine aZ hQ _ rfl rfl (j7 fun he=>hl (by rw[he]))
theorem UQ:cJ Tryz.prog C6 Tryz.f52 AS I4:=cJ.mk Tryz.func52 (by kernel_rfl) TS
theorem YQ (a b:CSt) (ha:CSz a) (hb:CSz b):aB Tryz.prog C6 [boR (eI a),boR (eI b)] .nil 0 fun r _ _=>r.plain=true∧r=dB (decide (a=b)):=by
 have apl:=ha.pl
 have asl:=ha.sl
 have bpl:=hb.pl
 have bsl:=hb.sl
 have aw:=ha.w
 have ah:=ha.h
 have bw:=hb.w
 have bh:=hb.h
 have aAM:=ha.t.1
 have bt1:=hb.t.1
 have aAN: ∀j∈a.told,j.rsp.data.length<2^40:=fun j hj=>by have:=ha.t.2 j hj;omega
 have bt2: ∀j∈b.told,j.rsp.data.length<2^40:=fun j hj=>by have:=hb.t.2 j hj;omega
 refine UQ rfl fun Q hQ=> ?_
 unfold AS
 repeat' first| (first|apply bn1|refine bpL (fun h=> ?_) fun h=> ?_|apply YN (a:=a.words) (b:=a.holds) (u:=b.words) (v:=b.holds) (by omega) (by omega) (by omega) (by omega)|apply AL (a:=a.told) (b:=b.told) (by omega) (by omega) aAN bt2)<;>(simp only[go_sem,apl,asl,bpl,bsl])|refine bnE (fun h=> ?_) fun h=> ?_|fail
 ·exact hQ _ _ _ _ _ (.inr rfl) rfl ⟨rfl,j7 fun he=>h (by rw[he];exact⟨rfl,rfl⟩)⟩
 ·exact hQ _ _ _ _ _ (.inr rfl) rfl ⟨rfl,j7 fun he=>h (by rw[he])⟩
 rename_i e1
 have e1:=Classical.not_not.1 e1
 have e2:=Classical.not_not.1 h
 refine aM.abC fun bqO hG0=> ?_
 have c0:bqO 0=some ⟨5,1,[eI a]⟩:=by rw[hG0];rfl
 have c1:bqO 1=some ⟨5,1,[eI b]⟩:=by rw[hG0];rfl
 clear hG0
 refine aM.gP (β:=Nat) (fun k=>en [(5,boP k),(3,.one (.c (.ptr 5 1 0 0))),(2,.one (.c (.ptr 5 0 0 0)))])
  (fun k H1 _=>k≤3∧(∀i,i<k→aF a i=aF b i)∧ ∀id,id<2→H1 id=bqO id) (fun k=>3-k) 0 ⟨noF,_,by repeat' first|exact bo2|refine xqI rfl rfl ?_|refine xqP (by omega) rfl rfl ?_|fail,aK,by omega,by omega,fun _ _=>rfl⟩ ?_
 rintro k H1 nx1 hnx ⟨hk,heq,hfr⟩ bpQ hKL
 have bqC:=(hfr 0 (by omega)).trans c0
 have g1:=(hfr 1 (by omega)).trans c1
 have hA:bQ nx1 [0,1]:=AM.apart (by simp) (by simp;omega)
 simp only[bQ,eZ] at hA
 by_cases hlt:k<3
 ·obtain⟨p,hp⟩: ∃p,p=aF a k:=⟨_,rfl⟩
  obtain⟨q,hq⟩: ∃q,q=aF b k:=⟨_,rfl⟩
  have hp':a.bM.getD k default=p:=hp.symm
  have hq':b.bM.getD k default=q:=hq.symm
  have p1:=ha.port k hlt
  have q1:=hb.port k hlt
  rw[←hp] at p1
  rw[←hq] at q1
  have hne: ¬p=q→¬a=b:=fun h1 h2=>h1 (by rw[hp,hq,h2])
  have hpq:p.next=q.next→p.last=q.last→p.queue=q.queue→p.out=q.out→aF a k=aF b k:=by
   rw[←hp,←hq]
   obtain⟨x1,bpZ,aYM,aAO⟩:=p;obtain⟨y1,aHC,aHD,aAP⟩:=q
   dsimp only;intro h1 h2 h3 h4;subst h1;subst h2;subst h3;subst h4;rfl
  repeat' first| (first|apply bn1|refine bpL (fun h=> ?_) fun h=> ?_|apply tP (a:=p.queue) (b:=q.queue) (by omega) (by omega)|apply IH (a:=p.out) (b:=q.out) (by omega) (by omega))<;>(simp only[go_sem,boC,hp',hq',bqC,g1,hA,apl,bpl];try simp (disch:=omega) only[Iw])|apply bn2 (by omega)|refine bnE (fun h=> ?_) fun h=> ?_|refine⟨by omega,?_⟩|fail
  all_goals first|exact hQ _ _ _ _ _ (.inr rfl) rfl ⟨rfl,j7 (hne fun he=>h (by rw[he]))⟩|skip
  exact hKL _ _ _ (k+1) noF _ (by omega) (by omega) (by repeat' first|exact bo2|refine xqI rfl rfl ?_|refine xqP (by omega) rfl rfl ?_|fail) aK ⟨by omega,iS heq (hpq (Classical.not_not.1 (by assumption)) (Classical.not_not.1 (by assumption)) (Classical.not_not.1 (by assumption)) (Classical.not_not.1 (by assumption))),fun id hid=>by rw[aA.aC (by omega),aA.aC (by omega)];exact hfr id hid⟩
 ·have hk3:k=3:=by omega
  subst hk3
  repeat' first|apply bn1<;>(simp only[go_sem,bqC,g1,apl])|apply bn3 (by omega)|fail
  refine aM.gP (β:=Nat) (fun k=>en [(8,boP k),(3,.one (.c (.ptr 5 1 0 0))),(2,.one (.c (.ptr 5 0 0 0)))])
   (fun k H1 _=>k≤4∧(∀i,i<k→aL a i=aL b i)∧ ∀id,id<2→H1 id=bqO id) (fun k=>4-k) 0 ⟨noF,_,by repeat' first|exact bo2|refine xqI rfl rfl ?_|refine xqP (by omega) rfl rfl ?_|fail,aK,by omega,by omega,hfr⟩ ?_
  clear bqC g1 hA hfr
  rintro k H2 nx2 hnx2 ⟨hk,hev,hfr⟩ bqG hKM
  have bqC:=(hfr 0 (by omega)).trans c0
  have g1:=(hfr 1 (by omega)).trans c1
  have hA:bQ nx2 [0,1]:=AM.apart (by simp) (by simp;omega)
  simp only[bQ,eZ] at hA
  by_cases hlt:k<4
  ·obtain⟨p,hp⟩: ∃p,p=aL a k:=⟨_,rfl⟩
   obtain⟨q,hq⟩: ∃q,q=aL b k:=⟨_,rfl⟩
   have hp':a.dD.getD k default=p:=hp.symm
   have hq':b.dD.getD k default=q:=hq.symm
   have p1:=ha.slv k hlt
   have q1:=hb.slv k hlt
   rw[←hp] at p1
   rw[←hq] at q1
   have hne: ¬p=q→¬a=b:=fun h1 h2=>h1 (by rw[hp,hq,h2])
   have hpq:p.last=q.last→p.pipe=q.pipe→p.done=q.done→aL a k=aL b k:=by
    rw[←hp,←hq]
    obtain⟨x1,bpZ,aYM⟩:=p;obtain⟨y1,aHC,aHD⟩:=q
    dsimp only;intro h1 h2 h3;subst h1;subst h2;subst h3;rfl
   repeat' first| (first|apply bn1|refine bpL (fun h=> ?_) fun h=> ?_| (refine AL (a:=p.done) (b:=q.done) (by omega) (by omega) (fun j hj=>by have:=p1.2.2 j hj;omega) (fun j hj=>by have:=q1.2.2 j hj;omega) ?_)|apply IH (a:=p.pipe) (b:=q.pipe) (by omega) (by omega))<;>(simp only[go_sem,boC,hp',hq',bqC,g1,hA,asl,bsl];try simp (disch:=omega) only[Iw])|apply bn2 (by omega)|refine bnE (fun h=> ?_) fun h=> ?_|refine⟨by omega,?_⟩|fail
   all_goals first|exact hQ _ _ _ _ _ (.inr rfl) rfl ⟨rfl,j7 (hne fun he=>h (by rw[he]))⟩|skip
   exact hKM _ _ _ (k+1) noF _ (by omega) (by omega) (by repeat' first|exact bo2|refine xqI rfl rfl ?_|refine xqP (by omega) rfl rfl ?_|fail) aK ⟨by omega,iS hev (hpq (Classical.not_not.1 (by assumption)) (Classical.not_not.1 (by assumption)) (Classical.not_not.1 (by assumption))),fun id hid=>by rw[aA.aC (by omega),aA.aC (by omega)];exact hfr id hid⟩
  ·have hk4:k=4:=by omega
   subst hk4
   have hab:a=b:=by
    have boS:a.bM=b.bM:=yO (by omega) fun i hi=>heq i (by omega)
    have hV:a.dD=b.dD:=yO (by omega) fun i hi=>hev i (by omega)
    obtain⟨az9,az2,aAD,aAE,aAA⟩:=a;obtain⟨b1,b2,boX,boY,boZ⟩:=b
    dsimp only at*
    obtain⟨rfl,rfl⟩:=e1
    subst boS;subst hV;subst e2;rfl
   repeat' first|apply bn1<;>(simp only[go_sem,bqC,g1,asl])|apply bn3 (by omega)|fail
   exact hQ _ _ _ _ _ (.inr rfl) rfl ⟨rfl,q9 hab⟩
theorem aoR {a b:CSt} (ha:CSz a) (hb:CSz b) (h:K (dB (decide (a=b))) H nx):aB Tryz.prog C6 [boR (eI a),boR (eI b)] H nx K:=
 (YQ a b ha hb).pure rfl (aI ⟨aE rfl,aE rfl,trivial⟩) fun r hr=>hr▸h
end
theorem PB:cJ Tryz.prog FO Tryz.f40 vJ DL:=cJ.mk Tryz.func40 (by kernel_rfl) O7
section
variable {H : aA} {nx : Nat} {K : D → aA → Nat → Prop}
end
def aJO:AC:= (boG [f5 2 0,f5 3 1,dO 4 boD] [2,3] (.seq (boG [f8 8 3 2,f6 9 aIV [8],f4 10 9,RM 11 10,g9 12 0 3 11 false,GQ 13 (.load 2 true 12) 11 false,GQ 14 (.call aIU [13]) 11 false,hP 15 14 11 false,f3 16 11 boE 15,RM 17 16,g9 18 2 3 17 false,hD 19 18 17 false,GQ 20 (.len false 19) 17 false,hO 21 .neq 20 (ki 3) 17 false,f3 22 17 boE 21,RM 23 22,g9 24 3 3 23 false,hD 25 24 23 false,GQ 26 (.len false 25) 23 false,hO 27 .neq 26 (ki 4) 23 false,f3 28 23 boE 27] [2,3,28] (.cond 28 (boG [dO 4 boD] [4] .ret) .skip)) (boG [dO 5 (ki 0)] [2,3,5] (.seq (boG [dO 6 (ki 0)] [2,3,5,6] (.block 0 (.loop (.seq (boG [RM 29 6,dI 30 .lss 29 (ki 3)] [2,3,5,6,30] (.cond 30 .skip (.exit 0))) (.seq (.block 1 (.seq (boG [f8 33 3 2,f8 34 5 3,RM 35 6,f6 36 aIY [33,34,35],f4 37 36] [2,3,5,6,37] (.cond 37 (boG [dO 4 boD] [4] .ret) .skip)) (m2 [RM 38 5,RF 39 2 3,RL 40 39,RM 41 6,e0 42 4 40 41,RF 43 2 42,RL 44 43,f1 45 44,dI 46 .add 38 45,RM 5 46] [2,3,5,6]))) (m2 [RM 31 6,dI 32 .add 31 (ki 1),RM 6 32] [2,3,5,6])))))) (.seq (boG [dO 7 (ki 0)] [2,3,5,7] (.block 2 (.loop (.seq (boG [RM 47 7,dI 48 .leq 47 (ki 3)] [2,3,5,7,48] (.cond 48 .skip (.exit 2))) (.seq (.block 3 (.seq (boG [f8 51 3 2,f8 52 5 3,RM 53 7,f6 54 aIT [51,52,53],f4 55 54] [2,3,5,7,55] (.cond 55 (boG [dO 4 boD] [4] .ret) .skip)) (m2 [RM 56 5,RF 57 3 3,RL 58 57,RM 59 7,e0 60 3 58 59,RF 61 0 60,RL 62 61,f1 63 62,dI 64 .sub 56 63,RF 65 3 3,RL 66 65,RM 67 7,e0 68 3 66 67,RF 69 1 68,RL 70 69,f1 71 70,dI 72 .sub 64 71,RM 5 72] [2,3,5,7]))) (m2 [RM 49 7,dI 50 .add 49 (ki 1),RM 7 50] [2,3,5,7])))))) (boG [RM 73 5,dI 74 .eql 73 (ki 0),RM 75 74,dA (some 76) (.load 3 true 2) (some (75,true)) [] [] true,GQ 77 (.load 5 true 3) 75 true,dA (some 78) (.call aIZ [77]) (some (75,true)) [] [3] false,GQ 79 (.call aI6 [76,78]) 75 true,f3 80 75 79 boD,RM 4 80] [4] .ret))))))
def aJ9:List aW:=[.tm 4]
theorem aMD:aO Tryz.prog Tryz.f33 (bnD aJO)=some (aJO,aJ9):=by kernel_rfl
theorem aLQ:aN Tryz.prog aI5 Tryz.f33 aJO aJ9:=
 aN.mk Tryz.func33 (by kernel_rfl) aMD
def aJG:AC:= (boG [f5 3 0,f5 4 1,dO 6 boD] [2,3,4] (boG [RF 12 2 4,RL 13 12,RM 14 2,e0 15 4 13 14,f8 16 4 15,f7 7 [VZ,OZ,OZ,VZ],g0 4 true 7 16] [2,3,7] (.seq (boG [RF 17 0 7,RL 18 17,RF 19 2 3,RL 20 19,RM 21 2,e0 22 1 20 21,RL 23 22,f1 24 23,f6 25 y2 [18,(ki 0),24],f4 26 25,RM 27 26,g9 28 1 7 27 false,hD 29 28 27 false,GQ 30 (.len false 29) 27 false,hO 31 .gtr 30 (ki 2) 27 false,f3 32 27 boE 31,RM 33 32,g9 34 1 7 33 false,hD 35 34 33 false,GQ 36 (.len false 35) 33 false,g9 37 0 7 33 false,hD 38 37 33 false,hO 39 .gtr 36 38 33 false,f3 40 33 boE 39,RM 41 40,g9 42 2 7 41 false,hD 43 42 41 false,GQ 44 (.len false 43) 41 false,hO 45 .gtr 44 (ki 4) 41 false,f3 46 41 boE 45,RM 47 46,g9 48 3 7 47 false,hD 49 48 47 false,GQ 50 (.call y2 [49,(ki 0),(ki 3)]) 47 false,hP 51 50 47 false,f3 52 47 boE 51] [2,3,7,52] (.cond 52 (boG [dO 6 boD] [6] .ret) .skip)) (.seq (boG [dO 8 (ki 0)] [2,3,7,8] (.block 0 (.loop (.seq (boG [RM 53 8,RF 54 1 7,RL 55 54,f1 56 55,dI 57 .lss 53 56] [2,3,7,8,57] (.cond 57 .skip (.exit 0))) (.seq (.block 1 (boG [RF 60 1 7,RL 61 60,RM 62 8,e0 63 1 61 62,RL 64 63,RF 65 0 7,RL 66 65,RF 67 1 7,RL 68 67,f1 69 68,dI 70 .sub 66 69,RM 71 8,dI 72 .add 70 71,dI 73 .neq 64 72] [2,3,7,8,73] (.cond 73 (boG [dO 6 boD] [6] .ret) .skip))) (m2 [RM 58 8,dI 59 .add 58 (ki 1),RM 8 59] [2,3,7,8])))))) (.seq (boG [dO 9 (ki 0)] [2,3,7,9] (.block 2 (.loop (.seq (boG [RM 74 9,RF 75 2 7,RL 76 75,f1 77 76,dI 78 .lss 74 77] [2,3,7,9,78] (.cond 78 .skip (.exit 2))) (.seq (.block 3 (boG [RF 81 2 7,RL 82 81,RM 83 9,e0 84 3 82 83,f8 85 3 84,f7 10 [VZ,VZ,VZ],g0 3 true 10 85] [2,3,7,9,10] (.seq (boG [RF 86 0 10,RL 87 86,RM 88 2,dI 89 .neq 87 88,RM 90 89,g9 91 1 10 90 false,hD 92 91 90 false,g9 93 0 7 90 false,hD 94 93 90 false,g9 95 1 7 90 false,hD 96 95 90 false,GQ 97 (.len false 96) 90 false,hO 98 .sub 94 97 90 false,hO 99 .sub 98 (ki 1) 90 false,GQ 100 (.call y2 [92,(ki 0),99]) 90 false,hP 101 100 90 false,f3 102 90 boE 101,RM 103 102,hG 104 9 103 false,hO 105 .gtr 104 (ki 0) 103 false,hG 106 105 103 false,g9 107 2 7 106 true,hD 108 107 106 true,hG 109 9 106 true,hO 110 .sub 109 (ki 1) 106 true,j0 111 3 108 110 106 true,g9 112 1 111 106 true,hD 113 112 106 true,g9 114 1 10 106 true,hD 115 114 106 true,hO 116 .geq 113 115 106 true,GQ 117 (.pick 106 116 boD) 103 false,f3 118 103 boE 117,RM 119 118,g9 120 2 10 119 false,dA (some 121) (.load 1 false 120) (some (119,false)) [] [] true,g9 122 0 3 119 false,hD 123 122 119 false,g9 124 2 3 119 false,hD 125 124 119 false,hG 126 2 119 false,j0 127 1 125 126 119 false,hD 128 127 119 false,g9 129 1 10 119 false,hD 130 129 119 false,j0 131 7 128 130 119 false,GQ 132 (.load 7 true 131) 119 false,dA (some 133) (.call y3 [123,132]) (some (119,false)) [] [35] false,hO 134 .neq 121 133 119 false,f3 135 119 boE 134] [2,3,7,9,10,135] (.cond 135 (boG [dO 6 boD] [6] .ret) .skip)) (boG [dO 11 (ki 0)] [2,3,7,9,10,11] (.block 4 (.loop (.seq (boG [RM 136 11,RM 137 9,dI 138 .lss 136 137] [2,3,7,9,10,11,138] (.cond 138 .skip (.exit 4))) (.seq (.block 5 (boG [RF 141 2 3,RL 142 141,RM 143 2,e0 144 1 142 143,RL 145 144,RF 146 2 7,RL 147 146,RM 148 11,e0 149 3 147 148,RF 150 1 149,RL 151 150,e0 152 7 145 151,RF 153 0 152,RL 154 153,RF 155 2 3,RL 156 155,RM 157 2,e0 158 1 156 157,RL 159 158,RF 160 1 10,RL 161 160,e0 162 7 159 161,RF 163 0 162,RL 164 163,dI 165 .eql 154 164,RM 166 165,g9 167 2 7 166 true,hD 168 167 166 true,hG 169 11 166 true,j0 170 3 168 169 166 true,g9 171 2 170 166 true,hD 172 171 166 true,g9 173 2 10 166 true,hD 174 173 166 true,hO 175 .neq 172 174 166 true,f3 176 166 175 boD] [2,3,7,9,10,11,176] (.cond 176 (boG [dO 6 boD] [6] .ret) .skip))) (m2 [RM 139 11,dI 140 .add 139 (ki 1),RM 11 140] [2,3,7,9,10,11]))))))))) (m2 [RM 79 9,dI 80 .add 79 (ki 1),RM 9 80] [2,3,7,9])))))) (boG [dO 6 boE] [6] .ret))))))
def aJ2:List aW:=[.tm 6]
theorem aLJ:aO Tryz.prog Tryz.f101 (bnD aJG)=some (aJG,aJ2):=by kernel_rfl
theorem aLA:aN Tryz.prog aIY Tryz.f101 aJG aJ2:=
 aN.mk Tryz.func101 (by kernel_rfl) aLJ
def aI4:AC:= (boG [f5 3 0,f5 4 1,dO 6 boD] [2,3,4] (boG [RF 15 3 4,RL 16 15,RM 17 2,e0 18 3 16 17,f8 19 3 18,f7 7 [OZ,OZ,VZ],g0 3 true 7 19] [2,3,4,7] (.seq (boG [RF 20 0 7,RL 21 20,f1 22 21,dI 23 .gtr 22 (ki 2),RM 24 23,g9 25 1 7 24 false,hD 26 25 24 false,GQ 27 (.len false 26) 24 false,hO 28 .gtr 27 (ki 2) 24 false,f3 29 24 boE 28,RM 30 29,g9 31 2 7 30 false,hD 32 31 30 false,GQ 33 (.call y2 [32,(ki 0),(ki 2)]) 30 false,hP 34 33 30 false,f3 35 30 boE 34] [2,3,4,7,35] (.cond 35 (boG [dO 6 boD] [6] .ret) .skip)) (boG [rq 36 (.bC 5 0 [VZ,VZ,VZ,VZ,OZ] []),RM 8 36] [2,3,4,7,8] (.seq (boG [dO 9 (ki 0)] [2,3,4,7,8,9] (.block 0 (.loop (.seq (boG [RM 37 9,RF 38 1 7,RL 39 38,f1 40 39,dI 41 .lss 37 40] [2,3,4,7,8,9,41] (.cond 41 .skip (.exit 0))) (.seq (.block 1 (boG [RF 44 1 7,RL 45 44,RM 46 9,e0 47 5 45 46,f8 48 5 47,f7 10 [VZ,VZ,VZ,VZ,OZ],g0 5 true 10 48] [2,3,4,7,8,9,10] (.seq (boG [f8 49 5 4,RF 50 0 10,RL 51 50,RF 52 1 10,RL 53 52,RM 54 2,f6 55 aJX [49,51,53,54],f4 56 55,RM 57 56,g9 58 2 10 57 false,GQ 59 (.load 3 true 58) 57 false,GQ 60 (.call aIP [59]) 57 false,hP 61 60 57 false,f3 62 57 boE 61,RM 63 62,g9 64 2 10 63 false,g9 65 0 64 63 false,hD 66 65 63 false,g9 67 2 3 63 false,hD 68 67 63 false,g9 69 0 10 63 false,hD 70 69 63 false,j0 71 1 68 70 63 false,hD 72 71 63 false,g9 73 1 10 63 false,hD 74 73 63 false,j0 75 7 72 74 63 false,g9 76 0 75 63 false,hD 77 76 63 false,hO 78 .neq 66 77 63 false,f3 79 63 boE 78] [2,3,4,7,8,9,10,79] (.cond 79 (boG [dO 6 boD] [6] .ret) .skip)) (m2 [RM 80 8,RF 81 0 10,RL 82 81,RF 83 1 10,RL 84 83,rq 85 (.build [VZ,VZ,VZ,VZ,OZ] [(0,1,82),(1,1,84)]),rq 86 (.bC 5 1 [VZ,VZ,VZ,VZ,OZ] [(0,5,85)]),rq 87 (.append 5 80 86),RM 8 87] [2,3,4,7,8,9])))) (m2 [RM 42 9,dI 43 .add 42 (ki 1),RM 9 43] [2,3,4,7,8,9])))))) (.seq (boG [dO 11 (ki 0)] [2,3,4,7,8,11] (.block 2 (.loop (.seq (boG [RM 88 11,RF 89 0 7,RL 90 89,f1 91 90,dI 92 .lss 88 91] [2,3,4,7,8,11,92] (.cond 92 .skip (.exit 2))) (.seq (.block 3 (boG [RF 95 0 7,RL 96 95,RM 97 11,e0 98 3 96 97,f8 99 3 98,f7 12 [VZ,VZ,VZ],g0 3 true 12 99] [2,3,4,7,8,11,12] (.seq (boG [f8 100 5 4,RF 101 0 12,RL 102 101,RF 103 1 12,RL 104 103,RM 105 2,f6 106 aJX [100,102,104,105],f4 107 106,RM 108 107,g9 109 2 12 108 false,hD 110 109 108 false,g9 111 1 3 108 false,hD 112 111 108 false,hG 113 2 108 false,j0 114 1 112 113 108 false,hD 115 114 108 false,GQ 116 (.call y2 [110,(ki 0),115]) 108 false,hP 117 116 108 false,f3 118 108 boE 117,RM 119 118,hG 120 11 119 false,hO 121 .gtr 120 (ki 0) 119 false,hG 122 121 119 false,g9 123 2 12 122 true,hD 124 123 122 true,g9 125 1 3 122 true,hD 126 125 122 true,hG 127 2 122 true,j0 128 1 126 127 122 true,hD 129 128 122 true,hO 130 .neq 124 129 122 true,GQ 131 (.pick 122 130 boD) 119 false,f3 132 119 boE 131] [2,3,4,7,8,11,12,132] (.cond 132 (boG [dO 6 boD] [6] .ret) .skip)) (m2 [RM 133 8,RF 134 0 12,RL 135 134,RF 136 1 12,RL 137 136,rq 138 (.build [VZ,VZ,VZ,VZ,OZ] [(0,1,135),(1,1,137)]),rq 139 (.bC 5 1 [VZ,VZ,VZ,VZ,OZ] [(0,5,138)]),rq 140 (.append 5 133 139),RM 8 140] [2,3,4,7,8,11])))) (m2 [RM 93 11,dI 94 .add 93 (ki 1),RM 11 94] [2,3,4,7,8,11])))))) (.seq (boG [dO 13 (ki 0)] [8,13] (.block 4 (.loop (.seq (boG [RM 141 13,RM 142 8,f1 143 142,dI 144 .lss 141 143] [8,13,144] (.cond 144 .skip (.exit 4))) (.seq (.block 5 (boG [dO 14 (ki 0)] [8,13,14] (.block 6 (.loop (.seq (boG [RM 147 14,RM 148 13,dI 149 .lss 147 148] [8,13,14,149] (.cond 149 .skip (.exit 6))) (.seq (.block 7 (boG [RM 152 8,RM 153 14,e0 154 5 152 153,RF 155 0 154,RL 156 155,RM 157 8,RM 158 13,e0 159 5 157 158,RF 160 0 159,RL 161 160,dI 162 .eql 156 161,RM 163 162,hG 164 8 163 true,hG 165 14 163 true,j0 166 5 164 165 163 true,g9 167 1 166 163 true,hD 168 167 163 true,hG 169 8 163 true,hG 170 13 163 true,j0 171 5 169 170 163 true,g9 172 1 171 163 true,hD 173 172 163 true,hO 174 .geq 168 173 163 true,f3 175 163 174 boD] [8,13,14,175] (.cond 175 (boG [dO 6 boD] [6] .ret) .skip))) (m2 [RM 150 14,dI 151 .add 150 (ki 1),RM 14 151] [8,13,14]))))))) (m2 [RM 145 13,dI 146 .add 145 (ki 1),RM 13 146] [8,13])))))) (boG [dO 6 boE] [6] .ret))))))))
def aJT:List aW:=[.tm 6]
theorem aKM:aO Tryz.prog Tryz.f102 (bnD aI4)=some (aI4,aJT):=by kernel_rfl
theorem aKP:aN Tryz.prog aIT Tryz.f102 aI4 aJT:=
 aN.mk Tryz.func102 (by kernel_rfl) aKM
def aJA:AC:= (boG [f5 1 0,f7 2 [OZ,OZ,OZ,OZ,OZ,OZ]] [1,2] (.seq (.region [RF 9 0 1 0,boF 10 (.load 2 true 9) [7] [] false 1,RF 12 4 1 3,g8 13 12 [7] [] true 4,f7 3 [OZ,OZ,OZ,OZ,OZ,OZ] 7,boF 11 (.call aIR [10]) [7] [4] false 2,boF 14 (.call aIM [13]) [7] [] false 5,rq 15 (.build [OZ,OZ,OZ,OZ,OZ,OZ] [(0,2,11),(5,1,14)]) 6,g0 6 true 3 15 8] 9 [1,2,3]) (.seq (boG [dO 4 (ki 0)] [1,2,3,4] (.block 0 (.loop (.seq (boG [RM 16 4,RF 17 2 1,RL 18 17,f1 19 18,dI 20 .lss 16 19] [1,2,3,4,20] (.cond 20 .skip (.exit 0))) (.seq (.block 1 (boG [RF 23 2 3,g8 24 23 [8] [] false,RF 25 2 1,RL 26 25,RM 27 4,e0 28 4 26 27,RF 29 0 28,RL 30 29,rq 31 (.bC 1 1 [VZ] [(0,1,30)]),rq 32 (.append 1 24 31),RF 33 2 3,g0 1 false 33 32] [1,2,3,4] (boG [dO 5 (ki 0)] [1,2,3,4,5] (.block 2 (.loop (.seq (boG [RM 34 5,RF 35 2 1,RL 36 35,RM 37 4,e0 38 4 36 37,RF 39 1 38,RL 40 39,f1 41 40,dI 42 .lss 34 41] [1,2,3,4,5,42] (.cond 42 .skip (.exit 2))) (.seq (.block 3 (m2 [RF 45 3 3,RL 46 45,RM 47 4,RF 48 2 1,RL 49 48,RM 50 4,e0 51 4 49 50,RF 52 1 51,RL 53 52,RM 54 5,e0 55 1 53 54,RL 56 55,rq 57 (.build [VZ,VZ,VZ,VZ,OZ] [(0,1,47),(1,1,56)]),f6 58 aJS [46,57],RF 59 3 3,g0 1 false 59 58] [1,2,3,4,5])) (m2 [RM 43 5,dI 44 .add 43 (ki 1),RM 5 44] [1,2,3,4,5])))))))) (m2 [RM 21 4,dI 22 .add 21 (ki 1),RM 4 22] [1,2,3,4])))))) (.seq (boG [dO 6 (ki 0)] [1,2,3,6] (.block 4 (.loop (.seq (boG [RM 60 6,RF 61 3 1,RL 62 61,f1 63 62,dI 64 .lss 60 63] [1,2,3,6,64] (.cond 64 .skip (.exit 4))) (.seq (.block 5 (.seq (boG [dO 7 (ki 0)] [1,2,3,6,7] (.block 6 (.loop (.seq (boG [RM 67 7,RF 68 3 1,RL 69 68,RM 70 6,e0 71 3 69 70,RF 72 0 71,RL 73 72,f1 74 73,dI 75 .lss 67 74] [1,2,3,6,7,75] (.cond 75 .skip (.exit 6))) (.seq (.block 7 (m2 [RF 78 3 3,RL 79 78,RF 80 3 1,RL 81 80,RM 82 6,e0 83 3 81 82,RF 84 0 83,RL 85 84,RM 86 7,e0 87 3 85 86,RF 88 0 87,RL 89 88,RF 90 3 1,RL 91 90,RM 92 6,e0 93 3 91 92,RF 94 0 93,RL 95 94,RM 96 7,e0 97 3 95 96,RF 98 1 97,RL 99 98,rq 100 (.build [VZ,VZ,VZ,VZ,OZ] [(0,1,89),(1,1,99)]),f6 101 aJS [79,100],RF 102 3 3,g0 1 false 102 101] [1,2,3,6,7])) (m2 [RM 76 7,dI 77 .add 76 (ki 1),RM 7 77] [1,2,3,6,7])))))) (boG [dO 8 (ki 0)] [1,2,3,6,8] (.block 8 (.loop (.seq (boG [RM 103 8,RF 104 3 1,RL 105 104,RM 106 6,e0 107 3 105 106,RF 108 1 107,RL 109 108,f1 110 109,dI 111 .lss 103 110] [1,2,3,6,8,111] (.cond 111 .skip (.exit 8))) (.seq (.block 9 (m2 [RF 114 4 3,RL 115 114,RF 116 3 1,RL 117 116,RM 118 6,e0 119 3 117 118,RF 120 1 119,RL 121 120,RM 122 8,e0 123 5 121 122,f8 124 5 123,f6 125 aJS [115,124],RF 126 4 3,g0 1 false 126 125] [1,2,3,6,8])) (m2 [RM 112 8,dI 113 .add 112 (ki 1),RM 8 113] [1,2,3,6,8])))))))) (m2 [RM 65 6,dI 66 .add 65 (ki 1),RM 6 66] [1,2,3,6])))))) (boG [f8 127 6 3,f6 128 aI0 [127],g0 6 true 2 128] [2] .ret)))))
def aJV:List aW:=[.cell 2 6 true]
theorem aK2:aO Tryz.prog Tryz.f103 (bnD aJA)=some (aJA,aJV):=by kernel_rfl
theorem aLK:aN Tryz.prog aIZ Tryz.f103 aJA aJV:=
 aN.mk Tryz.func103 (by kernel_rfl) aK2
def a3F:AC:= (boG [f5 4 0,dO 8 boD] [1,2,3,4] (.seq (boG [RM 11 1,f6 12 y2 [11,(ki 0),(ki 2)],f4 13 12] [1,2,3,4,13] (.cond 13 (boG [dO 8 boD] [8] .ret) .skip)) (boG [RF 14 2 4,RL 15 14,RM 16 1,e0 17 4 15 16,RF 18 2 17,RL 19 18,RM 9 19] [2,3,9] (.seq (boG [dO 10 (ki 0)] [2,3,9,10] (.block 0 (.loop (.seq (boG [RM 20 10,RM 21 9,f1 22 21,dI 23 .lss 20 22] [2,3,9,10,23] (.cond 23 .skip (.exit 0))) (.seq (.block 1 (boG [RM 26 9,RM 27 10,e0 28 3 26 27,RF 29 1 28,RL 30 29,RM 31 2,dI 32 .eql 30 31,RM 33 32,hG 34 9 33 true,hG 35 10 33 true,j0 36 3 34 35 33 true,g9 37 2 36 33 true,hD 38 37 33 true,hG 39 3 33 true,hO 40 .eql 38 39 33 true,f3 41 33 40 boD] [2,3,9,10,41] (.cond 41 (boG [dO 8 boE] [8] .ret) .skip))) (m2 [RM 24 10,dI 25 .add 24 (ki 1),RM 10 25] [2,3,9,10])))))) (boG [dO 8 boD] [8] .ret)))))
def a5H:List aW:=[.tm 8]
theorem bc0:aO Tryz.prog Tryz.f186 (bnD a3F)=some (a3F,a5H):=by kernel_rfl
theorem bcJ:aN Tryz.prog aJX Tryz.f186 a3F a5H:=
 aN.mk Tryz.func186 (by kernel_rfl) bc0
end Go.Proofs.YtmccpdapaccnoaaGreat
namespace Go.AM
structure beV (c:Cfg) (who:Nat) (p:fR) (k:Nat):Prop where
 all: ∀i,i<k→a5K c who p (p.out.getD i default)
 srt: ∀i j,i<j→j<k→(p.out.getD i default).n<(p.out.getD j default).n
 ids: ∀i j,i<j→j<k→(bT c who (p.out.getD i default).n).id=(bT c who (p.out.getD j default).n).id→(p.out.getD i default).left=(p.out.getD j default).left
theorem beV.next {c:Cfg} {who:Nat} {p:fR} {k:Nat} (h:beV c who p k) (h1:a5K c who p (p.out.getD k default)) (h2:0<k→(p.out.getD (k-1) default).n<(p.out.getD k default).n)
 (h3: ∀i,i<k→(bT c who (p.out.getD i default).n).id=(bT c who (p.out.getD k default).n).id→(p.out.getD i default).left=(p.out.getD k default).left):beV c who p (k+1):=by
 refine⟨iS h.all h1,fun i j hij hj=> ?_,fun i j hij hj he=> ?_⟩
 ·by_cases hjk:j<k
  ·exact h.srt i j hij hjk
  ·obtain rfl:j=k:=by omega
   have h4:=h2 (by omega)
   by_cases hi:i=j-1
   ·subst hi;omega
   ·have:=h.srt i (j-1) (by omega) (by omega);omega
 ·by_cases hjk:j<k
  ·exact h.ids i j hij hjk he
  ·obtain rfl:j=k:=by omega
   exact h3 i hij he
theorem beV.end {c:Cfg} {who:Nat} {p:fR} (h:beV c who p p.out.length):(∀j∈p.out,a5K c who p j)∧(p.out.Pairwise fun a b=>a.n<b.n)∧ ∀a∈p.out,∀b∈p.out,(bT c who a.n).id=(bT c who b.n).id→a.left=b.left:=by
 have hg: ∀i (hi:i<p.out.length),p.out.getD i default=p.out[i]:=fun i hi=>by simp[List.getD,hi]
 refine⟨fun j hj=> ?_,Z6.2 fun i j hi hj hij=> ?_,fun a ha b hb he=> ?_⟩
 ·obtain⟨i,hi,rfl⟩:=bqY.1 hj
  rw[←hg i hi];exact h.all i hi
 ·rw[←hg i hi,←hg j hj];exact h.srt i j hij hj
 ·obtain⟨i,hi,rfl⟩:=bqY.1 ha
  obtain⟨j,hj,rfl⟩:=bqY.1 hb
  rw[←hg i hi,←hg j hj] at he ⊢
  rcases Nat.lt_trichotomy i j with hij|hij|hij
  ·exact h.ids i j hij hj he
  ·subst hij;rfl
  ·exact(h.ids j i hij hi he.symm).symm
def a23 (s:CSt) (who n:Int) (st:Nat):Prop:=(0≤who∧who≤2)∧ ∃j∈(aF s who.toNat).out,j.n=n∧j.left=st
noncomputable def oaB (s:CSt) (who n:Int) (st:Nat):Bool:=@decide (a23 s who n st) (Classical.propDecidable _)
theorem be2 {s:CSt} {who n:Int} {st:Nat} (h:a23 s who n st):oaB s who n st=true:=by simp[oaB,h]
theorem beO {s:CSt} {who n:Int} {st:Nat} (h: ¬a23 s who n st):oaB s who n st=false:=by simp[oaB,h]
end Go.AM
namespace Go.Proofs.YtmccpdapaccnoaaGreat
open Go Go.AM
attribute [local irreducible] aM wv aB vd wvH
section
variable {H : aA} {nx : Nat} {K : D → aA → Nat → Prop}
theorem a5O {c:Cfg} {s:CSt} {who:Nat} (hb:aQ c) (hpl:s.bM.length=3) (hw:who<3) (hpq:(aF s who).queue.length<2^21) (hpo:(aF s who).out.length<2^21) (h:K (dB (ptB c who (aF s who))) H nx):aB Tryz.prog aIY [boR (cU c),boR (eI s),boP who] H nx K:=by
 refine aB.pure (args0:=[boR (cU c),boR (eI s),boP who]) (R:=fun rr=>rr=dB (ptB c who (aF s who))) ?_ rfl (aI ⟨aE rfl,aE rfl,aE rfl,trivial⟩) (fun r hr=>hr▸h)
 clear h
 refine aLA rfl fun Q hQ=> ?_
 unfold aJG
 obtain⟨hp3,hp12⟩:=hC hb
 have hpw:=hp12 who
 have hmo:DH c.map:=hb.1
 have hml:=hb.1.1
 obtain⟨p,boS⟩: ∃p,p=aF s who:=⟨_,rfl⟩
 have hP':s.bM.getD who default=p:=boS.symm
 rw[←boS] at hpq hpo
 have hF: ¬mD c who p→dB false=dB (ptB c who (aF s who)):=fun h=>by rw[←boS,a8A h]
 have aAI:mD c who p→dB true=dB (ptB c who (aF s who)):=fun h=>by rw[←boS,beT h]
 obtain⟨P,hPr⟩: ∃P,c.cP.getD who default=P:=⟨_,rfl⟩
 rw[hPr] at hpw
 have hre: ∀n:Int,bT c who n=P.getD n.toNat default:=fun n=>by unfold bT;rw[Int.toNat_natCast,hPr]
 by_cases h0:(0≤p.next∧p.next≤(P.length:Int))∧((p.queue.length:Int)≤2∧(p.queue.length:Int)≤p.next)∧(p.out.length:Int)≤4∧0≤p.last∧p.last≤3
 case neg=>
  have hno: ¬mD c who p:=fun h=>h0 ⟨by have:=h.next;rw[hPr] at this;exact this,by have:=h.ql;omega,by have:=h.ol;omega,h.last⟩
  repeat' first| (first|apply bn1|refine bpL (fun h=> ?_) fun h=> ?_|apply aBC)<;>(simp only[go_sem,hp3,hpl,hP',hPr])|apply bn2 (by omega)|refine⟨by omega,?_⟩|fail
  all_goals first|exact aZ hQ _ rfl rfl (hF hno)| (exfalso;omega)
 obtain⟨⟨hn1,hn2⟩,⟨hq1,hq2⟩,hol,hl1,hl2⟩:=h0
 have bpN:(0≤p.next∧p.next≤(P.length:Int))=True:=eq_true ⟨hn1,hn2⟩
 have bpO:(0≤p.last∧p.last≤3)=True:=eq_true ⟨hl1,hl2⟩
 repeat' first| (first|apply bn1|apply bpK (by omega)|apply aBC)<;>(simp only[go_sem,hp3,hpl,hP',hPr,bpN,bpO])|refine⟨by omega,?_⟩|fail
 refine aM.gP (β:=Nat) (fun k=>en [(8,boP k),(7,.one (.c (.ptr 4 8 0 0))),(3,.one (.c (.ptr 3 0 0 0))),(2,boP who)]) (fun k H1 _=>k≤p.queue.length∧(∀i,i<k→p.queue.getD i default=p.next-p.queue.length+i)∧H1 0=some ⟨3,1,[cU c]⟩∧H1 8=some ⟨4,1,[cD p]⟩) (fun k=>p.queue.length-k) 0 ⟨noF,_,by repeat' first|exact bo2|refine xqI rfl rfl ?_|refine xqP (by omega) rfl rfl ?_|fail,aK,by omega,fun i hi=>by omega,rfl,rfl⟩ ?_
 rintro k H1 nx1 hnx1 ⟨hk,hqi,bqC,bp4⟩ bpQ hKL
 by_cases hlt:k<p.queue.length
 ·by_cases hqk:p.queue.getD k default=p.next-p.queue.length+k
  ·repeat' first|apply bn1<;>(simp only[go_sem,bp4];try simp (disch:=omega) only[Iw])|apply bn2 (by omega)|apply bn3 (by omega)|refine⟨by omega,?_⟩|fail
   all_goals first|exact hKL _ _ _ (k+1) noF _ (by omega) (by omega) (by repeat' first|exact bo2|refine xqI rfl rfl ?_|refine xqP (by omega) rfl rfl ?_|fail) aK ⟨by omega,iS hqi hqk,bqC,bp4⟩| (exfalso;omega)
  ·repeat' first|apply bn1<;>(simp only[go_sem,bp4];try simp (disch:=omega) only[Iw])|apply bn2 (by omega)|refine⟨by omega,?_⟩|fail
   all_goals first|exact aZ hQ _ rfl rfl (hF fun h=>hqk (h.queue k hlt))| (exfalso;omega)
 ·have hk2:k=p.queue.length:=by omega
  rw[hk2] at hqi
  repeat' first|apply bn1<;>(simp only[go_sem,bp4])|apply bn3 (by omega)|fail
  refine aM.gP (β:=Nat) (fun k=>en [(9,boP k),(7,.one (.c (.ptr 4 8 0 0))),(3,.one (.c (.ptr 3 0 0 0))),(2,boP who)]) (fun k H1 _=>k≤p.out.length∧beV c who p k∧H1 0=some ⟨3,1,[cU c]⟩∧H1 8=some ⟨4,1,[cD p]⟩) (fun k=>p.out.length-k) 0 ⟨noF,_,by repeat' first|exact bo2|refine xqI rfl rfl ?_|refine xqP (by omega) rfl rfl ?_|fail,aK,by omega,⟨fun i hi=>by omega,fun i j _ hj=>by omega,fun i j _ hj=>by omega⟩,bqC,bp4⟩ ?_
  clear bqC bp4
  rintro k H2 nx2 hnx2 ⟨hk,hI,bqC,bp4⟩ bqG hKM
  have hA:bQ nx2 [0,8]:=AM.apart (by simp) (by simp;omega)
  simp only[bQ,eZ] at hA
  by_cases hlt:k<p.out.length
  ·have hm:=cC hlt
   have hbad:mD c who p→a5K c who p (p.out.getD k default)∧(0<k→(p.out.getD (k-1) default).n<(p.out.getD k default).n)∧ ∀i,i<k→(bT c who (p.out.getD i default).n).id=(bT c who (p.out.getD k default).n).id→(p.out.getD i default).left=(p.out.getD k default).left:=fun h=>
    ⟨h.out _ hm,fun h0=>by
      have:=Z6.1 h.acX (k-1) k (by omega) hlt (by omega)
      simpa [List.getD,hlt,show k-1<p.out.length by omega] using this,fun i hi he=>h.akF _ (cC (by omega)) _ hm he⟩
   have hnext:=hI.next
   generalize ho:p.out.getD k default=o at hbad hnext
   have ek1:((k:Int)-1).toNat=k-1:=by omega
   by_cases ho1:o.who=who
   case neg=>
    have e1:(o.who=(who:Int))=False:=eq_false ho1
    repeat' first|apply bn1<;>(simp only[go_sem,t1,bqT,bqC,bp4,ho,e1,hA])|apply bn2 (by omega)|refine⟨by omega,?_⟩|fail
    all_goals exact aZ hQ _ rfl rfl (hF fun h=>ho1 (hbad h).1.1)
   have e1:(o.who=(who:Int))=True:=eq_true ho1
   by_cases ho2:0≤o.n∧o.n≤p.next-p.queue.length-1
   case neg=>
    have e2:(0≤o.n∧o.n≤p.next-p.queue.length-1)=False:=eq_false ho2
    repeat' first| (first|apply bn1|apply aBC)<;>(simp only[go_sem,t1,bqT,bqC,bp4,ho,e1,e2,hA];try simp (disch:=omega) only[Iw])|apply bn2 (by omega)|refine⟨by omega,?_⟩|fail
    all_goals first|exact aZ hQ _ rfl rfl (hF fun h=>ho2 (by have:=(hbad h).1.2.1;omega))| (exfalso;omega)
   have e2:(0≤o.n∧o.n≤p.next-p.queue.length-1)=True:=eq_true ho2
   by_cases ho3:0<k→(p.out.getD (k-1) default).n<o.n
   case neg=>
    have hk0:0<k:=by omega
    have ho3:o.n≤(p.out.getD (k-1) default).n:=by omega
    have e3:(o.n≤(p.out.getD ((k:Int)-1).toNat default).n)=True:=eq_true (by rw[ek1];exact ho3)
    repeat' first| (first|apply bn1|apply bpJ (by omega)|refine bpL (fun h=> ?_) fun h=> ?_|apply aBC)<;>(simp only[go_sem,t1,bqT,bqC,bp4,ho,e1,e2,e3,hA];try simp (disch:=omega) only[Iw])|apply bn2 (by omega)|refine⟨by omega,?_⟩|fail
    all_goals first|exact aZ hQ _ rfl rfl (hF fun h=>by have:=(hbad h).2.1 hk0;omega)| (exfalso;omega)|exact absurd (of_eq_true e3) (by assumption)
   obtain⟨q,hq⟩: ∃q,P.getD o.n.toNat default=q:=⟨_,rfl⟩
   have hq':bT c who o.n=q:=by rw[hre];exact hq
   have hask:oA c who o.n:=⟨by omega,by omega,by rw[Int.toNat_natCast,hPr];omega⟩
   have hqo:dH q:=hq'▸GK hb hask
   by_cases ho4:o.left=gZ c.map q
   case neg=>
    have e4:(o.left=gZ c.map q)=False:=eq_false ho4
    by_cases hk0:0<k
    ·have e3:(o.n≤(p.out.getD ((k:Int)-1).toNat default).n)=False:=eq_false (by rw[ek1];have:=ho3 hk0;omega)
     repeat' first| (first|apply bn1|apply bpJ (by omega)|refine bpL (fun h=> ?_) fun h=> ?_|apply aBC|apply a20 hmo hqo (by omega))<;>(simp only[go_sem,t1,bqT,bqC,bp4,ho,hp3,hPr,hq,e1,e2,e3,e4,hA];try simp (disch:=omega) only[Iw])|apply bn2 (by omega)|refine⟨by omega,?_⟩|fail
     all_goals first|exact aZ hQ _ rfl rfl (hF fun h=>ho4 (by have:=(hbad h).1.2.2;rw[hq'] at this;exact this))| (exfalso;omega)
    ·repeat' first| (first|apply bn1|apply bpK (by omega)|apply aBC|apply a20 hmo hqo (by omega))<;>(simp only[go_sem,t1,bqT,bqC,bp4,ho,hp3,hPr,hq,e1,e2,e4,hA];try simp (disch:=omega) only[Iw])|apply bn2 (by omega)|refine⟨by omega,?_⟩|fail
     all_goals first|exact aZ hQ _ rfl rfl (hF fun h=>ho4 (by have:=(hbad h).1.2.2;rw[hq'] at this;exact this))| (exfalso;omega)
   have e4:(o.left=gZ c.map q)=True:=eq_true ho4
   have hoo:a5K c who p o:=⟨ho1,by omega,by rw[hq'];exact ho4⟩
   repeat' first| (first|apply bn1|refine bpL (fun h=> ?_) fun h=> ?_|apply aBC|apply a20 hmo hqo (by omega))<;>(simp only[go_sem,t1,bqT,bqC,bp4,ho,hp3,hPr,hq,e1,e2,e4,hA];try simp (disch:=omega) only[Iw])|apply bn2 (by omega)|refine⟨by omega,?_⟩|fail
   all_goals try (exfalso;have h3:=ho3 (by omega);rw[←ek1] at h3;omega)
   all_goals (
    refine aM.gP (β:=Nat) (fun j=>en [(11,boP j),(10,.one (.c (.ptr 3 (nx2+10) 0 0))),(9,boP k),(7,.one (.c (.ptr 4 8 0 0))),(3,.one (.c (.ptr 3 0 0 0))),(2,boP who)]) (fun j H3 _=>j≤k∧(∀i,i<j→(bT c who (p.out.getD i default).n).id=(bT c who o.n).id→(p.out.getD i default).left=o.left)∧H3 0=some ⟨3,1,[cU c]⟩∧H3 8=some ⟨4,1,[cD p]⟩∧H3 (nx2+10)=some ⟨3,1,[eCJ o]⟩) (fun j=>k-j) 0 ⟨noF,_,by repeat' first|exact bo2|refine xqI rfl rfl ?_|refine xqP (by omega) rfl rfl ?_|fail,aK,by omega,fun i hi=>by omega,by rw[aA.aC (by omega)];exact bqC,by rw[aA.aC (by omega)];exact bp4,aA.bH⟩ ?_
    rintro j H3 nx3 hnx3 ⟨hj,aIF,bfZ,bpX,f10⟩ bqR hKN
    by_cases hjk:j<k
    ·obtain⟨x,hx⟩: ∃x,p.out.getD j default=x:=⟨_,rfl⟩
     have hxo:=hI.all j hjk
     rw[hx] at hxo
     obtain⟨q2,hq2⟩: ∃q2,P.getD x.n.toNat default=q2:=⟨_,rfl⟩
     have hq2':bT c who x.n=q2:=by rw[hre];exact hq2
     obtain⟨_,hx2,_⟩:=hxo
     by_cases hc:q2.id=q.id∧x.left≠o.left
     ·have c1:(q2.id=q.id)=True:=eq_true hc.1
      have c2:(x.left=o.left)=False:=eq_false hc.2
      repeat' first|apply bn1<;>(simp only[go_sem,t1,bqT,bfZ,bpX,f10,hx,hp3,hPr,hq,hq2,c1,c2])|apply bn2 (by omega)|refine⟨by omega,?_⟩|fail
      all_goals exact aZ hQ _ rfl rfl (hF fun h=>hc.2 (by
       have h1:=(hbad h).2.2 j hjk
       rw[hx,hq',hq2'] at h1
       exact h1 hc.1))
     ·repeat' first| (first|apply bn1|apply bpJ (by omega)|refine bpL (fun h=> ?_) fun h=> ?_)<;>(simp only[go_sem,t1,bqT,bfZ,bpX,f10,hx,hp3,hPr,hq,hq2];try simp (disch:=omega) only[Iw])|apply bn2 (by omega)|apply bn3 (by omega)|refine⟨by omega,?_⟩|fail
      all_goals first
       |exact hKN _ _ _ (j+1) noF _ (by omega) (by omega) (by repeat' first|exact bo2|refine xqI rfl rfl ?_|refine xqP (by omega) rfl rfl ?_|fail) aK ⟨by omega,iS aIF (by rw[hx,hq',hq2'];intro he;omega),bfZ,bpX,f10⟩
       | (exfalso;omega)
    ·have hj2:j=k:=by omega
     subst hj2
     have hI2:=hnext hoo (fun h=>by have:=ho3 h;omega) aIF
     repeat' first|apply bn1<;>(simp only[go_sem,f10];try simp (disch:=omega) only[Iw])|apply bn3 (by omega)|fail
     exact hKM _ _ _ (j+1) noF _ (by omega) (by omega) (by repeat' first|exact bo2|refine xqI rfl rfl ?_|refine xqP (by omega) rfl rfl ?_|fail) aK ⟨by omega,hI2,bfZ,bpX⟩)
  ·repeat' first|apply bn1<;>(simp only[go_sem,bp4])|apply bn3 (by omega)|fail
   have hk2:k=p.out.length:=by omega
   rw[hk2] at hI
   obtain⟨q1,q2,q3⟩:=hI.end
   exact aZ hQ _ rfl rfl (aAI ⟨⟨hn1,by rw[hPr];exact hn2⟩,by omega,by omega,⟨hl1,hl2⟩,hqi,q1,q2,q3⟩)
end
end Go.Proofs.YtmccpdapaccnoaaGreat
