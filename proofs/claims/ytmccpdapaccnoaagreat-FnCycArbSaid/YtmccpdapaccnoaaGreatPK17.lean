/- Texts laid together by a program: rules, contracts and the walk that leads to the law. -/
import Derived.Test.YtmccpdapaccnoaaGreatPK13
set_option linter.unusedVariables false
set_option linter.unusedSimpArgs false
set_option linter.unusedSectionVars false
set_option maxRecDepth 100000
set_option maxHeartbeats 8000000
namespace Go.AM
theorem agO {M:List (List Int×Int)} {l l':List Int} {n:Int}:jT (vA M l n) l'=if l'=l then some n else jT M l':=by
 induction M with
 |nil=>
  by_cases h:l'=l;·simp[vA,jT,h]
  ·simp[vA,jT,h]
 |cons p M ih=>
  obtain⟨a,b⟩:=p;simp only[vA];by_cases hl:l=a
  ·subst hl;rw[if_pos rfl];by_cases h:l'=l;·simp[jT,h]
   ·simp[jT,h]
  ·rw[if_neg hl];unfold jT at ih ⊢;simp only[List.find?_cons];by_cases h:l'=a;·subst h;simp[Ne.symm hl]
   ·simp only[h,decide_false];rw[ih]
def XM (c:Cfg) (who:Nat) (out:List fC) (k:Nat) (M:List (List Int×Int)):Prop:=∀i v,jT M [i]=some v→∃j∈out.take k,(bT c who j.n).id=i∧j.left=v
theorem XM.next {c:Cfg} {who:Nat} {out:List fC} {k:Nat} {M:List (List Int×Int)} (h:XM c who out k M) (hk:k<out.length):XM c who out (k+1) (vA M [(bT c who (out.getD k default).n).id] (out.getD k default).left):=by
 intro i v hv;rw[agO] at hv;have hm:out.getD k default∈out.take (k+1):=by rw[nK hk];simp
 split at hv;·rename_i he;simp only[List.cons.injEq,and_true] at he;simp only[Option.some.injEq] at hv;exact⟨_,hm,he.symm,hv⟩
 ·obtain⟨j,h1,h2⟩:=h i v hv;exact⟨j,(List.take_sublist_take_left (by omega)).mem h1,h2⟩
end Go.AM
namespace Go.Proofs.YtmccpdapaccnoaaGreat
open Go Go.AM
attribute [local irreducible] aM wv aB vd wvH
theorem EG:cJ Tryz.prog jK Tryz.f108 lL sF:=cJ.mk Tryz.func108 (by kernel_rfl) EM
section
variable {H : aA} {nx : Nat} {K : D → aA → Nat → Prop}
end
end Go.Proofs.YtmccpdapaccnoaaGreat
namespace Go.AM
noncomputable def ptB (c:Cfg) (who:Nat) (p:fR):Bool:=@decide (mD c who p) (Classical.propDecidable _)
variable{who:Nat}
theorem beT{c:Cfg}{p:fR} (h:mD c who p):ptB c who p=true:=by simp[ptB,h]
theorem a8A{c:Cfg}{p:fR} (h: ¬mD c who p):ptB c who p=false:=by simp[ptB,h]
def a5K (c:Cfg) (who:Nat) (p:fR) (j:fC):Prop:=j.who=who∧(0≤j.n∧j.n<p.next-p.queue.length)∧j.left=gZ c.map (bT c who j.n)
structure beI (c:Cfg) (who:Nat) (p:fR) (k:Nat) (last:Int) (M:List (List Int×Int)):Prop where
 all: ∀i,i<k→a5K c who p (p.out.getD i default)
 srt: ∀i j,i<j→j<k→(p.out.getD i default).n<(p.out.getD j default).n
 lst:(k=0∧last= -1)∨(0<k∧last=(p.out.getD (k-1) default).n)
 ids: ∀i,i<k→jT M [(bT c who (p.out.getD i default).n).id]=some (p.out.getD i default).left
 plc:XM c who p.out k M
theorem beI.next {c:Cfg} {who:Nat} {p:fR} {k:Nat} {last:Int} {M:List (List Int×Int)} (h:beI c who p k last M) (hk:k<p.out.length) {j:fC} (hj:j=p.out.getD k default) (h1:a5K c who p j) (h2:last<j.n)
 (h3: ∀v,jT M [(bT c who j.n).id]=some v→v=j.left):beI c who p (k+1) j.n (vA M [(bT c who j.n).id] j.left):=by
 subst hj
 refine⟨iS h.all h1,fun i j hij hj=> ?_,.inr ⟨by omega,by simp⟩,fun i hi=> ?_,h.plc.next hk⟩
 ·by_cases hjk:j<k;·exact h.srt i j hij hjk
  ·obtain rfl:j=k:=by omega
   rcases h.lst with⟨h0,_⟩|⟨h0,h4⟩
   ·omega
   ·by_cases hi:i=j-1;·subst hi;omega
    ·have:=h.srt i (j-1) (by omega) (by omega);omega
 ·rw[agO];by_cases hik:i<k
  ·have h4:=h.ids i hik;split;·rename_i he;simp only[List.cons.injEq,and_true] at he;rw[he] at h4;rw[h3 _ h4]
   ·exact h4
  ·obtain rfl:i=k:=by omega
   simp
theorem beI.end{c:Cfg}{p:fR}{last:Int}{M:List (List Int×Int)} (h:beI c who p p.out.length last M):(∀j∈p.out,a5K c who p j)∧(p.out.Pairwise fun a b=>a.n<b.n)∧ ∀a∈p.out,∀b∈p.out,(bT c who a.n).id=(bT c who b.n).id→a.left=b.left:=by
 have hg: ∀i (hi:i<p.out.length),p.out.getD i default=p.out[i]:=fun i hi=>by simp[List.getD,hi]
 refine⟨fun j hj=> ?_,Z6.2 fun i j hi hj hij=> ?_,fun a ha b hb he=> ?_⟩;·obtain⟨i,hi,rfl⟩:=bqY.1 hj;rw[←hg i hi];exact h.all i hi
 ·rw[←hg i hi,←hg j hj];exact h.srt i j hij hj
 ·obtain⟨i,hi,rfl⟩:=bqY.1 ha;obtain⟨j,hj,rfl⟩:=bqY.1 hb;have h1:=h.ids i hi;have h2:=h.ids j hj;rw[hg] at h1 h2;rw[he,h2] at h1;exact(Option.some.inj h1).symm
theorem beI.bad{c:Cfg}{p:fR}{k:Nat}{last:Int}{M:List (List Int×Int)} (h:beI c who p k last M) (hk:k<p.out.length) (hp:mD c who p):a5K c who p (p.out.getD k default)∧last<(p.out.getD k default).n∧ ∀v,jT M [(bT c who (p.out.getD k default).n).id]=some v→v=(p.out.getD k default).left:=by
 have hm:=cC hk;have ho:=hp.out _ hm;refine⟨ho,?_,fun v hv=> ?_⟩
 ·rcases h.lst with⟨h0,h1⟩|⟨h0,h1⟩
  ·omega
  ·have:=Z6.1 hp.acX (k-1) k (by omega) hk (by omega);rw[h1];simpa [List.getD,hk,show k-1<p.out.length by omega] using this
 ·obtain⟨j',h1,h2,h3⟩:=h.plc _ _ hv;rw[←h3];exact hp.akF j' (List.mem_of_mem_take h1) _ hm h2
end Go.AM
namespace Go.Proofs.YtmccpdapaccnoaaGreat
open Go Go.AM
attribute [local irreducible] aM wv aB vd wvH
section
variable {H : aA} {nx : Nat} {K : D → aA → Nat → Prop}
theorem a5J (c:Cfg) (who:Nat) (p:fR) (hb:aQ c) (hw:who<3) (hpq:p.queue.length<2^21) (hpo:p.out.length<2^21):aB Tryz.prog jK [boR (cU c),boP who,boR (cD p)] .nil 0 fun r _ _=>r.plain=true∧r=dB (ptB c who p):=by
 refine EG rfl fun Q hQ=> ?_;unfold lL;obtain⟨hp3,hpr⟩:=hC hb;have hprw:=hpr who;have hml:=hb.1.1;by_cases h0:(0≤p.next∧p.next≤(c.cP.getD who default).length)∧((p.queue.length:Int)≤2∧(p.queue.length:Int)≤p.next)∧(p.out.length:Int)≤4∧0≤p.last∧p.last≤3
 case neg=>
  have hno: ¬mD c who p:=fun h=>h0 ⟨h.next,by have:=h.ql;omega,by have:=h.ol;omega,h.last⟩;repeat' first| (first|apply bn1|refine bpL (fun h=> ?_) fun h=> ?_|apply fE)<;>(simp only[go_sem])|apply bn2 (by omega)|refine⟨by omega,?_⟩|fail
  all_goals first|exact hQ _ _ _ _ _ (.inr rfl) rfl ⟨rfl,congrArg dB (a8A hno).symm⟩| (exfalso;omega)
 obtain⟨⟨hn1,hn2⟩,⟨hq1,hq2⟩,hol,hl1,hl2⟩:=h0;have hd1:=decide_eq_true (show 0≤p.next∧p.next≤(c.cP.getD who default).length from ⟨hn1,hn2⟩);have hd2:=decide_eq_true (show 0≤p.last∧p.last≤3 from ⟨hl1,hl2⟩);repeat' first| (first|apply bn1|apply bpK (by omega)|apply fE)<;>(simp only[go_sem,hd1,hd2];try simp (disch:=omega) only[Iw])|refine⟨by omega,?_⟩|fail
 refine aM.abC fun bqO hG0=> ?_;have c0:bqO 0=some ⟨3,1,[cU c]⟩:=by rw[hG0];rfl
 have c1:bqO 1=some ⟨4,1,[cD p]⟩:=by rw[hG0];rfl
 clear hG0
 refine aM.gP (β:=Nat) (fun k=>en [(57,boP k),(56,boP p.queue.length),(55,dS (p.queue.map aJ)),(7,boP (p.next-p.queue.length)),(5,.one (.c (.ptr 4 1 0 0))),(3,.one (.c (.ptr 3 0 0 0))),(1,boP who)])
  (fun k H1 _=>k≤p.queue.length∧(∀i,i<k→p.queue.getD i default=p.next-p.queue.length+i)∧ ∀id,id<45→H1 id=bqO id) (fun k=>p.queue.length-k) 0 ⟨noF,_,by repeat' first|exact bo2|refine xqI rfl rfl ?_|refine xqP (by omega) rfl rfl ?_|fail,aK,by omega,fun i hi=>by omega,fun _ _=>rfl⟩ ?_
 rintro k H1 nx1 hnx ⟨hk,hqi,hfr⟩ bpQ hKL;have bqC:H1 0=some ⟨3,1,[cU c]⟩:=by rw[hfr _ (by omega)];exact c0
 have g1:H1 1=some ⟨4,1,[cD p]⟩:=by rw[hfr _ (by omega)];exact c1
 have hA:bQ nx1 [0,1]:=AM.apart (by simp) (by simp;omega);simp only[bQ,eZ] at hA;by_cases hlt:k<p.queue.length
 ·by_cases hqk:p.queue.getD k default=p.next-p.queue.length+k
  ·repeat' first|apply bn1<;>(simp only[go_sem];try simp (disch:=omega) only[Iw])|apply bn2 (by omega)|apply bn3 (by omega)|refine⟨by omega,?_⟩|fail
   exact hKL _ _ _ (k+1) noF _ (by omega) (by omega) (by repeat' first|exact bo2|refine xqI rfl rfl ?_|refine xqP (by omega) rfl rfl ?_|fail) aK ⟨by omega,iS hqi hqk,hfr⟩
  ·repeat' first|apply bn1<;>(simp only[go_sem];try simp (disch:=omega) only[Iw])|apply bn2 (by omega)|refine⟨by omega,?_⟩|fail
   exact hQ _ _ _ _ _ (.inr rfl) rfl ⟨rfl,congrArg dB (a8A fun h=>hqk (h.queue k hlt)).symm⟩
 ·have hk2:k=p.queue.length:=by omega
  rw[hk2] at hqi;repeat' first|apply bn1<;>(simp only[go_sem,t1,bqT,bqC,g1,hA])|apply bn3 (by omega)|fail
  have hom: ∀{H:aA} {F:Nat→Prop} {nh:Nat},nx1+8≤nh→Cv1 H F id nh (.omap (nx1+2)) (.omap (nx1+2)):=fun h=>.omap _ (by omega)
  refine aM.gP (β:=Nat×Int×List (List Int×Int)) (fun u=>en [(72,boP u.1),(71,boP p.out.length),(70,dS (p.out.map eCJ)),(11,.one (.c (.omap (nx1+2)))),(10,boP u.2.1),(7,boP (p.next-p.queue.length)),(3,.one (.c (.ptr 3 0 0 0))),(1,boP who)])
   (fun u H2 _=>u.1≤p.out.length∧H2 0=some ⟨3,1,[cU c]⟩∧H2 (nx1+2)=some (u4 ⟨0,false,u.2.2⟩)∧beI c who p u.1 u.2.1 u.2.2) (fun u=>p.out.length-u.1) (0,-1,[])
   ⟨noF,_,by(repeat' first|exact bo2|refine xqI rfl rfl ?_|refine xqP (by omega) rfl rfl ?_| (with_reducible apply bo3)| ((with_reducible apply bo0);exact bpD (by omega) rfl)| ((with_reducible apply bo1);apply bo7)|fail);all_goals exact hom (by omega),aK,by dsimp only;omega,by rw[aA.aC (by omega)];exact bqC,aA.bH,⟨fun i hi=>by dsimp only at hi;omega,fun i j _ hj=>by dsimp only at hj;omega,.inl ⟨rfl,rfl⟩,fun i hi=>by dsimp only at hi;omega,fun i v hv=>by simp[jT] at hv⟩⟩ ?_
  rintro⟨k,last,M⟩ H2 nx2 hnx2 ⟨hk,bfZ,fm,hI⟩ bqG hKM;dsimp only at hk fm hI;have hA2:bQ nx2 [0,nx1+2]:=AM.apart (by simp) (by simp;omega);simp only[bQ,eZ] at hA2;by_cases hlt:k<p.out.length
  ·have hla: -1≤last∧last≤1000:=by
    rcases hI.lst with⟨_,h⟩|⟨h0,h⟩
    ·omega
    ·have:=(hI.all (k-1) (by omega)).2.1;omega
   have hno: ¬(a5K c who p (p.out.getD k default)∧last<(p.out.getD k default).n∧ ∀v,jT M [(bT c who (p.out.getD k default).n).id]=some v→v=(p.out.getD k default).left)→¬mD c who p:=fun h hp=>h (hI.bad hlt hp)
   have hnx3:=fun j hj=>hI.next hlt (j:=j) hj
   generalize hjd:p.out.getD k default=j at hno hnx3
   by_cases hj1:j.who=who
   case neg=>
    have e1:(j.who=(who:Int))=False:=eq_false hj1;repeat' first|apply bn1<;>(simp only[go_sem,t1,bqT,hjd,e1,bfZ,fm,hA2])|apply bn2 (by omega)|refine⟨by omega,?_⟩|fail
    all_goals exact hQ _ _ _ _ _ (.inr rfl) rfl ⟨rfl,congrArg dB (a8A (hno fun h=>hj1 h.1.1)).symm⟩
   have e1:(j.who=(who:Int))=True:=eq_true hj1
   by_cases hj2:last+1≤j.n∧j.n≤p.next-p.queue.length-1
   case neg=>
    have hd3:=decide_eq_false hj2;repeat' first| (first|apply bn1|apply fE)<;>(simp only[go_sem,t1,bqT,hjd,e1,hd3,bfZ,fm,hA2];try simp (disch:=omega) only[Iw])|apply bn2 (by omega)|refine⟨by omega,?_⟩|fail
    all_goals exact hQ _ _ _ _ _ (.inr rfl) rfl ⟨rfl,congrArg dB (a8A (hno fun h=>hj2 (by have h1:=h.1.2.1;have h2:=h.2.1;omega))).symm⟩
   have hd3:=decide_eq_true hj2
   have hask:oA c who j.n:=⟨by omega,by omega,by rw[Int.toNat_natCast];omega⟩
   obtain⟨hk1,hk2,hk3⟩:=hask
   have hsv:gZ c.map (List.getD (c.cP.getD who default) j.n.toNat default)=gZ c.map (bT c who j.n):=rfl
   by_cases hj3:j.left=gZ c.map (bT c who j.n)
   case neg=>
    have e3:(j.left=gZ c.map (bT c who j.n))=False:=eq_false hj3;repeat' first| (first|apply bn1|apply fE|apply DE (by omega))<;>(simp only[go_sem,t1,bqT,hjd,e1,hd3,hsv,e3,bfZ,fm,hA2];try simp (disch:=omega) only[Iw])|apply bn2 (by omega)|refine⟨by omega,?_⟩|fail
    all_goals exact hQ _ _ _ _ _ (.inr rfl) rfl ⟨rfl,congrArg dB (a8A (hno fun h=>hj3 h.1.2.2)).symm⟩
   have e3:(j.left=gZ c.map (bT c who j.n))=True:=eq_true hj3
   have hok:a5K c who p j:=⟨hj1,by omega,hj3⟩
   cases hgm:jT M [(bT c who j.n).id] with
   |none=>
    have hI2:=hnx3 j rfl hok (by omega) fun v hv=>by rw[hgm] at hv;cases hv
    repeat' first| (first|apply bn1|apply fE|apply DE (by omega)|refine iJ hp3 ⟨hk1,hk2,hk3⟩ ?_)<;>(simp only[go_sem,t1,bqT,hjd,e1,hd3,hsv,e3,bfZ,fm,hA2,hgm,Option.isSome,Option.getD];try simp (disch:=omega) only[Iw])|apply bn2 (by omega)|refine⟨by omega,?_⟩|fail
    exact hKM _ _ _ (k+1,j.n,vA M [(bT c who j.n).id] j.left) noF _ (by omega) (by dsimp only;omega) (by(repeat' first|exact bo2|refine xqI rfl rfl ?_|refine xqP (by omega) rfl rfl ?_| (with_reducible apply bo3)| ((with_reducible apply bo0);exact bpD (by omega) rfl)| ((with_reducible apply bo1);apply bo7)|fail);all_goals exact hom (by omega)) aK ⟨by dsimp only;omega,by rw[aA.aC (by omega),aA.aC (by omega)];exact bfZ,aA.bH,hI2⟩
   |some v=>
    by_cases hj4:v=j.left
    case neg=>
     have e4:(v=j.left)=False:=eq_false hj4;repeat' first| (first|apply bn1|apply fE|apply DE (by omega)|refine iJ hp3 ⟨hk1,hk2,hk3⟩ ?_)<;>(simp only[go_sem,t1,bqT,hjd,e1,hd3,hsv,e3,e4,bfZ,fm,hA2,hgm,Option.isSome,Option.getD];try simp (disch:=omega) only[Iw])|apply bn2 (by omega)|refine⟨by omega,?_⟩|fail
     all_goals exact hQ _ _ _ _ _ (.inr rfl) rfl ⟨rfl,congrArg dB (a8A (hno fun h=>hj4 (h.2.2 _ hgm))).symm⟩
    subst hj4;have hI2:=hnx3 j rfl hok (by omega) fun v hv=>by rw[hgm] at hv;exact(Option.some.inj hv).symm
    repeat' first| (first|apply bn1|apply fE|apply DE (by omega)|refine iJ hp3 ⟨hk1,hk2,hk3⟩ ?_)<;>(simp only[go_sem,t1,bqT,hjd,e1,hd3,hsv,e3,bfZ,fm,hA2,hgm,Option.isSome,Option.getD];try simp (disch:=omega) only[Iw])|apply bn2 (by omega)|refine⟨by omega,?_⟩|fail
    exact hKM _ _ _ (k+1,j.n,vA M [(bT c who j.n).id] j.left) noF _ (by omega) (by dsimp only;omega) (by(repeat' first|exact bo2|refine xqI rfl rfl ?_|refine xqP (by omega) rfl rfl ?_| (with_reducible apply bo3)| ((with_reducible apply bo0);exact bpD (by omega) rfl)| ((with_reducible apply bo1);apply bo7)|fail);all_goals exact hom (by omega)) aK ⟨by dsimp only;omega,by rw[aA.aC (by omega),aA.aC (by omega)];exact bfZ,aA.bH,hI2⟩
  ·repeat' first|apply bn1<;>(simp only[go_sem])|apply bn3 (by omega)|fail
   have hk2:k=p.out.length:=(by omega);rw[hk2] at hI;obtain⟨q1,q2,q3⟩:=hI.end;exact hQ _ _ _ _ _ (.inr rfl) rfl ⟨rfl,congrArg dB (beT ⟨⟨hn1,hn2⟩,by omega,by omega,⟨hl1,hl2⟩,hqi,q1,q2,q3⟩).symm⟩
theorem a2P {c:Cfg} {who:Nat} {p:fR} (hb:aQ c) (hw:who<3) (hpq:p.queue.length<2^21) (hpo:p.out.length<2^21) (h:K (dB (ptB c who p)) H nx):aB Tryz.prog jK [boR (cU c),boP who,boR (cD p)] H nx K:=(a5J c who p hb hw hpq hpo).pure rfl (aI ⟨aE rfl,aE rfl,aE rfl,trivial⟩) fun r hr=>hr▸h
end
end Go.Proofs.YtmccpdapaccnoaaGreat
