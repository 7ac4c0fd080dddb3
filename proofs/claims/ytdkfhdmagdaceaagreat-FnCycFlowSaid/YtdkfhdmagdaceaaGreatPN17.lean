/- Texts laid together by a program: rules, contracts and the walk that leads to the law. -/
import Derived.Test.YtdkfhdmagdaceaaGreatPN13
set_option linter.unusedVariables false
set_option linter.unusedSimpArgs false
set_option linter.unusedSectionVars false
set_option maxRecDepth 100000
set_option maxHeartbeats 8000000
namespace Go.AM
theorem agO {M:List (List Int×Int)} {l c:List Int} {n:Int}:jT (vA M l n) c=if c=l then some n else jT M c:=by
 induction M with
 |nil=>
  by_cases h:c=l;·simp[vA,jT,h]
  ·simp[vA,jT,h]
 |cons p M d=>
  obtain⟨a,b⟩:=p;simp only[vA];by_cases hl:l=a
  ·subst hl;rw[if_pos rfl];by_cases h:c=l;·simp[jT,h]
   ·simp[jT,h]
  ·rw[if_neg hl];unfold jT at d ⊢;simp only[List.find?_cons];by_cases h:c=a;·subst h;simp[Ne.symm hl]
   ·simp only[h,decide_false];rw[d]
def XM (c:Cfg) (who:Nat) (out:List fC) (k:Nat) (M:List (List Int×Int)):Prop:=∀i v,jT M [i]=some v→∃j∈out.take k,(bT c who j.n).id=i∧j.left=v
theorem XM.next {c:Cfg} {who:Nat} {out:List fC} {k:Nat} {M:List (List Int×Int)} (h:XM c who out k M) (b:k<out.length):XM c who out (k+1) (vA M [(bT c who (out.getD k default).n).id] (out.getD k default).left):=by
 intro i v a;rw[agO] at a;have hm:out.getD k default∈out.take (k+1):=by rw[nK b];simp
 split at a;·rename_i he;simp only[List.cons.injEq,and_true] at he;simp only[Option.some.injEq] at a;exact⟨_,hm,he.symm,a⟩
 ·obtain⟨j,d,e⟩:=h i v a;exact⟨j,(List.take_sublist_take_left (by omega)).mem d,e⟩
end Go.AM
namespace Go.Proofs.YtdkfhdmagdaceaaGreat
open Go Go.AM
attribute [local irreducible] aM wv aB vd wvH
theorem EG:cJ Tryz.prog jK Tryz.f182 lL sF:=cJ.mk Tryz.func182 (by kernel_rfl) EM
section
variable {H : aA} {nx : Nat} {K : D → aA → Nat → Prop}
end
end Go.Proofs.YtdkfhdmagdaceaaGreat
namespace Go.AM
noncomputable def ptB (c:Cfg) (who:Nat) (p:fR):Bool:=@decide (mD c who p) (Classical.propDecidable _)
variable{who:Nat}
theorem beT{c:Cfg}{p:fR} (h:mD c who p):ptB c who p=true:=by simp[ptB,h]
theorem a8A{c:Cfg}{p:fR} (h: ¬mD c who p):ptB c who p=false:=by simp[ptB,h]
def a5K (c:Cfg) (who:Nat) (p:fR) (j:fC):Prop:=j.who=who∧(0≤j.n∧j.n<p.next-p.queue.length)∧j.left=gZ c.map (bT c who j.n)
structure beI (c:Cfg) (who:Nat) (p:fR) (k:Nat) (last:Int) (M:List (List Int×Int)):Prop where
 all: ∀i,i<k→a5K c who p (p.out.getD i default)
 srt: ∀i j,i<j→j<k→(p.out.getD i default).n<(p.out.getD j default).n
 lst:(k=0∧last= -1)∨(0<k∧last=(p.out.getD (k-1) default).n)
 ids: ∀i,i<k→jT M [(bT c who (p.out.getD i default).n).id]=some (p.out.getD i default).left
 plc:XM c who p.out k M
theorem beI.next {c:Cfg} {who:Nat} {p:fR} {k:Nat} {last:Int} {M:List (List Int×Int)} (h:beI c who p k last M) (g:k<p.out.length) {j:fC} (f:j=p.out.getD k default) (l:a5K c who p j) (q:last<j.n)
 (m: ∀v,jT M [(bT c who j.n).id]=some v→v=j.left):beI c who p (k+1) j.n (vA M [(bT c who j.n).id] j.left):=by
 subst f
 refine⟨iS h.all l,fun i j b f=> ?_,.inr ⟨by omega,by simp⟩,fun i hi=> ?_,h.plc.next g⟩
 ·by_cases d:j<k;·exact h.srt i j b d
  ·obtain rfl:j=k:=by omega
   rcases h.lst with⟨o,_⟩|⟨o,a⟩
   ·omega
   ·by_cases hi:i=j-1;·subst hi;omega
    ·have:=h.srt i (j-1) (by omega) (by omega);omega
 ·rw[agO];by_cases e:i<k
  ·have a:=h.ids i e;split;·rename_i he;simp only[List.cons.injEq,and_true] at he;rw[he] at a;rw[m _ a]
   ·exact a
  ·obtain rfl:i=k:=by omega
   simp
theorem beI.end{c:Cfg}{p:fR}{last:Int}{M:List (List Int×Int)} (h:beI c who p p.out.length last M):(∀j∈p.out,a5K c who p j)∧(p.out.Pairwise fun a b=>a.n<b.n)∧ ∀a∈p.out,∀b∈p.out,(bT c who a.n).id=(bT c who b.n).id→a.left=b.left:=by
 have e: ∀i (hi:i<p.out.length),p.out.getD i default=p.out[i]:=fun i hi=>by simp[List.getD,hi]
 refine⟨fun j d=> ?_,Z6.2 fun i j hi d f=> ?_,fun a l b m he=> ?_⟩;·obtain⟨i,hi,rfl⟩:=bqY.1 d;rw[←e i hi];exact h.all i hi
 ·rw[←e i hi,←e j d];exact h.srt i j f d
 ·obtain⟨i,hi,rfl⟩:=bqY.1 l;obtain⟨j,d,rfl⟩:=bqY.1 m;have g:=h.ids i hi;have k:=h.ids j d;rw[e] at g k;rw[he,k] at g;exact(Option.some.inj g).symm
theorem beI.bad{c:Cfg}{p:fR}{k:Nat}{last:Int}{M:List (List Int×Int)} (h:beI c who p k last M) (b:k<p.out.length) (hp:mD c who p):a5K c who p (p.out.getD k default)∧last<(p.out.getD k default).n∧ ∀v,jT M [(bT c who (p.out.getD k default).n).id]=some v→v=(p.out.getD k default).left:=by
 have hm:=cC b;have d:=hp.out _ hm;refine⟨d,?_,fun v e=> ?_⟩
 ·rcases h.lst with⟨f,a⟩|⟨f,a⟩
  ·omega
  ·have:=Z6.1 hp.acX (k-1) k (by omega) b (by omega);rw[a];simpa [List.getD,b,show k-1<p.out.length by omega] using this
 ·obtain⟨g,a,i,j⟩:=h.plc _ _ e;rw[←j];exact hp.akF g (List.mem_of_mem_take a) _ hm i
end Go.AM
namespace Go.Proofs.YtdkfhdmagdaceaaGreat
open Go Go.AM
attribute [local irreducible] aM wv aB vd wvH
section
variable {H : aA} {nx : Nat} {K : D → aA → Nat → Prop}
theorem a5J (c:Cfg) (who:Nat) (p:fR) (hb:aQ c) (hw:who<3) (ah:p.queue.length<2^21) (ai:p.out.length<2^21):aB Tryz.prog jK [boR (cU c),boP who,boR (cD p)] .nil 0 fun r _ _=>r.plain=true∧r=dB (ptB c who p):=by
 refine EG rfl fun Q w=> ?_;unfold lL;obtain⟨x,Y⟩:=hC hb;have aa:=Y who;have aj:=hb.1.1;by_cases Z:(0≤p.next∧p.next≤(c.cP.getD who default).length)∧((p.queue.length:Int)≤2∧(p.queue.length:Int)≤p.next)∧(p.out.length:Int)≤4∧0≤p.last∧p.last≤3
 case neg=>
  have a: ¬mD c who p:=fun h=>Z ⟨h.next,by have:=h.ql;omega,by have:=h.ol;omega,h.last⟩;repeat' first| (first|apply bn1|refine bpL (fun h=> ?_) fun h=> ?_|apply fE)<;>(simp only[go_sem])|apply bn2 (by omega)|refine⟨by omega,?_⟩|fail
  all_goals first|exact w _ _ _ _ _ (.inr rfl) rfl ⟨rfl,congrArg dB (a8A a).symm⟩| (exfalso;omega)
 obtain⟨⟨O,P⟩,⟨ak,al⟩,an,R,S⟩:=Z;have ab:=decide_eq_true (show 0≤p.next∧p.next≤(c.cP.getD who default).length from ⟨O,P⟩);have ad:=decide_eq_true (show 0≤p.last∧p.last≤3 from ⟨R,S⟩);repeat' first| (first|apply bn1|apply bpK (by omega)|apply fE)<;>(simp only[go_sem,ab,ad];try simp (disch:=omega) only[Iw])|refine⟨by omega,?_⟩|fail
 refine aM.abC fun bqO y=> ?_;have c0:bqO 0=some ⟨3,1,[cU c]⟩:=by rw[y];rfl
 have c1:bqO 1=some ⟨4,1,[cD p]⟩:=by rw[y];rfl
 clear y
 refine aM.gP (β:=Nat) (fun k=>en [(57,boP k),(56,boP p.queue.length),(55,dS (p.queue.map aJ)),(7,boP (p.next-p.queue.length)),(5,.one (.c (.ptr 4 1 0 0))),(3,.one (.c (.ptr 3 0 0 0))),(1,boP who)])
  (fun k H1 _=>k≤p.queue.length∧(∀i,i<k→p.queue.getD i default=p.next-p.queue.length+i)∧ ∀id,id<45→H1 id=bqO id) (fun k=>p.queue.length-k) 0 ⟨noF,_,by repeat' first|exact bo2|refine xqI rfl rfl ?_|refine xqP (by omega) rfl rfl ?_|fail,aK,by omega,fun i hi=>by omega,fun _ _=>rfl⟩ ?_
 rintro k H1 b ao ⟨hk,z,A⟩ bpQ ae;have bqC:H1 0=some ⟨3,1,[cU c]⟩:=by rw[A _ (by omega)];exact c0
 have g1:H1 1=some ⟨4,1,[cD p]⟩:=by rw[A _ (by omega)];exact c1
 have hA:bQ b [0,1]:=AM.apart (by simp) (by simp;omega);simp only[bQ,eZ] at hA;by_cases o:k<p.queue.length
 ·by_cases T:p.queue.getD k default=p.next-p.queue.length+k
  ·repeat' first|apply bn1<;>(simp only[go_sem];try simp (disch:=omega) only[Iw])|apply bn2 (by omega)|apply bn3 (by omega)|refine⟨by omega,?_⟩|fail
   exact ae _ _ _ (k+1) noF _ (by omega) (by omega) (by repeat' first|exact bo2|refine xqI rfl rfl ?_|refine xqP (by omega) rfl rfl ?_|fail) aK ⟨by omega,iS z T,A⟩
  ·repeat' first|apply bn1<;>(simp only[go_sem];try simp (disch:=omega) only[Iw])|apply bn2 (by omega)|refine⟨by omega,?_⟩|fail
   exact w _ _ _ _ _ (.inr rfl) rfl ⟨rfl,congrArg dB (a8A fun h=>T (h.queue k o)).symm⟩
 ·have d:k=p.queue.length:=by omega
  rw[d] at z;repeat' first|apply bn1<;>(simp only[go_sem,t1,bqT,bqC,g1,hA])|apply bn3 (by omega)|fail
  have B: ∀{H:aA} {F:Nat→Prop} {nh:Nat},b+8≤nh→Cv1 H F id nh (.omap (b+2)) (.omap (b+2)):=fun h=>.omap _ (by omega)
  refine aM.gP (β:=Nat×Int×List (List Int×Int)) (fun u=>en [(72,boP u.1),(71,boP p.out.length),(70,dS (p.out.map eCJ)),(11,.one (.c (.omap (b+2)))),(10,boP u.2.1),(7,boP (p.next-p.queue.length)),(3,.one (.c (.ptr 3 0 0 0))),(1,boP who)])
   (fun u H2 _=>u.1≤p.out.length∧H2 0=some ⟨3,1,[cU c]⟩∧H2 (b+2)=some (u4 ⟨0,false,u.2.2⟩)∧beI c who p u.1 u.2.1 u.2.2) (fun u=>p.out.length-u.1) (0,-1,[])
   ⟨noF,_,by(repeat' first|exact bo2|refine xqI rfl rfl ?_|refine xqP (by omega) rfl rfl ?_| (with_reducible apply bo3)| ((with_reducible apply bo0);exact bpD (by omega) rfl)| ((with_reducible apply bo1);apply bo7)|fail);all_goals exact B (by omega),aK,by dsimp only;omega,by rw[aA.aC (by omega)];exact bqC,aA.bH,⟨fun i hi=>by dsimp only at hi;omega,fun i j _ hj=>by dsimp only at hj;omega,.inl ⟨rfl,rfl⟩,fun i hi=>by dsimp only at hi;omega,fun i v C=>by simp[jT] at C⟩⟩ ?_
  rintro⟨k,last,M⟩ H2 af ag ⟨hk,bfZ,D,E⟩ bqG U;dsimp only at hk D E;have e:bQ af [0,b+2]:=AM.apart (by simp) (by simp;omega);simp only[bQ,eZ] at e;by_cases o:k<p.out.length
  ·have aq: -1≤last∧last≤1000:=by
    rcases E.lst with⟨_,h⟩|⟨Z,h⟩
    ·omega
    ·have:=(E.all (k-1) (by omega)).2.1;omega
   have a: ¬(a5K c who p (p.out.getD k default)∧last<(p.out.getD k default).n∧ ∀v,jT M [(bT c who (p.out.getD k default).n).id]=some v→v=(p.out.getD k default).left)→¬mD c who p:=fun h hp=>h (E.bad o hp)
   have m:=fun j hj=>E.next o (j:=j) hj
   generalize f:p.out.getD k default=j at a m
   by_cases q:j.who=who
   case neg=>
    have G:(j.who=(who:Int))=False:=eq_false q;repeat' first|apply bn1<;>(simp only[go_sem,t1,bqT,f,G,bfZ,D,e])|apply bn2 (by omega)|refine⟨by omega,?_⟩|fail
    all_goals exact w _ _ _ _ _ (.inr rfl) rfl ⟨rfl,congrArg dB (a8A (a fun h=>q h.1.1)).symm⟩
   have G:(j.who=(who:Int))=True:=eq_true q
   by_cases I:last+1≤j.n∧j.n≤p.next-p.queue.length-1
   case neg=>
    have g:=decide_eq_false I;repeat' first| (first|apply bn1|apply fE)<;>(simp only[go_sem,t1,bqT,f,G,g,bfZ,D,e];try simp (disch:=omega) only[Iw])|apply bn2 (by omega)|refine⟨by omega,?_⟩|fail
    all_goals exact w _ _ _ _ _ (.inr rfl) rfl ⟨rfl,congrArg dB (a8A (a fun h=>I (by have h1:=h.1.2.1;have h2:=h.2.1;omega))).symm⟩
   have g:=decide_eq_true I
   have V:oA c who j.n:=⟨by omega,by omega,by rw[Int.toNat_natCast];omega⟩
   obtain⟨J,d,K⟩:=V
   have s:gZ c.map (List.getD (c.cP.getD who default) j.n.toNat default)=gZ c.map (bT c who j.n):=rfl
   by_cases t:j.left=gZ c.map (bT c who j.n)
   case neg=>
    have W:(j.left=gZ c.map (bT c who j.n))=False:=eq_false t;repeat' first| (first|apply bn1|apply fE|apply DE (by omega))<;>(simp only[go_sem,t1,bqT,f,G,g,s,W,bfZ,D,e];try simp (disch:=omega) only[Iw])|apply bn2 (by omega)|refine⟨by omega,?_⟩|fail
    all_goals exact w _ _ _ _ _ (.inr rfl) rfl ⟨rfl,congrArg dB (a8A (a fun h=>t h.1.2.2)).symm⟩
   have W:(j.left=gZ c.map (bT c who j.n))=True:=eq_true t
   have X:a5K c who p j:=⟨q,by omega,t⟩
   cases l:jT M [(bT c who j.n).id] with
   |none=>
    have L:=m j rfl X (by omega) fun v C=>by rw[l] at C;cases C
    repeat' first| (first|apply bn1|apply fE|apply DE (by omega)|refine iJ x ⟨J,d,K⟩ ?_)<;>(simp only[go_sem,t1,bqT,f,G,g,s,W,bfZ,D,e,l,Option.isSome,Option.getD];try simp (disch:=omega) only[Iw])|apply bn2 (by omega)|refine⟨by omega,?_⟩|fail
    exact U _ _ _ (k+1,j.n,vA M [(bT c who j.n).id] j.left) noF _ (by omega) (by dsimp only;omega) (by(repeat' first|exact bo2|refine xqI rfl rfl ?_|refine xqP (by omega) rfl rfl ?_| (with_reducible apply bo3)| ((with_reducible apply bo0);exact bpD (by omega) rfl)| ((with_reducible apply bo1);apply bo7)|fail);all_goals exact B (by omega)) aK ⟨by dsimp only;omega,by rw[aA.aC (by omega),aA.aC (by omega)];exact bfZ,aA.bH,L⟩
   |some v=>
    by_cases N:v=j.left
    case neg=>
     have e4:(v=j.left)=False:=eq_false N;repeat' first| (first|apply bn1|apply fE|apply DE (by omega)|refine iJ x ⟨J,d,K⟩ ?_)<;>(simp only[go_sem,t1,bqT,f,G,g,s,W,e4,bfZ,D,e,l,Option.isSome,Option.getD];try simp (disch:=omega) only[Iw])|apply bn2 (by omega)|refine⟨by omega,?_⟩|fail
     all_goals exact w _ _ _ _ _ (.inr rfl) rfl ⟨rfl,congrArg dB (a8A (a fun h=>N (h.2.2 _ l))).symm⟩
    subst N;have L:=m j rfl X (by omega) fun v C=>by rw[l] at C;exact(Option.some.inj C).symm
    repeat' first| (first|apply bn1|apply fE|apply DE (by omega)|refine iJ x ⟨J,d,K⟩ ?_)<;>(simp only[go_sem,t1,bqT,f,G,g,s,W,bfZ,D,e,l,Option.isSome,Option.getD];try simp (disch:=omega) only[Iw])|apply bn2 (by omega)|refine⟨by omega,?_⟩|fail
    exact U _ _ _ (k+1,j.n,vA M [(bT c who j.n).id] j.left) noF _ (by omega) (by dsimp only;omega) (by(repeat' first|exact bo2|refine xqI rfl rfl ?_|refine xqP (by omega) rfl rfl ?_| (with_reducible apply bo3)| ((with_reducible apply bo0);exact bpD (by omega) rfl)| ((with_reducible apply bo1);apply bo7)|fail);all_goals exact B (by omega)) aK ⟨by dsimp only;omega,by rw[aA.aC (by omega),aA.aC (by omega)];exact bfZ,aA.bH,L⟩
  ·repeat' first|apply bn1<;>(simp only[go_sem])|apply bn3 (by omega)|fail
   have d:k=p.out.length:=(by omega);rw[d] at E;obtain⟨q1,q2,q3⟩:=E.end;exact w _ _ _ _ _ (.inr rfl) rfl ⟨rfl,congrArg dB (beT ⟨⟨O,P⟩,by omega,by omega,⟨R,S⟩,z,q1,q2,q3⟩).symm⟩
theorem a2P {c:Cfg} {who:Nat} {p:fR} (d:aQ c) (hw:who<3) (a:p.queue.length<2^21) (b:p.out.length<2^21) (h:K (dB (ptB c who p)) H nx):aB Tryz.prog jK [boR (cU c),boP who,boR (cD p)] H nx K:=(a5J c who p d hw a b).pure rfl (aI ⟨aE rfl,aE rfl,aE rfl,trivial⟩) fun r hr=>hr▸h
end
end Go.Proofs.YtdkfhdmagdaceaaGreat
