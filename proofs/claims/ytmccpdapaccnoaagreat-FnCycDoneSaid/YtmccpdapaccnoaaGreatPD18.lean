/- Texts laid together by a program: rules, contracts and the walk that leads to the law. -/
import Derived.Test.YtmccpdapaccnoaaGreatPD9
import Derived.Test.YtmccpdapaccnoaaGreatPD13
import Derived.Test.YtmccpdapaccnoaaGreatPD8
import Derived.Test.YtmccpdapaccnoaaGreatPD11
set_option linter.unusedVariables false
set_option linter.unusedSimpArgs false
set_option linter.unusedSectionVars false
set_option maxRecDepth 100000
set_option maxHeartbeats 8000000
namespace Go.Proofs.YtmccpdapaccnoaaGreat
open Go Go.AM
attribute [local irreducible] aM wv aB vd wvH
theorem AP:cJ Tryz.prog cO Tryz.f200 jP oE:=cJ.mk Tryz.func200 (by kernel_rfl) AH
theorem BX:cJ Tryz.prog iX Tryz.f109 lB qR:=cJ.mk Tryz.func109 (by kernel_rfl) B8
end Go.Proofs.YtmccpdapaccnoaaGreat
namespace Go.AM
theorem aM.abC {P:Program} {T:Nat} {e:Env} {H:aA} {nx:Nat} {Q:AQ} {zs:List AC} (h: ∀G,G=H→aM P T zs e G nx Q):aM P T zs e H nx Q:=h H rfl
theorem akM {H:aA} {F:Nat→Prop} {nh:Nat} {f:FuncId} {caps:List D1} (h: ∀x∈caps,∃n id row col,id<nh∧x= .ptr n id row col):Cv1 H F id nh (.clo f caps) (.clo f caps):=
 .clo f caps caps rfl fun i x y hx hy=>by
  rw[hx] at hy;obtain rfl:x=y:=by simpa using hy
  obtain⟨n,id,row,col,h1,rfl⟩:=h x (s3 hx);exact .inr ⟨n,id,row,col,h1,rfl,rfl⟩
def aaK (V:List (Int×Int)) (k:Nat) (u:List Int):Prop:=u.length=3∧ ∀w,w<3→u.getD w default= -1∨ ∃i,i<k∧V[i]?=some ((w:Int),u.getD w default)
theorem aaK.next {c:Cfg} {s:CSt} {st k:Nat} {u:List Int} {x:Int×Int} (hs:COk c s) (hst:st<4) (h:aaK (cS (aL s st)) k u) (hx:(cS (aL s st))[k]?=some x):
 (x.1=(x.1.toNat:Int)∧x.1.toNat<3)∧u.getD x.1.toNat default<x.2∧aaK (cS (aL s st)) (k+1) (u.set x.1.toNat x.2):=by
 obtain⟨hk,hxk⟩:=m3.1 hx
 have hm:x∈cS (aL s st):=hxk▸Z5 hk
 obtain⟨hw,h0,h1⟩:=hs.vIn hst hm
 have hw3:x.1.toNat<3:=by omega
 have hwe:x.1=(x.1.toNat:Int):=by omega
 refine⟨⟨hwe,hw3⟩,?_,by simp[h.1],fun w hw3'=> ?_⟩
 ·rcases h.2 _ hw3 with h2|⟨i,hi,h2⟩
  ·omega
  ·obtain⟨hi2,h3⟩:=m3.1 h2;have h4:=Z6.1 (hs.slv st hst).inc i k hi2 hk hi;rw[h3,hxk] at h4;exact h4 hwe.symm
 ·by_cases he:w=x.1.toNat;·right;refine⟨k,by omega,?_⟩;rw[he,pY (by rw[h.1];omega),if_pos rfl,hx,←hwe]
  ·rw[pY (by rw[h.1];omega),if_neg he];exact(h.2 w hw3').imp (fun h=>h) fun⟨i,hi,h2⟩=>⟨i,by omega,h2⟩
end Go.AM
namespace Go.Proofs.YtmccpdapaccnoaaGreat
open Go Go.AM
attribute [local irreducible] aM wv aB vd wvH
section
variable {H : aA} {nx : Nat} {K : D → aA → Nat → Prop}
theorem kA {s:CSt} {st who:Nat} {w n:Int} {u:List Int} {i0 i1 i2:Nat} (hww:w=who) (hu:u.length=3) (hw:who<3) (hn:u.getD who default<n) (hpl:s.bM.length=3) (hol:(aF s who).out.length<2^40)
 (hx:0≤bK (isC n) (aF s who).out) (hx1:(bK (isC n) (aF s who).out).toNat<(aF s who).out.length) (hx2:((aF s who).out.getD (bK (isC n) (aF s who).out).toNat default).left=st)
 (hlt:i0<nx∧i1<nx∧i2<nx) (hd:[i0,i1,i2].Nodup) (o0:H i0=some ⟨3,1,[u.map cI]⟩) (o1:H i1=some ⟨5,1,[eI s]⟩) (o2:H i2=some ⟨1,1,[[cI st]]⟩)
 (h: ∀H' nx',nx≤nx'→H' i0=some ⟨3,1,[(u.set who n).map cI]⟩→(∀id,id<nx→id≠i0→H' id=H id)→K (dB true) H' nx'):
 aB Tryz.prog cO [boP w,boP n,.one (.c (.ptr 3 i0 0 0)),.one (.c (.ptr 5 i1 0 0)),.one (.c (.ptr 1 i2 0 0))] H nx K:=by
 subst hww
 refine AP rfl fun Q hQ=> ?_
 unfold jP
 have hA:bQ nx [i0,i1,i2]:=AM.apart hd (by simp;omega)
 simp only[bQ,eZ] at hA
 obtain⟨p,hpd⟩: ∃p,p=aF s who:=⟨_,rfl⟩
 have hpd':s.bM.getD who default=p:=hpd.symm
 rw[←hpd] at hol hx hx1 hx2
 obtain⟨a,ha⟩: ∃a,a=bK (isC n) p.out:=⟨_,rfl⟩
 have hut:((u.map cI).drop who).take 1=[cI (u.getD who default)]:=by rw[brB (by simp;omega)];simp[List.getD,show who<u.length by omega]
 have hull:(u.map cI).length=3:=by rw[bqW,hu]
 have hle:(who+1≤3)=True:=eq_true (by omega)
 have hou: ∀{H:aA} {nx:Nat} {K:D→aA→Nat→Prop},K (boP a) H nx→aB Tryz.prog kV [boR (cD p),boP n] H nx K:=fun h=>KT (p:=p) hol (aE rfl) (by rw[←ha];exact h)
 rw[←ha] at hx hx1 hx2
 repeat' first| (first|apply bn1|apply bpJ (by omega)|apply bpK (by omega)|apply oR|apply hou)<;>(simp only[go_sem,t1,bqT,brK,o0,o1,o2,hut,hull,hle,hpd',hx2,hA])|apply bn3 (by omega)|refine⟨by omega,?_⟩|fail
 have eu:List.take who (List.map cI u)++[D1.v (.int .i64 n)]++List.drop (who+1) (List.map cI u)=(u.set who n).map cI:=by rw[brD,bsF,if_pos (by simp;omega),C0];rfl
 rw[eu]
 exact hQ _ _ _ _ _ (.inr rfl) rfl (h _ _ (by omega) aA.bH fun id boU e1=>aA.aC e1)
end
end Go.Proofs.YtmccpdapaccnoaaGreat
namespace Go.AM
theorem agO {M:List (List Int×Int)} {l l':List Int} {n:Int}:jT (vA M l n) l'=if l'=l then some n else jT M l':=by
 induction M with
 |nil=>
  by_cases h:l'=l;·simp[vA,jT,h]
  ·simp[vA,jT,h]
 |cons p M ih=>
  obtain⟨a,b⟩:=p;simp only[vA];by_cases hl:l=a
  ·subst hl;rw[if_pos rfl];by_cases h:l'=l;·simp[jT,h]
   ·simp[jT,h]
  ·rw[if_neg hl];unfold jT at ih ⊢;simp only[List.find?_cons];by_cases h:l'=a;·subst h;simp[Ne.symm hl]
   ·simp only[h,decide_false];rw[ih]
def XM (c:Cfg) (who:Nat) (out:List fC) (k:Nat) (M:List (List Int×Int)):Prop:=∀i v,jT M [i]=some v→∃j∈out.take k,(bT c who j.n).id=i∧j.left=v
theorem XM.next {c:Cfg} {who:Nat} {out:List fC} {k:Nat} {M:List (List Int×Int)} (h:XM c who out k M) (hk:k<out.length):XM c who out (k+1) (vA M [(bT c who (out.getD k default).n).id] (out.getD k default).left):=by
 intro i v hv;rw[agO] at hv;have hm:out.getD k default∈out.take (k+1):=by rw[nK hk];simp
 split at hv;·rename_i he;simp only[List.cons.injEq,and_true] at he;simp only[Option.some.injEq] at hv;exact⟨_,hm,he.symm,hv⟩
 ·obtain⟨j,h1,h2⟩:=h i v hv;exact⟨j,(List.take_sublist_take_left (by omega)).mem h1,h2⟩
end Go.AM
namespace Go.Proofs.YtmccpdapaccnoaaGreat
open Go Go.AM
attribute [local irreducible] aM wv aB vd wvH
theorem EG:cJ Tryz.prog jK Tryz.f108 lL sF:=cJ.mk Tryz.func108 (by kernel_rfl) EM
section
variable {H : aA} {nx : Nat} {K : D → aA → Nat → Prop}
end
end Go.Proofs.YtmccpdapaccnoaaGreat
namespace Go.AM
noncomputable def ptB (c:Cfg) (who:Nat) (p:fR):Bool:=@decide (mD c who p) (Classical.propDecidable _)
variable{who:Nat}
theorem beT{c:Cfg}{p:fR} (h:mD c who p):ptB c who p=true:=by simp[ptB,h]
theorem a8A{c:Cfg}{p:fR} (h: ¬mD c who p):ptB c who p=false:=by simp[ptB,h]
def a5K (c:Cfg) (who:Nat) (p:fR) (j:fC):Prop:=j.who=who∧(0≤j.n∧j.n<p.next-p.queue.length)∧j.left=gZ c.map (bT c who j.n)
structure beI (c:Cfg) (who:Nat) (p:fR) (k:Nat) (last:Int) (M:List (List Int×Int)):Prop where
 all: ∀i,i<k→a5K c who p (p.out.getD i default)
 srt: ∀i j,i<j→j<k→(p.out.getD i default).n<(p.out.getD j default).n
 lst:(k=0∧last= -1)∨(0<k∧last=(p.out.getD (k-1) default).n)
 ids: ∀i,i<k→jT M [(bT c who (p.out.getD i default).n).id]=some (p.out.getD i default).left
 plc:XM c who p.out k M
theorem beI.next {c:Cfg} {who:Nat} {p:fR} {k:Nat} {last:Int} {M:List (List Int×Int)} (h:beI c who p k last M) (hk:k<p.out.length) {j:fC} (hj:j=p.out.getD k default) (h1:a5K c who p j) (h2:last<j.n)
 (h3: ∀v,jT M [(bT c who j.n).id]=some v→v=j.left):beI c who p (k+1) j.n (vA M [(bT c who j.n).id] j.left):=by
 subst hj
 refine⟨iS h.all h1,fun i j hij hj=> ?_,.inr ⟨by omega,by simp⟩,fun i hi=> ?_,h.plc.next hk⟩
 ·by_cases hjk:j<k;·exact h.srt i j hij hjk
  ·obtain rfl:j=k:=by omega
   rcases h.lst with⟨h0,_⟩|⟨h0,h4⟩
   ·omega
   ·by_cases hi:i=j-1;·subst hi;omega
    ·have:=h.srt i (j-1) (by omega) (by omega);omega
 ·rw[agO];by_cases hik:i<k
  ·have h4:=h.ids i hik;split;·rename_i he;simp only[List.cons.injEq,and_true] at he;rw[he] at h4;rw[h3 _ h4]
   ·exact h4
  ·obtain rfl:i=k:=by omega
   simp
theorem beI.end{c:Cfg}{p:fR}{last:Int}{M:List (List Int×Int)} (h:beI c who p p.out.length last M):(∀j∈p.out,a5K c who p j)∧(p.out.Pairwise fun a b=>a.n<b.n)∧ ∀a∈p.out,∀b∈p.out,(bT c who a.n).id=(bT c who b.n).id→a.left=b.left:=by
 have hg: ∀i (hi:i<p.out.length),p.out.getD i default=p.out[i]:=fun i hi=>by simp[List.getD,hi]
 refine⟨fun j hj=> ?_,Z6.2 fun i j hi hj hij=> ?_,fun a ha b hb he=> ?_⟩;·obtain⟨i,hi,rfl⟩:=bqY.1 hj;rw[←hg i hi];exact h.all i hi
 ·rw[←hg i hi,←hg j hj];exact h.srt i j hij hj
 ·obtain⟨i,hi,rfl⟩:=bqY.1 ha;obtain⟨j,hj,rfl⟩:=bqY.1 hb;have h1:=h.ids i hi;have h2:=h.ids j hj;rw[hg] at h1 h2;rw[he,h2] at h1;exact(Option.some.inj h1).symm
theorem beI.bad{c:Cfg}{p:fR}{k:Nat}{last:Int}{M:List (List Int×Int)} (h:beI c who p k last M) (hk:k<p.out.length) (hp:mD c who p):a5K c who p (p.out.getD k default)∧last<(p.out.getD k default).n∧ ∀v,jT M [(bT c who (p.out.getD k default).n).id]=some v→v=(p.out.getD k default).left:=by
 have hm:=cC hk;have ho:=hp.out _ hm;refine⟨ho,?_,fun v hv=> ?_⟩
 ·rcases h.lst with⟨h0,h1⟩|⟨h0,h1⟩
  ·omega
  ·have:=Z6.1 hp.acX (k-1) k (by omega) hk (by omega);rw[h1];simpa [List.getD,hk,show k-1<p.out.length by omega] using this
 ·obtain⟨j',h1,h2,h3⟩:=h.plc _ _ hv;rw[←h3];exact hp.akF j' (List.mem_of_mem_take h1) _ hm h2
end Go.AM
namespace Go.Proofs.YtmccpdapaccnoaaGreat
open Go Go.AM
attribute [local irreducible] aM wv aB vd wvH
section
variable {H : aA} {nx : Nat} {K : D → aA → Nat → Prop}
theorem a5J (c:Cfg) (who:Nat) (p:fR) (hb:aQ c) (hw:who<3) (hpq:p.queue.length<2^21) (hpo:p.out.length<2^21):aB Tryz.prog jK [boR (cU c),boP who,boR (cD p)] .nil 0 fun r _ _=>r.plain=true∧r=dB (ptB c who p):=by
 refine EG rfl fun Q hQ=> ?_;unfold lL;obtain⟨hp3,hpr⟩:=hC hb;have hprw:=hpr who;have hml:=hb.1.1;by_cases h0:(0≤p.next∧p.next≤(c.cP.getD who default).length)∧((p.queue.length:Int)≤2∧(p.queue.length:Int)≤p.next)∧(p.out.length:Int)≤4∧0≤p.last∧p.last≤3
 case neg=>
  have hno: ¬mD c who p:=fun h=>h0 ⟨h.next,by have:=h.ql;omega,by have:=h.ol;omega,h.last⟩;repeat' first| (first|apply bn1|refine bpL (fun h=> ?_) fun h=> ?_|apply fE)<;>(simp only[go_sem])|apply bn2 (by omega)|refine⟨by omega,?_⟩|fail
  all_goals first|exact hQ _ _ _ _ _ (.inr rfl) rfl ⟨rfl,congrArg dB (a8A hno).symm⟩| (exfalso;omega)
 obtain⟨⟨hn1,hn2⟩,⟨hq1,hq2⟩,hol,hl1,hl2⟩:=h0;have hd1:=decide_eq_true (show 0≤p.next∧p.next≤(c.cP.getD who default).length from ⟨hn1,hn2⟩);have hd2:=decide_eq_true (show 0≤p.last∧p.last≤3 from ⟨hl1,hl2⟩);repeat' first| (first|apply bn1|apply bpK (by omega)|apply fE)<;>(simp only[go_sem,hd1,hd2];try simp (disch:=omega) only[Iw])|refine⟨by omega,?_⟩|fail
 refine aM.abC fun bqO hG0=> ?_;have c0:bqO 0=some ⟨3,1,[cU c]⟩:=by rw[hG0];rfl
 have c1:bqO 1=some ⟨4,1,[cD p]⟩:=by rw[hG0];rfl
 clear hG0
 refine aM.gP (β:=Nat) (fun k=>en [(57,boP k),(56,boP p.queue.length),(55,dS (p.queue.map aJ)),(7,boP (p.next-p.queue.length)),(5,.one (.c (.ptr 4 1 0 0))),(3,.one (.c (.ptr 3 0 0 0))),(1,boP who)])
  (fun k H1 _=>k≤p.queue.length∧(∀i,i<k→p.queue.getD i default=p.next-p.queue.length+i)∧ ∀id,id<45→H1 id=bqO id) (fun k=>p.queue.length-k) 0 ⟨noF,_,by repeat' first|exact bo2|refine xqI rfl rfl ?_|refine xqP (by omega) rfl rfl ?_|fail,aK,by omega,fun i hi=>by omega,fun _ _=>rfl⟩ ?_
 rintro k H1 nx1 hnx ⟨hk,hqi,hfr⟩ bpQ hKL;have bqC:H1 0=some ⟨3,1,[cU c]⟩:=by rw[hfr _ (by omega)];exact c0
 have g1:H1 1=some ⟨4,1,[cD p]⟩:=by rw[hfr _ (by omega)];exact c1
 have hA:bQ nx1 [0,1]:=AM.apart (by simp) (by simp;omega);simp only[bQ,eZ] at hA;by_cases hlt:k<p.queue.length
 ·by_cases hqk:p.queue.getD k default=p.next-p.queue.length+k
  ·repeat' first|apply bn1<;>(simp only[go_sem];try simp (disch:=omega) only[Iw])|apply bn2 (by omega)|apply bn3 (by omega)|refine⟨by omega,?_⟩|fail
   exact hKL _ _ _ (k+1) noF _ (by omega) (by omega) (by repeat' first|exact bo2|refine xqI rfl rfl ?_|refine xqP (by omega) rfl rfl ?_|fail) aK ⟨by omega,iS hqi hqk,hfr⟩
  ·repeat' first|apply bn1<;>(simp only[go_sem];try simp (disch:=omega) only[Iw])|apply bn2 (by omega)|refine⟨by omega,?_⟩|fail
   exact hQ _ _ _ _ _ (.inr rfl) rfl ⟨rfl,congrArg dB (a8A fun h=>hqk (h.queue k hlt)).symm⟩
 ·have hk2:k=p.queue.length:=by omega
  rw[hk2] at hqi;repeat' first|apply bn1<;>(simp only[go_sem,t1,bqT,bqC,g1,hA])|apply bn3 (by omega)|fail
  have hom: ∀{H:aA} {F:Nat→Prop} {nh:Nat},nx1+8≤nh→Cv1 H F id nh (.omap (nx1+2)) (.omap (nx1+2)):=fun h=>.omap _ (by omega)
  refine aM.gP (β:=Nat×Int×List (List Int×Int)) (fun u=>en [(72,boP u.1),(71,boP p.out.length),(70,dS (p.out.map eCJ)),(11,.one (.c (.omap (nx1+2)))),(10,boP u.2.1),(7,boP (p.next-p.queue.length)),(3,.one (.c (.ptr 3 0 0 0))),(1,boP who)])
   (fun u H2 _=>u.1≤p.out.length∧H2 0=some ⟨3,1,[cU c]⟩∧H2 (nx1+2)=some (u4 ⟨0,false,u.2.2⟩)∧beI c who p u.1 u.2.1 u.2.2) (fun u=>p.out.length-u.1) (0,-1,[])
   ⟨noF,_,by(repeat' first|exact bo2|refine xqI rfl rfl ?_|refine xqP (by omega) rfl rfl ?_| (with_reducible apply bo3)| ((with_reducible apply bo0);exact bpD (by omega) rfl)| ((with_reducible apply bo1);apply bo7)|fail);all_goals exact hom (by omega),aK,by dsimp only;omega,by rw[aA.aC (by omega)];exact bqC,aA.bH,⟨fun i hi=>by dsimp only at hi;omega,fun i j _ hj=>by dsimp only at hj;omega,.inl ⟨rfl,rfl⟩,fun i hi=>by dsimp only at hi;omega,fun i v hv=>by simp[jT] at hv⟩⟩ ?_
  rintro⟨k,last,M⟩ H2 nx2 hnx2 ⟨hk,bfZ,fm,hI⟩ bqG hKM;dsimp only at hk fm hI;have hA2:bQ nx2 [0,nx1+2]:=AM.apart (by simp) (by simp;omega);simp only[bQ,eZ] at hA2;by_cases hlt:k<p.out.length
  ·have hla: -1≤last∧last≤1000:=by
    rcases hI.lst with⟨_,h⟩|⟨h0,h⟩
    ·omega
    ·have:=(hI.all (k-1) (by omega)).2.1;omega
   have hno: ¬(a5K c who p (p.out.getD k default)∧last<(p.out.getD k default).n∧ ∀v,jT M [(bT c who (p.out.getD k default).n).id]=some v→v=(p.out.getD k default).left)→¬mD c who p:=fun h hp=>h (hI.bad hlt hp)
   have hnx3:=fun j hj=>hI.next hlt (j:=j) hj
   generalize hjd:p.out.getD k default=j at hno hnx3
   by_cases hj1:j.who=who
   case neg=>
    have e1:(j.who=(who:Int))=False:=eq_false hj1;repeat' first|apply bn1<;>(simp only[go_sem,t1,bqT,hjd,e1,bfZ,fm,hA2])|apply bn2 (by omega)|refine⟨by omega,?_⟩|fail
    all_goals exact hQ _ _ _ _ _ (.inr rfl) rfl ⟨rfl,congrArg dB (a8A (hno fun h=>hj1 h.1.1)).symm⟩
   have e1:(j.who=(who:Int))=True:=eq_true hj1
   by_cases hj2:last+1≤j.n∧j.n≤p.next-p.queue.length-1
   case neg=>
    have hd3:=decide_eq_false hj2;repeat' first| (first|apply bn1|apply fE)<;>(simp only[go_sem,t1,bqT,hjd,e1,hd3,bfZ,fm,hA2];try simp (disch:=omega) only[Iw])|apply bn2 (by omega)|refine⟨by omega,?_⟩|fail
    all_goals exact hQ _ _ _ _ _ (.inr rfl) rfl ⟨rfl,congrArg dB (a8A (hno fun h=>hj2 (by have h1:=h.1.2.1;have h2:=h.2.1;omega))).symm⟩
   have hd3:=decide_eq_true hj2
   have hask:oA c who j.n:=⟨by omega,by omega,by rw[Int.toNat_natCast];omega⟩
   obtain⟨hk1,hk2,hk3⟩:=hask
   have hsv:gZ c.map (List.getD (c.cP.getD who default) j.n.toNat default)=gZ c.map (bT c who j.n):=rfl
   by_cases hj3:j.left=gZ c.map (bT c who j.n)
   case neg=>
    have e3:(j.left=gZ c.map (bT c who j.n))=False:=eq_false hj3;repeat' first| (first|apply bn1|apply fE|apply DE (by omega))<;>(simp only[go_sem,t1,bqT,hjd,e1,hd3,hsv,e3,bfZ,fm,hA2];try simp (disch:=omega) only[Iw])|apply bn2 (by omega)|refine⟨by omega,?_⟩|fail
    all_goals exact hQ _ _ _ _ _ (.inr rfl) rfl ⟨rfl,congrArg dB (a8A (hno fun h=>hj3 h.1.2.2)).symm⟩
   have e3:(j.left=gZ c.map (bT c who j.n))=True:=eq_true hj3
   have hok:a5K c who p j:=⟨hj1,by omega,hj3⟩
   cases hgm:jT M [(bT c who j.n).id] with
   |none=>
    have hI2:=hnx3 j rfl hok (by omega) fun v hv=>by rw[hgm] at hv;cases hv
    repeat' first| (first|apply bn1|apply fE|apply DE (by omega)|refine iJ hp3 ⟨hk1,hk2,hk3⟩ ?_)<;>(simp only[go_sem,t1,bqT,hjd,e1,hd3,hsv,e3,bfZ,fm,hA2,hgm,Option.isSome,Option.getD];try simp (disch:=omega) only[Iw])|apply bn2 (by omega)|refine⟨by omega,?_⟩|fail
    exact hKM _ _ _ (k+1,j.n,vA M [(bT c who j.n).id] j.left) noF _ (by omega) (by dsimp only;omega) (by(repeat' first|exact bo2|refine xqI rfl rfl ?_|refine xqP (by omega) rfl rfl ?_| (with_reducible apply bo3)| ((with_reducible apply bo0);exact bpD (by omega) rfl)| ((with_reducible apply bo1);apply bo7)|fail);all_goals exact hom (by omega)) aK ⟨by dsimp only;omega,by rw[aA.aC (by omega),aA.aC (by omega)];exact bfZ,aA.bH,hI2⟩
   |some v=>
    by_cases hj4:v=j.left
    case neg=>
     have e4:(v=j.left)=False:=eq_false hj4;repeat' first| (first|apply bn1|apply fE|apply DE (by omega)|refine iJ hp3 ⟨hk1,hk2,hk3⟩ ?_)<;>(simp only[go_sem,t1,bqT,hjd,e1,hd3,hsv,e3,e4,bfZ,fm,hA2,hgm,Option.isSome,Option.getD];try simp (disch:=omega) only[Iw])|apply bn2 (by omega)|refine⟨by omega,?_⟩|fail
     all_goals exact hQ _ _ _ _ _ (.inr rfl) rfl ⟨rfl,congrArg dB (a8A (hno fun h=>hj4 (h.2.2 _ hgm))).symm⟩
    subst hj4;have hI2:=hnx3 j rfl hok (by omega) fun v hv=>by rw[hgm] at hv;exact(Option.some.inj hv).symm
    repeat' first| (first|apply bn1|apply fE|apply DE (by omega)|refine iJ hp3 ⟨hk1,hk2,hk3⟩ ?_)<;>(simp only[go_sem,t1,bqT,hjd,e1,hd3,hsv,e3,bfZ,fm,hA2,hgm,Option.isSome,Option.getD];try simp (disch:=omega) only[Iw])|apply bn2 (by omega)|refine⟨by omega,?_⟩|fail
    exact hKM _ _ _ (k+1,j.n,vA M [(bT c who j.n).id] j.left) noF _ (by omega) (by dsimp only;omega) (by(repeat' first|exact bo2|refine xqI rfl rfl ?_|refine xqP (by omega) rfl rfl ?_| (with_reducible apply bo3)| ((with_reducible apply bo0);exact bpD (by omega) rfl)| ((with_reducible apply bo1);apply bo7)|fail);all_goals exact hom (by omega)) aK ⟨by dsimp only;omega,by rw[aA.aC (by omega),aA.aC (by omega)];exact bfZ,aA.bH,hI2⟩
  ·repeat' first|apply bn1<;>(simp only[go_sem])|apply bn3 (by omega)|fail
   have hk2:k=p.out.length:=(by omega);rw[hk2] at hI;obtain⟨q1,q2,q3⟩:=hI.end;exact hQ _ _ _ _ _ (.inr rfl) rfl ⟨rfl,congrArg dB (beT ⟨⟨hn1,hn2⟩,by omega,by omega,⟨hl1,hl2⟩,hqi,q1,q2,q3⟩).symm⟩
theorem a2P {c:Cfg} {who:Nat} {p:fR} (hb:aQ c) (hw:who<3) (hpq:p.queue.length<2^21) (hpo:p.out.length<2^21) (h:K (dB (ptB c who p)) H nx):aB Tryz.prog jK [boR (cU c),boP who,boR (cD p)] H nx K:=(a5J c who p hb hw hpq hpo).pure rfl (aI ⟨aE rfl,aE rfl,aE rfl,trivial⟩) fun r hr=>hr▸h
end
end Go.Proofs.YtmccpdapaccnoaaGreat
namespace Go.AM
noncomputable def slB (c:Cfg) (s:CSt) (st:Nat):Bool:=@decide (Z0 c s st) (Classical.propDecidable _)
theorem beR {c:Cfg} {s:CSt} {st:Nat} (h:Z0 c s st):slB c s st=true:=by simp[slB,h]
theorem a6D {c:Cfg} {s:CSt} {st:Nat} (h: ¬Z0 c s st):slB c s st=false:=by simp[slB,h]
structure a19 (c:Cfg) (s:CSt):Prop where
 pl:s.bM.length=3
 port: ∀k,k<3→mD c k (aF s k)
structure bdP (s:CSt) (st:Nat) (u:List Int) (x:Int×Int):Prop where
 who:0≤x.1∧x.1≤2
 last:u.getD x.1.toNat default<x.2
 bf0:0≤bK (isC x.2) (aF s x.1.toNat).out
 aAM:(bK (isC x.2) (aF s x.1.toNat).out).toNat<(aF s x.1.toNat).out.length
 aAN:((aF s x.1.toNat).out.getD (bK (isC x.2) (aF s x.1.toNat).out).toNat default).left=st
structure bcU (s:CSt) (st:Nat) (V:List (Int×Int)) (k:Nat) (u:List Int):Prop where
 ul:u.length=3
 lst: ∀w,w<3→u.getD w default= -1∨ ∃i,i<k∧V[i]?=some ((w:Int),u.getD w default)
 all: ∀i x,i<k→V[i]?=some x→(0≤x.1∧x.1≤2)∧x.2≤u.getD x.1.toNat default∧ ∃j∈(aF s x.1.toNat).out,j.n=x.2∧j.left=st
 inc: ∀i j x y,i<j→j<k→V[i]?=some x→V[j]?=some y→x.1=y.1→x.2<y.2
theorem bcU.nil {s:CSt} {st:Nat} {V:List (Int×Int)}:bcU s st V 0 [-1,-1,-1]:=⟨rfl,fun w hw=>.inl (by rcases(show w=0∨w=1∨w=2 by omega) with rfl|rfl|rfl<;>rfl),fun i x hi=>by omega,fun i j x y _ hj=>by omega⟩
theorem bcU.next {s:CSt} {st k:Nat} {V:List (Int×Int)} {u:List Int} {x:Int×Int} (h:bcU s st V k u) (hx:V[k]?=some x) (hf:bdP s st u x):bcU s st V (k+1) (u.set x.1.toNat x.2):=by
 have hw:=hf.who;have hul:=h.ul;have hlt:=hf.last;have hg: ∀w,(u.set x.1.toNat x.2).getD w default=if w=x.1.toNat then x.2 else u.getD w default:=fun w=>pY (by omega)
 refine⟨by simp[hul],fun w hw3=> ?_,fun i y hi hy=> ?_,fun i j y z hij hj hy hz he=> ?_⟩
 ·rw[hg];by_cases he:w=x.1.toNat;·right;refine⟨k,by omega,?_⟩;rw[if_pos he,hx,he,show ((x.1.toNat:Nat):Int)=x.1 by omega]
  ·rw[if_neg he];exact(h.lst w hw3).imp (fun h=>h) fun⟨i,hi,h2⟩=>⟨i,by omega,h2⟩
 ·rw[hg];by_cases hik:i<k
  ·obtain⟨h1,h2,h3⟩:=h.all i y hik hy;refine⟨h1,?_,h3⟩;split;·rename_i he;rw[he] at h2;omega
   ·exact h2
  ·obtain rfl:i=k:=by omega
   obtain rfl:x=y:=by rw[hx] at hy;exact Option.some.inj hy
   refine⟨hw,by rw[if_pos rfl];omega,_,cC hf.aAM,?_,hf.aAN⟩;have:=(ajV hf.bf0).2;exact of_decide_eq_true this
 ·by_cases hjk:j<k;·exact h.inc i j y z hij hjk hy hz he
  ·obtain rfl:j=k:=by omega
   obtain rfl:x=z:=by rw[hx] at hz;exact Option.some.inj hz
   have:=(h.all i y hij hy).2.1;rw[he] at this;omega
theorem bcU.bad {c:Cfg} {s:CSt} {st k:Nat} {u:List Int} {x:Int×Int} (hp:a19 c s) (hs:Z0 c s st) (h:bcU s st (cS (aL s st)) k u) (hx:(cS (aL s st))[k]?=some x):bdP s st u x:=by
 obtain⟨hk,hxk⟩:=m3.1 hx;have hm:x∈cS (aL s st):=hxk▸Z5 hk;obtain⟨hw,j,hj,h1,h2⟩:=hs.out x hm;have hpo:=hp.port x.1.toNat (by omega);have hj0:=(hpo.out j hj).2.1;have hex: ∃j∈(aF s x.1.toNat).out,j.n=x.2:=⟨j,hj,h1⟩
 obtain⟨az9,az2⟩:=PJ hex;refine⟨hw,?_,cH.2 ⟨j,hj,decide_eq_true h1⟩,az9,?_⟩
 ·rcases h.lst x.1.toNat (by omega) with h3|⟨i,hi,h3⟩
  ·omega
  ·obtain⟨hi2,h4⟩:=m3.1 h3;have h5:=Z6.1 hs.inc i k hi2 hk hi;rw[h4,hxk] at h5;exact h5 (by dsimp only;omega)
 ·have:=ZO hpo.acX (cC az9) hj (by rw[az2,h1]);rw[this];exact h2
theorem bdP.asks {c:Cfg} {s:CSt} {st:Nat} {u:List Int} {x:Int×Int} (hp:a19 c s) (h:bdP s st u x):oA c x.1 x.2:=by have hw:=h.who;have hpo:=hp.port x.1.toNat (by omega);have hm:=cC h.aAM;have hn:((aF s x.1.toNat).out.getD (bK (isC x.2) (aF s x.1.toNat).out).toNat default).n=x.2:=of_decide_eq_true (ajV h.bf0).2;obtain⟨_,h2,_⟩:=hpo.out _ hm;rw[hn] at h2;have:=hpo.asks (n:=x.2) (by omega) h2.1 (by omega);rwa [show ((x.1.toNat:Nat):Int)=x.1 by omega] at this
theorem bcU.end {s:CSt} {st:Nat} {V:List (Int×Int)} {u:List Int} (h:bcU s st V V.length u):(V.Pairwise fun a b=>a.1=b.1→a.2<b.2)∧ ∀x∈V,(0≤x.1∧x.1≤2)∧ ∃j∈(aF s x.1.toNat).out,j.n=x.2∧j.left=st:=by
 refine⟨Z6.2 fun i j hi hj hij he=> ?_,fun x hx=> ?_⟩;·exact h.inc i j _ _ hij hj (n1 hi) (n1 hj) he
 ·obtain⟨i,hi,rfl⟩:=bqY.1 hx;obtain⟨h1,_,h3⟩:=h.all i _ hi (n1 hi);exact⟨h1,h3⟩
end Go.AM
namespace Go.Proofs.YtmccpdapaccnoaaGreat
open Go Go.AM
attribute [local irreducible] aM wv aB vd wvH
section
variable {H : aA} {nx : Nat} {K : D → aA → Nat → Prop}
theorem a04 {c:Cfg} {s:CSt} {st:Nat} {w n:Int} {u:List Int} {i0 i1 i2:Nat} (hp:a19 c s) (hu:u.length=3) (hno: ¬bdP s st u (w,n))
 (hlt:i0<nx∧i1<nx∧i2<nx) (hd:[i0,i1,i2].Nodup) (o0:H i0=some ⟨3,1,[u.map cI]⟩) (o1:H i1=some ⟨5,1,[eI s]⟩) (o2:H i2=some ⟨1,1,[[cI st]]⟩)
 (h: ∀H' nx',nx≤nx'→K (dB false) H' nx'):
 aB Tryz.prog cO [boP w,boP n,.one (.c (.ptr 3 i0 0 0)),.one (.c (.ptr 5 i1 0 0)),.one (.c (.ptr 1 i2 0 0))] H nx K:=by
 refine AP rfl fun Q hQ=> ?_
 unfold jP
 have hA:bQ nx [i0,i1,i2]:=AM.apart hd (by simp;omega)
 simp only[bQ,eZ] at hA
 by_cases hw:0≤w∧w≤2
 case neg=>
  have hwd:=decide_eq_false hw;repeat' first| (first|apply bn1|apply oR)<;>(simp only[go_sem,t1,bqT,brK,o0,o1,o2,hwd,hA])|fail
  all_goals first|exact hQ _ _ _ _ _ (.inr rfl) rfl (h _ _ (by omega))| (exfalso;omega)
 have hwd:=decide_eq_true hw
 obtain⟨who,rfl⟩: ∃who:Nat,w=who:=⟨w.toNat,by omega⟩
 have hw3:who<3:=by omega
 obtain⟨p,hpd⟩: ∃p,p=aF s who:=⟨_,rfl⟩
 have hpd':s.bM.getD who default=p:=hpd.symm
 have hpl:=hp.pl
 have hol:=(hp.port who hw3).ol
 rw[←hpd] at hol
 have hut:((u.map cI).drop who).take 1=[cI (u.getD who default)]:=by rw[brB (by simp;omega)];simp[List.getD,show who<u.length by omega]
 have hull:(u.map cI).length=3:=by rw[bqW,hu]
 have hle:(who+1≤3)=True:=eq_true (by omega)
 by_cases hn:u.getD who default<n
 case neg=>
  have hn1:(n≤u.getD who default)=True:=eq_true (by omega);repeat' first| (first|apply bn1|apply oR)<;>(simp only[go_sem,t1,bqT,brK,o0,o1,o2,hut,hull,hle,hwd,hn1,hA])|refine⟨by omega,?_⟩|fail
  all_goals first|exact hQ _ _ _ _ _ (.inr rfl) rfl (h _ _ (by omega))| (exfalso;omega)
 have hn1:(n≤u.getD who default)=False:=eq_false (by omega)
 obtain⟨a,ha⟩: ∃a,a=bK (isC n) p.out:=⟨_,rfl⟩
 have hou: ∀{H:aA} {nx:Nat} {K:D→aA→Nat→Prop},K (boP a) H nx→aB Tryz.prog kV [boR (cD p),boP n] H nx K:=fun h=>KT (p:=p) (by omega) (aE rfl) (by rw[←ha];exact h)
 by_cases ha0:0≤a
 case neg=>
  have ha1:(0≤a)=False:=eq_false ha0;repeat' first| (first|apply bn1|apply oR|apply hou)<;>(simp only[go_sem,t1,bqT,brK,o0,o1,o2,hut,hull,hle,hpd',hwd,hn1,ha1,hA])|refine⟨by omega,?_⟩|fail
  all_goals first|exact hQ _ _ _ _ _ (.inr rfl) rfl (h _ _ (by omega))| (exfalso;omega)
 have ha1:(0≤a)=True:=eq_true ha0
 have ha2:a.toNat<p.out.length:=by rw[ha] at ha0 ⊢;exact(ajV ha0).1
 obtain⟨o,ho⟩: ∃o,p.out.getD a.toNat default=o:=⟨_,rfl⟩
 have hol2:(o.left=(st:Int))=False:=eq_false fun he=>hno ⟨hw,by rw[Int.toNat_natCast];exact hn,by rw[Int.toNat_natCast,←hpd,←ha];exact ha0,by rw[Int.toNat_natCast,←hpd,←ha];exact ha2,by rw[Int.toNat_natCast,←hpd,←ha,ho];exact he⟩
 repeat' first| (first|apply bn1|apply oR|apply hou)<;>(simp only[go_sem,t1,bqT,brK,o0,o1,o2,hut,hull,hle,hpd',hwd,hn1,ha1,ho,hol2,hA])|refine⟨by omega,?_⟩|fail
 all_goals first|exact hQ _ _ _ _ _ (.inr rfl) rfl (h _ _ (by omega))| (exfalso;omega)
def beA (c:Cfg) (st i:Nat) (d:fC):Prop:=(0≤d.left∧d.left≤c.lat.getD st default)∧(0<i→d.left=c.lat.getD st default)
theorem a5G (c:Cfg) (s:CSt) (st:Nat) (hb:aQ c) (hp:a19 c s) (hsl:s.dD.length=4) (hst:st<4) (hf1:(aL s st).pipe.length<2^21) (hf2:(aL s st).done.length<2^21) (hf3: ∀j∈(aL s st).done,j.rsp.data.length<2^21):
 aB Tryz.prog iX [boR (cU c),boR (eI s),boP st] .nil 0 fun r _ _=>r.plain=true∧r=dB (slB c s st):=by
 refine BX rfl fun Q hQ=> ?_
 unfold lB
 obtain⟨v,hvd⟩: ∃v,v=aL s st:=⟨_,rfl⟩
 have hvd':s.dD.getD st default=v:=hvd.symm
 rw[←hvd] at hf1 hf2 hf3
 by_cases h0:(v.pipe.length:Int)≤2∧(v.done.length:Int)≤2∧0≤v.last∧v.last≤2
 case neg=>
  have hno: ¬Z0 c s st:=fun h=>h0 ⟨by have:=h.pl;rw[←hvd] at this;omega,by have:=h.dl;rw[←hvd] at this;omega,by have:=h.last;rw[←hvd] at this;omega⟩;repeat' first| (first|apply bn1|refine bpL (fun h=> ?_) fun h=> ?_|apply oR)<;>(simp only[go_sem,hvd'])|apply bn2 (by omega)|refine⟨by omega,?_⟩|fail
  all_goals first|exact hQ _ _ _ _ _ (.inr rfl) rfl ⟨rfl,congrArg dB (a6D hno).symm⟩| (exfalso;omega)
 obtain⟨hpl,hdl,hl1,hl2⟩:=h0
 have hld:=decide_eq_true (show 0≤v.last∧v.last≤2 from ⟨hl1,hl2⟩)
 repeat' first| (first|apply bn1|apply bpK (by omega)|apply oR)<;>(simp only[go_sem,hvd',hld])|refine⟨by omega,?_⟩|fail
 refine aM.abC fun bqO hG0=> ?_
 have c0:bqO 0=some ⟨3,1,[cU c]⟩:=by rw[hG0];rfl
 have c1:bqO 1=some ⟨5,1,[eI s]⟩:=by rw[hG0];rfl
 have c2:bqO 2=some ⟨1,1,[[cI st]]⟩:=by rw[hG0];rfl
 have bf1:bqO 9=some ⟨3,1,[gF v]⟩:=by rw[hG0];rfl
 have c28:bqO 28=some ⟨3,1,[([-1,-1,-1]:List Int).map cI]⟩:=by rw[hG0];rfl
 clear hG0
 have hp3:=(hC hb).1
 have hlat4:=hb.2.1
 have hlat:=S0 hb hst
 have hV: ∀k,k<v.done.length→(cS (aL s st))[k]?=some (key (v.done.getD k default)):=fun k hk=>by rw[←hvd];unfold cS;rw[brO (by simpa using hk)];simp[List.getD,hk]
 have hV2: ∀k,k<v.pipe.length→(cS (aL s st))[v.done.length+k]?=some ((v.pipe.getD k default).who,(v.pipe.getD k default).n):=fun k hk=>by rw[←hvd];unfold cS;rw[brX (by simp)];simp[List.getD,hk]
 have hVl:(cS (aL s st)).length=v.done.length+v.pipe.length:=by rw[←hvd];simp[cS]
 have hclo: ∀{H:aA} {F:Nat→Prop} {nh:Nat},36≤nh→Cv1 H F id nh (.clo cO [.ptr 3 28 0 0,.ptr 5 1 0 0,.ptr 1 2 0 0]) (.clo cO [.ptr 3 28 0 0,.ptr 5 1 0 0,.ptr 1 2 0 0]):=fun h=>akM fun x hx=>by
  simp only[t3,bq7,or_false] at hx;rcases hx with rfl|rfl|rfl;·exact⟨_,_,_,_,by omega,rfl⟩
  ·exact⟨_,_,_,_,by omega,rfl⟩
  ·exact⟨_,_,_,_,by omega,rfl⟩
 have hppl:=hp.pl
 refine aM.gP (β:=Nat×List Int) (fun u=>en [(40,boP u.1),(39,boP v.done.length),(38,dS (v.done.map aS)),(9,.one (.c (.clo cO [.ptr 3 28 0 0,.ptr 5 1 0 0,.ptr 1 2 0 0]))),(7,.one (.c (.ptr 3 9 0 0))),(5,.one (.c (.ptr 1 2 0 0))),(3,.one (.c (.ptr 3 0 0 0)))])
  (fun u H1 _=>u.1≤v.done.length∧bcU s st (cS (aL s st)) u.1 u.2∧(∀i,i<u.1→as5 c (v.done.getD i default))∧H1 28=some ⟨3,1,[u.2.map cI]⟩∧ ∀id,id<36→id≠28→H1 id=bqO id) (fun u=>v.done.length-u.1) (0,[-1,-1,-1])
  ⟨noF,_,by(repeat' first|exact bo2|refine xqI rfl rfl ?_|refine xqP (by omega) rfl rfl ?_| (with_reducible apply bo3)| ((with_reducible apply bo1);apply bo7)|fail);all_goals exact hclo (by omega),aK,by dsimp only;omega,bcU.nil,fun i hi=>by dsimp only at hi;omega,c28,fun _ _ _=>rfl⟩ ?_
 rintro⟨k,u⟩ H1 nx1 hnx ⟨hk,hI,hR,g28,hfr⟩ bpQ hKL
 dsimp only at hk hI hR g28
 have bqC:H1 0=some ⟨3,1,[cU c]⟩:=by rw[hfr _ (by omega) (by omega)];exact c0
 have g1:H1 1=some ⟨5,1,[eI s]⟩:=by rw[hfr _ (by omega) (by omega)];exact c1
 have g2:H1 2=some ⟨1,1,[[cI st]]⟩:=by rw[hfr _ (by omega) (by omega)];exact c2
 have bp5:H1 9=some ⟨3,1,[gF v]⟩:=by rw[hfr _ (by omega) (by omega)];exact bf1
 have hA:bQ nx1 [0,1,2,9,28]:=AM.apart (by simp) (by simp;omega)
 simp only[bQ,eZ] at hA
 have hul:=hI.ul
 by_cases hlt:k<v.done.length
 ·obtain⟨d,hdd⟩: ∃d,d=v.done.getD k default:=⟨_,rfl⟩
  have hdm:d∈(aL s st).done:=by rw[hdd,←hvd];exact cC hlt
  have hx:=hV k hlt;rw[←hdd] at hx;have hrl:d.rsp.data.length<2^40:=by have h1:=hf3 d (by rw[hvd];exact hdm);omega
  by_cases hF:bdP s st u (key d)
  case neg=>
   repeat' first| (first|apply bn1| (refine a04 (c:=c) (w:=d.who) (n:=d.n) hp hul hF (by omega) (by simp) (by simp only[aA.set,hA,if_false];exact g28) (by simp only[aA.set,hA,if_false];exact g1) (by simp only[aA.set,hA,if_false];exact g2) (fun H' nx' hx'=> ?_)))<;>(simp only[go_sem,t1,bqT,hdd.symm,bqC,g1,g2,g28,hA])|apply bn2 (by omega)|refine⟨by omega,?_⟩|fail
   repeat' first|apply bn1<;>(simp only[go_sem])|fail
   all_goals exact hQ _ _ _ _ _ (.inr rfl) rfl ⟨rfl,congrArg dB (a6D fun h=>hF (hI.bad hp h hx)).symm⟩
  have hI2:=hI.next hx hF;have hask:=hF.asks hp;obtain⟨hw0,hn,ha1,ha2,ha3⟩:=hF;dsimp only[key] at hw0 hn ha1 ha2 ha3 hI2 hask;have hw1:d.who=(d.who.toNat:Int):=by omega
  have hw2:d.who.toNat<3:=by omega
  have hol:(aF s d.who.toNat).out.length<2^40:=by have:=(hp.port _ hw2).ol;omega
  by_cases hr1:pA d.rsp
  case neg=>
   have hdr:=decide_eq_false hr1;repeat' first| (first|apply bn1| (refine kA (w:=d.who) (n:=d.n) hw1 hul hw2 hn hppl hol ha1 ha2 ha3 (by omega) (by simp) (by simp only[aA.set,hA,if_false];exact g28) (by simp only[aA.set,hA,if_false];exact g1) (by simp only[aA.set,hA,if_false];exact g2) (fun H' nx' hx' f28 ffr=> ?_)))<;>(simp only[go_sem,t1,bqT,hdd.symm,bqC,g1,g2,g28,hA])|apply bn2 (by omega)|refine⟨by omega,?_⟩|fail
   have boU:H' 0=some ⟨3,1,[cU c]⟩:=(by rw[ffr _ (by omega) (by omega)];simp only[aA.set,hA,if_false];exact bqC);have ej:H' (nx1+3)=some ⟨5,1,[aS d]⟩:=(by rw[ffr _ (by omega) (by omega)];exact aA.bH);have hA':bQ nx' [0,1,2,9,28,nx1+3]:=AM.apart (by simp;omega) (by simp;omega);simp only[bQ,eZ] at hA';simp only[go_sem,t1,bqT,boU,ej,hdr,hA'];repeat' first| (first|apply bn1|apply I8 hrl)<;>(simp only[go_sem,t1,bqT,boU,ej,hdr,hA'])|fail
   all_goals exact hQ _ _ _ _ _ (.inr rfl) rfl ⟨rfl,congrArg dB (a6D fun h=>hr1 (h.rsp d hdm).1).symm⟩
  have hdr:=decide_eq_true hr1;by_cases hr2:d.rsp.id=(bT c d.who d.n).id
  case neg=>
   have er2:(d.rsp.id=(bT c d.who d.n).id)=False:=eq_false hr2;repeat' first| (first|apply bn1| (refine kA (w:=d.who) (n:=d.n) hw1 hul hw2 hn hppl hol ha1 ha2 ha3 (by omega) (by simp) (by simp only[aA.set,hA,if_false];exact g28) (by simp only[aA.set,hA,if_false];exact g1) (by simp only[aA.set,hA,if_false];exact g2) (fun H' nx' hx' f28 ffr=> ?_)))<;>(simp only[go_sem,t1,bqT,hdd.symm,bqC,g1,g2,g28,hA])|apply bn2 (by omega)|refine⟨by omega,?_⟩|fail
   have boU:H' 0=some ⟨3,1,[cU c]⟩:=(by rw[ffr _ (by omega) (by omega)];simp only[aA.set,hA,if_false];exact bqC);have ej:H' (nx1+3)=some ⟨5,1,[aS d]⟩:=(by rw[ffr _ (by omega) (by omega)];exact aA.bH);have hA':bQ nx' [0,1,2,9,28,nx1+3]:=AM.apart (by simp;omega) (by simp;omega);simp only[bQ,eZ] at hA';simp only[go_sem,t1,bqT,boU,ej,hdr,hA'];repeat' first| (first|apply bn1|apply I8 hrl|apply iJ hp3 hask)<;>(simp only[go_sem,t1,bqT,boU,ej,hdr,er2,hA'])|fail
   all_goals exact hQ _ _ _ _ _ (.inr rfl) rfl ⟨rfl,congrArg dB (a6D fun h=>hr2 (h.rsp d hdm).2).symm⟩
  repeat' first| (first|apply bn1| (refine kA (w:=d.who) (n:=d.n) hw1 hul hw2 hn hppl hol ha1 ha2 ha3 (by omega) (by simp) (by simp only[aA.set,hA,if_false];exact g28) (by simp only[aA.set,hA,if_false];exact g1) (by simp only[aA.set,hA,if_false];exact g2) (fun H' nx' hx' f28 ffr=> ?_)))<;>(simp only[go_sem,t1,bqT,hdd.symm,bqC,g1,g2,g28,hA])|apply bn2 (by omega)|refine⟨by omega,?_⟩|fail
  have boU:H' 0=some ⟨3,1,[cU c]⟩:=by rw[ffr _ (by omega) (by omega)];simp only[aA.set,hA,if_false];exact bqC
  have ej:H' (nx1+3)=some ⟨5,1,[aS d]⟩:=by rw[ffr _ (by omega) (by omega)];exact aA.bH
  have hfr2: ∀id,id<36→id≠28→H' id=bqO id:=fun id boU e1=>by rw[ffr id (by omega) e1,aA.aC (by omega)];exact hfr id boU e1
  have hA':bQ nx' [0,1,2,9,28,nx1+3]:=AM.apart (by simp;omega) (by simp;omega);simp only[bQ,eZ] at hA';simp only[go_sem,t1,bqT,boU,ej,hdr,hA'];repeat' first| (first|apply bn1|apply I8 hrl|apply iJ hp3 hask)<;>(simp only[go_sem,t1,bqT,boU,ej,hdr,hr2,hA'];try simp (disch:=omega) only[Iw])|fail
  exact hKL _ _ _ (k+1,u.set d.who.toNat d.n) noF _ (by omega) (by dsimp only;omega) (by(repeat' first|exact bo2|refine xqI rfl rfl ?_|refine xqP (by omega) rfl rfl ?_| (with_reducible apply bo3)| ((with_reducible apply bo1);apply bo7)|fail);all_goals exact hclo (by omega)) aK ⟨by dsimp only;omega,hI2,iS hR (by rw[←hdd];exact⟨hr1,hr2⟩),f28,hfr2⟩
 ·repeat' first|apply bn1<;>(simp only[go_sem,bp5])|apply bn3 (by omega)|fail
  have hk2:k=v.done.length:=by omega
  rw[hk2] at hI hR;clear hlt hk
  refine aM.gP (β:=Nat×List Int) (fun u=>en [(73,boP u.1),(72,boP v.pipe.length),(71,dS (v.pipe.map eCJ)),(9,.one (.c (.clo cO [.ptr 3 28 0 0,.ptr 5 1 0 0,.ptr 1 2 0 0]))),(5,.one (.c (.ptr 1 2 0 0))),(3,.one (.c (.ptr 3 0 0 0)))])
   (fun u H1 _=>u.1≤v.pipe.length∧bcU s st (cS (aL s st)) (v.done.length+u.1) u.2∧(∀i,i<u.1→beA c st i (v.pipe.getD i default))∧H1 28=some ⟨3,1,[u.2.map cI]⟩∧ ∀id,id<36→id≠28→H1 id=bqO id) (fun u=>v.pipe.length-u.1) (0,u)
   ⟨noF,_,by(repeat' first|exact bo2|refine xqI rfl rfl ?_|refine xqP (by omega) rfl rfl ?_| (with_reducible apply bo3)| ((with_reducible apply bo1);apply bo7)|fail);all_goals exact hclo (by omega),aK,by dsimp only;omega,hI,fun i hi=>by dsimp only at hi;omega,g28,hfr⟩ ?_
  clear hI g28 hfr bqC g1 g2 bp5 hA hul;rintro⟨k,u⟩ H2 nx2 hnx2 ⟨hk,hI,hL,g28,hfr⟩ bqG hKM;dsimp only at hk hI hL g28;have bqC:H2 0=some ⟨3,1,[cU c]⟩:=by rw[hfr _ (by omega) (by omega)];exact c0
  have g1:H2 1=some ⟨5,1,[eI s]⟩:=by rw[hfr _ (by omega) (by omega)];exact c1
  have g2:H2 2=some ⟨1,1,[[cI st]]⟩:=by rw[hfr _ (by omega) (by omega)];exact c2
  have hA:bQ nx2 [0,1,2,9,28]:=AM.apart (by simp) (by simp;omega);simp only[bQ,eZ] at hA;have hul:=hI.ul;by_cases hlt:k<v.pipe.length
  ·obtain⟨d,hdd⟩: ∃d,d=v.pipe.getD k default:=⟨_,rfl⟩
   have hx:=hV2 k hlt;rw[←hdd] at hx;by_cases hF:bdP s st u (d.who,d.n)
   case neg=>
    repeat' first| (first|apply bn1| (refine a04 (c:=c) (w:=d.who) (n:=d.n) hp hul hF (by omega) (by simp) (by simp only[aA.set,hA,if_false];exact g28) (by simp only[aA.set,hA,if_false];exact g1) (by simp only[aA.set,hA,if_false];exact g2) (fun H' nx' hx'=> ?_)))<;>(simp only[go_sem,t1,bqT,hdd.symm,bqC,g1,g2,g28,hA])|apply bn2 (by omega)|refine⟨by omega,?_⟩|fail
    repeat' first|apply bn1<;>(simp only[go_sem])|fail
    all_goals exact hQ _ _ _ _ _ (.inr rfl) rfl ⟨rfl,congrArg dB (a6D fun h=>hF (hI.bad hp h hx)).symm⟩
   have hI2:=hI.next hx hF;obtain⟨hw0,hn,ha1,ha2,ha3⟩:=hF;dsimp only at hw0 hn ha1 ha2 ha3 hI2;have hw1:d.who=(d.who.toNat:Int):=(by omega);have hw2:d.who.toNat<3:=(by omega);have hol:(aF s d.who.toNat).out.length<2^40:=by have:=(hp.port _ hw2).ol;omega
   have hbad: ¬beA c st k d→¬Z0 c s st:=fun hn h=>hn (by
    have:=h.left k (by rw[←hvd];exact hlt)
    rw[←hvd,←hdd] at this
    exact this)
   rcases CR k with h0|h0
   ·have hz3:((k:Int)=0)=True:=eq_true (by omega);have hz4:(0<(k:Int))=False:=eq_false (by omega);by_cases hl:0≤d.left∧d.left≤c.lat.getD st default
    ·have hdl:=decide_eq_true hl;repeat' first| (first|apply bn1| (refine kA (w:=d.who) (n:=d.n) hw1 hul hw2 hn hppl hol ha1 ha2 ha3 (by omega) (by simp) (by simp only[aA.set,hA,if_false];exact g28) (by simp only[aA.set,hA,if_false];exact g1) (by simp only[aA.set,hA,if_false];exact g2) (fun H' nx' hx' f28 ffr=> ?_)))<;>(simp only[go_sem,t1,bqT,hdd.symm,bqC,g1,g2,g28,hz3,hz4,hA])|apply bn2 (by omega)|refine⟨by omega,?_⟩|fail
     have hfr2: ∀id,id<36→id≠28→H' id=bqO id:=fun id boU e1=>by rw[ffr id (by omega) e1,aA.aC (by omega)];exact hfr id boU e1
     have boU:H' 0=some ⟨3,1,[cU c]⟩:=(hfr2 _ (by omega) (by omega)).trans c0;have e2:H' 2=some ⟨1,1,[[cI st]]⟩:=(hfr2 _ (by omega) (by omega)).trans c2;have ej:H' (nx2+4)=some ⟨3,1,[eCJ d]⟩:=(by rw[ffr _ (by omega) (by omega)];exact aA.bH);simp only[go_sem,t1,bqT,boU,e2,ej,hdl,hz3,hz4,hA];repeat' first| (first|apply bn1|apply fE)<;>(simp only[go_sem,t1,bqT,boU,e2,ej,hdl,hz3,hz4,hA];try simp (disch:=omega) only[Iw])|refine⟨by omega,?_⟩|fail
     all_goals exact hKM _ _ _ (k+1,u.set d.who.toNat d.n) noF _ (by omega) (by dsimp only;omega) (by(repeat' first|exact bo2|refine xqI rfl rfl ?_|refine xqP (by omega) rfl rfl ?_| (with_reducible apply bo3)| ((with_reducible apply bo1);apply bo7)|fail);all_goals exact hclo (by omega)) aK ⟨by dsimp only;omega,hI2,iS hL (by rw[←hdd];exact⟨hl,fun h=>by omega⟩),f28,hfr2⟩
    ·have hdl:=decide_eq_false hl;repeat' first| (first|apply bn1| (refine kA (w:=d.who) (n:=d.n) hw1 hul hw2 hn hppl hol ha1 ha2 ha3 (by omega) (by simp) (by simp only[aA.set,hA,if_false];exact g28) (by simp only[aA.set,hA,if_false];exact g1) (by simp only[aA.set,hA,if_false];exact g2) (fun H' nx' hx' f28 ffr=> ?_)))<;>(simp only[go_sem,t1,bqT,hdd.symm,bqC,g1,g2,g28,hz3,hz4,hA])|apply bn2 (by omega)|refine⟨by omega,?_⟩|fail
     have hfr2: ∀id,id<36→id≠28→H' id=bqO id:=fun id boU e1=>by rw[ffr id (by omega) e1,aA.aC (by omega)];exact hfr id boU e1
     have boU:H' 0=some ⟨3,1,[cU c]⟩:=(hfr2 _ (by omega) (by omega)).trans c0;have e2:H' 2=some ⟨1,1,[[cI st]]⟩:=(hfr2 _ (by omega) (by omega)).trans c2;have ej:H' (nx2+4)=some ⟨3,1,[eCJ d]⟩:=(by rw[ffr _ (by omega) (by omega)];exact aA.bH);simp only[go_sem,t1,bqT,boU,e2,ej,hdl,hz3,hz4,hA];repeat' first| (first|apply bn1|apply fE)<;>(simp only[go_sem,t1,bqT,boU,e2,ej,hdl,hz3,hz4,hA])|refine⟨by omega,?_⟩|fail
     all_goals exact hQ _ _ _ _ _ (.inr rfl) rfl ⟨rfl,congrArg dB (a6D (hbad fun h=>hl h.1)).symm⟩
   ·have hz3:((k:Int)=0)=False:=eq_false (by omega);have hz4:(0<(k:Int))=True:=eq_true (by omega);by_cases hl:d.left=c.lat.getD st default
    ·have hlk:(d.left=c.lat.getD st default)=True:=eq_true hl;repeat' first| (first|apply bn1| (refine kA (w:=d.who) (n:=d.n) hw1 hul hw2 hn hppl hol ha1 ha2 ha3 (by omega) (by simp) (by simp only[aA.set,hA,if_false];exact g28) (by simp only[aA.set,hA,if_false];exact g1) (by simp only[aA.set,hA,if_false];exact g2) (fun H' nx' hx' f28 ffr=> ?_)))<;>(simp only[go_sem,t1,bqT,hdd.symm,bqC,g1,g2,g28,hz3,hz4,hA])|apply bn2 (by omega)|refine⟨by omega,?_⟩|fail
     have hfr2: ∀id,id<36→id≠28→H' id=bqO id:=fun id boU e1=>by rw[ffr id (by omega) e1,aA.aC (by omega)];exact hfr id boU e1
     have boU:H' 0=some ⟨3,1,[cU c]⟩:=(hfr2 _ (by omega) (by omega)).trans c0;have e2:H' 2=some ⟨1,1,[[cI st]]⟩:=(hfr2 _ (by omega) (by omega)).trans c2;have ej:H' (nx2+4)=some ⟨3,1,[eCJ d]⟩:=(by rw[ffr _ (by omega) (by omega)];exact aA.bH);simp only[go_sem,t1,bqT,boU,e2,ej,hz3,hz4,hA];repeat' first|apply bn1<;>(simp only[go_sem,t1,bqT,boU,e2,ej,hz3,hz4,hlk,hA];try simp (disch:=omega) only[Iw])|refine⟨by omega,?_⟩|fail
     all_goals exact hKM _ _ _ (k+1,u.set d.who.toNat d.n) noF _ (by omega) (by dsimp only;omega) (by(repeat' first|exact bo2|refine xqI rfl rfl ?_|refine xqP (by omega) rfl rfl ?_| (with_reducible apply bo3)| ((with_reducible apply bo1);apply bo7)|fail);all_goals exact hclo (by omega)) aK ⟨by dsimp only;omega,hI2,iS hL (by rw[←hdd];exact⟨by omega,fun _=>hl⟩),f28,hfr2⟩
    ·have hlk:(d.left=c.lat.getD st default)=False:=eq_false hl;repeat' first| (first|apply bn1| (refine kA (w:=d.who) (n:=d.n) hw1 hul hw2 hn hppl hol ha1 ha2 ha3 (by omega) (by simp) (by simp only[aA.set,hA,if_false];exact g28) (by simp only[aA.set,hA,if_false];exact g1) (by simp only[aA.set,hA,if_false];exact g2) (fun H' nx' hx' f28 ffr=> ?_)))<;>(simp only[go_sem,t1,bqT,hdd.symm,bqC,g1,g2,g28,hz3,hz4,hA])|apply bn2 (by omega)|refine⟨by omega,?_⟩|fail
     have hfr2: ∀id,id<36→id≠28→H' id=bqO id:=fun id boU e1=>by rw[ffr id (by omega) e1,aA.aC (by omega)];exact hfr id boU e1
     have boU:H' 0=some ⟨3,1,[cU c]⟩:=(hfr2 _ (by omega) (by omega)).trans c0;have e2:H' 2=some ⟨1,1,[[cI st]]⟩:=(hfr2 _ (by omega) (by omega)).trans c2;have ej:H' (nx2+4)=some ⟨3,1,[eCJ d]⟩:=(by rw[ffr _ (by omega) (by omega)];exact aA.bH);simp only[go_sem,t1,bqT,boU,e2,ej,hz3,hz4,hA];repeat' first|apply bn1<;>(simp only[go_sem,t1,bqT,boU,e2,ej,hz3,hz4,hlk,hA])|refine⟨by omega,?_⟩|fail
     all_goals exact hQ _ _ _ _ _ (.inr rfl) rfl ⟨rfl,congrArg dB (a6D (hbad fun h=>hl (h.2 h0))).symm⟩
  ·repeat' first|apply bn1<;>(simp only[go_sem])|apply bn3 (by omega)|fail
   have hk3:k=v.pipe.length:=(by omega);rw[hk3] at hI hL;rw[←hVl] at hI;obtain⟨q1,q2⟩:=hI.end;refine hQ _ _ _ _ _ (.inr rfl) rfl ⟨rfl,congrArg dB (beR ⟨?_,?_,?_,q1,q2,?_,?_⟩).symm⟩;·rw[←hvd];omega
   ·rw[←hvd];omega
   ·rw[←hvd];exact⟨hl1,hl2⟩
   ·rw[←hvd];exact aKJ hR
   ·rw[←hvd];exact hL
theorem a2C {c:Cfg} {s:CSt} {st:Nat} (hb:aQ c) (hp:a19 c s) (hsl:s.dD.length=4) (hst:st<4) (hf1:(aL s st).pipe.length<2^21) (hf2:(aL s st).done.length<2^21) (hf3: ∀j∈(aL s st).done,j.rsp.data.length<2^21) (h:K (dB (slB c s st)) H nx):aB Tryz.prog iX [boR (cU c),boR (eI s),boP st] H nx K:=(a5G c s st hb hp hsl hst hf1 hf2 hf3).pure rfl (aI ⟨aE rfl,aE rfl,aE rfl,trivial⟩) fun r hr=>hr▸h
end
end Go.Proofs.YtmccpdapaccnoaaGreat
