/- Rules and contracts. -/
import Derived.Test.YtlncecohbakleaaGreatPM7
import Derived.Test.YtlncecohbakleaaGreatPM8
set_option linter.unusedVariables false
set_option linter.unusedSimpArgs false
set_option maxRecDepth 100000
set_option maxHeartbeats 8000000
namespace Go.AM
variable{S:List Job}
theorem Ml{R:List Job}{x:Job}{j:Nat}(c:0<j)(d:j<=S.length):((WK S x j++R).set j (S.getD (j-1) default)).set (j-1) x=WK S x (j-1)++R:=by
 have a:S.take j=S.take (j-1)++[S.getD (j-1) default]:=by have:=gP (l:=S) (k:=j-1) (by omega);rwa [show j-1+1=j by omega] at this
 have b:S.drop (j-1)=S.getD (j-1) default::S.drop j:=by have:=aeC (l:=S) (i:=j-1) (by omega);rw[this,show j-1+1=j by omega];simp[List.getD,show j-1<S.length by omega]
 have hl:(S.take (j-1)).length=j-1:=by simp;omega
 unfold WK;rw[a,b];generalize S.take (j-1)=A at*;generalize S.drop j=B;generalize S.getD (j-1) default=y;simp only[adH,List.cons_append,List.nil_append,List.singleton_append];obtain rfl:j=A.length+1:=by omega
 rw[List.set_append_right _ _ (by omega)];simp
theorem Xn{R:List Job}{x:Job}{j:Nat}(a:j<=S.length):(WK S x j++R).getD j default=x:=by
 have hl:(S.take j).length=j:=by simp;omega
 unfold WK;simp[List.getD,hl,adH,afL]
theorem Hl{R:List Job}{x:Job}{j:Nat}(a:0<j)(b:j<=S.length):(WK S x j++R).getD (j-1) default=S.getD (j-1) default:=by unfold WK;simp only[List.getD,adH];rw[ae9 (by simp;omega),List.getElem?_take_of_lt (by omega)]
def KS(l:List Job):Prop:=l.Pairwise fun a b=>eV b a=false
theorem xj{a b:Job}:eV a b=false↔¬(a.who<b.who\/(a.who=b.who/\a.n<b.n)):=by rw[<-Bool.not_eq_true,oM]
theorem yv{x:Job}(hs:KS S):KS (iF S x):=by
 have k: ∀a∈S.take (S.findIdx (eV x)),eV x a=false:=fun a e=>by obtain⟨i,hi,rfl⟩:=adS.1 e;rw[afI];have:=afV (p:=eV x) (xs:=S) (i:=i) (by simp at hi;omega);simpa using this
 have hB: ∀b∈S.drop (S.findIdx (eV x)),eV x b=true:=fun b c=>by
  obtain⟨i,hi,rfl⟩:=adS.1 c;rw[List.getElem_drop];simp only[adL] at hi;have f:S.findIdx (eV x)<S.length:=by omega
  have j:eV x S[S.findIdx (eV x)]=true:=afW (w:=f);by_cases h:i=0;·subst h;exact j
  ·have g:=adZ.1 hs (S.findIdx (eV x)) (S.findIdx (eV x)+i) (by omega) (by omega) (by omega);rw[xj] at g;rw[oM] at j ⊢;omega
 have d:(S.take (S.findIdx (eV x))++S.drop (S.findIdx (eV x))).Pairwise fun a b=>eV b a=false:=by rw[aeL];exact hs
 unfold iF KS;rw[ae3] at d ⊢;obtain⟨g,l,m⟩:=d;refine⟨g,ad9.2 ⟨fun b c=> ?_,l⟩,fun a e b c=> ?_⟩;·have:=hB b c;rw[oM] at this;rw[xj];omega
 ·rcases adA.1 c with rfl|c;·exact k a e
  ·exact m a e b c
theorem oa(l:List Job):KS (dG l):=by
 have h: ∀(l acc:List Job),KS acc->KS (l.foldl iF acc):=by
  intro l
  induction l with
  |nil=>intro acc h;exact h
  |cons x l a=>intro acc h;exact a _ (yv h)
 exact h l [] List.Pairwise.nil
theorem Ln{x:Job}{j:Nat}(h:j<=S.length)(hs:KS S)(c:j=0\/eV x (S.getD (j-1) default)=false)(hB: ∀i,j<=i->i<S.length->eV x (S.getD i default)=true):WK S x j=iF S x:=by
 have hl:(S.take j).length=j:=by simp;omega
 conv=>rhs;rw[<-aeL j S]
 refine(El (fun a d=> ?_) fun b e=> ?_).symm
 ·rcases c with rfl|c;·simp at d
  ·obtain⟨i,hi,rfl⟩:=adS.1 d;rw[afI];by_cases he:i=j-1;·subst he;have:S.getD (j-1) default=S[j-1]:=(by simp[List.getD,show j-1<S.length by omega]);rw[this] at c;exact c
   ·have f:=adZ.1 hs i (j-1) (by omega) (by omega) (by omega);have g:S.getD (j-1) default=S[j-1]:=(by simp[List.getD,show j-1<S.length by omega]);rw[g] at c;rw[xj] at c f ⊢;omega
 ·obtain⟨i,hi,rfl⟩:=adS.1 e;rw[List.getElem_drop];have:=hB (j+i) (by omega) (by simp at hi;omega);simpa [List.getD,show j+i<S.length by simp at hi;omega] using this
end Go.AM
namespace Go.Proofs.YtlncecohbakleaaGreat
open Go Go.AM
attribute [local irreducible] aK wv aC vd wvH
section
variable{H:aA}{nx:Nat}{K:ag2}
theorem Dn{old:Int}{new:Int}{lanes:Int}(a:0<=old/\old<=65535)(b:0<=new/\new<=65535)(e:0<=lanes/\lanes<=3)(h:K (dI (wN old new lanes)) H nx):ag1 S1 [dI old,dI new,dI lanes] H nx K:=by
 refine aC.pure (args0:=[dI old,dI new,dI lanes]) (R:=fun d=>d=dI (wN old new lanes)) ?_ rfl (aM ⟨aE rfl,aE rfl,aE rfl,trivial⟩) (fun r hr=>hr▸h);clear h;refine aR.mk Tryz.func301 (by kernel_rfl) zz rfl fun Q c=> ?_;unfold G6;have hc:lanes=0\/lanes=1\/lanes=2\/lanes=3:=by omega
 rcases hc with rfl|rfl|rfl|rfl;all_goals repeat' first|apply vI<;>(simp only[go_sem])|fail
 ·exact aQ c (dI (Dg old new (zd 0))) rfl rfl (nK (by rw[Zj];exact YT a b (by omega)))
 ·exact aQ c (dI (Dg old new (zd 1))) rfl rfl (nK (by rw[Zz];exact YT a b (by omega)))
 ·exact aQ c (dI (Dg old new (zd 2))) rfl rfl (nK (by rw[aaD];exact YT a b (by omega)))
 ·exact aQ c (dI (Dg old new (zd 3))) rfl rfl (nK (by rw[aaH];exact YT a b (by omega)))
theorem aaJ{w all:List Int}:(List.range all.length).map (fun k=>w.getD (all.getD k default).toNat default)=all.map fun a=>w.getD a.toNat default:=by
 apply af0;·simp
 ·intro i c b;simp only[adE] at b;simp[List.getD,b]
end
attribute [go_sem] adM
section
variable{H:aA}{nx:Nat}{K:ag2}
theorem sh{old:Int}{new:Int}{lanes:Int}(a:0<=old/\old<=65535)(b:0<=new/\new<=65535)(c:0<=lanes/\lanes<=3)(h:K (dI (wN old new lanes)) H nx):ag1 IC [dI old,dI new,dI lanes] H nx K:=by
 refine aC.pure (args0:=[dI old,dI new,dI lanes]) (R:=fun d=>d=dI (wN old new lanes)) ?_ rfl (aM ⟨aE rfl,aE rfl,aE rfl,trivial⟩) (fun r hr=>hr▸h);clear h;refine aR.mk Tryz.func329 (by kernel_rfl) jc rfl fun Q e=> ?_;unfold x8;repeat' first| (first|apply vI|apply Y5 (by omega)|apply bH)<;>(simp only[go_sem,aeJ a.1,agO a.1,aeJ b.1,agO b.1,aeJ c.1,agO c.1];try simp (disch:=omega) only[Iw])|apply vF (by omega)|refine iR (fun h=> ?_) fun h=> ?_|fail
 all_goals first|with_reducible refine aQ e _ rfl rfl ?_|skip
 all_goals exact nK (by unfold wN;simp[*])
theorem ym(w all:List Int)(wc wm:Nat)(g:w.length=64)(h:64<=wc)(i:All all 0 63)(j:all.length<2^21):ag1 wA [dA [.osl 1 0 0 64 wc],dS (all.map aF)] (hp [(0,⟨1,wm,w.map aF⟩)]) 1
 fun r H' n'=>n'=1/\ ∃o',H'=hp [(0,o')]/\kC o'/\o'=⟨1,wm,w.map aF⟩/\r=dS ((all.map fun a=>w.getD a.toNat default).map aF):=by
 refine aR.mk Tryz.func289 (by kernel_rfl) lj rfl fun Q m=> ?_
 unfold AO
 repeat' first|apply vI<;>(simp only[go_sem])|fail
 refine aK.zE 2 (β:=Nat×Nat) (fun b u=>en [(6,dI u.1),(5,dO 1 (b+1) u.1 u.2),(2,dP 1 b),(1,dS (all.map aF))])
  (fun b u=>hp [(0,⟨1,wm,w.map aF⟩),(b,⟨1,1,[[.osl 1 0 0 64 wc]]⟩),(b+1,⟨1,u.2,((all.take u.1).map fun a=>w.getD a.toNat default).map aF⟩)]) (fun u=>u.1<=all.length/\u.1<=u.2) (fun u=>all.length-u.1) (0,0)
  (by(refine eD [1,3,0] (by omega) (by repeat' first|exact C1|refine xqI rfl rfl ?_|refine xqP (by omega) rfl rfl ?_|refine xqO (by omega) rfl rfl (by rfl) ?_|fail) ⟨⟨by simp,by simp[sgL],_,rfl,aY (aG aP _) rfl rfl⟩,⟨by simp,by simp[sgL],_,rfl,aW (by repeat' first|exact C1| (with_reducible first|exact C3|apply C4)| ((with_reducible apply C0);exact CQ (by omega) rfl rfl (by rfl) rfl)|fail)⟩,⟨by simp,by simp[sgL],_,rfl,aY (aG aP _) rfl rfl⟩,trivial⟩ (by simp[sgL]))) ⟨by omega,by omega⟩ ?_
 rintro⟨k,cap⟩ ⟨n,hc⟩ p d
 dsimp only at n hc
 by_cases c:k<all.length
 ·have q:=tK i c;repeat' first|apply vI<;>(simp only[go_sem];try simp (disch:=omega) only[Iw])|apply vT (by omega)| (with_reducible first|refine fun(cap:Nat) (f:_<=cap)=> ?_|refine fun(o:_<=cap)=> ?_)|refine⟨by omega,?_⟩| (refine⟨by(rw[adP];omega),?_⟩)|fail
  refine d _ _ _ (k+1,cap) (by omega) (by(refine eD [6,22,0] (by omega) (by repeat' first|exact C1|refine xqI rfl rfl ?_|refine xqP (by omega) rfl rfl ?_|refine xqO (by omega) rfl rfl (by rfl) ?_|fail) ⟨⟨by simp,by simp[sgL],_,rfl,aY (aG aP _) rfl rfl⟩,⟨by simp,by simp[sgL],_,rfl,aW (by repeat' first|exact C1| (with_reducible first|exact C3|apply C4)| ((with_reducible apply C0);exact CQ (by omega) rfl rfl (by rfl) rfl)|fail)⟩,⟨by simp,by simp[sgL],_,rfl,aY (aG aP _) (by rw[gP c,adF,ac6 (l:=List.map _ (List.take k all)) (by simp;omega)];rfl) rfl⟩,trivial⟩ (by simp[sgL]))) ⟨by dsimp only;omega,by dsimp only;omega⟩ (by dsimp only;omega)
 ·repeat' first|apply vI<;>(simp only[go_sem])|apply vF (by omega)|fail
  have e:k=all.length:=by omega
  subst e;exact jZ m (dS _) _ _ rfl (oI (l:=(all.take all.length).map fun a=>w.getD a.toNat default) aP rfl (by simp) (by simp;omega) (by decide)) rfl (eC aP _) ⟨rfl,by rw[ad1]⟩
variable{w:List Int}
theorem xr{all:List Int}{wc wm i:Nat}(b:w.length=64)(c:64<=wc)(e:All all 0 63)(d:all.length<2^21)(hi:i<nx)(f:H i=some ⟨1,wm,w.map aF⟩)(h:K (dS ((all.map fun a=>w.getD a.toNat default).map aF)) (H.set i ⟨1,wm,w.map aF⟩) nx):
 ag1 wA [dA [.osl 1 i 0 64 wc],dS (all.map aF)] H nx K:=
 (ym w all wc wm b c e d).ML i rfl (eO ⟨aH (gG (by omega) rfl rfl rfl rfl) cG,aE rfl,trivial⟩) hi f (eC aP _) fun r o' ⟨g,j⟩=>by subst g;subst j;exact h
theorem vp(w all data lanes:List Int)(wc wm:Nat)(h:w.length=64)(hw:All w 0 65535)(i:64<=wc)(j:All all 0 63)(l:all.length<2^21)(g:All data 0 65535)(m:data.length=all.length)(hl:All lanes 0 3)(n:lanes.length=all.length):
 ag1 xJ [dA [.osl 1 0 0 64 wc],dS (all.map aF),dS (data.map aF),dS (lanes.map aF)] (hp [(0,⟨1,wm,w.map aF⟩)]) 1
 fun r H' n'=>n'=1/\ ∃o',H'=hp [(0,o')]/\kC o'/\o'=⟨1,wm,(SW w all data lanes all.length).map aF⟩/\r=dA [.osl 1 0 0 64 wc]:=by
 refine aR.mk Tryz.func290 (by kernel_rfl) qz rfl fun Q o=> ?_
 unfold AF
 repeat' first|apply vI<;>(simp only[go_sem])|fail
 refine aK.zE 2 (β:=Nat) (fun b k=>en [(9,dI k),(8,dP 1 (b+1)),(4,dP 1 b),(3,dS (lanes.map aF)),(2,dS (data.map aF)),(1,dS (all.map aF))])
  (fun b k=>hp [(0,⟨1,wm,(SW w all data lanes k).map aF⟩),(b,⟨1,1,[[.osl 1 0 0 64 wc]]⟩),(b+1,⟨1,1,[[.osl 0 0 0 0 0]]⟩)]) (fun k=>k<=all.length) (fun k=>all.length-k) 0
  (by(refine eD [1,2,0] (by omega) (by repeat' first|exact C1|refine xqI rfl rfl ?_|refine xqP (by omega) rfl rfl ?_|fail) ⟨⟨by simp,by simp[sgL],_,rfl,aY (aG aP _) rfl rfl⟩,⟨by simp,by simp[sgL],_,rfl,aW (by repeat' first|exact C1| (with_reducible first|exact C3|apply C4)| ((with_reducible apply C0);exact CQ (by omega) rfl rfl (by rfl) rfl)|fail)⟩,⟨by simp,by simp[sgL],_,rfl,aW (by repeat' first|exact C1| (with_reducible first|exact C3|apply C4)| ((with_reducible apply C0);exact CC)|fail)⟩,trivial⟩ (by simp[sgL]))) (by omega) ?_
 rintro k q s a
 have p:=ZZ (w:=w) (all:=all) (data:=data) (lanes:=lanes) k
 have c:=yw (all:=all) (lanes:=lanes) hw g k
 by_cases d:k<all.length
 ·have t:=tK j d;have e:(all.getD k default).toNat<(SW w all data lanes k).length:=by omega
  repeat' first| (first|apply vI|apply sh (tK c e) (tK g (by omega)) (tK hl (by omega)))<;>(simp only[go_sem];try simp (disch:=omega) only[Iw])|apply vT (by omega)|refine⟨by omega,?_⟩|fail
  exact a _ _ _ (k+1) (by omega) (by(refine eD [4,5,0] (by omega) (by repeat' first|exact C1|refine xqI rfl rfl ?_|refine xqP (by omega) rfl rfl ?_|fail) ⟨⟨by simp,by simp[sgL],_,rfl,aY (aG aP _) rfl rfl⟩,⟨by simp,by simp[sgL],_,rfl,aW (by repeat' first|exact C1| (with_reducible first|exact C3|apply C4)| ((with_reducible apply C0);exact CQ (by omega) rfl rfl (by rfl) rfl)|fail)⟩,⟨by simp,by simp[sgL],_,rfl,aW (by repeat' first|exact C1| (with_reducible first|exact C3|apply C4)| ((with_reducible apply C0);exact CC)|fail)⟩,trivial⟩ (by simp[sgL]))) (by omega) (by omega)
 ·repeat' first|apply vI<;>(simp only[go_sem])|apply vF (by omega)|fail
  have f:k=all.length:=by omega
  subst f;exact jZ o (dA [.osl 1 0 0 64 wc]) _ _ rfl (aH (gG (by omega) rfl rfl rfl rfl) cG) rfl (eC aP _) ⟨rfl,rfl⟩
theorem yh{all data lanes:List Int}{wc wm i:Nat}(a:w.length=64)(hw:All w 0 65535)(b:64<=wc)(f:All all 0 63)(c:all.length<2^21)(g:All data 0 65535)(d:data.length=all.length)(hl:All lanes 0 3)(e:lanes.length=all.length)
 (hi:i<nx) (j:H i=some ⟨1,wm,w.map aF⟩) (h:K (dA [.osl 1 i 0 64 wc]) (H.set i ⟨1,wm,(SW w all data lanes all.length).map aF⟩) nx):
 ag1 xJ [dA [.osl 1 i 0 64 wc],dS (all.map aF),dS (data.map aF),dS (lanes.map aF)] H nx K:=
 (vp w all data lanes wc wm a hw b f c g d hl e).ML i rfl (eO ⟨aH (gG (by omega) rfl rfl rfl rfl) cG,aE rfl,aE rfl,aE rfl,trivial⟩) hi j (eC aP _) fun r o' ⟨k,l⟩=>by subst k;subst l;exact h
theorem lr(w hs all:List Int)(wc wm hc hm:Nat)(q:hs.length=6)(s:6<=hc)(t:all.length<2^21)(y:All all 0 63):
 ag1 s6 [dA [.osl 1 0 0 64 wc,.osl 1 1 0 6 hc],dS (all.map aF)] (hp [(0,⟨1,wm,w.map aF⟩),(1,⟨1,hm,hs.map aF⟩)]) 2
 fun r H' n'=>n'=2/\ ∃a c,H'=hp [(0,a),(1,c)]/\kC a/\kC c/\a=⟨1,wm,w.map aF⟩/\c=⟨1,hm,(rX hs all).map aF⟩/\r=dA [.osl 1 0 0 64 wc,.osl 1 1 0 6 hc]:=by
 refine aR.mk Tryz.func291 (by kernel_rfl) fq rfl fun Q z=> ?_
 unfold xK
 repeat' first|apply vI<;>(simp only[go_sem])|fail
 refine aK.zE 2 (β:=Nat) (fun b k=>en [(5,dI k),(4,dP 2 (b+1)),(2,dP 2 b),(1,dS (all.map aF))])
  (fun b k=>hp [(0,⟨1,wm,w.map aF⟩),(1,⟨1,hm,(uY hs all k).map aF⟩),(b,⟨2,1,[[.osl 1 0 0 64 wc,.osl 1 1 0 6 hc]]⟩),(b+1,⟨2,1,[[.osl 0 0 0 0 0,.osl 0 0 0 0 0]]⟩)]) (fun k=>k<=6) (fun k=>6-k) 0
  (by(refine eD [2,3,0,1] (by omega) (by repeat' first|exact C1|refine xqI rfl rfl ?_|refine xqP (by omega) rfl rfl ?_|fail) ⟨⟨by simp,by simp[sgL],_,rfl,aY (aG aP _) rfl rfl⟩,⟨by simp,by simp[sgL],_,rfl,aY (aG aP _) (congrArg _ dp) rfl⟩,⟨by simp,by simp[sgL],_,rfl,aW (by repeat' first|exact C1| (with_reducible first|exact C3|apply C4)| ((with_reducible apply C0);exact CQ (by omega) rfl rfl (by rfl) rfl)|fail)⟩,⟨by simp,by simp[sgL],_,rfl,aW (by repeat' first|exact C1| (with_reducible first|exact C3|apply C4)| ((with_reducible apply C0);exact CC)|fail)⟩,trivial⟩ (by simp[sgL]))) (by omega) ?_
 rintro k F G g
 have A:=ug (all:=all) (show k<=hs.length by omega)
 by_cases B:k<6
 ·have C:=Bo (all:=all) (show k<hs.length by omega);have i:=jt (all:=all) (show k<hs.length by omega);repeat' first|apply vI<;>(simp only[go_sem])|apply vT (by omega)|fail
  refine aK.zE 0 (β:=Nat×Int) (fun b u=>en [(6,dI u.1),(5,dI k),(4,dP 2 6),(2,dP 2 5),(1,dS (all.map aF))])
   (fun b u=>hp [(0,⟨1,wm,w.map aF⟩),(1,⟨1,hm,((uY hs all k).set k u.2).map aF⟩),(5,⟨2,1,[[.osl 1 0 0 64 wc,.osl 1 1 0 6 hc]]⟩),(6,⟨2,1,[[.osl 0 0 0 0 0,.osl 0 0 0 0 0]]⟩)]) (fun u=>u.1<=all.length/\u.2=if hs.getD k default∈all.take u.1 then-1 else hs.getD k default) (fun u=>all.length-u.1) (0,hs.getD k default)
   (by(refine eD [0,1,5,6] (by omega) (by repeat' first|exact C1|refine xqI rfl rfl ?_|refine xqP (by omega) rfl rfl ?_|fail) ⟨⟨by simp,by simp[sgL],_,rfl,aY (aG aP _) rfl rfl⟩,⟨by simp,by simp[sgL],_,rfl,aY (aG aP _) (congrArg _ i) rfl⟩,⟨by simp,by simp[sgL],_,rfl,aW (by repeat' first|exact C1| (with_reducible first|exact C3|apply C4)| ((with_reducible apply C0);exact CQ (by omega) rfl rfl (by rfl) rfl)|fail)⟩,⟨by simp,by simp[sgL],_,rfl,aW (by repeat' first|exact C1| (with_reducible first|exact C3|apply C4)| ((with_reducible apply C0);exact CC)|fail)⟩,trivial⟩ (by simp[sgL]))) ⟨by omega,by simp⟩ ?_
  rintro⟨j,v⟩ ⟨D,o⟩ H d;dsimp only at D o;by_cases e:j<all.length
  ·have I:=tK y e;have E:((uY hs all k).set k v).getD k default=v:=(by rw[PI (by omega),if_pos rfl]);have f: ∀x,((uY hs all k).set k v).set k x=(uY hs all k).set k x:=fun x=>by rw[ad0]
   have p:=gP e;repeat' first|apply vI<;>(simp only[go_sem,E,f];try simp (disch:=omega) only[Iw])|apply vT (by omega)|refine iR (fun h=> ?_) fun h=> ?_|refine⟨by omega,?_⟩|fail
   ·exact d _ _ _ (j+1,-1) (by omega) (by(refine eD [0,1,5,6] (by omega) (by repeat' first|exact C1|refine xqI rfl rfl ?_|refine xqP (by omega) rfl rfl ?_|fail) ⟨⟨by simp,by simp[sgL],_,rfl,aY (aG aP _) rfl rfl⟩,⟨by simp,by simp[sgL],_,rfl,aY (aG aP _) rfl rfl⟩,⟨by simp,by simp[sgL],_,rfl,aW (by repeat' first|exact C1| (with_reducible first|exact C3|apply C4)| ((with_reducible apply C0);exact CQ (by omega) rfl rfl (by rfl) rfl)|fail)⟩,⟨by simp,by simp[sgL],_,rfl,aW (by repeat' first|exact C1| (with_reducible first|exact C3|apply C4)| ((with_reducible apply C0);exact CC)|fail)⟩,trivial⟩ (by simp[sgL]))) ⟨by dsimp only;omega,by dsimp only;rw[p];grind⟩ (by dsimp only;omega)
   ·exact d _ _ _ (j+1,v) (by omega) (by(refine eD [0,1,5,6] (by omega) (by repeat' first|exact C1|refine xqI rfl rfl ?_|refine xqP (by omega) rfl rfl ?_|fail) ⟨⟨by simp,by simp[sgL],_,rfl,aY (aG aP _) rfl rfl⟩,⟨by simp,by simp[sgL],_,rfl,aY (aG aP _) rfl rfl⟩,⟨by simp,by simp[sgL],_,rfl,aW (by repeat' first|exact C1| (with_reducible first|exact C3|apply C4)| ((with_reducible apply C0);exact CQ (by omega) rfl rfl (by rfl) rfl)|fail)⟩,⟨by simp,by simp[sgL],_,rfl,aW (by repeat' first|exact C1| (with_reducible first|exact C3|apply C4)| ((with_reducible apply C0);exact CC)|fail)⟩,trivial⟩ (by simp[sgL]))) ⟨by dsimp only;omega,by dsimp only;rw[p];grind⟩ (by dsimp only;omega)
  ·have l:j=all.length:=(by omega);subst l;have m:=sr (x:=v) (show k<hs.length by omega) (by rw[o,ad1]);repeat' first|apply vI<;>(simp only[go_sem];try simp (disch:=omega) only[Iw])|apply vF (by omega)|fail
   exact g _ _ _ (k+1) (by omega) (by(refine eD [5,6,0,1] (by omega) (by repeat' first|exact C1|refine xqI rfl rfl ?_|refine xqP (by omega) rfl rfl ?_|fail) ⟨⟨by simp,by simp[sgL],_,rfl,aY (aG aP _) rfl rfl⟩,⟨by simp,by simp[sgL],_,rfl,aY (aG aP _) (by rw[m]) rfl⟩,⟨by simp,by simp[sgL],_,rfl,aW (by repeat' first|exact C1| (with_reducible first|exact C3|apply C4)| ((with_reducible apply C0);exact CQ (by omega) rfl rfl (by rfl) rfl)|fail)⟩,⟨by simp,by simp[sgL],_,rfl,aW (by repeat' first|exact C1| (with_reducible first|exact C3|apply C4)| ((with_reducible apply C0);exact CC)|fail)⟩,trivial⟩ (by simp[sgL]))) (by omega) (by omega)
 ·repeat' first|apply vI<;>(simp only[go_sem])|apply vF (by omega)|fail
  have n:k=hs.length:=by omega
  subst n;exact Pr z (dA [.osl 1 0 0 64 wc,.osl 1 1 0 6 hc]) _ _ _ rfl (by repeat' first|exact C1| ((with_reducible apply C0);exact CQ (by omega) rfl rfl (by rfl) rfl)| ((with_reducible apply D0);apply C9)|exact C3|apply C4|fail) rfl rfl (eC aP _) (eC aP _) ⟨rfl,by rw[th],rfl⟩
theorem pd{hs all:List Int}{wc wm hc hm i j:Nat}(a:hs.length=6)(b:6<=hc)(c:all.length<2^21)(g:All all 0 63)
 (hi:i<nx) (k:j<nx) (d:i≠j) (e:H i=some ⟨1,wm,w.map aF⟩) (f:H j=some ⟨1,hm,hs.map aF⟩) (h:K (dA [.osl 1 i 0 64 wc,.osl 1 j 0 6 hc]) ((H.set i ⟨1,wm,w.map aF⟩).set j ⟨1,hm,(rX hs all).map aF⟩) nx):
 ag1 s6 [dA [.osl 1 i 0 64 wc,.osl 1 j 0 6 hc],dS (all.map aF)] H nx K:=
 (lr w hs all wc wm hc hm a b c g).ab1 i j rfl (eO ⟨aH (gG (by omega) rfl rfl rfl rfl) (aH (gG (by omega) rfl rfl rfl rfl) cG),aE rfl,trivial⟩) hi k d e f (eC aP _) (eC aP _) fun r l m ⟨n,o,p⟩=>by subst n;subst o;subst p;exact h
theorem zc(m:List Rng)(w hs:List Int)(who:Int)(q:Req)(wc wm hc hm:Nat)(v:m.length<2^21)(x:QF w hs)(e:64<=wc)(n:6<=hc)(hw:0<=who/\who<=2)(y:cR q):
 ag1 G7 [dS (m.map cY),dA [.osl 1 0 0 64 wc,.osl 1 1 0 6 hc],dI who,dA (dT q)] (hp [(0,⟨1,wm,w.map aF⟩),(1,⟨1,hm,hs.map aF⟩)]) 2
 fun r H' n'=>n'=2/\ ∃b c,H'=hp [(0,b),(1,c)]/\kC b/\kC c/\b=⟨1,wm,(doM m w hs who q).1.1.map aF⟩/\c=⟨1,hm,(doM m w hs who q).1.2.map aF⟩/\r= .tup [.agg [.osl 1 0 0 64 wc,.osl 1 1 0 6 hc],.agg (lP (doM m w hs who q).2)]:=by
 obtain⟨f,o,s,z⟩:=x
 obtain⟨A,B,g,i,j,t,u,C⟩:=y
 have D:=zT g
 have E:=ux g
 have F:=FA (addr:=q.addr) (many:=q.many) (wrap:=q.wrap)
 have d:All (bQ q.addr q.many q.wrap) 0 63:=ve
 have G:=S9 (p:=(inR · ((bQ q.addr q.many q.wrap).getD 0 default))) (l:=m)
 have H:eT m (bQ q.addr q.many q.wrap)<m.length:=by unfold eT;grind
 have k:wrM q=true->q.data.length=(bQ q.addr q.many q.wrap).length/\q.lanes.length=(bQ q.addr q.many q.wrap).length:=by intro h;unfold wrM at h;unfold oE at i j;simp at h;simp only[h,if_true] at i j;omega
 refine aR.mk Tryz.func209 (by kernel_rfl) yo rfl fun Q a=> ?_
 unfold E6
 repeat' first| (first|apply vI| (refine Y7 (fun h=> ?_) (fun h=> ?_)<;>try subst h)|apply LK|apply M1 (by omega) (by omega)|apply LC|refine xr f e d (by omega) (by omega) rfl ?_| (refine yh f o e d (by omega) t (k (by unfold wrM;simp;omega)).1 u (k (by unfold wrM;simp;omega)).2 (by omega) rfl ?_)|refine pd s n (by omega) d (by omega) (by omega) (by omega) rfl rfl ?_)<;>(simp only[go_sem];try simp (disch:=omega) only[Iw])|refine iR (fun h=> ?_) fun h=> ?_| ((refine CK (fun h=> ?_) (fun h=> ?_))<;>try subst h)|refine⟨by omega,?_⟩|fail
 all_goals have I:=YQ (q:=q)
 all_goals first
  |rw[Bk (by assumption)] at a
  |rw[Au (by assumption) (by assumption) (by assumption)] at a
  |rw[Av (by assumption) (by assumption)] at a
  |rw[Bu (by assumption) (by assumption)] at a
  |rw[Pf (by assumption) (by grind) (by assumption) (by assumption)] at a
  |rw[Hy (by assumption) (by grind) (by assumption) (by grind)] at a
  |rw[Hv (by assumption) (by grind) (by omega)] at a
  | (exfalso;grind)
 all_goals exact Pr a _ _ _ _ rfl (by repeat' first|exact C1| (with_reducible first|apply C5|apply C7)| ((with_reducible apply C0);first|exact CB rfl|exact CQ (by omega) rfl rfl (by rfl) rfl|exact CF)|exact C3|apply C4|fail) rfl rfl (eC aP _) (eC aP _) ⟨rfl,rfl,rfl⟩
theorem Ai{m:List Rng}{hs:List Int}{who:Int}{q:Req}{wc wm hc hm i j:Nat}(a:m.length<2^21)(g:QF w hs)(b:64<=wc)(c:6<=hc)(hw:0<=who/\who<=2)(k:cR q)
 (hi:i<nx) (l:j<nx) (d:i≠j) (e:H i=some ⟨1,wm,w.map aF⟩) (f:H j=some ⟨1,hm,hs.map aF⟩)
 (h:K (.tup [.agg [.osl 1 i 0 64 wc,.osl 1 j 0 6 hc],.agg (lP (doM m w hs who q).2)]) ((H.set i ⟨1,wm,(doM m w hs who q).1.1.map aF⟩).set j ⟨1,hm,(doM m w hs who q).1.2.map aF⟩) nx):
 ag1 G7 [dS (m.map cY),dA [.osl 1 i 0 64 wc,.osl 1 j 0 6 hc],dI who,dA (dT q)] H nx K:=
 (zc m w hs who q wc wm hc hm a g b c hw k).ab1 i j rfl (eO ⟨aE rfl,aH (gG (by omega) rfl rfl rfl rfl) (aH (gG (by omega) rfl rfl rfl rfl) cG),aE rfl,aE rfl,trivial⟩) hi l d e f (eC aP _) (eC aP _) fun r n o ⟨p,s,t⟩=>by subst p;subst s;subst t;exact h
end
section
variable{H:aA}{nx:Nat}{K:ag2}
end
attribute [go_sem] Li Mt
section
variable{H:aA}{nx:Nat}{K:ag2}
theorem oK{a:Job}{b:Job}(h:K (dB (eV a b)) H nx):ag1 tN [dA (aL a),dA (aL b)] H nx K:=by
 refine aC.pure (args0:=[dA (aL a),dA (aL b)]) (R:=fun c=>c=dB (eV a b)) ?_ rfl (aM ⟨aE rfl,aE rfl,trivial⟩) (fun r hr=>hr▸h);clear h;refine aR.mk Tryz.func292 (by kernel_rfl) VC rfl fun Q d=> ?_;unfold qS;repeat' first| (first|apply vI|refine Y6 (fun h=> ?_) fun h=> ?_)<;>(simp only[go_sem])|fail
 all_goals first|with_reducible refine aQ d _ rfl rfl ?_|skip
 all_goals first|exact nB (by grind)|exact gV (by grind)|exact nJ (by grind)
variable{l:List Job}
theorem lX{who:Int}{n:Int}(hl:l.length<2^40)(h:K (dI (bK (cO who n) l)) H nx):ag1 uV [dS (l.map aL),dI who,dI n] H nx K:=by
 refine aC.pure (args0:=[dS (l.map aL),dI who,dI n]) (R:=fun c=>c=dI (bK (cO who n) l)) ?_ rfl (aM ⟨aE rfl,aE rfl,aE rfl,trivial⟩) (fun r hr=>hr▸h);clear h;refine aR.mk Tryz.func216 (by kernel_rfl) yd rfl fun Q b=> ?_;unfold D8;repeat' first|apply vI<;>(simp only[go_sem])|fail
 (refine aK.loop (α:={k:Nat//k<=l.length/\(∀i,i<k->cO who n (l.getD i default)=false)}) (fun u=>en [(7,dI u.1),(2,dI n),(1,dI who),(0,dS (l.map aL))]) (fun _=>.nil) _ (fun u=>l.length-u.1) ⟨0,by omega,(by intros;first|trivial|omega)⟩ (bI (ac1 _) (by repeat' first|exact C1|refine xqI rfl rfl ?_|fail)) ?_);(rintro⟨k,d,hinv⟩ e a);repeat' first| (first|apply vI|refine Y6 (fun h=> ?_) fun h=> ?_)<;>(simp only[go_sem];try simp (disch:=omega) only[Iw])|refine iR (fun h=> ?_) fun h=> ?_|refine⟨by omega,?_⟩|fail
 ·refine aQ b _ rfl rfl (nK (adY (EE (by omega) (decide_eq_true (by omega)) hinv)))
 · (refine a _ _ _ ⟨k+1,by omega,bT hinv (decide_eq_false (by omega))⟩ (by omega) (by(try dsimp only);omega) (bI (ac1 _) (by repeat' first|exact C1|refine xqI rfl rfl ?_|fail)))
 · (refine a _ _ _ ⟨k+1,by omega,bT hinv (decide_eq_false (by omega))⟩ (by omega) (by(try dsimp only);omega) (bI (ac1 _) (by repeat' first|exact C1|refine xqI rfl rfl ?_|fail)))
 ·refine aQ b _ rfl rfl (nK (adY (rU fun i hi=>hinv i (by omega))))
theorem TZ(l:List Job)(j:Job)(hl:l.length<2^21):ag1 oC [dS (l.map aL),dA (aL j)] .nil 0 fun r _ v=>v=0/\r.imm=true/\r=dS ((iF l j).map aL):=by
 refine aR.mk Tryz.func217 (by kernel_rfl) og rfl fun Q s=> ?_;unfold AX;generalize n:l.findIdx (eV j)=f;repeat' first|apply vI<;>(simp only[go_sem])|fail
 refine aK.Rf 1 (α:={p:Nat×Nat//p.1<=l.length/\(IN l j f p.1).length<=p.2}) (fun b u=>en [(7,dI u.1.1),(6,dB (decide (f<u.1.1))),(5,dO 5 b (IN l j f u.1.1).length u.1.2),(3,.one (.c (.dQ (aL j)))),(0,dS (l.map aL))])
  (fun b u=>hp [(b,⟨5,u.1.2,(IN l j f u.1.1).map aL⟩)]) (fun u=>l.length-u.1.1) ⟨(0,0),by omega,by simp[IN]⟩ (by(refine eD [2] (by omega) (by repeat' first|exact C1|refine xqI rfl rfl ?_|refine xqO (by omega) rfl rfl (by rfl) ?_| (with_reducible apply C2)| ((with_reducible apply D0);exact CI rfl (by simp) rfl rfl rfl)|fail) ⟨⟨by simp,by simp[sgL],_,rfl,aY (aG bC _) rfl rfl⟩,trivial⟩ (by simp[sgL]))) ?_
 rintro⟨⟨k,cap⟩,t,hc⟩ x d;dsimp only at t hc;have hlen:=Pj (j:=j) (f:=f) t;by_cases a:k<l.length
 ·have m:=fun e:k<=f=>Ub (j:=j) a (n▸e);rw[n] at m;repeat' first| (first|apply vI|refine Y6 (fun h=> ?_) fun h=> ?_|apply oK)<;>(simp only[go_sem];try simp (disch:=omega) only[Iw])|apply vT (by omega)| (with_reducible first|refine fun(cap:Nat) (g:_<=cap)=> ?_|refine fun(o:_<=cap)=> ?_)| ((refine CK (fun h=> ?_) (fun h=> ?_))<;>try subst h)|refine⟨by omega,?_⟩|fail
  ·have H:=Vj (j:=j) a (show k=f from (m (by omega)).1 (by assumption));have i:=congrArg List.length H;simp only[ac7,List.length_cons,List.length_nil] at i;have e:=(m (by omega)).1 (by assumption);(refine d _ _ _ ⟨(k+1,cap),by omega,by dsimp only;omega⟩ (by omega) (by(try dsimp only);omega) (by(refine eD [33] (by omega) (by repeat' first|exact C1|refine xqI rfl rfl ?_|refine xqO (by omega) rfl rfl (by first|rfl|omega) ?_| (with_reducible apply C2)| ((with_reducible apply C0);(exact CG (by((try dsimp only);exact dbT (by omega))) rfl))| ((with_reducible apply D0);apply CJ)|fail) ⟨⟨by simp,by simp[sgL],_,rfl,aY (aG bC _) (congrArg _ H) rfl⟩,trivial⟩ (by simp[sgL]))))
  ·have w: ¬k=f:=fun he=>by have:=(m (by omega)).2 he;simp_all
   have H:=We (j:=j) a (show k<f by omega);have i:=congrArg List.length H;simp only[ac7,List.length_cons,List.length_nil] at i;(refine d _ _ _ ⟨(k+1,cap),by omega,by dsimp only;omega⟩ (by omega) (by(try dsimp only);omega) (by(refine eD [27] (by omega) (by repeat' first|exact C1|refine xqI rfl rfl ?_|refine xqO (by omega) rfl rfl (by first|rfl|omega) ?_| (with_reducible apply C2)| ((with_reducible apply C0);(exact CG (by((try dsimp only);exact dbE (by omega))) rfl))| ((with_reducible apply D0);apply CJ)|fail) ⟨⟨by simp,by simp[sgL],_,rfl,aY (aG bC _) (congrArg _ H) rfl⟩,trivial⟩ (by simp[sgL]))))
  ·have H:=Uh (j:=j) a (show f<k by omega);have i:=congrArg List.length H;simp only[ac7,List.length_cons,List.length_nil] at i;(refine d _ _ _ ⟨(k+1,cap),by omega,by dsimp only;omega⟩ (by omega) (by(try dsimp only);omega) (by(refine eD [27] (by omega) (by repeat' first|exact C1|refine xqI rfl rfl ?_|refine xqO (by omega) rfl rfl (by first|rfl|omega) ?_| (with_reducible apply C2)| ((with_reducible apply C0);(exact CG (by((try dsimp only);exact dbE (by omega))) rfl))| ((with_reducible apply D0);apply CJ)|fail) ⟨⟨by simp,by simp[sgL],_,rfl,aY (aG bC _) (congrArg _ H) rfl⟩,trivial⟩ (by simp[sgL]))))
 ·have q:k=l.length:=by omega
  subst q;subst n;repeat' first|apply vI<;>(simp only[go_sem])|apply vF (by omega)|refine iR (fun h=> ?_) fun h=> ?_| (with_reducible first|refine fun(cap:Nat) (g:_<=cap)=> ?_|refine fun(o:_<=cap)=> ?_)|refine⟨by omega,?_⟩|fail
  ·exact HG s (dS _) _ rfl (oI (l:=IN l j _ l.length++[j]) bC rfl (by simp) (by simp;omega) trivial) rfl (by rw[Le (by omega)])
  ·exact HG s (dS _) _ rfl (oI (l:=IN l j _ l.length) bC rfl (by simp) (by omega) trivial) rfl (by rw[Qx (by omega)])
theorem xh{j:Job}(hl:l.length<2^21)(h:K (dS ((iF l j).map aL)) H nx):ag1 oC [dS (l.map aL),dA (aL j)] H nx K:=(TZ l j hl).fresh rfl (fun r hr=>hr▸h)
def oSt(i0 i1 i2 a wc hc ac b:Nat)(s:TSt):List D1:=[.osl 1 i0 0 64 wc,.osl 1 i1 0 6 hc,.osl 1 i2 0 3 ac,.isl (s.wait.map aL),.isl (s.done.map aL),.osl 5 a 0 s.told.length b]
theorem R6{a b:Int}(hl:l.length<2^21)(h:K (dS ((iF l ⟨a,b,iL⟩).map aL)) H nx):ag1 oC [dS (l.map aL),dA [cI a,cI b,cI 0,cI 0,.osl 0 0 0 0 0]] H nx K:=(TZ l ⟨a,b,iL⟩ hl).Zo rfl ⟨aE rfl,aH (bE rfl) (aH (bE rfl) (aH (bE rfl) (aH (bE rfl) (aH yA cG)))),trivial⟩ fun r hr=>hr▸h
variable{i0:Nat}
theorem Tz{i1 i2 a wc hc ac b:Nat}{s:TSt}:(oSt i0 i1 i2 a wc hc ac b s).length=6:=rfl
theorem Rh{i1 i2 a wc hc ac b:Nat}{s:TSt}:(oSt i0 i1 i2 a wc hc ac b s).take 6=oSt i0 i1 i2 a wc hc ac b s:=rfl
theorem Od{i1 i2 a wc hc ac b k:Nat}{s:TSt}{cs:List D1}:kD cs (k+1) (oSt i0 i1 i2 a wc hc ac b s)=kD cs (k+1) [.osl 1 i0 0 64 wc,.osl 1 i1 0 6 hc,.osl 1 i2 0 3 ac,.isl (s.wait.map aL),.isl (s.done.map aL),.osl 5 a 0 s.told.length b]:=rfl
attribute [go_sem] Tz Rh Od
theorem So{j:Job}:cI j.who::cI j.n::lP j.rsp=aL j:=rfl
theorem qn:ag1 mG [] (hp []) 0
 fun r H' n'=>n'=1/\H'=hp [(0,⟨1,64,(List.replicate 64 (0:Int)).map aF⟩)]/\r=dA [.osl 1 0 0 64 64]:=by
 refine aR.mk Tryz.func248 (by kernel_rfl) jf rfl fun Q a=> ?_
 unfold wM
 repeat' first|apply vI<;>(simp only[go_sem])|fail
 (refine a _ _ _ _ _ 1 (dA [.osl 1 0 0 64 64]) (hp [(0,⟨1,64,(List.replicate 64 (0:Int)).map aF⟩)]) _ _ (.inr rfl) rfl (fT [1] (by omega) (by repeat' first|exact C1| ((with_reducible apply C0);exact CQ (by omega) rfl rfl (by rfl) rfl)| ((with_reducible apply D0);apply C9)|exact C3|apply C4|fail) ⟨⟨by simp,by simp[sgL],_,rfl,aY (aG aP _) rfl rfl⟩,trivial⟩ (by simp[sgL])) ?_)
 exact⟨rfl,rfl,rfl⟩
theorem RZ(h:K (dA [.osl 1 nx 0 64 64]) (H.set nx ⟨1,64,(List.replicate 64 (0:Int)).map aF⟩) (nx+1)):ag1 mG [] H nx K:=by
 refine qn.DD (l0:=[]) [] rfl trivial trivial (by simp) (by simp) (by simp) fun r H' n' _ ⟨a,b,c⟩=> ?_;subst a;subst b;subst c;have d:back (tau 0 nx (nth [])) (hp [(0,⟨1,64,(List.replicate 64 (0:Int)).map aF⟩)]) 1 H=H.set nx ⟨1,64,(List.replicate 64 (0:Int)).map aF⟩:=by simp only[back,hp,aA.set,tau,adV,if_true,if_false,Nat.sub_zero,Nat.add_zero,Option.map_some,nN,aA.fI]
 rw[<-d] at h;exact h
theorem nr:ag1 oR [] (hp []) 0
 fun r H' n'=>∃hc,6<=hc/\n'=2/\H'=hp [(0,⟨1,64,(List.replicate 64 (0:Int)).map aF⟩),(1,⟨1,hc,(List.replicate 6 (-1:Int)).map aF⟩)]/\r=dA [.osl 1 0 0 64 64,.osl 1 1 0 6 hc]:=by
 refine aR.mk Tryz.func166 (by kernel_rfl) bu rfl fun Q j=> ?_
 unfold vY
 generalize a:List.replicate 64 (0:Int)=d
 have e: ∀{H:aA} {nx:Nat} {K:ag2},K (dA [.osl 1 nx 0 64 64]) (H.set nx ⟨1,64,d.map aF⟩) (nx+1)->ag1 mG [] H nx K:=fun h=>by subst a;exact RZ h
 repeat' first| (first|apply vI|apply e)<;>(simp only[go_sem])|fail
 apply aK.oB 1
 refine aK.zE 4 (β:=Nat×Nat) (fun b u=>en [(2,dI u.1),(1,dP 2 (b+1)),(0,dP 2 b)])
  (fun b u=>hp [(b,⟨2,1,[[.osl 0 0 0 0 0,.osl 0 0 0 0 0]]⟩),(b+1,⟨2,1,[[.osl 1 (b+2) 0 64 64,.osl 1 (b+3) 0 u.1 u.2]]⟩),(b+2,⟨1,64,d.map aF⟩),(b+3,⟨1,u.2,(List.replicate u.1 (-1:Int)).map aF⟩)]) (fun u=>u.1<=6/\u.1<=u.2) (fun u=>6-u.1) (0,0)
  ?_ ⟨by dsimp only;omega,by dsimp only;omega⟩ ?_
 · (refine eD [0,3,5,7] (by omega) (by repeat' first| (with_reducible first|exact C1|apply C2)| ((with_reducible apply C0);exact CE (by omega) rfl)| ((with_reducible apply D0);first|exact CA rfl|apply CJ)|fail) ⟨⟨by simp,by simp[sgL],_,rfl,aW (by repeat' first| (with_reducible first|exact C3|apply C4)| ((with_reducible apply C0);exact CC)|fail)⟩,⟨by simp,by simp[sgL],_,rfl,aW (by repeat' first|exact C1| (with_reducible first|exact C3|apply C4)| ((with_reducible apply C0);first|exact CC|exact CQ (by omega) rfl rfl (by rfl) rfl)|fail)⟩,⟨by simp,by simp[sgL],_,rfl,aY (aG aP _) rfl rfl⟩,⟨by simp,by simp[sgL],_,rfl,aY (aG aP _) rfl rfl⟩,trivial⟩ (by simp[sgL]))
 ·rintro⟨k,cap⟩ ⟨l,hc⟩ o f;dsimp only at l hc;have c:List.replicate (k+1) (-1:Int)=List.replicate k (-1)++[-1]:=List.replicate_succ';by_cases m:k<6
  ·repeat' first|apply vI<;>(simp only[go_sem];try simp (disch:=omega) only[Iw])|apply vT (by omega)| (with_reducible first|refine fun(cap:Nat) (i:_<=cap)=> ?_|refine fun(n:_<=cap)=> ?_)|refine⟨by omega,?_⟩|fail
   exact f _ _ _ (k+1,cap) (by omega) (by(refine eD [8,9,10,17] (by omega) (by repeat' first|exact C1| (with_reducible first|exact C1|apply C2)| ((with_reducible apply C0);exact CE (by omega) rfl)| ((with_reducible apply D0);first|exact CA rfl|apply CJ)|fail) ⟨⟨by simp,by simp[sgL],_,rfl,aW (by repeat' first| (with_reducible first|exact C3|apply C4)| ((with_reducible apply C0);exact CC)|fail)⟩,⟨by simp,by simp[sgL],_,rfl,aW (by repeat' first|exact C1| (with_reducible first|exact C3|apply C4)| ((with_reducible apply C0);exact CQ (by omega) rfl rfl (by rfl) rfl)|fail)⟩,⟨by simp,by simp[sgL],_,rfl,aY (aG aP _) rfl rfl⟩,⟨by simp,by simp[sgL],_,rfl,aY (aG aP _) (congrArg _ c) rfl⟩,trivial⟩ (by simp[sgL]))) ⟨by dsimp only;omega,by dsimp only;omega⟩ (by dsimp only;omega)
  ·repeat' first|apply vI<;>(simp only[go_sem])|apply vF (by omega)|refine bX rfl ?_|fail
   have g:k=6:=(by omega);subst g;(refine j _ _ _ _ _ 2 (dA [.osl 1 0 0 64 64,.osl 1 1 0 6 cap]) (hp [(0,⟨1,64,d.map aF⟩),(1,⟨1,cap,(List.replicate 6 (-1:Int)).map aF⟩)]) _ _ (.inr rfl) rfl (fT [10,11] (by omega) (by repeat' first|exact C1| ((with_reducible apply C0);exact CQ (by omega) rfl rfl (by rfl) rfl)| ((with_reducible apply D0);apply C9)|exact C3|apply C4|fail) ⟨⟨by simp,by simp[sgL],_,rfl,aY (aG aP _) rfl rfl⟩,⟨by simp,by simp[sgL],_,rfl,aY (aG aP _) rfl rfl⟩,trivial⟩ (by simp[sgL])) ?_);exact⟨cap,hc,rfl,by rw[a],rfl⟩
theorem QT(h: ∀hc,6<=hc->K (dA [.osl 1 nx 0 64 64,.osl 1 (nx+1) 0 6 hc]) ((H.set nx ⟨1,64,(List.replicate 64 (0:Int)).map aF⟩).set (nx+1) ⟨1,hc,(List.replicate 6 (-1:Int)).map aF⟩) (nx+2)):ag1 oR [] H nx K:=by
 refine nr.DD (l0:=[]) [] rfl trivial trivial (by simp) (by simp) (by simp) fun r H' n' _ ⟨hc,c,d,e,f⟩=> ?_;have h:=h hc c;subst d;subst e;subst f;generalize List.replicate 64 (0:Int)=a at*;generalize List.replicate 6 (-1:Int)=b at*;have g:back (tau 0 nx (nth [])) (hp [(0,⟨1,64,a.map aF⟩),(1,⟨1,hc,b.map aF⟩)]) 2 H=(H.set nx ⟨1,64,a.map aF⟩).set (nx+1) ⟨1,hc,b.map aF⟩:=by simp only[abG,hp,aA.set,tau,adV,if_true,if_false,Nat.sub_zero,Nat.add_zero,Option.map_some,nN,aA.fI,Nat.zero_ne_one,ae8]
 rw[<-g] at h;exact h
theorem pv{w:List Int}(hl:w.length<2^21)(h:K (dA [.isl (w.map aF)]) H nx):ag1 sW [dA [.isl (w.map aF)]] H nx K:=by
 refine aC.fresh (R:=fun b=>b=dA [.isl (w.map aF)]) ?_ rfl (fun r hr=>hr▸h);clear h;refine aR.mk Tryz.func269 (by kernel_rfl) NV rfl fun Q c=> ?_;unfold nF;repeat' first|apply vI<;>(simp only[go_sem])| (with_reducible first|refine fun(cap:Nat) (a:_<=cap)=> ?_|refine fun(d:_<=cap)=> ?_)|refine⟨by omega,?_⟩|fail
 all_goals exact HG c (dA [.isl (w.map aF)]) _ rfl (aH (cM aP rfl rfl (by omega) trivial) cG) rfl rfl
theorem qk{w:List Int}{u:List Int}(hl:w.length<2^21)(hu:u.length<2^21)(h:K (dA [.isl (w.map aF),.isl (u.map aF)]) H nx):ag1 mF [dA [.isl (w.map aF),.isl (u.map aF)]] H nx K:=by
 refine aC.fresh (R:=fun b=>b=dA [.isl (w.map aF),.isl (u.map aF)]) ?_ rfl (fun r hr=>hr▸h);clear h;refine aR.mk Tryz.func192 (by kernel_rfl) N1 rfl fun Q c=> ?_;unfold nA;repeat' first| (first|apply vI|apply pv hl)<;>(simp only[go_sem])| (with_reducible first|refine fun(cap:Nat) (a:_<=cap)=> ?_|refine fun(d:_<=cap)=> ?_)|refine⟨by omega,?_⟩|fail
 all_goals exact HG c (dA [.isl (w.map aF),.isl (u.map aF)]) _ rfl (aH (bE rfl) (aH (cM aP rfl rfl (by omega) trivial) cG)) rfl rfl
theorem UX{r:Rsp}(hl:r.data.length<2^21)(h:K (dA (lP r)) H nx):ag1 J8 [dA (lP r)] H nx K:=by
 refine aC.fresh (R:=fun b=>b=dA (lP r)) ?_ rfl (fun r hr=>hr▸h);clear h;refine aR.mk Tryz.func270 (by kernel_rfl) ld rfl fun Q c=> ?_;unfold A7;repeat' first|apply vI<;>(simp only[go_sem])| (with_reducible first|refine fun(cap:Nat) (a:_<=cap)=> ?_|refine fun(d:_<=cap)=> ?_)|refine⟨by omega,?_⟩|fail
 all_goals exact HG c (dA (lP r)) _ rfl (aH (bE rfl) (aH (bE rfl) (aH (cM aP rfl rfl (by omega) trivial) cG))) rfl rfl
theorem oz(hl:l.length<2^21)(g: ∀j∈l,j.rsp.data.length<2^21)(h:K (dS (l.map aL)) H nx):ag1 gQ [dS (l.map aL)] H nx K:=by
 refine aC.fresh (R:=fun i=>i=dS (l.map aL)) ?_ rfl (fun r hr=>hr▸h);clear h;refine aR.mk Tryz.func193 (by kernel_rfl) MS rfl fun Q m=> ?_;unfold mZ;repeat' first|apply vI<;>(simp only[go_sem])|fail
 refine aK.zE 1 (β:=Nat×Nat) (fun b u=>en [(4,dI u.1),(3,dO 5 b u.1 u.2),(0,dS (l.map aL))])
  (fun b u=>hp [(b,⟨5,u.2,(l.take u.1).map aL⟩)]) (fun u=>u.1<=l.length/\u.1<=u.2) (fun u=>l.length-u.1) (0,0) (by(refine eD [1] (by omega) (by repeat' first| (with_reducible first|exact C1|apply C2)| ((with_reducible apply C0);exact CC)| ((with_reducible apply D0);first|exact CA rfl|apply CJ)|fail) ⟨⟨by simp,by simp[sgL],_,rfl,aY (aG bC _) rfl rfl⟩,trivial⟩ (by simp[sgL]))) ⟨by omega,by omega⟩ ?_
 rintro⟨k,cap⟩ ⟨n,hc⟩ p c;dsimp only at n hc;have d:(l.take k).take k=l.take k:=ac6 (by simp;omega);by_cases a:k<l.length
 ·have hm:=g _ (cC a);repeat' first| (first|apply vI|apply UX hm)<;>(simp only[go_sem,d,So];try simp (disch:=omega) only[Iw])|apply vT (by omega)| (with_reducible first|refine fun(cap:Nat) (f:_<=cap)=> ?_|refine fun(o:_<=cap)=> ?_)|refine⟨by omega,?_⟩| (refine⟨by(rw[adP];omega),?_⟩)|fail
  all_goals exact c _ _ _ (k+1,cap) (by omega) (by(refine eD [28] (by omega) (by repeat' first|exact C1| (with_reducible first|exact C1|apply C2)| ((with_reducible apply C0);exact CQ (by omega) rfl rfl (by rfl) rfl)| ((with_reducible apply D0);first|exact CA rfl|apply CJ)|fail) ⟨⟨by simp,by simp[sgL],_,rfl,aY (aG bC _) (by rw[gP a]) rfl⟩,trivial⟩ (by simp[sgL]))) ⟨by dsimp only;omega,by dsimp only;omega⟩ (by dsimp only;omega)
 ·repeat' first|apply vI<;>(simp only[go_sem])|apply vF (by omega)|refine bX rfl ?_|fail
  have e:k=l.length:=by omega
  subst e;exact HG m (dS (l.map aL)) _ rfl (D3 (rows:=l.map aL) (aG bC _) (by simp) trivial rfl rfl (by simp[ac6]) (by simp;omega)) rfl rfl
theorem IZ{m cap:Nat}(hl:l.length<2^21)(hi:i0<nx)(I:H i0=some ⟨5,m,l.map aL⟩)
 (h: ∀H' nx',nx<=nx'->H' i0=some ⟨5,m,(dG l).map aL⟩->(∀id,id<nx->id≠i0->H' id=H id)->K (.tup []) H' nx'):
 ag1 eE [.one (.c (.osl 5 i0 0 l.length cap)),dI 0,dI l.length,.one (.c (.clo bP []))] H nx K:=by
 refine bW.mk Tryz.func303 (by kernel_rfl) rE rfl fun Q J=> ?_
 unfold eA
 repeat' first|apply vI<;>(simp only[go_sem];try simp (disch:=omega) only[Iw])|fail
 refine aK.cW (β:=Nat) (fun k=>en [(8,dI k),(3,.one (.c (.clo bP []))),(2,dI l.length),(1,dI 0),(0,.one (.c (.osl 5 i0 0 l.length cap)))])
  (fun k H1 _=>1<=k/\(k<=1\/k<=l.length)/\H1 i0=some ⟨5,m,(LB l k++l.drop k).map aL⟩/\ ∀id,id<nx->id≠i0->H1 id=H id) (fun k=>l.length+1-k) 1
  ⟨noF,_,by repeat' first|exact C1|refine xqI rfl rfl ?_|refine xqO (by omega) rfl rfl (by rfl) ?_| (with_reducible apply C2)| ((with_reducible apply C0);exact CH (by rfl))| ((with_reducible apply D0);apply CJ)|fail,aI,by omega,.inl (by omega),by rw[Kb,aeL];exact I,fun _ _ _=>rfl⟩ ?_
 rintro k H1 L M ⟨N,O,s,n⟩ P t
 by_cases f:k<l.length
 ·repeat' first|apply vI<;>(simp only[go_sem])|apply vT (by omega)|fail
  obtain⟨S,q⟩: ∃S,S=LB l k:=⟨_,rfl⟩
  have T:S.length=k:=by rw[q];exact Np (by omega)
  obtain⟨x,C⟩: ∃x,x=l.getD k default:=⟨_,rfl⟩
  have u:l.drop k=x::l.drop (k+1):=by rw[aeC f,C];simp[List.getD,f]
  refine aK.cW (β:=Nat) (fun j=>en [(9,dI j),(8,dI k),(3,.one (.c (.clo bP []))),(2,dI l.length),(1,dI 0),(0,.one (.c (.osl 5 i0 0 l.length cap)))])
   (fun j H2 _=>j<=k/\H2 i0=some ⟨5,m,(WK S x j++l.drop (k+1)).map aL⟩/\(∀i,j<=i->i<S.length->eV x (S.getD i default)=true)/\ ∀id,id<nx->id≠i0->H2 id=H id) (fun j=>j) k
   ⟨noF,_,by repeat' first|exact C1|refine xqI rfl rfl ?_|refine xqO (by omega) rfl rfl (by rfl) ?_| (with_reducible apply C2)| ((with_reducible apply C0);exact CH (by rfl))| ((with_reducible apply D0);apply CJ)|fail,aI,ac1 _,?_,fun i D r=>by omega,n⟩ ?_
  ·rw[s,<-q,u];unfold WK;rw[ac6 (show S.length<=k by omega),show S.drop k=[] from aeK (by omega)];simp
  rintro j H2 g E ⟨Y,F,hB,d⟩ Z v;have w:(WK S x j++l.drop (k+1)).length=l.length:=by rw[ac7,Po (by omega),adL];omega
  have y: ∀b,(i0=g+b)=False:=fun b=>eq_false (by omega);have o: ∀b,(g+b=i0)=False:=fun b=>eq_false (by omega);have a: ∀{e:Env} {H':aA} {n':Nat},g<=n'->(j=0\/eV x (S.getD (j-1) default)=false)->H'=H2->CvE H' noF id n' (en [(8,dI (k+1)),(3,.one (.c (.clo bP []))),(2,dI l.length),(1,dI 0),(0,.one (.c (.osl 5 i0 0 l.length cap)))]) e->P e H' n':=fun D r U V=>by subst U;refine t _ _ _ (k+1) noF _ (by omega) (by omega) V aI ⟨by omega,.inr (by omega),?_,d⟩;rw[F,Ln (by omega) (by rw[q];exact oa _) r hB,q,Dv f,C]
  by_cases p:0<j
  ·have z:=Xn (S:=S) (R:=l.drop (k+1)) (x:=x) (j:=j) (by omega);have A:=Hl (S:=S) (R:=l.drop (k+1)) (x:=x) p (by omega);have B:=Ml (S:=S) (R:=l.drop (k+1)) (x:=x) p (by omega);have W:((j:Int)-1).toNat=j-1:=(by omega);repeat' first| (first|apply vI|apply Y4 (by omega)|apply nW)<;>(simp only[go_sem,F,z,A,W,w,y,o];try simp (disch:=omega) only[Iw])|refine iR (fun h=> ?_) fun h=> ?_|refine⟨by omega,?_⟩|fail
   ·exact v _ _ _ (j-1) noF _ (by omega) (by omega) (by repeat' first|exact C1|refine xqI rfl rfl ?_|refine xqO (by omega) rfl rfl (by rfl) ?_|refine xqV rfl (by omega) ?_| (with_reducible apply C2)| ((with_reducible apply C0);exact CH (by rfl))| ((with_reducible apply D0);apply CJ)|fail) aI ⟨by omega,by rw[B];exact aA.aJ,fun i D r=>by
     by_cases he:i=j-1
     ·subst he;exact JO.1 (by assumption)
     ·exact hB i (by omega) r,fun id X G=>by rw[aA.aB G];exact d id X G⟩
   ·exact a (by omega) (.inr (by rw[<-Bool.not_eq_true,<-JO];assumption)) rfl (by repeat' first|exact C1|refine xqI rfl rfl ?_|refine xqO (by omega) rfl rfl (by rfl) ?_| (with_reducible apply C2)| ((with_reducible apply C0);exact CH (by rfl))| ((with_reducible apply D0);apply CJ)|fail)
  ·repeat' first| (first|apply vI|apply Y5 (by omega))<;>(simp only[go_sem];try simp (disch:=omega) only[Iw])|fail
   exact a (by omega) (.inl (by omega)) rfl (by repeat' first|exact C1|refine xqI rfl rfl ?_|refine xqO (by omega) rfl rfl (by rfl) ?_| (with_reducible apply C2)| ((with_reducible apply C0);exact CH (by rfl))| ((with_reducible apply D0);apply CJ)|fail)
 ·repeat' first|apply vI<;>(simp only[go_sem])|apply vF (by omega)|fail
  have u:LB l k++l.drop k=dG l:=by rw[aeK (by omega),adR,<-Lx];unfold LB;rw[ac6 (by omega),ac6 (by omega)]
  rw[u] at s;exact J _ _ _ _ _ (.inl rfl) rfl (h _ _ (by omega) s n)
theorem V3{m cap:Nat}(hl:l.length<20)(hi:i0<nx)(d:H i0=some ⟨5,m,l.map aL⟩)
 (h: ∀H' nx',nx<=nx'->H' i0=some ⟨5,m,(dG l).map aL⟩->(∀id,id<nx->id≠i0->H' id=H id)->K (.tup []) H' nx'):
 ag1 jG [.one (.c (.osl 5 i0 0 l.length cap)),dI l.length,.one (.c (.clo bP []))] H nx K:=by
 refine bW.mk Tryz.func225 (by kernel_rfl) zI rfl fun Q e=> ?_
 unfold fV
 repeat' first|apply vI<;>(simp only[go_sem])|fail
 refine aK.cW (β:=Unit) (fun _=>en [(8,dI 20),(7,dI 0),(6,dI 20),(2,.one (.c (.clo bP []))),(1,dI l.length),(0,.one (.c (.osl 5 i0 0 l.length cap)))]) (fun _ H1 _=>H1=H) (fun _=>0) () ⟨noF,_,by repeat' first|exact C1|refine xqI rfl rfl ?_|refine xqO (by omega) rfl rfl (by rfl) ?_| (with_reducible apply C2)| ((with_reducible apply C0);exact CH (by rfl))| ((with_reducible apply D0);apply CJ)|fail,aI,rfl⟩ ?_
 rintro u H1 f g rfl q i
 repeat' first| (first|apply vI|refine IZ (by omega) (by omega) d (fun H' nx' j k a=> ?_))<;>(simp only[go_sem])|apply vF (by omega)|fail
 refine aK.cW (β:=Unit) (fun _=>en [(6,dI 20),(2,.one (.c (.clo bP []))),(1,dI l.length),(0,.one (.c (.osl 5 i0 0 l.length cap)))]) (fun _ H2 _=>H2=H') (fun _=>0) () ⟨noF,_,by repeat' first|exact C1|refine xqI rfl rfl ?_|refine xqO (by omega) rfl rfl (by rfl) ?_| (with_reducible apply C2)| ((with_reducible apply C0);exact CH (by rfl))| ((with_reducible apply D0);apply CJ)|fail,aI,rfl⟩ ?_
 rintro u H2 n b rfl r o
 repeat' first|apply vI<;>(simp only[go_sem])|apply vF (by omega)|fail
 exact e _ _ _ _ _ (.inl rfl) rfl (h _ _ (by omega) k fun id s p=>a id (by omega) p)
theorem BZ{m cap:Nat}(hl:l.length<20)(hi:i0<nx)(b:H i0=some ⟨5,m,l.map aL⟩)
 (h: ∀H' nx',nx<=nx'->H' i0=some ⟨5,m,(dG l).map aL⟩->(∀id,id<nx->id≠i0->H' id=H id)->K (.tup []) H' nx'):
 ag1 dV [.one (.c (.osl 5 i0 0 l.length cap)),.one (.c (.clo bP []))] H nx K:=by
 refine bW.mk Tryz.func135 (by kernel_rfl) pS rfl fun Q d=> ?_
 unfold dJ
 repeat' first| (first|apply vI|refine V3 hl (by omega) b (fun H' nx' e f a=> ?_))<;>(simp only[go_sem])|fail
 exact d _ _ _ _ _ (.inl rfl) rfl (h _ _ (by omega) f fun id i g=>a id (by omega) g)
theorem SQ{α:Type}[Inhabited α]{a b:List α}(hl:a.length=b.length)(h: ∀i,i<a.length->a.getD i default=b.getD i default):a=b:=by refine af0 hl fun i c d=> ?_;have:=h i c;simpa [List.getD,c,d] using this
theorem BQ{a:List Int}{b:List Int}(g:a.length<2^40)(j:b.length<2^40)(h:K (dB (decide (a=b))) H nx):ag1 oU [dS (a.map aF),dS (b.map aF)] H nx K:=by
 refine aC.pure (args0:=[dS (a.map aF),dS (b.map aF)]) (R:=fun e=>e=dB (decide (a=b))) ?_ rfl (aM ⟨aE rfl,aE rfl,trivial⟩) (fun r hr=>hr▸h);clear h;refine aR.mk Tryz.func101 (by kernel_rfl) jy rfl fun Q c=> ?_;unfold wC;by_cases hl:a.length=b.length
 ·repeat' first|apply vI<;>(simp only[go_sem])|apply vF (by omega)|fail
  (refine aK.loop (α:={k:Nat//k<=a.length/\(∀i,i<k->a.getD i default=b.getD i default)}) (fun u=>en [(5,dI u.1),(1,dS (b.map aF)),(0,dS (a.map aF))]) (fun _=>.nil) _ (fun u=>a.length-u.1) ⟨0,by omega,(by intros;first|trivial|omega)⟩ (bI (ac1 _) (by repeat' first| (with_reducible first|exact C1|apply C2)| ((with_reducible apply D0);exact CA rfl)|fail)) ?_);(rintro⟨k,l,hinv⟩ m d);by_cases f:k<a.length
  ·repeat' first|apply vI<;>(simp only[go_sem];try simp (disch:=omega) only[Iw])|apply vT (by omega)|refine iR (fun h=> ?_) fun h=> ?_|refine⟨by omega,?_⟩|fail
   ·refine aQ c _ rfl rfl (gV ?_);intro he;subst he;simp_all
   · (refine d _ _ _ ⟨k+1,by omega,bT hinv (by omega)⟩ (by omega) (by(try dsimp only);omega) (bI (ac1 _) (by repeat' first| (with_reducible first|exact C1|apply C2)| ((with_reducible apply D0);exact CA rfl)|fail)))
  ·repeat' first|apply vI<;>(simp only[go_sem])|apply vF (by omega)|refine bX rfl ?_|fail
   refine aQ c _ rfl rfl (nB (SQ hl fun i hi=>hinv i (by omega)))
 ·repeat' first|apply vI<;>(simp only[go_sem])|apply vT (by omega)|fail
  refine aQ c _ rfl rfl (gV fun he=>hl (by rw[he]))
theorem yx{a:Rsp}{b:Rsp}(c:a.data.length<2^40)(d:b.data.length<2^40)(h:K (dB (decide (a=b))) H nx):ag1 EC [dA (lP a),dA (lP b)] H nx K:=by
 refine aC.pure (args0:=[dA (lP a),dA (lP b)]) (R:=fun e=>e=dB (decide (a=b))) ?_ rfl (aM ⟨aE rfl,aE rfl,trivial⟩) (fun r hr=>hr▸h);clear h;refine aR.mk Tryz.func191 (by kernel_rfl) lg rfl fun Q f=> ?_;unfold AH;repeat' first| (first|apply vI|refine Y6 (fun h=> ?_) fun h=> ?_|apply BQ c d)<;>(simp only[go_sem])|fail
 all_goals first|with_reducible refine aQ f _ rfl rfl ?_|skip
 all_goals (obtain⟨g,i,j⟩:=a;obtain⟨k,l,m⟩:=b;dsimp only at*;first|exact nB (by simp_all)|exact gV (by simp_all)|exact nJ (by simp_all))
theorem sj{a b:Rsp}(c:a.data.length<2^40)(d:b.data.length<2^40)(h:K (dB (decide (a=b))) H nx):ag1 EC [.one (.agg [cI a.id,cI a.code,.isl (a.data.map aF)]),.one (.agg [cI b.id,cI b.code,.isl (b.data.map aF)])] H nx K:=yx c d h
theorem H7{a:List Job}{b:List Job}(t:a.length<2^40)(v:b.length<2^40)(e: ∀j∈a,j.rsp.data.length<2^40)(f: ∀j∈b,j.rsp.data.length<2^40)(h:K (dB (decide (a=b))) H nx):ag1 sJ [dS (a.map aL),dS (b.map aL)] H nx K:=by
 refine aC.pure (args0:=[dS (a.map aL),dS (b.map aL)]) (R:=fun q=>q=dB (decide (a=b))) ?_ rfl (aM ⟨aE rfl,aE rfl,trivial⟩) (fun r hr=>hr▸h);clear h;refine aR.mk Tryz.func100 (by kernel_rfl) jl rfl fun Q d=> ?_;unfold yL;by_cases hl:a.length=b.length
 ·repeat' first|apply vI<;>(simp only[go_sem])|apply vF (by omega)|fail
  (refine aK.loop (α:={k:Nat//k<=a.length/\(∀i,i<k->a.getD i default=b.getD i default)}) (fun u=>en [(5,dI u.1),(1,dS (b.map aL)),(0,dS (a.map aL))]) (fun _=>.nil) _ (fun u=>a.length-u.1) ⟨0,by omega,(by intros;first|trivial|omega)⟩ (bI (ac1 _) (by repeat' first| (with_reducible first|exact C1|apply C2)| ((with_reducible apply D0);exact CA rfl)|fail)) ?_);(rintro⟨k,w,hinv⟩ z g);by_cases m:k<a.length
  ·have d1:=e _ (cC (l:=a) (k:=k) m);have d2:=f _ (cC (l:=b) (k:=k) (by omega));have c: ¬a.getD k default=b.getD k default->¬a=b:=fun o p=>o (by rw[p]);have heq:(a.getD k default).who=(b.getD k default).who->(a.getD k default).n=(b.getD k default).n->(a.getD k default).rsp=(b.getD k default).rsp->a.getD k default=b.getD k default:=(by generalize a.getD k default=x;generalize b.getD k default=y;obtain⟨A,x2,B⟩:=x;obtain⟨C,D,E⟩:=y;dsimp only;intro o p s;subst o;subst p;subst s;rfl);repeat' first| (first|apply vI|refine Y6 (fun h=> ?_) fun h=> ?_|apply sj (a:=(a.getD k default).rsp) (b:=(b.getD k default).rsp) d1 d2)<;>(simp only[go_sem];try simp (disch:=omega) only[Iw])|apply vT (by omega)|refine iR (fun h=> ?_) fun h=> ?_|refine⟨by omega,?_⟩|fail
   ·refine aQ d _ rfl rfl (gV (c fun he=>absurd (congrArg Job.who he) (by assumption)))
   ·refine aQ d _ rfl rfl (gV (c fun he=>absurd (congrArg Job.n he) (by assumption)))
   ·refine aQ d _ rfl rfl (gV (c fun he=>absurd (congrArg Job.rsp he) (by assumption)))
   · (refine g _ _ _ ⟨k+1,by omega,bT hinv (heq (by omega) (by omega) (Classical.not_not.1 (by assumption)))⟩ (by omega) (by(try dsimp only);omega) (bI (ac1 _) (by repeat' first| (with_reducible first|exact C1|apply C2)| ((with_reducible apply D0);exact CA rfl)|fail)))
  ·repeat' first|apply vI<;>(simp only[go_sem])|apply vF (by omega)|refine bX rfl ?_|fail
   refine aQ d _ rfl rfl (nB (SQ hl fun i hi=>hinv i (by omega)))
 ·repeat' first|apply vI<;>(simp only[go_sem])|apply vT (by omega)|fail
  refine aQ d _ rfl rfl (gV fun he=>hl (by rw[he]))
theorem xg{a:List Int}{b:List Int}{u:List Int}{v:List Int}(c:a.length<2^40)(d:b.length<2^40)(hu:u.length<2^40)(e:v.length<2^40)(h:K (dB (decide (a=u/\b=v))) H nx):ag1 KC [.one (.agg [.isl (a.map aF),.isl (b.map aF)]),.one (.agg [.isl (u.map aF),.isl (v.map aF)])] H nx K:=by
 refine aC.pure (args0:=[.one (.agg [.isl (a.map aF),.isl (b.map aF)]),.one (.agg [.isl (u.map aF),.isl (v.map aF)])]) (R:=fun f=>f=dB (decide (a=u/\b=v))) ?_ rfl (aM ⟨aE rfl,aE rfl,trivial⟩) (fun r hr=>hr▸h);clear h;refine aR.mk Tryz.func99 (by kernel_rfl) qe rfl fun Q g=> ?_;unfold BM;repeat' first| (first|apply vI|refine Y6 (fun h=> ?_) fun h=> ?_|apply BQ c hu|apply BQ d e)<;>(simp only[go_sem])|fail
 all_goals first|with_reducible refine aQ g _ rfl rfl ?_|skip
 all_goals first|exact nB (by simp_all)|exact gV (by simp_all)|exact nJ (by simp_all)
end
end Go.Proofs.YtlncecohbakleaaGreat
