/- Rules and contracts. -/
import Derived.Test.YtlncecohbakleaaGreatPR7
import Derived.Test.YtlncecohbakleaaGreatPR8
set_option linter.unusedVariables false
set_option linter.unusedSimpArgs false
set_option maxRecDepth 100000
set_option maxHeartbeats 8000000
namespace Go.AM
abbrev Z6:=List Job
def O5(l:Z6):List D1:=[.isl (l.map aT)]
theorem Ju{l:Z6}:(O5 l).length=1:=rfl
theorem xp{l:Z6}:(O5 l).take 1=[.isl (l.map aT)]:=rfl
theorem zb{l:Z6}:(O5 l).drop 1=[]:=rfl
theorem Bb{l:Z6}{cs:List D1}{k:Nat}:j9 cs (k+1) (O5 l)=j9 cs (k+1) [.isl (l.map aT)]:=rfl
theorem Qn(l:Z6):(O5 l).length=1/\(O5 l).all D1.eS=true:=⟨rfl,rfl⟩
attribute [go_sem] Ju xp zb Bb
theorem Kc{S R:List Job}{x:Job}{j:Nat}(c:0<j)(d:j<=S.length):((UK S x j++R).set j (S.getD (j-1) default)).set (j-1) x=UK S x (j-1)++R:=by
 have a:S.take j=S.take (j-1)++[S.getD (j-1) default]:=by have:=fC (l:=S) (k:=j-1) (by omega);rwa [show j-1+1=j by omega] at this
 have b:S.drop (j-1)=S.getD (j-1) default::S.drop j:=by have:=acR (l:=S) (i:=j-1) (by omega);rw[this,show j-1+1=j by omega];simp[List.getD,show j-1<S.length by omega]
 have hl:(S.take (j-1)).length=j-1:=by simp;omega
 unfold UK;rw[a,b];generalize S.take (j-1)=A at*;generalize S.drop j=B;generalize S.getD (j-1) default=y;simp only[abY,List.cons_append,List.nil_append,List.singleton_append];obtain rfl:j=A.length+1:=by omega
 rw[List.set_append_right _ _ (by omega)];simp
theorem Vk{S R:List Job}{x:Job}{j:Nat}(a:j<=S.length):(UK S x j++R).getD j default=x:=by
 have hl:(S.take j).length=j:=by simp;omega
 unfold UK;simp[List.getD,hl,abY,adM]
theorem Db{S R:List Job}{x:Job}{j:Nat}(a:0<j)(b:j<=S.length):(UK S x j++R).getD (j-1) default=S.getD (j-1) default:=by unfold UK;simp only[List.getD,abY];rw[adC (by simp;omega),List.getElem?_take_of_lt (by omega)]
end Go.AM
namespace Go.Proofs.YtlncecohbakleaaGreat
open Go Go.AM
attribute [local irreducible] aJ wv aC vd wvH
section
variable{H:aA}{nx:Nat}{K:afC}
variable{l:List Job}
theorem Cy(h: ∀i,i<l.length->1<=i->Dk (l.getD (i-1) default) (l.getD i default)<0):jA l:=by
 have a: ∀(d i:Nat) (hi:i+d+1<l.length),fY (l.getD i default) (l.getD (i+d+1) default)=true:=by
  intro d
  induction d with
  |zero=>intro i hi;have:=h (i+1) (by omega) (by omega);rw[NB] at this;simpa using this
  |succ d b=>intro i hi;have g:=b i (by omega);have c:=h (i+d+2) (by omega) (by omega);rw[NB,show i+d+2-1=i+d+1 by omega] at c;rw[show i+(d+1)+1=i+d+2 by omega];rw[rO] at*;omega
 refine acH.2 fun i j hi e f=> ?_;have:=a (j-i-1) i (by omega);rw[show i+(j-i-1)+1=j by omega] at this;simpa [List.getD,hi,e] using this
theorem zK(hl:l.length<2^21){j:D}(c:CvD H (fun _=>True) id 0 (dS (l.map aT)) j)(h:K (dB (decide (jA l))) H nx):afB AF [j] H nx K:=by
 refine aC.pure (args0:=[dS (l.map aT)]) (R:=fun n=>n=dB (decide (jA l))) ?_ rfl (aK ⟨c,trivial⟩) (fun r hr=>hr▸h);clear h;refine aR.mk Tryz.func284 (by kernel_rfl) YR rfl fun Q m=> ?_;unfold xH;repeat' first|apply vI<;>(simp only[go_sem])|fail
 refine aJ.B2 0 (β:=Nat) (fun b k=>en [(3,dI k),(0,dS (l.map aT))]) (fun b k=>hp []) (fun k=>(1<=k/\(k<=l.length\/k=1))/\ ∀i,i<k->i<l.length->1<=i->Dk (l.getD (i-1) default) (l.getD i default)<0) (fun k=>l.length-k) 1 (bF (abG _) (by repeat' first|exact C1|refine xqI rfl rfl ?_|fail)) ⟨by omega,fun i hi _ _=>by omega⟩ ?_;rintro k ⟨q,hinv⟩ s d;by_cases a:k<l.length
 ·have o:((k:Int)-1).toNat=k-1:=by omega
  repeat' first| (first|apply vI|apply EL)<;>(simp only[go_sem,o];try simp (disch:=omega) only[Iw])|apply vT (by omega)|refine iE (fun h=> ?_) fun h=> ?_|refine⟨by omega,?_⟩|fail
  ·refine aP m (dB false) rfl rfl (fX fun hs=> ?_);have p:=acH.1 hs (k-1) k (by omega) a (by omega);have t:Dk (l.getD (k-1) default) (l.getD k default)<0:=(by rw[NB];simpa [List.getD,a,show k-1<l.length by omega] using p);omega
  ·exact d _ _ _ (k+1) (by omega) (bF (abG _) (by repeat' first|exact C1|refine xqI rfl rfl ?_|fail)) ⟨by omega,fun i hi e f=>by
    rcases aeN.1 hi with g|g
    ·exact hinv i g e f
    ·subst g;omega⟩ (by omega)
 ·repeat' first|apply vI<;>(simp only[go_sem])|apply vF (by omega)|fail
  exact aP m (dB true) rfl rfl (l8 (Cy fun i hi f=>hinv i (by omega) hi f))
theorem Q4{r:Rsp}(hr:r.data.length<2^40)(h:K (dB (decide (r=jZ))) H nx):afB nB [dA (mS r)] H nx K:=by
 refine aC.pure (args0:=[dA (mS r)]) (R:=fun a=>a=dB (decide (r=jZ))) ?_ rfl (aK ⟨aF rfl,trivial⟩) (fun r hr=>hr▸h);clear h;refine aR.mk Tryz.func285 (by kernel_rfl) OP rfl fun Q b=> ?_;unfold mC;repeat' first| (first|apply vI|refine Y6 (fun h=> ?_) fun h=> ?_)<;>(simp only[go_sem])|fail
 all_goals first|with_reducible refine aP b _ rfl rfl ?_|skip
 all_goals (obtain⟨c,d,e⟩:=r;unfold jZ;dsimp only at*;first|exact l8 (by simp_all)|exact fX (by simp_all)|exact nU (by simp_all)|exact nU (by simp only[Rsp.mk.injEq];rw[<-acX];omega))
theorem vt{r:Rsp}(hr:r.data.length<2^40)(h:K (dB (decide (jU r))) H nx):afB xJ [dA (mS r)] H nx K:=by
 refine aC.pure (args0:=[dA (mS r)]) (R:=fun a=>a=dB (decide (jU r))) ?_ rfl (aK ⟨aF rfl,trivial⟩) (fun r hr=>hr▸h);clear h;refine aR.mk Tryz.func283 (by kernel_rfl) jw rfl fun Q b=> ?_;unfold AN;repeat' first| (first|apply vI|refine Y6 (fun h=> ?_) fun h=> ?_|apply cV|refine BK hr (aF rfl) ?_)<;>(simp only[go_sem])|fail
 all_goals first|with_reducible refine aP b _ rfl rfl ?_|skip
 all_goals first|exact fX (by unfold jU;grind)|exact nU (by unfold jU;grind)|exact l8 (by unfold jU;grind)
theorem B6{r:Rsp}(hr:r.data.length<2^40)(h:K (dB (decide (r=jZ))) H nx):afB nB [.one (.agg [cI r.id,cI r.code,.isl (r.data.map aH)])] H nx K:=Q4 hr h
theorem rQ{r:Rsp}(hr:r.data.length<2^40)(h:K (dB (decide (jU r))) H nx):afB xJ [.one (.agg [cI r.id,cI r.code,.isl (r.data.map aH)])] H nx K:=vt hr h
def XF(l:List Job):List (List Int×Int):=l.map fun j=>([j.who,j.n],1)
theorem Pb{j:Job}(h:key j∉l.map key):jX (XF l) [j.who,j.n]=none:=by unfold jX XF;rw[Option.map_eq_none_iff,List.find?_eq_none];intro p hp;obtain⟨x,a,rfl⟩:=abP.1 hp;simp only[List.cons.injEq,and_true,decide_eq_true_eq];intro he;exact h (abP.2 ⟨x,a,by simp[key,he.1,he.2]⟩)
theorem Nw{j:Job}(h:key j∉l.map key):A8 (XF l) [j.who,j.n] 1=XF (l++[j]):=by
 induction l with
 |nil=>rfl
 |cons x l b=>simp only[abZ,abQ,not_or] at h;have a: ¬[j.who,j.n]=[x.who,x.n]:=fun he=>h.1 (by simp only[List.cons.injEq,and_true] at he;simp[key,he.1,he.2]);show A8 (([x.who,x.n],1)::XF l) _ _=_;simp only[A8,a,if_false,b h.2];rfl
theorem Ro:(XF l).length=l.length:=by simp[XF]
theorem Rd{l:List Int}{k:Nat}(h:k<l.length):(l.take (k+1)).sum=(l.take k).sum+l.getD k default:=by rw[adN h,List.sum_append];simp[List.getD,h]
theorem Iz{l:List Int}(h:l.length=3):(l.take 3).sum=l.getD 0 default+l.getD 1 default+l.getD 2 default:=by
 match l,h with
 | [a,b,c],_=>simp[List.getD];omega
theorem bo{w u:List Int}(h:VX w u):o7 w u:=⟨⟨by rw[h.wl];rfl,h.wr⟩,by rw[h.hl];rfl,h.hr⟩
end
attribute [go_sem] ab0
section
variable{H:aA}{nx:Nat}{K:afC}
theorem jq{old:Int}{new:Int}{lanes:Int}(a:0<=old/\old<=65535)(b:0<=new/\new<=65535)(c:0<=lanes/\lanes<=3)(h:K (dI (xE old new lanes)) H nx):afB GK [dI old,dI new,dI lanes] H nx K:=by
 refine aC.pure (args0:=[dI old,dI new,dI lanes]) (R:=fun d=>d=dI (xE old new lanes)) ?_ rfl (aK ⟨aF rfl,aF rfl,aF rfl,trivial⟩) (fun r hr=>hr▸h);clear h;refine aR.mk Tryz.func329 (by kernel_rfl) YH rfl fun Q e=> ?_;unfold vX;repeat' first| (first|apply vI|apply Y5 (by omega)|apply bB)<;>(simp only[go_sem,ac0 a.1,aeC a.1,ac0 b.1,aeC b.1,ac0 c.1,aeC c.1];try simp (disch:=omega) only[Iw])|apply vF (by omega)|refine iE (fun h=> ?_) fun h=> ?_|fail
 all_goals first|with_reducible refine aP e _ rfl rfl ?_|skip
 all_goals exact nP (by unfold xE;simp[*])
theorem sw(w all:List Int)(wc wm:Nat)(g:w.length=64)(h:64<=wc)(i:All all 0 63)(j:all.length<2^21):afB xB [dA [.osl 1 0 0 64 wc],dS (all.map aH)] (hp [(0,⟨1,wm,w.map aH⟩)]) 1
 fun r H' n'=>n'=1/\ ∃o',H'=hp [(0,o')]/\l9 o'/\o'=⟨1,wm,w.map aH⟩/\r=dS ((all.map fun a=>w.getD a.toNat default).map aH):=by
 refine aR.mk Tryz.func289 (by kernel_rfl) iy rfl fun Q m=> ?_
 unfold AR
 repeat' first|apply vI<;>(simp only[go_sem])|fail
 refine aJ.B2 2 (β:=Nat×Nat) (fun b u=>en [(6,dI u.1),(5,dO 1 (b+1) u.1 u.2),(2,dP 1 b),(1,dS (all.map aH))])
  (fun b u=>hp [(0,⟨1,wm,w.map aH⟩),(b,⟨1,1,[[.osl 1 0 0 64 wc]]⟩),(b+1,⟨1,u.2,((all.take u.1).map fun a=>w.getD a.toNat default).map aH⟩)]) (fun u=>u.1<=all.length/\u.1<=u.2) (fun u=>all.length-u.1) (0,0)
  (by(refine eM [1,3,0] (by omega) (by repeat' first|exact C1|refine xqI rfl rfl ?_|refine xqP (by omega) rfl rfl ?_|refine xqO (by omega) rfl rfl (by rfl) ?_|fail) ⟨⟨by simp,by simp[sgL],_,rfl,cD (aN aV _) rfl rfl⟩,⟨by simp,by simp[sgL],_,rfl,bA (by repeat' first|exact C1| (with_reducible first|exact C3|apply C4)| ((with_reducible apply C0);exact CQ (by omega) rfl rfl (by rfl) rfl)|fail)⟩,⟨by simp,by simp[sgL],_,rfl,cD (aN aV _) rfl rfl⟩,trivial⟩ (by simp[sgL]))) ⟨by omega,by omega⟩ ?_
 rintro⟨k,cap⟩ ⟨n,hc⟩ p d
 dsimp only at n hc
 by_cases c:k<all.length
 ·have q:=sX i c;repeat' first|apply vI<;>(simp only[go_sem];try simp (disch:=omega) only[Iw])|apply vT (by omega)| (with_reducible first|refine fun(cap:Nat) (f:_<=cap)=> ?_|refine fun(o:_<=cap)=> ?_)|refine⟨by omega,?_⟩| (refine⟨by(rw[ab5];omega),?_⟩)|fail
  refine d _ _ _ (k+1,cap) (by omega) (by(refine eM [6,22,0] (by omega) (by repeat' first|exact C1|refine xqI rfl rfl ?_|refine xqP (by omega) rfl rfl ?_|refine xqO (by omega) rfl rfl (by rfl) ?_|fail) ⟨⟨by simp,by simp[sgL],_,rfl,cD (aN aV _) rfl rfl⟩,⟨by simp,by simp[sgL],_,rfl,bA (by repeat' first|exact C1| (with_reducible first|exact C3|apply C4)| ((with_reducible apply C0);exact CQ (by omega) rfl rfl (by rfl) rfl)|fail)⟩,⟨by simp,by simp[sgL],_,rfl,cD (aN aV _) (by rw[fC c,abU,abM (l:=List.map _ (List.take k all)) (by simp;omega)];rfl) rfl⟩,trivial⟩ (by simp[sgL]))) ⟨by dsimp only;omega,by dsimp only;omega⟩ (by dsimp only;omega)
 ·repeat' first|apply vI<;>(simp only[go_sem])|apply vF (by omega)|fail
  have e:k=all.length:=by omega
  subst e;exact jS m (dS _) _ _ rfl (pL (l:=(all.take all.length).map fun a=>w.getD a.toNat default) aV rfl (by simp) (by simp;omega) (by decide)) rfl (fB aV _) ⟨rfl,by rw[acI]⟩
variable{w:List Int}
theorem uu{all:List Int}{wc wm i:Nat}(b:w.length=64)(c:64<=wc)(e:All all 0 63)(d:all.length<2^21)(hi:i<nx)(f:H i=some ⟨1,wm,w.map aH⟩)(h:K (dS ((all.map fun a=>w.getD a.toNat default).map aH)) (H.set i ⟨1,wm,w.map aH⟩) nx):
 afB xB [dA [.osl 1 i 0 64 wc],dS (all.map aH)] H nx K:=
 (sw w all wc wm b c e d).LD i rfl (eF ⟨aG (r9 (by omega) rfl rfl rfl rfl) cJ,aF rfl,trivial⟩) hi f (fB aV _) fun r o' ⟨g,j⟩=>by subst g;subst j;exact h
theorem uo(w all data lanes:List Int)(wc wm:Nat)(h:w.length=64)(hw:All w 0 65535)(i:64<=wc)(j:All all 0 63)(l:all.length<2^21)(g:All data 0 65535)(m:data.length=all.length)(hl:All lanes 0 3)(n:lanes.length=all.length):
 afB xD [dA [.osl 1 0 0 64 wc],dS (all.map aH),dS (data.map aH),dS (lanes.map aH)] (hp [(0,⟨1,wm,w.map aH⟩)]) 1
 fun r H' n'=>n'=1/\ ∃o',H'=hp [(0,o')]/\l9 o'/\o'=⟨1,wm,(Q1 w all data lanes all.length).map aH⟩/\r=dA [.osl 1 0 0 64 wc]:=by
 refine aR.mk Tryz.func290 (by kernel_rfl) jn rfl fun Q o=> ?_
 unfold zE
 repeat' first|apply vI<;>(simp only[go_sem])|fail
 refine aJ.B2 2 (β:=Nat) (fun b k=>en [(9,dI k),(8,dP 1 (b+1)),(4,dP 1 b),(3,dS (lanes.map aH)),(2,dS (data.map aH)),(1,dS (all.map aH))])
  (fun b k=>hp [(0,⟨1,wm,(Q1 w all data lanes k).map aH⟩),(b,⟨1,1,[[.osl 1 0 0 64 wc]]⟩),(b+1,⟨1,1,[[.osl 0 0 0 0 0]]⟩)]) (fun k=>k<=all.length) (fun k=>all.length-k) 0
  (by(refine eM [1,2,0] (by omega) (by repeat' first|exact C1|refine xqI rfl rfl ?_|refine xqP (by omega) rfl rfl ?_|fail) ⟨⟨by simp,by simp[sgL],_,rfl,cD (aN aV _) rfl rfl⟩,⟨by simp,by simp[sgL],_,rfl,bA (by repeat' first|exact C1| (with_reducible first|exact C3|apply C4)| ((with_reducible apply C0);exact CQ (by omega) rfl rfl (by rfl) rfl)|fail)⟩,⟨by simp,by simp[sgL],_,rfl,bA (by repeat' first|exact C1| (with_reducible first|exact C3|apply C4)| ((with_reducible apply C0);exact CC)|fail)⟩,trivial⟩ (by simp[sgL]))) (by omega) ?_
 rintro k q s a
 have p:=YS (w:=w) (all:=all) (data:=data) (lanes:=lanes) k
 have c:=tg (all:=all) (lanes:=lanes) hw g k
 by_cases d:k<all.length
 ·have t:=sX j d;have e:(all.getD k default).toNat<(Q1 w all data lanes k).length:=by omega
  repeat' first| (first|apply vI|apply jq (sX c e) (sX g (by omega)) (sX hl (by omega)))<;>(simp only[go_sem];try simp (disch:=omega) only[Iw])|apply vT (by omega)|refine⟨by omega,?_⟩|fail
  exact a _ _ _ (k+1) (by omega) (by(refine eM [4,5,0] (by omega) (by repeat' first|exact C1|refine xqI rfl rfl ?_|refine xqP (by omega) rfl rfl ?_|fail) ⟨⟨by simp,by simp[sgL],_,rfl,cD (aN aV _) rfl rfl⟩,⟨by simp,by simp[sgL],_,rfl,bA (by repeat' first|exact C1| (with_reducible first|exact C3|apply C4)| ((with_reducible apply C0);exact CQ (by omega) rfl rfl (by rfl) rfl)|fail)⟩,⟨by simp,by simp[sgL],_,rfl,bA (by repeat' first|exact C1| (with_reducible first|exact C3|apply C4)| ((with_reducible apply C0);exact CC)|fail)⟩,trivial⟩ (by simp[sgL]))) (by omega) (by omega)
 ·repeat' first|apply vI<;>(simp only[go_sem])|apply vF (by omega)|fail
  have f:k=all.length:=by omega
  subst f;exact jS o (dA [.osl 1 0 0 64 wc]) _ _ rfl (aG (r9 (by omega) rfl rfl rfl rfl) cJ) rfl (fB aV _) ⟨rfl,rfl⟩
theorem uq{all data lanes:List Int}{wc wm i:Nat}(a:w.length=64)(hw:All w 0 65535)(b:64<=wc)(f:All all 0 63)(c:all.length<2^21)(g:All data 0 65535)(d:data.length=all.length)(hl:All lanes 0 3)(e:lanes.length=all.length)
 (hi:i<nx) (j:H i=some ⟨1,wm,w.map aH⟩) (h:K (dA [.osl 1 i 0 64 wc]) (H.set i ⟨1,wm,(Q1 w all data lanes all.length).map aH⟩) nx):
 afB xD [dA [.osl 1 i 0 64 wc],dS (all.map aH),dS (data.map aH),dS (lanes.map aH)] H nx K:=
 (uo w all data lanes wc wm a hw b f c g d hl e).LD i rfl (eF ⟨aG (r9 (by omega) rfl rfl rfl rfl) cJ,aF rfl,aF rfl,aF rfl,trivial⟩) hi j (fB aV _) fun r o' ⟨k,l⟩=>by subst k;subst l;exact h
theorem iz(w hs all:List Int)(wc wm hc hm:Nat)(q:hs.length=6)(s:6<=hc)(t:all.length<2^21)(y:All all 0 63):
 afB rW [dA [.osl 1 0 0 64 wc,.osl 1 1 0 6 hc],dS (all.map aH)] (hp [(0,⟨1,wm,w.map aH⟩),(1,⟨1,hm,hs.map aH⟩)]) 2
 fun r H' n'=>n'=2/\ ∃a c,H'=hp [(0,a),(1,c)]/\l9 a/\l9 c/\a=⟨1,wm,w.map aH⟩/\c=⟨1,hm,(qS hs all).map aH⟩/\r=dA [.osl 1 0 0 64 wc,.osl 1 1 0 6 hc]:=by
 refine aR.mk Tryz.func291 (by kernel_rfl) Z4 rfl fun Q z=> ?_
 unfold wK
 repeat' first|apply vI<;>(simp only[go_sem])|fail
 refine aJ.B2 2 (β:=Nat) (fun b k=>en [(5,dI k),(4,dP 2 (b+1)),(2,dP 2 b),(1,dS (all.map aH))])
  (fun b k=>hp [(0,⟨1,wm,w.map aH⟩),(1,⟨1,hm,(tT hs all k).map aH⟩),(b,⟨2,1,[[.osl 1 0 0 64 wc,.osl 1 1 0 6 hc]]⟩),(b+1,⟨2,1,[[.osl 0 0 0 0 0,.osl 0 0 0 0 0]]⟩)]) (fun k=>k<=6) (fun k=>6-k) 0
  (by(refine eM [2,3,0,1] (by omega) (by repeat' first|exact C1|refine xqI rfl rfl ?_|refine xqP (by omega) rfl rfl ?_|fail) ⟨⟨by simp,by simp[sgL],_,rfl,cD (aN aV _) rfl rfl⟩,⟨by simp,by simp[sgL],_,rfl,cD (aN aV _) (congrArg _ gg) rfl⟩,⟨by simp,by simp[sgL],_,rfl,bA (by repeat' first|exact C1| (with_reducible first|exact C3|apply C4)| ((with_reducible apply C0);exact CQ (by omega) rfl rfl (by rfl) rfl)|fail)⟩,⟨by simp,by simp[sgL],_,rfl,bA (by repeat' first|exact C1| (with_reducible first|exact C3|apply C4)| ((with_reducible apply C0);exact CC)|fail)⟩,trivial⟩ (by simp[sgL]))) (by omega) ?_
 rintro k F G g
 have A:=pg (all:=all) (show k<=hs.length by omega)
 by_cases B:k<6
 ·have C:=yw (all:=all) (show k<hs.length by omega);have i:=ZE (all:=all) (show k<hs.length by omega);repeat' first|apply vI<;>(simp only[go_sem])|apply vT (by omega)|fail
  refine aJ.B2 0 (β:=Nat×Int) (fun b u=>en [(6,dI u.1),(5,dI k),(4,dP 2 6),(2,dP 2 5),(1,dS (all.map aH))])
   (fun b u=>hp [(0,⟨1,wm,w.map aH⟩),(1,⟨1,hm,((tT hs all k).set k u.2).map aH⟩),(5,⟨2,1,[[.osl 1 0 0 64 wc,.osl 1 1 0 6 hc]]⟩),(6,⟨2,1,[[.osl 0 0 0 0 0,.osl 0 0 0 0 0]]⟩)]) (fun u=>u.1<=all.length/\u.2=if hs.getD k default∈all.take u.1 then-1 else hs.getD k default) (fun u=>all.length-u.1) (0,hs.getD k default)
   (by(refine eM [0,1,5,6] (by omega) (by repeat' first|exact C1|refine xqI rfl rfl ?_|refine xqP (by omega) rfl rfl ?_|fail) ⟨⟨by simp,by simp[sgL],_,rfl,cD (aN aV _) rfl rfl⟩,⟨by simp,by simp[sgL],_,rfl,cD (aN aV _) (congrArg _ i) rfl⟩,⟨by simp,by simp[sgL],_,rfl,bA (by repeat' first|exact C1| (with_reducible first|exact C3|apply C4)| ((with_reducible apply C0);exact CQ (by omega) rfl rfl (by rfl) rfl)|fail)⟩,⟨by simp,by simp[sgL],_,rfl,bA (by repeat' first|exact C1| (with_reducible first|exact C3|apply C4)| ((with_reducible apply C0);exact CC)|fail)⟩,trivial⟩ (by simp[sgL]))) ⟨by omega,by simp⟩ ?_
  rintro⟨j,v⟩ ⟨D,o⟩ H d;dsimp only at D o;by_cases e:j<all.length
  ·have I:=sX y e;have E:((tT hs all k).set k v).getD k default=v:=(by rw[OA (by omega),if_pos rfl]);have f: ∀x,((tT hs all k).set k v).set k x=(tT hs all k).set k x:=fun x=>by rw[acE]
   have p:=fC e;repeat' first|apply vI<;>(simp only[go_sem,E,f];try simp (disch:=omega) only[Iw])|apply vT (by omega)|refine iE (fun h=> ?_) fun h=> ?_|refine⟨by omega,?_⟩|fail
   ·exact d _ _ _ (j+1,-1) (by omega) (by(refine eM [0,1,5,6] (by omega) (by repeat' first|exact C1|refine xqI rfl rfl ?_|refine xqP (by omega) rfl rfl ?_|fail) ⟨⟨by simp,by simp[sgL],_,rfl,cD (aN aV _) rfl rfl⟩,⟨by simp,by simp[sgL],_,rfl,cD (aN aV _) rfl rfl⟩,⟨by simp,by simp[sgL],_,rfl,bA (by repeat' first|exact C1| (with_reducible first|exact C3|apply C4)| ((with_reducible apply C0);exact CQ (by omega) rfl rfl (by rfl) rfl)|fail)⟩,⟨by simp,by simp[sgL],_,rfl,bA (by repeat' first|exact C1| (with_reducible first|exact C3|apply C4)| ((with_reducible apply C0);exact CC)|fail)⟩,trivial⟩ (by simp[sgL]))) ⟨by dsimp only;omega,by dsimp only;rw[p];grind⟩ (by dsimp only;omega)
   ·exact d _ _ _ (j+1,v) (by omega) (by(refine eM [0,1,5,6] (by omega) (by repeat' first|exact C1|refine xqI rfl rfl ?_|refine xqP (by omega) rfl rfl ?_|fail) ⟨⟨by simp,by simp[sgL],_,rfl,cD (aN aV _) rfl rfl⟩,⟨by simp,by simp[sgL],_,rfl,cD (aN aV _) rfl rfl⟩,⟨by simp,by simp[sgL],_,rfl,bA (by repeat' first|exact C1| (with_reducible first|exact C3|apply C4)| ((with_reducible apply C0);exact CQ (by omega) rfl rfl (by rfl) rfl)|fail)⟩,⟨by simp,by simp[sgL],_,rfl,bA (by repeat' first|exact C1| (with_reducible first|exact C3|apply C4)| ((with_reducible apply C0);exact CC)|fail)⟩,trivial⟩ (by simp[sgL]))) ⟨by dsimp only;omega,by dsimp only;rw[p];grind⟩ (by dsimp only;omega)
  ·have l:j=all.length:=(by omega);subst l;have m:=qd (x:=v) (show k<hs.length by omega) (by rw[o,acI]);repeat' first|apply vI<;>(simp only[go_sem];try simp (disch:=omega) only[Iw])|apply vF (by omega)|fail
   exact g _ _ _ (k+1) (by omega) (by(refine eM [5,6,0,1] (by omega) (by repeat' first|exact C1|refine xqI rfl rfl ?_|refine xqP (by omega) rfl rfl ?_|fail) ⟨⟨by simp,by simp[sgL],_,rfl,cD (aN aV _) rfl rfl⟩,⟨by simp,by simp[sgL],_,rfl,cD (aN aV _) (by rw[m]) rfl⟩,⟨by simp,by simp[sgL],_,rfl,bA (by repeat' first|exact C1| (with_reducible first|exact C3|apply C4)| ((with_reducible apply C0);exact CQ (by omega) rfl rfl (by rfl) rfl)|fail)⟩,⟨by simp,by simp[sgL],_,rfl,bA (by repeat' first|exact C1| (with_reducible first|exact C3|apply C4)| ((with_reducible apply C0);exact CC)|fail)⟩,trivial⟩ (by simp[sgL]))) (by omega) (by omega)
 ·repeat' first|apply vI<;>(simp only[go_sem])|apply vF (by omega)|fail
  have n:k=hs.length:=by omega
  subst n;exact Oi z (dA [.osl 1 0 0 64 wc,.osl 1 1 0 6 hc]) _ _ _ rfl (by repeat' first|exact C1| ((with_reducible apply C0);exact CQ (by omega) rfl rfl (by rfl) rfl)| ((with_reducible apply D0);apply C9)|exact C3|apply C4|fail) rfl rfl (fB aV _) (fB aV _) ⟨rfl,by rw[px],rfl⟩
theorem kh{hs all:List Int}{wc wm hc hm i j:Nat}(a:hs.length=6)(b:6<=hc)(c:all.length<2^21)(g:All all 0 63)
 (hi:i<nx) (k:j<nx) (d:i≠j) (e:H i=some ⟨1,wm,w.map aH⟩) (f:H j=some ⟨1,hm,hs.map aH⟩) (h:K (dA [.osl 1 i 0 64 wc,.osl 1 j 0 6 hc]) ((H.set i ⟨1,wm,w.map aH⟩).set j ⟨1,hm,(qS hs all).map aH⟩) nx):
 afB rW [dA [.osl 1 i 0 64 wc,.osl 1 j 0 6 hc],dS (all.map aH)] H nx K:=
 (iz w hs all wc wm hc hm a b c g).Zz i j rfl (eF ⟨aG (r9 (by omega) rfl rfl rfl rfl) (aG (r9 (by omega) rfl rfl rfl rfl) cJ),aF rfl,trivial⟩) hi k d e f (fB aV _) (fB aV _) fun r l m ⟨n,o,p⟩=>by subst n;subst o;subst p;exact h
theorem yr(m:List Rng)(w hs:List Int)(who:Int)(q:Req)(wc wm hc hm:Nat)(v:m.length<2^21)(x:VX w hs)(e:64<=wc)(n:6<=hc)(hw:0<=who/\who<=2)(y:cR q):
 afB FN [dS (m.map cX),dA [.osl 1 0 0 64 wc,.osl 1 1 0 6 hc],dI who,dA (dM q)] (hp [(0,⟨1,wm,w.map aH⟩),(1,⟨1,hm,hs.map aH⟩)]) 2
 fun r H' n'=>n'=2/\ ∃b c,H'=hp [(0,b),(1,c)]/\l9 b/\l9 c/\b=⟨1,wm,(doM m w hs who q).1.1.map aH⟩/\c=⟨1,hm,(doM m w hs who q).1.2.map aH⟩/\r= .tup [.agg [.osl 1 0 0 64 wc,.osl 1 1 0 6 hc],.agg (mS (doM m w hs who q).2)]:=by
 obtain⟨f,o,s,z⟩:=x
 obtain⟨A,B,g,i,j,t,u,C⟩:=y
 have D:=yI g
 have E:=om g
 have F:=DY (addr:=q.addr) (many:=q.many) (wrap:=q.wrap)
 have d:All (bO q.addr q.many q.wrap) 0 63:=pv
 have G:=S1 (p:=(inR · ((bO q.addr q.many q.wrap).getD 0 default))) (l:=m)
 have H:eL m (bO q.addr q.many q.wrap)<m.length:=by unfold eL;grind
 have k:wrM q=true->q.data.length=(bO q.addr q.many q.wrap).length/\q.lanes.length=(bO q.addr q.many q.wrap).length:=by intro h;unfold wrM at h;unfold nG at i j;simp at h;simp only[h,if_true] at i j;omega
 refine aR.mk Tryz.func209 (by kernel_rfl) vr rfl fun Q a=> ?_
 unfold DN
 repeat' first| (first|apply vI| (refine Y7 (fun h=> ?_) (fun h=> ?_)<;>try subst h)|apply KZ|apply M8 (by omega) (by omega)|apply J6|refine uu f e d (by omega) (by omega) rfl ?_| (refine uq f o e d (by omega) t (k (by unfold wrM;simp;omega)).1 u (k (by unfold wrM;simp;omega)).2 (by omega) rfl ?_)|refine kh s n (by omega) d (by omega) (by omega) (by omega) rfl rfl ?_)<;>(simp only[go_sem];try simp (disch:=omega) only[Iw])|refine iE (fun h=> ?_) fun h=> ?_| ((refine y5 (fun h=> ?_) (fun h=> ?_))<;>try subst h)|refine⟨by omega,?_⟩|fail
 all_goals have I:=XN (q:=q)
 all_goals first
  |rw[xj (by assumption)] at a
  |rw[zy (by assumption) (by assumption) (by assumption)] at a
  |rw[yg (by assumption) (by assumption)] at a
  |rw[yl (by assumption) (by assumption)] at a
  |rw[Oy (by assumption) (by grind) (by assumption) (by assumption)] at a
  |rw[Gv (by assumption) (by grind) (by assumption) (by grind)] at a
  |rw[Gt (by assumption) (by grind) (by omega)] at a
  | (exfalso;grind)
 all_goals exact Oi a _ _ _ _ rfl (by repeat' first|exact C1| (with_reducible first|apply C5|apply C7)| ((with_reducible apply C0);first|exact CB rfl|exact CQ (by omega) rfl rfl (by rfl) rfl|exact CF)|exact C3|apply C4|fail) rfl rfl (fB aV _) (fB aV _) ⟨rfl,rfl,rfl⟩
theorem xt{m:List Rng}{hs:List Int}{who:Int}{q:Req}{wc wm hc hm i j:Nat}(a:m.length<2^21)(g:VX w hs)(b:64<=wc)(c:6<=hc)(hw:0<=who/\who<=2)(k:cR q)
 (hi:i<nx) (l:j<nx) (d:i≠j) (e:H i=some ⟨1,wm,w.map aH⟩) (f:H j=some ⟨1,hm,hs.map aH⟩)
 (h:K (.tup [.agg [.osl 1 i 0 64 wc,.osl 1 j 0 6 hc],.agg (mS (doM m w hs who q).2)]) ((H.set i ⟨1,wm,(doM m w hs who q).1.1.map aH⟩).set j ⟨1,hm,(doM m w hs who q).1.2.map aH⟩) nx):
 afB FN [dS (m.map cX),dA [.osl 1 i 0 64 wc,.osl 1 j 0 6 hc],dI who,dA (dM q)] H nx K:=
 (yr m w hs who q wc wm hc hm a g b c hw k).Zz i j rfl (eF ⟨aF rfl,aG (r9 (by omega) rfl rfl rfl rfl) (aG (r9 (by omega) rfl rfl rfl rfl) cJ),aF rfl,aF rfl,trivial⟩) hi l d e f (fB aV _) (fB aV _) fun r n o ⟨p,s,t⟩=>by subst p;subst s;subst t;exact h
end
section
variable{H:aA}{nx:Nat}{K:afC}
def oSt(i0 i1 a b wc hc ac c:Nat)(s:TSt):List D1:=[.osl 1 i0 0 64 wc,.osl 1 i1 0 6 hc,.osl 1 a 0 3 ac,.isl (s.wait.map aT),.isl (s.done.map aT),.osl 5 b 0 s.told.length c]
theorem O1{l:List Job}{a b:Int}(hl:l.length<2^21)(h:K (dS ((tL l ⟨a,b,jZ⟩).map aT)) H nx):afB nA [dS (l.map aT),dA [cI a,cI b,cI 0,cI 0,.osl 0 0 0 0 0]] H nx K:=(R5 l ⟨a,b,jZ⟩ hl).Xe rfl ⟨aF rfl,aG (bE rfl) (aG (bE rfl) (aG (bE rfl) (aG (bE rfl) (aG vZ cJ)))),trivial⟩ fun r hr=>hr▸h
theorem Ud{i0 i1 a b wc hc ac c:Nat}{s:TSt}:(oSt i0 i1 a b wc hc ac c s).length=6:=rfl
theorem Ns{i0 i1 a b wc hc ac c:Nat}{s:TSt}:(oSt i0 i1 a b wc hc ac c s).take 6=oSt i0 i1 a b wc hc ac c s:=rfl
theorem Mz{i0 i1 a b wc hc ac c k:Nat}{s:TSt}{cs:List D1}:j9 cs (k+1) (oSt i0 i1 a b wc hc ac c s)=j9 cs (k+1) [.osl 1 i0 0 64 wc,.osl 1 i1 0 6 hc,.osl 1 a 0 3 ac,.isl (s.wait.map aT),.isl (s.done.map aT),.osl 5 b 0 s.told.length c]:=rfl
attribute [go_sem] Ud Ns Mz
theorem Pu{j:Job}:cI j.who::cI j.n::mS j.rsp=aT j:=rfl
theorem od:afB lV [] (hp []) 0
 fun r H' n'=>n'=1/\H'=hp [(0,⟨1,64,(List.replicate 64 (0:Int)).map aH⟩)]/\r=dA [.osl 1 0 0 64 64]:=by
 refine aR.mk Tryz.func248 (by kernel_rfl) ae rfl fun Q a=> ?_
 unfold vN
 repeat' first|apply vI<;>(simp only[go_sem])|fail
 (refine a _ _ _ _ _ 1 (dA [.osl 1 0 0 64 64]) (hp [(0,⟨1,64,(List.replicate 64 (0:Int)).map aH⟩)]) _ _ (.inr rfl) rfl (jT [1] (by omega) (by repeat' first|exact C1| ((with_reducible apply C0);exact CQ (by omega) rfl rfl (by rfl) rfl)| ((with_reducible apply D0);apply C9)|exact C3|apply C4|fail) ⟨⟨by simp,by simp[sgL],_,rfl,cD (aN aV _) rfl rfl⟩,trivial⟩ (by simp[sgL])) ?_)
 exact⟨rfl,rfl,rfl⟩
theorem QA(h:K (dA [.osl 1 nx 0 64 64]) (H.set nx ⟨1,64,(List.replicate 64 (0:Int)).map aH⟩) (nx+1)):afB lV [] H nx K:=by
 refine od.JG (l0:=[]) [] rfl trivial trivial (by simp) (by simp) (by simp) fun r H' n' _ ⟨a,b,c⟩=> ?_;subst a;subst b;subst c;have d:back (tau 0 nx (nth [])) (hp [(0,⟨1,64,(List.replicate 64 (0:Int)).map aH⟩)]) 1 H=H.set nx ⟨1,64,(List.replicate 64 (0:Int)).map aH⟩:=by simp only[back,hp,aA.set,tau,acC,if_true,if_false,Nat.sub_zero,Nat.add_zero,Option.map_some,EG,aA.iS]
 rw[<-d] at h;exact h
theorem gy:afB nX [] (hp []) 0
 fun r H' n'=>∃hc,6<=hc/\n'=2/\H'=hp [(0,⟨1,64,(List.replicate 64 (0:Int)).map aH⟩),(1,⟨1,hc,(List.replicate 6 (-1:Int)).map aH⟩)]/\r=dA [.osl 1 0 0 64 64,.osl 1 1 0 6 hc]:=by
 refine aR.mk Tryz.func166 (by kernel_rfl) ZZ rfl fun Q j=> ?_
 unfold wI
 generalize a:List.replicate 64 (0:Int)=d
 have e: ∀{H:aA} {nx:Nat} {K:afC},K (dA [.osl 1 nx 0 64 64]) (H.set nx ⟨1,64,d.map aH⟩) (nx+1)->afB lV [] H nx K:=fun h=>by subst a;exact QA h
 repeat' first| (first|apply vI|apply e)<;>(simp only[go_sem])|fail
 apply aJ.mM 1
 refine aJ.B2 4 (β:=Nat×Nat) (fun b u=>en [(2,dI u.1),(1,dP 2 (b+1)),(0,dP 2 b)])
  (fun b u=>hp [(b,⟨2,1,[[.osl 0 0 0 0 0,.osl 0 0 0 0 0]]⟩),(b+1,⟨2,1,[[.osl 1 (b+2) 0 64 64,.osl 1 (b+3) 0 u.1 u.2]]⟩),(b+2,⟨1,64,d.map aH⟩),(b+3,⟨1,u.2,(List.replicate u.1 (-1:Int)).map aH⟩)]) (fun u=>u.1<=6/\u.1<=u.2) (fun u=>6-u.1) (0,0)
  ?_ ⟨by dsimp only;omega,by dsimp only;omega⟩ ?_
 · (refine eM [0,3,5,7] (by omega) (by repeat' first| (with_reducible first|exact C1|apply C2)| ((with_reducible apply C0);exact CE (by omega) rfl)| ((with_reducible apply D0);first|exact CA rfl|apply CJ)|fail) ⟨⟨by simp,by simp[sgL],_,rfl,bA (by repeat' first| (with_reducible first|exact C3|apply C4)| ((with_reducible apply C0);exact CC)|fail)⟩,⟨by simp,by simp[sgL],_,rfl,bA (by repeat' first|exact C1| (with_reducible first|exact C3|apply C4)| ((with_reducible apply C0);first|exact CC|exact CQ (by omega) rfl rfl (by rfl) rfl)|fail)⟩,⟨by simp,by simp[sgL],_,rfl,cD (aN aV _) rfl rfl⟩,⟨by simp,by simp[sgL],_,rfl,cD (aN aV _) rfl rfl⟩,trivial⟩ (by simp[sgL]))
 ·rintro⟨k,cap⟩ ⟨l,hc⟩ o f;dsimp only at l hc;have c:List.replicate (k+1) (-1:Int)=List.replicate k (-1)++[-1]:=List.replicate_succ';by_cases m:k<6
  ·repeat' first|apply vI<;>(simp only[go_sem];try simp (disch:=omega) only[Iw])|apply vT (by omega)| (with_reducible first|refine fun(cap:Nat) (i:_<=cap)=> ?_|refine fun(n:_<=cap)=> ?_)|refine⟨by omega,?_⟩|fail
   exact f _ _ _ (k+1,cap) (by omega) (by(refine eM [8,9,10,17] (by omega) (by repeat' first|exact C1| (with_reducible first|exact C1|apply C2)| ((with_reducible apply C0);exact CE (by omega) rfl)| ((with_reducible apply D0);first|exact CA rfl|apply CJ)|fail) ⟨⟨by simp,by simp[sgL],_,rfl,bA (by repeat' first| (with_reducible first|exact C3|apply C4)| ((with_reducible apply C0);exact CC)|fail)⟩,⟨by simp,by simp[sgL],_,rfl,bA (by repeat' first|exact C1| (with_reducible first|exact C3|apply C4)| ((with_reducible apply C0);exact CQ (by omega) rfl rfl (by rfl) rfl)|fail)⟩,⟨by simp,by simp[sgL],_,rfl,cD (aN aV _) rfl rfl⟩,⟨by simp,by simp[sgL],_,rfl,cD (aN aV _) (congrArg _ c) rfl⟩,trivial⟩ (by simp[sgL]))) ⟨by dsimp only;omega,by dsimp only;omega⟩ (by dsimp only;omega)
  ·repeat' first|apply vI<;>(simp only[go_sem])|apply vF (by omega)|refine bX rfl ?_|fail
   have g:k=6:=(by omega);subst g;(refine j _ _ _ _ _ 2 (dA [.osl 1 0 0 64 64,.osl 1 1 0 6 cap]) (hp [(0,⟨1,64,d.map aH⟩),(1,⟨1,cap,(List.replicate 6 (-1:Int)).map aH⟩)]) _ _ (.inr rfl) rfl (jT [10,11] (by omega) (by repeat' first|exact C1| ((with_reducible apply C0);exact CQ (by omega) rfl rfl (by rfl) rfl)| ((with_reducible apply D0);apply C9)|exact C3|apply C4|fail) ⟨⟨by simp,by simp[sgL],_,rfl,cD (aN aV _) rfl rfl⟩,⟨by simp,by simp[sgL],_,rfl,cD (aN aV _) rfl rfl⟩,trivial⟩ (by simp[sgL])) ?_);exact⟨cap,hc,rfl,by rw[a],rfl⟩
theorem P6(h: ∀hc,6<=hc->K (dA [.osl 1 nx 0 64 64,.osl 1 (nx+1) 0 6 hc]) ((H.set nx ⟨1,64,(List.replicate 64 (0:Int)).map aH⟩).set (nx+1) ⟨1,hc,(List.replicate 6 (-1:Int)).map aH⟩) (nx+2)):afB nX [] H nx K:=by
 refine gy.JG (l0:=[]) [] rfl trivial trivial (by simp) (by simp) (by simp) fun r H' n' _ ⟨hc,c,d,e,f⟩=> ?_;have h:=h hc c;subst d;subst e;subst f;generalize List.replicate 64 (0:Int)=a at*;generalize List.replicate 6 (-1:Int)=b at*;have g:back (tau 0 nx (nth [])) (hp [(0,⟨1,64,a.map aH⟩),(1,⟨1,hc,b.map aH⟩)]) 2 H=(H.set nx ⟨1,64,a.map aH⟩).set (nx+1) ⟨1,hc,b.map aH⟩:=by simp only[Za,hp,aA.set,tau,acC,if_true,if_false,Nat.sub_zero,Nat.add_zero,Option.map_some,EG,aA.iS,Nat.zero_ne_one,adK]
 rw[<-g] at h;exact h
theorem je{w:List Int}(hl:w.length<2^21)(h:K (dA [.isl (w.map aH)]) H nx):afB rR [dA [.isl (w.map aH)]] H nx K:=by
 refine aC.fresh (R:=fun b=>b=dA [.isl (w.map aH)]) ?_ rfl (fun r hr=>hr▸h);clear h;refine aR.mk Tryz.func269 (by kernel_rfl) N3 rfl fun Q c=> ?_;unfold mF;repeat' first|apply vI<;>(simp only[go_sem])| (with_reducible first|refine fun(cap:Nat) (a:_<=cap)=> ?_|refine fun(d:_<=cap)=> ?_)|refine⟨by omega,?_⟩|fail
 all_goals exact KX c (dA [.isl (w.map aH)]) _ rfl (aG (cP aV rfl rfl (by omega) trivial) cJ) rfl rfl
theorem mz{w:List Int}{u:List Int}(hl:w.length<2^21)(hu:u.length<2^21)(h:K (dA [.isl (w.map aH),.isl (u.map aH)]) H nx):afB lX [dA [.isl (w.map aH),.isl (u.map aH)]] H nx K:=by
 refine aC.fresh (R:=fun b=>b=dA [.isl (w.map aH),.isl (u.map aH)]) ?_ rfl (fun r hr=>hr▸h);clear h;refine aR.mk Tryz.func192 (by kernel_rfl) LY rfl fun Q c=> ?_;unfold mL;repeat' first| (first|apply vI|apply je hl)<;>(simp only[go_sem])| (with_reducible first|refine fun(cap:Nat) (a:_<=cap)=> ?_|refine fun(d:_<=cap)=> ?_)|refine⟨by omega,?_⟩|fail
 all_goals exact KX c (dA [.isl (w.map aH),.isl (u.map aH)]) _ rfl (aG (bE rfl) (aG (cP aV rfl rfl (by omega) trivial) cJ)) rfl rfl
theorem SN{r:Rsp}(hl:r.data.length<2^21)(h:K (dA (mS r)) H nx):afB JJ [dA (mS r)] H nx K:=by
 refine aC.fresh (R:=fun b=>b=dA (mS r)) ?_ rfl (fun r hr=>hr▸h);clear h;refine aR.mk Tryz.func270 (by kernel_rfl) kk rfl fun Q c=> ?_;unfold AG;repeat' first|apply vI<;>(simp only[go_sem])| (with_reducible first|refine fun(cap:Nat) (a:_<=cap)=> ?_|refine fun(d:_<=cap)=> ?_)|refine⟨by omega,?_⟩|fail
 all_goals exact KX c (dA (mS r)) _ rfl (aG (bE rfl) (aG (bE rfl) (aG (cP aV rfl rfl (by omega) trivial) cJ))) rfl rfl
theorem ly{l:List Job}(hl:l.length<2^21)(g: ∀j∈l,j.rsp.data.length<2^21)(h:K (dS (l.map aT)) H nx):afB gG [dS (l.map aT)] H nx K:=by
 refine aC.fresh (R:=fun i=>i=dS (l.map aT)) ?_ rfl (fun r hr=>hr▸h);clear h;refine aR.mk Tryz.func193 (by kernel_rfl) MF rfl fun Q m=> ?_;unfold mN;repeat' first|apply vI<;>(simp only[go_sem])|fail
 refine aJ.B2 1 (β:=Nat×Nat) (fun b u=>en [(4,dI u.1),(3,dO 5 b u.1 u.2),(0,dS (l.map aT))])
  (fun b u=>hp [(b,⟨5,u.2,(l.take u.1).map aT⟩)]) (fun u=>u.1<=l.length/\u.1<=u.2) (fun u=>l.length-u.1) (0,0) (by(refine eM [1] (by omega) (by repeat' first| (with_reducible first|exact C1|apply C2)| ((with_reducible apply C0);exact CC)| ((with_reducible apply D0);first|exact CA rfl|apply CJ)|fail) ⟨⟨by simp,by simp[sgL],_,rfl,cD (aN dQ _) rfl rfl⟩,trivial⟩ (by simp[sgL]))) ⟨by omega,by omega⟩ ?_
 rintro⟨k,cap⟩ ⟨n,hc⟩ p c;dsimp only at n hc;have d:(l.take k).take k=l.take k:=abM (by simp;omega);by_cases a:k<l.length
 ·have hm:=g _ (bT a);repeat' first| (first|apply vI|apply SN hm)<;>(simp only[go_sem,d,Pu];try simp (disch:=omega) only[Iw])|apply vT (by omega)| (with_reducible first|refine fun(cap:Nat) (f:_<=cap)=> ?_|refine fun(o:_<=cap)=> ?_)|refine⟨by omega,?_⟩| (refine⟨by(rw[ab5];omega),?_⟩)|fail
  all_goals exact c _ _ _ (k+1,cap) (by omega) (by(refine eM [28] (by omega) (by repeat' first|exact C1| (with_reducible first|exact C1|apply C2)| ((with_reducible apply C0);exact CQ (by omega) rfl rfl (by rfl) rfl)| ((with_reducible apply D0);first|exact CA rfl|apply CJ)|fail) ⟨⟨by simp,by simp[sgL],_,rfl,cD (aN dQ _) (by rw[fC a]) rfl⟩,trivial⟩ (by simp[sgL]))) ⟨by dsimp only;omega,by dsimp only;omega⟩ (by dsimp only;omega)
 ·repeat' first|apply vI<;>(simp only[go_sem])|apply vF (by omega)|refine bX rfl ?_|fail
  have e:k=l.length:=by omega
  subst e;exact KX m (dS (l.map aT)) _ rfl (DO (rows:=l.map aT) (aN dQ _) (by simp) trivial rfl rfl (by simp[abM]) (by simp;omega)) rfl rfl
end
end Go.Proofs.YtlncecohbakleaaGreat
namespace Go.AM
theorem Kl{l:List Job}{j:Job}(h:key j∈l.map key):jX (Go.Proofs.YtlncecohbakleaaGreat.XF l) [j.who,j.n]=some 1:=by
 induction l with
 |nil=>simp at h
 |cons x l a=>
  unfold jX Go.Proofs.YtlncecohbakleaaGreat.XF;rw[abZ,List.find?_cons];by_cases he:[j.who,j.n]=[x.who,x.n]
  ·simp[he]
  ·have b:key j∈l.map key:=by
    rw[abZ,abQ] at h
    rcases h with h|h
    ·exact absurd (by simp only[key,Prod.mk.injEq] at h;rw[h.1,h.2]) he
    ·exact h
   simp only[he,decide_false]
   exact a b
theorem Bm{α:Type}[Inhabited α]{l:List α}{i:Nat}(h:i<l.length):l=l.take i++l.getD i default::l.drop (i+1):=by
 have:l.getD i default=l[i]:=by simp[List.getD,h]
 rw[this,<-acR h,acU]
def JX(l:List Job):Prop:=l.Pairwise fun a b=>fY b a=false
theorem sy{a b:Job}:fY a b=false↔¬(a.who<b.who\/(a.who=b.who/\a.n<b.n)):=by rw[<-aeV,rO]
theorem sj{S:List Job}{x:Job}(hs:JX S):JX (tL S x):=by
 have k: ∀a∈S.take (S.findIdx (fY x)),fY x a=false:=fun a e=>by obtain⟨i,hi,rfl⟩:=ab6.1 e;rw[adX];have:=aeO (p:=fY x) (xs:=S) (i:=i) (by simp at hi;omega);simpa using this
 have hB: ∀b∈S.drop (S.findIdx (fY x)),fY x b=true:=fun b c=>by
  obtain⟨i,hi,rfl⟩:=ab6.1 c;rw[List.getElem_drop];simp only[ab1] at hi;have f:S.findIdx (fY x)<S.length:=by omega
  have j:fY x S[S.findIdx (fY x)]=true:=aeP (w:=f);by_cases h:i=0;·subst h;exact j
  ·have g:=acH.1 hs (S.findIdx (fY x)) (S.findIdx (fY x)+i) (by omega) (by omega) (by omega);rw[sy] at g;rw[rO] at j ⊢;omega
 have d:(S.take (S.findIdx (fY x))++S.drop (S.findIdx (fY x))).Pairwise fun a b=>fY b a=false:=by rw[acU];exact hs
 unfold tL JX;rw[adJ] at d ⊢;obtain⟨g,l,m⟩:=d;refine⟨g,acN.2 ⟨fun b c=> ?_,l⟩,fun a e b c=> ?_⟩;·have:=hB b c;rw[rO] at this;rw[sy];omega
 ·rcases abQ.1 c with rfl|c;·exact k a e
  ·exact m a e b c
theorem jl(l:List Job):JX (cW l):=by
 have h: ∀(l acc:List Job),JX acc->JX (l.foldl tL acc):=by
  intro l
  induction l with
  |nil=>intro acc h;exact h
  |cons x l a=>intro acc h;exact a _ (sj h)
 exact h l [] List.Pairwise.nil
theorem Kq{S:List Job}{x:Job}{j:Nat}(h:j<=S.length)(hs:JX S)(c:j=0\/fY x (S.getD (j-1) default)=false)(hB: ∀i,j<=i->i<S.length->fY x (S.getD i default)=true):UK S x j=tL S x:=by
 have hl:(S.take j).length=j:=by simp;omega
 conv=>rhs;rw[<-acU j S]
 refine(Cc (fun a d=> ?_) fun b e=> ?_).symm
 ·rcases c with rfl|c;·simp at d
  ·obtain⟨i,hi,rfl⟩:=ab6.1 d;rw[adX];by_cases he:i=j-1;·subst he;have:S.getD (j-1) default=S[j-1]:=(by simp[List.getD,show j-1<S.length by omega]);rw[this] at c;exact c
   ·have f:=acH.1 hs i (j-1) (by omega) (by omega) (by omega);have g:S.getD (j-1) default=S[j-1]:=(by simp[List.getD,show j-1<S.length by omega]);rw[g] at c;rw[sy] at c f ⊢;omega
 ·obtain⟨i,hi,rfl⟩:=ab6.1 e;rw[List.getElem_drop];have:=hB (j+i) (by omega) (by simp at hi;omega);simpa [List.getD,show j+i<S.length by simp at hi;omega] using this
end Go.AM
namespace Go.Proofs.YtlncecohbakleaaGreat
open Go Go.AM
attribute [local irreducible] aJ wv aC vd wvH
section
variable{H:aA}{nx:Nat}{K:afC}
theorem NA{c:Cfg}{s:TSt}(hb:bH c)(ht:Ih s)(h:K (dB (stB c s)) H nx):afB rC [dA (bI c),dA (eSt s)] H nx K:=by
 refine aC.pure (args0:=[dA (bI c),dA (eSt s)]) (R:=fun rr=>rr=dB (stB c s)) ?_ rfl (aK ⟨aF rfl,aF rfl,trivial⟩) (fun r hr=>hr▸h);clear h;refine aR.mk Tryz.func198 (by kernel_rfl) L6 rfl fun Q P=> ?_;unfold lN;obtain⟨df,v⟩:=eW hb;obtain⟨t1,t2,t3,t4,t5,t6,t7⟩:=ht;have hd: ∀j∈s.wait++s.done++s.told,j.rsp.data.length<2^40:=fun j p=>by have:=t7 j p;omega
 by_cases h0:o7 s.words s.holds/\(s.asked.length:Int)=3/\jA s.wait/\jA s.done
 case neg=>
  have dh: ¬oD c s:=fun hs=>h0 ⟨bo hs.atm,by rw[hs.L8];rfl,hs.VS,hs.VU⟩;repeat' first| (first|apply vI|refine Y6 (fun h=> ?_) fun h=> ?_|refine CT (w:=s.words) (u:=s.holds) (by omega) (by omega) (aF rfl) ?_|refine zK (l:=s.wait) (by omega) (aF rfl) ?_|refine zK (l:=s.done) (by omega) (aF rfl) ?_)<;>(simp only[go_sem])|refine iE (fun h=> ?_) fun h=> ?_|fail
  all_goals first|exact aP P (dB false) rfl rfl (congrArg dB (PT dh).symm)|exact absurd ⟨by simp_all,by omega,by simp_all,by simp_all⟩ h0
 obtain⟨S,aa,cd,cf⟩:=h0;have aa:s.asked.length=3:=by omega
 have ck:=Iz aa;repeat' first| (first|apply vI|apply Y5 (by omega)|refine CT (w:=s.words) (u:=s.holds) (by omega) (by omega) (aF rfl) ?_|refine zK (l:=s.wait) (by omega) (aF rfl) ?_|refine zK (l:=s.done) (by omega) (aF rfl) ?_)<;>(simp only[go_sem,eq_true S,eq_true cd,eq_true cf])|fail
 refine aJ.B2 0 (β:=Nat) (fun b k=>en [(38,dI k),(37,dI s.asked.length),(36,dS (s.asked.map aH)),(5,dI (s.asked.take k).sum),(3,.one (.c (.fF (eSt s)))),(2,.one (.c (.fF (bI c))))]) (fun b k=>.nil) (fun k=>k<=3/\(0<=(s.asked.take k).sum/\(s.asked.take k).sum<=12*k)/\ ∀i,i<k->0<=s.asked.getD i default/\s.asked.getD i default<=(c.cN.getD i default).length) (fun k=>3-k) 0 (bF (abG _) (by repeat' first|exact C1|refine xqI rfl rfl ?_| (with_reducible apply C2)| ((with_reducible apply D0);exact CI rfl (by simp) rfl rfl rfl)|fail)) ⟨by omega,by simp,fun i hi=>by omega⟩ ?_;rintro k ⟨T,⟨h1,h2⟩,hinv⟩ KL ds;by_cases A:k<3
 ·have cl:=Rd (l:=s.asked) (k:=k) (by omega);have cp:=v k;repeat' first| (first|apply vI|apply cV)<;>(simp only[go_sem];try simp (disch:=omega) only[Iw])|apply vT (by omega)|refine iE (fun h=> ?_) fun h=> ?_|refine⟨by omega,?_⟩|fail
  ·exact aP P (dB false) rfl rfl (congrArg dB (PT fun hs=>by have:=hs.JO k A;omega).symm)
  ·exact ds _ _ _ (k+1) (by omega) (by rw[cl];exact bF (by omega) (by repeat' first|exact C1|refine xqI rfl rfl ?_|fail)) ⟨by omega,by rw[cl];omega,bL hinv (by omega)⟩ (by omega)
 have ab:k=3:=by omega
 subst ab;have y:Js c s.asked:=hinv
 have dv: ∀i,0<=s.asked.getD i default/\s.asked.getD i default<=12:=fun i=>by
  by_cases hi:i<3;·have h1:=y i hi;have h2:=v i;omega
  ·have:s.asked.getD i default=0:=(by simp[List.getD,show s.asked.length<=i by omega]);omega
 repeat' first|apply vI<;>(simp only[go_sem])|apply vF (by omega)|fail
 obtain⟨d,q⟩: ∃d:List Z6,d=[s.wait,s.done,s.told]:=⟨_,rfl⟩
 have ff:d.length=3:=by subst q;rfl
 have cq:[[D1.isl (s.wait.map aT)],[D1.isl (s.done.map aT)],[D1.isl (s.told.map aT)]]=d.map O5:=by subst q;rfl
 obtain⟨seen,I⟩: ∃seen:Nat->List Job,seen=fun k=>(d.take k).flatten:=⟨_,rfl⟩
 have C:seen 0=[]:=by subst I;rfl
 have J:seen 3=s.wait++s.done++s.told:=by subst I;subst q;simp
 have e: ∀k,k<3->seen (k+1)=seen k++d.getD k default:=fun k T=>by subst I;simp only;rw[adN (by omega),List.flatten_append];simp[List.getD,show k<d.length by omega]
 have cr: ∀k,k<3->∃r,seen 3=seen k++d.getD k default++r:=fun k T=>by
  have:k=0\/k=1\/k=2:=by omega
  rcases this with rfl|rfl|rfl;·exact⟨d.getD 1 default++d.getD 2 default,by rw[e 2 (by omega),e 1 (by omega),e 0 (by omega),abY]⟩
  ·exact⟨d.getD 2 default,by rw[e 2 (by omega),e 1 (by omega)]⟩
  ·exact⟨[],by rw[e 2 (by omega),ab3]⟩
 have ad: ∀k,k<3->∀j∈d.getD k default,j∈s.wait++s.done++s.told:=fun k T j p=>by obtain⟨r,hr⟩:=cr k T;rw[<-J,hr];exact acP _ (ac2 _ p)
 have dx:d.getD 0 default=s.wait:=by subst q;rfl
 have U: ∀j,j∈s.done++s.told↔∃k,(k=1\/k=2)/\j∈d.getD k default:=fun j=>by
  subst q;constructor
  ·intro h;rcases abS.1 h with h|h;·exact⟨1,.inl rfl,h⟩
   ·exact⟨2,.inr rfl,h⟩
  ·rintro⟨k,rfl|rfl,h⟩;·exact acP _ h
   ·exact ac2 _ h
 have L: ∀k,k<3->(d.getD k default).length<2^21:=fun k T=>by
  have:k=0\/k=1\/k=2:=by omega
  subst q;rcases this with rfl|rfl|rfl<;>(simp[List.getD];omega)
 have fh: ∀k,k<=3->(seen k).length<=k*2^21:=fun k T=>by
  have e1:=L 0 (by omega);have e2:=L 1 (by omega);have e3:=L 2 (by omega);have f1:(seen 1).length=(d.getD 0 default).length:=by rw[e 0 (by omega),C,List.nil_append]
  have f2:(seen 2).length=(seen 1).length+(d.getD 1 default).length:=by rw[e 1 (by omega),abL]
  have f3:(seen 3).length=(seen 2).length+(d.getD 2 default).length:=by rw[e 2 (by omega),abL]
  have:k=0\/k=1\/k=2\/k=3:=by omega
  rcases this with rfl|rfl|rfl|rfl;·rw[C];simp
  ·omega
  ·omega
  ·omega
 rw[cq];clear cq q I
 refine aJ.B2 1 (β:=Nat) (fun b k=>en [(65,dI k),(64,dI 3),(63,dS (d.map O5)),(8,.one (.c (.omap b))),(5,dI (s.asked.take 3).sum),(3,.one (.c (.fF (eSt s)))),(2,.one (.c (.fF (bI c))))]) (fun b k=>hp [(b,BN ⟨2,true,XF (seen k)⟩)])
  (fun k=>k<=3/\(∀j∈seen k,InA s.asked j)/\((seen k).map key).Nodup/\(0<k->∀j∈s.wait,j.rsp=jZ)/\ ∀i,i<k->0<i->∀j∈d.getD i default,vB c j) (fun k=>3-k) 0 ?_ ⟨by omega,fun j p=>by rw[C] at p;simp at p,by rw[C];simp,fun h=>by omega,fun i hi=>by omega⟩ ?_
 ·refine eM [31] (by omega) ?_ ⟨⟨by simp,by simp[sgL],_,rfl,ML (by rw[C];rfl)⟩,trivial⟩ (by simp[sgL]);refine nN (nN (nN (nN (nN (nN (nN Ab ?_) ?_) ?_) ?_) ?_) ?_) ?_
  all_goals first
   |exact DO (rows:=d.map O5) (aN Qn d) (by simp;omega) (by simp) rfl rfl (abM (by simp)) (by simp;omega)
   |exact VT (xz (by omega) rfl)
   | (repeat' (first|exact C1| ((with_reducible apply D0);exact CA rfl)|fail);done)
 rintro k ⟨T,ah,ao,ct,aw⟩ KM dy;by_cases A:k<3
 ·have D:=e k A;have cw:=ad k A;have dz:=L k A;obtain⟨rest,E⟩:=cr k A;have bb:k=0->d.getD k default=s.wait:=fun h=>by rw[h];exact dx
  have cx:0<k->∀j∈d.getD k default,j∈s.done++s.told:=fun h j p=>(U j).2 ⟨k,by omega,p⟩;have eb: ∀i,i<k->0<i->∀j∈d.getD i default,vB c j:=aw
  have cy:(∀j∈d.getD k default,vB c j)->∀i,i<k+1->0<i->∀j∈d.getD i default,vB c j:=fun h i hi h0=>by
   rcases aeN.1 hi with h2|h2;·exact aw i h2 h0
   ·subst h2;exact h
  generalize bh:d.getD k default=cur at D cw dz bb cx E cy;repeat' first|apply vI<;>(simp only[go_sem,bh])|apply vT (by omega)|refine⟨by omega,?_⟩|fail
  refine aJ.B2 1 (β:=Nat) (fun b i=>en [(72,dI i),(71,dI cur.length),(70,dS (cur.map aT)),(65,dI k),(64,dI 3),(63,dS (d.map O5)),(9,dI k),(8,.one (.c (.omap b))),(5,dI (s.asked.take 3).sum),(3,.one (.c (.fF (eSt s)))),(2,.one (.c (.fF (bI c))))]) (fun b i=>hp [(b,BN ⟨2,true,XF (seen k++cur.take i)⟩)])
   (fun i=>i<=cur.length/\(∀j∈seen k++cur.take i,InA s.asked j)/\((seen k++cur.take i).map key).Nodup/\ ∀j∈cur.take i,if k=0 then j.rsp=jZ else vB c j) (fun i=>cur.length-i) 0 (by(refine eM [42] (by omega) (by repeat' first|exact C1|refine xqI rfl rfl ?_| (with_reducible apply C2)| ((with_reducible apply C0);exact CR (by omega) rfl)| ((with_reducible apply D0);apply CJ)|fail) ⟨⟨by simp,by simp[sgL],_,rfl,ML (by simp)⟩,trivial⟩ (by simp[sgL]))) ⟨by omega,by simpa using ah,by simpa using ao,by simp⟩ ?_
  rintro i ⟨hi,bk,bp,M⟩ KN da;by_cases N:i<cur.length
  ·have br:=bT N;have dc:=cw _ br;have O:=hd _ dc;have F:cur.take (i+1)=cur.take i++[cur.getD i default]:=(by rw[adN N];simp[List.getD,N]);have bw:s.wait++s.done++s.told=(seen k++cur.take i)++cur.getD i default::(cur.drop (i+1)++rest):=(by rw[<-J,E,abY,abY,<-List.cons_append,<-abY (cur.take i),<-Bm N]);have ed:k=0->cur.getD i default∈s.wait:=fun h=>by rw[<-bb h];exact br
   have ei:0<k->cur.getD i default∈s.done++s.told:=fun h=>cx h _ br;generalize B:cur.getD i default=j at*;have ca: ¬InA s.asked j->¬oD c s:=fun h hs=>h (hs.inA j dc);have cc:key j∈(seen k++cur.take i).map key->¬oD c s:=fun h hs=>by have hn:=hs.nodup;unfold keys at hn;rw[bw,abU] at hn;exact(ac1.1 hn).2.2 _ h _ (by simp) rfl
   by_cases G:InA s.asked j
   case neg=>
    unfold InA at G;have ej:(s.asked.length:Int)=3:=(by omega);have eo:=dv j.who.toNat;have cp:=v j.who.toNat;repeat' first| (first|apply vI|apply Y4 (by omega)|refine Y6 (fun h=> ?_) fun h=> ?_|apply dE|apply cV)<;>(simp only[go_sem,B];try simp (disch:=omega) only[Iw])|apply vT (by omega)|refine⟨by omega,?_⟩|fail
    all_goals first
     |exact aP P (dB false) rfl rfl (congrArg dB (PT (ca G)).symm)
     | (exfalso;omega)
   have m:key j∉(seen k++cur.take i).map key\/key j∈(seen k++cur.take i).map key:=(Classical.em _).symm
   have V: ∀x∈seen k++cur.take (i+1),InA s.asked x:=fun x t=>by
    rw[F,<-abY] at t;rcases abS.1 t with t|t;·exact bk x t
    ·simp at t;subst t;exact G
   have ep:pA c j.who j.n:=by obtain⟨⟨q1,q2⟩,q3,q4⟩:=G;have:=y j.who.toNat (by omega);exact⟨⟨q1,q2⟩,q3,by omega⟩
   obtain⟨⟨q1,q2⟩,q3,q4⟩:=G;have eo:=y j.who.toNat (by omega);have cp:=v j.who.toNat;rcases m with m|m
   case inr=>
    have f:=Kl m;repeat' first| (first|apply vI|apply Y5 (by omega)|apply dE|apply cV)<;>(simp only[go_sem,B,f,Option.getD_some];try simp (disch:=omega) only[Iw])|apply vT (by omega)|refine⟨by omega,?_⟩|fail
    all_goals exact aP P (dB false) rfl rfl (congrArg dB (PT (cc m)).symm)
   have f:=Pb m;have z:=Nw m;have W:((seen k++cur.take (i+1)).map key).Nodup:=by rw[F,<-abY,abU];refine ac1.2 ⟨bp,by simp,fun a ha b hb he=> ?_⟩;simp at hb;subst hb;subst he;exact m ha
   have X:(if k=0 then j.rsp=jZ else vB c j)->∀x∈cur.take (i+1),if k=0 then x.rsp=jZ else vB c x:=fun h x t=>by
    rw[F] at t;rcases abS.1 t with t|t;·exact M x t
    ·simp at t;subst t;exact h
   by_cases o:k=0
   ·by_cases g:j.rsp=jZ
    ·repeat' first| (first|apply vI|apply Y4 (by omega)|apply Y5 (by omega)|apply dE|apply cV|apply B6 O)<;>(simp only[go_sem,B,f,z,Option.getD_none,eq_true g];try simp (disch:=omega) only[Iw])|apply vT (by omega)|refine⟨by omega,?_⟩|fail
     exact da _ _ _ (i+1) (by omega) (by(refine eM [52] (by omega) (by repeat' first|exact C1|refine xqI rfl rfl ?_| (with_reducible apply C2)| ((with_reducible apply C0);exact CR (by omega) rfl)| ((with_reducible apply D0);apply CJ)|fail) ⟨⟨by simp,by simp[sgL],_,rfl,ML (by rw[F,abY])⟩,trivial⟩ (by simp[sgL]))) ⟨by omega,V,W,X (by rw[if_pos o];exact g)⟩ (by omega)
    ·repeat' first| (first|apply vI|apply Y4 (by omega)|apply Y5 (by omega)|apply dE|apply cV|apply B6 O)<;>(simp only[go_sem,B,f,z,Option.getD_none,eq_false g];try simp (disch:=omega) only[Iw])|apply vT (by omega)|refine⟨by omega,?_⟩|fail
     exact aP P (dB false) rfl rfl (congrArg dB (PT fun hs=>g (hs.oo j (ed o))).symm)
   ·have et:0<k:=(by omega);have Y: ¬vB c j->¬oD c s:=fun h hs=>h (hs.fv j (ei et));by_cases g:jU j.rsp
    ·repeat' first| (first|apply vI|apply Y4 (by omega)|apply Y5 (by omega)|apply dE|apply cV|apply rQ O|apply gU df ep)<;>(simp only[go_sem,B,f,z,Option.getD_none,eq_true g];try simp (disch:=omega) only[Iw])|apply vT (by omega)|refine iE (fun h=> ?_) fun h=> ?_|refine⟨by omega,?_⟩|fail
     ·exact aP P (dB false) rfl rfl (congrArg dB (PT (Y fun h=>by have:=h.2;omega)).symm)
     ·exact da _ _ _ (i+1) (by omega) (by(refine eM [52] (by omega) (by repeat' first|exact C1|refine xqI rfl rfl ?_| (with_reducible apply C2)| ((with_reducible apply C0);exact CR (by omega) rfl)| ((with_reducible apply D0);apply CJ)|fail) ⟨⟨by simp,by simp[sgL],_,rfl,ML (by rw[F,abY])⟩,trivial⟩ (by simp[sgL]))) ⟨by omega,V,W,X (by rw[if_neg o];exact⟨g,by omega⟩)⟩ (by omega)
    ·repeat' first| (first|apply vI|apply Y4 (by omega)|apply Y5 (by omega)|apply dE|apply cV|apply rQ O)<;>(simp only[go_sem,B,f,z,Option.getD_none,eq_false g];try simp (disch:=omega) only[Iw])|apply vT (by omega)|refine⟨by omega,?_⟩|fail
     exact aP P (dB false) rfl rfl (congrArg dB (PT (Y fun h=>g h.1)).symm)
  ·have eu:i=cur.length:=(by omega);subst eu;rw[acI,<-D] at bk bp;rw[acI] at M;rw[acI,<-D];repeat' first|apply vI<;>(simp only[go_sem];try simp (disch:=omega) only[Iw])|apply vF (by omega)|fail
   refine dy _ _ _ (k+1) (by omega) (by(refine eM [52] (by omega) (by repeat' first|exact C1|refine xqI rfl rfl ?_| (with_reducible apply C2)| ((with_reducible apply C0);exact CR (by omega) rfl)| ((with_reducible apply D0);apply CJ)|fail) ⟨⟨by simp,by simp[sgL],_,rfl,ML rfl⟩,trivial⟩ (by simp[sgL]))) ⟨by omega,bk,bp,fun _=> ?_,?_⟩ (by omega)
   ·by_cases o:k=0;·intro j p;have:=M j (by rw[bb o];exact p);rwa [if_pos o] at this
    ·exact ct (by omega)
   ·intro i2 h1 h2;by_cases o:k=0;·omega
    ·exact cy (fun j p=>by have:=M j p;rwa [if_neg o] at this) i2 h1 h2
 ·have ab:k=3:=by omega
  subst ab;rw[J] at ah ao;have ew:=congrArg List.length J;rw[abL,abL] at ew;repeat' first|apply vI<;>(simp only[go_sem])|apply vF (by omega)|fail
  refine aP P (dB (decide (((XF (seen 3)).length:Int)=(s.asked.take 3).sum))) rfl rfl (congrArg dB ?_);rw[Ro];by_cases Z:((seen 3).length:Int)=(s.asked.take 3).sum;·rw[decide_eq_true Z];refine(Rl (Gj S aa y cd cf ah ao (by omega) (ct (by omega)) fun j p=> ?_)).symm;obtain⟨k,T,p⟩:=(U j).1 p;exact aw k (by omega) (by omega) j p
  ·rw[decide_eq_false Z];exact(PT fun hs=>by have:=hs.count;omega).symm
theorem H6{l:List Job}{m cap i0:Nat}(hl:l.length<2^21)(hi:i0<nx)(I:H i0=some ⟨5,m,l.map aT⟩)
 (h: ∀H' nx',nx<=nx'->H' i0=some ⟨5,m,(cW l).map aT⟩->(∀id,id<nx->id≠i0->H' id=H id)->K (.tup []) H' nx'):
 afB dY [.one (.c (.osl 5 i0 0 l.length cap)),dI 0,dI l.length,.one (.c (.clo cE []))] H nx K:=by
 refine bR.mk Tryz.func303 (by kernel_rfl) qI rfl fun Q J=> ?_
 unfold dR
 repeat' first|apply vI<;>(simp only[go_sem];try simp (disch:=omega) only[Iw])|fail
 refine aJ.cG (β:=Nat) (fun k=>en [(8,dI k),(3,.one (.c (.clo cE []))),(2,dI l.length),(1,dI 0),(0,.one (.c (.osl 5 i0 0 l.length cap)))])
  (fun k H1 _=>1<=k/\(k<=1\/k<=l.length)/\H1 i0=some ⟨5,m,(J4 l k++l.drop k).map aT⟩/\ ∀id,id<nx->id≠i0->H1 id=H id) (fun k=>l.length+1-k) 1
  ⟨noF,_,by repeat' first|exact C1|refine xqI rfl rfl ?_|refine xqO (by omega) rfl rfl (by rfl) ?_| (with_reducible apply C2)| ((with_reducible apply C0);exact CH (by rfl))| ((with_reducible apply D0);apply CJ)|fail,aE,by omega,.inl (by omega),by rw[Iu,acU];exact I,fun _ _ _=>rfl⟩ ?_
 rintro k H1 L M ⟨N,O,s,n⟩ P t
 by_cases f:k<l.length
 ·repeat' first|apply vI<;>(simp only[go_sem])|apply vT (by omega)|fail
  obtain⟨S,q⟩: ∃S,S=J4 l k:=⟨_,rfl⟩
  have T:S.length=k:=by rw[q];exact Lp (by omega)
  obtain⟨x,C⟩: ∃x,x=l.getD k default:=⟨_,rfl⟩
  have u:l.drop k=x::l.drop (k+1):=by rw[acR f,C];simp[List.getD,f]
  refine aJ.cG (β:=Nat) (fun j=>en [(9,dI j),(8,dI k),(3,.one (.c (.clo cE []))),(2,dI l.length),(1,dI 0),(0,.one (.c (.osl 5 i0 0 l.length cap)))])
   (fun j H2 _=>j<=k/\H2 i0=some ⟨5,m,(UK S x j++l.drop (k+1)).map aT⟩/\(∀i,j<=i->i<S.length->fY x (S.getD i default)=true)/\ ∀id,id<nx->id≠i0->H2 id=H id) (fun j=>j) k
   ⟨noF,_,by repeat' first|exact C1|refine xqI rfl rfl ?_|refine xqO (by omega) rfl rfl (by rfl) ?_| (with_reducible apply C2)| ((with_reducible apply C0);exact CH (by rfl))| ((with_reducible apply D0);apply CJ)|fail,aE,abG _,?_,fun i D r=>by omega,n⟩ ?_
  ·rw[s,<-q,u];unfold UK;rw[abM (show S.length<=k by omega),show S.drop k=[] from ad8 (by omega)];simp
  rintro j H2 g E ⟨Y,F,hB,d⟩ Z v;have w:(UK S x j++l.drop (k+1)).length=l.length:=by rw[abL,Mt (by omega),ab1];omega
  have y: ∀b,(i0=g+b)=False:=fun b=>eq_false (by omega);have o: ∀b,(g+b=i0)=False:=fun b=>eq_false (by omega);have a: ∀{e:Env} {H':aA} {n':Nat},g<=n'->(j=0\/fY x (S.getD (j-1) default)=false)->H'=H2->CvE H' noF id n' (en [(8,dI (k+1)),(3,.one (.c (.clo cE []))),(2,dI l.length),(1,dI 0),(0,.one (.c (.osl 5 i0 0 l.length cap)))]) e->P e H' n':=fun D r U V=>by subst U;refine t _ _ _ (k+1) noF _ (by omega) (by omega) V aE ⟨by omega,.inr (by omega),?_,d⟩;rw[F,Kq (by omega) (by rw[q];exact jl _) r hB,q,Aj f,C]
  by_cases p:0<j
  ·have z:=Vk (S:=S) (R:=l.drop (k+1)) (x:=x) (j:=j) (by omega);have A:=Db (S:=S) (R:=l.drop (k+1)) (x:=x) p (by omega);have B:=Kc (S:=S) (R:=l.drop (k+1)) (x:=x) p (by omega);have W:((j:Int)-1).toNat=j-1:=(by omega);repeat' first| (first|apply vI|apply Y4 (by omega)|apply EL)<;>(simp only[go_sem,F,z,A,W,w,y,o];try simp (disch:=omega) only[Iw])|refine iE (fun h=> ?_) fun h=> ?_|refine⟨by omega,?_⟩|fail
   ·exact v _ _ _ (j-1) noF _ (by omega) (by omega) (by repeat' first|exact C1|refine xqI rfl rfl ?_|refine xqO (by omega) rfl rfl (by rfl) ?_|refine xqV rfl (by omega) ?_| (with_reducible apply C2)| ((with_reducible apply C0);exact CH (by rfl))| ((with_reducible apply D0);apply CJ)|fail) aE ⟨by omega,by rw[B];exact aA.aI,fun i D r=>by
     by_cases he:i=j-1
     ·subst he;exact NB.1 (by assumption)
     ·exact hB i (by omega) r,fun id X G=>by rw[aA.aB G];exact d id X G⟩
   ·exact a (by omega) (.inr (by rw[<-aeV,<-NB];assumption)) rfl (by repeat' first|exact C1|refine xqI rfl rfl ?_|refine xqO (by omega) rfl rfl (by rfl) ?_| (with_reducible apply C2)| ((with_reducible apply C0);exact CH (by rfl))| ((with_reducible apply D0);apply CJ)|fail)
  ·repeat' first| (first|apply vI|apply Y5 (by omega))<;>(simp only[go_sem];try simp (disch:=omega) only[Iw])|fail
   exact a (by omega) (.inl (by omega)) rfl (by repeat' first|exact C1|refine xqI rfl rfl ?_|refine xqO (by omega) rfl rfl (by rfl) ?_| (with_reducible apply C2)| ((with_reducible apply C0);exact CH (by rfl))| ((with_reducible apply D0);apply CJ)|fail)
 ·repeat' first|apply vI<;>(simp only[go_sem])|apply vF (by omega)|fail
  have u:J4 l k++l.drop k=cW l:=by rw[ad8 (by omega),ab3,<-Ly];unfold J4;rw[abM (by omega),abM (by omega)]
  rw[u] at s;exact J _ _ _ _ _ (.inl rfl) rfl (h _ _ (by omega) s n)
theorem T4{l:List Job}{m cap i0:Nat}(hl:l.length<20)(hi:i0<nx)(d:H i0=some ⟨5,m,l.map aT⟩)
 (h: ∀H' nx',nx<=nx'->H' i0=some ⟨5,m,(cW l).map aT⟩->(∀id,id<nx->id≠i0->H' id=H id)->K (.tup []) H' nx'):
 afB jC [.one (.c (.osl 5 i0 0 l.length cap)),dI l.length,.one (.c (.clo cE []))] H nx K:=by
 refine bR.mk Tryz.func225 (by kernel_rfl) yG rfl fun Q e=> ?_
 unfold fS
 repeat' first|apply vI<;>(simp only[go_sem])|fail
 refine aJ.cG (β:=Unit) (fun _=>en [(8,dI 20),(7,dI 0),(6,dI 20),(2,.one (.c (.clo cE []))),(1,dI l.length),(0,.one (.c (.osl 5 i0 0 l.length cap)))]) (fun _ H1 _=>H1=H) (fun _=>0) () ⟨noF,_,by repeat' first|exact C1|refine xqI rfl rfl ?_|refine xqO (by omega) rfl rfl (by rfl) ?_| (with_reducible apply C2)| ((with_reducible apply C0);exact CH (by rfl))| ((with_reducible apply D0);apply CJ)|fail,aE,rfl⟩ ?_
 rintro u H1 f g rfl q i
 repeat' first| (first|apply vI|refine H6 (by omega) (by omega) d (fun H' nx' j k a=> ?_))<;>(simp only[go_sem])|apply vF (by omega)|fail
 refine aJ.cG (β:=Unit) (fun _=>en [(6,dI 20),(2,.one (.c (.clo cE []))),(1,dI l.length),(0,.one (.c (.osl 5 i0 0 l.length cap)))]) (fun _ H2 _=>H2=H') (fun _=>0) () ⟨noF,_,by repeat' first|exact C1|refine xqI rfl rfl ?_|refine xqO (by omega) rfl rfl (by rfl) ?_| (with_reducible apply C2)| ((with_reducible apply C0);exact CH (by rfl))| ((with_reducible apply D0);apply CJ)|fail,aE,rfl⟩ ?_
 rintro u H2 n b rfl r o
 repeat' first|apply vI<;>(simp only[go_sem])|apply vF (by omega)|fail
 exact e _ _ _ _ _ (.inl rfl) rfl (h _ _ (by omega) k fun id s p=>a id (by omega) p)
theorem A6{l:List Job}{m cap i0:Nat}(hl:l.length<20)(hi:i0<nx)(b:H i0=some ⟨5,m,l.map aT⟩)
 (h: ∀H' nx',nx<=nx'->H' i0=some ⟨5,m,(cW l).map aT⟩->(∀id,id<nx->id≠i0->H' id=H id)->K (.tup []) H' nx'):
 afB dG [.one (.c (.osl 5 i0 0 l.length cap)),.one (.c (.clo cE []))] H nx K:=by
 refine bR.mk Tryz.func135 (by kernel_rfl) oU rfl fun Q d=> ?_
 unfold dC
 repeat' first| (first|apply vI|refine T4 hl (by omega) b (fun H' nx' e f a=> ?_))<;>(simp only[go_sem])|fail
 exact d _ _ _ _ _ (.inl rfl) rfl (h _ _ (by omega) f fun id i g=>a id (by omega) g)
end
end Go.Proofs.YtlncecohbakleaaGreat
