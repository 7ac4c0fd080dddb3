/- Texts laid together by a program: rules, contracts and the walk that leads to the law. -/
import Derived.Test.YtlncecohbakleaaGreatPS7
import Derived.Test.YtlncecohbakleaaGreatPS8
set_option linter.unusedVariables false
set_option linter.unusedSimpArgs false
set_option linter.unusedSectionVars false
set_option maxRecDepth 100000
set_option maxHeartbeats 8000000
namespace Go.AM
abbrev TE:=List Job
def IF(l:TE):List D1:=[.isl (l.map aS)]
theorem ag7{l:TE}:(IF l).length=1:=rfl
theorem aaZ{l:TE}:(IF l).take 1=[.isl (l.map aS)]:=rfl
theorem ZY{l:TE}:(IF l).drop 1=[]:=rfl
theorem ae8{l:TE}{cs:List D1}{k:Nat}:iA cs (k+1) (IF l)=iA cs (k+1) [.isl (l.map aS)]:=rfl
theorem al7(l:TE):(IF l).length=1/\(IF l).all D1.dQ=true:=⟨rfl,rfl⟩
attribute [go_sem] ag7 aaZ ZY ae8
theorem ah1{S R:List Job}{x:Job}{j:Nat}(c:0<j)(d:j<=S.length):((MS S x j++R).set j (S.getD (j-1) default)).set (j-1) x=MS S x (j-1)++R:=by
 have a:S.take j=S.take (j-1)++[S.getD (j-1) default]:=by have:=nK (l:=S) (k:=j-1) (by omega);rwa [show j-1+1=j by omega] at this
 have b:S.drop (j-1)=S.getD (j-1) default::S.drop j:=by have:=brB (l:=S) (i:=j-1) (by omega);rw[this,show j-1+1=j by omega];simp[List.getD,show j-1<S.length by omega]
 have hl:(S.take (j-1)).length=j-1:=by simp;omega
 unfold MS;rw[a,b];generalize S.take (j-1)=A at*;generalize S.drop j=B;generalize S.getD (j-1) default=y;simp only[C0,List.cons_append,List.nil_append,List.singleton_append];obtain rfl:j=A.length+1:=by omega
 rw[List.set_append_right _ _ (by omega)];simp
theorem anT{S R:List Job}{x:Job}{j:Nat}(a:j<=S.length):(MS S x j++R).getD j default=x:=by
 have hl:(S.take j).length=j:=by simp;omega
 unfold MS;simp[List.getD,hl,C0,brX]
theorem adY{S R:List Job}{x:Job}{j:Nat}(a:0<j)(b:j<=S.length):(MS S x j++R).getD (j-1) default=S.getD (j-1) default:=by unfold MS;simp only[List.getD,C0];rw[brO (by simp;omega),List.getElem?_take_of_lt (by omega)]
end Go.AM
namespace Go.Proofs.YtlncecohbakleaaGreat
open Go Go.AM
attribute [local irreducible] aM wv aB vd wvH
section
variable{H:aA}{nx:Nat}{K:bNX}
variable{l:List Job}
theorem ac0(h: ∀i,i<l.length->1<=i->ad5 (l.getD (i-1) default) (l.getD i default)<0):kW l:=by
 have a: ∀(d i:Nat) (hi:i+d+1<l.length),uL (l.getD i default) (l.getD (i+d+1) default)=true:=by
  intro d
  induction d with
  |zero=>intro i hi;have:=h (i+1) (by omega) (by omega);rw[E7] at this;simpa using this
  |succ d b=>intro i hi;have f:=b i (by omega);have k9:=h (i+d+2) (by omega) (by omega);rw[E7,show i+d+2-1=i+d+1 by omega] at k9;rw[show i+(d+1)+1=i+d+2 by omega];rw[qL] at*;omega
 refine Z6.2 fun i j hi c e=> ?_;have:=a (j-i-1) i (by omega);rw[show i+(j-i-1)+1=j by omega] at this;simpa [List.getD,hi,c] using this
theorem IK(hl:l.length<2^21){j:D}(c:CvD H (fun _=>True) id 0 (dS (l.map aS)) j)(h:K (dB (decide (kW l))) H nx):bNW oI [j] H nx K:=by
 refine aB.pure (args0:=[dS (l.map aS)]) (R:=fun n=>n=dB (decide (kW l))) ?_ rfl (aI ⟨c,trivial⟩) (fun r hr=>hr▸h);clear h;refine aN.mk Tryz.func284 (by kernel_rfl) P5 rfl fun Q m=> ?_;unfold x7;repeat' first|apply bn1<;>(simp only[go_sem])|fail
 refine aM.sG 0 (β:=Nat) (fun b k=>en [(3,boP k),(0,dS (l.map aS))]) (fun b k=>hp []) (fun k=>(1<=k/\(k<=l.length\/k=1))/\ ∀i,i<k->i<l.length->1<=i->ad5 (l.getD (i-1) default) (l.getD i default)<0) (fun k=>l.length-k) 1 (bU (m5 _) (by repeat' first|exact bo2|refine xqI rfl rfl ?_|fail)) ⟨by omega,fun i hi _ _=>by omega⟩ ?_;rintro k ⟨p,hinv⟩ bpQ d;by_cases a:k<l.length
 ·have o:((k:Int)-1).toNat=k-1:=by omega
  repeat' first| (first|apply bn1|apply xM)<;>(simp only[go_sem,o];try simp (disch:=omega) only[Iw])|apply bn2 (by omega)|refine bnE (fun h=> ?_) fun h=> ?_|refine⟨by omega,?_⟩|fail
  ·refine aZ m (dB false) rfl rfl (j7 fun hs=> ?_);have l1:=Z6.1 hs (k-1) k (by omega) a (by omega);have bOW:ad5 (l.getD (k-1) default) (l.getD k default)<0:=(by rw[E7];simpa [List.getD,a,show k-1<l.length by omega] using l1);omega
  ·exact d _ _ _ (k+1) (by omega) (bU (m5 _) (by repeat' first|exact bo2|refine xqI rfl rfl ?_|fail)) ⟨by omega,fun i hi e f=>by
    rcases br8.1 hi with g|g
    ·exact hinv i g e f
    ·subst g;omega⟩ (by omega)
 ·repeat' first|apply bn1<;>(simp only[go_sem])|apply bn3 (by omega)|fail
  exact aZ m (dB true) rfl rfl (q9 (ac0 fun i hi f=>hinv i (by omega) hi f))
theorem JG{r:Rsp}(hr:r.data.length<2^40)(h:K (dB (decide (r=oW))) H nx):bNW iT [boR (tG r)] H nx K:=by
 refine aB.pure (args0:=[boR (tG r)]) (R:=fun a=>a=dB (decide (r=oW))) ?_ rfl (aI ⟨aE rfl,trivial⟩) (fun r hr=>hr▸h);clear h;refine aN.mk Tryz.func285 (by kernel_rfl) HW rfl fun Q b=> ?_;unfold nO;repeat' first| (first|apply bn1|refine bpL (fun h=> ?_) fun h=> ?_)<;>(simp only[go_sem])|fail
 all_goals first|with_reducible refine aZ b _ rfl rfl ?_|skip
 all_goals (obtain⟨c,d,e⟩:=r;unfold oW;dsimp only at*;first|exact q9 (by simp_all)|exact j7 (by simp_all)|exact pD (by simp_all)|exact pD (by simp only[Rsp.mk.injEq];rw[<-H4];omega))
theorem YD{r:Rsp}(hr:r.data.length<2^40)(h:K (dB (decide (pA r))) H nx):bNW m6 [boR (tG r)] H nx K:=by
 refine aB.pure (args0:=[boR (tG r)]) (R:=fun a=>a=dB (decide (pA r))) ?_ rfl (aI ⟨aE rfl,trivial⟩) (fun r hr=>hr▸h);clear h;refine aN.mk Tryz.func283 (by kernel_rfl) VO rfl fun Q b=> ?_;unfold z8;repeat' first| (first|apply bn1|refine bpL (fun h=> ?_) fun h=> ?_|apply fE|refine vG hr (aE rfl) ?_)<;>(simp only[go_sem])|fail
 all_goals first|with_reducible refine aZ b _ rfl rfl ?_|skip
 all_goals first|exact j7 (by unfold pA;grind)|exact pD (by unfold pA;grind)|exact q9 (by unfold pA;grind)
theorem HK{r:Rsp}(hr:r.data.length<2^40)(h:K (dB (decide (r=oW))) H nx):bNW iT [.one (.agg [cI r.id,cI r.code,.isl (r.data.map aJ)])] H nx K:=JG hr h
theorem I8{r:Rsp}(hr:r.data.length<2^40)(h:K (dB (decide (pA r))) H nx):bNW m6 [.one (.agg [cI r.id,cI r.code,.isl (r.data.map aJ)])] H nx K:=YD hr h
def UB(l:List Job):List (List Int×Int):=l.map fun j=>([j.who,j.n],1)
theorem alK{j:Job}(h:key j∉l.map key):jT (UB l) [j.who,j.n]=none:=by unfold jT UB;rw[Option.map_eq_none_iff,List.find?_eq_none];intro p hp;obtain⟨x,a,rfl⟩:=CF.1 hp;simp only[List.cons.injEq,and_true,decide_eq_true_eq];intro he;exact h (CF.2 ⟨x,a,by simp[key,he.1,he.2]⟩)
theorem alD{j:Job}(h:key j∉l.map key):vA (UB l) [j.who,j.n] 1=UB (l++[j]):=by
 induction l with
 |nil=>rfl
 |cons x l b=>simp only[n3,t3,not_or] at h;have a: ¬[j.who,j.n]=[x.who,x.n]:=fun he=>h.1 (by simp only[List.cons.injEq,and_true] at he;simp[key,he.1,he.2]);show vA (([x.who,x.n],1)::UB l) _ _=_;simp only[vA,a,if_false,b h.2];rfl
theorem amR:(UB l).length=l.length:=by simp[UB]
theorem alS{l:List Int}{k:Nat}(h:k<l.length):(l.take (k+1)).sum=(l.take k).sum+l.getD k default:=by rw[brQ h,List.sum_append];simp[List.getD,h]
theorem af9{l:List Int}(h:l.length=3):(l.take 3).sum=l.getD 0 default+l.getD 1 default+l.getD 2 default:=by
 match l,h with
 | [a,b,c],_=>simp[List.getD];omega
theorem ZS{w u:List Int}(h:WK w u):JS w u:=⟨⟨by rw[h.wl];rfl,h.wr⟩,by rw[h.hl];rfl,h.hr⟩
end
attribute [go_sem] Y5
section
variable{H:aA}{nx:Nat}{K:bNX}
theorem aRW{old:Int}{new:Int}{g6:Int}(a:0<=old/\old<=65535)(b:0<=new/\new<=65535)(c:0<=g6/\g6<=3)(h:K (boP (xZ old new g6)) H nx):bNW aNH [boP old,boP new,boP g6] H nx K:=by
 refine aB.pure (args0:=[boP old,boP new,boP g6]) (R:=fun d=>d=boP (xZ old new g6)) ?_ rfl (aI ⟨aE rfl,aE rfl,aE rfl,trivial⟩) (fun r hr=>hr▸h);clear h;refine aN.mk Tryz.func329 (by kernel_rfl) aQX rfl fun Q e=> ?_;unfold aNS;repeat' first| (first|apply bn1|apply bpK (by omega)|apply aBC)<;>(simp only[go_sem,brF a.1,bsG a.1,brF b.1,bsG b.1,brF c.1,bsG c.1];try simp (disch:=omega) only[Iw])|apply bn3 (by omega)|refine bnE (fun h=> ?_) fun h=> ?_|fail
 all_goals first|with_reducible refine aZ e _ rfl rfl ?_|skip
 all_goals exact qA (by unfold xZ;simp[*])
theorem aS1(w all:List Int)(wc wm:Nat)(g:w.length=64)(h:64<=wc)(i:All all 0 63)(j:all.length<2^21):bNW W3 [boR [.osl 1 0 0 64 wc],dS (all.map aJ)] (hp [(0,⟨1,wm,w.map aJ⟩)]) 1
 fun r H' m=>m=1/\ ∃o',H'=hp [(0,o')]/\C7 o'/\o'=⟨1,wm,w.map aJ⟩/\r=dS ((all.map fun a=>w.getD a.toNat default).map aJ):=by
 refine aN.mk Tryz.func289 (by kernel_rfl) aR6 rfl fun Q n=> ?_
 unfold aN4
 repeat' first|apply bn1<;>(simp only[go_sem])|fail
 refine aM.sG 2 (β:=Nat×Nat) (fun b u=>en [(6,boP u.1),(5,boQ 1 (b+1) u.1 u.2),(2,bkP 1 b),(1,dS (all.map aJ))])
  (fun b u=>hp [(0,⟨1,wm,w.map aJ⟩),(b,⟨1,1,[[.osl 1 0 0 64 wc]]⟩),(b+1,⟨1,u.2,((all.take u.1).map fun a=>w.getD a.toNat default).map aJ⟩)]) (fun u=>u.1<=all.length/\u.1<=u.2) (fun u=>all.length-u.1) (0,0)
  (by(refine cR [1,3,0] (by omega) (by repeat' first|exact bo2|refine xqI rfl rfl ?_|refine xqP (by omega) rfl rfl ?_|refine xqO (by omega) rfl rfl (by rfl) ?_|fail) ⟨⟨by simp,by simp[sgL],_,rfl,bP (aG bF _) rfl rfl⟩,⟨by simp,by simp[sgL],_,rfl,aP (by repeat' first|exact bo2| (with_reducible first|exact bo4|apply bo5)| ((with_reducible apply bo0);exact bpB (by omega) rfl rfl (by rfl) rfl)|fail)⟩,⟨by simp,by simp[sgL],_,rfl,bP (aG bF _) rfl rfl⟩,trivial⟩ (by simp[sgL]))) ⟨by omega,by omega⟩ ?_
 rintro⟨k,cap⟩ ⟨o,hc⟩ bpQ d
 dsimp only at o hc
 by_cases c:k<all.length
 ·have q:=HB i c;repeat' first|apply bn1<;>(simp only[go_sem];try simp (disch:=omega) only[Iw])|apply bn2 (by omega)| (with_reducible first|refine fun(cap:Nat) (f:_<=cap)=> ?_|refine fun(p:_<=cap)=> ?_)|refine⟨by omega,?_⟩| (refine⟨by(rw[CG];omega),?_⟩)|fail
  refine d _ _ _ (k+1,cap) (by omega) (by(refine cR [6,22,0] (by omega) (by repeat' first|exact bo2|refine xqI rfl rfl ?_|refine xqP (by omega) rfl rfl ?_|refine xqO (by omega) rfl rfl (by rfl) ?_|fail) ⟨⟨by simp,by simp[sgL],_,rfl,bP (aG bF _) rfl rfl⟩,⟨by simp,by simp[sgL],_,rfl,aP (by repeat' first|exact bo2| (with_reducible first|exact bo4|apply bo5)| ((with_reducible apply bo0);exact bpB (by omega) rfl rfl (by rfl) rfl)|fail)⟩,⟨by simp,by simp[sgL],_,rfl,bP (aG bF _) (by rw[nK c,bqX,boL (l:=List.map _ (List.take k all)) (by simp;omega)];rfl) rfl⟩,trivial⟩ (by simp[sgL]))) ⟨by dsimp only;omega,by dsimp only;omega⟩ (by dsimp only;omega)
 ·repeat' first|apply bn1<;>(simp only[go_sem])|apply bn3 (by omega)|fail
  have e:k=all.length:=by omega
  subst e;exact lA n (dS _) _ _ rfl (yP (l:=(all.take all.length).map fun a=>w.getD a.toNat default) bF rfl (by simp) (by simp;omega) (by decide)) rfl (oB bF _) ⟨rfl,by rw[bq4]⟩
variable{w:List Int}
theorem aSW{all:List Int}{wc wm i:Nat}(b:w.length=64)(c:64<=wc)(e:All all 0 63)(d:all.length<2^21)(hi:i<nx)(f:H i=some ⟨1,wm,w.map aJ⟩)(h:K (dS ((all.map fun a=>w.getD a.toNat default).map aJ)) (H.set i ⟨1,wm,w.map aJ⟩) nx):
 bNW W3 [boR [.osl 1 i 0 64 wc],dS (all.map aJ)] H nx K:=
 (aS1 w all wc wm b c e d).OU i rfl (gW ⟨aH (aaF (by omega) rfl rfl rfl rfl) eP,aE rfl,trivial⟩) hi f (oB bF _) fun r o' ⟨g,j⟩=>by subst g;subst j;exact h
theorem aSV(w all data g6:List Int)(wc wm:Nat)(h:w.length=64)(hw:All w 0 65535)(i:64<=wc)(j:All all 0 63)(l:all.length<2^21)(g:All data 0 65535)(m:data.length=all.length)(hl:All g6 0 3)(n:g6.length=all.length):
 bNW H5 [boR [.osl 1 0 0 64 wc],dS (all.map aJ),dS (data.map aJ),dS (g6.map aJ)] (hp [(0,⟨1,wm,w.map aJ⟩)]) 1
 fun r H' o=>o=1/\ ∃o',H'=hp [(0,o')]/\C7 o'/\o'=⟨1,wm,(FV w all data g6 all.length).map aJ⟩/\r=boR [.osl 1 0 0 64 wc]:=by
 refine aN.mk Tryz.func290 (by kernel_rfl) aSE rfl fun Q p=> ?_
 unfold aN6
 repeat' first|apply bn1<;>(simp only[go_sem])|fail
 refine aM.sG 2 (β:=Nat) (fun b k=>en [(9,boP k),(8,bkP 1 (b+1)),(4,bkP 1 b),(3,dS (g6.map aJ)),(2,dS (data.map aJ)),(1,dS (all.map aJ))])
  (fun b k=>hp [(0,⟨1,wm,(FV w all data g6 k).map aJ⟩),(b,⟨1,1,[[.osl 1 0 0 64 wc]]⟩),(b+1,⟨1,1,[[.osl 0 0 0 0 0]]⟩)]) (fun k=>k<=all.length) (fun k=>all.length-k) 0
  (by(refine cR [1,2,0] (by omega) (by repeat' first|exact bo2|refine xqI rfl rfl ?_|refine xqP (by omega) rfl rfl ?_|fail) ⟨⟨by simp,by simp[sgL],_,rfl,bP (aG bF _) rfl rfl⟩,⟨by simp,by simp[sgL],_,rfl,aP (by repeat' first|exact bo2| (with_reducible first|exact bo4|apply bo5)| ((with_reducible apply bo0);exact bpB (by omega) rfl rfl (by rfl) rfl)|fail)⟩,⟨by simp,by simp[sgL],_,rfl,aP (by repeat' first|exact bo2| (with_reducible first|exact bo4|apply bo5)| ((with_reducible apply bo0);exact bpA)|fail)⟩,trivial⟩ (by simp[sgL]))) (by omega) ?_
 rintro k s bpQ a
 have q:=AX (w:=w) (all:=all) (data:=data) (g6:=g6) k
 have c:=afR (all:=all) (g6:=g6) hw g k
 by_cases d:k<all.length
 ·have t:=HB j d;have e:(all.getD k default).toNat<(FV w all data g6 k).length:=by omega
  repeat' first| (first|apply bn1|apply aRW (HB c e) (HB g (by omega)) (HB hl (by omega)))<;>(simp only[go_sem];try simp (disch:=omega) only[Iw])|apply bn2 (by omega)|refine⟨by omega,?_⟩|fail
  exact a _ _ _ (k+1) (by omega) (by(refine cR [4,5,0] (by omega) (by repeat' first|exact bo2|refine xqI rfl rfl ?_|refine xqP (by omega) rfl rfl ?_|fail) ⟨⟨by simp,by simp[sgL],_,rfl,bP (aG bF _) rfl rfl⟩,⟨by simp,by simp[sgL],_,rfl,aP (by repeat' first|exact bo2| (with_reducible first|exact bo4|apply bo5)| ((with_reducible apply bo0);exact bpB (by omega) rfl rfl (by rfl) rfl)|fail)⟩,⟨by simp,by simp[sgL],_,rfl,aP (by repeat' first|exact bo2| (with_reducible first|exact bo4|apply bo5)| ((with_reducible apply bo0);exact bpA)|fail)⟩,trivial⟩ (by simp[sgL]))) (by omega) (by omega)
 ·repeat' first|apply bn1<;>(simp only[go_sem])|apply bn3 (by omega)|fail
  have f:k=all.length:=by omega
  subst f;exact lA p (boR [.osl 1 0 0 64 wc]) _ _ rfl (aH (aaF (by omega) rfl rfl rfl rfl) eP) rfl (oB bF _) ⟨rfl,rfl⟩
theorem aS5{all data g6:List Int}{wc wm i:Nat}(a:w.length=64)(hw:All w 0 65535)(b:64<=wc)(f:All all 0 63)(c:all.length<2^21)(g:All data 0 65535)(d:data.length=all.length)(hl:All g6 0 3)(e:g6.length=all.length)
 (hi:i<nx) (j:H i=some ⟨1,wm,w.map aJ⟩) (h:K (boR [.osl 1 i 0 64 wc]) (H.set i ⟨1,wm,(FV w all data g6 all.length).map aJ⟩) nx):
 bNW H5 [boR [.osl 1 i 0 64 wc],dS (all.map aJ),dS (data.map aJ),dS (g6.map aJ)] H nx K:=
 (aSV w all data g6 wc wm a hw b f c g d hl e).OU i rfl (gW ⟨aH (aaF (by omega) rfl rfl rfl rfl) eP,aE rfl,aE rfl,aE rfl,trivial⟩) hi j (oB bF _) fun r o' ⟨k,l⟩=>by subst k;subst l;exact h
theorem aSK(w hs all:List Int)(wc wm hc hm:Nat)(q:hs.length=6)(s:6<=hc)(t:all.length<2^21)(y:All all 0 63):
 bNW v9 [boR [.osl 1 0 0 64 wc,.osl 1 1 0 6 hc],dS (all.map aJ)] (hp [(0,⟨1,wm,w.map aJ⟩),(1,⟨1,hm,hs.map aJ⟩)]) 2
 fun r H' z=>z=2/\ ∃a c,H'=hp [(0,a),(1,c)]/\C7 a/\C7 c/\a=⟨1,wm,w.map aJ⟩/\c=⟨1,hm,(iU hs all).map aJ⟩/\r=boR [.osl 1 0 0 64 wc,.osl 1 1 0 6 hc]:=by
 refine aN.mk Tryz.func291 (by kernel_rfl) aRS rfl fun Q A=> ?_
 unfold aNU
 repeat' first|apply bn1<;>(simp only[go_sem])|fail
 refine aM.sG 2 (β:=Nat) (fun b k=>en [(5,boP k),(4,bkP 2 (b+1)),(2,bkP 2 b),(1,dS (all.map aJ))])
  (fun b k=>hp [(0,⟨1,wm,w.map aJ⟩),(1,⟨1,hm,(xI hs all k).map aJ⟩),(b,⟨2,1,[[.osl 1 0 0 64 wc,.osl 1 1 0 6 hc]]⟩),(b+1,⟨2,1,[[.osl 0 0 0 0 0,.osl 0 0 0 0 0]]⟩)]) (fun k=>k<=6) (fun k=>6-k) 0
  (by(refine cR [2,3,0,1] (by omega) (by repeat' first|exact bo2|refine xqI rfl rfl ?_|refine xqP (by omega) rfl rfl ?_|fail) ⟨⟨by simp,by simp[sgL],_,rfl,bP (aG bF _) rfl rfl⟩,⟨by simp,by simp[sgL],_,rfl,bP (aG bF _) (congrArg _ ac9) rfl⟩,⟨by simp,by simp[sgL],_,rfl,aP (by repeat' first|exact bo2| (with_reducible first|exact bo4|apply bo5)| ((with_reducible apply bo0);exact bpB (by omega) rfl rfl (by rfl) rfl)|fail)⟩,⟨by simp,by simp[sgL],_,rfl,aP (by repeat' first|exact bo2| (with_reducible first|exact bo4|apply bo5)| ((with_reducible apply bo0);exact bpA)|fail)⟩,trivial⟩ (by simp[sgL]))) (by omega) ?_
 rintro k G bpQ g
 have B:=aiJ (all:=all) (show k<=hs.length by omega)
 by_cases C:k<6
 ·have D:=akN (all:=all) (show k<hs.length by omega);have i:=acP (all:=all) (show k<hs.length by omega);repeat' first|apply bn1<;>(simp only[go_sem])|apply bn2 (by omega)|fail
  refine aM.sG 0 (β:=Nat×Int) (fun b u=>en [(6,boP u.1),(5,boP k),(4,bkP 2 6),(2,bkP 2 5),(1,dS (all.map aJ))])
   (fun b u=>hp [(0,⟨1,wm,w.map aJ⟩),(1,⟨1,hm,((xI hs all k).set k u.2).map aJ⟩),(5,⟨2,1,[[.osl 1 0 0 64 wc,.osl 1 1 0 6 hc]]⟩),(6,⟨2,1,[[.osl 0 0 0 0 0,.osl 0 0 0 0 0]]⟩)]) (fun u=>u.1<=all.length/\u.2=if hs.getD k default∈all.take u.1 then-1 else hs.getD k default) (fun u=>all.length-u.1) (0,hs.getD k default)
   (by(refine cR [0,1,5,6] (by omega) (by repeat' first|exact bo2|refine xqI rfl rfl ?_|refine xqP (by omega) rfl rfl ?_|fail) ⟨⟨by simp,by simp[sgL],_,rfl,bP (aG bF _) rfl rfl⟩,⟨by simp,by simp[sgL],_,rfl,bP (aG bF _) (congrArg _ i) rfl⟩,⟨by simp,by simp[sgL],_,rfl,aP (by repeat' first|exact bo2| (with_reducible first|exact bo4|apply bo5)| ((with_reducible apply bo0);exact bpB (by omega) rfl rfl (by rfl) rfl)|fail)⟩,⟨by simp,by simp[sgL],_,rfl,aP (by repeat' first|exact bo2| (with_reducible first|exact bo4|apply bo5)| ((with_reducible apply bo0);exact bpA)|fail)⟩,trivial⟩ (by simp[sgL]))) ⟨by omega,by simp⟩ ?_
  rintro⟨j,v⟩ ⟨E,o⟩ aUS d;dsimp only at E o;by_cases e:j<all.length
  ·have H:=HB y e;have F:((xI hs all k).set k v).getD k default=v:=(by rw[wV (by omega),if_pos rfl]);have f: ∀x,((xI hs all k).set k v).set k x=(xI hs all k).set k x:=fun x=>by rw[bq1]
   have p:=nK e;repeat' first|apply bn1<;>(simp only[go_sem,F,f];try simp (disch:=omega) only[Iw])|apply bn2 (by omega)|refine bnE (fun h=> ?_) fun h=> ?_|refine⟨by omega,?_⟩|fail
   ·exact d _ _ _ (j+1,-1) (by omega) (by(refine cR [0,1,5,6] (by omega) (by repeat' first|exact bo2|refine xqI rfl rfl ?_|refine xqP (by omega) rfl rfl ?_|fail) ⟨⟨by simp,by simp[sgL],_,rfl,bP (aG bF _) rfl rfl⟩,⟨by simp,by simp[sgL],_,rfl,bP (aG bF _) rfl rfl⟩,⟨by simp,by simp[sgL],_,rfl,aP (by repeat' first|exact bo2| (with_reducible first|exact bo4|apply bo5)| ((with_reducible apply bo0);exact bpB (by omega) rfl rfl (by rfl) rfl)|fail)⟩,⟨by simp,by simp[sgL],_,rfl,aP (by repeat' first|exact bo2| (with_reducible first|exact bo4|apply bo5)| ((with_reducible apply bo0);exact bpA)|fail)⟩,trivial⟩ (by simp[sgL]))) ⟨by dsimp only;omega,by dsimp only;rw[p];grind⟩ (by dsimp only;omega)
   ·exact d _ _ _ (j+1,v) (by omega) (by(refine cR [0,1,5,6] (by omega) (by repeat' first|exact bo2|refine xqI rfl rfl ?_|refine xqP (by omega) rfl rfl ?_|fail) ⟨⟨by simp,by simp[sgL],_,rfl,bP (aG bF _) rfl rfl⟩,⟨by simp,by simp[sgL],_,rfl,bP (aG bF _) rfl rfl⟩,⟨by simp,by simp[sgL],_,rfl,aP (by repeat' first|exact bo2| (with_reducible first|exact bo4|apply bo5)| ((with_reducible apply bo0);exact bpB (by omega) rfl rfl (by rfl) rfl)|fail)⟩,⟨by simp,by simp[sgL],_,rfl,aP (by repeat' first|exact bo2| (with_reducible first|exact bo4|apply bo5)| ((with_reducible apply bo0);exact bpA)|fail)⟩,trivial⟩ (by simp[sgL]))) ⟨by dsimp only;omega,by dsimp only;rw[p];grind⟩ (by dsimp only;omega)
  ·have l:j=all.length:=(by omega);subst l;have m:=agQ (x:=v) (show k<hs.length by omega) (by rw[o,bq4]);repeat' first|apply bn1<;>(simp only[go_sem];try simp (disch:=omega) only[Iw])|apply bn3 (by omega)|fail
   exact g _ _ _ (k+1) (by omega) (by(refine cR [5,6,0,1] (by omega) (by repeat' first|exact bo2|refine xqI rfl rfl ?_|refine xqP (by omega) rfl rfl ?_|fail) ⟨⟨by simp,by simp[sgL],_,rfl,bP (aG bF _) rfl rfl⟩,⟨by simp,by simp[sgL],_,rfl,bP (aG bF _) (by rw[m]) rfl⟩,⟨by simp,by simp[sgL],_,rfl,aP (by repeat' first|exact bo2| (with_reducible first|exact bo4|apply bo5)| ((with_reducible apply bo0);exact bpB (by omega) rfl rfl (by rfl) rfl)|fail)⟩,⟨by simp,by simp[sgL],_,rfl,aP (by repeat' first|exact bo2| (with_reducible first|exact bo4|apply bo5)| ((with_reducible apply bo0);exact bpA)|fail)⟩,trivial⟩ (by simp[sgL]))) (by omega) (by omega)
 ·repeat' first|apply bn1<;>(simp only[go_sem])|apply bn3 (by omega)|fail
  have n:k=hs.length:=by omega
  subst n;exact aTE A (boR [.osl 1 0 0 64 wc,.osl 1 1 0 6 hc]) _ _ _ rfl (by repeat' first|exact bo2| ((with_reducible apply bo0);exact bpB (by omega) rfl rfl (by rfl) rfl)| ((with_reducible apply bo1);apply bo6)|exact bo4|apply bo5|fail) rfl rfl (oB bF _) (oB bF _) ⟨rfl,by rw[ahC],rfl⟩
theorem aSH{hs all:List Int}{wc wm hc hm i j:Nat}(a:hs.length=6)(b:6<=hc)(c:all.length<2^21)(g:All all 0 63)
 (hi:i<nx) (k:j<nx) (d:i≠j) (e:H i=some ⟨1,wm,w.map aJ⟩) (f:H j=some ⟨1,hm,hs.map aJ⟩) (h:K (boR [.osl 1 i 0 64 wc,.osl 1 j 0 6 hc]) ((H.set i ⟨1,wm,w.map aJ⟩).set j ⟨1,hm,(iU hs all).map aJ⟩) nx):
 bNW v9 [boR [.osl 1 i 0 64 wc,.osl 1 j 0 6 hc],dS (all.map aJ)] H nx K:=
 (aSK w hs all wc wm hc hm a b c g).aUH i j rfl (gW ⟨aH (aaF (by omega) rfl rfl rfl rfl) (aH (aaF (by omega) rfl rfl rfl rfl) eP),aE rfl,trivial⟩) hi k d e f (oB bF _) (oB bF _) fun r l m ⟨n,o,p⟩=>by subst n;subst o;subst p;exact h
theorem aTB(m:List Rng)(w hs:List Int)(who:Int)(q:Req)(wc wm hc hm:Nat)(v:m.length<2^21)(x:WK w hs)(e:64<=wc)(n:6<=hc)(hw:0<=who/\who<=2)(y:dH q):
 bNW aN2 [dS (m.map eN),boR [.osl 1 0 0 64 wc,.osl 1 1 0 6 hc],boP who,boR (eB q)] (hp [(0,⟨1,wm,w.map aJ⟩),(1,⟨1,hm,hs.map aJ⟩)]) 2
 fun r H' z=>z=2/\ ∃b c,H'=hp [(0,b),(1,c)]/\C7 b/\C7 c/\b=⟨1,wm,(doM m w hs who q).1.1.map aJ⟩/\c=⟨1,hm,(doM m w hs who q).1.2.map aJ⟩/\r= .tup [.agg [.osl 1 0 0 64 wc,.osl 1 1 0 6 hc],.agg (tG (doM m w hs who q).2)]:=by
 obtain⟨f,o,s,A⟩:=x
 obtain⟨B,C,g,i,j,t,u,D⟩:=y
 have E:=DF g
 have F:=ai5 g
 have G:=MK (addr:=q.addr) (many:=q.many) (wrap:=q.wrap)
 have d:All (bE q.addr q.many q.wrap) 0 63:=V1
 have H:=PQ (p:=(inR · ((bE q.addr q.many q.wrap).getD 0 default))) (l:=m)
 have I:bV m (bE q.addr q.many q.wrap)<m.length:=by unfold bV;grind
 have k:wrM q=true->q.data.length=(bE q.addr q.many q.wrap).length/\q.g6.length=(bE q.addr q.many q.wrap).length:=by intro h;unfold wrM at h;unfold n5 at i j;simp at h;simp only[h,if_true] at i j;omega
 refine aN.mk Tryz.func209 (by kernel_rfl) aS3 rfl fun Q a=> ?_
 unfold aOF
 repeat' first| (first|apply bn1| (refine bpM (fun h=> ?_) (fun h=> ?_)<;>try subst h)|apply aC9|apply aDG (by omega) (by omega)|apply aC2|refine aSW f e d (by omega) (by omega) rfl ?_| (refine aS5 f o e d (by omega) t (k (by unfold wrM;simp;omega)).1 u (k (by unfold wrM;simp;omega)).2 (by omega) rfl ?_)|refine aSH s n (by omega) d (by omega) (by omega) (by omega) rfl rfl ?_)<;>(simp only[go_sem];try simp (disch:=omega) only[Iw])|refine bnE (fun h=> ?_) fun h=> ?_| ((refine bnF (fun h=> ?_) (fun h=> ?_))<;>try subst h)|refine⟨by omega,?_⟩|fail
 all_goals have J:=W4 (q:=q)
 all_goals first
  |rw[alZ (by assumption)] at a
  |rw[anB (by assumption) (by assumption) (by assumption)] at a
  |rw[akI (by assumption) (by assumption)] at a
  |rw[amK (by assumption) (by assumption)] at a
  |rw[aqU (by assumption) (by grind) (by assumption) (by assumption)] at a
  |rw[aoE (by assumption) (by grind) (by assumption) (by grind)] at a
  |rw[ao1 (by assumption) (by grind) (by omega)] at a
  | (exfalso;grind)
 all_goals exact aTE a _ _ _ _ rfl (by repeat' first|exact bo2| (with_reducible first|apply aUP|apply aUQ)| ((with_reducible apply bo0);first|exact bo9 rfl|exact bpB (by omega) rfl rfl (by rfl) rfl|exact bpE)|exact bo4|apply bo5|fail) rfl rfl (oB bF _) (oB bF _) ⟨rfl,rfl,rfl⟩
theorem aS7{m:List Rng}{hs:List Int}{who:Int}{q:Req}{wc wm hc hm i j:Nat}(a:m.length<2^21)(g:WK w hs)(b:64<=wc)(c:6<=hc)(hw:0<=who/\who<=2)(k:dH q)
 (hi:i<nx) (l:j<nx) (d:i≠j) (e:H i=some ⟨1,wm,w.map aJ⟩) (f:H j=some ⟨1,hm,hs.map aJ⟩)
 (h:K (.tup [.agg [.osl 1 i 0 64 wc,.osl 1 j 0 6 hc],.agg (tG (doM m w hs who q).2)]) ((H.set i ⟨1,wm,(doM m w hs who q).1.1.map aJ⟩).set j ⟨1,hm,(doM m w hs who q).1.2.map aJ⟩) nx):
 bNW aN2 [dS (m.map eN),boR [.osl 1 i 0 64 wc,.osl 1 j 0 6 hc],boP who,boR (eB q)] H nx K:=
 (aTB m w hs who q wc wm hc hm a g b c hw k).aUH i j rfl (gW ⟨aE rfl,aH (aaF (by omega) rfl rfl rfl rfl) (aH (aaF (by omega) rfl rfl rfl rfl) eP),aE rfl,aE rfl,trivial⟩) hi l d e f (oB bF _) (oB bF _) fun r n o ⟨p,s,t⟩=>by subst p;subst s;subst t;exact h
end
section
variable{H:aA}{nx:Nat}{K:bNX}
def oSt(i0 bO6 bO7 bPV wc hc ac a:Nat)(s:TSt):List D1:=[.osl 1 i0 0 64 wc,.osl 1 bO6 0 6 hc,.osl 1 bO7 0 3 ac,.isl (s.wait.map aS),.isl (s.done.map aS),.osl 5 bPV 0 s.told.length a]
theorem aR1{l:List Job}{a b:Int}(hl:l.length<2^21)(h:K (dS ((BM l ⟨a,b,oW⟩).map aS)) H nx):bNW aJS [dS (l.map aS),boR [cI a,cI b,cI 0,cI 0,.osl 0 0 0 0 0]] H nx K:=(aPM l ⟨a,b,oW⟩ hl).azZ rfl ⟨aE rfl,aH (bB rfl) (aH (bB rfl) (aH (bB rfl) (aH (bB rfl) (aH xG eP)))),trivial⟩ fun r hr=>hr▸h
theorem aoT{i0 bO6 bO7 bPV wc hc ac a:Nat}{s:TSt}:(oSt i0 bO6 bO7 bPV wc hc ac a s).length=6:=rfl
theorem ak4{i0 bO6 bO7 bPV wc hc ac a:Nat}{s:TSt}:(oSt i0 bO6 bO7 bPV wc hc ac a s).take 6=oSt i0 bO6 bO7 bPV wc hc ac a s:=rfl
theorem ajY{i0 bO6 bO7 bPV wc hc ac a k:Nat}{s:TSt}{cs:List D1}:iA cs (k+1) (oSt i0 bO6 bO7 bPV wc hc ac a s)=iA cs (k+1) [.osl 1 i0 0 64 wc,.osl 1 bO6 0 6 hc,.osl 1 bO7 0 3 ac,.isl (s.wait.map aS),.isl (s.done.map aS),.osl 5 bPV 0 s.told.length a]:=rfl
attribute [go_sem] aoT ak4 ajY
theorem aM8{j:Job}:cI j.who::cI j.n::tG j.rsp=aS j:=rfl
theorem aMB{w:List Int}(hl:w.length<2^21)(h:K (boR [.isl (w.map aJ)]) H nx):bNW aIW [boR [.isl (w.map aJ)]] H nx K:=by
 refine aB.fresh (R:=fun b=>b=boR [.isl (w.map aJ)]) ?_ rfl (fun r hr=>hr▸h);clear h;refine aN.mk Tryz.func269 (by kernel_rfl) aK8 rfl fun Q c=> ?_;unfold aJE;repeat' first|apply bn1<;>(simp only[go_sem])| (with_reducible first|refine fun(cap:Nat) (a:_<=cap)=> ?_|refine fun(d:_<=cap)=> ?_)|refine⟨by omega,?_⟩|fail
 all_goals exact V4 c (boR [.isl (w.map aJ)]) _ rfl (aH (bW bF rfl rfl (by omega) trivial) eP) rfl rfl
theorem aKA{w:List Int}{u:List Int}(hl:w.length<2^21)(hu:u.length<2^21)(h:K (boR [.isl (w.map aJ),.isl (u.map aJ)]) H nx):bNW aIR [boR [.isl (w.map aJ),.isl (u.map aJ)]] H nx K:=by
 refine aB.fresh (R:=fun b=>b=boR [.isl (w.map aJ),.isl (u.map aJ)]) ?_ rfl (fun r hr=>hr▸h);clear h;refine aN.mk Tryz.func192 (by kernel_rfl) aLG rfl fun Q c=> ?_;unfold aJH;repeat' first| (first|apply bn1|apply aMB hl)<;>(simp only[go_sem])| (with_reducible first|refine fun(cap:Nat) (a:_<=cap)=> ?_|refine fun(d:_<=cap)=> ?_)|refine⟨by omega,?_⟩|fail
 all_goals exact V4 c (boR [.isl (w.map aJ),.isl (u.map aJ)]) _ rfl (aH (bB rfl) (aH (bW bF rfl rfl (by omega) trivial) eP)) rfl rfl
theorem aMW{r:Rsp}(hl:r.data.length<2^21)(h:K (boR (tG r)) H nx):bNW aI8 [boR (tG r)] H nx K:=by
 refine aB.fresh (R:=fun b=>b=boR (tG r)) ?_ rfl (fun r hr=>hr▸h);clear h;refine aN.mk Tryz.func270 (by kernel_rfl) aL4 rfl fun Q c=> ?_;unfold aJN;repeat' first|apply bn1<;>(simp only[go_sem])| (with_reducible first|refine fun(cap:Nat) (a:_<=cap)=> ?_|refine fun(d:_<=cap)=> ?_)|refine⟨by omega,?_⟩|fail
 all_goals exact V4 c (boR (tG r)) _ rfl (aH (bB rfl) (aH (bB rfl) (aH (bW bF rfl rfl (by omega) trivial) eP))) rfl rfl
theorem aI1{l:List Job}(hl:l.length<2^21)(g: ∀j∈l,j.rsp.data.length<2^21)(h:K (dS (l.map aS)) H nx):bNW aIM [dS (l.map aS)] H nx K:=by
 refine aB.fresh (R:=fun i=>i=dS (l.map aS)) ?_ rfl (fun r hr=>hr▸h);clear h;refine aN.mk Tryz.func193 (by kernel_rfl) aLH rfl fun Q m=> ?_;unfold aJF;repeat' first|apply bn1<;>(simp only[go_sem])|fail
 refine aM.sG 1 (β:=Nat×Nat) (fun b u=>en [(4,boP u.1),(3,boQ 5 b u.1 u.2),(0,dS (l.map aS))])
  (fun b u=>hp [(b,⟨5,u.2,(l.take u.1).map aS⟩)]) (fun u=>u.1<=l.length/\u.1<=u.2) (fun u=>l.length-u.1) (0,0) (by(refine cR [1] (by omega) (by repeat' first| (with_reducible first|exact bo2|apply bo3)| ((with_reducible apply bo0);exact bpA)| ((with_reducible apply bo1);first|exact bo8 rfl|apply bo7)|fail) ⟨⟨by simp,by simp[sgL],_,rfl,bP (aG dZ _) rfl rfl⟩,trivial⟩ (by simp[sgL]))) ⟨by omega,by omega⟩ ?_
 rintro⟨k,cap⟩ ⟨n,hc⟩ bpQ c;dsimp only at n hc;have d:(l.take k).take k=l.take k:=boL (by simp;omega);by_cases a:k<l.length
 ·have hm:=g _ (cC a);repeat' first| (first|apply bn1|apply aMW hm)<;>(simp only[go_sem,d,aM8];try simp (disch:=omega) only[Iw])|apply bn2 (by omega)| (with_reducible first|refine fun(cap:Nat) (f:_<=cap)=> ?_|refine fun(o:_<=cap)=> ?_)|refine⟨by omega,?_⟩| (refine⟨by(rw[CG];omega),?_⟩)|fail
  all_goals exact c _ _ _ (k+1,cap) (by omega) (by(refine cR [28] (by omega) (by repeat' first|exact bo2| (with_reducible first|exact bo2|apply bo3)| ((with_reducible apply bo0);exact bpB (by omega) rfl rfl (by rfl) rfl)| ((with_reducible apply bo1);first|exact bo8 rfl|apply bo7)|fail) ⟨⟨by simp,by simp[sgL],_,rfl,bP (aG dZ _) (by rw[nK a]) rfl⟩,trivial⟩ (by simp[sgL]))) ⟨by dsimp only;omega,by dsimp only;omega⟩ (by dsimp only;omega)
 ·repeat' first|apply bn1<;>(simp only[go_sem])|apply bn3 (by omega)|refine bw9 rfl ?_|fail
  have e:k=l.length:=by omega
  subst e;exact V4 m (dS (l.map aS)) _ rfl (DJ (rows:=l.map aS) (aG dZ _) (by simp) trivial rfl rfl (by simp[boL]) (by simp;omega)) rfl rfl
end
end Go.Proofs.YtlncecohbakleaaGreat
namespace Go.AM
theorem aXE{l:List Job}{j:Job}(h:key j∈l.map key):jT (Go.Proofs.YtlncecohbakleaaGreat.UB l) [j.who,j.n]=some 1:=by
 induction l with
 |nil=>simp at h
 |cons x l a=>
  unfold jT Go.Proofs.YtlncecohbakleaaGreat.UB;rw[n3,List.find?_cons];by_cases he:[j.who,j.n]=[x.who,x.n]
  ·simp[he]
  ·have b:key j∈l.map key:=by
    rw[n3,t3] at h
    rcases h with h|h
    ·exact absurd (by simp only[key,Prod.mk.injEq] at h;rw[h.1,h.2]) he
    ·exact h
   simp only[he,decide_false]
   exact a b
theorem aXB{α:Type}[Inhabited α]{l:List α}{i:Nat}(h:i<l.length):l=l.take i++l.getD i default::l.drop (i+1):=by
 have:l.getD i default=l[i]:=by simp[List.getD,h]
 rw[this,<-brB h,boN]
def a5F(l:List Job):Prop:=l.Pairwise fun a b=>uL b a=false
theorem beB{a b:Job}:uL a b=false↔¬(a.who<b.who\/(a.who=b.who/\a.n<b.n)):=by rw[<-Bool.not_eq_true,qL]
theorem beE{S:List Job}{x:Job}(hs:a5F S):a5F (BM S x):=by
 have k: ∀a∈S.take (S.findIdx (uL x)),uL x a=false:=fun a e=>by obtain⟨i,hi,rfl⟩:=bqY.1 e;rw[brU];have:=br9 (p:=uL x) (xs:=S) (i:=i) (by simp at hi;omega);simpa using this
 have hB: ∀b∈S.drop (S.findIdx (uL x)),uL x b=true:=fun b c=>by
  obtain⟨i,hi,rfl⟩:=bqY.1 c;rw[List.getElem_drop];simp only[CI] at hi;have f:S.findIdx (uL x)<S.length:=by omega
  have j:uL x S[S.findIdx (uL x)]=true:=bsA (w:=f);by_cases h:i=0;·subst h;exact j
  ·have g:=Z6.1 hs (S.findIdx (uL x)) (S.findIdx (uL x)+i) (by omega) (by omega) (by omega);rw[beB] at g;rw[qL] at j ⊢;omega
 have d:(S.take (S.findIdx (uL x))++S.drop (S.findIdx (uL x))).Pairwise fun a b=>uL b a=false:=by rw[boN];exact hs
 unfold BM a5F;rw[brM] at d ⊢;obtain⟨g,l,m⟩:=d;refine⟨g,G0.2 ⟨fun b c=> ?_,l⟩,fun a e b c=> ?_⟩;·have:=hB b c;rw[qL] at this;rw[beB];omega
 ·rcases t3.1 c with rfl|c;·exact k a e
  ·exact m a e b c
theorem bd2(l:List Job):a5F (jX l):=by
 have h: ∀(l acc:List Job),a5F acc->a5F (l.foldl BM acc):=by
  intro l
  induction l with
  |nil=>intro acc h;exact h
  |cons x l a=>intro acc h;exact a _ (beE h)
 exact h l [] List.Pairwise.nil
theorem beW{S:List Job}{x:Job}{j:Nat}(h:j<=S.length)(hs:a5F S)(c:j=0\/uL x (S.getD (j-1) default)=false)(hB: ∀i,j<=i->i<S.length->uL x (S.getD i default)=true):MS S x j=BM S x:=by
 have hl:(S.take j).length=j:=by simp;omega
 conv=>rhs;rw[<-boN j S]
 refine(abS (fun a d=> ?_) fun b e=> ?_).symm
 ·rcases c with rfl|c;·simp at d
  ·obtain⟨i,hi,rfl⟩:=bqY.1 d;rw[brU];by_cases he:i=j-1;·subst he;have:S.getD (j-1) default=S[j-1]:=(by simp[List.getD,show j-1<S.length by omega]);rw[this] at c;exact c
   ·have f:=Z6.1 hs i (j-1) (by omega) (by omega) (by omega);have g:S.getD (j-1) default=S[j-1]:=(by simp[List.getD,show j-1<S.length by omega]);rw[g] at c;rw[beB] at c f ⊢;omega
 ·obtain⟨i,hi,rfl⟩:=bqY.1 e;rw[List.getElem_drop];have:=hB (j+i) (by omega) (by simp at hi;omega);simpa [List.getD,show j+i<S.length by simp at hi;omega] using this
end Go.AM
namespace Go.Proofs.YtlncecohbakleaaGreat
open Go Go.AM
attribute [local irreducible] aM wv aB vd wvH
section
variable{H:aA}{nx:Nat}{K:bNX}
theorem aVW{c:Cfg}{s:TSt}(hb:aQ c)(ht:aTQ s)(h:K (dB (stB c s)) H nx):bNW j9 [boR (cU c),boR (eSt s)] H nx K:=by
 refine aB.pure (args0:=[boR (cU c),boR (eSt s)]) (R:=fun rr=>rr=dB (stB c s)) ?_ rfl (aI ⟨aE rfl,aE rfl,trivial⟩) (fun r hr=>hr▸h);clear h;refine aN.mk Tryz.func198 (by kernel_rfl) FR rfl fun Q O=> ?_;unfold mC;obtain⟨bh,t⟩:=hC hb;obtain⟨bpN,bpO,bpP,bpY,aU1,aU2,aXK⟩:=ht;have hd: ∀j∈s.wait++s.done++s.told,j.rsp.data.length<2^40:=fun j o=>by have:=aXK j o;omega
 by_cases h0:JS s.words s.holds/\(s.asked.length:Int)=3/\kW s.wait/\kW s.done
 case neg=>
  have bj: ¬BA c s:=fun hs=>h0 ⟨ZS hs.atm,by rw[hs.JI];rfl,hs.NR,hs.NW⟩;repeat' first| (first|apply bn1|refine bpL (fun h=> ?_) fun h=> ?_|refine JZ (w:=s.words) (u:=s.holds) (by omega) (by omega) (aE rfl) ?_|refine IK (l:=s.wait) (by omega) (aE rfl) ?_|refine IK (l:=s.done) (by omega) (aE rfl) ?_)<;>(simp only[go_sem])|refine bnE (fun h=> ?_) fun h=> ?_|fail
  all_goals first|exact aZ O (dB false) rfl rfl (congrArg dB (aWH bj).symm)|exact absurd ⟨by simp_all,by omega,by simp_all,by simp_all⟩ h0
 obtain⟨P,Z,aq,ar⟩:=h0;have Z:s.asked.length=3:=by omega
 have au:=af9 Z;repeat' first| (first|apply bn1|apply bpK (by omega)|refine JZ (w:=s.words) (u:=s.holds) (by omega) (by omega) (aE rfl) ?_|refine IK (l:=s.wait) (by omega) (aE rfl) ?_|refine IK (l:=s.done) (by omega) (aE rfl) ?_)<;>(simp only[go_sem,eq_true P,eq_true aq,eq_true ar])|fail
 refine aM.sG 0 (β:=Nat) (fun b k=>en [(38,boP k),(37,boP s.asked.length),(36,dS (s.asked.map aJ)),(5,boP (s.asked.take k).sum),(3,.one (.c (.fQ (eSt s)))),(2,.one (.c (.fQ (cU c))))]) (fun b k=>.nil) (fun k=>k<=3/\(0<=(s.asked.take k).sum/\(s.asked.take k).sum<=12*k)/\ ∀i,i<k->0<=s.asked.getD i default/\s.asked.getD i default<=(c.cP.getD i default).length) (fun k=>3-k) 0 (bU (m5 _) (by repeat' first|exact bo2|refine xqI rfl rfl ?_| (with_reducible apply bo3)| ((with_reducible apply bo1);exact bpH rfl (by simp) rfl rfl rfl)|fail)) ⟨by omega,by simp,fun i hi=>by omega⟩ ?_;rintro k ⟨S,⟨h1,h2⟩,hinv⟩ bpQ bk;by_cases z:k<3
 ·have aw:=alS (l:=s.asked) (k:=k) (by omega);have ax:=t k;repeat' first| (first|apply bn1|apply fE)<;>(simp only[go_sem];try simp (disch:=omega) only[Iw])|apply bn2 (by omega)|refine bnE (fun h=> ?_) fun h=> ?_|refine⟨by omega,?_⟩|fail
  ·exact aZ O (dB false) rfl rfl (congrArg dB (aWH fun hs=>by have:=hs.DC k z;omega).symm)
  ·exact bk _ _ _ (k+1) (by omega) (by rw[aw];exact bU (by omega) (by repeat' first|exact bo2|refine xqI rfl rfl ?_|fail)) ⟨by omega,by rw[aw];omega,iS hinv (by omega)⟩ (by omega)
 have aa:k=3:=by omega
 subst aa;have v:aTF c s.asked:=hinv
 have bm: ∀i,0<=s.asked.getD i default/\s.asked.getD i default<=12:=fun i=>by
  by_cases hi:i<3;·have h1:=v i hi;have h2:=t i;omega
  ·have:s.asked.getD i default=0:=(by simp[List.getD,show s.asked.length<=i by omega]);omega
 repeat' first|apply bn1<;>(simp only[go_sem])|apply bn3 (by omega)|fail
 obtain⟨bm8,p⟩: ∃bm8:List TE,bm8=[s.wait,s.done,s.told]:=⟨_,rfl⟩
 have cb:bm8.length=3:=by subst p;rfl
 have ay:[[D1.isl (s.wait.map aS)],[D1.isl (s.done.map aS)],[D1.isl (s.told.map aS)]]=bm8.map IF:=by subst p;rfl
 obtain⟨seen,G⟩: ∃seen:Nat->List Job,seen=fun k=>(bm8.take k).flatten:=⟨_,rfl⟩
 have B:seen 0=[]:=by subst G;rfl
 have I:seen 3=s.wait++s.done++s.told:=by subst G;subst p;simp
 have d: ∀k,k<3->seen (k+1)=seen k++bm8.getD k default:=fun k S=>by subst G;simp only;rw[brQ (by omega),List.flatten_append];simp[List.getD,show k<bm8.length by omega]
 have az: ∀k,k<3->∃r,seen 3=seen k++bm8.getD k default++r:=fun k S=>by
  have:k=0\/k=1\/k=2:=by omega
  rcases this with rfl|rfl|rfl;·exact⟨bm8.getD 1 default++bm8.getD 2 default,by rw[d 2 (by omega),d 1 (by omega),d 0 (by omega),C0]⟩
  ·exact⟨bm8.getD 2 default,by rw[d 2 (by omega),d 1 (by omega)]⟩
  ·exact⟨[],by rw[d 2 (by omega),bq6]⟩
 have ab: ∀k,k<3->∀j∈bm8.getD k default,j∈s.wait++s.done++s.told:=fun k S j o=>by obtain⟨r,hr⟩:=az k S;rw[<-I,hr];exact brA _ (brH _ o)
 have bn:bm8.getD 0 default=s.wait:=by subst p;rfl
 have T: ∀j,j∈s.done++s.told↔∃k,(k=1\/k=2)/\j∈bm8.getD k default:=fun j=>by
  subst p;constructor
  ·intro h;rcases o3.1 h with h|h;·exact⟨1,.inl rfl,h⟩
   ·exact⟨2,.inr rfl,h⟩
  ·rintro⟨k,rfl|rfl,h⟩;·exact brA _ h
   ·exact brH _ h
 have J: ∀k,k<3->(bm8.getD k default).length<2^21:=fun k S=>by
  have:k=0\/k=1\/k=2:=by omega
  subst p;rcases this with rfl|rfl|rfl<;>(simp[List.getD];omega)
 have cc: ∀k,k<=3->(seen k).length<=k*2^21:=fun k S=>by
  have e1:=J 0 (by omega);have e2:=J 1 (by omega);have e3:=J 2 (by omega);have bpR:(seen 1).length=(bm8.getD 0 default).length:=by rw[d 0 (by omega),B,List.nil_append]
  have f2:(seen 2).length=(seen 1).length+(bm8.getD 1 default).length:=by rw[d 1 (by omega),t2]
  have bpS:(seen 3).length=(seen 2).length+(bm8.getD 2 default).length:=by rw[d 2 (by omega),t2]
  have:k=0\/k=1\/k=2\/k=3:=by omega
  rcases this with rfl|rfl|rfl|rfl;·rw[B];simp
  ·omega
  ·omega
  ·omega
 rw[ay];clear ay p G
 refine aM.sG 1 (β:=Nat) (fun b k=>en [(65,boP k),(64,boP 3),(63,dS (bm8.map IF)),(8,.one (.c (.omap b))),(5,boP (s.asked.take 3).sum),(3,.one (.c (.fQ (eSt s)))),(2,.one (.c (.fQ (cU c))))]) (fun b k=>hp [(b,u4 ⟨2,true,UB (seen k)⟩)])
  (fun k=>k<=3/\(∀j∈seen k,InA s.asked j)/\((seen k).map key).Nodup/\(0<k->∀j∈s.wait,j.rsp=oW)/\ ∀i,i<k->0<i->∀j∈bm8.getD i default,as5 c j) (fun k=>3-k) 0 ?_ ⟨by omega,fun j o=>by rw[B] at o;simp at o,by rw[B];simp,fun h=>by omega,fun i hi=>by omega⟩ ?_
 ·refine cR [31] (by omega) ?_ ⟨⟨by simp,by simp[sgL],_,rfl,GH (by rw[B];rfl)⟩,trivial⟩ (by simp[sgL]);refine oF (oF (oF (oF (oF (oF (oF K6 ?_) ?_) ?_) ?_) ?_) ?_) ?_
  all_goals first
   |exact DJ (rows:=bm8.map IF) (aG al7 bm8) (by simp;omega) (by simp) rfl rfl (boL (by simp)) (by simp;omega)
   |exact apS (aa6 (by omega) rfl)
   | (repeat' (first|exact bo2| ((with_reducible apply bo1);exact bo8 rfl)|fail);done)
 rintro k ⟨S,ad,ae,ba,af⟩ bqG bo;by_cases z:k<3
 ·have C:=d k z;have bb:=ab k z;have bp:=J k z;obtain⟨rest,D⟩:=az k z;have ag:k=0->bm8.getD k default=s.wait:=fun h=>by rw[h];exact bn
  have bc:0<k->∀j∈bm8.getD k default,j∈s.done++s.told:=fun h j o=>(T j).2 ⟨k,by omega,o⟩;have bq: ∀i,i<k->0<i->∀j∈bm8.getD i default,as5 c j:=af
  have bd:(∀j∈bm8.getD k default,as5 c j)->∀i,i<k+1->0<i->∀j∈bm8.getD i default,as5 c j:=fun h i hi h0=>by
   rcases br8.1 hi with h2|h2;·exact af i h2 h0
   ·subst h2;exact h
  generalize ah:bm8.getD k default=cur at C bb bp ag bc D bd;repeat' first|apply bn1<;>(simp only[go_sem,ah])|apply bn2 (by omega)|refine⟨by omega,?_⟩|fail
  refine aM.sG 1 (β:=Nat) (fun b i=>en [(72,boP i),(71,boP cur.length),(70,dS (cur.map aS)),(65,boP k),(64,boP 3),(63,dS (bm8.map IF)),(9,boP k),(8,.one (.c (.omap b))),(5,boP (s.asked.take 3).sum),(3,.one (.c (.fQ (eSt s)))),(2,.one (.c (.fQ (cU c))))]) (fun b i=>hp [(b,u4 ⟨2,true,UB (seen k++cur.take i)⟩)])
   (fun i=>i<=cur.length/\(∀j∈seen k++cur.take i,InA s.asked j)/\((seen k++cur.take i).map key).Nodup/\ ∀j∈cur.take i,if k=0 then j.rsp=oW else as5 c j) (fun i=>cur.length-i) 0 (by(refine cR [42] (by omega) (by repeat' first|exact bo2|refine xqI rfl rfl ?_| (with_reducible apply bo3)| ((with_reducible apply bo0);exact bpD (by omega) rfl)| ((with_reducible apply bo1);apply bo7)|fail) ⟨⟨by simp,by simp[sgL],_,rfl,GH (by simp)⟩,trivial⟩ (by simp[sgL]))) ⟨by omega,by simpa using ad,by simpa using ae,by simp⟩ ?_
  rintro i ⟨hi,ai,aj,L⟩ bqR bf;by_cases M:i<cur.length
  ·have ak:=cC M;have bg:=bb _ ak;have N:=hd _ bg;have E:cur.take (i+1)=cur.take i++[cur.getD i default]:=(by rw[brQ M];simp[List.getD,M]);have al:s.wait++s.done++s.told=(seen k++cur.take i)++cur.getD i default::(cur.drop (i+1)++rest):=(by rw[<-I,D,C0,C0,<-List.cons_append,<-C0 (cur.take i),<-aXB M]);have br:k=0->cur.getD i default∈s.wait:=fun h=>by rw[<-ag h];exact ak
   have bs:0<k->cur.getD i default∈s.done++s.told:=fun h=>bc h _ ak;generalize A:cur.getD i default=j at*;have an: ¬InA s.asked j->¬BA c s:=fun h hs=>h (hs.inA j bg);have ao:key j∈(seen k++cur.take i).map key->¬BA c s:=fun h hs=>by have hn:=hs.nodup;unfold keys at hn;rw[al,bqX] at hn;exact(brG.1 hn).2.2 _ h _ (by simp) rfl
   by_cases F:InA s.asked j
   case neg=>
    unfold InA at F;have bt:(s.asked.length:Int)=3:=(by omega);have bu:=bm j.who.toNat;have ax:=t j.who.toNat;repeat' first| (first|apply bn1|apply bpJ (by omega)|refine bpL (fun h=> ?_) fun h=> ?_|apply oR|apply fE)<;>(simp only[go_sem,A];try simp (disch:=omega) only[Iw])|apply bn2 (by omega)|refine⟨by omega,?_⟩|fail
    all_goals first
     |exact aZ O (dB false) rfl rfl (congrArg dB (aWH (an F)).symm)
     | (exfalso;omega)
   have g:key j∉(seen k++cur.take i).map key\/key j∈(seen k++cur.take i).map key:=(Classical.em _).symm
   have U: ∀x∈seen k++cur.take (i+1),InA s.asked x:=fun x q=>by
    rw[E,<-C0] at q;rcases o3.1 q with q|q;·exact ai x q
    ·simp at q;subst q;exact F
   have bw:oA c j.who j.n:=by obtain⟨⟨q1,q2⟩,q3,q4⟩:=F;have:=v j.who.toNat (by omega);exact⟨⟨q1,q2⟩,q3,by omega⟩
   obtain⟨⟨q1,q2⟩,q3,q4⟩:=F;have bu:=v j.who.toNat (by omega);have ax:=t j.who.toNat;rcases g with g|g
   case inr=>
    have e:=aXE g;repeat' first| (first|apply bn1|apply bpK (by omega)|apply oR|apply fE)<;>(simp only[go_sem,A,e,Option.getD_some];try simp (disch:=omega) only[Iw])|apply bn2 (by omega)|refine⟨by omega,?_⟩|fail
    all_goals exact aZ O (dB false) rfl rfl (congrArg dB (aWH (ao g)).symm)
   have e:=alK g;have y:=alD g;have V:((seen k++cur.take (i+1)).map key).Nodup:=by rw[E,<-C0,bqX];refine brG.2 ⟨aj,by simp,fun a ha b hb he=> ?_⟩;simp at hb;subst hb;subst he;exact g ha
   have W:(if k=0 then j.rsp=oW else as5 c j)->∀x∈cur.take (i+1),if k=0 then x.rsp=oW else as5 c x:=fun h x q=>by
    rw[E] at q;rcases o3.1 q with q|q;·exact L x q
    ·simp at q;subst q;exact h
   by_cases m:k=0
   ·by_cases f:j.rsp=oW
    ·repeat' first| (first|apply bn1|apply bpJ (by omega)|apply bpK (by omega)|apply oR|apply fE|apply HK N)<;>(simp only[go_sem,A,e,y,Option.getD_none,eq_true f];try simp (disch:=omega) only[Iw])|apply bn2 (by omega)|refine⟨by omega,?_⟩|fail
     exact bf _ _ _ (i+1) (by omega) (by(refine cR [52] (by omega) (by repeat' first|exact bo2|refine xqI rfl rfl ?_| (with_reducible apply bo3)| ((with_reducible apply bo0);exact bpD (by omega) rfl)| ((with_reducible apply bo1);apply bo7)|fail) ⟨⟨by simp,by simp[sgL],_,rfl,GH (by rw[E,C0])⟩,trivial⟩ (by simp[sgL]))) ⟨by omega,U,V,W (by rw[if_pos m];exact f)⟩ (by omega)
    ·repeat' first| (first|apply bn1|apply bpJ (by omega)|apply bpK (by omega)|apply oR|apply fE|apply HK N)<;>(simp only[go_sem,A,e,y,Option.getD_none,eq_false f];try simp (disch:=omega) only[Iw])|apply bn2 (by omega)|refine⟨by omega,?_⟩|fail
     exact aZ O (dB false) rfl rfl (congrArg dB (aWH fun hs=>f (hs.P4 j (br m))).symm)
   ·have bx:0<k:=(by omega);have X: ¬as5 c j->¬BA c s:=fun h hs=>h (hs.R8 j (bs bx));by_cases f:pA j.rsp
    ·repeat' first| (first|apply bn1|apply bpJ (by omega)|apply bpK (by omega)|apply oR|apply fE|apply I8 N|apply iJ bh bw)<;>(simp only[go_sem,A,e,y,Option.getD_none,eq_true f];try simp (disch:=omega) only[Iw])|apply bn2 (by omega)|refine bnE (fun h=> ?_) fun h=> ?_|refine⟨by omega,?_⟩|fail
     ·exact aZ O (dB false) rfl rfl (congrArg dB (aWH (X fun h=>by have:=h.2;omega)).symm)
     ·exact bf _ _ _ (i+1) (by omega) (by(refine cR [52] (by omega) (by repeat' first|exact bo2|refine xqI rfl rfl ?_| (with_reducible apply bo3)| ((with_reducible apply bo0);exact bpD (by omega) rfl)| ((with_reducible apply bo1);apply bo7)|fail) ⟨⟨by simp,by simp[sgL],_,rfl,GH (by rw[E,C0])⟩,trivial⟩ (by simp[sgL]))) ⟨by omega,U,V,W (by rw[if_neg m];exact⟨f,by omega⟩)⟩ (by omega)
    ·repeat' first| (first|apply bn1|apply bpJ (by omega)|apply bpK (by omega)|apply oR|apply fE|apply I8 N)<;>(simp only[go_sem,A,e,y,Option.getD_none,eq_false f];try simp (disch:=omega) only[Iw])|apply bn2 (by omega)|refine⟨by omega,?_⟩|fail
     exact aZ O (dB false) rfl rfl (congrArg dB (aWH (X fun h=>f h.1)).symm)
  ·have bz:i=cur.length:=(by omega);subst bz;rw[bq4,<-C] at ai aj;rw[bq4] at L;rw[bq4,<-C];repeat' first|apply bn1<;>(simp only[go_sem];try simp (disch:=omega) only[Iw])|apply bn3 (by omega)|fail
   refine bo _ _ _ (k+1) (by omega) (by(refine cR [52] (by omega) (by repeat' first|exact bo2|refine xqI rfl rfl ?_| (with_reducible apply bo3)| ((with_reducible apply bo0);exact bpD (by omega) rfl)| ((with_reducible apply bo1);apply bo7)|fail) ⟨⟨by simp,by simp[sgL],_,rfl,GH rfl⟩,trivial⟩ (by simp[sgL]))) ⟨by omega,ai,aj,fun _=> ?_,?_⟩ (by omega)
   ·by_cases m:k=0;·intro j o;have:=L j (by rw[ag m];exact o);rwa [if_pos m] at this
    ·exact ba (by omega)
   ·intro bO7 h1 h2;by_cases m:k=0;·omega
    ·exact bd (fun j o=>by have:=L j o;rwa [if_neg m] at this) bO7 h1 h2
 ·have aa:k=3:=by omega
  subst aa;rw[I] at ad ae;have ca:=congrArg List.length I;rw[t2,t2] at ca;repeat' first|apply bn1<;>(simp only[go_sem])|apply bn3 (by omega)|fail
  refine aZ O (dB (decide (((UB (seen 3)).length:Int)=(s.asked.take 3).sum))) rfl rfl (congrArg dB ?_);rw[amR];by_cases Y:((seen 3).length:Int)=(s.asked.take 3).sum;·rw[decide_eq_true Y];refine(aXJ (aUA P Z v aq ar ad ae (by omega) (ba (by omega)) fun j o=> ?_)).symm;obtain⟨k,S,o⟩:=(T j).1 o;exact af k (by omega) (by omega) j o
  ·rw[decide_eq_false Y];exact(aWH fun hs=>by have:=hs.count;omega).symm
theorem a42{l:List Job}{m cap i0:Nat}(hl:l.length<2^21)(hi:i0<nx)(G:H i0=some ⟨5,m,l.map aS⟩)
 (h: ∀H' nx',nx<=nx'->H' i0=some ⟨5,m,(jX l).map aS⟩->(∀id,id<nx->id≠i0->H' id=H id)->K (.tup []) H' nx'):
 bNW cL [.one (.c (.osl 5 i0 0 l.length cap)),boP 0,boP l.length,.one (.c (.clo bJ []))] H nx K:=by
 refine cJ.mk Tryz.func303 (by kernel_rfl) m9 rfl fun Q I=> ?_
 unfold dU
 repeat' first|apply bn1<;>(simp only[go_sem];try simp (disch:=omega) only[Iw])|fail
 refine aM.gP (β:=Nat) (fun k=>en [(8,boP k),(3,.one (.c (.clo bJ []))),(2,boP l.length),(1,boP 0),(0,.one (.c (.osl 5 i0 0 l.length cap)))])
  (fun k H1 _=>1<=k/\(k<=1\/k<=l.length)/\H1 i0=some ⟨5,m,(A5 l k++l.drop k).map aS⟩/\ ∀id,id<nx->id≠i0->H1 id=H id) (fun k=>l.length+1-k) 1
  ⟨noF,_,by repeat' first|exact bo2|refine xqI rfl rfl ?_|refine xqO (by omega) rfl rfl (by rfl) ?_| (with_reducible apply bo3)| ((with_reducible apply bo0);exact bpG (by rfl))| ((with_reducible apply bo1);apply bo7)|fail,aK,by omega,.inl (by omega),by rw[ah3,boN];exact G,fun _ _ _=>rfl⟩ ?_
 rintro k H1 J L ⟨M,N,bqC,n⟩ bpQ s
 by_cases f:k<l.length
 ·repeat' first|apply bn1<;>(simp only[go_sem])|apply bn2 (by omega)|fail
  obtain⟨S,q⟩: ∃S,S=A5 l k:=⟨_,rfl⟩
  have O:S.length=k:=by rw[q];exact ahI (by omega)
  obtain⟨x,C⟩: ∃x,x=l.getD k default:=⟨_,rfl⟩
  have t:l.drop k=x::l.drop (k+1):=by rw[brB f,C];simp[List.getD,f]
  refine aM.gP (β:=Nat) (fun j=>en [(9,boP j),(8,boP k),(3,.one (.c (.clo bJ []))),(2,boP l.length),(1,boP 0),(0,.one (.c (.osl 5 i0 0 l.length cap)))])
   (fun j H2 _=>j<=k/\H2 i0=some ⟨5,m,(MS S x j++l.drop (k+1)).map aS⟩/\(∀i,j<=i->i<S.length->uL x (S.getD i default)=true)/\ ∀id,id<nx->id≠i0->H2 id=H id) (fun j=>j) k
   ⟨noF,_,by repeat' first|exact bo2|refine xqI rfl rfl ?_|refine xqO (by omega) rfl rfl (by rfl) ?_| (with_reducible apply bo3)| ((with_reducible apply bo0);exact bpG (by rfl))| ((with_reducible apply bo1);apply bo7)|fail,aK,m5 _,?_,fun i D r=>by omega,n⟩ ?_
  ·rw[bqC,<-q,t];unfold MS;rw[boL (show S.length<=k by omega),show S.drop k=[] from brZ (by omega)];simp
  rintro j H2 g E ⟨U,bfZ,hB,d⟩ bqG u;have v:(MS S x j++l.drop (k+1)).length=l.length:=by rw[t2,amF (by omega),CI];omega
  have w: ∀b,(i0=g+b)=False:=fun b=>eq_false (by omega);have o: ∀b,(g+b=i0)=False:=fun b=>eq_false (by omega);have a: ∀{e:Env} {H':aA} {y:Nat},g<=y->(j=0\/uL x (S.getD (j-1) default)=false)->H'=H2->CvE H' noF id y (en [(8,boP (k+1)),(3,.one (.c (.clo bJ []))),(2,boP l.length),(1,boP 0),(0,.one (.c (.osl 5 i0 0 l.length cap)))]) e->bpQ e H' y:=fun D r P k9=>by subst P;refine s _ _ _ (k+1) noF _ (by omega) (by omega) k9 aK ⟨by omega,.inr (by omega),?_,d⟩;rw[bfZ,beW (by omega) (by rw[q];exact bd2 _) r hB,q,ac8 f,C]
  by_cases p:0<j
  ·have z:=anT (S:=S) (R:=l.drop (k+1)) (x:=x) (j:=j) (by omega);have A:=adY (S:=S) (R:=l.drop (k+1)) (x:=x) p (by omega);have B:=ah1 (S:=S) (R:=l.drop (k+1)) (x:=x) p (by omega);have T:((j:Int)-1).toNat=j-1:=(by omega);repeat' first| (first|apply bn1|apply bpJ (by omega)|apply xM)<;>(simp only[go_sem,bfZ,z,A,T,v,w,o];try simp (disch:=omega) only[Iw])|refine bnE (fun h=> ?_) fun h=> ?_|refine⟨by omega,?_⟩|fail
   ·exact u _ _ _ (j-1) noF _ (by omega) (by omega) (by repeat' first|exact bo2|refine xqI rfl rfl ?_|refine xqO (by omega) rfl rfl (by rfl) ?_|refine xqV rfl (by omega) ?_| (with_reducible apply bo3)| ((with_reducible apply bo0);exact bpG (by rfl))| ((with_reducible apply bo1);apply bo7)|fail) aK ⟨by omega,by rw[B];exact aA.bH,fun i D r=>by
     by_cases he:i=j-1
     ·subst he;exact E7.1 (by assumption)
     ·exact hB i (by omega) r,fun id boU F=>by rw[aA.aC F];exact d id boU F⟩
   ·exact a (by omega) (.inr (by rw[<-Bool.not_eq_true,<-E7];assumption)) rfl (by repeat' first|exact bo2|refine xqI rfl rfl ?_|refine xqO (by omega) rfl rfl (by rfl) ?_| (with_reducible apply bo3)| ((with_reducible apply bo0);exact bpG (by rfl))| ((with_reducible apply bo1);apply bo7)|fail)
  ·repeat' first| (first|apply bn1|apply bpK (by omega))<;>(simp only[go_sem];try simp (disch:=omega) only[Iw])|fail
   exact a (by omega) (.inl (by omega)) rfl (by repeat' first|exact bo2|refine xqI rfl rfl ?_|refine xqO (by omega) rfl rfl (by rfl) ?_| (with_reducible apply bo3)| ((with_reducible apply bo0);exact bpG (by rfl))| ((with_reducible apply bo1);apply bo7)|fail)
 ·repeat' first|apply bn1<;>(simp only[go_sem])|apply bn3 (by omega)|fail
  have t:A5 l k++l.drop k=jX l:=by rw[brZ (by omega),bq6,<-aiE];unfold A5;rw[boL (by omega),boL (by omega)]
  rw[t] at bqC;exact I _ _ _ _ _ (.inl rfl) rfl (h _ _ (by omega) bqC n)
theorem bb2{l:List Job}{m cap i0:Nat}(hl:l.length<20)(hi:i0<nx)(d:H i0=some ⟨5,m,l.map aS⟩)
 (h: ∀H' nx',nx<=nx'->H' i0=some ⟨5,m,(jX l).map aS⟩->(∀id,id<nx->id≠i0->H' id=H id)->K (.tup []) H' nx'):
 bNW gL [.one (.c (.osl 5 i0 0 l.length cap)),boP l.length,.one (.c (.clo bJ []))] H nx K:=by
 refine cJ.mk Tryz.func225 (by kernel_rfl) sX rfl fun Q e=> ?_
 unfold gA
 repeat' first|apply bn1<;>(simp only[go_sem])|fail
 refine aM.gP (β:=Unit) (fun _=>en [(8,boP 20),(7,boP 0),(6,boP 20),(2,.one (.c (.clo bJ []))),(1,boP l.length),(0,.one (.c (.osl 5 i0 0 l.length cap)))]) (fun _ H1 _=>H1=H) (fun _=>0) () ⟨noF,_,by repeat' first|exact bo2|refine xqI rfl rfl ?_|refine xqO (by omega) rfl rfl (by rfl) ?_| (with_reducible apply bo3)| ((with_reducible apply bo0);exact bpG (by rfl))| ((with_reducible apply bo1);apply bo7)|fail,aK,rfl⟩ ?_
 rintro u H1 f g rfl bpQ i
 repeat' first| (first|apply bn1|refine a42 (by omega) (by omega) d (fun H' nx' j bfZ a=> ?_))<;>(simp only[go_sem])|apply bn3 (by omega)|fail
 refine aM.gP (β:=Unit) (fun _=>en [(6,boP 20),(2,.one (.c (.clo bJ []))),(1,boP l.length),(0,.one (.c (.osl 5 i0 0 l.length cap)))]) (fun _ H2 _=>H2=H') (fun _=>0) () ⟨noF,_,by repeat' first|exact bo2|refine xqI rfl rfl ?_|refine xqO (by omega) rfl rfl (by rfl) ?_| (with_reducible apply bo3)| ((with_reducible apply bo0);exact bpG (by rfl))| ((with_reducible apply bo1);apply bo7)|fail,aK,rfl⟩ ?_
 rintro u H2 k b rfl bqG n
 repeat' first|apply bn1<;>(simp only[go_sem])|apply bn3 (by omega)|fail
 exact e _ _ _ _ _ (.inl rfl) rfl (h _ _ (by omega) bfZ fun id boU o=>a id (by omega) o)
theorem a3D{l:List Job}{m cap i0:Nat}(hl:l.length<20)(hi:i0<nx)(b:H i0=some ⟨5,m,l.map aS⟩)
 (h: ∀H' nx',nx<=nx'->H' i0=some ⟨5,m,(jX l).map aS⟩->(∀id,id<nx->id≠i0->H' id=H id)->K (.tup []) H' nx'):
 bNW cG [.one (.c (.osl 5 i0 0 l.length cap)),.one (.c (.clo bJ []))] H nx K:=by
 refine cJ.mk Tryz.func135 (by kernel_rfl) mB rfl fun Q d=> ?_
 unfold dF
 repeat' first| (first|apply bn1|refine bb2 hl (by omega) b (fun H' nx' e bfZ a=> ?_))<;>(simp only[go_sem])|fail
 exact d _ _ _ _ _ (.inl rfl) rfl (h _ _ (by omega) bfZ fun id boU f=>a id (by omega) f)
end
end Go.Proofs.YtlncecohbakleaaGreat
