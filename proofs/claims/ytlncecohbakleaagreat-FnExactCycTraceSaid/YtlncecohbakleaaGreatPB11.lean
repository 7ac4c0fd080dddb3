/- Texts laid together by a program: rules, contracts and the walk that leads to the law. -/
import Derived.Test.YtlncecohbakleaaGreatPB7
import Derived.Test.YtlncecohbakleaaGreatPB8
set_option linter.unusedVariables false
set_option linter.unusedSimpArgs false
set_option linter.unusedSectionVars false
set_option maxRecDepth 100000
set_option maxHeartbeats 8000000
namespace Go.AM
abbrev se:=List Job
def VI(l:se):List D1:=[.isl (l.map aP)]
theorem Ra{l:se}:(VI l).length=1:=rfl
theorem Gz{l:se}:(VI l).take 1=[.isl (l.map aP)]:=rfl
theorem Gr{l:se}:(VI l).drop 1=[]:=rfl
theorem Mq{l:se}{cs:List D1}{k:Nat}:kK cs (k+1) (VI l)=kK cs (k+1) [.isl (l.map aP)]:=rfl
theorem Yi(l:se):(VI l).length=1/\(VI l).all D1.fV=true:=⟨rfl,rfl⟩
attribute [go_sem] Ra Gz Gr Mq
theorem Ru{S R:List Job}{x:Job}{j:Nat}(c:0<j)(d:j<=S.length):((fl S x j++R).set j (S.getD (j-1) default)).set (j-1) x=fl S x (j-1)++R:=by
 have a:S.take j=S.take (j-1)++[S.getD (j-1) default]:=by have:=eY (l:=S) (k:=j-1) (by omega);rwa [show j-1+1=j by omega] at this
 have b:S.drop (j-1)=S.getD (j-1) default::S.drop j:=by have:=alF (l:=S) (i:=j-1) (by omega);rw[this,show j-1+1=j by omega];simp[List.getD,show j-1<S.length by omega]
 have hl:(S.take (j-1)).length=j-1:=by simp;omega
 unfold fl;rw[a,b];generalize S.take (j-1)=A at*;generalize S.drop j=B;generalize S.getD (j-1) default=y;simp only[akO,List.cons_append,List.nil_append,List.singleton_append];obtain rfl:j=A.length+1:=by omega
 rw[List.set_append_right _ _ (by omega)];simp
theorem adC{S R:List Job}{x:Job}{j:Nat}(a:j<=S.length):(fl S x j++R).getD j default=x:=by
 have hl:(S.take j).length=j:=by simp;omega
 unfold fl;simp[List.getD,hl,akO,amI]
theorem Np{S R:List Job}{x:Job}{j:Nat}(a:0<j)(b:j<=S.length):(fl S x j++R).getD (j-1) default=S.getD (j-1) default:=by unfold fl;simp only[List.getD,akO];rw[amE (by simp;omega),List.getElem?_take_of_lt (by omega)]
end Go.AM
namespace Go.Proofs.YtlncecohbakleaaGreat
open Go Go.AM
attribute [local irreducible] aH wv aC vd wvH
section
variable{H:aA}{nx:Nat}{K:an4}
variable{l:List Job}
theorem Pc(h: ∀i,i<l.length->1<=i->Le (l.getD (i-1) default) (l.getD i default)<0):jF l:=by
 have a: ∀(d i:Nat) (hi:i+d+1<l.length),fP (l.getD i default) (l.getD (i+d+1) default)=true:=by
  intro d
  induction d with
  |zero=>intro i hi;have:=h (i+1) (by omega) (by omega);rw[S1] at this;simpa using this
  |succ d b=>intro i hi;have g:=b i (by omega);have c:=h (i+d+2) (by omega) (by omega);rw[S1,show i+d+2-1=i+d+1 by omega] at c;rw[show i+(d+1)+1=i+d+2 by omega];rw[uU] at*;omega
 refine ak5.2 fun i j hi e f=> ?_;have:=a (j-i-1) i (by omega);rw[show i+(j-i-1)+1=j by omega] at this;simpa [List.getD,hi,e] using this
theorem CK(hl:l.length<2^21){j:D}(c:CvD H (fun _=>True) id 0 (dS (l.map aP)) j)(h:K (dB (decide (jF l))) H nx):an3 CX [j] H nx K:=by
 refine aC.pure (args0:=[dS (l.map aP)]) (R:=fun n=>n=dB (decide (jF l))) ?_ rfl (aE ⟨c,trivial⟩) (fun r hr=>hr▸h);clear h;refine aM.mk Tryz.func284 (by kernel_rfl) xp rfl fun Q m=> ?_;unfold yD;repeat' first|apply vI<;>(simp only[go_sem])|fail
 refine aH.SJ 0 (β:=Nat) (fun b k=>en [(3,dI k),(0,dS (l.map aP))]) (fun b k=>hp []) (fun k=>(1<=k/\(k<=l.length\/k=1))/\ ∀i,i<k->i<l.length->1<=i->Le (l.getD (i-1) default) (l.getD i default)<0) (fun k=>l.length-k) 1 (aS (akA _) (by repeat' first|exact C1|refine xqI rfl rfl ?_|fail)) ⟨by omega,fun i hi _ _=>by omega⟩ ?_;rintro k ⟨q,hinv⟩ s d;by_cases a:k<l.length
 ·have o:((k:Int)-1).toNat=k-1:=by omega
  repeat' first| (first|apply vI|apply HM)<;>(simp only[go_sem,o];try simp (disch:=omega) only[Iw])|apply vT (by omega)|refine iB (fun h=> ?_) fun h=> ?_|refine⟨by omega,?_⟩|fail
  ·refine aJ m (dB false) rfl rfl (j9 fun hs=> ?_);have p:=ak5.1 hs (k-1) k (by omega) a (by omega);have t:Le (l.getD (k-1) default) (l.getD k default)<0:=(by rw[S1];simpa [List.getD,a,show k-1<l.length by omega] using p);omega
  ·exact d _ _ _ (k+1) (by omega) (aS (akA _) (by repeat' first|exact C1|refine xqI rfl rfl ?_|fail)) ⟨by omega,fun i hi e f=>by
    rcases anF.1 hi with g|g
    ·exact hinv i g e f
    ·subst g;omega⟩ (by omega)
 ·repeat' first|apply vI<;>(simp only[go_sem])|apply vF (by omega)|fail
  exact aJ m (dB true) rfl rfl (uE (Pc fun i hi f=>hinv i (by omega) hi f))
theorem YB{r:Rsp}(hr:r.data.length<2^40)(h:K (dB (decide (r=kL))) H nx):an3 oU [dA (nS r)] H nx K:=by
 refine aC.pure (args0:=[dA (nS r)]) (R:=fun a=>a=dB (decide (r=kL))) ?_ rfl (aE ⟨aD rfl,trivial⟩) (fun r hr=>hr▸h);clear h;refine aM.mk Tryz.func285 (by kernel_rfl) T2 rfl fun Q b=> ?_;unfold nC;repeat' first| (first|apply vI|refine Y6 (fun h=> ?_) fun h=> ?_)<;>(simp only[go_sem])|fail
 all_goals first|with_reducible refine aJ b _ rfl rfl ?_|skip
 all_goals (obtain⟨c,d,e⟩:=r;unfold kL;dsimp only at*;first|exact uE (by simp_all)|exact j9 (by simp_all)|exact rL (by simp_all)|exact rL (by simp only[Rsp.mk.injEq];rw[<-alZ];omega))
theorem Fb{r:Rsp}(hr:r.data.length<2^40)(h:K (dB (decide (jZ r))) H nx):an3 zZ [dA (nS r)] H nx K:=by
 refine aC.pure (args0:=[dA (nS r)]) (R:=fun a=>a=dB (decide (jZ r))) ?_ rfl (aE ⟨aD rfl,trivial⟩) (fun r hr=>hr▸h);clear h;refine aM.mk Tryz.func283 (by kernel_rfl) Ba rfl fun Q b=> ?_;unfold B5;repeat' first| (first|apply vI|refine Y6 (fun h=> ?_) fun h=> ?_|apply cO|refine E1 hr (aD rfl) ?_)<;>(simp only[go_sem])|fail
 all_goals first|with_reducible refine aJ b _ rfl rfl ?_|skip
 all_goals first|exact j9 (by unfold jZ;grind)|exact rL (by unfold jZ;grind)|exact uE (by unfold jZ;grind)
theorem FR{r:Rsp}(hr:r.data.length<2^40)(h:K (dB (decide (r=kL))) H nx):an3 oU [.one (.agg [cI r.id,cI r.code,.isl (r.data.map aG)])] H nx K:=YB hr h
theorem uP{r:Rsp}(hr:r.data.length<2^40)(h:K (dB (decide (jZ r))) H nx):an3 zZ [.one (.agg [cI r.id,cI r.code,.isl (r.data.map aG)])] H nx K:=Fb hr h
def qb(l:List Job):List (List Int×Int):=l.map fun j=>([j.who,j.n],1)
theorem Zh{j:Job}(h:key j∉l.map key):kC (qb l) [j.who,j.n]=none:=by unfold kC qb;rw[Option.map_eq_none_iff,List.find?_eq_none];intro p hp;obtain⟨x,a,rfl⟩:=akJ.1 hp;simp only[List.cons.injEq,and_true,decide_eq_true_eq];intro he;exact h (akJ.2 ⟨x,a,by simp[key,he.1,he.2]⟩)
theorem Yn{j:Job}(h:key j∉l.map key):DY (qb l) [j.who,j.n] 1=qb (l++[j]):=by
 induction l with
 |nil=>rfl
 |cons x l b=>simp only[akP,akK,not_or] at h;have a: ¬[j.who,j.n]=[x.who,x.n]:=fun he=>h.1 (by simp only[List.cons.injEq,and_true] at he;simp[key,he.1,he.2]);show DY (([x.who,x.n],1)::qb l) _ _=_;simp only[DY,a,if_false,b h.2];rfl
theorem Yo:(qb l).length=l.length:=by simp[qb]
theorem aaB{l:List Int}{k:Nat}(h:k<l.length):(l.take (k+1)).sum=(l.take k).sum+l.getD k default:=by rw[amF h,List.sum_append];simp[List.getD,h]
theorem Uh{l:List Int}(h:l.length=3):(l.take 3).sum=l.getD 0 default+l.getD 1 default+l.getD 2 default:=by
 match l,h with
 | [a,b,c],_=>simp[List.getD];omega
theorem tw{w u:List Int}(h:mg w u):rH w u:=⟨⟨by rw[h.wl];rfl,h.wr⟩,by rw[h.hl];rfl,h.hr⟩
end
attribute [go_sem] akI
section
variable{H:aA}{nx:Nat}{K:an4}
theorem Bo{old:Int}{new:Int}{lanes:Int}(a:0<=old/\old<=65535)(b:0<=new/\new<=65535)(c:0<=lanes/\lanes<=3)(h:K (dI (zW old new lanes)) H nx):an3 KX [dI old,dI new,dI lanes] H nx K:=by
 refine aC.pure (args0:=[dI old,dI new,dI lanes]) (R:=fun d=>d=dI (zW old new lanes)) ?_ rfl (aE ⟨aD rfl,aD rfl,aD rfl,trivial⟩) (fun r hr=>hr▸h);clear h;refine aM.mk Tryz.func329 (by kernel_rfl) ua rfl fun Q e=> ?_;unfold yW;repeat' first| (first|apply vI|apply Y5 (by omega)|apply bF)<;>(simp only[go_sem,alQ a.1,anO a.1,alQ b.1,anO b.1,alQ c.1,anO c.1];try simp (disch:=omega) only[Iw])|apply vF (by omega)|refine iB (fun h=> ?_) fun h=> ?_|fail
 all_goals first|with_reducible refine aJ e _ rfl rfl ?_|skip
 all_goals exact jC (by unfold zW;simp[*])
theorem Es(w all:List Int)(wc wm:Nat)(g:w.length=64)(h:64<=wc)(i:All all 0 63)(j:all.length<2^21):an3 zE [dA [.osl 1 0 0 64 wc],dS (all.map aG)] (hp [(0,⟨1,wm,w.map aG⟩)]) 1
 fun r H' m=>m=1/\ ∃o',H'=hp [(0,o')]/\DZ o'/\o'=⟨1,wm,w.map aG⟩/\r=dS ((all.map fun a=>w.getD a.toNat default).map aG):=by
 refine aM.mk Tryz.func289 (by kernel_rfl) zi rfl fun Q n=> ?_
 unfold CN
 repeat' first|apply vI<;>(simp only[go_sem])|fail
 refine aH.SJ 2 (β:=Nat×Nat) (fun b u=>en [(6,dI u.1),(5,dO 1 (b+1) u.1 u.2),(2,dP 1 b),(1,dS (all.map aG))])
  (fun b u=>hp [(0,⟨1,wm,w.map aG⟩),(b,⟨1,1,[[.osl 1 0 0 64 wc]]⟩),(b+1,⟨1,u.2,((all.take u.1).map fun a=>w.getD a.toNat default).map aG⟩)]) (fun u=>u.1<=all.length/\u.1<=u.2) (fun u=>all.length-u.1) (0,0)
  (by(refine mZ [1,3,0] (by omega) (by repeat' first|exact C1|refine xqI rfl rfl ?_|refine xqP (by omega) rfl rfl ?_|refine xqO (by omega) rfl rfl (by rfl) ?_|fail) ⟨⟨by simp,by simp[sgL],_,rfl,dX (aW bG _) rfl rfl⟩,⟨by simp,by simp[sgL],_,rfl,jU (by repeat' first|exact C1| (with_reducible first|exact C3|apply C4)| ((with_reducible apply C0);exact CQ (by omega) rfl rfl (by rfl) rfl)|fail)⟩,⟨by simp,by simp[sgL],_,rfl,dX (aW bG _) rfl rfl⟩,trivial⟩ (by simp[sgL]))) ⟨by omega,by omega⟩ ?_
 rintro⟨k,cap⟩ ⟨o,hc⟩ q d
 dsimp only at o hc
 by_cases c:k<all.length
 ·have s:=wG i c;repeat' first|apply vI<;>(simp only[go_sem];try simp (disch:=omega) only[Iw])|apply vT (by omega)| (with_reducible first|refine fun(cap:Nat) (f:_<=cap)=> ?_|refine fun(p:_<=cap)=> ?_)|refine⟨by omega,?_⟩| (refine⟨by(rw[ak1];omega),?_⟩)|fail
  refine d _ _ _ (k+1,cap) (by omega) (by(refine mZ [6,22,0] (by omega) (by repeat' first|exact C1|refine xqI rfl rfl ?_|refine xqP (by omega) rfl rfl ?_|refine xqO (by omega) rfl rfl (by rfl) ?_|fail) ⟨⟨by simp,by simp[sgL],_,rfl,dX (aW bG _) rfl rfl⟩,⟨by simp,by simp[sgL],_,rfl,jU (by repeat' first|exact C1| (with_reducible first|exact C3|apply C4)| ((with_reducible apply C0);exact CQ (by omega) rfl rfl (by rfl) rfl)|fail)⟩,⟨by simp,by simp[sgL],_,rfl,dX (aW bG _) (by rw[eY c,akQ,akM (l:=List.map _ (List.take k all)) (by simp;omega)];rfl) rfl⟩,trivial⟩ (by simp[sgL]))) ⟨by dsimp only;omega,by dsimp only;omega⟩ (by dsimp only;omega)
 ·repeat' first|apply vI<;>(simp only[go_sem])|apply vF (by omega)|fail
  have e:k=all.length:=by omega
  subst e;exact Q6 n (dS _) _ _ rfl (SW (l:=(all.take all.length).map fun a=>w.getD a.toNat default) bG rfl (by simp) (by simp;omega) (by decide)) rfl (eS bG _) ⟨rfl,by rw[alU]⟩
variable{w:List Int}
theorem Dv{all:List Int}{wc wm i:Nat}(b:w.length=64)(c:64<=wc)(e:All all 0 63)(d:all.length<2^21)(hi:i<nx)(f:H i=some ⟨1,wm,w.map aG⟩)(h:K (dS ((all.map fun a=>w.getD a.toNat default).map aG)) (H.set i ⟨1,wm,w.map aG⟩) nx):
 an3 zE [dA [.osl 1 i 0 64 wc],dS (all.map aG)] H nx K:=
 (Es w all wc wm b c e d).Iq i rfl (lY ⟨aQ (uZ (by omega) rfl rfl rfl rfl) iA,aD rfl,trivial⟩) hi f (eS bG _) fun r o' ⟨g,j⟩=>by subst g;subst j;exact h
theorem Gf(w all data lanes:List Int)(wc wm:Nat)(h:w.length=64)(hw:All w 0 65535)(i:64<=wc)(j:All all 0 63)(l:all.length<2^21)(g:All data 0 65535)(m:data.length=all.length)(hl:All lanes 0 3)(n:lanes.length=all.length):
 an3 AD [dA [.osl 1 0 0 64 wc],dS (all.map aG),dS (data.map aG),dS (lanes.map aG)] (hp [(0,⟨1,wm,w.map aG⟩)]) 1
 fun r H' o=>o=1/\ ∃o',H'=hp [(0,o')]/\DZ o'/\o'=⟨1,wm,(WT w all data lanes all.length).map aG⟩/\r=dA [.osl 1 0 0 64 wc]:=by
 refine aM.mk Tryz.func290 (by kernel_rfl) An rfl fun Q p=> ?_
 unfold CU
 repeat' first|apply vI<;>(simp only[go_sem])|fail
 refine aH.SJ 2 (β:=Nat) (fun b k=>en [(9,dI k),(8,dP 1 (b+1)),(4,dP 1 b),(3,dS (lanes.map aG)),(2,dS (data.map aG)),(1,dS (all.map aG))])
  (fun b k=>hp [(0,⟨1,wm,(WT w all data lanes k).map aG⟩),(b,⟨1,1,[[.osl 1 0 0 64 wc]]⟩),(b+1,⟨1,1,[[.osl 0 0 0 0 0]]⟩)]) (fun k=>k<=all.length) (fun k=>all.length-k) 0
  (by(refine mZ [1,2,0] (by omega) (by repeat' first|exact C1|refine xqI rfl rfl ?_|refine xqP (by omega) rfl rfl ?_|fail) ⟨⟨by simp,by simp[sgL],_,rfl,dX (aW bG _) rfl rfl⟩,⟨by simp,by simp[sgL],_,rfl,jU (by repeat' first|exact C1| (with_reducible first|exact C3|apply C4)| ((with_reducible apply C0);exact CQ (by omega) rfl rfl (by rfl) rfl)|fail)⟩,⟨by simp,by simp[sgL],_,rfl,jU (by repeat' first|exact C1| (with_reducible first|exact C3|apply C4)| ((with_reducible apply C0);exact CC)|fail)⟩,trivial⟩ (by simp[sgL]))) (by omega) ?_
 rintro k s t a
 have q:=sm (w:=w) (all:=all) (data:=data) (lanes:=lanes) k
 have c:=Ff (all:=all) (lanes:=lanes) hw g k
 by_cases d:k<all.length
 ·have u:=wG j d;have e:(all.getD k default).toNat<(WT w all data lanes k).length:=by omega
  repeat' first| (first|apply vI|apply Bo (wG c e) (wG g (by omega)) (wG hl (by omega)))<;>(simp only[go_sem];try simp (disch:=omega) only[Iw])|apply vT (by omega)|refine⟨by omega,?_⟩|fail
  exact a _ _ _ (k+1) (by omega) (by(refine mZ [4,5,0] (by omega) (by repeat' first|exact C1|refine xqI rfl rfl ?_|refine xqP (by omega) rfl rfl ?_|fail) ⟨⟨by simp,by simp[sgL],_,rfl,dX (aW bG _) rfl rfl⟩,⟨by simp,by simp[sgL],_,rfl,jU (by repeat' first|exact C1| (with_reducible first|exact C3|apply C4)| ((with_reducible apply C0);exact CQ (by omega) rfl rfl (by rfl) rfl)|fail)⟩,⟨by simp,by simp[sgL],_,rfl,jU (by repeat' first|exact C1| (with_reducible first|exact C3|apply C4)| ((with_reducible apply C0);exact CC)|fail)⟩,trivial⟩ (by simp[sgL]))) (by omega) (by omega)
 ·repeat' first|apply vI<;>(simp only[go_sem])|apply vF (by omega)|fail
  have f:k=all.length:=by omega
  subst f;exact Q6 p (dA [.osl 1 0 0 64 wc]) _ _ rfl (aQ (uZ (by omega) rfl rfl rfl rfl) iA) rfl (eS bG _) ⟨rfl,rfl⟩
theorem El{all data lanes:List Int}{wc wm i:Nat}(a:w.length=64)(hw:All w 0 65535)(b:64<=wc)(f:All all 0 63)(c:all.length<2^21)(g:All data 0 65535)(d:data.length=all.length)(hl:All lanes 0 3)(e:lanes.length=all.length)
 (hi:i<nx) (j:H i=some ⟨1,wm,w.map aG⟩) (h:K (dA [.osl 1 i 0 64 wc]) (H.set i ⟨1,wm,(WT w all data lanes all.length).map aG⟩) nx):
 an3 AD [dA [.osl 1 i 0 64 wc],dS (all.map aG),dS (data.map aG),dS (lanes.map aG)] H nx K:=
 (Gf w all data lanes wc wm a hw b f c g d hl e).Iq i rfl (lY ⟨aQ (uZ (by omega) rfl rfl rfl rfl) iA,aD rfl,aD rfl,aD rfl,trivial⟩) hi j (eS bG _) fun r o' ⟨k,l⟩=>by subst k;subst l;exact h
theorem yr(w hs all:List Int)(wc wm hc hm:Nat)(q:hs.length=6)(s:6<=hc)(t:all.length<2^21)(y:All all 0 63):
 an3 uQ [dA [.osl 1 0 0 64 wc,.osl 1 1 0 6 hc],dS (all.map aG)] (hp [(0,⟨1,wm,w.map aG⟩),(1,⟨1,hm,hs.map aG⟩)]) 2
 fun r H' z=>z=2/\ ∃a c,H'=hp [(0,a),(1,c)]/\DZ a/\DZ c/\a=⟨1,wm,w.map aG⟩/\c=⟨1,hm,(tR hs all).map aG⟩/\r=dA [.osl 1 0 0 64 wc,.osl 1 1 0 6 hc]:=by
 refine aM.mk Tryz.func291 (by kernel_rfl) sk rfl fun Q A=> ?_
 unfold y5
 repeat' first|apply vI<;>(simp only[go_sem])|fail
 refine aH.SJ 2 (β:=Nat) (fun b k=>en [(5,dI k),(4,dP 2 (b+1)),(2,dP 2 b),(1,dS (all.map aG))])
  (fun b k=>hp [(0,⟨1,wm,w.map aG⟩),(1,⟨1,hm,(xE hs all k).map aG⟩),(b,⟨2,1,[[.osl 1 0 0 64 wc,.osl 1 1 0 6 hc]]⟩),(b+1,⟨2,1,[[.osl 0 0 0 0 0,.osl 0 0 0 0 0]]⟩)]) (fun k=>k<=6) (fun k=>6-k) 0
  (by(refine mZ [2,3,0,1] (by omega) (by repeat' first|exact C1|refine xqI rfl rfl ?_|refine xqP (by omega) rfl rfl ?_|fail) ⟨⟨by simp,by simp[sgL],_,rfl,dX (aW bG _) rfl rfl⟩,⟨by simp,by simp[sgL],_,rfl,dX (aW bG _) (congrArg _ tg) rfl⟩,⟨by simp,by simp[sgL],_,rfl,jU (by repeat' first|exact C1| (with_reducible first|exact C3|apply C4)| ((with_reducible apply C0);exact CQ (by omega) rfl rfl (by rfl) rfl)|fail)⟩,⟨by simp,by simp[sgL],_,rfl,jU (by repeat' first|exact C1| (with_reducible first|exact C3|apply C4)| ((with_reducible apply C0);exact CC)|fail)⟩,trivial⟩ (by simp[sgL]))) (by omega) ?_
 rintro k G H g
 have B:=By (all:=all) (show k<=hs.length by omega)
 by_cases C:k<6
 ·have D:=Js (all:=all) (show k<hs.length by omega);have i:=vy (all:=all) (show k<hs.length by omega);repeat' first|apply vI<;>(simp only[go_sem])|apply vT (by omega)|fail
  refine aH.SJ 0 (β:=Nat×Int) (fun b u=>en [(6,dI u.1),(5,dI k),(4,dP 2 6),(2,dP 2 5),(1,dS (all.map aG))])
   (fun b u=>hp [(0,⟨1,wm,w.map aG⟩),(1,⟨1,hm,((xE hs all k).set k u.2).map aG⟩),(5,⟨2,1,[[.osl 1 0 0 64 wc,.osl 1 1 0 6 hc]]⟩),(6,⟨2,1,[[.osl 0 0 0 0 0,.osl 0 0 0 0 0]]⟩)]) (fun u=>u.1<=all.length/\u.2=if hs.getD k default∈all.take u.1 then-1 else hs.getD k default) (fun u=>all.length-u.1) (0,hs.getD k default)
   (by(refine mZ [0,1,5,6] (by omega) (by repeat' first|exact C1|refine xqI rfl rfl ?_|refine xqP (by omega) rfl rfl ?_|fail) ⟨⟨by simp,by simp[sgL],_,rfl,dX (aW bG _) rfl rfl⟩,⟨by simp,by simp[sgL],_,rfl,dX (aW bG _) (congrArg _ i) rfl⟩,⟨by simp,by simp[sgL],_,rfl,jU (by repeat' first|exact C1| (with_reducible first|exact C3|apply C4)| ((with_reducible apply C0);exact CQ (by omega) rfl rfl (by rfl) rfl)|fail)⟩,⟨by simp,by simp[sgL],_,rfl,jU (by repeat' first|exact C1| (with_reducible first|exact C3|apply C4)| ((with_reducible apply C0);exact CC)|fail)⟩,trivial⟩ (by simp[sgL]))) ⟨by omega,by simp⟩ ?_
  rintro⟨j,v⟩ ⟨E,o⟩ I d;dsimp only at E o;by_cases e:j<all.length
  ·have J:=wG y e;have F:((xE hs all k).set k v).getD k default=v:=(by rw[TJ (by omega),if_pos rfl]);have f: ∀x,((xE hs all k).set k v).set k x=(xE hs all k).set k x:=fun x=>by rw[ak4]
   have p:=eY e;repeat' first|apply vI<;>(simp only[go_sem,F,f];try simp (disch:=omega) only[Iw])|apply vT (by omega)|refine iB (fun h=> ?_) fun h=> ?_|refine⟨by omega,?_⟩|fail
   ·exact d _ _ _ (j+1,-1) (by omega) (by(refine mZ [0,1,5,6] (by omega) (by repeat' first|exact C1|refine xqI rfl rfl ?_|refine xqP (by omega) rfl rfl ?_|fail) ⟨⟨by simp,by simp[sgL],_,rfl,dX (aW bG _) rfl rfl⟩,⟨by simp,by simp[sgL],_,rfl,dX (aW bG _) rfl rfl⟩,⟨by simp,by simp[sgL],_,rfl,jU (by repeat' first|exact C1| (with_reducible first|exact C3|apply C4)| ((with_reducible apply C0);exact CQ (by omega) rfl rfl (by rfl) rfl)|fail)⟩,⟨by simp,by simp[sgL],_,rfl,jU (by repeat' first|exact C1| (with_reducible first|exact C3|apply C4)| ((with_reducible apply C0);exact CC)|fail)⟩,trivial⟩ (by simp[sgL]))) ⟨by dsimp only;omega,by dsimp only;rw[p];grind⟩ (by dsimp only;omega)
   ·exact d _ _ _ (j+1,v) (by omega) (by(refine mZ [0,1,5,6] (by omega) (by repeat' first|exact C1|refine xqI rfl rfl ?_|refine xqP (by omega) rfl rfl ?_|fail) ⟨⟨by simp,by simp[sgL],_,rfl,dX (aW bG _) rfl rfl⟩,⟨by simp,by simp[sgL],_,rfl,dX (aW bG _) rfl rfl⟩,⟨by simp,by simp[sgL],_,rfl,jU (by repeat' first|exact C1| (with_reducible first|exact C3|apply C4)| ((with_reducible apply C0);exact CQ (by omega) rfl rfl (by rfl) rfl)|fail)⟩,⟨by simp,by simp[sgL],_,rfl,jU (by repeat' first|exact C1| (with_reducible first|exact C3|apply C4)| ((with_reducible apply C0);exact CC)|fail)⟩,trivial⟩ (by simp[sgL]))) ⟨by dsimp only;omega,by dsimp only;rw[p];grind⟩ (by dsimp only;omega)
  ·have l:j=all.length:=(by omega);subst l;have m:=Ci (x:=v) (show k<hs.length by omega) (by rw[o,alU]);repeat' first|apply vI<;>(simp only[go_sem];try simp (disch:=omega) only[Iw])|apply vF (by omega)|fail
   exact g _ _ _ (k+1) (by omega) (by(refine mZ [5,6,0,1] (by omega) (by repeat' first|exact C1|refine xqI rfl rfl ?_|refine xqP (by omega) rfl rfl ?_|fail) ⟨⟨by simp,by simp[sgL],_,rfl,dX (aW bG _) rfl rfl⟩,⟨by simp,by simp[sgL],_,rfl,dX (aW bG _) (by rw[m]) rfl⟩,⟨by simp,by simp[sgL],_,rfl,jU (by repeat' first|exact C1| (with_reducible first|exact C3|apply C4)| ((with_reducible apply C0);exact CQ (by omega) rfl rfl (by rfl) rfl)|fail)⟩,⟨by simp,by simp[sgL],_,rfl,jU (by repeat' first|exact C1| (with_reducible first|exact C3|apply C4)| ((with_reducible apply C0);exact CC)|fail)⟩,trivial⟩ (by simp[sgL]))) (by omega) (by omega)
 ·repeat' first|apply vI<;>(simp only[go_sem])|apply vF (by omega)|fail
  have n:k=hs.length:=by omega
  subst n;exact Zn A (dA [.osl 1 0 0 64 wc,.osl 1 1 0 6 hc]) _ _ _ rfl (by repeat' first|exact C1| ((with_reducible apply C0);exact CQ (by omega) rfl rfl (by rfl) rfl)| ((with_reducible apply D0);apply C9)|exact C3|apply C4|fail) rfl rfl (eS bG _) (eS bG _) ⟨rfl,by rw[Cz],rfl⟩
theorem Be{hs all:List Int}{wc wm hc hm i j:Nat}(a:hs.length=6)(b:6<=hc)(c:all.length<2^21)(g:All all 0 63)
 (hi:i<nx) (k:j<nx) (d:i≠j) (e:H i=some ⟨1,wm,w.map aG⟩) (f:H j=some ⟨1,hm,hs.map aG⟩) (h:K (dA [.osl 1 i 0 64 wc,.osl 1 j 0 6 hc]) ((H.set i ⟨1,wm,w.map aG⟩).set j ⟨1,hm,(tR hs all).map aG⟩) nx):
 an3 uQ [dA [.osl 1 i 0 64 wc,.osl 1 j 0 6 hc],dS (all.map aG)] H nx K:=
 (yr w hs all wc wm hc hm a b c g).ahU i j rfl (lY ⟨aQ (uZ (by omega) rfl rfl rfl rfl) (aQ (uZ (by omega) rfl rfl rfl rfl) iA),aD rfl,trivial⟩) hi k d e f (eS bG _) (eS bG _) fun r l m ⟨n,o,p⟩=>by subst n;subst o;subst p;exact h
theorem Gp(m:List Rng)(w hs:List Int)(who:Int)(q:Req)(wc wm hc hm:Nat)(v:m.length<2^21)(x:mg w hs)(e:64<=wc)(n:6<=hc)(hw:0<=who/\who<=2)(y:fZ q):
 an3 JV [dS (m.map c7),dA [.osl 1 0 0 64 wc,.osl 1 1 0 6 hc],dI who,dA (dK q)] (hp [(0,⟨1,wm,w.map aG⟩),(1,⟨1,hm,hs.map aG⟩)]) 2
 fun r H' z=>z=2/\ ∃b c,H'=hp [(0,b),(1,c)]/\DZ b/\DZ c/\b=⟨1,wm,(doM m w hs who q).1.1.map aG⟩/\c=⟨1,hm,(doM m w hs who q).1.2.map aG⟩/\r= .tup [.agg [.osl 1 0 0 64 wc,.osl 1 1 0 6 hc],.agg (nS (doM m w hs who q).2)]:=by
 obtain⟨f,o,s,A⟩:=x
 obtain⟨B,C,g,i,j,t,u,D⟩:=y
 have E:=BJ g
 have F:=Dr g
 have G:=G4 (addr:=q.addr) (many:=q.many) (wrap:=q.wrap)
 have d:All (bN q.addr q.many q.wrap) 0 63:=Cl
 have H:=ZY (p:=(inR · ((bN q.addr q.many q.wrap).getD 0 default))) (l:=m)
 have I:eD m (bN q.addr q.many q.wrap)<m.length:=by unfold eD;grind
 have k:wrM q=true->q.data.length=(bN q.addr q.many q.wrap).length/\q.lanes.length=(bN q.addr q.many q.wrap).length:=by intro h;unfold wrM at h;unfold HH at i j;simp at h;simp only[h,if_true] at i j;omega
 refine aM.mk Tryz.func209 (by kernel_rfl) Dw rfl fun Q a=> ?_
 unfold F6
 repeat' first| (first|apply vI| (refine Y7 (fun h=> ?_) (fun h=> ?_)<;>try subst h)|apply PH|apply QL (by omega) (by omega)|apply O1|refine Dv f e d (by omega) (by omega) rfl ?_| (refine El f o e d (by omega) t (k (by unfold wrM;simp;omega)).1 u (k (by unfold wrM;simp;omega)).2 (by omega) rfl ?_)|refine Be s n (by omega) d (by omega) (by omega) (by omega) rfl rfl ?_)<;>(simp only[go_sem];try simp (disch:=omega) only[Iw])|refine iB (fun h=> ?_) fun h=> ?_| ((refine L0 (fun h=> ?_) (fun h=> ?_))<;>try subst h)|refine⟨by omega,?_⟩|fail
 all_goals have J:=rz (q:=q)
 all_goals first
  |rw[Hq (by assumption)] at a
  |rw[Hs (by assumption) (by assumption) (by assumption)] at a
  |rw[Jl (by assumption) (by assumption)] at a
  |rw[Ht (by assumption) (by assumption)] at a
  |rw[Xp (by assumption) (by grind) (by assumption) (by assumption)] at a
  |rw[Pn (by assumption) (by grind) (by assumption) (by grind)] at a
  |rw[Qd (by assumption) (by grind) (by omega)] at a
  | (exfalso;grind)
 all_goals exact Zn a _ _ _ _ rfl (by repeat' first|exact C1| (with_reducible first|apply C5|apply C7)| ((with_reducible apply C0);first|exact CB rfl|exact CQ (by omega) rfl rfl (by rfl) rfl|exact CF)|exact C3|apply C4|fail) rfl rfl (eS bG _) (eS bG _) ⟨rfl,rfl,rfl⟩
theorem Ir{m:List Rng}{hs:List Int}{who:Int}{q:Req}{wc wm hc hm i j:Nat}(a:m.length<2^21)(g:mg w hs)(b:64<=wc)(c:6<=hc)(hw:0<=who/\who<=2)(k:fZ q)
 (hi:i<nx) (l:j<nx) (d:i≠j) (e:H i=some ⟨1,wm,w.map aG⟩) (f:H j=some ⟨1,hm,hs.map aG⟩)
 (h:K (.tup [.agg [.osl 1 i 0 64 wc,.osl 1 j 0 6 hc],.agg (nS (doM m w hs who q).2)]) ((H.set i ⟨1,wm,(doM m w hs who q).1.1.map aG⟩).set j ⟨1,hm,(doM m w hs who q).1.2.map aG⟩) nx):
 an3 JV [dS (m.map c7),dA [.osl 1 i 0 64 wc,.osl 1 j 0 6 hc],dI who,dA (dK q)] H nx K:=
 (Gp m w hs who q wc wm hc hm a g b c hw k).ahU i j rfl (lY ⟨aD rfl,aQ (uZ (by omega) rfl rfl rfl rfl) (aQ (uZ (by omega) rfl rfl rfl rfl) iA),aD rfl,aD rfl,trivial⟩) hi l d e f (eS bG _) (eS bG _) fun r n o ⟨p,s,t⟩=>by subst p;subst s;subst t;exact h
end
section
variable{H:aA}{nx:Nat}{K:an4}
def oSt(i0 i1 a b wc hc ac c:Nat)(s:TSt):List D1:=[.osl 1 i0 0 64 wc,.osl 1 i1 0 6 hc,.osl 1 a 0 3 ac,.isl (s.wait.map aP),.isl (s.done.map aP),.osl 5 b 0 s.told.length c]
theorem U6{l:List Job}{a b:Int}(hl:l.length<2^21)(h:K (dS ((wP l ⟨a,b,kL⟩).map aP)) H nx):an3 pG [dS (l.map aP),dA [cI a,cI b,cI 0,cI 0,.osl 0 0 0 0 0]] H nx K:=(cm l ⟨a,b,kL⟩ hl).agJ rfl ⟨aD rfl,aQ (bZ rfl) (aQ (bZ rfl) (aQ (bZ rfl) (aQ (bZ rfl) (aQ L7 iA)))),trivial⟩ fun r hr=>hr▸h
theorem ad1{i0 i1 a b wc hc ac c:Nat}{s:TSt}:(oSt i0 i1 a b wc hc ac c s).length=6:=rfl
theorem Xh{i0 i1 a b wc hc ac c:Nat}{s:TSt}:(oSt i0 i1 a b wc hc ac c s).take 6=oSt i0 i1 a b wc hc ac c s:=rfl
theorem Zl{i0 i1 a b wc hc ac c k:Nat}{s:TSt}{cs:List D1}:kK cs (k+1) (oSt i0 i1 a b wc hc ac c s)=kK cs (k+1) [.osl 1 i0 0 64 wc,.osl 1 i1 0 6 hc,.osl 1 a 0 3 ac,.isl (s.wait.map aP),.isl (s.done.map aP),.osl 5 b 0 s.told.length c]:=rfl
attribute [go_sem] ad1 Xh Zl
theorem aaE{j:Job}:cI j.who::cI j.n::nS j.rsp=aP j:=rfl
theorem Bt{w:List Int}(hl:w.length<2^21)(h:K (dA [.isl (w.map aG)]) H nx):an3 uS [dA [.isl (w.map aG)]] H nx K:=by
 refine aC.fresh (R:=fun b=>b=dA [.isl (w.map aG)]) ?_ rfl (fun r hr=>hr▸h);clear h;refine aM.mk Tryz.func269 (by kernel_rfl) RR rfl fun Q c=> ?_;unfold nW;repeat' first|apply vI<;>(simp only[go_sem])| (with_reducible first|refine fun(cap:Nat) (a:_<=cap)=> ?_|refine fun(d:_<=cap)=> ?_)|refine⟨by omega,?_⟩|fail
 all_goals exact JX c (dA [.isl (w.map aG)]) _ rfl (aQ (iN bG rfl rfl (by omega) trivial) iA) rfl rfl
theorem Av{w:List Int}{u:List Int}(hl:w.length<2^21)(hu:u.length<2^21)(h:K (dA [.isl (w.map aG),.isl (u.map aG)]) H nx):an3 mO [dA [.isl (w.map aG),.isl (u.map aG)]] H nx K:=by
 refine aC.fresh (R:=fun b=>b=dA [.isl (w.map aG),.isl (u.map aG)]) ?_ rfl (fun r hr=>hr▸h);clear h;refine aM.mk Tryz.func192 (by kernel_rfl) Q9 rfl fun Q c=> ?_;unfold nQ;repeat' first| (first|apply vI|apply Bt hl)<;>(simp only[go_sem])| (with_reducible first|refine fun(cap:Nat) (a:_<=cap)=> ?_|refine fun(d:_<=cap)=> ?_)|refine⟨by omega,?_⟩|fail
 all_goals exact JX c (dA [.isl (w.map aG),.isl (u.map aG)]) _ rfl (aQ (bZ rfl) (aQ (iN bG rfl rfl (by omega) trivial) iA)) rfl rfl
theorem ay{r:Rsp}(hl:r.data.length<2^21)(h:K (dA (nS r)) H nx):an3 N8 [dA (nS r)] H nx K:=by
 refine aC.fresh (R:=fun b=>b=dA (nS r)) ?_ rfl (fun r hr=>hr▸h);clear h;refine aM.mk Tryz.func270 (by kernel_rfl) At rfl fun Q c=> ?_;unfold CV;repeat' first|apply vI<;>(simp only[go_sem])| (with_reducible first|refine fun(cap:Nat) (a:_<=cap)=> ?_|refine fun(d:_<=cap)=> ?_)|refine⟨by omega,?_⟩|fail
 all_goals exact JX c (dA (nS r)) _ rfl (aQ (bZ rfl) (aQ (bZ rfl) (aQ (iN bG rfl rfl (by omega) trivial) iA))) rfl rfl
theorem zd{l:List Job}(hl:l.length<2^21)(g: ∀j∈l,j.rsp.data.length<2^21)(h:K (dS (l.map aP)) H nx):an3 fY [dS (l.map aP)] H nx K:=by
 refine aC.fresh (R:=fun i=>i=dS (l.map aP)) ?_ rfl (fun r hr=>hr▸h);clear h;refine aM.mk Tryz.func193 (by kernel_rfl) Q3 rfl fun Q m=> ?_;unfold nX;repeat' first|apply vI<;>(simp only[go_sem])|fail
 refine aH.SJ 1 (β:=Nat×Nat) (fun b u=>en [(4,dI u.1),(3,dO 5 b u.1 u.2),(0,dS (l.map aP))])
  (fun b u=>hp [(b,⟨5,u.2,(l.take u.1).map aP⟩)]) (fun u=>u.1<=l.length/\u.1<=u.2) (fun u=>l.length-u.1) (0,0) (by(refine mZ [1] (by omega) (by repeat' first| (with_reducible first|exact C1|apply C2)| ((with_reducible apply C0);exact CC)| ((with_reducible apply D0);first|exact CA rfl|apply CJ)|fail) ⟨⟨by simp,by simp[sgL],_,rfl,dX (aW dE _) rfl rfl⟩,trivial⟩ (by simp[sgL]))) ⟨by omega,by omega⟩ ?_
 rintro⟨k,cap⟩ ⟨n,hc⟩ p c;dsimp only at n hc;have d:(l.take k).take k=l.take k:=akM (by simp;omega);by_cases a:k<l.length
 ·have hm:=g _ (bL a);repeat' first| (first|apply vI|apply ay hm)<;>(simp only[go_sem,d,aaE];try simp (disch:=omega) only[Iw])|apply vT (by omega)| (with_reducible first|refine fun(cap:Nat) (f:_<=cap)=> ?_|refine fun(o:_<=cap)=> ?_)|refine⟨by omega,?_⟩| (refine⟨by(rw[ak1];omega),?_⟩)|fail
  all_goals exact c _ _ _ (k+1,cap) (by omega) (by(refine mZ [28] (by omega) (by repeat' first|exact C1| (with_reducible first|exact C1|apply C2)| ((with_reducible apply C0);exact CQ (by omega) rfl rfl (by rfl) rfl)| ((with_reducible apply D0);first|exact CA rfl|apply CJ)|fail) ⟨⟨by simp,by simp[sgL],_,rfl,dX (aW dE _) (by rw[eY a]) rfl⟩,trivial⟩ (by simp[sgL]))) ⟨by dsimp only;omega,by dsimp only;omega⟩ (by dsimp only;omega)
 ·repeat' first|apply vI<;>(simp only[go_sem])|apply vF (by omega)|refine bX rfl ?_|fail
  have e:k=l.length:=by omega
  subst e;exact JX m (dS (l.map aP)) _ rfl (ru (rows:=l.map aP) (aW dE _) (by simp) trivial rfl rfl (by simp[akM]) (by simp;omega)) rfl rfl
end
end Go.Proofs.YtlncecohbakleaaGreat
namespace Go.AM
theorem Ux{l:List Job}{j:Job}(h:key j∈l.map key):kC (Go.Proofs.YtlncecohbakleaaGreat.qb l) [j.who,j.n]=some 1:=by
 induction l with
 |nil=>simp at h
 |cons x l a=>
  unfold kC Go.Proofs.YtlncecohbakleaaGreat.qb;rw[akP,List.find?_cons];by_cases he:[j.who,j.n]=[x.who,x.n]
  ·simp[he]
  ·have b:key j∈l.map key:=by
    rw[akP,akK] at h
    rcases h with h|h
    ·exact absurd (by simp only[key,Prod.mk.injEq] at h;rw[h.1,h.2]) he
    ·exact h
   simp only[he,decide_false]
   exact a b
theorem Nl{α:Type}[Inhabited α]{l:List α}{i:Nat}(h:i<l.length):l=l.take i++l.getD i default::l.drop (i+1):=by
 have:l.getD i default=l[i]:=by simp[List.getD,h]
 rw[this,<-alF h,alR]
def OM(l:List Job):Prop:=l.Pairwise fun a b=>fP b a=false
theorem Fx{a b:Job}:fP a b=false↔¬(a.who<b.who\/(a.who=b.who/\a.n<b.n)):=by rw[<-Bool.not_eq_true,uU]
theorem Eg{S:List Job}{x:Job}(hs:OM S):OM (wP S x):=by
 have k: ∀a∈S.take (S.findIdx (fP x)),fP x a=false:=fun a e=>by obtain⟨i,hi,rfl⟩:=akX.1 e;rw[amQ];have:=anG (p:=fP x) (xs:=S) (i:=i) (by simp at hi;omega);simpa using this
 have hB: ∀b∈S.drop (S.findIdx (fP x)),fP x b=true:=fun b c=>by
  obtain⟨i,hi,rfl⟩:=akX.1 c;rw[List.getElem_drop];simp only[akS] at hi;have f:S.findIdx (fP x)<S.length:=by omega
  have j:fP x S[S.findIdx (fP x)]=true:=anH (w:=f);by_cases h:i=0;·subst h;exact j
  ·have g:=ak5.1 hs (S.findIdx (fP x)) (S.findIdx (fP x)+i) (by omega) (by omega) (by omega);rw[Fx] at g;rw[uU] at j ⊢;omega
 have d:(S.take (S.findIdx (fP x))++S.drop (S.findIdx (fP x))).Pairwise fun a b=>fP b a=false:=by rw[alR];exact hs
 unfold wP OM;rw[amC] at d ⊢;obtain⟨g,l,m⟩:=d;refine⟨g,alD.2 ⟨fun b c=> ?_,l⟩,fun a e b c=> ?_⟩;·have:=hB b c;rw[uU] at this;rw[Fx];omega
 ·rcases akK.1 c with rfl|c;·exact k a e
  ·exact m a e b c
theorem Bh(l:List Job):OM (cR l):=by
 have h: ∀(l acc:List Job),OM acc->OM (l.foldl wP acc):=by
  intro l
  induction l with
  |nil=>intro acc h;exact h
  |cons x l a=>intro acc h;exact a _ (Eg h)
 exact h l [] List.Pairwise.nil
theorem Vj{S:List Job}{x:Job}{j:Nat}(h:j<=S.length)(hs:OM S)(c:j=0\/fP x (S.getD (j-1) default)=false)(hB: ∀i,j<=i->i<S.length->fP x (S.getD i default)=true):fl S x j=wP S x:=by
 have hl:(S.take j).length=j:=by simp;omega
 conv=>rhs;rw[<-alR j S]
 refine(Kb (fun a d=> ?_) fun b e=> ?_).symm
 ·rcases c with rfl|c;·simp at d
  ·obtain⟨i,hi,rfl⟩:=akX.1 d;rw[amQ];by_cases he:i=j-1;·subst he;have:S.getD (j-1) default=S[j-1]:=(by simp[List.getD,show j-1<S.length by omega]);rw[this] at c;exact c
   ·have f:=ak5.1 hs i (j-1) (by omega) (by omega) (by omega);have g:S.getD (j-1) default=S[j-1]:=(by simp[List.getD,show j-1<S.length by omega]);rw[g] at c;rw[Fx] at c f ⊢;omega
 ·obtain⟨i,hi,rfl⟩:=akX.1 e;rw[List.getElem_drop];have:=hB (j+i) (by omega) (by simp at hi;omega);simpa [List.getD,show j+i<S.length by simp at hi;omega] using this
end Go.AM
namespace Go.Proofs.YtlncecohbakleaaGreat
open Go Go.AM
attribute [local irreducible] aH wv aC vd wvH
section
variable{H:aA}{nx:Nat}{K:an4}
theorem QV{c:Cfg}{s:TSt}(hb:bI c)(ht:Fu s)(h:K (dB (stB c s)) H nx):an3 uF [dA (cD c),dA (eSt s)] H nx K:=by
 refine aC.pure (args0:=[dA (cD c),dA (eSt s)]) (R:=fun rr=>rr=dB (stB c s)) ?_ rfl (aE ⟨aD rfl,aD rfl,trivial⟩) (fun r hr=>hr▸h);clear h;refine aM.mk Tryz.func198 (by kernel_rfl) R0 rfl fun Q P=> ?_;unfold l8;obtain⟨ej,v⟩:=eN hb;obtain⟨t1,t2,t3,t4,t5,t6,t7⟩:=ht;have hd: ∀j∈s.wait++s.done++s.told,j.rsp.data.length<2^40:=fun j p=>by have:=t7 j p;omega
 by_cases h0:rH s.words s.holds/\(s.asked.length:Int)=3/\jF s.wait/\jF s.done
 case neg=>
  have eo: ¬rU c s:=fun hs=>h0 ⟨tw hs.atm,by rw[hs.QH];rfl,hs.lx,hs.lz⟩;repeat' first| (first|apply vI|refine Y6 (fun h=> ?_) fun h=> ?_|refine GY (w:=s.words) (u:=s.holds) (by omega) (by omega) (aD rfl) ?_|refine CK (l:=s.wait) (by omega) (aD rfl) ?_|refine CK (l:=s.done) (by omega) (aD rfl) ?_)<;>(simp only[go_sem])|refine iB (fun h=> ?_) fun h=> ?_|fail
  all_goals first|exact aJ P (dB false) rfl rfl (congrArg dB (U0 eo).symm)|exact absurd ⟨by simp_all,by omega,by simp_all,by simp_all⟩ h0
 obtain⟨S,aa,cw,cx⟩:=h0;have aa:s.asked.length=3:=by omega
 have cy:=Uh aa;repeat' first| (first|apply vI|apply Y5 (by omega)|refine GY (w:=s.words) (u:=s.holds) (by omega) (by omega) (aD rfl) ?_|refine CK (l:=s.wait) (by omega) (aD rfl) ?_|refine CK (l:=s.done) (by omega) (aD rfl) ?_)<;>(simp only[go_sem,eq_true S,eq_true cw,eq_true cx])|fail
 refine aH.SJ 0 (β:=Nat) (fun b k=>en [(38,dI k),(37,dI s.asked.length),(36,dS (s.asked.map aG)),(5,dI (s.asked.take k).sum),(3,.one (.c (.eT (eSt s)))),(2,.one (.c (.eT (cD c))))]) (fun b k=>.nil) (fun k=>k<=3/\(0<=(s.asked.take k).sum/\(s.asked.take k).sum<=12*k)/\ ∀i,i<k->0<=s.asked.getD i default/\s.asked.getD i default<=(c.b7.getD i default).length) (fun k=>3-k) 0 (aS (akA _) (by repeat' first|exact C1|refine xqI rfl rfl ?_| (with_reducible apply C2)| ((with_reducible apply D0);exact CI rfl (by simp) rfl rfl rfl)|fail)) ⟨by omega,by simp,fun i hi=>by omega⟩ ?_;rintro k ⟨T,⟨h1,h2⟩,hinv⟩ KL ep;by_cases A:k<3
 ·have dc:=aaB (l:=s.asked) (k:=k) (by omega);have df:=v k;repeat' first| (first|apply vI|apply cO)<;>(simp only[go_sem];try simp (disch:=omega) only[Iw])|apply vT (by omega)|refine iB (fun h=> ?_) fun h=> ?_|refine⟨by omega,?_⟩|fail
  ·exact aJ P (dB false) rfl rfl (congrArg dB (U0 fun hs=>by have:=hs.OE k A;omega).symm)
  ·exact ep _ _ _ (k+1) (by omega) (by rw[dc];exact aS (by omega) (by repeat' first|exact C1|refine xqI rfl rfl ?_|fail)) ⟨by omega,by rw[dc];omega,bT hinv (by omega)⟩ (by omega)
 have ab:k=3:=by omega
 subst ab;have y:Tk c s.asked:=hinv
 have et: ∀i,0<=s.asked.getD i default/\s.asked.getD i default<=12:=fun i=>by
  by_cases hi:i<3;·have h1:=y i hi;have h2:=v i;omega
  ·have:s.asked.getD i default=0:=(by simp[List.getD,show s.asked.length<=i by omega]);omega
 repeat' first|apply vI<;>(simp only[go_sem])|apply vF (by omega)|fail
 obtain⟨d,q⟩: ∃d:List se,d=[s.wait,s.done,s.told]:=⟨_,rfl⟩
 have gg:d.length=3:=by subst q;rfl
 have dh:[[D1.isl (s.wait.map aP)],[D1.isl (s.done.map aP)],[D1.isl (s.told.map aP)]]=d.map VI:=by subst q;rfl
 obtain⟨seen,I⟩: ∃seen:Nat->List Job,seen=fun k=>(d.take k).flatten:=⟨_,rfl⟩
 have C:seen 0=[]:=by subst I;rfl
 have J:seen 3=s.wait++s.done++s.told:=by subst I;subst q;simp
 have e: ∀k,k<3->seen (k+1)=seen k++d.getD k default:=fun k T=>by subst I;simp only;rw[amF (by omega),List.flatten_append];simp[List.getD,show k<d.length by omega]
 have ds: ∀k,k<3->∃r,seen 3=seen k++d.getD k default++r:=fun k T=>by
  have:k=0\/k=1\/k=2:=by omega
  rcases this with rfl|rfl|rfl;·exact⟨d.getD 1 default++d.getD 2 default,by rw[e 2 (by omega),e 1 (by omega),e 0 (by omega),akO]⟩
  ·exact⟨d.getD 2 default,by rw[e 2 (by omega),e 1 (by omega)]⟩
  ·exact⟨[],by rw[e 2 (by omega),alE]⟩
 have ad: ∀k,k<3->∀j∈d.getD k default,j∈s.wait++s.done++s.told:=fun k T j p=>by obtain⟨r,hr⟩:=ds k T;rw[<-J,hr];exact alI _ (alT _ p)
 have eu:d.getD 0 default=s.wait:=by subst q;rfl
 have U: ∀j,j∈s.done++s.told↔∃k,(k=1\/k=2)/\j∈d.getD k default:=fun j=>by
  subst q;constructor
  ·intro h;rcases akL.1 h with h|h;·exact⟨1,.inl rfl,h⟩
   ·exact⟨2,.inr rfl,h⟩
  ·rintro⟨k,rfl|rfl,h⟩;·exact alI _ h
   ·exact alT _ h
 have L: ∀k,k<3->(d.getD k default).length<2^21:=fun k T=>by
  have:k=0\/k=1\/k=2:=by omega
  subst q;rcases this with rfl|rfl|rfl<;>(simp[List.getD];omega)
 have gp: ∀k,k<=3->(seen k).length<=k*2^21:=fun k T=>by
  have e1:=L 0 (by omega);have e2:=L 1 (by omega);have e3:=L 2 (by omega);have f1:(seen 1).length=(d.getD 0 default).length:=by rw[e 0 (by omega),C,List.nil_append]
  have f2:(seen 2).length=(seen 1).length+(d.getD 1 default).length:=by rw[e 1 (by omega),akG]
  have f3:(seen 3).length=(seen 2).length+(d.getD 2 default).length:=by rw[e 2 (by omega),akG]
  have:k=0\/k=1\/k=2\/k=3:=by omega
  rcases this with rfl|rfl|rfl|rfl;·rw[C];simp
  ·omega
  ·omega
  ·omega
 rw[dh];clear dh q I
 refine aH.SJ 1 (β:=Nat) (fun b k=>en [(65,dI k),(64,dI 3),(63,dS (d.map VI)),(8,.one (.c (.omap b))),(5,dI (s.asked.take 3).sum),(3,.one (.c (.eT (eSt s)))),(2,.one (.c (.eT (cD c))))]) (fun b k=>hp [(b,EX ⟨2,true,qb (seen k)⟩)])
  (fun k=>k<=3/\(∀j∈seen k,InA s.asked j)/\((seen k).map key).Nodup/\(0<k->∀j∈s.wait,j.rsp=kL)/\ ∀i,i<k->0<i->∀j∈d.getD i default,y4 c j) (fun k=>3-k) 0 ?_ ⟨by omega,fun j p=>by rw[C] at p;simp at p,by rw[C];simp,fun h=>by omega,fun i hi=>by omega⟩ ?_
 ·refine mZ [31] (by omega) ?_ ⟨⟨by simp,by simp[sgL],_,rfl,Q4 (by rw[C];rfl)⟩,trivial⟩ (by simp[sgL]);refine aT (aT (aT (aT (aT (aT (aT eR ?_) ?_) ?_) ?_) ?_) ?_) ?_
  all_goals first
   |exact ru (rows:=d.map VI) (aW Yi d) (by simp;omega) (by simp) rfl rfl (akM (by simp)) (by simp;omega)
   |exact lM (Hu (by omega) rfl)
   | (repeat' (first|exact C1| ((with_reducible apply D0);exact CA rfl)|fail);done)
 rintro k ⟨T,ao,az,dv,br⟩ KM ew;by_cases A:k<3
 ·have D:=e k A;have dx:=ad k A;have ff:=L k A;obtain⟨rest,E⟩:=ds k A;have ca:k=0->d.getD k default=s.wait:=fun h=>by rw[h];exact eu
  have dy:0<k->∀j∈d.getD k default,j∈s.done++s.told:=fun h j p=>(U j).2 ⟨k,by omega,p⟩;have fh: ∀i,i<k->0<i->∀j∈d.getD i default,y4 c j:=br
  have dz:(∀j∈d.getD k default,y4 c j)->∀i,i<k+1->0<i->∀j∈d.getD i default,y4 c j:=fun h i hi h0=>by
   rcases anF.1 hi with h2|h2;·exact br i h2 h0
   ·subst h2;exact h
  generalize cc:d.getD k default=cur at D dx ff ca dy E dz;repeat' first|apply vI<;>(simp only[go_sem,cc])|apply vT (by omega)|refine⟨by omega,?_⟩|fail
  refine aH.SJ 1 (β:=Nat) (fun b i=>en [(72,dI i),(71,dI cur.length),(70,dS (cur.map aP)),(65,dI k),(64,dI 3),(63,dS (d.map VI)),(9,dI k),(8,.one (.c (.omap b))),(5,dI (s.asked.take 3).sum),(3,.one (.c (.eT (eSt s)))),(2,.one (.c (.eT (cD c))))]) (fun b i=>hp [(b,EX ⟨2,true,qb (seen k++cur.take i)⟩)])
   (fun i=>i<=cur.length/\(∀j∈seen k++cur.take i,InA s.asked j)/\((seen k++cur.take i).map key).Nodup/\ ∀j∈cur.take i,if k=0 then j.rsp=kL else y4 c j) (fun i=>cur.length-i) 0 (by(refine mZ [42] (by omega) (by repeat' first|exact C1|refine xqI rfl rfl ?_| (with_reducible apply C2)| ((with_reducible apply C0);exact CR (by omega) rfl)| ((with_reducible apply D0);apply CJ)|fail) ⟨⟨by simp,by simp[sgL],_,rfl,Q4 (by simp)⟩,trivial⟩ (by simp[sgL]))) ⟨by omega,by simpa using ao,by simpa using az,by simp⟩ ?_
  rintro i ⟨hi,cd,cf,M⟩ KN ed;by_cases N:i<cur.length
  ·have cl:=bL N;have ei:=dx _ cl;have O:=hd _ ei;have F:cur.take (i+1)=cur.take i++[cur.getD i default]:=(by rw[amF N];simp[List.getD,N]);have cp:s.wait++s.done++s.told=(seen k++cur.take i)++cur.getD i default::(cur.drop (i+1)++rest):=(by rw[<-J,E,akO,akO,<-List.cons_append,<-akO (cur.take i),<-Nl N]);have fm:k=0->cur.getD i default∈s.wait:=fun h=>by rw[<-ca h];exact cl
   have fo:0<k->cur.getD i default∈s.done++s.told:=fun h=>dy h _ cl;generalize B:cur.getD i default=j at*;have cq: ¬InA s.asked j->¬rU c s:=fun h hs=>h (hs.inA j ei);have ct:key j∈(seen k++cur.take i).map key->¬rU c s:=fun h hs=>by have hn:=hs.nodup;unfold keys at hn;rw[cp,akQ] at hn;exact(alS.1 hn).2.2 _ h _ (by simp) rfl
   by_cases G:InA s.asked j
   case neg=>
    unfold InA at G;have fr:(s.asked.length:Int)=3:=(by omega);have fs:=et j.who.toNat;have df:=v j.who.toNat;repeat' first| (first|apply vI|apply Y4 (by omega)|refine Y6 (fun h=> ?_) fun h=> ?_|apply cV|apply cO)<;>(simp only[go_sem,B];try simp (disch:=omega) only[Iw])|apply vT (by omega)|refine⟨by omega,?_⟩|fail
    all_goals first
     |exact aJ P (dB false) rfl rfl (congrArg dB (U0 (cq G)).symm)
     | (exfalso;omega)
   have m:key j∉(seen k++cur.take i).map key\/key j∈(seen k++cur.take i).map key:=(Classical.em _).symm
   have V: ∀x∈seen k++cur.take (i+1),InA s.asked x:=fun x t=>by
    rw[F,<-akO] at t;rcases akL.1 t with t|t;·exact cd x t
    ·simp at t;subst t;exact G
   have ga:rI c j.who j.n:=by obtain⟨⟨q1,q2⟩,q3,q4⟩:=G;have:=y j.who.toNat (by omega);exact⟨⟨q1,q2⟩,q3,by omega⟩
   obtain⟨⟨q1,q2⟩,q3,q4⟩:=G;have fs:=y j.who.toNat (by omega);have df:=v j.who.toNat;rcases m with m|m
   case inr=>
    have f:=Ux m;repeat' first| (first|apply vI|apply Y5 (by omega)|apply cV|apply cO)<;>(simp only[go_sem,B,f,Option.getD_some];try simp (disch:=omega) only[Iw])|apply vT (by omega)|refine⟨by omega,?_⟩|fail
    all_goals exact aJ P (dB false) rfl rfl (congrArg dB (U0 (ct m)).symm)
   have f:=Zh m;have z:=Yn m;have W:((seen k++cur.take (i+1)).map key).Nodup:=by rw[F,<-akO,akQ];refine alS.2 ⟨cf,by simp,fun a ha b hb he=> ?_⟩;simp at hb;subst hb;subst he;exact m ha
   have X:(if k=0 then j.rsp=kL else y4 c j)->∀x∈cur.take (i+1),if k=0 then x.rsp=kL else y4 c x:=fun h x t=>by
    rw[F] at t;rcases akL.1 t with t|t;·exact M x t
    ·simp at t;subst t;exact h
   by_cases o:k=0
   ·by_cases g:j.rsp=kL
    ·repeat' first| (first|apply vI|apply Y4 (by omega)|apply Y5 (by omega)|apply cV|apply cO|apply FR O)<;>(simp only[go_sem,B,f,z,Option.getD_none,eq_true g];try simp (disch:=omega) only[Iw])|apply vT (by omega)|refine⟨by omega,?_⟩|fail
     exact ed _ _ _ (i+1) (by omega) (by(refine mZ [52] (by omega) (by repeat' first|exact C1|refine xqI rfl rfl ?_| (with_reducible apply C2)| ((with_reducible apply C0);exact CR (by omega) rfl)| ((with_reducible apply D0);apply CJ)|fail) ⟨⟨by simp,by simp[sgL],_,rfl,Q4 (by rw[F,akO])⟩,trivial⟩ (by simp[sgL]))) ⟨by omega,V,W,X (by rw[if_pos o];exact g)⟩ (by omega)
    ·repeat' first| (first|apply vI|apply Y4 (by omega)|apply Y5 (by omega)|apply cV|apply cO|apply FR O)<;>(simp only[go_sem,B,f,z,Option.getD_none,eq_false g];try simp (disch:=omega) only[Iw])|apply vT (by omega)|refine⟨by omega,?_⟩|fail
     exact aJ P (dB false) rfl rfl (congrArg dB (U0 fun hs=>g (hs.Dj j (fm o))).symm)
   ·have gb:0<k:=(by omega);have Y: ¬y4 c j->¬rU c s:=fun h hs=>h (hs.vq j (fo gb));by_cases g:jZ j.rsp
    ·repeat' first| (first|apply vI|apply Y4 (by omega)|apply Y5 (by omega)|apply cV|apply cO|apply uP O|apply gM ej ga)<;>(simp only[go_sem,B,f,z,Option.getD_none,eq_true g];try simp (disch:=omega) only[Iw])|apply vT (by omega)|refine iB (fun h=> ?_) fun h=> ?_|refine⟨by omega,?_⟩|fail
     ·exact aJ P (dB false) rfl rfl (congrArg dB (U0 (Y fun h=>by have:=h.2;omega)).symm)
     ·exact ed _ _ _ (i+1) (by omega) (by(refine mZ [52] (by omega) (by repeat' first|exact C1|refine xqI rfl rfl ?_| (with_reducible apply C2)| ((with_reducible apply C0);exact CR (by omega) rfl)| ((with_reducible apply D0);apply CJ)|fail) ⟨⟨by simp,by simp[sgL],_,rfl,Q4 (by rw[F,akO])⟩,trivial⟩ (by simp[sgL]))) ⟨by omega,V,W,X (by rw[if_neg o];exact⟨g,by omega⟩)⟩ (by omega)
    ·repeat' first| (first|apply vI|apply Y4 (by omega)|apply Y5 (by omega)|apply cV|apply cO|apply uP O)<;>(simp only[go_sem,B,f,z,Option.getD_none,eq_false g];try simp (disch:=omega) only[Iw])|apply vT (by omega)|refine⟨by omega,?_⟩|fail
     exact aJ P (dB false) rfl rfl (congrArg dB (U0 (Y fun h=>g h.1)).symm)
  ·have gd:i=cur.length:=(by omega);subst gd;rw[alU,<-D] at cd cf;rw[alU] at M;rw[alU,<-D];repeat' first|apply vI<;>(simp only[go_sem];try simp (disch:=omega) only[Iw])|apply vF (by omega)|fail
   refine ew _ _ _ (k+1) (by omega) (by(refine mZ [52] (by omega) (by repeat' first|exact C1|refine xqI rfl rfl ?_| (with_reducible apply C2)| ((with_reducible apply C0);exact CR (by omega) rfl)| ((with_reducible apply D0);apply CJ)|fail) ⟨⟨by simp,by simp[sgL],_,rfl,Q4 rfl⟩,trivial⟩ (by simp[sgL]))) ⟨by omega,cd,cf,fun _=> ?_,?_⟩ (by omega)
   ·by_cases o:k=0;·intro j p;have:=M j (by rw[ca o];exact p);rwa [if_pos o] at this
    ·exact dv (by omega)
   ·intro i2 h1 h2;by_cases o:k=0;·omega
    ·exact dz (fun j p=>by have:=M j p;rwa [if_neg o] at this) i2 h1 h2
 ·have ab:k=3:=by omega
  subst ab;rw[J] at ao az;have gf:=congrArg List.length J;rw[akG,akG] at gf;repeat' first|apply vI<;>(simp only[go_sem])|apply vF (by omega)|fail
  refine aJ P (dB (decide (((qb (seen 3)).length:Int)=(s.asked.take 3).sum))) rfl rfl (congrArg dB ?_);rw[Yo];by_cases Z:((seen 3).length:Int)=(s.asked.take 3).sum;·rw[decide_eq_true Z];refine(Wy (Qy S aa y cw cx ao az (by omega) (dv (by omega)) fun j p=> ?_)).symm;obtain⟨k,T,p⟩:=(U j).1 p;exact br k (by omega) (by omega) j p
  ·rw[decide_eq_false Z];exact(U0 fun hs=>by have:=hs.count;omega).symm
theorem MU{l:List Job}{m cap i0:Nat}(hl:l.length<2^21)(hi:i0<nx)(J:H i0=some ⟨5,m,l.map aP⟩)
 (h: ∀H' nx',nx<=nx'->H' i0=some ⟨5,m,(cR l).map aP⟩->(∀id,id<nx->id≠i0->H' id=H id)->K (.tup []) H' nx'):
 an3 dL [.one (.c (.osl 5 i0 0 l.length cap)),dI 0,dI l.length,.one (.c (.clo b9 []))] H nx K:=by
 refine bA.mk Tryz.func303 (by kernel_rfl) tN rfl fun Q L=> ?_
 unfold c8
 repeat' first|apply vI<;>(simp only[go_sem];try simp (disch:=omega) only[Iw])|fail
 refine aH.cE (β:=Nat) (fun k=>en [(8,dI k),(3,.one (.c (.clo b9 []))),(2,dI l.length),(1,dI 0),(0,.one (.c (.osl 5 i0 0 l.length cap)))])
  (fun k H1 _=>1<=k/\(k<=1\/k<=l.length)/\H1 i0=some ⟨5,m,(PB l k++l.drop k).map aP⟩/\ ∀id,id<nx->id≠i0->H1 id=H id) (fun k=>l.length+1-k) 1
  ⟨noF,_,by repeat' first|exact C1|refine xqI rfl rfl ?_|refine xqO (by omega) rfl rfl (by rfl) ?_| (with_reducible apply C2)| ((with_reducible apply C0);exact CH (by rfl))| ((with_reducible apply D0);apply CJ)|fail,aF,by omega,.inl (by omega),by rw[Rf,alR];exact J,fun _ _ _=>rfl⟩ ?_
 rintro k H1 M N ⟨O,P,s,n⟩ T t
 by_cases f:k<l.length
 ·repeat' first|apply vI<;>(simp only[go_sem])|apply vT (by omega)|fail
  obtain⟨S,q⟩: ∃S,S=PB l k:=⟨_,rfl⟩
  have U:S.length=k:=by rw[q];exact Rg (by omega)
  obtain⟨x,D⟩: ∃x,x=l.getD k default:=⟨_,rfl⟩
  have u:l.drop k=x::l.drop (k+1):=by rw[alF f,D];simp[List.getD,f]
  refine aH.cE (β:=Nat) (fun j=>en [(9,dI j),(8,dI k),(3,.one (.c (.clo b9 []))),(2,dI l.length),(1,dI 0),(0,.one (.c (.osl 5 i0 0 l.length cap)))])
   (fun j H2 _=>j<=k/\H2 i0=some ⟨5,m,(fl S x j++l.drop (k+1)).map aP⟩/\(∀i,j<=i->i<S.length->fP x (S.getD i default)=true)/\ ∀id,id<nx->id≠i0->H2 id=H id) (fun j=>j) k
   ⟨noF,_,by repeat' first|exact C1|refine xqI rfl rfl ?_|refine xqO (by omega) rfl rfl (by rfl) ?_| (with_reducible apply C2)| ((with_reducible apply C0);exact CH (by rfl))| ((with_reducible apply D0);apply CJ)|fail,aF,akA _,?_,fun i E r=>by omega,n⟩ ?_
  ·rw[s,<-q,u];unfold fl;rw[akM (show S.length<=k by omega),show S.drop k=[] from amP (by omega)];simp
  rintro j H2 g F ⟨Z,G,hB,d⟩ KM v;have w:(fl S x j++l.drop (k+1)).length=l.length:=by rw[akG,Yx (by omega),akS];omega
  have y: ∀b,(i0=g+b)=False:=fun b=>eq_false (by omega);have o: ∀b,(g+b=i0)=False:=fun b=>eq_false (by omega);have a: ∀{e:Env} {H':aA} {z:Nat},g<=z->(j=0\/fP x (S.getD (j-1) default)=false)->H'=H2->CvE H' noF id z (en [(8,dI (k+1)),(3,.one (.c (.clo b9 []))),(2,dI l.length),(1,dI 0),(0,.one (.c (.osl 5 i0 0 l.length cap)))]) e->T e H' z:=fun E r V W=>by subst V;refine t _ _ _ (k+1) noF _ (by omega) (by omega) W aF ⟨by omega,.inr (by omega),?_,d⟩;rw[G,Vj (by omega) (by rw[q];exact Bh _) r hB,q,Lu f,D]
  by_cases p:0<j
  ·have A:=adC (S:=S) (R:=l.drop (k+1)) (x:=x) (j:=j) (by omega);have B:=Np (S:=S) (R:=l.drop (k+1)) (x:=x) p (by omega);have C:=Ru (S:=S) (R:=l.drop (k+1)) (x:=x) p (by omega);have X:((j:Int)-1).toNat=j-1:=(by omega);repeat' first| (first|apply vI|apply Y4 (by omega)|apply HM)<;>(simp only[go_sem,G,A,B,X,w,y,o];try simp (disch:=omega) only[Iw])|refine iB (fun h=> ?_) fun h=> ?_|refine⟨by omega,?_⟩|fail
   ·exact v _ _ _ (j-1) noF _ (by omega) (by omega) (by repeat' first|exact C1|refine xqI rfl rfl ?_|refine xqO (by omega) rfl rfl (by rfl) ?_|refine xqV rfl (by omega) ?_| (with_reducible apply C2)| ((with_reducible apply C0);exact CH (by rfl))| ((with_reducible apply D0);apply CJ)|fail) aF ⟨by omega,by rw[C];exact aA.aI,fun i E r=>by
     by_cases he:i=j-1
     ·subst he;exact S1.1 (by assumption)
     ·exact hB i (by omega) r,fun id Y I=>by rw[aA.aB I];exact d id Y I⟩
   ·exact a (by omega) (.inr (by rw[<-Bool.not_eq_true,<-S1];assumption)) rfl (by repeat' first|exact C1|refine xqI rfl rfl ?_|refine xqO (by omega) rfl rfl (by rfl) ?_| (with_reducible apply C2)| ((with_reducible apply C0);exact CH (by rfl))| ((with_reducible apply D0);apply CJ)|fail)
  ·repeat' first| (first|apply vI|apply Y5 (by omega))<;>(simp only[go_sem];try simp (disch:=omega) only[Iw])|fail
   exact a (by omega) (.inl (by omega)) rfl (by repeat' first|exact C1|refine xqI rfl rfl ?_|refine xqO (by omega) rfl rfl (by rfl) ?_| (with_reducible apply C2)| ((with_reducible apply C0);exact CH (by rfl))| ((with_reducible apply D0);apply CJ)|fail)
 ·repeat' first|apply vI<;>(simp only[go_sem])|apply vF (by omega)|fail
  have u:PB l k++l.drop k=cR l:=by rw[amP (by omega),alE,<-Vs];unfold PB;rw[akM (by omega),akM (by omega)]
  rw[u] at s;exact L _ _ _ _ _ (.inl rfl) rfl (h _ _ (by omega) s n)
theorem iy{l:List Job}{m cap i0:Nat}(hl:l.length<20)(hi:i0<nx)(d:H i0=some ⟨5,m,l.map aP⟩)
 (h: ∀H' nx',nx<=nx'->H' i0=some ⟨5,m,(cR l).map aP⟩->(∀id,id<nx->id≠i0->H' id=H id)->K (.tup []) H' nx'):
 an3 jD [.one (.c (.osl 5 i0 0 l.length cap)),dI l.length,.one (.c (.clo b9 []))] H nx K:=by
 refine bA.mk Tryz.func225 (by kernel_rfl) BM rfl fun Q e=> ?_
 unfold fI
 repeat' first|apply vI<;>(simp only[go_sem])|fail
 refine aH.cE (β:=Unit) (fun _=>en [(8,dI 20),(7,dI 0),(6,dI 20),(2,.one (.c (.clo b9 []))),(1,dI l.length),(0,.one (.c (.osl 5 i0 0 l.length cap)))]) (fun _ H1 _=>H1=H) (fun _=>0) () ⟨noF,_,by repeat' first|exact C1|refine xqI rfl rfl ?_|refine xqO (by omega) rfl rfl (by rfl) ?_| (with_reducible apply C2)| ((with_reducible apply C0);exact CH (by rfl))| ((with_reducible apply D0);apply CJ)|fail,aF,rfl⟩ ?_
 rintro u H1 f g rfl q i
 repeat' first| (first|apply vI|refine MU (by omega) (by omega) d (fun H' nx' j k a=> ?_))<;>(simp only[go_sem])|apply vF (by omega)|fail
 refine aH.cE (β:=Unit) (fun _=>en [(6,dI 20),(2,.one (.c (.clo b9 []))),(1,dI l.length),(0,.one (.c (.osl 5 i0 0 l.length cap)))]) (fun _ H2 _=>H2=H') (fun _=>0) () ⟨noF,_,by repeat' first|exact C1|refine xqI rfl rfl ?_|refine xqO (by omega) rfl rfl (by rfl) ?_| (with_reducible apply C2)| ((with_reducible apply C0);exact CH (by rfl))| ((with_reducible apply D0);apply CJ)|fail,aF,rfl⟩ ?_
 rintro u H2 n b rfl r o
 repeat' first|apply vI<;>(simp only[go_sem])|apply vF (by omega)|fail
 exact e _ _ _ _ _ (.inl rfl) rfl (h _ _ (by omega) k fun id s p=>a id (by omega) p)
theorem DR{l:List Job}{m cap i0:Nat}(hl:l.length<20)(hi:i0<nx)(b:H i0=some ⟨5,m,l.map aP⟩)
 (h: ∀H' nx',nx<=nx'->H' i0=some ⟨5,m,(cR l).map aP⟩->(∀id,id<nx->id≠i0->H' id=H id)->K (.tup []) H' nx'):
 an3 cW [.one (.c (.osl 5 i0 0 l.length cap)),.one (.c (.clo b9 []))] H nx K:=by
 refine bA.mk Tryz.func135 (by kernel_rfl) qV rfl fun Q d=> ?_
 unfold cS
 repeat' first| (first|apply vI|refine iy hl (by omega) b (fun H' nx' e f a=> ?_))<;>(simp only[go_sem])|fail
 exact d _ _ _ _ _ (.inl rfl) rfl (h _ _ (by omega) f fun id i g=>a id (by omega) g)
end
end Go.Proofs.YtlncecohbakleaaGreat
