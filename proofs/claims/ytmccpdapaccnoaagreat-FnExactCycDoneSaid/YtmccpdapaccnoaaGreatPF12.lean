/- Texts laid together by a program: rules, contracts and the walk that leads to the law. -/
import Derived.Test.YtmccpdapaccnoaaGreatPF11
import Derived.Test.YtmccpdapaccnoaaGreatPF3
import Derived.Test.YtmccpdapaccnoaaGreatPF10
import Derived.Test.YtmccpdapaccnoaaGreatPF6
import Derived.Test.YtmccpdapaccnoaaGreatPF9
import Derived.Test.YtmccpdapaccnoaaGreatPF4
set_option linter.unusedVariables false
set_option linter.unusedSimpArgs false
set_option linter.unusedSectionVars false
section
namespace Go.AM
noncomputable def slB (c:Cfg) (s:CSt) (st:Nat):Bool:=@decide (Z0 c s st) (Classical.propDecidable _)
theorem beR {c:Cfg} {s:CSt} {st:Nat} (h:Z0 c s st):slB c s st=true:=by simp[slB,h]
theorem a6D {c:Cfg} {s:CSt} {st:Nat} (h: ¬Z0 c s st):slB c s st=false:=by simp[slB,h]
structure a19 (c:Cfg) (s:CSt):Prop where
 pl:s.bM.length=3
 port: ∀k,k<3→mD c k (aF s k)
structure bdP (s:CSt) (st:Nat) (u:List Int) (x:Int×Int):Prop where
 who:0≤x.1∧x.1≤2
 last:u.getD x.1.toNat default<x.2
 bf0:0≤bK (isC x.2) (aF s x.1.toNat).out
 aAM:(bK (isC x.2) (aF s x.1.toNat).out).toNat<(aF s x.1.toNat).out.length
 aAN:((aF s x.1.toNat).out.getD (bK (isC x.2) (aF s x.1.toNat).out).toNat default).left=st
structure bcU (s:CSt) (st:Nat) (V:List (Int×Int)) (k:Nat) (u:List Int):Prop where
 ul:u.length=3
 lst: ∀w,w<3→u.getD w default= -1∨ ∃i,i<k∧V[i]?=some ((w:Int),u.getD w default)
 all: ∀i x,i<k→V[i]?=some x→(0≤x.1∧x.1≤2)∧x.2≤u.getD x.1.toNat default∧ ∃j∈(aF s x.1.toNat).out,j.n=x.2∧j.left=st
 inc: ∀i j x y,i<j→j<k→V[i]?=some x→V[j]?=some y→x.1=y.1→x.2<y.2
theorem bcU.nil {s:CSt} {st:Nat} {V:List (Int×Int)}:bcU s st V 0 [-1,-1,-1]:=
 ⟨rfl,fun w hw=>.inl (by rcases(show w=0∨w=1∨w=2 by omega) with rfl|rfl|rfl<;>rfl),fun i x hi=>by omega,fun i j x y _ hj=>by omega⟩
theorem bcU.next {s:CSt} {st k:Nat} {V:List (Int×Int)} {u:List Int} {x:Int×Int} (h:bcU s st V k u) (hx:V[k]?=some x) (hf:bdP s st u x):bcU s st V (k+1) (u.set x.1.toNat x.2):=by
 have hw:=hf.who
 have hul:=h.ul
 have hlt:=hf.last
 have hg: ∀w,(u.set x.1.toNat x.2).getD w default=if w=x.1.toNat then x.2 else u.getD w default:=fun w=>pY (by omega)
 refine⟨by simp[hul],fun w hw3=> ?_,fun i y hi hy=> ?_,fun i j y z hij hj hy hz he=> ?_⟩
 ·rw[hg]
  by_cases he:w=x.1.toNat
  ·right
   refine⟨k,by omega,?_⟩
   rw[if_pos he,hx,he,show ((x.1.toNat:Nat):Int)=x.1 by omega]
  ·rw[if_neg he]
   exact(h.lst w hw3).imp (fun h=>h) fun⟨i,hi,h2⟩=>⟨i,by omega,h2⟩
 ·rw[hg]
  by_cases hik:i<k
  ·obtain⟨h1,h2,h3⟩:=h.all i y hik hy
   refine⟨h1,?_,h3⟩
   split
   ·rename_i he
    rw[he] at h2
    omega
   ·exact h2
  ·obtain rfl:i=k:=by omega
   obtain rfl:x=y:=by rw[hx] at hy;exact Option.some.inj hy
   refine⟨hw,by rw[if_pos rfl];omega,_,cC hf.aAM,?_,hf.aAN⟩
   have:=(ajV hf.bf0).2
   exact of_decide_eq_true this
 ·by_cases hjk:j<k
  ·exact h.inc i j y z hij hjk hy hz he
  ·obtain rfl:j=k:=by omega
   obtain rfl:x=z:=by rw[hx] at hz;exact Option.some.inj hz
   have:=(h.all i y hij hy).2.1
   rw[he] at this
   omega
theorem bcU.bad {c:Cfg} {s:CSt} {st k:Nat} {u:List Int} {x:Int×Int} (hp:a19 c s) (hs:Z0 c s st) (h:bcU s st (cS (aL s st)) k u) (hx:(cS (aL s st))[k]?=some x):bdP s st u x:=by
 obtain⟨hk,hxk⟩:=List.getElem?_eq_some_iff.1 hx
 have hm:x∈cS (aL s st):=hxk▸List.getElem_mem hk
 obtain⟨hw,j,hj,h1,h2⟩:=hs.out x hm
 have hpo:=hp.port x.1.toNat (by omega)
 have hj0:=(hpo.out j hj).2.1
 have hex: ∃j∈(aF s x.1.toNat).out,j.n=x.2:=⟨j,hj,h1⟩
 obtain⟨az9,az2⟩:=PJ hex
 refine⟨hw,?_,cH.2 ⟨j,hj,decide_eq_true h1⟩,az9,?_⟩
 ·rcases h.lst x.1.toNat (by omega) with h3|⟨i,hi,h3⟩
  ·omega
  ·obtain⟨hi2,h4⟩:=List.getElem?_eq_some_iff.1 h3
   have h5:=List.pairwise_iff_getElem.1 hs.inc i k hi2 hk hi
   rw[h4,hxk] at h5
   exact h5 (by dsimp only;omega)
 ·have:=ZO hpo.acX (cC az9) hj (by rw[az2,h1])
  rw[this];exact h2
theorem bdP.asks {c:Cfg} {s:CSt} {st:Nat} {u:List Int} {x:Int×Int} (hp:a19 c s) (h:bdP s st u x):oA c x.1 x.2:=by
 have hw:=h.who
 have hpo:=hp.port x.1.toNat (by omega)
 have hm:=cC h.aAM
 have hn:((aF s x.1.toNat).out.getD (bK (isC x.2) (aF s x.1.toNat).out).toNat default).n=x.2:=of_decide_eq_true (ajV h.bf0).2
 obtain⟨_,h2,_⟩:=hpo.out _ hm
 rw[hn] at h2
 have:=hpo.asks (n:=x.2) (by omega) h2.1 (by omega)
 rwa [show ((x.1.toNat:Nat):Int)=x.1 by omega] at this
theorem bcU.end {s:CSt} {st:Nat} {V:List (Int×Int)} {u:List Int} (h:bcU s st V V.length u):(V.Pairwise fun a b=>a.1=b.1→a.2<b.2)∧ ∀x∈V,(0≤x.1∧x.1≤2)∧ ∃j∈(aF s x.1.toNat).out,j.n=x.2∧j.left=st:=by
 refine⟨List.pairwise_iff_getElem.2 fun i j hi hj hij he=> ?_,fun x hx=> ?_⟩
 ·exact h.inc i j _ _ hij hj (List.getElem?_eq_getElem hi) (List.getElem?_eq_getElem hj) he
 ·obtain⟨i,hi,rfl⟩:=List.mem_iff_getElem.1 hx
  obtain⟨h1,_,h3⟩:=h.all i _ hi (List.getElem?_eq_getElem hi)
  exact⟨h1,h3⟩
end Go.AM
namespace Go.Proofs.YtmccpdapaccnoaaGreat
open Go Go.AM
set_option maxRecDepth 100000
set_option maxHeartbeats 8000000
section
variable {H : aA} {nx : Nat} {K : D → aA → Nat → Prop}
theorem a04 {c:Cfg} {s:CSt} {st:Nat} {w n:Int} {u:List Int} {i0 i1 i2:Nat} (hp:a19 c s) (hu:u.length=3) (hno: ¬bdP s st u (w,n))
 (hlt:i0<nx∧i1<nx∧i2<nx) (hd:[i0,i1,i2].Nodup) (o0:H i0=some ⟨3,1,[u.map cI]⟩) (o1:H i1=some ⟨5,1,[eI s]⟩) (o2:H i2=some ⟨1,1,[[cI st]]⟩)
 (h: ∀H' nx',nx≤nx'→K (dB false) H' nx'):
 aB Tryz.prog cO [dI w,dI n,.one (.c (.ptr 3 i0 0 0)),.one (.c (.ptr 5 i1 0 0)),.one (.c (.ptr 1 i2 0 0))] H nx K:=by
 refine AP rfl fun Q hQ=> ?_
 unfold jP
 have hA:bQ nx [i0,i1,i2]:=AM.apart hd (by simp;omega)
 simp only[bQ,eZ] at hA
 by_cases hw:0≤w∧w≤2
 case neg=>
  have hwd:=decide_eq_false hw
  repeat' (first| (with_reducible first| (refine hK _ _ _ ?_;clear hK K)| (refine hA ?_;clear hA hB A B)|refine Z1 ?_)| (first| (with_reducible first|refine Y2 fun K hK=> ?_|refine Y3 fun A B hA hB=> ?_)| (with_reducible refine oR ?_))<;>(simp only[go_sem,Nat.add_assoc,Nat.left_eq_add,Nat.mul_one,o0,o1,o2,hwd,hA])| ((with_reducible refine Y8 ?_);try simp only[AQ.then,AQ.blk,reduceIte,Nat.reduceEqDiff])|fail)
  all_goals first|exact hQ _ _ _ _ _ (.inr rfl) rfl (h _ _ (by omega))| (exfalso;omega)
 have hwd:=decide_eq_true hw
 obtain⟨who,rfl⟩: ∃who:Nat,w=who:=⟨w.toNat,by omega⟩
 have hw3:who<3:=by omega
 obtain⟨p,hpd⟩: ∃p,p=aF s who:=⟨_,rfl⟩
 have hpd':s.bM.getD who default=p:=hpd.symm
 have hpl:=hp.pl
 have hol:=(hp.port who hw3).ol
 rw[←hpd] at hol
 have hut:((u.map cI).drop who).take 1=[cI (u.getD who default)]:=by
  rw[List.drop_eq_getElem_cons (by simp;omega)]
  simp[List.getD,show who<u.length by omega]
 have hull:(u.map cI).length=3:=by rw[List.length_map,hu]
 have hle:(who+1≤3)=True:=eq_true (by omega)
 by_cases hn:u.getD who default<n
 case neg=>
  have hn1:(n≤u.getD who default)=True:=eq_true (by omega)
  repeat' (first| (with_reducible first| (refine hK _ _ _ ?_;clear hK K)| (refine hA ?_;clear hA hB A B)|refine Z1 ?_)| (first| (with_reducible first|refine Y2 fun K hK=> ?_|refine Y3 fun A B hA hB=> ?_)| (with_reducible refine oR ?_))<;>(simp only[go_sem,Nat.add_assoc,Nat.left_eq_add,Nat.mul_one,o0,o1,o2,hut,hull,hle,hwd,hn1,hA])| ((with_reducible refine Y8 ?_);try simp only[AQ.then,AQ.blk,reduceIte,Nat.reduceEqDiff])|refine⟨by omega,?_⟩|fail)
  all_goals first|exact hQ _ _ _ _ _ (.inr rfl) rfl (h _ _ (by omega))| (exfalso;omega)
 have hn1:(n≤u.getD who default)=False:=eq_false (by omega)
 obtain⟨a,ha⟩: ∃a,a=bK (isC n) p.out:=⟨_,rfl⟩
 have hou: ∀{H:aA} {nx:Nat} {K:D→aA→Nat→Prop},K (dI a) H nx→aB Tryz.prog kV [dA (cD p),dI n] H nx K:=fun h=>KT (p:=p) (by omega) (aE rfl) (by rw[←ha];exact h)
 by_cases ha0:0≤a
 case neg=>
  have ha1:(0≤a)=False:=eq_false ha0
  repeat' (first| (with_reducible first| (refine hK _ _ _ ?_;clear hK K)| (refine hB ?_;clear hA hB A B)|refine Z1 ?_|refine Z2 ?_)| (first| (with_reducible first|refine Y2 fun K hK=> ?_|refine Y3 fun A B hA hB=> ?_)| (with_reducible refine oR ?_)| (with_reducible refine hou ?_))<;>(simp only[go_sem,Nat.add_assoc,Nat.left_eq_add,Nat.mul_one,o0,o1,o2,hut,hull,hle,hpd',hwd,hn1,ha1,hA])| ((with_reducible refine Y8 ?_);try simp only[AQ.then,AQ.blk,reduceIte,Nat.reduceEqDiff])|refine⟨by omega,?_⟩|fail)
  all_goals first|exact hQ _ _ _ _ _ (.inr rfl) rfl (h _ _ (by omega))| (exfalso;omega)
 have ha1:(0≤a)=True:=eq_true ha0
 have ha2:a.toNat<p.out.length:=by rw[ha] at ha0 ⊢;exact(ajV ha0).1
 obtain⟨o,ho⟩: ∃o,p.out.getD a.toNat default=o:=⟨_,rfl⟩
 have hol2:(o.left=(st:Int))=False:=eq_false fun he=>hno ⟨hw,by rw[Int.toNat_natCast];exact hn,by rw[Int.toNat_natCast,←hpd,←ha];exact ha0,by rw[Int.toNat_natCast,←hpd,←ha];exact ha2,by rw[Int.toNat_natCast,←hpd,←ha,ho];exact he⟩
 repeat' (first| (with_reducible first| (refine hK _ _ _ ?_;clear hK K)| (refine hB ?_;clear hA hB A B)|refine Z1 ?_|refine Z2 ?_)| (first| (with_reducible first|refine Y2 fun K hK=> ?_|refine Y3 fun A B hA hB=> ?_)| (with_reducible refine oR ?_)| (with_reducible refine hou ?_))<;>(simp only[go_sem,Nat.add_assoc,Nat.left_eq_add,Nat.mul_one,o0,o1,o2,hut,hull,hle,hpd',hwd,hn1,ha1,ho,hol2,hA])| ((with_reducible refine Y8 ?_);try simp only[AQ.then,AQ.blk,reduceIte,Nat.reduceEqDiff])|refine⟨by omega,?_⟩|fail)
 all_goals first|exact hQ _ _ _ _ _ (.inr rfl) rfl (h _ _ (by omega))| (exfalso;omega)
def beA (c:Cfg) (st i:Nat) (d:fC):Prop:=(0≤d.left∧d.left≤c.lat.getD st default)∧(0<i→d.left=c.lat.getD st default)
theorem a5G (c:Cfg) (s:CSt) (st:Nat) (hb:aQ c) (hp:a19 c s) (hsl:s.dD.length=4) (hst:st<4) (hf1:(aL s st).pipe.length<2^21) (hf2:(aL s st).done.length<2^21) (hf3: ∀j∈(aL s st).done,j.rsp.data.length<2^21):
 aB Tryz.prog iX [dA (cU c),dA (eI s),dI st] .nil 0 fun r _ _=>r.plain=true∧r=dB (slB c s st):=by
 refine BX rfl fun Q hQ=> ?_
 unfold lB
 obtain⟨v,hvd⟩: ∃v,v=aL s st:=⟨_,rfl⟩
 have hvd':s.dD.getD st default=v:=hvd.symm
 rw[←hvd] at hf1 hf2 hf3
 by_cases h0:(v.pipe.length:Int)≤2∧(v.done.length:Int)≤2∧0≤v.last∧v.last≤2
 case neg=>
  have hno: ¬Z0 c s st:=fun h=>h0 ⟨by have:=h.pl;rw[←hvd] at this;omega,by have:=h.dl;rw[←hvd] at this;omega,by have:=h.last;rw[←hvd] at this;omega⟩
  repeat' (first| (with_reducible first| (refine hK _ _ _ ?_;clear hK K)| (refine hA ?_;clear hA hB A B)|refine Z1 ?_|refine Z4 (by omega) ?_)| (first| (with_reducible first|refine Y2 fun K hK=> ?_|refine Y3 fun A B hA hB=> ?_|refine Y6 (fun h=> ?_) fun h=> ?_)| (with_reducible refine oR ?_))<;>(simp only[go_sem,hvd'])| ((with_reducible refine Y8 ?_);try simp only[AQ.then,AQ.blk,reduceIte,Nat.reduceEqDiff])|refine⟨by omega,?_⟩|fail)
  all_goals first|exact hQ _ _ _ _ _ (.inr rfl) rfl ⟨rfl,congrArg dB (a6D hno).symm⟩| (exfalso;omega)
 obtain⟨hpl,hdl,hl1,hl2⟩:=h0
 have hld:=decide_eq_true (show 0≤v.last∧v.last≤2 from ⟨hl1,hl2⟩)
 repeat' (first| (with_reducible first| (refine hK _ _ _ ?_;clear hK K)| (refine hB ?_;clear hA hB A B)|refine Z1 ?_|refine Z2 ?_|refine Z3 fun KB hKB=> ?_)| (first| (with_reducible first|refine Y2 fun K hK=> ?_|refine Y3 fun A B hA hB=> ?_|refine Y5 (by omega) ?_)| (with_reducible refine oR ?_))<;>(simp only[go_sem,hvd',hld])|refine⟨by omega,?_⟩|fail)
 (have hKX:=hKB;clear hKB)
 refine aM.abC fun G0 hG0=> ?_
 have c0:G0 0=some ⟨3,1,[cU c]⟩:=by rw[hG0];rfl
 have c1:G0 1=some ⟨5,1,[eI s]⟩:=by rw[hG0];rfl
 have c2:G0 2=some ⟨1,1,[[cI st]]⟩:=by rw[hG0];rfl
 have bf1:G0 9=some ⟨3,1,[gF v]⟩:=by rw[hG0];rfl
 have c28:G0 28=some ⟨3,1,[([-1,-1,-1]:List Int).map cI]⟩:=by rw[hG0];rfl
 clear hG0
 have hp3:=(hC hb).1
 have hlat4:=hb.2.1
 have hlat:=S0 hb hst
 have hV: ∀k,k<v.done.length→(cS (aL s st))[k]?=some (key (v.done.getD k default)):=fun k hk=>by
  rw[←hvd];unfold cS
  rw[List.getElem?_append_left (by simpa using hk)];simp[List.getD,hk]
 have hV2: ∀k,k<v.pipe.length→(cS (aL s st))[v.done.length+k]?=some ((v.pipe.getD k default).who,(v.pipe.getD k default).n):=fun k hk=>by
  rw[←hvd];unfold cS
  rw[List.getElem?_append_right (by simp)];simp[List.getD,hk]
 have hVl:(cS (aL s st)).length=v.done.length+v.pipe.length:=by rw[←hvd];simp[cS]
 have hclo: ∀{H:aA} {F:Nat→Prop} {nh:Nat},36≤nh→Cv1 H F id nh (.clo cO [.ptr 3 28 0 0,.ptr 5 1 0 0,.ptr 1 2 0 0]) (.clo cO [.ptr 3 28 0 0,.ptr 5 1 0 0,.ptr 1 2 0 0]):=fun h=>akM fun x hx=>by
  simp only[List.mem_cons,List.not_mem_nil,or_false] at hx
  rcases hx with rfl|rfl|rfl
  ·exact⟨_,_,_,_,by omega,rfl⟩
  ·exact⟨_,_,_,_,by omega,rfl⟩
  ·exact⟨_,_,_,_,by omega,rfl⟩
 have hppl:=hp.pl
 refine aM.gP (β:=Nat×List Int) (fun u=>en [(40,dI u.1),(39,dI v.done.length),(38,dS (v.done.map aS)),(9,.one (.c (.clo cO [.ptr 3 28 0 0,.ptr 5 1 0 0,.ptr 1 2 0 0]))),(7,.one (.c (.ptr 3 9 0 0))),(5,.one (.c (.ptr 1 2 0 0))),(3,.one (.c (.ptr 3 0 0 0)))])
  (fun u H1 _=>u.1≤v.done.length∧bcU s st (cS (aL s st)) u.1 u.2∧(∀i,i<u.1→as5 c (v.done.getD i default))∧H1 28=some ⟨3,1,[u.2.map cI]⟩∧ ∀id,id<36→id≠28→H1 id=G0 id) (fun u=>v.done.length-u.1) (0,[-1,-1,-1])
  ⟨noF,_,by(repeat' (first| (with_reducible first|exact C1|refine C2 ?_ ?_)| ((with_reducible refine C0 ?_);exact CE (by omega) rfl)| ((with_reducible refine D0 ?_);first|exact CA rfl|refine CJ ?_)|fail));all_goals exact hclo (by omega),aK,by dsimp only;omega,bcU.nil,fun i hi=>by dsimp only at hi;omega,c28,fun _ _ _=>rfl⟩ ?_
 rintro⟨k,u⟩ H1 nx1 hnx ⟨hk,hI,hR,g28,hfr⟩ KL hKL
 dsimp only at hk hI hR g28
 have g0:H1 0=some ⟨3,1,[cU c]⟩:=by rw[hfr _ (by omega) (by omega)];exact c0
 have g1:H1 1=some ⟨5,1,[eI s]⟩:=by rw[hfr _ (by omega) (by omega)];exact c1
 have g2:H1 2=some ⟨1,1,[[cI st]]⟩:=by rw[hfr _ (by omega) (by omega)];exact c2
 have g9:H1 9=some ⟨3,1,[gF v]⟩:=by rw[hfr _ (by omega) (by omega)];exact bf1
 have hA:bQ nx1 [0,1,2,9,28]:=AM.apart (by simp) (by simp;omega)
 simp only[bQ,eZ] at hA
 have hul:=hI.ul
 by_cases hlt:k<v.done.length
 ·obtain⟨d,hdd⟩: ∃d,d=v.done.getD k default:=⟨_,rfl⟩
  have hdm:d∈(aL s st).done:=by rw[hdd,←hvd];exact cC hlt
  have hx:=hV k hlt
  rw[←hdd] at hx
  have hrl:d.rsp.data.length<2^40:=by have h1:=hf3 d (by rw[hvd];exact hdm);omega
  by_cases hF:bdP s st u (key d)
  case neg=>
   repeat' (first| (with_reducible first| (refine hK _ _ _ ?_;clear hK K)| (refine hA ?_;clear hA hB A B)|refine Z1 ?_|refine Z2 ?_|refine Z3 fun KB hKB=> ?_|refine Z4 (by omega) ?_)| (first| (with_reducible first|refine Y2 fun K hK=> ?_|refine Y3 fun A B hA hB=> ?_)| (refine a04 (c:=c) (w:=d.who) (n:=d.n) hp hul hF (by omega) (by simp) (by simp only[aA.set,hA,if_false];exact g28) (by simp only[aA.set,hA,if_false];exact g1) (by simp only[aA.set,hA,if_false];exact g2) (fun H' nx' hx'=> ?_)))<;>(simp only[go_sem,Nat.add_assoc,Nat.left_eq_add,hdd.symm,g0,g1,g2,g28,hA])| ((with_reducible refine Y8 ?_);try simp only[AQ.then,AQ.blk,reduceIte,Nat.reduceEqDiff])|refine⟨by omega,?_⟩|fail)
   skip
   all_goals exact hQ _ _ _ _ _ (.inr rfl) rfl ⟨rfl,congrArg dB (a6D fun h=>hF (hI.bad hp h hx)).symm⟩
  have hI2:=hI.next hx hF
  have hask:=hF.asks hp
  obtain⟨hw0,hn,ha1,ha2,ha3⟩:=hF
  dsimp only[key] at hw0 hn ha1 ha2 ha3 hI2 hask
  have hw1:d.who=(d.who.toNat:Int):=by omega
  have hw2:d.who.toNat<3:=by omega
  have hol:(aF s d.who.toNat).out.length<2^40:=by have:=(hp.port _ hw2).ol;omega
  by_cases hr1:pA d.rsp
  case neg=>
   have hdr:=decide_eq_false hr1
   repeat' (first| (with_reducible first| (refine hK _ _ _ ?_;clear hK K)| (refine hA ?_;clear hA hB A B)|refine Z1 ?_|refine Z2 ?_|refine Z3 fun KB hKB=> ?_|refine Z4 (by omega) ?_)| (first| (with_reducible first|refine Y2 fun K hK=> ?_|refine Y3 fun A B hA hB=> ?_)| (refine kA (w:=d.who) (n:=d.n) hw1 hul hw2 hn hppl hol ha1 ha2 ha3 (by omega) (by simp) (by simp only[aA.set,hA,if_false];exact g28) (by simp only[aA.set,hA,if_false];exact g1) (by simp only[aA.set,hA,if_false];exact g2) (fun H' nx' hx' f28 ffr=> ?_)))<;>(simp only[go_sem,Nat.add_assoc,Nat.left_eq_add,hdd.symm,g0,g1,g2,g28,hA])|refine⟨by omega,?_⟩|fail)
   have e0:H' 0=some ⟨3,1,[cU c]⟩:=by rw[ffr _ (by omega) (by omega)];simp only[aA.set,hA,if_false];exact g0
   have ej:H' (nx1+3)=some ⟨5,1,[aS d]⟩:=by rw[ffr _ (by omega) (by omega)];exact aA.bH
   have hA':bQ nx' [0,1,2,9,28,nx1+3]:=AM.apart (by simp;omega) (by simp;omega)
   simp only[bQ,eZ] at hA'
   simp only[go_sem,Nat.add_assoc,Nat.left_eq_add,e0,ej,hdr,hA']
   repeat' (first| (with_reducible first| (refine hK _ _ _ ?_;clear hK K)| (refine hA ?_;clear hA hB A B)|refine Z1 ?_)| (first| (with_reducible first|refine Y2 fun K hK=> ?_|refine Y3 fun A B hA hB=> ?_)| (refine I8 hrl ?_))<;>(simp only[go_sem,Nat.add_assoc,Nat.left_eq_add,e0,ej,hdr,hA'])| ((with_reducible refine Y8 ?_);try simp only[AQ.then,AQ.blk,reduceIte,Nat.reduceEqDiff])|fail)
   all_goals exact hQ _ _ _ _ _ (.inr rfl) rfl ⟨rfl,congrArg dB (a6D fun h=>hr1 (h.rsp d hdm).1).symm⟩
  have hdr:=decide_eq_true hr1
  by_cases hr2:d.rsp.id=(bT c d.who d.n).id
  case neg=>
   have er2:(d.rsp.id=(bT c d.who d.n).id)=False:=eq_false hr2
   repeat' (first| (with_reducible first| (refine hK _ _ _ ?_;clear hK K)| (refine hA ?_;clear hA hB A B)|refine Z1 ?_|refine Z2 ?_|refine Z3 fun KB hKB=> ?_|refine Z4 (by omega) ?_)| (first| (with_reducible first|refine Y2 fun K hK=> ?_|refine Y3 fun A B hA hB=> ?_)| (refine kA (w:=d.who) (n:=d.n) hw1 hul hw2 hn hppl hol ha1 ha2 ha3 (by omega) (by simp) (by simp only[aA.set,hA,if_false];exact g28) (by simp only[aA.set,hA,if_false];exact g1) (by simp only[aA.set,hA,if_false];exact g2) (fun H' nx' hx' f28 ffr=> ?_)))<;>(simp only[go_sem,Nat.add_assoc,Nat.left_eq_add,hdd.symm,g0,g1,g2,g28,hA])|refine⟨by omega,?_⟩|fail)
   have e0:H' 0=some ⟨3,1,[cU c]⟩:=by rw[ffr _ (by omega) (by omega)];simp only[aA.set,hA,if_false];exact g0
   have ej:H' (nx1+3)=some ⟨5,1,[aS d]⟩:=by rw[ffr _ (by omega) (by omega)];exact aA.bH
   have hA':bQ nx' [0,1,2,9,28,nx1+3]:=AM.apart (by simp;omega) (by simp;omega)
   simp only[bQ,eZ] at hA'
   simp only[go_sem,Nat.add_assoc,Nat.left_eq_add,e0,ej,hdr,hA']
   repeat' (first| (with_reducible first| (refine hK _ _ _ ?_;clear hK K)| (refine hA ?_;clear hA hB A B)|refine Z1 ?_)| (first| (with_reducible first|refine Y2 fun K hK=> ?_|refine Y3 fun A B hA hB=> ?_)| (refine I8 hrl ?_)| (refine iJ hp3 hask ?_))<;>(simp only[go_sem,Nat.add_assoc,Nat.left_eq_add,e0,ej,hdr,er2,hA'])| ((with_reducible refine Y8 ?_);try simp only[AQ.then,AQ.blk,reduceIte,Nat.reduceEqDiff])|fail)
   all_goals exact hQ _ _ _ _ _ (.inr rfl) rfl ⟨rfl,congrArg dB (a6D fun h=>hr2 (h.rsp d hdm).2).symm⟩
  repeat' (first| (with_reducible first| (refine hK _ _ _ ?_;clear hK K)| (refine hA ?_;clear hA hB A B)|refine Z1 ?_|refine Z2 ?_|refine Z3 fun KB hKB=> ?_|refine Z4 (by omega) ?_)| (first| (with_reducible first|refine Y2 fun K hK=> ?_|refine Y3 fun A B hA hB=> ?_)| (refine kA (w:=d.who) (n:=d.n) hw1 hul hw2 hn hppl hol ha1 ha2 ha3 (by omega) (by simp) (by simp only[aA.set,hA,if_false];exact g28) (by simp only[aA.set,hA,if_false];exact g1) (by simp only[aA.set,hA,if_false];exact g2) (fun H' nx' hx' f28 ffr=> ?_)))<;>(simp only[go_sem,Nat.add_assoc,Nat.left_eq_add,hdd.symm,g0,g1,g2,g28,hA])|refine⟨by omega,?_⟩|fail)
  have e0:H' 0=some ⟨3,1,[cU c]⟩:=by rw[ffr _ (by omega) (by omega)];simp only[aA.set,hA,if_false];exact g0
  have ej:H' (nx1+3)=some ⟨5,1,[aS d]⟩:=by rw[ffr _ (by omega) (by omega)];exact aA.bH
  have hfr2: ∀id,id<36→id≠28→H' id=G0 id:=fun id e0 e1=>by rw[ffr id (by omega) e1,aA.aC (by omega)];exact hfr id e0 e1
  have hA':bQ nx' [0,1,2,9,28,nx1+3]:=AM.apart (by simp;omega) (by simp;omega)
  simp only[bQ,eZ] at hA'
  simp only[go_sem,Nat.add_assoc,Nat.left_eq_add,e0,ej,hdr,hA']
  repeat' (first| (with_reducible first| (refine hK _ _ _ ?_;clear hK K)| (refine hB ?_;clear hA hB A B)|refine Z2 ?_)| (first| (with_reducible first|refine Y2 fun K hK=> ?_|refine Y3 fun A B hA hB=> ?_)| (refine I8 hrl ?_)| (refine iJ hp3 hask ?_))<;>(simp only[go_sem,Nat.add_assoc,Nat.left_eq_add,e0,ej,hdr,hr2,hA'];try simp (disch:=omega) only[Iw])| ((with_reducible refine Y0 ?_);simp only[AQ.then,AQ.blk])| (with_reducible refine hKB _ _ _ ?_)|fail)
  exact hKL _ _ _ (k+1,u.set d.who.toNat d.n) noF _ (by omega) (by dsimp only;omega) (by(repeat' (first| (with_reducible first|exact C1|refine C2 ?_ ?_)| ((with_reducible refine C0 ?_);exact CE (by omega) rfl)| ((with_reducible refine D0 ?_);first|exact CA rfl|refine CJ ?_)|fail));all_goals exact hclo (by omega)) aK ⟨by dsimp only;omega,hI2,iS hR (by rw[←hdd];exact⟨hr1,hr2⟩),f28,hfr2⟩
 ·repeat' (first| (with_reducible first| (refine hK _ _ _ ?_;clear hK K)| (refine hB ?_;clear hA hB A B)|refine Z1 ?_|refine Z3 fun KB hKB=> ?_|refine Z5 (by omega) ?_|refine hKX _ _ _ ?_)| (with_reducible first|refine Y2 fun K hK=> ?_|refine Y3 fun A B hA hB=> ?_)<;>(simp only[go_sem,g9])| ((with_reducible refine Y9 ?_);try simp only[AQ.then,AQ.blk,reduceIte,Nat.reduceEqDiff])|fail)
  have hk2:k=v.done.length:=by omega
  rw[hk2] at hI hR
  clear hlt hk
  (have hKY:=hKB;clear hKB)
  refine aM.gP (β:=Nat×List Int) (fun u=>en [(73,dI u.1),(72,dI v.pipe.length),(71,dS (v.pipe.map eCJ)),(9,.one (.c (.clo cO [.ptr 3 28 0 0,.ptr 5 1 0 0,.ptr 1 2 0 0]))),(5,.one (.c (.ptr 1 2 0 0))),(3,.one (.c (.ptr 3 0 0 0)))])
   (fun u H1 _=>u.1≤v.pipe.length∧bcU s st (cS (aL s st)) (v.done.length+u.1) u.2∧(∀i,i<u.1→beA c st i (v.pipe.getD i default))∧H1 28=some ⟨3,1,[u.2.map cI]⟩∧ ∀id,id<36→id≠28→H1 id=G0 id) (fun u=>v.pipe.length-u.1) (0,u)
   ⟨noF,_,by(repeat' (first| (with_reducible first|exact C1|refine C2 ?_ ?_)| ((with_reducible refine C0 ?_);exact CE (by omega) rfl)| ((with_reducible refine D0 ?_);first|exact CA rfl|refine CJ ?_)|fail));all_goals exact hclo (by omega),aK,by dsimp only;omega,hI,fun i hi=>by dsimp only at hi;omega,g28,hfr⟩ ?_
  clear hI g28 hfr g0 g1 g2 g9 hA hul
  rintro⟨k,u⟩ H2 nx2 hnx2 ⟨hk,hI,hL,g28,hfr⟩ KM hKM
  dsimp only at hk hI hL g28
  have g0:H2 0=some ⟨3,1,[cU c]⟩:=by rw[hfr _ (by omega) (by omega)];exact c0
  have g1:H2 1=some ⟨5,1,[eI s]⟩:=by rw[hfr _ (by omega) (by omega)];exact c1
  have g2:H2 2=some ⟨1,1,[[cI st]]⟩:=by rw[hfr _ (by omega) (by omega)];exact c2
  have hA:bQ nx2 [0,1,2,9,28]:=AM.apart (by simp) (by simp;omega)
  simp only[bQ,eZ] at hA
  have hul:=hI.ul
  by_cases hlt:k<v.pipe.length
  ·obtain⟨d,hdd⟩: ∃d,d=v.pipe.getD k default:=⟨_,rfl⟩
   have hx:=hV2 k hlt
   rw[←hdd] at hx
   by_cases hF:bdP s st u (d.who,d.n)
   case neg=>
    repeat' (first| (with_reducible first| (refine hK _ _ _ ?_;clear hK K)| (refine hA ?_;clear hA hB A B)|refine Z1 ?_|refine Z2 ?_|refine Z3 fun KB hKB=> ?_|refine Z4 (by omega) ?_)| (first| (with_reducible first|refine Y2 fun K hK=> ?_|refine Y3 fun A B hA hB=> ?_)| (refine a04 (c:=c) (w:=d.who) (n:=d.n) hp hul hF (by omega) (by simp) (by simp only[aA.set,hA,if_false];exact g28) (by simp only[aA.set,hA,if_false];exact g1) (by simp only[aA.set,hA,if_false];exact g2) (fun H' nx' hx'=> ?_)))<;>(simp only[go_sem,Nat.add_assoc,Nat.left_eq_add,hdd.symm,g0,g1,g2,g28,hA])| ((with_reducible refine Y8 ?_);try simp only[AQ.then,AQ.blk,reduceIte,Nat.reduceEqDiff])|refine⟨by omega,?_⟩|fail)
    skip
    all_goals exact hQ _ _ _ _ _ (.inr rfl) rfl ⟨rfl,congrArg dB (a6D fun h=>hF (hI.bad hp h hx)).symm⟩
   have hI2:=hI.next hx hF
   obtain⟨hw0,hn,ha1,ha2,ha3⟩:=hF
   dsimp only at hw0 hn ha1 ha2 ha3 hI2
   have hw1:d.who=(d.who.toNat:Int):=by omega
   have hw2:d.who.toNat<3:=by omega
   have hol:(aF s d.who.toNat).out.length<2^40:=by have:=(hp.port _ hw2).ol;omega
   have hbad: ¬beA c st k d→¬Z0 c s st:=fun hn h=>hn (by
    have:=h.left k (by rw[←hvd];exact hlt)
    rw[←hvd,←hdd] at this
    exact this)
   rcases Nat.eq_zero_or_pos k with h0|h0
   ·have hz3:((k:Int)=0)=True:=eq_true (by omega)
    have hz4:(0<(k:Int))=False:=eq_false (by omega)
    by_cases hl:0≤d.left∧d.left≤c.lat.getD st default
    ·have hdl:=decide_eq_true hl
     repeat' (first| (with_reducible first| (refine hK _ _ _ ?_;clear hK K)| (refine hA ?_;clear hA hB A B)|refine Z1 ?_|refine Z2 ?_|refine Z3 fun KB hKB=> ?_|refine Z4 (by omega) ?_)| (first| (with_reducible first|refine Y2 fun K hK=> ?_|refine Y3 fun A B hA hB=> ?_)| (refine kA (w:=d.who) (n:=d.n) hw1 hul hw2 hn hppl hol ha1 ha2 ha3 (by omega) (by simp) (by simp only[aA.set,hA,if_false];exact g28) (by simp only[aA.set,hA,if_false];exact g1) (by simp only[aA.set,hA,if_false];exact g2) (fun H' nx' hx' f28 ffr=> ?_)))<;>(simp only[go_sem,Nat.add_assoc,Nat.left_eq_add,hdd.symm,g0,g1,g2,g28,hz3,hz4,hA])|refine⟨by omega,?_⟩|fail)
     have hfr2: ∀id,id<36→id≠28→H' id=G0 id:=fun id e0 e1=>by rw[ffr id (by omega) e1,aA.aC (by omega)];exact hfr id e0 e1
     have e0:H' 0=some ⟨3,1,[cU c]⟩:=(hfr2 _ (by omega) (by omega)).trans c0
     have e2:H' 2=some ⟨1,1,[[cI st]]⟩:=(hfr2 _ (by omega) (by omega)).trans c2
     have ej:H' (nx2+4)=some ⟨3,1,[eCJ d]⟩:=by rw[ffr _ (by omega) (by omega)];exact aA.bH
     simp only[go_sem,Nat.add_assoc,Nat.left_eq_add,e0,e2,ej,hdl,hz3,hz4,hA]
     repeat' (first| (with_reducible first| (refine hK _ _ _ ?_;clear hK K)| (refine hB ?_;clear hA hB A B)|refine Z2 ?_)| (first| (with_reducible first|refine Y2 fun K hK=> ?_|refine Y3 fun A B hA hB=> ?_)| (with_reducible refine fE ?_))<;>(simp only[go_sem,Nat.add_assoc,Nat.left_eq_add,e0,e2,ej,hdl,hz3,hz4,hA];try simp (disch:=omega) only[Iw])| ((with_reducible refine Y0 ?_);simp only[AQ.then,AQ.blk])|refine⟨by omega,?_⟩| (with_reducible refine hKB _ _ _ ?_)|fail)
     all_goals exact hKM _ _ _ (k+1,u.set d.who.toNat d.n) noF _ (by omega) (by dsimp only;omega) (by(repeat' (first| (with_reducible first|exact C1|refine C2 ?_ ?_)| ((with_reducible refine C0 ?_);exact CE (by omega) rfl)| ((with_reducible refine D0 ?_);first|exact CA rfl|refine CJ ?_)|fail));all_goals exact hclo (by omega)) aK ⟨by dsimp only;omega,hI2,iS hL (by rw[←hdd];exact⟨hl,fun h=>by omega⟩),f28,hfr2⟩
    ·have hdl:=decide_eq_false hl
     repeat' (first| (with_reducible first| (refine hK _ _ _ ?_;clear hK K)| (refine hA ?_;clear hA hB A B)|refine Z1 ?_|refine Z2 ?_|refine Z3 fun KB hKB=> ?_|refine Z4 (by omega) ?_)| (first| (with_reducible first|refine Y2 fun K hK=> ?_|refine Y3 fun A B hA hB=> ?_)| (refine kA (w:=d.who) (n:=d.n) hw1 hul hw2 hn hppl hol ha1 ha2 ha3 (by omega) (by simp) (by simp only[aA.set,hA,if_false];exact g28) (by simp only[aA.set,hA,if_false];exact g1) (by simp only[aA.set,hA,if_false];exact g2) (fun H' nx' hx' f28 ffr=> ?_)))<;>(simp only[go_sem,Nat.add_assoc,Nat.left_eq_add,hdd.symm,g0,g1,g2,g28,hz3,hz4,hA])|refine⟨by omega,?_⟩|fail)
     have hfr2: ∀id,id<36→id≠28→H' id=G0 id:=fun id e0 e1=>by rw[ffr id (by omega) e1,aA.aC (by omega)];exact hfr id e0 e1
     have e0:H' 0=some ⟨3,1,[cU c]⟩:=(hfr2 _ (by omega) (by omega)).trans c0
     have e2:H' 2=some ⟨1,1,[[cI st]]⟩:=(hfr2 _ (by omega) (by omega)).trans c2
     have ej:H' (nx2+4)=some ⟨3,1,[eCJ d]⟩:=by rw[ffr _ (by omega) (by omega)];exact aA.bH
     simp only[go_sem,Nat.add_assoc,Nat.left_eq_add,e0,e2,ej,hdl,hz3,hz4,hA]
     repeat' (first| (with_reducible first| (refine hK _ _ _ ?_;clear hK K)| (refine hA ?_;clear hA hB A B)|refine Z1 ?_)| (first| (with_reducible first|refine Y2 fun K hK=> ?_|refine Y3 fun A B hA hB=> ?_)| (with_reducible refine fE ?_))<;>(simp only[go_sem,Nat.add_assoc,Nat.left_eq_add,e0,e2,ej,hdl,hz3,hz4,hA])| ((with_reducible refine Y8 ?_);try simp only[AQ.then,AQ.blk,reduceIte,Nat.reduceEqDiff])|refine⟨by omega,?_⟩|fail)
     all_goals exact hQ _ _ _ _ _ (.inr rfl) rfl ⟨rfl,congrArg dB (a6D (hbad fun h=>hl h.1)).symm⟩
   ·have hz3:((k:Int)=0)=False:=eq_false (by omega)
    have hz4:(0<(k:Int))=True:=eq_true (by omega)
    by_cases hl:d.left=c.lat.getD st default
    ·have hlk:(d.left=c.lat.getD st default)=True:=eq_true hl
     repeat' (first| (with_reducible first| (refine hK _ _ _ ?_;clear hK K)| (refine hA ?_;clear hA hB A B)|refine Z1 ?_|refine Z2 ?_|refine Z3 fun KB hKB=> ?_|refine Z4 (by omega) ?_)| (first| (with_reducible first|refine Y2 fun K hK=> ?_|refine Y3 fun A B hA hB=> ?_)| (refine kA (w:=d.who) (n:=d.n) hw1 hul hw2 hn hppl hol ha1 ha2 ha3 (by omega) (by simp) (by simp only[aA.set,hA,if_false];exact g28) (by simp only[aA.set,hA,if_false];exact g1) (by simp only[aA.set,hA,if_false];exact g2) (fun H' nx' hx' f28 ffr=> ?_)))<;>(simp only[go_sem,Nat.add_assoc,Nat.left_eq_add,hdd.symm,g0,g1,g2,g28,hz3,hz4,hA])|refine⟨by omega,?_⟩|fail)
     have hfr2: ∀id,id<36→id≠28→H' id=G0 id:=fun id e0 e1=>by rw[ffr id (by omega) e1,aA.aC (by omega)];exact hfr id e0 e1
     have e0:H' 0=some ⟨3,1,[cU c]⟩:=(hfr2 _ (by omega) (by omega)).trans c0
     have e2:H' 2=some ⟨1,1,[[cI st]]⟩:=(hfr2 _ (by omega) (by omega)).trans c2
     have ej:H' (nx2+4)=some ⟨3,1,[eCJ d]⟩:=by rw[ffr _ (by omega) (by omega)];exact aA.bH
     simp only[go_sem,Nat.add_assoc,Nat.left_eq_add,e0,e2,ej,hz3,hz4,hA]
     repeat' (first| (with_reducible first| (refine hK _ _ _ ?_;clear hK K)| (refine hB ?_;clear hA hB A B)|refine Z2 ?_)| (with_reducible first|refine Y2 fun K hK=> ?_|refine Y3 fun A B hA hB=> ?_)<;>(simp only[go_sem,Nat.add_assoc,Nat.left_eq_add,e0,e2,ej,hz3,hz4,hlk,hA];try simp (disch:=omega) only[Iw])| ((with_reducible refine Y0 ?_);simp only[AQ.then,AQ.blk])|refine⟨by omega,?_⟩| (with_reducible refine hKB _ _ _ ?_)|fail)
     all_goals exact hKM _ _ _ (k+1,u.set d.who.toNat d.n) noF _ (by omega) (by dsimp only;omega) (by(repeat' (first| (with_reducible first|exact C1|refine C2 ?_ ?_)| ((with_reducible refine C0 ?_);exact CE (by omega) rfl)| ((with_reducible refine D0 ?_);first|exact CA rfl|refine CJ ?_)|fail));all_goals exact hclo (by omega)) aK ⟨by dsimp only;omega,hI2,iS hL (by rw[←hdd];exact⟨by omega,fun _=>hl⟩),f28,hfr2⟩
    ·have hlk:(d.left=c.lat.getD st default)=False:=eq_false hl
     repeat' (first| (with_reducible first| (refine hK _ _ _ ?_;clear hK K)| (refine hA ?_;clear hA hB A B)|refine Z1 ?_|refine Z2 ?_|refine Z3 fun KB hKB=> ?_|refine Z4 (by omega) ?_)| (first| (with_reducible first|refine Y2 fun K hK=> ?_|refine Y3 fun A B hA hB=> ?_)| (refine kA (w:=d.who) (n:=d.n) hw1 hul hw2 hn hppl hol ha1 ha2 ha3 (by omega) (by simp) (by simp only[aA.set,hA,if_false];exact g28) (by simp only[aA.set,hA,if_false];exact g1) (by simp only[aA.set,hA,if_false];exact g2) (fun H' nx' hx' f28 ffr=> ?_)))<;>(simp only[go_sem,Nat.add_assoc,Nat.left_eq_add,hdd.symm,g0,g1,g2,g28,hz3,hz4,hA])|refine⟨by omega,?_⟩|fail)
     have hfr2: ∀id,id<36→id≠28→H' id=G0 id:=fun id e0 e1=>by rw[ffr id (by omega) e1,aA.aC (by omega)];exact hfr id e0 e1
     have e0:H' 0=some ⟨3,1,[cU c]⟩:=(hfr2 _ (by omega) (by omega)).trans c0
     have e2:H' 2=some ⟨1,1,[[cI st]]⟩:=(hfr2 _ (by omega) (by omega)).trans c2
     have ej:H' (nx2+4)=some ⟨3,1,[eCJ d]⟩:=by rw[ffr _ (by omega) (by omega)];exact aA.bH
     simp only[go_sem,Nat.add_assoc,Nat.left_eq_add,e0,e2,ej,hz3,hz4,hA]
     repeat' (first| (with_reducible first| (refine hK _ _ _ ?_;clear hK K)| (refine hA ?_;clear hA hB A B)|refine Z1 ?_)| (with_reducible first|refine Y2 fun K hK=> ?_|refine Y3 fun A B hA hB=> ?_)<;>(simp only[go_sem,Nat.add_assoc,Nat.left_eq_add,e0,e2,ej,hz3,hz4,hlk,hA])| ((with_reducible refine Y8 ?_);try simp only[AQ.then,AQ.blk,reduceIte,Nat.reduceEqDiff])|refine⟨by omega,?_⟩|fail)
     all_goals exact hQ _ _ _ _ _ (.inr rfl) rfl ⟨rfl,congrArg dB (a6D (hbad fun h=>hl (h.2 h0))).symm⟩
  ·repeat' (first| (with_reducible first| (refine hK _ _ _ ?_;clear hK K)| (refine hB ?_;clear hA hB A B)|refine Z1 ?_|refine Z5 (by omega) ?_|refine hKY _ _ _ ?_)| (with_reducible first|refine Y2 fun K hK=> ?_|refine Y3 fun A B hA hB=> ?_)<;>(simp only[go_sem])| ((with_reducible first|refine Y8 ?_|refine Y9 ?_);try simp only[AQ.then,AQ.blk,reduceIte,Nat.reduceEqDiff])|fail)
   have hk3:k=v.pipe.length:=by omega
   rw[hk3] at hI hL
   rw[←hVl] at hI
   obtain⟨q1,q2⟩:=hI.end
   refine hQ _ _ _ _ _ (.inr rfl) rfl ⟨rfl,congrArg dB (beR ⟨?_,?_,?_,q1,q2,?_,?_⟩).symm⟩
   ·rw[←hvd];omega
   ·rw[←hvd];omega
   ·rw[←hvd];exact⟨hl1,hl2⟩
   ·rw[←hvd];exact aKJ hR
   ·rw[←hvd];exact hL
theorem a2C {c:Cfg} {s:CSt} {st:Nat} (hb:aQ c) (hp:a19 c s) (hsl:s.dD.length=4) (hst:st<4) (hf1:(aL s st).pipe.length<2^21) (hf2:(aL s st).done.length<2^21) (hf3: ∀j∈(aL s st).done,j.rsp.data.length<2^21) (h:K (dB (slB c s st)) H nx):aB Tryz.prog iX [dA (cU c),dA (eI s),dI st] H nx K:=
 (a5G c s st hb hp hsl hst hf1 hf2 hf3).pure rfl (aI ⟨aE rfl,aE rfl,aE rfl,trivial⟩) fun r hr=>hr▸h
end
end Go.Proofs.YtmccpdapaccnoaaGreat
end
section
namespace Go.Proofs.YtmccpdapaccnoaaGreat
open Go Go.AM
set_option maxRecDepth 100000
end Go.Proofs.YtmccpdapaccnoaaGreat
end
section
namespace Go.Proofs.YtmccpdapaccnoaaGreat
open Go Go.AM
set_option maxRecDepth 100000
set_option maxHeartbeats 8000000
section
variable {H : aA} {nx : Nat} {K : D → aA → Nat → Prop}
end
end Go.Proofs.YtmccpdapaccnoaaGreat
end
section
namespace Go.Proofs.YtmccpdapaccnoaaGreat
open Go Go.AM
set_option maxRecDepth 100000
set_option maxHeartbeats 8000000
section
variable {H : aA} {nx : Nat} {K : D → aA → Nat → Prop}
end
end Go.Proofs.YtmccpdapaccnoaaGreat
end
section
namespace Go.Proofs.YtmccpdapaccnoaaGreat
open Go Go.AM
set_option maxRecDepth 100000
set_option maxHeartbeats 8000000
theorem fZ {H:aA} {e:Env} {t n id m:Nat} {cs:List D1} (he:e t= .one (.c (.ptr n id 0 0))) (ho:H id=some ⟨n,m,[cs]⟩) (hl:cs.length=n):yT H e [.cell t n true]=some (dA cs):=by
 subst hl
 simp[yT,VP,he,tT,ho,mkV]
section
variable {H : aA} {nx : Nat} {K : D → aA → Nat → Prop}
end
end Go.Proofs.YtmccpdapaccnoaaGreat
end
section
namespace Go.Proofs.YtmccpdapaccnoaaGreat
open Go Go.AM
set_option maxRecDepth 100000
set_option maxHeartbeats 8000000
section
variable {H : aA} {nx : Nat} {K : D → aA → Nat → Prop}
end
end Go.Proofs.YtmccpdapaccnoaaGreat
end
section
namespace Go.Proofs.YtmccpdapaccnoaaGreat
open Go Go.AM
set_option maxRecDepth 100000
set_option maxHeartbeats 8000000
section
variable {H : aA} {nx : Nat} {K : D → aA → Nat → Prop}
end
end Go.Proofs.YtmccpdapaccnoaaGreat
end
section
namespace Go.Proofs.YtmccpdapaccnoaaGreat
open Go Go.AM
set_option maxRecDepth 100000
set_option maxHeartbeats 8000000
end Go.Proofs.YtmccpdapaccnoaaGreat
namespace Go.AM
theorem l9.cells {X:Nat→Prop} {H:aA} {nx i0 i1:Nat} {nm:Nat→Nat} {s:CSt} {es:List Ev} (h:l9 X H nx i0 i1 nm s es) {r r':List D1} {k:Nat} (hk:k<4) (h1:H i1=some ⟨5,1,[r]⟩) (hr:r'=r.set (1+k) (cI 1)):l9 X (H.set i1 ⟨5,1,[r']⟩) nx i0 i1 nm s es:=by
 subst hr
 have hav:=h.rep.names.av
 have hi0:=h.rep.i0
 refine⟨h.rep.frame (Nat.le_refl _) (aA.aC fun he=>hi0.2 (.inr he)) (fun k hk=>aA.aC fun he=>hav k hk (.inr he)) fun id hid=>⟨h.rep.x id hid,fun he=>hi0.2 (he▸hid),fun k hk he=>hav k hk (he▸hid)⟩,?_⟩
 obtain⟨⟨d,a,b,c,e,g1,g2⟩,g3,g4⟩:=h.hap
 rw[h1] at g1
 obtain rfl:r=[d,cI a,cI b,cI c,cI e]:=by simpa using g1
 have hd:aqA (fun id=>X id∨id=i0∨ ∃k,k<19∧id=nm k) (H.set i1 ⟨5,1,[[d,cI a,cI b,cI c,cI e].set (1+k) (cI 1)]⟩) nx i1 es d:=by
  rcases g2 with g2|⟨ev,cap,k1,k2,k3,k4,k5⟩
  ·exact .inl g2
  ·exact .inr ⟨ev,cap,k1,k2.frame (aA.aC k5),k3,k4,k5⟩
 refine⟨?_,g3,g4⟩
 obtain rfl|rfl|rfl|rfl:k=0∨k=1∨k=2∨k=3:=by omega
 ·exact⟨d,1,b,c,e,aA.bH,hd⟩
 ·exact⟨d,a,1,c,e,aA.bH,hd⟩
 ·exact⟨d,a,b,1,e,aA.bH,hd⟩
 ·exact⟨d,a,b,c,1,aA.bH,hd⟩
end Go.AM
namespace Go.Proofs.YtmccpdapaccnoaaGreat
open Go Go.AM
set_option maxRecDepth 100000
set_option maxHeartbeats 8000000
section
variable {H : aA} {nx : Nat} {K : D → aA → Nat → Prop}
end
end Go.Proofs.YtmccpdapaccnoaaGreat
end
section
namespace Go.Proofs.YtmccpdapaccnoaaGreat
open Go Go.AM
set_option maxRecDepth 100000
set_option maxHeartbeats 8000000
section
variable {H : aA} {nx : Nat} {K : D → aA → Nat → Prop}
end
end Go.Proofs.YtmccpdapaccnoaaGreat
end
section
namespace Go.Proofs.YtmccpdapaccnoaaGreat
open Go Go.AM
set_option maxRecDepth 100000
set_option maxHeartbeats 8000000
section
variable {H : aA} {nx : Nat} {K : D → aA → Nat → Prop}
end
end Go.Proofs.YtmccpdapaccnoaaGreat
end
section
namespace Go.Proofs.YtmccpdapaccnoaaGreat
open Go Go.AM
set_option maxRecDepth 100000
set_option maxHeartbeats 8000000
end Go.Proofs.YtmccpdapaccnoaaGreat
namespace Go.AM
structure Part (A:Nat→Prop) (lo hi:Nat) (nm:Nat→Nat):Prop where
 inj: ∀j k,A j→A k→nm j=nm k→j=k
 rng: ∀k,A k→lo≤nm k∧nm k<hi
theorem Part.mono {A:Nat→Prop} {lo hi hi':Nat} {nm:Nat→Nat} (h:Part A lo hi nm) (hh:hi≤hi'):Part A lo hi' nm:=⟨h.inj,fun k hk=>by have:=h.rng k hk;omega⟩
theorem Part.put {A B:Nat→Prop} {lo hi hi' k v:Nat} {nm:Nat→Nat} (h:Part A lo hi nm) (h0:lo≤hi) (h1:hi≤v) (h2:v<hi') (hB: ∀j,B j→A j∧j≠k∨j=k):Part B lo hi' (put nm k v):=by
 refine⟨fun i j hi hj he=> ?_,fun j hj=> ?_⟩
 ·rcases hB i hi with⟨az9,az2⟩|rfl<;>rcases hB j hj with⟨b1,b2⟩|rfl
  ·rw[jE az2,jE b2] at he;exact h.inj i j az9 b1 he
  ·rw[jE az2,t8] at he;have:=h.rng i az9;omega
  ·rw[jE b2,t8] at he;have:=h.rng j b1;omega
  ·rfl
 ·rcases hB j hj with⟨az9,az2⟩|rfl
  ·rw[jE az2];have:=h.rng j az9;omega
  ·rw[t8];omega
theorem aM.TF {P:Program} {T:Nat} {e:Env} {H:aA} {nx:Nat} {Q:AQ} {zs:List AC} (h: ∀G,G=H→aM P T zs e G nx Q):aM P T zs e H nx Q:=h H rfl
end Go.AM
namespace Go.Proofs.YtmccpdapaccnoaaGreat
open Go Go.AM
set_option maxRecDepth 100000
set_option maxHeartbeats 8000000
section
variable {H : aA} {nx : Nat} {K : D → aA → Nat → Prop}
end
end Go.Proofs.YtmccpdapaccnoaaGreat
end
section
namespace Go.AM
theorem IW {p:Job→Bool}: ∀{A B:List Job},(∀a∈A,p a=false)→(∀b∈B,p b=true)→(A++B).findIdx p=A.length
 | [],[],_,_=>rfl
 | [],b::B,_,hB=>by
   rw[List.nil_append,List.findIdx_cons,hB b (by simp)];rfl
 |a::A,B,hA,hB=>by
  rw[List.cons_append,List.findIdx_cons,hA a (by simp)]
  simp only[cond_false,List.length_cons]
  rw[IW (fun x hx=>hA x (List.mem_cons_of_mem _ hx)) hB]
theorem abS {A B:List Job} {x:Job} (hA: ∀a∈A,uL x a=false) (hB: ∀b∈B,uL x b=true):BM (A++B) x=A++x::B:=by
 unfold BM
 rw[IW hA hB,List.take_left',List.drop_left']
 ·rfl
 ·rfl
def A5 (l:List Job) (k:Nat):List Job:=jX (l.take k)
theorem ahI {l:List Job} {k:Nat} (hk:k≤l.length):(A5 l k).length=k:=by
 unfold A5;rw[(fH _).length_eq,List.length_take];omega
theorem ac8 {l:List Job} {k:Nat} (hk:k<l.length):A5 l (k+1)=BM (A5 l k) (l.getD k default):=by
 unfold A5 jX
 rw[nK hk,List.foldl_append];rfl
theorem ah3 {l:List Job}:A5 l 1=l.take 1:=by
 cases l with
 |nil=>rfl
 |cons x l=>rfl
theorem aiE {l:List Job}:A5 l l.length=jX l:=by unfold A5;rw[List.take_length]
def MS (S:List Job) (x:Job) (j:Nat):List Job:=S.take j++x::S.drop j
theorem amF {S:List Job} {x:Job} {j:Nat} (_:j≤S.length):(MS S x j).length=S.length+1:=by
 unfold MS;simp;omega
end Go.AM
end
section
namespace Go.AM
theorem ah1 {S R:List Job} {x:Job} {j:Nat} (h0:0<j) (hj:j≤S.length):((MS S x j++R).set j (S.getD (j-1) default)).set (j-1) x=MS S x (j-1)++R:=by
 have h1:S.take j=S.take (j-1)++[S.getD (j-1) default]:=by
  have:=nK (l:=S) (k:=j-1) (by omega)
  rwa [show j-1+1=j by omega] at this
 have h2:S.drop (j-1)=S.getD (j-1) default::S.drop j:=by
  have:=List.drop_eq_getElem_cons (l:=S) (i:=j-1) (by omega)
  rw[this,show j-1+1=j by omega];simp[List.getD,show j-1<S.length by omega]
 have hl:(S.take (j-1)).length=j-1:=by simp;omega
 unfold MS
 rw[h1,h2]
 generalize S.take (j-1)=A at*
 generalize S.drop j=B
 generalize S.getD (j-1) default=y
 simp only[List.append_assoc,List.cons_append,List.nil_append,List.singleton_append]
 obtain rfl:j=A.length+1:=by omega
 rw[List.set_append_right _ _ (by omega)]
 simp
theorem anT {S R:List Job} {x:Job} {j:Nat} (hj:j≤S.length):(MS S x j++R).getD j default=x:=by
 have hl:(S.take j).length=j:=by simp;omega
 unfold MS
 simp[List.getD,hl,List.append_assoc,List.getElem?_append_right]
theorem adY {S R:List Job} {x:Job} {j:Nat} (h0:0<j) (hj:j≤S.length):(MS S x j++R).getD (j-1) default=S.getD (j-1) default:=by
 unfold MS
 simp only[List.getD,List.append_assoc]
 rw[List.getElem?_append_left (by simp;omega),List.getElem?_take_of_lt (by omega)]
end Go.AM
namespace Go.Proofs.YtmccpdapaccnoaaGreat
open Go Go.AM
set_option maxRecDepth 100000
set_option maxHeartbeats 8000000
theorem mY:cJ Tryz.prog cL Tryz.f285 dU gU:=cJ.mk Tryz.func285 (by kernel_rfl) m9
theorem tL:cJ Tryz.prog gL Tryz.f220 gA kJ:=cJ.mk Tryz.func220 (by kernel_rfl) sX
theorem mA:cJ Tryz.prog cG Tryz.f124 dF gD:=cJ.mk Tryz.func124 (by kernel_rfl) mB
section
variable {H : aA} {nx : Nat} {K : D → aA → Nat → Prop}
end
end Go.Proofs.YtmccpdapaccnoaaGreat
end
section
namespace Go.Proofs.YtmccpdapaccnoaaGreat
open Go Go.AM
set_option maxRecDepth 100000
set_option maxHeartbeats 8000000
theorem RA:cJ Tryz.prog zX Tryz.f44 yF GJ:=cJ.mk Tryz.func44 (by kernel_rfl) RY
end Go.Proofs.YtmccpdapaccnoaaGreat
namespace Go.AM
def IQ (H:aA) (lo hi t:Nat) (s:CSt) (A:List Int) (W D:List Job):Prop:=
 ∃ia iw id_ ca cw cd ma mw md,H t=some ⟨6,1,[[.isl (s.words.map aJ),.isl (s.holds.map aJ),.osl 1 ia 0 A.length ca,.osl 5 iw 0 W.length cw,.osl 5 id_ 0 D.length cd,.isl (s.told.map aS)]]⟩∧
  (H ia=some ⟨1,ma,A.map aJ⟩∧A.length≤ca∧ca≤ma)∧(H iw=some ⟨5,mw,W.map aS⟩∧W.length≤cw∧cw≤mw)∧(H id_=some ⟨5,md,D.map aS⟩∧D.length≤cd∧cd≤md)∧
  (lo≤ia∧ia<hi∧lo≤iw∧iw<hi∧lo≤id_∧id_<hi)∧ia≠iw∧ia≠id_∧iw≠id_
theorem IQ.frame {H H':aA} {lo hi hi' t:Nat} {s:CSt} {A:List Int} {W D:List Job} (h:IQ H lo hi t s A W D) (ht:t<lo) (hh:hi≤hi') (hf: ∀id,id<hi→(id=t∨lo≤id)→H' id=H id):IQ H' lo hi' t s A W D:=by
 obtain⟨ia,iw,id_,ca,cw,cd,ma,mw,md,h0,⟨h1,h2⟩,⟨h3,h4⟩,⟨h5,h6⟩,h7,h8⟩:=h
 exact⟨ia,iw,id_,ca,cw,cd,ma,mw,md,by rw[hf t (by omega) (.inl rfl)];exact h0,⟨by rw[hf _ (by omega) (.inr (by omega))];exact h1,h2⟩,⟨by rw[hf _ (by omega) (.inr (by omega))];exact h3,h4⟩,⟨by rw[hf _ (by omega) (.inr (by omega))];exact h5,h6⟩,by omega,h8⟩
theorem KO {H:aA} {nx i:Nat} {o o':bA} (ho:H i=some o) (h:CvO H noF id nx o' o):CvX noF nx H (H.set i o'):=fun j x hj=>by
 by_cases he:j=i
 ·subst he
  rw[aA.bH] at hj
  cases hj
  exact⟨fun h=>h,o,ho,.inr h⟩
 ·rw[aA.aC he] at hj
  exact⟨fun h=>h,x,hj,.inl rfl⟩
theorem CL {β:Type} {f:Nat→List β} {k:Nat}:(List.range (k+1)).flatMap f=(List.range k).flatMap f++f k:=by
 rw[List.range_succ,List.flatMap_append];simp
theorem QU {β:Type} {f:Nat→List β} {m:Nat} (n:Nat) (h: ∀k,k<n→(f k).length≤m):((List.range n).flatMap f).length≤m*n:=by
 induction n with
 |zero=>simp
 |succ n ih=>
  rw[CL,List.length_append]
  have h1:=ih fun k hk=>h k (by omega)
  have h2:=h n (by omega)
  rw[Nat.mul_succ];omega
theorem af0 {K:Env→aA→Nat→Prop} {e:Env} {G:aA} {n:Nat} (h: ∀G',G'=G→K e G' n):K e G n:=h G rfl
theorem as2 {H2 G:aA} {lo hi t:Nat} {s:CSt} {A:List Int} {W D:List Job} {ia iw id_ ca cd ma md x2 cap nx':Nat} {k n:Int}
 (az9:H2 ia=some ⟨1,ma,A.map aJ⟩) (az2:A.length≤ca∧ca≤ma) (aAC:H2 id_=some ⟨5,md,D.map aS⟩) (aAB:D.length≤cd∧cd≤md) (aa:lo≤ia∧ia<hi∧lo≤iw∧iw<hi∧lo≤id_∧id_<hi) (ab:ia≠iw) (ac:ia≠id_) (ad:iw≠id_) (ht:t<lo) (hx:hi≤x2∧x2<nx') (hcap:W.length+1≤cap)
 (g1:G t=some ⟨6,1,[[.isl (s.words.map aJ),.isl (s.holds.map aJ),.osl 1 ia 0 A.length ca,.osl 5 x2 0 (W.length+1) cap,.osl 5 id_ 0 D.length cd,.isl (s.told.map aS)]]⟩) (g2:G x2=some ⟨5,cap,W.map aS++[[cI k,cI n,cI 0,cI 0,.osl 0 0 0 0 0]]⟩) (g3: ∀id,id<hi→id≠iw→id≠t→G id=H2 id):
 ∃H',CvX noF nx' G H'∧IQ H' lo nx' t s A (W++[(⟨k,n,oW⟩:Job)]) D∧ ∀id,id≠x2→H' id=G id:=by
 refine⟨_,KO (i:=x2) (o':=⟨5,cap,(W++[(⟨k,n,oW⟩:Job)]).map aS⟩) g2 (uO (R:=W.map aS) (r':=aS (⟨k,n,oW⟩:Job)) (by rw[List.map_append];rfl) rfl (fun r hr=>(aG dZ _ r hr).2) rfl (aH (bB rfl) (aH (bB rfl) (aH (bB rfl) (aH (bB rfl) (aH (.frz (.nil ..)) eP)))))),?_,fun id e0=>aA.aC e0⟩
 refine⟨ia,x2,id_,ca,cap,cd,ma,cap,md,?_,⟨?_,az2⟩,⟨aA.bH,by simpa using hcap,Nat.le_refl _⟩,⟨?_,aAB⟩,by omega,by omega,by omega,by omega⟩
 ·rw[aA.aC (by omega),g1,List.length_append];rfl
 ·rw[aA.aC (by omega),g3 _ (by omega) ab (by omega)];exact az9
 ·rw[aA.aC (by omega),g3 _ (by omega) ad.symm (by omega)];exact aAC
theorem apO {F:Nat→Prop} {H H':aA} {nx t:Nat} {o o':bA} (h1: ∀j,F j→H' j=none) (h2:H' t=some o') (h3:H t=some o) (h4: ¬F t) (h5:CvO H F id nx o' o) (h6: ∀j,j≠t→¬F j→H' j=H j):CvX F nx H H':=fun j x hj=>by
 have hF: ¬F j:=fun h=>by rw[h1 j h] at hj;cases hj
 by_cases he:j=t
 ·subst he
  rw[h2] at hj
  cases hj
  exact⟨hF,o,h3,.inr h5⟩
 ·rw[h6 j he hF] at hj
  exact⟨hF,x,hj,.inl rfl⟩
def aq5 (b n:Nat) (H:aA):aA:=fun j=>if b≤j∧j<b+n then none else H j
theorem acA {b n j:Nat} {H:aA} (h: ¬(b≤j∧j<b+n)):aq5 b n H j=H j:=if_neg h
theorem ZW {b n nx:Nat} {H:aA}:CvX (fun j=>b≤j∧j<b+n) nx H (aq5 b n H):=fun j x hj=>by
 unfold aq5 at hj
 split at hj
 ·cases hj
 ·exact⟨by assumption,x,hj,.inl rfl⟩
end Go.AM
namespace Go.Proofs.YtmccpdapaccnoaaGreat
open Go Go.AM
set_option maxRecDepth 100000
set_option maxHeartbeats 8000000
section
variable {H : aA} {nx : Nat} {K : D → aA → Nat → Prop}
end
end Go.Proofs.YtmccpdapaccnoaaGreat
end
section
namespace Go.AM
def jS (f:Nat→Int):Nat→Int
 |0=>0
 |n+1=>jS f n+f n
theorem KF {f:Nat→Int} {m:Int} (h0:0≤m): ∀n,(∀k,k<n→0≤f k∧f k≤m)→0≤jS f n∧jS f n≤m*n
 |0,_=>by simp[jS]
 |n+1,h=>by
  have h1:=KF h0 n fun k hk=>h k (by omega)
  have h2:=h n (by omega)
  have h3:m*((n+1:Nat):Int)=m*n+m:=by push_cast;rw[Int.mul_add,Int.mul_one]
  simp only[jS]
  omega
end Go.AM
namespace Go.Proofs.YtmccpdapaccnoaaGreat
open Go Go.AM
set_option maxRecDepth 100000
set_option maxHeartbeats 8000000
theorem VM:cJ Tryz.prog mW Tryz.f35 AN IC:=cJ.mk Tryz.func35 (by kernel_rfl) UM
section
variable {H : aA} {nx : Nat} {K : D → aA → Nat → Prop}
end
end Go.Proofs.YtmccpdapaccnoaaGreat
end
