/- Texts laid together by a program: rules, contracts and the walk that leads to the law. -/
import Derived.Test.YtmccpdapaccnoaaGreatPT20
import Derived.Test.YtmccpdapaccnoaaGreatPT14
import Derived.Test.YtmccpdapaccnoaaGreatPT19
set_option linter.unusedVariables false
set_option linter.unusedSimpArgs false
set_option linter.unusedSectionVars false
set_option maxRecDepth 100000
set_option maxHeartbeats 8000000
namespace Go.AM
noncomputable def slB (c:Cfg) (s:CSt) (st:Nat):Bool:=@decide (Z0 c s st) (Classical.propDecidable _)
variable{s:CSt}{st:Nat}
theorem beR{c:Cfg} (h:Z0 c s st):slB c s st=true:=by simp[slB,h]
theorem a6D{c:Cfg} (h: ¬Z0 c s st):slB c s st=false:=by simp[slB,h]
structure a19 (c:Cfg) (s:CSt):Prop where
 pl:s.bM.length=3
 port: ∀k,k<3→mD c k (aF s k)
structure bdP (s:CSt) (st:Nat) (u:List Int) (x:Int×Int):Prop where
 who:0≤x.1∧x.1≤2
 last:u.getD x.1.toNat default<x.2
 bf0:0≤bK (isC x.2) (aF s x.1.toNat).out
 aAM:(bK (isC x.2) (aF s x.1.toNat).out).toNat<(aF s x.1.toNat).out.length
 aAN:((aF s x.1.toNat).out.getD (bK (isC x.2) (aF s x.1.toNat).out).toNat default).left=st
structure bcU (s:CSt) (st:Nat) (V:List (Int×Int)) (k:Nat) (u:List Int):Prop where
 ul:u.length=3
 lst: ∀w,w<3→u.getD w default= -1∨ ∃i,i<k∧V[i]?=some ((w:Int),u.getD w default)
 all: ∀i x,i<k→V[i]?=some x→(0≤x.1∧x.1≤2)∧x.2≤u.getD x.1.toNat default∧ ∃j∈(aF s x.1.toNat).out,j.n=x.2∧j.left=st
 inc: ∀i j x y,i<j→j<k→V[i]?=some x→V[j]?=some y→x.1=y.1→x.2<y.2
theorem bcU.nil{V:List (Int×Int)}:bcU s st V 0 [-1,-1,-1]:=
 ⟨rfl,fun w hw=>.inl (by rcases(show w=0∨w=1∨w=2 by omega) with rfl|rfl|rfl<;>rfl),fun i x hi=>by omega,fun i j x y _ hj=>by omega⟩
theorem bcU.next{k:Nat}{V:List (Int×Int)}{u:List Int}{x:Int×Int} (h:bcU s st V k u) (hx:V[k]?=some x) (hf:bdP s st u x):bcU s st V (k+1) (u.set x.1.toNat x.2):=by
 have hw:=hf.who
 have hul:=h.ul
 have hlt:=hf.last
 have hg: ∀w,(u.set x.1.toNat x.2).getD w default=if w=x.1.toNat then x.2 else u.getD w default:=fun w=>pY (by omega)
 refine⟨by simp[hul],fun w hw3=> ?_,fun i y hi hy=> ?_,fun i j y z hij hj hy hz he=> ?_⟩
 ·rw[hg]
  by_cases he:w=x.1.toNat
  ·right
   refine⟨k,by omega,?_⟩
   rw[if_pos he,hx,he,show ((x.1.toNat:Nat):Int)=x.1 by omega]
  ·rw[if_neg he]
   exact(h.lst w hw3).imp (fun h=>h) fun⟨i,hi,h2⟩=>⟨i,by omega,h2⟩
 ·rw[hg]
  by_cases hik:i<k
  ·obtain⟨h1,h2,h3⟩:=h.all i y hik hy
   refine⟨h1,?_,h3⟩
   split
   ·rename_i he
    rw[he] at h2
    omega
   ·exact h2
  ·obtain rfl:i=k:=by omega
   obtain rfl:x=y:=by rw[hx] at hy;exact Option.some.inj hy
   refine⟨hw,by rw[if_pos rfl];omega,_,cC hf.aAM,?_,hf.aAN⟩
   have:=(ajV hf.bf0).2
   exact of_decide_eq_true this
 ·by_cases hjk:j<k
  ·exact h.inc i j y z hij hjk hy hz he
  ·obtain rfl:j=k:=by omega
   obtain rfl:x=z:=by rw[hx] at hz;exact Option.some.inj hz
   have:=(h.all i y hij hy).2.1
   rw[he] at this
   omega
theorem bcU.bad{c:Cfg}{k:Nat}{u:List Int}{x:Int×Int} (hp:a19 c s) (hs:Z0 c s st) (h:bcU s st (cS (aL s st)) k u) (hx:(cS (aL s st))[k]?=some x):bdP s st u x:=by
 obtain⟨hk,hxk⟩:=m3.1 hx
 have hm:x∈cS (aL s st):=hxk▸Z5 hk
 obtain⟨hw,j,hj,h1,h2⟩:=hs.out x hm
 have hpo:=hp.port x.1.toNat (by omega)
 have hj0:=(hpo.out j hj).2.1
 have hex: ∃j∈(aF s x.1.toNat).out,j.n=x.2:=⟨j,hj,h1⟩
 obtain⟨az9,az2⟩:=PJ hex
 refine⟨hw,?_,cH.2 ⟨j,hj,decide_eq_true h1⟩,az9,?_⟩
 ·rcases h.lst x.1.toNat (by omega) with h3|⟨i,hi,h3⟩
  ·omega
  ·obtain⟨hi2,h4⟩:=m3.1 h3
   have h5:=Z6.1 hs.inc i k hi2 hk hi
   rw[h4,hxk] at h5
   exact h5 (by dsimp only;omega)
 ·have:=ZO hpo.acX (cC az9) hj (by rw[az2,h1])
  rw[this];exact h2
theorem bdP.asks {c:Cfg} {s:CSt} {st:Nat} {u:List Int} {x:Int×Int} (hp:a19 c s) (h:bdP s st u x):oA c x.1 x.2:=by
 have hw:=h.who
 have hpo:=hp.port x.1.toNat (by omega)
 have hm:=cC h.aAM
 have hn:((aF s x.1.toNat).out.getD (bK (isC x.2) (aF s x.1.toNat).out).toNat default).n=x.2:=of_decide_eq_true (ajV h.bf0).2
 obtain⟨_,h2,_⟩:=hpo.out _ hm
 rw[hn] at h2
 have:=hpo.asks (n:=x.2) (by omega) h2.1 (by omega)
 rwa [show ((x.1.toNat:Nat):Int)=x.1 by omega] at this
theorem bcU.end{V:List (Int×Int)}{u:List Int} (h:bcU s st V V.length u):(V.Pairwise fun a b=>a.1=b.1→a.2<b.2)∧ ∀x∈V,(0≤x.1∧x.1≤2)∧ ∃j∈(aF s x.1.toNat).out,j.n=x.2∧j.left=st:=by
 refine⟨Z6.2 fun i j hi hj hij he=> ?_,fun x hx=> ?_⟩
 ·exact h.inc i j _ _ hij hj (n1 hi) (n1 hj) he
 ·obtain⟨i,hi,rfl⟩:=bqY.1 hx
  obtain⟨h1,_,h3⟩:=h.all i _ hi (n1 hi)
  exact⟨h1,h3⟩
end Go.AM
namespace Go.Proofs.YtmccpdapaccnoaaGreat
open Go Go.AM
attribute [local irreducible] aM wv aB vd wvH
section
variable {H : aA} {nx : Nat} {K : D → aA → Nat → Prop}
theorem a04 {c:Cfg} {s:CSt} {st:Nat} {w n:Int} {u:List Int} {i0 i1 i2:Nat} (hp:a19 c s) (hu:u.length=3) (hno: ¬bdP s st u (w,n))
 (hlt:i0<nx∧i1<nx∧i2<nx) (hd:[i0,i1,i2].Nodup) (o0:H i0=some ⟨3,1,[u.map cI]⟩) (o1:H i1=some ⟨5,1,[eI s]⟩) (o2:H i2=some ⟨1,1,[[cI st]]⟩)
 (h: ∀H' nx',nx≤nx'→K (dB false) H' nx'):
 aB Tryz.prog cO [boP w,boP n,.one (.c (.ptr 3 i0 0 0)),.one (.c (.ptr 5 i1 0 0)),.one (.c (.ptr 1 i2 0 0))] H nx K:=by
 refine AP rfl fun Q hQ=> ?_
 unfold jP
 have hA:bQ nx [i0,i1,i2]:=AM.apart hd (by simp;omega)
 simp only[bQ,eZ] at hA
 by_cases hw:0≤w∧w≤2
 case neg=>
  have hwd:=decide_eq_false hw
  repeat' first| (first|apply bn1|apply oR)<;>(simp only[go_sem,t1,bqT,brK,o0,o1,o2,hwd,hA])|fail
  all_goals first|exact hQ _ _ _ _ _ (.inr rfl) rfl (h _ _ (by omega))| (exfalso;omega)
 have hwd:=decide_eq_true hw
 obtain⟨who,rfl⟩: ∃who:Nat,w=who:=⟨w.toNat,by omega⟩
 have hw3:who<3:=by omega
 obtain⟨p,hpd⟩: ∃p,p=aF s who:=⟨_,rfl⟩
 have hpd':s.bM.getD who default=p:=hpd.symm
 have hpl:=hp.pl
 have hol:=(hp.port who hw3).ol
 rw[←hpd] at hol
 have hut:((u.map cI).drop who).take 1=[cI (u.getD who default)]:=by
  rw[brB (by simp;omega)]
  simp[List.getD,show who<u.length by omega]
 have hull:(u.map cI).length=3:=by rw[bqW,hu]
 have hle:(who+1≤3)=True:=eq_true (by omega)
 by_cases hn:u.getD who default<n
 case neg=>
  have hn1:(n≤u.getD who default)=True:=eq_true (by omega)
  repeat' first| (first|apply bn1|apply oR)<;>(simp only[go_sem,t1,bqT,brK,o0,o1,o2,hut,hull,hle,hwd,hn1,hA])|refine⟨by omega,?_⟩|fail
  all_goals first|exact hQ _ _ _ _ _ (.inr rfl) rfl (h _ _ (by omega))| (exfalso;omega)
 have hn1:(n≤u.getD who default)=False:=eq_false (by omega)
 obtain⟨a,ha⟩: ∃a,a=bK (isC n) p.out:=⟨_,rfl⟩
 have hou: ∀{H:aA} {nx:Nat} {K:D→aA→Nat→Prop},K (boP a) H nx→aB Tryz.prog kV [boR (cD p),boP n] H nx K:=fun h=>KT (p:=p) (by omega) (aE rfl) (by rw[←ha];exact h)
 by_cases ha0:0≤a
 case neg=>
  have ha1:(0≤a)=False:=eq_false ha0
  repeat' first| (first|apply bn1|apply oR|apply hou)<;>(simp only[go_sem,t1,bqT,brK,o0,o1,o2,hut,hull,hle,hpd',hwd,hn1,ha1,hA])|refine⟨by omega,?_⟩|fail
  all_goals first|exact hQ _ _ _ _ _ (.inr rfl) rfl (h _ _ (by omega))| (exfalso;omega)
 have ha1:(0≤a)=True:=eq_true ha0
 have ha2:a.toNat<p.out.length:=by rw[ha] at ha0 ⊢;exact(ajV ha0).1
 obtain⟨o,ho⟩: ∃o,p.out.getD a.toNat default=o:=⟨_,rfl⟩
 have hol2:(o.left=(st:Int))=False:=eq_false fun he=>hno ⟨hw,by rw[Int.toNat_natCast];exact hn,by rw[Int.toNat_natCast,←hpd,←ha];exact ha0,by rw[Int.toNat_natCast,←hpd,←ha];exact ha2,by rw[Int.toNat_natCast,←hpd,←ha,ho];exact he⟩
 repeat' first| (first|apply bn1|apply oR|apply hou)<;>(simp only[go_sem,t1,bqT,brK,o0,o1,o2,hut,hull,hle,hpd',hwd,hn1,ha1,ho,hol2,hA])|refine⟨by omega,?_⟩|fail
 all_goals first|exact hQ _ _ _ _ _ (.inr rfl) rfl (h _ _ (by omega))| (exfalso;omega)
def beA (c:Cfg) (st i:Nat) (d:fC):Prop:=(0≤d.left∧d.left≤c.lat.getD st default)∧(0<i→d.left=c.lat.getD st default)
theorem a5G (c:Cfg) (s:CSt) (st:Nat) (hb:aQ c) (hp:a19 c s) (hsl:s.dD.length=4) (hst:st<4) (hf1:(aL s st).pipe.length<2^21) (hf2:(aL s st).done.length<2^21) (hf3: ∀j∈(aL s st).done,j.rsp.data.length<2^21):
 aB Tryz.prog iX [boR (cU c),boR (eI s),boP st] .nil 0 fun r _ _=>r.plain=true∧r=dB (slB c s st):=by
 refine BX rfl fun Q hQ=> ?_
 unfold lB
 obtain⟨v,hvd⟩: ∃v,v=aL s st:=⟨_,rfl⟩
 have hvd':s.dD.getD st default=v:=hvd.symm
 rw[←hvd] at hf1 hf2 hf3
 by_cases h0:(v.pipe.length:Int)≤2∧(v.done.length:Int)≤2∧0≤v.last∧v.last≤2
 case neg=>
  have hno: ¬Z0 c s st:=fun h=>h0 ⟨by have:=h.pl;rw[←hvd] at this;omega,by have:=h.dl;rw[←hvd] at this;omega,by have:=h.last;rw[←hvd] at this;omega⟩
  repeat' first| (first|apply bn1|refine bpL (fun h=> ?_) fun h=> ?_|apply oR)<;>(simp only[go_sem,hvd'])|apply bn2 (by omega)|refine⟨by omega,?_⟩|fail
  all_goals first|exact hQ _ _ _ _ _ (.inr rfl) rfl ⟨rfl,congrArg dB (a6D hno).symm⟩| (exfalso;omega)
 obtain⟨hpl,hdl,hl1,hl2⟩:=h0
 have hld:=decide_eq_true (show 0≤v.last∧v.last≤2 from ⟨hl1,hl2⟩)
 repeat' first| (first|apply bn1|apply bpK (by omega)|apply oR)<;>(simp only[go_sem,hvd',hld])|refine⟨by omega,?_⟩|fail
 refine aM.abC fun bqO hG0=> ?_
 have c0:bqO 0=some ⟨3,1,[cU c]⟩:=by rw[hG0];rfl
 have c1:bqO 1=some ⟨5,1,[eI s]⟩:=by rw[hG0];rfl
 have c2:bqO 2=some ⟨1,1,[[cI st]]⟩:=by rw[hG0];rfl
 have bf1:bqO 9=some ⟨3,1,[gF v]⟩:=by rw[hG0];rfl
 have c28:bqO 28=some ⟨3,1,[([-1,-1,-1]:List Int).map cI]⟩:=by rw[hG0];rfl
 clear hG0
 have hp3:=(hC hb).1
 have hlat4:=hb.2.1
 have hlat:=S0 hb hst
 have hV: ∀k,k<v.done.length→(cS (aL s st))[k]?=some (key (v.done.getD k default)):=fun k hk=>by
  rw[←hvd];unfold cS
  rw[brO (by simpa using hk)];simp[List.getD,hk]
 have hV2: ∀k,k<v.pipe.length→(cS (aL s st))[v.done.length+k]?=some ((v.pipe.getD k default).who,(v.pipe.getD k default).n):=fun k hk=>by
  rw[←hvd];unfold cS
  rw[brX (by simp)];simp[List.getD,hk]
 have hVl:(cS (aL s st)).length=v.done.length+v.pipe.length:=by rw[←hvd];simp[cS]
 have hclo: ∀{H:aA} {F:Nat→Prop} {nh:Nat},36≤nh→Cv1 H F id nh (.clo cO [.ptr 3 28 0 0,.ptr 5 1 0 0,.ptr 1 2 0 0]) (.clo cO [.ptr 3 28 0 0,.ptr 5 1 0 0,.ptr 1 2 0 0]):=fun h=>akM fun x hx=>by
  simp only[t3,bq7,or_false] at hx
  rcases hx with rfl|rfl|rfl
  ·exact⟨_,_,_,_,by omega,rfl⟩
  ·exact⟨_,_,_,_,by omega,rfl⟩
  ·exact⟨_,_,_,_,by omega,rfl⟩
 have hppl:=hp.pl
 refine aM.gP (β:=Nat×List Int) (fun u=>en [(40,boP u.1),(39,boP v.done.length),(38,dS (v.done.map aS)),(9,.one (.c (.clo cO [.ptr 3 28 0 0,.ptr 5 1 0 0,.ptr 1 2 0 0]))),(7,.one (.c (.ptr 3 9 0 0))),(5,.one (.c (.ptr 1 2 0 0))),(3,.one (.c (.ptr 3 0 0 0)))])
  (fun u H1 _=>u.1≤v.done.length∧bcU s st (cS (aL s st)) u.1 u.2∧(∀i,i<u.1→as5 c (v.done.getD i default))∧H1 28=some ⟨3,1,[u.2.map cI]⟩∧ ∀id,id<36→id≠28→H1 id=bqO id) (fun u=>v.done.length-u.1) (0,[-1,-1,-1])
  ⟨noF,_,by(repeat' first|exact bo2|refine xqI rfl rfl ?_|refine xqP (by omega) rfl rfl ?_| (with_reducible apply bo3)| ((with_reducible apply bo1);apply bo7)|fail);all_goals exact hclo (by omega),aK,by dsimp only;omega,bcU.nil,fun i hi=>by dsimp only at hi;omega,c28,fun _ _ _=>rfl⟩ ?_
 rintro⟨k,u⟩ H1 nx1 hnx ⟨hk,hI,hR,g28,hfr⟩ bpQ hKL
 dsimp only at hk hI hR g28
 have bqC:H1 0=some ⟨3,1,[cU c]⟩:=by rw[hfr _ (by omega) (by omega)];exact c0
 have g1:H1 1=some ⟨5,1,[eI s]⟩:=by rw[hfr _ (by omega) (by omega)];exact c1
 have g2:H1 2=some ⟨1,1,[[cI st]]⟩:=by rw[hfr _ (by omega) (by omega)];exact c2
 have bp5:H1 9=some ⟨3,1,[gF v]⟩:=by rw[hfr _ (by omega) (by omega)];exact bf1
 have hA:bQ nx1 [0,1,2,9,28]:=AM.apart (by simp) (by simp;omega)
 simp only[bQ,eZ] at hA
 have hul:=hI.ul
 by_cases hlt:k<v.done.length
 ·obtain⟨d,hdd⟩: ∃d,d=v.done.getD k default:=⟨_,rfl⟩
  have hdm:d∈(aL s st).done:=by rw[hdd,←hvd];exact cC hlt
  have hx:=hV k hlt
  rw[←hdd] at hx
  have hrl:d.rsp.data.length<2^40:=by have h1:=hf3 d (by rw[hvd];exact hdm);omega
  by_cases hF:bdP s st u (key d)
  case neg=>
   repeat' first| (first|apply bn1| (refine a04 (c:=c) (w:=d.who) (n:=d.n) hp hul hF (by omega) (by simp) (by simp only[aA.set,hA,if_false];exact g28) (by simp only[aA.set,hA,if_false];exact g1) (by simp only[aA.set,hA,if_false];exact g2) (fun H' nx' hx'=> ?_)))<;>(simp only[go_sem,t1,bqT,hdd.symm,bqC,g1,g2,g28,hA])|apply bn2 (by omega)|refine⟨by omega,?_⟩|fail
   repeat' first|apply bn1<;>(simp only[go_sem])|fail
   all_goals exact hQ _ _ _ _ _ (.inr rfl) rfl ⟨rfl,congrArg dB (a6D fun h=>hF (hI.bad hp h hx)).symm⟩
  have hI2:=hI.next hx hF
  have hask:=hF.asks hp
  obtain⟨hw0,hn,ha1,ha2,ha3⟩:=hF
  dsimp only[key] at hw0 hn ha1 ha2 ha3 hI2 hask
  have hw1:d.who=(d.who.toNat:Int):=by omega
  have hw2:d.who.toNat<3:=by omega
  have hol:(aF s d.who.toNat).out.length<2^40:=by have:=(hp.port _ hw2).ol;omega
  by_cases hr1:pA d.rsp
  case neg=>
   have hdr:=decide_eq_false hr1
   repeat' first| (first|apply bn1| (refine kA (w:=d.who) (n:=d.n) hw1 hul hw2 hn hppl hol ha1 ha2 ha3 (by omega) (by simp) (by simp only[aA.set,hA,if_false];exact g28) (by simp only[aA.set,hA,if_false];exact g1) (by simp only[aA.set,hA,if_false];exact g2) (fun H' nx' hx' f28 ffr=> ?_)))<;>(simp only[go_sem,t1,bqT,hdd.symm,bqC,g1,g2,g28,hA])|apply bn2 (by omega)|refine⟨by omega,?_⟩|fail
   have boU:H' 0=some ⟨3,1,[cU c]⟩:=by rw[ffr _ (by omega) (by omega)];simp only[aA.set,hA,if_false];exact bqC
   have ej:H' (nx1+3)=some ⟨5,1,[aS d]⟩:=by rw[ffr _ (by omega) (by omega)];exact aA.bH
   have hA':bQ nx' [0,1,2,9,28,nx1+3]:=AM.apart (by simp;omega) (by simp;omega)
   simp only[bQ,eZ] at hA'
   simp only[go_sem,t1,bqT,boU,ej,hdr,hA']
   repeat' first| (first|apply bn1|apply I8 hrl)<;>(simp only[go_sem,t1,bqT,boU,ej,hdr,hA'])|fail
   all_goals exact hQ _ _ _ _ _ (.inr rfl) rfl ⟨rfl,congrArg dB (a6D fun h=>hr1 (h.rsp d hdm).1).symm⟩
  have hdr:=decide_eq_true hr1
  by_cases hr2:d.rsp.id=(bT c d.who d.n).id
  case neg=>
   have er2:(d.rsp.id=(bT c d.who d.n).id)=False:=eq_false hr2
   repeat' first| (first|apply bn1| (refine kA (w:=d.who) (n:=d.n) hw1 hul hw2 hn hppl hol ha1 ha2 ha3 (by omega) (by simp) (by simp only[aA.set,hA,if_false];exact g28) (by simp only[aA.set,hA,if_false];exact g1) (by simp only[aA.set,hA,if_false];exact g2) (fun H' nx' hx' f28 ffr=> ?_)))<;>(simp only[go_sem,t1,bqT,hdd.symm,bqC,g1,g2,g28,hA])|apply bn2 (by omega)|refine⟨by omega,?_⟩|fail
   have boU:H' 0=some ⟨3,1,[cU c]⟩:=by rw[ffr _ (by omega) (by omega)];simp only[aA.set,hA,if_false];exact bqC
   have ej:H' (nx1+3)=some ⟨5,1,[aS d]⟩:=by rw[ffr _ (by omega) (by omega)];exact aA.bH
   have hA':bQ nx' [0,1,2,9,28,nx1+3]:=AM.apart (by simp;omega) (by simp;omega)
   simp only[bQ,eZ] at hA'
   simp only[go_sem,t1,bqT,boU,ej,hdr,hA']
   repeat' first| (first|apply bn1|apply I8 hrl|apply iJ hp3 hask)<;>(simp only[go_sem,t1,bqT,boU,ej,hdr,er2,hA'])|fail
   all_goals exact hQ _ _ _ _ _ (.inr rfl) rfl ⟨rfl,congrArg dB (a6D fun h=>hr2 (h.rsp d hdm).2).symm⟩
  repeat' first| (first|apply bn1| (refine kA (w:=d.who) (n:=d.n) hw1 hul hw2 hn hppl hol ha1 ha2 ha3 (by omega) (by simp) (by simp only[aA.set,hA,if_false];exact g28) (by simp only[aA.set,hA,if_false];exact g1) (by simp only[aA.set,hA,if_false];exact g2) (fun H' nx' hx' f28 ffr=> ?_)))<;>(simp only[go_sem,t1,bqT,hdd.symm,bqC,g1,g2,g28,hA])|apply bn2 (by omega)|refine⟨by omega,?_⟩|fail
  have boU:H' 0=some ⟨3,1,[cU c]⟩:=by rw[ffr _ (by omega) (by omega)];simp only[aA.set,hA,if_false];exact bqC
  have ej:H' (nx1+3)=some ⟨5,1,[aS d]⟩:=by rw[ffr _ (by omega) (by omega)];exact aA.bH
  have hfr2: ∀id,id<36→id≠28→H' id=bqO id:=fun id boU e1=>by rw[ffr id (by omega) e1,aA.aC (by omega)];exact hfr id boU e1
  have hA':bQ nx' [0,1,2,9,28,nx1+3]:=AM.apart (by simp;omega) (by simp;omega)
  simp only[bQ,eZ] at hA'
  simp only[go_sem,t1,bqT,boU,ej,hdr,hA']
  repeat' first| (first|apply bn1|apply I8 hrl|apply iJ hp3 hask)<;>(simp only[go_sem,t1,bqT,boU,ej,hdr,hr2,hA'];try simp (disch:=omega) only[Iw])|fail
  exact hKL _ _ _ (k+1,u.set d.who.toNat d.n) noF _ (by omega) (by dsimp only;omega) (by(repeat' first|exact bo2|refine xqI rfl rfl ?_|refine xqP (by omega) rfl rfl ?_| (with_reducible apply bo3)| ((with_reducible apply bo1);apply bo7)|fail);all_goals exact hclo (by omega)) aK ⟨by dsimp only;omega,hI2,iS hR (by rw[←hdd];exact⟨hr1,hr2⟩),f28,hfr2⟩
 ·repeat' first|apply bn1<;>(simp only[go_sem,bp5])|apply bn3 (by omega)|fail
  have hk2:k=v.done.length:=by omega
  rw[hk2] at hI hR
  clear hlt hk
  refine aM.gP (β:=Nat×List Int) (fun u=>en [(73,boP u.1),(72,boP v.pipe.length),(71,dS (v.pipe.map eCJ)),(9,.one (.c (.clo cO [.ptr 3 28 0 0,.ptr 5 1 0 0,.ptr 1 2 0 0]))),(5,.one (.c (.ptr 1 2 0 0))),(3,.one (.c (.ptr 3 0 0 0)))])
   (fun u H1 _=>u.1≤v.pipe.length∧bcU s st (cS (aL s st)) (v.done.length+u.1) u.2∧(∀i,i<u.1→beA c st i (v.pipe.getD i default))∧H1 28=some ⟨3,1,[u.2.map cI]⟩∧ ∀id,id<36→id≠28→H1 id=bqO id) (fun u=>v.pipe.length-u.1) (0,u)
   ⟨noF,_,by(repeat' first|exact bo2|refine xqI rfl rfl ?_|refine xqP (by omega) rfl rfl ?_| (with_reducible apply bo3)| ((with_reducible apply bo1);apply bo7)|fail);all_goals exact hclo (by omega),aK,by dsimp only;omega,hI,fun i hi=>by dsimp only at hi;omega,g28,hfr⟩ ?_
  clear hI g28 hfr bqC g1 g2 bp5 hA hul
  rintro⟨k,u⟩ H2 nx2 hnx2 ⟨hk,hI,hL,g28,hfr⟩ bqG hKM
  dsimp only at hk hI hL g28
  have bqC:H2 0=some ⟨3,1,[cU c]⟩:=by rw[hfr _ (by omega) (by omega)];exact c0
  have g1:H2 1=some ⟨5,1,[eI s]⟩:=by rw[hfr _ (by omega) (by omega)];exact c1
  have g2:H2 2=some ⟨1,1,[[cI st]]⟩:=by rw[hfr _ (by omega) (by omega)];exact c2
  have hA:bQ nx2 [0,1,2,9,28]:=AM.apart (by simp) (by simp;omega)
  simp only[bQ,eZ] at hA
  have hul:=hI.ul
  by_cases hlt:k<v.pipe.length
  ·obtain⟨d,hdd⟩: ∃d,d=v.pipe.getD k default:=⟨_,rfl⟩
   have hx:=hV2 k hlt
   rw[←hdd] at hx
   by_cases hF:bdP s st u (d.who,d.n)
   case neg=>
    repeat' first| (first|apply bn1| (refine a04 (c:=c) (w:=d.who) (n:=d.n) hp hul hF (by omega) (by simp) (by simp only[aA.set,hA,if_false];exact g28) (by simp only[aA.set,hA,if_false];exact g1) (by simp only[aA.set,hA,if_false];exact g2) (fun H' nx' hx'=> ?_)))<;>(simp only[go_sem,t1,bqT,hdd.symm,bqC,g1,g2,g28,hA])|apply bn2 (by omega)|refine⟨by omega,?_⟩|fail
    repeat' first|apply bn1<;>(simp only[go_sem])|fail
    all_goals exact hQ _ _ _ _ _ (.inr rfl) rfl ⟨rfl,congrArg dB (a6D fun h=>hF (hI.bad hp h hx)).symm⟩
   have hI2:=hI.next hx hF
   obtain⟨hw0,hn,ha1,ha2,ha3⟩:=hF
   dsimp only at hw0 hn ha1 ha2 ha3 hI2
   have hw1:d.who=(d.who.toNat:Int):=by omega
   have hw2:d.who.toNat<3:=by omega
   have hol:(aF s d.who.toNat).out.length<2^40:=by have:=(hp.port _ hw2).ol;omega
   have hbad: ¬beA c st k d→¬Z0 c s st:=fun hn h=>hn (by
    have:=h.left k (by rw[←hvd];exact hlt)
    rw[←hvd,←hdd] at this
    exact this)
   rcases CR k with h0|h0
   ·have hz3:((k:Int)=0)=True:=eq_true (by omega)
    have hz4:(0<(k:Int))=False:=eq_false (by omega)
    by_cases hl:0≤d.left∧d.left≤c.lat.getD st default
    ·have hdl:=decide_eq_true hl
     repeat' first| (first|apply bn1| (refine kA (w:=d.who) (n:=d.n) hw1 hul hw2 hn hppl hol ha1 ha2 ha3 (by omega) (by simp) (by simp only[aA.set,hA,if_false];exact g28) (by simp only[aA.set,hA,if_false];exact g1) (by simp only[aA.set,hA,if_false];exact g2) (fun H' nx' hx' f28 ffr=> ?_)))<;>(simp only[go_sem,t1,bqT,hdd.symm,bqC,g1,g2,g28,hz3,hz4,hA])|apply bn2 (by omega)|refine⟨by omega,?_⟩|fail
     have hfr2: ∀id,id<36→id≠28→H' id=bqO id:=fun id boU e1=>by rw[ffr id (by omega) e1,aA.aC (by omega)];exact hfr id boU e1
     have boU:H' 0=some ⟨3,1,[cU c]⟩:=(hfr2 _ (by omega) (by omega)).trans c0
     have e2:H' 2=some ⟨1,1,[[cI st]]⟩:=(hfr2 _ (by omega) (by omega)).trans c2
     have ej:H' (nx2+4)=some ⟨3,1,[eCJ d]⟩:=by rw[ffr _ (by omega) (by omega)];exact aA.bH
     simp only[go_sem,t1,bqT,boU,e2,ej,hdl,hz3,hz4,hA]
     repeat' first| (first|apply bn1|apply fE)<;>(simp only[go_sem,t1,bqT,boU,e2,ej,hdl,hz3,hz4,hA];try simp (disch:=omega) only[Iw])|refine⟨by omega,?_⟩|fail
     all_goals exact hKM _ _ _ (k+1,u.set d.who.toNat d.n) noF _ (by omega) (by dsimp only;omega) (by(repeat' first|exact bo2|refine xqI rfl rfl ?_|refine xqP (by omega) rfl rfl ?_| (with_reducible apply bo3)| ((with_reducible apply bo1);apply bo7)|fail);all_goals exact hclo (by omega)) aK ⟨by dsimp only;omega,hI2,iS hL (by rw[←hdd];exact⟨hl,fun h=>by omega⟩),f28,hfr2⟩
    ·have hdl:=decide_eq_false hl
     repeat' first| (first|apply bn1| (refine kA (w:=d.who) (n:=d.n) hw1 hul hw2 hn hppl hol ha1 ha2 ha3 (by omega) (by simp) (by simp only[aA.set,hA,if_false];exact g28) (by simp only[aA.set,hA,if_false];exact g1) (by simp only[aA.set,hA,if_false];exact g2) (fun H' nx' hx' f28 ffr=> ?_)))<;>(simp only[go_sem,t1,bqT,hdd.symm,bqC,g1,g2,g28,hz3,hz4,hA])|apply bn2 (by omega)|refine⟨by omega,?_⟩|fail
     have hfr2: ∀id,id<36→id≠28→H' id=bqO id:=fun id boU e1=>by rw[ffr id (by omega) e1,aA.aC (by omega)];exact hfr id boU e1
     have boU:H' 0=some ⟨3,1,[cU c]⟩:=(hfr2 _ (by omega) (by omega)).trans c0
     have e2:H' 2=some ⟨1,1,[[cI st]]⟩:=(hfr2 _ (by omega) (by omega)).trans c2
     have ej:H' (nx2+4)=some ⟨3,1,[eCJ d]⟩:=by rw[ffr _ (by omega) (by omega)];exact aA.bH
     simp only[go_sem,t1,bqT,boU,e2,ej,hdl,hz3,hz4,hA]
     repeat' first| (first|apply bn1|apply fE)<;>(simp only[go_sem,t1,bqT,boU,e2,ej,hdl,hz3,hz4,hA])|refine⟨by omega,?_⟩|fail
     all_goals exact hQ _ _ _ _ _ (.inr rfl) rfl ⟨rfl,congrArg dB (a6D (hbad fun h=>hl h.1)).symm⟩
   ·have hz3:((k:Int)=0)=False:=eq_false (by omega)
    have hz4:(0<(k:Int))=True:=eq_true (by omega)
    by_cases hl:d.left=c.lat.getD st default
    ·have hlk:(d.left=c.lat.getD st default)=True:=eq_true hl
     repeat' first| (first|apply bn1| (refine kA (w:=d.who) (n:=d.n) hw1 hul hw2 hn hppl hol ha1 ha2 ha3 (by omega) (by simp) (by simp only[aA.set,hA,if_false];exact g28) (by simp only[aA.set,hA,if_false];exact g1) (by simp only[aA.set,hA,if_false];exact g2) (fun H' nx' hx' f28 ffr=> ?_)))<;>(simp only[go_sem,t1,bqT,hdd.symm,bqC,g1,g2,g28,hz3,hz4,hA])|apply bn2 (by omega)|refine⟨by omega,?_⟩|fail
     have hfr2: ∀id,id<36→id≠28→H' id=bqO id:=fun id boU e1=>by rw[ffr id (by omega) e1,aA.aC (by omega)];exact hfr id boU e1
     have boU:H' 0=some ⟨3,1,[cU c]⟩:=(hfr2 _ (by omega) (by omega)).trans c0
     have e2:H' 2=some ⟨1,1,[[cI st]]⟩:=(hfr2 _ (by omega) (by omega)).trans c2
     have ej:H' (nx2+4)=some ⟨3,1,[eCJ d]⟩:=by rw[ffr _ (by omega) (by omega)];exact aA.bH
     simp only[go_sem,t1,bqT,boU,e2,ej,hz3,hz4,hA]
     repeat' first|apply bn1<;>(simp only[go_sem,t1,bqT,boU,e2,ej,hz3,hz4,hlk,hA];try simp (disch:=omega) only[Iw])|refine⟨by omega,?_⟩|fail
     all_goals exact hKM _ _ _ (k+1,u.set d.who.toNat d.n) noF _ (by omega) (by dsimp only;omega) (by(repeat' first|exact bo2|refine xqI rfl rfl ?_|refine xqP (by omega) rfl rfl ?_| (with_reducible apply bo3)| ((with_reducible apply bo1);apply bo7)|fail);all_goals exact hclo (by omega)) aK ⟨by dsimp only;omega,hI2,iS hL (by rw[←hdd];exact⟨by omega,fun _=>hl⟩),f28,hfr2⟩
    ·have hlk:(d.left=c.lat.getD st default)=False:=eq_false hl
     repeat' first| (first|apply bn1| (refine kA (w:=d.who) (n:=d.n) hw1 hul hw2 hn hppl hol ha1 ha2 ha3 (by omega) (by simp) (by simp only[aA.set,hA,if_false];exact g28) (by simp only[aA.set,hA,if_false];exact g1) (by simp only[aA.set,hA,if_false];exact g2) (fun H' nx' hx' f28 ffr=> ?_)))<;>(simp only[go_sem,t1,bqT,hdd.symm,bqC,g1,g2,g28,hz3,hz4,hA])|apply bn2 (by omega)|refine⟨by omega,?_⟩|fail
     have hfr2: ∀id,id<36→id≠28→H' id=bqO id:=fun id boU e1=>by rw[ffr id (by omega) e1,aA.aC (by omega)];exact hfr id boU e1
     have boU:H' 0=some ⟨3,1,[cU c]⟩:=(hfr2 _ (by omega) (by omega)).trans c0
     have e2:H' 2=some ⟨1,1,[[cI st]]⟩:=(hfr2 _ (by omega) (by omega)).trans c2
     have ej:H' (nx2+4)=some ⟨3,1,[eCJ d]⟩:=by rw[ffr _ (by omega) (by omega)];exact aA.bH
     simp only[go_sem,t1,bqT,boU,e2,ej,hz3,hz4,hA]
     repeat' first|apply bn1<;>(simp only[go_sem,t1,bqT,boU,e2,ej,hz3,hz4,hlk,hA])|refine⟨by omega,?_⟩|fail
     all_goals exact hQ _ _ _ _ _ (.inr rfl) rfl ⟨rfl,congrArg dB (a6D (hbad fun h=>hl (h.2 h0))).symm⟩
  ·repeat' first|apply bn1<;>(simp only[go_sem])|apply bn3 (by omega)|fail
   have hk3:k=v.pipe.length:=by omega
   rw[hk3] at hI hL
   rw[←hVl] at hI
   obtain⟨q1,q2⟩:=hI.end
   refine hQ _ _ _ _ _ (.inr rfl) rfl ⟨rfl,congrArg dB (beR ⟨?_,?_,?_,q1,q2,?_,?_⟩).symm⟩
   ·rw[←hvd];omega
   ·rw[←hvd];omega
   ·rw[←hvd];exact⟨hl1,hl2⟩
   ·rw[←hvd];exact aKJ hR
   ·rw[←hvd];exact hL
theorem a2C {c:Cfg} {s:CSt} {st:Nat} (hb:aQ c) (hp:a19 c s) (hsl:s.dD.length=4) (hst:st<4) (hf1:(aL s st).pipe.length<2^21) (hf2:(aL s st).done.length<2^21) (hf3: ∀j∈(aL s st).done,j.rsp.data.length<2^21) (h:K (dB (slB c s st)) H nx):aB Tryz.prog iX [boR (cU c),boR (eI s),boP st] H nx K:=
 (a5G c s st hb hp hsl hst hf1 hf2 hf3).pure rfl (aI ⟨aE rfl,aE rfl,aE rfl,trivial⟩) fun r hr=>hr▸h
end
end Go.Proofs.YtmccpdapaccnoaaGreat
namespace Go.AM
noncomputable def cyB (c:Cfg) (s:CSt):Bool:=@decide (aQ c∧COk c s) (Classical.propDecidable _)
variable{s:CSt}
theorem bfB{c:Cfg} (hb:aQ c) (h:COk c s):cyB c s=true:=by simp[cyB,h,hb]
theorem beP{c:Cfg} (h: ¬(aQ c∧COk c s)):cyB c s=false:=by simp[cyB,h]
theorem bmR{c:Cfg}:cyB c s=true↔aQ c∧COk c s:=by simp[cyB]
structure beL (s:CSt):Prop where
 w:s.words.length<2^21
 h:s.holds.length<2^21
 t:s.told.length<2^21
 td: ∀j∈s.told,j.rsp.data.length<2^21
 pl:s.bM.length<2^21
 sl:s.dD.length<2^21
 port: ∀k,(aF s k).queue.length<2^21∧(aF s k).out.length<2^21
 slv: ∀k,(aL s k).pipe.length<2^21∧(aL s k).done.length<2^21∧ ∀j∈(aL s k).done,j.rsp.data.length<2^21
theorem bfE (hf:beL s) (hpl:s.bM.length=3) (hsl:s.dD.length≤4) (hq: ∀k,k<3→(aF s k).queue.length≤3) (hv: ∀k,k<s.dD.length→(aL s k).pipe.length≤3∧(aL s k).done.length≤3) (hw:(qU s).length<20) (hd:(uQ s).length<20):bdV s:=by
 refine⟨hpl,hsl,hq,hv,hw,hd,⟨hf.w,hf.h,by simpa [cX] using hf.pl,?_,?_,hf.t,fun j hj=> ?_⟩⟩
 ·show (jX (qU s)).length<_
  rw[(fH _).length_eq];omega
 ·show (jX (uQ s)).length<_
  rw[(fH _).length_eq];omega
 ·have hj:j∈jX (qU s)++jX (uQ s)++s.told:=hj
  simp only[o3,BF] at hj
  rcases hj with(hj|hj)|hj
  ·rcases wU.1 hj with⟨k,_,m,_,rfl⟩|⟨k,_,m,_,rfl⟩
   ·exact(by decide:([]:List Int).length<2^21)
   ·exact(by decide:([]:List Int).length<2^21)
  ·obtain⟨k,_,h⟩:=BU.1 hj
   exact(hf.slv k).2.2 j h
  ·exact hf.td j hj
theorem be1{a b:Nat} (hpl:s.bM.length=3) (hsl:s.dD.length≤4) (hq: ∀k,k<3→(aF s k).queue.length≤a) (hv: ∀k,k<s.dD.length→(aL s k).pipe.length≤b):(qU s).length≤a*3+b*4:=by
 unfold qU
 rw[t2]
 have h1:=QU (f:=jJ s) (m:=a) s.bM.length fun k hk=>by rw[hpl] at hk;simpa [jJ] using hq k hk
 have h2:=QU (f:=hJ s) (m:=b) s.dD.length fun k hk=>by simpa [hJ] using hv k hk
 rw[hpl] at h1
 have h3:=Nat.mul_le_mul_left b hsl
 rw[hpl]
 omega
theorem be0{b:Nat} (hsl:s.dD.length≤4) (hv: ∀k,k<s.dD.length→(aL s k).done.length≤b):(uQ s).length≤b*4:=by
 unfold uQ
 have h2:=QU (f:=fun k=>(aL s k).done) (m:=b) s.dD.length fun k hk=>hv k hk
 have h3:=Nat.mul_le_mul_left b hsl
 omega
theorem bd9{c:Cfg} (hf:beL s) (hp:a19 c s) (hsl:s.dD.length=4) (hv: ∀k,k<4→Z0 c s k):bdV s:=by
 have h1: ∀k,k<3→(aF s k).queue.length≤2:=fun k hk=>(hp.port k hk).ql.1
 have h2: ∀k,k<s.dD.length→(aL s k).pipe.length≤2:=fun k hk=>(hv k (by omega)).pl
 have h3: ∀k,k<s.dD.length→(aL s k).done.length≤2:=fun k hk=>(hv k (by omega)).dl
 have h4:=be1 hp.pl (by omega) h1 h2
 have h5:=be0 (by omega) h3
 exact bfE hf hp.pl (by omega) (fun k hk=>by have:=h1 k hk;omega) (fun k hk=>⟨by have:=h2 k hk;omega,by have:=h3 k hk;omega⟩) (by omega) (by omega)
end Go.AM
namespace Go.Proofs.YtmccpdapaccnoaaGreat
open Go Go.AM
attribute [local irreducible] aM wv aB vd wvH
section
variable {H : aA} {nx : Nat} {K : D → aA → Nat → Prop}
theorem bd0 (c:Cfg) (s:CSt) (hcf:jO c) (hf:beL s):aB Tryz.prog mW [boR (cU c),boR (eI s)] .nil 0 fun r _ _=>r.plain=true∧r=dB (cyB c s):=by
 have hwl:=hf.w
 have hhl:=hf.h
 have hfp:=hf.pl
 have hfs:=hf.sl
 refine VM rfl fun Q hQ=> ?_
 unfold AN
 have hfail: ¬(aQ c∧COk c s)→dB false=dB (cyB c s):=fun h=>congrArg dB (beP h).symm
 by_cases hb:aQ c
 case neg=>
  repeat' first| (first|apply bn1|apply W6 hcf)<;>(simp only[go_sem,eq_false hb])|fail
  all_goals exact hQ _ _ _ _ _ (.inr rfl) rfl ⟨rfl,hfail fun h=>hb h.1⟩
 by_cases h0:JS s.words s.holds∧(s.bM.length:Int)=3∧(s.dD.length:Int)=4
 case neg=>
  have hno: ¬(aQ c∧COk c s):=fun⟨_,h⟩=>h0 ⟨ZS h.atm,by rw[h.pl];rfl,by rw[h.sl];rfl⟩
  repeat' first| (first|apply bn1|refine bpL (fun h=> ?_) fun h=> ?_|apply W6 hcf|refine JZ (w:=s.words) (u:=s.holds) (by omega) (by omega) (aE rfl) ?_)<;>(simp only[go_sem,eq_true hb])|refine bnE (fun h=> ?_) fun h=> ?_|fail
  all_goals first|exact hQ _ _ _ _ _ (.inr rfl) rfl ⟨rfl,hfail hno⟩|exact absurd ⟨by simp_all,by omega,by omega⟩ h0
 obtain⟨hatm,hpl,hsl⟩:=h0
 have hpl:s.bM.length=3:=by omega
 have hsl:s.dD.length=4:=by omega
 have hat:=decide_eq_true hatm
 have hbt:=decide_eq_true hb
 repeat' first| (first|apply bn1|apply bpK (by omega)|apply W6 hcf|refine JZ (by omega) (by omega) (aE rfl) ?_)<;>(simp only[go_sem,eq_true hb,hat,hbt,hpl,hsl])|apply bn3 (by omega)|fail
 refine aM.abC fun bqO hG0=> ?_
 have c0:bqO 0=some ⟨3,1,[cU c]⟩:=by rw[hG0];rfl
 have c1:bqO 1=some ⟨5,1,[eI s]⟩:=by rw[hG0];rfl
 clear hG0
 obtain⟨fo,hfo⟩: ∃fo:Nat→Int,fo=fun k=>((aF s k).out.length:Int):=⟨_,rfl⟩
 obtain⟨fh,hfh⟩: ∃fh:Nat→Int,fh=fun k=>(((aL s k).pipe.length:Int)+(aL s k).done.length):=⟨_,rfl⟩
 refine aM.gP (β:=Nat) (fun k=>en [(35,boP k),(34,boP 3),(33,dS (s.bM.map cD)),(6,boP 0),(5,boP (jS fo k)),(3,.one (.c (.ptr 5 1 0 0))),(2,.one (.c (.ptr 3 0 0 0)))])
  (fun k H1 _=>k≤3∧(∀i,i<k→mD c i (aF s i))∧ ∀id,id<30→H1 id=bqO id) (fun k=>3-k) 0 ⟨noF,_,by repeat' first|exact bo2|refine xqI rfl rfl ?_|refine xqP (by omega) rfl rfl ?_|fail,aK,by omega,fun i hi=>by omega,fun _ _=>rfl⟩ ?_
 rintro k H1 nx1 hnx ⟨hk,hpo,hfr⟩ bpQ hKL
 have bqC:=(hfr 0 (by omega)).trans c0
 have g1:=(hfr 1 (by omega)).trans c1
 have hA:bQ nx1 [0,1]:=AM.apart (by simp) (by simp;omega)
 simp only[bQ,eZ] at hA
 have hs1:=KF (f:=fo) (m:=4) (by omega) k fun j hj=>by have:=(hpo j (by omega)).ol;rw[hfo];dsimp only;omega
 by_cases hlt:k<3
 ·obtain⟨p,hpd⟩: ∃p,p=aF s k:=⟨_,rfl⟩
  have hpd':s.bM.getD k default=p:=hpd.symm
  obtain⟨hf1,hf2⟩:=hf.port k
  have hsum:jS fo (k+1)=jS fo k+p.out.length:=by rw[jS,hfo,hpd]
  rw[←hpd] at hf1 hf2
  by_cases hok:mD c k p
  ·have hpt:=beT hok
   have hol:=hok.ol
   repeat' first| (first|apply bn1|apply a2P hb hlt hf1 hf2)<;>(simp only[go_sem,t1,bqT,hpd',bqC,g1,hpt,hA];try simp (disch:=omega) only[Iw])|apply bn2 (by omega)|refine⟨by omega,?_⟩|fail
   exact hKL _ _ _ (k+1) noF _ (by omega) (by omega) (by rw[hsum];repeat' first|exact bo2|refine xqI rfl rfl ?_|refine xqP (by omega) rfl rfl ?_|fail) aK ⟨by omega,iS hpo (by rw[←hpd];exact hok),fun id hid=>by rw[aA.aC (by omega)];exact hfr id hid⟩
  ·have hpt:=a8A hok
   repeat' first| (first|apply bn1|apply a2P hb hlt hf1 hf2)<;>(simp only[go_sem,t1,bqT,hpd',bqC,g1,hpt,hA])|apply bn2 (by omega)|refine⟨by omega,?_⟩|fail
   all_goals exact hQ _ _ _ _ _ (.inr rfl) rfl ⟨rfl,hfail fun h=>hok (by rw[hpd];exact h.2.port k hlt)⟩
 ·have hk3:k=3:=by omega
  subst hk3
  have boS:a19 c s:=⟨hpl,hpo⟩
  repeat' first|apply bn1<;>(simp only[go_sem,bqC,g1,hsl])|apply bn3 (by omega)|fail
  refine aM.gP (β:=Nat) (fun k=>en [(54,boP k),(53,boP 4),(52,dS (s.dD.map gF)),(6,boP (jS fh k)),(5,boP (jS fo 3)),(3,.one (.c (.ptr 5 1 0 0))),(2,.one (.c (.ptr 3 0 0 0)))])
   (fun k H1 _=>k≤4∧(∀i,i<k→Z0 c s i)∧ ∀id,id<30→H1 id=bqO id) (fun k=>4-k) 0 ⟨noF,_,by repeat' first|exact bo2|refine xqI rfl rfl ?_|refine xqP (by omega) rfl rfl ?_|fail,aK,by omega,fun i hi=>by omega,hfr⟩ ?_
  clear hfr bqC g1 hA
  rintro k H2 nx2 hnx2 ⟨hk,hvo,hfr⟩ bqG hKM
  have bqC:=(hfr 0 (by omega)).trans c0
  have g1:=(hfr 1 (by omega)).trans c1
  have hA:bQ nx2 [0,1]:=AM.apart (by simp) (by simp;omega)
  simp only[bQ,eZ] at hA
  have hs2:=KF (f:=fh) (m:=4) (by omega) k fun j hj=>by have h1:=(hvo j (by omega)).pl;have h2:=(hvo j (by omega)).dl;rw[hfh];dsimp only;omega
  by_cases hlt:k<4
  ·obtain⟨v,hvd⟩: ∃v,v=aL s k:=⟨_,rfl⟩
   have hvd':s.dD.getD k default=v:=hvd.symm
   obtain⟨hf1,hf2,hf3⟩:=hf.slv k
   by_cases hok:Z0 c s k
   ·have hv1:=hok.pl
    have hv2:=hok.dl
    rw[←hvd] at hv1 hv2
    have hsum:jS fh (k+1)=jS fh k+(v.pipe.length+v.done.length):=by rw[jS,hfh,hvd]
    have hpt:=beR hok
    repeat' first| (first|apply bn1|apply a2C hb boS hsl hlt hf1 hf2 hf3)<;>(simp only[go_sem,t1,bqT,hvd',bqC,g1,hpt,hA];try simp (disch:=omega) only[Iw])|apply bn2 (by omega)|refine⟨by omega,?_⟩|fail
    exact hKM _ _ _ (k+1) noF _ (by omega) (by omega) (by rw[hsum];repeat' first|exact bo2|refine xqI rfl rfl ?_|refine xqP (by omega) rfl rfl ?_|fail) aK ⟨by omega,iS hvo hok,fun id hid=>by rw[aA.aC (by omega)];exact hfr id hid⟩
   ·have hpt:=a6D hok
    repeat' first| (first|apply bn1|apply a2C hb boS hsl hlt hf1 hf2 hf3)<;>(simp only[go_sem,t1,bqT,hvd',bqC,g1,hpt,hA])|apply bn2 (by omega)|refine⟨by omega,?_⟩|fail
    all_goals exact hQ _ _ _ _ _ (.inr rfl) rfl ⟨rfl,hfail fun h=>hok (h.2.slv k hlt)⟩
  ·have hk4:k=4:=by omega
   subst hk4
   have hab:=bd9 hf boS hsl hvo
   by_cases hct:jS fo 3=jS fh 4
   case neg=>
    have hct':(jS fo 3=jS fh 4)=False:=eq_false hct
    have hno: ¬(aQ c∧COk c s):=fun⟨_,h⟩=>hct (by
     have:=h.count
     unfold hU at this
     rw[hfo,hfh]
     simp only[jS]
     omega)
    repeat' first|apply bn1<;>(simp only[go_sem,t1,bqT,bqC,g1,hct',hA])|apply bn3 (by omega)|fail
    all_goals exact hQ _ _ _ _ _ (.inr rfl) rfl ⟨rfl,hfail hno⟩
   have hct':(jS fo 3=jS fh 4)=True:=eq_true hct
   repeat' first| (first|apply bn1|refine bdE hab (fun H' nx' hx' ffr=> ?_))<;>(simp only[go_sem,t1,bqT,bqC,g1,hct',hA])|apply bn3 (by omega)|fail
   have boU:=(ffr 0 (by omega)).trans bqC
   refine⟨fun _=>by rw[boU];rfl,?_⟩
   apply aVW hb hab.st
   simp only[go_sem]
   repeat' first|apply bn1<;>(simp only[go_sem,boU])|fail
   refine hQ _ _ _ _ _ (.inr rfl) rfl ⟨rfl,congrArg dB ?_⟩
   by_cases hst:BA c (cX s)
   ·rw[aXJ hst]
    refine(bfB hb ⟨⟨by have:=hatm.1.1;omega,hatm.1.2,by have:=hatm.2.1;omega,hatm.2.2⟩,hpl,hsl,hpo,hvo,?_,hst⟩).symm
    unfold hU
    rw[hfo,hfh] at hct
    simp only[jS] at hct
    omega
   ·rw[aWH hst,beP fun h=>hst h.2.st]
theorem bd4 {c:Cfg} {s:CSt} (hcf:jO c) (hf:beL s) (h:K (dB (cyB c s)) H nx):aB Tryz.prog mW [boR (cU c),boR (eI s)] H nx K:=
 (bd0 c s hcf hf).pure rfl (aI ⟨aE rfl,aE rfl,trivial⟩) fun r hr=>hr▸h
end
end Go.Proofs.YtmccpdapaccnoaaGreat
namespace Go.AM
structure bh6 (s:CSt):Prop where
 pl:s.bM.length=3
 sl:s.dD.length=4
 w:s.words.length≤64
 h:s.holds.length≤6
 t:s.told.length≤36
 td: ∀j∈s.told,j.rsp.data.length<2^20
 port: ∀k,k<3→(aF s k).queue.length≤2∧(aF s k).out.length≤4
 slv: ∀k,k<4→(aL s k).pipe.length≤2∧(aL s k).done.length≤2∧ ∀j∈(aL s k).done,j.rsp.data.length<2^20
variable{s:CSt}
theorem COk.base{c:Cfg} (hb:aQ c) (h:COk c s):bh6 s:=by
 obtain⟨hwl,_,hhl,_⟩:=h.atm
 have htl:s.told.length≤36:=by have:=h.st.lens hb;simp only[cX] at this;omega
 refine⟨h.pl,h.sl,by omega,by omega,htl,fun j hj=> ?_,fun k hk=> ?_,fun k hk=>⟨(h.slv k hk).pl,(h.slv k hk).dl,fun j hj=> ?_⟩⟩
 ·have:=(h.st.R8 j (brH _ hj)).1
  unfold pA at this;omega
 ·have h1:=(h.port k hk).ql;have h2:=(h.port k hk).ol;omega
 ·have:=((h.slv k hk).rsp j hj).1
  unfold pA at this;omega
structure bjY (s:CSt):Prop where
 pl:s.bM.length=3
 sl:s.dD.length=4
 w:s.words.length≤65
 h:s.holds.length≤6
 t:s.told.length≤37
 td: ∀j∈s.told,j.rsp.data.length<2^20
 port: ∀k,k<3→(aF s k).queue.length≤3∧(aF s k).out.length≤5
 slv: ∀k,k<4→(aL s k).pipe.length≤3∧(aL s k).done.length≤3∧ ∀j∈(aL s k).done,j.rsp.data.length<2^20
 qs:(aF s 0).queue.length+(aF s 1).queue.length+(aF s 2).queue.length≤7
theorem bj3 (hpl:s.bM.length=3) (hsl:s.dD.length=4):(qU s).length=(aF s 0).queue.length+(aF s 1).queue.length+(aF s 2).queue.length+((aL s 0).pipe.length+(aL s 1).pipe.length+(aL s 2).pipe.length+(aL s 3).pipe.length):=by
 unfold qU jJ hJ
 rw[hpl,hsl]
 simp[brP]
 omega
theorem bjY.fit (h:bjY s):beL s∧bdV s:=by
 have hcf:beL s:=by
  refine⟨by have:=h.w;omega,by have:=h.h;omega,by have:=h.t;omega,fun j hj=>by have:=h.td j hj;omega,by have:=h.pl;omega,by have:=h.sl;omega,fun k=> ?_,fun k=> ?_⟩
  ·by_cases hk:k<3
   ·have:=h.port k hk;omega
   ·have:aF s k=default:=by unfold aF;rw[List.getD,Z3 (by have:=h.pl;omega)];rfl
    rw[this];exact⟨by decide,by decide⟩
  ·by_cases hk:k<4
   ·have:=h.slv k hk;exact⟨by omega,by omega,fun j hj=>by have:=this.2.2 j hj;omega⟩
   ·have:aL s k=default:=by unfold aL;rw[List.getD,Z3 (by have:=h.sl;omega)];rfl
    rw[this];exact⟨by decide,by decide,fun j hj=>by cases hj⟩
 have hd:=be0 (b:=3) (s:=s) (by have:=h.sl;omega) fun k hk=>(h.slv k (by have:=h.sl;omega)).2.1
 have hw:=bj3 h.pl h.sl
 have q:=h.qs
 have bqS:=(h.slv 0 (by omega)).1
 have p1:=(h.slv 1 (by omega)).1
 have p2:=(h.slv 2 (by omega)).1
 have p3:=(h.slv 3 (by omega)).1
 exact⟨hcf,bfE hcf h.pl (by have:=h.sl;omega) (fun k hk=>(h.port k hk).1) (fun k hk=>⟨(h.slv k (by have:=h.sl;omega)).1,(h.slv k (by have:=h.sl;omega)).2.1⟩) (by omega) (by omega)⟩
theorem bh6.bj4 (h:bh6 s):bjY s:=by
 have bqS:=(h.port 0 (by omega)).1
 have p1:=(h.port 1 (by omega)).1
 have p2:=(h.port 2 (by omega)).1
 exact⟨h.pl,h.sl,by have:=h.w;omega,h.h,by have:=h.t;omega,h.td,fun k hk=>by have:=h.port k hk;omega,fun k hk=>by have:=h.slv k hk;exact⟨by omega,by omega,this.2.2⟩,by omega⟩
theorem bh6.aEL (h:bh6 s){k:Nat} (hk:k<3){p:fR} (hq:p.queue.length≤3) (ho:p.out.length≤5):bjY {s with bM:=s.bM.set k p}:=by
 have hp: ∀j,aF {s with bM:=s.bM.set k p} j=if j=k then p else aF s j:=bL rfl (by rw[h.pl];exact hk)
 have n:=h.bj4
 refine⟨by simpa using h.pl,h.sl,n.w,n.h,n.t,n.td,fun j hj=> ?_,n.slv,?_⟩
 ·rw[hp]
  split
  ·exact⟨hq,ho⟩
  ·exact n.port j hj
 ·rw[hp,hp,hp]
  have bqS:=(h.port 0 (by omega)).1
  have p1:=(h.port 1 (by omega)).1
  have p2:=(h.port 2 (by omega)).1
  split
  ·rw[if_neg (by omega),if_neg (by omega)];omega
  ·split
   ·rw[if_neg (by omega)];omega
   ·split<;>omega
theorem bh6.bkF (h:bh6 s){k:Nat} (hk:k<4){v:nY} (hp:v.pipe.length≤3) (hd:v.done.length≤3) (hr: ∀j∈v.done,j.rsp.data.length<2^20):bjY {s with dD:=s.dD.set k v}:=by
 have hv: ∀j,aL {s with dD:=s.dD.set k v} j=if j=k then v else aL s j:=bO rfl (by rw[h.sl];exact hk)
 have n:=h.bj4
 refine⟨h.pl,by simpa using h.sl,n.w,n.h,n.t,n.td,n.port,fun j hj=> ?_,n.qs⟩
 rw[hv]
 split
 ·exact⟨hp,hd,hr⟩
 ·exact n.slv j hj
theorem bh6.bkG (h:bh6 s){t:List Job} (ht:t.length≤37) (hd: ∀j∈t,j.rsp.data.length<2^20):bjY {s with told:=t}:=by
 have n:=h.bj4
 exact⟨n.pl,n.sl,n.w,n.h,ht,hd,n.port,n.slv,n.qs⟩
theorem bh6.bkM (h:bh6 s){w u:List Int} (hw:w.length≤65) (hu:u.length≤6):bjY {s with words:=w,holds:=u}:=by
 have n:=h.bj4
 exact⟨n.pl,n.sl,hw,hu,n.t,n.td,n.port,n.slv,n.qs⟩
variable{nm:Nat→Nat}{cells:List D1}
theorem abY.aEL{G W:aA}{nm':Nat→Nat}{k mp:Nat}{p:fR}{r:List D1}{rows:List (List D1)} (h:abY G nm s cells) (hpl:s.bM.length=3) (hk:k<3)
 (bqK:G (nm 2)=some ⟨4,mp,rows⟩) (aYL:W (nm 2)=some ⟨4,mp,rows.set k r⟩) (boS:CX W (nm' (5+k)) (nm' (8+k)) p r) (hn: ∀a,a<19→a≠5+k→a≠8+k→nm' a=nm a)
 (hf: ∀a,a<19→a≠2→a≠5+k→a≠8+k→W (nm a)=G (nm a)):abY W nm' {s with bM:=s.bM.set k p} cells:=by
 have hp: ∀j,aF {s with bM:=s.bM.set k p} j=if j=k then p else aF s j:=bL rfl (by rw[hpl];exact hk)
 obtain⟨⟨wc,hc,pc,vc,tc,rfl,q1,q2,q3,q4,q5⟩,⟨m,R,j1,j2,j3⟩,⟨mv,rv,j4,j5,j6⟩⟩:=h
 rw[bqK] at j1
 cases j1
 have boU:=hn 0 (by omega) (by omega) (by omega)
 have e1:=hn 1 (by omega) (by omega) (by omega)
 have e2:=hn 2 (by omega) (by omega) (by omega)
 have e3:=hn 3 (by omega) (by omega) (by omega)
 have e4:=hn 4 (by omega) (by omega) (by omega)
 refine⟨⟨wc,hc,pc,vc,tc,by rw[U2,U2,boU,e1,e2,e3,e4],?_,?_,?_,q4,q5⟩,⟨mp,rows.set k r,by rw[e2];exact aYL,by rw[Y5];exact j2,fun j hj=> ?_⟩,⟨mv,rv,by rw[e3,hf 3 (by omega) (by omega) (by omega) (by omega)];exact j4,j5,fun j hj=> ?_⟩⟩
 ·rw[boU];exact q1.frame (hf 0 (by omega) (by omega) (by omega) (by omega))
 ·rw[e1];exact q2.frame (hf 1 (by omega) (by omega) (by omega) (by omega))
 ·rw[e4];exact q3.frame (hf 4 (by omega) (by omega) (by omega) (by omega))
 ·rw[hp]
  by_cases hjk:j=k
  ·subst hjk
   exact⟨r,by rw[bqZ (by omega)],by rw[if_pos rfl];exact boS⟩
  ·obtain⟨r0,h1,h2⟩:=j3 j hj
   rw[if_neg hjk,hn (5+j) (by omega) (by omega) (by omega),hn (8+j) (by omega) (by omega) (by omega)]
   exact⟨r0,by rw[bq0 (by omega)];exact h1,h2.frame (hf _ (by omega) (by omega) (by omega) (by omega)) (hf _ (by omega) (by omega) (by omega) (by omega))⟩
 ·obtain⟨r0,h1,h2⟩:=j6 j hj
  rw[hn (11+j) (by omega) (by omega) (by omega),hn (15+j) (by omega) (by omega) (by omega)]
  exact⟨r0,h1,h2.frame (hf _ (by omega) (by omega) (by omega) (by omega)) (hf _ (by omega) (by omega) (by omega) (by omega))⟩
theorem abY.bkF{G W:aA}{nm':Nat→Nat}{k mp:Nat}{v:nY}{r:List D1}{rows:List (List D1)} (h:abY G nm s cells) (hsl:s.dD.length=4) (hk:k<4)
 (bqK:G (nm 3)=some ⟨3,mp,rows⟩) (aYL:W (nm 3)=some ⟨3,mp,rows.set k r⟩) (boS:LJ W (nm' (11+k)) (nm' (15+k)) v r) (hn: ∀a,a<19→a≠11+k→a≠15+k→nm' a=nm a)
 (hf: ∀a,a<19→a≠3→a≠11+k→a≠15+k→W (nm a)=G (nm a)):abY W nm' {s with dD:=s.dD.set k v} cells:=by
 have hp: ∀j,aL {s with dD:=s.dD.set k v} j=if j=k then v else aL s j:=bO rfl (by rw[hsl];exact hk)
 obtain⟨⟨wc,hc,pc,vc,tc,rfl,q1,q2,q3,q4,q5⟩,⟨m,R,j1,j2,j3⟩,⟨mv,rv,j4,j5,j6⟩⟩:=h
 rw[bqK] at j4
 cases j4
 have boU:=hn 0 (by omega) (by omega) (by omega)
 have e1:=hn 1 (by omega) (by omega) (by omega)
 have e2:=hn 2 (by omega) (by omega) (by omega)
 have e3:=hn 3 (by omega) (by omega) (by omega)
 have e4:=hn 4 (by omega) (by omega) (by omega)
 refine⟨⟨wc,hc,pc,vc,tc,by rw[U2,U2,boU,e1,e2,e3,e4],?_,?_,?_,q4,q5⟩,⟨m,R,by rw[e2,hf 2 (by omega) (by omega) (by omega) (by omega)];exact j1,j2,fun j hj=> ?_⟩,⟨mp,rows.set k r,by rw[e3];exact aYL,by rw[Y5];exact j5,fun j hj=> ?_⟩⟩
 ·rw[boU];exact q1.frame (hf 0 (by omega) (by omega) (by omega) (by omega))
 ·rw[e1];exact q2.frame (hf 1 (by omega) (by omega) (by omega) (by omega))
 ·rw[e4];exact q3.frame (hf 4 (by omega) (by omega) (by omega) (by omega))
 ·obtain⟨r0,h1,h2⟩:=j3 j hj
  rw[hn (5+j) (by omega) (by omega) (by omega),hn (8+j) (by omega) (by omega) (by omega)]
  exact⟨r0,h1,h2.frame (hf _ (by omega) (by omega) (by omega) (by omega)) (hf _ (by omega) (by omega) (by omega) (by omega))⟩
 ·rw[hp]
  by_cases hjk:j=k
  ·subst hjk
   exact⟨r,by rw[bqZ (by omega)],by rw[if_pos rfl];exact boS⟩
  ·obtain⟨r0,h1,h2⟩:=j6 j hj
   rw[if_neg hjk,hn (11+j) (by omega) (by omega) (by omega),hn (15+j) (by omega) (by omega) (by omega)]
   exact⟨r0,by rw[bq0 (by omega)];exact h1,h2.frame (hf _ (by omega) (by omega) (by omega) (by omega)) (hf _ (by omega) (by omega) (by omega) (by omega))⟩
theorem abY.bkG{G W:aA}{id0 cap wc hc pc vc tc:Nat}{t:List Job} (h:abY G nm s [.osl 1 (nm 0) 0 s.words.length wc,.osl 1 (nm 1) 0 s.holds.length hc,.osl 4 (nm 2) 0 3 pc,.osl 3 (nm 3) 0 4 vc,.osl 5 (nm 4) 0 s.told.length tc])
 (aAI:tZ W 5 id0 0 t.length cap (t.map aS)) (hf: ∀a,a<19→a≠4→W (nm a)=G (nm a)):
 abY W (put nm 4 id0) {s with told:=t} [.osl 1 (nm 0) 0 s.words.length wc,.osl 1 (nm 1) 0 s.holds.length hc,.osl 4 (nm 2) 0 3 pc,.osl 3 (nm 3) 0 4 vc,.osl 5 id0 0 t.length cap]:=by
 obtain⟨⟨wc',hc',pc',vc',tc',e,q1,q2,q3,q4,q5⟩,⟨m,R,j1,j2,j3⟩,⟨mv,rv,j4,j5,j6⟩⟩:=h
 simp only[U2,List.cons.injEq,D1.osl.injEq,true_and,and_true] at e
 obtain⟨rfl,rfl,rfl,rfl,rfl⟩:=e
 refine⟨⟨wc,hc,pc,vc,cap,?_,?_,?_,?_,q4,q5⟩,⟨m,R,by rw[jE (by omega),hf 2 (by omega) (by omega)];exact j1,j2,fun j hj=> ?_⟩,⟨mv,rv,by rw[jE (by omega),hf 3 (by omega) (by omega)];exact j4,j5,fun j hj=> ?_⟩⟩
 ·rw[U2,jE (by omega),jE (by omega),jE (by omega),jE (by omega),t8]
 ·rw[jE (by omega)];exact q1.frame (hf 0 (by omega) (by omega))
 ·rw[jE (by omega)];exact q2.frame (hf 1 (by omega) (by omega))
 ·rw[t8];exact aAI
 ·obtain⟨r0,h1,h2⟩:=j3 j hj
  rw[jE (by omega),jE (by omega)]
  exact⟨r0,h1,h2.frame (hf _ (by omega) (by omega)) (hf _ (by omega) (by omega))⟩
 ·obtain⟨r0,h1,h2⟩:=j6 j hj
  rw[jE (by omega),jE (by omega)]
  exact⟨r0,h1,h2.frame (hf _ (by omega) (by omega)) (hf _ (by omega) (by omega))⟩
theorem abY.bkJ{H:aA}{F:Nat→Prop}{c0 c1 c2 c3 c4:D1} (h:abY H nm s [c0,c1,c2,c3,c4]) (hF: ∀k,k<19→F (nm k)) (hp:s.bM.length=3) (hs:s.dD.length=4):
 Frz H F (.isl (s.words.map aJ)) c0∧Frz H F (.isl (s.holds.map aJ)) c1∧Frz H F (.isl (s.bM.map cD)) c2∧Frz H F (.isl (s.dD.map gF)) c3∧Frz H F (.isl (s.told.map aS)) c4:=by
 have hf:=h.VI hF hp hs
 obtain⟨d0,boU,bfZ⟩:=hf.2 0 _ rfl
 obtain⟨d1,e1,bpR⟩:=hf.2 1 _ rfl
 obtain⟨d2,e2,f2⟩:=hf.2 2 _ rfl
 obtain⟨d3,e3,bpS⟩:=hf.2 3 _ rfl
 obtain⟨bkS,e4,bpT⟩:=hf.2 4 _ rfl
 cases boU;cases e1;cases e2;cases e3;cases e4
 exact⟨bfZ,bpR,f2,bpS,bpT⟩
theorem abY.bkD{H:aA}{F:Nat→Prop}{cap:Nat} (h:abY H nm s cells) (hF: ∀k,k<19→F (nm k)) (hs:s.dD.length=4) (hc:3≤cap):Frz H F (.isl ((s.dD.drop 1).map gF)) (.osl 3 (nm 3) 1 3 cap):=by
 obtain⟨m',rows',j4,j5,j6⟩:=h.dD
 refine QM (hF _ (by omega)) j4 rfl (by simp[hs]) (by dsimp only;omega) hc fun i r' hr=> ?_
 rw[p0,m4] at hr
 obtain⟨p,hr,rfl⟩:=hr
 rw[s5] at hr
 obtain⟨e1,e2⟩:=getD_some hr
 obtain⟨r,k1,k2⟩:=j6 (1+i) (by omega)
 rw[show aL s (1+i)=p from e1] at k2
 exact⟨rfl,r,k1,k2.VI (hF _ (by omega)) (hF _ (by omega))⟩
theorem bh6.drop {s:CSt} (h:bh6 s):beL {s with dD:=s.dD.drop 1}∧bdV {s with dD:=s.dD.drop 1}:=by
 have hv: ∀k,aL {s with dD:=s.dD.drop 1} k=aL s (1+k):=fun k=>by
  unfold aL;simp only[List.getD,s5]
 have n:=h.bj4.fit.1
 have hcf:beL {s with dD:=s.dD.drop 1}:=by
  refine⟨n.w,n.h,n.t,n.td,n.pl,by rw[CI];have:=n.sl;omega,n.port,fun k=> ?_⟩
  rw[hv];exact n.slv (1+k)
 have hsl:(s.dD.drop 1).length=3:=by rw[CI,h.sl]
 have hq: ∀k,k<3→(aF {s with dD:=s.dD.drop 1} k).queue.length≤2:=fun k hk=>(h.port k hk).1
 have hp: ∀k,k<(s.dD.drop 1).length→(aL {s with dD:=s.dD.drop 1} k).pipe.length≤2:=fun k hk=>by rw[hv];exact(h.slv (1+k) (by omega)).1
 have hd: ∀k,k<(s.dD.drop 1).length→(aL {s with dD:=s.dD.drop 1} k).done.length≤2:=fun k hk=>by rw[hv];exact(h.slv (1+k) (by omega)).2.1
 have h4:=be1 (s:={s with dD:=s.dD.drop 1}) h.pl (by dsimp only;omega) hq hp
 have h5:=be0 (s:={s with dD:=s.dD.drop 1}) (by dsimp only;omega) hd
 exact⟨hcf,bfE hcf h.pl (by dsimp only;omega) (fun k hk=>by have:=hq k hk;omega) (fun k hk=>⟨by have:=hp k hk;omega,by have:=hd k hk;omega⟩) (by omega) (by omega)⟩
end Go.AM
