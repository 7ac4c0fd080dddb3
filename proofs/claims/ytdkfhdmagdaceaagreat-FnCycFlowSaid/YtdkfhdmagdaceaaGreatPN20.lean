/- Texts laid together by a program: rules, contracts and the walk that leads to the law. -/
import Derived.Test.YtdkfhdmagdaceaaGreatPN17
set_option linter.unusedVariables false
set_option linter.unusedSimpArgs false
set_option linter.unusedSectionVars false
set_option maxRecDepth 100000
set_option maxHeartbeats 8000000
namespace Go.AM
noncomputable def slB (c:Cfg) (s:CSt) (st:Nat):Bool:=@decide (Z0 c s st) (Classical.propDecidable _)
variable{s:CSt}{st:Nat}
theorem beR{c:Cfg} (h:Z0 c s st):slB c s st=true:=by simp[slB,h]
theorem a6D{c:Cfg} (h: ¬Z0 c s st):slB c s st=false:=by simp[slB,h]
structure a19 (c:Cfg) (s:CSt):Prop where
 pl:s.bM.length=3
 port: ∀k,k<3→mD c k (aF s k)
structure bdP (s:CSt) (st:Nat) (u:List Int) (x:Int×Int):Prop where
 who:0≤x.1∧x.1≤2
 last:u.getD x.1.toNat default<x.2
 bf0:0≤bK (isC x.2) (aF s x.1.toNat).out
 aAM:(bK (isC x.2) (aF s x.1.toNat).out).toNat<(aF s x.1.toNat).out.length
 aAN:((aF s x.1.toNat).out.getD (bK (isC x.2) (aF s x.1.toNat).out).toNat default).left=st
structure bcU (s:CSt) (st:Nat) (V:List (Int×Int)) (k:Nat) (u:List Int):Prop where
 ul:u.length=3
 lst: ∀w,w<3→u.getD w default= -1∨ ∃i,i<k∧V[i]?=some ((w:Int),u.getD w default)
 all: ∀i x,i<k→V[i]?=some x→(0≤x.1∧x.1≤2)∧x.2≤u.getD x.1.toNat default∧ ∃j∈(aF s x.1.toNat).out,j.n=x.2∧j.left=st
 inc: ∀i j x y,i<j→j<k→V[i]?=some x→V[j]?=some y→x.1=y.1→x.2<y.2
theorem bcU.nil{V:List (Int×Int)}:bcU s st V 0 [-1,-1,-1]:=⟨rfl,fun w hw=>.inl (by rcases(show w=0∨w=1∨w=2 by omega) with rfl|rfl|rfl<;>rfl),fun i x hi=>by omega,fun i j x y _ a=>by omega⟩
theorem bcU.next{k:Nat}{V:List (Int×Int)}{u:List Int}{x:Int×Int} (h:bcU s st V k u) (e:V[k]?=some x) (b:bdP s st u x):bcU s st V (k+1) (u.set x.1.toNat x.2):=by
 have hw:=b.who;have f:=h.ul;have p:=b.last;have o: ∀w,(u.set x.1.toNat x.2).getD w default=if w=x.1.toNat then x.2 else u.getD w default:=fun w=>pY (by omega)
 refine⟨by simp[f],fun w g=> ?_,fun i y hi a=> ?_,fun i j y z c t a l he=> ?_⟩
 ·rw[o];by_cases he:w=x.1.toNat;·right;refine⟨k,by omega,?_⟩;rw[if_pos he,e,he,show ((x.1.toNat:Nat):Int)=x.1 by omega]
  ·rw[if_neg he];exact(h.lst w g).imp (fun h=>h) fun⟨i,hi,d⟩=>⟨i,by omega,d⟩
 ·rw[o];by_cases m:i<k
  ·obtain⟨q,d,r⟩:=h.all i y m a;refine⟨q,?_,r⟩;split;·rename_i he;rw[he] at d;omega
   ·exact d
  ·obtain rfl:i=k:=by omega
   obtain rfl:x=y:=by rw[e] at a;exact Option.some.inj a
   refine⟨hw,by rw[if_pos rfl];omega,_,cC b.aAM,?_,b.aAN⟩;have:=(ajV b.bf0).2;exact of_decide_eq_true this
 ·by_cases n:j<k;·exact h.inc i j y z c n a l he
  ·obtain rfl:j=k:=by omega
   obtain rfl:x=z:=by rw[e] at l;exact Option.some.inj l
   have:=(h.all i y c a).2.1;rw[he] at this;omega
theorem bcU.bad{c:Cfg}{k:Nat}{u:List Int}{x:Int×Int} (hp:a19 c s) (hs:Z0 c s st) (h:bcU s st (cS (aL s st)) k u) (o:(cS (aL s st))[k]?=some x):bdP s st u x:=by
 obtain⟨g,a⟩:=m3.1 o;have hm:x∈cS (aL s st):=a▸Z5 g;obtain⟨hw,j,d,e,p⟩:=hs.out x hm;have b:=hp.port x.1.toNat (by omega);have q:=(b.out j d).2.1;have hex: ∃j∈(aF s x.1.toNat).out,j.n=x.2:=⟨j,d,e⟩
 obtain⟨az9,az2⟩:=PJ hex;refine⟨hw,?_,cH.2 ⟨j,d,decide_eq_true e⟩,az9,?_⟩
 ·rcases h.lst x.1.toNat (by omega) with l|⟨i,hi,l⟩
  ·omega
  ·obtain⟨f,r⟩:=m3.1 l;have m:=Z6.1 hs.inc i k f g hi;rw[r,a] at m;exact m (by dsimp only;omega)
 ·have:=ZO b.acX (cC az9) d (by rw[az2,e]);rw[this];exact p
theorem bdP.asks {c:Cfg} {s:CSt} {st:Nat} {u:List Int} {x:Int×Int} (hp:a19 c s) (h:bdP s st u x):oA c x.1 x.2:=by have hw:=h.who;have a:=hp.port x.1.toNat (by omega);have hm:=cC h.aAM;have d:((aF s x.1.toNat).out.getD (bK (isC x.2) (aF s x.1.toNat).out).toNat default).n=x.2:=of_decide_eq_true (ajV h.bf0).2;obtain⟨_,b,_⟩:=a.out _ hm;rw[d] at b;have:=a.asks (n:=x.2) (by omega) b.1 (by omega);rwa [show ((x.1.toNat:Nat):Int)=x.1 by omega] at this
theorem bcU.end{V:List (Int×Int)}{u:List Int} (h:bcU s st V V.length u):(V.Pairwise fun a b=>a.1=b.1→a.2<b.2)∧ ∀x∈V,(0≤x.1∧x.1≤2)∧ ∃j∈(aF s x.1.toNat).out,j.n=x.2∧j.left=st:=by
 refine⟨Z6.2 fun i j hi d c he=> ?_,fun x e=> ?_⟩;·exact h.inc i j _ _ c d (n1 hi) (n1 d) he
 ·obtain⟨i,hi,rfl⟩:=bqY.1 e;obtain⟨f,_,g⟩:=h.all i _ hi (n1 hi);exact⟨f,g⟩
end Go.AM
namespace Go.Proofs.YtdkfhdmagdaceaaGreat
open Go Go.AM
attribute [local irreducible] aM wv aB vd wvH
section
variable {H : aA} {nx : Nat} {K : D → aA → Nat → Prop}
theorem a04 {c:Cfg} {s:CSt} {st:Nat} {w n:Int} {u:List Int} {i0 i1 l:Nat} (hp:a19 c s) (hu:u.length=3) (A: ¬bdP s st u (w,n))
 (G:i0<nx∧i1<nx∧l<nx) (I:[i0,i1,l].Nodup) (v:H i0=some ⟨3,1,[u.map cI]⟩) (x:H i1=some ⟨5,1,[eI s]⟩) (y:H l=some ⟨1,1,[[cI st]]⟩)
 (h: ∀H' nx',nx≤nx'→K (dB false) H' nx'):
 aB Tryz.prog cO [boP w,boP n,.one (.c (.ptr 3 i0 0 0)),.one (.c (.ptr 5 i1 0 0)),.one (.c (.ptr 1 l 0 0))] H nx K:=by
 refine AP rfl fun Q z=> ?_
 unfold jP
 have m:bQ nx [i0,i1,l]:=AM.apart I (by simp;omega)
 simp only[bQ,eZ] at m
 by_cases hw:0≤w∧w≤2
 case neg=>
  have b:=decide_eq_false hw;repeat' first| (first|apply bn1|apply oR)<;>(simp only[go_sem,t1,bqT,brK,v,x,y,b,m])|fail
  all_goals first|exact z _ _ _ _ _ (.inr rfl) rfl (h _ _ (by omega))| (exfalso;omega)
 have b:=decide_eq_true hw
 obtain⟨who,rfl⟩: ∃who:Nat,w=who:=⟨w.toNat,by omega⟩
 have B:who<3:=by omega
 obtain⟨p,d⟩: ∃p,p=aF s who:=⟨_,rfl⟩
 have i:s.bM.getD who default=p:=d.symm
 have J:=hp.pl
 have C:=(hp.port who B).ol
 rw[←d] at C
 have j:((u.map cI).drop who).take 1=[cI (u.getD who default)]:=by rw[brB (by simp;omega)];simp[List.getD,show who<u.length by omega]
 have e:(u.map cI).length=3:=by rw[bqW,hu]
 have hle:(who+1≤3)=True:=eq_true (by omega)
 by_cases L:u.getD who default<n
 case neg=>
  have g:(n≤u.getD who default)=True:=eq_true (by omega);repeat' first| (first|apply bn1|apply oR)<;>(simp only[go_sem,t1,bqT,brK,v,x,y,j,e,hle,b,g,m])|refine⟨by omega,?_⟩|fail
  all_goals first|exact z _ _ _ _ _ (.inr rfl) rfl (h _ _ (by omega))| (exfalso;omega)
 have g:(n≤u.getD who default)=False:=eq_false (by omega)
 obtain⟨a,q⟩: ∃a,a=bK (isC n) p.out:=⟨_,rfl⟩
 have r: ∀{H:aA} {nx:Nat} {K:D→aA→Nat→Prop},K (boP a) H nx→aB Tryz.prog kV [boR (cD p),boP n] H nx K:=fun h=>KT (p:=p) (by omega) (aE rfl) (by rw[←q];exact h)
 by_cases f:0≤a
 case neg=>
  have k:(0≤a)=False:=eq_false f;repeat' first| (first|apply bn1|apply oR|apply r)<;>(simp only[go_sem,t1,bqT,brK,v,x,y,j,e,hle,i,b,g,k,m])|refine⟨by omega,?_⟩|fail
  all_goals first|exact z _ _ _ _ _ (.inr rfl) rfl (h _ _ (by omega))| (exfalso;omega)
 have k:(0≤a)=True:=eq_true f
 have E:a.toNat<p.out.length:=by rw[q] at f ⊢;exact(ajV f).1
 obtain⟨o,F⟩: ∃o,p.out.getD a.toNat default=o:=⟨_,rfl⟩
 have t:(o.left=(st:Int))=False:=eq_false fun he=>A ⟨hw,by rw[Int.toNat_natCast];exact L,by rw[Int.toNat_natCast,←d,←q];exact f,by rw[Int.toNat_natCast,←d,←q];exact E,by rw[Int.toNat_natCast,←d,←q,F];exact he⟩
 repeat' first| (first|apply bn1|apply oR|apply r)<;>(simp only[go_sem,t1,bqT,brK,v,x,y,j,e,hle,i,b,g,k,F,t,m])|refine⟨by omega,?_⟩|fail
 all_goals first|exact z _ _ _ _ _ (.inr rfl) rfl (h _ _ (by omega))| (exfalso;omega)
def beA (c:Cfg) (st i:Nat) (d:fC):Prop:=(0≤d.left∧d.left≤c.lat.getD st default)∧(0<i→d.left=c.lat.getD st default)
theorem a5G (c:Cfg) (s:CSt) (st:Nat) (hb:aQ c) (hp:a19 c s) (bk:s.dD.length=4) (ar:st<4) (au:(aL s st).pipe.length<2^21) (aw:(aL s st).done.length<2^21) (aj: ∀j∈(aL s st).done,j.rsp.data.length<2^21):
 aB Tryz.prog iX [boR (cU c),boR (eI s),boP st] .nil 0 fun r _ _=>r.plain=true∧r=dB (slB c s st):=by
 refine BX rfl fun Q hQ=> ?_
 unfold lB
 obtain⟨v,g⟩: ∃v,v=aL s st:=⟨_,rfl⟩
 have aa:s.dD.getD st default=v:=g.symm
 rw[←g] at au aw aj
 by_cases h0:(v.pipe.length:Int)≤2∧(v.done.length:Int)≤2∧0≤v.last∧v.last≤2
 case neg=>
  have ax: ¬Z0 c s st:=fun h=>h0 ⟨by have:=h.pl;rw[←g] at this;omega,by have:=h.dl;rw[←g] at this;omega,by have:=h.last;rw[←g] at this;omega⟩;repeat' first| (first|apply bn1|refine bpL (fun h=> ?_) fun h=> ?_|apply oR)<;>(simp only[go_sem,aa])|apply bn2 (by omega)|refine⟨by omega,?_⟩|fail
  all_goals first|exact hQ _ _ _ _ _ (.inr rfl) rfl ⟨rfl,congrArg dB (a6D ax).symm⟩| (exfalso;omega)
 obtain⟨bm,S,ak,al⟩:=h0
 have ay:=decide_eq_true (show 0≤v.last∧v.last≤2 from ⟨ak,al⟩)
 repeat' first| (first|apply bn1|apply bpK (by omega)|apply oR)<;>(simp only[go_sem,aa,ay])|refine⟨by omega,?_⟩|fail
 refine aM.abC fun bqO T=> ?_
 have c0:bqO 0=some ⟨3,1,[cU c]⟩:=by rw[T];rfl
 have c1:bqO 1=some ⟨5,1,[eI s]⟩:=by rw[T];rfl
 have c2:bqO 2=some ⟨1,1,[[cI st]]⟩:=by rw[T];rfl
 have bf1:bqO 9=some ⟨3,1,[gF v]⟩:=by rw[T];rfl
 have az:bqO 28=some ⟨3,1,[([-1,-1,-1]:List Int).map cI]⟩:=by rw[T];rfl
 clear T
 have an:=(hC hb).1
 have ao:=hb.2.1
 have ba:=S0 hb ar
 have hV: ∀k,k<v.done.length→(cS (aL s st))[k]?=some (key (v.done.getD k default)):=fun k hk=>by rw[←g];unfold cS;rw[brO (by simpa using hk)];simp[List.getD,hk]
 have bb: ∀k,k<v.pipe.length→(cS (aL s st))[v.done.length+k]?=some ((v.pipe.getD k default).who,(v.pipe.getD k default).n):=fun k hk=>by rw[←g];unfold cS;rw[brX (by simp)];simp[List.getD,hk]
 have bc:(cS (aL s st)).length=v.done.length+v.pipe.length:=by rw[←g];simp[cS]
 have J: ∀{H:aA} {F:Nat→Prop} {nh:Nat},36≤nh→Cv1 H F id nh (.clo cO [.ptr 3 28 0 0,.ptr 5 1 0 0,.ptr 1 2 0 0]) (.clo cO [.ptr 3 28 0 0,.ptr 5 1 0 0,.ptr 1 2 0 0]):=fun h=>akM fun x hx=>by
  simp only[t3,bq7,or_false] at hx;rcases hx with rfl|rfl|rfl;·exact⟨_,_,_,_,by omega,rfl⟩
  ·exact⟨_,_,_,_,by omega,rfl⟩
  ·exact⟨_,_,_,_,by omega,rfl⟩
 have q:=hp.pl
 refine aM.gP (β:=Nat×List Int) (fun u=>en [(40,boP u.1),(39,boP v.done.length),(38,dS (v.done.map aS)),(9,.one (.c (.clo cO [.ptr 3 28 0 0,.ptr 5 1 0 0,.ptr 1 2 0 0]))),(7,.one (.c (.ptr 3 9 0 0))),(5,.one (.c (.ptr 1 2 0 0))),(3,.one (.c (.ptr 3 0 0 0)))])
  (fun u H1 _=>u.1≤v.done.length∧bcU s st (cS (aL s st)) u.1 u.2∧(∀i,i<u.1→as5 c (v.done.getD i default))∧H1 28=some ⟨3,1,[u.2.map cI]⟩∧ ∀id,id<36→id≠28→H1 id=bqO id) (fun u=>v.done.length-u.1) (0,[-1,-1,-1])
  ⟨noF,_,by(repeat' first|exact bo2|refine xqI rfl rfl ?_|refine xqP (by omega) rfl rfl ?_| (with_reducible apply bo3)| ((with_reducible apply bo1);apply bo7)|fail);all_goals exact J (by omega),aK,by dsimp only;omega,bcU.nil,fun i hi=>by dsimp only at hi;omega,az,fun _ _ _=>rfl⟩ ?_
 rintro⟨k,u⟩ H1 N bn ⟨hk,O,hR,b,m⟩ bpQ bd
 dsimp only at hk O hR b
 have bqC:H1 0=some ⟨3,1,[cU c]⟩:=by rw[m _ (by omega) (by omega)];exact c0
 have D:H1 1=some ⟨5,1,[eI s]⟩:=by rw[m _ (by omega) (by omega)];exact c1
 have E:H1 2=some ⟨1,1,[[cI st]]⟩:=by rw[m _ (by omega) (by omega)];exact c2
 have bp5:H1 9=some ⟨3,1,[gF v]⟩:=by rw[m _ (by omega) (by omega)];exact bf1
 have a:bQ N [0,1,2,9,28]:=AM.apart (by simp) (by simp;omega)
 simp only[bQ,eZ] at a
 have t:=O.ul
 by_cases U:k<v.done.length
 ·obtain⟨d,l⟩: ∃d,d=v.done.getD k default:=⟨_,rfl⟩
  have af:d∈(aL s st).done:=by rw[l,←g];exact cC U
  have hx:=hV k U;rw[←l] at hx;have ag:d.rsp.data.length<2^40:=by have h1:=aj d (by rw[g];exact af);omega
  by_cases hF:bdP s st u (key d)
  case neg=>
   repeat' first| (first|apply bn1| (refine a04 (c:=c) (w:=d.who) (n:=d.n) hp t hF (by omega) (by simp) (by simp only[aA.set,a,if_false];exact b) (by simp only[aA.set,a,if_false];exact D) (by simp only[aA.set,a,if_false];exact E) (fun H' nx' K=> ?_)))<;>(simp only[go_sem,t1,bqT,l.symm,bqC,D,E,b,a])|apply bn2 (by omega)|refine⟨by omega,?_⟩|fail
   repeat' first|apply bn1<;>(simp only[go_sem])|fail
   all_goals exact hQ _ _ _ _ _ (.inr rfl) rfl ⟨rfl,congrArg dB (a6D fun h=>hF (O.bad hp h hx)).symm⟩
  have V:=O.next hx hF;have X:=hF.asks hp;obtain⟨ah,W,z,A,B⟩:=hF;dsimp only[key] at ah W z A B V X;have L:d.who=(d.who.toNat:Int):=by omega
  have C:d.who.toNat<3:=by omega
  have M:(aF s d.who.toNat).out.length<2^40:=by have:=(hp.port _ C).ol;omega
  by_cases ad:pA d.rsp
  case neg=>
   have P:=decide_eq_false ad;repeat' first| (first|apply bn1| (refine kA (w:=d.who) (n:=d.n) L t C W q M z A B (by omega) (by simp) (by simp only[aA.set,a,if_false];exact b) (by simp only[aA.set,a,if_false];exact D) (by simp only[aA.set,a,if_false];exact E) (fun H' nx' K I f=> ?_)))<;>(simp only[go_sem,t1,bqT,l.symm,bqC,D,E,b,a])|apply bn2 (by omega)|refine⟨by omega,?_⟩|fail
   have boU:H' 0=some ⟨3,1,[cU c]⟩:=(by rw[f _ (by omega) (by omega)];simp only[aA.set,a,if_false];exact bqC);have G:H' (N+3)=some ⟨5,1,[aS d]⟩:=(by rw[f _ (by omega) (by omega)];exact aA.bH);have y:bQ nx' [0,1,2,9,28,N+3]:=AM.apart (by simp;omega) (by simp;omega);simp only[bQ,eZ] at y;simp only[go_sem,t1,bqT,boU,G,P,y];repeat' first| (first|apply bn1|apply I8 ag)<;>(simp only[go_sem,t1,bqT,boU,G,P,y])|fail
   all_goals exact hQ _ _ _ _ _ (.inr rfl) rfl ⟨rfl,congrArg dB (a6D fun h=>ad (h.rsp d af).1).symm⟩
  have P:=decide_eq_true ad;by_cases ae:d.rsp.id=(bT c d.who d.n).id
  case neg=>
   have bf:(d.rsp.id=(bT c d.who d.n).id)=False:=eq_false ae;repeat' first| (first|apply bn1| (refine kA (w:=d.who) (n:=d.n) L t C W q M z A B (by omega) (by simp) (by simp only[aA.set,a,if_false];exact b) (by simp only[aA.set,a,if_false];exact D) (by simp only[aA.set,a,if_false];exact E) (fun H' nx' K I f=> ?_)))<;>(simp only[go_sem,t1,bqT,l.symm,bqC,D,E,b,a])|apply bn2 (by omega)|refine⟨by omega,?_⟩|fail
   have boU:H' 0=some ⟨3,1,[cU c]⟩:=(by rw[f _ (by omega) (by omega)];simp only[aA.set,a,if_false];exact bqC);have G:H' (N+3)=some ⟨5,1,[aS d]⟩:=(by rw[f _ (by omega) (by omega)];exact aA.bH);have y:bQ nx' [0,1,2,9,28,N+3]:=AM.apart (by simp;omega) (by simp;omega);simp only[bQ,eZ] at y;simp only[go_sem,t1,bqT,boU,G,P,y];repeat' first| (first|apply bn1|apply I8 ag|apply iJ an X)<;>(simp only[go_sem,t1,bqT,boU,G,P,bf,y])|fail
   all_goals exact hQ _ _ _ _ _ (.inr rfl) rfl ⟨rfl,congrArg dB (a6D fun h=>ae (h.rsp d af).2).symm⟩
  repeat' first| (first|apply bn1| (refine kA (w:=d.who) (n:=d.n) L t C W q M z A B (by omega) (by simp) (by simp only[aA.set,a,if_false];exact b) (by simp only[aA.set,a,if_false];exact D) (by simp only[aA.set,a,if_false];exact E) (fun H' nx' K I f=> ?_)))<;>(simp only[go_sem,t1,bqT,l.symm,bqC,D,E,b,a])|apply bn2 (by omega)|refine⟨by omega,?_⟩|fail
  have boU:H' 0=some ⟨3,1,[cU c]⟩:=by rw[f _ (by omega) (by omega)];simp only[aA.set,a,if_false];exact bqC
  have G:H' (N+3)=some ⟨5,1,[aS d]⟩:=by rw[f _ (by omega) (by omega)];exact aA.bH
  have e: ∀id,id<36→id≠28→H' id=bqO id:=fun id boU R=>by rw[f id (by omega) R,aA.aC (by omega)];exact m id boU R
  have y:bQ nx' [0,1,2,9,28,N+3]:=AM.apart (by simp;omega) (by simp;omega);simp only[bQ,eZ] at y;simp only[go_sem,t1,bqT,boU,G,P,y];repeat' first| (first|apply bn1|apply I8 ag|apply iJ an X)<;>(simp only[go_sem,t1,bqT,boU,G,P,ae,y];try simp (disch:=omega) only[Iw])|fail
  exact bd _ _ _ (k+1,u.set d.who.toNat d.n) noF _ (by omega) (by dsimp only;omega) (by(repeat' first|exact bo2|refine xqI rfl rfl ?_|refine xqP (by omega) rfl rfl ?_| (with_reducible apply bo3)| ((with_reducible apply bo1);apply bo7)|fail);all_goals exact J (by omega)) aK ⟨by dsimp only;omega,V,iS hR (by rw[←l];exact⟨ad,ae⟩),I,e⟩
 ·repeat' first|apply bn1<;>(simp only[go_sem,bp5])|apply bn3 (by omega)|fail
  have bg:k=v.done.length:=by omega
  rw[bg] at O hR;clear U hk
  refine aM.gP (β:=Nat×List Int) (fun u=>en [(73,boP u.1),(72,boP v.pipe.length),(71,dS (v.pipe.map eCJ)),(9,.one (.c (.clo cO [.ptr 3 28 0 0,.ptr 5 1 0 0,.ptr 1 2 0 0]))),(5,.one (.c (.ptr 1 2 0 0))),(3,.one (.c (.ptr 3 0 0 0)))])
   (fun u H1 _=>u.1≤v.pipe.length∧bcU s st (cS (aL s st)) (v.done.length+u.1) u.2∧(∀i,i<u.1→beA c st i (v.pipe.getD i default))∧H1 28=some ⟨3,1,[u.2.map cI]⟩∧ ∀id,id<36→id≠28→H1 id=bqO id) (fun u=>v.pipe.length-u.1) (0,u)
   ⟨noF,_,by(repeat' first|exact bo2|refine xqI rfl rfl ?_|refine xqP (by omega) rfl rfl ?_| (with_reducible apply bo3)| ((with_reducible apply bo1);apply bo7)|fail);all_goals exact J (by omega),aK,by dsimp only;omega,O,fun i hi=>by dsimp only at hi;omega,b,m⟩ ?_
  clear O b m bqC D E bp5 a t;rintro⟨k,u⟩ H2 Y bh ⟨hk,O,hL,b,m⟩ bqG aq;dsimp only at hk O hL b;have bqC:H2 0=some ⟨3,1,[cU c]⟩:=by rw[m _ (by omega) (by omega)];exact c0
  have D:H2 1=some ⟨5,1,[eI s]⟩:=by rw[m _ (by omega) (by omega)];exact c1
  have E:H2 2=some ⟨1,1,[[cI st]]⟩:=by rw[m _ (by omega) (by omega)];exact c2
  have a:bQ Y [0,1,2,9,28]:=AM.apart (by simp) (by simp;omega);simp only[bQ,eZ] at a;have t:=O.ul;by_cases U:k<v.pipe.length
  ·obtain⟨d,l⟩: ∃d,d=v.pipe.getD k default:=⟨_,rfl⟩
   have hx:=bb k U;rw[←l] at hx;by_cases hF:bdP s st u (d.who,d.n)
   case neg=>
    repeat' first| (first|apply bn1| (refine a04 (c:=c) (w:=d.who) (n:=d.n) hp t hF (by omega) (by simp) (by simp only[aA.set,a,if_false];exact b) (by simp only[aA.set,a,if_false];exact D) (by simp only[aA.set,a,if_false];exact E) (fun H' nx' K=> ?_)))<;>(simp only[go_sem,t1,bqT,l.symm,bqC,D,E,b,a])|apply bn2 (by omega)|refine⟨by omega,?_⟩|fail
    repeat' first|apply bn1<;>(simp only[go_sem])|fail
    all_goals exact hQ _ _ _ _ _ (.inr rfl) rfl ⟨rfl,congrArg dB (a6D fun h=>hF (O.bad hp h hx)).symm⟩
   have V:=O.next hx hF;obtain⟨ah,W,z,A,B⟩:=hF;dsimp only at ah W z A B V;have L:d.who=(d.who.toNat:Int):=(by omega);have C:d.who.toNat<3:=(by omega);have M:(aF s d.who.toNat).out.length<2^40:=by have:=(hp.port _ C).ol;omega
   have ab: ¬beA c st k d→¬Z0 c s st:=fun W h=>W (by
    have:=h.left k (by rw[←g];exact U)
    rw[←g,←l] at this
    exact this)
   rcases CR k with h0|h0
   ·have o:((k:Int)=0)=True:=eq_true (by omega);have p:(0<(k:Int))=False:=eq_false (by omega);by_cases hl:0≤d.left∧d.left≤c.lat.getD st default
    ·have S:=decide_eq_true hl;repeat' first| (first|apply bn1| (refine kA (w:=d.who) (n:=d.n) L t C W q M z A B (by omega) (by simp) (by simp only[aA.set,a,if_false];exact b) (by simp only[aA.set,a,if_false];exact D) (by simp only[aA.set,a,if_false];exact E) (fun H' nx' K I f=> ?_)))<;>(simp only[go_sem,t1,bqT,l.symm,bqC,D,E,b,o,p,a])|apply bn2 (by omega)|refine⟨by omega,?_⟩|fail
     have e: ∀id,id<36→id≠28→H' id=bqO id:=fun id boU R=>by rw[f id (by omega) R,aA.aC (by omega)];exact m id boU R
     have boU:H' 0=some ⟨3,1,[cU c]⟩:=(e _ (by omega) (by omega)).trans c0;have Z:H' 2=some ⟨1,1,[[cI st]]⟩:=(e _ (by omega) (by omega)).trans c2;have G:H' (Y+4)=some ⟨3,1,[eCJ d]⟩:=(by rw[f _ (by omega) (by omega)];exact aA.bH);simp only[go_sem,t1,bqT,boU,Z,G,S,o,p,a];repeat' first| (first|apply bn1|apply fE)<;>(simp only[go_sem,t1,bqT,boU,Z,G,S,o,p,a];try simp (disch:=omega) only[Iw])|refine⟨by omega,?_⟩|fail
     all_goals exact aq _ _ _ (k+1,u.set d.who.toNat d.n) noF _ (by omega) (by dsimp only;omega) (by(repeat' first|exact bo2|refine xqI rfl rfl ?_|refine xqP (by omega) rfl rfl ?_| (with_reducible apply bo3)| ((with_reducible apply bo1);apply bo7)|fail);all_goals exact J (by omega)) aK ⟨by dsimp only;omega,V,iS hL (by rw[←l];exact⟨hl,fun h=>by omega⟩),I,e⟩
    ·have S:=decide_eq_false hl;repeat' first| (first|apply bn1| (refine kA (w:=d.who) (n:=d.n) L t C W q M z A B (by omega) (by simp) (by simp only[aA.set,a,if_false];exact b) (by simp only[aA.set,a,if_false];exact D) (by simp only[aA.set,a,if_false];exact E) (fun H' nx' K I f=> ?_)))<;>(simp only[go_sem,t1,bqT,l.symm,bqC,D,E,b,o,p,a])|apply bn2 (by omega)|refine⟨by omega,?_⟩|fail
     have e: ∀id,id<36→id≠28→H' id=bqO id:=fun id boU R=>by rw[f id (by omega) R,aA.aC (by omega)];exact m id boU R
     have boU:H' 0=some ⟨3,1,[cU c]⟩:=(e _ (by omega) (by omega)).trans c0;have Z:H' 2=some ⟨1,1,[[cI st]]⟩:=(e _ (by omega) (by omega)).trans c2;have G:H' (Y+4)=some ⟨3,1,[eCJ d]⟩:=(by rw[f _ (by omega) (by omega)];exact aA.bH);simp only[go_sem,t1,bqT,boU,Z,G,S,o,p,a];repeat' first| (first|apply bn1|apply fE)<;>(simp only[go_sem,t1,bqT,boU,Z,G,S,o,p,a])|refine⟨by omega,?_⟩|fail
     all_goals exact hQ _ _ _ _ _ (.inr rfl) rfl ⟨rfl,congrArg dB (a6D (ab fun h=>hl h.1)).symm⟩
   ·have o:((k:Int)=0)=False:=eq_false (by omega);have p:(0<(k:Int))=True:=eq_true (by omega);by_cases hl:d.left=c.lat.getD st default
    ·have ai:(d.left=c.lat.getD st default)=True:=eq_true hl;repeat' first| (first|apply bn1| (refine kA (w:=d.who) (n:=d.n) L t C W q M z A B (by omega) (by simp) (by simp only[aA.set,a,if_false];exact b) (by simp only[aA.set,a,if_false];exact D) (by simp only[aA.set,a,if_false];exact E) (fun H' nx' K I f=> ?_)))<;>(simp only[go_sem,t1,bqT,l.symm,bqC,D,E,b,o,p,a])|apply bn2 (by omega)|refine⟨by omega,?_⟩|fail
     have e: ∀id,id<36→id≠28→H' id=bqO id:=fun id boU R=>by rw[f id (by omega) R,aA.aC (by omega)];exact m id boU R
     have boU:H' 0=some ⟨3,1,[cU c]⟩:=(e _ (by omega) (by omega)).trans c0;have Z:H' 2=some ⟨1,1,[[cI st]]⟩:=(e _ (by omega) (by omega)).trans c2;have G:H' (Y+4)=some ⟨3,1,[eCJ d]⟩:=(by rw[f _ (by omega) (by omega)];exact aA.bH);simp only[go_sem,t1,bqT,boU,Z,G,o,p,a];repeat' first|apply bn1<;>(simp only[go_sem,t1,bqT,boU,Z,G,o,p,ai,a];try simp (disch:=omega) only[Iw])|refine⟨by omega,?_⟩|fail
     all_goals exact aq _ _ _ (k+1,u.set d.who.toNat d.n) noF _ (by omega) (by dsimp only;omega) (by(repeat' first|exact bo2|refine xqI rfl rfl ?_|refine xqP (by omega) rfl rfl ?_| (with_reducible apply bo3)| ((with_reducible apply bo1);apply bo7)|fail);all_goals exact J (by omega)) aK ⟨by dsimp only;omega,V,iS hL (by rw[←l];exact⟨by omega,fun _=>hl⟩),I,e⟩
    ·have ai:(d.left=c.lat.getD st default)=False:=eq_false hl;repeat' first| (first|apply bn1| (refine kA (w:=d.who) (n:=d.n) L t C W q M z A B (by omega) (by simp) (by simp only[aA.set,a,if_false];exact b) (by simp only[aA.set,a,if_false];exact D) (by simp only[aA.set,a,if_false];exact E) (fun H' nx' K I f=> ?_)))<;>(simp only[go_sem,t1,bqT,l.symm,bqC,D,E,b,o,p,a])|apply bn2 (by omega)|refine⟨by omega,?_⟩|fail
     have e: ∀id,id<36→id≠28→H' id=bqO id:=fun id boU R=>by rw[f id (by omega) R,aA.aC (by omega)];exact m id boU R
     have boU:H' 0=some ⟨3,1,[cU c]⟩:=(e _ (by omega) (by omega)).trans c0;have Z:H' 2=some ⟨1,1,[[cI st]]⟩:=(e _ (by omega) (by omega)).trans c2;have G:H' (Y+4)=some ⟨3,1,[eCJ d]⟩:=(by rw[f _ (by omega) (by omega)];exact aA.bH);simp only[go_sem,t1,bqT,boU,Z,G,o,p,a];repeat' first|apply bn1<;>(simp only[go_sem,t1,bqT,boU,Z,G,o,p,ai,a])|refine⟨by omega,?_⟩|fail
     all_goals exact hQ _ _ _ _ _ (.inr rfl) rfl ⟨rfl,congrArg dB (a6D (ab fun h=>hl (h.2 h0))).symm⟩
  ·repeat' first|apply bn1<;>(simp only[go_sem])|apply bn3 (by omega)|fail
   have bj:k=v.pipe.length:=(by omega);rw[bj] at O hL;rw[←bc] at O;obtain⟨q1,q2⟩:=O.end;refine hQ _ _ _ _ _ (.inr rfl) rfl ⟨rfl,congrArg dB (beR ⟨?_,?_,?_,q1,q2,?_,?_⟩).symm⟩;·rw[←g];omega
   ·rw[←g];omega
   ·rw[←g];exact⟨ak,al⟩
   ·rw[←g];exact aKJ hR
   ·rw[←g];exact hL
theorem a2C {c:Cfg} {s:CSt} {st:Nat} (g:aQ c) (hp:a19 c s) (a:s.dD.length=4) (b:st<4) (d:(aL s st).pipe.length<2^21) (e:(aL s st).done.length<2^21) (f: ∀j∈(aL s st).done,j.rsp.data.length<2^21) (h:K (dB (slB c s st)) H nx):aB Tryz.prog iX [boR (cU c),boR (eI s),boP st] H nx K:=(a5G c s st g hp a b d e f).pure rfl (aI ⟨aE rfl,aE rfl,aE rfl,trivial⟩) fun r hr=>hr▸h
end
end Go.Proofs.YtdkfhdmagdaceaaGreat
