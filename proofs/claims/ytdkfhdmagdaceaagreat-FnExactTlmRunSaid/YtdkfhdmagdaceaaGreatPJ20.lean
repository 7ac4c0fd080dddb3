/- Texts laid together by a program: rules, contracts and the walk that leads to the law. -/
import Derived.Test.YtdkfhdmagdaceaaGreatPJ17
set_option linter.unusedVariables false
set_option linter.unusedSimpArgs false
set_option linter.unusedSectionVars false
set_option maxRecDepth 100000
set_option maxHeartbeats 8000000
namespace Go.AM
structure a19 (c:Cfg) (s:CSt):Prop where
 pl:s.bM.length=3
 port: ∀k,k<3→mD c k (aF s k)
structure bdP (s:CSt) (st:Nat) (u:List Int) (x:Int×Int):Prop where
 who:0≤x.1∧x.1≤2
 last:u.getD x.1.toNat default<x.2
 bf0:0≤bK (isC x.2) (aF s x.1.toNat).out
 aAM:(bK (isC x.2) (aF s x.1.toNat).out).toNat<(aF s x.1.toNat).out.length
 aAN:((aF s x.1.toNat).out.getD (bK (isC x.2) (aF s x.1.toNat).out).toNat default).left=st
structure bcU (s:CSt) (st:Nat) (V:List (Int×Int)) (k:Nat) (u:List Int):Prop where
 ul:u.length=3
 lst: ∀w,w<3→u.getD w default= -1∨ ∃i,i<k∧V[i]?=some ((w:Int),u.getD w default)
 all: ∀i x,i<k→V[i]?=some x→(0≤x.1∧x.1≤2)∧x.2≤u.getD x.1.toNat default∧ ∃j∈(aF s x.1.toNat).out,j.n=x.2∧j.left=st
 inc: ∀i j x y,i<j→j<k→V[i]?=some x→V[j]?=some y→x.1=y.1→x.2<y.2
theorem bcU.nil {s:CSt} {st:Nat} {V:List (Int×Int)}:bcU s st V 0 [-1,-1,-1]:=⟨rfl,fun w hw=>.inl (by rcases(show w=0∨w=1∨w=2 by omega) with rfl|rfl|rfl<;>rfl),fun i x hi=>by omega,fun i j x y _ a=>by omega⟩
theorem bcU.next {s:CSt} {st k:Nat} {V:List (Int×Int)} {u:List Int} {x:Int×Int} (h:bcU s st V k u) (e:V[k]?=some x) (b:bdP s st u x):bcU s st V (k+1) (u.set x.1.toNat x.2):=by
 have hw:=b.who;have f:=h.ul;have p:=b.last;have o: ∀w,(u.set x.1.toNat x.2).getD w default=if w=x.1.toNat then x.2 else u.getD w default:=fun w=>pY (by omega)
 refine⟨by simp[f],fun w g=> ?_,fun i y hi a=> ?_,fun i j y z c t a l he=> ?_⟩
 ·rw[o];by_cases he:w=x.1.toNat;·right;refine⟨k,by omega,?_⟩;rw[if_pos he,e,he,show ((x.1.toNat:Nat):Int)=x.1 by omega]
  ·rw[if_neg he];exact(h.lst w g).imp (fun h=>h) fun⟨i,hi,d⟩=>⟨i,by omega,d⟩
 ·rw[o];by_cases m:i<k
  ·obtain⟨q,d,r⟩:=h.all i y m a;refine⟨q,?_,r⟩;split;·rename_i he;rw[he] at d;omega
   ·exact d
  ·obtain rfl:i=k:=by omega
   obtain rfl:x=y:=by rw[e] at a;exact Option.some.inj a
   refine⟨hw,by rw[if_pos rfl];omega,_,cC b.aAM,?_,b.aAN⟩;have:=(ajV b.bf0).2;exact of_decide_eq_true this
 ·by_cases n:j<k;·exact h.inc i j y z c n a l he
  ·obtain rfl:j=k:=by omega
   obtain rfl:x=z:=by rw[e] at l;exact Option.some.inj l
   have:=(h.all i y c a).2.1;rw[he] at this;omega
theorem bcU.bad {c:Cfg} {s:CSt} {st k:Nat} {u:List Int} {x:Int×Int} (hp:a19 c s) (g:Z0 c s st) (h:bcU s st (cS (aL s st)) k u) (p:(cS (aL s st))[k]?=some x):bdP s st u x:=by
 obtain⟨l,a⟩:=m3.1 p;have hm:x∈cS (aL s st):=a▸Z5 l;obtain⟨hw,j,d,e,q⟩:=g.out x hm;have b:=hp.port x.1.toNat (by omega);have r:=(b.out j d).2.1;have hex: ∃j∈(aF s x.1.toNat).out,j.n=x.2:=⟨j,d,e⟩
 obtain⟨az9,az2⟩:=PJ hex;refine⟨hw,?_,cH.2 ⟨j,d,decide_eq_true e⟩,az9,?_⟩
 ·rcases h.lst x.1.toNat (by omega) with m|⟨i,hi,m⟩
  ·omega
  ·obtain⟨f,t⟩:=m3.1 m;have o:=Z6.1 g.inc i k f l hi;rw[t,a] at o;exact o (by dsimp only;omega)
 ·have:=ZO b.acX (cC az9) d (by rw[az2,e]);rw[this];exact q
end Go.AM
namespace Go.Proofs.YtdkfhdmagdaceaaGreat
open Go Go.AM
attribute [local irreducible] aM wv aB vd wvH
section
variable {H : aA} {nx : Nat} {K : D → aA → Nat → Prop}
end
end Go.Proofs.YtdkfhdmagdaceaaGreat
