/- Texts laid together by a program: rules, contracts and the walk that leads to the law. -/
import Derived.Test.YtdkfhdmagdaceaaGreatPJ5
import Derived.Test.YtdkfhdmagdaceaaGreatPJ10
import Derived.Test.YtdkfhdmagdaceaaGreatPJ7
import Derived.Test.YtdkfhdmagdaceaaGreatPJ13
set_option linter.unusedVariables false
set_option linter.unusedSimpArgs false
set_option linter.unusedSectionVars false
set_option maxRecDepth 100000
set_option maxHeartbeats 8000000
namespace Go.Proofs.YtdkfhdmagdaceaaGreat
open Go Go.AM
attribute [local irreducible] aM wv aB vd wvH
end Go.Proofs.YtdkfhdmagdaceaaGreat
namespace Go.AM
def aaK (V:List (Int×Int)) (k:Nat) (u:List Int):Prop:=u.length=3∧ ∀w,w<3→u.getD w default= -1∨ ∃i,i<k∧V[i]?=some ((w:Int),u.getD w default)
theorem aaK.next {c:Cfg} {s:CSt} {st k:Nat} {u:List Int} {x:Int×Int} (l:COk c s) (b:st<4) (h:aaK (cS (aL s st)) k u) (m:(cS (aL s st))[k]?=some x):
 (x.1=(x.1.toNat:Int)∧x.1.toNat<3)∧u.getD x.1.toNat default<x.2∧aaK (cS (aL s st)) (k+1) (u.set x.1.toNat x.2):=by
 obtain⟨n,d⟩:=m3.1 m
 have hm:x∈cS (aL s st):=d▸Z5 n
 obtain⟨hw,q,r⟩:=l.vIn b hm
 have e:x.1.toNat<3:=by omega
 have a:x.1=(x.1.toNat:Int):=by omega
 refine⟨⟨a,e⟩,?_,by simp[h.1],fun w f=> ?_⟩
 ·rcases h.2 _ e with g|⟨i,hi,g⟩
  ·omega
  ·obtain⟨j,p⟩:=m3.1 g;have o:=Z6.1 (l.slv st b).inc i k j n hi;rw[p,d] at o;exact o a.symm
 ·by_cases he:w=x.1.toNat;·right;refine⟨k,by omega,?_⟩;rw[he,pY (by rw[h.1];omega),if_pos rfl,m,←a]
  ·rw[pY (by rw[h.1];omega),if_neg he];exact(h.2 w f).imp (fun h=>h) fun⟨i,hi,g⟩=>⟨i,by omega,g⟩
end Go.AM
namespace Go.Proofs.YtdkfhdmagdaceaaGreat
open Go Go.AM
attribute [local irreducible] aM wv aB vd wvH
section
variable {H : aA} {nx : Nat} {K : D → aA → Nat → Prop}
end
end Go.Proofs.YtdkfhdmagdaceaaGreat
namespace Go.AM
theorem agO {M:List (List Int×Int)} {l c:List Int} {n:Int}:jT (vA M l n) c=if c=l then some n else jT M c:=by
 induction M with
 |nil=>
  by_cases h:c=l;·simp[vA,jT,h]
  ·simp[vA,jT,h]
 |cons p M d=>
  obtain⟨a,b⟩:=p;simp only[vA];by_cases hl:l=a
  ·subst hl;rw[if_pos rfl];by_cases h:c=l;·simp[jT,h]
   ·simp[jT,h]
  ·rw[if_neg hl];unfold jT at d ⊢;simp only[List.find?_cons];by_cases h:c=a;·subst h;simp[Ne.symm hl]
   ·simp only[h,decide_false];rw[d]
def XM (c:Cfg) (who:Nat) (out:List fC) (k:Nat) (M:List (List Int×Int)):Prop:=∀i v,jT M [i]=some v→∃j∈out.take k,(bT c who j.n).id=i∧j.left=v
theorem XM.next {c:Cfg} {who:Nat} {out:List fC} {k:Nat} {M:List (List Int×Int)} (h:XM c who out k M) (b:k<out.length):XM c who out (k+1) (vA M [(bT c who (out.getD k default).n).id] (out.getD k default).left):=by
 intro i v a;rw[agO] at a;have hm:out.getD k default∈out.take (k+1):=by rw[nK b];simp
 split at a;·rename_i he;simp only[List.cons.injEq,and_true] at he;simp only[Option.some.injEq] at a;exact⟨_,hm,he.symm,a⟩
 ·obtain⟨j,d,e⟩:=h i v a;exact⟨j,(List.take_sublist_take_left (by omega)).mem d,e⟩
end Go.AM
namespace Go.Proofs.YtdkfhdmagdaceaaGreat
open Go Go.AM
attribute [local irreducible] aM wv aB vd wvH
section
variable {H : aA} {nx : Nat} {K : D → aA → Nat → Prop}
end
end Go.Proofs.YtdkfhdmagdaceaaGreat
namespace Go.AM
def a5K (c:Cfg) (who:Nat) (p:fR) (j:fC):Prop:=j.who=who∧(0≤j.n∧j.n<p.next-p.queue.length)∧j.left=gZ c.map (bT c who j.n)
structure beI (c:Cfg) (who:Nat) (p:fR) (k:Nat) (last:Int) (M:List (List Int×Int)):Prop where
 all: ∀i,i<k→a5K c who p (p.out.getD i default)
 srt: ∀i j,i<j→j<k→(p.out.getD i default).n<(p.out.getD j default).n
 lst:(k=0∧last= -1)∨(0<k∧last=(p.out.getD (k-1) default).n)
 ids: ∀i,i<k→jT M [(bT c who (p.out.getD i default).n).id]=some (p.out.getD i default).left
 plc:XM c who p.out k M
theorem beI.next {c:Cfg} {who:Nat} {p:fR} {k:Nat} {last:Int} {M:List (List Int×Int)} (h:beI c who p k last M) (g:k<p.out.length) {j:fC} (f:j=p.out.getD k default) (l:a5K c who p j) (q:last<j.n)
 (m: ∀v,jT M [(bT c who j.n).id]=some v→v=j.left):beI c who p (k+1) j.n (vA M [(bT c who j.n).id] j.left):=by
 subst f
 refine⟨iS h.all l,fun i j b f=> ?_,.inr ⟨by omega,by simp⟩,fun i hi=> ?_,h.plc.next g⟩
 ·by_cases d:j<k;·exact h.srt i j b d
  ·obtain rfl:j=k:=by omega
   rcases h.lst with⟨o,_⟩|⟨o,a⟩
   ·omega
   ·by_cases hi:i=j-1;·subst hi;omega
    ·have:=h.srt i (j-1) (by omega) (by omega);omega
 ·rw[agO];by_cases e:i<k
  ·have a:=h.ids i e;split;·rename_i he;simp only[List.cons.injEq,and_true] at he;rw[he] at a;rw[m _ a]
   ·exact a
  ·obtain rfl:i=k:=by omega
   simp
theorem beI.bad {c:Cfg} {who:Nat} {p:fR} {k:Nat} {last:Int} {M:List (List Int×Int)} (h:beI c who p k last M) (b:k<p.out.length) (hp:mD c who p):a5K c who p (p.out.getD k default)∧last<(p.out.getD k default).n∧ ∀v,jT M [(bT c who (p.out.getD k default).n).id]=some v→v=(p.out.getD k default).left:=by
 have hm:=cC b;have d:=hp.out _ hm;refine⟨d,?_,fun v e=> ?_⟩
 ·rcases h.lst with⟨f,a⟩|⟨f,a⟩
  ·omega
  ·have:=Z6.1 hp.acX (k-1) k (by omega) b (by omega);rw[a];simpa [List.getD,b,show k-1<p.out.length by omega] using this
 ·obtain⟨g,a,i,j⟩:=h.plc _ _ e;rw[←j];exact hp.akF g (List.mem_of_mem_take a) _ hm i
end Go.AM
namespace Go.Proofs.YtdkfhdmagdaceaaGreat
open Go Go.AM
attribute [local irreducible] aM wv aB vd wvH
section
variable {H : aA} {nx : Nat} {K : D → aA → Nat → Prop}
end
end Go.Proofs.YtdkfhdmagdaceaaGreat
