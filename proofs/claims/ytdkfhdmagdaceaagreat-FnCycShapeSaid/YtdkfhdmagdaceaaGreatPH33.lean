/- Texts laid together by a program: rules, contracts and the walk that leads to the law. -/
import Derived.Test.YtdkfhdmagdaceaaGreatPH8
import Derived.Test.YtdkfhdmagdaceaaGreatPH32
import Derived.Test.YtdkfhdmagdaceaaGreatPH22
import Derived.Test.YtdkfhdmagdaceaaGreatPH31
import Derived.Test.YtdkfhdmagdaceaaGreatPH25
set_option linter.unusedVariables false
set_option linter.unusedSimpArgs false
set_option linter.unusedSectionVars false
set_option maxRecDepth 100000
set_option maxHeartbeats 8000000
namespace Go.Proofs.YtdkfhdmagdaceaaGreat
open Go Go.AM
attribute [local irreducible] aM wv aB vd wvH
theorem bwH:cJ Tryz.prog bwA Tryz.f5 bv2 bv9:=cJ.mk Tryz.func5 (by kernel_rfl) bwG
theorem bwU (l:List Int) (X: ∀x∈l,0≤x∧x<256):aB Tryz.prog bwA [dS (l.map eU8)] .nil 0 fun rr _ _=>rr.plain=true∧rr=dB true:=by
 refine bwH rfl fun Q hQ=> ?_;unfold bv2;by_cases aa:l.length≤1048576
 case neg=>
  repeat' first|apply bn1<;>(simp only[go_sem])|apply bn2 (by omega)|fail
  exact hQ _ _ _ _ _ (.inr rfl) rfl ⟨rfl,rfl⟩
 have hl:kZ l:=⟨by omega,X⟩
 repeat' first| (first|apply bn1|refine bwF hl (fun H1 ai c s i aj L hf ha hi Y=> ?_))<;>(simp only[go_sem])|apply bn3 (by omega)|fail
 refine buF L hf hi fun H2 ak al m=> ?_;have W:H2 10=some ⟨3,1,[cU c]⟩:=by rw[m _ (by omega)];simp (disch:=omega) only[aA.aC,aA.bH]
 have Z:H2 11=some ⟨5,1,[eI s]⟩:=by rw[m _ (by omega)];simp (disch:=omega) only[aA.aC,aA.bH]
 have p5:H2 12=some ⟨3,1,[eIn i]⟩:=by rw[m _ (by omega)];simp (disch:=omega) only[aA.aC,aA.bH]
 clear m Y;obtain⟨E,M⟩: ∃E,E=evB c s i:=⟨_,rfl⟩
 have an:E.length≤10:=by
  rw[M];unfold evB;split;·exact ay2
  ·simp
 rw[←M];(try simp only[go_sem,boC,W,Z,p5,boC]);repeat' first| (first|apply bn1|apply bwJ L hf hi)<;>(simp only[go_sem,boC,W,Z,p5,boC])|fail
 intro H3 g ao N;rw[←M];have r3:=(N 10 (by omega)).trans W;have O:decide (E=E)=true:=decide_eq_true rfl;(try simp only[go_sem,boC,O,boC]);repeat' first| (first|apply bn1|apply bwO (a:=E) (b:=E) (by omega) (by omega))<;>(simp only[go_sem,boC,O,boC])|fail
 obtain⟨R,p⟩: ∃R:List Int,R=[0,2,1,0]:=⟨_,rfl⟩
 have q:R.length=4:=by rw[p];rfl
 have ab:([[D1.v (.int .i64 0)],[D1.v (.int .i64 2)],[D1.v (.int .i64 1)],[D1.v (.int .i64 0)]]:List (List D1))=R.map aJ:=by rw[p];rfl
 rw[ab];generalize bqK:aA.set H3 g _=G;have bnC:G g=some ⟨1,4,R.map aJ⟩:=by rw[←bqK];exact aA.bH
 have g3:G 10=some ⟨3,1,[cU c]⟩:=by rw[←bqK,aA.aC (by omega)];exact r3
 clear bqK W Z p5 r3 N
 refine aM.gP (β:=Nat) (fun u=>en [(8,boP u),(7,.one (.c (.osl 1 g 0 4 4))),(6,dS (E.map eEv)),(3,.one (.c (.ptr 3 10 0 0)))])
  (fun u bqL az7=>(1≤u∧(u≤E.length∨u=1))∧bqL g=some ⟨1,4,R.map aJ⟩∧bqL 10=some ⟨3,1,[cU c]⟩) (fun u=>E.length-u) 1 ⟨noF,_,by repeat' first|exact bo2|refine xqI rfl rfl ?_|refine xqP (by omega) rfl rfl ?_|refine xqO (by omega) rfl rfl (by rfl) ?_|fail,aK,⟨m5 _,.inr rfl⟩,bnC,g3⟩ ?_
 clear bnC g3;rintro k bqL ad ae ⟨⟨aq,ar⟩,J,bp7⟩ bpQ t;have o:bQ ad [10,g]:=AM.apart (by simp;omega) (by simp;omega);simp only[bQ,eZ] at o;by_cases f:k<E.length
 ·have w:cyB c s=true∧inB i=true:=Classical.byContradiction fun hn=>by
   rw[M] at f
   unfold evB at f
   rw[if_neg hn] at f
   simp at f
  obtain⟨K,hs⟩:=bmR.1 w.1
  have af:E=TK c i s:=M.trans (buU w.1 w.2)
  obtain⟨P,y⟩:=bwR (i:=i) K hs
  rw[←af] at P y
  obtain⟨ag,au⟩:=hC K
  have hj:((k:Int)-1).toNat=k-1:=by omega
  obtain⟨a,z⟩: ∃a,a=E.getD (k-1) default:=⟨_,rfl⟩
  obtain⟨b,A⟩: ∃b,b=E.getD k default:=⟨_,rfl⟩
  have B:=z.symm
  have C:=A.symm
  have S:a∈E:=by rw[z];exact cC (by omega)
  have T:b∈E:=by rw[A];exact cC f
  have D:ShR c a b:=by have:=Z6.1 P (k-1) k (by omega) f (by omega);rw[z,A,List.getD,List.getD,n1 (show k-1<E.length by omega),n1 f];exact this
  have kr: ∀e∈E,1≤e.kind∧e.kind≤3:=fun e he=>by rcases y e he with⟨_,_,j⟩|⟨_,_,j⟩|⟨_,_,j⟩<;>have:=j.1<;>omega
  have ka:=kr a S
  have kb:=kr b T
  have aw:R.getD a.kind.toNat default≤R.getD b.kind.toNat default:=by rw[p];exact D.bw0
  by_cases F:a.kind=b.kind
  ·by_cases d:a.kind=2
   ·have ah:=D.st d (F.symm.trans d)
    have hw: ∀e∈E,e.kind=2→oA c e.who e.n:=fun e he h2=>by
     rcases y e he with⟨_,_,j⟩|⟨_,_,j⟩|⟨_,_,j⟩
     ·have:=j.1;omega
     ·exact⟨j.2.1,j.2.2.1.1,by have:=j.2.2.1.2;omega⟩
     ·have:=j.1;omega
    have wa:=hw a S d;have wb:=hw b T (F.symm.trans d);obtain⟨ra,H⟩: ∃r,r=bT c a.who a.n:=⟨_,rfl⟩
    obtain⟨rb,I⟩: ∃r,r=bT c b.who b.n:=⟨_,rfl⟩
    have oa:dH ra:=(by rw[H];exact GK K wa);have ob:dH rb:=(by rw[I];exact GK K wb);rw[←H,←I] at ah;have U:List.getD (c.cP.getD a.who.toNat default) a.n.toNat default=ra:=H.symm;have V:List.getD (c.cP.getD b.who.toNat default) b.n.toNat default=rb:=I.symm;obtain⟨ax,ay,az⟩:=wa;obtain⟨ba,bb,bc⟩:=wb;repeat' first| (first|apply bn1|apply bpJ (by omega)|apply bpK (by omega)|apply bu3 K.1 oa|apply bu3 K.1 ob)<;>(simp only[go_sem,J,bp7,o,hj,B,C,q,ag,U,V,boC];try simp (disch:=omega) only[Iw])|apply bn2 (by omega)|apply bn3 (by omega)|refine⟨by omega,?_⟩|fail
    all_goals exact t _ _ _ (k+1) noF _ (by omega) (by omega) (by repeat' first|exact bo2|refine xqI rfl rfl ?_|refine xqP (by omega) rfl rfl ?_|refine xqO (by omega) rfl rfl (by rfl) ?_|fail) aK ⟨⟨by omega,.inl (by omega)⟩,by rw[aA.aC (by omega),aA.aC (by omega)];exact J,by rw[aA.aC (by omega),aA.aC (by omega)];exact bp7⟩
   ·have bd:=D.who F d;repeat' first| (first|apply bn1|apply bpJ (by omega)|apply bpK (by omega))<;>(simp only[go_sem,J,bp7,o,hj,B,C,q,boC];try simp (disch:=omega) only[Iw])|apply bn2 (by omega)|apply bn3 (by omega)|refine⟨by omega,?_⟩|fail
    all_goals exact t _ _ _ (k+1) noF _ (by omega) (by omega) (by repeat' first|exact bo2|refine xqI rfl rfl ?_|refine xqP (by omega) rfl rfl ?_|refine xqO (by omega) rfl rfl (by rfl) ?_|fail) aK ⟨⟨by omega,.inl (by omega)⟩,by rw[aA.aC (by omega),aA.aC (by omega)];exact J,by rw[aA.aC (by omega),aA.aC (by omega)];exact bp7⟩
  ·repeat' first| (first|apply bn1|apply bpK (by omega)|refine bpL (fun h=> ?_) fun h=> ?_)<;>(simp only[go_sem,J,bp7,o,hj,B,C,q,boC];try simp (disch:=omega) only[Iw])|apply bn2 (by omega)|refine⟨by omega,?_⟩|fail
   all_goals exact t _ _ _ (k+1) noF _ (by omega) (by omega) (by repeat' first|exact bo2|refine xqI rfl rfl ?_|refine xqP (by omega) rfl rfl ?_|refine xqO (by omega) rfl rfl (by rfl) ?_|fail) aK ⟨⟨by omega,.inl (by omega)⟩,by rw[aA.aC (by omega),aA.aC (by omega)];exact J,by rw[aA.aC (by omega),aA.aC (by omega)];exact bp7⟩
 ·repeat' first| (first|apply bn1|apply apY)<;>(simp only[go_sem,t1])|apply bn3 (by omega)|fail
  exact hQ _ _ _ _ _ (.inr rfl) rfl ⟨rfl,rfl⟩
end Go.Proofs.YtdkfhdmagdaceaaGreat
