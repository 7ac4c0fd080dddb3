/- Texts laid together by a program: rules, contracts and the walk that leads to the law. -/
import Derived.Test.YtdkfhdmagdaceaaGreatPE8
import Derived.Test.YtdkfhdmagdaceaaGreatPE25
import Derived.Test.YtdkfhdmagdaceaaGreatPE23
import Derived.Test.YtdkfhdmagdaceaaGreatPE22
import Derived.Test.YtdkfhdmagdaceaaGreatPE24
import Derived.Test.YtdkfhdmagdaceaaGreatPE26
set_option linter.unusedVariables false
set_option linter.unusedSimpArgs false
set_option linter.unusedSectionVars false
set_option maxRecDepth 100000
set_option maxHeartbeats 8000000
namespace Go.Proofs.YtdkfhdmagdaceaaGreat
open Go Go.AM
attribute [local irreducible] aM wv aB vd wvH
section
variable {H : aA} {nx : Nat} {K : D → aA → Nat → Prop}
theorem bBP {x:TSt} {r:List D1} {F:Nat→Prop} (a:bcA (2^21) x) (boS:byV H r x F) (h:K (dB true) H nx):aB Tryz.prog byS [.one (.agg r),boR (eSt x)] H nx K:=(bBD x a).pure rfl (aI (bzW (bB8 bBZ boS) (bzW (bEB rfl) bDI))) fun r hr=>hr▸h
theorem bEY {x:Cfg} {r:List D1} {F:Nat→Prop} (a:aZW (2^21) x) (boS:bBO H r x F) (h:K (dB true) H nx):aB Tryz.prog a1B [.one (.agg r),boR (cU x)] H nx K:=(bcV x a).pure rfl (aI (bzW (bB8 bEJ boS) (bzW (bEB rfl) bDI))) fun r hr=>hr▸h
theorem bB3 {x:TSt} {b:Int} {r:List D1} {F:Nat→Prop} (a:bcA (2^21) x) (c:0≤b) (d:b+bzP x<2^62) (boS:byV H r (bBQ b x) F) (h:K (boP (b+bzP x)) H nx):aB Tryz.prog by0 [.one (.agg r),boP b] H nx K:=(bCH x b a c d).pure rfl (aI (bzW (bB8 bBZ boS) (bzW (bEB rfl) bDI))) fun r hr=>hr▸h
end
theorem bFE {c:Cfg} {s:TSt} {e:Ev} (d:bcA (2^21) s):bcA (2^21) (stT c s e):=by
 unfold stT;by_cases a:aQ c∧BA c s
 ·rw[if_pos (aTX a.1 a.2)];split;·rename_i hw;exact(BA.aUG a.1 (G9 a.1 a.2 hw)).len
  ·exact d
 ·rw[aOH a,if_neg (by decide)];exact⟨⟨by decide,by decide⟩,by decide,⟨by decide,fun x b=>by cases b⟩,⟨by decide,fun x b=>by cases b⟩,⟨by decide,fun x b=>by cases b⟩⟩
theorem bBN:cJ Tryz.prog bAK Tryz.f3 by1 bAI:=cJ.mk Tryz.func3 (by kernel_rfl) bBM
theorem bEQ (c:Cfg) (s:TSt) (e:Ev) (T:aZW (2^63) c) (hs:bcA (2^63) s):aB Tryz.prog bAK [boR (cU c),boR (eSt s),boR (eEv e)] .nil 0 fun rr _ _=>rr.plain=true∧rr=dB true:=by
 refine bBN rfl fun Q Z=> ?_;unfold by1;have r1:=beN 1048576 c (by omega);by_cases R:aZ9 1048576 c<0
 case pos=>
  repeat' first| (first|apply bn1|apply a3E (x:=c) (a:=1048576) (by omega) T)<;>(simp only[go_sem,eq_true R])|fail
  all_goals exact Z _ _ _ _ _ (.inr rfl) rfl ⟨rfl,rfl⟩
 have r2:=bEP (aZ9 1048576 c) s (by omega);by_cases z:bz9 (aZ9 1048576 c) s<0
 case pos=>
  repeat' first| (first|apply bn1|apply a3E (x:=c) (a:=1048576) (by omega) T|apply bBE (x:=s) (a:=aZ9 1048576 c) (by omega) hs)<;>(simp only[go_sem,eq_false R,eq_true z])|fail
  all_goals exact Z _ _ _ _ _ (.inr rfl) rfl ⟨rfl,rfl⟩
 have E:=beC 1048576 c (by omega) (by omega) (by omega);have v:=bEF (aZ9 1048576 c) s (by omega) (by omega) (by omega);repeat' first| (first|apply bn1|apply a3E (x:=c) (a:=1048576) (by omega) T|apply bBE (x:=s) (a:=aZ9 1048576 c) (by omega) hs|apply bcF E|apply bAC v|apply bAE)<;>(simp only[go_sem,eq_false R,eq_false z])|fail
 refine aX3 E.fit v.fit fun H1 p ao bpR=> ?_;obtain⟨w,hw⟩: ∃w,w=stT c s e:=⟨_,rfl⟩
 obtain⟨boW,L⟩: ∃boW,boW=decide (aTD c s e=0):=⟨_,rfl⟩
 rw[←hw,←L];simp only[go_sem];generalize aU3:dT 17 [10] _ H1=U;have aXL:U 0=some ⟨3,1,[cU c]⟩:=by rw[←aU3,um1 (by omega),bpR 0 (by omega)];rfl
 have aUV:U 1=some ⟨6,1,[eSt s]⟩:=by rw[←aU3,um1 (by omega),bpR 1 (by omega)];rfl
 have aUW:U 2=some ⟨3,1,[eEv e]⟩:=by rw[←aU3,um1 (by omega),bpR 2 (by omega)];rfl
 have u8:U 27=some ⟨6,1,[[.osl 0 0 0 0 0,.osl 0 0 0 0 0,.osl 0 0 0 0 0,.osl 0 0 0 0 0,.osl 0 0 0 0 0,.osl 0 0 0 0 0]]⟩:=by rw[←aU3];exact aH6 (k:=10)
 clear aU3 bpR;have bGD: ∀(G:aA) (j:Nat),j≠27→msk 17 [10] G j=G j:=fun G j h=>mk1 (by omega);have m0:=fun G=>bGD G 0 (by omega);have m1:=fun G=>bGD G 1 (by omega);have bp3:=fun G=>bGD G 2 (by omega);have f:bQ p [0,1,2,27]:=AM.apart (by simp) (by simp<;>omega);simp only[bQ,eZ] at f;(try simp only[go_sem,boC,aXL,aUV,aUW,u8,m0,m1,bp3,f,boC]);repeat' first| (first|apply bn1|refine bD4 E (fun H2 n r0 bp6 aq aEU bqC S=> ?_))<;>(simp only[go_sem,boC,aXL,aUV,aUW,u8,m0,m1,bp3,f,boC])|fail
 obtain⟨d1,d2,d3,bw2,bw4,bw5,rfl,bqB⟩:=id aEU;refine⟨rfl,by simp,?_⟩;have g:=(S 0 (by omega)).trans ((aA.aC (by omega)).trans aXL);have i:=(S 1 (by omega)).trans ((aA.aC (by omega)).trans aUV);have l:=(S 2 (by omega)).trans ((aA.aC (by omega)).trans aUW);have m:=(S 27 (by omega)).trans aA.bH;clear S f;have f:bQ n [0,1,2,27,p+2]:=AM.apart (by simp<;>omega) (by simp<;>omega);simp only[bQ,eZ] at f;apply bn0;repeat' first| (first|apply bn1|refine bDG v (fun H3 b r1 bF4 ar bGE I bpS=> ?_))<;>(simp only[go_sem,g,i,l,m,f,boC])|fail
 obtain⟨e1,e2,e3,e4,e5,e6,aHF,aID,aUZ,bGF,bGG,bGH,rfl,q1⟩:=id bGE;refine⟨rfl,by simp,?_⟩;replace g:=(bpS 0 (by omega)).trans ((aA.aC (by omega)).trans g);replace i:=(bpS 1 (by omega)).trans ((aA.aC (by omega)).trans i);replace l:=(bpS 2 (by omega)).trans ((aA.aC (by omega)).trans l);replace m:=(bpS 27 (by omega)).trans ((aA.aC (by omega)).trans m);have A:=(bpS (p+2) (by omega)).trans aA.bH;replace aEU:=bAQ _ H3 _ _ _ aEU fun j d=>(bpS j (by have:=bqC j d;omega)).trans (aA.aC (by have:=bqC j d;omega));clear bpS f;have f:bQ b [0,1,2,27,p+2,n+2]:=AM.apart (by simp<;>omega) (by simp<;>omega);simp only[bQ,eZ] at f;have M: ∀G:aA,msk b [8] G 0=G 0:=fun G=>mk1 (by omega);have bp0: ∀G:aA,msk b [8] G 1=G 1:=fun G=>mk1 (by omega);have N: ∀G:aA,msk b [8] G 2=G 2:=fun G=>mk1 (by omega);have nx: ∀G:aA,msk b [8] G (p+2)=G (p+2):=fun G=>mk1 (by omega);have ny: ∀G:aA,msk b [8] G (n+2)=G (n+2):=fun G=>mk1 (by omega);apply bn0;repeat' first| (first|apply bn1|apply bAE)<;>(simp only[go_sem,g,i,l,m,A,M,bp0,N,nx,ny,aSP,f,boC])|fail
 generalize hV:dT b [8] _ _=V;have J: ∀j,j<b→V j=H3 j:=fun j d=>by rw[←hV,um1 (by omega),mk1 (by omega)]
 have bnA:V (b+8)=some ⟨6,1,[[.osl 0 0 0 0 0,.osl 0 0 0 0 0,.osl 0 0 0 0 0,.osl 0 0 0 0 0,.osl 0 0 0 0 0,.osl 0 0 0 0 0]]⟩:=by rw[←hV];exact aH6.trans aA.bH
 replace g:=(J 0 (by omega)).trans g;replace i:=(J 1 (by omega)).trans i;replace l:=(J 2 (by omega)).trans l;replace m:=(J 27 (by omega)).trans m;replace A:=(J (p+2) (by omega)).trans A;replace aEU:=bAQ _ V _ _ _ aEU fun j d=>J j (by have:=bqC j d;omega);replace bGE:=byO _ V _ _ _ bGE fun j d=>J j (by have:=I j d;omega);clear hV J;refine⟨fun _=>by rw[A]<;>rfl,?_⟩;refine bEH E.fit v.fit (by refine bAQ _ _ _ _ _ aEU fun j d=> ?_;have:=bqC j d;rw[aA.aC (by omega),mk1 (by omega)]) (by refine byO _ _ _ _ _ bGE fun j d=> ?_;have:=I j d;rw[aA.aC (by omega),mk1 (by omega)]) fun bqL aa r F au bGI B bpT=> ?_;rw[←hw] at bGI;rw[←L];have u:bcA (2^21) w:=by rw[hw];exact bFE v
 obtain⟨ab,ad,ae,af,ag,ah,bGJ,aIK,bGK,bGL,bGM,bGN,rfl,q2⟩:=id bGI;simp only[go_sem];generalize aYL:dT b [8] _ bqL=W;have wm: ∀j,j<b→j≠n+2→W j=V j:=fun j R z=>by rw[←aYL,um1 (by omega),bpT j (by omega),aA.aC z,mk1 (by omega)]
 have wn: ∀j,b+11≤j→W j=bqL j:=fun j R=>by rw[←aYL,um1 (by omega)]
 have bGO:W (b+8)=some ⟨6,1,[[.osl 0 0 0 0 0,.osl 0 0 0 0 0,.osl 0 0 0 0 0,.osl 0 0 0 0 0,.osl 0 0 0 0 0,.osl 0 0 0 0 0]]⟩:=by rw[←aYL];exact aH6.trans ((aA.aC (by omega)).trans bnA)
 have wy:W (n+2)=some ⟨6,1,[[e1,e2,e3,e4,e5,e6]]⟩:=by rw[←aYL,um1 (by omega),bpT _ (by omega)];exact aA.bH
 replace g:=(wm 0 (by omega) (by omega)).trans g;replace i:=(wm 1 (by omega) (by omega)).trans i;replace l:=(wm 2 (by omega) (by omega)).trans l;replace m:=(wm 27 (by omega) (by omega)).trans m;replace A:=(wm (p+2) (by omega) (by omega)).trans A;replace aEU:=bAQ _ W _ _ _ aEU fun j d=>wm j (by have:=bqC j d;omega) (by have:=bqC j d;omega);replace bGE:=byO _ W _ _ _ bGE fun j d=>wm j (by have:=I j d;omega) (by have:=I j d;omega);replace bGI:=byO _ W _ _ _ bGI fun j d=>wn j (by have:=B j d;omega);clear aYL wm wn bnA bpT M bp0 N nx ny f;have f:bQ aa [0,1,2,27,p+2,n+2,b+8]:=AM.apart (by simp<;>omega) (by simp<;>omega);simp only[bQ,eZ] at f;simp only[go_sem,bGO];generalize hY:aA.set W (b+8) _=Y;have C: ∀j,j≠b+8→Y j=W j:=fun j h=>by rw[←hY];exact aA.aC h
 have q:Y (b+8)=some ⟨6,1,[[ab,ad,ae,af,ag,ah]]⟩:=by rw[←hY];exact aA.bH
 replace g:=(C 0 (by omega)).trans g;replace i:=(C 1 (by omega)).trans i;replace l:=(C 2 (by omega)).trans l;replace m:=(C 27 (by omega)).trans m;replace A:=(C (p+2) (by omega)).trans A;have P:=(C (n+2) (by omega)).trans wy;replace aEU:=bAQ _ Y _ _ _ aEU fun j d=>C j (by have:=bqC j d;omega);replace bGE:=byO _ Y _ _ _ bGE fun j d=>C j (by have:=I j d;omega);replace bGI:=byO _ Y _ _ _ bGI fun j d=>C j (by have:=B j d;omega);clear hY C bGO wy;have ai:0≤aZ9 1048576 c:=by omega
 have blY:=bE1 (by omega) ai;have blH:=bDF v;have blI:=bDF u;have y:(boW != boW)=false:=by simp
 apply bn0;repeat' first| (first|apply bn1|apply bBP u bGI|apply bcF E|apply bEY E aEU|apply bAC v|apply bBP v bGE| (refine bC5 (F:=bp6) (fun j d=>by have:=bqC j d;omega) aEU E (by omega) (by omega) (fun aZJ aj aw aU0 bpU=> ?_)))<;>(simp only[go_sem,g,i,l,m,A,P,q,y,f,boC])|fail
 have bGP: ∀j,j<28∨n≤j→¬bp6 j:=fun j h z=>by have:=bqC j z;omega
 replace g:=(bpU 0 (by omega) (bGP 0 (by omega))).trans g;replace i:=(bpU 1 (by omega) (bGP 1 (by omega))).trans i;replace l:=(bpU 2 (by omega) (bGP 2 (by omega))).trans l;replace m:=(bpU 27 (by omega) (bGP 27 (by omega))).trans m;replace P:=(bpU (n+2) (by omega) (bGP _ (by omega))).trans P;replace q:=(bpU (b+8) (by omega) (bGP _ (by omega))).trans q;replace bGE:=byO _ aZJ _ _ _ bGE fun j d=>bpU j (by have:=I j d;omega) (bGP j (by have:=I j d;omega));replace bGI:=byO _ aZJ _ _ _ bGI fun j d=>bpU j (by have:=B j d;omega) (bGP j (by have:=B j d;omega));clear bpU bGP aU0 aEU A f;have f:bQ aj [0,1,2,27,n+2,b+8]:=AM.apart (by simp<;>omega) (by simp<;>omega);simp only[bQ,eZ] at f;(try simp only[go_sem,boC,g,i,l,m,P,q,f,boC]);repeat' first| (first|apply bn1|apply bpK (by omega)| (refine bA1 (F:=bF4) (fun j d=>by have:=I j d;omega) bGE v (by omega) (by omega) (fun aIJ ak ax bpN bpV=> ?_)))<;>(simp only[go_sem,boC,g,i,l,m,P,q,f,boC])|fail
 have bGP: ∀j,j<n+4∨b≤j→¬bF4 j:=fun j h z=>by have:=I j z;omega
 replace g:=(bpV 0 (by omega) (bGP 0 (by omega))).trans g;replace i:=(bpV 1 (by omega) (bGP 1 (by omega))).trans i;replace l:=(bpV 2 (by omega) (bGP 2 (by omega))).trans l;replace m:=(bpV 27 (by omega) (bGP 27 (by omega))).trans m;replace q:=(bpV (b+8) (by omega) (bGP _ (by omega))).trans q;replace bGI:=byO _ aIJ _ _ _ bGI fun j d=>bpV j (by have:=B j d;omega) (bGP j (by have:=B j d;omega));clear bpV bGP bpN bGE P f;have f:bQ ak [0,1,2,27,b+8]:=AM.apart (by simp<;>omega) (by simp<;>omega);simp only[bQ,eZ] at f;(try simp only[go_sem,boC,g,i,l,m,q,y,f,boC]);repeat' first| (first|apply bn1|apply bBP u bGI| (refine bA1 (F:=F) (fun j d=>by have:=B j d;omega) bGI u (by omega) (by omega) (fun bGQ t ay bpO bpW=> ?_)))<;>(simp only[go_sem,boC,g,i,l,m,q,y,f,boC])|fail
 have bGP: ∀j,j<b+11→¬F j:=fun j h z=>by have:=B j z;omega
 replace g:=(bpW 0 (by omega) (bGP 0 (by omega))).trans g;replace i:=(bpW 1 (by omega) (bGP 1 (by omega))).trans i;replace l:=(bpW 2 (by omega) (bGP 2 (by omega))).trans l;replace m:=(bpW 27 (by omega) (bGP 27 (by omega))).trans m;replace q:=(bpW (b+8) (by omega) (bGP _ (by omega))).trans q;clear bpW bGP bGI f;have f:bQ t [0,1,2,27,b+8]:=AM.apart (by simp<;>omega) (by simp<;>omega);simp only[bQ,eZ] at f;(try simp only[go_sem,boC,g,i,l,m,q,f,boC]);repeat' first| (first|apply bn1|apply bB3 u (by omega) (by omega) bpO)<;>(simp only[go_sem,boC,g,i,l,m,q,f,boC])|apply bn3 (by omega)|fail
 have M: ∀G:aA,msk (t+10) [10] G 0=G 0:=fun G=>mk1 (by omega);have bp0: ∀G:aA,msk (t+10) [10] G 1=G 1:=fun G=>mk1 (by omega);have N: ∀G:aA,msk (t+10) [10] G 2=G 2:=fun G=>mk1 (by omega);have al: ∀{H:aA} {nx:Nat} {K:D→aA→Nat→Prop},K (.tup [.agg (eSt w),.c (cB boW)]) H nx→aB Tryz.prog dW [boR (cU c),boR (eSt s),boR (eEv e)] H nx K:=fun h=>aWM E.fit v.fit (by rw[←hw,←L];exact h);(try simp only[go_sem,boC,g,i,l,m,q,M,bp0,N,aSP,f,boC]);repeat' first| (first|apply bn1|apply bcF E)<;>(simp only[go_sem,boC,g,i,l,m,q,M,bp0,N,aSP,f,boC])|fail
 generalize hX:dT (t+10) [10] _ _=X;have O: ∀j,j<t→X j=bGQ j:=fun j h=>by rw[←hX,um1 (by omega),mk1 (by omega)]
 have blB:X (t+20)=some ⟨6,1,[[.osl 0 0 0 0 0,.osl 0 0 0 0 0,.osl 0 0 0 0 0,.osl 0 0 0 0 0,.osl 0 0 0 0 0,.osl 0 0 0 0 0]]⟩:=by rw[←hX];exact aH6.trans aA.bH
 replace g:=(O 0 (by omega)).trans g;replace i:=(O 1 (by omega)).trans i;replace l:=(O 2 (by omega)).trans l;replace m:=(O 27 (by omega)).trans m;replace q:=(O (b+8) (by omega)).trans q;replace bpO:=byO _ X _ _ _ bpO fun j d=>O j (by have:=B j d;omega);clear hX O;have an:=fun o=>byO _ (X.set (t+20) o) _ _ _ bpO fun j d=>aA.aC (by have:=B j d;omega);(try simp only[go_sem,boC,g,i,l,m,q,blB,M,bp0,N,y,aSP,f,boC]);repeat' first| (first|apply bn1|apply bAC v|apply bAE|apply al|apply bDH u|apply bB3 u (by omega) (by omega) (an _))<;>(simp only[go_sem,boC,g,i,l,m,q,blB,M,bp0,N,y,aSP,f,boC])|apply bn3 (by omega)|fail
 all_goals exact Z _ _ _ _ _ (.inr rfl) rfl ⟨rfl,rfl⟩
end Go.Proofs.YtdkfhdmagdaceaaGreat
