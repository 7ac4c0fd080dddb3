/- Texts laid together by a program: rules, contracts and the walk that leads to the law. -/
import Derived.Test.YtdkfhdmagdaceaaGreatPJ8
import Derived.Test.YtdkfhdmagdaceaaGreatPJ24
import Derived.Test.YtdkfhdmagdaceaaGreatPJ23
import Derived.Test.YtdkfhdmagdaceaaGreatPJ22
import Derived.Test.YtdkfhdmagdaceaaGreatPJ25
import Derived.Test.YtdkfhdmagdaceaaGreatPJ26
set_option linter.unusedVariables false
set_option linter.unusedSimpArgs false
set_option linter.unusedSectionVars false
set_option maxRecDepth 100000
set_option maxHeartbeats 8000000
namespace Go.Proofs.YtdkfhdmagdaceaaGreat
open Go Go.AM
attribute [local irreducible] aM wv aB vd wvH
section
variable {H : aA} {nx : Nat} {K : D → aA → Nat → Prop}
theorem bBP{x:TSt}{r:List D1}{F:Nat→Prop} (a:bcA (2^21) x) (boS:byV H r x F) (h:K (dB true) H nx):aB Tryz.prog byS [.one (.agg r),boR (eSt x)] H nx K:=(bBD x a).pure rfl (aI (bzW (bB8 bBZ boS) (bzW (bEB rfl) bDI))) fun r hr=>hr▸h
theorem bEY{x:Cfg}{r:List D1}{F:Nat→Prop} (a:aZW (2^21) x) (boS:bBO H r x F) (h:K (dB true) H nx):aB Tryz.prog a1B [.one (.agg r),boR (cU x)] H nx K:=(bcV x a).pure rfl (aI (bzW (bB8 bEJ boS) (bzW (bEB rfl) bDI))) fun r hr=>hr▸h
theorem bH9{l:List Ev}{d:D1}{F:Nat→Prop} (a:l.length<2^21) (boS:SlS 3 (byQ eEv) H d l F) (h:K (dB true) H nx):aB Tryz.prog bG5 [.one (.c d),dS (l.map eEv)] H nx K:=(bHU l a).pure rfl (aI (bzW (apS (.frz (boS.frz bH3))) (bzW (bEB rfl) bDI))) fun r hr=>hr▸h
theorem bB3{x:TSt}{b:Int}{r:List D1}{F:Nat→Prop} (a:bcA (2^21) x) (c:0≤b) (d:b+bzP x<2^62) (boS:byV H r (bBQ b x) F) (h:K (boP (b+bzP x)) H nx):aB Tryz.prog by0 [.one (.agg r),boP b] H nx K:=(bCH x b a c d).pure rfl (aI (bzW (bB8 bBZ boS) (bzW (bEB rfl) bDI))) fun r hr=>hr▸h
variable{es:List Ev}
theorem bH8{c:Cfg}{s:TSt}{d e:List D1}{d2:D1}{bp6 bF4 bF5:Nat→Prop} (b:jO c) (f:aTQ s) (hl:es.length<2^40) (g:bBO H d c bp6) (i:byV H e s bF4) (k:SlS 3 (byQ eEv) H d2 es bF5)
 (h: ∀H' a r F,nx≤a→byV H' r (bH2 c s es) F→(∀j,F j→nx≤j∧j<a)→(∀j,j<nx→H' j=H j)→K (.tup [.agg r,.c (cI (runK c s es))]) H' a):aB Tryz.prog auW [.one (.agg d),.one (.agg e),.one (.c d2)] H nx K:=by
 refine(bIA b f hl).bFZ rfl (aI (bzW (bB8 bEJ g) (bzW (bB8 bBZ i) (bzW (apS (.frz (k.frz bH3))) bDI)))) ?_
 rintro r H' n ⟨cs,F,rfl,boS,l⟩
 obtain⟨F',az9,az2⟩:=bFG bEX (H:=H) (nx:=nx) boS l
 exact h _ _ _ F' (by omega) az9 az2 fun j m=>bFH m
theorem bIB{c:Cfg}{s:TSt} (b: ¬((aQ c∧BA c s)∧es.length≤200)):bH2 c s es=stN∧runK c s es= -1:=by have a: ¬(tlB c s=true∧es.length≤200):=fun h=>b ⟨Classical.byContradiction fun d=>by rw[aOH d] at h;exact absurd h.1 (by decide),h.2⟩;exact⟨if_neg a,if_neg a⟩
theorem bH6{c:Cfg}{s:TSt} (b:jO c) (e:aTQ s) (hl:es.length<2^40) (h:K (.tup [.agg (eSt (bH2 c s es)),.c (cI (runK c s es))]) H nx):aB Tryz.prog auW [boR (cU c),boR (eSt s),dS (es.map eEv)] H nx K:=by
 by_cases a:(aQ c∧BA c s)∧es.length≤200;·have d:=aTX a.1.1 a.1.2;have f:bH2 c s es=_:=if_pos ⟨d,a.2⟩;have g:runK c s es=_:=if_pos ⟨d,a.2⟩;rw[f,g] at h;exact aQT a.1.1 b a.1.2 a.2 h
 ·rw[(bIB a).1,(bIB a).2] at h;exact aY7 b e hl a h
theorem bH7{c:Cfg}{s:TSt} (b:jO c) (f:aTQ s) (hl:es.length<2^40) (h: ∀H' d,nx≤d→(∀id,id<nx→H' id=H id)→K (.tup [.agg (eSt (bH2 c s es)),.c (cI (runK c s es))]) H' d):aB Tryz.prog aYN [boR (cU c),boR (eSt s),dS (es.map eEv)] H nx K:=by
 by_cases a:(aQ c∧BA c s)∧es.length≤200;·have e:=aTX a.1.1 a.1.2;have g:bH2 c s es=_:=if_pos ⟨e,a.2⟩;have i:runK c s es=_:=if_pos ⟨e,a.2⟩;rw[g,i] at h;exact aY5 a.1.1 b a.1.2 a.2 h
 ·rw[(bIB a).1,(bIB a).2] at h;exact aY8 b f hl a (h _ _ (m5 _) fun _ _=>rfl)
theorem bID{c:Cfg}{s:TSt}:bcA (2^21) (bH2 c s es):=by
 by_cases a:(aQ c∧BA c s)∧es.length≤200;·have d:bH2 c s es=_:=if_pos ⟨aTX a.1.1 a.1.2,a.2⟩;rw[d];exact(BA.aUG a.1.1 (aPL a.1.1 a.1.2 (m5 _))).len
 ·rw[(bIB a).1];exact⟨⟨by decide,by decide⟩,by decide,⟨by decide,fun x b=>by cases b⟩,⟨by decide,fun x b=>by cases b⟩,⟨by decide,fun x b=>by cases b⟩⟩
end
theorem bHL:cJ Tryz.prog bHD Tryz.f4 bG0 bHB:=cJ.mk Tryz.func4 (by kernel_rfl) bHK
theorem bIC (c:Cfg) (s:TSt) (es:List Ev) (N:aZW (2^63) c) (T:bcA (2^63) s) (he:es.length<2^63):aB Tryz.prog bHD [boR (cU c),boR (eSt s),dS (es.map eEv)] .nil 0 fun rr _ _=>rr.plain=true∧rr=dB true:=by
 refine bHL rfl fun Q O=> ?_;unfold bG0;have r1:=beN 1048576 c (by omega);by_cases P:aZ9 1048576 c<0
 case pos=>
  repeat' first| (first|apply bn1|apply a3E (x:=c) (a:=1048576) (by omega) N)<;>(simp only[go_sem,eq_true P])|fail
  all_goals exact O _ _ _ _ _ (.inr rfl) rfl ⟨rfl,rfl⟩
 have r2:=bEP (aZ9 1048576 c) s (by omega);by_cases u:bz9 (aZ9 1048576 c) s<0
 case pos=>
  repeat' first| (first|apply bn1|apply a3E (x:=c) (a:=1048576) (by omega) N|apply bBE (x:=s) (a:=aZ9 1048576 c) (by omega) T)<;>(simp only[go_sem,eq_false P,eq_true u])|fail
  all_goals exact O _ _ _ _ _ (.inr rfl) rfl ⟨rfl,rfl⟩
 have r3:=aZM (bz9 (aZ9 1048576 c) s) es.length;by_cases h3:szN (bz9 (aZ9 1048576 c) s) es.length<0
 case pos=>
  repeat' first| (first|apply bn1|apply a3E (x:=c) (a:=1048576) (by omega) N|apply bBE (x:=s) (a:=aZ9 1048576 c) (by omega) T|apply bHH (l:=es) (a:=bz9 (aZ9 1048576 c) s) (by omega) he)<;>(simp only[go_sem,eq_false P,eq_false u,eq_true h3])|fail
  all_goals exact O _ _ _ _ _ (.inr rfl) rfl ⟨rfl,rfl⟩
 have A:=beC 1048576 c (by omega) (by omega) (by omega);have y:=bEF (aZ9 1048576 c) s (by omega) (by omega) (by omega);have hl:es.length<2^21:=a18 (a:=bz9 (aZ9 1048576 c) s) (by omega) (by omega);repeat' first| (first|apply bn1|apply a3E (x:=c) (a:=1048576) (by omega) N|apply bBE (x:=s) (a:=aZ9 1048576 c) (by omega) T|apply bHH (l:=es) (a:=bz9 (aZ9 1048576 c) s) (by omega) he|apply bcF A|apply bAC y|apply bHA hl)<;>(simp only[go_sem,eq_false P,eq_false u,eq_false h3])|fail
 refine bH7 A.fit y.fit (by omega) fun H1 p al bpR=> ?_;obtain⟨w,hw⟩: ∃w,w=bH2 c s es:=⟨_,rfl⟩
 obtain⟨boW,E⟩: ∃boW,boW=runK c s es:=⟨_,rfl⟩
 rw[←hw,←E];simp only[go_sem];generalize aU3:dT 22 [10] _ H1=U;have aXL:U 0=some ⟨3,1,[cU c]⟩:=by rw[←aU3,um1 (by omega),bpR 0 (by omega)];rfl
 have aUV:U 1=some ⟨6,1,[eSt s]⟩:=by rw[←aU3,um1 (by omega),bpR 1 (by omega)];rfl
 have u8:U 32=some ⟨6,1,[[.osl 0 0 0 0 0,.osl 0 0 0 0 0,.osl 0 0 0 0 0,.osl 0 0 0 0 0,.osl 0 0 0 0 0,.osl 0 0 0 0 0]]⟩:=by rw[←aU3];exact aH6 (k:=10)
 clear aU3 bpR;have bGD: ∀(G:aA) (j:Nat),j≠32→msk 22 [10] G j=G j:=fun G j h=>mk1 (by omega);have m0:=fun G=>bGD G 0 (by omega);have m1:=fun G=>bGD G 1 (by omega);have d:bQ p [0,1,32]:=AM.apart (by simp) (by simp<;>omega);simp only[bQ,eZ] at d;(try simp only[go_sem,boC,aXL,aUV,u8,m0,m1,d,boC]);repeat' first| (first|apply bn1|refine bD4 A (fun H2 n r0 bp6 an aEU bqC R=> ?_))<;>(simp only[go_sem,boC,aXL,aUV,u8,m0,m1,d,boC])|fail
 obtain⟨d1,d2,d3,bw2,bw4,bw5,rfl,bqB⟩:=id aEU;refine⟨rfl,by simp,?_⟩;have f:=(R 0 (by omega)).trans ((aA.aC (by omega)).trans aXL);have g:=(R 1 (by omega)).trans ((aA.aC (by omega)).trans aUV);have i:=(R 32 (by omega)).trans aA.bH;clear R d;have d:bQ n [0,1,32,p+2]:=AM.apart (by simp<;>omega) (by simp<;>omega);simp only[bQ,eZ] at d;apply bn0;repeat' first| (first|apply bn1|refine bDG y (fun H3 M r1 bF4 ao bGE I bpS=> ?_))<;>(simp only[go_sem,f,g,i,d,boC])|fail
 obtain⟨e1,e2,e3,e4,e5,e6,aHF,aID,aUZ,bGF,bGG,bGH,rfl,q1⟩:=id bGE;refine⟨rfl,by simp,?_⟩;replace f:=(bpS 0 (by omega)).trans ((aA.aC (by omega)).trans f);replace g:=(bpS 1 (by omega)).trans ((aA.aC (by omega)).trans g);replace i:=(bpS 32 (by omega)).trans ((aA.aC (by omega)).trans i);have B:=(bpS (p+2) (by omega)).trans aA.bH;replace aEU:=bAQ _ H3 _ _ _ aEU fun j b=>(bpS j (by have:=bqC j b;omega)).trans (aA.aC (by have:=bqC j b;omega));clear bpS d;have d:bQ M [0,1,32,p+2,n+2]:=AM.apart (by simp<;>omega) (by simp<;>omega);simp only[bQ,eZ] at d;apply bn0;repeat' first| (first|apply bn1|refine bHY hl (fun bqL e dd bF5 aq bGI J bpT=> ?_))<;>(simp only[go_sem,f,g,i,B,d,boC])|fail
 replace f:=(bpT 0 (by omega)).trans ((aA.aC (by omega)).trans f);replace g:=(bpT 1 (by omega)).trans ((aA.aC (by omega)).trans g);replace i:=(bpT 32 (by omega)).trans ((aA.aC (by omega)).trans i);replace B:=(bpT (p+2) (by omega)).trans ((aA.aC (by omega)).trans B);have z:=(bpT (n+2) (by omega)).trans aA.bH;replace aEU:=bAQ _ bqL _ _ _ aEU fun j b=>(bpT j (by have:=bqC j b;omega)).trans (aA.aC (by have:=bqC j b;omega));replace bGE:=byO _ bqL _ _ _ bGE fun j b=>(bpT j (by have:=I j b;omega)).trans (aA.aC (by have:=I j b;omega));clear bpT d;have d:bQ e [0,1,32,p+2,n+2]:=AM.apart (by simp<;>omega) (by simp<;>omega);simp only[bQ,eZ] at d;(try simp only[go_sem,boC,f,g,i,B,z,d,boC]);repeat' first| (first|apply bn1|refine bH8 A.fit y.fit (by omega) aEU bGE bGI (fun aZJ V r F ar bIF v bpU=> ?_))<;>(simp only[go_sem,boC,f,g,i,B,z,d,boC])|fail
 rw[←hw] at bIF;rw[←E];have q:bcA (2^21) w:=by rw[hw];exact bID
 obtain⟨W,Z,aa,ab,ad,ae,bGJ,aIK,bGK,bGL,bGM,bGN,rfl,q2⟩:=id bIF;refine⟨rfl,by simp,?_⟩;generalize hY:aA.set aZJ (e+7) _=Y;have ym: ∀j,j≠e+7→Y j=aZJ j:=fun j h=>by rw[←hY];exact aA.aC h
 have m:Y (e+7)=some ⟨6,1,[[W,Z,aa,ab,ad,ae]]⟩:=by rw[←hY];exact aA.bH
 have C: ∀j,j<e→Y j=bqL j:=fun j h=>(ym j (by omega)).trans (bpU j (by omega));replace f:=(C 0 (by omega)).trans f;replace g:=(C 1 (by omega)).trans g;replace i:=(C 32 (by omega)).trans i;replace B:=(C (p+2) (by omega)).trans B;replace z:=(C (n+2) (by omega)).trans z;replace aEU:=bAQ _ Y _ _ _ aEU fun j b=>C j (by have:=bqC j b;omega);replace bGE:=byO _ Y _ _ _ bGE fun j b=>C j (by have:=I j b;omega);replace bGI:=bGI.frame (H':=Y) bp1 fun j b=>C j (by have:=J j b;omega);replace bIF:=byO _ Y _ _ _ bIF fun j b=>ym j (by have:=v j b;omega);clear hY ym C bpU d;have d:bQ V [0,1,32,p+2,n+2,e+7]:=AM.apart (by simp<;>omega) (by simp<;>omega);simp only[bQ,eZ] at d;have af:0≤aZ9 1048576 c:=by omega
 have blY:=bE1 (by omega) af;have blH:=bDF y;have blI:=bDF q;have aEP:total bG8 es=3*es.length:=bAA fun _=>rfl;apply bn0;repeat' first| (first|apply bn1|apply bBP q bIF|apply bcF A|apply bEY A aEU|apply bAC y|apply bBP y bGE|apply bHA hl|apply bH9 hl bGI| (refine bC5 (F:=bp6) (fun j b=>by have:=bqC j b;omega) aEU A (by omega) (by omega) (fun aIJ ag au aU0 bpV=> ?_)))<;>(simp only[go_sem,f,g,i,B,z,m,d,boC])|fail
 have bGP: ∀j,j<33∨n≤j→¬bp6 j:=fun j h u=>by have:=bqC j u;omega
 replace f:=(bpV 0 (by omega) (bGP 0 (by omega))).trans f;replace g:=(bpV 1 (by omega) (bGP 1 (by omega))).trans g;replace i:=(bpV 32 (by omega) (bGP 32 (by omega))).trans i;replace z:=(bpV (n+2) (by omega) (bGP _ (by omega))).trans z;replace m:=(bpV (e+7) (by omega) (bGP _ (by omega))).trans m;replace bGE:=byO _ aIJ _ _ _ bGE fun j b=>bpV j (by have:=I j b;omega) (bGP j (by have:=I j b;omega));replace bGI:=bGI.frame (H':=aIJ) bp1 fun j b=>bpV j (by have:=J j b;omega) (bGP j (by have:=J j b;omega));replace bIF:=byO _ aIJ _ _ _ bIF fun j b=>bpV j (by have:=v j b;omega) (bGP j (by have:=v j b;omega));clear bpV bGP aU0 aEU B d;have d:bQ ag [0,1,32,n+2,e+7]:=AM.apart (by simp<;>omega) (by simp<;>omega);simp only[bQ,eZ] at d;(try simp only[go_sem,boC,f,g,i,z,m,d,boC]);repeat' first| (first|apply bn1| (refine bA1 (F:=bF4) (fun j b=>by have:=I j b;omega) bGE y (by omega) (by omega) (fun bGQ ah aw bpN bpW=> ?_)))<;>(simp only[go_sem,boC,f,g,i,z,m,d,boC])|fail
 have bGP: ∀j,j<n+4∨M≤j→¬bF4 j:=fun j h u=>by have:=I j u;omega
 replace f:=(bpW 0 (by omega) (bGP 0 (by omega))).trans f;replace g:=(bpW 1 (by omega) (bGP 1 (by omega))).trans g;replace i:=(bpW 32 (by omega) (bGP 32 (by omega))).trans i;replace m:=(bpW (e+7) (by omega) (bGP _ (by omega))).trans m;replace bGI:=bGI.frame (H':=bGQ) bp1 fun j b=>bpW j (by have:=J j b;omega) (bGP j (by have:=J j b;omega));replace bIF:=byO _ bGQ _ _ _ bIF fun j b=>bpW j (by have:=v j b;omega) (bGP j (by have:=v j b;omega));clear bpW bGP bpN bGE z d;have d:bQ ah [0,1,32,e+7]:=AM.apart (by simp<;>omega) (by simp<;>omega);simp only[bQ,eZ] at d;(try simp only[go_sem,boC,f,g,i,m,d,boC]);repeat' first| (first|apply bn1|apply bpK (by omega)| (refine bHN (F:=bF5) (fun j b=>by have:=J j b;omega) bGI hl (by omega) (by omega) (fun bIG ai ax bpO bpX=> ?_)))<;>(simp only[go_sem,boC,f,g,i,m,d,boC])|fail
 have bGP: ∀j,j<33∨e≤j→¬bF5 j:=fun j h u=>by have:=J j u;omega
 replace f:=(bpX 0 (by omega) (bGP 0 (by omega))).trans f;replace g:=(bpX 1 (by omega) (bGP 1 (by omega))).trans g;replace i:=(bpX 32 (by omega) (bGP 32 (by omega))).trans i;replace m:=(bpX (e+7) (by omega) (bGP _ (by omega))).trans m;replace bIF:=byO _ bIG _ _ _ bIF fun j b=>bpX j (by have:=v j b;omega) (bGP j (by have:=v j b;omega));clear bpX bGP bpO bGI d;have d:bQ ai [0,1,32,e+7]:=AM.apart (by simp<;>omega) (by simp<;>omega);simp only[bQ,eZ] at d;(try simp only[go_sem,boC,f,g,i,m,d,boC]);repeat' first| (first|apply bn1|apply bBP q bIF| (refine bA1 (F:=F) (fun j b=>by have:=v j b;omega) bIF q (by omega) (by omega) (fun bIH t ay bpP bkR=> ?_)))<;>(simp only[go_sem,boC,f,g,i,m,d,boC])|fail
 have bGP: ∀j,j<e+10→¬F j:=fun j h u=>by have:=v j u;omega
 replace f:=(bkR 0 (by omega) (bGP 0 (by omega))).trans f;replace g:=(bkR 1 (by omega) (bGP 1 (by omega))).trans g;replace i:=(bkR 32 (by omega) (bGP 32 (by omega))).trans i;replace m:=(bkR (e+7) (by omega) (bGP _ (by omega))).trans m;clear bkR bGP bIF d;have d:bQ t [0,1,32,e+7]:=AM.apart (by simp<;>omega) (by simp<;>omega);simp only[bQ,eZ] at d;(try simp only[go_sem,boC,f,g,i,m,d,boC]);repeat' first| (first|apply bn1|apply bB3 q (by omega) (by omega) bpP)<;>(simp only[go_sem,boC,f,g,i,m,d,boC])|apply bn3 (by omega)|fail
 have S: ∀G:aA,msk (t+10) [10] G 0=G 0:=fun G=>mk1 (by omega);have bp0: ∀G:aA,msk (t+10) [10] G 1=G 1:=fun G=>mk1 (by omega);have aj: ∀{H:aA} {nx:Nat} {K:D→aA→Nat→Prop},K (.tup [.agg (eSt w),.c (cI boW)]) H nx→aB Tryz.prog auW [boR (cU c),boR (eSt s),dS (es.map eEv)] H nx K:=fun h=>bH6 A.fit y.fit (by omega) (by rw[←hw,←E];exact h);(try simp only[go_sem,boC,f,g,i,m,S,bp0,aSP,d,boC]);repeat' first| (first|apply bn1|apply bcF A)<;>(simp only[go_sem,boC,f,g,i,m,S,bp0,aSP,d,boC])|fail
 generalize hX:dT (t+10) [10] _ _=X;have L: ∀j,j<t→X j=bIH j:=fun j h=>by rw[←hX,um1 (by omega),mk1 (by omega)]
 have blB:X (t+20)=some ⟨6,1,[[.osl 0 0 0 0 0,.osl 0 0 0 0 0,.osl 0 0 0 0 0,.osl 0 0 0 0 0,.osl 0 0 0 0 0,.osl 0 0 0 0 0]]⟩:=by rw[←hX];exact aH6.trans aA.bH
 replace f:=(L 0 (by omega)).trans f;replace g:=(L 1 (by omega)).trans g;replace i:=(L 32 (by omega)).trans i;replace m:=(L (e+7) (by omega)).trans m;replace bpP:=byO _ X _ _ _ bpP fun j b=>L j (by have:=v j b;omega);clear hX L;have ak:=fun o=>byO _ (X.set (t+20) o) _ _ _ bpP fun j b=>aA.aC (by have:=v j b;omega);(try simp only[go_sem,boC,f,g,i,m,blB,S,bp0,aSP,d,boC]);repeat' first| (first|apply bn1|apply bAC y|apply bHA hl|apply aj|apply bDH q|apply bB3 q (by omega) (by omega) (ak _))<;>(simp only[go_sem,boC,f,g,i,m,blB,S,bp0,aSP,d,boC])|apply bn3 (by omega)|fail
 all_goals exact O _ _ _ _ _ (.inr rfl) rfl ⟨rfl,rfl⟩
end Go.Proofs.YtdkfhdmagdaceaaGreat
