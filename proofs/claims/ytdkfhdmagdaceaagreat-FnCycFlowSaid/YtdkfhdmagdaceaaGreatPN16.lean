/- Texts laid together by a program: rules, contracts and the walk that leads to the law. -/
import Derived.Test.YtdkfhdmagdaceaaGreatPN13
import Derived.Test.YtdkfhdmagdaceaaGreatPN8
set_option linter.unusedVariables false
set_option linter.unusedSimpArgs false
set_option linter.unusedSectionVars false
set_option maxRecDepth 100000
set_option maxHeartbeats 8000000
namespace Go.Proofs.YtdkfhdmagdaceaaGreat
open Go Go.AM
attribute [local irreducible] aM wv aB vd wvH
theorem EB:cJ Tryz.prog mG Tryz.f188 lR sK:=cJ.mk Tryz.func188 (by kernel_rfl) D6
section
variable {H : aA} {nx : Nat} {K : D → aA → Nat → Prop}
theorem F8 {X:Nat→Prop} {c:Cfg} {i:CIn} {s:CSt} {es:List Ev} {i0 i1:Nat} {nm:Nat→Nat} (hb:aQ c) (hs:COk c s) (br:i.ready.length=3) (hB:l9 X H nx i0 i1 nm s es) (hl:es.length<900)
 (h: ∀H' nx' w,nx≤nx'→l9 X H' nx' i0 i1 w (CW c i s) (es++iP c s (KQ c i s))→(∀id,X id→H' id=H id)→K (.tup []) H' nx'):
 aB Tryz.prog mG [.one (.c (.ptr 5 i0 0 0)),boR (eIn i),.one (.c (.ptr 5 i1 0 0))] H nx K:=by
 refine EB rfl fun Q hQ=> ?_
 unfold lR
 obtain⟨wc,hc,pc,vc,tc,ar,bs,bt,bu,bw,bx⟩: ∃wc hc pc vc tc,H i0=some ⟨5,1,[[.osl 1 (nm 0) 0 s.words.length wc,.osl 1 (nm 1) 0 s.holds.length hc,.osl 4 (nm 2) 0 3 pc,.osl 3 (nm 3) 0 4 vc,.osl 5 (nm 4) 0 s.told.length tc]]⟩∧_:=by obtain⟨cells,F,⟨wc,hc,pc,vc,tc,rfl,V⟩,_⟩:=hB.rep.st;exact⟨wc,hc,pc,vc,tc,F,V⟩
 have y:=hB.rep.apart (nx':=nx) [] [] (m5 _) (by simp) (by simp) (by simp) (by simp)
 simp only[bQ,eZ,List.map,List.nil_append] at y
 repeat' first|apply bn1<;>(simp only[go_sem,ar,y])|fail
 obtain⟨H0,W⟩: ∃H0,H0=H.set nx ⟨3,1,[eIn i]⟩:=⟨_,rfl⟩
 rw[←W]
 have au:H0 nx=some ⟨3,1,[eIn i]⟩:=by rw[W];exact aA.bH
 have aw:l9 (fun id=>X id∨id=nx) H0 (nx+7) i0 i1 nm s es:=hB.next (by omega) (fun id F V=>by rw[W,aA.aC (by omega)]) fun id f=>by
  rcases f with f|rfl;·have:=hB.rep.x id (.inl f);exact⟨by omega,.inl f⟩
  ·exact⟨by omega,.inr (m5 _)⟩
 have ax:=hB.rep.i0.1
 have ay:=hB.hap.i1.1
 refine aM.gP (β:=Nat×CSt×List Ev×(Nat→Nat)) (fun u=>en [(18,boP u.1),(17,boP 3),(4,.one (.c (.ptr 3 nx 0 0))),(2,.one (.c (.ptr 5 i1 0 0))),(0,.one (.c (.ptr 5 i0 0 0)))])
  (fun u H1 ab=>u.1≤3∧COk c u.2.1∧l9 (fun id=>X id∨id=nx) H1 ab i0 i1 u.2.2.2 u.2.1 u.2.2.1∧(∀id,X id∨id=nx→H1 id=H0 id)∧vU c (vT i) ([0,1,2].drop u.1) u.2.1 u.2.2.1 (CW c i s) (es++iP c s (KQ c i s))∧u.2.2.1.length≤es.length+u.1)
  (fun u=>3-u.1) (0,s,es,nm) ⟨noF,_,by repeat' first|exact bo2|refine xqI rfl rfl ?_|refine xqP (by omega) rfl rfl ?_|fail,aK,by dsimp only;omega,hs,aw,fun _ _=>rfl,⟨rfl,rfl⟩,by simp⟩ ?_
 rintro⟨k,s1,ad,a⟩ H1 ab bz ⟨hk,g,q,L,ae,az⟩ bpQ af
 dsimp only at hk g q ae az
 obtain⟨wc,hc,pc,vc,tc,mp,rp,mv,rv,bqC,g1,g2,g3,g4,g5,bkU,bkV,bp4,bp5,ga,gb⟩:=q.rep.get
 have z:H1 nx=some ⟨3,1,[eIn i]⟩:=by rw[L nx (.inr rfl)];exact au
 by_cases M:k<3
 ·have Y:=ae;rw[ap4 M] at Y;obtain⟨p,N⟩: ∃p,p=aF s1 k:=⟨_,rfl⟩
  obtain⟨qo,qc,oc,gr,gq,go⟩:=ga k M;rw[←N] at gr gq go;repeat' first|apply bn1<;>(simp only[go_sem,bqC,g1,gr,z])|apply bn2 (by omega)|refine⟨by omega,?_⟩|fail
  have ag:=g.port k M;rw[←N] at ag;have ca:=q.rep.names.lt 2 (by omega);obtain⟨cb,cc⟩:=ag.last
  refine aM.gP (β:=Nat) (fun j=>en [(18,boP k),(17,boP 3),(8,boP j),(7,.one (.c (.ptr 4 (a 2) k 0))),(6,boP k),(4,.one (.c (.ptr 3 nx 0 0))),(2,.one (.c (.ptr 5 i1 0 0))),(0,.one (.c (.ptr 5 i0 0 0)))])
   (fun j H2 _=>1≤j∧j≤5∧H2=H1∧ ∀B,1≤B→B<j→NN s1 k (pQ s1 k B)=false) (fun j=>5-j) 1 ⟨noF,_,by repeat' first|exact bo2|refine xqI rfl rfl ?_|refine xqP (by omega) rfl rfl ?_|fail,aK,by omega,by omega,rfl,fun B F V=>by omega⟩ ?_
  rintro j H2 b ba ⟨bb,cd,bc,hinv⟩ bkT al;subst bc;by_cases bd:j≤4
  ·cases I:i.ready.getD k default with
   |false=>
    repeat' first| (first|apply bn1|apply bpJ (by omega))<;>(simp only[go_sem,z,I];try simp (disch:=omega) only[Iw])|refine⟨by omega,?_⟩|fail
    exact af _ _ _ (k+1,s1,ad,a) noF _ (by omega) (by dsimp only;omega) (by repeat' first|exact bo2|refine xqI rfl rfl ?_|refine xqP (by omega) rfl rfl ?_|fail) aK ⟨by dsimp only;omega,g,q.mono (by omega),L,Y.none (agJ I),by dsimp only;omega⟩
   |true=>
   obtain⟨st,O⟩: ∃st,st=pQ s1 k j:=⟨_,rfl⟩
   have bf:st=((p.last+(j:Int))%4).toNat:=(by rw[O,N];rfl);have P:st<4:=(by omega);have R:(p.last+(j:Int)).tmod 4=(st:Int):=(by rw[brF (by omega)];omega);obtain⟨v,A⟩: ∃v,v=aL s1 st:=⟨_,rfl⟩
   obtain⟨po,ah,do_,dc,gs,gp,gd⟩:=gb st P;rw[←A] at gs gp gd;obtain⟨md,rd,d1,d2,d3,bkS,bk2,bk3⟩:=gd.ex;by_cases cf:v.done.length=0
   ·have hlen:((v.done.length:Int)=0)=True:=eq_true (by omega);repeat' first| (first|apply bn1|apply bpJ (by omega))<;>(simp only[go_sem,bqC,g1,g2,gr,gs,z,R,I,hlen];try simp (disch:=omega) only[Iw])|refine⟨by omega,?_⟩|fail
    exact al _ _ _ (j+1) noF _ (by omega) (by omega) (by repeat' first|exact bo2|refine xqI rfl rfl ?_|refine xqP (by omega) rfl rfl ?_|fail) aK ⟨by omega,by omega,rfl,fun B F V=>by
     by_cases Z:B<j
     ·exact hinv B F Z
     ·have:B=j:=(by omega);subst this;rw[←O];exact decide_eq_false fun hc=>by rw[←A] at hc;omega⟩
   have hlen:((v.done.length:Int)=0)=False:=eq_false (by omega);obtain⟨d,S⟩: ∃d,d=v.done.getD 0 default:=⟨_,rfl⟩
   have bk4:rd[do_]?=some (aS d):=(by have:(rd.drop do_)[0]?=some (aS d):=(by rw[d2,p0];simp[S,List.getD,show 0<v.done.length by omega]);rwa [s5,Nat.add_zero] at this);by_cases C:d.who=k
   ·have cg:=q.rep.names.lt (8+k) (by omega);have ch:s1.told.length≤36:=(by have:=g.st.lens hb;simp only[cX] at this;omega);have cj:=ag.ol;have hex: ∃j∈p.out,j.n=d.n:=by obtain⟨_,j,q1,q2,_⟩:=(g.slv st P).out (key d) (by rw[←A];exact M9 (by rw[S];exact cC (by omega)));have e:(key d).1.toNat=k:=(by show d.who.toNat=k;omega);rw[e,←N] at q1;exact⟨j,q1,q2⟩
    obtain⟨bg,ck⟩:=PJ hex;have bh: ¬bK (isC d.n) p.out<0:=by have:0≤bK (isC d.n) p.out:=cH.2 (by obtain⟨j,q1,q2⟩:=hex;exact⟨j,q1,decide_eq_true q2⟩);omega
    have ai: ∀{G:aA} {n':Nat} {K:D→aA→Nat→Prop},G (a (5+k))=H2 (a (5+k))→G (a (8+k))=H2 (a (8+k))→K (boP (bK (isC d.n) p.out)) G n'→aB Tryz.prog kV [.one (.agg [cI p.next,.osl 1 (a (5+k)) qo p.queue.length qc,.osl 3 (a (8+k)) 0 p.out.length oc,cI p.last]),boP d.n] G n' K:=fun F V h3=>
     KT (by omega) (lY (A8 (fO ZX (fO ((gq.frame F).frz (aG bF _) trivial) (fO ((go.frame V).frz (aG yK _) trivial) (fO ZX LH)))))) h3
    have y:=q.rep.apart (nx':=b) [nx] [0,1,2,3,4,5+k,8+k,11+st,15+st] (by omega) (by simp) (fun x hx=>.inl (.inr (by simpa using hx))) (by simp;omega) (by simp;omega);simp only[bQ,eZ,List.map,List.cons_append,List.nil_append] at y;obtain⟨mt,rt,e1,e2,e3,e4,e5,e6⟩:=g5.ex;obtain⟨mo,ro,o1,o2,bqD,bqE,bqF,blC⟩:=go.ex;rw[bq5] at e2 o2;subst e2;subst o2;refine aM.BW fun bj=> ?_;have an: ∀r,(rp.set k r)[k]?=some r:=fun r=>by rw[bqZ (by omega)]
    have bk: ∀k l,msk (b+k) l H2=H2:=fun k l=>BV bj (by omega);repeat' first| (first|apply bn1|apply bpJ (by omega)|apply ai (by simp only[aA.set,aA.del,y,if_false]) (by simp only[aA.set,aA.del,y,if_false])| (refine tK (m:=mo) (by omega) bh bg bqF (by omega) (by omega) (by simp only[aA.set,aA.del,y,if_false];exact o1) (fun aa m' q1 q2=> ?_)))<;>(simp only[go_sem,t1,bqT,bk,umS (G:=H2),umD (G:=H2),umB,an,bq1,bqC,g1,g2,gr,gs,z,R,I,hlen,d1,bk4,C,e1,o1,y];try simp (disch:=omega) only[Iw])| (with_reducible first|refine fun(cap:Nat) (aj:_≤cap)=> ?_|refine fun(cl:_≤cap)=> ?_)|refine⟨by omega,?_⟩|fail
    obtain⟨w,E⟩: ∃w,w=put (put a 4 (b+56)) (8+k) (b+88):=⟨_,rfl⟩
    have J: ∀j,j≠4→j≠8+k→w j=a j:=fun j F V=>by rw[E,jE V,jE F]
    have p4:w 4=b+56:=(by rw[E,jE (by omega),t8]);have bk9:w (8+k)=b+88:=(by rw[E,t8]);obtain⟨s',t⟩: ∃s',s'=aR c s1 (.tell k st):=⟨_,rfl⟩
    have ak:iF s1 st=d:=(by rw[S,A];rfl);have T:aF s' k= {p with out:=PE p.out d.n,last:=st}:=(by rw[t,bL rfl (by rw[g.pl];omega),if_pos rfl,ak,←N]);have U:aL s' st= {v with done:=v.done.drop 1}:=(by rw[t,bO rfl (by rw[g.sl];omega),if_pos rfl,←A]);have ao:s'.told=s1.told++[d]:=(by rw[t,←ak];rfl);refine acI (q.upd k st w s' (by omega) ?_ ?_ ?_ ?_ ?_ ?_ (.inl M) (.inl P) (fun j Z o=>by rw[t,bL rfl (by rw[g.pl];omega),if_neg o]) (fun j Z o=>by rw[t,bO rfl (by rw[g.sl];omega),if_neg o])) (by omega) fun H' nx' hx bm bn=> ?_
    ·rw[E];have aq: ∀v,b≤v→¬((X v∨v=nx)∨v=i1):=fun v hv hn=>by have:=q.rep.x v hn;omega
     exact((q.rep.names.mono (by omega:ab≤b)).put (nx':=b+57) (by omega) (by omega) (aq _ (by omega))).put (by omega) (by omega) (aq _ (by omega))
    ·intro j Z;by_cases h4:j=4;·subst h4;exact .inr ⟨.inl rfl,by omega⟩
     ·by_cases h8:j=8+k;·subst h8;exact .inr ⟨.inr (.inr (.inl rfl)),by omega⟩
      ·exact .inl (J j h4 h8)
    ·intro id f h0 o;simp only[aA.set,aA.del,h0,o 2 (by omega) (by omega),o 3 (by omega) (by omega),o 4 (by omega) (by omega),o (8+k) (by omega) (by omega),show ¬id=b+47 by omega,show ¬id=b+55 by omega,show ¬id=b+56 by omega,show ¬id=b+88 by omega,if_false]
    ·refine⟨wc,hc,pc,vc,cap,?_,?_,?_,?_,bkU,bkV⟩;·simp only[aA.set,aA.del,y,if_false,if_true,U2,J 0 (by omega) (by omega),J 1 (by omega) (by omega),J 2 (by omega) (by omega),J 3 (by omega) (by omega),p4,ao,t2,List.length_singleton];rw[t];rfl
     ·rw[J 0 (by omega) (by omega),t];exact g3.frame (by simp only[aA.set,aA.del,y,if_false])
     ·rw[J 1 (by omega) (by omega),t];exact g4.frame (by simp only[aA.set,aA.del,y,if_false])
     ·rw[p4,ao];exact⟨cap,(s1.told++[d]).map aS,by simp only[aA.set,aA.del,y,if_false,if_true,show ¬b+56=b+88 by omega],rfl,by simp,by simp,by simpa using aj,by simp⟩
    ·refine⟨mp,rp.set k [cI p.next,.osl 1 (a (5+k)) qo p.queue.length qc,.osl 3 (b+88) 0 (PE p.out d.n).length aa,cI st],mp,rp,g1,by simp only[aA.set,aA.del,y,if_false,if_true];rfl,by simp only[Y5,bp4],fun j Z o=>by rw[bq0 (Ne.symm o)],fun _=>⟨_,an _,⟨qo,qc,aa,?_,?_,?_⟩⟩⟩;·rw[T,J (5+k) (by omega) (by omega),bk9];rfl
     ·rw[T,J (5+k) (by omega) (by omega)];exact gq.frame (by simp only[aA.set,aA.del,y,if_false])
     ·rw[T,bk9];exact⟨m',(PE p.out d.n).map eCJ,by simp only[aA.set,aA.del,y,if_false,if_true];rfl,rfl,by simp,by simp,q1,by omega⟩
    ·refine⟨mv,rv.set st [.osl 3 (a (11+st)) po v.pipe.length ah,.osl 5 (a (15+st)) (do_+1) (v.done.length-1) (dc-1),cI v.last],mv,rv,g2,by simp only[aA.set,aA.del,y,if_false,if_true],by simp only[Y5,bp5],fun j Z o=>by rw[bq0 (Ne.symm o)],fun _=>⟨[.osl 3 (a (11+st)) po v.pipe.length ah,.osl 5 (a (15+st)) (do_+1) (v.done.length-1) (dc-1),cI v.last],bqZ (by omega),⟨po,ah,do_+1,dc-1,?_,?_,?_⟩⟩⟩;·rw[U,J (11+st) (by omega) (by omega),J (15+st) (by omega) (by omega)];simp only[aj9,CI]
     ·rw[U,J (11+st) (by omega) (by omega)];exact gp.frame (by simp only[aA.set,aA.del,y,if_false])
     ·rw[U,J (15+st) (by omega) (by omega)];refine⟨md,rd,by simp only[aA.set,aA.del,y,if_false];exact d1,by rw[brE,←d2,Y2],?_,by simp,?_,?_⟩;·simp only[CI];omega
      ·simp only[CI];omega
      ·omega
    ·simp only[go_sem];repeat' first|apply bn1<;>(simp only[go_sem];try simp (disch:=omega) only[Iw])|fail
     have boT:vT i s1 k=some (.tell k st):=(by rw[O];exact acB I bb bd hinv (by rw[←O];exact decide_eq_true ⟨by rw[←A];omega,by rw[←A,←S];exact C⟩));have hL:=Y.some boT;rw[←t,show y0 s1 (.tell k st)=[⟨3,k,d.n⟩] from by rw[←ak];rfl] at hL;have bo:COk c s':=(by rw[t];exact o9 hb g (TB g M boT));exact af _ _ _ (k+1,s',ad++[⟨3,k,d.n⟩],w) noF _ (by omega) (by dsimp only;omega) (by repeat' first|exact bo2|refine xqI rfl rfl ?_|refine xqP (by omega) rfl rfl ?_|fail) aK ⟨by dsimp only;omega,bo,bm.mono (by omega),fun id f=>(bn id f).trans (L id f),hL,by simp;omega⟩
   ·have bp:(d.who=(k:Int))=False:=eq_false C;repeat' first| (first|apply bn1|apply bpJ (by omega))<;>(simp only[go_sem,bqC,g1,g2,gr,gs,z,R,I,hlen,d1,bk4,bp];try simp (disch:=omega) only[Iw])|refine⟨by omega,?_⟩|fail
    exact al _ _ _ (j+1) noF _ (by omega) (by omega) (by repeat' first|exact bo2|refine xqI rfl rfl ?_|refine xqP (by omega) rfl rfl ?_|fail) aK ⟨by omega,by omega,rfl,fun B F V=>by
     by_cases Z:B<j
     ·exact hinv B F Z
     ·have:B=j:=(by omega);subst this;rw[←O];exact decide_eq_false fun hc=>C (by rw[S,A];exact hc.2)⟩
  ·repeat' first| (first|apply bn1|apply bpK (by omega))<;>(simp only[go_sem];try simp (disch:=omega) only[Iw])|fail
   exact af _ _ _ (k+1,s1,ad,a) noF _ (by omega) (by dsimp only;omega) (by repeat' first|exact bo2|refine xqI rfl rfl ?_|refine xqP (by omega) rfl rfl ?_|fail) aK ⟨by dsimp only;omega,g,q.mono (by omega),L,Y.none (acZ fun B F V=>hinv B F (by omega)),by dsimp only;omega⟩
 ·repeat' first|apply bn1<;>(simp only[go_sem])|apply bn3 (by omega)|fail
  have bq:k=3:=by omega
  subst bq;obtain⟨rfl,rfl⟩:=vU.nil ae;refine hQ _ _ _ _ _ (.inl rfl) rfl (h _ _ a (by omega) (q.next (by omega) (fun _ _ _=>rfl) fun id f=>⟨?_,.inl (.inl f)⟩) fun id f=> ?_);·have:=hB.rep.x id (.inl f);omega
  ·rw[L id (.inl f),W,aA.aC];have:=hB.rep.x id (.inl f);omega
end
theorem F1:cJ Tryz.prog n6 Tryz.f190 mL uR:=cJ.mk Tryz.func190 (by kernel_rfl) FB
end Go.Proofs.YtdkfhdmagdaceaaGreat
namespace Go.AM
theorem l9.cells {X:Nat→Prop} {H:aA} {nx i0 i1:Nat} {nm:Nat→Nat} {s:CSt} {es:List Ev} (h:l9 X H nx i0 i1 nm s es) {r r':List D1} {k:Nat} (j:k<4) (p:H i1=some ⟨5,1,[r]⟩) (hr:r'=r.set (1+k) (cI 1)):l9 X (H.set i1 ⟨5,1,[r']⟩) nx i0 i1 nm s es:=by
 subst hr;have g:=h.rep.names.av;have i:=h.rep.i0;refine⟨h.rep.frame (m5 _) (aA.aC fun he=>i.2 (.inr he)) (fun k j=>aA.aC fun he=>g k j (.inr he)) fun id f=>⟨h.rep.x id f,fun he=>i.2 (he▸f),fun k j he=>g k j (he▸f)⟩,?_⟩;obtain⟨⟨d,a,b,c,e,n,m⟩,q,t⟩:=h.hap;rw[p] at n;obtain rfl:r=[d,cI a,cI b,cI c,cI e]:=by simpa using n
 have l:aqA (fun id=>X id∨id=i0∨ ∃k,k<19∧id=nm k) (H.set i1 ⟨5,1,[[d,cI a,cI b,cI c,cI e].set (1+k) (cI 1)]⟩) nx i1 es d:=by
  rcases m with m|⟨ev,cap,u,v,w,y,o⟩
  ·exact .inl m
  ·exact .inr ⟨ev,cap,u,v.frame (aA.aC o),w,y,o⟩
 refine⟨?_,q,t⟩;obtain rfl|rfl|rfl|rfl:k=0∨k=1∨k=2∨k=3:=by omega
 ·exact⟨d,1,b,c,e,aA.bH,l⟩
 ·exact⟨d,a,1,c,e,aA.bH,l⟩
 ·exact⟨d,a,b,1,e,aA.bH,l⟩
 ·exact⟨d,a,b,c,1,aA.bH,l⟩
theorem l9.atI {X:Nat→Prop} {H:aA} {nx i0 i1:Nat} {nm:Nat→Nat} {s:CSt} {es:List Ev} {j:Nat} {o:bA} (h:l9 X H nx i0 i1 nm s es) (b:X j):l9 X (H.set j o) nx i0 i1 nm s es:=h.next (m5 _) (fun id _ c=>aA.aC fun he=>c (he▸b)) fun id a=>⟨h.rep.x id (.inl a),.inl a⟩
end Go.AM
namespace Go.Proofs.YtdkfhdmagdaceaaGreat
open Go Go.AM
attribute [local irreducible] aM wv aB vd wvH
section
variable {H : aA} {nx : Nat} {K : D → aA → Nat → Prop}
theorem HT {X:Nat→Prop} {c:Cfg} {s:CSt} {es:List Ev} {i0 i1:Nat} {nm:Nat→Nat} (hb:aQ c) (hs:COk c s) (hB:l9 X H nx i0 i1 nm s es)
 (h: ∀H' nx' n,nx≤nx'→l9 X H' nx' i0 i1 n (dR c s (ad4 c s)) es→(∀id,X id→H' id=H id)→K (.tup []) H' nx'):
 aB Tryz.prog n6 [.one (.c (.ptr 5 i0 0 0)),boR (cU c),.one (.c (.ptr 5 i1 0 0))] H nx K:=by
 refine F1 rfl fun Q hQ=> ?_
 unfold mL
 obtain⟨cd,cf⟩:=hC hb
 obtain⟨wc,hc,pc,vc,tc,bf,cg,ch,cj,ck,cl⟩: ∃wc hc pc vc tc,H i0=some ⟨5,1,[[.osl 1 (nm 0) 0 s.words.length wc,.osl 1 (nm 1) 0 s.holds.length hc,.osl 4 (nm 2) 0 3 pc,.osl 3 (nm 3) 0 4 vc,.osl 5 (nm 4) 0 s.told.length tc]]⟩∧_:=by obtain⟨cells,F,⟨wc,hc,pc,vc,tc,rfl,h2⟩,_⟩:=hB.rep.st;exact⟨wc,hc,pc,vc,tc,F,h2⟩
 have t:=hB.rep.apart (nx':=nx) [] [] (m5 _) (by simp) (by simp) (by simp) (by simp)
 simp only[bQ,eZ,List.map,List.nil_append] at t
 repeat' first|apply bn1<;>(simp only[go_sem,t1,bqT,bf,t])|fail
 obtain⟨H0,I⟩: ∃H0,H0=(H.set nx ⟨3,1,[cU c]⟩).set (nx+1) ⟨3,1,[[false,false,false].map cB]⟩:=⟨_,rfl⟩
 have w:=I
 simp only[List.map] at w
 unfold cB at w
 rw[←w]
 clear w
 have bg:H0 nx=some ⟨3,1,[cU c]⟩:=by rw[I,aA.aC (by omega)];exact aA.bH
 have bh:H0 (nx+1)=some ⟨3,1,[[false,false,false].map cB]⟩:=by rw[I];exact aA.bH
 have bj:=hB.rep.i0.1
 have bk:=hB.hap.i1.1
 have bm:l9 (fun id=>X id∨id=nx∨id=nx+1) H0 (nx+8) i0 i1 nm s es:=hB.next (by omega) (fun id F h2=>by rw[I,aA.aC (by omega),aA.aC (by omega)]) fun id b=>by
  rcases b with b|rfl|rfl;·have:=hB.rep.x id (.inl b);exact⟨by omega,.inl b⟩
  ·exact⟨by omega,.inr (m5 _)⟩
  ·exact⟨by omega,.inr (by omega)⟩
 refine aM.gP (β:=Nat×CSt×List Bool×(Nat→Nat)) (fun u=>en [(18,boP u.1),(17,boP 4),(6,.one (.c (.ptr 3 (nx+1) 0 0))),(4,.one (.c (.ptr 3 nx 0 0))),(2,.one (.c (.ptr 5 i1 0 0))),(0,.one (.c (.ptr 5 i0 0 0)))])
  (fun u H1 ad=>u.1≤4∧COk c u.2.1∧l9 (fun id=>X id∨id=nx∨id=nx+1) H1 ad i0 i1 u.2.2.2 u.2.1 es∧(∀id,X id∨id=nx→H1 id=H0 id)∧LV c ([0,1,2,3].drop u.1) u.2.1 u.2.2.1 (dR c s (ad4 c s))∧u.2.2.1.length=3∧H1 (nx+1)=some ⟨3,1,[u.2.2.1.map cB]⟩)
  (fun u=>4-u.1) (0,s,[false,false,false],nm) ⟨noF,_,by repeat' first|exact bo2|refine xqI rfl rfl ?_|refine xqP (by omega) rfl rfl ?_|fail,aK,by dsimp only;omega,hs,bm.mono (by omega),fun _ _=>rfl,rfl,rfl,bh⟩ ?_
 rintro⟨k,s1,u,e⟩ H1 ad cm ⟨hk,d,f,J,ag,L,B⟩ bpQ ah
 dsimp only at hk d f ag L B
 obtain⟨wc,hc,pc,vc,tc,mp,rp,mv,rv,bqC,g1,g2,g3,g4,g5,bkU,bkV,bp4,bp5,ga,gb⟩:=f.rep.get
 have aa:H1 nx=some ⟨3,1,[cU c]⟩:=by rw[J _ (.inr rfl)];exact bg
 by_cases o:k<4
 ·have ae:=ag;rw[apX o] at ae;obtain⟨v,C⟩: ∃v,v=aL s1 k:=⟨_,rfl⟩
  obtain⟨po,cn,do_,dc,gs,gp,gd⟩:=gb k o;rw[←C] at gs gp gd;obtain⟨me,re,p1,p2,p3,p4,p5,p6⟩:=gp.ex;rw[bqW] at p4;have bn:=(d.slv k o).last;have cp:=f.rep.names.lt 3 (by omega);rw[←C] at bn;repeat' first|apply bn1<;>(simp only[go_sem,t1,bqT,bqC,g2,gs])|apply bn2 (by omega)|refine⟨by omega,?_⟩|fail
  refine aM.gP (β:=Nat) (fun j=>en [(18,boP k),(17,boP 4),(9,boP j),(8,.one (.c (.ptr 3 (e 3) k 0))),(7,boP k),(6,.one (.c (.ptr 3 (nx+1) 0 0))),(4,.one (.c (.ptr 3 nx 0 0))),(2,.one (.c (.ptr 5 i1 0 0))),(0,.one (.c (.ptr 5 i0 0 0)))])
   (fun j H2 _=>1≤j∧j≤4∧H2=H1∧ ∀y,1≤y→y<j→KE c s1 u k (sM s1 k y)=false) (fun j=>4-j) 1 ⟨noF,_,by repeat' first|exact bo2|refine xqI rfl rfl ?_|refine xqP (by omega) rfl rfl ?_|fail,aK,by omega,by omega,rfl,fun y F h2=>by omega⟩ ?_
  rintro j H2 a bo ⟨bp,cq,bq,hinv⟩ bkT aq;subst bq;by_cases ar:v.pipe.length<2
  ·by_cases br:j≤3
   ·obtain⟨who,af⟩: ∃who,who=sM s1 k j:=⟨_,rfl⟩
    have bs:who=((v.last+(j:Int))%3).toNat:=(by rw[af,C];rfl);have M:who<3:=(by omega);have N:(v.last+(j:Int)).tmod 3=(who:Int):=(by rw[brF (by omega)];omega);have ai:((u.map cB).drop who).take 1=[cB (u.getD who default)]:=(by rw[brB (by simp;omega)];simp[List.getD,show who<u.length by omega]);have O:(u.map cB).length=3:=(by rw[bqW,L]);have hle:(who+1≤3)=True:=eq_true (by omega)
    have P:KE c s1 u k who=false→∀y,1≤y→y<j+1→KE c s1 u k (sM s1 k y)=false:=fun hf y F h2=>by
     by_cases hj:y<j;·exact hinv y F hj
     ·have:y=j:=(by omega);subst this;rw[←af];exact hf
    cases D:u.getD who default with
    |true=>
     repeat' first| (first|apply bn1|apply bpJ (by omega))<;>(simp only[go_sem,t1,bqT,bqC,g2,gs,brK,N,B,ai,O,hle,D];try simp (disch:=omega) only[Iw])|apply bn2 (by omega)|refine⟨by omega,?_⟩|fail
     exact aq _ _ _ (j+1) noF _ (by omega) (by omega) (by repeat' first|exact bo2|refine xqI rfl rfl ?_|refine xqP (by omega) rfl rfl ?_|fail) aK ⟨by omega,by omega,rfl,P (by unfold KE;rw[D];rfl)⟩
    |false=>
    by_cases z:HV c s1 who k
    ·have R:decide (HV c s1 who k)=true:=decide_eq_true z;obtain⟨p,S⟩: ∃p,p=aF s1 who:=⟨_,rfl⟩
     obtain⟨qo,qc,oc,gr,gq,go⟩:=ga who M;rw[←S] at gr gq go;have bt:=z.1;have bu:=z.2.1;rw[←S] at bt bu;have au:=d.port who M;rw[←S] at au;have cr:=au.ql;obtain⟨mq,rq0,q1,q2,q3,q4,q5,q6⟩:=gq.ex;obtain⟨mo,ro,o1,o2,bqD,bqE,bqF,blC⟩:=go.ex;rw[bqW] at q4 bqE;rw[bq5] at o2;subst o2;obtain⟨n0,aj⟩: ∃n0,n0=p.queue.getD 0 default:=⟨_,rfl⟩
     have bqJ:rq0[qo]?=some [cI n0]:=(by have:(rq0.drop qo)[0]?=some [cI n0]:=(by rw[q2,p0];simp[aj,List.getD,show 0<p.queue.length by omega,aJ]);rwa [s5,Nat.add_zero] at this);have bw:=hb.2.1;have aw: ∀r,(rp.set who r)[who]?=some r:=fun r=>by rw[bqZ (by omega)]
     have ax: ∀r,(rv.set k r)[k]?=some r:=fun r=>by rw[bqZ (by omega)]
     have t:=f.rep.apart (nx':=a) [nx,nx+1,i1] [0,1,2,3,4,5+who,8+who,11+k,15+k] (by omega) (by simp;omega) (fun x hx=>by simp at hx;rcases hx with rfl|rfl|rfl;exact .inl (.inr (.inl rfl));exact .inl (.inr (.inr rfl));exact .inr rfl) (by simp;omega) (by simp;omega);simp only[bQ,eZ,List.map,List.cons_append,List.nil_append] at t;obtain⟨dh,T,U,V,W,ay,_⟩:=f.hap.ex;refine aM.BW fun bx=> ?_;have bz: ∀k l,msk (a+k) l H2=H2:=fun k l=>BV bx (by omega);repeat' first| (first|apply bn1|apply bpJ (by omega)|apply vW (s:=s1) hb d M o (f.rep.ar5 d.pl d.sl))<;>(simp only[go_sem,t1,bqT,brK,N,B,ai,O,hle,D,aa,R,bz,umS (G:=H2),umD (G:=H2),umB,bq1,bqC,g1,g2,gr,gs,aw,ax,q1,bqJ,o1,p1,ay,t];try simp (disch:=omega) only[Iw])|apply bn2 (by omega)| (with_reducible first|refine fun(cap:Nat) (ak:_≤cap)=> ?_|refine fun(ct:_≤cap)=> ?_)|refine⟨by omega,?_⟩|fail
     rename_i q ab ca;obtain⟨jo,al⟩: ∃jo:fC,jo=⟨who,n0,k⟩:=⟨_,rfl⟩
     obtain⟨jp,an⟩: ∃jp:fC,jp=⟨who,n0,c.lat.getD k default⟩:=⟨_,rfl⟩
     have eo:List.map eCJ p.out++[[D1.v (.int .i64 who),cI n0,D1.v (.int .i64 k)]]=(p.out++[jo]).map eCJ:=(by rw[bqX,al];rfl);have ep:List.take v.pipe.length (List.drop po re)++[[D1.v (.int .i64 who),cI n0,D1.v (.int .i64 (c.lat.getD k default))]]=(v.pipe++[jp]).map eCJ:=(by rw[p2,boL (by simp),bqX,an];rfl);have eu:List.take who (List.map cB u)++[D1.v (.bool true)]++List.drop (who+1) (List.map cB u)=(u.set who true).map cB:=(by rw[brD,bsF,if_pos (by simp;omega),C0];rfl);have ei:List.take (1+k) [dh,cI T,cI U,cI V,cI W]++[D1.v (.int .i64 1)]++List.drop (1+(k+1)) [dh,cI T,cI U,cI V,cI W]=[dh,cI T,cI U,cI V,cI W].set (1+k) (cI 1):=(by rw[bsF,if_pos (by simp;omega),C0];rfl);rw[eo,ep,eu,ei];obtain⟨n,A⟩: ∃n,n=put (put e (8+who) (a+62)) (11+k) (a+80):=⟨_,rfl⟩
     have E: ∀j,j≠8+who→j≠11+k→n j=e j:=fun j F h2=>by rw[A,jE h2,jE F]
     have az:n (8+who)=a+62:=(by rw[A,jE (by omega),t8]);have ba:n (11+k)=a+80:=(by rw[A,t8]);have aYL:AO c s1 u k=some who:=(by rw[af];exact ahR (by rw[←C];exact ar) bp br hinv (by rw[←af];unfold KE;rw[D,R];rfl));obtain⟨s',m⟩: ∃s',s'=aR c s1 (.adm who k):=⟨_,rfl⟩
     have hL:=ae.some aYL;rw[←m] at hL;have cb:COk c s':=(by rw[m];exact o9 hb d (XH o aYL));have Y:aF s' who= {p with queue:=p.queue.drop 1,out:=p.out++[jo]}:=(by rw[m,bL rfl (by rw[d.pl];omega),if_pos rfl,←S,al,aj]);have Z:aL s' k= {v with pipe:=v.pipe++[jp],last:=who}:=(by rw[m,bO rfl (by rw[d.sl];omega),if_pos rfl,←S,←C,an,aj]);obtain⟨Hm,g⟩: ∃Hm,Hm=(((((((H2.del (e (8+who))).del (e (11+k))).set (e 2) ⟨4,mp,rp.set who [cI p.next,.osl 1 (e (5+who)) (qo+1) (p.queue.length-1) (qc-1),.osl 3 (a+62) 0 (p.out.length+1) q,cI p.last]⟩).set (a+61) ⟨3,1,[eCJ jo]⟩).set (a+62) ⟨3,q,(p.out++[jo]).map eCJ⟩).set (a+79) ⟨3,1,[eCJ jp]⟩).set (a+80) ⟨3,cap,(v.pipe++[jp]).map eCJ⟩).set (e 3) ⟨3,mv,rv.set k [.osl 3 (a+80) 0 (v.pipe.length+1) cap,.osl 5 (e (15+k)) do_ v.done.length dc,cI who]⟩:=⟨_,rfl⟩
     have bb:=f.upd (H':=Hm) (nx':=a+100) who k n s' (by omega) ?_ ?_ ?_ ?_ ?_ ?_ (.inl M) (.inl o) (fun j hj i=>by rw[m,bL rfl (by rw[d.pl];omega),if_neg i]) (fun j hj i=>by rw[m,bO rfl (by rw[d.sl];omega),if_neg i])
     ·have cu:X nx∨nx=nx∨nx=nx+1:=.inr (.inl rfl);have ao:Hm i1=some ⟨5,1,[[dh,cI T,cI U,cI V,cI W]]⟩:=(by rw[g];simp only[aA.set,aA.del,t,if_false];exact ay);have bc:i1≠nx+1:=(by omega);refine ah _ _ _ (k+1,s',u.set who true,n) noF ((Hm.set (nx+1) ⟨3,1,[(u.set who true).map cB]⟩).set i1 ⟨5,1,[[dh,cI T,cI U,cI V,cI W].set (1+k) (cI 1)]⟩) (by omega) (by dsimp only;omega) (by repeat' first|exact bo2|refine xqI rfl rfl ?_|refine xqP (by omega) rfl rfl ?_|fail) ?_ ⟨by dsimp only;omega,cb,(bb.1.atI (.inr (.inr rfl))).cells o ((aA.aC bc).trans ao) rfl,fun id b=> ?_,hL,by simpa using L,?_⟩;·rw[g,al,an];exact aK
      ·have F:id≠i1:=by
        rintro rfl
        rcases b with b|rfl
        ·exact f.hap.i1.2 (.inl (.inl b))
        ·omega
       have h2:id≠nx+1:=by
        rcases b with b|rfl;·have:=hB.rep.x id (.inl b);omega
        ·omega
       rw[aA.aC F,aA.aC h2,bb.2 id (b.imp (fun h=>h) .inl)]
       exact J id b
      ·rw[aA.aC bc.symm];exact aA.bH
     ·rw[A];have bd: ∀v,ad≤v→¬((X v∨v=nx∨v=nx+1)∨v=i1):=fun v hv hn=>by have:=f.rep.x v hn;omega
      exact((f.rep.names.mono (by omega:ad≤a)).put (nx':=a+63) (by omega) (by omega) (bd _ (by omega))).put (by omega) (by omega) (bd _ (by omega))
     ·intro j hj;by_cases h4:j=8+who;·subst h4;exact .inr ⟨.inr (.inr (.inl rfl)),by omega⟩
      ·by_cases h8:j=11+k;·subst h8;exact .inr ⟨.inr (.inr (.inr (.inl rfl))),by omega⟩
       ·exact .inl (E j h4 h8)
     ·intro id b h0 i;rw[g];simp only[aA.set,aA.del,i 2 (by omega) (by omega),i 3 (by omega) (by omega),i (8+who) (by omega) (by omega),i (11+k) (by omega) (by omega),show ¬id=a+61 by omega,show ¬id=a+62 by omega,show ¬id=a+79 by omega,show ¬id=a+80 by omega,if_false]
     ·refine⟨wc,hc,pc,vc,tc,?_,?_,?_,?_,bkU,bkV⟩;·rw[g];simp only[aA.set,aA.del,t,if_false,U2,E 0 (by omega) (by omega),E 1 (by omega) (by omega),E 2 (by omega) (by omega),E 3 (by omega) (by omega),E 4 (by omega) (by omega)];rw[m];exact bqC
      ·rw[E 0 (by omega) (by omega),m];exact g3.frame (by rw[g];simp only[aA.set,aA.del,t,if_false])
      ·rw[E 1 (by omega) (by omega),m];exact g4.frame (by rw[g];simp only[aA.set,aA.del,t,if_false])
      ·rw[E 4 (by omega) (by omega),m];exact g5.frame (by rw[g];simp only[aA.set,aA.del,t,if_false])
     ·refine⟨mp,rp.set who [cI p.next,.osl 1 (e (5+who)) (qo+1) (p.queue.length-1) (qc-1),.osl 3 (a+62) 0 (p.out.length+1) q,cI p.last],mp,rp,g1,by rw[g];simp only[aA.set,aA.del,t,if_false,if_true],by simp only[Y5,bp4],fun j hj i=>by rw[bq0 (Ne.symm i)],fun _=>⟨_,aw _,⟨qo+1,qc-1,q,?_,?_,?_⟩⟩⟩;·rw[Y,E (5+who) (by omega) (by omega),az];simp only[af5,CI,t2,List.length_singleton]
      ·rw[Y,E (5+who) (by omega) (by omega)];refine⟨mq,rq0,?_,by rw[brE,←q2,Y2],?_,by simp,?_,?_⟩;·rw[g];simp only[aA.set,aA.del,t,if_false];exact q1
       ·simp only[CI];omega
       ·simp only[CI];omega
       ·omega
      ·rw[Y,az];refine⟨q,(p.out++[jo]).map eCJ,?_,rfl,by simp,by simp,by simpa using ab,by simp⟩;rw[g];simp only[aA.set,aA.del,t,if_false,if_true,bqU,Nat.reduceEqDiff]
     ·refine⟨mv,rv.set k [.osl 3 (a+80) 0 (v.pipe.length+1) cap,.osl 5 (e (15+k)) do_ v.done.length dc,cI who],mv,rv,g2,by rw[g];exact aA.bH,by simp only[Y5,bp5],fun j hj i=>by rw[bq0 (Ne.symm i)],fun _=>⟨_,ax _,⟨0,cap,do_,dc,?_,?_,?_⟩⟩⟩;·rw[Z,ba,E (15+k) (by omega) (by omega)];simp only[aj9,t2,List.length_singleton]
      ·rw[Z,ba];refine⟨cap,(v.pipe++[jp]).map eCJ,?_,rfl,by simp,by simp,by simpa using ak,by simp⟩;rw[g];simp only[aA.set,aA.del,t,if_false,if_true]
      ·rw[Z,E (15+k) (by omega) (by omega)];exact gd.frame (by rw[g];simp only[aA.set,aA.del,t,if_false])
    ·have R:decide (HV c s1 who k)=false:=decide_eq_false z;repeat' first| (first|apply bn1|apply bpJ (by omega)|apply vW (s:=s1) hb d M o (f.rep.ar5 d.pl d.sl))<;>(simp only[go_sem,t1,bqT,bqC,g2,gs,brK,N,B,ai,O,hle,D,aa,R];try simp (disch:=omega) only[Iw])|apply bn2 (by omega)|refine⟨by omega,?_⟩|fail
     exact aq _ _ _ (j+1) noF _ (by omega) (by omega) (by repeat' first|exact bo2|refine xqI rfl rfl ?_|refine xqP (by omega) rfl rfl ?_|fail) aK ⟨by omega,by omega,rfl,P (by unfold KE;rw[D];rw[R];rfl)⟩
   ·repeat' first| (first|apply bn1|apply bpK (by omega))<;>(simp only[go_sem,t1,bqT,bqC,g2,gs];try simp (disch:=omega) only[Iw])|fail
    exact ah _ _ _ (k+1,s1,u,e) noF _ (by omega) (by dsimp only;omega) (by repeat' first|exact bo2|refine xqI rfl rfl ?_|refine xqP (by omega) rfl rfl ?_|fail) aK ⟨by dsimp only;omega,d,f.mono (by omega),J,ae.none (ah0 fun y F h2=>hinv y F (by omega)),L,B⟩
  ·repeat' first| (first|apply bn1|refine bpL (fun h=> ?_) fun h=> ?_)<;>(simp only[go_sem,t1,bqT,bqC,g2,gs];try simp (disch:=omega) only[Iw])|apply bn3 (by omega)|fail
   all_goals exact ah _ _ _ (k+1,s1,u,e) noF _ (by omega) (by dsimp only;omega) (by repeat' first|exact bo2|refine xqI rfl rfl ?_|refine xqP (by omega) rfl rfl ?_|fail) aK ⟨by dsimp only;omega,d,f.mono (by omega),J,ae.none (anA (by rw[←C];exact ar)),L,B⟩
 ·repeat' first|apply bn1<;>(simp only[go_sem])|apply bn3 (by omega)|fail
  have cc:k=4:=by omega
  subst cc;obtain rfl:=ag;refine hQ _ _ _ _ _ (.inl rfl) rfl (h _ _ e (by omega) (f.next (by omega) (fun _ _ _=>rfl) fun id b=>⟨?_,.inl (.inl b)⟩) fun id b=> ?_);·have:=hB.rep.x id (.inl b);omega
  ·have:=hB.rep.x id (.inl b);rw[J id (.inl b),I,aA.aC (by omega),aA.aC (by omega)]
end
end Go.Proofs.YtdkfhdmagdaceaaGreat
