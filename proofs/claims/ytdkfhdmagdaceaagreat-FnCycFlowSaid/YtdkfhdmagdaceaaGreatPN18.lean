/- Texts laid together by a program: rules, contracts and the walk that leads to the law. -/
import Derived.Test.YtdkfhdmagdaceaaGreatPN16
import Derived.Test.YtdkfhdmagdaceaaGreatPN13
set_option linter.unusedVariables false
set_option linter.unusedSimpArgs false
set_option linter.unusedSectionVars false
set_option maxRecDepth 100000
set_option maxHeartbeats 8000000
namespace Go.Proofs.YtdkfhdmagdaceaaGreat
open Go Go.AM
attribute [local irreducible] aM wv aB vd wvH
theorem EE:cJ Tryz.prog mM Tryz.f189 lQ sI:=cJ.mk Tryz.func189 (by kernel_rfl) EC
theorem aa0 {i:CIn} {s:CSt} {st:Nat} (h:i.n9.getD st default=true∨(aL s st).pipe.length=0):qW i s st=none:=if_pos h
theorem acO {i:CIn} {s:CSt} {st:Nat} (h: ¬(i.n9.getD st default=true∨(aL s st).pipe.length=0)) (a:0<(bI s st).left):qW i s st=some (.tick st):=by unfold qW;rw[if_neg h,if_pos a]
theorem adE {i:CIn} {s:CSt} {st:Nat} (h: ¬(i.n9.getD st default=true∨(aL s st).pipe.length=0)) (a: ¬0<(bI s st).left) (b:(aL s st).done.length<2):qW i s st=some (.work st):=by unfold qW;rw[if_neg h,if_neg a,if_pos b]
theorem ae2 {i:CIn} {s:CSt} {st:Nat} (h: ¬(i.n9.getD st default=true∨(aL s st).pipe.length=0)) (a: ¬0<(bI s st).left) (b: ¬(aL s st).done.length<2):qW i s st=none:=by unfold qW;rw[if_neg h,if_neg a,if_neg b]
section
variable {H : aA} {nx : Nat} {K : D → aA → Nat → Prop}
theorem GF {X:Nat→Prop} {c:Cfg} {i:CIn} {s:CSt} {es:List Ev} {i0 i1:Nat} {nm:Nat→Nat} (hb:aQ c) (hs:COk c s) (cg:i.n9.length=4) (hB:l9 X H nx i0 i1 nm s es) (hl:es.length<900)
 (h: ∀H' nx' E,nx≤nx'→l9 X H' nx' i0 i1 E (dR c s (xX c i s)) (es++iP c s (xX c i s))→(∀id,X id→H' id=H id)→K (.tup []) H' nx'):
 aB Tryz.prog mM [.one (.c (.ptr 5 i0 0 0)),boR (cU c),boR (eIn i),.one (.c (.ptr 5 i1 0 0))] H nx K:=by
 refine EE rfl fun Q hQ=> ?_
 unfold lQ
 obtain⟨ch,cj⟩:=hC hb
 obtain⟨wc,hc,pc,vc,tc,ba,ck,cl,cm,cn,cp⟩: ∃wc hc pc vc tc,H i0=some ⟨5,1,[[.osl 1 (nm 0) 0 s.words.length wc,.osl 1 (nm 1) 0 s.holds.length hc,.osl 4 (nm 2) 0 3 pc,.osl 3 (nm 3) 0 4 vc,.osl 5 (nm 4) 0 s.told.length tc]]⟩∧_:=by obtain⟨cells,h1,⟨wc,hc,pc,vc,tc,rfl,h2⟩,_⟩:=hB.rep.st;exact⟨wc,hc,pc,vc,tc,h1,h2⟩
 have f:=hB.rep.apart (nx':=nx) [] [] (m5 _) (by simp) (by simp) (by simp) (by simp)
 simp only[bQ,eZ,List.map,List.nil_append] at f
 repeat' first|apply bn1<;>(simp only[go_sem,t1,bqT,ba,f])|fail
 obtain⟨H0,M⟩: ∃H0,H0=(H.set nx ⟨3,1,[cU c]⟩).set (nx+1) ⟨3,1,[eIn i]⟩:=⟨_,rfl⟩
 rw[←M]
 have bb:H0 nx=some ⟨3,1,[cU c]⟩:=by rw[M,aA.aC (by omega)];exact aA.bH
 have bc:H0 (nx+1)=some ⟨3,1,[eIn i]⟩:=by rw[M];exact aA.bH
 have bd:=hB.rep.i0.1
 have bf:=hB.hap.i1.1
 have bg:l9 (fun id=>X id∨id=nx∨id=nx+1) H0 (nx+8) i0 i1 nm s es:=hB.next (by omega) (fun id h1 h2=>by rw[M,aA.aC (by omega),aA.aC (by omega)]) fun id b=>by
  rcases b with b|rfl|rfl;·have:=hB.rep.x id (.inl b);exact⟨by omega,.inl b⟩
  ·exact⟨by omega,.inr (m5 _)⟩
  ·exact⟨by omega,.inr (by omega)⟩
 refine aM.gP (β:=Nat×CSt×List Ev×(Nat→Nat)) (fun u=>en [(16,boP u.1),(15,boP 4),(6,.one (.c (.ptr 3 (nx+1) 0 0))),(5,.one (.c (.ptr 3 nx 0 0))),(3,.one (.c (.ptr 5 i1 0 0))),(0,.one (.c (.ptr 5 i0 0 0)))])
  (fun u H1 t=>u.1≤4∧COk c u.2.1∧l9 (fun id=>X id∨id=nx∨id=nx+1) H1 t i0 i1 u.2.2.2 u.2.1 u.2.2.1∧(∀id,X id∨id=nx∨id=nx+1→H1 id=H0 id)∧vU c (qW i) ([0,1,2,3].drop u.1) u.2.1 u.2.2.1 (dR c s (xX c i s)) (es++iP c s (xX c i s))∧u.2.2.1.length≤es.length+u.1)
  (fun u=>4-u.1) (0,s,es,nm) ⟨noF,_,by repeat' first|exact bo2|refine xqI rfl rfl ?_|refine xqP (by omega) rfl rfl ?_|fail,aK,by dsimp only;omega,hs,bg.mono (by omega),fun _ _=>rfl,⟨rfl,rfl⟩,by simp⟩ ?_
 rintro⟨k,s1,N,p⟩ H1 t cq ⟨hk,m,g,F,aa,bh⟩ bpQ O
 dsimp only at hk m g aa bh
 obtain⟨wc,hc,pc,vc,tc,mp,rp,mv,rv,bqC,g1,W,g3,g4,g5,bkU,bkV,bp4,bp5,ga,gb⟩:=g.rep.get
 have I:H1 (nx+1)=some ⟨3,1,[eIn i]⟩:=by rw[F _ (.inr (.inr rfl))];exact bc
 have ab:H1 nx=some ⟨3,1,[cU c]⟩:=by rw[F _ (.inr (.inl rfl))];exact bb
 by_cases B:k<4
 ·have L:=aa;rw[apX B] at L;obtain⟨v,y⟩: ∃v,v=aL s1 k:=⟨_,rfl⟩
  obtain⟨po,ad,do_,dc,gs,gp,gd⟩:=gb k B;rw[←y] at gs gp gd;obtain⟨md,rd,d1,d2,d3,bkS,bk2,bk3⟩:=gd.ex;obtain⟨me,re,p1,p2,p3,p4,p5,p6⟩:=gp.ex;rw[bqW] at bkS p4
  cases J:i.n9.getD k default with
  |true=>
   repeat' first|apply bn1<;>(simp only[go_sem,t1,bqT,bqC,W,gs,I,J];try simp (disch:=omega) only[Iw])|apply bn2 (by omega)|refine⟨by omega,?_⟩|fail
   exact O _ _ _ (k+1,s1,N,p) noF _ (by omega) (by dsimp only;omega) (by repeat' first|exact bo2|refine xqI rfl rfl ?_|refine xqP (by omega) rfl rfl ?_|fail) aK ⟨by dsimp only;omega,m,g.mono (by omega),F,L.none (aa0 (.inl J)),by dsimp only;omega⟩
  |false=>
  have bj: ∀{A:Prop},¬(i.n9.getD k default=true∨A)↔¬A:=fun {A}=>by rw[J];simp
  by_cases ak:v.pipe.length=0
  ·have hlen:((v.pipe.length:Int)=0)=True:=eq_true (by omega);repeat' first|apply bn1<;>(simp only[go_sem,t1,bqT,bqC,W,gs,I,J,hlen];try simp (disch:=omega) only[Iw])|apply bn2 (by omega)|refine⟨by omega,?_⟩|fail
   exact O _ _ _ (k+1,s1,N,p) noF _ (by omega) (by dsimp only;omega) (by repeat' first|exact bo2|refine xqI rfl rfl ?_|refine xqP (by omega) rfl rfl ?_|fail) aK ⟨by dsimp only;omega,m,g.mono (by omega),F,L.none (aa0 (.inr (by rw[←y];exact ak))),by dsimp only;omega⟩
  have ae: ¬(i.n9.getD k default=true∨(aL s1 k).pipe.length=0):=by rw[←y];exact bj.2 ak
  have hlen:((v.pipe.length:Int)=0)=False:=eq_false (by omega);obtain⟨j,T⟩: ∃j,j=v.pipe.getD 0 default:=⟨_,rfl⟩
  have C:bI s1 k=j:=by rw[T,y];rfl
  have p7:re[po]?=some (eCJ j):=by have:(re.drop po)[0]?=some (eCJ j):=(by rw[p2,p0];simp[T,List.getD,show 0<v.pipe.length by omega]);rwa [s5,Nat.add_zero] at this
  have f:=g.rep.apart (nx':=t) [nx,nx+1] [0,1,2,3,4,11+k,15+k] (m5 _) (by simp) (fun x hx=>.inl (.inr (by simpa using hx))) (by simp;omega) (by simp;omega);simp only[bQ,eZ,List.map,List.cons_append,List.nil_append] at f;have bk:=m.slv k B;have bm:j∈(aL s1 k).pipe:=by rw[T,y];exact cC (by rw[←y];omega)
  obtain⟨al,Y,af⟩:=m.vIn B (JB bm);dsimp only at al Y af;have Z:oA c j.who j.n:=by have:=(m.port j.who.toNat (by omega)).asks (n:=j.n) (by omega) Y (by omega);rwa [show ((j.who.toNat:Nat):Int)=j.who by omega] at this
  have bn:=(bk.left 0 (by rw[←y];omega)).1;rw[←y,←T] at bn;have bo:=S0 hb B;have bp:=GK hb Z;have cr:=hb.1.1;have an: ∀r,(rv.set k r)[k]?=some r:=fun r=>by rw[bqZ (by omega)]
  obtain⟨ao,aq,ar⟩:=Z;have ct:s1.told.length≤36:=by have:=m.st.lens hb;simp only[cX] at this;omega
  obtain⟨mw,cu,bqH,bqI,bk6,bk5,bk7,bk8⟩:=g3.ex;obtain⟨mh,cv,bq,au,cw,cx,br,bs⟩:=g4.ex;rw[bq5] at bqI au;subst bqI;subst au;refine aM.BW fun bt=> ?_;have ag: ∀k l,msk (t+k) l H1=H1:=fun k l=>BV bt (by omega);by_cases ah:0<j.left
  ·repeat' first|apply bn1<;>(simp only[go_sem,t1,bqT,ag,umS (G:=H1),umD (G:=H1),umB,bqC,W,gs,I,J,hlen,p1,p7,f];try simp (disch:=omega) only[Iw])|apply bn2 (by omega)|refine⟨by omega,?_⟩|fail
   have boT:qW i s1 k=some (.tick k):=acO ae (by rw[C];exact ah);have hL:=L.some boT;obtain⟨s',o⟩: ∃s',s'=aR c s1 (.tick k):=⟨_,rfl⟩
   rw[←o,show y0 s1 (.tick k)=[] from rfl,bq6] at hL;have P:COk c s':=(by rw[o];exact o9 hb m (LM m B boT));have z:aL s' k= {v with pipe:=v.pipe.set 0 {j with left:=j.left-1}}:=(by rw[o,bO rfl (by rw[m.sl];omega),if_pos rfl,C,←y]);have aw:=g.upd (H':=(H1.set (t+29) ⟨3,1,[eCJ j]⟩).set (p (11+k)) ⟨3,me,re.set po [cI j.who,cI j.n,cI (j.left-1)]⟩) (nx':=t+48) 14 k p s' (by omega) (g.rep.names.mono (by omega)) (fun j _=>.inl rfl) ?_ ?_ ?_ ?_ (.inr rfl) (.inl B) (fun j hj w=>by rw[o];rfl) (fun j hj w=>by rw[o,bO rfl (by rw[m.sl];omega),if_neg w]);·exact O _ _ _ (k+1,s',N,p) noF _ (by omega) (by dsimp only;omega) (by repeat' first|exact bo2|refine xqI rfl rfl ?_|refine xqP (by omega) rfl rfl ?_|fail) aK ⟨by dsimp only;omega,P,aw.1,fun id b=>(aw.2 id b).trans (F id b),hL,by dsimp only;omega⟩
   ·intro id b h0 w;rw[aA.aC (w (11+k) (by omega) (by omega)),aA.aC (by omega)]
   ·refine⟨wc,hc,pc,vc,tc,?_,?_,?_,?_,bkU,bkV⟩;·simp only[aA.set,f,if_false];rw[bqC,o];rfl
    ·rw[o];exact g3.frame (by simp only[aA.set,f,if_false])
    ·rw[o];exact g4.frame (by simp only[aA.set,f,if_false])
    ·rw[o];exact g5.frame (by simp only[aA.set,f,if_false])
   ·exact⟨mp,rp,mp,rp,g1,by simp only[aA.set,f,if_false];exact g1,bp4,fun _ _ _=>rfl,fun hh=>by omega⟩
   ·refine⟨mv,rv,mv,rv,W,by simp only[aA.set,f,if_false];exact W,bp5,fun _ _ _=>rfl,fun _=>⟨_,gs,⟨po,ad,do_,dc,?_,?_,?_⟩⟩⟩;·rw[z];simp only[aj9,Y5]
    ·rw[z];refine⟨me,_,aA.bH,?_,by simpa using p3,by simp,by simpa using p5,p6⟩;rw[List.drop_set,if_neg (by omega),brJ,p2,brD];rfl
    ·rw[z];exact gd.frame (by simp only[aA.set,f,if_false])
  by_cases ax:v.done.length<2
  ·repeat' first|apply bn1<;>(simp only[go_sem,t1,bqT,ag,umS (G:=H1),umD (G:=H1),umB,bqC,W,gs,an,bq1,ab,I,J,hlen,p1,p7,f])|apply bn2 (by omega)|apply bn3 (by omega)|refine⟨by omega,?_⟩|fail
   refine HZ (q:=bT c j.who j.n) (m0:=mw) (m1:=mh) (i0:=i0) (by omega) m.atm bk7 br al bp ?_ ?_ (by simp only[aA.set,f,if_false];exact bqC) (by simp only[aA.set,f,if_false];exact bqH) (by simp only[aA.set,f,if_false];exact bq) (fun H' nx' cy bpR f2 U=> ?_);·have:=g.rep.i0.1;have:=g.rep.names.lt 0 (by omega);have:=g.rep.names.lt 1 (by omega);omega
   ·simp only[bq8,t3,bq7,or_false,not_or,f,not_false_eq_true,and_self,List.nodup_nil]
   have V: ∀a,a<19→p a<t:=g.rep.names.lt;have e3:H' (p 3)=some ⟨3,mv,rv.set k [.osl 3 (p (11+k)) (po+1) (v.pipe.length-1) (ad-1),.osl 5 (p (15+k)) do_ v.done.length dc,cI v.last]⟩:=(by rw[U _ (by have:=V 3 (by omega);omega) (by simp only[ne_eq,f,not_false_eq_true]) (by simp only[ne_eq,f,not_false_eq_true])];exact aA.bH);have ej:H' (t+29)=some ⟨3,1,[eCJ j]⟩:=(by rw[U _ (by omega) (by have:=V 0 (by omega);omega) (by have:=V 1 (by omega);omega)];simp only[aA.set,f,if_false,if_true]);have ed:H' (p (15+k))=some ⟨5,md,rd⟩:=(by rw[U _ (by have:=V (15+k) (by omega);omega) (by simp only[ne_eq,f,not_false_eq_true]) (by simp only[ne_eq,f,not_false_eq_true])];simp only[aA.set,f,if_false];exact d1);have D:=g.rep.apart (nx':=nx') [nx,nx+1] [0,1,2,3,4,11+k,15+k] (by omega) (by simp) (fun x hx=>.inl (.inr (by simpa using hx))) (by simp;omega) (by simp;omega);simp only[bQ,eZ,List.map,List.cons_append,List.nil_append] at D;simp only[go_sem,t1,bqT,msk,List.map,t3,bq7,or_false,bqU,Nat.reduceEqDiff,Nat.reduceAdd,e3,ej,ed,an,f,D,if_false,if_true,bq1];refine⟨⟨by omega,by omega⟩,by omega,fun cap ai cz=> ?_⟩;obtain⟨d,aj⟩: ∃d:Job,d=⟨j.who,j.n,(doM c.map s1.words s1.holds j.who (bT c j.who j.n)).2⟩:=⟨_,rfl⟩
   have er:List.take v.done.length (List.drop do_ rd)++[cI j.who::cI j.n::tG (doM c.map s1.words s1.holds j.who (bT c j.who j.n)).snd]=(v.done++[d]).map aS:=(by rw[d2,boL (by simp),bqX,aj];rfl);have bu:[cI j.who::cI j.n::tG (doM c.map s1.words s1.holds j.who (bT c j.who j.n)).snd]=[aS d]:=(by rw[aj];rfl);rw[er,bu];repeat' first|apply bn1<;>(simp only[go_sem,t1,bqT,ej,f,D])|fail
   obtain⟨E,R⟩: ∃E,E=put p (15+k) (t+80):=⟨_,rfl⟩
   have S: ∀j,j≠15+k→E j=p j:=fun j h1=>by rw[R,jE h1]
   have ay:E (15+k)=t+80:=(by rw[R,t8]);have boT:qW i s1 k=some (.work k):=adE ae (by rw[C];exact ah) (by rw[←y];exact ax);have hL:=L.some boT;obtain⟨s',o⟩: ∃s',s'=aR c s1 (.work k):=⟨_,rfl⟩
   rw[←o,show y0 s1 (.work k)=[⟨2,j.who,j.n⟩] from by rw[←C];rfl] at hL;have P:COk c s':=(by rw[o];exact o9 hb m (LM m B boT));have z:aL s' k= {v with pipe:=v.pipe.drop 1,done:=v.done++[d]}:=(by rw[o,bO rfl (by rw[m.sl];omega),if_pos rfl,C,←y,aj];unfold jD;rw[C]);have bw:s'.words=(doM c.map s1.words s1.holds j.who (bT c j.who j.n)).1.1:=(by rw[o,←C];rfl);have bx:s'.holds=(doM c.map s1.words s1.holds j.who (bT c j.who j.n)).1.2:=(by rw[o,←C];rfl);have bz:s'.words.length=s1.words.length:=(by obtain⟨h1,_⟩:=P.atm;obtain⟨h2,_⟩:=m.atm;omega);have ca:s'.holds.length=s1.holds.length:=(by obtain⟨_,_,h1,_⟩:=P.atm;obtain⟨_,_,h2,_⟩:=m.atm;omega);rw[←bw] at bpR;rw[←bx] at f2;have az:s'.told=s1.told:=(by rw[o];rfl);have hH: ∀id,id<t→id≠p 0→id≠p 1→id≠p 3→H' id=H1 id:=fun id e boU e1 e3=>by rw[U id (by omega) boU e1,aA.aC e3,aA.aC (by omega)]
   refine acI (g.upd 14 k E s' (by omega) ?_ ?_ ?_ ?_ ?_ ?_ (.inr rfl) (.inl B) (fun j hj w=>by rw[o];rfl) (fun j hj w=>by rw[o,bO rfl (by rw[m.sl];omega),if_neg w])) (by omega) fun H2 da hx cb cc=> ?_
   ·rw[R];have cd: ∀v,t≤v→¬((X v∨v=nx∨v=nx+1)∨v=i1):=fun v hv V=>by have:=g.rep.x v V;omega
    exact g.rep.names.put (by omega) (by omega) (cd _ (by omega))
   ·intro j hj;by_cases h4:j=15+k;·subst h4;exact .inr ⟨.inr (.inr (.inr (.inr rfl))),by omega⟩
    ·exact .inl (S j h4)
   ·intro id b h0 w;have e3:=w 3 (by omega) (by omega);simp only[aA.set,aA.del,e3,w (15+k) (by omega) (by omega),show ¬id=t+79 by omega,show ¬id=t+80 by omega,if_false];exact hH id b (w 0 (by omega) (by omega)) (w 1 (by omega) (by omega)) e3
   ·refine⟨wc,hc,pc,vc,tc,?_,?_,?_,?_,bkU,bkV⟩;·simp only[aA.set,aA.del,f,D,if_false,U2,S 0 (by omega),S 1 (by omega),S 2 (by omega),S 3 (by omega),S 4 (by omega),bz,ca,az];rw[hH i0 (by have:=g.rep.i0.1;omega) (by simp only[ne_eq,f,not_false_eq_true]) (by simp only[ne_eq,f,not_false_eq_true]) (by simp only[ne_eq,f,not_false_eq_true])];exact bqC
    ·rw[S 0 (by omega)];exact⟨mw,s'.words.map aJ,by simp only[aA.set,aA.del,f,D,if_false];exact bpR,rfl,by simp,by simp,by omega,bk8⟩
    ·rw[S 1 (by omega)];exact⟨mh,s'.holds.map aJ,by simp only[aA.set,aA.del,f,D,if_false];exact f2,rfl,by simp,by simp,by omega,bs⟩
    ·rw[S 4 (by omega),az];apply g5.frame;simp only[aA.set,aA.del,f,D,if_false];exact hH _ (V 4 (by omega)) (by simp only[ne_eq,f,not_false_eq_true]) (by simp only[ne_eq,f,not_false_eq_true]) (by simp only[ne_eq,f,not_false_eq_true])
   ·refine⟨mp,rp,mp,rp,g1,?_,bp4,fun _ _ _=>rfl,fun hh=>by omega⟩;simp only[aA.set,aA.del,f,D,if_false];rw[hH _ (V 2 (by omega)) (by simp only[ne_eq,f,not_false_eq_true]) (by simp only[ne_eq,f,not_false_eq_true]) (by simp only[ne_eq,f,not_false_eq_true])];exact g1
   ·refine⟨mv,_,mv,rv,W,aA.bH,by simp only[Y5,bp5],fun j hj w=>by rw[bq0 (Ne.symm w)],fun _=>⟨_,bqZ (by omega),⟨po+1,ad-1,0,cap,?_,?_,?_⟩⟩⟩;·rw[z,S (11+k) (by omega),ay];simp only[aj9,CI,t2,List.length_singleton]
    ·rw[z,S (11+k) (by omega)];refine⟨me,re,?_,by rw[brE,←p2,Y2],?_,by simp,?_,?_⟩;·simp only[aA.set,aA.del,f,D,if_false];rw[hH _ (V (11+k) (by omega)) (by simp only[ne_eq,f,not_false_eq_true]) (by simp only[ne_eq,f,not_false_eq_true]) (by simp only[ne_eq,f,not_false_eq_true])];exact p1
     ·simp only[CI];omega
     ·simp only[CI];omega
     ·omega
    ·rw[z,ay];refine⟨cap,(v.done++[d]).map aS,by simp only[aA.set,aA.del,f,if_false,if_true],rfl,by simp,by simp,by simpa using ai,by simp⟩
   ·simp only[go_sem];repeat' first|apply bn1<;>(simp only[go_sem];try simp (disch:=omega) only[Iw])|fail
    exact O _ _ _ (k+1,s',N++[⟨2,j.who,j.n⟩],E) noF _ (by omega) (by dsimp only;omega) (by repeat' first|exact bo2|refine xqI rfl rfl ?_|refine xqP (by omega) rfl rfl ?_|fail) aK ⟨by dsimp only;omega,P,cb.mono (by omega),fun id b=>(cc id b).trans (F id b),hL,by simp;omega⟩
  ·repeat' first|apply bn1<;>(simp only[go_sem,t1,bqT,ag,umS (G:=H1),umD (G:=H1),umB,bqC,W,gs,I,J,hlen,p1,p7,f];try simp (disch:=omega) only[Iw])|apply bn2 (by omega)|apply bn3 (by omega)|refine⟨by omega,?_⟩|fail
   have boT:=ae2 ae (by rw[C];exact ah) (by rw[←y];exact ax);refine O _ _ _ (k+1,s1,N,p) noF _ (by omega) (by dsimp only;omega) (by repeat' first|exact bo2|refine xqI rfl rfl ?_|refine xqP (by omega) rfl rfl ?_|fail) aK ⟨by dsimp only;omega,m,g.next (by omega) (fun id h1 h2=>by rw[aA.aC (by omega)]) fun id b=>⟨?_,.inl b⟩,fun id b=> ?_,L.none boT,by dsimp only;omega⟩;·have:=g.rep.x id (.inl b);omega
   ·have:=g.rep.x id (.inl b);rw[aA.aC (by omega)];exact F id b
 ·repeat' first|apply bn1<;>(simp only[go_sem])|apply bn3 (by omega)|fail
  have cf:k=4:=by omega
  subst cf;obtain⟨rfl,rfl⟩:=vU.nil aa;refine hQ _ _ _ _ _ (.inl rfl) rfl (h _ _ p (by omega) (g.next (by omega) (fun _ _ _=>rfl) fun id b=>⟨?_,.inl (.inl b)⟩) fun id b=> ?_);·have:=hB.rep.x id (.inl b);omega
  ·have:=hB.rep.x id (.inl b);rw[F id (.inl b),M,aA.aC (by omega),aA.aC (by omega)]
end
end Go.Proofs.YtdkfhdmagdaceaaGreat
