/- Texts laid together by a program: rules, contracts and the walk that leads to the law. -/
import Derived.Test.YtdkfhdmagdaceaaGreatPN22
import Derived.Test.YtdkfhdmagdaceaaGreatPN16
import Derived.Test.YtdkfhdmagdaceaaGreatPN21
import Derived.Test.YtdkfhdmagdaceaaGreatPN15
import Derived.Test.YtdkfhdmagdaceaaGreatPN23
set_option linter.unusedVariables false
set_option linter.unusedSimpArgs false
set_option linter.unusedSectionVars false
set_option maxRecDepth 100000
set_option maxHeartbeats 8000000
namespace Go.Proofs.YtdkfhdmagdaceaaGreat
open Go Go.AM
attribute [local irreducible] aM wv aB vd wvH
section
variable {H : aA} {nx : Nat} {K : D → aA → Nat → Prop}
theorem bjJ:cJ Tryz.prog bhG Tryz.f103 bhD bhW:=cJ.mk Tryz.func103 (by kernel_rfl) bjN
def bhV (c:Cfg) (s:CSt) (u:List Bool) (st:Nat):CSt×List Bool:=match AO c s u st with
 |none=>(s,u)
 |some who=>(aR c s (.adm who st),u.set who true)
theorem bjU {X:Nat→Prop} {c:Cfg} {s:CSt} {st g uc um:Nat} {u:List Bool} {nm:Nat→Nat} {cells:List D1} (hb:aQ c) (hs:COk c s) (F:st<4) (db:u.length=3) (m:bgJ X H nx nm s cells) (n:X g) (ak:H g=some ⟨1,um,u.map eH⟩) (dd:3≤uc)
 (h: ∀H' nx' i C,nx≤nx'→bgJ X H' nx' i (bhV c s u st).1 C→H' g=some ⟨1,um,(bhV c s u st).2.map eH⟩→(∀id,X id→id≠g→H' id=H id)→K (boR C) H' nx'):
 aB Tryz.prog bhG [boR (cU c),boR cells,boP st,.one (.c (.osl 1 g 0 3 uc))] H nx K:=by
 refine bjJ rfl fun Q hQ=> ?_
 unfold bhD
 have hX:=m.x
 obtain⟨de,df⟩:=hC hb
 obtain⟨wc,hc,pc,vc,tc,mp,rp,mv,rv,aa,g1,g2,g3,g4,g5,bkU,bkV,bp4,bp5,ga,gb⟩:=m.get
 obtain⟨v,hv⟩: ∃v,aL s st=v:=⟨_,rfl⟩
 obtain⟨po,dg,do_,dc,gs,gp,gd⟩:=gb st F
 rw[hv] at gs gp gd
 have al:=m
 subst aa
 have lt:=m.names.lt
 have hA:bQ nx ([0,1,2,3,4,11+st,15+st].map nm):=AM.apart (m.names.list (by simp;omega) (by simp;omega)) (fun x hx=>by obtain⟨j,hj,rfl⟩:=CF.1 hx;exact lt j (by simp at hj;omega))
 simp only[bQ,eZ,List.map] at hA
 have bo:=(hs.slv st F).pl
 rw[hv] at bo
 by_cases dh:v.pipe.length=2
 ·have hlen:((v.pipe.length:Int)=2)=True:=eq_true (by omega);have hn:bhV c s u st=(s,u):=by unfold bhV;rw[anA (by rw[hv];omega)]
  rw[hn] at h;repeat' first|apply bn1<;>(simp only[go_sem,boC,g2,gs,hlen,hA])|refine⟨by omega,?_⟩|fail
  refine hQ _ _ _ _ _ (.inr rfl) (LL rfl aA.bH rfl) ?_;have U:=hX g n;refine h _ _ nm _ (by omega) (m.frame (by omega) fun id f _=>by rw[aA.aC (by omega),aA.aC (by omega),aA.aC (by omega)]) (by rw[aA.aC (by omega),aA.aC (by omega),aA.aC (by omega)];exact ak) fun id f _=> ?_;have:=hX id f;rw[aA.aC (by omega),aA.aC (by omega),aA.aC (by omega)]
 have hlen:((v.pipe.length:Int)=2)=False:=eq_false (by omega)
 repeat' first|apply bn1<;>(simp only[go_sem,boC,g2,gs,hlen,hA])|refine⟨by omega,?_⟩|fail
 refine aM.aTJ fun G bqK=> ?_
 have U:=hX g n
 have bfZ:G nx=some ⟨3,1,[cU c]⟩:=by rw[bqK,aA.aC (by omega),aA.aC (by omega)];exact aA.bH
 have bpR:G (nx+1)=some ⟨5,1,[[.osl 1 (nm 0) 0 s.words.length wc,.osl 1 (nm 1) 0 s.holds.length hc,.osl 4 (nm 2) 0 3 pc,.osl 3 (nm 3) 0 4 vc,.osl 5 (nm 4) 0 s.told.length tc]]⟩:=by rw[bqK,aA.aC (by omega)];exact aA.bH
 have f2:G (nx+2)=some ⟨5,1,[[D1.osl 0 0 0 0 0,D1.osl 0 0 0 0 0,D1.osl 0 0 0 0 0,D1.osl 0 0 0 0 0,D1.osl 0 0 0 0 0]]⟩:=by rw[bqK];exact aA.bH
 have I: ∀id,id<nx→G id=H id:=fun id f=>by rw[bqK,aA.aC (by omega),aA.aC (by omega),aA.aC (by omega)]
 clear bqK
 refine aM.gP (β:=Nat) (fun j=>en [(9,boP j),(8,.one (.c (.ptr 5 (nx+2) 0 0))),(5,.one (.c (.ptr 5 (nx+1) 0 0))),(4,.one (.c (.ptr 3 nx 0 0))),(3,.one (.c (.osl 1 g 0 3 uc))),(2,boP st)])
  (fun j H1 _=>1≤j∧j≤4∧H1=G∧ ∀D,1≤D→D<j→KE c s u st (sM s st D)=false) (fun j=>4-j) 1 ⟨noF,_,by repeat' first|exact bo2|refine xqI rfl rfl ?_|refine xqP (by omega) rfl rfl ?_|refine xqO (by omega) rfl rfl (by rfl) ?_|fail,aK,by omega,by omega,rfl,fun D y h2=>by omega⟩ ?_
 rintro j H1 d bp ⟨bq,di,br,hinv⟩ bpQ an
 subst br
 have ab:H1 (nm 3)=some ⟨3,mv,rv⟩:=(I _ (lt 3 (by omega))).trans g2
 have P:H1 g=some ⟨1,um,u.map eH⟩:=(I _ U).trans ak
 obtain⟨bs,bt⟩:=(hs.slv st F).last
 rw[hv] at bs bt
 have A:KE c s u st (sM s st j)=false→∀D,1≤D→D<j+1→KE c s u st (sM s st D)=false:=fun hf D y h2=>by
  by_cases bu:D<j;·exact hinv D y bu
  ·have:D=j:=(by omega);subst this;exact hf
 by_cases bw:j≤3
 ·obtain⟨who,E⟩: ∃who,who=sM s st j:=⟨_,rfl⟩
  have ao:who=((v.last+(j:Int))%3).toNat:=by rw[E,←hv];rfl
  have R:who<3:=by omega
  have J:(v.last+(j:Int)).tmod 3=(who:Int):=by rw[brF (by omega)];omega
  rw[←E] at A
  cases B:u.getD who default with
  |true=>
   have S:(u.map eH)[who]?=some (eH true):=(by rw[p0,n1 (by omega),Option.map_some];rw[KL,n1 (by omega),Option.getD_some] at B;rw[B]);repeat' first|apply bn1<;>(simp only[go_sem,bfZ,bpR,ab,P,gs,J,S,boC];try simp (disch:=omega) only[Iw])|apply bn2 (by omega)|refine⟨by omega,?_⟩|fail
   exact an _ _ _ (j+1) noF _ (by omega) (by omega) (by repeat' first|exact bo2|refine xqI rfl rfl ?_|refine xqP (by omega) rfl rfl ?_|refine xqO (by omega) rfl rfl (by rfl) ?_|fail) aK ⟨by omega,by omega,rfl,A (by unfold KE;rw[B];rfl)⟩
  |false=>
   have S:(u.map eH)[who]?=some (eH false):=(by rw[p0,n1 (by omega),Option.map_some];rw[KL,n1 (by omega),Option.getD_some] at B;rw[B]);by_cases L:HV c s who st
   ·have M:decide (HV c s who st)=true:=decide_eq_true L;have hB:bQ d [g,nx,nx+1,nx+2]:=AM.apart (by simp;omega) (by simp;omega);simp only[bQ,eZ] at hB;obtain⟨qo,qc,oc,gr,gq,go⟩:=ga who R;obtain⟨p,hp⟩: ∃p,aF s who=p:=⟨_,rfl⟩
    rw[hp] at gr gq go;have n2:=lt 2 (by omega);have aq:(nm 2=g)=False:=eq_false fun he=>m.names.av 2 (by omega) (he▸n);obtain⟨m1,bp3,_,_⟩:=id L;rw[hp] at m1 bp3;have ar:=hs.port who R;rw[hp] at ar;have dj:=ar.ql;obtain⟨T,au⟩: ∃T,p.queue.getD 0 default=T:=⟨_,rfl⟩
    obtain⟨mq,rq0,x1,bpZ,aYM,aAO,blA,aIL⟩:=gq.ex;rw[bqW] at aAO;have blB:rq0[qo]?=some (aJ T):=(by have:(rq0.drop qo)[0]?=some (aJ T):=(by rw[bpZ,p0,←au];simp[List.getD,show 0<p.queue.length by omega]);rwa [s5,Nat.add_zero] at this);have az8:=lt (5+who) (by omega);have bx:H1 (nm (5+who))=some ⟨1,mq,rq0⟩:=(I _ az8).trans x1;have bz:(nm (5+who)=g)=False:=eq_false fun he=>m.names.av (5+who) (by omega) (he▸n);have aw:bQ d ([2,3,5+who,8+who,11+st].map nm):=AM.apart (m.names.list (by simp;omega) (by simp;omega)) (fun x hx=>by obtain⟨j,hj,rfl⟩:=CF.1 hx;have:=lt j (by simp at hj;omega);omega);simp only[bQ,eZ,List.map] at aw;have ca:H1 (nm 2)=some ⟨4,mp,rp⟩:=(I _ n2).trans g1;have bqP:=lt 3 (by omega);have aAJ:=lt (8+who) (by omega);have cb:=lt (11+st) (by omega);have ax:(nm (8+who)=g)=False:=eq_false fun he=>m.names.av (8+who) (by omega) (he▸n);have ay:(nm (11+st)=g)=False:=eq_false fun he=>m.names.av (11+st) (by omega) (he▸n);have az:(nm 3=g)=False:=eq_false fun he=>m.names.av 3 (by omega) (he▸n);have k0: ∀(G:aA) (b k:Nat),msk (d+b) [k] G nx=G nx:=fun G b k=>mk1 (by omega);have k1: ∀(G:aA) (b k:Nat),msk (d+b) [k] G (nx+1)=G (nx+1):=fun G b k=>mk1 (by omega);have k2: ∀(G:aA) (b k:Nat),msk (d+b) [k] G (nm 2)=G (nm 2):=fun G b k=>mk1 (by omega);have k3: ∀(G:aA) (b k:Nat),msk (d+b) [k] G (nm 3)=G (nm 3):=fun G b k=>mk1 (by omega);have k5: ∀(G:aA) (b k:Nat),msk (d+b) [k] G (nm (5+who))=G (nm (5+who)):=fun G b k=>mk1 (by omega);have k8: ∀(G:aA) (b k:Nat),msk (d+b) [k] G (nm (8+who))=G (nm (8+who)):=fun G b k=>mk1 (by omega);have cc: ∀(G:aA) (b k:Nat),msk (d+b) [k] G (nm (11+st))=G (nm (11+st)):=fun G b k=>mk1 (by omega);have cd: ∀(G:aA) (b k:Nat),34≤b→msk (d+b) [k] G (d+33)=G (d+33):=fun G b k hb=>mk1 (by omega);obtain⟨mo,ro,o1,o2,bqD,bqE,bqF,blC⟩:=go.ex;rw[bqW] at bqE;rw[bq5] at o2;have cf:H1 (nm (8+who))=some ⟨3,mo,ro⟩:=(I _ aAJ).trans o1;obtain⟨me,re,p1,p2,p3,p4,p5,p6⟩:=gp.ex;rw[bqW] at p4;have cg:H1 (nm (11+st))=some ⟨3,me,re⟩:=(I _ cb).trans p1;have ad:(qo+(1+(p.queue.length-1))≤rq0.length)=True:=eq_true (by omega);have ae:List.take (p.queue.length-1) (List.drop (qo+1) rq0)=(p.queue.drop 1).map aJ:=(by rw[←Y2,bpZ,←brE,boL (by simp)]);have af:List.take v.pipe.length (List.drop po re)=v.pipe.map eCJ:=(by rw[p2,boL (by simp)]);have ag:List.take p.out.length ro=p.out.map eCJ:=(by rw[o2,boL (by simp)]);have ba: ∀r,(rp.set who r)[who]?=some r:=fun r=>by rw[bqZ (by omega)]
    have bb: ∀r,(rv.set st r)[st]?=some r:=fun r=>by rw[bqZ (by omega)]
    have bc:=hb.2.1;have bd:bQ nx ([2,3,5+who,8+who,11+st].map nm):=AM.apart (m.names.list (by simp;omega) (by simp;omega)) (fun x hx=>by obtain⟨j,hj,rfl⟩:=CF.1 hx;exact lt j (by simp at hj;omega));simp only[bQ,eZ,List.map] at bd;repeat' first| (first|apply bn1|refine bhY hb hs R F (al.ar5 hs.pl hs.sl (fun id f=>I id f)) ?_)<;>(simp only[go_sem,bfZ,bpR,f2,ca,ab,P,bx,cf,cg,blB,gr,gs,J,S,M,hB,aq,bz,ax,ay,az,aw,bd,k0,k1,k2,k3,k5,k8,cc,cd,ad,ae,af,ag,ba,bb,List.nil_append,bqW,CI,bq1,boC];try simp (disch:=omega) only[Iw])|apply bn2 (by omega)| (with_reducible first|refine fun(cap:Nat) (ch:_≤cap)=> ?_|refine fun(dk:_≤cap)=> ?_)|refine⟨by omega,?_⟩|fail
    rename_i o bf cj q bg ck;have cl:AO c s u st=some who:=(by rw[E];apply ahR (by rw[hv];omega) bq bw hinv;rw[←E];unfold KE;rw[B,M];rfl);have hn:bhV c s u st=(aR c s (.adm who st),u.set who true):=(by unfold bhV;rw[cl]);rw[hn] at h;refine hQ _ _ _ _ _ (.inr rfl) (LL rfl aA.bH rfl) ?_;obtain⟨s',t⟩: ∃s',s'=aR c s (.adm who st):=⟨_,rfl⟩
    rw[←t] at h;have V:(aF s who).queue.getD 0 default=T:=(by rw[hp,au]);have N:aF s' who= {p with queue:=p.queue.drop 1,out:=p.out++[⟨who,T,st⟩]}:=(by rw[t,bL rfl (by rw[hs.pl];omega),if_pos rfl,V,hp]);have O:aL s' st= {v with pipe:=v.pipe++[⟨who,T,c.lat.getD st default⟩],last:=who}:=(by rw[t,bO rfl (by rw[hs.sl];omega),if_pos rfl,V,hv]);have inj:=m.names.inj;have dm:nm 2≠nm 3:=fun he=>by have:=inj 2 3 (by omega) (by omega) he;omega
    have dn:g≠nm 2:=fun he=>of_eq_false aq he.symm;have dp:g≠nm 3:=fun he=>of_eq_false az he.symm;have dq:g≠nm (8+who):=fun he=>of_eq_false ax he.symm;have cm:g≠nm (11+st):=fun he=>of_eq_false ay he.symm;generalize aYL:aA.set _ (nx+2) _=W;have cn:W (d+47)=some ⟨1,o,(p.queue.drop 1).map aJ⟩:=(by rw[←aYL];simp (disch:=omega) only[aA.aC,aA.bH]);have cp:W (d+61)=some ⟨3,q,(p.out++[(⟨who,T,st⟩:fC)]).map eCJ⟩:=(by rw[←aYL,bqX];simp (disch:=omega) only[aA.aC,aA.bH];rfl);have cq:W (d+83)=some ⟨3,cap,(v.pipe++[(⟨who,T,c.lat.getD st default⟩:fC)]).map eCJ⟩:=(by rw[←aYL,bqX];simp (disch:=omega) only[aA.aC,aA.bH];rfl);have bqI:W (nm 2)=some ⟨4,mp,rp.set who [cI p.next,.osl 1 (d+47) 0 (p.queue.length-1) o,.osl 3 (d+61) 0 (p.out.length+1) q,cI p.last]⟩:=(by rw[←aYL];simp (disch:=omega) only[aA.aC,aA.bH]);have bk6:W (nm 3)=some ⟨3,mv,rv.set st [.osl 3 (d+83) 0 (v.pipe.length+1) cap,.osl 5 (nm (15+st)) do_ v.done.length dc,cI who]⟩:=(by rw[←aYL];simp (disch:=omega) only[aA.aC,aA.bH]);have cr:W g=some ⟨1,um,(u.set who true).map eH⟩:=(by rw[←aYL];simp (disch:=omega) only[aA.aC,aA.bH];rw[brD];rfl);have wf: ∀id,id<nx→id≠g→id≠nm 2→id≠nm 3→id≠nm (8+who)→id≠nm (11+st)→W id=H id:=fun id y h2 h3 h4 h5 h6=>by rw[←aYL];simp (disch:=omega) only[aA.aC,aA.jG];exact I id y
    clear aYL;have Y: ∀a,a<19→a≠2→a≠3→a≠8+who→a≠11+st→W (nm a)=H (nm a):=fun a y h2 h3 h4 h5=>wf _ (lt a y) (fun he=>m.names.av a y (he▸n)) (fun he=>h2 (inj a 2 y (by omega) he)) (fun he=>h3 (inj a 3 y (by omega) he)) (fun he=>h4 (inj a (8+who) y (by omega) he)) (fun he=>h5 (inj a (11+st) y (by omega) he));obtain⟨i,w⟩: ∃i,i=put (put (put nm (5+who) (d+47)) (8+who) (d+61)) (11+st) (d+83):=⟨_,rfl⟩
    have l: ∀a,a≠5+who→a≠8+who→a≠11+st→i a=nm a:=fun a y h2 h3=>by rw[w,jE h3,jE h2,jE y]
    have bh:i (5+who)=d+47:=(by rw[w,jE (by omega),jE (by omega),t8]);have bj:i (8+who)=d+61:=(by rw[w,jE (by omega),t8]);have Z:i (11+st)=d+83:=(by rw[w,t8]);have ah: ∀z,nx≤z→¬X z:=fun z hz hn=>by have:=hX z hn;omega
    have hN:Names X (d+96) i:=(by rw[w];exact((m.names.put (nx':=d+48) (by omega) (by omega) (ah _ (by omega))).put (nx':=d+62) (by omega) (by omega) (ah _ (by omega))).put (by omega) (by omega) (ah _ (by omega)));have bk:s'.words=s.words:=(by rw[t];rfl);have bm:s'.holds=s.holds:=(by rw[t];rfl);have bn:s'.told=s.told:=(by rw[t];rfl);refine h W _ i _ (by omega) ⟨⟨⟨wc,hc,pc,vc,tc,?_,?_,?_,?_,bkU,bkV⟩,⟨mp,rp.set who [cI p.next,.osl 1 (d+47) 0 (p.queue.length-1) o,.osl 3 (d+61) 0 (p.out.length+1) q,cI p.last],?_,by rw[Y5,bp4],fun k hk=> ?_⟩,⟨mv,rv.set st [.osl 3 (d+83) 0 (v.pipe.length+1) cap,.osl 5 (nm (15+st)) do_ v.done.length dc,cI who],?_,by rw[Y5,bp5],fun k hk=> ?_⟩⟩,hN,fun id f=>by have:=hX id f;omega⟩ cr fun id f ct=> ?_;·rw[U2,bk,bm,bn,l 0 (by omega) (by omega) (by omega),l 1 (by omega) (by omega) (by omega),l 2 (by omega) (by omega) (by omega),l 3 (by omega) (by omega) (by omega),l 4 (by omega) (by omega) (by omega)]
    ·rw[bk,l 0 (by omega) (by omega) (by omega)];exact g3.frame (Y 0 (by omega) (by omega) (by omega) (by omega) (by omega))
    ·rw[bm,l 1 (by omega) (by omega) (by omega)];exact g4.frame (Y 1 (by omega) (by omega) (by omega) (by omega) (by omega))
    ·rw[bn,l 4 (by omega) (by omega) (by omega)];exact g5.frame (Y 4 (by omega) (by omega) (by omega) (by omega) (by omega))
    ·rw[l 2 (by omega) (by omega) (by omega)];exact bqI
    ·by_cases ai:k=who
     ·subst ai;refine⟨_,ba _,⟨0,o,q,?_,?_,?_⟩⟩;·rw[N,bh,bj];simp only[af5,CI,t2,List.length_singleton]
      ·rw[N,bh];exact⟨o,_,cn,rfl,by simp,by simp,by simp;omega,by omega⟩
      ·rw[N,bj];exact⟨q,_,cp,rfl,by simp,by simp,by simp;omega,by omega⟩
     ·obtain⟨cu,cv,cw,y1,aHC,aHD⟩:=ga k hk;have e:aF s' k=aF s k:=(by rw[t,bL rfl (by rw[hs.pl];omega),if_neg ai]);refine⟨_,by rw[bq0 (Ne.symm ai)];exact y1,⟨cu,cv,cw,?_,?_,?_⟩⟩;·rw[e,l (5+k) (by omega) (by omega) (by omega),l (8+k) (by omega) (by omega) (by omega)];rfl
      ·rw[e,l (5+k) (by omega) (by omega) (by omega)];exact aHC.frame (Y (5+k) (by omega) (by omega) (by omega) (by omega) (by omega))
      ·rw[e,l (8+k) (by omega) (by omega) (by omega)];exact aHD.frame (Y (8+k) (by omega) (by omega) (by omega) (by omega) (by omega))
    ·rw[l 3 (by omega) (by omega) (by omega)];exact bk6
    ·by_cases aj:k=st
     ·subst aj;refine⟨_,bb _,⟨0,cap,do_,dc,?_,?_,?_⟩⟩;·rw[O,Z,l (15+k) (by omega) (by omega) (by omega)];simp only[aj9,t2,List.length_singleton]
      ·rw[O,Z];exact⟨cap,_,cq,rfl,by simp,by simp,by simp;omega,by omega⟩
      ·rw[O,l (15+k) (by omega) (by omega) (by omega)];exact gd.frame (Y (15+k) (by omega) (by omega) (by omega) (by omega) (by omega))
     ·obtain⟨cx,cy,cz,da,y1,aHC,aHD⟩:=gb k hk;have e:aL s' k=aL s k:=(by rw[t,bO rfl (by rw[hs.sl];omega),if_neg aj]);refine⟨_,by rw[bq0 (Ne.symm aj)];exact y1,⟨cx,cy,cz,da,?_,?_,?_⟩⟩;·rw[e,l (11+k) (by omega) (by omega) (by omega),l (15+k) (by omega) (by omega) (by omega)];rfl
      ·rw[e,l (11+k) (by omega) (by omega) (by omega)];exact aHC.frame (Y (11+k) (by omega) (by omega) (by omega) (by omega) (by omega))
      ·rw[e,l (15+k) (by omega) (by omega) (by omega)];exact aHD.frame (Y (15+k) (by omega) (by omega) (by omega) (by omega) (by omega))
    ·have av:=m.names.av;exact wf id (hX id f) ct (fun he=>av 2 (by omega) (he▸f)) (fun he=>av 3 (by omega) (he▸f)) (fun he=>av (8+who) (by omega) (he▸f)) (fun he=>av (11+st) (by omega) (he▸f))
   ·have M:decide (HV c s who st)=false:=decide_eq_false L;repeat' first| (first|apply bn1|refine bhY hb hs R F (al.ar5 hs.pl hs.sl (fun id f=>I id f)) ?_)<;>(simp only[go_sem,bfZ,bpR,ab,P,gs,J,S,M,boC];try simp (disch:=omega) only[Iw])|apply bn2 (by omega)|refine⟨by omega,?_⟩|fail
    exact an _ _ _ (j+1) noF _ (by omega) (by omega) (by repeat' first|exact bo2|refine xqI rfl rfl ?_|refine xqP (by omega) rfl rfl ?_|refine xqO (by omega) rfl rfl (by rfl) ?_|fail) aK ⟨by omega,by omega,rfl,A (by unfold KE;rw[B,M];rfl)⟩
 ·have hn:bhV c s u st=(s,u):=by unfold bhV;rw[ah0 fun D y h2=>hinv D y (by omega)]
  rw[hn] at h;repeat' first|apply bn1<;>(simp only[go_sem,bfZ,bpR,f2,boC])|apply bn3 (by omega)|fail
  refine hQ _ _ _ _ _ (.inr rfl) (LL rfl aA.bH rfl) ?_;refine h _ _ nm _ (by omega) (m.frame (by omega) fun id f _=>by rw[aA.aC (by omega)];exact I id f) (by rw[aA.aC (by omega)];exact P) fun id f _=> ?_;have:=hX id f;rw[aA.aC (by omega)];exact I id this
end
end Go.Proofs.YtdkfhdmagdaceaaGreat
namespace Go.AM
def blD (c:Cfg) (f:CSt→Nat→Option Mic) (l:List Nat) (s S:CSt):Prop:=dR c s (vE c f s l)=S
theorem blD.next {c:Cfg} {f:CSt→Nat→Option Mic} {s S:CSt} {k:Nat} {l:List Nat} (h:blD c f (k::l) s S):blD c f l (atS c s (f s k)) S:=by
 unfold blD at h
 cases a:f s k with
 |none=>rw[GZ a] at h;exact h
 |some m=>rw[NH a] at h;exact h
theorem blD.nil {c:Cfg} {f:CSt→Nat→Option Mic} {s S:CSt} (h:blD c f [] s S):s=S:=h
theorem bj1 {c:Cfg} {s:CSt} {o:Option Mic} (a:aQ c) (hs:COk c s) (h: ∀m,o=some m→EH c s m):COk c (atS c s o):=by
 cases o with
 |none=>exact hs
 |some m=>exact o9 a hs (h m rfl)
theorem bgJ.sub {X b:Nat→Prop} {H:aA} {nx:Nat} {nm:Nat→Nat} {s:CSt} {cells:List D1} (h:bgJ b H nx nm s cells) (hs: ∀id,X id→b id):bgJ X H nx nm s cells:=⟨h.rep,⟨h.names.inj,h.names.lt,fun k c d=>h.names.av k c (hs _ d)⟩,fun id a=>h.x id (hs id a)⟩
theorem blD.none {c:Cfg} {f:CSt→Nat→Option Mic} {s S:CSt} {k:Nat} {l:List Nat} (h:blD c f (k::l) s S) (a:f s k=none):blD c f l s S:=by have:=h.next;rwa [a] at this
theorem LV.bkK {c:Cfg} {s S:CSt} {u:List Bool} {k:Nat} {l:List Nat} (hl:LV c (k::l) s u S):LV c l (Go.Proofs.YtdkfhdmagdaceaaGreat.bhV c s u k).1 (Go.Proofs.YtdkfhdmagdaceaaGreat.bhV c s u k).2 S:=by
 unfold Go.Proofs.YtdkfhdmagdaceaaGreat.bhV
 cases h:AO c s u k with
 |none=>exact hl.none h
 |some who=>exact hl.some h
end Go.AM
namespace Go.Proofs.YtdkfhdmagdaceaaGreat
open Go Go.AM
attribute [local irreducible] aM wv aB vd wvH
section
variable {H : aA} {nx : Nat} {K : D → aA → Nat → Prop}
theorem bkC {c:Cfg} {s:CSt} {u:List Bool} {st:Nat} (b:aQ c) (hs:COk c s) (a:st<4) (hu:u.length=3):COk c (bhV c s u st).1∧(bhV c s u st).2.length=3:=by
 unfold bhV
 cases h:AO c s u st with
 |none=>exact⟨hs,hu⟩
 |some who=>exact⟨o9 b hs (XH a h),by simpa using hu⟩
theorem biI:cJ Tryz.prog bgZ Tryz.f117 bgT bhK:=cJ.mk Tryz.func117 (by kernel_rfl) biJ
theorem bi3 {X:Nat→Prop} {c:Cfg} {i:CIn} {s:CSt} {nm:Nat→Nat} {cells:List D1} (hb:aQ c) (hs:COk c s) (hi:vZ i) (hR:bgJ X H nx nm s cells)
 (h: ∀H' nx' g y,nx≤nx'→bgJ X H' nx' g (vF c i s) y→(∀id,X id→H' id=H id)→K (boR y) H' nx'):
 aB Tryz.prog bgZ [boR (cU c),boR cells,boR (eIn i)] H nx K:=by
 refine biI rfl fun Q hQ=> ?_
 unfold bgT
 have hX:=hR.x
 obtain⟨dh,bu⟩:=hC hb
 obtain⟨di,dj,dk⟩:=hi
 obtain⟨C,Y⟩: ∃C:Nat→Prop,C=fun id=>X id∨id=nx∨id=nx+1∨id=nx+2∨id=nx+3:=⟨_,rfl⟩
 have x0:C nx:=by rw[Y];exact .inr (.inl rfl)
 have x1:C (nx+1):=by rw[Y];exact .inr (.inr (.inl rfl))
 have bpZ:C (nx+2):=by rw[Y];exact .inr (.inr (.inr (.inl rfl)))
 have aYM:C (nx+3):=by rw[Y];exact .inr (.inr (.inr (.inr rfl)))
 have blE: ∀id,X id→C id:=fun id h=>by rw[Y];exact .inl h
 have ao: ∀id,C id→id<nx∧X id∨nx≤id∧id≤nx+3:=fun id h=>by
  rw[Y] at h;rcases h with h|h|h|h|h;·exact .inl ⟨hX id h,h⟩
  all_goals exact .inr (by omega)
 have J:=hR
 obtain⟨wc,hc,pc,vc,tc,mp,rp,mv,rv,l,g1,g2,g3,g4,g5,bkU,bkV,bp4,bp5,ga,gb⟩:=hR.get
 subst l
 repeat' first|apply bn1<;>(simp only[go_sem,boC])|fail
 refine aM.aTJ fun G bqK=> ?_
 have bfZ:G nx=some ⟨3,1,[cU c]⟩:=by rw[bqK,aA.aC (by omega),aA.aC (by omega),aA.aC (by omega)];exact aA.bH
 have bpR:G (nx+1)=some ⟨5,1,[[.osl 1 (nm 0) 0 s.words.length wc,.osl 1 (nm 1) 0 s.holds.length hc,.osl 4 (nm 2) 0 3 pc,.osl 3 (nm 3) 0 4 vc,.osl 5 (nm 4) 0 s.told.length tc]]⟩:=by rw[bqK,aA.aC (by omega),aA.aC (by omega)];exact aA.bH
 have f2:G (nx+2)=some ⟨3,1,[eIn i]⟩:=by rw[bqK,aA.aC (by omega)];exact aA.bH
 have bpS:G (nx+3)=some ⟨5,1,[[D1.osl 0 0 0 0 0,D1.osl 0 0 0 0 0,D1.osl 0 0 0 0 0,D1.osl 0 0 0 0 0,D1.osl 0 0 0 0 0]]⟩:=by rw[bqK];exact aA.bH
 have ff: ∀id,id<nx→G id=H id:=fun id d=>by rw[bqK,aA.aC (by omega),aA.aC (by omega),aA.aC (by omega),aA.aC (by omega)]
 clear bqK
 have bw:bgJ C G (nx+4) nm s [.osl 1 (nm 0) 0 s.words.length wc,.osl 1 (nm 1) 0 s.holds.length hc,.osl 4 (nm 2) 0 3 pc,.osl 3 (nm 3) 0 4 vc,.osl 5 (nm 4) 0 s.told.length tc]:=
  ⟨J.rep.frame fun k L=>ff _ (J.names.lt k L),⟨J.names.inj,fun k L=>by have:=J.names.lt k L;omega,fun k L hn=>by
   have h1:=J.names.lt k L
   rcases ao _ hn with⟨_,Z⟩|Z
   ·exact J.names.av k L Z
   ·omega⟩,fun id d=>by rcases ao id d with h|h<;>omega⟩
 clear hR J g1 g2 g3 g4 g5 bkU bkV bp4 bp5 ga gb
 refine aM.gP (β:=Nat×(Nat→Nat)×List D1×CSt) (fun u=>en [(7,boP u.1),(6,.one (.c (.ptr 5 (nx+3) 0 0))),(5,.one (.c (.ptr 3 (nx+2) 0 0))),(4,.one (.c (.ptr 5 (nx+1) 0 0))),(3,.one (.c (.ptr 3 nx 0 0)))])
  (fun u H1 M=>u.1≤3∧COk c u.2.2.2∧bgJ C H1 M u.2.1 u.2.2.2 u.2.2.1∧H1 (nx+1)=some ⟨5,1,[u.2.2.1]⟩∧blD c (vT i) ([0,1,2].drop u.1) u.2.2.2 (CW c i s)∧ ∀id,C id→id≠nx+1→H1 id=G id) (fun u=>3-u.1) (0,nm,_,s)
  ⟨noF,_,by repeat' first|exact bo2|refine xqI rfl rfl ?_|refine xqP (by omega) rfl rfl ?_|fail,aK,by dsimp only;omega,hs,bw.frame (by omega) (fun _ _ _=>rfl),bpR,rfl,fun _ _ _=>rfl⟩ ?_
 rintro⟨k,ba,dm,s1⟩ H1 M bx ⟨L,T,ad,w,t,f⟩ bpQ bb
 dsimp only at L T ad w t f
 have boU:=(f nx x0 (by omega)).trans bfZ
 have V:=(f (nx+2) bpZ (by omega)).trans f2
 have e3:=(f (nx+3) aYM (by omega)).trans bpS
 obtain⟨wc,hc,pc,vc,tc,mp,rp,mv,rv,l,g1,g2,g3,g4,g5,bkU,bkV,bp4,bp5,ga,gb⟩:=ad.get
 subst l
 have hB:bQ M [nx,nx+1,nx+2,nx+3]:=AM.apart (by simp) (by simp;omega)
 simp only[bQ,eZ] at hB
 by_cases q:k<3
 ·rw[ap4 q] at t
  cases hr:i.ready.getD k default with
  |false=>
   repeat' first|apply bn1<;>(simp only[go_sem,boC,boU,w,V,hr,hB];try simp (disch:=omega) only[Iw])|apply bn2 (by omega)|refine⟨by omega,?_⟩|fail
   all_goals exact bb _ _ _ (k+1,ba,_,s1) noF _ (by omega) (by dsimp only;omega) (by repeat' first|exact bo2|refine xqI rfl rfl ?_|refine xqP (by omega) rfl rfl ?_|fail) aK ⟨by dsimp only;omega,T,ad.frame (by omega) (fun _ _ _=>rfl),w,t.none (agJ hr),f⟩
  |true=>
   repeat' first|apply bn1<;>(simp only[go_sem,boC,boU,w,V,hr,hB])|apply bn2 (by omega)|refine⟨by omega,?_⟩|fail
   refine bjM (X:=C) hb T q hr (ad.frame (nx':=M+11) (by omega) (fun _ _ _=>rfl)) fun H' nx' g y bc P R=> ?_;have q1:=(R (nx+1) x1).trans w;obtain⟨bd,bf,ak,bg,bh,_,_,_,_,z,_⟩:=P.get;subst z;have A:=bj1 hb T (o:=vT i s1 k) (fun m hm=>TB T q hm);(try simp only[go_sem,boC,q1]);repeat' first|apply bn1<;>(simp only[go_sem,boC,q1];try simp (disch:=omega) only[Iw])|fail
   exact bb _ _ _ (k+1,g,_,atS c s1 (vT i s1 k)) noF _ (by omega) (by dsimp only;omega) (by repeat' first|exact bo2|refine xqI rfl rfl ?_|refine xqP (by omega) rfl rfl ?_|fail) aK ⟨by dsimp only;omega,A,P.frame (by omega) (fun id h1 Z=>aA.aC fun he=>Z (he▸x1)),aA.bH,t.next,fun id d D=>by rw[aA.aC D,R id d];exact f id d D⟩
 ·have aq:k=3:=by omega
  subst aq;have t:=blD.nil t;subst t;repeat' first|apply bn1<;>(simp only[go_sem])|apply bn3 (by omega)|fail
  refine aM.gP (β:=Nat×(Nat→Nat)×List D1×CSt) (fun u=>en [(8,boP u.1),(6,.one (.c (.ptr 5 (nx+3) 0 0))),(5,.one (.c (.ptr 3 (nx+2) 0 0))),(4,.one (.c (.ptr 5 (nx+1) 0 0))),(3,.one (.c (.ptr 3 nx 0 0)))])
   (fun u H1 M=>u.1≤4∧COk c u.2.2.2∧bgJ C H1 M u.2.1 u.2.2.2 u.2.2.1∧H1 (nx+1)=some ⟨5,1,[u.2.2.1]⟩∧blD c (qW i) ([0,1,2,3].drop u.1) u.2.2.2 (QD c i s)∧ ∀id,C id→id≠nx+1→H1 id=G id) (fun u=>4-u.1) (0,ba,_,CW c i s)
   ⟨noF,_,by repeat' first|exact bo2|refine xqI rfl rfl ?_|refine xqP (by omega) rfl rfl ?_|fail,aK,by dsimp only;omega,T,ad.frame (by omega) (fun _ _ _=>rfl),w,rfl,f⟩ ?_
  clear ad w f boU V e3 hB g1 g2 g3 g4 g5 bkU bkV bp4 bp5 ga gb T;rintro⟨k,S,dn,s2⟩ H2 al bz ⟨L,U,I,w,t,f⟩ bqG bj;dsimp only at L U I w t f;have boU:=(f nx x0 (by omega)).trans bfZ;have V:=(f (nx+2) bpZ (by omega)).trans f2;obtain⟨wc,hc,pc,vc,tc,mp,rp,mv,rv,l,g1,g2,g3,g4,g5,bkU,bkV,bp4,bp5,ga,gb⟩:=I.get;subst l;have hB:bQ al [nx,nx+1,nx+2,nx+3]:=AM.apart (by simp) (by simp;omega);simp only[bQ,eZ] at hB;by_cases q:k<4
  ·rw[apX q] at t
   cases hr:i.n9.getD k default with
   |true=>
    repeat' first|apply bn1<;>(simp only[go_sem,boC,boU,w,V,hr,hB];try simp (disch:=omega) only[Iw])|apply bn2 (by omega)|refine⟨by omega,?_⟩|fail
    all_goals exact bj _ _ _ (k+1,S,_,s2) noF _ (by omega) (by dsimp only;omega) (by repeat' first|exact bo2|refine xqI rfl rfl ?_|refine xqP (by omega) rfl rfl ?_|fail) aK ⟨by dsimp only;omega,U,I.frame (by omega) (fun _ _ _=>rfl),w,t.none (aa0 (.inl hr)),f⟩
   |false=>
    repeat' first|apply bn1<;>(simp only[go_sem,boC,boU,w,V,hr,hB])|apply bn2 (by omega)|refine⟨by omega,?_⟩|fail
    refine bjR (X:=C) hb U q hr (I.frame (nx':=al+13) (by omega) (fun _ _ _=>rfl)) fun H' nx' g y bc P R=> ?_;have q1:=(R (nx+1) x1).trans w;obtain⟨bd,bf,ak,bg,bh,_,_,_,_,z,_⟩:=P.get;subst z;have A:=bj1 hb U (o:=qW i s2 k) (fun m hm=>LM U q hm);(try simp only[go_sem,boC,q1]);repeat' first|apply bn1<;>(simp only[go_sem,boC,q1];try simp (disch:=omega) only[Iw])|fail
    exact bj _ _ _ (k+1,g,_,atS c s2 (qW i s2 k)) noF _ (by omega) (by dsimp only;omega) (by repeat' first|exact bo2|refine xqI rfl rfl ?_|refine xqP (by omega) rfl rfl ?_|fail) aK ⟨by dsimp only;omega,A,P.frame (by omega) (fun id h1 Z=>aA.aC fun he=>Z (he▸x1)),aA.bH,t.next,fun id d D=>by rw[aA.aC D,R id d];exact f id d D⟩
  ·have ar:k=4:=(by omega);subst ar;have t:=blD.nil t;subst t;repeat' first|apply bn1<;>(simp only[go_sem])|apply bn3 (by omega)|fail
   obtain⟨ub,ca⟩: ∃ub,ub=al+2:=⟨_,rfl⟩
   rw[←ca];obtain⟨X2,an⟩: ∃X2:Nat→Prop,X2=fun id=>C id∨id=ub:=⟨_,rfl⟩
   have y1:X2 (nx+1):=(by rw[an];exact .inl x1);have yu:X2 ub:=(by rw[an];exact .inr rfl);have blF: ∀id,C id→X2 id:=fun id h=>by rw[an];exact .inl h
   have af: ∀id,X2 id→C id∨id=ub:=fun id h=>by rw[an] at h;exact h
   have N: ∀id,C id→id<nx+4:=fun id h=>by rcases ao id h with h|h<;>omega
   obtain⟨aID,ae⟩: ∃aID,aID=H2.set ub ⟨1,3,[false,false,false].map eH⟩:=⟨_,rfl⟩
   have ag:aA.set H2 ub ⟨1,3,[[D1.v (Value.bool false)],[D1.v (Value.bool false)],[D1.v (Value.bool false)]]⟩=aID:=ae.symm;rw[ag];have j1:aID (nx+1)=_:=(by rw[ae];exact aA.aC (by omega):aID (nx+1)=H2 (nx+1)).trans w;have ju:aID ub=some ⟨1,3,[false,false,false].map eH⟩:=(by rw[ae];exact aA.bH);have bk: ∀id,C id→id≠nx+1→aID id=G id:=fun id d D=>by rw[ae,aA.aC (by have:=N id d;omega)];exact f id d D
   have blG:bgJ X2 aID (al+5) S (QD c i s) [.osl 1 (S 0) 0 (QD c i s).words.length wc,.osl 1 (S 1) 0 (QD c i s).holds.length hc,.osl 4 (S 2) 0 3 pc,.osl 3 (S 3) 0 4 vc,.osl 5 (S 4) 0 (QD c i s).told.length tc]:=
    ⟨I.rep.frame fun k L=>by rw[ae];exact aA.aC (by have:=I.names.lt k L;omega),⟨I.names.inj,fun k L=>by have:=I.names.lt k L;omega,fun k L hn=>by
     rcases af _ hn with h|h
     ·exact I.names.av k L h
     ·have:=I.names.lt k L;omega⟩,fun id d=>by
     rcases af id d with h|h
     ·have:=N id h;omega
     ·omega⟩
   clear I w f boU V hB g1 g2 g3 g4 g5 bkU bkV bp4 bp5 ga gb ae ag
   refine aM.gP (β:=Nat×(Nat→Nat)×List D1×CSt×List Bool) (fun u=>en [(10,boP u.1),(9,.one (.c (.osl 1 ub 0 3 3))),(6,.one (.c (.ptr 5 (nx+3) 0 0))),(5,.one (.c (.ptr 3 (nx+2) 0 0))),(4,.one (.c (.ptr 5 (nx+1) 0 0))),(3,.one (.c (.ptr 3 nx 0 0)))])
    (fun u H1 M=>u.1≤4∧COk c u.2.2.2.1∧u.2.2.2.2.length=3∧bgJ X2 H1 M u.2.1 u.2.2.2.1 u.2.2.1∧H1 (nx+1)=some ⟨5,1,[u.2.2.1]⟩∧H1 ub=some ⟨1,3,u.2.2.2.2.map eH⟩∧LV c ([0,1,2,3].drop u.1) u.2.2.2.1 u.2.2.2.2 (OI c i s)∧ ∀id,C id→id≠nx+1→H1 id=G id) (fun u=>4-u.1) (0,S,_,QD c i s,[false,false,false])
    ⟨noF,_,by repeat' first|exact bo2|refine xqI rfl rfl ?_|refine xqP (by omega) rfl rfl ?_|refine xqO (by omega) rfl rfl (by rfl) ?_|fail,aK,by dsimp only;omega,U,rfl,blG.frame (by omega) (fun _ _ _=>rfl),j1,ju,rfl,bk⟩ ?_
   clear blG j1 ju bk U;rintro⟨k,cb,dp,bp7,aIG⟩ H3 cc cd ⟨L,ah,au,ai,w,eu,t,f⟩ bqR cf;dsimp only at L ah au ai w eu t f;have boU:=(f nx x0 (by omega)).trans bfZ;have V:=(f (nx+2) bpZ (by omega)).trans f2;obtain⟨wc,hc,pc,vc,tc,mp,rp,mv,rv,l,g1,g2,g3,g4,g5,bkU,bkV,bp4,bp5,ga,gb⟩:=ai.get;subst l;have hB:bQ cc [nx,nx+1,nx+2,nx+3]:=AM.apart (by simp) (by simp;omega);simp only[bQ,eZ] at hB;by_cases q:k<4
   ·rw[apX q] at t;repeat' first|apply bn1<;>(simp only[go_sem,boC,boU,w,V,hB])|apply bn2 (by omega)|fail
    refine bjU (X:=X2) (um:=3) hb ah q au (ai.frame (by omega) (fun _ _ _=>rfl)) yu eu (by omega) fun H' nx' g y bc P cg R=> ?_;have q1:=(R (nx+1) y1 (by omega)).trans w;obtain⟨bd,bf,ak,bg,bh,_,_,_,_,z,_⟩:=P.get;subst z;obtain⟨A,ch⟩:=bkC (u:=aIG) hb ah q au;(try simp only[go_sem,boC,q1]);repeat' first|apply bn1<;>(simp only[go_sem,boC,q1];try simp (disch:=omega) only[Iw])|fail
    exact cf _ _ _ (k+1,g,_,(bhV c bp7 aIG k).1,(bhV c bp7 aIG k).2) noF _ (by omega) (by dsimp only;omega) (by repeat' first|exact bo2|refine xqI rfl rfl ?_|refine xqP (by omega) rfl rfl ?_|refine xqO (by omega) rfl rfl (by rfl) ?_|fail) aK ⟨by dsimp only;omega,A,ch,P.frame (by omega) (fun id h1 Z=>aA.aC fun he=>Z (he▸y1)),aA.bH,by rw[aA.aC (by omega)];exact cg,t.bkK,fun id d D=>by rw[aA.aC D,R id (blF id d) (by have:=N id d;omega)];exact f id d D⟩
   ·have ar:k=4:=(by omega);subst ar;have t:bp7=OI c i s:=t;subst t;repeat' first|apply bn1<;>(simp only[go_sem])|apply bn3 (by omega)|fail
    have blG:=ai.sub blF;clear ai boU V hB g1 g2 g3 g4 g5 bkU bkV bp4 bp5 ga gb eu
    refine aM.gP (β:=Nat×(Nat→Nat)×List D1×CSt) (fun u=>en [(11,boP u.1),(6,.one (.c (.ptr 5 (nx+3) 0 0))),(5,.one (.c (.ptr 3 (nx+2) 0 0))),(4,.one (.c (.ptr 5 (nx+1) 0 0))),(3,.one (.c (.ptr 3 nx 0 0)))])
     (fun u H1 M=>u.1≤3∧COk c u.2.2.2∧bgJ C H1 M u.2.1 u.2.2.2 u.2.2.1∧H1 (nx+1)=some ⟨5,1,[u.2.2.1]⟩∧blD c (PA c i) ([0,1,2].drop u.1) u.2.2.2 (vF c i s)∧ ∀id,C id→id≠nx+1→H1 id=G id) (fun u=>3-u.1) (0,cb,_,OI c i s)
     ⟨noF,_,by repeat' first|exact bo2|refine xqI rfl rfl ?_|refine xqP (by omega) rfl rfl ?_|fail,aK,by dsimp only;omega,ah,blG.frame (by omega) (fun _ _ _=>rfl),w,rfl,f⟩ ?_
    clear blG w f ah;rintro⟨k,n,dq,bp8⟩ bqL E cj ⟨L,B,F,w,t,f⟩ aNB aw;dsimp only at L B F w t f;have boU:=(f nx x0 (by omega)).trans bfZ;have V:=(f (nx+2) bpZ (by omega)).trans f2;have e3:=(f (nx+3) aYM (by omega)).trans bpS;have J:=F;obtain⟨wc,hc,pc,vc,tc,mp,rp,mv,rv,l,g1,g2,g3,g4,g5,bkU,bkV,bp4,bp5,ga,gb⟩:=F.get;subst l;have hB:bQ E [nx,nx+1,nx+2,nx+3]:=AM.apart (by simp) (by simp;omega);simp only[bQ,eZ] at hB;by_cases q:k<3
    ·rw[ap4 q] at t;by_cases hg:i.send.getD k default=true∧(aF bp8 k).queue.length<2∧(aF bp8 k).next<(c.cP.getD k default).length
     case neg=>
      have boT:PA c i bp8 k=none:=by unfold PA;exact if_neg hg
      cases hr:i.send.getD k default with
      |false=>
       repeat' first|apply bn1<;>(simp only[go_sem,boC,boU,w,V,hr,hB];try simp (disch:=omega) only[Iw])|apply bn2 (by omega)|refine⟨by omega,?_⟩|fail
       all_goals exact aw _ _ _ (k+1,n,_,bp8) noF _ (by omega) (by dsimp only;omega) (by repeat' first|exact bo2|refine xqI rfl rfl ?_|refine xqP (by omega) rfl rfl ?_|fail) aK ⟨by dsimp only;omega,B,F.frame (by omega) (fun _ _ _=>rfl),w,t.none boT,f⟩
      |true=>
       have ax:decide ((aF bp8 k).queue.length<2∧(aF bp8 k).next<(c.cP.getD k default).length)=false:=decide_eq_false fun h=>hg ⟨hr,h⟩;repeat' first| (first|apply bn1|refine bhT hb B q (J.ar5 B.pl B.sl (fun id d=>rfl)) ?_)<;>(simp only[go_sem,boC,boU,w,V,hr,ax,hB];try simp (disch:=omega) only[Iw])|apply bn2 (by omega)|refine⟨by omega,?_⟩|fail
       all_goals exact aw _ _ _ (k+1,n,_,bp8) noF _ (by omega) (by dsimp only;omega) (by repeat' first|exact bo2|refine xqI rfl rfl ?_|refine xqP (by omega) rfl rfl ?_|fail) aK ⟨by dsimp only;omega,B,F.frame (by omega) (fun _ _ _=>rfl),w,t.none boT,f⟩
     have boT:PA c i bp8 k=some (.ask k):=(by unfold PA;exact if_pos hg);obtain⟨hr,bm,bn⟩:=hg;have ax:decide ((aF bp8 k).queue.length<2∧(aF bp8 k).next<(c.cP.getD k default).length)=true:=decide_eq_true ⟨bm,bn⟩;obtain⟨p,hp⟩: ∃p,aF bp8 k=p:=⟨_,rfl⟩
     obtain⟨qo,qc,oc,gr,gq,go⟩:=ga k q;rw[hp] at gr gq go bm bn;obtain⟨aj,_⟩:=(B.port k q).next;rw[hp] at aj;have dr:=bu k;have lt:=F.names.lt;have n2:=lt 2 (by omega);have az8:=lt (5+k) (by omega);have az2: ∀x,C x→n 2≠x:=fun x hx he=>F.names.av 2 (by omega) (he▸hx);have aAA: ∀x,C x→n (5+k)≠x:=fun x hx he=>F.names.av (5+k) (by omega) (he▸hx);have bo:bQ E ([2,5+k].map n):=AM.apart (F.names.list (by simp;omega) (by simp;omega)) (fun x hx=>by obtain⟨j,hj,rfl⟩:=CF.1 hx;exact lt j (by simp at hj;omega));simp only[bQ,eZ,List.map] at bo;have ck:=eq_false (az2 _ x0);have cl:=eq_false (az2 _ x1);have cm:=eq_false (az2 _ bpZ);have cn:=eq_false (az2 _ aYM);have cp:=eq_false (aAA _ x0);have cq:=eq_false (aAA _ x1);have cr:=eq_false (aAA _ bpZ);have ct:=eq_false (aAA _ aYM);have cu:=eq_false (az2 _ x0).symm;have cv:=eq_false (az2 _ x1).symm;have cw:=eq_false (az2 _ bpZ).symm;have cx:=eq_false (aAA _ x1).symm;have k1: ∀(G:aA) (b k:Nat),msk (E+b) [k] G (nx+1)=G (nx+1):=fun G b k=>mk1 (by omega);have k2: ∀(G:aA) (b k:Nat),msk (E+b) [k] G (n 2)=G (n 2):=fun G b k=>mk1 (by omega);have k5: ∀(G:aA) (b j:Nat),msk (E+b) [j] G (n (5+k))=G (n (5+k)):=fun G b j=>mk1 (by omega);obtain⟨mq,rq0,blH,blI,aEP,blJ,aEQ,blK⟩:=gq.ex;rw[bqW] at blJ;have cy:List.take p.queue.length (List.drop qo rq0)=p.queue.map aJ:=(by rw[blI,boL (by simp)]);have bp: ∀r,(rp.set k r)[k]?=some r:=fun r=>by rw[bqZ (by omega)]
     repeat' first| (first|apply bn1|refine bhT hb B q (J.ar5 B.pl B.sl (fun id d=>rfl)) ?_)<;>(simp only[go_sem,boC,boU,w,V,hr,ax,g1,gr,blH,cy,bp,k1,k2,k5,bq1,hB,bo,ck,cl,cm,cn,cp,cq,cr,ct,cu,cv,cw,cx];try simp (disch:=omega) only[Iw])|apply bn2 (by omega)| (with_reducible first|refine fun(cap:Nat) (cz:_≤cap)=> ?_|refine fun(ds:_≤cap)=> ?_)|refine⟨by omega,?_⟩|fail
     have hex:(p.queue++[p.next]).map aJ=(p.queue++[p.next]).map aJ:=rfl;obtain⟨s',A⟩: ∃s',s'=aR c bp8 (.ask k):=⟨_,rfl⟩
     have ay:COk c s':=(by rw[A];exact o9 hb B (YH B q boT));have t:=t.next;rw[boT,show atS c bp8 (some (.ask k))=s' from A.symm] at t;have aa:aF s' k= {p with queue:=p.queue++[p.next],next:=p.next+1}:=(by rw[A,bL rfl (by rw[B.pl];omega),if_pos rfl,hp]);have inj:=F.names.inj;refine af0 (K:=aNB) fun W aYL=> ?_;have da:W (E+29)=some ⟨1,cap,(p.queue++[p.next]).map aJ⟩:=(by rw[aYL];simp (disch:=omega) only[aA.aC,aA.bH]);have bqI:W (n 2)=some ⟨4,mp,rp.set k [cI (p.next+1),.osl 1 (E+29) 0 (p.queue.length+1) cap,.osl 3 (n (8+k)) 0 p.out.length oc,cI p.last]⟩:=(by rw[aYL];exact aA.bH);have wf: ∀id,id<E→id≠n 2→id≠n (5+k)→W id=bqL id:=fun id h1 Z h3=>by rw[aYL];simp (disch:=omega) only[aA.aC,aA.jG]
     clear aYL;have blL: ∀id,C id→W id=bqL id:=fun id d=>wf id (by have:=N id d;omega) (fun he=>az2 id d he.symm) (fun he=>aAA id d he.symm);have wk: ∀a,a<19→a≠2→a≠5+k→W (n a)=bqL (n a):=fun a h1 Z h3=>wf _ (lt a h1) (fun he=>Z (inj a 2 h1 (by omega) he)) (fun he=>h3 (inj a (5+k) h1 (by omega) he));obtain⟨g,ab⟩: ∃g,g=put n (5+k) (E+29):=⟨_,rfl⟩
     have O: ∀a,a≠5+k→g a=n a:=fun a h1=>by rw[ab,jE h1]
     have bq:g (5+k)=E+29:=(by rw[ab,t8]);have hN:Names C (E+49) g:=(by rw[ab];exact F.names.put (by omega) (by omega) (fun hn=>by have:=N _ hn;omega));have br:s'.words=bp8.words:=(by rw[A];rfl);have bs:s'.holds=bp8.holds:=(by rw[A];rfl);have bt:s'.told=bp8.told:=(by rw[A];rfl);have bqH:W (nx+1)=some ⟨5,1,[[.osl 1 (g 0) 0 s'.words.length wc,.osl 1 (g 1) 0 s'.holds.length hc,.osl 4 (g 2) 0 3 pc,.osl 3 (g 3) 0 4 vc,.osl 5 (g 4) 0 s'.told.length tc]]⟩:=(by rw[blL _ x1,w,br,bs,bt,O 0 (by omega),O 1 (by omega),O 2 (by omega),O 3 (by omega),O 4 (by omega)]);refine aw _ _ _ (k+1,g,_,s') noF _ (by omega) (by dsimp only;omega) (by repeat' first|exact bo2|refine xqI rfl rfl ?_|refine xqP (by omega) rfl rfl ?_|fail) aK ⟨by dsimp only;omega,ay,⟨⟨⟨wc,hc,pc,vc,tc,rfl,?_,?_,?_,bkU,bkV⟩,⟨mp,rp.set k [cI (p.next+1),.osl 1 (E+29) 0 (p.queue.length+1) cap,.osl 3 (n (8+k)) 0 p.out.length oc,cI p.last],?_,by rw[Y5,bp4],fun j hj=> ?_⟩,⟨mv,rv,?_,bp5,fun j hj=> ?_⟩⟩,hN,fun id d=>by have:=N id d;omega⟩,bqH,t,fun id d D=>(blL id d).trans (f id d D)⟩;·dsimp only;rw[br,O 0 (by omega)];exact g3.frame (wk 0 (by omega) (by omega) (by omega))
     ·dsimp only;rw[bs,O 1 (by omega)];exact g4.frame (wk 1 (by omega) (by omega) (by omega))
     ·dsimp only;rw[bt,O 4 (by omega)];exact g5.frame (wk 4 (by omega) (by omega) (by omega))
     ·dsimp only;rw[O 2 (by omega)];exact bqI
     ·dsimp only;by_cases az:j=k
      ·subst az;refine⟨_,bp _,⟨0,cap,oc,?_,?_,?_⟩⟩;·rw[aa,bq,O (8+j) (by omega)];simp only[af5,t2,List.length_singleton]
       ·rw[aa,bq];exact⟨cap,_,da,rfl,by simp,by simp,by simp;omega,by omega⟩
       ·rw[aa,O (8+j) (by omega)];exact go.frame (wk (8+j) (by omega) (by omega) (by omega))
      ·obtain⟨db,dc,dd,v1,v2,aXN⟩:=ga j hj;have e:aF s' j=aF bp8 j:=(by rw[A,bL rfl (by rw[B.pl];omega),if_neg az]);refine⟨_,by rw[bq0 (Ne.symm az)];exact v1,⟨db,dc,dd,?_,?_,?_⟩⟩;·rw[e,O (5+j) (by omega),O (8+j) (by omega)];rfl
       ·rw[e,O (5+j) (by omega)];exact v2.frame (wk (5+j) (by omega) (by omega) (by omega))
       ·rw[e,O (8+j) (by omega)];exact aXN.frame (wk (8+j) (by omega) (by omega) (by omega))
     ·dsimp only;rw[O 3 (by omega)];exact(wk 3 (by omega) (by omega) (by omega)).trans g2
     ·dsimp only;obtain⟨de,ak,df,dg,v1,v2,aXN⟩:=gb j hj;have e:aL s' j=aL bp8 j:=(by rw[A];rfl);refine⟨_,v1,⟨de,ak,df,dg,?_,?_,?_⟩⟩;·rw[e,O (11+j) (by omega),O (15+j) (by omega)];rfl
      ·rw[e,O (11+j) (by omega)];exact v2.frame (wk (11+j) (by omega) (by omega) (by omega))
      ·rw[e,O (15+j) (by omega)];exact aXN.frame (wk (15+j) (by omega) (by omega) (by omega))
    ·have aq:k=3:=(by omega);subst aq;have t:=blD.nil t;subst t;repeat' first|apply bn1<;>(simp only[go_sem,w,e3,hB,boC])|apply bn3 (by omega)|fail
     refine hQ _ _ _ _ _ (.inr rfl) (LL rfl aA.bH rfl) ?_;refine h _ _ n _ (by omega) ((F.frame (by omega) fun id h1 Z=>aA.aC fun he=>Z (he▸aYM)).sub blE) fun id d=> ?_;rw[aA.aC (by have:=hX id d;omega),f id (blE id d) (by have:=hX id d;omega)];exact ff id (hX id d)
end
end Go.Proofs.YtdkfhdmagdaceaaGreat
namespace Go.AM
theorem bjS {H:aA} {nh n m c:Nat} {R a rows:List (List D1)} {r' r:List D1} (e':a=R++[r']) (e:rows=R++[r]) (l: ∀r∈R,∀x∈r,x.dQ=true∨ ∃n id,x= .osl n id 0 0 0) (hm:c=m) (h:CvL H noF id nh r' r):CvO H noF id nh ⟨n,c,a⟩ ⟨n,m,rows⟩:=by
 subst e';subst e;subst hm;refine⟨rfl,rfl,by simp,fun _ h=>by simp at h,fun i d b=> ?_⟩;simp only[o5] at b ⊢;by_cases hi:i<R.length
 ·rw[if_pos hi] at b ⊢;refine⟨d,b,rfl,fun j x y f g=> ?_⟩;obtain rfl:x=y:=by rw[f] at g;exact Option.some.inj g
  rcases l d (s3 b) x (s3 f) with o|⟨n,k,rfl⟩
  ·exact bB o
  ·exact .VS ..
 ·rw[if_neg hi] at b ⊢;rw[bsH] at b ⊢;split at b;·rename_i p;cases b;exact⟨r,if_pos p,h⟩
  ·cases b
theorem bhO {H:aA} {n id:Nat} (h:H id=some ⟨n,0,[]⟩):tZ H n id 0 0 0 []:=⟨⟨0,[],h,rfl,by simp,rfl,by omega,by omega⟩⟩
def bhX (nx b c:Nat):Nat→Nat:=fun a=>if a=0 then nx+22 else if a=1 then nx+23 else if a=2 then b else if a=3 then c else if a=4 then nx+14 else if a<8 then nx+(a-5) else if a<11 then nx+3+(a-8) else if a<15 then nx+6+(a-11) else nx+10+(a-15)
theorem bjV {X:Nat→Prop} {nx b c nx':Nat} (f: ∀id,X id→id<nx) (m:b=nx+15∨nx+25≤b∧b<nx') (hi:c=nx+16∨nx+25≤c∧c<nx'∧c≠b) (h:nx+25≤nx'):Names X nx' (bhX nx b c):=by
 have key: ∀a,a<19→(a=0∧bhX nx b c a=nx+22)∨(a=1∧bhX nx b c a=nx+23)∨(a=2∧bhX nx b c a=b)∨(a=3∧bhX nx b c a=c)∨(a=4∧bhX nx b c a=nx+14)∨(5≤a∧bhX nx b c a+5=nx+a∧a<15)∨(15≤a∧bhX nx b c a+5=nx+a):=fun a n=>by
  unfold bhX;repeat' split
  all_goals omega
 refine⟨fun j k g d he=> ?_,fun k d=> ?_,fun k d i=> ?_⟩;·have e:=key j g;have l:=key k d;omega
 ·have e:=key k d;omega
 ·have e:=key k d;have l:=f _ i;omega
end Go.AM
namespace Go.Proofs.YtdkfhdmagdaceaaGreat
open Go Go.AM
attribute [local irreducible] aM wv aB vd wvH
section
variable {H : aA} {nx : Nat} {K : D → aA → Nat → Prop}
theorem bjF:cJ Tryz.prog bhA Tryz.f144 bgW bhP:=cJ.mk Tryz.func144 (by kernel_rfl) bi6
def biG (nx k:Nat):List (List D1):=(List.range k).map fun j=>[cI 0,.osl 1 (nx+j) 0 0 0,.osl 3 (nx+3+j) 0 0 0,cI 3]
def bi8 (nx k:Nat):List (List D1):=(List.range k).map fun j=>[.osl 3 (nx+6+j) 0 0 0,.osl 5 (nx+10+j) 0 0 0,cI 2]
theorem bjW {nx k:Nat}:(biG nx k).length=k:=by simp[biG]
theorem bjX {nx k:Nat}:(bi8 nx k).length=k:=by simp[bi8]
theorem bj5 {nx k:Nat}:biG nx (k+1)=biG nx k++[[cI 0,.osl 1 (nx+k) 0 0 0,.osl 3 (nx+3+k) 0 0 0,cI 3]]:=by simp[biG,brP]
theorem bj8 {nx k:Nat}:bi8 nx (k+1)=bi8 nx k++[[.osl 3 (nx+6+k) 0 0 0,.osl 5 (nx+10+k) 0 0 0,cI 2]]:=by simp[bi8,brP]
theorem bjL {X:Nat→Prop} (hX: ∀id,X id→id<nx)
 (h: ∀H' nx' nm cells,nx≤nx'→bgJ X H' nx' nm HY cells→(∀id,id<nx→H' id=H id)→K (boR cells) H' nx'):
 aB Tryz.prog bhA [] H nx K:=by
 refine bjF rfl fun Q hQ=> ?_
 unfold bgW
 refine aM.EJ 1 (aM.EJ 1 (aM.EJ 1 (aM.EJ 3 (aM.EJ 3 (aM.EJ 3 (aM.EJ 3 (aM.EJ 3 (aM.EJ 3 (aM.EJ 3 (aM.EJ 5 (aM.EJ 5 (aM.EJ 5 (aM.EJ 5 (aM.EJ 5 (aM.EJ 4 (aM.EJ 3 ?_))))))))))))))))
 refine aM.aTJ fun bqO e=> ?_
 have c1: ∀k,k<3→bqO (nx+k)=some ⟨1,0,[]⟩:=fun k l=>by
  rw[e];obtain rfl|rfl|rfl:k=0∨k=1∨k=2:=by omega
  all_goals (simp (disch:=omega) only[aA.aC,aA.bH,t1,Nat.reduceAdd,Nat.add_zero])
 have q: ∀k,3≤k→k<10→bqO (nx+k)=some ⟨3,0,[]⟩:=fun k l J=>by
  rw[e];obtain rfl|rfl|rfl|rfl|rfl|rfl|rfl:k=3∨k=4∨k=5∨k=6∨k=7∨k=8∨k=9:=by omega
  all_goals (simp (disch:=omega) only[aA.aC,aA.bH,t1,Nat.reduceAdd,Nat.add_zero])
 have A: ∀k,10≤k→k<15→bqO (nx+k)=some ⟨5,0,[]⟩:=fun k l J=>by
  rw[e];obtain rfl|rfl|rfl|rfl|rfl:k=10∨k=11∨k=12∨k=13∨k=14:=by omega
  all_goals (simp (disch:=omega) only[aA.aC,aA.bH,t1,Nat.reduceAdd,Nat.add_zero])
 have cp:bqO (nx+15)=some ⟨4,0,[]⟩:=by rw[e];simp (disch:=omega) only[aA.aC,aA.bH,t1,Nat.reduceAdd,Nat.add_zero]
 have cv:bqO (nx+16)=some ⟨3,0,[]⟩:=by rw[e];simp (disch:=omega) only[aA.aC,aA.bH,t1,Nat.reduceAdd,Nat.add_zero]
 have cf: ∀id,id<nx→bqO id=H id:=fun id g=>by rw[e];simp (disch:=omega) only[aA.aC]
 clear e
 simp only[t1,Nat.reduceAdd]
 repeat' first| (first|apply bn1|refine aR5 (fun f L=> ?_))<;>(simp only[go_sem,boC])|fail
 have M: ∀k,∀r∈biG nx k,∀x∈r,x.dQ=true∨ ∃n id,x= .osl n id 0 0 0:=fun k r hr x B=>by
  obtain⟨j,_,rfl⟩:=CF.1 hr;simp only[t3,bq7,or_false] at B;rcases B with rfl|rfl|rfl|rfl;·exact .inl rfl
  ·exact .inr ⟨_,_,rfl⟩
  ·exact .inr ⟨_,_,rfl⟩
  ·exact .inl rfl
 have N: ∀k,∀r∈bi8 nx k,∀x∈r,x.dQ=true∨ ∃n id,x= .osl n id 0 0 0:=fun k r hr x B=>by
  obtain⟨j,_,rfl⟩:=CF.1 hr;simp only[t3,bq7,or_false] at B;rcases B with rfl|rfl|rfl;·exact .inr ⟨_,_,rfl⟩
  ·exact .inr ⟨_,_,rfl⟩
  ·exact .inl rfl
 refine aM.tW _ _ noF (fun t=>.inl rfl) (KO (i:=nx+20) (o':=⟨5,1,[[.osl 1 (nx+22) 0 64 64,.osl 1 (nx+23) 0 6 f,.osl 4 (nx+15) 0 0 0,.osl 3 (nx+16) 0 0 0,.osl 5 (nx+14) 0 0 0]]⟩) aA.bH (aP (aH (.osl _ _ _ _ _ (by omega)) (aH (.osl _ _ _ _ _ (by omega)) (aH (.VS ..) (aH (.VS ..) (aH (.VS ..) eP))))))) ?_
 refine aM.TF fun G bqK=> ?_
 have O:G (nx+20)=some ⟨5,1,[[.osl 1 (nx+22) 0 64 64,.osl 1 (nx+23) 0 6 f,.osl 4 (nx+15) 0 0 0,.osl 3 (nx+16) 0 0 0,.osl 5 (nx+14) 0 0 0]]⟩:=by rw[bqK];exact aA.bH
 have P:G (nx+17)=some ⟨5,1,[[D1.osl 0 0 0 0 0,D1.osl 0 0 0 0 0,D1.osl 0 0 0 0 0,D1.osl 0 0 0 0 0,D1.osl 0 0 0 0 0]]⟩:=by rw[bqK];simp (disch:=omega) only[aA.aC,aA.bH]
 have R:G (nx+22)=some ⟨1,64,(List.replicate 64 (0:Int)).map aJ⟩:=by rw[bqK];simp (disch:=omega) only[aA.aC,aA.bH];rfl
 have S:G (nx+23)=some ⟨1,f,(List.replicate 6 (-1:Int)).map aJ⟩:=by rw[bqK];simp (disch:=omega) only[aA.aC,aA.bH];rfl
 have T: ∀id,id<nx+17→G id=bqO id:=fun id g=>by rw[bqK];simp (disch:=omega) only[aA.aC]
 clear bqK
 refine aM.gP (β:=Nat×Nat×Nat) (fun u=>en [(2,boP u.1),(1,.one (.c (.ptr 5 (nx+20) 0 0))),(0,.one (.c (.ptr 5 (nx+17) 0 0)))])
  (fun u H1 bp0=>u.1≤3∧H1 (nx+20)=some ⟨5,1,[[.osl 1 (nx+22) 0 64 64,.osl 1 (nx+23) 0 6 f,.osl 4 u.2.1 0 u.1 u.2.2,.osl 3 (nx+16) 0 0 0,.osl 5 (nx+14) 0 0 0]]⟩∧(∃m,H1 u.2.1=some ⟨4,m,biG nx u.1⟩∧u.1≤u.2.2∧u.2.2≤m)∧(u.2.1=nx+15∨nx+25≤u.2.1∧u.2.1<bp0)∧ ∀id,id<nx+25→id≠nx+15→id≠nx+20→H1 id=G id) (fun u=>3-u.1) (0,nx+15,0)
  ⟨noF,_,by repeat' first|exact bo2|refine xqI rfl rfl ?_|refine xqP (by omega) rfl rfl ?_|fail,aK,by dsimp only;omega,O,⟨0,(T (nx+15) (by omega)).trans cp,m5 _,m5 _⟩,.inl rfl,fun _ _ _ _=>rfl⟩ ?_
 rintro⟨k,b,C⟩ H1 s aa ⟨l,v,⟨m,U,V,Y⟩,Z,w⟩ bpQ ab
 dsimp only at l v U V Y Z
 have hA:bQ s [nx+17,nx+20,b]:=AM.apart (by simp;omega) (by simp;omega)
 simp only[bQ,eZ] at hA
 have D:=bjW (nx:=nx) (k:=k)
 have E:List.take k (biG nx k)=biG nx k:=boL (by omega)
 by_cases ad:k<3
 ·repeat' first|apply bn1<;>(simp only[go_sem,boC,v,U,D,E,hA];try simp (disch:=omega) only[Iw])|apply bn2 (by omega)| (with_reducible first|refine fun(cap:Nat) (F:_≤cap)=> ?_|refine fun(ae:_≤cap)=> ?_)|refine⟨by omega,?_⟩|fail
  refine af0 (K:=bpQ) fun W aYL=> ?_;refine ab _ _ _ (k+1,s+6,cap) noF _ (by omega) (by dsimp only;omega) (by repeat' first|exact bo2|refine xqI rfl rfl ?_|refine xqP (by omega) rfl rfl ?_|fail) (KO (i:=s+6) (o':=⟨4,cap,biG nx (k+1)⟩) (by rw[aYL,aA.aC (by omega)];exact aA.bH) (bjS bj5 rfl (M k) rfl (aH (bB rfl) (aH (.VS ..) (aH (.VS ..) (aH (bB rfl) eP)))))) ⟨by dsimp only;omega,?_,⟨cap,aA.bH,by dsimp only;omega,m5 _⟩,by dsimp only;omega,fun id bfZ bpR y=> ?_⟩;·dsimp only;rw[aA.aC (by omega),aYL,aA.bH]
  ·rw[aA.aC (by omega),aYL,aA.aC y,aA.aC (by omega),aA.aC (by omega),aA.jG (by omega)];exact w id bfZ bpR y
 ·repeat' first|apply bn1<;>(simp only[go_sem])|apply bn3 (by omega)|fail
  have af:k=3:=by omega
  subst af;have ag:H1 (nx+16)=some ⟨3,0,[]⟩:=(w (nx+16) (by omega) (by omega) (by omega)).trans ((T (nx+16) (by omega)).trans cv);clear hA D E
  refine aM.gP (β:=Nat×Nat×Nat) (fun u=>en [(3,boP u.1),(1,.one (.c (.ptr 5 (nx+20) 0 0))),(0,.one (.c (.ptr 5 (nx+17) 0 0)))])
   (fun u H2 n2=>u.1≤4∧H2 (nx+20)=some ⟨5,1,[[.osl 1 (nx+22) 0 64 64,.osl 1 (nx+23) 0 6 f,.osl 4 b 0 3 C,.osl 3 u.2.1 0 u.1 u.2.2,.osl 5 (nx+14) 0 0 0]]⟩∧(∃m,H2 u.2.1=some ⟨3,m,bi8 nx u.1⟩∧u.1≤u.2.2∧u.2.2≤m)∧(u.2.1=nx+16∨nx+25≤u.2.1∧u.2.1<n2∧u.2.1≠b)∧H2 b=some ⟨4,m,biG nx 3⟩∧ ∀id,id<nx+25→id≠nx+15→id≠nx+16→id≠nx+20→H2 id=G id) (fun u=>4-u.1) (0,nx+16,0)
   ⟨noF,_,by repeat' first|exact bo2|refine xqI rfl rfl ?_|refine xqP (by omega) rfl rfl ?_|fail,aK,by dsimp only;omega,v,⟨0,ag,m5 _,m5 _⟩,.inl rfl,U,fun id bfZ bpR _ y=>w id bfZ bpR y⟩ ?_
  rintro⟨k,iv,cw⟩ H2 z ah ⟨l,o,⟨mv,bp,ai,aj⟩,ak,bb,a⟩ bqG al;dsimp only at l o bp ai aj ak;have p:bQ z [nx+17,nx+20,b,iv]:=AM.apart (by simp;omega) (by simp;omega);simp only[bQ,eZ] at p;have an:=bjX (nx:=nx) (k:=k);have ao:List.take k (bi8 nx k)=bi8 nx k:=boL (by omega);by_cases ad:k<4
  ·repeat' first|apply bn1<;>(simp only[go_sem,boC,o,bp,an,ao,p];try simp (disch:=omega) only[Iw])|apply bn2 (by omega)| (with_reducible first|refine fun(cap:Nat) (F:_≤cap)=> ?_|refine fun(ae:_≤cap)=> ?_)|refine⟨by omega,?_⟩|fail
   refine af0 (K:=bqG) fun W aYL=> ?_;refine al _ _ _ (k+1,z+6,cap) noF _ (by omega) (by dsimp only;omega) (by repeat' first|exact bo2|refine xqI rfl rfl ?_|refine xqP (by omega) rfl rfl ?_|fail) (KO (i:=z+6) (o':=⟨3,cap,bi8 nx (k+1)⟩) (by rw[aYL,aA.aC (by omega)];exact aA.bH) (bjS bj8 rfl (N k) rfl (aH (.VS ..) (aH (.VS ..) (aH (bB rfl) eP))))) ⟨by dsimp only;omega,?_,⟨cap,aA.bH,by dsimp only;omega,m5 _⟩,by dsimp only;omega,?_,fun id bfZ bpR bpS y=> ?_⟩;·dsimp only;rw[aA.aC (by omega),aYL,aA.bH]
   ·rw[aA.aC (by omega),aYL,aA.aC (by omega),aA.aC (by omega),aA.aC (by omega),aA.jG (by omega)];exact bb
   ·rw[aA.aC (by omega),aYL,aA.aC y,aA.aC (by omega),aA.aC (by omega),aA.jG (by omega)];exact a id bfZ bpR bpS y
  ·repeat' first|apply bn1<;>(simp only[go_sem])|apply bn3 (by omega)|fail
   have aq:k=4:=(by omega);subst aq;have I:=(a (nx+17) (by omega) (by omega) (by omega) (by omega)).trans P;have ar:=(a (nx+22) (by omega) (by omega) (by omega) (by omega)).trans R;have au:=(a (nx+23) (by omega) (by omega) (by omega) (by omega)).trans S;have d: ∀id,id<nx+15→H2 id=bqO id:=fun id g=>(a id (by omega) (by omega) (by omega) (by omega)).trans (T id (by omega));(try simp only[go_sem,boC,o,I,p,boC]);repeat' first|apply bn1<;>(simp only[go_sem,boC,o,I,p,boC])|fail
   refine hQ _ _ _ _ _ (.inr rfl) (LL rfl aA.bH rfl) ?_;refine h _ _ (bhX nx b iv) _ (by omega) ⟨⟨⟨64,f,C,cw,0,rfl,⟨⟨64,_,by rw[aA.aC (by show nx+22≠nx+17;omega)];exact ar,rfl,by simp[HY],by simp[HY],by simp[HY],by omega⟩⟩,⟨⟨f,_,by rw[aA.aC (by show nx+23≠nx+17;omega)];exact au,rfl,by simp[HY],by simp[HY],by simpa [HY] using L,by omega⟩⟩,bhO (by rw[aA.aC (by show nx+14≠nx+17;omega),d _ (by show nx+14<nx+15;omega)];exact A 14 (by omega) (by omega)),by omega,by omega⟩,⟨m,biG nx 3,by rw[aA.aC (by show b≠nx+17;omega)];exact bb,bjW,fun k l=> ?_⟩,⟨mv,bi8 nx 4,by rw[aA.aC (by show iv≠nx+17;omega)];exact bp,bjX,fun k l=> ?_⟩⟩,bjV hX (by omega) (by omega) (by omega),fun id g=>by have:=hX id g;omega⟩ fun id g=> ?_
   ·rw[MX l];obtain rfl|rfl|rfl:k=0∨k=1∨k=2:=by omega
    all_goals
     refine⟨_,rfl,⟨⟨0,0,0,rfl,bhO ?_,bhO ?_⟩⟩⟩
    ·rw[aA.aC (by show nx+0≠nx+17;omega),d _ (by show nx+0<nx+15;omega)];exact c1 0 (by omega)
    ·rw[aA.aC (by show nx+3+0≠nx+17;omega),d _ (by show nx+3+0<nx+15;omega)];exact q 3 (by omega) (by omega)
    ·rw[aA.aC (by show nx+1≠nx+17;omega),d _ (by show nx+1<nx+15;omega)];exact c1 1 (by omega)
    ·rw[aA.aC (by show nx+3+1≠nx+17;omega),d _ (by show nx+3+1<nx+15;omega)];exact q 4 (by omega) (by omega)
    ·rw[aA.aC (by show nx+2≠nx+17;omega),d _ (by show nx+2<nx+15;omega)];exact c1 2 (by omega)
    ·rw[aA.aC (by show nx+3+2≠nx+17;omega),d _ (by show nx+3+2<nx+15;omega)];exact q 5 (by omega) (by omega)
   ·rw[K4 l];obtain rfl|rfl|rfl|rfl:k=0∨k=1∨k=2∨k=3:=by omega
    all_goals
     refine⟨_,rfl,⟨⟨0,0,0,0,rfl,bhO ?_,bhO ?_⟩⟩⟩
    ·rw[aA.aC (by show nx+6+0≠nx+17;omega),d _ (by show nx+6+0<nx+15;omega)];exact q 6 (by omega) (by omega)
    ·rw[aA.aC (by show nx+10+0≠nx+17;omega),d _ (by show nx+10+0<nx+15;omega)];exact A 10 (by omega) (by omega)
    ·rw[aA.aC (by show nx+6+1≠nx+17;omega),d _ (by show nx+6+1<nx+15;omega)];exact q 7 (by omega) (by omega)
    ·rw[aA.aC (by show nx+10+1≠nx+17;omega),d _ (by show nx+10+1<nx+15;omega)];exact A 11 (by omega) (by omega)
    ·rw[aA.aC (by show nx+6+2≠nx+17;omega),d _ (by show nx+6+2<nx+15;omega)];exact q 8 (by omega) (by omega)
    ·rw[aA.aC (by show nx+10+2≠nx+17;omega),d _ (by show nx+10+2<nx+15;omega)];exact A 12 (by omega) (by omega)
    ·rw[aA.aC (by show nx+6+3≠nx+17;omega),d _ (by show nx+6+3<nx+15;omega)];exact q 9 (by omega) (by omega)
    ·rw[aA.aC (by show nx+10+3≠nx+17;omega),d _ (by show nx+10+3<nx+15;omega)];exact A 13 (by omega) (by omega)
   ·rw[aA.aC (by omega),d id (by omega)];exact cf id g
theorem biZ {n:Nat} {l:List Int} {p i:Nat} (hn:0<n∧n≤90) (hl:kZ l) (O:p+2000<2^50) (hi:i<nx) (T:H i=some (rdO l p))
 (h: ∀H' nx' P (xs:List CIn),nx≤nx'→P≤p+1000→xs.length≤90→(∀x∈xs,vZ x)→H' i=some (rdO l P)→(∀id,id<nx→id≠i→H' id=H id)→K (dS (xs.map eIn)) H' nx'):aB Tryz.prog AE [bkP 2 i,boP n] H nx K:=by
 apply aB.tW
 refine RX rfl fun Q U=> ?_
 unfold yD
 have B:bQ nx [i]:=AM.apart (by simp) (by simp;omega)
 simp only[bQ,eZ] at B
 repeat' first|apply bn1<;>(simp only[go_sem,boC,B])|fail
 refine aX (p:=p) hl (by omega) (by omega) (by omega) (by simp only[aA.set,B,if_false];exact T) fun x V h2=> ?_
 obtain⟨a,C,D⟩: ∃a:Int,[[D1.v (Value.int IntKind.i64 2)],[D1.v (Value.int IntKind.i64 3)],[D1.v (Value.int IntKind.i64 5)],[D1.v (Value.int IntKind.i64 20)]][x.toNat]?=some [cI a]∧0<a∧a<1000:=by
  have:x=0∨x=1∨x=2∨x=3:=by omega
  rcases this with rfl|rfl|rfl|rfl;·exact⟨2,rfl,by omega⟩
  ·exact⟨3,rfl,by omega⟩
  ·exact⟨5,rfl,by omega⟩
  ·exact⟨20,rfl,by omega⟩
 have E:(0≤x)=True:=eq_true V
 have F:(x<4)=True:=eq_true (by omega)
 simp only[go_sem,boC,Nat.reduceAdd,B,C,E,F]
 refine⟨by omega,?_⟩
 try apply bn0
 repeat' first|apply bn1<;>(simp only[go_sem])|fail
 refine aX (p:=p+1) hl (by omega) (by omega) (by omega) aA.bH fun y W X=> ?_
 simp only[go_sem]
 repeat' first|apply bn1<;>(simp only[go_sem])|fail
 refine aM.TF fun bqO b=> ?_
 have ci:bqO i=some (rdO l (p+1+1)):=by rw[b];exact aA.bH
 have c1:bqO (nx+1)=some ⟨3,0,[]⟩:=by rw[b];simp only[aA.set,show ¬nx+1=i by omega,bqU,Nat.reduceEqDiff,if_false,if_true]
 have G: ∀id,id<nx→id≠i→bqO id=H id:=fun id d1 d2=>by rw[b];simp only[aA.set,d2,show ¬id=nx+1 by omega,show ¬id=nx+3 by omega,if_false]
 clear b
 refine aM.gP (β:=Nat×Nat×List CIn×Nat×Nat) (fun u=>en [(7,boP u.1),(6,boP a),(5,.one (.c (.osl 3 u.2.2.2.1 0 u.2.2.1.length u.2.2.2.2))),(0,bkP 2 i)])
  (fun u H1 d=>u.1+u.2.2.1.length≤90∧u.2.1+10*u.1≤p+2+10*y.toNat∧(∀x∈u.2.2.1,vZ x)∧H1 i=some (rdO l u.2.1)∧(∃m,H1 u.2.2.2.1=some ⟨3,m,u.2.2.1.map eIn⟩∧u.2.2.1.length≤u.2.2.2.2∧u.2.2.2.2≤m)∧nx≤u.2.2.2.1∧u.2.2.2.1<d∧ ∀id,id<nx→id≠i→H1 id=H id)
  (fun u=>u.1) (y.toNat,p+1+1,[],nx+1,0) ⟨noF,_,by repeat' first|exact bo2|refine xqI rfl rfl ?_|refine xqP (by omega) rfl rfl ?_|refine xqV rfl (by omega) ?_| (with_reducible apply bo3)| ((with_reducible apply bo0);exact bpA)| ((with_reducible apply bo1);apply bo7)|fail,aK,by dsimp only[List.length_nil];omega,by dsimp only;omega,fun x Y=>by simp at Y,ci,⟨0,c1,m5 _,m5 _⟩,by dsimp only;omega,by dsimp only;omega,G⟩ ?_
 rintro⟨j,q,xs,io,cap⟩ H1 d Z ⟨hj,hq,f,I,⟨m,J,R,S⟩,k,o,r⟩ bpQ L
 dsimp only at hj hq f I J R S k o
 have s:bQ d [i,io]:=AM.apart (by simp;omega) (by simp;omega)
 simp only[bQ,eZ] at s
 by_cases aa:0<j
 ·repeat' first|apply bn1<;>(simp only[go_sem])|apply bn2 (by omega)|fail
  refine YJ hl (by omega) D (by omega) I fun H2 M q2 x ab ad N fi t=> ?_;have bpR:=(t io (by omega) (by omega)).trans J;have w:bQ M [i,io]:=AM.apart (by simp;omega) (by simp;omega);simp only[bQ,eZ] at w;simp only[go_sem,t1,bpR,s,w];refine⟨S,by omega,fun e A ae=> ?_⟩;try apply bn0
  repeat' first|apply bn1<;>(simp only[go_sem];try simp (disch:=omega) only[Iw])|fail
  refine L _ _ _ (j-1,q2,xs++[x],d+7,e) noF _ (by omega) (by dsimp only;omega) (by dsimp only;rw[t2,List.length_singleton];repeat' first|exact bo2|refine xqI rfl rfl ?_|refine xqP (by omega) rfl rfl ?_|refine xqO (by omega) rfl rfl (by rfl) ?_|refine xqV rfl (by omega) ?_|fail) aK ⟨by simp;omega,by dsimp only;omega,fun z g=> ?_,?_,⟨e,aA.bH,by simpa using A,m5 _⟩,by dsimp only;omega,by dsimp only;omega,fun id d1 d2=> ?_⟩
  ·rcases o3.1 g with g|g;·exact f z g
   ·simp at g;subst g;exact N
  ·rw[aA.aC (by omega),aA.aC (by omega),aA.jG (by omega)];exact fi
  ·rw[aA.aC (by omega),aA.aC (by omega),aA.jG (by omega),t id (by omega) d2];exact r id d1 d2
 ·repeat' first|apply bn1<;>(simp only[go_sem])|apply bn3 (by omega)|fail
  refine U _ _ _ _ _ (.inr rfl) rfl ⟨dS (xs.map eIn),_,fun j=>j=io,yP QX J rfl R rfl,PU,h _ _ q xs (by omega) (by omega) (by omega) f ?_ fun id d1 d2=> ?_⟩;·rw[aA.jG (by omega)];exact I
  ·rw[aA.jG (by omega)];exact r id d1 d2
end
end Go.Proofs.YtdkfhdmagdaceaaGreat
