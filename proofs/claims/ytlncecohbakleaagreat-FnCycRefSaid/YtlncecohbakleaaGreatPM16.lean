/- Rules and contracts. -/
import Derived.Test.YtlncecohbakleaaGreatPM13
set_option linter.unusedVariables false
set_option linter.unusedSimpArgs false
set_option maxRecDepth 100000
set_option maxHeartbeats 8000000
namespace Go.Proofs.YtlncecohbakleaaGreat
open Go Go.AM
attribute [local irreducible] aK wv aC vd wvH
section
variable{H:aA}{nx:Nat}{K:ag2}
def L3(c:Cfg)(s:CSt)(u:List Bool)(st:Nat):CSt×List Bool:=match SK c s u st with
 |none=>(s,u)
 |some who=>(bS c s (.adm who st),u.set who true)
theorem T5{X:Nat->Prop}{c:Cfg}{s:CSt}{st g uc um:Nat}{u:List Bool}{nm:Nat->Nat}{cells:List D1}(hb:bG c)(hs:COk c s)(F:st<4)(jo:u.length=3)(m:kW X H nx nm s cells)(n:X g)(ca:H g=some ⟨1,um,u.map gE⟩)(ju:3<=uc)
 (h: ∀H' nx' i C,nx<=nx'->kW X H' nx' i (L3 c s u st).1 C->H' g=some ⟨1,um,(L3 c s u st).2.map gE⟩->(∀id,X id->id≠g->H' id=H id)->K (dA C) H' nx'):
 ag1 D6 [dA (bO c),dA cells,dI st,.one (.c (.osl 1 g 0 3 uc))] H nx K:=by
 refine bW.mk Tryz.func124 (by kernel_rfl) lu rfl fun Q hQ=> ?_
 unfold AY
 have hX:=m.x
 obtain⟨kc,kf⟩:=eM hb
 obtain⟨wc,hc,pc,vc,tc,mp,rp,mv,rv,aa,g1,g2,g3,g4,g5,g6,g7,g8,g9,ga,gb⟩:=m.get
 obtain⟨v,hv⟩: ∃v,aU s st=v:=⟨_,rfl⟩
 obtain⟨po,kk,do_,dc,gs,gp,gd⟩:=gb st F
 rw[hv] at gs gp gd
 have cc:=m
 subst aa
 have lt:=m.names.lt
 have hA:aT nx ([0,1,2,3,4,11+st,15+st].map nm):=AM.apart (m.names.list (by simp;omega) (by simp;omega)) (fun x hx=>by obtain⟨j,hj,rfl⟩:=ac9.1 hx;exact lt j (by simp at hj;omega))
 simp only[aT,bM,List.map] at hA
 have dz:=(hs.slv st F).pl
 rw[hv] at dz
 by_cases kt:v.pipe.length=2
 ·have hlen:((v.pipe.length:Int)=2)=True:=eq_true (by omega);have hn:L3 c s u st=(s,u):=by unfold L3;rw[Ao (by rw[hv];omega)]
  rw[hn] at h;repeat' first|apply vI<;>(simp only[go_sem,nL,g2,gs,hlen,hA])|refine⟨by omega,?_⟩|fail
  refine hQ _ _ _ _ _ (.inr rfl) (jO rfl aA.aJ rfl) ?_;have U:=hX g n;refine h _ _ nm _ (by omega) (m.frame (by omega) fun id f _=>by rw[aA.aB (by omega),aA.aB (by omega),aA.aB (by omega)]) (by rw[aA.aB (by omega),aA.aB (by omega),aA.aB (by omega)];exact ca) fun id f _=> ?_;have:=hX id f;rw[aA.aB (by omega),aA.aB (by omega),aA.aB (by omega)]
 have hlen:((v.pipe.length:Int)=2)=False:=eq_false (by omega)
 repeat' first|apply vI<;>(simp only[go_sem,nL,g2,gs,hlen,hA])|refine⟨by omega,?_⟩|fail
 refine aK.ec fun G hG=> ?_
 have U:=hX g n
 have f0:G nx=some ⟨3,1,[bO c]⟩:=by rw[hG,aA.aB (by omega),aA.aB (by omega)];exact aA.aJ
 have f1:G (nx+1)=some ⟨5,1,[[.osl 1 (nm 0) 0 s.words.length wc,.osl 1 (nm 1) 0 s.holds.length hc,.osl 4 (nm 2) 0 3 pc,.osl 3 (nm 3) 0 4 vc,.osl 5 (nm 4) 0 s.told.length tc]]⟩:=by rw[hG,aA.aB (by omega)];exact aA.aJ
 have f2:G (nx+2)=some ⟨5,1,[[D1.osl 0 0 0 0 0,D1.osl 0 0 0 0 0,D1.osl 0 0 0 0 0,D1.osl 0 0 0 0 0,D1.osl 0 0 0 0 0]]⟩:=by rw[hG];exact aA.aJ
 have I: ∀id,id<nx->G id=H id:=fun id f=>by rw[hG,aA.aB (by omega),aA.aB (by omega),aA.aB (by omega)]
 clear hG
 refine aK.cW (β:=Nat) (fun j=>en [(9,dI j),(8,.one (.c (.ptr 5 (nx+2) 0 0))),(5,.one (.c (.ptr 5 (nx+1) 0 0))),(4,.one (.c (.ptr 3 nx 0 0))),(3,.one (.c (.osl 1 g 0 3 uc))),(2,dI st)])
  (fun j H1 _=>1<=j/\j<=4/\H1=G/\ ∀D,1<=D->D<j->N8 c s u st (I5 s st D)=false) (fun j=>4-j) 1 ⟨noF,_,by repeat' first|exact C1|refine xqI rfl rfl ?_|refine xqP (by omega) rfl rfl ?_|refine xqO (by omega) rfl rfl (by rfl) ?_|fail,aI,by omega,by omega,rfl,fun D y h2=>by omega⟩ ?_
 rintro j H1 d eb ⟨ed,kx,ei,hinv⟩ KL cd
 subst ei
 have ad:H1 (nm 3)=some ⟨3,mv,rv⟩:=(I _ (lt 3 (by omega))).trans g2
 have P:H1 g=some ⟨1,um,u.map gE⟩:=(I _ U).trans ca
 obtain⟨ej,eo⟩:=(hs.slv st F).last
 rw[hv] at ej eo
 have A:N8 c s u st (I5 s st j)=false->∀D,1<=D->D<j+1->N8 c s u st (I5 s st D)=false:=fun hf D y h2=>by
  by_cases ep:D<j;·exact hinv D y ep
  ·have:D=j:=(by omega);subst this;exact hf
 by_cases et:j<=3
 ·obtain⟨who,E⟩: ∃who,who=I5 s st j:=⟨_,rfl⟩
  have cf:who=((v.last+(j:Int))%3).toNat:=by rw[E,<-hv];rfl
  have R:who<3:=by omega
  have J:(v.last+(j:Int)).tmod 3=(who:Int):=by rw[aeJ (by omega)];omega
  rw[<-E] at A
  cases B:u.getD who default with
  |true=>
   have S:(u.map gE)[who]?=some (gE true):=(by rw[adJ,ac8 (by omega),Option.map_some];rw[ae2,ac8 (by omega),Option.getD_some] at B;rw[B]);repeat' first|apply vI<;>(simp only[go_sem,f0,f1,ad,P,gs,J,S,nL];try simp (disch:=omega) only[Iw])|apply vT (by omega)|refine⟨by omega,?_⟩|fail
   exact cd _ _ _ (j+1) noF _ (by omega) (by omega) (by repeat' first|exact C1|refine xqI rfl rfl ?_|refine xqP (by omega) rfl rfl ?_|refine xqO (by omega) rfl rfl (by rfl) ?_|fail) aI ⟨by omega,by omega,rfl,A (by unfold N8;rw[B];rfl)⟩
  |false=>
   have S:(u.map gE)[who]?=some (gE false):=(by rw[adJ,ac8 (by omega),Option.map_some];rw[ae2,ac8 (by omega),Option.getD_some] at B;rw[B]);by_cases L:NU c s who st
   ·have M:decide (NU c s who st)=true:=decide_eq_true L;have hB:aT d [g,nx,nx+1,nx+2]:=AM.apart (by simp;omega) (by simp;omega);simp only[aT,bM] at hB;obtain⟨qo,qc,oc,gr,gq,go⟩:=ga who R;obtain⟨p,hp⟩: ∃p,aN s who=p:=⟨_,rfl⟩
    rw[hp] at gr gq go;have n2:=lt 2 (by omega);have ck:(nm 2=g)=False:=eq_false fun he=>m.names.av 2 (by omega) (he▸n);obtain⟨m1,m2,_,_⟩:=id L;rw[hp] at m1 m2;have cl:=hs.port who R;rw[hp] at cl;have la:=cl.ql;obtain⟨T,cp⟩: ∃T,p.queue.getD 0 default=T:=⟨_,rfl⟩
    obtain⟨mq,rq0,x1,x2,x3,x4,x5,x6⟩:=gq.ex;rw[adE] at x4;have x7:rq0[qo]?=some (aF T):=(by have:(rq0.drop qo)[0]?=some (aF T):=(by rw[x2,adJ,<-cp];simp[List.getD,show 0<p.queue.length by omega]);rwa [adO,Nat.add_zero] at this);have n5:=lt (5+who) (by omega);have eu:H1 (nm (5+who))=some ⟨1,mq,rq0⟩:=(I _ n5).trans x1;have ew:(nm (5+who)=g)=False:=eq_false fun he=>m.names.av (5+who) (by omega) (he▸n);have cq:aT d ([2,3,5+who,8+who,11+st].map nm):=AM.apart (m.names.list (by simp;omega) (by simp;omega)) (fun x hx=>by obtain⟨j,hj,rfl⟩:=ac9.1 hx;have:=lt j (by simp at hj;omega);omega);simp only[aT,bM,List.map] at cq;have fh:H1 (nm 2)=some ⟨4,mp,rp⟩:=(I _ n2).trans g1;have n3:=lt 3 (by omega);have n8:=lt (8+who) (by omega);have fi:=lt (11+st) (by omega);have cr:(nm (8+who)=g)=False:=eq_false fun he=>m.names.av (8+who) (by omega) (he▸n);have ct:(nm (11+st)=g)=False:=eq_false fun he=>m.names.av (11+st) (by omega) (he▸n);have cv:(nm 3=g)=False:=eq_false fun he=>m.names.av 3 (by omega) (he▸n);have k0: ∀(G:aA) (b k:Nat),msk (d+b) [k] G nx=G nx:=fun G b k=>mk1 (by omega);have k1: ∀(G:aA) (b k:Nat),msk (d+b) [k] G (nx+1)=G (nx+1):=fun G b k=>mk1 (by omega);have k2: ∀(G:aA) (b k:Nat),msk (d+b) [k] G (nm 2)=G (nm 2):=fun G b k=>mk1 (by omega);have k3: ∀(G:aA) (b k:Nat),msk (d+b) [k] G (nm 3)=G (nm 3):=fun G b k=>mk1 (by omega);have k5: ∀(G:aA) (b k:Nat),msk (d+b) [k] G (nm (5+who))=G (nm (5+who)):=fun G b k=>mk1 (by omega);have k8: ∀(G:aA) (b k:Nat),msk (d+b) [k] G (nm (8+who))=G (nm (8+who)):=fun G b k=>mk1 (by omega);have fl: ∀(G:aA) (b k:Nat),msk (d+b) [k] G (nm (11+st))=G (nm (11+st)):=fun G b k=>mk1 (by omega);have fm: ∀(G:aA) (b k:Nat),34<=b->msk (d+b) [k] G (d+33)=G (d+33):=fun G b k hb=>mk1 (by omega);obtain⟨mo,ro,o1,o2,o3,o4,o5,o6⟩:=go.ex;rw[adE] at o4;rw[ad6] at o2;have fo:H1 (nm (8+who))=some ⟨3,mo,ro⟩:=(I _ n8).trans o1;obtain⟨me,re,p1,p2,p3,p4,p5,p6⟩:=gp.ex;rw[adE] at p4;have fp:H1 (nm (11+st))=some ⟨3,me,re⟩:=(I _ fi).trans p1;have ai:(qo+(1+(p.queue.length-1))<=rq0.length)=True:=eq_true (by omega);have aj:List.take (p.queue.length-1) (List.drop (qo+1) rq0)=(p.queue.drop 1).map aF:=(by rw[<-aeP,x2,<-aeI,ac6 (by simp)]);have ao:List.take v.pipe.length (List.drop po re)=v.pipe.map eCJ:=(by rw[p2,ac6 (by simp)]);have bb:List.take p.out.length ro=p.out.map eCJ:=(by rw[o2,ac6 (by simp)]);have cw: ∀r,(rp.set who r)[who]?=some r:=fun r=>by rw[adW (by omega)]
    have cx: ∀r,(rv.set st r)[st]?=some r:=fun r=>by rw[adW (by omega)]
    have cy:=hb.2.1;have da:aT nx ([2,3,5+who,8+who,11+st].map nm):=AM.apart (m.names.list (by simp;omega) (by simp;omega)) (fun x hx=>by obtain⟨j,hj,rfl⟩:=ac9.1 hx;exact lt j (by simp at hj;omega));simp only[aT,bM,List.map] at da;repeat' first| (first|apply vI|refine Q4 hb hs R F (cc.UD hs.pl hs.sl (fun id f=>I id f)) ?_)<;>(simp only[go_sem,f0,f1,f2,fh,ad,P,eu,fo,fp,x7,gr,gs,J,S,M,hB,ck,ew,cr,ct,cv,cq,da,k0,k1,k2,k3,k5,k8,fl,fm,ai,aj,ao,bb,cw,cx,List.nil_append,adE,adL,ad0,nL];try simp (disch:=omega) only[Iw])|apply vT (by omega)| (with_reducible first|refine fun(cap:Nat) (fs:_<=cap)=> ?_|refine fun(lb:_<=cap)=> ?_)|refine⟨by omega,?_⟩|fail
    rename_i o df fx q dh gf;have gi:SK c s u st=some who:=(by rw[E];apply te (by rw[hv];omega) ed et hinv;rw[<-E];unfold N8;rw[B,M];rfl);have hn:L3 c s u st=(bS c s (.adm who st),u.set who true):=(by unfold L3;rw[gi]);rw[hn] at h;refine hQ _ _ _ _ _ (.inr rfl) (jO rfl aA.aJ rfl) ?_;obtain⟨s',t⟩: ∃s',s'=bS c s (.adm who st):=⟨_,rfl⟩
    rw[<-t] at h;have V:(aN s who).queue.getD 0 default=T:=(by rw[hp,cp]);have N:aN s' who= {p with queue:=p.queue.drop 1,out:=p.out++[⟨who,T,st⟩]}:=(by rw[t,cJ rfl (by rw[hs.pl];omega),if_pos rfl,V,hp]);have O:aU s' st= {v with pipe:=v.pipe++[⟨who,T,c.lat.getD st default⟩],last:=who}:=(by rw[t,dE rfl (by rw[hs.sl];omega),if_pos rfl,V,hv]);have inj:=m.names.inj;have lk:nm 2≠nm 3:=fun he=>by have:=inj 2 3 (by omega) (by omega) he;omega
    have ma:g≠nm 2:=fun he=>of_eq_false ck he.symm;have mh:g≠nm 3:=fun he=>of_eq_false cv he.symm;have mi:g≠nm (8+who):=fun he=>of_eq_false cr he.symm;have ha:g≠nm (11+st):=fun he=>of_eq_false ct he.symm;generalize Y:aA.set _ (nx+2) _=W;have hd:W (d+47)=some ⟨1,o,(p.queue.drop 1).map aF⟩:=(by rw[<-Y];simp (disch:=omega) only[aA.aB,aA.aJ]);have hg:W (d+61)=some ⟨3,q,(p.out++[(⟨who,T,st⟩:gX)]).map eCJ⟩:=(by rw[<-Y,adF];simp (disch:=omega) only[aA.aB,aA.aJ];rfl);have hh:W (d+83)=some ⟨3,cap,(v.pipe++[(⟨who,T,c.lat.getD st default⟩:gX)]).map eCJ⟩:=(by rw[<-Y,adF];simp (disch:=omega) only[aA.aB,aA.aJ];rfl);have w2:W (nm 2)=some ⟨4,mp,rp.set who [cI p.next,.osl 1 (d+47) 0 (p.queue.length-1) o,.osl 3 (d+61) 0 (p.out.length+1) q,cI p.last]⟩:=(by rw[<-Y];simp (disch:=omega) only[aA.aB,aA.aJ]);have w3:W (nm 3)=some ⟨3,mv,rv.set st [.osl 3 (d+83) 0 (v.pipe.length+1) cap,.osl 5 (nm (15+st)) do_ v.done.length dc,cI who]⟩:=(by rw[<-Y];simp (disch:=omega) only[aA.aB,aA.aJ]);have ho:W g=some ⟨1,um,(u.set who true).map gE⟩:=(by rw[<-Y];simp (disch:=omega) only[aA.aB,aA.aJ];rw[aeH];rfl);have wf: ∀id,id<nx->id≠g->id≠nm 2->id≠nm 3->id≠nm (8+who)->id≠nm (11+st)->W id=H id:=fun id y h2 h3 h4 h5 h6=>by rw[<-Y];simp (disch:=omega) only[aA.aB,aA.cL];exact I id y
    clear Y;have Z: ∀a,a<19->a≠2->a≠3->a≠8+who->a≠11+st->W (nm a)=H (nm a):=fun a y h2 h3 h4 h5=>wf _ (lt a y) (fun he=>m.names.av a y (he▸n)) (fun he=>h2 (inj a 2 y (by omega) he)) (fun he=>h3 (inj a 3 y (by omega) he)) (fun he=>h4 (inj a (8+who) y (by omega) he)) (fun he=>h5 (inj a (11+st) y (by omega) he));obtain⟨i,w⟩: ∃i,i=put (put (put nm (5+who) (d+47)) (8+who) (d+61)) (11+st) (d+83):=⟨_,rfl⟩
    have l: ∀a,a≠5+who->a≠8+who->a≠11+st->i a=nm a:=fun a y h2 h3=>by rw[w,bV h3,bV h2,bV y]
    have dm:i (5+who)=d+47:=(by rw[w,bV (by omega),bV (by omega),fS]);have ds:i (8+who)=d+61:=(by rw[w,bV (by omega),fS]);have ab:i (11+st)=d+83:=(by rw[w,fS]);have bk: ∀z,nx<=z->¬X z:=fun z hz hn=>by have:=hX z hn;omega
    have hN:Names X (d+96) i:=(by rw[w];exact((m.names.put (nx':=d+48) (by omega) (by omega) (bk _ (by omega))).put (nx':=d+62) (by omega) (by omega) (bk _ (by omega))).put (by omega) (by omega) (bk _ (by omega)));have dv:s'.words=s.words:=(by rw[t];rfl);have dx:s'.holds=s.holds:=(by rw[t];rfl);have dy:s'.told=s.told:=(by rw[t];rfl);refine h W _ i _ (by omega) ⟨⟨⟨wc,hc,pc,vc,tc,?_,?_,?_,?_,g6,g7⟩,⟨mp,rp.set who [cI p.next,.osl 1 (d+47) 0 (p.queue.length-1) o,.osl 3 (d+61) 0 (p.out.length+1) q,cI p.last],?_,by rw[adM,g8],fun k hk=> ?_⟩,⟨mv,rv.set st [.osl 3 (d+83) 0 (v.pipe.length+1) cap,.osl 5 (nm (15+st)) do_ v.done.length dc,cI who],?_,by rw[adM,g9],fun k hk=> ?_⟩⟩,hN,fun id f=>by have:=hX id f;omega⟩ ho fun id f hq=> ?_;·rw[I6,dv,dx,dy,l 0 (by omega) (by omega) (by omega),l 1 (by omega) (by omega) (by omega),l 2 (by omega) (by omega) (by omega),l 3 (by omega) (by omega) (by omega),l 4 (by omega) (by omega) (by omega)]
    ·rw[dv,l 0 (by omega) (by omega) (by omega)];exact g3.frame (Z 0 (by omega) (by omega) (by omega) (by omega) (by omega))
    ·rw[dx,l 1 (by omega) (by omega) (by omega)];exact g4.frame (Z 1 (by omega) (by omega) (by omega) (by omega) (by omega))
    ·rw[dy,l 4 (by omega) (by omega) (by omega)];exact g5.frame (Z 4 (by omega) (by omega) (by omega) (by omega) (by omega))
    ·rw[l 2 (by omega) (by omega) (by omega)];exact w2
    ·by_cases bp:k=who
     ·subst bp;refine⟨_,cw _,⟨0,o,q,?_,?_,?_⟩⟩;·rw[N,dm,ds];simp only[WZ,adL,ac7,List.length_singleton]
      ·rw[N,dm];exact⟨o,_,hd,rfl,by simp,by simp,by simp;omega,by omega⟩
      ·rw[N,ds];exact⟨q,_,hg,rfl,by simp,by simp,by simp;omega,by omega⟩
     ·obtain⟨ht,hy,ia,y1,y2,y3⟩:=ga k hk;have e:aN s' k=aN s k:=(by rw[t,cJ rfl (by rw[hs.pl];omega),if_neg bp]);refine⟨_,by rw[adX (Ne.symm bp)];exact y1,⟨ht,hy,ia,?_,?_,?_⟩⟩;·rw[e,l (5+k) (by omega) (by omega) (by omega),l (8+k) (by omega) (by omega) (by omega)];rfl
      ·rw[e,l (5+k) (by omega) (by omega) (by omega)];exact y2.frame (Z (5+k) (by omega) (by omega) (by omega) (by omega) (by omega))
      ·rw[e,l (8+k) (by omega) (by omega) (by omega)];exact y3.frame (Z (8+k) (by omega) (by omega) (by omega) (by omega) (by omega))
    ·rw[l 3 (by omega) (by omega) (by omega)];exact w3
    ·by_cases br:k=st
     ·subst br;refine⟨_,cx _,⟨0,cap,do_,dc,?_,?_,?_⟩⟩;·rw[O,ab,l (15+k) (by omega) (by omega) (by omega)];simp only[lz,ac7,List.length_singleton]
      ·rw[O,ab];exact⟨cap,_,hh,rfl,by simp,by simp,by simp;omega,by omega⟩
      ·rw[O,l (15+k) (by omega) (by omega) (by omega)];exact gd.frame (Z (15+k) (by omega) (by omega) (by omega) (by omega) (by omega))
     ·obtain⟨ih,iv,iw,jh,y1,y2,y3⟩:=gb k hk;have e:aU s' k=aU s k:=(by rw[t,dE rfl (by rw[hs.sl];omega),if_neg br]);refine⟨_,by rw[adX (Ne.symm br)];exact y1,⟨ih,iv,iw,jh,?_,?_,?_⟩⟩;·rw[e,l (11+k) (by omega) (by omega) (by omega),l (15+k) (by omega) (by omega) (by omega)];rfl
      ·rw[e,l (11+k) (by omega) (by omega) (by omega)];exact y2.frame (Z (11+k) (by omega) (by omega) (by omega) (by omega) (by omega))
      ·rw[e,l (15+k) (by omega) (by omega) (by omega)];exact y3.frame (Z (15+k) (by omega) (by omega) (by omega) (by omega) (by omega))
    ·have av:=m.names.av;exact wf id (hX id f) hq (fun he=>av 2 (by omega) (he▸f)) (fun he=>av 3 (by omega) (he▸f)) (fun he=>av (8+who) (by omega) (he▸f)) (fun he=>av (11+st) (by omega) (he▸f))
   ·have M:decide (NU c s who st)=false:=decide_eq_false L;repeat' first| (first|apply vI|refine Q4 hb hs R F (cc.UD hs.pl hs.sl (fun id f=>I id f)) ?_)<;>(simp only[go_sem,f0,f1,ad,P,gs,J,S,M,nL];try simp (disch:=omega) only[Iw])|apply vT (by omega)|refine⟨by omega,?_⟩|fail
    exact cd _ _ _ (j+1) noF _ (by omega) (by omega) (by repeat' first|exact C1|refine xqI rfl rfl ?_|refine xqP (by omega) rfl rfl ?_|refine xqO (by omega) rfl rfl (by rfl) ?_|fail) aI ⟨by omega,by omega,rfl,A (by unfold N8;rw[B,M];rfl)⟩
 ·have hn:L3 c s u st=(s,u):=by unfold L3;rw[ue fun D y h2=>hinv D y (by omega)]
  rw[hn] at h;repeat' first|apply vI<;>(simp only[go_sem,f0,f1,f2,nL])|apply vF (by omega)|fail
  refine hQ _ _ _ _ _ (.inr rfl) (jO rfl aA.aJ rfl) ?_;refine h _ _ nm _ (by omega) (m.frame (by omega) fun id f _=>by rw[aA.aB (by omega)];exact I id f) (by rw[aA.aB (by omega)];exact P) fun id f _=> ?_;have:=hX id f;rw[aA.aB (by omega)];exact I id this
end
end Go.Proofs.YtlncecohbakleaaGreat
namespace Go.AM
def LO(c:Cfg)(f:CSt->Nat->Option Mic)(l:List Nat)(s S:CSt):Prop:=l6 c s (ET c f s l)=S
theorem LO.next{c:Cfg}{f:CSt->Nat->Option Mic}{s S:CSt}{k:Nat}{l:List Nat}(h:LO c f (k::l) s S):LO c f l (TO c s (f s k)) S:=by
 unfold LO at h
 cases a:f s k with
 |none=>rw[PF a] at h;exact h
 |some m=>rw[PH a] at h;exact h
theorem LO.nil{c:Cfg}{f:CSt->Nat->Option Mic}{s S:CSt}(h:LO c f [] s S):s=S:=h
theorem YZ{c:Cfg}{s:CSt}{o:Option Mic}(a:bG c)(hs:COk c s)(h: ∀m,o=some m->UF c s m):COk c (TO c s o):=by
 cases o with
 |none=>exact hs
 |some m=>exact CW a hs (h m rfl)
theorem kW.sub{X b:Nat->Prop}{H:aA}{nx:Nat}{nm:Nat->Nat}{s:CSt}{cells:List D1}(h:kW b H nx nm s cells)(hs: ∀id,X id->b id):kW X H nx nm s cells:=⟨h.rep,⟨h.names.inj,h.names.lt,fun k c d=>h.names.av k c (hs _ d)⟩,fun id a=>h.x id (hs id a)⟩
theorem LO.none{c:Cfg}{f:CSt->Nat->Option Mic}{s S:CSt}{k:Nat}{l:List Nat}(h:LO c f (k::l) s S)(a:f s k=none):LO c f l s S:=by have:=h.next;rwa [a] at this
theorem HE.Yg{c:Cfg}{s S:CSt}{u:List Bool}{k:Nat}{l:List Nat}(hl:HE c (k::l) s u S):HE c l (Go.Proofs.YtlncecohbakleaaGreat.L3 c s u k).1 (Go.Proofs.YtlncecohbakleaaGreat.L3 c s u k).2 S:=by
 unfold Go.Proofs.YtlncecohbakleaaGreat.L3
 cases h:SK c s u k with
 |none=>exact hl.none h
 |some who=>exact hl.some h
theorem uv{H:aA}{nh n m c:Nat}{R a rows:List (List D1)}{r' r:List D1}(e':a=R++[r'])(e:rows=R++[r])(l: ∀r∈R,∀x∈r,x.eW=true\/ ∃n id,x= .osl n id 0 0 0)(hm:c=m)(h:CvL H noF id nh r' r):CvO H noF id nh ⟨n,c,a⟩ ⟨n,m,rows⟩:=by
 subst e';subst e;subst hm;refine⟨rfl,rfl,by simp,fun _ h=>by simp at h,fun i d b=> ?_⟩;simp only[adU] at b ⊢;by_cases hi:i<R.length
 ·rw[if_pos hi] at b ⊢;refine⟨d,b,rfl,fun j x y f g=> ?_⟩;obtain rfl:x=y:=by rw[f] at g;exact Option.some.inj g
  rcases l d (adI b) x (adI f) with o|⟨n,k,rfl⟩
  ·exact bE o
  ·exact .GO ..
 ·rw[if_neg hi] at b ⊢;rw[agU] at b ⊢;split at b;·rename_i p;cases b;exact⟨r,if_pos p,h⟩
  ·cases b
theorem NB{H:aA}{n id:Nat}(h:H id=some ⟨n,0,[]⟩):mI H n id 0 0 0 []:=⟨⟨0,[],h,rfl,by simp,rfl,by omega,by omega⟩⟩
def QM(nx b c:Nat):Nat->Nat:=fun a=>if a=0 then nx+22 else if a=1 then nx+23 else if a=2 then b else if a=3 then c else if a=4 then nx+14 else if a<8 then nx+(a-5) else if a<11 then nx+3+(a-8) else if a<15 then nx+6+(a-11) else nx+10+(a-15)
theorem zk{X:Nat->Prop}{nx b c nx':Nat}(f: ∀id,X id->id<nx)(m:b=nx+15\/nx+25<=b/\b<nx')(hi:c=nx+16\/nx+25<=c/\c<nx'/\c≠b)(h:nx+25<=nx'):Names X nx' (QM nx b c):=by
 have key: ∀a,a<19->(a=0/\QM nx b c a=nx+22)\/(a=1/\QM nx b c a=nx+23)\/(a=2/\QM nx b c a=b)\/(a=3/\QM nx b c a=c)\/(a=4/\QM nx b c a=nx+14)\/(5<=a/\QM nx b c a+5=nx+a/\a<15)\/(15<=a/\QM nx b c a+5=nx+a):=fun a n=>by
  unfold QM;repeat' split
  all_goals omega
 refine⟨fun j k g d he=> ?_,fun k d=> ?_,fun k d i=> ?_⟩;·have e:=key j g;have l:=key k d;omega
 ·have e:=key k d;omega
 ·have e:=key k d;have l:=f _ i;omega
structure acM(k:Nat)(H:aA)(nm:Nat->Nat)(s:CSt)(rows:List (List D1)):Prop where
 len:rows.length=k
 row: ∀j,j<k->∃r,rows[j]?=some r/\zK H (nm (5+j)) (nm (8+j)) (aN s j) r
structure acB(k:Nat)(H:aA)(nm:Nat->Nat)(s:CSt)(rows:List (List D1)):Prop where
 len:rows.length=k
 row: ∀j,j<k->∃r,rows[j]?=some r/\I1 H (nm (11+j)) (nm (15+j)) (aU s j) r
def WX(nx b0 b c:Nat):Nat->Nat:=fun a=>if a=0 then b0 else if a=1 then b else if a=2 then nx else if a=3 then nx+1 else c
theorem Ds{nx n b0 b c:Nat}(g:nx+2<=b)(d:b<b0)(e:b0<c)(h:c<n):Part (fun j=>j<5\/(5<=j/\j<5+0)\/(8<=j/\j<8+0)) nx n (WX nx b0 b c):=by
 have key: ∀a,a<5->(a=0/\WX nx b0 b c a=b0)\/(a=1/\WX nx b0 b c a=b)\/(a=2/\WX nx b0 b c a=nx)\/(a=3/\WX nx b0 b c a=nx+1)\/(a=4/\WX nx b0 b c a=c):=fun a i=>by
  unfold WX;repeat' split
  all_goals omega
 refine⟨fun j k l f he=> ?_,fun k f=> ?_⟩;·have d:=key j (by omega);have e:=key k (by omega);omega
 ·have d:=key k (by omega);omega
end Go.AM
namespace Go.Proofs.YtlncecohbakleaaGreat
open Go Go.AM
attribute [local irreducible] aK wv aC vd wvH
section
variable{H:aA}{nx:Nat}{K:ag2}
theorem Iv{c:Cfg}{s:CSt}{u:List Bool}{st:Nat}(b:bG c)(hs:COk c s)(a:st<4)(hu:u.length=3):COk c (L3 c s u st).1/\(L3 c s u st).2.length=3:=by
 unfold L3
 cases h:SK c s u st with
 |none=>exact⟨hs,hu⟩
 |some who=>exact⟨CW b hs (yz a h),by simpa using hu⟩
theorem di{X:Nat->Prop}{c:Cfg}{i:CIn}{s:CSt}{nm:Nat->Nat}{cells:List D1}(hb:bG c)(hs:COk c s)(hi:fw i)(hR:kW X H nx nm s cells)
 (h: ∀H' nx' g y,nx<=nx'->kW X H' nx' g (L4 c i s) y->(∀id,X id->H' id=H id)->K (dA y) H' nx'):
 ag1 FR [dA (bO c),dA cells,dA (eIn i)] H nx K:=by
 refine bW.mk Tryz.func77 (by kernel_rfl) YL rfl fun Q hQ=> ?_
 unfold tH
 have hX:=hR.x
 obtain⟨kf,eo⟩:=eM hb
 obtain⟨kk,kt,kx⟩:=hi
 obtain⟨C,ad⟩: ∃C:Nat->Prop,C=fun id=>X id\/id=nx\/id=nx+1\/id=nx+2\/id=nx+3:=⟨_,rfl⟩
 have x0:C nx:=by rw[ad];exact .inr (.inl rfl)
 have x1:C (nx+1):=by rw[ad];exact .inr (.inr (.inl rfl))
 have x2:C (nx+2):=by rw[ad];exact .inr (.inr (.inr (.inl rfl)))
 have x3:C (nx+3):=by rw[ad];exact .inr (.inr (.inr (.inr rfl)))
 have xX: ∀id,X id->C id:=fun id h=>by rw[ad];exact .inl h
 have cf: ∀id,C id->id<nx/\X id\/nx<=id/\id<=nx+3:=fun id h=>by
  rw[ad] at h;rcases h with h|h|h|h|h;·exact .inl ⟨hX id h,h⟩
  all_goals exact .inr (by omega)
 have J:=hR
 obtain⟨wc,hc,pc,vc,tc,mp,rp,mv,rv,l,g1,g2,g3,g4,g5,g6,g7,g8,g9,ga,gb⟩:=hR.get
 subst l
 repeat' first|apply vI<;>(simp only[go_sem,nL])|fail
 refine aK.ec fun G hG=> ?_
 have f0:G nx=some ⟨3,1,[bO c]⟩:=by rw[hG,aA.aB (by omega),aA.aB (by omega),aA.aB (by omega)];exact aA.aJ
 have f1:G (nx+1)=some ⟨5,1,[[.osl 1 (nm 0) 0 s.words.length wc,.osl 1 (nm 1) 0 s.holds.length hc,.osl 4 (nm 2) 0 3 pc,.osl 3 (nm 3) 0 4 vc,.osl 5 (nm 4) 0 s.told.length tc]]⟩:=by rw[hG,aA.aB (by omega),aA.aB (by omega)];exact aA.aJ
 have f2:G (nx+2)=some ⟨3,1,[eIn i]⟩:=by rw[hG,aA.aB (by omega)];exact aA.aJ
 have f3:G (nx+3)=some ⟨5,1,[[D1.osl 0 0 0 0 0,D1.osl 0 0 0 0 0,D1.osl 0 0 0 0 0,D1.osl 0 0 0 0 0,D1.osl 0 0 0 0 0]]⟩:=by rw[hG];exact aA.aJ
 have ff: ∀id,id<nx->G id=H id:=fun id d=>by rw[hG,aA.aB (by omega),aA.aB (by omega),aA.aB (by omega),aA.aB (by omega)]
 clear hG
 have ep:kW C G (nx+4) nm s [.osl 1 (nm 0) 0 s.words.length wc,.osl 1 (nm 1) 0 s.holds.length hc,.osl 4 (nm 2) 0 3 pc,.osl 3 (nm 3) 0 4 vc,.osl 5 (nm 4) 0 s.told.length tc]:=
  ⟨J.rep.frame fun k L=>ff _ (J.names.lt k L),⟨J.names.inj,fun k L=>by have:=J.names.lt k L;omega,fun k L hn=>by
   have h1:=J.names.lt k L
   rcases cf _ hn with⟨_,h2⟩|h2
   ·exact J.names.av k L h2
   ·omega⟩,fun id d=>by rcases cf id d with h|h<;>omega⟩
 clear hR J g1 g2 g3 g4 g5 g6 g7 g8 g9 ga gb
 refine aK.cW (β:=Nat×(Nat->Nat)×List D1×CSt) (fun u=>en [(7,dI u.1),(6,.one (.c (.ptr 5 (nx+3) 0 0))),(5,.one (.c (.ptr 3 (nx+2) 0 0))),(4,.one (.c (.ptr 5 (nx+1) 0 0))),(3,.one (.c (.ptr 3 nx 0 0)))])
  (fun u H1 M=>u.1<=3/\COk c u.2.2.2/\kW C H1 M u.2.1 u.2.2.2 u.2.2.1/\H1 (nx+1)=some ⟨5,1,[u.2.2.1]⟩/\LO c (pY i) ([0,1,2].drop u.1) u.2.2.2 (F9 c i s)/\ ∀id,C id->id≠nx+1->H1 id=G id) (fun u=>3-u.1) (0,nm,_,s)
  ⟨noF,_,by repeat' first|exact C1|refine xqI rfl rfl ?_|refine xqP (by omega) rfl rfl ?_|fail,aI,by dsimp only;omega,hs,ep.frame (by omega) (fun _ _ _=>rfl),f1,rfl,fun _ _ _=>rfl⟩ ?_
 rintro⟨k,cw,la,s1⟩ H1 M et ⟨L,U,ai,w,t,f⟩ KL cx
 dsimp only at L U ai w t f
 have Y:=(f nx x0 (by omega)).trans f0
 have Z:=(f (nx+2) x2 (by omega)).trans f2
 have e3:=(f (nx+3) x3 (by omega)).trans f3
 obtain⟨wc,hc,pc,vc,tc,mp,rp,mv,rv,l,g1,g2,g3,g4,g5,g6,g7,g8,g9,ga,gb⟩:=ai.get
 subst l
 have hB:aT M [nx,nx+1,nx+2,nx+3]:=AM.apart (by simp) (by simp;omega)
 simp only[aT,bM] at hB
 by_cases q:k<3
 ·rw[zo q] at t
  cases hr:i.ready.getD k default with
  |false=>
   repeat' first|apply vI<;>(simp only[go_sem,nL,Y,w,Z,hr,hB];try simp (disch:=omega) only[Iw])|apply vT (by omega)|refine⟨by omega,?_⟩|fail
   all_goals exact cx _ _ _ (k+1,cw,_,s1) noF _ (by omega) (by dsimp only;omega) (by repeat' first|exact C1|refine xqI rfl rfl ?_|refine xqP (by omega) rfl rfl ?_|fail) aI ⟨by dsimp only;omega,U,ai.frame (by omega) (fun _ _ _=>rfl),w,t.none (U9 hr),f⟩
  |true=>
   repeat' first|apply vI<;>(simp only[go_sem,nL,Y,w,Z,hr,hB])|apply vT (by omega)|refine⟨by omega,?_⟩|fail
   refine QL (X:=C) hb U q hr (ai.frame (nx':=M+11) (by omega) (fun _ _ _=>rfl)) fun H' nx' g y cy R S=> ?_;have q1:=(S (nx+1) x1).trans w;obtain⟨da,dc,ca,df,dh,_,_,_,_,z,_⟩:=R.get;subst z;have A:=YZ hb U (o:=pY i s1 k) (fun m hm=>JU U q hm);(try simp only[go_sem,nL,q1]);repeat' first|apply vI<;>(simp only[go_sem,nL,q1];try simp (disch:=omega) only[Iw])|fail
   exact cx _ _ _ (k+1,g,_,TO c s1 (pY i s1 k)) noF _ (by omega) (by dsimp only;omega) (by repeat' first|exact C1|refine xqI rfl rfl ?_|refine xqP (by omega) rfl rfl ?_|fail) aI ⟨by dsimp only;omega,A,R.frame (by omega) (fun id h1 h2=>aA.aB fun he=>h2 (he▸x1)),aA.aJ,t.next,fun id d D=>by rw[aA.aB D,S id d];exact f id d D⟩
 ·have ck:k=3:=by omega
  subst ck;have t:=LO.nil t;subst t;repeat' first|apply vI<;>(simp only[go_sem])|apply vF (by omega)|fail
  refine aK.cW (β:=Nat×(Nat->Nat)×List D1×CSt) (fun u=>en [(8,dI u.1),(6,.one (.c (.ptr 5 (nx+3) 0 0))),(5,.one (.c (.ptr 3 (nx+2) 0 0))),(4,.one (.c (.ptr 5 (nx+1) 0 0))),(3,.one (.c (.ptr 3 nx 0 0)))])
   (fun u H1 M=>u.1<=4/\COk c u.2.2.2/\kW C H1 M u.2.1 u.2.2.2 u.2.2.1/\H1 (nx+1)=some ⟨5,1,[u.2.2.1]⟩/\LO c (mQ i) ([0,1,2,3].drop u.1) u.2.2.2 (OA c i s)/\ ∀id,C id->id≠nx+1->H1 id=G id) (fun u=>4-u.1) (0,cw,_,F9 c i s)
   ⟨noF,_,by repeat' first|exact C1|refine xqI rfl rfl ?_|refine xqP (by omega) rfl rfl ?_|fail,aI,by dsimp only;omega,U,ai.frame (by omega) (fun _ _ _=>rfl),w,rfl,f⟩ ?_
  clear ai w f Y Z e3 hB g1 g2 g3 g4 g5 g6 g7 g8 g9 ga gb U;rintro⟨k,T,lb,s2⟩ H2 cc ew ⟨L,V,I,w,t,f⟩ KM dm;dsimp only at L V I w t f;have Y:=(f nx x0 (by omega)).trans f0;have Z:=(f (nx+2) x2 (by omega)).trans f2;obtain⟨wc,hc,pc,vc,tc,mp,rp,mv,rv,l,g1,g2,g3,g4,g5,g6,g7,g8,g9,ga,gb⟩:=I.get;subst l;have hB:aT cc [nx,nx+1,nx+2,nx+3]:=AM.apart (by simp) (by simp;omega);simp only[aT,bM] at hB;by_cases q:k<4
  ·rw[ta q] at t
   cases hr:i.nO.getD k default with
   |true=>
    repeat' first|apply vI<;>(simp only[go_sem,nL,Y,w,Z,hr,hB];try simp (disch:=omega) only[Iw])|apply vT (by omega)|refine⟨by omega,?_⟩|fail
    all_goals exact dm _ _ _ (k+1,T,_,s2) noF _ (by omega) (by dsimp only;omega) (by repeat' first|exact C1|refine xqI rfl rfl ?_|refine xqP (by omega) rfl rfl ?_|fail) aI ⟨by dsimp only;omega,V,I.frame (by omega) (fun _ _ _=>rfl),w,t.none (NW (.inl hr)),f⟩
   |false=>
    repeat' first|apply vI<;>(simp only[go_sem,nL,Y,w,Z,hr,hB])|apply vT (by omega)|refine⟨by omega,?_⟩|fail
    refine HR (X:=C) hb V q hr (I.frame (nx':=cc+13) (by omega) (fun _ _ _=>rfl)) fun H' nx' g y cy R S=> ?_;have q1:=(S (nx+1) x1).trans w;obtain⟨da,dc,ca,df,dh,_,_,_,_,z,_⟩:=R.get;subst z;have A:=YZ hb V (o:=mQ i s2 k) (fun m hm=>I9 V q hm);(try simp only[go_sem,nL,q1]);repeat' first|apply vI<;>(simp only[go_sem,nL,q1];try simp (disch:=omega) only[Iw])|fail
    exact dm _ _ _ (k+1,g,_,TO c s2 (mQ i s2 k)) noF _ (by omega) (by dsimp only;omega) (by repeat' first|exact C1|refine xqI rfl rfl ?_|refine xqP (by omega) rfl rfl ?_|fail) aI ⟨by dsimp only;omega,A,R.frame (by omega) (fun id h1 h2=>aA.aB fun he=>h2 (he▸x1)),aA.aJ,t.next,fun id d D=>by rw[aA.aB D,S id d];exact f id d D⟩
  ·have cl:k=4:=(by omega);subst cl;have t:=LO.nil t;subst t;repeat' first|apply vI<;>(simp only[go_sem])|apply vF (by omega)|fail
   obtain⟨ub,fh⟩: ∃ub,ub=cc+2:=⟨_,rfl⟩
   rw[<-fh];obtain⟨X2,cd⟩: ∃X2:Nat->Prop,X2=fun id=>C id\/id=ub:=⟨_,rfl⟩
   have y1:X2 (nx+1):=(by rw[cd];exact .inl x1);have yu:X2 ub:=(by rw[cd];exact .inr rfl);have yX: ∀id,C id->X2 id:=fun id h=>by rw[cd];exact .inl h
   have ao: ∀id,X2 id->C id\/id=ub:=fun id h=>by rw[cd] at h;exact h
   have N: ∀id,C id->id<nx+4:=fun id h=>by rcases cf id h with h|h<;>omega
   obtain⟨G2,aj⟩: ∃G2,G2=H2.set ub ⟨1,3,[false,false,false].map gE⟩:=⟨_,rfl⟩
   have bb:aA.set H2 ub ⟨1,3,[[D1.v (Value.bool false)],[D1.v (Value.bool false)],[D1.v (Value.bool false)]]⟩=G2:=aj.symm;rw[bb];have j1:G2 (nx+1)=_:=(by rw[aj];exact aA.aB (by omega):G2 (nx+1)=H2 (nx+1)).trans w;have ju:G2 ub=some ⟨1,3,[false,false,false].map gE⟩:=(by rw[aj];exact aA.aJ);have ds: ∀id,C id->id≠nx+1->G2 id=G id:=fun id d D=>by rw[aj,aA.aB (by have:=N id d;omega)];exact f id d D
   have jR:kW X2 G2 (cc+5) T (OA c i s) [.osl 1 (T 0) 0 (OA c i s).words.length wc,.osl 1 (T 1) 0 (OA c i s).holds.length hc,.osl 4 (T 2) 0 3 pc,.osl 3 (T 3) 0 4 vc,.osl 5 (T 4) 0 (OA c i s).told.length tc]:=
    ⟨I.rep.frame fun k L=>by rw[aj];exact aA.aB (by have:=I.names.lt k L;omega),⟨I.names.inj,fun k L=>by have:=I.names.lt k L;omega,fun k L hn=>by
     rcases ao _ hn with h|h
     ·exact I.names.av k L h
     ·have:=I.names.lt k L;omega⟩,fun id d=>by
     rcases ao id d with h|h
     ·have:=N id h;omega
     ·omega⟩
   clear I w f Y Z hB g1 g2 g3 g4 g5 g6 g7 g8 g9 ga gb aj bb
   refine aK.cW (β:=Nat×(Nat->Nat)×List D1×CSt×List Bool) (fun u=>en [(10,dI u.1),(9,.one (.c (.osl 1 ub 0 3 3))),(6,.one (.c (.ptr 5 (nx+3) 0 0))),(5,.one (.c (.ptr 3 (nx+2) 0 0))),(4,.one (.c (.ptr 5 (nx+1) 0 0))),(3,.one (.c (.ptr 3 nx 0 0)))])
    (fun u H1 M=>u.1<=4/\COk c u.2.2.2.1/\u.2.2.2.2.length=3/\kW X2 H1 M u.2.1 u.2.2.2.1 u.2.2.1/\H1 (nx+1)=some ⟨5,1,[u.2.2.1]⟩/\H1 ub=some ⟨1,3,u.2.2.2.2.map gE⟩/\HE c ([0,1,2,3].drop u.1) u.2.2.2.1 u.2.2.2.2 (KX c i s)/\ ∀id,C id->id≠nx+1->H1 id=G id) (fun u=>4-u.1) (0,T,_,OA c i s,[false,false,false])
    ⟨noF,_,by repeat' first|exact C1|refine xqI rfl rfl ?_|refine xqP (by omega) rfl rfl ?_|refine xqO (by omega) rfl rfl (by rfl) ?_|fail,aI,by dsimp only;omega,V,rfl,jR.frame (by omega) (fun _ _ _=>rfl),j1,ju,rfl,ds⟩ ?_
   clear jR j1 ju ds V;rintro⟨k,fi,lk,s3,u3⟩ H3 fl fm ⟨L,bk,cp,bp,w,eu,t,f⟩ KN fo;dsimp only at L bk cp bp w eu t f;have Y:=(f nx x0 (by omega)).trans f0;have Z:=(f (nx+2) x2 (by omega)).trans f2;obtain⟨wc,hc,pc,vc,tc,mp,rp,mv,rv,l,g1,g2,g3,g4,g5,g6,g7,g8,g9,ga,gb⟩:=bp.get;subst l;have hB:aT fl [nx,nx+1,nx+2,nx+3]:=AM.apart (by simp) (by simp;omega);simp only[aT,bM] at hB;by_cases q:k<4
   ·rw[ta q] at t;repeat' first|apply vI<;>(simp only[go_sem,nL,Y,w,Z,hB])|apply vT (by omega)|fail
    refine T5 (X:=X2) (um:=3) hb bk q cp (bp.frame (by omega) (fun _ _ _=>rfl)) yu eu (by omega) fun H' nx' g y cy R fp S=> ?_;have q1:=(S (nx+1) y1 (by omega)).trans w;obtain⟨da,dc,ca,df,dh,_,_,_,_,z,_⟩:=R.get;subst z;obtain⟨A,fs⟩:=Iv (u:=u3) hb bk q cp;(try simp only[go_sem,nL,q1]);repeat' first|apply vI<;>(simp only[go_sem,nL,q1];try simp (disch:=omega) only[Iw])|fail
    exact fo _ _ _ (k+1,g,_,(L3 c s3 u3 k).1,(L3 c s3 u3 k).2) noF _ (by omega) (by dsimp only;omega) (by repeat' first|exact C1|refine xqI rfl rfl ?_|refine xqP (by omega) rfl rfl ?_|refine xqO (by omega) rfl rfl (by rfl) ?_|fail) aI ⟨by dsimp only;omega,A,fs,R.frame (by omega) (fun id h1 h2=>aA.aB fun he=>h2 (he▸y1)),aA.aJ,by rw[aA.aB (by omega)];exact fp,t.Yg,fun id d D=>by rw[aA.aB D,S id (yX id d) (by have:=N id d;omega)];exact f id d D⟩
   ·have cl:k=4:=(by omega);subst cl;have t:s3=KX c i s:=t;subst t;repeat' first|apply vI<;>(simp only[go_sem])|apply vF (by omega)|fail
    have jR:=bp.sub yX;clear bp Y Z hB g1 g2 g3 g4 g5 g6 g7 g8 g9 ga gb eu
    refine aK.cW (β:=Nat×(Nat->Nat)×List D1×CSt) (fun u=>en [(11,dI u.1),(6,.one (.c (.ptr 5 (nx+3) 0 0))),(5,.one (.c (.ptr 3 (nx+2) 0 0))),(4,.one (.c (.ptr 5 (nx+1) 0 0))),(3,.one (.c (.ptr 3 nx 0 0)))])
     (fun u H1 M=>u.1<=3/\COk c u.2.2.2/\kW C H1 M u.2.1 u.2.2.2 u.2.2.1/\H1 (nx+1)=some ⟨5,1,[u.2.2.1]⟩/\LO c (NH c i) ([0,1,2].drop u.1) u.2.2.2 (L4 c i s)/\ ∀id,C id->id≠nx+1->H1 id=G id) (fun u=>3-u.1) (0,fi,_,KX c i s)
     ⟨noF,_,by repeat' first|exact C1|refine xqI rfl rfl ?_|refine xqP (by omega) rfl rfl ?_|fail,aI,by dsimp only;omega,bk,jR.frame (by omega) (fun _ _ _=>rfl),w,rfl,f⟩ ?_
    clear jR w f bk;rintro⟨k,n,ma,P⟩ H4 E fx ⟨L,B,F,w,t,f⟩ KO cq;dsimp only at L B F w t f;have Y:=(f nx x0 (by omega)).trans f0;have Z:=(f (nx+2) x2 (by omega)).trans f2;have e3:=(f (nx+3) x3 (by omega)).trans f3;have J:=F;obtain⟨wc,hc,pc,vc,tc,mp,rp,mv,rv,l,g1,g2,g3,g4,g5,g6,g7,g8,g9,ga,gb⟩:=F.get;subst l;have hB:aT E [nx,nx+1,nx+2,nx+3]:=AM.apart (by simp) (by simp;omega);simp only[aT,bM] at hB;by_cases q:k<3
    ·rw[zo q] at t;by_cases hg:i.send.getD k default=true/\(aN P k).queue.length<2/\(aN P k).next<(c.cH.getD k default).length
     case neg=>
      have hO:NH c i P k=none:=by unfold NH;exact if_neg hg
      cases hr:i.send.getD k default with
      |false=>
       repeat' first|apply vI<;>(simp only[go_sem,nL,Y,w,Z,hr,hB];try simp (disch:=omega) only[Iw])|apply vT (by omega)|refine⟨by omega,?_⟩|fail
       all_goals exact cq _ _ _ (k+1,n,_,P) noF _ (by omega) (by dsimp only;omega) (by repeat' first|exact C1|refine xqI rfl rfl ?_|refine xqP (by omega) rfl rfl ?_|fail) aI ⟨by dsimp only;omega,B,F.frame (by omega) (fun _ _ _=>rfl),w,t.none hO,f⟩
      |true=>
       have cr:decide ((aN P k).queue.length<2/\(aN P k).next<(c.cH.getD k default).length)=false:=decide_eq_false fun h=>hg ⟨hr,h⟩;repeat' first| (first|apply vI|refine wK hb B q (J.UD B.pl B.sl (fun id d=>rfl)) ?_)<;>(simp only[go_sem,nL,Y,w,Z,hr,cr,hB];try simp (disch:=omega) only[Iw])|apply vT (by omega)|refine⟨by omega,?_⟩|fail
       all_goals exact cq _ _ _ (k+1,n,_,P) noF _ (by omega) (by dsimp only;omega) (by repeat' first|exact C1|refine xqI rfl rfl ?_|refine xqP (by omega) rfl rfl ?_|fail) aI ⟨by dsimp only;omega,B,F.frame (by omega) (fun _ _ _=>rfl),w,t.none hO,f⟩
     have hO:NH c i P k=some (.ask k):=(by unfold NH;exact if_pos hg);obtain⟨hr,dv,dx⟩:=hg;have cr:decide ((aN P k).queue.length<2/\(aN P k).next<(c.cH.getD k default).length)=true:=decide_eq_true ⟨dv,dx⟩;obtain⟨p,hp⟩: ∃p,aN P k=p:=⟨_,rfl⟩
     obtain⟨qo,qc,oc,gr,gq,go⟩:=ga k q;rw[hp] at gr gq go dv dx;obtain⟨br,_⟩:=(B.port k q).next;rw[hp] at br;have me:=eo k;have lt:=F.names.lt;have n2:=lt 2 (by omega);have n5:=lt (5+k) (by omega);have a2: ∀x,C x->n 2≠x:=fun x hx he=>F.names.av 2 (by omega) (he▸hx);have a5: ∀x,C x->n (5+k)≠x:=fun x hx he=>F.names.av (5+k) (by omega) (he▸hx);have dy:aT E ([2,5+k].map n):=AM.apart (F.names.list (by simp;omega) (by simp;omega)) (fun x hx=>by obtain⟨j,hj,rfl⟩:=ac9.1 hx;exact lt j (by simp at hj;omega));simp only[aT,bM,List.map] at dy;have gd:=eq_false (a2 _ x0);have gf:=eq_false (a2 _ x1);have gi:=eq_false (a2 _ x2);have gp:=eq_false (a2 _ x3);have ha:=eq_false (a5 _ x0);have hd:=eq_false (a5 _ x1);have hf:=eq_false (a5 _ x2);have hh:=eq_false (a5 _ x3);have ho:=eq_false (a2 _ x0).symm;have hq:=eq_false (a2 _ x1).symm;have ht:=eq_false (a2 _ x2).symm;have hv:=eq_false (a5 _ x1).symm;have k1: ∀(G:aA) (b k:Nat),msk (E+b) [k] G (nx+1)=G (nx+1):=fun G b k=>mk1 (by omega);have k2: ∀(G:aA) (b k:Nat),msk (E+b) [k] G (n 2)=G (n 2):=fun G b k=>mk1 (by omega);have k5: ∀(G:aA) (b j:Nat),msk (E+b) [j] G (n (5+k))=G (n (5+k)):=fun G b j=>mk1 (by omega);obtain⟨mq,rq0,z1,z2,z3,z4,z5,z6⟩:=gq.ex;rw[adE] at z4;have hy:List.take p.queue.length (List.drop qo rq0)=p.queue.map aF:=(by rw[z2,ac6 (by simp)]);have dz: ∀r,(rp.set k r)[k]?=some r:=fun r=>by rw[adW (by omega)]
     repeat' first| (first|apply vI|refine wK hb B q (J.UD B.pl B.sl (fun id d=>rfl)) ?_)<;>(simp only[go_sem,nL,Y,w,Z,hr,cr,g1,gr,z1,hy,dz,k1,k2,k5,ad0,hB,dy,gd,gf,gi,gp,ha,hd,hf,hh,ho,hq,ht,hv];try simp (disch:=omega) only[Iw])|apply vT (by omega)| (with_reducible first|refine fun(cap:Nat) (hz:_<=cap)=> ?_|refine fun(mh:_<=cap)=> ?_)|refine⟨by omega,?_⟩|fail
     have hex:(p.queue++[p.next]).map aF=(p.queue++[p.next]).map aF:=rfl;obtain⟨s',A⟩: ∃s',s'=bS c P (.ask k):=⟨_,rfl⟩
     have ct:COk c s':=(by rw[A];exact CW hb B (vr B q hO));have t:=t.next;rw[hO,show TO c P (some (.ask k))=s' from A.symm] at t;have aa:aN s' k= {p with queue:=p.queue++[p.next],next:=p.next+1}:=(by rw[A,cJ rfl (by rw[B.pl];omega),if_pos rfl,hp]);have inj:=F.names.inj;refine TD (K:=KO) fun W hW=> ?_;have ia:W (E+29)=some ⟨1,cap,(p.queue++[p.next]).map aF⟩:=(by rw[hW];simp (disch:=omega) only[aA.aB,aA.aJ]);have w2:W (n 2)=some ⟨4,mp,rp.set k [cI (p.next+1),.osl 1 (E+29) 0 (p.queue.length+1) cap,.osl 3 (n (8+k)) 0 p.out.length oc,cI p.last]⟩:=(by rw[hW];exact aA.aJ);have wf: ∀id,id<E->id≠n 2->id≠n (5+k)->W id=H4 id:=fun id h1 h2 h3=>by rw[hW];simp (disch:=omega) only[aA.aB,aA.cL]
     clear hW;have wX: ∀id,C id->W id=H4 id:=fun id d=>wf id (by have:=N id d;omega) (fun he=>a2 id d he.symm) (fun he=>a5 id d he.symm);have wk: ∀a,a<19->a≠2->a≠5+k->W (n a)=H4 (n a):=fun a h1 h2 h3=>wf _ (lt a h1) (fun he=>h2 (inj a 2 h1 (by omega) he)) (fun he=>h3 (inj a (5+k) h1 (by omega) he));obtain⟨g,ab⟩: ∃g,g=put n (5+k) (E+29):=⟨_,rfl⟩
     have O: ∀a,a≠5+k->g a=n a:=fun a h1=>by rw[ab,bV h1]
     have eb:g (5+k)=E+29:=(by rw[ab,fS]);have hN:Names C (E+49) g:=(by rw[ab];exact F.names.put (by omega) (by omega) (fun hn=>by have:=N _ hn;omega));have ed:s'.words=P.words:=(by rw[A];rfl);have ei:s'.holds=P.holds:=(by rw[A];rfl);have ej:s'.told=P.told:=(by rw[A];rfl);have w1:W (nx+1)=some ⟨5,1,[[.osl 1 (g 0) 0 s'.words.length wc,.osl 1 (g 1) 0 s'.holds.length hc,.osl 4 (g 2) 0 3 pc,.osl 3 (g 3) 0 4 vc,.osl 5 (g 4) 0 s'.told.length tc]]⟩:=(by rw[wX _ x1,w,ed,ei,ej,O 0 (by omega),O 1 (by omega),O 2 (by omega),O 3 (by omega),O 4 (by omega)]);refine cq _ _ _ (k+1,g,_,s') noF _ (by omega) (by dsimp only;omega) (by repeat' first|exact C1|refine xqI rfl rfl ?_|refine xqP (by omega) rfl rfl ?_|fail) aI ⟨by dsimp only;omega,ct,⟨⟨⟨wc,hc,pc,vc,tc,rfl,?_,?_,?_,g6,g7⟩,⟨mp,rp.set k [cI (p.next+1),.osl 1 (E+29) 0 (p.queue.length+1) cap,.osl 3 (n (8+k)) 0 p.out.length oc,cI p.last],?_,by rw[adM,g8],fun j hj=> ?_⟩,⟨mv,rv,?_,g9,fun j hj=> ?_⟩⟩,hN,fun id d=>by have:=N id d;omega⟩,w1,t,fun id d D=>(wX id d).trans (f id d D)⟩;·dsimp only;rw[ed,O 0 (by omega)];exact g3.frame (wk 0 (by omega) (by omega) (by omega))
     ·dsimp only;rw[ei,O 1 (by omega)];exact g4.frame (wk 1 (by omega) (by omega) (by omega))
     ·dsimp only;rw[ej,O 4 (by omega)];exact g5.frame (wk 4 (by omega) (by omega) (by omega))
     ·dsimp only;rw[O 2 (by omega)];exact w2
     ·dsimp only;by_cases cv:j=k
      ·subst cv;refine⟨_,dz _,⟨0,cap,oc,?_,?_,?_⟩⟩;·rw[aa,eb,O (8+j) (by omega)];simp only[WZ,ac7,List.length_singleton]
       ·rw[aa,eb];exact⟨cap,_,ia,rfl,by simp,by simp,by simp;omega,by omega⟩
       ·rw[aa,O (8+j) (by omega)];exact go.frame (wk (8+j) (by omega) (by omega) (by omega))
      ·obtain⟨ih,iv,iw,v1,v2,v3⟩:=ga j hj;have e:aN s' j=aN P j:=(by rw[A,cJ rfl (by rw[B.pl];omega),if_neg cv]);refine⟨_,by rw[adX (Ne.symm cv)];exact v1,⟨ih,iv,iw,?_,?_,?_⟩⟩;·rw[e,O (5+j) (by omega),O (8+j) (by omega)];rfl
       ·rw[e,O (5+j) (by omega)];exact v2.frame (wk (5+j) (by omega) (by omega) (by omega))
       ·rw[e,O (8+j) (by omega)];exact v3.frame (wk (8+j) (by omega) (by omega) (by omega))
     ·dsimp only;rw[O 3 (by omega)];exact(wk 3 (by omega) (by omega) (by omega)).trans g2
     ·dsimp only;obtain⟨jh,ca,jo,kc,v1,v2,v3⟩:=gb j hj;have e:aU s' j=aU P j:=(by rw[A];rfl);refine⟨_,v1,⟨jh,ca,jo,kc,?_,?_,?_⟩⟩;·rw[e,O (11+j) (by omega),O (15+j) (by omega)];rfl
      ·rw[e,O (11+j) (by omega)];exact v2.frame (wk (11+j) (by omega) (by omega) (by omega))
      ·rw[e,O (15+j) (by omega)];exact v3.frame (wk (15+j) (by omega) (by omega) (by omega))
    ·have ck:k=3:=(by omega);subst ck;have t:=LO.nil t;subst t;repeat' first|apply vI<;>(simp only[go_sem,w,e3,hB,nL])|apply vF (by omega)|fail
     refine hQ _ _ _ _ _ (.inr rfl) (jO rfl aA.aJ rfl) ?_;refine h _ _ n _ (by omega) ((F.frame (by omega) fun id h1 h2=>aA.aB fun he=>h2 (he▸x3)).sub xX) fun id d=> ?_;rw[aA.aB (by have:=hX id d;omega),f id (xX id d) (by have:=hX id d;omega)];exact ff id (hX id d)
def X8(nx k:Nat):List (List D1):=(List.range k).map fun j=>[cI 0,.osl 1 (nx+j) 0 0 0,.osl 3 (nx+3+j) 0 0 0,cI 3]
def Z6(nx k:Nat):List (List D1):=(List.range k).map fun j=>[.osl 3 (nx+6+j) 0 0 0,.osl 5 (nx+10+j) 0 0 0,cI 2]
theorem ze{nx k:Nat}:(X8 nx k).length=k:=by simp[X8]
theorem Bw{nx k:Nat}:(Z6 nx k).length=k:=by simp[Z6]
theorem Jy{nx k:Nat}:X8 nx (k+1)=X8 nx k++[[cI 0,.osl 1 (nx+k) 0 0 0,.osl 3 (nx+3+k) 0 0 0,cI 3]]:=by simp[X8,ae4]
theorem Lb{nx k:Nat}:Z6 nx (k+1)=Z6 nx k++[[.osl 3 (nx+6+k) 0 0 0,.osl 5 (nx+10+k) 0 0 0,cI 2]]:=by simp[Z6,ae4]
theorem pg{X:Nat->Prop}(hX: ∀id,X id->id<nx)
 (h: ∀H' nx' nm cells,nx<=nx'->kW X H' nx' nm SJ cells->(∀id,id<nx->H' id=H id)->K (dA cells) H' nx'):
 ag1 HQ [] H nx K:=by
 refine bW.mk Tryz.func75 (by kernel_rfl) fz rfl fun Q hQ=> ?_
 unfold wZ
 refine aK.oB 1 (aK.oB 1 (aK.oB 1 (aK.oB 3 (aK.oB 3 (aK.oB 3 (aK.oB 3 (aK.oB 3 (aK.oB 3 (aK.oB 3 (aK.oB 5 (aK.oB 5 (aK.oB 5 (aK.oB 5 (aK.oB 5 (aK.oB 4 (aK.oB 3 ?_))))))))))))))))
 refine aK.ec fun q e=> ?_
 have c1: ∀k,k<3->q (nx+k)=some ⟨1,0,[]⟩:=fun k l=>by
  rw[e];obtain rfl|rfl|rfl:k=0\/k=1\/k=2:=by omega
  all_goals (simp (disch:=omega) only[aA.aB,aA.aJ,ac2,Nat.reduceAdd,Nat.add_zero])
 have c3: ∀k,3<=k->k<10->q (nx+k)=some ⟨3,0,[]⟩:=fun k l N=>by
  rw[e];obtain rfl|rfl|rfl|rfl|rfl|rfl|rfl:k=3\/k=4\/k=5\/k=6\/k=7\/k=8\/k=9:=by omega
  all_goals (simp (disch:=omega) only[aA.aB,aA.aJ,ac2,Nat.reduceAdd,Nat.add_zero])
 have c5: ∀k,10<=k->k<15->q (nx+k)=some ⟨5,0,[]⟩:=fun k l N=>by
  rw[e];obtain rfl|rfl|rfl|rfl|rfl:k=10\/k=11\/k=12\/k=13\/k=14:=by omega
  all_goals (simp (disch:=omega) only[aA.aB,aA.aJ,ac2,Nat.reduceAdd,Nat.add_zero])
 have cp:q (nx+15)=some ⟨4,0,[]⟩:=by rw[e];simp (disch:=omega) only[aA.aB,aA.aJ,ac2,Nat.reduceAdd,Nat.add_zero]
 have cv:q (nx+16)=some ⟨3,0,[]⟩:=by rw[e];simp (disch:=omega) only[aA.aB,aA.aJ,ac2,Nat.reduceAdd,Nat.add_zero]
 have cf: ∀id,id<nx->q id=H id:=fun id g=>by rw[e];simp (disch:=omega) only[aA.aB]
 clear e
 simp only[ac2,Nat.reduceAdd]
 repeat' first| (first|apply vI|refine QT (fun f O=> ?_))<;>(simp only[go_sem,nL])|fail
 have P: ∀k,∀r∈X8 nx k,∀x∈r,x.eW=true\/ ∃n id,x= .osl n id 0 0 0:=fun k r hr x C=>by
  obtain⟨j,_,rfl⟩:=ac9.1 hr;simp only[adA,ad4,or_false] at C;rcases C with rfl|rfl|rfl|rfl;·exact .inl rfl
  ·exact .inr ⟨_,_,rfl⟩
  ·exact .inr ⟨_,_,rfl⟩
  ·exact .inl rfl
 have R: ∀k,∀r∈Z6 nx k,∀x∈r,x.eW=true\/ ∃n id,x= .osl n id 0 0 0:=fun k r hr x C=>by
  obtain⟨j,_,rfl⟩:=ac9.1 hr;simp only[adA,ad4,or_false] at C;rcases C with rfl|rfl|rfl;·exact .inr ⟨_,_,rfl⟩
  ·exact .inr ⟨_,_,rfl⟩
  ·exact .inl rfl
 refine aK.qC _ _ noF (fun t=>.inl rfl) (HF (i:=nx+20) (o':=⟨5,1,[[.osl 1 (nx+22) 0 64 64,.osl 1 (nx+23) 0 6 f,.osl 4 (nx+15) 0 0 0,.osl 3 (nx+16) 0 0 0,.osl 5 (nx+14) 0 0 0]]⟩) aA.aJ (aW (aH (.osl _ _ _ _ _ (by omega)) (aH (.osl _ _ _ _ _ (by omega)) (aH (.GO ..) (aH (.GO ..) (aH (.GO ..) cG))))))) ?_
 refine aK.QK fun G B=> ?_
 have S:G (nx+20)=some ⟨5,1,[[.osl 1 (nx+22) 0 64 64,.osl 1 (nx+23) 0 6 f,.osl 4 (nx+15) 0 0 0,.osl 3 (nx+16) 0 0 0,.osl 5 (nx+14) 0 0 0]]⟩:=by rw[B];exact aA.aJ
 have T:G (nx+17)=some ⟨5,1,[[D1.osl 0 0 0 0 0,D1.osl 0 0 0 0 0,D1.osl 0 0 0 0 0,D1.osl 0 0 0 0 0,D1.osl 0 0 0 0 0]]⟩:=by rw[B];simp (disch:=omega) only[aA.aB,aA.aJ]
 have U:G (nx+22)=some ⟨1,64,(List.replicate 64 (0:Int)).map aF⟩:=by rw[B];simp (disch:=omega) only[aA.aB,aA.aJ];rfl
 have V:G (nx+23)=some ⟨1,f,(List.replicate 6 (-1:Int)).map aF⟩:=by rw[B];simp (disch:=omega) only[aA.aB,aA.aJ];rfl
 have Y: ∀id,id<nx+17->G id=q id:=fun id g=>by rw[B];simp (disch:=omega) only[aA.aB]
 clear B
 refine aK.cW (β:=Nat×Nat×Nat) (fun u=>en [(2,dI u.1),(1,.one (.c (.ptr 5 (nx+20) 0 0))),(0,.one (.c (.ptr 5 (nx+17) 0 0)))])
  (fun u H1 n1=>u.1<=3/\H1 (nx+20)=some ⟨5,1,[[.osl 1 (nx+22) 0 64 64,.osl 1 (nx+23) 0 6 f,.osl 4 u.2.1 0 u.1 u.2.2,.osl 3 (nx+16) 0 0 0,.osl 5 (nx+14) 0 0 0]]⟩/\(∃m,H1 u.2.1=some ⟨4,m,X8 nx u.1⟩/\u.1<=u.2.2/\u.2.2<=m)/\(u.2.1=nx+15\/nx+25<=u.2.1/\u.2.1<n1)/\ ∀id,id<nx+25->id≠nx+15->id≠nx+20->H1 id=G id) (fun u=>3-u.1) (0,nx+15,0)
  ⟨noF,_,by repeat' first|exact C1|refine xqI rfl rfl ?_|refine xqP (by omega) rfl rfl ?_|fail,aI,by dsimp only;omega,S,⟨0,(Y (nx+15) (by omega)).trans cp,ac1 _,ac1 _⟩,.inl rfl,fun _ _ _ _=>rfl⟩ ?_
 rintro⟨k,b,D⟩ H1 v aa ⟨l,w,⟨m,Z,ab,ad⟩,ai,y⟩ KL aj
 dsimp only at l w Z ab ad ai
 have hA:aT v [nx+17,nx+20,b]:=AM.apart (by simp;omega) (by simp;omega)
 simp only[aT,bM] at hA
 have E:=ze (nx:=nx) (k:=k)
 have F:List.take k (X8 nx k)=X8 nx k:=ac6 (by omega)
 by_cases ao:k<3
 ·repeat' first|apply vI<;>(simp only[go_sem,nL,w,Z,E,F,hA];try simp (disch:=omega) only[Iw])|apply vT (by omega)| (with_reducible first|refine fun(cap:Nat) (I:_<=cap)=> ?_|refine fun(bk:_<=cap)=> ?_)|refine⟨by omega,?_⟩|fail
  refine TD (K:=KL) fun W s=> ?_;refine aj _ _ _ (k+1,v+6,cap) noF _ (by omega) (by dsimp only;omega) (by repeat' first|exact C1|refine xqI rfl rfl ?_|refine xqP (by omega) rfl rfl ?_|fail) (HF (i:=v+6) (o':=⟨4,cap,X8 nx (k+1)⟩) (by rw[s,aA.aB (by omega)];exact aA.aJ) (uv Jy rfl (P k) rfl (aH (bE rfl) (aH (.GO ..) (aH (.GO ..) (aH (bE rfl) cG)))))) ⟨by dsimp only;omega,?_,⟨cap,aA.aJ,by dsimp only;omega,ac1 _⟩,by dsimp only;omega,fun id J L z=> ?_⟩;·dsimp only;rw[aA.aB (by omega),s,aA.aJ]
  ·rw[aA.aB (by omega),s,aA.aB z,aA.aB (by omega),aA.aB (by omega),aA.cL (by omega)];exact y id J L z
 ·repeat' first|apply vI<;>(simp only[go_sem])|apply vF (by omega)|fail
  have br:k=3:=by omega
  subst br;have ca:H1 (nx+16)=some ⟨3,0,[]⟩:=(y (nx+16) (by omega) (by omega) (by omega)).trans ((Y (nx+16) (by omega)).trans cv);clear hA E F
  refine aK.cW (β:=Nat×Nat×Nat) (fun u=>en [(3,dI u.1),(1,.one (.c (.ptr 5 (nx+20) 0 0))),(0,.one (.c (.ptr 5 (nx+17) 0 0)))])
   (fun u H2 n2=>u.1<=4/\H2 (nx+20)=some ⟨5,1,[[.osl 1 (nx+22) 0 64 64,.osl 1 (nx+23) 0 6 f,.osl 4 b 0 3 D,.osl 3 u.2.1 0 u.1 u.2.2,.osl 5 (nx+14) 0 0 0]]⟩/\(∃m,H2 u.2.1=some ⟨3,m,Z6 nx u.1⟩/\u.1<=u.2.2/\u.2.2<=m)/\(u.2.1=nx+16\/nx+25<=u.2.1/\u.2.1<n2/\u.2.1≠b)/\H2 b=some ⟨4,m,X8 nx 3⟩/\ ∀id,id<nx+25->id≠nx+15->id≠nx+16->id≠nx+20->H2 id=G id) (fun u=>4-u.1) (0,nx+16,0)
   ⟨noF,_,by repeat' first|exact C1|refine xqI rfl rfl ?_|refine xqP (by omega) rfl rfl ?_|fail,aI,by dsimp only;omega,w,⟨0,ca,ac1 _,ac1 _⟩,.inl rfl,Z,fun id J L _ z=>y id J L z⟩ ?_
  rintro⟨k,iv,cw⟩ H2 A cc ⟨l,o,⟨mv,bp,cd,ck⟩,cl,bb,a⟩ KM cq;dsimp only at l o bp cd ck cl;have p:aT A [nx+17,nx+20,b,iv]:=AM.apart (by simp;omega) (by simp;omega);simp only[aT,bM] at p;have cr:=Bw (nx:=nx) (k:=k);have ct:List.take k (Z6 nx k)=Z6 nx k:=ac6 (by omega);by_cases ao:k<4
  ·repeat' first|apply vI<;>(simp only[go_sem,nL,o,bp,cr,ct,p];try simp (disch:=omega) only[Iw])|apply vT (by omega)| (with_reducible first|refine fun(cap:Nat) (I:_<=cap)=> ?_|refine fun(bk:_<=cap)=> ?_)|refine⟨by omega,?_⟩|fail
   refine TD (K:=KM) fun W s=> ?_;refine cq _ _ _ (k+1,A+6,cap) noF _ (by omega) (by dsimp only;omega) (by repeat' first|exact C1|refine xqI rfl rfl ?_|refine xqP (by omega) rfl rfl ?_|fail) (HF (i:=A+6) (o':=⟨3,cap,Z6 nx (k+1)⟩) (by rw[s,aA.aB (by omega)];exact aA.aJ) (uv Lb rfl (R k) rfl (aH (.GO ..) (aH (.GO ..) (aH (bE rfl) cG))))) ⟨by dsimp only;omega,?_,⟨cap,aA.aJ,by dsimp only;omega,ac1 _⟩,by dsimp only;omega,?_,fun id J L f3 z=> ?_⟩;·dsimp only;rw[aA.aB (by omega),s,aA.aJ]
   ·rw[aA.aB (by omega),s,aA.aB (by omega),aA.aB (by omega),aA.aB (by omega),aA.cL (by omega)];exact bb
   ·rw[aA.aB (by omega),s,aA.aB z,aA.aB (by omega),aA.aB (by omega),aA.cL (by omega)];exact a id J L f3 z
  ·repeat' first|apply vI<;>(simp only[go_sem])|apply vF (by omega)|fail
   have cx:k=4:=(by omega);subst cx;have M:=(a (nx+17) (by omega) (by omega) (by omega) (by omega)).trans T;have cy:=(a (nx+22) (by omega) (by omega) (by omega) (by omega)).trans U;have da:=(a (nx+23) (by omega) (by omega) (by omega) (by omega)).trans V;have d: ∀id,id<nx+15->H2 id=q id:=fun id g=>(a id (by omega) (by omega) (by omega) (by omega)).trans (Y id (by omega));(try simp only[go_sem,nL,o,M,p,nL]);repeat' first|apply vI<;>(simp only[go_sem,nL,o,M,p,nL])|fail
   refine hQ _ _ _ _ _ (.inr rfl) (jO rfl aA.aJ rfl) ?_;refine h _ _ (QM nx b iv) _ (by omega) ⟨⟨⟨64,f,D,cw,0,rfl,⟨⟨64,_,by rw[aA.aB (by show nx+22≠nx+17;omega)];exact cy,rfl,by simp[SJ],by simp[SJ],by simp[SJ],by omega⟩⟩,⟨⟨f,_,by rw[aA.aB (by show nx+23≠nx+17;omega)];exact da,rfl,by simp[SJ],by simp[SJ],by simpa [SJ] using O,by omega⟩⟩,NB (by rw[aA.aB (by show nx+14≠nx+17;omega),d _ (by show nx+14<nx+15;omega)];exact c5 14 (by omega) (by omega)),by omega,by omega⟩,⟨m,X8 nx 3,by rw[aA.aB (by show b≠nx+17;omega)];exact bb,ze,fun k l=> ?_⟩,⟨mv,Z6 nx 4,by rw[aA.aB (by show iv≠nx+17;omega)];exact bp,Bw,fun k l=> ?_⟩⟩,zk hX (by omega) (by omega) (by omega),fun id g=>by have:=hX id g;omega⟩ fun id g=> ?_
   ·rw[uz l];obtain rfl|rfl|rfl:k=0\/k=1\/k=2:=by omega
    all_goals
     refine⟨_,rfl,⟨⟨0,0,0,rfl,NB ?_,NB ?_⟩⟩⟩
    ·rw[aA.aB (by show nx+0≠nx+17;omega),d _ (by show nx+0<nx+15;omega)];exact c1 0 (by omega)
    ·rw[aA.aB (by show nx+3+0≠nx+17;omega),d _ (by show nx+3+0<nx+15;omega)];exact c3 3 (by omega) (by omega)
    ·rw[aA.aB (by show nx+1≠nx+17;omega),d _ (by show nx+1<nx+15;omega)];exact c1 1 (by omega)
    ·rw[aA.aB (by show nx+3+1≠nx+17;omega),d _ (by show nx+3+1<nx+15;omega)];exact c3 4 (by omega) (by omega)
    ·rw[aA.aB (by show nx+2≠nx+17;omega),d _ (by show nx+2<nx+15;omega)];exact c1 2 (by omega)
    ·rw[aA.aB (by show nx+3+2≠nx+17;omega),d _ (by show nx+3+2<nx+15;omega)];exact c3 5 (by omega) (by omega)
   ·rw[Ba l];obtain rfl|rfl|rfl|rfl:k=0\/k=1\/k=2\/k=3:=by omega
    all_goals
     refine⟨_,rfl,⟨⟨0,0,0,0,rfl,NB ?_,NB ?_⟩⟩⟩
    ·rw[aA.aB (by show nx+6+0≠nx+17;omega),d _ (by show nx+6+0<nx+15;omega)];exact c3 6 (by omega) (by omega)
    ·rw[aA.aB (by show nx+10+0≠nx+17;omega),d _ (by show nx+10+0<nx+15;omega)];exact c5 10 (by omega) (by omega)
    ·rw[aA.aB (by show nx+6+1≠nx+17;omega),d _ (by show nx+6+1<nx+15;omega)];exact c3 7 (by omega) (by omega)
    ·rw[aA.aB (by show nx+10+1≠nx+17;omega),d _ (by show nx+10+1<nx+15;omega)];exact c5 11 (by omega) (by omega)
    ·rw[aA.aB (by show nx+6+2≠nx+17;omega),d _ (by show nx+6+2<nx+15;omega)];exact c3 8 (by omega) (by omega)
    ·rw[aA.aB (by show nx+10+2≠nx+17;omega),d _ (by show nx+10+2<nx+15;omega)];exact c5 12 (by omega) (by omega)
    ·rw[aA.aB (by show nx+6+3≠nx+17;omega),d _ (by show nx+6+3<nx+15;omega)];exact c3 9 (by omega) (by omega)
    ·rw[aA.aB (by show nx+10+3≠nx+17;omega),d _ (by show nx+10+3<nx+15;omega)];exact c5 13 (by omega) (by omega)
   ·rw[aA.aB (by omega),d id (by omega)];exact cf id g
theorem jz{n:Nat}{l:List Int}{p i:Nat}(hn:0<n/\n<=90)(hl:gD l)(P:p+2000<2^50)(hi:i<nx)(T:H i=some (rdO l p))
 (h: ∀H' nx' R (xs:List CIn),nx<=nx'->R<=p+1000->xs.length<=90->(∀x∈xs,fw x)->H' i=some (rdO l R)->(∀id,id<nx->id≠i->H' id=H id)->∀io cap m,nx<=io->io<nx'->H' io=some ⟨3,m,xs.map eIn⟩->xs.length<=cap->cap<=m->K (dO 3 io xs.length cap) H' nx'):ag1 AR [dP 2 i,dI n] H nx K:=by
 refine bW.mk Tryz.func93 (by kernel_rfl) gh rfl fun Q U=> ?_
 unfold yK
 have A:aT nx [i]:=AM.apart (by simp) (by simp;omega)
 simp only[aT,bM] at A
 repeat' first|apply vI<;>(simp only[go_sem,nL,A])|fail
 refine aO (p:=p) hl (by omega) (by omega) (by omega) (by simp only[aA.set,A,if_false];exact T) fun x V h2=> ?_
 obtain⟨slow,B,C⟩: ∃slow:Int,[[D1.v (Value.int IntKind.i64 2)],[D1.v (Value.int IntKind.i64 3)],[D1.v (Value.int IntKind.i64 5)],[D1.v (Value.int IntKind.i64 20)]][x.toNat]?=some [cI slow]/\0<slow/\slow<1000:=by
  have:x=0\/x=1\/x=2\/x=3:=by omega
  rcases this with rfl|rfl|rfl|rfl;·exact⟨2,rfl,by omega⟩
  ·exact⟨3,rfl,by omega⟩
  ·exact⟨5,rfl,by omega⟩
  ·exact⟨20,rfl,by omega⟩
 have D:(0<=x)=True:=eq_true V
 have E:(x<4)=True:=eq_true (by omega)
 simp only[go_sem,nL,Nat.reduceAdd,A,B,D,E]
 refine⟨by omega,?_⟩
 try apply kI
 repeat' first|apply vI<;>(simp only[go_sem])|fail
 refine aO (p:=p+1) hl (by omega) (by omega) (by omega) aA.aJ fun y W X=> ?_
 simp only[go_sem]
 repeat' first|apply vI<;>(simp only[go_sem])|fail
 refine aK.QK fun F a=> ?_
 have ci:F i=some (rdO l (p+1+1)):=by rw[a];exact aA.aJ
 have c1:F (nx+1)=some ⟨3,0,[]⟩:=by rw[a];simp only[aA.set,show ¬nx+1=i by omega,ac4,Nat.reduceEqDiff,if_false,if_true]
 have G: ∀id,id<nx->id≠i->F id=H id:=fun id d1 d2=>by rw[a];simp only[aA.set,d2,show ¬id=nx+1 by omega,show ¬id=nx+3 by omega,if_false]
 clear a
 refine aK.cW (β:=Nat×Nat×List CIn×Nat×Nat) (fun u=>en [(7,dI u.1),(6,dI slow),(5,.one (.c (.osl 3 u.2.2.2.1 0 u.2.2.1.length u.2.2.2.2))),(0,dP 2 i)])
  (fun u H1 b=>u.1+u.2.2.1.length<=90/\u.2.1+10*u.1<=p+2+10*y.toNat/\(∀x∈u.2.2.1,fw x)/\H1 i=some (rdO l u.2.1)/\(∃m,H1 u.2.2.2.1=some ⟨3,m,u.2.2.1.map eIn⟩/\u.2.2.1.length<=u.2.2.2.2/\u.2.2.2.2<=m)/\nx<=u.2.2.2.1/\u.2.2.2.1<b/\ ∀id,id<nx->id≠i->H1 id=H id)
  (fun u=>u.1) (y.toNat,p+1+1,[],nx+1,0) ⟨noF,_,by repeat' first|exact C1|refine xqI rfl rfl ?_|refine xqP (by omega) rfl rfl ?_|refine xqV rfl (by omega) ?_| (with_reducible apply C2)| ((with_reducible apply C0);exact CC)| ((with_reducible apply D0);apply CJ)|fail,aI,by dsimp only[List.length_nil];omega,by dsimp only;omega,fun x Y=>by simp at Y,ci,⟨0,c1,ac1 _,ac1 _⟩,by dsimp only;omega,by dsimp only;omega,G⟩ ?_
 rintro⟨j,q,xs,io,cap⟩ H1 b Z ⟨hj,hq,f,I,⟨m,J,S,L⟩,d,k,o⟩ KL M
 dsimp only at hj hq f I J S L d k
 have r:aT b [i,io]:=AM.apart (by simp;omega) (by simp;omega)
 simp only[aT,bM] at r
 by_cases aa:0<j
 ·repeat' first|apply vI<;>(simp only[go_sem])|apply vT (by omega)|fail
  refine UL hl (by omega) C (by omega) I fun H2 N q2 x ab ad O fi s=> ?_;have f1:=(s io (by omega) (by omega)).trans J;have t:aT N [i,io]:=AM.apart (by simp;omega) (by simp;omega);simp only[aT,bM] at t;simp only[go_sem,ac2,f1,r,t];refine⟨L,by omega,fun e w ai=> ?_⟩;try apply kI
  repeat' first|apply vI<;>(simp only[go_sem];try simp (disch:=omega) only[Iw])|fail
  refine M _ _ _ (j-1,q2,xs++[x],b+7,e) noF _ (by omega) (by dsimp only;omega) (by dsimp only;rw[ac7,List.length_singleton];repeat' first|exact C1|refine xqI rfl rfl ?_|refine xqP (by omega) rfl rfl ?_|refine xqO (by omega) rfl rfl (by rfl) ?_|refine xqV rfl (by omega) ?_|fail) aI ⟨by simp;omega,by dsimp only;omega,fun z g=> ?_,?_,⟨e,aA.aJ,by simpa using w,ac1 _⟩,by dsimp only;omega,by dsimp only;omega,fun id d1 d2=> ?_⟩
  ·rcases adD.1 g with g|g;·exact f z g
   ·simp at g;subst g;exact O
  ·rw[aA.aB (by omega),aA.aB (by omega),aA.cL (by omega)];exact fi
  ·rw[aA.aB (by omega),aA.aB (by omega),aA.cL (by omega),s id (by omega) d2];exact o id d1 d2
 ·repeat' first|apply vI<;>(simp only[go_sem])|apply vF (by omega)|fail
  exact U _ _ _ _ _ (.inr rfl) rfl (h _ _ q xs (by omega) (by omega) (by omega) f I o io cap m d (by omega) J S L)
theorem ah{n:Nat}{l:List Int}{p i:Nat}(c:0<n/\n<=90)(hl:gD l)(a:p+2000<2^50)(hi:i<nx)(d:H i=some (rdO l p))
 (h: ∀H' nx' b (xs:List CIn),nx<=nx'->b<=p+1000->xs.length<=90->(∀x∈xs,fw x)->H' i=some (rdO l b)->(∀id,id<nx->id≠i->H' id=H id)->K (dS (xs.map eIn)) H' nx'):ag1 AR [dP 2 i,dI n] H nx K:=
 aC.qC (jz c hl a hi d fun H' nx' b xs e f g k o q io cap m t u r s v=>⟨dS (xs.map eIn),_,fun j=>j=io,oI Zp r rfl s rfl,O9,h _ _ b xs e f g k (by rw[aA.cL (by omega)];exact o) fun id d1 d2=>by rw[aA.cL (by omega)];exact q id d1 d2⟩)
theorem QA{s:CSt}(hs:CSz s)
 (h: ∀H' nx' nm cells,nx<=nx'->CM H' nm s cells->Part (fun k=>k<19) nx nx' nm->(∀id,id<nx->H' id=H id)->K (dA cells) H' nx'):
 ag1 AG [dA (dX s)] H nx K:=by
 have fl:=hs.pl
 have fm:=hs.sl
 refine bW.mk Tryz.func103 (by kernel_rfl) kb rfl fun Q hQ=> ?_
 unfold xN
 refine aK.oB 4 (aK.oB 3 ?_)
 repeat' first| (first|apply vI|refine ND (w:=s.words) (u:=s.holds) hs.w hs.h (fun H1 b b0 b1 c0 c1 N E h3 dz eb F=> ?_))<;>(simp only[go_sem,nL])|fail
 generalize hU:c8 (nx+4) [7] _ H1=U
 have u2:U (nx+2)=some ⟨5,1,[dX s]⟩:=by rw[<-hU,um1 (by omega),F _ (by omega),aA.aB (by omega)];exact aA.aJ
 have u3:U (nx+3)=some ⟨5,1,[[.osl 0 0 0 0 0,.osl 0 0 0 0 0,.osl 0 0 0 0 0,.osl 0 0 0 0 0,.osl 0 0 0 0 0]]⟩:=by rw[<-hU,um1 (by omega),F _ (by omega)];exact aA.aJ
 have ed:U (nx+11)=some ⟨5,1,[[.osl 0 0 0 0 0,.osl 0 0 0 0 0,.osl 0 0 0 0 0,.osl 0 0 0 0 0,.osl 0 0 0 0 0]]⟩:=by rw[<-hU,show nx+11=nx+4+7 by omega,yy];exact aA.aJ
 have u0:U nx=some ⟨4,0,[]⟩:=by rw[<-hU,um1 (by omega),F _ (by omega),aA.aB (by omega),aA.aB (by omega),aA.aB (by omega)];exact aA.aJ
 have u1:U (nx+1)=some ⟨3,0,[]⟩:=by rw[<-hU,um1 (by omega),F _ (by omega),aA.aB (by omega),aA.aB (by omega)];exact aA.aJ
 have ei:Own aF 1 U b0 c0 s.words:=dz.of (by rw[<-hU,um1 (by omega)])
 have ej:Own aF 1 U b1 c1 s.holds:=eb.of (by rw[<-hU,um1 (by omega)])
 have uf: ∀id,id<nx->U id=H id:=fun id z=>by rw[<-hU,um1 (by omega),F _ (by omega),aA.aB (by omega),aA.aB (by omega),aA.aB (by omega),aA.aB (by omega),mk1 (by omega)]
 clear hU dz eb F
 have m0: ∀G:aA,msk (nx+4) [7] G (nx+2)=G (nx+2):=fun G=>mk1 (by omega)
 refine⟨fun _=>by rw[m0,u2];rfl,?_⟩
 refine kV (l:=s.told) hs.t.1 hs.t.2 fun H2 I b2 c2 h4 h5 R C=> ?_
 simp only[go_sem,m0]
 generalize hV:c8 (nx+4) [7] U H2=V
 have v2:V (nx+2)=some ⟨5,1,[dX s]⟩:=by rw[<-hV,um1 (by omega),C _ (by omega),mk1 (by omega)];exact u2
 have v3:V (nx+3)=some ⟨5,1,[[.osl 0 0 0 0 0,.osl 0 0 0 0 0,.osl 0 0 0 0 0,.osl 0 0 0 0 0,.osl 0 0 0 0 0]]⟩:=by rw[<-hV,um1 (by omega),C _ (by omega),mk1 (by omega)];exact u3
 have v11:V (nx+11)=some ⟨5,1,[[.osl 0 0 0 0 0,.osl 0 0 0 0 0,.osl 0 0 0 0 0,.osl 0 0 0 0 0,.osl 0 0 0 0 0]]⟩:=by rw[<-hV,show nx+11=nx+4+7 by omega,yy];exact ed
 have v0:V nx=some ⟨4,0,[]⟩:=by rw[<-hV,um1 (by omega),C _ (by omega),mk1 (by omega)];exact u0
 have v1:V (nx+1)=some ⟨3,0,[]⟩:=by rw[<-hV,um1 (by omega),C _ (by omega),mk1 (by omega)];exact u1
 have fo:Own aF 1 V b0 c0 s.words:=ei.of (by rw[<-hV,um1 (by omega),C _ (by omega),mk1 (by omega)])
 have fp:Own aF 1 V b1 c1 s.holds:=ej.of (by rw[<-hV,um1 (by omega),C _ (by omega),mk1 (by omega)])
 have fs:Own aL 5 V b2 c2 s.told:=R.of (by rw[<-hV,um1 (by omega)])
 have vf: ∀id,id<nx->V id=H id:=fun id z=>by rw[<-hV,um1 (by omega),C _ (by omega),mk1 (by omega)];exact uf id z
 clear hV R C u0 u1 u2 u3 ed ei ej uf
 have hA:aT I [nx+2,nx+3,nx+11]:=AM.apart (by simp) (by simp;omega)
 simp only[aT,bM] at hA
 (try simp only[go_sem,nL,v2,v3,v11,hA,nL]);repeat' first|apply vI<;>(simp only[go_sem,nL,v2,v3,v11,hA,nL])|fail
 refine aK.qC _ _ noF (fun t=>.inl rfl) (HF (i:=nx+11) (o':=⟨5,1,[[.osl 1 b0 0 s.words.length c0,.osl 1 b1 0 s.holds.length c1,.osl 4 nx 0 0 0,.osl 3 (nx+1) 0 0 0,.osl 5 b2 0 s.told.length c2]]⟩) aA.aJ (aW (aH (.osl _ _ _ _ _ (by omega)) (aH (.osl _ _ _ _ _ (by omega)) (aH (.GO ..) (aH (.GO ..) (aH (.osl _ _ _ _ _ (by omega)) cG))))))) ?_
 refine aK.QK fun G hG=> ?_
 have fx:G (nx+11)=some ⟨5,1,[[.osl 1 b0 0 s.words.length c0,.osl 1 b1 0 s.holds.length c1,.osl 4 nx 0 0 0,.osl 3 (nx+1) 0 0 0,.osl 5 b2 0 s.told.length c2]]⟩:=by rw[hG];exact aA.aJ
 have df: ∀id,id≠nx+11->G id=V id:=fun id z=>by rw[hG,aA.aB z,aA.aB z]
 clear hG
 refine aK.cW (β:=Nat×(Nat->Nat)×Nat) (fun u=>en [(4,dI u.1),(3,.one (.c (.ptr 5 (nx+11) 0 0))),(2,.one (.c (.ptr 5 (nx+3) 0 0))),(1,.one (.c (.ptr 5 (nx+2) 0 0)))])
  (fun u H1 b=>u.1<=3/\(u.2.1 0=b0/\u.2.1 1=b1/\u.2.1 3=nx+1/\u.2.1 4=b2)/\Part (fun j=>j<5\/(5<=j/\j<5+u.1)\/(8<=j/\j<8+u.1)) nx b u.2.1/\(u.2.1 2=nx\/I<=u.2.1 2)/\(∀j,(5<=j/\j<5+u.1)\/(8<=j/\j<8+u.1)->I<=u.2.1 j)/\H1 (nx+11)=some ⟨5,1,[[.osl 1 b0 0 s.words.length c0,.osl 1 b1 0 s.holds.length c1,.osl 4 (u.2.1 2) 0 u.1 u.2.2,.osl 3 (nx+1) 0 0 0,.osl 5 b2 0 s.told.length c2]]⟩/\(∃m rows,H1 (u.2.1 2)=some ⟨4,m,rows⟩/\acM u.1 H1 u.2.1 s rows/\u.1<=u.2.2/\u.2.2<=m)/\ ∀id,id<I->id≠nx->id≠nx+11->H1 id=V id)
  (fun u=>3-u.1) (0,WX nx b0 b1 b2,0) ⟨noF,_,by repeat' first|exact C1|refine xqI rfl rfl ?_|refine xqP (by omega) rfl rfl ?_|fail,aI,by dsimp only;omega,⟨rfl,rfl,rfl,rfl⟩,(Ds (n:=I+1) (by omega) E (by omega) (by omega)).mono (by omega),.inl rfl,fun j g=>by dsimp only at g;omega,fx,⟨0,[],(df nx (by omega)).trans v0,⟨rfl,fun j g=>by dsimp only at g;omega⟩,ac1 _,ac1 _⟩,fun id _ _ z=>df id z⟩ ?_
 rintro⟨k,nm,S⟩ H1 b ia ⟨hk,⟨n0,n1,n3,n4⟩,O,eo,J,bp,⟨m,rows,gp,⟨T,ca⟩,ep,ga⟩,L⟩ KL gb
 dsimp only at hk n0 n1 n3 n4 O eo J bp gp T ca ep ga
 have g2:H1 (nx+2)=some ⟨5,1,[dX s]⟩:=(L _ (by omega) (by omega) (by omega)).trans v2
 obtain⟨ip,X⟩: ∃ip,ip=nm 2:=⟨_,rfl⟩
 have cc:=O.rng 2 (.inl (by omega))
 rw[<-X] at bp gp eo cc
 have cd:aT b [nx+2,nx+3,nx+11,ip]:=AM.apart (by simp;omega) (by simp;omega)
 simp only[aT,bM] at cd
 have et:List.take k rows=rows:=ac6 (by omega)
 by_cases cf:k<3
 ·obtain⟨p,Y⟩: ∃p,p=aN s k:=⟨_,rfl⟩
  have ck:s.bJ.getD k default=p:=Y.symm;obtain⟨hq,ho⟩:=hs.port k cf;rw[<-Y] at hq ho;refine aK.DN fun Z=> ?_;have aa: ∀k l,msk (b+k) l H1=H1:=fun k l=>BH Z (by omega);repeat' first|apply vI<;>(simp only[go_sem,nL,aa,umS (G:=H1),umD (G:=H1),umB,msk,List.map,adA,ad4,or_false,ck,et,T,g2,bp,gp,cd,fl];try simp (disch:=omega) only[Iw])|apply vT (by omega)| (with_reducible first|refine fun(cap:Nat) (ab:_<=cap)=> ?_|refine fun(eu:_<=cap)=> ?_)|refine⟨by omega,?_⟩|fail
  rename_i cq gd gf co gi gq;refine TD (K:=KL) fun W M=> ?_;have gr:W (b+28)=some ⟨4,cap,rows++[[cI p.next,.osl 1 (b+19) 0 p.queue.length cq,.osl 3 (b+23) 0 p.out.length co,cI p.last]]⟩:=by rw[M,aA.aB (by omega)];exact aA.aJ
  have ha:W (b+19)=some ⟨1,cq,p.queue.map aF⟩:=by rw[M];simp (disch:=omega) only[aA.aB,aA.aJ]
  have hb:W (b+23)=some ⟨3,co,p.out.map eCJ⟩:=by rw[M];simp (disch:=omega) only[aA.aB,aA.aJ]
  have cl:W (nx+11)=some ⟨5,1,[[.osl 1 b0 0 s.words.length c0,.osl 1 b1 0 s.holds.length c1,.osl 4 (b+28) 0 (k+1) cap,.osl 3 (nx+1) 0 0 0,.osl 5 b2 0 s.told.length c2]]⟩:=by rw[M];exact aA.aJ
  have wf: ∀id,id<b->id≠ip->id≠nx+11->W id=H1 id:=fun id d1 d2 d3=>by rw[M];simp (disch:=omega) only[aA.aB,aA.cL]
  clear M;obtain⟨f,d⟩: ∃f,f=put (put (put nm (5+k) (b+19)) (8+k) (b+23)) 2 (b+28):=⟨_,rfl⟩
  have p2:f 2=b+28:=by rw[d,fS]
  have p5:f (5+k)=b+19:=by rw[d,bV (by omega),bV (by omega),fS]
  have p8:f (8+k)=b+23:=by rw[d,bV (by omega),fS]
  have P: ∀a,a≠2->a≠5+k->a≠8+k->f a=nm a:=fun a N E h3=>by rw[d,bV N,bV h3,bV E]
  have cr:Part (fun j=>j<5\/(5<=j/\j<5+(k+1))\/(8<=j/\j<8+(k+1))) nx (b+29) f:=by rw[d];exact((O.put (B:=fun j=>j<5\/(5<=j/\j<5+(k+1))\/(8<=j/\j<8+k)) (hi':=b+23) (by omega) (by omega) (by omega) (fun j g=>by first|omega| (dsimp only at*;omega))).put (B:=fun j=>j<5\/(5<=j/\j<5+(k+1))\/(8<=j/\j<8+(k+1))) (hi':=b+28) (by omega) (by omega) (by omega) (fun j g=>by first|omega| (dsimp only at*;omega))).put (by omega) (by omega) (by omega) (fun j g=>by first|omega| (dsimp only at*;omega))
  clear d;refine gb _ _ _ (k+1,f,cap) noF _ (by omega) (by dsimp only;omega) (by repeat' first|exact C1|refine xqI rfl rfl ?_|refine xqP (by omega) rfl rfl ?_|fail) aI ⟨by dsimp only;omega,⟨(P 0 (by omega) (by omega) (by omega)).trans n0,(P 1 (by omega) (by omega) (by omega)).trans n1,(P 3 (by omega) (by omega) (by omega)).trans n3,(P 4 (by omega) (by omega) (by omega)).trans n4⟩,cr.mono (by omega),.inr (by dsimp only;omega),fun j g=> ?_,?_,⟨cap,rows++[[cI p.next,.osl 1 (b+19) 0 p.queue.length cq,.osl 3 (b+23) 0 p.out.length co,cI p.last]],?_,⟨?_,fun j g=> ?_⟩,by dsimp only;omega,ac1 _⟩,fun id d1 d2 d3=> ?_⟩
  ·dsimp only at g ⊢;by_cases e1:j=5+k;·rw[e1,p5];omega
   ·by_cases e2:j=8+k;·rw[e2,p8];omega
    ·rw[P j (by omega) e1 e2];exact J j (by omega)
  ·dsimp only;rw[p2];exact cl
  ·dsimp only;rw[p2];exact gr
  ·rw[ac7,T];rfl
  ·dsimp only at g ⊢;by_cases ct:j=k
   ·subst ct;refine⟨_,by rw[afL (by omega),T,aeZ];rfl,⟨0,cq,co,?_,?_,?_⟩⟩;·rw[p5,p8,<-Y];rfl
    ·rw[p5,<-Y];exact⟨cq,p.queue.map aF,ha,rfl,by simp,by simp,gd,by omega⟩
    ·rw[p8,<-Y];exact⟨co,p.out.map eCJ,hb,rfl,by simp,by simp,gi,by omega⟩
   ·obtain⟨r,N,E⟩:=ca j (by omega);have a5:=O.rng (5+j) (.inr (.inl ⟨by omega,by omega⟩));have a8:=O.rng (8+j) (.inr (.inr ⟨by omega,by omega⟩));have q5:=J (5+j) (.inl (by omega));have q8:=J (8+j) (.inr (by omega));refine⟨r,by rw[ae9 (by omega)];exact N,?_⟩;rw[P (5+j) (by omega) (by omega) (by omega),P (8+j) (by omega) (by omega) (by omega)];exact E.frame (wf _ (by omega) (fun he=>by have:=O.inj (5+j) 2 (.inr (.inl ⟨by omega,by omega⟩)) (.inl (by omega)) (he.trans X);omega) (by omega)) (wf _ (by omega) (fun he=>by have:=O.inj (8+j) 2 (.inr (.inr ⟨by omega,by omega⟩)) (.inl (by omega)) (he.trans X);omega) (by omega))
  ·rw[wf id (by omega) (by omega) d3];exact L id d1 d2 d3
 ·repeat' first|apply vI<;>(simp only[go_sem,g2])|apply vF (by omega)|fail
  have hd:k=3:=by omega
  subst hd;have g1:H1 (nx+1)=some ⟨3,0,[]⟩:=(L _ (by omega) (by omega) (by omega)).trans v1;clear cd et
  refine aK.cW (β:=Nat×(Nat->Nat)×Nat) (fun u=>en [(6,dI u.1),(3,.one (.c (.ptr 5 (nx+11) 0 0))),(2,.one (.c (.ptr 5 (nx+3) 0 0))),(1,.one (.c (.ptr 5 (nx+2) 0 0)))])
   (fun u H2 n2=>u.1<=4/\(∀j,j<11->j≠3->u.2.1 j=nm j)/\Part (fun j=>j<11\/(11<=j/\j<11+u.1)\/(15<=j/\j<15+u.1)) nx n2 u.2.1/\(u.2.1 3=nx+1\/b<=u.2.1 3)/\(∀j,(11<=j/\j<11+u.1)\/(15<=j/\j<15+u.1)->b<=u.2.1 j)/\H2 (nx+11)=some ⟨5,1,[[.osl 1 b0 0 s.words.length c0,.osl 1 b1 0 s.holds.length c1,.osl 4 ip 0 3 S,.osl 3 (u.2.1 3) 0 u.1 u.2.2,.osl 5 b2 0 s.told.length c2]]⟩/\(∃m rows,H2 (u.2.1 3)=some ⟨3,m,rows⟩/\acB u.1 H2 u.2.1 s rows/\u.1<=u.2.2/\u.2.2<=m)/\ ∀id,id<b->id≠nx+1->id≠nx+11->H2 id=H1 id)
   (fun u=>4-u.1) (0,nm,0) ⟨noF,_,by repeat' first|exact C1|refine xqI rfl rfl ?_|refine xqP (by omega) rfl rfl ?_|fail,aI,by dsimp only;omega,fun _ _ _=>rfl,⟨fun j k g hk he=>O.inj j k (by first|omega| (dsimp only at*;omega)) (by first|omega| (dsimp only at*;omega)) he,fun j g=>by have:=O.rng j (by first|omega| (dsimp only at*;omega));first|omega| (dsimp only at*;omega)⟩,.inl n3,fun j g=>by dsimp only at g;omega,by dsimp only;rw[n3];exact bp,⟨0,[],by dsimp only;rw[n3];exact g1,⟨rfl,fun j g=>by dsimp only at g;omega⟩,ac1 _,ac1 _⟩,fun _ _ _ _=>rfl⟩ ?_
  rintro⟨k,ad,cv⟩ H2 e hf ⟨hk,q,A,ai,y,aj,⟨mv,rv,bv,⟨D,cw⟩,ew,hg⟩,x⟩ KM hh;dsimp only at hk q A ai y aj bv D cw ew hg;have e2:H2 (nx+2)=some ⟨5,1,[dX s]⟩:=(x _ (by omega) (by omega) (by omega)).trans g2;obtain⟨iv,ao⟩: ∃iv,iv=ad 3:=⟨_,rfl⟩
  have cx:=A.rng 3 (.inl (by omega));rw[<-ao] at aj bv ai cx;have bb:aT e [nx+2,nx+3,nx+11,iv]:=AM.apart (by simp;omega) (by simp;omega);simp only[aT,bM] at bb;have cy:List.take k rv=rv:=ac6 (by omega);by_cases cf:k<4
  ·obtain⟨v,bk⟩: ∃v,v=aU s k:=⟨_,rfl⟩
   have da:s.bR.getD k default=v:=bk.symm;obtain⟨hq,ho,R⟩:=hs.slv k cf;rw[<-bk] at hq ho R;refine aK.DN fun Z=> ?_;have aa: ∀k l,msk (e+k) l H2=H2:=fun k l=>BH Z (by omega);repeat' first| (first|apply vI|refine kV (l:=v.done) ho R (fun H5 fh b5 c5 h6 h7 hn br=> ?_))<;>(simp only[go_sem,nL,aa,umS (G:=H2),umD (G:=H2),umB,msk,List.map,adA,ad4,or_false,da,cy,D,e2,aj,bv,bb,fm])|apply vT (by omega)| (with_reducible first|refine fun(cap:Nat) (ab:_<=cap)=> ?_|refine fun(eu:_<=cap)=> ?_)|refine⟨by omega,?_⟩|fail
   obtain⟨cp,rfl⟩: ∃cp,cp=cap:=⟨_,rfl⟩
   have dc:=ab;have dh:H5 (e+10)=some ⟨3,1,[jF v]⟩:=(by rw[br _ (by omega)];simp (disch:=omega) only[aA.aB,aA.aJ,aA.cL]);have ht:H5 (e+17)=some ⟨3,cp,v.pipe.map eCJ⟩:=(by rw[br _ (by omega)];simp (disch:=omega) only[aA.aB,aA.aJ,aA.cL]);have ff: ∀id,id<e->H5 id=H2 id:=fun id d1=>by rw[br _ (by omega)];simp (disch:=omega) only[aA.aB,aA.aJ,aA.cL]
   have dm:=(ff (nx+11) (by omega)).trans aj;have fi:=(ff iv (by omega)).trans bv;clear br;have ds:aT fh [nx+2,nx+3,nx+11,iv,e+10,e+17,e+24,b5]:=AM.apart (by simp;omega) (by simp;omega);simp only[aT,bM] at ds;simp only[dh,dm];refine⟨⟨fun _=>rfl,fun he=>he.elim,fun _=>rfl⟩,?_⟩;(try simp only[go_sem,nL,dh,dm,fi,cy,D,ds,bb,nL]);repeat' first|apply vI<;>(simp only[go_sem,nL,dh,dm,fi,cy,D,ds,bb,nL];try simp (disch:=omega) only[Iw])| (with_reducible first|refine fun(cap:Nat) (ab:_<=cap)=> ?_|refine fun(eu:_<=cap)=> ?_)|refine⟨by omega,?_⟩|fail
   refine TD (K:=KM) fun W M=> ?_;have hv:W (e+25)=some ⟨3,cap,rv++[[.osl 3 (e+17) 0 v.pipe.length cp,.osl 5 b5 0 v.done.length c5,cI v.last]]⟩:=(by rw[M,aA.aB (by omega)];exact aA.aJ);have hx:W (e+17)=some ⟨3,cp,v.pipe.map eCJ⟩:=(by rw[M];simp (disch:=omega) only[aA.aB,aA.aJ,aA.cL];exact ht);have hy:Own aL 5 W b5 c5 v.done:=hn.of (by rw[M];simp (disch:=omega) only[aA.aB,aA.cL]);have cl:W (nx+11)=some ⟨5,1,[[.osl 1 b0 0 s.words.length c0,.osl 1 b1 0 s.holds.length c1,.osl 4 ip 0 3 S,.osl 3 (e+25) 0 (k+1) cap,.osl 5 b2 0 s.told.length c2]]⟩:=(by rw[M];exact aA.aJ);have wf: ∀id,id<e->id≠iv->id≠nx+11->W id=H2 id:=fun id d1 d2 d3=>by rw[M];simp (disch:=omega) only[aA.aB,aA.cL];exact ff id d1
   clear M;obtain⟨f,d⟩: ∃f,f=put (put (put ad (11+k) (e+17)) 3 (e+25)) (15+k) b5:=⟨_,rfl⟩
   have p3:f 3=e+25:=(by rw[d,bV (by omega),fS]);have dv:f (11+k)=e+17:=(by rw[d,bV (by omega),bV (by omega),fS]);have dx:f (15+k)=b5:=(by rw[d,fS]);have P: ∀a,a≠3->a≠11+k->a≠15+k->f a=ad a:=fun a N E h3=>by rw[d,bV h3,bV N,bV E]
   have cr:Part (fun j=>j<11\/(11<=j/\j<11+(k+1))\/(15<=j/\j<15+(k+1))) nx fh f:=(by rw[d];exact((A.put (B:=fun j=>j<11\/(11<=j/\j<11+(k+1))\/(15<=j/\j<15+k)) (hi':=e+18) (by omega) (by omega) (by omega) (fun j g=>by first|omega| (dsimp only at*;omega))).put (B:=fun j=>j<11\/(11<=j/\j<11+(k+1))\/(15<=j/\j<15+k)) (hi':=e+26) (by omega) (by omega) (by omega) (fun j g=>by first|omega| (dsimp only at*;omega))).put (by omega) (by omega) (by omega) (fun j g=>by first|omega| (dsimp only at*;omega)));clear d;refine hh _ _ _ (k+1,f,cap) noF _ (by omega) (by dsimp only;omega) (by repeat' first|exact C1|refine xqI rfl rfl ?_|refine xqP (by omega) rfl rfl ?_|fail) aI ⟨by dsimp only;omega,fun j g j3=> ?_,cr.mono (by omega),.inr (by dsimp only;omega),fun j g=> ?_,?_,⟨cap,rv++[[.osl 3 (e+17) 0 v.pipe.length cp,.osl 5 b5 0 v.done.length c5,cI v.last]],?_,⟨?_,fun j g=> ?_⟩,by dsimp only;omega,ac1 _⟩,fun id d1 d2 d3=> ?_⟩;·dsimp only;rw[P j j3 (by omega) (by omega)];exact q j g j3
   ·dsimp only at g ⊢;by_cases e1:j=11+k;·rw[e1,dv];omega
    ·by_cases e2:j=15+k;·rw[e2,dx];omega
     ·rw[P j (by omega) e1 e2];exact y j (by omega)
   ·dsimp only;rw[p3];exact cl
   ·dsimp only;rw[p3];exact hv
   ·rw[ac7,D];rfl
   ·dsimp only at g ⊢;by_cases ct:j=k
    ·subst ct;refine⟨_,by rw[afL (by omega),D,aeZ];rfl,⟨0,cp,0,c5,?_,?_,?_⟩⟩;·rw[dv,dx,<-bk];rfl
     ·rw[dv,<-bk];exact⟨cp,v.pipe.map eCJ,hx,rfl,by simp,by simp,dc,by omega⟩
     ·rw[dx,<-bk];obtain⟨mo,o1,o2,o3⟩:=hy;exact⟨mo,v.done.map aL,o1,rfl,by simp,by simp,o2,by omega⟩
    ·obtain⟨r,N,E⟩:=cw j (by omega);have a5:=A.rng (11+j) (.inr (.inl ⟨by omega,by omega⟩));have a8:=A.rng (15+j) (.inr (.inr ⟨by omega,by omega⟩));have q5:=y (11+j) (.inl (by omega));have q8:=y (15+j) (.inr (by omega));refine⟨r,by rw[ae9 (by omega)];exact N,?_⟩;rw[P (11+j) (by omega) (by omega) (by omega),P (15+j) (by omega) (by omega) (by omega)];exact E.frame (wf _ (by omega) (fun he=>by have:=A.inj (11+j) 3 (.inr (.inl ⟨by omega,by omega⟩)) (.inl (by omega)) (he.trans ao);omega) (by omega)) (wf _ (by omega) (fun he=>by have:=A.inj (15+j) 3 (.inr (.inr ⟨by omega,by omega⟩)) (.inl (by omega)) (he.trans ao);omega) (by omega))
   ·rw[wf id (by omega) (by omega) d3];exact x id d1 d2 d3
  ·have e3:H2 (nx+3)=some ⟨5,1,[[.osl 0 0 0 0 0,.osl 0 0 0 0 0,.osl 0 0 0 0 0,.osl 0 0 0 0 0,.osl 0 0 0 0 0]]⟩:=(x _ (by omega) (by omega) (by omega)).trans ((L _ (by omega) (by omega) (by omega)).trans v3);repeat' first|apply vI<;>(simp only[go_sem,e2,e3,aj,bb])|apply vF (by omega)|fail
   have hz:k=4:=(by omega);subst hz;have a2:ad 2=ip:=(q 2 (by omega) (by omega)).trans X.symm;have a0:=(q 0 (by omega) (by omega)).trans n0;have a1:=(q 1 (by omega) (by omega)).trans n1;have a4:=(q 4 (by omega) (by omega)).trans n4;have dy:ip≠nx+1:=fun he=>by have:=O.inj 2 3 (.inl (by omega)) (.inl (by omega)) (by rw[<-X,n3,he]);omega
   have wv: ∀id W o,id≠nx+3->id<I->id≠nx->id≠nx+1->id≠nx+11->V id=o->(H2.set (nx+3) W) id=o:=fun id W o d0 d1 d2 d3 d4 d5=>by rw[aA.aB d0,x id (by omega) d3 d4,L id d1 d2 d4];exact d5
   obtain⟨w0,w1,w2,w3⟩:=fo;obtain⟨x0,x1,x2,x3⟩:=fp;obtain⟨y0,y1,y2,y3⟩:=fs;refine hQ _ _ _ _ _ (.inr rfl) (jO rfl aA.aJ rfl) (h _ _ ad _ (by omega) ⟨⟨c0,c1,S,cv,c2,?_,?_,?_,?_,ep,ew⟩,⟨m,rows,?_,T,fun j g=> ?_⟩,⟨mv,rv,?_,D,fun j g=> ?_⟩⟩ ⟨fun j k g hk he=>A.inj j k (by first|omega| (dsimp only;omega)) (by first|omega| (dsimp only;omega)) he,fun j g=>by have:=A.rng j (by first|omega| (dsimp only;omega));omega⟩ fun id z=> ?_);·rw[I6,a0,a1,a2,a4,<-ao]
   ·rw[a0];exact⟨w0,s.words.map aF,wv _ _ _ (by omega) (by omega) (by omega) (by omega) (by omega) w1,rfl,by simp,by simp,w2,by omega⟩
   ·rw[a1];exact⟨x0,s.holds.map aF,wv _ _ _ (by omega) (by omega) (by omega) (by omega) (by omega) x1,rfl,by simp,by simp,x2,by omega⟩
   ·rw[a4];exact⟨y0,s.told.map aL,wv _ _ _ (by omega) (by omega) (by omega) (by omega) (by omega) y1,rfl,by simp,by simp,y2,by omega⟩
   ·rw[a2,aA.aB (by omega),x _ (by omega) dy (by omega)];exact gp
   ·obtain⟨r,N,E⟩:=ca j g;have r5:=O.rng (5+j) (.inr (.inl ⟨by omega,by omega⟩));have r8:=O.rng (8+j) (.inr (.inr ⟨by omega,by omega⟩));have q5:=J (5+j) (.inl (by omega));have q8:=J (8+j) (.inr (by omega));rw[q (5+j) (by omega) (by omega),q (8+j) (by omega) (by omega)];exact⟨r,N,E.frame (by rw[aA.aB (by omega),x _ (by omega) (by omega) (by omega)]) (by rw[aA.aB (by omega),x _ (by omega) (by omega) (by omega)])⟩
   ·rw[<-ao,aA.aB (by omega)];exact bv
   ·obtain⟨r,N,E⟩:=cw j g;have q5:=y (11+j) (.inl (by omega));have q8:=y (15+j) (.inr (by omega));exact⟨r,N,E.frame (aA.aB (by omega)) (aA.aB (by omega))⟩
   ·rw[aA.aB (by omega),x id (by omega) (by omega) (by omega),L id (by omega) (by omega) (by omega)];exact vf id z
end
end Go.Proofs.YtlncecohbakleaaGreat
