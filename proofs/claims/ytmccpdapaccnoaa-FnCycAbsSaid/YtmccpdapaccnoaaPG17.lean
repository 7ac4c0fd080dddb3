/- Texts laid together by a program: rules, contracts and the walk that leads to the law. -/
import Derived.Test.YtmccpdapaccnoaaPG16
import Derived.Test.YtmccpdapaccnoaaPG11
set_option linter.unusedVariables false
set_option linter.unusedSimpArgs false
set_option linter.unusedSectionVars false
namespace Go.Proofs.Ytmccpdapaccnoaa
open Go Go.AM
set_option maxRecDepth 100000
set_option maxHeartbeats 8000000
section
variable {H : aA} {nx : Nat} {K : D → aA → Nat → Prop}
theorem bjJ:cJ Try.prog bhG Try.f57 bhD bhW:=cJ.mk Try.func57 (by kernel_rfl) bjN
def bhV (c:Cfg) (s:CSt) (u:List Bool) (st:Nat):CSt×List Bool:=match AO c s u st with
 |none=>(s,u)
 |some who=>(aR c s (.adm who st),u.set who true)
theorem bjU {X:Nat→Prop} {c:Cfg} {s:CSt} {st ub uc um:Nat} {u:List Bool} {nm:Nat→Nat} {cells:List D1} (hb:aQ c) (hs:COk c s) (hst:st<4) (hul:u.length=3) (hR:bgJ X H nx nm s cells) (hub:X ub) (huo:H ub=some ⟨1,um,u.map eH⟩) (huc:3≤uc)
 (h: ∀H' nx' nm' cells',nx≤nx'→bgJ X H' nx' nm' (bhV c s u st).1 cells'→H' ub=some ⟨1,um,(bhV c s u st).2.map eH⟩→(∀id,X id→id≠ub→H' id=H id)→K (dA cells') H' nx'):
 aB Try.prog bhG [dA (cU c),dA cells,dI st,.one (.c (.osl 1 ub 0 3 uc))] H nx K:=by
 refine bjJ rfl fun Q hQ=> ?_
 unfold bhD
 have hX:=hR.x
 obtain⟨hp3,hpr⟩:=hC hb
 obtain⟨wc,hc,pc,vc,tc,mp,rp,mv,rv,hcell,g1,g2,g3,g4,g5,bkU,bkV,g8,g9,ga,gb⟩:=hR.get
 obtain⟨v,hv⟩: ∃v,aL s st=v:=⟨_,rfl⟩
 obtain⟨po,ppc,do_,dc,gs,gp,gd⟩:=gb st hst
 rw[hv] at gs gp gd
 have hRc:=hR
 subst hcell
 have lt:=hR.names.lt
 have hA:bQ nx ([0,1,2,3,4,11+st,15+st].map nm):=AM.apart (hR.names.list (by simp;omega) (by simp;omega)) (fun x hx=>by obtain⟨j,hj,rfl⟩:=List.mem_map.1 hx;exact lt j (by simp at hj;omega))
 simp only[bQ,eZ,List.map] at hA
 have hpl:=(hs.slv st hst).pl
 rw[hv] at hpl
 by_cases hp2:v.pipe.length=2
 ·have hlen:((v.pipe.length:Int)=2)=True:=eq_true (by omega)
  have hn:bhV c s u st=(s,u):=by unfold bhV;rw[anA (by rw[hv];omega)]
  rw[hn] at h
  repeat' (first| (with_reducible first| (refine hK _ _ _ ?_;clear hK K)| (refine hA ?_;clear hA hB A B)| (refine hB ?_;clear hA hB A B)|refine Z1 ?_|refine Z2 ?_|refine Z3 fun KB hKB=> ?_|refine Z4 (by omega) ?_|refine Z5 (by omega) ?_|refine Z6 (fun h=> ?_) fun h=> ?_|refine Z7 (fun h=> ?_) fun h=> ?_|refine fun(cap:Nat) (hcap:_≤cap)=> ?_|refine fun(hcp:_≤cap)=> ?_|refine fun(b:Bool)=> ?_|refine hKX _ _ _ ?_|refine hKY _ _ _ ?_|refine hKZ _ _ _ ?_)| (with_reducible first|refine Y1 fun K hK=> ?_|refine Y2 fun K hK=> ?_|refine Y3 fun A B hA hB=> ?_|refine Y4 (by omega) ?_|refine Y5 (by omega) ?_|refine Y6 (fun h=> ?_) fun h=> ?_| (refine Y7 (fun h=> ?_) (fun h=> ?_)<;>try subst h))<;>(simp only[go_sem,Nat.add_assoc,Nat.left_eq_add,Nat.add_eq_left,g2,gs,hlen,hA];try simp (disch:=omega) only[Iw])| ((with_reducible first|refine Y8 ?_|refine Y9 ?_);try simp only[AQ.then,AQ.blk,reduceIte,Nat.reduceEqDiff])| ((with_reducible refine Y0 ?_);simp only[AQ.then,AQ.blk])| ((with_reducible refine Z8 (fun h=> ?_) (fun h=> ?_))<;>try subst h)|refine⟨by omega,?_⟩| (refine⟨by(rw[List.length_take];omega),?_⟩)| (with_reducible first|refine hKB _ _ _ ?_| (clear hKB KB;refine hKB _ _ _ ?_)| (clear hKB KB;clear hKB KB;refine hKB _ _ _ ?_))|fail)
  refine hQ _ _ _ _ _ (.inr rfl) (LL rfl aA.bH rfl) ?_
  have hubl:=hX ub hub
  refine h _ _ nm _ (by omega) (hR.frame (by omega) fun id hid _=>by rw[aA.aC (by omega),aA.aC (by omega),aA.aC (by omega)]) (by rw[aA.aC (by omega),aA.aC (by omega),aA.aC (by omega)];exact huo) fun id hid _=> ?_
  have:=hX id hid
  rw[aA.aC (by omega),aA.aC (by omega),aA.aC (by omega)]
 have hlen:((v.pipe.length:Int)=2)=False:=eq_false (by omega)
 repeat' (first| (with_reducible first| (refine hK _ _ _ ?_;clear hK K)| (refine hA ?_;clear hA hB A B)| (refine hB ?_;clear hA hB A B)|refine Z1 ?_|refine Z2 ?_|refine Z3 fun KB hKB=> ?_|refine Z4 (by omega) ?_|refine Z5 (by omega) ?_|refine Z6 (fun h=> ?_) fun h=> ?_|refine Z7 (fun h=> ?_) fun h=> ?_|refine fun(cap:Nat) (hcap:_≤cap)=> ?_|refine fun(hcp:_≤cap)=> ?_|refine fun(b:Bool)=> ?_|refine hKX _ _ _ ?_|refine hKY _ _ _ ?_|refine hKZ _ _ _ ?_)| (with_reducible first|refine Y1 fun K hK=> ?_|refine Y2 fun K hK=> ?_|refine Y3 fun A B hA hB=> ?_|refine Y4 (by omega) ?_|refine Y5 (by omega) ?_|refine Y6 (fun h=> ?_) fun h=> ?_| (refine Y7 (fun h=> ?_) (fun h=> ?_)<;>try subst h))<;>(simp only[go_sem,Nat.add_assoc,Nat.left_eq_add,Nat.add_eq_left,g2,gs,hlen,hA];try simp (disch:=omega) only[Iw])| ((with_reducible first|refine Y8 ?_|refine Y9 ?_);try simp only[AQ.then,AQ.blk,reduceIte,Nat.reduceEqDiff])| ((with_reducible refine Y0 ?_);simp only[AQ.then,AQ.blk])| ((with_reducible refine Z8 (fun h=> ?_) (fun h=> ?_))<;>try subst h)|refine⟨by omega,?_⟩| (refine⟨by(rw[List.length_take];omega),?_⟩)| (with_reducible first|refine hKB _ _ _ ?_| (clear hKB KB;refine hKB _ _ _ ?_)| (clear hKB KB;clear hKB KB;refine hKB _ _ _ ?_))|fail)
 (have hKX:=hKB;clear hKB)
 refine aM.aTJ fun G hG=> ?_
 have hubl:=hX ub hub
 have bfZ:G nx=some ⟨3,1,[cU c]⟩:=by rw[hG,aA.aC (by omega),aA.aC (by omega)];exact aA.bH
 have f1:G (nx+1)=some ⟨5,1,[[.osl 1 (nm 0) 0 s.words.length wc,.osl 1 (nm 1) 0 s.holds.length hc,.osl 4 (nm 2) 0 3 pc,.osl 3 (nm 3) 0 4 vc,.osl 5 (nm 4) 0 s.told.length tc]]⟩:=by rw[hG,aA.aC (by omega)];exact aA.bH
 have f2:G (nx+2)=some ⟨5,1,[[D1.osl 0 0 0 0 0,D1.osl 0 0 0 0 0,D1.osl 0 0 0 0 0,D1.osl 0 0 0 0 0,D1.osl 0 0 0 0 0]]⟩:=by rw[hG];exact aA.bH
 have ff: ∀id,id<nx→G id=H id:=fun id hid=>by rw[hG,aA.aC (by omega),aA.aC (by omega),aA.aC (by omega)]
 clear hG
 refine aM.gP (β:=Nat) (fun j=>en [(9,dI j),(8,.one (.c (.ptr 5 (nx+2) 0 0))),(5,.one (.c (.ptr 5 (nx+1) 0 0))),(4,.one (.c (.ptr 3 nx 0 0))),(3,.one (.c (.osl 1 ub 0 3 uc))),(2,dI st)])
  (fun j H1 _=>1≤j∧j≤4∧H1=G∧ ∀j',1≤j'→j'<j→KE c s u st (sM s st j')=false) (fun j=>4-j) 1 ⟨noF,_,by repeat' (first| (with_reducible first|exact C1|refine C2 ?_ ?_|exact C3|refine C4 ?_ ?_|refine aUP ?_ ?_|refine bfY ?_ ?_ ?_|refine aUQ ?_|refine aUR ?_)| ((with_reducible refine C0 ?_);first|exact CB rfl|exact CC| (exact CQ (by omega) rfl rfl (by first|rfl| (simp;done)|omega| (dsimp only;omega)) rfl)|exact CE (by omega) rfl|exact CR (by omega) rfl|exact CF|exact CH (by first|rfl|assumption)| (exact CG (by first|rfl| (simp;done)| (congr 2;omega)| ((try dsimp only);exact dbT (by omega))| ((try dsimp only);exact dbF (by omega))| ((try dsimp only);exact(dbT (by omega)).symm)| ((try dsimp only);exact(dbF (by omega)).symm)| ((try dsimp only);exact dbE (by omega))| ((try dsimp only);exact diE (by omega))) rfl))| ((with_reducible refine D0 ?_);first|exact CA rfl|exact CI rfl (by simp) rfl rfl rfl|refine C9 ?_|refine CJ ?_)|exact C3|refine C4 ?_ ?_|fail),aK,by omega,by omega,rfl,fun j' h1 h2=>by omega⟩ ?_
 rintro j H1 nx1 hnx1 ⟨hj1,hj4,hH1,hinv⟩ KL hKL
 subst hH1
 have fg2:H1 (nm 3)=some ⟨3,mv,rv⟩:=(ff _ (lt 3 (by omega))).trans g2
 have fub:H1 ub=some ⟨1,um,u.map eH⟩:=(ff _ hubl).trans huo
 obtain⟨hla,hlb⟩:=(hs.slv st hst).last
 rw[hv] at hla hlb
 have hback:KE c s u st (sM s st j)=false→∀j',1≤j'→j'<j+1→KE c s u st (sM s st j')=false:=fun hf j' h1 h2=>by
  by_cases hjj:j'<j
  ·exact hinv j' h1 hjj
  ·have:j'=j:=by omega
   subst this
   exact hf
 by_cases hj3:j≤3
 ·obtain⟨who,hwho⟩: ∃who,who=sM s st j:=⟨_,rfl⟩
  have hwho':who=((v.last+(j:Int))%3).toNat:=by rw[hwho,←hv];rfl
  have hw3:who<3:=by omega
  have hmod:(v.last+(j:Int)).tmod 3=(who:Int):=by rw[Int.tmod_eq_emod_of_nonneg (by omega)];omega
  rw[←hwho] at hback
  cases huw:u.getD who default with
  |true=>
   have hur:(u.map eH)[who]?=some (eH true):=by rw[List.getElem?_map,List.getElem?_eq_getElem (by omega),Option.map_some];rw[List.getD_eq_getElem?_getD,List.getElem?_eq_getElem (by omega),Option.getD_some] at huw;rw[huw]
   repeat' (first| (with_reducible first| (refine hK _ _ _ ?_;clear hK K)| (refine hA ?_;clear hA hB A B)| (refine hB ?_;clear hA hB A B)|refine Z1 ?_|refine Z2 ?_|refine Z3 fun KB hKB=> ?_|refine Z4 (by omega) ?_|refine Z5 (by omega) ?_|refine Z6 (fun h=> ?_) fun h=> ?_|refine Z7 (fun h=> ?_) fun h=> ?_|refine fun(cap:Nat) (hcap:_≤cap)=> ?_|refine fun(hcp:_≤cap)=> ?_|refine fun(b:Bool)=> ?_|refine hKX _ _ _ ?_|refine hKY _ _ _ ?_|refine hKZ _ _ _ ?_)| (with_reducible first|refine Y1 fun K hK=> ?_|refine Y2 fun K hK=> ?_|refine Y3 fun A B hA hB=> ?_|refine Y4 (by omega) ?_|refine Y5 (by omega) ?_|refine Y6 (fun h=> ?_) fun h=> ?_| (refine Y7 (fun h=> ?_) (fun h=> ?_)<;>try subst h))<;>(simp only[go_sem,bfZ,f1,fg2,fub,gs,hmod,hur,Nat.add_assoc,Nat.left_eq_add,Nat.add_eq_left];try simp (disch:=omega) only[Iw])| ((with_reducible first|refine Y8 ?_|refine Y9 ?_);try simp only[AQ.then,AQ.blk,reduceIte,Nat.reduceEqDiff])| ((with_reducible refine Y0 ?_);simp only[AQ.then,AQ.blk])| ((with_reducible refine Z8 (fun h=> ?_) (fun h=> ?_))<;>try subst h)|refine⟨by omega,?_⟩| (refine⟨by(rw[List.length_take];omega),?_⟩)| (with_reducible first|refine hKB _ _ _ ?_| (clear hKB KB;refine hKB _ _ _ ?_)| (clear hKB KB;clear hKB KB;refine hKB _ _ _ ?_))|fail)
   exact hKL _ _ _ (j+1) noF _ (by omega) (by omega) (by repeat' (first| (with_reducible first|exact C1|refine C2 ?_ ?_|exact C3|refine C4 ?_ ?_|refine aUP ?_ ?_|refine bfY ?_ ?_ ?_|refine aUQ ?_|refine aUR ?_)| ((with_reducible refine C0 ?_);first|exact CB rfl|exact CC| (exact CQ (by omega) rfl rfl (by first|rfl| (simp;done)|omega| (dsimp only;omega)) rfl)|exact CE (by omega) rfl|exact CR (by omega) rfl|exact CF|exact CH (by first|rfl|assumption)| (exact CG (by first|rfl| (simp;done)| (congr 2;omega)| ((try dsimp only);exact dbT (by omega))| ((try dsimp only);exact dbF (by omega))| ((try dsimp only);exact(dbT (by omega)).symm)| ((try dsimp only);exact(dbF (by omega)).symm)| ((try dsimp only);exact dbE (by omega))| ((try dsimp only);exact diE (by omega))) rfl))| ((with_reducible refine D0 ?_);first|exact CA rfl|exact CI rfl (by simp) rfl rfl rfl|refine C9 ?_|refine CJ ?_)|exact C3|refine C4 ?_ ?_|fail)) aK ⟨by omega,by omega,rfl,hback (by unfold KE;rw[huw];rfl)⟩
  |false=>
   have hur:(u.map eH)[who]?=some (eH false):=by rw[List.getElem?_map,List.getElem?_eq_getElem (by omega),Option.map_some];rw[List.getD_eq_getElem?_getD,List.getElem?_eq_getElem (by omega),Option.getD_some] at huw;rw[huw]
   by_cases hmay:HV c s who st
   ·have hmd:decide (HV c s who st)=true:=decide_eq_true hmay
    have hB:bQ nx1 [ub,nx,nx+1,nx+2]:=AM.apart (by simp;omega) (by simp;omega)
    simp only[bQ,eZ] at hB
    obtain⟨qo,qc,oc,gr,gq,go⟩:=ga who hw3
    obtain⟨p,hp⟩: ∃p,aF s who=p:=⟨_,rfl⟩
    rw[hp] at gr gq go
    have n2:=lt 2 (by omega)
    have hAj:(nm 2=ub)=False:=eq_false fun he=>hR.names.av 2 (by omega) (he▸hub)
    obtain⟨m1,m2,_,_⟩:=id hmay
    rw[hp] at m1 m2
    have hpo:=hs.port who hw3
    rw[hp] at hpo
    have hql:=hpo.ql
    obtain⟨n0,hn0⟩: ∃n0,p.queue.getD 0 default=n0:=⟨_,rfl⟩
    obtain⟨mq,rq0,x1,x2,aYM,aAO,blA,aIL⟩:=gq.ex
    rw[List.length_map] at aAO
    have blB:rq0[qo]?=some (aJ n0):=by
     have:(rq0.drop qo)[0]?=some (aJ n0):=by rw[x2,List.getElem?_map,←hn0];simp[List.getD,show 0<p.queue.length by omega]
     rwa [List.getElem?_drop,Nat.add_zero] at this
    have az8:=lt (5+who) (by omega)
    have fx1:H1 (nm (5+who))=some ⟨1,mq,rq0⟩:=(ff _ az8).trans x1
    have hAq:(nm (5+who)=ub)=False:=eq_false fun he=>hR.names.av (5+who) (by omega) (he▸hub)
    have hA1:bQ nx1 ([2,3,5+who,8+who,11+st].map nm):=AM.apart (hR.names.list (by simp;omega) (by simp;omega)) (fun x hx=>by obtain⟨j,hj,rfl⟩:=List.mem_map.1 hx;have:=lt j (by simp at hj;omega);omega)
    simp only[bQ,eZ,List.map] at hA1
    have fg1:H1 (nm 2)=some ⟨4,mp,rp⟩:=(ff _ n2).trans g1
    have n3:=lt 3 (by omega)
    have aAJ:=lt (8+who) (by omega)
    have n11:=lt (11+st) (by omega)
    have hAo:(nm (8+who)=ub)=False:=eq_false fun he=>hR.names.av (8+who) (by omega) (he▸hub)
    have hAp:(nm (11+st)=ub)=False:=eq_false fun he=>hR.names.av (11+st) (by omega) (he▸hub)
    have hAs:(nm 3=ub)=False:=eq_false fun he=>hR.names.av 3 (by omega) (he▸hub)
    have k0: ∀(G:aA) (b k:Nat),msk (nx1+b) [k] G nx=G nx:=fun G b k=>mk1 (by omega)
    have k1: ∀(G:aA) (b k:Nat),msk (nx1+b) [k] G (nx+1)=G (nx+1):=fun G b k=>mk1 (by omega)
    have k2: ∀(G:aA) (b k:Nat),msk (nx1+b) [k] G (nm 2)=G (nm 2):=fun G b k=>mk1 (by omega)
    have k3: ∀(G:aA) (b k:Nat),msk (nx1+b) [k] G (nm 3)=G (nm 3):=fun G b k=>mk1 (by omega)
    have k5: ∀(G:aA) (b k:Nat),msk (nx1+b) [k] G (nm (5+who))=G (nm (5+who)):=fun G b k=>mk1 (by omega)
    have k8: ∀(G:aA) (b k:Nat),msk (nx1+b) [k] G (nm (8+who))=G (nm (8+who)):=fun G b k=>mk1 (by omega)
    have k11: ∀(G:aA) (b k:Nat),msk (nx1+b) [k] G (nm (11+st))=G (nm (11+st)):=fun G b k=>mk1 (by omega)
    have k33: ∀(G:aA) (b k:Nat),34≤b→msk (nx1+b) [k] G (nx1+33)=G (nx1+33):=fun G b k hb=>mk1 (by omega)
    obtain⟨mo,ro,o1,o2,o3,o4,o5,blC⟩:=go.ex
    rw[List.length_map] at o4
    rw[List.drop_zero] at o2
    have fo1:H1 (nm (8+who))=some ⟨3,mo,ro⟩:=(ff _ aAJ).trans o1
    obtain⟨me,re,p1,p2,p3,p4,p5,p6⟩:=gp.ex
    rw[List.length_map] at p4
    have fp1:H1 (nm (11+st))=some ⟨3,me,re⟩:=(ff _ n11).trans p1
    have hle1:(qo+(1+(p.queue.length-1))≤rq0.length)=True:=eq_true (by omega)
    have htk1:List.take (p.queue.length-1) (List.drop (qo+1) rq0)=(p.queue.drop 1).map aJ:=by
     rw[←List.drop_drop,x2,←List.map_drop,List.take_of_length_le (by simp)]
    have htk2:List.take v.pipe.length (List.drop po re)=v.pipe.map eCJ:=by rw[p2,List.take_of_length_le (by simp)]
    have htk3:List.take p.out.length ro=p.out.map eCJ:=by rw[o2,List.take_of_length_le (by simp)]
    have hgk: ∀r,(rp.set who r)[who]?=some r:=fun r=>by rw[List.getElem?_set_self (by omega)]
    have hgv: ∀r,(rv.set st r)[st]?=some r:=fun r=>by rw[List.getElem?_set_self (by omega)]
    have hlat4:=hb.2.1
    have hAn:bQ nx ([2,3,5+who,8+who,11+st].map nm):=AM.apart (hR.names.list (by simp;omega) (by simp;omega)) (fun x hx=>by obtain⟨j,hj,rfl⟩:=List.mem_map.1 hx;exact lt j (by simp at hj;omega))
    simp only[bQ,eZ,List.map] at hAn
    repeat' (first| (with_reducible first| (refine hK _ _ _ ?_;clear hK K)| (refine hA ?_;clear hA hB A B)| (refine hB ?_;clear hA hB A B)|refine Z1 ?_|refine Z2 ?_|refine Z3 fun KB hKB=> ?_|refine Z4 (by omega) ?_|refine Z5 (by omega) ?_|refine Z6 (fun h=> ?_) fun h=> ?_|refine Z7 (fun h=> ?_) fun h=> ?_|refine fun(cap:Nat) (hcap:_≤cap)=> ?_|refine fun(hcp:_≤cap)=> ?_|refine fun(b:Bool)=> ?_|refine hKX _ _ _ ?_|refine hKY _ _ _ ?_|refine hKZ _ _ _ ?_)| (first| (with_reducible first|refine Y1 fun K hK=> ?_|refine Y2 fun K hK=> ?_|refine Y3 fun A B hA hB=> ?_|refine Y4 (by omega) ?_|refine Y5 (by omega) ?_|refine Y6 (fun h=> ?_) fun h=> ?_| (refine Y7 (fun h=> ?_) (fun h=> ?_)<;>try subst h))| (refine bhY hb hs hw3 hst (hRc.ar5 hs.pl hs.sl (fun id hid=>ff id hid)) ?_))<;>(simp only[go_sem,bfZ,f1,f2,fg1,fg2,fub,fx1,fo1,fp1,blB,gr,gs,hmod,hur,hmd,hB,hAj,hAq,hAo,hAp,hAs,hA1,hAn,k0,k1,k2,k3,k5,k8,k11,k33,hle1,htk1,htk2,htk3,hgk,hgv,List.nil_append,List.length_map,List.length_drop,List.set_set,Nat.add_assoc,Nat.left_eq_add,Nat.add_eq_left];try simp (disch:=omega) only[Iw])| ((with_reducible first|refine Y8 ?_|refine Y9 ?_);try simp only[AQ.then,AQ.blk,reduceIte,Nat.reduceEqDiff])| ((with_reducible refine Y0 ?_);simp only[AQ.then,AQ.blk])| ((with_reducible refine Z8 (fun h=> ?_) (fun h=> ?_))<;>try subst h)|refine⟨by omega,?_⟩| (refine⟨by(rw[List.length_take];omega),?_⟩)| (with_reducible first|refine hKB _ _ _ ?_| (clear hKB KB;refine hKB _ _ _ ?_)| (clear hKB KB;clear hKB KB;refine hKB _ _ _ ?_))|fail)
    rename_i cap1 hcap1 hcp1 cap2 hcap2 hcp2
    have hlw:AO c s u st=some who:=by
     rw[hwho]
     refine ahR (by rw[hv];omega) hj1 hj3 hinv ?_
     rw[←hwho];unfold KE;rw[huw,hmd];rfl
    have hn:bhV c s u st=(aR c s (.adm who st),u.set who true):=by unfold bhV;rw[hlw]
    rw[hn] at h
    refine hQ _ _ _ _ _ (.inr rfl) (LL rfl aA.bH rfl) ?_
    obtain⟨s',hs'⟩: ∃s',s'=aR c s (.adm who st):=⟨_,rfl⟩
    rw[←hs'] at h
    have hn0':(aF s who).queue.getD 0 default=n0:=by rw[hp,hn0]
    have hpd':aF s' who= {p with queue:=p.queue.drop 1,out:=p.out++[⟨who,n0,st⟩]}:=by rw[hs',bL rfl (by rw[hs.pl];omega),if_pos rfl,hn0',hp]
    have hvd':aL s' st= {v with pipe:=v.pipe++[⟨who,n0,c.lat.getD st default⟩],last:=who}:=by rw[hs',bO rfl (by rw[hs.sl];omega),if_pos rfl,hn0',hv]
    have inj:=hR.names.inj
    have i23:nm 2≠nm 3:=fun he=>by have:=inj 2 3 (by omega) (by omega) he;omega
    have iu2:ub≠nm 2:=fun he=>of_eq_false hAj he.symm
    have iu3:ub≠nm 3:=fun he=>of_eq_false hAs he.symm
    have iu8:ub≠nm (8+who):=fun he=>of_eq_false hAo he.symm
    have iu11:ub≠nm (11+st):=fun he=>of_eq_false hAp he.symm
    generalize aYL:aA.set _ (nx+2) _=W
    have w47:W (nx1+47)=some ⟨1,cap1,(p.queue.drop 1).map aJ⟩:=by rw[←aYL];simp (disch:=omega) only[aA.aC,aA.bH]
    have w61:W (nx1+61)=some ⟨3,cap2,(p.out++[(⟨who,n0,st⟩:fC)]).map eCJ⟩:=by rw[←aYL,List.map_append];simp (disch:=omega) only[aA.aC,aA.bH];rfl
    have w83:W (nx1+83)=some ⟨3,cap,(v.pipe++[(⟨who,n0,c.lat.getD st default⟩:fC)]).map eCJ⟩:=by rw[←aYL,List.map_append];simp (disch:=omega) only[aA.aC,aA.bH];rfl
    have w2:W (nm 2)=some ⟨4,mp,rp.set who [cI p.next,.osl 1 (nx1+47) 0 (p.queue.length-1) cap1,.osl 3 (nx1+61) 0 (p.out.length+1) cap2,cI p.last]⟩:=by rw[←aYL];simp (disch:=omega) only[aA.aC,aA.bH]
    have bk6:W (nm 3)=some ⟨3,mv,rv.set st [.osl 3 (nx1+83) 0 (v.pipe.length+1) cap,.osl 5 (nm (15+st)) do_ v.done.length dc,cI who]⟩:=by rw[←aYL];simp (disch:=omega) only[aA.aC,aA.bH]
    have wub:W ub=some ⟨1,um,(u.set who true).map eH⟩:=by rw[←aYL];simp (disch:=omega) only[aA.aC,aA.bH];rw[List.map_set];rfl
    have wf: ∀id,id<nx→id≠ub→id≠nm 2→id≠nm 3→id≠nm (8+who)→id≠nm (11+st)→W id=H id:=fun id h1 h2 h3 h4 h5 h6=>by
     rw[←aYL];simp (disch:=omega) only[aA.aC,aA.jG];exact ff id h1
    clear aYL
    have wk: ∀a,a<19→a≠2→a≠3→a≠8+who→a≠11+st→W (nm a)=H (nm a):=fun a h1 h2 h3 h4 h5=>wf _ (lt a h1) (fun he=>hR.names.av a h1 (he▸hub)) (fun he=>h2 (inj a 2 h1 (by omega) he)) (fun he=>h3 (inj a 3 h1 (by omega) he)) (fun he=>h4 (inj a (8+who) h1 (by omega) he)) (fun he=>h5 (inj a (11+st) h1 (by omega) he))
    obtain⟨nm',hnm'⟩: ∃nm',nm'=put (put (put nm (5+who) (nx1+47)) (8+who) (nx1+61)) (11+st) (nx1+83):=⟨_,rfl⟩
    have pn: ∀a,a≠5+who→a≠8+who→a≠11+st→nm' a=nm a:=fun a h1 h2 h3=>by rw[hnm',jE h3,jE h2,jE h1]
    have p5':nm' (5+who)=nx1+47:=by rw[hnm',jE (by omega),jE (by omega),t8]
    have p8':nm' (8+who)=nx1+61:=by rw[hnm',jE (by omega),t8]
    have p11':nm' (11+st)=nx1+83:=by rw[hnm',t8]
    have hXl: ∀z,nx≤z→¬X z:=fun z hz hn=>by have:=hX z hn;omega
    have hN:Names X (nx1+96) nm':=by
     rw[hnm']
     exact((hR.names.put (nx':=nx1+48) (by omega) (by omega) (hXl _ (by omega))).put (nx':=nx1+62) (by omega) (by omega) (hXl _ (by omega))).put (by omega) (by omega) (hXl _ (by omega))
    have ews:s'.words=s.words:=by rw[hs'];rfl
    have ehs:s'.holds=s.holds:=by rw[hs'];rfl
    have ets:s'.told=s.told:=by rw[hs'];rfl
    refine h W _ nm' _ (by omega) ⟨⟨⟨wc,hc,pc,vc,tc,?_,?_,?_,?_,bkU,bkV⟩,⟨mp,rp.set who [cI p.next,.osl 1 (nx1+47) 0 (p.queue.length-1) cap1,.osl 3 (nx1+61) 0 (p.out.length+1) cap2,cI p.last],?_,by rw[List.length_set,g8],fun k hk=> ?_⟩,⟨mv,rv.set st [.osl 3 (nx1+83) 0 (v.pipe.length+1) cap,.osl 5 (nm (15+st)) do_ v.done.length dc,cI who],?_,by rw[List.length_set,g9],fun k hk=> ?_⟩⟩,hN,fun id hid=>by have:=hX id hid;omega⟩ wub fun id hid hne=> ?_
    ·rw[U2,ews,ehs,ets,pn 0 (by omega) (by omega) (by omega),pn 1 (by omega) (by omega) (by omega),pn 2 (by omega) (by omega) (by omega),pn 3 (by omega) (by omega) (by omega),pn 4 (by omega) (by omega) (by omega)]
    ·rw[ews,pn 0 (by omega) (by omega) (by omega)];exact g3.frame (wk 0 (by omega) (by omega) (by omega) (by omega) (by omega))
    ·rw[ehs,pn 1 (by omega) (by omega) (by omega)];exact g4.frame (wk 1 (by omega) (by omega) (by omega) (by omega) (by omega))
    ·rw[ets,pn 4 (by omega) (by omega) (by omega)];exact g5.frame (wk 4 (by omega) (by omega) (by omega) (by omega) (by omega))
    ·rw[pn 2 (by omega) (by omega) (by omega)];exact w2
    ·by_cases hkw:k=who
     ·subst hkw
      refine⟨_,hgk _,⟨0,cap1,cap2,?_,?_,?_⟩⟩
      ·rw[hpd',p5',p8'];simp only[af5,List.length_drop,List.length_append,List.length_singleton]
      ·rw[hpd',p5']
       exact⟨cap1,_,w47,rfl,by simp,by simp,by simp;omega,by omega⟩
      ·rw[hpd',p8']
       exact⟨cap2,_,w61,rfl,by simp,by simp,by simp;omega,by omega⟩
     ·obtain⟨qo',qc',oc',y1,aHC,aHD⟩:=ga k hk
      have e:aF s' k=aF s k:=by rw[hs',bL rfl (by rw[hs.pl];omega),if_neg hkw]
      refine⟨_,by rw[List.getElem?_set_ne (Ne.symm hkw)];exact y1,⟨qo',qc',oc',?_,?_,?_⟩⟩
      ·rw[e,pn (5+k) (by omega) (by omega) (by omega),pn (8+k) (by omega) (by omega) (by omega)];rfl
      ·rw[e,pn (5+k) (by omega) (by omega) (by omega)];exact aHC.frame (wk (5+k) (by omega) (by omega) (by omega) (by omega) (by omega))
      ·rw[e,pn (8+k) (by omega) (by omega) (by omega)];exact aHD.frame (wk (8+k) (by omega) (by omega) (by omega) (by omega) (by omega))
    ·rw[pn 3 (by omega) (by omega) (by omega)];exact bk6
    ·by_cases hks:k=st
     ·subst hks
      refine⟨_,hgv _,⟨0,cap,do_,dc,?_,?_,?_⟩⟩
      ·rw[hvd',p11',pn (15+k) (by omega) (by omega) (by omega)];simp only[aj9,List.length_append,List.length_singleton]
      ·rw[hvd',p11']
       exact⟨cap,_,w83,rfl,by simp,by simp,by simp;omega,by omega⟩
      ·rw[hvd',pn (15+k) (by omega) (by omega) (by omega)];exact gd.frame (wk (15+k) (by omega) (by omega) (by omega) (by omega) (by omega))
     ·obtain⟨po',pc',do',dc',y1,aHC,aHD⟩:=gb k hk
      have e:aL s' k=aL s k:=by rw[hs',bO rfl (by rw[hs.sl];omega),if_neg hks]
      refine⟨_,by rw[List.getElem?_set_ne (Ne.symm hks)];exact y1,⟨po',pc',do',dc',?_,?_,?_⟩⟩
      ·rw[e,pn (11+k) (by omega) (by omega) (by omega),pn (15+k) (by omega) (by omega) (by omega)];rfl
      ·rw[e,pn (11+k) (by omega) (by omega) (by omega)];exact aHC.frame (wk (11+k) (by omega) (by omega) (by omega) (by omega) (by omega))
      ·rw[e,pn (15+k) (by omega) (by omega) (by omega)];exact aHD.frame (wk (15+k) (by omega) (by omega) (by omega) (by omega) (by omega))
    ·have av:=hR.names.av
     exact wf id (hX id hid) hne (fun he=>av 2 (by omega) (he▸hid)) (fun he=>av 3 (by omega) (he▸hid)) (fun he=>av (8+who) (by omega) (he▸hid)) (fun he=>av (11+st) (by omega) (he▸hid))
   ·have hmd:decide (HV c s who st)=false:=decide_eq_false hmay
    repeat' (first| (with_reducible first| (refine hK _ _ _ ?_;clear hK K)| (refine hA ?_;clear hA hB A B)| (refine hB ?_;clear hA hB A B)|refine Z1 ?_|refine Z2 ?_|refine Z3 fun KB hKB=> ?_|refine Z4 (by omega) ?_|refine Z5 (by omega) ?_|refine Z6 (fun h=> ?_) fun h=> ?_|refine Z7 (fun h=> ?_) fun h=> ?_|refine fun(cap:Nat) (hcap:_≤cap)=> ?_|refine fun(hcp:_≤cap)=> ?_|refine fun(b:Bool)=> ?_|refine hKX _ _ _ ?_|refine hKY _ _ _ ?_|refine hKZ _ _ _ ?_)| (first| (with_reducible first|refine Y1 fun K hK=> ?_|refine Y2 fun K hK=> ?_|refine Y3 fun A B hA hB=> ?_|refine Y4 (by omega) ?_|refine Y5 (by omega) ?_|refine Y6 (fun h=> ?_) fun h=> ?_| (refine Y7 (fun h=> ?_) (fun h=> ?_)<;>try subst h))| (refine bhY hb hs hw3 hst (hRc.ar5 hs.pl hs.sl (fun id hid=>ff id hid)) ?_))<;>(simp only[go_sem,bfZ,f1,fg2,fub,gs,hmod,hur,hmd,Nat.add_assoc,Nat.left_eq_add,Nat.add_eq_left];try simp (disch:=omega) only[Iw])| ((with_reducible first|refine Y8 ?_|refine Y9 ?_);try simp only[AQ.then,AQ.blk,reduceIte,Nat.reduceEqDiff])| ((with_reducible refine Y0 ?_);simp only[AQ.then,AQ.blk])| ((with_reducible refine Z8 (fun h=> ?_) (fun h=> ?_))<;>try subst h)|refine⟨by omega,?_⟩| (refine⟨by(rw[List.length_take];omega),?_⟩)| (with_reducible first|refine hKB _ _ _ ?_| (clear hKB KB;refine hKB _ _ _ ?_)| (clear hKB KB;clear hKB KB;refine hKB _ _ _ ?_))|fail)
    exact hKL _ _ _ (j+1) noF _ (by omega) (by omega) (by repeat' (first| (with_reducible first|exact C1|refine C2 ?_ ?_|exact C3|refine C4 ?_ ?_|refine aUP ?_ ?_|refine bfY ?_ ?_ ?_|refine aUQ ?_|refine aUR ?_)| ((with_reducible refine C0 ?_);first|exact CB rfl|exact CC| (exact CQ (by omega) rfl rfl (by first|rfl| (simp;done)|omega| (dsimp only;omega)) rfl)|exact CE (by omega) rfl|exact CR (by omega) rfl|exact CF|exact CH (by first|rfl|assumption)| (exact CG (by first|rfl| (simp;done)| (congr 2;omega)| ((try dsimp only);exact dbT (by omega))| ((try dsimp only);exact dbF (by omega))| ((try dsimp only);exact(dbT (by omega)).symm)| ((try dsimp only);exact(dbF (by omega)).symm)| ((try dsimp only);exact dbE (by omega))| ((try dsimp only);exact diE (by omega))) rfl))| ((with_reducible refine D0 ?_);first|exact CA rfl|exact CI rfl (by simp) rfl rfl rfl|refine C9 ?_|refine CJ ?_)|exact C3|refine C4 ?_ ?_|fail)) aK ⟨by omega,by omega,rfl,hback (by unfold KE;rw[huw,hmd];rfl)⟩
 ·have hn:bhV c s u st=(s,u):=by unfold bhV;rw[ah0 fun j' h1 h2=>hinv j' h1 (by omega)]
  rw[hn] at h
  repeat' (first| (with_reducible first| (refine hK _ _ _ ?_;clear hK K)| (refine hA ?_;clear hA hB A B)| (refine hB ?_;clear hA hB A B)|refine Z1 ?_|refine Z2 ?_|refine Z3 fun KB hKB=> ?_|refine Z4 (by omega) ?_|refine Z5 (by omega) ?_|refine Z6 (fun h=> ?_) fun h=> ?_|refine Z7 (fun h=> ?_) fun h=> ?_|refine fun(cap:Nat) (hcap:_≤cap)=> ?_|refine fun(hcp:_≤cap)=> ?_|refine fun(b:Bool)=> ?_|refine hKX _ _ _ ?_|refine hKY _ _ _ ?_|refine hKZ _ _ _ ?_)| (with_reducible first|refine Y1 fun K hK=> ?_|refine Y2 fun K hK=> ?_|refine Y3 fun A B hA hB=> ?_|refine Y4 (by omega) ?_|refine Y5 (by omega) ?_|refine Y6 (fun h=> ?_) fun h=> ?_| (refine Y7 (fun h=> ?_) (fun h=> ?_)<;>try subst h))<;>(simp only[go_sem,bfZ,f1,f2,Nat.add_assoc,Nat.left_eq_add,Nat.add_eq_left];try simp (disch:=omega) only[Iw])| ((with_reducible first|refine Y8 ?_|refine Y9 ?_);try simp only[AQ.then,AQ.blk,reduceIte,Nat.reduceEqDiff])| ((with_reducible refine Y0 ?_);simp only[AQ.then,AQ.blk])| ((with_reducible refine Z8 (fun h=> ?_) (fun h=> ?_))<;>try subst h)|refine⟨by omega,?_⟩| (refine⟨by(rw[List.length_take];omega),?_⟩)| (with_reducible first|refine hKB _ _ _ ?_| (clear hKB KB;refine hKB _ _ _ ?_)| (clear hKB KB;clear hKB KB;refine hKB _ _ _ ?_))|fail)
  refine hQ _ _ _ _ _ (.inr rfl) (LL rfl aA.bH rfl) ?_
  refine h _ _ nm _ (by omega) (hR.frame (by omega) fun id hid _=>by rw[aA.aC (by omega)];exact ff id hid) (by rw[aA.aC (by omega)];exact fub) fun id hid _=> ?_
  have:=hX id hid
  rw[aA.aC (by omega)];exact ff id this
end
end Go.Proofs.Ytmccpdapaccnoaa
