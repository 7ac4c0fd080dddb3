/- Texts laid together by a program: rules, contracts and the walk that leads to the law. -/
import Derived.Test.YtmccpdapaccnoaaGreatPD15
import Derived.Test.YtmccpdapaccnoaaGreatPD19
import Derived.Test.YtmccpdapaccnoaaGreatPD7
import Derived.Test.YtmccpdapaccnoaaGreatPD17
import Derived.Test.YtmccpdapaccnoaaGreatPD12
import Derived.Test.YtmccpdapaccnoaaGreatPD16
set_option linter.unusedVariables false
set_option linter.unusedSimpArgs false
set_option linter.unusedSectionVars false
set_option maxRecDepth 100000
set_option maxHeartbeats 8000000
namespace Go.AM
structure bgJ (X:Nat→Prop) (H:aA) (nx:Nat) (nm:Nat→Nat) (s:CSt) (cells:List D1):Prop where
 rep:abY H nm s cells
 names:Names X nx nm
 x: ∀id,X id→id<nx
variable{H:aA}{nx:Nat}{nm:Nat→Nat}{cells:List D1}
theorem bgJ.box{X:Nat→Prop}{H':aA}{nx' i0:Nat}{s:CSt} (h:bgJ X H nx nm s cells) (hx:nx≤i0) (hi:i0<nx') (h0:H' i0=some ⟨5,1,[cells]⟩) (hf: ∀id,id<nx→H' id=H id):Rep X H' nx' i0 nm s:=⟨⟨cells,h0,h.rep.frame fun k hk=>hf _ (h.names.lt k hk)⟩,h.names.mono (by omega),fun k hk he=>by have:=h.names.lt k hk;omega,⟨hi,fun hn=>by have:=h.x _ hn;omega⟩,fun id hid=>by have:=h.x id hid;omega⟩
theorem bgJ.frame {X:Nat→Prop} {H H':aA} {nx nx':Nat} {nm:Nat→Nat} {s:CSt} {cells:List D1} (h:bgJ X H nx nm s cells) (hx:nx≤nx') (hf: ∀id,id<nx→¬X id→H' id=H id):bgJ X H' nx' nm s cells:=⟨h.rep.frame fun k hk=>hf _ (h.names.lt k hk) (h.names.av k hk),h.names.mono hx,fun id hid=>by have:=h.x id hid;omega⟩
theorem bgJ.ar5{X:Nat→Prop}{G:aA}{s:CSt} (h:bgJ X H nx nm s cells) (hp:s.bM.length=3) (hs:s.dD.length=4) (hf: ∀id,id<nx→G id=H id):CvD G (fun _=>True) id 0 (boR (eI s)) (boR cells):=lY (A8 ((h.rep.frame fun k hk=>hf _ (h.names.lt k hk)).VI (fun _ _=>trivial) hp hs))
theorem bgJ.len{X:Nat→Prop}{s:CSt} (h:bgJ X H nx nm s cells):cells.length=5:=by obtain⟨⟨_,_,_,_,_,rfl,_⟩,_,_⟩:=h.rep;rfl
theorem bgJ.get{X:Nat→Prop}{s:CSt} (h:bgJ X H nx nm s cells):
 ∃wc hc pc vc tc mp rp mv rv,cells=[.osl 1 (nm 0) 0 s.words.length wc,.osl 1 (nm 1) 0 s.holds.length hc,.osl 4 (nm 2) 0 3 pc,.osl 3 (nm 3) 0 4 vc,.osl 5 (nm 4) 0 s.told.length tc]∧H (nm 2)=some ⟨4,mp,rp⟩∧H (nm 3)=some ⟨3,mv,rv⟩∧
  tZ H 1 (nm 0) 0 s.words.length wc (s.words.map aJ)∧tZ H 1 (nm 1) 0 s.holds.length hc (s.holds.map aJ)∧tZ H 5 (nm 4) 0 s.told.length tc (s.told.map aS)∧3≤pc∧4≤vc∧rp.length=3∧rv.length=4∧
  (∀k,k<3→∃qo qc oc,rp[k]?=some [cI (aF s k).next,.osl 1 (nm (5+k)) qo (aF s k).queue.length qc,.osl 3 (nm (8+k)) 0 (aF s k).out.length oc,cI (aF s k).last]∧tZ H 1 (nm (5+k)) qo (aF s k).queue.length qc ((aF s k).queue.map aJ)∧tZ H 3 (nm (8+k)) 0 (aF s k).out.length oc ((aF s k).out.map eCJ))∧
  ∀k,k<4→∃po pc do_ dc,rv[k]?=some [.osl 3 (nm (11+k)) po (aL s k).pipe.length pc,.osl 5 (nm (15+k)) do_ (aL s k).done.length dc,cI (aL s k).last]∧tZ H 3 (nm (11+k)) po (aL s k).pipe.length pc ((aL s k).pipe.map eCJ)∧tZ H 5 (nm (15+k)) do_ (aL s k).done.length dc ((aL s k).done.map aS):=by
 obtain⟨⟨wc,hc,pc,vc,tc,rfl,q1,q2,q3,q4,q5⟩,⟨mp,rp,j1,j2,j3⟩,⟨mv,rv,j4,j5,j6⟩⟩:=h.rep
 refine⟨wc,hc,pc,vc,tc,mp,rp,mv,rv,rfl,j1,j4,q1,q2,q3,q4,q5,j2,j5,fun k hk=> ?_,fun k hk=> ?_⟩
 ·obtain⟨r,h1,⟨qo,qc,oc,rfl,h2⟩⟩:=j3 k hk;exact⟨qo,qc,oc,h1,h2⟩
 ·obtain⟨r,h1,⟨po,pc,do_,dc,rfl,h2⟩⟩:=j6 k hk;exact⟨po,pc,do_,dc,h1,h2⟩
theorem Rep.bkO{X:Nat→Prop}{H':aA}{nx' i0:Nat}{s:CSt} (h:Rep X H nx i0 nm s) (who st:Nat) (nm':Nat→Nat) (s':CSt) (hx:nx≤nx') (hN:Names X nx' nm')
 (hk: ∀k,k<19→nm' k=nm k∨((k=4∨k=5+who∨k=8+who∨k=11+st∨k=15+st)∧nx≤nm' k))
 (hfr: ∀id,id<nx→id≠i0→(∀k,k<5∨k=5+who∨k=8+who∨k=11+st∨k=15+st→k<19→id≠nm k)→H' id=H id)
 (e1: ∃wc hc pc vc tc,H' i0=some ⟨5,1,[U2 nm' s' wc hc pc vc tc]⟩∧tZ H' 1 (nm' 0) 0 s'.words.length wc (s'.words.map aJ)∧tZ H' 1 (nm' 1) 0 s'.holds.length hc (s'.holds.map aJ)∧tZ H' 5 (nm' 4) 0 s'.told.length tc (s'.told.map aS)∧3≤pc∧4≤vc)
 (e2: ∃m rows m0 rows0,H (nm 2)=some ⟨4,m0,rows0⟩∧H' (nm 2)=some ⟨4,m,rows⟩∧rows.length=3∧(∀k,k<3→k≠who→rows[k]?=rows0[k]?)∧(who<3→∃r,rows[who]?=some r∧CX H' (nm' (5+who)) (nm' (8+who)) (aF s' who) r))
 (e3: ∃m rows m0 rows0,H (nm 3)=some ⟨3,m0,rows0⟩∧H' (nm 3)=some ⟨3,m,rows⟩∧rows.length=4∧(∀k,k<4→k≠st→rows[k]?=rows0[k]?)∧(st<4→∃r,rows[st]?=some r∧LJ H' (nm' (11+st)) (nm' (15+st)) (aL s' st) r))
 (hw:who<3∨who=14) (hs:st<4∨st=8) (hp: ∀k,k<3→k≠who→aF s' k=aF s k) (hv: ∀k,k<4→k≠st→aL s' k=aL s k):Rep X H' nx' i0 nm' s'∧ ∀id,X id→H' id=H id:=by
 have hav:=h.names.av
 have hi0:=h.i0
 have hlt:=h.names.lt
 refine⟨h.upd (who:=who) (st:=st) hx hN (fun k hk19=> ?_) (fun k hk19 h1 h2 h3 h4 h5=> ?_) (fun k h5 hk19 h1 h2 h3 h4=> ?_) e1 e2 e3 hw hs hp hv,fun id hid=>hfr id (h.x id hid) (fun he=>hi0.2 (he▸hid)) fun k _ hk he=>hav k hk (he▸hid)⟩
 ·rcases hk k hk19 with h1|h1;·rw[h1];exact h.ne k hk19
  ·omega
 ·rcases hk k hk19 with h6|h6;·exact h6
  ·omega
 ·refine hfr _ (hlt k hk19) (h.ne k hk19) fun j hj hj19 he=> ?_;have:=h.names.inj k j hk19 hj19 he;omega
theorem bjZ{n:Nat}{R:List (List D1)} (h:alR n R):alR n (R.drop 1):=fun r hr=>h r (bsE hr)
theorem bkE{F:Nat→Prop}{a a':D} (h:CvD H F id nx a' a): ∀(i:Nat) (d0 d:D),[a'][i]?=some d0→[a][i]?=some d→CvD H F id nx d0 d:=by
 intro i d0 d h1 h2
 match i with
 |0=>simp at h1 h2;subst h1;subst h2;exact h
 |i+1=>simp at h1
theorem bkH{F:Nat→Prop}{a a' b:D} (h:CvD H F id nx a' a) (hb:b.imm=true): ∀(i:Nat) (d0 d:D),[a',b][i]?=some d0→[a,b][i]?=some d→CvD H F id nx d0 d:=by
 intro i d0 d h1 h2
 match i with
 |0=>simp at h1 h2;subst h1;subst h2;exact h
 |1=>simp at h1 h2;subst h1;subst h2;exact aE hb
 |i+2=>simp at h1
theorem tZ.cvD{F:Nat→Prop}{n id0 off len cap:Nat}{R:List (List D1)} (h:tZ H n id0 off len cap R) (hi:alR n R) (hF:F id0):CvD H F id nx (dS R) (.one (.c (.osl n id0 off len cap))):=.frz (h.frz hi hF)
theorem tZ.bkI{n id0 off len cap:Nat}{R:List (List D1)} (h:tZ H n id0 off len cap R) (h0:0<len):tZ H n id0 (off+1) (len-1) (cap-1) (R.drop 1):=by obtain⟨m,rows,h1,h2,h3,h4,h5,h6⟩:=h.ex;exact⟨m,rows,h1,by rw[←h2,Y2],by omega,by rw[CI];omega,by omega,by omega⟩
end Go.AM
namespace Go.Proofs.YtmccpdapaccnoaaGreat
open Go Go.AM
attribute [local irreducible] aM wv aB vd wvH
section
variable {H : aA} {nx : Nat} {K : D → aA → Nat → Prop}
def bh2 (n:Int) (l:List fC):List fC:=l.filter fun j=>decide (¬j.n=n)
theorem bj6 {n:Int} {l:List fC} {k:Nat} (hk:k<l.length):bh2 n (l.take (k+1))=if (l.getD k default).n=n then bh2 n (l.take k) else bh2 n (l.take k)++[l.getD k default]:=by
 unfold bh2;rw[nK hk,List.filter_append];by_cases h:(l.getD k default).n=n;·rw[if_pos h,br3,if_neg (by simpa using h)];simp
 ·rw[if_neg h,br3,if_pos (by simpa using h)];simp
theorem bi5:cJ Tryz.prog bhB Tryz.f229 bg4 bhR:=cJ.mk Tryz.func229 (by kernel_rfl) biU
theorem bjO {l:List fC} {n:Int} (hl:l.length<2^21)
 (h: ∀H' nx' b cap,nx≤b→b<nx'→Own eCJ 3 H' b cap (bh2 n l)→(∀id,id<nx→H' id=H id)→K (.one (.c (.osl 3 b 0 (bh2 n l).length cap))) H' nx'):aB Tryz.prog bhB [dS (l.map eCJ),boP n] H nx K:=by
 refine bi5 rfl fun Q hQ=> ?_
 unfold bg4
 repeat' first|apply bn1<;>(simp only[go_sem,boC])|fail
 refine aM.gP (β:=Nat×Nat×Nat) (fun u=>en [(6,boP u.1),(5,.one (.c (.osl 3 u.2.1 0 (bh2 n (l.take u.1)).length u.2.2))),(1,boP n),(0,dS (l.map eCJ))])
  (fun u H1 nx1=>u.1≤l.length∧Own eCJ 3 H1 u.2.1 u.2.2 (bh2 n (l.take u.1))∧(nx≤u.2.1∧u.2.1<nx1)∧ ∀id,id<nx→H1 id=H id)
  (fun u=>l.length-u.1) (0,nx+1,0) ⟨noF,_,by repeat' first|exact bo2|refine xqI rfl rfl ?_| (with_reducible apply bo3)| ((with_reducible apply bo0);exact bpA)| ((with_reducible apply bo1);apply bo7)|fail,aK,by dsimp only;omega,⟨0,by simp only[aA.set,if_true];rfl,m5 _,m5 _⟩,by dsimp only;omega,fun id hid=>by simp only[aA.set,show ¬id=nx+1 by omega,if_false]⟩ ?_
 rintro⟨k,b,cp⟩ H1 nx1 hnx ⟨hk,⟨m,g1,g2,g3⟩,⟨hb1,hb2⟩,hfr⟩ bpQ hKL
 dsimp only at hk g1 g2 g3 hb1 hb2
 have hA:bQ nx1 [b]:=AM.apart (by simp) (by simp;omega)
 simp only[bQ,eZ] at hA
 by_cases hlt:k<l.length
 ·obtain⟨x,hx⟩: ∃x,l.getD k default=x:=⟨_,rfl⟩
  have hs:=bj6 (n:=n) hlt;rw[hx] at hs;have htt: ∀r:List fC,r.take r.length=r:=fun r=>bq4;by_cases hn:x.n=n
  ·rw[if_pos hn] at hs;have hnt:(x.n=n)=True:=eq_true hn;repeat' first|apply bn1<;>(simp only[go_sem,hx,hnt,boC];try simp (disch:=omega) only[Iw])|apply bn2 (by omega)|refine⟨by omega,?_⟩|fail
   exact hKL _ _ _ (k+1,b,cp) noF _ (by omega) (by dsimp only;omega) (by dsimp only;rw[hs];repeat' first|exact bo2|refine xqI rfl rfl ?_|refine xqO (by omega) rfl rfl (by rfl) ?_|fail) aK ⟨by dsimp only;omega,by dsimp only;rw[hs];exact⟨m,g1,g2,g3⟩,by dsimp only;omega,hfr⟩
  ·rw[if_neg hn] at hs;have hnt:(x.n=n)=False:=eq_false hn;have hle:(bh2 n (l.take k)).length≤k:=CQ (List.length_filter_le _ _) (by rw[CG];omega);repeat' first|apply bn1<;>(simp only[go_sem,hx,hnt,htt,g1,hA,boC];try simp (disch:=omega) only[Iw])|apply bn2 (by omega)| (with_reducible first|refine fun(cap:Nat) (hcap:_≤cap)=> ?_|refine fun(hcp:_≤cap)=> ?_)|refine⟨by omega,?_⟩|fail
   refine hKL _ _ _ (k+1,nx1+17,cap) noF _ (by omega) (by dsimp only;omega) (by dsimp only;rw[hs,t2,List.length_singleton];repeat' first|exact bo2|refine xqI rfl rfl ?_|refine xqO (by omega) rfl rfl (by rfl) ?_|fail) aK ⟨by dsimp only;omega,by dsimp only;rw[hs];exact⟨cap,aA.bH,by rw[t2,List.length_singleton];omega,m5 _⟩,by dsimp only;omega,fun id hid=> ?_⟩;rw[aA.aC (by omega),aA.aC (by omega),aA.jG (by omega)];exact hfr id hid
 ·repeat' first|apply bn1<;>(simp only[go_sem])|apply bn3 (by omega)|fail
  have hk2:k=l.length:=by omega
  subst hk2;rw[bq4] at g1 g2;rw[show (bh2 n (l.take l.length))=bh2 n l by rw[bq4]];exact hQ _ _ _ _ _ (.inr rfl) rfl (h _ _ b cp hb1 (by omega) ⟨m,g1,g2,g3⟩ hfr)
end
end Go.Proofs.YtmccpdapaccnoaaGreat
namespace Go.AM
theorem bkA {l:List fC} {n:Int} (h:l.Pairwise fun a b=>a.n<b.n) (he: ∃j∈l,j.n=n):l.filter (fun j=>decide (¬j.n=n))=PE l n:=by
 induction l with
 |nil=>obtain⟨j,hj,_⟩:=he;simp at hj
 |cons x l ih=>
  rw[G0] at h;by_cases hx:x.n=n
  ·have hf: ∀j∈l,decide (¬j.n=n)=true:=fun j hj=>by have:=h.1 j hj;exact decide_eq_true (by omega)
   rw[br3,if_neg (by simpa using hx),List.filter_eq_self.2 hf];unfold PE B3;rw[show bK (isC n) (x::l)=0 by unfold bK;rw[List.findIdx?_cons,if_pos (show isC n x=true from decide_eq_true hx)];rfl];rfl
  ·obtain⟨j,hj,hjn⟩:=he;have hjl: ∃j∈l,j.n=n:=⟨j,by rcases t3.1 hj with rfl|h2;exact absurd hjn hx;exact h2,hjn⟩
   have h0:0≤bK (isC n) l:=cH.2 (by obtain⟨j,q1,q2⟩:=hjl;exact⟨j,q1,decide_eq_true q2⟩);rw[br3,if_pos (by simpa using hx),ih h.2 hjl];unfold PE B3
   have e:bK (isC n) (x::l)=bK (isC n) l+1:=by
    unfold bK at h0 ⊢;rw[List.findIdx?_cons,if_neg (show ¬isC n x=true from fun h=>hx (of_decide_eq_true h))]
    cases hf:List.findIdx? (isC n) l with
    |none=>rw[hf] at h0;dsimp only at h0;omega
    |some k=>rfl
   rw[e,show (bK (isC n) l+1).toNat=(bK (isC n) l).toNat+1 by omega];rfl
end Go.AM
namespace Go.Proofs.YtmccpdapaccnoaaGreat
open Go Go.AM
attribute [local irreducible] aM wv aB vd wvH
theorem LL {H:aA} {e:Env} {t n id m:Nat} {cs:List D1} (he:e t= .one (.c (.ptr n id 0 0))) (ho:H id=some ⟨n,m,[cs]⟩) (hl:cs.length=n):yT H e [.cell t n true]=some (boR cs):=by subst hl;simp[yT,VP,he,tT,ho,mkV]
section
variable {H : aA} {nx : Nat} {K : D → aA → Nat → Prop}
theorem bjD:cJ Tryz.prog bg8 Tryz.f132 bg1 bhM:=cJ.mk Tryz.func132 (by kernel_rfl) biT
variable{cells:List D1}
theorem bjM{X:Nat→Prop}{c:Cfg}{i:CIn}{s:CSt}{k:Nat}{nm:Nat→Nat} (hb:aQ c) (hs:COk c s) (hk:k<3) (hr:i.ready.getD k default=true) (hR:bgJ X H nx nm s cells)
 (h: ∀H' nx' nm' cells',nx≤nx'→bgJ X H' nx' nm' (atS c s (vT i s k)) cells'→(∀id,X id→H' id=H id)→K (boR cells') H' nx'):
 aB Tryz.prog bg8 [boR cells,boP k] H nx K:=by
 refine bjD rfl fun Q hQ=> ?_
 unfold bg1
 have hX:=hR.x
 obtain⟨wc,hc,pc,vc,tc,mp,rp,mv,rv,hcell,g1,g2,g3,g4,g5,bkU,bkV,bp4,bp5,ga,gb⟩:=hR.get
 subst hcell
 repeat' first| (first|apply bn1|refine bjH hs hk hr (hR.ar5 hs.pl hs.sl (fun id hid=>by rw[aA.aC (by omega),aA.aC (by omega)])) (fun r hrr=> ?_))<;>(simp only[go_sem,boC])|fail
 generalize bqK:aA.set (aA.set H nx _) (nx+1) _=G
 have bfZ:G nx=some ⟨5,1,[[.osl 1 (nm 0) 0 s.words.length wc,.osl 1 (nm 1) 0 s.holds.length hc,.osl 4 (nm 2) 0 3 pc,.osl 3 (nm 3) 0 4 vc,.osl 5 (nm 4) 0 s.told.length tc]]⟩:=by rw[←bqK,aA.aC (by omega)];exact aA.bH
 have bpR:G (nx+1)=some ⟨5,1,[[D1.osl 0 0 0 0 0,D1.osl 0 0 0 0 0,D1.osl 0 0 0 0 0,D1.osl 0 0 0 0 0,D1.osl 0 0 0 0 0]]⟩:=by rw[←bqK];exact aA.bH
 have ff: ∀id,id<nx→G id=H id:=fun id hid=>by rw[←bqK,aA.aC (by omega),aA.aC (by omega)]
 clear bqK
 have hR0:Rep X G (nx+1) nx nm s:=hR.box (m5 _) (by omega) bfZ ff
 rcases hrr with⟨ho,rfl⟩|⟨st,hst4,ho,rfl⟩
 · (try simp only[go_sem,boC,bfZ,bpR,boC]);repeat' first|apply bn1<;>(simp only[go_sem,boC,bfZ,bpR,boC])|fail
   rw[ho] at h
   refine hQ _ _ _ _ _ (.inr rfl) (LL rfl aA.bH rfl) (h _ _ nm _ (by omega) (hR.frame (by omega) fun id hid _=>by rw[aA.aC (by omega)];exact ff id hid) fun id hid=> ?_)
   have:=hX id hid
   rw[aA.aC (by omega)];exact ff id this
 ·have hmic:=TB hs hk ho;obtain⟨_,_,hdl,hdw⟩:=hmic;obtain⟨p,hp⟩: ∃p,aF s k=p:=⟨_,rfl⟩
  obtain⟨v,hv⟩: ∃v,aL s st=v:=⟨_,rfl⟩
  obtain⟨qo,qc,oc,gr,gq,go⟩:=ga k hk;obtain⟨po,ppc,do_,dc,gs,gp,gd⟩:=gb st hst4;rw[hp] at gr gq go;rw[hv] at gs gp gd hdl hdw;obtain⟨d,hd⟩: ∃d,v.done.getD 0 default=d:=⟨_,rfl⟩
  rw[hd] at hdw;have lt:=hR.names.lt;have n2:=lt 2 (by omega);have bqP:=lt 3 (by omega);have az7:=lt 4 (by omega);have aAJ:=lt (8+k) (by omega);have n15:=lt (15+st) (by omega);have hA:bQ nx ([2,3,4,5+k,8+k,11+st,15+st].map nm):=AM.apart (hR.names.list (by simp;omega) (by simp;omega)) (fun x hx=>by obtain⟨j,hj,rfl⟩:=CF.1 hx;exact lt j (by simp at hj;omega));simp only[bQ,eZ,List.map] at hA;have fg1:G (nm 2)=some ⟨4,mp,rp⟩:=(ff _ n2).trans g1;have fg2:G (nm 3)=some ⟨3,mv,rv⟩:=(ff _ bqP).trans g2;obtain⟨md,rd,d1,d2,d3,bkS,bk2,bk3⟩:=gd.ex;have bk4:rd[do_]?=some (aS d):=by have:(rd.drop do_)[0]?=some (aS d):=(by rw[d2,p0,←hd];simp[List.getD,hdl]);rwa [s5,Nat.add_zero] at this
  have fd1:G (nm (15+st))=some ⟨5,md,rd⟩:=(ff _ n15).trans d1;(try simp only[go_sem,boC,bfZ,bpR,fg1,fg2,gr,gs,fd1,bk4,hA,boC]);repeat' first| (first|apply bn1|refine aB.ao4 (args':=[dS ((v.done.drop 1).map aS)]) (without (fun j=>j=nm (15+st)) _) (fun j=>j=nm (15+st)) rfl (bkE ?_) kS (aNQ ?_ ?_ fun H2 nx2 boZ c5 e1 e2 e3 e4=> ?_))<;>(simp only[go_sem,boC,bfZ,bpR,fg1,fg2,gr,gs,fd1,bk4,hA,boC])|apply bn3 (by omega)|refine⟨by omega,?_⟩|fail
  refine aB.ao4 (args':=[dS ((v.done.drop 1).map aS)]) (without (fun j=>j=nm (15+st)) _) (fun j=>j=nm (15+st)) rfl (bkE ?_) kS (aNQ ?_ ?_ fun H2 nx2 boZ c5 e1 e2 e3 e4=> ?_);·rw[brE];exact((gd.frame (by rw[aA.aC (by omega)];exact ff _ n15)).bkI hdl).cvD (bjZ (aG dZ _)) rfl
  ·have:=(hs.slv st hst4).dl;rw[hv] at this;rw[CI];omega
  ·intro j hj;have:=(hs.slv st hst4).rsp j (by rw[hv];exact bsE hj);have:=this.1.2.2.1;omega
  have bqB:H2 nx=some ⟨5,1,[[.osl 1 (nm 0) 0 s.words.length wc,.osl 1 (nm 1) 0 s.holds.length hc,.osl 4 (nm 2) 0 3 pc,.osl 3 (nm 3) 0 4 vc,.osl 5 (nm 4) 0 s.told.length tc]]⟩:=by rw[e4 _ (by omega),iI (by omega),aA.aC (by omega)];exact bfZ
  have q1:H2 (nx+1)=some ⟨5,1,[[D1.osl 0 0 0 0 0,D1.osl 0 0 0 0 0,D1.osl 0 0 0 0 0,D1.osl 0 0 0 0 0,D1.osl 0 0 0 0 0]]⟩:=by rw[e4 _ (by omega),iI (by omega),aA.aC (by omega)];exact bpR
  have qj:H2 (nx+16)=some ⟨5,1,[aS d]⟩:=by rw[e4 _ (by omega),iI (by omega)];exact aA.bH
  have qf: ∀id,id<nx→id≠nm (15+st)→H2 id=H id:=fun id h1 h2=>by rw[e4 _ (by omega),iI (F:=fun j=>j=nm (15+st)) h2,aA.aC (by omega)];exact ff _ h1
  have qg1:H2 (nm 2)=some ⟨4,mp,rp⟩:=(qf _ n2 (by simp[hA])).trans g1;have qg2:H2 (nm 3)=some ⟨3,mv,rv⟩:=(qf _ bqP (by simp[hA])).trans g2;(try simp only[go_sem,boC,bqB,q1,qj,qg1,qg2,gr,gs,hA,bq1,boC]);repeat' first|apply bn1<;>(simp only[go_sem,boC,bqB,q1,qj,qg1,qg2,gr,gs,hA,bq1,boC])|refine⟨by omega,?_⟩|fail
  refine aB.ao4 (args':=[dS (p.out.map eCJ),boP d.n]) (without (fun j=>j=nm (8+k)) _) (fun j=>j=nm (8+k)) rfl (bkH ?_ rfl) kS (bjO ?_ fun H3 nx3 bkQ bkY aUV aUW aIG aII=> ?_);·exact(go.frame (by rw[aA.aC (by simp[hA]),qf _ aAJ (by simp[hA])])).cvD (aG yK _) rfl
  ·have:=(hs.port k hk).ol;rw[hp] at this;omega
  have aAD: ∀id,id<nx2+15→id≠nm (8+k)→id≠nm 3→H3 id=H2 id:=fun id h1 h2 h3=>by rw[aII _ h1,iI (F:=fun j=>j=nm (8+k)) h2,aA.aC h3]
  have r0:=(aAD nx (by omega) (by omega) (by omega)).trans bqB;have r1:=(aAD (nx+1) (by omega) (by omega) (by omega)).trans q1;have rj:=(aAD (nx+16) (by omega) (by omega) (by omega)).trans qj;have rg1:H3 (nm 2)=some ⟨4,mp,rp⟩:=(aAD _ (by omega) (by simp[hA]) (by simp[hA])).trans qg1;have rg2:H3 (nm 3)=some ⟨3,mv,rv.set st [D1.osl 3 (nm (11+st)) po v.pipe.length ppc,D1.osl 5 boZ 0 (List.drop 1 v.done).length c5,cI v.last]⟩:=by rw[aII _ (by omega),iI (F:=fun j=>j=nm (8+k)) (by simp[hA])];exact aA.bH
  have rf: ∀id,id<nx→id≠nm (15+st)→id≠nm (8+k)→id≠nm 3→H3 id=H id:=fun id h1 h2 h3 h4=>(aAD id (by omega) h3 h4).trans (qf id h1 h2);obtain⟨mt,rt,bpN,bpO,bpP,bpY,aU1,aU2⟩:=g5.ex;rw[bq5] at bpO;subst bpO;have rt1:H3 (nm 4)=some ⟨5,mt,s.told.map aS⟩:=(rf _ az7 (by simp[hA]) (by simp[hA]) (by simp[hA])).trans bpN;have htl:s.told.length≤36:=by have:=hs.st.lens hb;simp only[cX] at this;omega
  have hgk: ∀r,(rp.set k r)[k]?=some r:=fun r=>by rw[bqZ (by omega)]
  have hA3:bQ nx3 ([2,3,4,5+k,8+k,11+st,15+st].map nm):=AM.apart (hR.names.list (by simp;omega) (by simp;omega)) (fun x hx=>by obtain⟨j,hj,rfl⟩:=CF.1 hx;have:=lt j (by simp at hj;omega);omega);simp only[bQ,eZ,List.map] at hA3;have hB3:bQ nx3 [nx,nx+1]:=AM.apart (by simp) (by simp;omega);simp only[bQ,eZ] at hB3;(try simp only[go_sem,boC,r0,r1,rj,rg1,rg2,rt1,gr,gs,hgk,hB3,hA3,hA,bq1,boC]);repeat' first|apply bn1<;>(simp only[go_sem,boC,r0,r1,rj,rg1,rg2,rt1,gr,gs,hgk,hB3,hA3,hA,bq1,boC])| (with_reducible first|refine fun(cap:Nat) (hcap:_≤cap)=> ?_|refine fun(hcp:_≤cap)=> ?_)|refine⟨by omega,?_⟩|fail
  refine hQ _ _ _ _ _ (.inr rfl) (LL rfl aA.bH rfl) ?_;generalize aYL:aA.set _ (nx+1) _=W;have bk1:W nx=some ⟨5,1,[[.osl 1 (nm 0) 0 s.words.length wc,.osl 1 (nm 1) 0 s.holds.length hc,.osl 4 (nm 2) 0 3 pc,.osl 3 (nm 3) 0 4 vc,.osl 5 (nx3+11) 0 (s.told.length+1) cap]]⟩:=by rw[←aYL,aA.aC (by omega)];exact aA.bH
  have bqI:W (nm 2)=some ⟨4,mp,rp.set k [cI p.next,.osl 1 (nm (5+k)) qo p.queue.length qc,.osl 3 bkQ 0 (bh2 d.n p.out).length bkY,cI st]⟩:=by rw[←aYL,aA.aC (by omega),aA.aC (by omega),aA.aC (by omega),aA.aC (by omega)];exact aA.bH
  have wo: ∀id,id<nx3→id≠nx→id≠nx+1→id≠nm 2→id≠nm 4→W id=H3 id:=fun id h1 h2 h3 h4 h5=>by rw[←aYL,aA.aC h3,aA.aC h2,aA.aC (by omega),aA.aC (by omega),aA.aC h4,aA.jG h5]
  have bk5:W (nx3+11)=some ⟨5,cap,(s.told++[d]).map aS⟩:=by rw[←aYL,aA.aC (by omega),aA.aC (by omega)];exact aA.bH
  clear aYL;have az8:=lt (5+k) (by omega);have n11:=lt (11+st) (by omega);have n0:=lt 0 (by omega);have bp0:=lt 1 (by omega);have wf: ∀id,id<nx→id≠nm 2→id≠nm 3→id≠nm 4→id≠nm (8+k)→id≠nm (15+st)→W id=H id:=fun id h1 h2 h3 h4 h5 h6=>(wo id (by omega) (by omega) (by omega) h2 h4).trans (rf id h1 h6 h5 h3);have bk6:=(wo (nm 3) (by omega) (by omega) (by omega) (by simp[hA]) (by simp[hA])).trans rg2;have bk7:Own aS 5 W boZ c5 (v.done.drop 1):=e3.of ((wo boZ (by omega) (by omega) (by omega) (by omega) (by omega)).trans (aAD boZ (by omega) (by omega) (by omega)));have bk8:Own eCJ 3 W bkQ bkY (bh2 d.n p.out):=aIG.of (wo bkQ (by omega) (by omega) (by omega) (by omega) (by omega));have inj:=hR.names.inj;obtain⟨nm',hnm'⟩: ∃nm',nm'=put (put (put nm (15+st) boZ) (8+k) bkQ) 4 (nx3+11):=⟨_,rfl⟩
  have pn: ∀j,j≠4→j≠8+k→j≠15+st→nm' j=nm j:=fun j h1 h2 h3=>by rw[hnm',jE h1,jE h2,jE h3]
  have p4:nm' 4=nx3+11:=by rw[hnm',t8]
  have bk9:nm' (8+k)=bkQ:=by rw[hnm',jE (by omega),t8]
  have p15:nm' (15+st)=boZ:=by rw[hnm',jE (by omega),jE (by omega),t8]
  obtain⟨s',hs'⟩: ∃s',s'=aR c s (.tell k st):=⟨_,rfl⟩
  have hdj:iF s st=d:=by rw[←hd,←hv];rfl
  have hpo:=hs.port k hk;rw[hp] at hpo;have hex: ∃j∈p.out,j.n=d.n:=by obtain⟨_,j,x1,bpZ,_⟩:=(hs.slv st hst4).out (key d) (by rw[hv];exact M9 (by rw[←hd];exact cC (by omega)));have e:(key d).1.toNat=k:=(by show d.who.toNat=k;omega);rw[e,hp] at x1;exact⟨j,x1,bpZ⟩
  have hno:bh2 d.n p.out=PE p.out d.n:=bkA hpo.acX hex;have hpd':aF s' k= {p with out:=PE p.out d.n,last:=st}:=by rw[hs',bL rfl (by rw[hs.pl];omega),if_pos rfl,hdj,hp]
  have hvd':aL s' st= {v with done:=v.done.drop 1}:=by rw[hs',bO rfl (by rw[hs.sl];omega),if_pos rfl,hv]
  have htd:s'.told=s.told++[d]:=by rw[hs',←hdj];rfl
  have hXl: ∀z,nx≤z→¬X z:=fun z hz hn=>by have:=hX z hn;omega
  have key:=hR0.bkO (H':=W) (nx':=nx3+16) k st nm' s' (by omega) ?_ ?_ ?_ ?_ ?_ ?_ (.inl hk) (.inl hst4) (fun j hj hne=>by rw[hs',bL rfl (by rw[hs.pl];omega),if_neg hne]) (fun j hj hne=>by rw[hs',bO rfl (by rw[hs.sl];omega),if_neg hne]);·obtain⟨⟨⟨cells,k1,k2⟩,k3,_,_,k4⟩,k5⟩:=key;rw[bk1] at k1;have hc:=(bA.mk.inj (Option.some.inj k1)).2.2;have hc:_=cells:=(List.cons.inj hc).1;rw[←hc] at k2;rw[ho] at h;refine h _ _ nm' _ (by omega) ⟨?_,k3,k4⟩ fun id hid=>(k5 id hid).trans (ff id (hX id hid));rw[show atS c s (some (.tell k st))=s' from hs'.symm];exact k2
  ·rw[hnm'];exact((hR.names.put (nx':=boZ+1) (by omega) (by omega) (hXl _ (by omega))).put (nx':=bkQ+1) (by omega) (by omega) (hXl _ (by omega))).put (by omega) (by omega) (hXl _ (by omega))
  ·intro j hj;by_cases h4:j=4;·subst h4;exact .inr ⟨.inl rfl,by omega⟩
   ·by_cases h8:j=8+k;·subst h8;exact .inr ⟨.inr (.inr (.inl rfl)),by omega⟩
    ·by_cases h15:j=15+st;·subst h15;exact .inr ⟨.inr (.inr (.inr (.inr rfl))),by omega⟩
     ·exact .inl (pn j h4 h8 h15)
  ·intro id hid h0 hne;have g2:=hne 2 (by omega) (by omega);have g3:=hne 3 (by omega) (by omega);have g4:=hne 4 (by omega) (by omega);have bp4:=hne (8+k) (by omega) (by omega);have g15:=hne (15+st) (by omega) (by omega);rw[wf id (by omega) g2 g3 g4 bp4 g15,ff id (by omega)]
  ·refine⟨wc,hc,pc,vc,cap,?_,?_,?_,?_,bkU,bkV⟩;·rw[bk1];simp only[U2,htd,pn 0 (by omega) (by omega) (by omega),pn 1 (by omega) (by omega) (by omega),pn 2 (by omega) (by omega) (by omega),pn 3 (by omega) (by omega) (by omega),p4,t2,List.length_singleton];rw[hs'];rfl
   ·rw[pn 0 (by omega) (by omega) (by omega),hs'];exact g3.frame (wf _ n0 (fun he=>by have:=inj 0 2 (by omega) (by omega) he;omega) (fun he=>by have:=inj 0 3 (by omega) (by omega) he;omega) (fun he=>by have:=inj 0 4 (by omega) (by omega) he;omega) (fun he=>by have:=inj 0 (8+k) (by omega) (by omega) he;omega) (fun he=>by have:=inj 0 (15+st) (by omega) (by omega) he;omega))
   ·rw[pn 1 (by omega) (by omega) (by omega),hs'];exact g4.frame (wf _ bp0 (fun he=>by have:=inj 1 2 (by omega) (by omega) he;omega) (fun he=>by have:=inj 1 3 (by omega) (by omega) he;omega) (fun he=>by have:=inj 1 4 (by omega) (by omega) he;omega) (fun he=>by have:=inj 1 (8+k) (by omega) (by omega) he;omega) (fun he=>by have:=inj 1 (15+st) (by omega) (by omega) he;omega))
   ·rw[p4,htd];exact⟨cap,(s.told++[d]).map aS,bk5,rfl,by simp,by simp,by rw[t2,List.length_singleton];omega,by simp⟩
  ·refine⟨mp,_,mp,rp,fg1,bqI,by rw[Y5,bp4],fun j hj hne=>by rw[bq0 (Ne.symm hne)],fun _=>⟨_,hgk _,⟨qo,qc,bkY,?_,?_,?_⟩⟩⟩;·rw[hpd',pn (5+k) (by omega) (by omega) (by omega),bk9,hno];rfl
   ·rw[hpd',pn (5+k) (by omega) (by omega) (by omega)];exact gq.frame (wf _ az8 (by simp[hA]) (by simp[hA]) (by simp[hA]) (by simp[hA]) (by simp[hA]))
   ·obtain⟨aHI,y1,aHC,aHD⟩:=bk8;rw[hno] at y1 aHC;rw[hpd',bk9];exact⟨aHI,(PE p.out d.n).map eCJ,y1,rfl,by simp,by simp,aHC,by omega⟩
  ·refine⟨mv,_,mv,rv,fg2,bk6,by rw[Y5,bp5],fun j hj hne=>by rw[bq0 (Ne.symm hne)],fun _=>⟨_,bqZ (by omega),⟨po,ppc,0,c5,?_,?_,?_⟩⟩⟩;·rw[hvd',pn (11+st) (by omega) (by omega) (by omega),p15];rfl
   ·rw[hvd',pn (11+st) (by omega) (by omega) (by omega)];exact gp.frame (wf _ n11 (by simp[hA]) (by simp[hA]) (by simp[hA]) (by simp[hA]) (by simp[hA]))
   ·obtain⟨bqQ,y1,aHC,aHD⟩:=bk7;rw[hvd',p15];exact⟨bqQ,(v.done.drop 1).map aS,y1,rfl,by simp,by simp,aHC,by omega⟩
theorem bi1:cJ Tryz.prog bg7 Tryz.f134 bg2 bhS:=cJ.mk Tryz.func134 (by kernel_rfl) bjA
theorem bjR{X:Nat→Prop}{c:Cfg}{i:CIn}{s:CSt}{st:Nat}{nm:Nat→Nat} (hb:aQ c) (hs:COk c s) (hst:st<4) (hr:i.n9.getD st default=false) (hR:bgJ X H nx nm s cells)
 (h: ∀H' nx' nm' cells',nx≤nx'→bgJ X H' nx' nm' (atS c s (qW i s st)) cells'→(∀id,X id→H' id=H id)→K (boR cells') H' nx'):
 aB Tryz.prog bg7 [boR (cU c),boR cells,boP st] H nx K:=by
 refine bi1 rfl fun Q hQ=> ?_
 unfold bg2
 have hX:=hR.x
 obtain⟨hp3,hpr⟩:=hC hb
 have hnf: ∀{A:Prop},¬(i.n9.getD st default=true∨A)↔¬A:=fun {A}=>by rw[hr];simp
 obtain⟨wc,hc,pc,vc,tc,mp,rp,mv,rv,hcell,g1,g2,g3,g4,g5,bkU,bkV,bp4,bp5,ga,gb⟩:=hR.get
 obtain⟨v,hv⟩: ∃v,aL s st=v:=⟨_,rfl⟩
 obtain⟨po,ppc,do_,dc,gs,gp,gd⟩:=gb st hst
 rw[hv] at gs gp gd
 have hRc:=hR
 subst hcell
 have lt:=hR.names.lt
 have hA:bQ nx ([0,1,2,3,4,11+st,15+st].map nm):=AM.apart (hR.names.list (by simp;omega) (by simp;omega)) (fun x hx=>by obtain⟨j,hj,rfl⟩:=CF.1 hx;exact lt j (by simp at hj;omega))
 simp only[bQ,eZ,List.map] at hA
 by_cases hp0:v.pipe.length=0
 ·have hlen:((v.pipe.length:Int)=0)=True:=eq_true (by omega);repeat' first|apply bn1<;>(simp only[go_sem,boC,g2,gs,hlen,hA])|refine⟨by omega,?_⟩|fail
  refine hQ _ _ _ _ _ (.inr rfl) (LL rfl (by rw[aA.aC (by omega)];exact aA.bH) rfl) ?_;rw[aa0 (.inr (by rw[hv];exact hp0))] at h;exact h _ _ nm _ (by omega) (hR.frame (by omega) fun id hid _=>by rw[aA.aC (by omega),aA.aC (by omega),aA.aC (by omega),aA.aC (by omega)]) fun id hid=>by have:=hX id hid;rw[aA.aC (by omega),aA.aC (by omega),aA.aC (by omega),aA.aC (by omega)]
 have hnp: ¬(i.n9.getD st default=true∨(aL s st).pipe.length=0):=by rw[hv];exact hnf.2 hp0
 have hlen:((v.pipe.length:Int)=0)=False:=eq_false (by omega)
 obtain⟨j,hj⟩: ∃j,v.pipe.getD 0 default=j:=⟨_,rfl⟩
 have hjp:bI s st=j:=by unfold bI;rw[hv,hj]
 obtain⟨md,rd,d1,d2,d3,bkS,bk2,bk3⟩:=gd.ex
 obtain⟨me,re,p1,p2,p3,p4,p5,p6⟩:=gp.ex
 rw[bqW] at bkS p4
 have p7:re[po]?=some (eCJ j):=by
  have:(re.drop po)[0]?=some (eCJ j):=by rw[p2,p0,←hj];simp[List.getD,show 0<v.pipe.length by omega]
  rwa [s5,Nat.add_zero] at this
 have hsk:=hs.slv st hst
 have hjl:=(hsk.left 0 (by rw[hv];omega)).1
 rw[hv,hj] at hjl
 have hlat:=S0 hb hst
 have n11:=lt (11+st) (by omega)
 have n15:=lt (15+st) (by omega)
 by_cases hl0:0<j.left
 ·have hwk:decide (0<(aL s st).pipe.length∧(bI s st).left=0∧(aL s st).done.length<2)=false:=decide_eq_false (by rw[hjp];omega);repeat' first| (first|apply bn1|refine bgY hs hst (hRc.ar5 hs.pl hs.sl (fun id hid=>by rw[aA.aC (by omega),aA.aC (by omega),aA.aC (by omega),aA.aC (by omega)])) ?_)<;>(simp only[go_sem,boC,g2,gs,hlen,hwk,p1,p7,hA];try simp (disch:=omega) only[Iw])|apply bn2 (by omega)|refine⟨by omega,?_⟩|fail
  refine hQ _ _ _ _ _ (.inr rfl) (LL rfl (by rw[aA.aC (by omega),aA.aC (by omega)];exact aA.bH) rfl) ?_;have boT:qW i s st=some (.tick st):=acO hnp (by rw[hjp];exact hl0);rw[boT] at h;obtain⟨s',hs'⟩: ∃s',s'=aR c s (.tick st):=⟨_,rfl⟩
  rw[show atS c s (some (.tick st))=s' from hs'.symm] at h;have hvd':aL s' st= {v with pipe:=v.pipe.set 0 {j with left:=j.left-1}}:=by rw[hs',bO rfl (by rw[hs.sl];omega),if_pos rfl,hjp,hv]
  generalize aYL:aA.set _ (nm (11+st)) _=W;have bk1:W (nx+1)=some ⟨5,1,[[.osl 1 (nm 0) 0 s.words.length wc,.osl 1 (nm 1) 0 s.holds.length hc,.osl 4 (nm 2) 0 3 pc,.osl 3 (nm 3) 0 4 vc,.osl 5 (nm 4) 0 s.told.length tc]]⟩:=by rw[←aYL,aA.aC (by omega),aA.aC (by omega),aA.aC (by omega)];exact aA.bH
  have w11:W (nm (11+st))=some ⟨3,me,re.set po [cI j.who,cI j.n,cI (j.left-1)]⟩:=by rw[←aYL];exact aA.bH
  have wf: ∀id,id<nx→id≠nm (11+st)→W id=H id:=fun id h1 h2=>by rw[←aYL,aA.aC h2,aA.aC (by omega),aA.aC (by omega),aA.aC (by omega),aA.aC (by omega)]
  clear aYL;have inj:=hR.names.inj;have wk: ∀a,a<19→a≠11+st→W (nm a)=H (nm a):=fun a h1 h2=>wf _ (lt a h1) fun he=>h2 (inj a (11+st) h1 (by omega) he);refine h W _ nm _ (by omega) ⟨⟨⟨wc,hc,pc,vc,tc,?_,?_,?_,?_,bkU,bkV⟩,⟨mp,rp,(wk 2 (by omega) (by omega)).trans g1,bp4,fun k hk=> ?_⟩,⟨mv,rv,(wk 3 (by omega) (by omega)).trans g2,bp5,fun k hk=> ?_⟩⟩,hR.names.mono (by omega),fun id hid=>by have:=hX id hid;omega⟩ fun id hid=>wf id (hX id hid) fun he=>hR.names.av (11+st) (by omega) (he▸hid);·rw[hs'];rfl
  ·rw[hs'];exact g3.frame (wk 0 (by omega) (by omega))
  ·rw[hs'];exact g4.frame (wk 1 (by omega) (by omega))
  ·rw[hs'];exact g5.frame (wk 4 (by omega) (by omega))
  ·obtain⟨qo,qc,oc,x1,bpZ,aYM⟩:=ga k hk;have e:aF s' k=aF s k:=(by rw[hs'];rfl);exact⟨_,x1,⟨qo,qc,oc,by rw[e];rfl,by rw[e];exact bpZ.frame (wk (5+k) (by omega) (by omega)),by rw[e];exact aYM.frame (wk (8+k) (by omega) (by omega))⟩⟩
  ·by_cases hks:k=st
   ·subst hks;refine⟨_,gs,⟨po,ppc,do_,dc,?_,?_,?_⟩⟩;·rw[hvd'];simp only[aj9,Y5]
    ·rw[hvd'];refine⟨me,_,w11,?_,by simpa using p3,by simp,by simpa using p5,p6⟩;rw[List.drop_set,if_neg (by omega),brJ,p2,brD];rfl
    ·rw[hvd'];exact gd.frame (wk (15+k) (by omega) (by omega))
   ·obtain⟨po',pc',do',dc',x1,bpZ,aYM⟩:=gb k hk;have e:aL s' k=aL s k:=(by rw[hs',bO rfl (by rw[hs.sl];omega),if_neg hks]);exact⟨_,x1,⟨po',pc',do',dc',by rw[e];rfl,by rw[e];exact bpZ.frame (wk (11+k) (by omega) (by omega)),by rw[e];exact aYM.frame (wk (15+k) (by omega) (by omega))⟩⟩
 by_cases hd2:v.done.length<2
 ·have hwk:decide (0<(aL s st).pipe.length∧(bI s st).left=0∧(aL s st).done.length<2)=true:=decide_eq_true (by rw[hjp,hv];omega);have hjm:j∈(aL s st).pipe:=by rw[hv,←hj];exact cC (by omega)
  obtain⟨hjw,hjn1,hjn2⟩:=hs.vIn hst (JB hjm);dsimp only at hjw hjn1 hjn2;have hask:oA c j.who j.n:=by have:=(hs.port j.who.toNat (by omega)).asks (n:=j.n) (by omega) hjn1 (by omega);rwa [show ((j.who.toNat:Nat):Int)=j.who by omega] at this
  have hrq:=GK hb hask;have hml:=hb.1.1;obtain⟨hask1,hask2,hask3⟩:=hask;obtain⟨P,boS⟩: ∃P,c.cP.getD j.who.toNat default=P:=⟨_,rfl⟩
  rw[boS] at hask3;obtain⟨q,hq⟩: ∃q,P.getD j.n.toNat default=q:=⟨_,rfl⟩
  have hq':bT c j.who j.n=q:=by unfold bT;rw[boS,hq]
  rw[hq'] at hrq;obtain⟨mw,rw0,bqH,bqI,bk6,bk5,bk7,bk8⟩:=g3.ex;obtain⟨mh,rh0,h1',h2',h3',h4',h5',h6'⟩:=g4.ex;rw[bq5] at bqI h2';subst bqI;subst h2';have n0:=lt 0 (by omega);have bp0:=lt 1 (by omega);have hat:=hs.atm;obtain⟨hwl,hwr,hhl,hhr⟩:=hs.atm;have hwl':s.words.length=64:=by omega
  have hhl':s.holds.length=6:=by omega
  refine aM.BW fun hnm=> ?_;have hmk: ∀k l,msk (nx+k) l H=H:=fun k l=>BV hnm (by omega);repeat' first| (first|apply bn1|refine bgY hs hst (hRc.ar5 hs.pl hs.sl (fun id hid=>by rw[aA.aC (by omega),aA.aC (by omega),aA.aC (by omega),aA.aC (by omega)])) ?_)<;>(simp only[go_sem,boC,g2,gs,hlen,hwk,p1,p7,hp3,boS,hq,hmk,hA])|refine⟨by omega,?_⟩|fail
  simp only[hwl',hhl'];apply aS7 (m:=c.map) (w:=s.words) (hs:=s.holds) (wc:=wc) (hc:=hc) (i:=nm 0) (j:=nm 1) (wm:=mw) (hm:=mh) (by omega) hat (by omega) (by omega) hjw hrq (by omega) (by omega) (by simp[hA]);·rw[aA.aC (by omega),aA.aC (by omega),aA.aC (by omega),aA.aC (by omega),aA.aC (by omega)];exact bqH
  ·rw[aA.aC (by omega),aA.aC (by omega),aA.aC (by omega),aA.aC (by omega),aA.aC (by omega)];exact h1'
  obtain⟨D,bqA⟩: ∃D,doM c.map s.words s.holds j.who q=D:=⟨_,rfl⟩
  rw[bqA];have hgk: ∀r,(rv.set st r)[st]?=some r:=fun r=>by rw[bqZ (by omega)]
  have hpl2:=hsk.pl;rw[hv] at hpl2;have htd1:List.take v.done.length (List.drop do_ rd)=v.done.map aS:=by rw[d2,boL (by simp)]
  have hle1:(po+(1+(v.pipe.length-1))≤re.length)=True:=eq_true (by omega);have htk1:List.take (v.pipe.length-1) (List.drop (po+1) re)=(v.pipe.drop 1).map eCJ:=by rw[←Y2,p2,←brE,boL (by simp)]
  (try simp only[go_sem,boC,g2,gs,hgk,hle1,htk1,htd1,List.nil_append,bqW,CI,bq1,p1,p7,d1,umS (G:=H),umD (G:=H),umB,hmk,hwl',hhl',hA,boC]);repeat' first|apply bn1<;>(simp only[go_sem,boC,g2,gs,hgk,hle1,htk1,htd1,List.nil_append,bqW,CI,bq1,p1,p7,d1,umS (G:=H),umD (G:=H),umB,hmk,hwl',hhl',hA,boC])| (with_reducible first|refine fun(cap:Nat) (hcap:_≤cap)=> ?_|refine fun(hcp:_≤cap)=> ?_)|refine⟨by omega,?_⟩|fail
  rename_i cap1 hcap1 hcp1;refine hQ _ _ _ _ _ (.inr rfl) (LL rfl aA.bH rfl) ?_;have boT:qW i s st=some (.work st):=adE hnp (by rw[hjp];exact hl0) (by rw[hv];exact hd2);have hwr:jD c s st=D:=by unfold jD;rw[hjp,hq',bqA]
  rw[boT] at h;obtain⟨s',hs'⟩: ∃s',s'=aR c s (.work st):=⟨_,rfl⟩
  rw[show atS c s (some (.work st))=s' from hs'.symm] at h;have hvd':aL s' st= {v with pipe:=v.pipe.drop 1,done:=v.done++[⟨j.who,j.n,D.2⟩]}:=by rw[hs',bO rfl (by rw[hs.sl];omega),if_pos rfl,hwr,hjp,hv]
  have hws:s'.words=D.1.1:=by rw[hs',←hwr];rfl
  have hhs:s'.holds=D.1.2:=by rw[hs',←hwr];rfl
  have hok':COk c s':=by rw[hs'];exact o9 hb hs (LM hs hst boT)
  obtain⟨hwl2,_,hhl2,_⟩:=hok'.atm;generalize aYL:aA.set _ (nx+2) _=W;have bqP:=lt 3 (by omega);have inj:=hR.names.inj;have i03:nm 0≠nm 3:=fun he=>by have:=inj 0 3 (by omega) (by omega) he;omega
  have i01:nm 0≠nm 1:=fun he=>by have:=inj 0 1 (by omega) (by omega) he;omega
  have i13:nm 1≠nm 3:=fun he=>by have:=inj 1 3 (by omega) (by omega) he;omega
  have w58:W (nx+58)=some ⟨3,cap1,(v.pipe.drop 1).map eCJ⟩:=by rw[←aYL,aA.aC (by omega),aA.aC (by omega),aA.aC (by omega),aA.aC (by omega)];exact aA.bH
  have w74:W (nx+74)=some ⟨5,cap,v.done.map aS++[cI j.who::cI j.n::tG D.2]⟩:=by rw[←aYL,aA.aC (by omega)];exact aA.bH
  have bk6:W (nm 3)=some ⟨3,mv,rv.set st [.osl 3 (nx+58) 0 (v.pipe.length-1) cap1,.osl 5 (nx+74) 0 (v.done.length+1) cap,cI v.last]⟩:=by rw[←aYL,aA.aC (by omega),aA.aC (by omega),aA.aC (by omega)];exact aA.bH
  have w1':W (nm 1)=some ⟨1,mh,D.1.2.map aJ⟩:=by rw[←aYL];simp (disch:=omega) only[aA.aC,aA.bH]
  have w0':W (nm 0)=some ⟨1,mw,D.1.1.map aJ⟩:=by rw[←aYL];simp (disch:=omega) only[aA.aC,aA.bH]
  have wf: ∀id,id<nx→id≠nm 0→id≠nm 1→id≠nm 3→id≠nm (15+st)→W id=H id:=fun id h1 h2 h3 h4 h5=>by rw[←aYL];simp (disch:=omega) only[aA.aC,aA.jG]
  clear aYL;have wk: ∀a,a<19→a≠0→a≠1→a≠3→a≠15+st→W (nm a)=H (nm a):=fun a h1 h2 h3 h4 h5=>wf _ (lt a h1) (fun he=>h2 (inj a 0 h1 (by omega) he)) (fun he=>h3 (inj a 1 h1 (by omega) he)) (fun he=>h4 (inj a 3 h1 (by omega) he)) (fun he=>h5 (inj a (15+st) h1 (by omega) he));obtain⟨nm',hnm'⟩: ∃nm',nm'=put (put nm (11+st) (nx+58)) (15+st) (nx+74):=⟨_,rfl⟩
  have pn: ∀a,a≠11+st→a≠15+st→nm' a=nm a:=fun a h1 h2=>by rw[hnm',jE h2,jE h1]
  have p11:nm' (11+st)=nx+58:=by rw[hnm',jE (by omega),t8]
  have p15:nm' (15+st)=nx+74:=by rw[hnm',t8]
  have hXl: ∀z,nx≤z→¬X z:=fun z hz hn=>by have:=hX z hn;omega
  have hN:Names X (nx+80) nm':=by rw[hnm'];exact(hR.names.put (nx':=nx+59) (by omega) (by omega) (hXl _ (by omega))).put (by omega) (by omega) (hXl _ (by omega))
  refine h W _ nm' _ (by omega) ⟨⟨⟨wc,hc,pc,vc,tc,?_,?_,?_,?_,bkU,bkV⟩,⟨mp,rp,?_,bp4,fun k hk=> ?_⟩,⟨mv,rv.set st [.osl 3 (nx+58) 0 (v.pipe.length-1) cap1,.osl 5 (nx+74) 0 (v.done.length+1) cap,cI v.last],?_,by rw[Y5,bp5],fun k hk=> ?_⟩⟩,hN,fun id hid=>by have:=hX id hid;omega⟩ fun id hid=> ?_;·have e:s'.told=s.told:=(by rw[hs'];rfl);rw[U2,hws,hhs,e,pn 0 (by omega) (by omega),pn 1 (by omega) (by omega),pn 2 (by omega) (by omega),pn 3 (by omega) (by omega),pn 4 (by omega) (by omega),show D.1.1.length=64 by rw[←hws];omega,show D.1.2.length=6 by rw[←hhs];omega]
  ·rw[pn 0 (by omega) (by omega),hws];exact⟨mw,_,w0',rfl,by simp,by simp,by rw[←hws];omega,by omega⟩
  ·rw[pn 1 (by omega) (by omega),hhs];exact⟨mh,_,w1',rfl,by simp,by simp,by rw[←hhs];omega,by omega⟩
  ·rw[pn 4 (by omega) (by omega),hs'];exact g5.frame (wk 4 (by omega) (by omega) (by omega) (by omega) (by omega))
  ·rw[pn 2 (by omega) (by omega)];exact(wk 2 (by omega) (by omega) (by omega) (by omega) (by omega)).trans g1
  ·obtain⟨qo,qc,oc,x1,bpZ,aYM⟩:=ga k hk;have e:aF s' k=aF s k:=(by rw[hs'];rfl);exact⟨_,x1,⟨qo,qc,oc,by rw[e,pn (5+k) (by omega) (by omega),pn (8+k) (by omega) (by omega)];rfl,by rw[e,pn (5+k) (by omega) (by omega)];exact bpZ.frame (wk (5+k) (by omega) (by omega) (by omega) (by omega) (by omega)),by rw[e,pn (8+k) (by omega) (by omega)];exact aYM.frame (wk (8+k) (by omega) (by omega) (by omega) (by omega) (by omega))⟩⟩
  ·rw[pn 3 (by omega) (by omega)];exact bk6
  ·by_cases hks:k=st
   ·subst hks;refine⟨_,bqZ (by omega),⟨0,cap1,0,cap,?_,?_,?_⟩⟩;·rw[hvd',p11,p15];simp only[aj9,CI,t2,List.length_singleton]
    ·rw[hvd',p11];exact⟨cap1,_,w58,rfl,by simp,by simp,by rw[CI];omega,by omega⟩
    ·rw[hvd',p15];exact⟨cap,_,w74,by first| (rw[bqX];done)| (rw[bqX];rfl),by simp,by simp,by rw[t2,List.length_singleton];omega,by omega⟩
   ·obtain⟨po',pc',do',dc',x1,bpZ,aYM⟩:=gb k hk;have e:aL s' k=aL s k:=(by rw[hs',bO rfl (by rw[hs.sl];omega),if_neg hks]);exact⟨_,by rw[bq0 (Ne.symm hks)];exact x1,⟨po',pc',do',dc',by rw[e,pn (11+k) (by omega) (by omega),pn (15+k) (by omega) (by omega)];rfl,by rw[e,pn (11+k) (by omega) (by omega)];exact bpZ.frame (wk (11+k) (by omega) (by omega) (by omega) (by omega) (by omega)),by rw[e,pn (15+k) (by omega) (by omega)];exact aYM.frame (wk (15+k) (by omega) (by omega) (by omega) (by omega) (by omega))⟩⟩
  ·have av:=hR.names.av;exact wf id (hX id hid) (fun he=>av 0 (by omega) (he▸hid)) (fun he=>av 1 (by omega) (he▸hid)) (fun he=>av 3 (by omega) (he▸hid)) (fun he=>av (15+st) (by omega) (he▸hid))
 ·have hwk:decide (0<(aL s st).pipe.length∧(bI s st).left=0∧(aL s st).done.length<2)=false:=decide_eq_false (by rw[hv];omega);repeat' first| (first|apply bn1|refine bgY hs hst (hRc.ar5 hs.pl hs.sl (fun id hid=>by rw[aA.aC (by omega),aA.aC (by omega),aA.aC (by omega),aA.aC (by omega)])) ?_)<;>(simp only[go_sem,boC,g2,gs,hlen,hwk,p1,p7,hA])|apply bn3 (by omega)|refine⟨by omega,?_⟩|fail
  refine hQ _ _ _ _ _ (.inr rfl) (LL rfl (by rw[aA.aC (by omega)];exact aA.bH) rfl) ?_;rw[ae2 hnp (by rw[hjp];exact hl0) (by rw[hv];exact hd2)] at h;exact h _ _ nm _ (by omega) (hR.frame (by omega) fun id hid _=>by rw[aA.aC (by omega),aA.aC (by omega),aA.aC (by omega),aA.aC (by omega)]) fun id hid=>by have:=hX id hid;rw[aA.aC (by omega),aA.aC (by omega),aA.aC (by omega),aA.aC (by omega)]
theorem bjJ:cJ Tryz.prog bhG Tryz.f135 bhD bhW:=cJ.mk Tryz.func135 (by kernel_rfl) bjN
def bhV (c:Cfg) (s:CSt) (u:List Bool) (st:Nat):CSt×List Bool:=match AO c s u st with
 |none=>(s,u)
 |some who=>(aR c s (.adm who st),u.set who true)
theorem bjU{X:Nat→Prop}{c:Cfg}{s:CSt}{st ub uc um:Nat}{u:List Bool}{nm:Nat→Nat} (hb:aQ c) (hs:COk c s) (hst:st<4) (hul:u.length=3) (hR:bgJ X H nx nm s cells) (hub:X ub) (huo:H ub=some ⟨1,um,u.map eH⟩) (huc:3≤uc)
 (h: ∀H' nx' nm' cells',nx≤nx'→bgJ X H' nx' nm' (bhV c s u st).1 cells'→H' ub=some ⟨1,um,(bhV c s u st).2.map eH⟩→(∀id,X id→id≠ub→H' id=H id)→K (boR cells') H' nx'):
 aB Tryz.prog bhG [boR (cU c),boR cells,boP st,.one (.c (.osl 1 ub 0 3 uc))] H nx K:=by
 refine bjJ rfl fun Q hQ=> ?_
 unfold bhD
 have hX:=hR.x
 obtain⟨hp3,hpr⟩:=hC hb
 obtain⟨wc,hc,pc,vc,tc,mp,rp,mv,rv,hcell,g1,g2,g3,g4,g5,bkU,bkV,bp4,bp5,ga,gb⟩:=hR.get
 obtain⟨v,hv⟩: ∃v,aL s st=v:=⟨_,rfl⟩
 obtain⟨po,ppc,do_,dc,gs,gp,gd⟩:=gb st hst
 rw[hv] at gs gp gd
 have hRc:=hR
 subst hcell
 have lt:=hR.names.lt
 have hA:bQ nx ([0,1,2,3,4,11+st,15+st].map nm):=AM.apart (hR.names.list (by simp;omega) (by simp;omega)) (fun x hx=>by obtain⟨j,hj,rfl⟩:=CF.1 hx;exact lt j (by simp at hj;omega))
 simp only[bQ,eZ,List.map] at hA
 have hpl:=(hs.slv st hst).pl
 rw[hv] at hpl
 by_cases hp2:v.pipe.length=2
 ·have hlen:((v.pipe.length:Int)=2)=True:=eq_true (by omega);have hn:bhV c s u st=(s,u):=by unfold bhV;rw[anA (by rw[hv];omega)]
  rw[hn] at h;repeat' first|apply bn1<;>(simp only[go_sem,boC,g2,gs,hlen,hA])|refine⟨by omega,?_⟩|fail
  refine hQ _ _ _ _ _ (.inr rfl) (LL rfl aA.bH rfl) ?_;have hubl:=hX ub hub;refine h _ _ nm _ (by omega) (hR.frame (by omega) fun id hid _=>by rw[aA.aC (by omega),aA.aC (by omega),aA.aC (by omega)]) (by rw[aA.aC (by omega),aA.aC (by omega),aA.aC (by omega)];exact huo) fun id hid _=> ?_;have:=hX id hid;rw[aA.aC (by omega),aA.aC (by omega),aA.aC (by omega)]
 have hlen:((v.pipe.length:Int)=2)=False:=eq_false (by omega)
 repeat' first|apply bn1<;>(simp only[go_sem,boC,g2,gs,hlen,hA])|refine⟨by omega,?_⟩|fail
 refine aM.aTJ fun G bqK=> ?_
 have hubl:=hX ub hub
 have bfZ:G nx=some ⟨3,1,[cU c]⟩:=by rw[bqK,aA.aC (by omega),aA.aC (by omega)];exact aA.bH
 have bpR:G (nx+1)=some ⟨5,1,[[.osl 1 (nm 0) 0 s.words.length wc,.osl 1 (nm 1) 0 s.holds.length hc,.osl 4 (nm 2) 0 3 pc,.osl 3 (nm 3) 0 4 vc,.osl 5 (nm 4) 0 s.told.length tc]]⟩:=by rw[bqK,aA.aC (by omega)];exact aA.bH
 have f2:G (nx+2)=some ⟨5,1,[[D1.osl 0 0 0 0 0,D1.osl 0 0 0 0 0,D1.osl 0 0 0 0 0,D1.osl 0 0 0 0 0,D1.osl 0 0 0 0 0]]⟩:=by rw[bqK];exact aA.bH
 have ff: ∀id,id<nx→G id=H id:=fun id hid=>by rw[bqK,aA.aC (by omega),aA.aC (by omega),aA.aC (by omega)]
 clear bqK
 refine aM.gP (β:=Nat) (fun j=>en [(9,boP j),(8,.one (.c (.ptr 5 (nx+2) 0 0))),(5,.one (.c (.ptr 5 (nx+1) 0 0))),(4,.one (.c (.ptr 3 nx 0 0))),(3,.one (.c (.osl 1 ub 0 3 uc))),(2,boP st)])
  (fun j H1 _=>1≤j∧j≤4∧H1=G∧ ∀j',1≤j'→j'<j→KE c s u st (sM s st j')=false) (fun j=>4-j) 1 ⟨noF,_,by repeat' first|exact bo2|refine xqI rfl rfl ?_|refine xqP (by omega) rfl rfl ?_|refine xqO (by omega) rfl rfl (by rfl) ?_|fail,aK,by omega,by omega,rfl,fun j' h1 h2=>by omega⟩ ?_
 rintro j H1 nx1 hnx1 ⟨hj1,hj4,hH1,hinv⟩ bpQ hKL
 subst hH1
 have fg2:H1 (nm 3)=some ⟨3,mv,rv⟩:=(ff _ (lt 3 (by omega))).trans g2
 have fub:H1 ub=some ⟨1,um,u.map eH⟩:=(ff _ hubl).trans huo
 obtain⟨hla,hlb⟩:=(hs.slv st hst).last
 rw[hv] at hla hlb
 have hback:KE c s u st (sM s st j)=false→∀j',1≤j'→j'<j+1→KE c s u st (sM s st j')=false:=fun hf j' h1 h2=>by
  by_cases hjj:j'<j;·exact hinv j' h1 hjj
  ·have:j'=j:=(by omega);subst this;exact hf
 by_cases hj3:j≤3
 ·obtain⟨who,hwho⟩: ∃who,who=sM s st j:=⟨_,rfl⟩
  have hwho':who=((v.last+(j:Int))%3).toNat:=by rw[hwho,←hv];rfl
  have hw3:who<3:=by omega
  have hmod:(v.last+(j:Int)).tmod 3=(who:Int):=by rw[brF (by omega)];omega
  rw[←hwho] at hback
  cases huw:u.getD who default with
  |true=>
   have hur:(u.map eH)[who]?=some (eH true):=(by rw[p0,n1 (by omega),Option.map_some];rw[KL,n1 (by omega),Option.getD_some] at huw;rw[huw]);repeat' first|apply bn1<;>(simp only[go_sem,bfZ,bpR,fg2,fub,gs,hmod,hur,boC];try simp (disch:=omega) only[Iw])|apply bn2 (by omega)|refine⟨by omega,?_⟩|fail
   exact hKL _ _ _ (j+1) noF _ (by omega) (by omega) (by repeat' first|exact bo2|refine xqI rfl rfl ?_|refine xqP (by omega) rfl rfl ?_|refine xqO (by omega) rfl rfl (by rfl) ?_|fail) aK ⟨by omega,by omega,rfl,hback (by unfold KE;rw[huw];rfl)⟩
  |false=>
   have hur:(u.map eH)[who]?=some (eH false):=(by rw[p0,n1 (by omega),Option.map_some];rw[KL,n1 (by omega),Option.getD_some] at huw;rw[huw]);by_cases hmay:HV c s who st
   ·have hmd:decide (HV c s who st)=true:=decide_eq_true hmay;have hB:bQ nx1 [ub,nx,nx+1,nx+2]:=AM.apart (by simp;omega) (by simp;omega);simp only[bQ,eZ] at hB;obtain⟨qo,qc,oc,gr,gq,go⟩:=ga who hw3;obtain⟨p,hp⟩: ∃p,aF s who=p:=⟨_,rfl⟩
    rw[hp] at gr gq go;have n2:=lt 2 (by omega);have hAj:(nm 2=ub)=False:=eq_false fun he=>hR.names.av 2 (by omega) (he▸hub);obtain⟨m1,bp3,_,_⟩:=id hmay;rw[hp] at m1 bp3;have hpo:=hs.port who hw3;rw[hp] at hpo;have hql:=hpo.ql;obtain⟨n0,hn0⟩: ∃n0,p.queue.getD 0 default=n0:=⟨_,rfl⟩
    obtain⟨mq,rq0,x1,bpZ,aYM,aAO,blA,aIL⟩:=gq.ex;rw[bqW] at aAO;have blB:rq0[qo]?=some (aJ n0):=(by have:(rq0.drop qo)[0]?=some (aJ n0):=(by rw[bpZ,p0,←hn0];simp[List.getD,show 0<p.queue.length by omega]);rwa [s5,Nat.add_zero] at this);have az8:=lt (5+who) (by omega);have fx1:H1 (nm (5+who))=some ⟨1,mq,rq0⟩:=(ff _ az8).trans x1;have hAq:(nm (5+who)=ub)=False:=eq_false fun he=>hR.names.av (5+who) (by omega) (he▸hub);have hA1:bQ nx1 ([2,3,5+who,8+who,11+st].map nm):=AM.apart (hR.names.list (by simp;omega) (by simp;omega)) (fun x hx=>by obtain⟨j,hj,rfl⟩:=CF.1 hx;have:=lt j (by simp at hj;omega);omega);simp only[bQ,eZ,List.map] at hA1;have fg1:H1 (nm 2)=some ⟨4,mp,rp⟩:=(ff _ n2).trans g1;have bqP:=lt 3 (by omega);have aAJ:=lt (8+who) (by omega);have n11:=lt (11+st) (by omega);have hAo:(nm (8+who)=ub)=False:=eq_false fun he=>hR.names.av (8+who) (by omega) (he▸hub);have hAp:(nm (11+st)=ub)=False:=eq_false fun he=>hR.names.av (11+st) (by omega) (he▸hub);have hAs:(nm 3=ub)=False:=eq_false fun he=>hR.names.av 3 (by omega) (he▸hub);have k0: ∀(G:aA) (b k:Nat),msk (nx1+b) [k] G nx=G nx:=fun G b k=>mk1 (by omega);have k1: ∀(G:aA) (b k:Nat),msk (nx1+b) [k] G (nx+1)=G (nx+1):=fun G b k=>mk1 (by omega);have k2: ∀(G:aA) (b k:Nat),msk (nx1+b) [k] G (nm 2)=G (nm 2):=fun G b k=>mk1 (by omega);have k3: ∀(G:aA) (b k:Nat),msk (nx1+b) [k] G (nm 3)=G (nm 3):=fun G b k=>mk1 (by omega);have k5: ∀(G:aA) (b k:Nat),msk (nx1+b) [k] G (nm (5+who))=G (nm (5+who)):=fun G b k=>mk1 (by omega);have k8: ∀(G:aA) (b k:Nat),msk (nx1+b) [k] G (nm (8+who))=G (nm (8+who)):=fun G b k=>mk1 (by omega);have k11: ∀(G:aA) (b k:Nat),msk (nx1+b) [k] G (nm (11+st))=G (nm (11+st)):=fun G b k=>mk1 (by omega);have k33: ∀(G:aA) (b k:Nat),34≤b→msk (nx1+b) [k] G (nx1+33)=G (nx1+33):=fun G b k hb=>mk1 (by omega);obtain⟨mo,ro,o1,o2,bqD,bqE,bqF,blC⟩:=go.ex;rw[bqW] at bqE;rw[bq5] at o2;have fo1:H1 (nm (8+who))=some ⟨3,mo,ro⟩:=(ff _ aAJ).trans o1;obtain⟨me,re,p1,p2,p3,p4,p5,p6⟩:=gp.ex;rw[bqW] at p4;have fp1:H1 (nm (11+st))=some ⟨3,me,re⟩:=(ff _ n11).trans p1;have hle1:(qo+(1+(p.queue.length-1))≤rq0.length)=True:=eq_true (by omega);have htk1:List.take (p.queue.length-1) (List.drop (qo+1) rq0)=(p.queue.drop 1).map aJ:=(by rw[←Y2,bpZ,←brE,boL (by simp)]);have htk2:List.take v.pipe.length (List.drop po re)=v.pipe.map eCJ:=(by rw[p2,boL (by simp)]);have htk3:List.take p.out.length ro=p.out.map eCJ:=(by rw[o2,boL (by simp)]);have hgk: ∀r,(rp.set who r)[who]?=some r:=fun r=>by rw[bqZ (by omega)]
    have hgv: ∀r,(rv.set st r)[st]?=some r:=fun r=>by rw[bqZ (by omega)]
    have hlat4:=hb.2.1;have hAn:bQ nx ([2,3,5+who,8+who,11+st].map nm):=AM.apart (hR.names.list (by simp;omega) (by simp;omega)) (fun x hx=>by obtain⟨j,hj,rfl⟩:=CF.1 hx;exact lt j (by simp at hj;omega));simp only[bQ,eZ,List.map] at hAn;repeat' first| (first|apply bn1|refine bhY hb hs hw3 hst (hRc.ar5 hs.pl hs.sl (fun id hid=>ff id hid)) ?_)<;>(simp only[go_sem,bfZ,bpR,f2,fg1,fg2,fub,fx1,fo1,fp1,blB,gr,gs,hmod,hur,hmd,hB,hAj,hAq,hAo,hAp,hAs,hA1,hAn,k0,k1,k2,k3,k5,k8,k11,k33,hle1,htk1,htk2,htk3,hgk,hgv,List.nil_append,bqW,CI,bq1,boC];try simp (disch:=omega) only[Iw])|apply bn2 (by omega)| (with_reducible first|refine fun(cap:Nat) (hcap:_≤cap)=> ?_|refine fun(hcp:_≤cap)=> ?_)|refine⟨by omega,?_⟩|fail
    rename_i cap1 hcap1 hcp1 cap2 hcap2 hcp2;have hlw:AO c s u st=some who:=(by rw[hwho];apply ahR (by rw[hv];omega) hj1 hj3 hinv;rw[←hwho];unfold KE;rw[huw,hmd];rfl);have hn:bhV c s u st=(aR c s (.adm who st),u.set who true):=(by unfold bhV;rw[hlw]);rw[hn] at h;refine hQ _ _ _ _ _ (.inr rfl) (LL rfl aA.bH rfl) ?_;obtain⟨s',hs'⟩: ∃s',s'=aR c s (.adm who st):=⟨_,rfl⟩
    rw[←hs'] at h;have hn0':(aF s who).queue.getD 0 default=n0:=(by rw[hp,hn0]);have hpd':aF s' who= {p with queue:=p.queue.drop 1,out:=p.out++[⟨who,n0,st⟩]}:=(by rw[hs',bL rfl (by rw[hs.pl];omega),if_pos rfl,hn0',hp]);have hvd':aL s' st= {v with pipe:=v.pipe++[⟨who,n0,c.lat.getD st default⟩],last:=who}:=(by rw[hs',bO rfl (by rw[hs.sl];omega),if_pos rfl,hn0',hv]);have inj:=hR.names.inj;have i23:nm 2≠nm 3:=fun he=>by have:=inj 2 3 (by omega) (by omega) he;omega
    have iu2:ub≠nm 2:=fun he=>of_eq_false hAj he.symm;have iu3:ub≠nm 3:=fun he=>of_eq_false hAs he.symm;have iu8:ub≠nm (8+who):=fun he=>of_eq_false hAo he.symm;have iu11:ub≠nm (11+st):=fun he=>of_eq_false hAp he.symm;generalize aYL:aA.set _ (nx+2) _=W;have w47:W (nx1+47)=some ⟨1,cap1,(p.queue.drop 1).map aJ⟩:=(by rw[←aYL];simp (disch:=omega) only[aA.aC,aA.bH]);have w61:W (nx1+61)=some ⟨3,cap2,(p.out++[(⟨who,n0,st⟩:fC)]).map eCJ⟩:=(by rw[←aYL,bqX];simp (disch:=omega) only[aA.aC,aA.bH];rfl);have w83:W (nx1+83)=some ⟨3,cap,(v.pipe++[(⟨who,n0,c.lat.getD st default⟩:fC)]).map eCJ⟩:=(by rw[←aYL,bqX];simp (disch:=omega) only[aA.aC,aA.bH];rfl);have bqI:W (nm 2)=some ⟨4,mp,rp.set who [cI p.next,.osl 1 (nx1+47) 0 (p.queue.length-1) cap1,.osl 3 (nx1+61) 0 (p.out.length+1) cap2,cI p.last]⟩:=(by rw[←aYL];simp (disch:=omega) only[aA.aC,aA.bH]);have bk6:W (nm 3)=some ⟨3,mv,rv.set st [.osl 3 (nx1+83) 0 (v.pipe.length+1) cap,.osl 5 (nm (15+st)) do_ v.done.length dc,cI who]⟩:=(by rw[←aYL];simp (disch:=omega) only[aA.aC,aA.bH]);have wub:W ub=some ⟨1,um,(u.set who true).map eH⟩:=(by rw[←aYL];simp (disch:=omega) only[aA.aC,aA.bH];rw[brD];rfl);have wf: ∀id,id<nx→id≠ub→id≠nm 2→id≠nm 3→id≠nm (8+who)→id≠nm (11+st)→W id=H id:=fun id h1 h2 h3 h4 h5 h6=>by rw[←aYL];simp (disch:=omega) only[aA.aC,aA.jG];exact ff id h1
    clear aYL;have wk: ∀a,a<19→a≠2→a≠3→a≠8+who→a≠11+st→W (nm a)=H (nm a):=fun a h1 h2 h3 h4 h5=>wf _ (lt a h1) (fun he=>hR.names.av a h1 (he▸hub)) (fun he=>h2 (inj a 2 h1 (by omega) he)) (fun he=>h3 (inj a 3 h1 (by omega) he)) (fun he=>h4 (inj a (8+who) h1 (by omega) he)) (fun he=>h5 (inj a (11+st) h1 (by omega) he));obtain⟨nm',hnm'⟩: ∃nm',nm'=put (put (put nm (5+who) (nx1+47)) (8+who) (nx1+61)) (11+st) (nx1+83):=⟨_,rfl⟩
    have pn: ∀a,a≠5+who→a≠8+who→a≠11+st→nm' a=nm a:=fun a h1 h2 h3=>by rw[hnm',jE h3,jE h2,jE h1]
    have p5':nm' (5+who)=nx1+47:=(by rw[hnm',jE (by omega),jE (by omega),t8]);have p8':nm' (8+who)=nx1+61:=(by rw[hnm',jE (by omega),t8]);have p11':nm' (11+st)=nx1+83:=(by rw[hnm',t8]);have hXl: ∀z,nx≤z→¬X z:=fun z hz hn=>by have:=hX z hn;omega
    have hN:Names X (nx1+96) nm':=(by rw[hnm'];exact((hR.names.put (nx':=nx1+48) (by omega) (by omega) (hXl _ (by omega))).put (nx':=nx1+62) (by omega) (by omega) (hXl _ (by omega))).put (by omega) (by omega) (hXl _ (by omega)));have ews:s'.words=s.words:=(by rw[hs'];rfl);have ehs:s'.holds=s.holds:=(by rw[hs'];rfl);have ets:s'.told=s.told:=(by rw[hs'];rfl);refine h W _ nm' _ (by omega) ⟨⟨⟨wc,hc,pc,vc,tc,?_,?_,?_,?_,bkU,bkV⟩,⟨mp,rp.set who [cI p.next,.osl 1 (nx1+47) 0 (p.queue.length-1) cap1,.osl 3 (nx1+61) 0 (p.out.length+1) cap2,cI p.last],?_,by rw[Y5,bp4],fun k hk=> ?_⟩,⟨mv,rv.set st [.osl 3 (nx1+83) 0 (v.pipe.length+1) cap,.osl 5 (nm (15+st)) do_ v.done.length dc,cI who],?_,by rw[Y5,bp5],fun k hk=> ?_⟩⟩,hN,fun id hid=>by have:=hX id hid;omega⟩ wub fun id hid hne=> ?_;·rw[U2,ews,ehs,ets,pn 0 (by omega) (by omega) (by omega),pn 1 (by omega) (by omega) (by omega),pn 2 (by omega) (by omega) (by omega),pn 3 (by omega) (by omega) (by omega),pn 4 (by omega) (by omega) (by omega)]
    ·rw[ews,pn 0 (by omega) (by omega) (by omega)];exact g3.frame (wk 0 (by omega) (by omega) (by omega) (by omega) (by omega))
    ·rw[ehs,pn 1 (by omega) (by omega) (by omega)];exact g4.frame (wk 1 (by omega) (by omega) (by omega) (by omega) (by omega))
    ·rw[ets,pn 4 (by omega) (by omega) (by omega)];exact g5.frame (wk 4 (by omega) (by omega) (by omega) (by omega) (by omega))
    ·rw[pn 2 (by omega) (by omega) (by omega)];exact bqI
    ·by_cases hkw:k=who
     ·subst hkw;refine⟨_,hgk _,⟨0,cap1,cap2,?_,?_,?_⟩⟩;·rw[hpd',p5',p8'];simp only[af5,CI,t2,List.length_singleton]
      ·rw[hpd',p5'];exact⟨cap1,_,w47,rfl,by simp,by simp,by simp;omega,by omega⟩
      ·rw[hpd',p8'];exact⟨cap2,_,w61,rfl,by simp,by simp,by simp;omega,by omega⟩
     ·obtain⟨qo',qc',oc',y1,aHC,aHD⟩:=ga k hk;have e:aF s' k=aF s k:=(by rw[hs',bL rfl (by rw[hs.pl];omega),if_neg hkw]);refine⟨_,by rw[bq0 (Ne.symm hkw)];exact y1,⟨qo',qc',oc',?_,?_,?_⟩⟩;·rw[e,pn (5+k) (by omega) (by omega) (by omega),pn (8+k) (by omega) (by omega) (by omega)];rfl
      ·rw[e,pn (5+k) (by omega) (by omega) (by omega)];exact aHC.frame (wk (5+k) (by omega) (by omega) (by omega) (by omega) (by omega))
      ·rw[e,pn (8+k) (by omega) (by omega) (by omega)];exact aHD.frame (wk (8+k) (by omega) (by omega) (by omega) (by omega) (by omega))
    ·rw[pn 3 (by omega) (by omega) (by omega)];exact bk6
    ·by_cases hks:k=st
     ·subst hks;refine⟨_,hgv _,⟨0,cap,do_,dc,?_,?_,?_⟩⟩;·rw[hvd',p11',pn (15+k) (by omega) (by omega) (by omega)];simp only[aj9,t2,List.length_singleton]
      ·rw[hvd',p11'];exact⟨cap,_,w83,rfl,by simp,by simp,by simp;omega,by omega⟩
      ·rw[hvd',pn (15+k) (by omega) (by omega) (by omega)];exact gd.frame (wk (15+k) (by omega) (by omega) (by omega) (by omega) (by omega))
     ·obtain⟨po',pc',do',dc',y1,aHC,aHD⟩:=gb k hk;have e:aL s' k=aL s k:=(by rw[hs',bO rfl (by rw[hs.sl];omega),if_neg hks]);refine⟨_,by rw[bq0 (Ne.symm hks)];exact y1,⟨po',pc',do',dc',?_,?_,?_⟩⟩;·rw[e,pn (11+k) (by omega) (by omega) (by omega),pn (15+k) (by omega) (by omega) (by omega)];rfl
      ·rw[e,pn (11+k) (by omega) (by omega) (by omega)];exact aHC.frame (wk (11+k) (by omega) (by omega) (by omega) (by omega) (by omega))
      ·rw[e,pn (15+k) (by omega) (by omega) (by omega)];exact aHD.frame (wk (15+k) (by omega) (by omega) (by omega) (by omega) (by omega))
    ·have av:=hR.names.av;exact wf id (hX id hid) hne (fun he=>av 2 (by omega) (he▸hid)) (fun he=>av 3 (by omega) (he▸hid)) (fun he=>av (8+who) (by omega) (he▸hid)) (fun he=>av (11+st) (by omega) (he▸hid))
   ·have hmd:decide (HV c s who st)=false:=decide_eq_false hmay;repeat' first| (first|apply bn1|refine bhY hb hs hw3 hst (hRc.ar5 hs.pl hs.sl (fun id hid=>ff id hid)) ?_)<;>(simp only[go_sem,bfZ,bpR,fg2,fub,gs,hmod,hur,hmd,boC];try simp (disch:=omega) only[Iw])|apply bn2 (by omega)|refine⟨by omega,?_⟩|fail
    exact hKL _ _ _ (j+1) noF _ (by omega) (by omega) (by repeat' first|exact bo2|refine xqI rfl rfl ?_|refine xqP (by omega) rfl rfl ?_|refine xqO (by omega) rfl rfl (by rfl) ?_|fail) aK ⟨by omega,by omega,rfl,hback (by unfold KE;rw[huw,hmd];rfl)⟩
 ·have hn:bhV c s u st=(s,u):=by unfold bhV;rw[ah0 fun j' h1 h2=>hinv j' h1 (by omega)]
  rw[hn] at h;repeat' first|apply bn1<;>(simp only[go_sem,bfZ,bpR,f2,boC])|apply bn3 (by omega)|fail
  refine hQ _ _ _ _ _ (.inr rfl) (LL rfl aA.bH rfl) ?_;refine h _ _ nm _ (by omega) (hR.frame (by omega) fun id hid _=>by rw[aA.aC (by omega)];exact ff id hid) (by rw[aA.aC (by omega)];exact fub) fun id hid _=> ?_;have:=hX id hid;rw[aA.aC (by omega)];exact ff id this
end
end Go.Proofs.YtmccpdapaccnoaaGreat
