/- Texts laid together by a program: rules, contracts and the walk that leads to the law. -/
import Derived.Test.YtegiblhkjfiooaaGreatPl13
import Derived.Test.YtegiblhkjfiooaaGreatPl3
import Derived.Test.YtegiblhkjfiooaaGreatPl12
set_option linter.unusedVariables false
set_option linter.unusedSimpArgs false
set_option linter.unusedSectionVars false
section
namespace Go.AM
theorem agO {M:List (List Int×Int)} {l l':List Int} {n:Int}:jT (vA M l n) l'=if l'=l then some n else jT M l':=by
 induction M with
 |nil=>
  by_cases h:l'=l
  ·simp[vA,jT,h]
  ·simp[vA,jT,h]
 |cons p M ih=>
  obtain⟨a,b⟩:=p
  simp only[vA]
  by_cases hl:l=a
  ·subst hl
   rw[if_pos rfl]
   by_cases h:l'=l
   ·simp[jT,h]
   ·simp[jT,h]
  ·rw[if_neg hl]
   unfold jT at ih ⊢
   simp only[List.find?_cons]
   by_cases h:l'=a
   ·subst h
    simp[Ne.symm hl]
   ·simp only[h,decide_false]
    rw[ih]
def XM (c:Cfg) (who:Nat) (out:List fC) (k:Nat) (M:List (List Int×Int)):Prop:=∀i v,jT M [i]=some v→∃j∈out.take k,(bT c who j.n).id=i∧j.left=v
theorem XM.next {c:Cfg} {who:Nat} {out:List fC} {k:Nat} {M:List (List Int×Int)} (h:XM c who out k M) (hk:k<out.length):XM c who out (k+1) (vA M [(bT c who (out.getD k default).n).id] (out.getD k default).left):=by
 intro i v hv
 rw[agO] at hv
 have hm:out.getD k default∈out.take (k+1):=by
  rw[nK hk];simp
 split at hv
 ·rename_i he
  simp only[List.cons.injEq,and_true] at he
  simp only[Option.some.injEq] at hv
  exact⟨_,hm,he.symm,hv⟩
 ·obtain⟨j,h1,h2⟩:=h i v hv
  exact⟨j,(List.take_sublist_take_left (by omega)).mem h1,h2⟩
end Go.AM
namespace Go.Proofs.YtegiblhkjfiooaaGreat
open Go Go.AM
set_option maxRecDepth 100000
set_option maxHeartbeats 8000000
theorem EG:cJ Tryz.prog jK Tryz.f65 lL sF:=cJ.mk Tryz.func65 (by kernel_rfl) EM
section
variable {H : aA} {nx : Nat} {K : D → aA → Nat → Prop}
theorem FK (c:Cfg) (who:Nat) (p:fR) (hb:aQ c) (hw:who<3) (hp:mD c who p):aB Tryz.prog jK [dA (cU c),dI who,dA (cD p)] .nil 0 fun r _ _=>r.plain=true∧r=dB true:=by
 refine EG rfl fun Q hQ=> ?_
 unfold lL
 obtain⟨hp3,hpr⟩:=hC hb
 have hprw:=hpr who
 have hml:=hb.1.1
 obtain⟨hn1,hn2⟩:=hp.next
 obtain⟨hq1,hq2⟩:=hp.ql
 have hol:=hp.ol
 obtain⟨hl1,hl2⟩:=hp.last
 have hd1:=decide_eq_true (show 0≤p.next∧p.next≤(c.cP.getD who default).length from ⟨hn1,hn2⟩)
 have hd2:=decide_eq_true (show 0≤p.last∧p.last≤3 from ⟨hl1,hl2⟩)
 repeat' (first| (with_reducible first| (refine hK _ _ _ ?_;clear hK K)| (refine hB ?_;clear hA hB A B)|refine Z1 ?_|refine Z2 ?_|refine Z3 fun KB hKB=> ?_)| (first| (with_reducible first|refine Y2 fun K hK=> ?_|refine Y3 fun A B hA hB=> ?_|refine Y5 (by omega) ?_)| (with_reducible refine fE ?_))<;>(simp only[go_sem,hd1,hd2];try simp (disch:=omega) only[Iw])|refine⟨by omega,?_⟩|fail)
 (have hKX:=hKB;clear hKB)
 refine aM.abC fun G0 hG0=> ?_
 have c0:G0 0=some ⟨3,1,[cU c]⟩:=by rw[hG0];rfl
 have c1:G0 1=some ⟨4,1,[cD p]⟩:=by rw[hG0];rfl
 clear hG0
 refine aM.gP (β:=Nat) (fun k=>en [(57,dI k),(56,dI p.queue.length),(55,dS (p.queue.map aJ)),(7,dI (p.next-p.queue.length)),(5,.one (.c (.ptr 4 1 0 0))),(3,.one (.c (.ptr 3 0 0 0))),(1,dI who)])
  (fun k H1 _=>k≤p.queue.length∧ ∀id,id<45→H1 id=G0 id) (fun k=>p.queue.length-k) 0 ⟨noF,_,by repeat' (first| (with_reducible first|exact C1|refine C2 ?_ ?_)| ((with_reducible refine C0 ?_);exact CE (by omega) rfl)| ((with_reducible refine D0 ?_);first|exact CA rfl|refine CJ ?_)|fail),aK,by omega,fun _ _=>rfl⟩ ?_
 rintro k H1 nx1 hnx ⟨hk,hfr⟩ KL hKL
 have g0:H1 0=some ⟨3,1,[cU c]⟩:=by rw[hfr _ (by omega)];exact c0
 have g1:H1 1=some ⟨4,1,[cD p]⟩:=by rw[hfr _ (by omega)];exact c1
 have hA:bQ nx1 [0,1]:=AM.apart (by simp) (by simp;omega)
 simp only[bQ,eZ] at hA
 by_cases hlt:k<p.queue.length
 ·have hqk:=hp.queue k hlt
  repeat' (first| (with_reducible first| (refine hK _ _ _ ?_;clear hK K)| (refine hA ?_;clear hA hB A B)| (refine hB ?_;clear hA hB A B)|refine Z1 ?_|refine Z2 ?_|refine Z3 fun KB hKB=> ?_|refine Z4 (by omega) ?_|refine Z5 (by omega) ?_)| (with_reducible first|refine Y2 fun K hK=> ?_|refine Y3 fun A B hA hB=> ?_)<;>(simp only[go_sem];try simp (disch:=omega) only[Iw])| ((with_reducible refine Y0 ?_);simp only[AQ.then,AQ.blk])|refine⟨by omega,?_⟩| (with_reducible refine hKB _ _ _ ?_)|fail)
  exact hKL _ _ _ (k+1) noF _ (by omega) (by omega) (by repeat' (first| (with_reducible first|exact C1|refine C2 ?_ ?_)| ((with_reducible refine C0 ?_);exact CE (by omega) rfl)| ((with_reducible refine D0 ?_);first|exact CA rfl|refine CJ ?_)|fail)) aK ⟨by omega,hfr⟩
 ·repeat' (first| (with_reducible first| (refine hK _ _ _ ?_;clear hK K)| (refine hB ?_;clear hA hB A B)|refine Z1 ?_|refine Z3 fun KB hKB=> ?_|refine Z5 (by omega) ?_|refine hKX _ _ _ ?_)| (with_reducible first|refine Y2 fun K hK=> ?_|refine Y3 fun A B hA hB=> ?_)<;>(simp only[go_sem,Nat.add_assoc,Nat.left_eq_add,g0,g1,hA])| ((with_reducible refine Y9 ?_);try simp only[AQ.then,AQ.blk,reduceIte,Nat.reduceEqDiff])|fail)
  (have hKY:=hKB;clear hKB)
  have hom: ∀{H:aA} {F:Nat→Prop} {nh:Nat},nx1+8≤nh→Cv1 H F id nh (.omap (nx1+2)) (.omap (nx1+2)):=fun h=>.omap _ (by omega)
  have hout: ∀k,k<p.out.length→p.out.getD k default∈p.out:=fun k hk=>cC hk
  refine aM.gP (β:=Nat×Int×List (List Int×Int)) (fun u=>en [(72,dI u.1),(71,dI p.out.length),(70,dS (p.out.map eCJ)),(11,.one (.c (.omap (nx1+2)))),(10,dI u.2.1),(7,dI (p.next-p.queue.length)),(3,.one (.c (.ptr 3 0 0 0))),(1,dI who)])
   (fun u H2 _=>u.1≤p.out.length∧H2 0=some ⟨3,1,[cU c]⟩∧H2 (nx1+2)=some (u4 ⟨0,false,u.2.2⟩)∧XM c who p.out u.1 u.2.2∧(-1≤u.2.1∧u.2.1≤1000)∧ ∀i,u.1≤i→i<p.out.length→u.2.1<(p.out.getD i default).n) (fun u=>p.out.length-u.1) (0,-1,[])
   ⟨noF,_,by(repeat' (first| (with_reducible first|exact C1|refine C2 ?_ ?_)| ((with_reducible refine C0 ?_);first|exact CE (by omega) rfl|exact CR (by omega) rfl)| ((with_reducible refine D0 ?_);first|exact CA rfl|refine CJ ?_)|fail));all_goals exact hom (by omega),aK,by dsimp only;omega,by rw[aA.aC (by omega)];exact g0,aA.bH,fun i v hv=>by simp[jT] at hv,by dsimp only;omega,fun i _ hi=>by have:=(hp.out _ (hout i hi)).2.1.1;dsimp only;omega⟩ ?_
  rintro⟨k,last,M⟩ H2 nx2 hnx2 ⟨hk,f0,fm,hM,hla,hlast⟩ KM hKM
  dsimp only at hk fm hM hla hlast
  have hA2:bQ nx2 [0,nx1+2]:=AM.apart (by simp) (by simp;omega)
  simp only[bQ,eZ] at hA2
  by_cases hlt:k<p.out.length
  ·obtain⟨j,hjd⟩: ∃j,j=p.out.getD k default:=⟨_,rfl⟩
   have hjm:=hout k hlt
   have hM2:=hM.next hlt
   have hlk:=hlast k (Nat.le_refl _) hlt
   rw[←hjd] at hjm hM2 hlk
   obtain⟨ho1,⟨ho2,ho3⟩,ho4⟩:=hp.out j hjm
   have hd3:=decide_eq_true (show last+1≤j.n∧j.n≤p.next-p.queue.length-1 by omega)
   have hsv:gZ c.map (List.getD (c.cP.getD who default) j.n.toNat default)=j.left:=ho4.symm
   have hask:oA c who j.n:=hp.asks hw ho2 (by omega)
   obtain⟨hk1,hk2,hk3⟩:=hask
   have hnext: ∀i,k+1≤i→i<p.out.length→j.n<(p.out.getD i default).n:=fun i h1 h2=>by
    have:=List.pairwise_iff_getElem.1 hp.acX k i hlt h2 (by omega)
    rw[hjd];simpa [List.getD,hlt,h2] using this
   have hsame: ∀v,jT M [(bT c who j.n).id]=some v→v=j.left:=fun v hv=>by
    obtain⟨j',h1,h2,h3⟩:=hM _ _ hv
    rw[←h3]
    exact hp.akF j' (List.mem_of_mem_take h1) j hjm h2
   cases hgm:jT M [(bT c who j.n).id] with
   |none=>
    repeat' (first| (with_reducible first| (refine hK _ _ _ ?_;clear hK K)| (refine hA ?_;clear hA hB A B)| (refine hB ?_;clear hA hB A B)|refine Z1 ?_|refine Z2 ?_|refine Z3 fun KB hKB=> ?_|refine Z4 (by omega) ?_)| (first| (with_reducible first|refine Y2 fun K hK=> ?_|refine Y3 fun A B hA hB=> ?_|refine Y5 (by omega) ?_)| (with_reducible refine fE ?_)| (refine DE (by omega) ?_)| (refine iJ hp3 ⟨hk1,hk2,hk3⟩ ?_))<;>(simp only[go_sem,Nat.add_assoc,Nat.left_eq_add,hjd.symm,hd3,hsv,f0,fm,hA2,hgm,Option.isSome,Option.getD];try simp (disch:=omega) only[Iw])| ((with_reducible refine Y0 ?_);simp only[AQ.then,AQ.blk])|refine⟨by omega,?_⟩| (with_reducible refine hKB _ _ _ ?_)|fail)
    exact hKM _ _ _ (k+1,j.n,vA M [(bT c who j.n).id] j.left) noF _ (by omega) (by dsimp only;omega) (by(repeat' (first| (with_reducible first|exact C1|refine C2 ?_ ?_)| ((with_reducible refine C0 ?_);first|exact CE (by omega) rfl|exact CR (by omega) rfl)| ((with_reducible refine D0 ?_);first|exact CA rfl|refine CJ ?_)|fail));all_goals exact hom (by omega)) aK ⟨by dsimp only;omega,by rw[aA.aC (by omega),aA.aC (by omega)];exact f0,aA.bH,hM2,by dsimp only;omega,hnext⟩
   |some v=>
    obtain rfl:=hsame v hgm
    repeat' (first| (with_reducible first| (refine hK _ _ _ ?_;clear hK K)| (refine hA ?_;clear hA hB A B)| (refine hB ?_;clear hA hB A B)|refine Z1 ?_|refine Z2 ?_|refine Z3 fun KB hKB=> ?_|refine Z4 (by omega) ?_)| (first| (with_reducible first|refine Y2 fun K hK=> ?_|refine Y3 fun A B hA hB=> ?_|refine Y5 (by omega) ?_)| (with_reducible refine fE ?_)| (refine DE (by omega) ?_)| (refine iJ hp3 ⟨hk1,hk2,hk3⟩ ?_))<;>(simp only[go_sem,Nat.add_assoc,Nat.left_eq_add,hjd.symm,hd3,hsv,f0,fm,hA2,hgm,Option.isSome,Option.getD];try simp (disch:=omega) only[Iw])| ((with_reducible refine Y0 ?_);simp only[AQ.then,AQ.blk])|refine⟨by omega,?_⟩| (with_reducible refine hKB _ _ _ ?_)|fail)
    exact hKM _ _ _ (k+1,j.n,vA M [(bT c who j.n).id] j.left) noF _ (by omega) (by dsimp only;omega) (by(repeat' (first| (with_reducible first|exact C1|refine C2 ?_ ?_)| ((with_reducible refine C0 ?_);first|exact CE (by omega) rfl|exact CR (by omega) rfl)| ((with_reducible refine D0 ?_);first|exact CA rfl|refine CJ ?_)|fail));all_goals exact hom (by omega)) aK ⟨by dsimp only;omega,by rw[aA.aC (by omega),aA.aC (by omega)];exact f0,aA.bH,hM2,by dsimp only;omega,hnext⟩
  ·repeat' (first| (with_reducible first| (refine hK _ _ _ ?_;clear hK K)| (refine hB ?_;clear hA hB A B)|refine Z1 ?_|refine Z5 (by omega) ?_|refine hKY _ _ _ ?_)| (with_reducible first|refine Y2 fun K hK=> ?_|refine Y3 fun A B hA hB=> ?_)<;>(simp only[go_sem])| ((with_reducible first|refine Y8 ?_|refine Y9 ?_);try simp only[AQ.then,AQ.blk,reduceIte,Nat.reduceEqDiff])|fail)
   exact hQ _ _ _ _ _ (.inr rfl) rfl ⟨rfl,rfl⟩
theorem FQ {c:Cfg} {who:Nat} {p:fR} (hb:aQ c) (hw:who<3) (hp:mD c who p) (h:K (dB true) H nx):aB Tryz.prog jK [dA (cU c),dI who,dA (cD p)] H nx K:=
 (FK c who p hb hw hp).pure rfl (aI ⟨aE rfl,aE rfl,aE rfl,trivial⟩) fun r hr=>hr▸h
end
end Go.Proofs.YtegiblhkjfiooaaGreat
end
section
namespace Go.Proofs.YtegiblhkjfiooaaGreat
open Go Go.AM
set_option maxRecDepth 100000
def kM:AC:=
 (.seq (.region [rq 0 1 (.box true (.tm 0)),
 rq 1 2 (.alloc [OZ,OZ,OZ,OZ,OZ])] 2 [1,2])
 (.seq (.region [RF 0 8 0 1,
 ⟨1,(some 9),.load 2 true (.tm 8),none,[13],[],false⟩,
 RF 3 11 2 1,
 ⟨4,(some 12),.load 1 false (.tm 11),none,[13],[],true⟩,
 RF 6 14 3 1,
 ⟨7,(some 15),.load 1 false (.tm 14),none,[13],[],true⟩,
 RF 9 17 4 1,
 ⟨10,(some 18),.load 1 false (.tm 17),none,[13],[],true⟩,
 rq 13 3 (.alloc [OZ,OZ,OZ,OZ,OZ]),
 ⟨2,(some 10),.call fL [(.tm 9)],none,[13],[4,7,10],false⟩,
 ⟨5,(some 13),.call fY [(.tm 12)],none,[13],[7,10],false⟩,
 ⟨8,(some 16),.call fM [(.tm 15)],none,[13],[10],false⟩,
 ⟨11,(some 19),.call eO [(.tm 18)],none,[13],[],false⟩,
 rq 12 20 (.build [OZ,OZ,OZ,OZ,OZ] [(0,2,(.tm 10)),(2,1,(.tm 13)),(3,1,(.tm 16)),(4,1,(.tm 19))]),
 rn 14 (.store 5 true (.tm 3) (.tm 20))] 15 [1,2,3])
 (.seq (.seq (.region [RF 0 21 2 1,
 RL 1 22 21,
 rq 2 23 (.len false (.tm 22)),
 rq 3 24 (.move (ki 0))] 4 [1,2,3,22,23,24])
 (.block 0
 (.loop
 (.seq (.region [rq 0 25 (.bin .lss (.tm 24) (.tm 23))] 1 [1,2,3,22,23,24,25])
 (.seq (.cond (.tm 25)
 .skip
 (.exit 0))
 (.seq (.block 1
 (.seq (.region [RM 0 26 24,
 rq 1 27 (.idx 4 (.tm 22) (.tm 24)),
 rq 2 28 (.load 4 true (.tm 27)),
 rq 3 5 (.alloc [VZ,OZ,OZ,VZ]),
 RM 4 4 26,
 rn 5 (.store 4 true (.tm 5) (.tm 28))] 6 [1,2,3,4,5,22,23,24])
 (.region [RF 0 29 2 3,
 ⟨1,(some 30),.load 1 false (.tm 29),none,[],[],true⟩,
 RM 2 31 4,
 RF 3 32 2 3,
 ⟨4,(some 33),.load 1 false (.tm 32),none,[],[],true⟩,
 RM 5 34 4,
 RF 6 35 1 5,
 RL 7 36 35,
 RF 9 38 2 5,
 ⟨10,(some 39),.load 1 false (.tm 38),none,[],[],true⟩,
 ⟨8,(some 37),.call eX [(.tm 36)],none,[],[1,4,10],false⟩,
 ⟨11,(some 40),.call eK [(.tm 39)],none,[],[1,4],false⟩,
 rq 12 41 (.idx 4 (.tm 30) (.tm 31)),
 RF 13 42 1 41,
 ⟨14,none,.store 1 false (.tm 42) (.tm 37),none,[],[4],false⟩,
 rq 15 43 (.idx 4 (.tm 33) (.tm 34)),
 RF 16 44 2 43,
 rn 17 (.store 1 false (.tm 44) (.tm 40))] 18 [1,2,3,22,23,24])))
 (.region [rq 0 45 (.bin .add (.tm 24) (ki 1)),
 RM 1 24 45] 2 [1,2,3,22,23,24])))))))
 (.seq (.seq (.region [RF 0 46 3 1,
 RL 1 47 46,
 rq 2 48 (.len false (.tm 47)),
 rq 3 49 (.move (ki 0))] 4 [2,3,47,48,49])
 (.block 2
 (.loop
 (.seq (.region [rq 0 50 (.bin .lss (.tm 49) (.tm 48))] 1 [2,3,47,48,49,50])
 (.seq (.cond (.tm 50)
 .skip
 (.exit 2))
 (.seq (.block 3
 (.seq (.region [RM 0 51 49,
 rq 1 52 (.idx 3 (.tm 47) (.tm 49)),
 rq 2 53 (.load 3 true (.tm 52)),
 rq 3 7 (.alloc [OZ,OZ,VZ]),
 RM 4 6 51,
 rn 5 (.store 3 true (.tm 7) (.tm 53))] 6 [2,3,6,7,47,48,49])
 (.region [RF 0 54 3 3,
 ⟨1,(some 55),.load 1 false (.tm 54),none,[],[],true⟩,
 RM 2 56 6,
 RF 3 57 3 3,
 ⟨4,(some 58),.load 1 false (.tm 57),none,[],[],true⟩,
 RM 5 59 6,
 RF 6 60 0 7,
 RL 7 61 60,
 RF 9 63 1 7,
 ⟨10,(some 64),.load 1 false (.tm 63),none,[],[],true⟩,
 ⟨8,(some 62),.call eK [(.tm 61)],none,[],[1,4,10],false⟩,
 ⟨11,(some 65),.call eO [(.tm 64)],none,[],[1,4],false⟩,
 rq 12 66 (.idx 3 (.tm 55) (.tm 56)),
 RF 13 67 0 66,
 ⟨14,none,.store 1 false (.tm 67) (.tm 62),none,[],[4],false⟩,
 rq 15 68 (.idx 3 (.tm 58) (.tm 59)),
 RF 16 69 1 68,
 rn 17 (.store 1 false (.tm 69) (.tm 65))] 18 [2,3,47,48,49])))
 (.region [rq 0 70 (.bin .add (.tm 49) (ki 1)),
 RM 1 49 70] 2 [2,3,47,48,49])))))))
 (.seq (.region [rq 0 71 (.load 5 true (.tm 3)),
 rn 1 (.store 5 true (.tm 2) (.tm 71))] 2 [2])
 .ret)))))
def BC:List Cert:=[⟨[],[1,2]⟩,⟨[cz 0,(1,[13],[],false),cz 3,(4,[13],[],true),cz 6,(7,[13],[],true),cz 9,(10,[13],[],true),cz 13,(2,[13],[4,7,10],false),(5,[13],[7,10],false),(8,[13],[10],false),(11,[13],[],false),cz 12,cz 14],[1,2,3]⟩,⟨[],[1,2,3,22,23,24]⟩,⟨[],[1,2,3,22,23,24,25]⟩,⟨[],[1,2,3,4,5,22,23,24]⟩,⟨[cz 0,(1,[],[],true),cz 2,cz 3,(4,[],[],true),cz 5,cz 6,cz 7,cz 9,(10,[],[],true),(8,[],[1,4,10],false),(11,[],[1,4],false),cz 12,cz 13,(14,[],[4],false),cz 15,cz 16,cz 17],[1,2,3,22,23,24]⟩,⟨[],[1,2,3,22,23,24]⟩,⟨[],[2,3,47,48,49]⟩,⟨[],[2,3,47,48,49,50]⟩,⟨[],[2,3,6,7,47,48,49]⟩,⟨[cz 0,(1,[],[],true),cz 2,cz 3,(4,[],[],true),cz 5,cz 6,cz 7,cz 9,(10,[],[],true),(8,[],[1,4,10],false),(11,[],[1,4],false),cz 12,cz 13,(14,[],[4],false),cz 15,cz 16,cz 17],[2,3,47,48,49]⟩,⟨[],[2,3,47,48,49]⟩,⟨[],[2]⟩]
def pR:List aW:=[.cell 2 5 true]
theorem AZ:aO Tryz.prog Tryz.f63 BC=some (kM,pR):=by kernel_rfl
def iV:AC:=
 (.seq (.region [rq 0 2 (.move (.kv (.slice none 0 0)))] 1 [0])
 (.seq (.region [RM 0 3 0,
 rq 1 4 (.call dL [(.tm 3)]),
 rq 2 5 (.call dV [(.tm 4)]),
 RM 3 2 5] 4 [2])
 .ret))
def x9:List Cert:=[⟨[],[0]⟩,⟨[],[2]⟩]
def mE:List aW:=[.tm 2]
theorem xQ:aO Tryz.prog Tryz.f126 x9=some (iV,mE):=by kernel_rfl
theorem yL:aN Tryz.prog fY Tryz.f126 iV mE:=
 aN.mk Tryz.func126 (by kernel_rfl) xQ
def iB:AC:=
 (.seq (.region [rq 0 2 (.move (.kv (.slice none 0 0)))] 1 [0])
 (.seq (.region [RM 0 3 0,
 rq 1 4 (.call cZ [(.tm 3)]),
 rq 2 5 (.call dE [(.tm 4)]),
 RM 3 2 5] 4 [2])
 .ret))
def wH:List Cert:=[⟨[],[0]⟩,⟨[],[2]⟩]
def lZ:List aW:=[.tm 2]
theorem wJ:aO Tryz.prog Tryz.f127 wH=some (iB,lZ):=by kernel_rfl
theorem wE:aN Tryz.prog fM Tryz.f127 iB lZ:=
 aN.mk Tryz.func127 (by kernel_rfl) wJ
def i9:AC:=
 (.seq (.region [rq 0 2 (.move (.kv (.slice none 0 0)))] 1 [0])
 (.seq (.region [RM 0 3 0,
 rq 1 4 (.call eE [(.tm 3)]),
 rq 2 5 (.call eQ [(.tm 4)]),
 RM 3 2 5] 4 [2])
 .ret))
def y5:List Cert:=[⟨[],[0]⟩,⟨[],[2]⟩]
def nN:List aW:=[.tm 2]
theorem yS:aO Tryz.prog Tryz.f128 y5=some (i9,nN):=by kernel_rfl
theorem y7:aN Tryz.prog eK Tryz.f128 i9 nN:=
 aN.mk Tryz.func128 (by kernel_rfl) yS
def fV:AC:=
 (.seq (.region [rq 0 2 (.move (.kv (.slice none 0 0)))] 1 [0])
 (.seq (.region [RM 0 3 0,
 RM 1 4 0,
 rq 2 5 (.len false (.tm 4)),
 RM 3 6 0,
 rq 4 7 (.len false (.tm 6)),
 rq 5 8 (.slc 4 (.tm 3) none (some (.tm 5)) (some (.tm 7))),
 RM 6 2 8] 7 [2])
 .ret))
def sB:List Cert:=[⟨[],[0]⟩,⟨[],[2]⟩]
def jU:List aW:=[.tm 2]
theorem rW:aO Tryz.prog Tryz.f193 sB=some (fV,jU):=by kernel_rfl
theorem r9:aN Tryz.prog dV Tryz.f193 fV jU:=
 aN.mk Tryz.func193 (by kernel_rfl) rW
def fN:AC:=
 (.seq (.region [rq 0 2 (.move (.kv (.slice none 0 0)))] 1 [0])
 (.seq (.seq (.region [RM 0 3 0,
 rq 1 4 (.xop (.qJ false) [(.tm 3)])] 2 [0,4])
 (.cond (.tm 4)
 (.seq (.region [rq 0 2 (.move (.kv (.slice none 0 0)))] 1 [2])
 .ret)
 .skip))
 (.seq (.region [rq 0 5 (.bC 4 0 [VZ,OZ,OZ,VZ] []),
 RM 1 6 0,
 rq 2 7 (.append 4 (.tm 5) (.tm 6)),
 RM 3 2 7] 4 [2])
 .ret)))
def qI:List Cert:=[⟨[],[0]⟩,⟨[],[0,4]⟩,⟨[],[2]⟩,⟨[],[2]⟩]
def jI:List aW:=[.tm 2]
theorem qP:aO Tryz.prog Tryz.f194 qI=some (fN,jI):=by kernel_rfl
theorem qV:aN Tryz.prog dL Tryz.f194 fN jI:=
 aN.mk Tryz.func194 (by kernel_rfl) qP
def fG:AC:=
 (.seq (.region [rq 0 2 (.move (.kv (.slice none 0 0)))] 1 [0])
 (.seq (.region [RM 0 3 0,
 RM 1 4 0,
 rq 2 5 (.len false (.tm 4)),
 RM 3 6 0,
 rq 4 7 (.len false (.tm 6)),
 rq 5 8 (.slc 3 (.tm 3) none (some (.tm 5)) (some (.tm 7))),
 RM 6 2 8] 7 [2])
 .ret))
def qE:List Cert:=[⟨[],[0]⟩,⟨[],[2]⟩]
def iZ:List aW:=[.tm 2]
theorem pZ:aO Tryz.prog Tryz.f195 qE=some (fG,iZ):=by kernel_rfl
theorem qF:aN Tryz.prog dE Tryz.f195 fG iZ:=
 aN.mk Tryz.func195 (by kernel_rfl) pZ
def eW:AC:=
 (.seq (.region [rq 0 2 (.move (.kv (.slice none 0 0)))] 1 [0])
 (.seq (.seq (.region [RM 0 3 0,
 rq 1 4 (.xop (.qJ false) [(.tm 3)])] 2 [0,4])
 (.cond (.tm 4)
 (.seq (.region [rq 0 2 (.move (.kv (.slice none 0 0)))] 1 [2])
 .ret)
 .skip))
 (.seq (.region [rq 0 5 (.bC 3 0 [OZ,OZ,VZ] []),
 RM 1 6 0,
 rq 2 7 (.append 3 (.tm 5) (.tm 6)),
 RM 3 2 7] 4 [2])
 .ret)))
def oV:List Cert:=[⟨[],[0]⟩,⟨[],[0,4]⟩,⟨[],[2]⟩,⟨[],[2]⟩]
def iL:List aW:=[.tm 2]
theorem oX:aO Tryz.prog Tryz.f196 oV=some (eW,iL):=by kernel_rfl
theorem oY:aN Tryz.prog cZ Tryz.f196 eW iL:=
 aN.mk Tryz.func196 (by kernel_rfl) oX
def gK:AC:=
 (.seq (.region [rq 0 2 (.move (.kv (.slice none 0 0)))] 1 [0])
 (.seq (.region [RM 0 3 0,
 RM 1 4 0,
 rq 2 5 (.len false (.tm 4)),
 RM 3 6 0,
 rq 4 7 (.len false (.tm 6)),
 rq 5 8 (.slc 3 (.tm 3) none (some (.tm 5)) (some (.tm 7))),
 RM 6 2 8] 7 [2])
 .ret))
def uI:List Cert:=[⟨[],[0]⟩,⟨[],[2]⟩]
def kQ:List aW:=[.tm 2]
theorem uK:aO Tryz.prog Tryz.f197 uI=some (gK,kQ):=by kernel_rfl
theorem uS:aN Tryz.prog eQ Tryz.f197 gK kQ:=
 aN.mk Tryz.func197 (by kernel_rfl) uK
def gB:AC:=
 (.seq (.region [rq 0 2 (.move (.kv (.slice none 0 0)))] 1 [0])
 (.seq (.seq (.region [RM 0 3 0,
 rq 1 4 (.xop (.qJ false) [(.tm 3)])] 2 [0,4])
 (.cond (.tm 4)
 (.seq (.region [rq 0 2 (.move (.kv (.slice none 0 0)))] 1 [2])
 .ret)
 .skip))
 (.seq (.region [rq 0 5 (.bC 3 0 [VZ,VZ,VZ] []),
 RM 1 6 0,
 rq 2 7 (.append 3 (.tm 5) (.tm 6)),
 RM 3 2 7] 4 [2])
 .ret)))
def sY:List Cert:=[⟨[],[0]⟩,⟨[],[0,4]⟩,⟨[],[2]⟩,⟨[],[2]⟩]
def kG:List aW:=[.tm 2]
theorem tA:aO Tryz.prog Tryz.f198 sY=some (gB,kG):=by kernel_rfl
theorem sN:aN Tryz.prog eE Tryz.f198 gB kG:=
 aN.mk Tryz.func198 (by kernel_rfl) tA
end Go.Proofs.YtegiblhkjfiooaaGreat
end
section
namespace Go.Proofs.YtegiblhkjfiooaaGreat
open Go Go.AM
set_option maxRecDepth 100000
set_option maxHeartbeats 8000000
theorem XO {τ:Nat→Nat} {n m:Nat} {l:List fC}:bA.rn τ ⟨n,m,l.map eCJ⟩=⟨n,m,l.map eCJ⟩:=by
 refine rF fun r hr x hx=> ?_
 obtain⟨y,_,rfl⟩:=List.mem_map.1 hr
 exact List.all_eq_true.1 (yK y).2 x hx
section
variable {H : aA} {nx : Nat} {K : D → aA → Nat → Prop}
theorem ag9 {l:List fC} {a:Nat} {z:List D1} (ha:a<l.length):wr ((l.take a).map eCJ++(l.drop (a+1)).map eCJ) (l.length-1) (List.replicate (l.length-(l.length-1)) z)=(B3 l a).map eCJ++[z]:=by
 have h1:(l.take a).map eCJ++(l.drop (a+1)).map eCJ=(B3 l a).map eCJ:=by simp[B3]
 have h2:((B3 l a).map eCJ).length=l.length-1:=by have:=RP ha;simp;omega
 have h3:l.length-(l.length-1)=1:=by omega
 rw[h1,h3,List.replicate_one]
 unfold wr
 have h4:List.drop (l.length-1+[z].length) ((B3 l a).map eCJ)=[]:=List.drop_of_length_le (by simp at h2 ⊢;omega)
 rw[h4,List.take_of_length_le (by omega),List.append_nil]
theorem sP (l:List fC) (a cap m:Nat) (hl:l.length<2^20) (ha:a<l.length) (hc:l.length≤cap) (hcm:cap≤m):
 aB Tryz.prog eA [dO 3 0 l.length cap,dI a,dI (a+1)] (hp [(0,⟨3,m,l.map eCJ⟩)]) 1
 fun r H' n'=>∃cap' m',(B3 l a).length≤cap'∧cap'≤m'∧n'=2∧H'=hp [(1,⟨3,m',(B3 l a).map eCJ⟩)]∧r=dO 3 1 (B3 l a).length cap':=by
 refine rZ rfl fun Q hQ=> ?_
 unfold fW
 have e2:((a:Int)+1).toNat=a+1:=by omega
 have e3:a+(l.length-(a+1))=l.length-1:=by omega
 have e7:(a+1+(l.length-(a+1))≤l.length)=True:=eq_true (by omega)
 have e8:List.take (l.length-(a+1)) (List.drop (a+1) l)=List.drop (a+1) l:=List.take_of_length_le (by simp)
 have e9:(List.drop (a+1) l).length=l.length-(a+1):=List.length_drop
 have hol:=RP ha
 repeat' (first| (with_reducible first| (refine hK _ _ _ ?_;clear hK K)| (refine hB ?_;clear hA hB A B)|refine Z1 ?_|refine Z2 ?_|refine Z5 (by omega) ?_|refine fun(cap:Nat) (hcap:_≤cap)=> ?_|refine fun(hcp:_≤cap)=> ?_)| (with_reducible first|refine Y2 fun K hK=> ?_|refine Y3 fun A B hA hB=> ?_)<;>(simp only[go_sem,e2,e3,e7,e8,e9])| ((with_reducible refine Y8 ?_);try simp only[AQ.then,AQ.blk,reduceIte,Nat.reduceEqDiff])|refine⟨by omega,?_⟩| (refine⟨by(rw[List.length_take];omega),?_⟩)|fail)
 (refine hQ _ _ _ _ _ 2 (dO 3 1 (B3 l a).length cap) (hp [(1,⟨3,cap,(B3 l a).map eCJ⟩)]) _ _ (.inr rfl) rfl (fU [20,0] (by omega) (by repeat' (first| ((with_reducible refine C0 ?_);exact CQ (by omega) rfl rfl (by omega) rfl)| ((with_reducible refine D0 ?_);refine CJ ?_)|fail)) ⟨⟨by simp,by simp[sgL],_,rfl,anJ (junk:=[[cI 0,cI 0,cI 0]]) (fun r hr=>(aG yK _ r hr).2) (ag9 ha) rfl (by decide)⟩,trivial⟩ (by simp[sgL])) ?_)
 exact⟨cap,cap,by omega,Nat.le_refl _,rfl,rfl,rfl⟩
theorem tK {l:List fC} {z:Int} {cap m i0:Nat} (hl:l.length<2^20) (hz: ¬z<0) (ha:z.toNat<l.length) (hc:l.length≤cap) (hcm:cap≤m) (h0:i0<nx) (o0:H i0=some ⟨3,m,l.map eCJ⟩)
 (h: ∀cap' m',(B3 l z.toNat).length≤cap'→cap'≤m'→K (dO 3 nx (B3 l z.toNat).length cap') ((H.del i0).set nx ⟨3,m',(B3 l z.toNat).map eCJ⟩) (nx+1)):
 aB Tryz.prog eA [dO 3 i0 l.length cap,dI z,dI (z+1)] H nx K:=by
 obtain⟨a,rfl⟩: ∃a:Nat,z=a:=⟨z.toNat,by omega⟩
 refine(sP l a cap m hl ha hc hcm).AF [i0] rfl ⟨qS (by simp) rfl rfl rfl rfl,aE rfl,aE rfl,trivial⟩
  ⟨⟨by simp,id,_,o0,bP (aG yK _) rfl rfl⟩,trivial⟩ (by simp) (by simp;omega) (by simp) fun r H' n' _ ⟨cap',m',q0,q1,q2,q3,q4⟩=> ?_
 simp only[Int.toNat_natCast] at h
 have h:=h cap' m' q0 q1
 subst q2;subst q3;subst q4
 generalize B3 l a=l' at*
 have e1:back (tau 1 nx (nth [i0])) (hp [(1,⟨3,m',l'.map eCJ⟩)]) 2 H=(H.del i0).set nx ⟨3,m',l'.map eCJ⟩:=by
  simp[back,hp,aA.set,aA.nil,tau,nth,uB,XO,aA.eL,aA.yI]
 rw[←e1] at h
 exact h
end
end Go.Proofs.YtegiblhkjfiooaaGreat
end
section
namespace Go.AM
theorem GZ {c:Cfg} {f:CSt→Nat→Option Mic} {s:CSt} {k:Nat} {l:List Nat} (h:f s k=none):vE c f s (k::l)=vE c f s l:=by
 rw[vE,h]
theorem NH {c:Cfg} {f:CSt→Nat→Option Mic} {s:CSt} {k:Nat} {l:List Nat} {m:Mic} (h:f s k=some m):vE c f s (k::l)=m::vE c f (aR c s m) l:=by
 rw[vE,h]
theorem ap4 {k:Nat} (h:k<3):[0,1,2].drop k=k::[0,1,2].drop (k+1):=by
 obtain rfl|rfl|rfl:k=0∨k=1∨k=2:=by omega
 all_goals rfl
theorem apX {k:Nat} (h:k<4):[0,1,2,3].drop k=k::[0,1,2,3].drop (k+1):=by
 obtain rfl|rfl|rfl|rfl:k=0∨k=1∨k=2∨k=3:=by omega
 all_goals rfl
def vU (c:Cfg) (f:CSt→Nat→Option Mic) (l:List Nat) (s:CSt) (es:List Ev) (S:CSt) (E:List Ev):Prop:=dR c s (vE c f s l)=S∧es++iP c s (vE c f s l)=E
theorem vU.none {c:Cfg} {f:CSt→Nat→Option Mic} {s S:CSt} {es E:List Ev} {k:Nat} {l:List Nat} (hl:vU c f (k::l) s es S E) (h:f s k=none):vU c f l s es S E:=by
 unfold vU at hl
 rw[GZ h] at hl
 exact hl
theorem vU.some {c:Cfg} {f:CSt→Nat→Option Mic} {s S:CSt} {es E:List Ev} {k:Nat} {l:List Nat} {m:Mic} (hl:vU c f (k::l) s es S E) (h:f s k=some m):vU c f l (aR c s m) (es++y0 s m) S E:=by
 unfold vU at hl
 rw[NH h] at hl
 refine⟨hl.1,?_⟩
 rw[List.append_assoc]
 exact hl.2
theorem vU.nil {c:Cfg} {f:CSt→Nat→Option Mic} {s S:CSt} {es E:List Ev} (hl:vU c f [] s es S E):s=S∧es=E:=by
 refine⟨hl.1,?_⟩
 have:=hl.2
 rw[vE,iP,List.append_nil] at this
 exact this
theorem agJ {i:CIn} {s:CSt} {k:Nat} (h:i.ready.getD k default=false):vT i s k=none:=by
 unfold vT;rw[if_neg (by rw[h];decide)]
theorem at4 {j:Nat} (h1:1≤j) (h2:j<5):j=1∨j=2∨j=3∨j=4:=by omega
theorem acZ {i:CIn} {s:CSt} {k:Nat} (h: ∀j,1≤j→j<5→NN s k (pQ s k j)=false):vT i s k=none:=by
 unfold vT
 split
 ·simp[List.find?_cons,h 1 (by omega) (by omega),h 2 (by omega) (by omega),h 3 (by omega) (by omega),h 4 (by omega) (by omega)]
 ·rfl
theorem acB {i:CIn} {s:CSt} {k j:Nat} (hr:i.ready.getD k default=true) (h1:1≤j) (h2:j≤4) (h: ∀j',1≤j'→j'<j→NN s k (pQ s k j')=false) (hj:NN s k (pQ s k j)=true):vT i s k=some (.tell k (pQ s k j)):=by
 unfold vT
 rw[if_pos hr]
 rcases at4 h1 (by omega) with rfl|rfl|rfl|rfl
 ·simp[List.find?_cons,hj]
 ·simp[List.find?_cons,hj,h 1 (by omega) (by omega)]
 ·simp[List.find?_cons,hj,h 1 (by omega) (by omega),h 2 (by omega) (by omega)]
 ·simp[List.find?_cons,hj,h 1 (by omega) (by omega),h 2 (by omega) (by omega),h 3 (by omega) (by omega)]
def LV (c:Cfg) (l:List Nat) (s:CSt) (u:List Bool) (S:CSt):Prop:=dR c s (oP c s u l)=S
theorem LV.none {c:Cfg} {s S:CSt} {u:List Bool} {k:Nat} {l:List Nat} (hl:LV c (k::l) s u S) (h:AO c s u k=none):LV c l s u S:=by
 unfold LV at hl
 rw[oP,h] at hl
 exact hl
theorem LV.some {c:Cfg} {s S:CSt} {u:List Bool} {k who:Nat} {l:List Nat} (hl:LV c (k::l) s u S) (h:AO c s u k=some who):LV c l (aR c s (.adm who k)) (u.set who true) S:=by
 unfold LV at hl
 rw[oP,h] at hl
 exact hl
theorem anA {c:Cfg} {s:CSt} {u:List Bool} {st:Nat} (h: ¬(aL s st).pipe.length<2):AO c s u st=none:=if_neg h
theorem ah0 {c:Cfg} {s:CSt} {u:List Bool} {st:Nat} (h: ∀j,1≤j→j<4→KE c s u st (sM s st j)=false):AO c s u st=none:=by
 unfold AO
 split
 ·simp[List.find?_cons,h 1 (by omega) (by omega),h 2 (by omega) (by omega),h 3 (by omega) (by omega)]
 ·rfl
theorem ahR {c:Cfg} {s:CSt} {u:List Bool} {st j:Nat} (hr:(aL s st).pipe.length<2) (h1:1≤j) (h2:j≤3) (h: ∀j',1≤j'→j'<j→KE c s u st (sM s st j')=false) (hj:KE c s u st (sM s st j)=true):AO c s u st=some (sM s st j):=by
 unfold AO
 rw[if_pos hr]
 obtain rfl|rfl|rfl:j=1∨j=2∨j=3:=by omega
 ·simp[List.find?_cons,hj]
 ·simp[List.find?_cons,hj,h 1 (by omega) (by omega)]
 ·simp[List.find?_cons,hj,h 1 (by omega) (by omega),h 2 (by omega) (by omega)]
end Go.AM
end
section
namespace Go.Proofs.YtegiblhkjfiooaaGreat
open Go Go.AM
set_option maxRecDepth 100000
set_option maxHeartbeats 8000000
theorem EB:cJ Tryz.prog mG Tryz.f137 lR sK:=cJ.mk Tryz.func137 (by kernel_rfl) D6
section
variable {H : aA} {nx : Nat} {K : D → aA → Nat → Prop}
theorem F8 {X:Nat→Prop} {c:Cfg} {i:CIn} {s:CSt} {es:List Ev} {i0 i1:Nat} {nm:Nat→Nat} (hb:aQ c) (hs:COk c s) (hin:i.ready.length=3) (hB:l9 X H nx i0 i1 nm s es) (hl:es.length<900)
 (h: ∀H' nx' nm',nx≤nx'→l9 X H' nx' i0 i1 nm' (CW c i s) (es++iP c s (KQ c i s))→(∀id,X id→H' id=H id)→K (.tup []) H' nx'):
 aB Tryz.prog mG [.one (.c (.ptr 5 i0 0 0)),dA (eIn i),.one (.c (.ptr 5 i1 0 0))] H nx K:=by
 refine EB rfl fun Q hQ=> ?_
 unfold lR
 obtain⟨wc,hc,pc,vc,tc,hi0,hw0,hh0,ht0,hpc,hvc⟩: ∃wc hc pc vc tc,H i0=some ⟨5,1,[[.osl 1 (nm 0) 0 s.words.length wc,.osl 1 (nm 1) 0 s.holds.length hc,.osl 4 (nm 2) 0 3 pc,.osl 3 (nm 3) 0 4 vc,.osl 5 (nm 4) 0 s.told.length tc]]⟩∧_:=by
  obtain⟨cells,h1,⟨wc,hc,pc,vc,tc,rfl,h2⟩,_⟩:=hB.rep.st
  exact⟨wc,hc,pc,vc,tc,h1,h2⟩
 have hA:=hB.rep.apart (nx':=nx) [] [] (Nat.le_refl _) (by simp) (by simp) (by simp) (by simp)
 simp only[bQ,eZ,List.map,List.nil_append] at hA
 repeat' (first| (with_reducible first| (refine hK _ _ _ ?_;clear hK K)|refine Z1 ?_|refine Z3 fun KB hKB=> ?_)| (with_reducible refine Y2 fun K hK=> ?_)<;>(simp only[go_sem,hi0,hA])|fail)
 (have hKX:=hKB;clear hKB)
 obtain⟨H0,hH0⟩: ∃H0,H0=H.set nx ⟨3,1,[eIn i]⟩:=⟨_,rfl⟩
 rw[←hH0]
 have h0i:H0 nx=some ⟨3,1,[eIn i]⟩:=by rw[hH0];exact aA.bH
 have hB0:l9 (fun id=>X id∨id=nx) H0 (nx+7) i0 i1 nm s es:=hB.next (by omega) (fun id h1 h2=>by rw[hH0,aA.aC (by omega)]) fun id hid=>by
  rcases hid with hid|rfl
  ·have:=hB.rep.x id (.inl hid)
   exact⟨by omega,.inl hid⟩
  ·exact⟨by omega,.inr (Nat.le_refl _)⟩
 have hxi0:=hB.rep.i0.1
 have hxi1:=hB.hap.i1.1
 refine aM.gP (β:=Nat×CSt×List Ev×(Nat→Nat)) (fun u=>en [(18,dI u.1),(17,dI 3),(4,.one (.c (.ptr 3 nx 0 0))),(2,.one (.c (.ptr 5 i1 0 0))),(0,.one (.c (.ptr 5 i0 0 0)))])
  (fun u H1 nx1=>u.1≤3∧COk c u.2.1∧l9 (fun id=>X id∨id=nx) H1 nx1 i0 i1 u.2.2.2 u.2.1 u.2.2.1∧(∀id,X id∨id=nx→H1 id=H0 id)∧vU c (vT i) ([0,1,2].drop u.1) u.2.1 u.2.2.1 (CW c i s) (es++iP c s (KQ c i s))∧u.2.2.1.length≤es.length+u.1)
  (fun u=>3-u.1) (0,s,es,nm) ⟨noF,_,by repeat' (first| (with_reducible first|exact C1|refine C2 ?_ ?_)| ((with_reducible refine C0 ?_);exact CE (by omega) rfl)| ((with_reducible refine D0 ?_);first|exact CA rfl|refine CJ ?_)|fail),aK,by dsimp only;omega,hs,hB0,fun _ _=>rfl,⟨rfl,rfl⟩,by simp⟩ ?_
 rintro⟨k,s1,es1,nm1⟩ H1 nx1 hnx ⟨hk,hs1,hB1,hX1,hS1,hL1⟩ KL hKL
 dsimp only at hk hs1 hB1 hS1 hL1
 obtain⟨wc,hc,pc,vc,tc,mp,rp,mv,rv,g0,g1,g2,g3,g4,g5,g6,g7,g8,g9,ga,gb⟩:=hB1.rep.get
 have hin1:H1 nx=some ⟨3,1,[eIn i]⟩:=by rw[hX1 nx (.inr rfl)];exact h0i
 by_cases hlt:k<3
 ·have hS2:=hS1
  rw[ap4 hlt] at hS2
  obtain⟨p,hpd⟩: ∃p,p=aF s1 k:=⟨_,rfl⟩
  obtain⟨qo,qc,oc,gr,gq,go⟩:=ga k hlt
  rw[←hpd] at gr gq go
  repeat' (first| (with_reducible first| (refine hK _ _ _ ?_;clear hK K)| (refine hA ?_;clear hA hB A B)|refine Z1 ?_|refine Z2 ?_|refine Z3 fun KB hKB=> ?_|refine Z4 (by omega) ?_)| (with_reducible first|refine Y2 fun K hK=> ?_|refine Y3 fun A B hA hB=> ?_)<;>(simp only[go_sem,g0,g1,gr,hin1])|refine⟨by omega,?_⟩|fail)
  (have hKY:=hKB;clear hKB)
  have hpo:=hs1.port k hlt
  rw[←hpd] at hpo
  have hn2:=hB1.rep.names.lt 2 (by omega)
  obtain⟨hla,hlb⟩:=hpo.last
  refine aM.gP (β:=Nat) (fun j=>en [(18,dI k),(17,dI 3),(8,dI j),(7,.one (.c (.ptr 4 (nm1 2) k 0))),(6,dI k),(4,.one (.c (.ptr 3 nx 0 0))),(2,.one (.c (.ptr 5 i1 0 0))),(0,.one (.c (.ptr 5 i0 0 0)))])
   (fun j H2 _=>1≤j∧j≤5∧H2=H1∧ ∀j',1≤j'→j'<j→NN s1 k (pQ s1 k j')=false) (fun j=>5-j) 1 ⟨noF,_,by repeat' (first| (with_reducible first|exact C1|refine C2 ?_ ?_)| ((with_reducible refine C0 ?_);exact CE (by omega) rfl)| ((with_reducible refine D0 ?_);first|exact CA rfl|refine CJ ?_)|fail),aK,by omega,by omega,rfl,fun j' h1 h2=>by omega⟩ ?_
  rintro j H2 nx2 hnx2 ⟨hj1,hj5,hH2,hinv⟩ KJ hKJ
  subst hH2
  by_cases hj4:j≤4
  ·cases hrd:i.ready.getD k default with
   |false=>
    repeat' (first| (with_reducible first| (refine hK _ _ _ ?_;clear hK K)| (refine hB ?_;clear hA hB A B)|refine Z1 ?_|refine hKY _ _ _ ?_)| (with_reducible first|refine Y2 fun K hK=> ?_|refine Y3 fun A B hA hB=> ?_|refine Y4 (by omega) ?_)<;>(simp only[go_sem,hin1,hrd];try simp (disch:=omega) only[Iw])| ((with_reducible refine Y9 ?_);try simp only[AQ.then,AQ.blk,reduceIte,Nat.reduceEqDiff])| ((with_reducible refine Y0 ?_);simp only[AQ.then,AQ.blk])|refine⟨by omega,?_⟩| (with_reducible refine hKB _ _ _ ?_)|fail)
    exact hKL _ _ _ (k+1,s1,es1,nm1) noF _ (by omega) (by dsimp only;omega) (by repeat' (first| (with_reducible first|exact C1|refine C2 ?_ ?_)| ((with_reducible refine C0 ?_);exact CE (by omega) rfl)| ((with_reducible refine D0 ?_);first|exact CA rfl|refine CJ ?_)|fail)) aK ⟨by dsimp only;omega,hs1,hB1.mono (by omega),hX1,hS2.none (agJ hrd),by dsimp only;omega⟩
   |true=>
   obtain⟨st,hst⟩: ∃st,st=pQ s1 k j:=⟨_,rfl⟩
   have hst':st=((p.last+(j:Int))%4).toNat:=by rw[hst,hpd];rfl
   have hst4:st<4:=by omega
   have hmod:(p.last+(j:Int)).tmod 4=(st:Int):=by rw[Int.tmod_eq_emod_of_nonneg (by omega)];omega
   obtain⟨v,hvd⟩: ∃v,v=aL s1 st:=⟨_,rfl⟩
   obtain⟨po,ppc,do_,dc,gs,gp,gd⟩:=gb st hst4
   rw[←hvd] at gs gp gd
   obtain⟨md,rd,d1,d2,d3,d4,d5,d6⟩:=gd.ex
   by_cases hd0:v.done.length=0
   ·have hlen:((v.done.length:Int)=0)=True:=eq_true (by omega)
    repeat' (first| (with_reducible first| (refine hK _ _ _ ?_;clear hK K)| (refine hA ?_;clear hA hB A B)|refine Z1 ?_|refine Z2 ?_|refine Z3 fun KB hKB=> ?_)| (with_reducible first|refine Y2 fun K hK=> ?_|refine Y3 fun A B hA hB=> ?_|refine Y4 (by omega) ?_)<;>(simp only[go_sem,g0,g1,g2,gr,gs,hin1,hmod,hrd,hlen];try simp (disch:=omega) only[Iw])| ((with_reducible refine Y9 ?_);try simp only[AQ.then,AQ.blk,reduceIte,Nat.reduceEqDiff])| ((with_reducible refine Y0 ?_);simp only[AQ.then,AQ.blk])|refine⟨by omega,?_⟩| (with_reducible refine hKB _ _ _ ?_)|fail)
    exact hKJ _ _ _ (j+1) noF _ (by omega) (by omega) (by repeat' (first| (with_reducible first|exact C1|refine C2 ?_ ?_)| ((with_reducible refine C0 ?_);exact CE (by omega) rfl)| ((with_reducible refine D0 ?_);first|exact CA rfl|refine CJ ?_)|fail)) aK ⟨by omega,by omega,rfl,fun j' h1 h2=>by
     by_cases hj:j'<j
     ·exact hinv j' h1 hj
     ·have:j'=j:=by omega
      subst this
      rw[←hst]
      exact decide_eq_false fun hc=>by rw[←hvd] at hc;omega⟩
   have hlen:((v.done.length:Int)=0)=False:=eq_false (by omega)
   obtain⟨d,hdd⟩: ∃d,d=v.done.getD 0 default:=⟨_,rfl⟩
   have d7:rd[do_]?=some (aS d):=by
    have:(rd.drop do_)[0]?=some (aS d):=by rw[d2,List.getElem?_map];simp[hdd,List.getD,show 0<v.done.length by omega]
    rwa [List.getElem?_drop,Nat.add_zero] at this
   by_cases hwho:d.who=k
   ·have hn8:=hB1.rep.names.lt (8+k) (by omega)
    have htl:s1.told.length≤36:=by have:=hs1.st.lens hb;simp only[cX] at this;omega
    have hol:=hpo.ol
    have hex: ∃j∈p.out,j.n=d.n:=by
     obtain⟨_,j,q1,q2,_⟩:=(hs1.slv st hst4).out (key d) (by rw[←hvd];exact M9 (by rw[hdd];exact cC (by omega)))
     have e:(key d).1.toNat=k:=by show d.who.toNat=k;omega
     rw[e,←hpd] at q1
     exact⟨j,q1,q2⟩
    obtain⟨hx1,hx2⟩:=PJ hex
    have hx3: ¬bK (isC d.n) p.out<0:=by
     have:0≤bK (isC d.n) p.out:=cH.2 (by obtain⟨j,q1,q2⟩:=hex;exact⟨j,q1,decide_eq_true q2⟩)
     omega
    have hout: ∀{G:aA} {n':Nat} {K:D→aA→Nat→Prop},G (nm1 (5+k))=H2 (nm1 (5+k))→G (nm1 (8+k))=H2 (nm1 (8+k))→K (dI (bK (isC d.n) p.out)) G n'→aB Tryz.prog kV [.one (.agg [cI p.next,.osl 1 (nm1 (5+k)) qo p.queue.length qc,.osl 3 (nm1 (8+k)) 0 p.out.length oc,cI p.last]),dI d.n] G n' K:=fun h1 h2 h3=>
     KT (by omega) (lY (A8 (fO ZX (fO ((gq.frame h1).frz (aG bF _) trivial) (fO ((go.frame h2).frz (aG yK _) trivial) (fO ZX LH)))))) h3
    have hA:=hB1.rep.apart (nx':=nx2) [nx] [0,1,2,3,4,5+k,8+k,11+st,15+st] (by omega) (by simp) (fun x hx=>.inl (.inr (by simpa using hx))) (by simp;omega) (by simp;omega)
    simp only[bQ,eZ,List.map,List.cons_append,List.nil_append] at hA
    obtain⟨mt,rt,e1,e2,e3,e4,e5,e6⟩:=g5.ex
    obtain⟨mo,ro,o1,o2,o3,o4,o5,o6⟩:=go.ex
    rw[List.drop_zero] at e2 o2
    subst e2;subst o2
    refine aM.BW fun hnm=> ?_
    have hgk: ∀r,(rp.set k r)[k]?=some r:=fun r=>by rw[List.getElem?_set_self (by omega)]
    have hmk: ∀k l,msk (nx2+k) l H2=H2:=fun k l=>BV hnm (by omega)
    repeat' (first| (with_reducible first| (refine hK _ _ _ ?_;clear hK K)| (refine hA ?_;clear hA hB A B)| (refine hB ?_;clear hA hB A B)|refine Z1 ?_|refine Z2 ?_|refine Z3 fun KB hKB=> ?_|refine fun(cap:Nat) (hcap:_≤cap)=> ?_|refine fun(hcp:_≤cap)=> ?_)| (first| (with_reducible first|refine Y2 fun K hK=> ?_|refine Y3 fun A B hA hB=> ?_|refine Y4 (by omega) ?_)| (refine hout (by simp only[aA.set,aA.del,hA,if_false]) (by simp only[aA.set,aA.del,hA,if_false]) ?_)| (refine tK (m:=mo) (by omega) hx3 hx1 o5 (by omega) (by omega) (by simp only[aA.set,aA.del,hA,if_false];exact o1) (fun cap' m' q1 q2=> ?_)))<;>(simp only[go_sem,Nat.add_assoc,Nat.left_eq_add,hmk,umS (G:=H2),umD (G:=H2),umB,hgk,List.set_set,g0,g1,g2,gr,gs,hin1,hmod,hrd,hlen,d1,d7,hwho,e1,o1,hA];try simp (disch:=omega) only[Iw])|refine⟨by omega,?_⟩|fail)
    obtain⟨nm',hnm'⟩: ∃nm',nm'=put (put nm1 4 (nx2+56)) (8+k) (nx2+88):=⟨_,rfl⟩
    have pn: ∀j,j≠4→j≠8+k→nm' j=nm1 j:=fun j h1 h2=>by rw[hnm',jE h2,jE h1]
    have p4:nm' 4=nx2+56:=by rw[hnm',jE (by omega),t8]
    have p8:nm' (8+k)=nx2+88:=by rw[hnm',t8]
    obtain⟨s',hs'⟩: ∃s',s'=aR c s1 (.tell k st):=⟨_,rfl⟩
    have hdj:iF s1 st=d:=by rw[hdd,hvd];rfl
    have hpd':aF s' k= {p with out:=PE p.out d.n,last:=st}:=by rw[hs',bL rfl (by rw[hs1.pl];omega),if_pos rfl,hdj,←hpd]
    have hvd':aL s' st= {v with done:=v.done.drop 1}:=by rw[hs',bO rfl (by rw[hs1.sl];omega),if_pos rfl,←hvd]
    have htd:s'.told=s1.told++[d]:=by rw[hs',←hdj];rfl
    refine acI (hB1.upd k st nm' s' (by omega) ?_ ?_ ?_ ?_ ?_ ?_ (.inl hlt) (.inl hst4) (fun j hj hne=>by rw[hs',bL rfl (by rw[hs1.pl];omega),if_neg hne]) (fun j hj hne=>by rw[hs',bO rfl (by rw[hs1.sl];omega),if_neg hne])) (by omega) fun H' nx' hx hB' hX'=> ?_
    ·rw[hnm']
     have hXl: ∀v,nx2≤v→¬((X v∨v=nx)∨v=i1):=fun v hv hn=>by have:=hB1.rep.x v hn;omega
     exact((hB1.rep.names.mono (by omega:nx1≤nx2)).put (nx':=nx2+57) (by omega) (by omega) (hXl _ (by omega))).put (by omega) (by omega) (hXl _ (by omega))
    ·intro j hj
     by_cases h4:j=4
     ·subst h4;exact .inr ⟨.inl rfl,by omega⟩
     ·by_cases h8:j=8+k
      ·subst h8;exact .inr ⟨.inr (.inr (.inl rfl)),by omega⟩
      ·exact .inl (pn j h4 h8)
    ·intro id hid h0 hne
     simp only[aA.set,aA.del,h0,hne 2 (by omega) (by omega),hne 3 (by omega) (by omega),hne 4 (by omega) (by omega),hne (8+k) (by omega) (by omega),show ¬id=nx2+47 by omega,show ¬id=nx2+55 by omega,show ¬id=nx2+56 by omega,show ¬id=nx2+88 by omega,if_false]
    ·refine⟨wc,hc,pc,vc,cap,?_,?_,?_,?_,g6,g7⟩
     ·simp only[aA.set,aA.del,hA,if_false,if_true,U2,pn 0 (by omega) (by omega),pn 1 (by omega) (by omega),pn 2 (by omega) (by omega),pn 3 (by omega) (by omega),p4,htd,List.length_append,List.length_singleton]
      rw[hs'];rfl
     ·rw[pn 0 (by omega) (by omega),hs']
      exact g3.frame (by simp only[aA.set,aA.del,hA,if_false])
     ·rw[pn 1 (by omega) (by omega),hs']
      exact g4.frame (by simp only[aA.set,aA.del,hA,if_false])
     ·rw[p4,htd]
      exact⟨cap,(s1.told++[d]).map aS,by simp only[aA.set,aA.del,hA,if_false,if_true,show ¬nx2+56=nx2+88 by omega],rfl,by simp,by simp,by simpa using hcap,by simp⟩
    ·refine⟨mp,rp.set k [cI p.next,.osl 1 (nm1 (5+k)) qo p.queue.length qc,.osl 3 (nx2+88) 0 (PE p.out d.n).length cap',cI st],mp,rp,g1,by simp only[aA.set,aA.del,hA,if_false,if_true];rfl,by simp only[List.length_set,g8],fun j hj hne=>by rw[List.getElem?_set_ne (Ne.symm hne)],fun _=>⟨_,hgk _,⟨qo,qc,cap',?_,?_,?_⟩⟩⟩
     ·rw[hpd',pn (5+k) (by omega) (by omega),p8];rfl
     ·rw[hpd',pn (5+k) (by omega) (by omega)]
      exact gq.frame (by simp only[aA.set,aA.del,hA,if_false])
     ·rw[hpd',p8]
      exact⟨m',(PE p.out d.n).map eCJ,by simp only[aA.set,aA.del,hA,if_false,if_true];rfl,rfl,by simp,by simp,q1,by omega⟩
    ·refine⟨mv,rv.set st [.osl 3 (nm1 (11+st)) po v.pipe.length ppc,.osl 5 (nm1 (15+st)) (do_+1) (v.done.length-1) (dc-1),cI v.last],mv,rv,g2,by simp only[aA.set,aA.del,hA,if_false,if_true],by simp only[List.length_set,g9],fun j hj hne=>by rw[List.getElem?_set_ne (Ne.symm hne)],fun _=>⟨[.osl 3 (nm1 (11+st)) po v.pipe.length ppc,.osl 5 (nm1 (15+st)) (do_+1) (v.done.length-1) (dc-1),cI v.last],List.getElem?_set_self (by omega),⟨po,ppc,do_+1,dc-1,?_,?_,?_⟩⟩⟩
     ·rw[hvd',pn (11+st) (by omega) (by omega),pn (15+st) (by omega) (by omega)]
      simp only[aj9,List.length_drop]
     ·rw[hvd',pn (11+st) (by omega) (by omega)]
      exact gp.frame (by simp only[aA.set,aA.del,hA,if_false])
     ·rw[hvd',pn (15+st) (by omega) (by omega)]
      refine⟨md,rd,by simp only[aA.set,aA.del,hA,if_false];exact d1,by rw[List.map_drop,←d2,List.drop_drop],?_,by simp,?_,?_⟩
      ·simp only[List.length_drop];omega
      ·simp only[List.length_drop];omega
      ·omega
    ·simp only[go_sem]
     repeat' (first| (with_reducible first| (refine hK _ _ _ ?_;clear hK K)|refine hKY _ _ _ ?_)| (with_reducible refine Y2 fun K hK=> ?_)<;>(simp only[go_sem];try simp (disch:=omega) only[Iw])| ((with_reducible refine Y9 ?_);try simp only[AQ.then,AQ.blk,reduceIte,Nat.reduceEqDiff])| ((with_reducible refine Y0 ?_);simp only[AQ.then,AQ.blk])| (with_reducible (clear hKB KB;refine hKB _ _ _ ?_))|fail)
     have hO:vT i s1 k=some (.tell k st):=by
      rw[hst]
      exact acB hrd hj1 hj4 hinv (by rw[←hst];exact decide_eq_true ⟨by rw[←hvd];omega,by rw[←hvd,←hdd];exact hwho⟩)
     have hL:=hS2.some hO
     rw[←hs',show y0 s1 (.tell k st)=[⟨3,k,d.n⟩] from by rw[←hdj];rfl] at hL
     have hs2:COk c s':=by rw[hs'];exact o9 hb hs1 (TB hs1 hlt hO)
     exact hKL _ _ _ (k+1,s',es1++[⟨3,k,d.n⟩],nm') noF _ (by omega) (by dsimp only;omega) (by repeat' (first| (with_reducible first|exact C1|refine C2 ?_ ?_)| ((with_reducible refine C0 ?_);exact CE (by omega) rfl)| ((with_reducible refine D0 ?_);first|exact CA rfl|refine CJ ?_)|fail)) aK ⟨by dsimp only;omega,hs2,hB'.mono (by omega),fun id hid=>(hX' id hid).trans (hX1 id hid),hL,by simp;omega⟩
   ·have hwf:(d.who=(k:Int))=False:=eq_false hwho
    repeat' (first| (with_reducible first| (refine hK _ _ _ ?_;clear hK K)| (refine hA ?_;clear hA hB A B)|refine Z1 ?_|refine Z2 ?_|refine Z3 fun KB hKB=> ?_)| (with_reducible first|refine Y2 fun K hK=> ?_|refine Y3 fun A B hA hB=> ?_|refine Y4 (by omega) ?_)<;>(simp only[go_sem,g0,g1,g2,gr,gs,hin1,hmod,hrd,hlen,d1,d7,hwf];try simp (disch:=omega) only[Iw])| ((with_reducible refine Y9 ?_);try simp only[AQ.then,AQ.blk,reduceIte,Nat.reduceEqDiff])| ((with_reducible refine Y0 ?_);simp only[AQ.then,AQ.blk])|refine⟨by omega,?_⟩| (with_reducible refine hKB _ _ _ ?_)|fail)
    exact hKJ _ _ _ (j+1) noF _ (by omega) (by omega) (by repeat' (first| (with_reducible first|exact C1|refine C2 ?_ ?_)| ((with_reducible refine C0 ?_);exact CE (by omega) rfl)| ((with_reducible refine D0 ?_);first|exact CA rfl|refine CJ ?_)|fail)) aK ⟨by omega,by omega,rfl,fun j' h1 h2=>by
     by_cases hj:j'<j
     ·exact hinv j' h1 hj
     ·have:j'=j:=by omega
      subst this
      rw[←hst]
      exact decide_eq_false fun hc=>hwho (by rw[hdd,hvd];exact hc.2)⟩
  ·repeat' (first| (with_reducible first| (refine hK _ _ _ ?_;clear hK K)| (refine hB ?_;clear hA hB A B)|refine Z1 ?_|refine hKY _ _ _ ?_)| (with_reducible first|refine Y2 fun K hK=> ?_|refine Y3 fun A B hA hB=> ?_|refine Y5 (by omega) ?_)<;>(simp only[go_sem];try simp (disch:=omega) only[Iw])| ((with_reducible refine Y9 ?_);try simp only[AQ.then,AQ.blk,reduceIte,Nat.reduceEqDiff])| ((with_reducible refine Y0 ?_);simp only[AQ.then,AQ.blk])| (with_reducible refine hKB _ _ _ ?_)|fail)
   exact hKL _ _ _ (k+1,s1,es1,nm1) noF _ (by omega) (by dsimp only;omega) (by repeat' (first| (with_reducible first|exact C1|refine C2 ?_ ?_)| ((with_reducible refine C0 ?_);exact CE (by omega) rfl)| ((with_reducible refine D0 ?_);first|exact CA rfl|refine CJ ?_)|fail)) aK ⟨by dsimp only;omega,hs1,hB1.mono (by omega),hX1,hS2.none (acZ fun j' h1 h2=>hinv j' h1 (by omega)),by dsimp only;omega⟩
 ·repeat' (first| (with_reducible first| (refine hK _ _ _ ?_;clear hK K)| (refine hB ?_;clear hA hB A B)|refine Z1 ?_|refine Z5 (by omega) ?_|refine hKX _ _ _ ?_)| (with_reducible first|refine Y2 fun K hK=> ?_|refine Y3 fun A B hA hB=> ?_)<;>(simp only[go_sem])| ((with_reducible refine Y9 ?_);try simp only[AQ.then,AQ.blk,reduceIte,Nat.reduceEqDiff])| ((with_reducible refine Y0 ?_);simp only[AQ.then,AQ.blk])|fail)
  have hk3:k=3:=by omega
  subst hk3
  obtain⟨rfl,rfl⟩:=vU.nil hS1
  refine hQ _ _ _ _ _ (.inl rfl) rfl (h _ _ nm1 (by omega) (hB1.next (by omega) (fun _ _ _=>rfl) fun id hid=>⟨?_,.inl (.inl hid)⟩) fun id hid=> ?_)
  ·have:=hB.rep.x id (.inl hid);omega
  ·rw[hX1 id (.inl hid),hH0,aA.aC]
   have:=hB.rep.x id (.inl hid);omega
end
end Go.Proofs.YtegiblhkjfiooaaGreat
end
