/- Texts laid together by a program: rules, contracts and the walk that leads to the law. -/
import Derived.Test.YtegiblhkjfiooaaGreatPx3
import Derived.Test.YtegiblhkjfiooaaGreatPx12
import Derived.Test.YtegiblhkjfiooaaGreatPx8
import Derived.Test.YtegiblhkjfiooaaGreatPx13
set_option linter.unusedVariables false
set_option linter.unusedSimpArgs false
set_option linter.unusedSectionVars false
section
namespace Go.Proofs.YtegiblhkjfiooaaGreat
open Go Go.AM
set_option maxRecDepth 100000
def kM:AC:=
 (.seq (.region [rq 0 1 (.box true (.tm 0)),
 rq 1 2 (.alloc [OZ,OZ,OZ,OZ,OZ])] 2 [1,2])
 (.seq (.region [RF 0 8 0 1,
 ⟨1,(some 9),.load 2 true (.tm 8),none,[13],[],false⟩,
 RF 3 11 2 1,
 ⟨4,(some 12),.load 1 false (.tm 11),none,[13],[],true⟩,
 RF 6 14 3 1,
 ⟨7,(some 15),.load 1 false (.tm 14),none,[13],[],true⟩,
 RF 9 17 4 1,
 ⟨10,(some 18),.load 1 false (.tm 17),none,[13],[],true⟩,
 rq 13 3 (.alloc [OZ,OZ,OZ,OZ,OZ]),
 ⟨2,(some 10),.call fL [(.tm 9)],none,[13],[4,7,10],false⟩,
 ⟨5,(some 13),.call fY [(.tm 12)],none,[13],[7,10],false⟩,
 ⟨8,(some 16),.call fM [(.tm 15)],none,[13],[10],false⟩,
 ⟨11,(some 19),.call eO [(.tm 18)],none,[13],[],false⟩,
 rq 12 20 (.build [OZ,OZ,OZ,OZ,OZ] [(0,2,(.tm 10)),(2,1,(.tm 13)),(3,1,(.tm 16)),(4,1,(.tm 19))]),
 rn 14 (.store 5 true (.tm 3) (.tm 20))] 15 [1,2,3])
 (.seq (.seq (.region [RF 0 21 2 1,
 RL 1 22 21,
 rq 2 23 (.len false (.tm 22)),
 rq 3 24 (.move (ki 0))] 4 [1,2,3,22,23,24])
 (.block 0
 (.loop
 (.seq (.region [rq 0 25 (.bin .lss (.tm 24) (.tm 23))] 1 [1,2,3,22,23,24,25])
 (.seq (.cond (.tm 25)
 .skip
 (.exit 0))
 (.seq (.block 1
 (.seq (.region [RM 0 26 24,
 rq 1 27 (.idx 4 (.tm 22) (.tm 24)),
 rq 2 28 (.load 4 true (.tm 27)),
 rq 3 5 (.alloc [VZ,OZ,OZ,VZ]),
 RM 4 4 26,
 rn 5 (.store 4 true (.tm 5) (.tm 28))] 6 [1,2,3,4,5,22,23,24])
 (.region [RF 0 29 2 3,
 ⟨1,(some 30),.load 1 false (.tm 29),none,[],[],true⟩,
 RM 2 31 4,
 RF 3 32 2 3,
 ⟨4,(some 33),.load 1 false (.tm 32),none,[],[],true⟩,
 RM 5 34 4,
 RF 6 35 1 5,
 RL 7 36 35,
 RF 9 38 2 5,
 ⟨10,(some 39),.load 1 false (.tm 38),none,[],[],true⟩,
 ⟨8,(some 37),.call eX [(.tm 36)],none,[],[1,4,10],false⟩,
 ⟨11,(some 40),.call eK [(.tm 39)],none,[],[1,4],false⟩,
 rq 12 41 (.idx 4 (.tm 30) (.tm 31)),
 RF 13 42 1 41,
 ⟨14,none,.store 1 false (.tm 42) (.tm 37),none,[],[4],false⟩,
 rq 15 43 (.idx 4 (.tm 33) (.tm 34)),
 RF 16 44 2 43,
 rn 17 (.store 1 false (.tm 44) (.tm 40))] 18 [1,2,3,22,23,24])))
 (.region [rq 0 45 (.bin .add (.tm 24) (ki 1)),
 RM 1 24 45] 2 [1,2,3,22,23,24])))))))
 (.seq (.seq (.region [RF 0 46 3 1,
 RL 1 47 46,
 rq 2 48 (.len false (.tm 47)),
 rq 3 49 (.move (ki 0))] 4 [2,3,47,48,49])
 (.block 2
 (.loop
 (.seq (.region [rq 0 50 (.bin .lss (.tm 49) (.tm 48))] 1 [2,3,47,48,49,50])
 (.seq (.cond (.tm 50)
 .skip
 (.exit 2))
 (.seq (.block 3
 (.seq (.region [RM 0 51 49,
 rq 1 52 (.idx 3 (.tm 47) (.tm 49)),
 rq 2 53 (.load 3 true (.tm 52)),
 rq 3 7 (.alloc [OZ,OZ,VZ]),
 RM 4 6 51,
 rn 5 (.store 3 true (.tm 7) (.tm 53))] 6 [2,3,6,7,47,48,49])
 (.region [RF 0 54 3 3,
 ⟨1,(some 55),.load 1 false (.tm 54),none,[],[],true⟩,
 RM 2 56 6,
 RF 3 57 3 3,
 ⟨4,(some 58),.load 1 false (.tm 57),none,[],[],true⟩,
 RM 5 59 6,
 RF 6 60 0 7,
 RL 7 61 60,
 RF 9 63 1 7,
 ⟨10,(some 64),.load 1 false (.tm 63),none,[],[],true⟩,
 ⟨8,(some 62),.call eK [(.tm 61)],none,[],[1,4,10],false⟩,
 ⟨11,(some 65),.call eO [(.tm 64)],none,[],[1,4],false⟩,
 rq 12 66 (.idx 3 (.tm 55) (.tm 56)),
 RF 13 67 0 66,
 ⟨14,none,.store 1 false (.tm 67) (.tm 62),none,[],[4],false⟩,
 rq 15 68 (.idx 3 (.tm 58) (.tm 59)),
 RF 16 69 1 68,
 rn 17 (.store 1 false (.tm 69) (.tm 65))] 18 [2,3,47,48,49])))
 (.region [rq 0 70 (.bin .add (.tm 49) (ki 1)),
 RM 1 49 70] 2 [2,3,47,48,49])))))))
 (.seq (.region [rq 0 71 (.load 5 true (.tm 3)),
 rn 1 (.store 5 true (.tm 2) (.tm 71))] 2 [2])
 .ret)))))
def BC:List Cert:=[⟨[],[1,2]⟩,⟨[cz 0,(1,[13],[],false),cz 3,(4,[13],[],true),cz 6,(7,[13],[],true),cz 9,(10,[13],[],true),cz 13,(2,[13],[4,7,10],false),(5,[13],[7,10],false),(8,[13],[10],false),(11,[13],[],false),cz 12,cz 14],[1,2,3]⟩,⟨[],[1,2,3,22,23,24]⟩,⟨[],[1,2,3,22,23,24,25]⟩,⟨[],[1,2,3,4,5,22,23,24]⟩,⟨[cz 0,(1,[],[],true),cz 2,cz 3,(4,[],[],true),cz 5,cz 6,cz 7,cz 9,(10,[],[],true),(8,[],[1,4,10],false),(11,[],[1,4],false),cz 12,cz 13,(14,[],[4],false),cz 15,cz 16,cz 17],[1,2,3,22,23,24]⟩,⟨[],[1,2,3,22,23,24]⟩,⟨[],[2,3,47,48,49]⟩,⟨[],[2,3,47,48,49,50]⟩,⟨[],[2,3,6,7,47,48,49]⟩,⟨[cz 0,(1,[],[],true),cz 2,cz 3,(4,[],[],true),cz 5,cz 6,cz 7,cz 9,(10,[],[],true),(8,[],[1,4,10],false),(11,[],[1,4],false),cz 12,cz 13,(14,[],[4],false),cz 15,cz 16,cz 17],[2,3,47,48,49]⟩,⟨[],[2,3,47,48,49]⟩,⟨[],[2]⟩]
def pR:List aW:=[.cell 2 5 true]
theorem AZ:aO Tryz.prog Tryz.f63 BC=some (kM,pR):=by kernel_rfl
def iV:AC:=
 (.seq (.region [rq 0 2 (.move (.kv (.slice none 0 0)))] 1 [0])
 (.seq (.region [RM 0 3 0,
 rq 1 4 (.call dL [(.tm 3)]),
 rq 2 5 (.call dV [(.tm 4)]),
 RM 3 2 5] 4 [2])
 .ret))
def x9:List Cert:=[⟨[],[0]⟩,⟨[],[2]⟩]
def mE:List aW:=[.tm 2]
theorem xQ:aO Tryz.prog Tryz.f126 x9=some (iV,mE):=by kernel_rfl
theorem yL:aN Tryz.prog fY Tryz.f126 iV mE:=
 aN.mk Tryz.func126 (by kernel_rfl) xQ
def iB:AC:=
 (.seq (.region [rq 0 2 (.move (.kv (.slice none 0 0)))] 1 [0])
 (.seq (.region [RM 0 3 0,
 rq 1 4 (.call cZ [(.tm 3)]),
 rq 2 5 (.call dE [(.tm 4)]),
 RM 3 2 5] 4 [2])
 .ret))
def wH:List Cert:=[⟨[],[0]⟩,⟨[],[2]⟩]
def lZ:List aW:=[.tm 2]
theorem wJ:aO Tryz.prog Tryz.f127 wH=some (iB,lZ):=by kernel_rfl
theorem wE:aN Tryz.prog fM Tryz.f127 iB lZ:=
 aN.mk Tryz.func127 (by kernel_rfl) wJ
def i9:AC:=
 (.seq (.region [rq 0 2 (.move (.kv (.slice none 0 0)))] 1 [0])
 (.seq (.region [RM 0 3 0,
 rq 1 4 (.call eE [(.tm 3)]),
 rq 2 5 (.call eQ [(.tm 4)]),
 RM 3 2 5] 4 [2])
 .ret))
def y5:List Cert:=[⟨[],[0]⟩,⟨[],[2]⟩]
def nN:List aW:=[.tm 2]
theorem yS:aO Tryz.prog Tryz.f128 y5=some (i9,nN):=by kernel_rfl
theorem y7:aN Tryz.prog eK Tryz.f128 i9 nN:=
 aN.mk Tryz.func128 (by kernel_rfl) yS
def fV:AC:=
 (.seq (.region [rq 0 2 (.move (.kv (.slice none 0 0)))] 1 [0])
 (.seq (.region [RM 0 3 0,
 RM 1 4 0,
 rq 2 5 (.len false (.tm 4)),
 RM 3 6 0,
 rq 4 7 (.len false (.tm 6)),
 rq 5 8 (.slc 4 (.tm 3) none (some (.tm 5)) (some (.tm 7))),
 RM 6 2 8] 7 [2])
 .ret))
def sB:List Cert:=[⟨[],[0]⟩,⟨[],[2]⟩]
def jU:List aW:=[.tm 2]
theorem rW:aO Tryz.prog Tryz.f193 sB=some (fV,jU):=by kernel_rfl
theorem r9:aN Tryz.prog dV Tryz.f193 fV jU:=
 aN.mk Tryz.func193 (by kernel_rfl) rW
def fN:AC:=
 (.seq (.region [rq 0 2 (.move (.kv (.slice none 0 0)))] 1 [0])
 (.seq (.seq (.region [RM 0 3 0,
 rq 1 4 (.xop (.qJ false) [(.tm 3)])] 2 [0,4])
 (.cond (.tm 4)
 (.seq (.region [rq 0 2 (.move (.kv (.slice none 0 0)))] 1 [2])
 .ret)
 .skip))
 (.seq (.region [rq 0 5 (.bC 4 0 [VZ,OZ,OZ,VZ] []),
 RM 1 6 0,
 rq 2 7 (.append 4 (.tm 5) (.tm 6)),
 RM 3 2 7] 4 [2])
 .ret)))
def qI:List Cert:=[⟨[],[0]⟩,⟨[],[0,4]⟩,⟨[],[2]⟩,⟨[],[2]⟩]
def jI:List aW:=[.tm 2]
theorem qP:aO Tryz.prog Tryz.f194 qI=some (fN,jI):=by kernel_rfl
theorem qV:aN Tryz.prog dL Tryz.f194 fN jI:=
 aN.mk Tryz.func194 (by kernel_rfl) qP
def fG:AC:=
 (.seq (.region [rq 0 2 (.move (.kv (.slice none 0 0)))] 1 [0])
 (.seq (.region [RM 0 3 0,
 RM 1 4 0,
 rq 2 5 (.len false (.tm 4)),
 RM 3 6 0,
 rq 4 7 (.len false (.tm 6)),
 rq 5 8 (.slc 3 (.tm 3) none (some (.tm 5)) (some (.tm 7))),
 RM 6 2 8] 7 [2])
 .ret))
def qE:List Cert:=[⟨[],[0]⟩,⟨[],[2]⟩]
def iZ:List aW:=[.tm 2]
theorem pZ:aO Tryz.prog Tryz.f195 qE=some (fG,iZ):=by kernel_rfl
theorem qF:aN Tryz.prog dE Tryz.f195 fG iZ:=
 aN.mk Tryz.func195 (by kernel_rfl) pZ
def eW:AC:=
 (.seq (.region [rq 0 2 (.move (.kv (.slice none 0 0)))] 1 [0])
 (.seq (.seq (.region [RM 0 3 0,
 rq 1 4 (.xop (.qJ false) [(.tm 3)])] 2 [0,4])
 (.cond (.tm 4)
 (.seq (.region [rq 0 2 (.move (.kv (.slice none 0 0)))] 1 [2])
 .ret)
 .skip))
 (.seq (.region [rq 0 5 (.bC 3 0 [OZ,OZ,VZ] []),
 RM 1 6 0,
 rq 2 7 (.append 3 (.tm 5) (.tm 6)),
 RM 3 2 7] 4 [2])
 .ret)))
def oV:List Cert:=[⟨[],[0]⟩,⟨[],[0,4]⟩,⟨[],[2]⟩,⟨[],[2]⟩]
def iL:List aW:=[.tm 2]
theorem oX:aO Tryz.prog Tryz.f196 oV=some (eW,iL):=by kernel_rfl
theorem oY:aN Tryz.prog cZ Tryz.f196 eW iL:=
 aN.mk Tryz.func196 (by kernel_rfl) oX
def gK:AC:=
 (.seq (.region [rq 0 2 (.move (.kv (.slice none 0 0)))] 1 [0])
 (.seq (.region [RM 0 3 0,
 RM 1 4 0,
 rq 2 5 (.len false (.tm 4)),
 RM 3 6 0,
 rq 4 7 (.len false (.tm 6)),
 rq 5 8 (.slc 3 (.tm 3) none (some (.tm 5)) (some (.tm 7))),
 RM 6 2 8] 7 [2])
 .ret))
def uI:List Cert:=[⟨[],[0]⟩,⟨[],[2]⟩]
def kQ:List aW:=[.tm 2]
theorem uK:aO Tryz.prog Tryz.f197 uI=some (gK,kQ):=by kernel_rfl
theorem uS:aN Tryz.prog eQ Tryz.f197 gK kQ:=
 aN.mk Tryz.func197 (by kernel_rfl) uK
def gB:AC:=
 (.seq (.region [rq 0 2 (.move (.kv (.slice none 0 0)))] 1 [0])
 (.seq (.seq (.region [RM 0 3 0,
 rq 1 4 (.xop (.qJ false) [(.tm 3)])] 2 [0,4])
 (.cond (.tm 4)
 (.seq (.region [rq 0 2 (.move (.kv (.slice none 0 0)))] 1 [2])
 .ret)
 .skip))
 (.seq (.region [rq 0 5 (.bC 3 0 [VZ,VZ,VZ] []),
 RM 1 6 0,
 rq 2 7 (.append 3 (.tm 5) (.tm 6)),
 RM 3 2 7] 4 [2])
 .ret)))
def sY:List Cert:=[⟨[],[0]⟩,⟨[],[0,4]⟩,⟨[],[2]⟩,⟨[],[2]⟩]
def kG:List aW:=[.tm 2]
theorem tA:aO Tryz.prog Tryz.f198 sY=some (gB,kG):=by kernel_rfl
theorem sN:aN Tryz.prog eE Tryz.f198 gB kG:=
 aN.mk Tryz.func198 (by kernel_rfl) tA
end Go.Proofs.YtegiblhkjfiooaaGreat
end
section
namespace Go.Proofs.YtegiblhkjfiooaaGreat
open Go Go.AM
set_option maxRecDepth 100000
set_option maxHeartbeats 8000000
theorem XO {τ:Nat→Nat} {n m:Nat} {l:List fC}:bA.rn τ ⟨n,m,l.map eCJ⟩=⟨n,m,l.map eCJ⟩:=by
 refine rF fun r hr x hx=> ?_
 obtain⟨y,_,rfl⟩:=List.mem_map.1 hr
 exact List.all_eq_true.1 (yK y).2 x hx
section
variable {H : aA} {nx : Nat} {K : D → aA → Nat → Prop}
theorem ag9 {l:List fC} {a:Nat} {z:List D1} (ha:a<l.length):wr ((l.take a).map eCJ++(l.drop (a+1)).map eCJ) (l.length-1) (List.replicate (l.length-(l.length-1)) z)=(B3 l a).map eCJ++[z]:=by
 have h1:(l.take a).map eCJ++(l.drop (a+1)).map eCJ=(B3 l a).map eCJ:=by simp[B3]
 have h2:((B3 l a).map eCJ).length=l.length-1:=by have:=RP ha;simp;omega
 have h3:l.length-(l.length-1)=1:=by omega
 rw[h1,h3,List.replicate_one]
 unfold wr
 have h4:List.drop (l.length-1+[z].length) ((B3 l a).map eCJ)=[]:=List.drop_of_length_le (by simp at h2 ⊢;omega)
 rw[h4,List.take_of_length_le (by omega),List.append_nil]
theorem sP (l:List fC) (a cap m:Nat) (hl:l.length<2^20) (ha:a<l.length) (hc:l.length≤cap) (hcm:cap≤m):
 aB Tryz.prog eA [dO 3 0 l.length cap,dI a,dI (a+1)] (hp [(0,⟨3,m,l.map eCJ⟩)]) 1
 fun r H' n'=>∃cap' m',(B3 l a).length≤cap'∧cap'≤m'∧n'=2∧H'=hp [(1,⟨3,m',(B3 l a).map eCJ⟩)]∧r=dO 3 1 (B3 l a).length cap':=by
 refine rZ rfl fun Q hQ=> ?_
 unfold fW
 have e2:((a:Int)+1).toNat=a+1:=by omega
 have e3:a+(l.length-(a+1))=l.length-1:=by omega
 have e7:(a+1+(l.length-(a+1))≤l.length)=True:=eq_true (by omega)
 have e8:List.take (l.length-(a+1)) (List.drop (a+1) l)=List.drop (a+1) l:=List.take_of_length_le (by simp)
 have e9:(List.drop (a+1) l).length=l.length-(a+1):=List.length_drop
 have hol:=RP ha
 repeat' (first| (with_reducible first| (refine hK _ _ _ ?_;clear hK K)| (refine hB ?_;clear hA hB A B)|refine Z1 ?_|refine Z2 ?_|refine Z5 (by omega) ?_|refine fun(cap:Nat) (hcap:_≤cap)=> ?_|refine fun(hcp:_≤cap)=> ?_)| (with_reducible first|refine Y2 fun K hK=> ?_|refine Y3 fun A B hA hB=> ?_)<;>(simp only[go_sem,e2,e3,e7,e8,e9])| ((with_reducible refine Y8 ?_);try simp only[AQ.then,AQ.blk,reduceIte,Nat.reduceEqDiff])|refine⟨by omega,?_⟩| (refine⟨by(rw[List.length_take];omega),?_⟩)|fail)
 (refine hQ _ _ _ _ _ 2 (dO 3 1 (B3 l a).length cap) (hp [(1,⟨3,cap,(B3 l a).map eCJ⟩)]) _ _ (.inr rfl) rfl (fU [20,0] (by omega) (by repeat' (first| ((with_reducible refine C0 ?_);exact CQ (by omega) rfl rfl (by omega) rfl)| ((with_reducible refine D0 ?_);refine CJ ?_)|fail)) ⟨⟨by simp,by simp[sgL],_,rfl,anJ (junk:=[[cI 0,cI 0,cI 0]]) (fun r hr=>(aG yK _ r hr).2) (ag9 ha) rfl (by decide)⟩,trivial⟩ (by simp[sgL])) ?_)
 exact⟨cap,cap,by omega,Nat.le_refl _,rfl,rfl,rfl⟩
theorem tK {l:List fC} {z:Int} {cap m i0:Nat} (hl:l.length<2^20) (hz: ¬z<0) (ha:z.toNat<l.length) (hc:l.length≤cap) (hcm:cap≤m) (h0:i0<nx) (o0:H i0=some ⟨3,m,l.map eCJ⟩)
 (h: ∀cap' m',(B3 l z.toNat).length≤cap'→cap'≤m'→K (dO 3 nx (B3 l z.toNat).length cap') ((H.del i0).set nx ⟨3,m',(B3 l z.toNat).map eCJ⟩) (nx+1)):
 aB Tryz.prog eA [dO 3 i0 l.length cap,dI z,dI (z+1)] H nx K:=by
 obtain⟨a,rfl⟩: ∃a:Nat,z=a:=⟨z.toNat,by omega⟩
 refine(sP l a cap m hl ha hc hcm).AF [i0] rfl ⟨qS (by simp) rfl rfl rfl rfl,aE rfl,aE rfl,trivial⟩
  ⟨⟨by simp,id,_,o0,bP (aG yK _) rfl rfl⟩,trivial⟩ (by simp) (by simp;omega) (by simp) fun r H' n' _ ⟨cap',m',q0,q1,q2,q3,q4⟩=> ?_
 simp only[Int.toNat_natCast] at h
 have h:=h cap' m' q0 q1
 subst q2;subst q3;subst q4
 generalize B3 l a=l' at*
 have e1:back (tau 1 nx (nth [i0])) (hp [(1,⟨3,m',l'.map eCJ⟩)]) 2 H=(H.del i0).set nx ⟨3,m',l'.map eCJ⟩:=by
  simp[back,hp,aA.set,aA.nil,tau,nth,uB,XO,aA.eL,aA.yI]
 rw[←e1] at h
 exact h
end
end Go.Proofs.YtegiblhkjfiooaaGreat
end
section
namespace Go.AM
theorem GZ {c:Cfg} {f:CSt→Nat→Option Mic} {s:CSt} {k:Nat} {l:List Nat} (h:f s k=none):vE c f s (k::l)=vE c f s l:=by
 rw[vE,h]
theorem NH {c:Cfg} {f:CSt→Nat→Option Mic} {s:CSt} {k:Nat} {l:List Nat} {m:Mic} (h:f s k=some m):vE c f s (k::l)=m::vE c f (aR c s m) l:=by
 rw[vE,h]
theorem ap4 {k:Nat} (h:k<3):[0,1,2].drop k=k::[0,1,2].drop (k+1):=by
 obtain rfl|rfl|rfl:k=0∨k=1∨k=2:=by omega
 all_goals rfl
theorem apX {k:Nat} (h:k<4):[0,1,2,3].drop k=k::[0,1,2,3].drop (k+1):=by
 obtain rfl|rfl|rfl|rfl:k=0∨k=1∨k=2∨k=3:=by omega
 all_goals rfl
def vU (c:Cfg) (f:CSt→Nat→Option Mic) (l:List Nat) (s:CSt) (es:List Ev) (S:CSt) (E:List Ev):Prop:=dR c s (vE c f s l)=S∧es++iP c s (vE c f s l)=E
theorem vU.none {c:Cfg} {f:CSt→Nat→Option Mic} {s S:CSt} {es E:List Ev} {k:Nat} {l:List Nat} (hl:vU c f (k::l) s es S E) (h:f s k=none):vU c f l s es S E:=by
 unfold vU at hl
 rw[GZ h] at hl
 exact hl
theorem vU.some {c:Cfg} {f:CSt→Nat→Option Mic} {s S:CSt} {es E:List Ev} {k:Nat} {l:List Nat} {m:Mic} (hl:vU c f (k::l) s es S E) (h:f s k=some m):vU c f l (aR c s m) (es++y0 s m) S E:=by
 unfold vU at hl
 rw[NH h] at hl
 refine⟨hl.1,?_⟩
 rw[List.append_assoc]
 exact hl.2
theorem vU.nil {c:Cfg} {f:CSt→Nat→Option Mic} {s S:CSt} {es E:List Ev} (hl:vU c f [] s es S E):s=S∧es=E:=by
 refine⟨hl.1,?_⟩
 have:=hl.2
 rw[vE,iP,List.append_nil] at this
 exact this
theorem agJ {i:CIn} {s:CSt} {k:Nat} (h:i.ready.getD k default=false):vT i s k=none:=by
 unfold vT;rw[if_neg (by rw[h];decide)]
theorem at4 {j:Nat} (h1:1≤j) (h2:j<5):j=1∨j=2∨j=3∨j=4:=by omega
theorem acZ {i:CIn} {s:CSt} {k:Nat} (h: ∀j,1≤j→j<5→NN s k (pQ s k j)=false):vT i s k=none:=by
 unfold vT
 split
 ·simp[List.find?_cons,h 1 (by omega) (by omega),h 2 (by omega) (by omega),h 3 (by omega) (by omega),h 4 (by omega) (by omega)]
 ·rfl
theorem acB {i:CIn} {s:CSt} {k j:Nat} (hr:i.ready.getD k default=true) (h1:1≤j) (h2:j≤4) (h: ∀j',1≤j'→j'<j→NN s k (pQ s k j')=false) (hj:NN s k (pQ s k j)=true):vT i s k=some (.tell k (pQ s k j)):=by
 unfold vT
 rw[if_pos hr]
 rcases at4 h1 (by omega) with rfl|rfl|rfl|rfl
 ·simp[List.find?_cons,hj]
 ·simp[List.find?_cons,hj,h 1 (by omega) (by omega)]
 ·simp[List.find?_cons,hj,h 1 (by omega) (by omega),h 2 (by omega) (by omega)]
 ·simp[List.find?_cons,hj,h 1 (by omega) (by omega),h 2 (by omega) (by omega),h 3 (by omega) (by omega)]
def LV (c:Cfg) (l:List Nat) (s:CSt) (u:List Bool) (S:CSt):Prop:=dR c s (oP c s u l)=S
theorem LV.none {c:Cfg} {s S:CSt} {u:List Bool} {k:Nat} {l:List Nat} (hl:LV c (k::l) s u S) (h:AO c s u k=none):LV c l s u S:=by
 unfold LV at hl
 rw[oP,h] at hl
 exact hl
theorem LV.some {c:Cfg} {s S:CSt} {u:List Bool} {k who:Nat} {l:List Nat} (hl:LV c (k::l) s u S) (h:AO c s u k=some who):LV c l (aR c s (.adm who k)) (u.set who true) S:=by
 unfold LV at hl
 rw[oP,h] at hl
 exact hl
theorem anA {c:Cfg} {s:CSt} {u:List Bool} {st:Nat} (h: ¬(aL s st).pipe.length<2):AO c s u st=none:=if_neg h
theorem ah0 {c:Cfg} {s:CSt} {u:List Bool} {st:Nat} (h: ∀j,1≤j→j<4→KE c s u st (sM s st j)=false):AO c s u st=none:=by
 unfold AO
 split
 ·simp[List.find?_cons,h 1 (by omega) (by omega),h 2 (by omega) (by omega),h 3 (by omega) (by omega)]
 ·rfl
theorem ahR {c:Cfg} {s:CSt} {u:List Bool} {st j:Nat} (hr:(aL s st).pipe.length<2) (h1:1≤j) (h2:j≤3) (h: ∀j',1≤j'→j'<j→KE c s u st (sM s st j')=false) (hj:KE c s u st (sM s st j)=true):AO c s u st=some (sM s st j):=by
 unfold AO
 rw[if_pos hr]
 obtain rfl|rfl|rfl:j=1∨j=2∨j=3:=by omega
 ·simp[List.find?_cons,hj]
 ·simp[List.find?_cons,hj,h 1 (by omega) (by omega)]
 ·simp[List.find?_cons,hj,h 1 (by omega) (by omega),h 2 (by omega) (by omega)]
end Go.AM
end
section
namespace Go.Proofs.YtegiblhkjfiooaaGreat
open Go Go.AM
set_option maxRecDepth 100000
set_option maxHeartbeats 8000000
theorem EB:cJ Tryz.prog mG Tryz.f137 lR sK:=cJ.mk Tryz.func137 (by kernel_rfl) D6
section
variable {H : aA} {nx : Nat} {K : D → aA → Nat → Prop}
theorem F8 {X:Nat→Prop} {c:Cfg} {i:CIn} {s:CSt} {es:List Ev} {i0 i1:Nat} {nm:Nat→Nat} (hb:aQ c) (hs:COk c s) (hin:i.ready.length=3) (hB:l9 X H nx i0 i1 nm s es) (hl:es.length<900)
 (h: ∀H' nx' nm',nx≤nx'→l9 X H' nx' i0 i1 nm' (CW c i s) (es++iP c s (KQ c i s))→(∀id,X id→H' id=H id)→K (.tup []) H' nx'):
 aB Tryz.prog mG [.one (.c (.ptr 5 i0 0 0)),dA (eIn i),.one (.c (.ptr 5 i1 0 0))] H nx K:=by
 refine EB rfl fun Q hQ=> ?_
 unfold lR
 obtain⟨wc,hc,pc,vc,tc,hi0,hw0,hh0,ht0,hpc,hvc⟩: ∃wc hc pc vc tc,H i0=some ⟨5,1,[[.osl 1 (nm 0) 0 s.words.length wc,.osl 1 (nm 1) 0 s.holds.length hc,.osl 4 (nm 2) 0 3 pc,.osl 3 (nm 3) 0 4 vc,.osl 5 (nm 4) 0 s.told.length tc]]⟩∧_:=by
  obtain⟨cells,h1,⟨wc,hc,pc,vc,tc,rfl,h2⟩,_⟩:=hB.rep.st
  exact⟨wc,hc,pc,vc,tc,h1,h2⟩
 have hA:=hB.rep.apart (nx':=nx) [] [] (Nat.le_refl _) (by simp) (by simp) (by simp) (by simp)
 simp only[bQ,eZ,List.map,List.nil_append] at hA
 repeat' (first| (with_reducible first| (refine hK _ _ _ ?_;clear hK K)|refine Z1 ?_|refine Z3 fun KB hKB=> ?_)| (with_reducible refine Y2 fun K hK=> ?_)<;>(simp only[go_sem,hi0,hA])|fail)
 (have hKX:=hKB;clear hKB)
 obtain⟨H0,hH0⟩: ∃H0,H0=H.set nx ⟨3,1,[eIn i]⟩:=⟨_,rfl⟩
 rw[←hH0]
 have h0i:H0 nx=some ⟨3,1,[eIn i]⟩:=by rw[hH0];exact aA.bH
 have hB0:l9 (fun id=>X id∨id=nx) H0 (nx+7) i0 i1 nm s es:=hB.next (by omega) (fun id h1 h2=>by rw[hH0,aA.aC (by omega)]) fun id hid=>by
  rcases hid with hid|rfl
  ·have:=hB.rep.x id (.inl hid)
   exact⟨by omega,.inl hid⟩
  ·exact⟨by omega,.inr (Nat.le_refl _)⟩
 have hxi0:=hB.rep.i0.1
 have hxi1:=hB.hap.i1.1
 refine aM.gP (β:=Nat×CSt×List Ev×(Nat→Nat)) (fun u=>en [(18,dI u.1),(17,dI 3),(4,.one (.c (.ptr 3 nx 0 0))),(2,.one (.c (.ptr 5 i1 0 0))),(0,.one (.c (.ptr 5 i0 0 0)))])
  (fun u H1 nx1=>u.1≤3∧COk c u.2.1∧l9 (fun id=>X id∨id=nx) H1 nx1 i0 i1 u.2.2.2 u.2.1 u.2.2.1∧(∀id,X id∨id=nx→H1 id=H0 id)∧vU c (vT i) ([0,1,2].drop u.1) u.2.1 u.2.2.1 (CW c i s) (es++iP c s (KQ c i s))∧u.2.2.1.length≤es.length+u.1)
  (fun u=>3-u.1) (0,s,es,nm) ⟨noF,_,by repeat' (first| (with_reducible first|exact C1|refine C2 ?_ ?_)| ((with_reducible refine C0 ?_);exact CE (by omega) rfl)| ((with_reducible refine D0 ?_);first|exact CA rfl|refine CJ ?_)|fail),aK,by dsimp only;omega,hs,hB0,fun _ _=>rfl,⟨rfl,rfl⟩,by simp⟩ ?_
 rintro⟨k,s1,es1,nm1⟩ H1 nx1 hnx ⟨hk,hs1,hB1,hX1,hS1,hL1⟩ KL hKL
 dsimp only at hk hs1 hB1 hS1 hL1
 obtain⟨wc,hc,pc,vc,tc,mp,rp,mv,rv,g0,g1,g2,g3,g4,g5,g6,g7,g8,g9,ga,gb⟩:=hB1.rep.get
 have hin1:H1 nx=some ⟨3,1,[eIn i]⟩:=by rw[hX1 nx (.inr rfl)];exact h0i
 by_cases hlt:k<3
 ·have hS2:=hS1
  rw[ap4 hlt] at hS2
  obtain⟨p,hpd⟩: ∃p,p=aF s1 k:=⟨_,rfl⟩
  obtain⟨qo,qc,oc,gr,gq,go⟩:=ga k hlt
  rw[←hpd] at gr gq go
  repeat' (first| (with_reducible first| (refine hK _ _ _ ?_;clear hK K)| (refine hA ?_;clear hA hB A B)|refine Z1 ?_|refine Z2 ?_|refine Z3 fun KB hKB=> ?_|refine Z4 (by omega) ?_)| (with_reducible first|refine Y2 fun K hK=> ?_|refine Y3 fun A B hA hB=> ?_)<;>(simp only[go_sem,g0,g1,gr,hin1])|refine⟨by omega,?_⟩|fail)
  (have hKY:=hKB;clear hKB)
  have hpo:=hs1.port k hlt
  rw[←hpd] at hpo
  have hn2:=hB1.rep.names.lt 2 (by omega)
  obtain⟨hla,hlb⟩:=hpo.last
  refine aM.gP (β:=Nat) (fun j=>en [(18,dI k),(17,dI 3),(8,dI j),(7,.one (.c (.ptr 4 (nm1 2) k 0))),(6,dI k),(4,.one (.c (.ptr 3 nx 0 0))),(2,.one (.c (.ptr 5 i1 0 0))),(0,.one (.c (.ptr 5 i0 0 0)))])
   (fun j H2 _=>1≤j∧j≤5∧H2=H1∧ ∀j',1≤j'→j'<j→NN s1 k (pQ s1 k j')=false) (fun j=>5-j) 1 ⟨noF,_,by repeat' (first| (with_reducible first|exact C1|refine C2 ?_ ?_)| ((with_reducible refine C0 ?_);exact CE (by omega) rfl)| ((with_reducible refine D0 ?_);first|exact CA rfl|refine CJ ?_)|fail),aK,by omega,by omega,rfl,fun j' h1 h2=>by omega⟩ ?_
  rintro j H2 nx2 hnx2 ⟨hj1,hj5,hH2,hinv⟩ KJ hKJ
  subst hH2
  by_cases hj4:j≤4
  ·cases hrd:i.ready.getD k default with
   |false=>
    repeat' (first| (with_reducible first| (refine hK _ _ _ ?_;clear hK K)| (refine hB ?_;clear hA hB A B)|refine Z1 ?_|refine hKY _ _ _ ?_)| (with_reducible first|refine Y2 fun K hK=> ?_|refine Y3 fun A B hA hB=> ?_|refine Y4 (by omega) ?_)<;>(simp only[go_sem,hin1,hrd];try simp (disch:=omega) only[Iw])| ((with_reducible refine Y9 ?_);try simp only[AQ.then,AQ.blk,reduceIte,Nat.reduceEqDiff])| ((with_reducible refine Y0 ?_);simp only[AQ.then,AQ.blk])|refine⟨by omega,?_⟩| (with_reducible refine hKB _ _ _ ?_)|fail)
    exact hKL _ _ _ (k+1,s1,es1,nm1) noF _ (by omega) (by dsimp only;omega) (by repeat' (first| (with_reducible first|exact C1|refine C2 ?_ ?_)| ((with_reducible refine C0 ?_);exact CE (by omega) rfl)| ((with_reducible refine D0 ?_);first|exact CA rfl|refine CJ ?_)|fail)) aK ⟨by dsimp only;omega,hs1,hB1.mono (by omega),hX1,hS2.none (agJ hrd),by dsimp only;omega⟩
   |true=>
   obtain⟨st,hst⟩: ∃st,st=pQ s1 k j:=⟨_,rfl⟩
   have hst':st=((p.last+(j:Int))%4).toNat:=by rw[hst,hpd];rfl
   have hst4:st<4:=by omega
   have hmod:(p.last+(j:Int)).tmod 4=(st:Int):=by rw[Int.tmod_eq_emod_of_nonneg (by omega)];omega
   obtain⟨v,hvd⟩: ∃v,v=aL s1 st:=⟨_,rfl⟩
   obtain⟨po,ppc,do_,dc,gs,gp,gd⟩:=gb st hst4
   rw[←hvd] at gs gp gd
   obtain⟨md,rd,d1,d2,d3,d4,d5,d6⟩:=gd.ex
   by_cases hd0:v.done.length=0
   ·have hlen:((v.done.length:Int)=0)=True:=eq_true (by omega)
    repeat' (first| (with_reducible first| (refine hK _ _ _ ?_;clear hK K)| (refine hA ?_;clear hA hB A B)|refine Z1 ?_|refine Z2 ?_|refine Z3 fun KB hKB=> ?_)| (with_reducible first|refine Y2 fun K hK=> ?_|refine Y3 fun A B hA hB=> ?_|refine Y4 (by omega) ?_)<;>(simp only[go_sem,g0,g1,g2,gr,gs,hin1,hmod,hrd,hlen];try simp (disch:=omega) only[Iw])| ((with_reducible refine Y9 ?_);try simp only[AQ.then,AQ.blk,reduceIte,Nat.reduceEqDiff])| ((with_reducible refine Y0 ?_);simp only[AQ.then,AQ.blk])|refine⟨by omega,?_⟩| (with_reducible refine hKB _ _ _ ?_)|fail)
    exact hKJ _ _ _ (j+1) noF _ (by omega) (by omega) (by repeat' (first| (with_reducible first|exact C1|refine C2 ?_ ?_)| ((with_reducible refine C0 ?_);exact CE (by omega) rfl)| ((with_reducible refine D0 ?_);first|exact CA rfl|refine CJ ?_)|fail)) aK ⟨by omega,by omega,rfl,fun j' h1 h2=>by
     by_cases hj:j'<j
     ·exact hinv j' h1 hj
     ·have:j'=j:=by omega
      subst this
      rw[←hst]
      exact decide_eq_false fun hc=>by rw[←hvd] at hc;omega⟩
   have hlen:((v.done.length:Int)=0)=False:=eq_false (by omega)
   obtain⟨d,hdd⟩: ∃d,d=v.done.getD 0 default:=⟨_,rfl⟩
   have d7:rd[do_]?=some (aS d):=by
    have:(rd.drop do_)[0]?=some (aS d):=by rw[d2,List.getElem?_map];simp[hdd,List.getD,show 0<v.done.length by omega]
    rwa [List.getElem?_drop,Nat.add_zero] at this
   by_cases hwho:d.who=k
   ·have hn8:=hB1.rep.names.lt (8+k) (by omega)
    have htl:s1.told.length≤36:=by have:=hs1.st.lens hb;simp only[cX] at this;omega
    have hol:=hpo.ol
    have hex: ∃j∈p.out,j.n=d.n:=by
     obtain⟨_,j,q1,q2,_⟩:=(hs1.slv st hst4).out (key d) (by rw[←hvd];exact M9 (by rw[hdd];exact cC (by omega)))
     have e:(key d).1.toNat=k:=by show d.who.toNat=k;omega
     rw[e,←hpd] at q1
     exact⟨j,q1,q2⟩
    obtain⟨hx1,hx2⟩:=PJ hex
    have hx3: ¬bK (isC d.n) p.out<0:=by
     have:0≤bK (isC d.n) p.out:=cH.2 (by obtain⟨j,q1,q2⟩:=hex;exact⟨j,q1,decide_eq_true q2⟩)
     omega
    have hout: ∀{G:aA} {n':Nat} {K:D→aA→Nat→Prop},G (nm1 (5+k))=H2 (nm1 (5+k))→G (nm1 (8+k))=H2 (nm1 (8+k))→K (dI (bK (isC d.n) p.out)) G n'→aB Tryz.prog kV [.one (.agg [cI p.next,.osl 1 (nm1 (5+k)) qo p.queue.length qc,.osl 3 (nm1 (8+k)) 0 p.out.length oc,cI p.last]),dI d.n] G n' K:=fun h1 h2 h3=>
     KT (by omega) (lY (A8 (fO ZX (fO ((gq.frame h1).frz (aG bF _) trivial) (fO ((go.frame h2).frz (aG yK _) trivial) (fO ZX LH)))))) h3
    have hA:=hB1.rep.apart (nx':=nx2) [nx] [0,1,2,3,4,5+k,8+k,11+st,15+st] (by omega) (by simp) (fun x hx=>.inl (.inr (by simpa using hx))) (by simp;omega) (by simp;omega)
    simp only[bQ,eZ,List.map,List.cons_append,List.nil_append] at hA
    obtain⟨mt,rt,e1,e2,e3,e4,e5,e6⟩:=g5.ex
    obtain⟨mo,ro,o1,o2,o3,o4,o5,o6⟩:=go.ex
    rw[List.drop_zero] at e2 o2
    subst e2;subst o2
    refine aM.BW fun hnm=> ?_
    have hgk: ∀r,(rp.set k r)[k]?=some r:=fun r=>by rw[List.getElem?_set_self (by omega)]
    have hmk: ∀k l,msk (nx2+k) l H2=H2:=fun k l=>BV hnm (by omega)
    repeat' (first| (with_reducible first| (refine hK _ _ _ ?_;clear hK K)| (refine hA ?_;clear hA hB A B)| (refine hB ?_;clear hA hB A B)|refine Z1 ?_|refine Z2 ?_|refine Z3 fun KB hKB=> ?_|refine fun(cap:Nat) (hcap:_≤cap)=> ?_|refine fun(hcp:_≤cap)=> ?_)| (first| (with_reducible first|refine Y2 fun K hK=> ?_|refine Y3 fun A B hA hB=> ?_|refine Y4 (by omega) ?_)| (refine hout (by simp only[aA.set,aA.del,hA,if_false]) (by simp only[aA.set,aA.del,hA,if_false]) ?_)| (refine tK (m:=mo) (by omega) hx3 hx1 o5 (by omega) (by omega) (by simp only[aA.set,aA.del,hA,if_false];exact o1) (fun cap' m' q1 q2=> ?_)))<;>(simp only[go_sem,Nat.add_assoc,Nat.left_eq_add,hmk,umS (G:=H2),umD (G:=H2),umB,hgk,List.set_set,g0,g1,g2,gr,gs,hin1,hmod,hrd,hlen,d1,d7,hwho,e1,o1,hA];try simp (disch:=omega) only[Iw])|refine⟨by omega,?_⟩|fail)
    obtain⟨nm',hnm'⟩: ∃nm',nm'=put (put nm1 4 (nx2+56)) (8+k) (nx2+88):=⟨_,rfl⟩
    have pn: ∀j,j≠4→j≠8+k→nm' j=nm1 j:=fun j h1 h2=>by rw[hnm',jE h2,jE h1]
    have p4:nm' 4=nx2+56:=by rw[hnm',jE (by omega),t8]
    have p8:nm' (8+k)=nx2+88:=by rw[hnm',t8]
    obtain⟨s',hs'⟩: ∃s',s'=aR c s1 (.tell k st):=⟨_,rfl⟩
    have hdj:iF s1 st=d:=by rw[hdd,hvd];rfl
    have hpd':aF s' k= {p with out:=PE p.out d.n,last:=st}:=by rw[hs',bL rfl (by rw[hs1.pl];omega),if_pos rfl,hdj,←hpd]
    have hvd':aL s' st= {v with done:=v.done.drop 1}:=by rw[hs',bO rfl (by rw[hs1.sl];omega),if_pos rfl,←hvd]
    have htd:s'.told=s1.told++[d]:=by rw[hs',←hdj];rfl
    refine acI (hB1.upd k st nm' s' (by omega) ?_ ?_ ?_ ?_ ?_ ?_ (.inl hlt) (.inl hst4) (fun j hj hne=>by rw[hs',bL rfl (by rw[hs1.pl];omega),if_neg hne]) (fun j hj hne=>by rw[hs',bO rfl (by rw[hs1.sl];omega),if_neg hne])) (by omega) fun H' nx' hx hB' hX'=> ?_
    ·rw[hnm']
     have hXl: ∀v,nx2≤v→¬((X v∨v=nx)∨v=i1):=fun v hv hn=>by have:=hB1.rep.x v hn;omega
     exact((hB1.rep.names.mono (by omega:nx1≤nx2)).put (nx':=nx2+57) (by omega) (by omega) (hXl _ (by omega))).put (by omega) (by omega) (hXl _ (by omega))
    ·intro j hj
     by_cases h4:j=4
     ·subst h4;exact .inr ⟨.inl rfl,by omega⟩
     ·by_cases h8:j=8+k
      ·subst h8;exact .inr ⟨.inr (.inr (.inl rfl)),by omega⟩
      ·exact .inl (pn j h4 h8)
    ·intro id hid h0 hne
     simp only[aA.set,aA.del,h0,hne 2 (by omega) (by omega),hne 3 (by omega) (by omega),hne 4 (by omega) (by omega),hne (8+k) (by omega) (by omega),show ¬id=nx2+47 by omega,show ¬id=nx2+55 by omega,show ¬id=nx2+56 by omega,show ¬id=nx2+88 by omega,if_false]
    ·refine⟨wc,hc,pc,vc,cap,?_,?_,?_,?_,g6,g7⟩
     ·simp only[aA.set,aA.del,hA,if_false,if_true,U2,pn 0 (by omega) (by omega),pn 1 (by omega) (by omega),pn 2 (by omega) (by omega),pn 3 (by omega) (by omega),p4,htd,List.length_append,List.length_singleton]
      rw[hs'];rfl
     ·rw[pn 0 (by omega) (by omega),hs']
      exact g3.frame (by simp only[aA.set,aA.del,hA,if_false])
     ·rw[pn 1 (by omega) (by omega),hs']
      exact g4.frame (by simp only[aA.set,aA.del,hA,if_false])
     ·rw[p4,htd]
      exact⟨cap,(s1.told++[d]).map aS,by simp only[aA.set,aA.del,hA,if_false,if_true,show ¬nx2+56=nx2+88 by omega],rfl,by simp,by simp,by simpa using hcap,by simp⟩
    ·refine⟨mp,rp.set k [cI p.next,.osl 1 (nm1 (5+k)) qo p.queue.length qc,.osl 3 (nx2+88) 0 (PE p.out d.n).length cap',cI st],mp,rp,g1,by simp only[aA.set,aA.del,hA,if_false,if_true];rfl,by simp only[List.length_set,g8],fun j hj hne=>by rw[List.getElem?_set_ne (Ne.symm hne)],fun _=>⟨_,hgk _,⟨qo,qc,cap',?_,?_,?_⟩⟩⟩
     ·rw[hpd',pn (5+k) (by omega) (by omega),p8];rfl
     ·rw[hpd',pn (5+k) (by omega) (by omega)]
      exact gq.frame (by simp only[aA.set,aA.del,hA,if_false])
     ·rw[hpd',p8]
      exact⟨m',(PE p.out d.n).map eCJ,by simp only[aA.set,aA.del,hA,if_false,if_true];rfl,rfl,by simp,by simp,q1,by omega⟩
    ·refine⟨mv,rv.set st [.osl 3 (nm1 (11+st)) po v.pipe.length ppc,.osl 5 (nm1 (15+st)) (do_+1) (v.done.length-1) (dc-1),cI v.last],mv,rv,g2,by simp only[aA.set,aA.del,hA,if_false,if_true],by simp only[List.length_set,g9],fun j hj hne=>by rw[List.getElem?_set_ne (Ne.symm hne)],fun _=>⟨[.osl 3 (nm1 (11+st)) po v.pipe.length ppc,.osl 5 (nm1 (15+st)) (do_+1) (v.done.length-1) (dc-1),cI v.last],List.getElem?_set_self (by omega),⟨po,ppc,do_+1,dc-1,?_,?_,?_⟩⟩⟩
     ·rw[hvd',pn (11+st) (by omega) (by omega),pn (15+st) (by omega) (by omega)]
      simp only[aj9,List.length_drop]
     ·rw[hvd',pn (11+st) (by omega) (by omega)]
      exact gp.frame (by simp only[aA.set,aA.del,hA,if_false])
     ·rw[hvd',pn (15+st) (by omega) (by omega)]
      refine⟨md,rd,by simp only[aA.set,aA.del,hA,if_false];exact d1,by rw[List.map_drop,←d2,List.drop_drop],?_,by simp,?_,?_⟩
      ·simp only[List.length_drop];omega
      ·simp only[List.length_drop];omega
      ·omega
    ·simp only[go_sem]
     repeat' (first| (with_reducible first| (refine hK _ _ _ ?_;clear hK K)|refine hKY _ _ _ ?_)| (with_reducible refine Y2 fun K hK=> ?_)<;>(simp only[go_sem];try simp (disch:=omega) only[Iw])| ((with_reducible refine Y9 ?_);try simp only[AQ.then,AQ.blk,reduceIte,Nat.reduceEqDiff])| ((with_reducible refine Y0 ?_);simp only[AQ.then,AQ.blk])| (with_reducible (clear hKB KB;refine hKB _ _ _ ?_))|fail)
     have hO:vT i s1 k=some (.tell k st):=by
      rw[hst]
      exact acB hrd hj1 hj4 hinv (by rw[←hst];exact decide_eq_true ⟨by rw[←hvd];omega,by rw[←hvd,←hdd];exact hwho⟩)
     have hL:=hS2.some hO
     rw[←hs',show y0 s1 (.tell k st)=[⟨3,k,d.n⟩] from by rw[←hdj];rfl] at hL
     have hs2:COk c s':=by rw[hs'];exact o9 hb hs1 (TB hs1 hlt hO)
     exact hKL _ _ _ (k+1,s',es1++[⟨3,k,d.n⟩],nm') noF _ (by omega) (by dsimp only;omega) (by repeat' (first| (with_reducible first|exact C1|refine C2 ?_ ?_)| ((with_reducible refine C0 ?_);exact CE (by omega) rfl)| ((with_reducible refine D0 ?_);first|exact CA rfl|refine CJ ?_)|fail)) aK ⟨by dsimp only;omega,hs2,hB'.mono (by omega),fun id hid=>(hX' id hid).trans (hX1 id hid),hL,by simp;omega⟩
   ·have hwf:(d.who=(k:Int))=False:=eq_false hwho
    repeat' (first| (with_reducible first| (refine hK _ _ _ ?_;clear hK K)| (refine hA ?_;clear hA hB A B)|refine Z1 ?_|refine Z2 ?_|refine Z3 fun KB hKB=> ?_)| (with_reducible first|refine Y2 fun K hK=> ?_|refine Y3 fun A B hA hB=> ?_|refine Y4 (by omega) ?_)<;>(simp only[go_sem,g0,g1,g2,gr,gs,hin1,hmod,hrd,hlen,d1,d7,hwf];try simp (disch:=omega) only[Iw])| ((with_reducible refine Y9 ?_);try simp only[AQ.then,AQ.blk,reduceIte,Nat.reduceEqDiff])| ((with_reducible refine Y0 ?_);simp only[AQ.then,AQ.blk])|refine⟨by omega,?_⟩| (with_reducible refine hKB _ _ _ ?_)|fail)
    exact hKJ _ _ _ (j+1) noF _ (by omega) (by omega) (by repeat' (first| (with_reducible first|exact C1|refine C2 ?_ ?_)| ((with_reducible refine C0 ?_);exact CE (by omega) rfl)| ((with_reducible refine D0 ?_);first|exact CA rfl|refine CJ ?_)|fail)) aK ⟨by omega,by omega,rfl,fun j' h1 h2=>by
     by_cases hj:j'<j
     ·exact hinv j' h1 hj
     ·have:j'=j:=by omega
      subst this
      rw[←hst]
      exact decide_eq_false fun hc=>hwho (by rw[hdd,hvd];exact hc.2)⟩
  ·repeat' (first| (with_reducible first| (refine hK _ _ _ ?_;clear hK K)| (refine hB ?_;clear hA hB A B)|refine Z1 ?_|refine hKY _ _ _ ?_)| (with_reducible first|refine Y2 fun K hK=> ?_|refine Y3 fun A B hA hB=> ?_|refine Y5 (by omega) ?_)<;>(simp only[go_sem];try simp (disch:=omega) only[Iw])| ((with_reducible refine Y9 ?_);try simp only[AQ.then,AQ.blk,reduceIte,Nat.reduceEqDiff])| ((with_reducible refine Y0 ?_);simp only[AQ.then,AQ.blk])| (with_reducible refine hKB _ _ _ ?_)|fail)
   exact hKL _ _ _ (k+1,s1,es1,nm1) noF _ (by omega) (by dsimp only;omega) (by repeat' (first| (with_reducible first|exact C1|refine C2 ?_ ?_)| ((with_reducible refine C0 ?_);exact CE (by omega) rfl)| ((with_reducible refine D0 ?_);first|exact CA rfl|refine CJ ?_)|fail)) aK ⟨by dsimp only;omega,hs1,hB1.mono (by omega),hX1,hS2.none (acZ fun j' h1 h2=>hinv j' h1 (by omega)),by dsimp only;omega⟩
 ·repeat' (first| (with_reducible first| (refine hK _ _ _ ?_;clear hK K)| (refine hB ?_;clear hA hB A B)|refine Z1 ?_|refine Z5 (by omega) ?_|refine hKX _ _ _ ?_)| (with_reducible first|refine Y2 fun K hK=> ?_|refine Y3 fun A B hA hB=> ?_)<;>(simp only[go_sem])| ((with_reducible refine Y9 ?_);try simp only[AQ.then,AQ.blk,reduceIte,Nat.reduceEqDiff])| ((with_reducible refine Y0 ?_);simp only[AQ.then,AQ.blk])|fail)
  have hk3:k=3:=by omega
  subst hk3
  obtain⟨rfl,rfl⟩:=vU.nil hS1
  refine hQ _ _ _ _ _ (.inl rfl) rfl (h _ _ nm1 (by omega) (hB1.next (by omega) (fun _ _ _=>rfl) fun id hid=>⟨?_,.inl (.inl hid)⟩) fun id hid=> ?_)
  ·have:=hB.rep.x id (.inl hid);omega
  ·rw[hX1 id (.inl hid),hH0,aA.aC]
   have:=hB.rep.x id (.inl hid);omega
end
end Go.Proofs.YtegiblhkjfiooaaGreat
end
section
namespace Go.Proofs.YtegiblhkjfiooaaGreat
open Go Go.AM
set_option maxRecDepth 100000
set_option maxHeartbeats 8000000
theorem HR:cJ Tryz.prog pL Tryz.f89 nS vR:=cJ.mk Tryz.func89 (by kernel_rfl) HL
theorem fZ {H:aA} {e:Env} {t n id m:Nat} {cs:List D1} (he:e t= .one (.c (.ptr n id 0 0))) (ho:H id=some ⟨n,m,[cs]⟩) (hl:cs.length=n):yT H e [.cell t n true]=some (dA cs):=by
 subst hl
 simp[yT,VP,he,tT,ho,mkV]
theorem PU {nx i:Nat} {H:aA}:CvX (fun j=>j=i) nx H (H.del i):=fun j o' hj=>by
 simp only[aA.del] at hj
 split at hj
 ·cases hj
 ·exact⟨by assumption,o',hj,.inl rfl⟩
section
variable {H : aA} {nx : Nat} {K : D → aA → Nat → Prop}
theorem HZ {m:List Rng} {w hh:List Int} {who:Int} {q:Req} {c0 c1 m0 m1 i0 i1 i2:Nat} {x y z:D1} (hm4:m.length<2^20) (hf:WK w hh) (hc0:w.length≤c0) (hc1:hh.length≤c1) (hw:0≤who∧who≤2) (hq:dH q)
 (hlt:i0<nx∧i1<nx∧i2<nx) (hd:[i0,i1,i2].Nodup) (h0:H i0=some ⟨5,1,[[.osl 1 i1 0 w.length c0,.osl 1 i2 0 hh.length c1,x,y,z]]⟩) (h1:H i1=some ⟨1,m0,w.map aJ⟩) (h2:H i2=some ⟨1,m1,hh.map aJ⟩)
 (hR: ∀H' nx',nx≤nx'→H' i1=some ⟨1,m0,(doM m w hh who q).1.1.map aJ⟩→H' i2=some ⟨1,m1,(doM m w hh who q).1.2.map aJ⟩→(∀id,id<nx→id≠i1→id≠i2→H' id=H id)→K (dA (tG (doM m w hh who q).2)) H' nx'):
 aB Tryz.prog pL [.one (.c (.ptr 5 i0 0 0)),dS (m.map eN),dI who,dA (eB q)] H nx K:=by
 obtain⟨hwl,hwr,hsl,hsr⟩:=hf
 obtain⟨hq1,hq2,hq3,hq4,hq5,hq6,hq7,hq8⟩:=hq
 have hbl:=DF hq3
 have hbp:=ai5 hq3
 have hb4:=MK (addr:=q.addr) (many:=q.many) (wrap:=q.wrap)
 have hbi:All (bE q.addr q.many q.wrap) 0 63:=V1
 have hltm:=PQ (p:=(inR · ((bE q.addr q.many q.wrap).getD 0 default))) (l:=m)
 have hwh:bV m (bE q.addr q.many q.wrap)<m.length:=by unfold bV;grind
 have hdl:wrM q=true→q.data.length=(bE q.addr q.many q.wrap).length∧q.lanes.length=(bE q.addr q.many q.wrap).length:=by
  intro h;unfold wrM at h;unfold n5 at hq4 hq5;simp at h;simp only[h,if_true] at hq4 hq5;omega
 have hwi:=W4 (q:=q)
 refine aB.tW ?_
 refine HR rfl fun Q hQ=> ?_
 unfold nS
 generalize hall:bE q.addr q.many q.wrap=all at*
 have hwo: ∀{H:aA} {nx:Nat} {K:D→aA→Nat→Prop},K (dI (bV m all)) H nx→aB Tryz.prog mZ [dS (m.map eN),dA (eB q)] H nx K:=fun h=>KD (by omega) (by rw[hall];exact h)
 have hbu: ∀{H:aA} {nx:Nat} {K:D→aA→Nat→Prop},K (dS (all.map aJ)) H nx→aB Tryz.prog fP [dA (eB q)] H nx K:=fun h=>vY (by rw[hall];exact h)
 have hA:bQ nx [i0,i1,i2]:=AM.apart hd (by simp;omega)
 simp only[bQ,eZ] at hA
 simp only[List.nodup_cons,List.mem_cons,List.not_mem_nil,or_false,not_or] at hd
 by_cases h1n:bV m all<0
 ·rw[alZ (by rw[hall];exact h1n)] at hR
  repeat' (first| (with_reducible first| (refine hK _ _ _ ?_;clear hK K)| (refine hA ?_;clear hA hB A B)|refine Z1 ?_|refine Z3 fun KB hKB=> ?_|refine Z4 (by omega) ?_)| (first| (with_reducible first|refine Y2 fun K hK=> ?_|refine Y3 fun A B hA hB=> ?_)| (with_reducible refine hwo ?_))<;>(simp only[go_sem,Nat.add_assoc,Nat.left_eq_add,h0,h1,h2,hA];try simp (disch:=omega) only[Iw])| ((with_reducible refine Y8 ?_);try simp only[AQ.then,AQ.blk,reduceIte,Nat.reduceEqDiff])|refine⟨by omega,?_⟩|fail)
  refine hQ _ _ _ _ _ (.inr rfl) (fZ rfl (by simp only[aA.set,if_true];rfl) rfl) ⟨dA (tG ⟨q.id,4,[]⟩),_,noF,by repeat' (first| (with_reducible first|exact C3|refine C4 ?_ ?_)| ((with_reducible refine C0 ?_);first|exact CB rfl|exact CF)| ((with_reducible refine D0 ?_);refine C9 ?_)|refine C4 ?_ ?_|fail),aK,hR _ _ (by omega) ?_ ?_ fun id e0 e1 e2=> ?_⟩
  ·simp only[aA.set,hA,if_false];exact h1
  ·simp only[aA.set,hA,if_false];exact h2
  ·simp only[aA.set,show ¬id=nx by omega,show ¬id=nx+1 by omega,show ¬id=nx+9 by omega,if_false]
 have h1': ¬bV m (bE q.addr q.many q.wrap)<0:=by rw[hall];exact h1n
 by_cases h2w:wrM q=true
 ·obtain⟨hd1,hd2⟩:=hdl h2w
  by_cases h3:(m.getD (bV m all).toNat default).only=true
  ·rw[anB h1' h2w (by rw[hall];exact h3)] at hR
   repeat' (first| (with_reducible first| (refine hK _ _ _ ?_;clear hK K)| (refine hA ?_;clear hA hB A B)| (refine hB ?_;clear hA hB A B)|refine Z1 ?_|refine Z3 fun KB hKB=> ?_|refine Z5 (by omega) ?_)| (first| (with_reducible first|refine Y2 fun K hK=> ?_|refine Y3 fun A B hA hB=> ?_)| (with_reducible refine hwo ?_)| (with_reducible refine gH ?_))<;>(simp only[go_sem,Nat.add_assoc,Nat.left_eq_add,h0,h1,h2,hA,h2w,h3];try simp (disch:=omega) only[Iw])| ((with_reducible refine Y8 ?_);try simp only[AQ.then,AQ.blk,reduceIte,Nat.reduceEqDiff])|refine⟨by omega,?_⟩|fail)
   refine hQ _ _ _ _ _ (.inr rfl) (fZ rfl (by simp only[aA.set,if_true];rfl) rfl) ⟨dA (tG ⟨q.id,3,[]⟩),_,noF,by repeat' (first| (with_reducible first|exact C3|refine C4 ?_ ?_)| ((with_reducible refine C0 ?_);first|exact CB rfl|exact CF)| ((with_reducible refine D0 ?_);refine C9 ?_)|refine C4 ?_ ?_|fail),aK,hR _ _ (by omega) ?_ ?_ fun id e0 e1 e2=> ?_⟩
   ·simp only[aA.set,hA,if_false];exact h1
   ·simp only[aA.set,hA,if_false];exact h2
   ·simp only[aA.set,show ¬id=nx by omega,show ¬id=nx+1 by omega,show ¬id=nx+9 by omega,if_false]
  have h3': ¬(m.getD (bV m (bE q.addr q.many q.wrap)).toNat default).only=true:=by rw[hall];exact h3
  have h3f:(m.getD (bV m all).toNat default).only=false:=by simpa using h3
  by_cases h4:q.kind=4∧ ¬hh.getD (who*2+q.id).toNat default=q.addr
  ·rw[aqU h1' h3' h4.1 h4.2] at hR
   have h41:=h4.1
   have h42:=h4.2
   repeat' (first| (with_reducible first| (refine hK _ _ _ ?_;clear hK K)| (refine hA ?_;clear hA hB A B)| (refine hB ?_;clear hA hB A B)|refine Z1 ?_|refine Z3 fun KB hKB=> ?_|refine Z4 (by omega) ?_|refine Z5 (by omega) ?_)| (first| (with_reducible first|refine Y2 fun K hK=> ?_|refine Y3 fun A B hA hB=> ?_|refine Y4 (by omega) ?_)| (with_reducible refine hwo ?_)| (with_reducible refine gH ?_))<;>(simp only[go_sem,Nat.add_assoc,Nat.left_eq_add,h0,h1,h2,hA,h2w,h3f];try simp (disch:=omega) only[Iw])| ((with_reducible refine Y8 ?_);try simp only[AQ.then,AQ.blk,reduceIte,Nat.reduceEqDiff])|refine⟨by omega,?_⟩|fail)
   refine hQ _ _ _ _ _ (.inr rfl) (fZ rfl (by simp only[aA.set,if_true];rfl) rfl) ⟨dA (tG ⟨q.id,1,[]⟩),_,noF,by repeat' (first| (with_reducible first|exact C3|refine C4 ?_ ?_)| ((with_reducible refine C0 ?_);first|exact CB rfl|exact CF)| ((with_reducible refine D0 ?_);refine C9 ?_)|refine C4 ?_ ?_|fail),aK,hR _ _ (by omega) ?_ ?_ fun id e0 e1 e2=> ?_⟩
   ·simp only[aA.set,hA,if_false];exact h1
   ·simp only[aA.set,hA,if_false];exact h2
   ·simp only[aA.set,show ¬id=nx by omega,show ¬id=nx+1 by omega,show ¬id=nx+9 by omega,if_false]
  obtain⟨code,hcode⟩: ∃code:Int,code=if q.kind=4 then 2 else 1:=⟨_,rfl⟩
  have hD:doM m w hh who q=((FV w all q.data q.lanes all.length,iU hh all),⟨q.id,code,[]⟩):=by
   rcases hwi.1 h2w with hk|hk
   ·rw[ao1 h1' h3' hk,hall,hcode,if_neg (by omega)]
   ·rw[aoE h1' h3' hk (Classical.byContradiction fun hc=>h4 ⟨hk,hc⟩),hall,hcode,if_pos hk]
  rw[hD] at hR
  have hk24:=hwi.1 h2w
  repeat' (first| (with_reducible first| (refine hK _ _ _ ?_;clear hK K)| (refine hA ?_;clear hA hB A B)| (refine hB ?_;clear hA hB A B)|refine Z1 ?_|refine Z2 ?_|refine Z3 fun KB hKB=> ?_|refine Z4 (by omega) ?_|refine Z5 (by omega) ?_)| (first| (with_reducible first|refine Y2 fun K hK=> ?_|refine Y3 fun A B hA hB=> ?_|refine Y6 (fun h=> ?_) fun h=> ?_)| (with_reducible refine hwo ?_)| (with_reducible refine hbu ?_)| (with_reducible refine gH ?_))<;>(simp only[go_sem,Nat.add_assoc,Nat.left_eq_add,h0,h1,h2,hA,h2w,h3f];try simp (disch:=omega) only[Iw])| ((with_reducible refine Y0 ?_);simp only[AQ.then,AQ.blk])|refine⟨by omega,?_⟩| (with_reducible refine hKB _ _ _ ?_)|fail)
  all_goals
   have hcd:(code=2∧q.kind=4)∨(code=1∧ ¬q.kind=4):=by rw[hcode];split<;>simp[*]
   (have hKX:=hKB;clear hKB)
   refine aM.gP (β:=Nat) (fun k=>en [(109,dI k),(108,dI all.length),(107,dS (all.map aJ)),(12,dS (all.map aJ)),(10,.one (.c (.ptr 3 (nx+9) 0 0))),(8,.one (.c (.ptr 3 (nx+1) 0 0))),(7,.one (.c (.ptr 7 nx 0 0))),(0,.one (.c (.ptr 5 i0 0 0)))])
    (fun k H1 _=>k≤all.length∧H1 i1=some ⟨1,m0,(FV w all q.data q.lanes k).map aJ⟩∧H1 nx=some ⟨7,1,[eB q]⟩∧H1 (nx+9)=some ⟨3,1,[[cI q.id,cI code,.osl 0 0 0 0 0]]⟩∧H1 (nx+1)=some ⟨3,1,[[cI 0,cI 0,.osl 0 0 0 0 0]]⟩∧ ∀id,id<nx→id≠i1→H1 id=H id) (fun k=>all.length-k) 0 ⟨noF,_,by repeat' (first| (with_reducible first|exact C1|refine C2 ?_ ?_)| ((with_reducible refine C0 ?_);exact CE (by omega) rfl)| ((with_reducible refine D0 ?_);first|exact CA rfl|refine CJ ?_)|fail),aK,?_⟩ ?_
   ·refine⟨by omega,by simp only[aA.set,hA,if_false];exact h1,?_,?_,?_,fun id e0 e1=> ?_⟩
    ·simp only[aA.set,Nat.left_eq_add,Nat.reduceEqDiff,Nat.one_ne_zero,if_false,if_true,reduceIte]
    ·simp only[aA.set,if_true]
     rcases hcd with⟨rfl,_⟩|⟨rfl,_⟩<;>first|rfl|contradiction
    ·simp only[aA.set,Nat.add_left_cancel_iff,Nat.reduceEqDiff,if_false,if_true]
    ·simp only[aA.set,show ¬id=nx by omega,show ¬id=nx+1 by omega,show ¬id=nx+9 by omega,if_false]
   rintro k H1 nx1 hnx ⟨hk,g1,gq,g9,g8,hfr⟩ KL hKL
   have g0:H1 i0=some ⟨5,1,[[.osl 1 i1 0 w.length c0,.osl 1 i2 0 hh.length c1,x,y,z]]⟩:=by rw[hfr i0 (by omega) (by omega)];exact h0
   have g2:H1 i2=some ⟨1,m1,hh.map aJ⟩:=by rw[hfr i2 (by omega) (by omega)];exact h2
   have hpl:=AX (w:=w) (all:=all) (data:=q.data) (lanes:=q.lanes) k
   have hpw:=afR (all:=all) (lanes:=q.lanes) hwr hq6 k
   have hA1:bQ nx1 [i0,i1,i2,nx,nx+1,nx+9]:=AM.apart (by simp;omega) (by simp;omega)
   simp only[bQ,eZ] at hA1
   by_cases hlt2:k<all.length
   ·have hb:=HB hbi hlt2
    have hb2:(all.getD k default).toNat<(FV w all q.data q.lanes k).length:=by omega
    repeat' (first| (with_reducible first| (refine hK _ _ _ ?_;clear hK K)| (refine hA ?_;clear hA hB A B)|refine Z1 ?_|refine Z2 ?_|refine Z3 fun KB hKB=> ?_|refine Z4 (by omega) ?_)| (first| (with_reducible first|refine Y2 fun K hK=> ?_|refine Y3 fun A B hA hB=> ?_)| (with_reducible refine ae5 (HB hpw hb2) (HB hq6 (by omega)) (HB hq7 (by omega)) ?_))<;>(simp only[go_sem,Nat.add_assoc,Nat.left_eq_add,g0,g1,g2,gq,g9,g8,hA1];try simp (disch:=omega) only[Iw])| ((with_reducible refine Y0 ?_);simp only[AQ.then,AQ.blk])|refine⟨by omega,?_⟩| (with_reducible refine hKB _ _ _ ?_)|fail)
    exact hKL _ _ _ (k+1) noF _ (by omega) (by omega) (by repeat' (first| (with_reducible first|exact C1|refine C2 ?_ ?_)| ((with_reducible refine C0 ?_);exact CE (by omega) rfl)| ((with_reducible refine D0 ?_);first|exact CA rfl|refine CJ ?_)|fail)) aK ⟨by omega,aA.bH,by rw[aA.aC (by omega)];exact gq,by rw[aA.aC (by omega)];exact g9,by rw[aA.aC (by omega)];exact g8,fun id e0 e1=>by rw[aA.aC e1];exact hfr id e0 e1⟩
   ·repeat' (first| (with_reducible first| (refine hK _ _ _ ?_;clear hK K)| (refine hB ?_;clear hA hB A B)|refine Z1 ?_|refine Z3 fun KB hKB=> ?_|refine Z5 (by omega) ?_|refine hKX _ _ _ ?_)| (with_reducible first|refine Y2 fun K hK=> ?_|refine Y3 fun A B hA hB=> ?_)<;>(simp only[go_sem,Nat.add_assoc,Nat.left_eq_add,g0,g1,g2,gq,g9,g8,hA1])| ((with_reducible refine Y9 ?_);try simp only[AQ.then,AQ.blk,reduceIte,Nat.reduceEqDiff])|fail)
    have hk2:k=all.length:=by omega
    subst hk2
    (have hKY:=hKB;clear hKB)
    refine aM.gP (β:=Nat) (fun k=>en [(146,dI k),(145,dI 6),(144,dO 1 i2 6 c1),(12,dS (all.map aJ)),(10,.one (.c (.ptr 3 (nx+9) 0 0))),(8,.one (.c (.ptr 3 (nx+1) 0 0))),(0,.one (.c (.ptr 5 i0 0 0)))])
     (fun k H2 _=>k≤6∧H2 i2=some ⟨1,m1,(xI hh all k).map aJ⟩∧ ∀id,id<nx1→id≠i2→H2 id=H1 id) (fun k=>6-k) 0 ⟨noF,_,by repeat' (first| (with_reducible first|exact C1|refine C2 ?_ ?_)| ((with_reducible refine C0 ?_);first|exact CQ (by omega) rfl rfl (by first|rfl|omega) rfl|exact CE (by omega) rfl| (exact CG (by(congr 2;omega)) rfl))| ((with_reducible refine D0 ?_);first|exact CA rfl|refine CJ ?_)|fail),aK,by omega,by rw[ac9];exact g2,fun _ _ _=>rfl⟩ ?_
    rintro k H2 nx2 hnx2 ⟨hk,f2,ffr⟩ KM hKM
    have f0:H2 i0=some ⟨5,1,[[.osl 1 i1 0 w.length c0,.osl 1 i2 0 hh.length c1,x,y,z]]⟩:=by rw[ffr i0 (by omega) (by omega)];exact g0
    have f9:H2 (nx+9)=some ⟨3,1,[[cI q.id,cI code,.osl 0 0 0 0 0]]⟩:=by rw[ffr _ (by omega) (by omega)];exact g9
    have f8:H2 (nx+1)=some ⟨3,1,[[cI 0,cI 0,.osl 0 0 0 0 0]]⟩:=by rw[ffr _ (by omega) (by omega)];exact g8
    have hfl:=aiJ (all:=all) (show k≤hh.length by omega)
    have hA2:bQ nx2 [i0,i1,i2,nx,nx+1,nx+9]:=AM.apart (by simp;omega) (by simp;omega)
    simp only[bQ,eZ] at hA2
    by_cases hlt:k<6
    ·have hfa:=akN (all:=all) (show k<hh.length by omega)
     have hfs:=fun x=>agQ (all:=all) (x:=x) (show k<hh.length by omega)
     have hsm:=acP (all:=all) (show k<hh.length by omega)
     repeat' (first| (with_reducible first| (refine hK _ _ _ ?_;clear hK K)| (refine hA ?_;clear hA hB A B)| (refine hB ?_;clear hA hB A B)|refine Z1 ?_|refine Z2 ?_|refine Z3 fun KB hKB=> ?_|refine Z4 (by omega) ?_|refine Z6 (fun h=> ?_) fun h=> ?_)| (first| (with_reducible first|refine Y2 fun K hK=> ?_|refine Y3 fun A B hA hB=> ?_)| (refine x8 (by omega) (aE rfl) ?_))<;>(simp only[go_sem,Nat.add_assoc,Nat.left_eq_add,f0,f2,f9,f8,hA2,hfa];try simp (disch:=omega) only[Iw])| ((with_reducible refine Y0 ?_);simp only[AQ.then,AQ.blk])|refine⟨by omega,?_⟩| (with_reducible refine hKB _ _ _ ?_)|fail)
     ·exact hKM _ _ _ (k+1) noF _ (by omega) (by omega) (by repeat' (first| (with_reducible first|exact C1|refine C2 ?_ ?_)| ((with_reducible refine C0 ?_);first|exact CQ (by omega) rfl rfl (by rfl) rfl|exact CE (by omega) rfl)| ((with_reducible refine D0 ?_);first|exact CA rfl|refine CJ ?_)|fail)) aK ⟨by omega,by rw[←hfs (-1) (by rw[if_pos (by assumption)])];exact aA.bH,fun id e0 e1=>by rw[aA.aC e1];exact ffr id e0 e1⟩
     ·exact hKM _ _ _ (k+1) noF _ (by omega) (by omega) (by repeat' (first| (with_reducible first|exact C1|refine C2 ?_ ?_)| ((with_reducible refine C0 ?_);first|exact CQ (by omega) rfl rfl (by rfl) rfl|exact CE (by omega) rfl)| ((with_reducible refine D0 ?_);first|exact CA rfl|refine CJ ?_)|fail)) aK ⟨by omega,by rw[←hfs _ (by rw[if_neg (by assumption)]),hsm];exact f2,fun id e0 e1=>ffr id e0 e1⟩
    ·repeat' (first| (with_reducible first| (refine hK _ _ _ ?_;clear hK K)| (refine hB ?_;clear hA hB A B)|refine Z1 ?_|refine Z5 (by omega) ?_|refine hKY _ _ _ ?_)| (with_reducible first|refine Y2 fun K hK=> ?_|refine Y3 fun A B hA hB=> ?_)<;>(simp only[go_sem,Nat.add_assoc,Nat.left_eq_add,f0,f2,f9,f8,hA2])| ((with_reducible first|refine Y8 ?_|refine Y9 ?_);try simp only[AQ.then,AQ.blk,reduceIte,Nat.reduceEqDiff])|fail)
     have hk2:k=hh.length:=by omega
     subst hk2
     rw[ahC] at f2
     refine hQ _ _ _ _ _ (.inr rfl) (fZ rfl (by simp only[aA.set,if_true];rfl) rfl) ⟨dA (tG ⟨q.id,code,[]⟩),_,noF,by repeat' (first| (with_reducible first|exact C3|refine C4 ?_ ?_)| ((with_reducible refine C0 ?_);first|exact CB rfl|exact CF)| ((with_reducible refine D0 ?_);refine C9 ?_)|refine C4 ?_ ?_|fail),aK,hR _ _ (by omega) ?_ ?_ fun id e0 e1 e2=> ?_⟩
     ·rw[aA.aC (by omega),ffr _ (by omega) (by omega)];exact g1
     ·rw[aA.aC (by omega)];exact f2
     ·rw[aA.aC (by omega),ffr _ (by omega) e2];exact hfr id e0 e1
 have h2f:wrM q=false:=by simpa using h2w
 have hk13:q.kind=1∨q.kind=3:=by have h3: ¬(q.kind=2∨q.kind=4):=fun h=>h2w (hwi.2 h);omega
 repeat' (first| (with_reducible first| (refine hK _ _ _ ?_;clear hK K)| (refine hA ?_;clear hA hB A B)| (refine hB ?_;clear hA hB A B)|refine Z1 ?_|refine Z2 ?_|refine Z3 fun KB hKB=> ?_|refine Z5 (by omega) ?_)| (first| (with_reducible first|refine Y2 fun K hK=> ?_|refine Y3 fun A B hA hB=> ?_|refine Y5 (by omega) ?_)| (with_reducible refine hwo ?_)| (with_reducible refine hbu ?_)| (with_reducible refine gH ?_))<;>(simp only[go_sem,Nat.add_assoc,Nat.left_eq_add,h0,h1,h2,hA,h2f];try simp (disch:=omega) only[Iw])| ((with_reducible refine Y0 ?_);simp only[AQ.then,AQ.blk])|refine⟨by omega,?_⟩| (with_reducible refine hKB _ _ _ ?_)|fail)
 (have hKX:=hKB;clear hKB)
 refine aM.gP (β:=Nat) (fun k=>en [(76,dI k),(75,dI all.length),(74,dS (all.map aJ)),(11,.one (.c (.ptr 1 i2 (who*2+q.id).toNat 0))),(10,.one (.c (.ptr 3 (nx+9) 0 0))),(8,.one (.c (.ptr 3 (nx+1) 0 0))),(7,.one (.c (.ptr 7 nx 0 0))),(0,.one (.c (.ptr 5 i0 0 0)))])
  (fun k H1 _=>k≤all.length∧H1 nx=some ⟨7,1,[eB q]⟩∧H1 (nx+9)=some ⟨3,1,[[cI q.id,cI 1,.osl 1 (nx+55) 0 all.length all.length]]⟩∧H1 (nx+1)=some ⟨3,1,[[cI 0,cI 0,.osl 0 0 0 0 0]]⟩∧H1 (nx+55)=some ⟨1,all.length,((List.range k).map (fun k=>w.getD (all.getD k default).toNat default)++List.replicate (all.length-k) (0:Int)).map aJ⟩∧ ∀id,id<nx→H1 id=H id)
  (fun k=>all.length-k) 0 ⟨noF,_,by repeat' (first| (with_reducible first|exact C1|refine C2 ?_ ?_)| ((with_reducible refine C0 ?_);exact CE (by omega) rfl)| ((with_reducible refine D0 ?_);first|exact CA rfl|refine CJ ?_)|fail),aK,?_⟩ ?_
 ·refine⟨by omega,?_,?_,?_,?_,fun id e0=> ?_⟩
  ·simp only[aA.set,Nat.left_eq_add,Nat.reduceEqDiff,Nat.one_ne_zero,if_false,if_true,reduceIte]
  ·simp only[aA.set,if_true]
  ·simp only[aA.set,Nat.add_left_cancel_iff,Nat.reduceEqDiff,if_false,if_true]
  ·simp only[aA.set,Nat.add_left_cancel_iff,Nat.reduceEqDiff,if_false,if_true]
   simp[aJ]
  ·simp only[aA.set,show ¬id=nx by omega,show ¬id=nx+1 by omega,show ¬id=nx+9 by omega,show ¬id=nx+55 by omega,if_false]
 rintro k H1 nx1 hnx ⟨hk,gq,g9,g8,gd,hfr⟩ KL hKL
 have g0:H1 i0=some ⟨5,1,[[.osl 1 i1 0 w.length c0,.osl 1 i2 0 hh.length c1,x,y,z]]⟩:=by rw[hfr i0 (by omega)];exact h0
 have g1:H1 i1=some ⟨1,m0,w.map aJ⟩:=by rw[hfr i1 (by omega)];exact h1
 have g2:H1 i2=some ⟨1,m1,hh.map aJ⟩:=by rw[hfr i2 (by omega)];exact h2
 have hdlen:((List.range k).map (fun k=>w.getD (all.getD k default).toNat default)++List.replicate (all.length-k) (0:Int)).length=all.length:=by simp;omega
 have hA1:bQ nx1 [i0,i1,i2,nx,nx+1,nx+9,nx+55]:=AM.apart (by simp;omega) (by simp;omega)
 simp only[bQ,eZ] at hA1
 by_cases hlt2:k<all.length
 ·have hb:=HB hbi hlt2
  have hbs:=fun x=>XT (f:=fun k=>w.getD (all.getD k default).toNat default) (x:=x) hlt2
  repeat' (first| (with_reducible first| (refine hK _ _ _ ?_;clear hK K)| (refine hA ?_;clear hA hB A B)|refine Z1 ?_|refine Z2 ?_|refine Z3 fun KB hKB=> ?_|refine Z4 (by omega) ?_)| (with_reducible first|refine Y2 fun K hK=> ?_|refine Y3 fun A B hA hB=> ?_)<;>(simp only[go_sem,Nat.add_assoc,Nat.left_eq_add,g0,g1,g2,gq,g9,g8,gd,hA1,hdlen];try simp (disch:=omega) only[Iw])| ((with_reducible refine Y0 ?_);simp only[AQ.then,AQ.blk])|refine⟨by omega,?_⟩| (with_reducible refine hKB _ _ _ ?_)|fail)
  exact hKL _ _ _ (k+1) noF _ (by omega) (by omega) (by repeat' (first| (with_reducible first|exact C1|refine C2 ?_ ?_)| ((with_reducible refine C0 ?_);exact CE (by omega) rfl)| ((with_reducible refine D0 ?_);first|exact CA rfl|refine CJ ?_)|fail)) aK ⟨by omega,by rw[aA.aC (by omega)];exact gq,by rw[aA.aC (by omega)];exact g9,by rw[aA.aC (by omega)];exact g8,by rw[←hbs _ rfl];exact aA.bH,fun id e0=>by rw[aA.aC (by omega)];exact hfr id e0⟩
 ·have hk2:k=all.length:=by omega
  subst hk2
  have hrd:(List.range all.length).map (fun k=>w.getD (all.getD k default).toNat default)++List.replicate (all.length-all.length) (0:Int)=all.map fun a=>w.getD a.toNat default:=by rw[aqI];simp
  rw[hrd] at gd
  repeat' (first| (with_reducible first| (refine hK _ _ _ ?_;clear hK K)| (refine hA ?_;clear hA hB A B)| (refine hB ?_;clear hA hB A B)|refine Z1 ?_|refine Z2 ?_|refine Z5 (by omega) ?_|refine Z6 (fun h=> ?_) fun h=> ?_|refine hKX _ _ _ ?_)| (with_reducible first|refine Y2 fun K hK=> ?_|refine Y3 fun A B hA hB=> ?_)<;>(simp only[go_sem,Nat.add_assoc,Nat.left_eq_add,g0,g1,g2,gq,g9,g8,gd,hA1])| ((with_reducible first|refine Y8 ?_|refine Y9 ?_);try simp only[AQ.then,AQ.blk,reduceIte,Nat.reduceEqDiff])|refine⟨by omega,?_⟩|fail)
  ·rw[amK h1' (by assumption),hall] at hR
   refine hQ _ _ _ _ _ (.inr rfl) (fZ rfl (by simp only[aA.set,if_true];rfl) rfl) ⟨dA (tG ⟨q.id,2,all.map fun a=>w.getD a.toNat default⟩),_,fun j=>j=nx+55,lY (aH (bB rfl) (aH (bB rfl) (aH (bW (l:=all.map fun a=>w.getD a.toNat default) (F:=fun j=>j=nx+55) (m:=all.length) (len:=all.length) (cap:=all.length) bF ?_ (by simp) (by simp) rfl) eP))),PU,hR _ _ (by omega) ?_ ?_ fun id e0 e1 e2=> ?_⟩
   ·rw[aA.aC (by omega),aA.aC (by omega),aA.aC (by omega)];exact gd
   ·rw[aA.jG (by omega),aA.aC (by omega),aA.aC (by omega),aA.aC (by omega)];exact g1
   ·rw[aA.jG (by omega),aA.aC (by omega),aA.bH]
   ·rw[aA.jG (by omega),aA.aC (by omega),aA.aC (by omega),aA.aC (by omega)];exact hfr id e0
  ·rw[akI h1' (by omega),hall] at hR
   refine hQ _ _ _ _ _ (.inr rfl) (fZ rfl (by simp only[aA.set,if_true];rfl) rfl) ⟨dA (tG ⟨q.id,1,all.map fun a=>w.getD a.toNat default⟩),_,fun j=>j=nx+55,lY (aH (bB rfl) (aH (bB rfl) (aH (bW (l:=all.map fun a=>w.getD a.toNat default) (F:=fun j=>j=nx+55) (m:=all.length) (len:=all.length) (cap:=all.length) bF ?_ (by simp) (by simp) rfl) eP))),PU,hR _ _ (by omega) ?_ ?_ fun id e0 e1 e2=> ?_⟩
   ·rw[aA.aC (by omega)];exact gd
   ·rw[aA.jG (by omega),aA.aC (by omega)];exact g1
   ·rw[aA.jG (by omega),aA.aC (by omega)];exact g2
   ·rw[aA.jG (by omega),aA.aC (by omega)];exact hfr id e0
end
end Go.Proofs.YtegiblhkjfiooaaGreat
end
