/- Texts laid together by a program: rules, contracts and the walk that leads to the law. -/
import Derived.Test.YtegiblhkjfiooaaGreatPy10
import Derived.Test.YtegiblhkjfiooaaGreatPy3
set_option linter.unusedVariables false
set_option linter.unusedSimpArgs false
set_option linter.unusedSectionVars false
section
namespace Go.Proofs.YtegiblhkjfiooaaGreat
open Go Go.AM
set_option maxRecDepth 100000
set_option maxHeartbeats 4000000
section
variable {H : aA} {nx : Nat} {K : D → aA → Nat → Prop}
theorem azO: ∀w,(Go.sizeOf (Tryz.f235.targs.getD 0 0)).run Tryz.prog w= .ok (Tryz.prog.cellsOf (Tryz.f235.targs.getD 0 0)) w:=fun w=>by
 have h:(Tryz.prog.info? (Tryz.f235.targs.getD 0 0)).isSome=true:=by kernel_rfl
 exact run_sizeOf w (i:=(Tryz.prog.info? (Tryz.f235.targs.getD 0 0)).get h) (by simp)
theorem av1 {i j off off' len len' cap cap':Nat} {oi oj:bA} (hi:H i=some oi) (hj:H j=some oj) (hij:i≠j) (h1:0<oi.ext) (h2:0<oj.ext) (hn:0<oj.n) (hc:0<cap) (hc':0<cap') (hoff:off*5<oi.ext*oi.n)
 (h:K (dB false) H nx):asG Tryz.prog auV [.one (.c (.osl 5 i off len cap)),.one (.c (.osl 5 j off' len' cap'))] H nx K:=
 ay9 (fn:=Tryz.f235) Tryz.func235 (by kernel_rfl) (by kernel_rfl) (by kernel_rfl) (az3:=Tryz.f235.params.getD 0 0) (az4:=Tryz.f235.resultTypes.getD 0 0) (el:=Tryz.f235.targs.getD 0 0) (by kernel_rfl) (by kernel_rfl) azO hi hj hij h1 h2 hn hc hc' hoff h
theorem azW {l:List Job} {j:Job} (hs:kW l) (hn:key j∉l.map key) {k:Nat} (hk:k<l.length):ad5 (l.getD k default) j<0↔k<l.findIdx (uL j):=by
 rw[E7]
 have hg:l.getD k default=l[k]:=by simp[List.getD,hk]
 have hne:key l[k]≠key j:=fun he=>hn (he▸List.mem_map_of_mem (List.getElem_mem hk))
 rw[hg]
 constructor
 ·intro hb
  refine Classical.byContradiction fun hc=> ?_
  have hf:l.findIdx (uL j)<l.length:=by omega
  have h1:uL j l[l.findIdx (uL j)]=true:=List.findIdx_getElem (w:=hf)
  rcases Nat.lt_or_eq_of_le (Nat.le_of_not_lt hc) with hlt|he
  ·have h2:=List.pairwise_iff_getElem.1 hs _ _ hf hk hlt
   rw[qL] at h1 h2 hb
   omega
  ·simp only[he] at h1
   rw[qL] at h1 hb
   omega
 ·intro hlt
  have hb:=List.not_of_lt_findIdx hlt
  simp only[key,ne_eq,Prod.mk.injEq] at hne
  simp only[uL,decide_eq_true_eq,decide_eq_false_iff_not] at hb ⊢
  omega
theorem auC (l:List Job) (j:Job) (hl:l.length<2^20) (hs:kW l) (hn:key j∉l.map key):aB Tryz.prog eR [dS (l.map aS),dA (aS j),.one (.c (.clo bJ []))] .nil 0
 fun rr _ _=>rr.plain=true∧ ∃b,rr= .tup [.c (cI (l.findIdx (uL j):Nat)),.c (cB b)]:=by
 have hf:=List.findIdx_le_length (p:=uL j) (xs:=l)
 have hbl:=fun k hk=>azW hs hn (k:=k) hk
 generalize l.findIdx (uL j)=f at*
 refine auA rfl fun Q hQ=> ?_
 unfold rB
 repeat' (first| (with_reducible first| (refine hK _ _ _ ?_;clear hK K)|refine Z1 ?_|refine Z3 fun KB hKB=> ?_)| (with_reducible refine Y2 fun K hK=> ?_)<;>(simp only[go_sem])|fail)
 (have hKX:=hKB;clear hKB)
 refine aM.sG 0 (β:=Nat×Nat) (fun b u=>en [(10,dI u.2),(9,dI u.1),(8,dI l.length),(4,.one (.c (.fQ (aS j)))),(2,.one (.c (.clo bJ []))),(0,dS (l.map aS))])
  (fun b u=>hp []) (fun u=>u.1≤f∧f≤u.2∧u.2≤l.length) (fun u=>u.2-u.1) (0,l.length) ?_ ⟨by omega,by dsimp only;omega,by dsimp only;omega⟩ ?_
 ·exact bU (Nat.le_refl _) (by repeat' (first| (with_reducible first|exact C1|refine C2 ?_ ?_)| ((with_reducible refine C0 ?_);exact CH (by rfl))| ((with_reducible refine D0 ?_);first|exact CA rfl|exact CI rfl (by simp) rfl rfl rfl|refine CJ ?_)|fail))
 rintro⟨a,b⟩ ⟨g1,g2,g3⟩ KL hKL
 dsimp only at g1 g2 g3
 by_cases hlt:a<b
 ·have hm:IntKind.i64.wrap ((IntKind.u64.wrap ((a:Int)+b)).fdiv (2^min 1 64))=((a+b)/2:Nat):=by
   rw[IntWalk.u64_in _ (by omega),Int.fdiv_eq_ediv_of_nonneg _ (by decide),IntWalk.i64_in _ (by simp;omega)]
   simp
  generalize hmm:(a+b)/2=mid at hm
  have hb:=hbl mid (by omega)
  repeat' (first| (with_reducible first| (refine hK _ _ _ ?_;clear hK K)| (refine hA ?_;clear hA hB A B)| (refine hB ?_;clear hA hB A B)|refine Z1 ?_|refine Z2 ?_|refine Z3 fun KB hKB=> ?_|refine Z4 (by omega) ?_|refine Z6 (fun h=> ?_) fun h=> ?_)| (first| (with_reducible first|refine Y2 fun K hK=> ?_|refine Y3 fun A B hA hB=> ?_)| (refine xM ?_))<;>(simp only[go_sem,hm];try simp (disch:=omega) only[Iw])| ((with_reducible refine Y0 ?_);simp only[AQ.then,AQ.blk])|refine⟨by omega,?_⟩| (with_reducible refine hKB _ _ _ ?_)|fail)
  ·exact hKL _ _ _ (mid+1,b) (by omega) (bU (Nat.le_refl _) (by repeat' (first| (with_reducible first|exact C1|refine C2 ?_ ?_)| ((with_reducible refine C0 ?_);exact CH (by rfl))| ((with_reducible refine D0 ?_);first|exact CA rfl|refine CJ ?_)|fail))) ⟨by dsimp only;omega,by dsimp only;omega,by dsimp only;omega⟩ (by dsimp only;omega)
  ·exact hKL _ _ _ (a,mid) (by omega) (bU (Nat.le_refl _) (by repeat' (first| (with_reducible first|exact C1|refine C2 ?_ ?_)| ((with_reducible refine C0 ?_);exact CH (by rfl))| ((with_reducible refine D0 ?_);first|exact CA rfl|refine CJ ?_)|fail))) ⟨by dsimp only;omega,by dsimp only;omega,by dsimp only;omega⟩ (by dsimp only;omega)
 ·repeat' (first| (with_reducible first| (refine hK _ _ _ ?_;clear hK K)| (refine hB ?_;clear hA hB A B)|refine Z1 ?_|refine Z5 (by omega) ?_|refine hKX _ _ _ ?_)| (first| (with_reducible first|refine Y2 fun K hK=> ?_|refine Y3 fun A B hA hB=> ?_|refine Y6 (fun h=> ?_) fun h=> ?_)| (refine xM ?_))<;>(simp only[go_sem])| ((with_reducible first|refine Y8 ?_|refine Y9 ?_);try simp only[AQ.then,AQ.blk,reduceIte,Nat.reduceEqDiff])|refine⟨by omega,?_⟩|fail)
  all_goals
   have ha:a=f:=by omega
   subst ha
   exact hQ _ _ _ _ _ 0 (.tup [.c (cI _),.c (cB _)]) .nil _ _ (.inr rfl) rfl (agI (aE rfl)) ⟨rfl,_,rfl⟩
theorem auB {l:List Job} {j:Job} {d:D} (hl:l.length<2^20) (hs:kW l) (hn:key j∉l.map key) (hd:CvD H (fun _=>True) id 0 (dS (l.map aS)) d) (h: ∀b,K (.tup [.c (cI (l.findIdx (uL j):Nat)),.c (cB b)]) H nx):
 aB Tryz.prog eR [d,dA (aS j),.one (.c (.clo bJ []))] H nx K:=
 (auC l j hl hs hn).pure rfl (aI ⟨hd,aE rfl,kC rfl,trivial⟩) fun r ⟨b,hr⟩=>hr▸h b
theorem azV {l:List Job} {j:Job} {i:Nat} {z:List D1} (hi:i≤l.length):wr (wr ((l.take i).map aS++List.replicate (l.length+1-i) z) i [aS j]) (i+1) (((l.drop i).take (l.length-i)).map aS)=(l.take i++j::l.drop i).map aS:=by
 have h1:((l.take i).map aS).length=i:=by simp;omega
 have h2:(l.drop i).take (l.length-i)=l.drop i:=List.take_of_length_le (by simp)
 have h3:wr ((l.take i).map aS++List.replicate (l.length+1-i) z) i [aS j]=(l.take i).map aS++[aS j]++List.replicate (l.length-i) z:=by
  unfold wr
  rw[List.take_append_of_le_length (by omega),List.take_of_length_le (by omega),List.drop_append,List.drop_of_length_le (by simp;omega),h1]
  simp only[List.length_cons,List.length_nil,List.nil_append,List.drop_replicate]
  congr 2;omega
 rw[h3,h2]
 have h4:((l.take i).map aS++[aS j]).length=i+1:=by simp;omega
 unfold wr
 have h5:List.drop (i+1+((l.drop i).map aS).length) ((l.take i).map aS++[aS j]++List.replicate (l.length-i) z)=[]:=List.drop_of_length_le (by simp;omega)
 rw[h5,List.take_append_of_le_length (by omega),List.take_of_length_le (by omega)]
 simp
theorem azU {l:List Job} {j:Job} {i:Nat} (hi:i<l.length):wr (wr (l.map aS) (i+1) (((l.drop i).take (l.length-i)).map aS)) i [aS j]=(l.take i++j::l.drop i).map aS:=by
 have h2:(l.drop i).take (l.length-i)=l.drop i:=List.take_of_length_le (by simp)
 rw[h2]
 have h3:wr (l.map aS) (i+1) ((l.drop i).map aS)=(l.take (i+1)).map aS++(l.drop i).map aS:=by
  unfold wr
  have h5:List.drop (i+1+((l.drop i).map aS).length) (l.map aS)=[]:=List.drop_of_length_le (by simp;omega)
  rw[h5,List.append_nil,List.map_take]
 rw[h3]
 have h4:((l.take (i+1)).map aS).length=i+1:=by simp;omega
 unfold wr
 have h6:List.drop (i+[aS j].length) ((l.take (i+1)).map aS)=[]:=List.drop_of_length_le (by simp;omega)
 rw[List.take_append_of_le_length (by omega),List.drop_append_of_le_length (by simp;omega),h6,←List.map_take,List.take_take]
 simp
theorem avI (l:List Job) (j:Job) (i cap m:Nat) (hl:l.length<2^20) (hi:i≤l.length) (hc:l.length≤cap) (hcm:cap≤m):
 aB Tryz.prog atU [dO 5 0 l.length cap,dI i,dO 5 1 1 1] (hp [(0,⟨5,m,l.map aS⟩),(1,⟨5,1,[aS j]⟩)]) 2
 fun r H' n'=>∃cap' m',l.length+1≤cap'∧cap'≤m'∧n'=3∧H'=hp [(2,⟨5,m',(l.take i++j::l.drop i).map aS⟩)]∧r=dO 5 2 (l.length+1) cap':=by
 refine avE rfl fun Q hQ=> ?_
 unfold atZ
 have e1:((l.length:Int)+((1:Nat):Int)-(i:Int)).toNat=l.length+1-i:=by omega
 have e2:((i:Int)+((1:Nat):Int)).toNat=i+1:=by omega
 have e3:((l.length:Int)+((1:Nat):Int)).toNat=l.length+1:=by omega
 have e4:i+(l.length+1-i)=l.length+1:=by omega
 have e5:l.length+1-(i+1)=l.length-i:=by omega
 have e6:min 1 (l.length+1-i)=1:=by omega
 have e7:(i+(l.length-i)≤l.length)=True:=eq_true (by omega)
 have e8:min (l.length+1-i) (l.length-i)=l.length-i:=by omega
 have e9:IntKind.i64.wrap ((i:Int)+((1:Nat):Int))=(i:Int)+((1:Nat):Int):=IntWalk.i64_in _ (by omega)
 have e10:List.take 1 [aS j]=[aS j]:=rfl
 repeat' (first| (with_reducible first| (refine hK _ _ _ ?_;clear hK K)| (refine hA ?_;clear hA hB A B)| (refine hB ?_;clear hA hB A B)|refine Z1 ?_|refine Z2 ?_|refine Z5 (by omega) ?_|refine Z6 (fun h=> ?_) fun h=> ?_|refine fun(cap:Nat) (hcap:_≤cap)=> ?_|refine fun(hcp:_≤cap)=> ?_)| (first| (with_reducible first|refine Y2 fun K hK=> ?_|refine Y3 fun A B hA hB=> ?_)| (refine av1 rfl rfl (by omega) (by simp) (by dsimp only;omega) (by simp) (by omega) (by omega) (by simp) ?_))<;>(simp only[go_sem,e1,e2,e3,e4,e5,e6,e7,e8,e9,e10,Nat.min_self];try simp (disch:=omega) only[Iw])| ((with_reducible refine Y8 ?_);try simp only[AQ.then,AQ.blk,reduceIte,Nat.reduceEqDiff])|refine⟨by omega,?_⟩| (refine⟨by(rw[List.length_take];omega),?_⟩)|fail)
 · (refine hQ _ _ _ _ _ 3 (dO 5 2 (l.length+1) cap) (hp [(2,⟨5,cap,(l.take i++j::l.drop i).map aS⟩)]) _ _ (.inr rfl) rfl (fU [19] (by omega) (by repeat' (first| ((with_reducible refine C0 ?_);exact CQ (by omega) rfl rfl (by rfl) rfl)| ((with_reducible refine D0 ?_);refine CJ ?_)|fail)) ⟨⟨by simp,by simp[sgL],_,rfl,bP (aG dZ _) (by rw[List.take_of_length_le (by omega),List.drop_of_length_le (by omega)]) rfl⟩,trivial⟩ (by simp[sgL])) ?_)
   exact⟨cap,cap,by omega,Nat.le_refl _,rfl,rfl,rfl⟩
 ·refine⟨⟨by omega,by omega,by simp[wr];omega,by omega⟩,?_⟩
  rw[azV hi]
  repeat' (first| (with_reducible first| (refine hK _ _ _ ?_;clear hK K)|refine Z1 ?_)| (with_reducible refine Y2 fun K hK=> ?_)<;>(simp only[go_sem])| ((with_reducible refine Y8 ?_);try simp only[AQ.then,AQ.blk,reduceIte,Nat.reduceEqDiff])|fail)
  (refine hQ _ _ _ _ _ 3 (dO 5 2 (l.length+1) cap) (hp [(2,⟨5,cap,(l.take i++j::l.drop i).map aS⟩)]) _ _ (.inr rfl) rfl (fU [31] (by omega) (by repeat' (first| ((with_reducible refine C0 ?_);exact CQ (by omega) rfl rfl (by rfl) rfl)| ((with_reducible refine D0 ?_);refine CJ ?_)|fail)) ⟨⟨by simp,by simp[sgL],_,rfl,bP (aG dZ _) rfl rfl⟩,trivial⟩ (by simp[sgL])) ?_)
  exact⟨cap,cap,by omega,Nat.le_refl _,rfl,rfl,rfl⟩
 ·refine⟨⟨by omega,by omega,by simp[wr];omega,by omega⟩,?_⟩
  rw[azU (by omega)]
  repeat' (first| (with_reducible first| (refine hK _ _ _ ?_;clear hK K)|refine Z1 ?_)| (with_reducible refine Y2 fun K hK=> ?_)<;>(simp only[go_sem])| ((with_reducible refine Y8 ?_);try simp only[AQ.then,AQ.blk,reduceIte,Nat.reduceEqDiff])|fail)
  (refine hQ _ _ _ _ _ 3 (dO 5 2 (l.length+1) cap) (hp [(2,⟨5,m,(l.take i++j::l.drop i).map aS⟩)]) _ _ (.inr rfl) rfl (fU [0] (by omega) (by repeat' (first| ((with_reducible refine C0 ?_);exact CQ (by omega) rfl rfl (by rfl) rfl)| ((with_reducible refine D0 ?_);refine CJ ?_)|fail)) ⟨⟨by simp,by simp[sgL],_,rfl,bP (aG dZ _) rfl rfl⟩,trivial⟩ (by simp[sgL])) ?_)
  exact⟨cap,m,by omega,hcm,rfl,rfl,rfl⟩
theorem avK {l:List Job} {j:Job} {i cap m i0 i1:Nat} (hl:l.length<2^20) (hi:i≤l.length) (hc:l.length≤cap) (hcm:cap≤m)
 (h0:i0<nx) (h1:i1<nx) (hne:i0≠i1) (o0:H i0=some ⟨5,m,l.map aS⟩) (o1:H i1=some ⟨5,1,[aS j]⟩)
 (h: ∀cap' m',l.length+1≤cap'→cap'≤m'→K (dO 5 nx (l.length+1) cap') (((H.del i0).del i1).set nx ⟨5,m',(l.take i++j::l.drop i).map aS⟩) (nx+1)):
 aB Tryz.prog atU [dO 5 i0 l.length cap,dI i,dO 5 i1 1 1] H nx K:=by
 refine(avI l j i cap m hl hi hc hcm).AF [i0,i1] rfl ⟨qS (by simp) rfl rfl rfl rfl,aE rfl,qS (by simp) rfl rfl rfl rfl,trivial⟩
  ⟨⟨by simp,id,_,o0,bP (aG dZ _) rfl rfl⟩,⟨by simp,id,_,o1,bP (aG (l:=[j]) dZ) rfl rfl⟩,trivial⟩ (by simpa [nth] using hne) (by simp;omega) (by simpa using hne) fun r H' n' _ ⟨cap',m',q0,q1,q2,q3,q4⟩=> ?_
 have h:=h cap' m' q0 q1
 subst q2;subst q3;subst q4
 generalize l.take i++j::l.drop i=l' at*
 have e1:back (tau 2 nx (nth [i0,i1])) (hp [(2,⟨5,m',l'.map aS⟩)]) 3 H=((H.del i0).del i1).set nx ⟨5,m',l'.map aS⟩:=by
  simp[back,hp,aA.set,aA.nil,tau,nth,uB,BB,aA.eL,aA.yI]
 rw[←e1] at h
 exact h
theorem azL {l:List Job} {a:Nat} {z:List D1} (ha:a<l.length):wr ((l.take a).map aS++(l.drop (a+1)).map aS) (l.length-1) (List.replicate (l.length-(l.length-1)) z)=(MT l a).map aS++[z]:=by
 have h1:(l.take a).map aS++(l.drop (a+1)).map aS=(MT l a).map aS:=by simp[MT]
 have h2:((MT l a).map aS).length=l.length-1:=by have:=abN ha;simp;omega
 have h3:l.length-(l.length-1)=1:=by omega
 rw[h1,h3,List.replicate_one]
 unfold wr
 have h4:List.drop (l.length-1+[z].length) ((MT l a).map aS)=[]:=List.drop_of_length_le (by simp at h2 ⊢;omega)
 rw[h4,List.take_of_length_le (by omega),List.append_nil]
theorem avM (l:List Job) (a cap m:Nat) (hl:l.length<2^20) (ha:a<l.length) (hc:l.length≤cap) (hcm:cap≤m):
 aB Tryz.prog x4 [dO 5 0 l.length cap,dI a,dI (a+1)] (hp [(0,⟨5,m,l.map aS⟩)]) 1
 fun r H' n'=>∃cap' m',(MT l a).length≤cap'∧cap'≤m'∧n'=2∧H'=hp [(1,⟨5,m',(MT l a).map aS⟩)]∧r=dO 5 1 (MT l a).length cap':=by
 refine avF rfl fun Q hQ=> ?_
 unfold at0
 have e2:((a:Int)+1).toNat=a+1:=by omega
 have e3:a+(l.length-(a+1))=l.length-1:=by omega
 have e7:(a+1+(l.length-(a+1))≤l.length)=True:=eq_true (by omega)
 have e8:List.take (l.length-(a+1)) (List.drop (a+1) l)=List.drop (a+1) l:=List.take_of_length_le (by simp)
 have e9:(List.drop (a+1) l).length=l.length-(a+1):=List.length_drop
 have hol:=abN ha
 repeat' (first| (with_reducible first| (refine hK _ _ _ ?_;clear hK K)| (refine hB ?_;clear hA hB A B)|refine Z1 ?_|refine Z2 ?_|refine Z5 (by omega) ?_|refine fun(cap:Nat) (hcap:_≤cap)=> ?_|refine fun(hcp:_≤cap)=> ?_)| (with_reducible first|refine Y2 fun K hK=> ?_|refine Y3 fun A B hA hB=> ?_)<;>(simp only[go_sem,e2,e3,e7,e8,e9])| ((with_reducible refine Y8 ?_);try simp only[AQ.then,AQ.blk,reduceIte,Nat.reduceEqDiff])|refine⟨by omega,?_⟩| (refine⟨by(rw[List.length_take];omega),?_⟩)|fail)
 (refine hQ _ _ _ _ _ 2 (dO 5 1 (MT l a).length cap) (hp [(1,⟨5,cap,(MT l a).map aS⟩)]) _ _ (.inr rfl) rfl (fU [20,0] (by omega) (by repeat' (first| ((with_reducible refine C0 ?_);exact CQ (by omega) rfl rfl (by omega) rfl)| ((with_reducible refine D0 ?_);refine CJ ?_)|fail)) ⟨⟨by simp,by simp[sgL],_,rfl,anJ (junk:=[[cI 0,cI 0,cI 0,cI 0,.osl 0 0 0 0 0]]) (fun r hr=>(aG dZ _ r hr).2) (azL ha) rfl (by decide)⟩,trivial⟩ (by simp[sgL])) ?_)
 exact⟨cap,cap,by omega,Nat.le_refl _,rfl,rfl,rfl⟩
theorem auH {l:List Job} {z:Int} {cap m i0:Nat} (hl:l.length<2^20) (hz: ¬z<0) (ha:z.toNat<l.length) (hc:l.length≤cap) (hcm:cap≤m) (h0:i0<nx) (o0:H i0=some ⟨5,m,l.map aS⟩)
 (h: ∀cap' m',(MT l z.toNat).length≤cap'→cap'≤m'→K (dO 5 nx (MT l z.toNat).length cap') ((H.del i0).set nx ⟨5,m',(MT l z.toNat).map aS⟩) (nx+1)):
 aB Tryz.prog x4 [dO 5 i0 l.length cap,dI z,dI (z+1)] H nx K:=by
 obtain⟨a,rfl⟩: ∃a:Nat,z=a:=⟨z.toNat,by omega⟩
 refine(avM l a cap m hl ha hc hcm).AF [i0] rfl ⟨qS (by simp) rfl rfl rfl rfl,aE rfl,aE rfl,trivial⟩
  ⟨⟨by simp,id,_,o0,bP (aG dZ _) rfl rfl⟩,trivial⟩ (by simp) (by simp;omega) (by simp) fun r H' n' _ ⟨cap',m',q0,q1,q2,q3,q4⟩=> ?_
 simp only[Int.toNat_natCast] at h
 have h:=h cap' m' q0 q1
 subst q2;subst q3;subst q4
 generalize MT l a=l' at*
 have e1:back (tau 1 nx (nth [i0])) (hp [(1,⟨5,m',l'.map aS⟩)]) 2 H=(H.del i0).set nx ⟨5,m',l'.map aS⟩:=by
  simp[back,hp,aA.set,aA.nil,tau,nth,uB,BB,aA.eL,aA.yI]
 rw[←e1] at h
 exact h
theorem ayH (l:List Job) (j:Job) (cap m:Nat) (hl:l.length<2^20) (hs:kW l) (hn:key j∉l.map key) (hc:l.length≤cap) (hcm:cap≤m):
 aB Tryz.prog auE [dO 5 0 l.length cap,dA (aS j)] (hp [(0,⟨5,m,l.map aS⟩)]) 1
 fun r H' n'=>∃cap' m',(BM l j).length≤cap'∧cap'≤m'∧n'=2∧H'=hp [(1,⟨5,m',(BM l j).map aS⟩)]∧r=dO 5 1 (BM l j).length cap':=by
 have hf:=List.findIdx_le_length (p:=uL j) (xs:=l)
 have hpl:=ZE (l:=l) (j:=j)
 refine ax5 rfl fun Q hQ=> ?_
 unfold avZ
 repeat' (first| (with_reducible first| (refine hK _ _ _ ?_;clear hK K)|refine Z1 ?_)| (first| (with_reducible refine Y2 fun K hK=> ?_)| (refine auB hl hs hn (yP dZ rfl rfl hc trivial) (fun b=> ?_))| (refine avK hl hf hc hcm (by omega) (by omega) (by omega) rfl rfl (fun cap' m' h1 h2=> ?_)))<;>(simp only[go_sem])| ((with_reducible refine Y8 ?_);try simp only[AQ.then,AQ.blk,reduceIte,Nat.reduceEqDiff])|fail)
 (refine hQ _ _ _ _ _ 2 (dO 5 1 (BM l j).length cap') (hp [(1,⟨5,m',(BM l j).map aS⟩)]) _ _ (.inr rfl) rfl (fU [17,0] (by omega) (by repeat' (first| ((with_reducible refine C0 ?_);exact CQ (by omega) rfl rfl (by omega) rfl)| ((with_reducible refine D0 ?_);refine CJ ?_)|fail)) ⟨⟨by simp,by simp[sgL],_,rfl,bP (aG dZ _) rfl rfl⟩,trivial⟩ (by simp[sgL])) ?_)
 exact⟨cap',m',by omega,h2,rfl,rfl,rfl⟩
theorem awM {l:List Job} {j:Job} {cs:List D1} {cap m i0:Nat} (hcs:CvL H (fun _=>False) (nth [i0]) 1 (aS j) cs) (hl:l.length<2^20) (hs:kW l) (hn:key j∉l.map key) (hc:l.length≤cap) (hcm:cap≤m) (h0:i0<nx) (o0:H i0=some ⟨5,m,l.map aS⟩)
 (h: ∀cap' m',(BM l j).length≤cap'→cap'≤m'→K (dO 5 nx (BM l j).length cap') ((H.del i0).set nx ⟨5,m',(BM l j).map aS⟩) (nx+1)):
 aB Tryz.prog auE [dO 5 i0 l.length cap,dA cs] H nx K:=by
 refine(ayH l j cap m hl hs hn hc hcm).AF [i0] rfl ⟨qS (by simp) rfl rfl rfl rfl,hcs,trivial⟩
  ⟨⟨by simp,id,_,o0,bP (aG dZ _) rfl rfl⟩,trivial⟩ (by simp) (by simp;omega) (by simp) fun r H' n' _ ⟨cap',m',q0,q1,q2,q3,q4⟩=> ?_
 have h:=h cap' m' q0 q1
 subst q2;subst q3;subst q4
 generalize BM l j=l' at*
 have e1:back (tau 1 nx (nth [i0])) (hp [(1,⟨5,m',l'.map aS⟩)]) 2 H=(H.del i0).set nx ⟨5,m',l'.map aS⟩:=by
  simp[back,hp,aA.set,aA.nil,tau,nth,uB,BB,aA.eL,aA.yI]
 rw[←e1] at h
 exact h
theorem ax1 {l:List Job} {a b:Int} {cap m i0:Nat} (hl:l.length<2^20) (hs:kW l) (hn:(a,b)∉l.map key) (hc:l.length≤cap) (hcm:cap≤m) (h0:i0<nx) (o0:H i0=some ⟨5,m,l.map aS⟩)
 (h: ∀cap' m',(BM l ⟨a,b,oW⟩).length≤cap'→cap'≤m'→K (dO 5 nx (BM l ⟨a,b,oW⟩).length cap') ((H.del i0).set nx ⟨5,m',(BM l ⟨a,b,oW⟩).map aS⟩) (nx+1)):
 aB Tryz.prog auE [dO 5 i0 l.length cap,dA [cI a,cI b,cI 0,cI 0,.osl 0 0 0 0 0]] H nx K:=
 awM (j:=⟨a,b,oW⟩) (aH (bB rfl) (aH (bB rfl) (aH (bB rfl) (aH (bB rfl) (aH xG eP))))) hl hs hn hc hcm h0 o0 h
theorem ax7 {l:List Job} {a b:Int} {r:Rsp} {cap m i0:Nat} (hl:l.length<2^20) (hs:kW l) (hn:(a,b)∉l.map key) (hc:l.length≤cap) (hcm:cap≤m) (h0:i0<nx) (o0:H i0=some ⟨5,m,l.map aS⟩)
 (h: ∀cap' m',(BM l ⟨a,b,r⟩).length≤cap'→cap'≤m'→K (dO 5 nx (BM l ⟨a,b,r⟩).length cap') ((H.del i0).set nx ⟨5,m',(BM l ⟨a,b,r⟩).map aS⟩) (nx+1)):
 aB Tryz.prog auE [dO 5 i0 l.length cap,dA (cI a::cI b::tG r)] H nx K:=
 awM (j:=⟨a,b,r⟩) (GW fun x hx=>List.all_eq_true.1 (dZ ⟨a,b,r⟩).2 x hx) hl hs hn hc hcm h0 o0 h
end
end Go.Proofs.YtegiblhkjfiooaaGreat
end
section
namespace Go.Proofs.YtegiblhkjfiooaaGreat
open Go Go.AM
set_option maxRecDepth 100000
set_option maxHeartbeats 4000000
section
variable {H : aA} {nx : Nat} {K : D → aA → Nat → Prop}
theorem BS (l:List Int) (x:Int) (hl:l.length<2^40):aB Tryz.prog gN [dS (l.map aJ),dI x] .nil 0 fun rr _ _=>rr.plain=true∧rr=dI (bK (fun y=>decide (x=y)) l):=by
 refine AD rfl fun Q hQ=> ?_
 unfold jQ
 repeat' (first| (with_reducible first| (refine hK _ _ _ ?_;clear hK K)|refine Z1 ?_|refine Z3 fun KB hKB=> ?_)| (with_reducible refine Y2 fun K hK=> ?_)<;>(simp only[go_sem])|fail)
 (have hKX:=hKB;clear hKB);(refine aM.loop (α:={k:Nat//k≤l.length∧(∀i,i<k→(fun y=>decide (x=y)) (l.getD i default)=false)}) (fun u=>en [(8,dI u.1),(7,dI l.length),(1,dI x),(0,dS (l.map aJ))]) (fun _=>.nil) _ (fun u=>l.length-u.1) ⟨0,by omega,(by intros;first|trivial|omega)⟩ (bU (Nat.le_refl _) (by repeat' (first| (with_reducible first|exact C1|refine C2 ?_ ?_)| ((with_reducible refine D0 ?_);exact CA rfl)|fail))) ?_);(rintro⟨k,hk,hinv⟩ KL hKL)
 by_cases hlt:k<l.length
 ·repeat' (first| (with_reducible first| (refine hK _ _ _ ?_;clear hK K)| (refine hA ?_;clear hA hB A B)| (refine hB ?_;clear hA hB A B)|refine Z1 ?_|refine Z2 ?_|refine Z3 fun KB hKB=> ?_|refine Z4 (by omega) ?_|refine Z6 (fun h=> ?_) fun h=> ?_)| (with_reducible first|refine Y2 fun K hK=> ?_|refine Y3 fun A B hA hB=> ?_)<;>(simp only[go_sem];try simp (disch:=omega) only[Iw])| ((with_reducible refine Y8 ?_);try simp only[AQ.then,AQ.blk,reduceIte,Nat.reduceEqDiff])| ((with_reducible refine Y0 ?_);simp only[AQ.then,AQ.blk])|refine⟨by omega,?_⟩| (with_reducible refine hKB _ _ _ ?_)|fail)
  ·refine aZ hQ _ rfl rfl (qA (Eq.symm (CU (by omega) (decide_eq_true (by assumption)) hinv)))
  · (refine hKL _ _ _ ⟨k+1,by omega,iS hinv (decide_eq_false (by assumption))⟩ (by omega) (by(try dsimp only);omega) (bU (Nat.le_refl _) (by repeat' (first| (with_reducible first|exact C1|refine C2 ?_ ?_)| ((with_reducible refine D0 ?_);exact CA rfl)|fail))))
 ·repeat' (first| (with_reducible first| (refine hK _ _ _ ?_;clear hK K)| (refine hB ?_;clear hA hB A B)|refine Z1 ?_|refine Z5 (by omega) ?_|refine hKX _ _ _ ?_)| (with_reducible first|refine Y2 fun K hK=> ?_|refine Y3 fun A B hA hB=> ?_)<;>(simp only[go_sem])| ((with_reducible first|refine Y8 ?_|refine Y9 ?_);try simp only[AQ.then,AQ.blk,reduceIte,Nat.reduceEqDiff])|fail)
  refine aZ hQ (dI _) rfl rfl (qA (Eq.symm (tI fun i hi=>hinv i (by omega))))
theorem BG {l:List Int} {x:Int} (hl:l.length<2^40) {d0:D} (hd0:CvD H (fun _=>True) id 0 (dS (l.map aJ)) d0) (h:K (dI (bK (fun y=>decide (x=y)) l)) H nx):aB Tryz.prog gN [d0,dI x] H nx K:=
 (BS l x hl).pure rfl (aI ⟨hd0,aE rfl,trivial⟩) (fun r hr=>hr▸h)
theorem xC (l:List Int) (x:Int) (hl:l.length<2^40):aB Tryz.prog fK [dS (l.map aJ),dI x] .nil 0 fun rr _ _=>rr.plain=true∧rr=dB (decide (x∈l)):=by
 refine wG rfl fun Q hQ=> ?_
 unfold iC
 repeat' (first| (with_reducible first| (refine hK _ _ _ ?_;clear hK K)|refine Z1 ?_)| (first| (with_reducible refine Y2 fun K hK=> ?_)| (refine BG hl (aE rfl) ?_))<;>(simp only[go_sem])| ((with_reducible refine Y8 ?_);try simp only[AQ.then,AQ.blk,reduceIte,Nat.reduceEqDiff])|fail)
 all_goals first|with_reducible refine aZ hQ _ rfl rfl ?_|skip
 all_goals refine pD (cH.trans ⟨fun⟨y,hy,he⟩=> ?_,fun h=>⟨x,h,by simp⟩⟩)
 all_goals have:=of_decide_eq_true he;subst this;exact hy
theorem x8 {l:List Int} {x:Int} (hl:l.length<2^40) {d0:D} (hd0:CvD H (fun _=>True) id 0 (dS (l.map aJ)) d0) (h:K (dB (decide (x∈l))) H nx):aB Tryz.prog fK [d0,dI x] H nx K:=
 (xC l x hl).pure rfl (aI ⟨hd0,aE rfl,trivial⟩) (fun r hr=>hr▸h)
theorem XT {f:Nat→Int} {n k:Nat} {x:Int} (hk:k<n) (hx:x=f k):((List.range k).map f++List.replicate (n-k) (0:Int)).set k x=(List.range (k+1)).map f++List.replicate (n-(k+1)) 0:=by
 have e:n-k=(n-(k+1))+1:=by omega
 have h1:((List.range k).map f).length=k:=by simp
 rw[List.set_append,h1,if_neg (Nat.lt_irrefl k),Nat.sub_self,e,List.replicate_succ,List.set_cons_zero,List.range_succ,List.map_append,List.append_assoc,hx]
 rfl
theorem N0 (addr many:Int) (wrap:Bool):aB Tryz.prog oS [dI addr,dI many,dB wrap] .nil 0 fun rr _ nn=>nn=0∧rr.imm=true∧rr=dS ((bE addr many wrap).map aJ):=by
 refine M3 rfl fun Q hQ=> ?_
 unfold s6
 by_cases hok:o7 addr many wrap
 ·obtain⟨f1,f2,f3,f4,f5,f6,f7,f8⟩:=aaA hok
  repeat' (first| (with_reducible first| (refine hK _ _ _ ?_;clear hK K)| (refine hB ?_;clear hA hB A B)|refine Z1 ?_|refine Z2 ?_|refine Z3 fun KB hKB=> ?_)| (first| (with_reducible first|refine Y2 fun K hK=> ?_|refine Y3 fun A B hA hB=> ?_)| (with_reducible refine wS ?_))<;>(simp only[go_sem,f6,eq_true hok])|refine⟨by omega,?_⟩|fail)
  (have hKX:=hKB;clear hKB)
  refine aM.sG 1 (β:=Nat) (fun b k=>en [(18,dI k),(17,dI many),(7,dO 1 b many.toNat many.toNat),(2,dB wrap),(1,dI many),(0,dI addr)])
   (fun b k=>hp [(b,⟨1,many.toNat,((List.range k).map (bAt addr many wrap)++List.replicate (many.toNat-k) (0:Int)).map aJ⟩)]) (fun k=>k≤many.toNat) (fun k=>many.toNat-k) 0 ?_ (by omega) ?_
  · (refine cR [7] (by omega) (by repeat' (first| (with_reducible first|exact C1|refine C2 ?_ ?_)| ((with_reducible refine C0 ?_);first|exact CQ (by omega) rfl rfl (by rfl) rfl| (exact CG (by(congr 2;omega)) rfl))| ((with_reducible refine D0 ?_);first|exact CA rfl|refine CJ ?_)|fail)) ⟨⟨by simp,by simp[sgL],_,rfl,bP (aG bF _) (by simp[aJ]) rfl⟩,trivial⟩ (by simp[sgL]))
  intro k hk KL hKL
  have hlen:((List.range k).map (bAt addr many wrap)++List.replicate (many.toNat-k) (0:Int)).length=many.toNat:=by simp;omega
  by_cases hlt:k<many.toNat
  ·obtain⟨g1,g2,g3⟩:=agW hok k hlt
   have hmod:(addr+k).tmod many=(addr+k)%many:=Int.tmod_eq_emod_of_nonneg (by omega)
   have hm2:=Int.emod_lt_of_pos (addr+k) f2
   have hm3:=Int.emod_nonneg (addr+k) f1
   repeat' (first| (with_reducible first| (refine hK _ _ _ ?_;clear hK K)| (refine hA ?_;clear hA hB A B)| (refine hB ?_;clear hA hB A B)|refine Z1 ?_|refine Z2 ?_|refine Z3 fun KB hKB=> ?_|refine Z4 (by omega) ?_)| (with_reducible first|refine Y2 fun K hK=> ?_|refine Y3 fun A B hA hB=> ?_)<;>(simp only[go_sem,f6,hmod,List.set_set,hlen];try simp (disch:=omega) only[Iw])| ((with_reducible refine Y0 ?_);simp only[AQ.then,AQ.blk])| ((with_reducible refine Z8 (fun h=> ?_) (fun h=> ?_))<;>try subst h)|refine⟨by omega,?_⟩| (with_reducible refine hKB _ _ _ ?_)|fail)
   ·exact hKL _ _ _ (k+1) (by omega) (by(refine cR [12] (by omega) (by repeat' (first| (with_reducible first|exact C1|refine C2 ?_ ?_)| ((with_reducible refine C0 ?_);exact CQ (by omega) rfl rfl (by rfl) rfl)| ((with_reducible refine D0 ?_);first|exact CA rfl|refine CJ ?_)|fail)) ⟨⟨by simp,by simp[sgL],_,rfl,bP (aG bF _) (congrArg _ (XT hlt (by simp only[bAt,if_true])).symm) rfl⟩,trivial⟩ (by simp[sgL]))) (by omega) (by omega)
   ·exact hKL _ _ _ (k+1) (by omega) (by(refine cR [12] (by omega) (by repeat' (first| (with_reducible first|exact C1|refine C2 ?_ ?_)| ((with_reducible refine C0 ?_);exact CQ (by omega) rfl rfl (by rfl) rfl)| ((with_reducible refine D0 ?_);first|exact CA rfl|refine CJ ?_)|fail)) ⟨⟨by simp,by simp[sgL],_,rfl,bP (aG bF _) (congrArg _ (XT hlt (by simp[bAt])).symm) rfl⟩,trivial⟩ (by simp[sgL]))) (by omega) (by omega)
  ·repeat' (first| (with_reducible first| (refine hK _ _ _ ?_;clear hK K)| (refine hB ?_;clear hA hB A B)|refine Z1 ?_|refine Z5 (by omega) ?_|refine hKX _ _ _ ?_)| (with_reducible first|refine Y2 fun K hK=> ?_|refine Y3 fun A B hA hB=> ?_)<;>(simp only[go_sem])| ((with_reducible first|refine Y8 ?_|refine Y9 ?_);try simp only[AQ.then,AQ.blk,reduceIte,Nat.reduceEqDiff])|fail)
   have hk2:k=many.toNat:=by omega
   subst hk2
   exact V4 hQ (dS ((bE addr many wrap).map aJ)) _ rfl (yP (l:=bE addr many wrap) bF (by simp[bE,hok];rfl) (DF hok).symm (by rw[DF hok];omega) trivial) rfl rfl
 ·repeat' (first| (with_reducible first| (refine hK _ _ _ ?_;clear hK K)| (refine hA ?_;clear hA hB A B)|refine Z1 ?_)| (first| (with_reducible first|refine Y2 fun K hK=> ?_|refine Y3 fun A B hA hB=> ?_)| (with_reducible refine wS ?_))<;>(simp only[go_sem,eq_false hok])| ((with_reducible refine Y8 ?_);try simp only[AQ.then,AQ.blk,reduceIte,Nat.reduceEqDiff])|fail)
  exact V4 hQ (dS []) _ rfl xG rfl (by simp[bE,hok])
theorem OQ {addr:Int} {many:Int} {wrap:Bool} (h:K (dS ((bE addr many wrap).map aJ)) H nx):aB Tryz.prog oS [dI addr,dI many,dB wrap] H nx K:=
 (N0 addr many wrap).fresh rfl (fun r hr=>hr▸h)
theorem HJ (q:Req):aB Tryz.prog fP [dA (eB q)] .nil 0 fun rr _ nn=>nn=0∧rr.imm=true∧rr=dS ((bE q.addr q.many q.wrap).map aJ):=by
 refine GL rfl fun Q hQ=> ?_
 unfold mQ
 repeat' (first| (with_reducible first| (refine hK _ _ _ ?_;clear hK K)|refine Z1 ?_)| (first| (with_reducible refine Y2 fun K hK=> ?_)| (with_reducible refine OQ ?_))<;>(simp only[go_sem])| ((with_reducible refine Y8 ?_);try simp only[AQ.then,AQ.blk,reduceIte,Nat.reduceEqDiff])|fail)
 all_goals exact V4 hQ (dS _) _ rfl (aE rfl) rfl rfl
theorem vY {q:Req} (h:K (dS ((bE q.addr q.many q.wrap).map aJ)) H nx):aB Tryz.prog fP [dA (eB q)] H nx K:=
 (HJ q).fresh rfl (fun r hr=>hr▸h)
theorem XA (l:List Rng) (q:Req) (hl:l.length<2^40):aB Tryz.prog mZ [dS (l.map eN),dA (eB q)] .nil 0 fun rr _ _=>rr.plain=true∧rr=dI (bV l (bE q.addr q.many q.wrap)):=by
 refine TU rfl fun Q hQ=> ?_
 unfold zZ
 have hb4:=MK (addr:=q.addr) (many:=q.many) (wrap:=q.wrap)
 repeat' (first| (with_reducible first| (refine hK _ _ _ ?_;clear hK K)|refine Z1 ?_|refine Z3 fun KB hKB=> ?_)| (first| (with_reducible refine Y2 fun K hK=> ?_)| (with_reducible refine vY ?_))<;>(simp only[go_sem])|fail)
 generalize bE q.addr q.many q.wrap=all at*
 (have hKX:=hKB;clear hKB);(refine aM.loop (α:={k:Nat//k≤all.length∧(∀i,i<k→¬bK (inR · (all.getD i default)) l<0∧bK (inR · (all.getD i default)) l=bK (inR · (all.getD 0 default)) l)}) (fun u=>en [(12,dI u.1),(11,dI all.length),(10,dS (all.map aJ)),(5,dI (if u.1=0 then-1 else bK (inR · (all.getD 0 default)) l)),(0,dS (l.map eN))]) (fun _=>.nil) _ (fun u=>all.length-u.1) ⟨0,by omega,(by intros;first|trivial|omega)⟩ (bU (Nat.le_refl _) (by repeat' (first| (with_reducible first|exact C1|refine C2 ?_ ?_)| ((with_reducible refine D0 ?_);exact CA rfl)|fail))) ?_);(rintro⟨k,hk,hinv⟩ KL hKL)
 by_cases hlt:k<all.length
 ·repeat' (first| (with_reducible first| (refine hK _ _ _ ?_;clear hK K)| (refine hA ?_;clear hA hB A B)| (refine hB ?_;clear hA hB A B)|refine Z1 ?_|refine Z2 ?_|refine Z3 fun KB hKB=> ?_|refine Z4 (by omega) ?_|refine Z6 (fun h=> ?_) fun h=> ?_)| (first| (with_reducible first|refine Y2 fun K hK=> ?_|refine Y3 fun A B hA hB=> ?_|refine Y6 (fun h=> ?_) fun h=> ?_)| (with_reducible refine SX hl ?_))<;>(simp only[go_sem];try simp (disch:=omega) only[Iw])| ((with_reducible refine Y8 ?_);try simp only[AQ.then,AQ.blk,reduceIte,Nat.reduceEqDiff])| ((with_reducible refine Y0 ?_);simp only[AQ.then,AQ.blk])|refine⟨by omega,?_⟩| (with_reducible refine hKB _ _ _ ?_)|fail)
  ·refine aZ hQ (dI _) rfl rfl (qA ?_)
   rcases Nat.eq_zero_or_pos k with h0|h0
   ·subst h0
    have hg:=aoF (p:=(inR · (all.getD 0 default))) (l:=l)
    by_cases hy: ∀i,i<all.length→1≤i→bK (inR · (all.getD i default)) l=bK (inR · (all.getD 0 default)) l
    ·rw[RH (by omega) hy];omega
    ·have: ∃i,i<all.length∧ ¬bK (inR · (all.getD i default)) l=bK (inR · (all.getD 0 default)) l:=Classical.byContradiction fun hc=>hy fun i hi _=>Classical.byContradiction fun hn=>hc ⟨i,hi,hn⟩
     obtain⟨i,hi,hn⟩:=this
     rw[L8 hi hn]
   ·have:=(hinv 0 h0).1
    exact(L8 hlt (by omega)).symm
  ·refine aZ hQ (dI _) rfl rfl (qA (L8 hlt (fun he=> ?_)).symm)
   grind
  all_goals
   have heq:bK (inR · (all.getD k default)) l=bK (inR · (all.getD 0 default)) l:=by grind
   refine hKL _ _ _ ⟨k+1,by omega,iS hinv ⟨by omega,heq⟩⟩ (by omega) (by dsimp only;omega) (bU (Nat.le_refl _) ?_)
   dsimp only
   rw[if_neg (Nat.succ_ne_zero k),←heq]
   repeat' (first| (with_reducible first|exact C1|refine C2 ?_ ?_)| ((with_reducible refine D0 ?_);exact CA rfl)|fail)
 ·repeat' (first| (with_reducible first| (refine hK _ _ _ ?_;clear hK K)| (refine hB ?_;clear hA hB A B)|refine Z1 ?_|refine Z5 (by omega) ?_|refine hKX _ _ _ ?_)| (with_reducible first|refine Y2 fun K hK=> ?_|refine Y3 fun A B hA hB=> ?_)<;>(simp only[go_sem])| ((with_reducible first|refine Y8 ?_|refine Y9 ?_);try simp only[AQ.then,AQ.blk,reduceIte,Nat.reduceEqDiff])|fail)
  refine aZ hQ (dI _) rfl rfl (qA ?_)
  by_cases h0:k=0
  ·rw[if_pos h0,adL (by omega)]
  ·rw[if_neg h0,RH (by omega) (fun i hi _=>(hinv i (by omega)).2)]
theorem KD {l:List Rng} {q:Req} (hl:l.length<2^40) (h:K (dI (bV l (bE q.addr q.many q.wrap))) H nx):aB Tryz.prog mZ [dS (l.map eN),dA (eB q)] H nx K:=
 (XA l q hl).pure rfl (aI ⟨aE rfl,aE rfl,trivial⟩) (fun r hr=>hr▸h)
end
end Go.Proofs.YtegiblhkjfiooaaGreat
end
