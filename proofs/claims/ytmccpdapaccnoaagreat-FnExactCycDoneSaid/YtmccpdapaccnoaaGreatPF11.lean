/- Texts laid together by a program: rules, contracts and the walk that leads to the law. -/
import Derived.Test.YtmccpdapaccnoaaGreatPF10
import Derived.Test.YtmccpdapaccnoaaGreatPF9
set_option linter.unusedVariables false
set_option linter.unusedSimpArgs false
set_option linter.unusedSectionVars false
section
namespace Go.AM
abbrev TE:=List Job
def IF (l:TE):List D1:=[.isl (l.map aS)]
theorem ag7 {l:TE}:(IF l).length=1:=rfl
theorem aaZ {l:TE}:(IF l).take 1=[.isl (l.map aS)]:=rfl
theorem ZY {l:TE}:(IF l).drop 1=[]:=rfl
theorem ae8 {l:TE} {cs:List D1} {k:Nat}:iA cs (k+1) (IF l)=iA cs (k+1) [.isl (l.map aS)]:=rfl
theorem al7 (l:TE):(IF l).length=1∧(IF l).all D1.dQ=true:=⟨rfl,rfl⟩
attribute [go_sem] ag7 aaZ ZY ae8
end Go.AM
namespace Go.Proofs.YtmccpdapaccnoaaGreat
open Go Go.AM
set_option maxRecDepth 100000
set_option maxHeartbeats 8000000
section
variable {H : aA} {nx : Nat} {K : D → aA → Nat → Prop}
theorem ac0 {l:List Job} (h: ∀i,i<l.length→1≤i→ad5 (l.getD (i-1) default) (l.getD i default)<0):kW l:=by
 have h2: ∀(d i:Nat) (hi:i+d+1<l.length),uL (l.getD i default) (l.getD (i+d+1) default)=true:=by
  intro d
  induction d with
  |zero=>intro i hi;have:=h (i+1) (by omega) (by omega);rw[E7] at this;simpa using this
  |succ d ih=>
   intro i hi
   have h3:=ih i (by omega)
   have h4:=h (i+d+2) (by omega) (by omega)
   rw[E7,show i+d+2-1=i+d+1 by omega] at h4
   rw[show i+(d+1)+1=i+d+2 by omega]
   rw[qL] at*
   omega
 refine List.pairwise_iff_getElem.2 fun i j hi hj hij=> ?_
 have:=h2 (j-i-1) i (by omega)
 rw[show i+(j-i-1)+1=j by omega] at this
 simpa [List.getD,hi,hj] using this
theorem TI (l:List Job) (hl:l.length<2^21):aB Tryz.prog oI [dS (l.map aS)] .nil 0 fun rr _ _=>rr.plain=true∧rr=dB (decide (kW l)):=by
 refine Q2 rfl fun Q hQ=> ?_
 unfold x7
 repeat' (first| (with_reducible first| (refine hK _ _ _ ?_;clear hK K)| (refine hA ?_;clear hA hB A B)| (refine hB ?_;clear hA hB A B)|refine Z1 ?_|refine Z2 ?_|refine Z3 fun KB hKB=> ?_|refine Z4 (by omega) ?_|refine Z5 (by omega) ?_|refine Z6 (fun h=> ?_) fun h=> ?_|refine Z7 (fun h=> ?_) fun h=> ?_|refine fun(cap:Nat) (hcap:_≤cap)=> ?_|refine fun(hcp:_≤cap)=> ?_|refine fun(b:Bool)=> ?_|refine hKX _ _ _ ?_|refine hKY _ _ _ ?_|refine hKZ _ _ _ ?_)| (with_reducible first|refine Y1 fun K hK=> ?_|refine Y2 fun K hK=> ?_|refine Y3 fun A B hA hB=> ?_|refine Y4 (by omega) ?_|refine Y5 (by omega) ?_|refine Y6 (fun h=> ?_) fun h=> ?_| (refine Y7 (fun h=> ?_) (fun h=> ?_)<;>try subst h))<;>(simp only[go_sem];try simp (disch:=omega) only[Iw])| ((with_reducible first|refine Y8 ?_|refine Y9 ?_);try simp only[AQ.then,AQ.blk,reduceIte,Nat.reduceEqDiff])| ((with_reducible refine Y0 ?_);simp only[AQ.then,AQ.blk])| ((with_reducible refine Z8 (fun h=> ?_) (fun h=> ?_))<;>try subst h)|refine⟨by omega,?_⟩| (refine⟨by(rw[List.length_take];omega),?_⟩)| (with_reducible first|refine hKB _ _ _ ?_| (clear hKB KB;refine hKB _ _ _ ?_)| (clear hKB KB;clear hKB KB;refine hKB _ _ _ ?_))|fail)
 (have hKX:=hKB;clear hKB)
 refine aM.sG 0 (β:=Nat) (fun b k=>en [(3,dI k),(0,dS (l.map aS))]) (fun b k=>hp []) (fun k=>(1≤k∧(k≤l.length∨k=1))∧ ∀i,i<k→i<l.length→1≤i→ad5 (l.getD (i-1) default) (l.getD i default)<0) (fun k=>l.length-k) 1 (bU (Nat.le_refl _) (by repeat' (first| (with_reducible first|exact C1|refine C2 ?_ ?_|exact C3|refine C4 ?_ ?_|refine aUP ?_ ?_|refine bfY ?_ ?_ ?_|refine aUQ ?_|refine aUR ?_)| ((with_reducible refine C0 ?_);first|exact CB rfl|exact CC| (exact CQ (by omega) rfl rfl (by first|rfl| (simp;done)|omega| (dsimp only;omega)) rfl)|exact CE (by omega) rfl|exact CR (by omega) rfl|exact CF|exact CH (by first|rfl|assumption)| (exact CG (by first|rfl| (simp;done)| (congr 2;omega)| ((try dsimp only);exact dbT (by omega))| ((try dsimp only);exact dbF (by omega))| ((try dsimp only);exact(dbT (by omega)).symm)| ((try dsimp only);exact(dbF (by omega)).symm)| ((try dsimp only);exact dbE (by omega))| ((try dsimp only);exact diE (by omega))) rfl))| ((with_reducible refine D0 ?_);first|exact CA rfl|exact CI rfl (by simp) rfl rfl rfl|refine C9 ?_|refine CJ ?_)|exact C3|refine C4 ?_ ?_|fail))) ⟨by omega,fun i hi _ _=>by omega⟩ ?_
 rintro k ⟨hk,hinv⟩ KL hKL
 by_cases hlt:k<l.length
 ·have e1:((k:Int)-1).toNat=k-1:=by omega
  repeat' (first| (with_reducible first| (refine hK _ _ _ ?_;clear hK K)| (refine hA ?_;clear hA hB A B)| (refine hB ?_;clear hA hB A B)|refine Z1 ?_|refine Z2 ?_|refine Z3 fun KB hKB=> ?_|refine Z4 (by omega) ?_|refine Z5 (by omega) ?_|refine Z6 (fun h=> ?_) fun h=> ?_|refine Z7 (fun h=> ?_) fun h=> ?_|refine fun(cap:Nat) (hcap:_≤cap)=> ?_|refine fun(hcp:_≤cap)=> ?_|refine fun(b:Bool)=> ?_|refine hKX _ _ _ ?_|refine hKY _ _ _ ?_|refine hKZ _ _ _ ?_)| (first| (with_reducible first|refine Y1 fun K hK=> ?_|refine Y2 fun K hK=> ?_|refine Y3 fun A B hA hB=> ?_|refine Y4 (by omega) ?_|refine Y5 (by omega) ?_|refine Y6 (fun h=> ?_) fun h=> ?_| (refine Y7 (fun h=> ?_) (fun h=> ?_)<;>try subst h))| (with_reducible refine xM ?_))<;>(simp only[go_sem,e1];try simp (disch:=omega) only[Iw])| ((with_reducible first|refine Y8 ?_|refine Y9 ?_);try simp only[AQ.then,AQ.blk,reduceIte,Nat.reduceEqDiff])| ((with_reducible refine Y0 ?_);simp only[AQ.then,AQ.blk])| ((with_reducible refine Z8 (fun h=> ?_) (fun h=> ?_))<;>try subst h)|refine⟨by omega,?_⟩| (refine⟨by(rw[List.length_take];omega),?_⟩)| (with_reducible first|refine hKB _ _ _ ?_| (clear hKB KB;refine hKB _ _ _ ?_)| (clear hKB KB;clear hKB KB;refine hKB _ _ _ ?_))|fail)
  ·refine aZ hQ (dB false) rfl rfl (j7 fun hs=> ?_)
   have h5:=List.pairwise_iff_getElem.1 hs (k-1) k (by omega) hlt (by omega)
   have h6:ad5 (l.getD (k-1) default) (l.getD k default)<0:=by rw[E7];simpa [List.getD,hlt,show k-1<l.length by omega] using h5
   omega
  ·exact hKL _ _ _ (k+1) (by omega) (bU (Nat.le_refl _) (by repeat' (first| (with_reducible first|exact C1|refine C2 ?_ ?_|exact C3|refine C4 ?_ ?_|refine aUP ?_ ?_|refine bfY ?_ ?_ ?_|refine aUQ ?_|refine aUR ?_)| ((with_reducible refine C0 ?_);first|exact CB rfl|exact CC| (exact CQ (by omega) rfl rfl (by first|rfl| (simp;done)|omega| (dsimp only;omega)) rfl)|exact CE (by omega) rfl|exact CR (by omega) rfl|exact CF|exact CH (by first|rfl|assumption)| (exact CG (by first|rfl| (simp;done)| (congr 2;omega)| ((try dsimp only);exact dbT (by omega))| ((try dsimp only);exact dbF (by omega))| ((try dsimp only);exact(dbT (by omega)).symm)| ((try dsimp only);exact(dbF (by omega)).symm)| ((try dsimp only);exact dbE (by omega))| ((try dsimp only);exact diE (by omega))) rfl))| ((with_reducible refine D0 ?_);first|exact CA rfl|exact CI rfl (by simp) rfl rfl rfl|refine C9 ?_|refine CJ ?_)|exact C3|refine C4 ?_ ?_|fail))) ⟨by omega,fun i hi hl2 h1=>by
    rcases Nat.lt_succ_iff_lt_or_eq.1 hi with h2|h2
    ·exact hinv i h2 hl2 h1
    ·subst h2;omega⟩ (by omega)
 ·repeat' (first| (with_reducible first| (refine hK _ _ _ ?_;clear hK K)| (refine hA ?_;clear hA hB A B)| (refine hB ?_;clear hA hB A B)|refine Z1 ?_|refine Z2 ?_|refine Z3 fun KB hKB=> ?_|refine Z4 (by omega) ?_|refine Z5 (by omega) ?_|refine Z6 (fun h=> ?_) fun h=> ?_|refine Z7 (fun h=> ?_) fun h=> ?_|refine fun(cap:Nat) (hcap:_≤cap)=> ?_|refine fun(hcp:_≤cap)=> ?_|refine fun(b:Bool)=> ?_|refine hKX _ _ _ ?_|refine hKY _ _ _ ?_|refine hKZ _ _ _ ?_)| (with_reducible first|refine Y1 fun K hK=> ?_|refine Y2 fun K hK=> ?_|refine Y3 fun A B hA hB=> ?_|refine Y4 (by omega) ?_|refine Y5 (by omega) ?_|refine Y6 (fun h=> ?_) fun h=> ?_| (refine Y7 (fun h=> ?_) (fun h=> ?_)<;>try subst h))<;>(simp only[go_sem];try simp (disch:=omega) only[Iw])| ((with_reducible first|refine Y8 ?_|refine Y9 ?_);try simp only[AQ.then,AQ.blk,reduceIte,Nat.reduceEqDiff])| ((with_reducible refine Y0 ?_);simp only[AQ.then,AQ.blk])| ((with_reducible refine Z8 (fun h=> ?_) (fun h=> ?_))<;>try subst h)|refine⟨by omega,?_⟩| (refine⟨by(rw[List.length_take];omega),?_⟩)| (with_reducible first|refine hKB _ _ _ ?_| (clear hKB KB;refine hKB _ _ _ ?_)| (clear hKB KB;clear hKB KB;refine hKB _ _ _ ?_))|fail)
  exact aZ hQ (dB true) rfl rfl (q9 (ac0 fun i hi h1=>hinv i (by omega) hi h1))
theorem IK {l:List Job} (hl:l.length<2^21) {d0:D} (hd0:CvD H (fun _=>True) id 0 (dS (l.map aS)) d0) (h:K (dB (decide (kW l))) H nx):aB Tryz.prog oI [d0] H nx K:=
 (TI l hl).pure rfl (aI ⟨hd0,trivial⟩) (fun r hr=>hr▸h)
theorem JU (r:Rsp) (hr:r.data.length<2^40):aB Tryz.prog iT [dA (tG r)] .nil 0 fun rr _ _=>rr.plain=true∧rr=dB (decide (r=oW)):=by
 refine HU rfl fun Q hQ=> ?_
 unfold nO
 repeat' (first| (with_reducible first| (refine hK _ _ _ ?_;clear hK K)| (refine hA ?_;clear hA hB A B)| (refine hB ?_;clear hA hB A B)|refine Z1 ?_|refine Z2 ?_|refine Z3 fun KB hKB=> ?_|refine Z4 (by omega) ?_|refine Z5 (by omega) ?_|refine Z6 (fun h=> ?_) fun h=> ?_|refine Z7 (fun h=> ?_) fun h=> ?_|refine fun(cap:Nat) (hcap:_≤cap)=> ?_|refine fun(hcp:_≤cap)=> ?_|refine fun(b:Bool)=> ?_|refine hKX _ _ _ ?_|refine hKY _ _ _ ?_|refine hKZ _ _ _ ?_)| (with_reducible first|refine Y1 fun K hK=> ?_|refine Y2 fun K hK=> ?_|refine Y3 fun A B hA hB=> ?_|refine Y4 (by omega) ?_|refine Y5 (by omega) ?_|refine Y6 (fun h=> ?_) fun h=> ?_| (refine Y7 (fun h=> ?_) (fun h=> ?_)<;>try subst h))<;>(simp only[go_sem];try simp (disch:=omega) only[Iw])| ((with_reducible first|refine Y8 ?_|refine Y9 ?_);try simp only[AQ.then,AQ.blk,reduceIte,Nat.reduceEqDiff])| ((with_reducible refine Y0 ?_);simp only[AQ.then,AQ.blk])| ((with_reducible refine Z8 (fun h=> ?_) (fun h=> ?_))<;>try subst h)|refine⟨by omega,?_⟩| (refine⟨by(rw[List.length_take];omega),?_⟩)| (with_reducible first|refine hKB _ _ _ ?_| (clear hKB KB;refine hKB _ _ _ ?_)| (clear hKB KB;clear hKB KB;refine hKB _ _ _ ?_))|fail)
 all_goals first|with_reducible refine aZ hQ _ rfl rfl ?_|skip
 all_goals (obtain⟨r1,r2,r3⟩:=r;unfold oW;dsimp only at*;first|exact q9 (by simp_all)|exact j7 (by simp_all)|exact pD (by simp_all)|exact pD (by simp only[Rsp.mk.injEq];rw[←List.length_eq_zero_iff];omega))
theorem JG {r:Rsp} (hr:r.data.length<2^40) (h:K (dB (decide (r=oW))) H nx):aB Tryz.prog iT [dA (tG r)] H nx K:=
 (JU r hr).pure rfl (aI ⟨aE rfl,trivial⟩) (fun r hr=>hr▸h)
theorem W1 (r:Rsp) (hr:r.data.length<2^40):aB Tryz.prog m6 [dA (tG r)] .nil 0 fun rr _ _=>rr.plain=true∧rr=dB (decide (pA r)):=by
 refine UX rfl fun Q hQ=> ?_
 unfold z8
 repeat' (first| (with_reducible first| (refine hK _ _ _ ?_;clear hK K)| (refine hA ?_;clear hA hB A B)| (refine hB ?_;clear hA hB A B)|refine Z1 ?_|refine Z2 ?_|refine Z3 fun KB hKB=> ?_|refine Z4 (by omega) ?_|refine Z5 (by omega) ?_|refine Z6 (fun h=> ?_) fun h=> ?_|refine Z7 (fun h=> ?_) fun h=> ?_|refine fun(cap:Nat) (hcap:_≤cap)=> ?_|refine fun(hcp:_≤cap)=> ?_|refine fun(b:Bool)=> ?_|refine hKX _ _ _ ?_|refine hKY _ _ _ ?_|refine hKZ _ _ _ ?_)| (first| (with_reducible first|refine Y1 fun K hK=> ?_|refine Y2 fun K hK=> ?_|refine Y3 fun A B hA hB=> ?_|refine Y4 (by omega) ?_|refine Y5 (by omega) ?_|refine Y6 (fun h=> ?_) fun h=> ?_| (refine Y7 (fun h=> ?_) (fun h=> ?_)<;>try subst h))| (with_reducible refine fE ?_)| (refine vG hr (aE rfl) ?_))<;>(simp only[go_sem];try simp (disch:=omega) only[Iw])| ((with_reducible first|refine Y8 ?_|refine Y9 ?_);try simp only[AQ.then,AQ.blk,reduceIte,Nat.reduceEqDiff])| ((with_reducible refine Y0 ?_);simp only[AQ.then,AQ.blk])| ((with_reducible refine Z8 (fun h=> ?_) (fun h=> ?_))<;>try subst h)|refine⟨by omega,?_⟩| (refine⟨by(rw[List.length_take];omega),?_⟩)| (with_reducible first|refine hKB _ _ _ ?_| (clear hKB KB;refine hKB _ _ _ ?_)| (clear hKB KB;clear hKB KB;refine hKB _ _ _ ?_))|fail)
 all_goals first|with_reducible refine aZ hQ _ rfl rfl ?_|skip
 all_goals first|exact j7 (by unfold pA;grind)|exact pD (by unfold pA;grind)|exact q9 (by unfold pA;grind)
theorem YD {r:Rsp} (hr:r.data.length<2^40) (h:K (dB (decide (pA r))) H nx):aB Tryz.prog m6 [dA (tG r)] H nx K:=
 (W1 r hr).pure rfl (aI ⟨aE rfl,trivial⟩) (fun r hr=>hr▸h)
theorem HK {r:Rsp} (hr:r.data.length<2^40) (h:K (dB (decide (r=oW))) H nx):aB Tryz.prog iT [.one (.agg [cI r.id,cI r.code,.isl (r.data.map aJ)])] H nx K:=JG hr h
theorem I8 {r:Rsp} (hr:r.data.length<2^40) (h:K (dB (decide (pA r))) H nx):aB Tryz.prog m6 [.one (.agg [cI r.id,cI r.code,.isl (r.data.map aJ)])] H nx K:=YD hr h
def UB (l:List Job):List (List Int×Int):=l.map fun j=>([j.who,j.n],1)
theorem alK {l:List Job} {j:Job} (h:key j∉l.map key):jT (UB l) [j.who,j.n]=none:=by
 unfold jT UB
 rw[Option.map_eq_none_iff,List.find?_eq_none]
 intro p hp
 obtain⟨x,hx,rfl⟩:=List.mem_map.1 hp
 simp only[List.cons.injEq,and_true,decide_eq_true_eq]
 intro he
 exact h (List.mem_map.2 ⟨x,hx,by simp[key,he.1,he.2]⟩)
theorem alD {l:List Job} {j:Job} (h:key j∉l.map key):vA (UB l) [j.who,j.n] 1=UB (l++[j]):=by
 induction l with
 |nil=>rfl
 |cons x l ih=>
  simp only[List.map_cons,List.mem_cons,not_or] at h
  have hne: ¬[j.who,j.n]=[x.who,x.n]:=fun he=>h.1 (by simp only[List.cons.injEq,and_true] at he;simp[key,he.1,he.2])
  show vA (([x.who,x.n],1)::UB l) _ _=_
  simp only[vA,hne,if_false,ih h.2]
  rfl
theorem amR {l:List Job}:(UB l).length=l.length:=by simp[UB]
theorem alS {l:List Int} {k:Nat} (h:k<l.length):(l.take (k+1)).sum=(l.take k).sum+l.getD k default:=by
 rw[List.take_succ_eq_append_getElem h,List.sum_append];simp[List.getD,h]
theorem af9 {l:List Int} (h:l.length=3):(l.take 3).sum=l.getD 0 default+l.getD 1 default+l.getD 2 default:=by
 match l,h with
 | [a,b,c],_=>simp[List.getD];omega
theorem ZS {w u:List Int} (h:WK w u):JS w u:=⟨⟨by rw[h.wl];rfl,h.wr⟩,by rw[h.hl];rfl,h.hr⟩
end
end Go.Proofs.YtmccpdapaccnoaaGreat
end
section
namespace Go.Proofs.YtmccpdapaccnoaaGreat
open Go Go.AM
set_option maxRecDepth 100000
set_option maxHeartbeats 8000000
theorem AP:cJ Tryz.prog cO Tryz.f200 jP oE:=cJ.mk Tryz.func200 (by kernel_rfl) AH
theorem BX:cJ Tryz.prog iX Tryz.f109 lB qR:=cJ.mk Tryz.func109 (by kernel_rfl) B8
end Go.Proofs.YtmccpdapaccnoaaGreat
namespace Go.AM
theorem aM.abC {P:Program} {T:Nat} {e:Env} {H:aA} {nx:Nat} {Q:AQ} {zs:List AC} (h: ∀G,G=H→aM P T zs e G nx Q):aM P T zs e H nx Q:=h H rfl
theorem akM {H:aA} {F:Nat→Prop} {nh:Nat} {f:FuncId} {caps:List D1} (h: ∀x∈caps,∃n id row col,id<nh∧x= .ptr n id row col):Cv1 H F id nh (.clo f caps) (.clo f caps):=
 .clo f caps caps rfl fun i x y hx hy=>by
  rw[hx] at hy
  obtain rfl:x=y:=by simpa using hy
  obtain⟨n,id,row,col,h1,rfl⟩:=h x (List.mem_of_getElem? hx)
  exact .inr ⟨n,id,row,col,h1,rfl,rfl⟩
def aaK (V:List (Int×Int)) (k:Nat) (u:List Int):Prop:=u.length=3∧ ∀w,w<3→u.getD w default= -1∨ ∃i,i<k∧V[i]?=some ((w:Int),u.getD w default)
theorem aaK.next {c:Cfg} {s:CSt} {st k:Nat} {u:List Int} {x:Int×Int} (hs:COk c s) (hst:st<4) (h:aaK (cS (aL s st)) k u) (hx:(cS (aL s st))[k]?=some x):
 (x.1=(x.1.toNat:Int)∧x.1.toNat<3)∧u.getD x.1.toNat default<x.2∧aaK (cS (aL s st)) (k+1) (u.set x.1.toNat x.2):=by
 obtain⟨hk,hxk⟩:=List.getElem?_eq_some_iff.1 hx
 have hm:x∈cS (aL s st):=hxk▸List.getElem_mem hk
 obtain⟨hw,h0,h1⟩:=hs.vIn hst hm
 have hw3:x.1.toNat<3:=by omega
 have hwe:x.1=(x.1.toNat:Int):=by omega
 refine⟨⟨hwe,hw3⟩,?_,by simp[h.1],fun w hw3'=> ?_⟩
 ·rcases h.2 _ hw3 with h2|⟨i,hi,h2⟩
  ·omega
  ·obtain⟨hi2,h3⟩:=List.getElem?_eq_some_iff.1 h2
   have h4:=List.pairwise_iff_getElem.1 (hs.slv st hst).inc i k hi2 hk hi
   rw[h3,hxk] at h4
   exact h4 hwe.symm
 ·by_cases he:w=x.1.toNat
  ·right
   refine⟨k,by omega,?_⟩
   rw[he,pY (by rw[h.1];omega),if_pos rfl,hx,←hwe]
  ·rw[pY (by rw[h.1];omega),if_neg he]
   exact(h.2 w hw3').imp (fun h=>h) fun⟨i,hi,h2⟩=>⟨i,by omega,h2⟩
end Go.AM
namespace Go.Proofs.YtmccpdapaccnoaaGreat
open Go Go.AM
set_option maxRecDepth 100000
set_option maxHeartbeats 8000000
section
variable {H : aA} {nx : Nat} {K : D → aA → Nat → Prop}
theorem kA {s:CSt} {st who:Nat} {w n:Int} {u:List Int} {i0 i1 i2:Nat} (hww:w=who) (hu:u.length=3) (hw:who<3) (hn:u.getD who default<n) (hpl:s.bM.length=3) (hol:(aF s who).out.length<2^40)
 (hx:0≤bK (isC n) (aF s who).out) (hx1:(bK (isC n) (aF s who).out).toNat<(aF s who).out.length) (hx2:((aF s who).out.getD (bK (isC n) (aF s who).out).toNat default).left=st)
 (hlt:i0<nx∧i1<nx∧i2<nx) (hd:[i0,i1,i2].Nodup) (o0:H i0=some ⟨3,1,[u.map cI]⟩) (o1:H i1=some ⟨5,1,[eI s]⟩) (o2:H i2=some ⟨1,1,[[cI st]]⟩)
 (h: ∀H' nx',nx≤nx'→H' i0=some ⟨3,1,[(u.set who n).map cI]⟩→(∀id,id<nx→id≠i0→H' id=H id)→K (dB true) H' nx'):
 aB Tryz.prog cO [dI w,dI n,.one (.c (.ptr 3 i0 0 0)),.one (.c (.ptr 5 i1 0 0)),.one (.c (.ptr 1 i2 0 0))] H nx K:=by
 subst hww
 refine AP rfl fun Q hQ=> ?_
 unfold jP
 have hA:bQ nx [i0,i1,i2]:=AM.apart hd (by simp;omega)
 simp only[bQ,eZ] at hA
 obtain⟨p,hpd⟩: ∃p,p=aF s who:=⟨_,rfl⟩
 have hpd':s.bM.getD who default=p:=hpd.symm
 rw[←hpd] at hol hx hx1 hx2
 obtain⟨a,ha⟩: ∃a,a=bK (isC n) p.out:=⟨_,rfl⟩
 have hut:((u.map cI).drop who).take 1=[cI (u.getD who default)]:=by
  rw[List.drop_eq_getElem_cons (by simp;omega)]
  simp[List.getD,show who<u.length by omega]
 have hull:(u.map cI).length=3:=by rw[List.length_map,hu]
 have hle:(who+1≤3)=True:=eq_true (by omega)
 have hou: ∀{H:aA} {nx:Nat} {K:D→aA→Nat→Prop},K (dI a) H nx→aB Tryz.prog kV [dA (cD p),dI n] H nx K:=fun h=>KT (p:=p) hol (aE rfl) (by rw[←ha];exact h)
 rw[←ha] at hx hx1 hx2
 repeat' (first| (with_reducible first| (refine hK _ _ _ ?_;clear hK K)| (refine hB ?_;clear hA hB A B)|refine Z1 ?_|refine Z2 ?_|refine Z5 (by omega) ?_)| (first| (with_reducible first|refine Y2 fun K hK=> ?_|refine Y3 fun A B hA hB=> ?_|refine Y4 (by omega) ?_|refine Y5 (by omega) ?_)| (with_reducible refine oR ?_)| (with_reducible refine hou ?_))<;>(simp only[go_sem,Nat.add_assoc,Nat.left_eq_add,Nat.mul_one,o0,o1,o2,hut,hull,hle,hpd',hx2,hA])| ((with_reducible refine Y8 ?_);try simp only[AQ.then,AQ.blk,reduceIte,Nat.reduceEqDiff])|refine⟨by omega,?_⟩|fail)
 have eu:List.take who (List.map cI u)++[D1.v (.int .i64 n)]++List.drop (who+1) (List.map cI u)=(u.set who n).map cI:=by
  rw[List.map_set,List.set_eq_take_append_cons_drop,if_pos (by simp;omega),List.append_assoc];rfl
 rw[eu]
 exact hQ _ _ _ _ _ (.inr rfl) rfl (h _ _ (by omega) aA.bH fun id e0 e1=>aA.aC e1)
end
end Go.Proofs.YtmccpdapaccnoaaGreat
end
section
namespace Go.AM
theorem agO {M:List (List Int×Int)} {l l':List Int} {n:Int}:jT (vA M l n) l'=if l'=l then some n else jT M l':=by
 induction M with
 |nil=>
  by_cases h:l'=l
  ·simp[vA,jT,h]
  ·simp[vA,jT,h]
 |cons p M ih=>
  obtain⟨a,b⟩:=p
  simp only[vA]
  by_cases hl:l=a
  ·subst hl
   rw[if_pos rfl]
   by_cases h:l'=l
   ·simp[jT,h]
   ·simp[jT,h]
  ·rw[if_neg hl]
   unfold jT at ih ⊢
   simp only[List.find?_cons]
   by_cases h:l'=a
   ·subst h
    simp[Ne.symm hl]
   ·simp only[h,decide_false]
    rw[ih]
def XM (c:Cfg) (who:Nat) (out:List fC) (k:Nat) (M:List (List Int×Int)):Prop:=∀i v,jT M [i]=some v→∃j∈out.take k,(bT c who j.n).id=i∧j.left=v
theorem XM.next {c:Cfg} {who:Nat} {out:List fC} {k:Nat} {M:List (List Int×Int)} (h:XM c who out k M) (hk:k<out.length):XM c who out (k+1) (vA M [(bT c who (out.getD k default).n).id] (out.getD k default).left):=by
 intro i v hv
 rw[agO] at hv
 have hm:out.getD k default∈out.take (k+1):=by
  rw[nK hk];simp
 split at hv
 ·rename_i he
  simp only[List.cons.injEq,and_true] at he
  simp only[Option.some.injEq] at hv
  exact⟨_,hm,he.symm,hv⟩
 ·obtain⟨j,h1,h2⟩:=h i v hv
  exact⟨j,(List.take_sublist_take_left (by omega)).mem h1,h2⟩
end Go.AM
namespace Go.Proofs.YtmccpdapaccnoaaGreat
open Go Go.AM
set_option maxRecDepth 100000
set_option maxHeartbeats 8000000
theorem EG:cJ Tryz.prog jK Tryz.f108 lL sF:=cJ.mk Tryz.func108 (by kernel_rfl) EM
section
variable {H : aA} {nx : Nat} {K : D → aA → Nat → Prop}
end
end Go.Proofs.YtmccpdapaccnoaaGreat
end
section
namespace Go.AM
noncomputable def ptB (c:Cfg) (who:Nat) (p:fR):Bool:=@decide (mD c who p) (Classical.propDecidable _)
theorem beT {c:Cfg} {who:Nat} {p:fR} (h:mD c who p):ptB c who p=true:=by simp[ptB,h]
theorem a8A {c:Cfg} {who:Nat} {p:fR} (h: ¬mD c who p):ptB c who p=false:=by simp[ptB,h]
def a5K (c:Cfg) (who:Nat) (p:fR) (j:fC):Prop:=j.who=who∧(0≤j.n∧j.n<p.next-p.queue.length)∧j.left=gZ c.map (bT c who j.n)
structure beI (c:Cfg) (who:Nat) (p:fR) (k:Nat) (last:Int) (M:List (List Int×Int)):Prop where
 all: ∀i,i<k→a5K c who p (p.out.getD i default)
 srt: ∀i j,i<j→j<k→(p.out.getD i default).n<(p.out.getD j default).n
 lst:(k=0∧last= -1)∨(0<k∧last=(p.out.getD (k-1) default).n)
 ids: ∀i,i<k→jT M [(bT c who (p.out.getD i default).n).id]=some (p.out.getD i default).left
 plc:XM c who p.out k M
theorem beI.next {c:Cfg} {who:Nat} {p:fR} {k:Nat} {last:Int} {M:List (List Int×Int)} (h:beI c who p k last M) (hk:k<p.out.length) {j:fC} (hj:j=p.out.getD k default) (h1:a5K c who p j) (h2:last<j.n)
 (h3: ∀v,jT M [(bT c who j.n).id]=some v→v=j.left):beI c who p (k+1) j.n (vA M [(bT c who j.n).id] j.left):=by
 subst hj
 refine⟨iS h.all h1,fun i j hij hj=> ?_,.inr ⟨by omega,by simp⟩,fun i hi=> ?_,h.plc.next hk⟩
 ·by_cases hjk:j<k
  ·exact h.srt i j hij hjk
  ·obtain rfl:j=k:=by omega
   rcases h.lst with⟨h0,_⟩|⟨h0,h4⟩
   ·omega
   ·by_cases hi:i=j-1
    ·subst hi;omega
    ·have:=h.srt i (j-1) (by omega) (by omega);omega
 ·rw[agO]
  by_cases hik:i<k
  ·have h4:=h.ids i hik
   split
   ·rename_i he
    simp only[List.cons.injEq,and_true] at he
    rw[he] at h4
    rw[h3 _ h4]
   ·exact h4
  ·obtain rfl:i=k:=by omega
   simp
theorem beI.end {c:Cfg} {who:Nat} {p:fR} {last:Int} {M:List (List Int×Int)} (h:beI c who p p.out.length last M):(∀j∈p.out,a5K c who p j)∧(p.out.Pairwise fun a b=>a.n<b.n)∧ ∀a∈p.out,∀b∈p.out,(bT c who a.n).id=(bT c who b.n).id→a.left=b.left:=by
 have hg: ∀i (hi:i<p.out.length),p.out.getD i default=p.out[i]:=fun i hi=>by simp[List.getD,hi]
 refine⟨fun j hj=> ?_,List.pairwise_iff_getElem.2 fun i j hi hj hij=> ?_,fun a ha b hb he=> ?_⟩
 ·obtain⟨i,hi,rfl⟩:=List.mem_iff_getElem.1 hj
  rw[←hg i hi];exact h.all i hi
 ·rw[←hg i hi,←hg j hj];exact h.srt i j hij hj
 ·obtain⟨i,hi,rfl⟩:=List.mem_iff_getElem.1 ha
  obtain⟨j,hj,rfl⟩:=List.mem_iff_getElem.1 hb
  have h1:=h.ids i hi
  have h2:=h.ids j hj
  rw[hg] at h1 h2
  rw[he,h2] at h1
  exact(Option.some.inj h1).symm
theorem beI.bad {c:Cfg} {who:Nat} {p:fR} {k:Nat} {last:Int} {M:List (List Int×Int)} (h:beI c who p k last M) (hk:k<p.out.length) (hp:mD c who p):a5K c who p (p.out.getD k default)∧last<(p.out.getD k default).n∧ ∀v,jT M [(bT c who (p.out.getD k default).n).id]=some v→v=(p.out.getD k default).left:=by
 have hm:=cC hk
 have ho:=hp.out _ hm
 refine⟨ho,?_,fun v hv=> ?_⟩
 ·rcases h.lst with⟨h0,h1⟩|⟨h0,h1⟩
  ·omega
  ·have:=List.pairwise_iff_getElem.1 hp.acX (k-1) k (by omega) hk (by omega)
   rw[h1];simpa [List.getD,hk,show k-1<p.out.length by omega] using this
 ·obtain⟨j',h1,h2,h3⟩:=h.plc _ _ hv
  rw[←h3]
  exact hp.akF j' (List.mem_of_mem_take h1) _ hm h2
end Go.AM
namespace Go.Proofs.YtmccpdapaccnoaaGreat
open Go Go.AM
set_option maxRecDepth 100000
set_option maxHeartbeats 8000000
section
variable {H : aA} {nx : Nat} {K : D → aA → Nat → Prop}
theorem a5J (c:Cfg) (who:Nat) (p:fR) (hb:aQ c) (hw:who<3) (hpq:p.queue.length<2^21) (hpo:p.out.length<2^21):aB Tryz.prog jK [dA (cU c),dI who,dA (cD p)] .nil 0 fun r _ _=>r.plain=true∧r=dB (ptB c who p):=by
 refine EG rfl fun Q hQ=> ?_
 unfold lL
 obtain⟨hp3,hpr⟩:=hC hb
 have hprw:=hpr who
 have hml:=hb.1.1
 by_cases h0:(0≤p.next∧p.next≤(c.cP.getD who default).length)∧((p.queue.length:Int)≤2∧(p.queue.length:Int)≤p.next)∧(p.out.length:Int)≤4∧0≤p.last∧p.last≤3
 case neg=>
  have hno: ¬mD c who p:=fun h=>h0 ⟨h.next,by have:=h.ql;omega,by have:=h.ol;omega,h.last⟩
  repeat' (first| (with_reducible first| (refine hK _ _ _ ?_;clear hK K)| (refine hA ?_;clear hA hB A B)|refine Z1 ?_|refine Z4 (by omega) ?_)| (first| (with_reducible first|refine Y2 fun K hK=> ?_|refine Y3 fun A B hA hB=> ?_|refine Y6 (fun h=> ?_) fun h=> ?_)| (with_reducible refine fE ?_))<;>(simp only[go_sem])| ((with_reducible refine Y8 ?_);try simp only[AQ.then,AQ.blk,reduceIte,Nat.reduceEqDiff])|refine⟨by omega,?_⟩|fail)
  all_goals first|exact hQ _ _ _ _ _ (.inr rfl) rfl ⟨rfl,congrArg dB (a8A hno).symm⟩| (exfalso;omega)
 obtain⟨⟨hn1,hn2⟩,⟨hq1,hq2⟩,hol,hl1,hl2⟩:=h0
 have hd1:=decide_eq_true (show 0≤p.next∧p.next≤(c.cP.getD who default).length from ⟨hn1,hn2⟩)
 have hd2:=decide_eq_true (show 0≤p.last∧p.last≤3 from ⟨hl1,hl2⟩)
 repeat' (first| (with_reducible first| (refine hK _ _ _ ?_;clear hK K)| (refine hB ?_;clear hA hB A B)|refine Z1 ?_|refine Z2 ?_|refine Z3 fun KB hKB=> ?_)| (first| (with_reducible first|refine Y2 fun K hK=> ?_|refine Y3 fun A B hA hB=> ?_|refine Y5 (by omega) ?_)| (with_reducible refine fE ?_))<;>(simp only[go_sem,hd1,hd2];try simp (disch:=omega) only[Iw])|refine⟨by omega,?_⟩|fail)
 (have hKX:=hKB;clear hKB)
 refine aM.abC fun G0 hG0=> ?_
 have c0:G0 0=some ⟨3,1,[cU c]⟩:=by rw[hG0];rfl
 have c1:G0 1=some ⟨4,1,[cD p]⟩:=by rw[hG0];rfl
 clear hG0
 refine aM.gP (β:=Nat) (fun k=>en [(57,dI k),(56,dI p.queue.length),(55,dS (p.queue.map aJ)),(7,dI (p.next-p.queue.length)),(5,.one (.c (.ptr 4 1 0 0))),(3,.one (.c (.ptr 3 0 0 0))),(1,dI who)])
  (fun k H1 _=>k≤p.queue.length∧(∀i,i<k→p.queue.getD i default=p.next-p.queue.length+i)∧ ∀id,id<45→H1 id=G0 id) (fun k=>p.queue.length-k) 0 ⟨noF,_,by repeat' (first| (with_reducible first|exact C1|refine C2 ?_ ?_)| ((with_reducible refine C0 ?_);exact CE (by omega) rfl)| ((with_reducible refine D0 ?_);first|exact CA rfl|refine CJ ?_)|fail),aK,by omega,fun i hi=>by omega,fun _ _=>rfl⟩ ?_
 rintro k H1 nx1 hnx ⟨hk,hqi,hfr⟩ KL hKL
 have g0:H1 0=some ⟨3,1,[cU c]⟩:=by rw[hfr _ (by omega)];exact c0
 have g1:H1 1=some ⟨4,1,[cD p]⟩:=by rw[hfr _ (by omega)];exact c1
 have hA:bQ nx1 [0,1]:=AM.apart (by simp) (by simp;omega)
 simp only[bQ,eZ] at hA
 by_cases hlt:k<p.queue.length
 ·by_cases hqk:p.queue.getD k default=p.next-p.queue.length+k
  ·repeat' (first| (with_reducible first| (refine hK _ _ _ ?_;clear hK K)| (refine hA ?_;clear hA hB A B)| (refine hB ?_;clear hA hB A B)|refine Z1 ?_|refine Z2 ?_|refine Z3 fun KB hKB=> ?_|refine Z4 (by omega) ?_|refine Z5 (by omega) ?_)| (with_reducible first|refine Y2 fun K hK=> ?_|refine Y3 fun A B hA hB=> ?_)<;>(simp only[go_sem];try simp (disch:=omega) only[Iw])| ((with_reducible refine Y0 ?_);simp only[AQ.then,AQ.blk])|refine⟨by omega,?_⟩| (with_reducible refine hKB _ _ _ ?_)|fail)
   exact hKL _ _ _ (k+1) noF _ (by omega) (by omega) (by repeat' (first| (with_reducible first|exact C1|refine C2 ?_ ?_)| ((with_reducible refine C0 ?_);exact CE (by omega) rfl)| ((with_reducible refine D0 ?_);first|exact CA rfl|refine CJ ?_)|fail)) aK ⟨by omega,iS hqi hqk,hfr⟩
  ·repeat' (first| (with_reducible first| (refine hK _ _ _ ?_;clear hK K)| (refine hA ?_;clear hA hB A B)|refine Z1 ?_|refine Z2 ?_|refine Z3 fun KB hKB=> ?_|refine Z4 (by omega) ?_)| (with_reducible first|refine Y2 fun K hK=> ?_|refine Y3 fun A B hA hB=> ?_)<;>(simp only[go_sem];try simp (disch:=omega) only[Iw])| ((with_reducible refine Y8 ?_);try simp only[AQ.then,AQ.blk,reduceIte,Nat.reduceEqDiff])|refine⟨by omega,?_⟩|fail)
   exact hQ _ _ _ _ _ (.inr rfl) rfl ⟨rfl,congrArg dB (a8A fun h=>hqk (h.queue k hlt)).symm⟩
 ·have hk2:k=p.queue.length:=by omega
  rw[hk2] at hqi
  repeat' (first| (with_reducible first| (refine hK _ _ _ ?_;clear hK K)| (refine hB ?_;clear hA hB A B)|refine Z1 ?_|refine Z3 fun KB hKB=> ?_|refine Z5 (by omega) ?_|refine hKX _ _ _ ?_)| (with_reducible first|refine Y2 fun K hK=> ?_|refine Y3 fun A B hA hB=> ?_)<;>(simp only[go_sem,Nat.add_assoc,Nat.left_eq_add,g0,g1,hA])| ((with_reducible refine Y9 ?_);try simp only[AQ.then,AQ.blk,reduceIte,Nat.reduceEqDiff])|fail)
  (have hKY:=hKB;clear hKB)
  have hom: ∀{H:aA} {F:Nat→Prop} {nh:Nat},nx1+8≤nh→Cv1 H F id nh (.omap (nx1+2)) (.omap (nx1+2)):=fun h=>.omap _ (by omega)
  refine aM.gP (β:=Nat×Int×List (List Int×Int)) (fun u=>en [(72,dI u.1),(71,dI p.out.length),(70,dS (p.out.map eCJ)),(11,.one (.c (.omap (nx1+2)))),(10,dI u.2.1),(7,dI (p.next-p.queue.length)),(3,.one (.c (.ptr 3 0 0 0))),(1,dI who)])
   (fun u H2 _=>u.1≤p.out.length∧H2 0=some ⟨3,1,[cU c]⟩∧H2 (nx1+2)=some (u4 ⟨0,false,u.2.2⟩)∧beI c who p u.1 u.2.1 u.2.2) (fun u=>p.out.length-u.1) (0,-1,[])
   ⟨noF,_,by(repeat' (first| (with_reducible first|exact C1|refine C2 ?_ ?_)| ((with_reducible refine C0 ?_);first|exact CE (by omega) rfl|exact CR (by omega) rfl)| ((with_reducible refine D0 ?_);first|exact CA rfl|refine CJ ?_)|fail));all_goals exact hom (by omega),aK,by dsimp only;omega,by rw[aA.aC (by omega)];exact g0,aA.bH,⟨fun i hi=>by dsimp only at hi;omega,fun i j _ hj=>by dsimp only at hj;omega,.inl ⟨rfl,rfl⟩,fun i hi=>by dsimp only at hi;omega,fun i v hv=>by simp[jT] at hv⟩⟩ ?_
  rintro⟨k,last,M⟩ H2 nx2 hnx2 ⟨hk,bfZ,fm,hI⟩ KM hKM
  dsimp only at hk fm hI
  have hA2:bQ nx2 [0,nx1+2]:=AM.apart (by simp) (by simp;omega)
  simp only[bQ,eZ] at hA2
  by_cases hlt:k<p.out.length
  ·have hla: -1≤last∧last≤1000:=by
    rcases hI.lst with⟨_,h⟩|⟨h0,h⟩
    ·omega
    ·have:=(hI.all (k-1) (by omega)).2.1;omega
   have hno: ¬(a5K c who p (p.out.getD k default)∧last<(p.out.getD k default).n∧ ∀v,jT M [(bT c who (p.out.getD k default).n).id]=some v→v=(p.out.getD k default).left)→¬mD c who p:=fun h hp=>h (hI.bad hlt hp)
   have hnx3:=fun j hj=>hI.next hlt (j:=j) hj
   generalize hjd:p.out.getD k default=j at hno hnx3
   by_cases hj1:j.who=who
   case neg=>
    have e1:(j.who=(who:Int))=False:=eq_false hj1
    repeat' (first| (with_reducible first| (refine hK _ _ _ ?_;clear hK K)| (refine hA ?_;clear hA hB A B)|refine Z1 ?_|refine Z2 ?_|refine Z3 fun KB hKB=> ?_|refine Z4 (by omega) ?_)| (with_reducible first|refine Y2 fun K hK=> ?_|refine Y3 fun A B hA hB=> ?_)<;>(simp only[go_sem,Nat.add_assoc,Nat.left_eq_add,hjd,e1,bfZ,fm,hA2])| ((with_reducible refine Y8 ?_);try simp only[AQ.then,AQ.blk,reduceIte,Nat.reduceEqDiff])|refine⟨by omega,?_⟩|fail)
    all_goals exact hQ _ _ _ _ _ (.inr rfl) rfl ⟨rfl,congrArg dB (a8A (hno fun h=>hj1 h.1.1)).symm⟩
   have e1:(j.who=(who:Int))=True:=eq_true hj1
   by_cases hj2:last+1≤j.n∧j.n≤p.next-p.queue.length-1
   case neg=>
    have hd3:=decide_eq_false hj2
    repeat' (first| (with_reducible first| (refine hK _ _ _ ?_;clear hK K)| (refine hA ?_;clear hA hB A B)|refine Z1 ?_|refine Z2 ?_|refine Z3 fun KB hKB=> ?_|refine Z4 (by omega) ?_)| (first| (with_reducible first|refine Y2 fun K hK=> ?_|refine Y3 fun A B hA hB=> ?_)| (with_reducible refine fE ?_))<;>(simp only[go_sem,Nat.add_assoc,Nat.left_eq_add,hjd,e1,hd3,bfZ,fm,hA2];try simp (disch:=omega) only[Iw])| ((with_reducible refine Y8 ?_);try simp only[AQ.then,AQ.blk,reduceIte,Nat.reduceEqDiff])|refine⟨by omega,?_⟩|fail)
    all_goals exact hQ _ _ _ _ _ (.inr rfl) rfl ⟨rfl,congrArg dB (a8A (hno fun h=>hj2 (by have h1:=h.1.2.1;have h2:=h.2.1;omega))).symm⟩
   have hd3:=decide_eq_true hj2
   have hask:oA c who j.n:=⟨by omega,by omega,by rw[Int.toNat_natCast];omega⟩
   obtain⟨hk1,hk2,hk3⟩:=hask
   have hsv:gZ c.map (List.getD (c.cP.getD who default) j.n.toNat default)=gZ c.map (bT c who j.n):=rfl
   by_cases hj3:j.left=gZ c.map (bT c who j.n)
   case neg=>
    have e3:(j.left=gZ c.map (bT c who j.n))=False:=eq_false hj3
    repeat' (first| (with_reducible first| (refine hK _ _ _ ?_;clear hK K)| (refine hA ?_;clear hA hB A B)|refine Z1 ?_|refine Z2 ?_|refine Z3 fun KB hKB=> ?_|refine Z4 (by omega) ?_)| (first| (with_reducible first|refine Y2 fun K hK=> ?_|refine Y3 fun A B hA hB=> ?_)| (with_reducible refine fE ?_)| (refine DE (by omega) ?_))<;>(simp only[go_sem,Nat.add_assoc,Nat.left_eq_add,hjd,e1,hd3,hsv,e3,bfZ,fm,hA2];try simp (disch:=omega) only[Iw])| ((with_reducible refine Y8 ?_);try simp only[AQ.then,AQ.blk,reduceIte,Nat.reduceEqDiff])|refine⟨by omega,?_⟩|fail)
    all_goals exact hQ _ _ _ _ _ (.inr rfl) rfl ⟨rfl,congrArg dB (a8A (hno fun h=>hj3 h.1.2.2)).symm⟩
   have e3:(j.left=gZ c.map (bT c who j.n))=True:=eq_true hj3
   have hok:a5K c who p j:=⟨hj1,by omega,hj3⟩
   cases hgm:jT M [(bT c who j.n).id] with
   |none=>
    have hI2:=hnx3 j rfl hok (by omega) fun v hv=>by rw[hgm] at hv;cases hv
    repeat' (first| (with_reducible first| (refine hK _ _ _ ?_;clear hK K)| (refine hA ?_;clear hA hB A B)| (refine hB ?_;clear hA hB A B)|refine Z1 ?_|refine Z2 ?_|refine Z3 fun KB hKB=> ?_|refine Z4 (by omega) ?_)| (first| (with_reducible first|refine Y2 fun K hK=> ?_|refine Y3 fun A B hA hB=> ?_)| (with_reducible refine fE ?_)| (refine DE (by omega) ?_)| (refine iJ hp3 ⟨hk1,hk2,hk3⟩ ?_))<;>(simp only[go_sem,Nat.add_assoc,Nat.left_eq_add,hjd,e1,hd3,hsv,e3,bfZ,fm,hA2,hgm,Option.isSome,Option.getD];try simp (disch:=omega) only[Iw])| ((with_reducible refine Y0 ?_);simp only[AQ.then,AQ.blk])|refine⟨by omega,?_⟩| (with_reducible refine hKB _ _ _ ?_)|fail)
    exact hKM _ _ _ (k+1,j.n,vA M [(bT c who j.n).id] j.left) noF _ (by omega) (by dsimp only;omega) (by(repeat' (first| (with_reducible first|exact C1|refine C2 ?_ ?_)| ((with_reducible refine C0 ?_);first|exact CE (by omega) rfl|exact CR (by omega) rfl)| ((with_reducible refine D0 ?_);first|exact CA rfl|refine CJ ?_)|fail));all_goals exact hom (by omega)) aK ⟨by dsimp only;omega,by rw[aA.aC (by omega),aA.aC (by omega)];exact bfZ,aA.bH,hI2⟩
   |some v=>
    by_cases hj4:v=j.left
    case neg=>
     have e4:(v=j.left)=False:=eq_false hj4
     repeat' (first| (with_reducible first| (refine hK _ _ _ ?_;clear hK K)| (refine hA ?_;clear hA hB A B)| (refine hB ?_;clear hA hB A B)|refine Z1 ?_|refine Z2 ?_|refine Z3 fun KB hKB=> ?_|refine Z4 (by omega) ?_)| (first| (with_reducible first|refine Y2 fun K hK=> ?_|refine Y3 fun A B hA hB=> ?_)| (with_reducible refine fE ?_)| (refine DE (by omega) ?_)| (refine iJ hp3 ⟨hk1,hk2,hk3⟩ ?_))<;>(simp only[go_sem,Nat.add_assoc,Nat.left_eq_add,hjd,e1,hd3,hsv,e3,e4,bfZ,fm,hA2,hgm,Option.isSome,Option.getD];try simp (disch:=omega) only[Iw])| ((with_reducible refine Y8 ?_);try simp only[AQ.then,AQ.blk,reduceIte,Nat.reduceEqDiff])|refine⟨by omega,?_⟩|fail)
     all_goals exact hQ _ _ _ _ _ (.inr rfl) rfl ⟨rfl,congrArg dB (a8A (hno fun h=>hj4 (h.2.2 _ hgm))).symm⟩
    subst hj4
    have hI2:=hnx3 j rfl hok (by omega) fun v hv=>by rw[hgm] at hv;exact(Option.some.inj hv).symm
    repeat' (first| (with_reducible first| (refine hK _ _ _ ?_;clear hK K)| (refine hA ?_;clear hA hB A B)| (refine hB ?_;clear hA hB A B)|refine Z1 ?_|refine Z2 ?_|refine Z3 fun KB hKB=> ?_|refine Z4 (by omega) ?_)| (first| (with_reducible first|refine Y2 fun K hK=> ?_|refine Y3 fun A B hA hB=> ?_)| (with_reducible refine fE ?_)| (refine DE (by omega) ?_)| (refine iJ hp3 ⟨hk1,hk2,hk3⟩ ?_))<;>(simp only[go_sem,Nat.add_assoc,Nat.left_eq_add,hjd,e1,hd3,hsv,e3,bfZ,fm,hA2,hgm,Option.isSome,Option.getD];try simp (disch:=omega) only[Iw])| ((with_reducible refine Y0 ?_);simp only[AQ.then,AQ.blk])|refine⟨by omega,?_⟩| (with_reducible refine hKB _ _ _ ?_)|fail)
    exact hKM _ _ _ (k+1,j.n,vA M [(bT c who j.n).id] j.left) noF _ (by omega) (by dsimp only;omega) (by(repeat' (first| (with_reducible first|exact C1|refine C2 ?_ ?_)| ((with_reducible refine C0 ?_);first|exact CE (by omega) rfl|exact CR (by omega) rfl)| ((with_reducible refine D0 ?_);first|exact CA rfl|refine CJ ?_)|fail));all_goals exact hom (by omega)) aK ⟨by dsimp only;omega,by rw[aA.aC (by omega),aA.aC (by omega)];exact bfZ,aA.bH,hI2⟩
  ·repeat' (first| (with_reducible first| (refine hK _ _ _ ?_;clear hK K)| (refine hB ?_;clear hA hB A B)|refine Z1 ?_|refine Z5 (by omega) ?_|refine hKY _ _ _ ?_)| (with_reducible first|refine Y2 fun K hK=> ?_|refine Y3 fun A B hA hB=> ?_)<;>(simp only[go_sem])| ((with_reducible first|refine Y8 ?_|refine Y9 ?_);try simp only[AQ.then,AQ.blk,reduceIte,Nat.reduceEqDiff])|fail)
   have hk2:k=p.out.length:=by omega
   rw[hk2] at hI
   obtain⟨q1,q2,q3⟩:=hI.end
   exact hQ _ _ _ _ _ (.inr rfl) rfl ⟨rfl,congrArg dB (beT ⟨⟨hn1,hn2⟩,by omega,by omega,⟨hl1,hl2⟩,hqi,q1,q2,q3⟩).symm⟩
theorem a2P {c:Cfg} {who:Nat} {p:fR} (hb:aQ c) (hw:who<3) (hpq:p.queue.length<2^21) (hpo:p.out.length<2^21) (h:K (dB (ptB c who p)) H nx):aB Tryz.prog jK [dA (cU c),dI who,dA (cD p)] H nx K:=
 (a5J c who p hb hw hpq hpo).pure rfl (aI ⟨aE rfl,aE rfl,aE rfl,trivial⟩) fun r hr=>hr▸h
end
end Go.Proofs.YtmccpdapaccnoaaGreat
end
