/- Texts laid together by a program: rules, contracts and the walk that leads to the law. -/
import Derived.Test.YtegiblhkjfiooaaGreatPp9
import Derived.Test.YtegiblhkjfiooaaGreatPp12
import Derived.Test.YtegiblhkjfiooaaGreatPp3
import Derived.Test.YtegiblhkjfiooaaGreatPp11
set_option linter.unusedVariables false
set_option linter.unusedSimpArgs false
set_option linter.unusedSectionVars false
section
namespace Go.Proofs.YtegiblhkjfiooaaGreat
open Go Go.AM
set_option maxRecDepth 100000
set_option maxHeartbeats 8000000
theorem AP:cJ Tryz.prog cO Tryz.f132 jP oE:=cJ.mk Tryz.func132 (by kernel_rfl) AH
theorem BX:cJ Tryz.prog iX Tryz.f66 lB qR:=cJ.mk Tryz.func66 (by kernel_rfl) B8
end Go.Proofs.YtegiblhkjfiooaaGreat
namespace Go.AM
theorem aM.abC {P:Program} {T:Nat} {e:Env} {H:aA} {nx:Nat} {Q:AQ} {zs:List AC} (h: ∀G,G=H→aM P T zs e G nx Q):aM P T zs e H nx Q:=h H rfl
theorem akM {H:aA} {F:Nat→Prop} {nh:Nat} {f:FuncId} {caps:List D1} (h: ∀x∈caps,∃n id row col,id<nh∧x= .ptr n id row col):Cv1 H F id nh (.clo f caps) (.clo f caps):=
 .clo f caps caps rfl fun i x y hx hy=>by
  rw[hx] at hy
  obtain rfl:x=y:=by simpa using hy
  obtain⟨n,id,row,col,h1,rfl⟩:=h x (List.mem_of_getElem? hx)
  exact .inr ⟨n,id,row,col,h1,rfl,rfl⟩
def aaK (V:List (Int×Int)) (k:Nat) (u:List Int):Prop:=u.length=3∧ ∀w,w<3→u.getD w default= -1∨ ∃i,i<k∧V[i]?=some ((w:Int),u.getD w default)
theorem aaK.next {c:Cfg} {s:CSt} {st k:Nat} {u:List Int} {x:Int×Int} (hs:COk c s) (hst:st<4) (h:aaK (cS (aL s st)) k u) (hx:(cS (aL s st))[k]?=some x):
 (x.1=(x.1.toNat:Int)∧x.1.toNat<3)∧u.getD x.1.toNat default<x.2∧aaK (cS (aL s st)) (k+1) (u.set x.1.toNat x.2):=by
 obtain⟨hk,hxk⟩:=List.getElem?_eq_some_iff.1 hx
 have hm:x∈cS (aL s st):=hxk▸List.getElem_mem hk
 obtain⟨hw,h0,h1⟩:=hs.vIn hst hm
 have hw3:x.1.toNat<3:=by omega
 have hwe:x.1=(x.1.toNat:Int):=by omega
 refine⟨⟨hwe,hw3⟩,?_,by simp[h.1],fun w hw3'=> ?_⟩
 ·rcases h.2 _ hw3 with h2|⟨i,hi,h2⟩
  ·omega
  ·obtain⟨hi2,h3⟩:=List.getElem?_eq_some_iff.1 h2
   have h4:=List.pairwise_iff_getElem.1 (hs.slv st hst).inc i k hi2 hk hi
   rw[h3,hxk] at h4
   exact h4 hwe.symm
 ·by_cases he:w=x.1.toNat
  ·right
   refine⟨k,by omega,?_⟩
   rw[he,pY (by rw[h.1];omega),if_pos rfl,hx,←hwe]
  ·rw[pY (by rw[h.1];omega),if_neg he]
   exact(h.2 w hw3').imp (fun h=>h) fun⟨i,hi,h2⟩=>⟨i,by omega,h2⟩
theorem COk.aqC {c:Cfg} {s:CSt} {st:Nat} {x:Int×Int} (hs:COk c s) (hst:st<4) (hm:x∈cS (aL s st)):0≤bK (isC x.2) (aF s x.1.toNat).out∧(bK (isC x.2) (aF s x.1.toNat).out).toNat<(aF s x.1.toNat).out.length∧((aF s x.1.toNat).out.getD (bK (isC x.2) (aF s x.1.toNat).out).toNat default).left=st:=by
 obtain⟨hw,j,hj,h1,h2⟩:=(hs.slv st hst).out x hm
 have hex: ∃j∈(aF s x.1.toNat).out,j.n=x.2:=⟨j,hj,h1⟩
 obtain⟨az9,az2⟩:=PJ hex
 refine⟨cH.2 ⟨j,hj,decide_eq_true h1⟩,az9,?_⟩
 have:=ZO (hs.port x.1.toNat (by omega)).acX (cC az9) hj (by rw[az2,h1])
 rw[this];exact h2
end Go.AM
namespace Go.Proofs.YtegiblhkjfiooaaGreat
open Go Go.AM
set_option maxRecDepth 100000
set_option maxHeartbeats 8000000
section
variable {H : aA} {nx : Nat} {K : D → aA → Nat → Prop}
theorem kA {s:CSt} {st who:Nat} {w n:Int} {u:List Int} {i0 i1 i2:Nat} (hww:w=who) (hu:u.length=3) (hw:who<3) (hn:u.getD who default<n) (hpl:s.bM.length=3) (hol:(aF s who).out.length<2^40)
 (hx:0≤bK (isC n) (aF s who).out) (hx1:(bK (isC n) (aF s who).out).toNat<(aF s who).out.length) (hx2:((aF s who).out.getD (bK (isC n) (aF s who).out).toNat default).left=st)
 (hlt:i0<nx∧i1<nx∧i2<nx) (hd:[i0,i1,i2].Nodup) (o0:H i0=some ⟨3,1,[u.map cI]⟩) (o1:H i1=some ⟨5,1,[eI s]⟩) (o2:H i2=some ⟨1,1,[[cI st]]⟩)
 (h: ∀H' nx',nx≤nx'→H' i0=some ⟨3,1,[(u.set who n).map cI]⟩→(∀id,id<nx→id≠i0→H' id=H id)→K (dB true) H' nx'):
 aB Tryz.prog cO [dI w,dI n,.one (.c (.ptr 3 i0 0 0)),.one (.c (.ptr 5 i1 0 0)),.one (.c (.ptr 1 i2 0 0))] H nx K:=by
 subst hww
 refine AP rfl fun Q hQ=> ?_
 unfold jP
 have hA:bQ nx [i0,i1,i2]:=AM.apart hd (by simp;omega)
 simp only[bQ,eZ] at hA
 obtain⟨p,hpd⟩: ∃p,p=aF s who:=⟨_,rfl⟩
 have hpd':s.bM.getD who default=p:=hpd.symm
 rw[←hpd] at hol hx hx1 hx2
 obtain⟨a,ha⟩: ∃a,a=bK (isC n) p.out:=⟨_,rfl⟩
 have hut:((u.map cI).drop who).take 1=[cI (u.getD who default)]:=by
  rw[List.drop_eq_getElem_cons (by simp;omega)]
  simp[List.getD,show who<u.length by omega]
 have hull:(u.map cI).length=3:=by rw[List.length_map,hu]
 have hle:(who+1≤3)=True:=eq_true (by omega)
 have hou: ∀{H:aA} {nx:Nat} {K:D→aA→Nat→Prop},K (dI a) H nx→aB Tryz.prog kV [dA (cD p),dI n] H nx K:=fun h=>KT (p:=p) hol (aE rfl) (by rw[←ha];exact h)
 rw[←ha] at hx hx1 hx2
 repeat' (first| (with_reducible first| (refine hK _ _ _ ?_;clear hK K)| (refine hB ?_;clear hA hB A B)|refine Z1 ?_|refine Z2 ?_|refine Z5 (by omega) ?_)| (first| (with_reducible first|refine Y2 fun K hK=> ?_|refine Y3 fun A B hA hB=> ?_|refine Y4 (by omega) ?_|refine Y5 (by omega) ?_)| (with_reducible refine oR ?_)| (with_reducible refine hou ?_))<;>(simp only[go_sem,Nat.add_assoc,Nat.left_eq_add,Nat.mul_one,o0,o1,o2,hut,hull,hle,hpd',hx2,hA])| ((with_reducible refine Y8 ?_);try simp only[AQ.then,AQ.blk,reduceIte,Nat.reduceEqDiff])|refine⟨by omega,?_⟩|fail)
 have eu:List.take who (List.map cI u)++[D1.v (.int .i64 n)]++List.drop (who+1) (List.map cI u)=(u.set who n).map cI:=by
  rw[List.map_set,List.set_eq_take_append_cons_drop,if_pos (by simp;omega),List.append_assoc];rfl
 rw[eu]
 exact hQ _ _ _ _ _ (.inr rfl) rfl (h _ _ (by omega) aA.bH fun id e0 e1=>aA.aC e1)
theorem ES (c:Cfg) (s:CSt) (st:Nat) (hb:aQ c) (hs:COk c s) (hst:st<4):aB Tryz.prog iX [dA (cU c),dA (eI s),dI st] .nil 0 fun r _ _=>r.plain=true∧r=dB true:=by
 refine BX rfl fun Q hQ=> ?_
 unfold lB
 have hsl:=hs.sl
 obtain⟨v,hvd⟩: ∃v,v=aL s st:=⟨_,rfl⟩
 have hvd':s.dD.getD st default=v:=hvd.symm
 have hso:=hs.slv st hst
 have hpl:=hso.pl
 have hdl:=hso.dl
 obtain⟨hl1,hl2⟩:=hso.last
 rw[←hvd] at hpl hdl hl1 hl2
 repeat' (first| (with_reducible first| (refine hK _ _ _ ?_;clear hK K)| (refine hB ?_;clear hA hB A B)|refine Z1 ?_|refine Z2 ?_|refine Z3 fun KB hKB=> ?_|refine Z5 (by omega) ?_)| (first| (with_reducible first|refine Y2 fun K hK=> ?_|refine Y3 fun A B hA hB=> ?_|refine Y5 (by omega) ?_)| (with_reducible refine oR ?_))<;>(simp only[go_sem,hvd'])|refine⟨by omega,?_⟩|fail)
 (have hKX:=hKB;clear hKB)
 refine aM.abC fun G0 hG0=> ?_
 have c0:G0 0=some ⟨3,1,[cU c]⟩:=by rw[hG0];rfl
 have c1:G0 1=some ⟨5,1,[eI s]⟩:=by rw[hG0];rfl
 have c2:G0 2=some ⟨1,1,[[cI st]]⟩:=by rw[hG0];rfl
 have c9:G0 9=some ⟨3,1,[gF v]⟩:=by rw[hG0];rfl
 have c28:G0 28=some ⟨3,1,[([-1,-1,-1]:List Int).map cI]⟩:=by rw[hG0];rfl
 clear hG0
 have hp3:=(hC hb).1
 have hlat4:=hb.2.1
 have hV: ∀k,k<v.done.length→(cS (aL s st))[k]?=some (key (v.done.getD k default)):=fun k hk=>by
  rw[←hvd];unfold cS
  rw[List.getElem?_append_left (by simpa using hk)];simp[List.getD,hk]
 have hV2: ∀k,k<v.pipe.length→(cS (aL s st))[v.done.length+k]?=some ((v.pipe.getD k default).who,(v.pipe.getD k default).n):=fun k hk=>by
  rw[←hvd];unfold cS
  rw[List.getElem?_append_right (by simp)];simp[List.getD,hk]
 have hask: ∀x∈cS (aL s st),oA c x.1 x.2:=fun x hx=>by
  obtain⟨hw,h0,h1⟩:=hs.vIn hst hx
  have:=(hs.port x.1.toNat (by omega)).asks (n:=x.2) (by omega) h0 (by omega)
  rwa [show ((x.1.toNat:Nat):Int)=x.1 by omega] at this
 have hol: ∀w,w<3→(aF s w).out.length<2^40:=fun w hw=>by have:=(hs.port w hw).ol;omega
 have hclo: ∀{H:aA} {F:Nat→Prop} {nh:Nat},36≤nh→Cv1 H F id nh (.clo cO [.ptr 3 28 0 0,.ptr 5 1 0 0,.ptr 1 2 0 0]) (.clo cO [.ptr 3 28 0 0,.ptr 5 1 0 0,.ptr 1 2 0 0]):=fun h=>akM fun x hx=>by
  simp only[List.mem_cons,List.not_mem_nil,or_false] at hx
  rcases hx with rfl|rfl|rfl
  ·exact⟨_,_,_,_,by omega,rfl⟩
  ·exact⟨_,_,_,_,by omega,rfl⟩
  ·exact⟨_,_,_,_,by omega,rfl⟩
 refine aM.gP (β:=Nat×List Int) (fun u=>en [(40,dI u.1),(39,dI v.done.length),(38,dS (v.done.map aS)),(9,.one (.c (.clo cO [.ptr 3 28 0 0,.ptr 5 1 0 0,.ptr 1 2 0 0]))),(7,.one (.c (.ptr 3 9 0 0))),(5,.one (.c (.ptr 1 2 0 0))),(3,.one (.c (.ptr 3 0 0 0)))])
  (fun u H1 _=>u.1≤v.done.length∧aaK (cS (aL s st)) u.1 u.2∧H1 28=some ⟨3,1,[u.2.map cI]⟩∧ ∀id,id<36→id≠28→H1 id=G0 id) (fun u=>v.done.length-u.1) (0,[-1,-1,-1])
  ⟨noF,_,by(repeat' (first| (with_reducible first|exact C1|refine C2 ?_ ?_)| ((with_reducible refine C0 ?_);exact CE (by omega) rfl)| ((with_reducible refine D0 ?_);first|exact CA rfl|refine CJ ?_)|fail));all_goals exact hclo (by omega),aK,by dsimp only;omega,⟨rfl,fun w hw=>.inl (by rcases(show w=0∨w=1∨w=2 by omega) with rfl|rfl|rfl<;>rfl)⟩,c28,fun _ _ _=>rfl⟩ ?_
 rintro⟨k,u⟩ H1 nx1 hnx ⟨hk,hI,g28,hfr⟩ KL hKL
 dsimp only at hk hI g28
 have g0:H1 0=some ⟨3,1,[cU c]⟩:=by rw[hfr _ (by omega) (by omega)];exact c0
 have g1:H1 1=some ⟨5,1,[eI s]⟩:=by rw[hfr _ (by omega) (by omega)];exact c1
 have g2:H1 2=some ⟨1,1,[[cI st]]⟩:=by rw[hfr _ (by omega) (by omega)];exact c2
 have g9:H1 9=some ⟨3,1,[gF v]⟩:=by rw[hfr _ (by omega) (by omega)];exact c9
 have hA:bQ nx1 [0,1,2,9,28]:=AM.apart (by simp) (by simp;omega)
 simp only[bQ,eZ] at hA
 by_cases hlt:k<v.done.length
 ·obtain⟨d,hdd⟩: ∃d,d=v.done.getD k default:=⟨_,rfl⟩
  have hx:=hV k hlt
  rw[←hdd] at hx
  have hm:key d∈cS (aL s st):=by obtain⟨h1,h2⟩:=List.getElem?_eq_some_iff.1 hx;exact h2▸List.getElem_mem h1
  obtain⟨⟨hw1,hw2⟩,hn,hI2⟩:=hI.next hs hst hx
  obtain⟨ha1,ha2,ha3⟩:=hs.aqC hst hm
  obtain⟨hr1,hr2⟩:=hso.rsp d (by rw[hdd,←hvd];exact cC hlt)
  have hrl:d.rsp.data.length<2^40:=by have h1:=hr1;unfold pA at h1;omega
  have hdr:=decide_eq_true hr1
  repeat' (first| (with_reducible first| (refine hK _ _ _ ?_;clear hK K)| (refine hA ?_;clear hA hB A B)|refine Z1 ?_|refine Z2 ?_|refine Z3 fun KB hKB=> ?_|refine Z4 (by omega) ?_)| (first| (with_reducible first|refine Y2 fun K hK=> ?_|refine Y3 fun A B hA hB=> ?_)| (refine kA (w:=d.who) (n:=d.n) hw1 hI.1 hw2 hn hs.pl (hol _ hw2) ha1 ha2 ha3 (by omega) (by simp) (by simp only[aA.set,hA,if_false];exact g28) (by simp only[aA.set,hA,if_false];exact g1) (by simp only[aA.set,hA,if_false];exact g2) (fun H' nx' hx' f28 ffr=> ?_)))<;>(simp only[go_sem,Nat.add_assoc,Nat.left_eq_add,hdd.symm,g0,g1,g2,g28,hA])|refine⟨by omega,?_⟩|fail)
  have e0:H' 0=some ⟨3,1,[cU c]⟩:=by rw[ffr _ (by omega) (by omega)];simp only[aA.set,hA,if_false];exact g0
  have ej:H' (nx1+3)=some ⟨5,1,[aS d]⟩:=by rw[ffr _ (by omega) (by omega)];exact aA.bH
  have hfr2: ∀id,id<36→id≠28→H' id=G0 id:=fun id e0 e1=>by rw[ffr id (by omega) e1,aA.aC (by omega)];exact hfr id e0 e1
  have hA':bQ nx' [0,1,2,9,28,nx1+3]:=AM.apart (by simp;omega) (by simp;omega)
  simp only[bQ,eZ] at hA'
  simp only[go_sem,Nat.add_assoc,Nat.left_eq_add,e0,ej,hdr,hA']
  repeat' (first| (with_reducible first| (refine hK _ _ _ ?_;clear hK K)| (refine hB ?_;clear hA hB A B)|refine Z2 ?_)| (first| (with_reducible first|refine Y2 fun K hK=> ?_|refine Y3 fun A B hA hB=> ?_)| (refine I8 hrl ?_)| (refine iJ hp3 (hask _ hm) ?_))<;>(simp only[go_sem,Nat.add_assoc,Nat.left_eq_add,e0,ej,hdr,hr2,hA'];try simp (disch:=omega) only[Iw])| ((with_reducible refine Y0 ?_);simp only[AQ.then,AQ.blk])| (with_reducible refine hKB _ _ _ ?_)|fail)
  exact hKL _ _ _ (k+1,u.set d.who.toNat d.n) noF _ (by omega) (by dsimp only;omega) (by(repeat' (first| (with_reducible first|exact C1|refine C2 ?_ ?_)| ((with_reducible refine C0 ?_);exact CE (by omega) rfl)| ((with_reducible refine D0 ?_);first|exact CA rfl|refine CJ ?_)|fail));all_goals exact hclo (by omega)) aK ⟨by dsimp only;omega,hI2,f28,hfr2⟩
 ·repeat' (first| (with_reducible first| (refine hK _ _ _ ?_;clear hK K)| (refine hB ?_;clear hA hB A B)|refine Z1 ?_|refine Z3 fun KB hKB=> ?_|refine Z5 (by omega) ?_|refine hKX _ _ _ ?_)| (with_reducible first|refine Y2 fun K hK=> ?_|refine Y3 fun A B hA hB=> ?_)<;>(simp only[go_sem,g9])| ((with_reducible refine Y9 ?_);try simp only[AQ.then,AQ.blk,reduceIte,Nat.reduceEqDiff])|fail)
  have hk2:k=v.done.length:=by omega
  subst hk2
  (have hKY:=hKB;clear hKB)
  refine aM.gP (β:=Nat×List Int) (fun u=>en [(73,dI u.1),(72,dI v.pipe.length),(71,dS (v.pipe.map eCJ)),(9,.one (.c (.clo cO [.ptr 3 28 0 0,.ptr 5 1 0 0,.ptr 1 2 0 0]))),(5,.one (.c (.ptr 1 2 0 0))),(3,.one (.c (.ptr 3 0 0 0)))])
   (fun u H1 _=>u.1≤v.pipe.length∧aaK (cS (aL s st)) (v.done.length+u.1) u.2∧H1 28=some ⟨3,1,[u.2.map cI]⟩∧ ∀id,id<36→id≠28→H1 id=G0 id) (fun u=>v.pipe.length-u.1) (0,u)
   ⟨noF,_,by(repeat' (first| (with_reducible first|exact C1|refine C2 ?_ ?_)| ((with_reducible refine C0 ?_);exact CE (by omega) rfl)| ((with_reducible refine D0 ?_);first|exact CA rfl|refine CJ ?_)|fail));all_goals exact hclo (by omega),aK,by dsimp only;omega,hI,g28,hfr⟩ ?_
  clear hI g28 hfr g0 g1 g2 g9 hA
  rintro⟨k,u⟩ H2 nx2 hnx2 ⟨hk,hI,g28,hfr⟩ KM hKM
  dsimp only at hk hI g28
  have g0:H2 0=some ⟨3,1,[cU c]⟩:=by rw[hfr _ (by omega) (by omega)];exact c0
  have g1:H2 1=some ⟨5,1,[eI s]⟩:=by rw[hfr _ (by omega) (by omega)];exact c1
  have g2:H2 2=some ⟨1,1,[[cI st]]⟩:=by rw[hfr _ (by omega) (by omega)];exact c2
  have hA:bQ nx2 [0,1,2,9,28]:=AM.apart (by simp) (by simp;omega)
  simp only[bQ,eZ] at hA
  by_cases hlt:k<v.pipe.length
  ·obtain⟨d,hdd⟩: ∃d,d=v.pipe.getD k default:=⟨_,rfl⟩
   have hx:=hV2 k hlt
   rw[←hdd] at hx
   have hm:(d.who,d.n)∈cS (aL s st):=by obtain⟨h1,h2⟩:=List.getElem?_eq_some_iff.1 hx;exact h2▸List.getElem_mem h1
   obtain⟨⟨hw1,hw2⟩,hn,hI2⟩:=hI.next hs hst hx
   obtain⟨ha1,ha2,ha3⟩:=hs.aqC hst hm
   dsimp only at hw1 hw2 hn hI2 ha1 ha2 ha3
   obtain⟨⟨hl1',hl2'⟩,hl3'⟩:=hso.left k (by rw[←hvd];exact hlt)
   rw[←hvd,←hdd] at hl1' hl2' hl3'
   have hdl:=decide_eq_true (show 0≤d.left∧d.left≤c.lat.getD st default from ⟨hl1',hl2'⟩)
   rcases Nat.eq_zero_or_pos k with h0|h0
   ·have hz3:((k:Int)=0)=True:=eq_true (by omega)
    have hz4:(0<(k:Int))=False:=eq_false (by omega)
    have hlk:True:=trivial
    repeat' (first| (with_reducible first| (refine hK _ _ _ ?_;clear hK K)| (refine hA ?_;clear hA hB A B)|refine Z1 ?_|refine Z2 ?_|refine Z3 fun KB hKB=> ?_|refine Z4 (by omega) ?_)| (first| (with_reducible first|refine Y2 fun K hK=> ?_|refine Y3 fun A B hA hB=> ?_)| (refine kA (w:=d.who) (n:=d.n) hw1 hI.1 hw2 hn hs.pl (hol _ hw2) ha1 ha2 ha3 (by omega) (by simp) (by simp only[aA.set,hA,if_false];exact g28) (by simp only[aA.set,hA,if_false];exact g1) (by simp only[aA.set,hA,if_false];exact g2) (fun H' nx' hx' f28 ffr=> ?_)))<;>(simp only[go_sem,Nat.add_assoc,Nat.left_eq_add,hdd.symm,g0,g1,g2,g28,hz3,hz4,hA])|refine⟨by omega,?_⟩|fail)
    have hfr2: ∀id,id<36→id≠28→H' id=G0 id:=fun id e0 e1=>by rw[ffr id (by omega) e1,aA.aC (by omega)];exact hfr id e0 e1
    have e0:H' 0=some ⟨3,1,[cU c]⟩:=(hfr2 _ (by omega) (by omega)).trans c0
    have e2:H' 2=some ⟨1,1,[[cI st]]⟩:=(hfr2 _ (by omega) (by omega)).trans c2
    have ej:H' (nx2+4)=some ⟨3,1,[eCJ d]⟩:=by rw[ffr _ (by omega) (by omega)];exact aA.bH
    simp only[go_sem,Nat.add_assoc,Nat.left_eq_add,e0,e2,ej,hdl,hz3,hz4,hA]
    repeat' (first| (with_reducible first| (refine hK _ _ _ ?_;clear hK K)| (refine hB ?_;clear hA hB A B)|refine Z2 ?_)| (first| (with_reducible first|refine Y2 fun K hK=> ?_|refine Y3 fun A B hA hB=> ?_)| (with_reducible refine fE ?_))<;>(simp only[go_sem,Nat.add_assoc,Nat.left_eq_add,e0,e2,ej,hdl,hz3,hz4,hlk,hA];try simp (disch:=omega) only[Iw])| ((with_reducible refine Y0 ?_);simp only[AQ.then,AQ.blk])|refine⟨by omega,?_⟩| (with_reducible refine hKB _ _ _ ?_)|fail)
    all_goals exact hKM _ _ _ (k+1,u.set d.who.toNat d.n) noF _ (by omega) (by dsimp only;omega) (by(repeat' (first| (with_reducible first|exact C1|refine C2 ?_ ?_)| ((with_reducible refine C0 ?_);exact CE (by omega) rfl)| ((with_reducible refine D0 ?_);first|exact CA rfl|refine CJ ?_)|fail));all_goals exact hclo (by omega)) aK ⟨by dsimp only;omega,hI2,f28,hfr2⟩
   ·have hz3:((k:Int)=0)=False:=eq_false (by omega)
    have hz4:(0<(k:Int))=True:=eq_true (by omega)
    have hlk:d.left=c.lat.getD st default:=hl3' h0
    repeat' (first| (with_reducible first| (refine hK _ _ _ ?_;clear hK K)| (refine hA ?_;clear hA hB A B)|refine Z1 ?_|refine Z2 ?_|refine Z3 fun KB hKB=> ?_|refine Z4 (by omega) ?_)| (first| (with_reducible first|refine Y2 fun K hK=> ?_|refine Y3 fun A B hA hB=> ?_)| (refine kA (w:=d.who) (n:=d.n) hw1 hI.1 hw2 hn hs.pl (hol _ hw2) ha1 ha2 ha3 (by omega) (by simp) (by simp only[aA.set,hA,if_false];exact g28) (by simp only[aA.set,hA,if_false];exact g1) (by simp only[aA.set,hA,if_false];exact g2) (fun H' nx' hx' f28 ffr=> ?_)))<;>(simp only[go_sem,Nat.add_assoc,Nat.left_eq_add,hdd.symm,g0,g1,g2,g28,hz3,hz4,hA])|refine⟨by omega,?_⟩|fail)
    have hfr2: ∀id,id<36→id≠28→H' id=G0 id:=fun id e0 e1=>by rw[ffr id (by omega) e1,aA.aC (by omega)];exact hfr id e0 e1
    have e0:H' 0=some ⟨3,1,[cU c]⟩:=(hfr2 _ (by omega) (by omega)).trans c0
    have e2:H' 2=some ⟨1,1,[[cI st]]⟩:=(hfr2 _ (by omega) (by omega)).trans c2
    have ej:H' (nx2+4)=some ⟨3,1,[eCJ d]⟩:=by rw[ffr _ (by omega) (by omega)];exact aA.bH
    simp only[go_sem,Nat.add_assoc,Nat.left_eq_add,e0,e2,ej,hdl,hz3,hz4,hA]
    repeat' (first| (with_reducible first| (refine hK _ _ _ ?_;clear hK K)| (refine hB ?_;clear hA hB A B)|refine Z2 ?_)| (with_reducible first|refine Y2 fun K hK=> ?_|refine Y3 fun A B hA hB=> ?_)<;>(simp only[go_sem,Nat.add_assoc,Nat.left_eq_add,e0,e2,ej,hdl,hz3,hz4,hlk,hA];try simp (disch:=omega) only[Iw])| ((with_reducible refine Y0 ?_);simp only[AQ.then,AQ.blk])|refine⟨by omega,?_⟩| (with_reducible refine hKB _ _ _ ?_)|fail)
    all_goals exact hKM _ _ _ (k+1,u.set d.who.toNat d.n) noF _ (by omega) (by dsimp only;omega) (by(repeat' (first| (with_reducible first|exact C1|refine C2 ?_ ?_)| ((with_reducible refine C0 ?_);exact CE (by omega) rfl)| ((with_reducible refine D0 ?_);first|exact CA rfl|refine CJ ?_)|fail));all_goals exact hclo (by omega)) aK ⟨by dsimp only;omega,hI2,f28,hfr2⟩
  ·repeat' (first| (with_reducible first| (refine hK _ _ _ ?_;clear hK K)| (refine hB ?_;clear hA hB A B)|refine Z1 ?_|refine Z5 (by omega) ?_|refine hKY _ _ _ ?_)| (with_reducible first|refine Y2 fun K hK=> ?_|refine Y3 fun A B hA hB=> ?_)<;>(simp only[go_sem])| ((with_reducible first|refine Y8 ?_|refine Y9 ?_);try simp only[AQ.then,AQ.blk,reduceIte,Nat.reduceEqDiff])|fail)
   exact hQ _ _ _ _ _ (.inr rfl) rfl ⟨rfl,rfl⟩
theorem EL {c:Cfg} {s:CSt} {st:Nat} (hb:aQ c) (hs:COk c s) (hst:st<4) (h:K (dB true) H nx):aB Tryz.prog iX [dA (cU c),dA (eI s),dI st] H nx K:=
 (ES c s st hb hs hst).pure rfl (aI ⟨aE rfl,aE rfl,aE rfl,trivial⟩) fun r hr=>hr▸h
end
end Go.Proofs.YtegiblhkjfiooaaGreat
end
section
namespace Go.AM
theorem agO {M:List (List Int×Int)} {l l':List Int} {n:Int}:jT (vA M l n) l'=if l'=l then some n else jT M l':=by
 induction M with
 |nil=>
  by_cases h:l'=l
  ·simp[vA,jT,h]
  ·simp[vA,jT,h]
 |cons p M ih=>
  obtain⟨a,b⟩:=p
  simp only[vA]
  by_cases hl:l=a
  ·subst hl
   rw[if_pos rfl]
   by_cases h:l'=l
   ·simp[jT,h]
   ·simp[jT,h]
  ·rw[if_neg hl]
   unfold jT at ih ⊢
   simp only[List.find?_cons]
   by_cases h:l'=a
   ·subst h
    simp[Ne.symm hl]
   ·simp only[h,decide_false]
    rw[ih]
def XM (c:Cfg) (who:Nat) (out:List fC) (k:Nat) (M:List (List Int×Int)):Prop:=∀i v,jT M [i]=some v→∃j∈out.take k,(bT c who j.n).id=i∧j.left=v
theorem XM.next {c:Cfg} {who:Nat} {out:List fC} {k:Nat} {M:List (List Int×Int)} (h:XM c who out k M) (hk:k<out.length):XM c who out (k+1) (vA M [(bT c who (out.getD k default).n).id] (out.getD k default).left):=by
 intro i v hv
 rw[agO] at hv
 have hm:out.getD k default∈out.take (k+1):=by
  rw[nK hk];simp
 split at hv
 ·rename_i he
  simp only[List.cons.injEq,and_true] at he
  simp only[Option.some.injEq] at hv
  exact⟨_,hm,he.symm,hv⟩
 ·obtain⟨j,h1,h2⟩:=h i v hv
  exact⟨j,(List.take_sublist_take_left (by omega)).mem h1,h2⟩
end Go.AM
namespace Go.Proofs.YtegiblhkjfiooaaGreat
open Go Go.AM
set_option maxRecDepth 100000
set_option maxHeartbeats 8000000
theorem EG:cJ Tryz.prog jK Tryz.f65 lL sF:=cJ.mk Tryz.func65 (by kernel_rfl) EM
section
variable {H : aA} {nx : Nat} {K : D → aA → Nat → Prop}
theorem FK (c:Cfg) (who:Nat) (p:fR) (hb:aQ c) (hw:who<3) (hp:mD c who p):aB Tryz.prog jK [dA (cU c),dI who,dA (cD p)] .nil 0 fun r _ _=>r.plain=true∧r=dB true:=by
 refine EG rfl fun Q hQ=> ?_
 unfold lL
 obtain⟨hp3,hpr⟩:=hC hb
 have hprw:=hpr who
 have hml:=hb.1.1
 obtain⟨hn1,hn2⟩:=hp.next
 obtain⟨hq1,hq2⟩:=hp.ql
 have hol:=hp.ol
 obtain⟨hl1,hl2⟩:=hp.last
 have hd1:=decide_eq_true (show 0≤p.next∧p.next≤(c.cP.getD who default).length from ⟨hn1,hn2⟩)
 have hd2:=decide_eq_true (show 0≤p.last∧p.last≤3 from ⟨hl1,hl2⟩)
 repeat' (first| (with_reducible first| (refine hK _ _ _ ?_;clear hK K)| (refine hB ?_;clear hA hB A B)|refine Z1 ?_|refine Z2 ?_|refine Z3 fun KB hKB=> ?_)| (first| (with_reducible first|refine Y2 fun K hK=> ?_|refine Y3 fun A B hA hB=> ?_|refine Y5 (by omega) ?_)| (with_reducible refine fE ?_))<;>(simp only[go_sem,hd1,hd2];try simp (disch:=omega) only[Iw])|refine⟨by omega,?_⟩|fail)
 (have hKX:=hKB;clear hKB)
 refine aM.abC fun G0 hG0=> ?_
 have c0:G0 0=some ⟨3,1,[cU c]⟩:=by rw[hG0];rfl
 have c1:G0 1=some ⟨4,1,[cD p]⟩:=by rw[hG0];rfl
 clear hG0
 refine aM.gP (β:=Nat) (fun k=>en [(57,dI k),(56,dI p.queue.length),(55,dS (p.queue.map aJ)),(7,dI (p.next-p.queue.length)),(5,.one (.c (.ptr 4 1 0 0))),(3,.one (.c (.ptr 3 0 0 0))),(1,dI who)])
  (fun k H1 _=>k≤p.queue.length∧ ∀id,id<45→H1 id=G0 id) (fun k=>p.queue.length-k) 0 ⟨noF,_,by repeat' (first| (with_reducible first|exact C1|refine C2 ?_ ?_)| ((with_reducible refine C0 ?_);exact CE (by omega) rfl)| ((with_reducible refine D0 ?_);first|exact CA rfl|refine CJ ?_)|fail),aK,by omega,fun _ _=>rfl⟩ ?_
 rintro k H1 nx1 hnx ⟨hk,hfr⟩ KL hKL
 have g0:H1 0=some ⟨3,1,[cU c]⟩:=by rw[hfr _ (by omega)];exact c0
 have g1:H1 1=some ⟨4,1,[cD p]⟩:=by rw[hfr _ (by omega)];exact c1
 have hA:bQ nx1 [0,1]:=AM.apart (by simp) (by simp;omega)
 simp only[bQ,eZ] at hA
 by_cases hlt:k<p.queue.length
 ·have hqk:=hp.queue k hlt
  repeat' (first| (with_reducible first| (refine hK _ _ _ ?_;clear hK K)| (refine hA ?_;clear hA hB A B)| (refine hB ?_;clear hA hB A B)|refine Z1 ?_|refine Z2 ?_|refine Z3 fun KB hKB=> ?_|refine Z4 (by omega) ?_|refine Z5 (by omega) ?_)| (with_reducible first|refine Y2 fun K hK=> ?_|refine Y3 fun A B hA hB=> ?_)<;>(simp only[go_sem];try simp (disch:=omega) only[Iw])| ((with_reducible refine Y0 ?_);simp only[AQ.then,AQ.blk])|refine⟨by omega,?_⟩| (with_reducible refine hKB _ _ _ ?_)|fail)
  exact hKL _ _ _ (k+1) noF _ (by omega) (by omega) (by repeat' (first| (with_reducible first|exact C1|refine C2 ?_ ?_)| ((with_reducible refine C0 ?_);exact CE (by omega) rfl)| ((with_reducible refine D0 ?_);first|exact CA rfl|refine CJ ?_)|fail)) aK ⟨by omega,hfr⟩
 ·repeat' (first| (with_reducible first| (refine hK _ _ _ ?_;clear hK K)| (refine hB ?_;clear hA hB A B)|refine Z1 ?_|refine Z3 fun KB hKB=> ?_|refine Z5 (by omega) ?_|refine hKX _ _ _ ?_)| (with_reducible first|refine Y2 fun K hK=> ?_|refine Y3 fun A B hA hB=> ?_)<;>(simp only[go_sem,Nat.add_assoc,Nat.left_eq_add,g0,g1,hA])| ((with_reducible refine Y9 ?_);try simp only[AQ.then,AQ.blk,reduceIte,Nat.reduceEqDiff])|fail)
  (have hKY:=hKB;clear hKB)
  have hom: ∀{H:aA} {F:Nat→Prop} {nh:Nat},nx1+8≤nh→Cv1 H F id nh (.omap (nx1+2)) (.omap (nx1+2)):=fun h=>.omap _ (by omega)
  have hout: ∀k,k<p.out.length→p.out.getD k default∈p.out:=fun k hk=>cC hk
  refine aM.gP (β:=Nat×Int×List (List Int×Int)) (fun u=>en [(72,dI u.1),(71,dI p.out.length),(70,dS (p.out.map eCJ)),(11,.one (.c (.omap (nx1+2)))),(10,dI u.2.1),(7,dI (p.next-p.queue.length)),(3,.one (.c (.ptr 3 0 0 0))),(1,dI who)])
   (fun u H2 _=>u.1≤p.out.length∧H2 0=some ⟨3,1,[cU c]⟩∧H2 (nx1+2)=some (u4 ⟨0,false,u.2.2⟩)∧XM c who p.out u.1 u.2.2∧(-1≤u.2.1∧u.2.1≤1000)∧ ∀i,u.1≤i→i<p.out.length→u.2.1<(p.out.getD i default).n) (fun u=>p.out.length-u.1) (0,-1,[])
   ⟨noF,_,by(repeat' (first| (with_reducible first|exact C1|refine C2 ?_ ?_)| ((with_reducible refine C0 ?_);first|exact CE (by omega) rfl|exact CR (by omega) rfl)| ((with_reducible refine D0 ?_);first|exact CA rfl|refine CJ ?_)|fail));all_goals exact hom (by omega),aK,by dsimp only;omega,by rw[aA.aC (by omega)];exact g0,aA.bH,fun i v hv=>by simp[jT] at hv,by dsimp only;omega,fun i _ hi=>by have:=(hp.out _ (hout i hi)).2.1.1;dsimp only;omega⟩ ?_
  rintro⟨k,last,M⟩ H2 nx2 hnx2 ⟨hk,f0,fm,hM,hla,hlast⟩ KM hKM
  dsimp only at hk fm hM hla hlast
  have hA2:bQ nx2 [0,nx1+2]:=AM.apart (by simp) (by simp;omega)
  simp only[bQ,eZ] at hA2
  by_cases hlt:k<p.out.length
  ·obtain⟨j,hjd⟩: ∃j,j=p.out.getD k default:=⟨_,rfl⟩
   have hjm:=hout k hlt
   have hM2:=hM.next hlt
   have hlk:=hlast k (Nat.le_refl _) hlt
   rw[←hjd] at hjm hM2 hlk
   obtain⟨ho1,⟨ho2,ho3⟩,ho4⟩:=hp.out j hjm
   have hd3:=decide_eq_true (show last+1≤j.n∧j.n≤p.next-p.queue.length-1 by omega)
   have hsv:gZ c.map (List.getD (c.cP.getD who default) j.n.toNat default)=j.left:=ho4.symm
   have hask:oA c who j.n:=hp.asks hw ho2 (by omega)
   obtain⟨hk1,hk2,hk3⟩:=hask
   have hnext: ∀i,k+1≤i→i<p.out.length→j.n<(p.out.getD i default).n:=fun i h1 h2=>by
    have:=List.pairwise_iff_getElem.1 hp.acX k i hlt h2 (by omega)
    rw[hjd];simpa [List.getD,hlt,h2] using this
   have hsame: ∀v,jT M [(bT c who j.n).id]=some v→v=j.left:=fun v hv=>by
    obtain⟨j',h1,h2,h3⟩:=hM _ _ hv
    rw[←h3]
    exact hp.akF j' (List.mem_of_mem_take h1) j hjm h2
   cases hgm:jT M [(bT c who j.n).id] with
   |none=>
    repeat' (first| (with_reducible first| (refine hK _ _ _ ?_;clear hK K)| (refine hA ?_;clear hA hB A B)| (refine hB ?_;clear hA hB A B)|refine Z1 ?_|refine Z2 ?_|refine Z3 fun KB hKB=> ?_|refine Z4 (by omega) ?_)| (first| (with_reducible first|refine Y2 fun K hK=> ?_|refine Y3 fun A B hA hB=> ?_|refine Y5 (by omega) ?_)| (with_reducible refine fE ?_)| (refine DE (by omega) ?_)| (refine iJ hp3 ⟨hk1,hk2,hk3⟩ ?_))<;>(simp only[go_sem,Nat.add_assoc,Nat.left_eq_add,hjd.symm,hd3,hsv,f0,fm,hA2,hgm,Option.isSome,Option.getD];try simp (disch:=omega) only[Iw])| ((with_reducible refine Y0 ?_);simp only[AQ.then,AQ.blk])|refine⟨by omega,?_⟩| (with_reducible refine hKB _ _ _ ?_)|fail)
    exact hKM _ _ _ (k+1,j.n,vA M [(bT c who j.n).id] j.left) noF _ (by omega) (by dsimp only;omega) (by(repeat' (first| (with_reducible first|exact C1|refine C2 ?_ ?_)| ((with_reducible refine C0 ?_);first|exact CE (by omega) rfl|exact CR (by omega) rfl)| ((with_reducible refine D0 ?_);first|exact CA rfl|refine CJ ?_)|fail));all_goals exact hom (by omega)) aK ⟨by dsimp only;omega,by rw[aA.aC (by omega),aA.aC (by omega)];exact f0,aA.bH,hM2,by dsimp only;omega,hnext⟩
   |some v=>
    obtain rfl:=hsame v hgm
    repeat' (first| (with_reducible first| (refine hK _ _ _ ?_;clear hK K)| (refine hA ?_;clear hA hB A B)| (refine hB ?_;clear hA hB A B)|refine Z1 ?_|refine Z2 ?_|refine Z3 fun KB hKB=> ?_|refine Z4 (by omega) ?_)| (first| (with_reducible first|refine Y2 fun K hK=> ?_|refine Y3 fun A B hA hB=> ?_|refine Y5 (by omega) ?_)| (with_reducible refine fE ?_)| (refine DE (by omega) ?_)| (refine iJ hp3 ⟨hk1,hk2,hk3⟩ ?_))<;>(simp only[go_sem,Nat.add_assoc,Nat.left_eq_add,hjd.symm,hd3,hsv,f0,fm,hA2,hgm,Option.isSome,Option.getD];try simp (disch:=omega) only[Iw])| ((with_reducible refine Y0 ?_);simp only[AQ.then,AQ.blk])|refine⟨by omega,?_⟩| (with_reducible refine hKB _ _ _ ?_)|fail)
    exact hKM _ _ _ (k+1,j.n,vA M [(bT c who j.n).id] j.left) noF _ (by omega) (by dsimp only;omega) (by(repeat' (first| (with_reducible first|exact C1|refine C2 ?_ ?_)| ((with_reducible refine C0 ?_);first|exact CE (by omega) rfl|exact CR (by omega) rfl)| ((with_reducible refine D0 ?_);first|exact CA rfl|refine CJ ?_)|fail));all_goals exact hom (by omega)) aK ⟨by dsimp only;omega,by rw[aA.aC (by omega),aA.aC (by omega)];exact f0,aA.bH,hM2,by dsimp only;omega,hnext⟩
  ·repeat' (first| (with_reducible first| (refine hK _ _ _ ?_;clear hK K)| (refine hB ?_;clear hA hB A B)|refine Z1 ?_|refine Z5 (by omega) ?_|refine hKY _ _ _ ?_)| (with_reducible first|refine Y2 fun K hK=> ?_|refine Y3 fun A B hA hB=> ?_)<;>(simp only[go_sem])| ((with_reducible first|refine Y8 ?_|refine Y9 ?_);try simp only[AQ.then,AQ.blk,reduceIte,Nat.reduceEqDiff])|fail)
   exact hQ _ _ _ _ _ (.inr rfl) rfl ⟨rfl,rfl⟩
theorem FQ {c:Cfg} {who:Nat} {p:fR} (hb:aQ c) (hw:who<3) (hp:mD c who p) (h:K (dB true) H nx):aB Tryz.prog jK [dA (cU c),dI who,dA (cD p)] H nx K:=
 (FK c who p hb hw hp).pure rfl (aI ⟨aE rfl,aE rfl,aE rfl,trivial⟩) fun r hr=>hr▸h
end
end Go.Proofs.YtegiblhkjfiooaaGreat
end
section
namespace Go.Proofs.YtegiblhkjfiooaaGreat
open Go Go.AM
set_option maxRecDepth 100000
def kM:AC:=
 (.seq (.region [rq 0 1 (.box true (.tm 0)),
 rq 1 2 (.alloc [OZ,OZ,OZ,OZ,OZ])] 2 [1,2])
 (.seq (.region [RF 0 8 0 1,
 ⟨1,(some 9),.load 2 true (.tm 8),none,[13],[],false⟩,
 RF 3 11 2 1,
 ⟨4,(some 12),.load 1 false (.tm 11),none,[13],[],true⟩,
 RF 6 14 3 1,
 ⟨7,(some 15),.load 1 false (.tm 14),none,[13],[],true⟩,
 RF 9 17 4 1,
 ⟨10,(some 18),.load 1 false (.tm 17),none,[13],[],true⟩,
 rq 13 3 (.alloc [OZ,OZ,OZ,OZ,OZ]),
 ⟨2,(some 10),.call fL [(.tm 9)],none,[13],[4,7,10],false⟩,
 ⟨5,(some 13),.call fY [(.tm 12)],none,[13],[7,10],false⟩,
 ⟨8,(some 16),.call fM [(.tm 15)],none,[13],[10],false⟩,
 ⟨11,(some 19),.call eO [(.tm 18)],none,[13],[],false⟩,
 rq 12 20 (.build [OZ,OZ,OZ,OZ,OZ] [(0,2,(.tm 10)),(2,1,(.tm 13)),(3,1,(.tm 16)),(4,1,(.tm 19))]),
 rn 14 (.store 5 true (.tm 3) (.tm 20))] 15 [1,2,3])
 (.seq (.seq (.region [RF 0 21 2 1,
 RL 1 22 21,
 rq 2 23 (.len false (.tm 22)),
 rq 3 24 (.move (ki 0))] 4 [1,2,3,22,23,24])
 (.block 0
 (.loop
 (.seq (.region [rq 0 25 (.bin .lss (.tm 24) (.tm 23))] 1 [1,2,3,22,23,24,25])
 (.seq (.cond (.tm 25)
 .skip
 (.exit 0))
 (.seq (.block 1
 (.seq (.region [RM 0 26 24,
 rq 1 27 (.idx 4 (.tm 22) (.tm 24)),
 rq 2 28 (.load 4 true (.tm 27)),
 rq 3 5 (.alloc [VZ,OZ,OZ,VZ]),
 RM 4 4 26,
 rn 5 (.store 4 true (.tm 5) (.tm 28))] 6 [1,2,3,4,5,22,23,24])
 (.region [RF 0 29 2 3,
 ⟨1,(some 30),.load 1 false (.tm 29),none,[],[],true⟩,
 RM 2 31 4,
 RF 3 32 2 3,
 ⟨4,(some 33),.load 1 false (.tm 32),none,[],[],true⟩,
 RM 5 34 4,
 RF 6 35 1 5,
 RL 7 36 35,
 RF 9 38 2 5,
 ⟨10,(some 39),.load 1 false (.tm 38),none,[],[],true⟩,
 ⟨8,(some 37),.call eX [(.tm 36)],none,[],[1,4,10],false⟩,
 ⟨11,(some 40),.call eK [(.tm 39)],none,[],[1,4],false⟩,
 rq 12 41 (.idx 4 (.tm 30) (.tm 31)),
 RF 13 42 1 41,
 ⟨14,none,.store 1 false (.tm 42) (.tm 37),none,[],[4],false⟩,
 rq 15 43 (.idx 4 (.tm 33) (.tm 34)),
 RF 16 44 2 43,
 rn 17 (.store 1 false (.tm 44) (.tm 40))] 18 [1,2,3,22,23,24])))
 (.region [rq 0 45 (.bin .add (.tm 24) (ki 1)),
 RM 1 24 45] 2 [1,2,3,22,23,24])))))))
 (.seq (.seq (.region [RF 0 46 3 1,
 RL 1 47 46,
 rq 2 48 (.len false (.tm 47)),
 rq 3 49 (.move (ki 0))] 4 [2,3,47,48,49])
 (.block 2
 (.loop
 (.seq (.region [rq 0 50 (.bin .lss (.tm 49) (.tm 48))] 1 [2,3,47,48,49,50])
 (.seq (.cond (.tm 50)
 .skip
 (.exit 2))
 (.seq (.block 3
 (.seq (.region [RM 0 51 49,
 rq 1 52 (.idx 3 (.tm 47) (.tm 49)),
 rq 2 53 (.load 3 true (.tm 52)),
 rq 3 7 (.alloc [OZ,OZ,VZ]),
 RM 4 6 51,
 rn 5 (.store 3 true (.tm 7) (.tm 53))] 6 [2,3,6,7,47,48,49])
 (.region [RF 0 54 3 3,
 ⟨1,(some 55),.load 1 false (.tm 54),none,[],[],true⟩,
 RM 2 56 6,
 RF 3 57 3 3,
 ⟨4,(some 58),.load 1 false (.tm 57),none,[],[],true⟩,
 RM 5 59 6,
 RF 6 60 0 7,
 RL 7 61 60,
 RF 9 63 1 7,
 ⟨10,(some 64),.load 1 false (.tm 63),none,[],[],true⟩,
 ⟨8,(some 62),.call eK [(.tm 61)],none,[],[1,4,10],false⟩,
 ⟨11,(some 65),.call eO [(.tm 64)],none,[],[1,4],false⟩,
 rq 12 66 (.idx 3 (.tm 55) (.tm 56)),
 RF 13 67 0 66,
 ⟨14,none,.store 1 false (.tm 67) (.tm 62),none,[],[4],false⟩,
 rq 15 68 (.idx 3 (.tm 58) (.tm 59)),
 RF 16 69 1 68,
 rn 17 (.store 1 false (.tm 69) (.tm 65))] 18 [2,3,47,48,49])))
 (.region [rq 0 70 (.bin .add (.tm 49) (ki 1)),
 RM 1 49 70] 2 [2,3,47,48,49])))))))
 (.seq (.region [rq 0 71 (.load 5 true (.tm 3)),
 rn 1 (.store 5 true (.tm 2) (.tm 71))] 2 [2])
 .ret)))))
def BC:List Cert:=[⟨[],[1,2]⟩,⟨[cz 0,(1,[13],[],false),cz 3,(4,[13],[],true),cz 6,(7,[13],[],true),cz 9,(10,[13],[],true),cz 13,(2,[13],[4,7,10],false),(5,[13],[7,10],false),(8,[13],[10],false),(11,[13],[],false),cz 12,cz 14],[1,2,3]⟩,⟨[],[1,2,3,22,23,24]⟩,⟨[],[1,2,3,22,23,24,25]⟩,⟨[],[1,2,3,4,5,22,23,24]⟩,⟨[cz 0,(1,[],[],true),cz 2,cz 3,(4,[],[],true),cz 5,cz 6,cz 7,cz 9,(10,[],[],true),(8,[],[1,4,10],false),(11,[],[1,4],false),cz 12,cz 13,(14,[],[4],false),cz 15,cz 16,cz 17],[1,2,3,22,23,24]⟩,⟨[],[1,2,3,22,23,24]⟩,⟨[],[2,3,47,48,49]⟩,⟨[],[2,3,47,48,49,50]⟩,⟨[],[2,3,6,7,47,48,49]⟩,⟨[cz 0,(1,[],[],true),cz 2,cz 3,(4,[],[],true),cz 5,cz 6,cz 7,cz 9,(10,[],[],true),(8,[],[1,4,10],false),(11,[],[1,4],false),cz 12,cz 13,(14,[],[4],false),cz 15,cz 16,cz 17],[2,3,47,48,49]⟩,⟨[],[2,3,47,48,49]⟩,⟨[],[2]⟩]
def pR:List aW:=[.cell 2 5 true]
theorem AZ:aO Tryz.prog Tryz.f63 BC=some (kM,pR):=by kernel_rfl
def iV:AC:=
 (.seq (.region [rq 0 2 (.move (.kv (.slice none 0 0)))] 1 [0])
 (.seq (.region [RM 0 3 0,
 rq 1 4 (.call dL [(.tm 3)]),
 rq 2 5 (.call dV [(.tm 4)]),
 RM 3 2 5] 4 [2])
 .ret))
def x9:List Cert:=[⟨[],[0]⟩,⟨[],[2]⟩]
def mE:List aW:=[.tm 2]
theorem xQ:aO Tryz.prog Tryz.f126 x9=some (iV,mE):=by kernel_rfl
theorem yL:aN Tryz.prog fY Tryz.f126 iV mE:=
 aN.mk Tryz.func126 (by kernel_rfl) xQ
def iB:AC:=
 (.seq (.region [rq 0 2 (.move (.kv (.slice none 0 0)))] 1 [0])
 (.seq (.region [RM 0 3 0,
 rq 1 4 (.call cZ [(.tm 3)]),
 rq 2 5 (.call dE [(.tm 4)]),
 RM 3 2 5] 4 [2])
 .ret))
def wH:List Cert:=[⟨[],[0]⟩,⟨[],[2]⟩]
def lZ:List aW:=[.tm 2]
theorem wJ:aO Tryz.prog Tryz.f127 wH=some (iB,lZ):=by kernel_rfl
theorem wE:aN Tryz.prog fM Tryz.f127 iB lZ:=
 aN.mk Tryz.func127 (by kernel_rfl) wJ
def i9:AC:=
 (.seq (.region [rq 0 2 (.move (.kv (.slice none 0 0)))] 1 [0])
 (.seq (.region [RM 0 3 0,
 rq 1 4 (.call eE [(.tm 3)]),
 rq 2 5 (.call eQ [(.tm 4)]),
 RM 3 2 5] 4 [2])
 .ret))
def y5:List Cert:=[⟨[],[0]⟩,⟨[],[2]⟩]
def nN:List aW:=[.tm 2]
theorem yS:aO Tryz.prog Tryz.f128 y5=some (i9,nN):=by kernel_rfl
theorem y7:aN Tryz.prog eK Tryz.f128 i9 nN:=
 aN.mk Tryz.func128 (by kernel_rfl) yS
def fV:AC:=
 (.seq (.region [rq 0 2 (.move (.kv (.slice none 0 0)))] 1 [0])
 (.seq (.region [RM 0 3 0,
 RM 1 4 0,
 rq 2 5 (.len false (.tm 4)),
 RM 3 6 0,
 rq 4 7 (.len false (.tm 6)),
 rq 5 8 (.slc 4 (.tm 3) none (some (.tm 5)) (some (.tm 7))),
 RM 6 2 8] 7 [2])
 .ret))
def sB:List Cert:=[⟨[],[0]⟩,⟨[],[2]⟩]
def jU:List aW:=[.tm 2]
theorem rW:aO Tryz.prog Tryz.f193 sB=some (fV,jU):=by kernel_rfl
theorem r9:aN Tryz.prog dV Tryz.f193 fV jU:=
 aN.mk Tryz.func193 (by kernel_rfl) rW
def fN:AC:=
 (.seq (.region [rq 0 2 (.move (.kv (.slice none 0 0)))] 1 [0])
 (.seq (.seq (.region [RM 0 3 0,
 rq 1 4 (.xop (.qJ false) [(.tm 3)])] 2 [0,4])
 (.cond (.tm 4)
 (.seq (.region [rq 0 2 (.move (.kv (.slice none 0 0)))] 1 [2])
 .ret)
 .skip))
 (.seq (.region [rq 0 5 (.bC 4 0 [VZ,OZ,OZ,VZ] []),
 RM 1 6 0,
 rq 2 7 (.append 4 (.tm 5) (.tm 6)),
 RM 3 2 7] 4 [2])
 .ret)))
def qI:List Cert:=[⟨[],[0]⟩,⟨[],[0,4]⟩,⟨[],[2]⟩,⟨[],[2]⟩]
def jI:List aW:=[.tm 2]
theorem qP:aO Tryz.prog Tryz.f194 qI=some (fN,jI):=by kernel_rfl
theorem qV:aN Tryz.prog dL Tryz.f194 fN jI:=
 aN.mk Tryz.func194 (by kernel_rfl) qP
def fG:AC:=
 (.seq (.region [rq 0 2 (.move (.kv (.slice none 0 0)))] 1 [0])
 (.seq (.region [RM 0 3 0,
 RM 1 4 0,
 rq 2 5 (.len false (.tm 4)),
 RM 3 6 0,
 rq 4 7 (.len false (.tm 6)),
 rq 5 8 (.slc 3 (.tm 3) none (some (.tm 5)) (some (.tm 7))),
 RM 6 2 8] 7 [2])
 .ret))
def qE:List Cert:=[⟨[],[0]⟩,⟨[],[2]⟩]
def iZ:List aW:=[.tm 2]
theorem pZ:aO Tryz.prog Tryz.f195 qE=some (fG,iZ):=by kernel_rfl
theorem qF:aN Tryz.prog dE Tryz.f195 fG iZ:=
 aN.mk Tryz.func195 (by kernel_rfl) pZ
def eW:AC:=
 (.seq (.region [rq 0 2 (.move (.kv (.slice none 0 0)))] 1 [0])
 (.seq (.seq (.region [RM 0 3 0,
 rq 1 4 (.xop (.qJ false) [(.tm 3)])] 2 [0,4])
 (.cond (.tm 4)
 (.seq (.region [rq 0 2 (.move (.kv (.slice none 0 0)))] 1 [2])
 .ret)
 .skip))
 (.seq (.region [rq 0 5 (.bC 3 0 [OZ,OZ,VZ] []),
 RM 1 6 0,
 rq 2 7 (.append 3 (.tm 5) (.tm 6)),
 RM 3 2 7] 4 [2])
 .ret)))
def oV:List Cert:=[⟨[],[0]⟩,⟨[],[0,4]⟩,⟨[],[2]⟩,⟨[],[2]⟩]
def iL:List aW:=[.tm 2]
theorem oX:aO Tryz.prog Tryz.f196 oV=some (eW,iL):=by kernel_rfl
theorem oY:aN Tryz.prog cZ Tryz.f196 eW iL:=
 aN.mk Tryz.func196 (by kernel_rfl) oX
def gK:AC:=
 (.seq (.region [rq 0 2 (.move (.kv (.slice none 0 0)))] 1 [0])
 (.seq (.region [RM 0 3 0,
 RM 1 4 0,
 rq 2 5 (.len false (.tm 4)),
 RM 3 6 0,
 rq 4 7 (.len false (.tm 6)),
 rq 5 8 (.slc 3 (.tm 3) none (some (.tm 5)) (some (.tm 7))),
 RM 6 2 8] 7 [2])
 .ret))
def uI:List Cert:=[⟨[],[0]⟩,⟨[],[2]⟩]
def kQ:List aW:=[.tm 2]
theorem uK:aO Tryz.prog Tryz.f197 uI=some (gK,kQ):=by kernel_rfl
theorem uS:aN Tryz.prog eQ Tryz.f197 gK kQ:=
 aN.mk Tryz.func197 (by kernel_rfl) uK
def gB:AC:=
 (.seq (.region [rq 0 2 (.move (.kv (.slice none 0 0)))] 1 [0])
 (.seq (.seq (.region [RM 0 3 0,
 rq 1 4 (.xop (.qJ false) [(.tm 3)])] 2 [0,4])
 (.cond (.tm 4)
 (.seq (.region [rq 0 2 (.move (.kv (.slice none 0 0)))] 1 [2])
 .ret)
 .skip))
 (.seq (.region [rq 0 5 (.bC 3 0 [VZ,VZ,VZ] []),
 RM 1 6 0,
 rq 2 7 (.append 3 (.tm 5) (.tm 6)),
 RM 3 2 7] 4 [2])
 .ret)))
def sY:List Cert:=[⟨[],[0]⟩,⟨[],[0,4]⟩,⟨[],[2]⟩,⟨[],[2]⟩]
def kG:List aW:=[.tm 2]
theorem tA:aO Tryz.prog Tryz.f198 sY=some (gB,kG):=by kernel_rfl
theorem sN:aN Tryz.prog eE Tryz.f198 gB kG:=
 aN.mk Tryz.func198 (by kernel_rfl) tA
end Go.Proofs.YtegiblhkjfiooaaGreat
end
section
namespace Go.Proofs.YtegiblhkjfiooaaGreat
open Go Go.AM
set_option maxRecDepth 100000
set_option maxHeartbeats 8000000
theorem XO {τ:Nat→Nat} {n m:Nat} {l:List fC}:bA.rn τ ⟨n,m,l.map eCJ⟩=⟨n,m,l.map eCJ⟩:=by
 refine rF fun r hr x hx=> ?_
 obtain⟨y,_,rfl⟩:=List.mem_map.1 hr
 exact List.all_eq_true.1 (yK y).2 x hx
section
variable {H : aA} {nx : Nat} {K : D → aA → Nat → Prop}
theorem ag9 {l:List fC} {a:Nat} {z:List D1} (ha:a<l.length):wr ((l.take a).map eCJ++(l.drop (a+1)).map eCJ) (l.length-1) (List.replicate (l.length-(l.length-1)) z)=(B3 l a).map eCJ++[z]:=by
 have h1:(l.take a).map eCJ++(l.drop (a+1)).map eCJ=(B3 l a).map eCJ:=by simp[B3]
 have h2:((B3 l a).map eCJ).length=l.length-1:=by have:=RP ha;simp;omega
 have h3:l.length-(l.length-1)=1:=by omega
 rw[h1,h3,List.replicate_one]
 unfold wr
 have h4:List.drop (l.length-1+[z].length) ((B3 l a).map eCJ)=[]:=List.drop_of_length_le (by simp at h2 ⊢;omega)
 rw[h4,List.take_of_length_le (by omega),List.append_nil]
theorem sP (l:List fC) (a cap m:Nat) (hl:l.length<2^20) (ha:a<l.length) (hc:l.length≤cap) (hcm:cap≤m):
 aB Tryz.prog eA [dO 3 0 l.length cap,dI a,dI (a+1)] (hp [(0,⟨3,m,l.map eCJ⟩)]) 1
 fun r H' n'=>∃cap' m',(B3 l a).length≤cap'∧cap'≤m'∧n'=2∧H'=hp [(1,⟨3,m',(B3 l a).map eCJ⟩)]∧r=dO 3 1 (B3 l a).length cap':=by
 refine rZ rfl fun Q hQ=> ?_
 unfold fW
 have e2:((a:Int)+1).toNat=a+1:=by omega
 have e3:a+(l.length-(a+1))=l.length-1:=by omega
 have e7:(a+1+(l.length-(a+1))≤l.length)=True:=eq_true (by omega)
 have e8:List.take (l.length-(a+1)) (List.drop (a+1) l)=List.drop (a+1) l:=List.take_of_length_le (by simp)
 have e9:(List.drop (a+1) l).length=l.length-(a+1):=List.length_drop
 have hol:=RP ha
 repeat' (first| (with_reducible first| (refine hK _ _ _ ?_;clear hK K)| (refine hB ?_;clear hA hB A B)|refine Z1 ?_|refine Z2 ?_|refine Z5 (by omega) ?_|refine fun(cap:Nat) (hcap:_≤cap)=> ?_|refine fun(hcp:_≤cap)=> ?_)| (with_reducible first|refine Y2 fun K hK=> ?_|refine Y3 fun A B hA hB=> ?_)<;>(simp only[go_sem,e2,e3,e7,e8,e9])| ((with_reducible refine Y8 ?_);try simp only[AQ.then,AQ.blk,reduceIte,Nat.reduceEqDiff])|refine⟨by omega,?_⟩| (refine⟨by(rw[List.length_take];omega),?_⟩)|fail)
 (refine hQ _ _ _ _ _ 2 (dO 3 1 (B3 l a).length cap) (hp [(1,⟨3,cap,(B3 l a).map eCJ⟩)]) _ _ (.inr rfl) rfl (fU [20,0] (by omega) (by repeat' (first| ((with_reducible refine C0 ?_);exact CQ (by omega) rfl rfl (by omega) rfl)| ((with_reducible refine D0 ?_);refine CJ ?_)|fail)) ⟨⟨by simp,by simp[sgL],_,rfl,anJ (junk:=[[cI 0,cI 0,cI 0]]) (fun r hr=>(aG yK _ r hr).2) (ag9 ha) rfl (by decide)⟩,trivial⟩ (by simp[sgL])) ?_)
 exact⟨cap,cap,by omega,Nat.le_refl _,rfl,rfl,rfl⟩
theorem tK {l:List fC} {z:Int} {cap m i0:Nat} (hl:l.length<2^20) (hz: ¬z<0) (ha:z.toNat<l.length) (hc:l.length≤cap) (hcm:cap≤m) (h0:i0<nx) (o0:H i0=some ⟨3,m,l.map eCJ⟩)
 (h: ∀cap' m',(B3 l z.toNat).length≤cap'→cap'≤m'→K (dO 3 nx (B3 l z.toNat).length cap') ((H.del i0).set nx ⟨3,m',(B3 l z.toNat).map eCJ⟩) (nx+1)):
 aB Tryz.prog eA [dO 3 i0 l.length cap,dI z,dI (z+1)] H nx K:=by
 obtain⟨a,rfl⟩: ∃a:Nat,z=a:=⟨z.toNat,by omega⟩
 refine(sP l a cap m hl ha hc hcm).AF [i0] rfl ⟨qS (by simp) rfl rfl rfl rfl,aE rfl,aE rfl,trivial⟩
  ⟨⟨by simp,id,_,o0,bP (aG yK _) rfl rfl⟩,trivial⟩ (by simp) (by simp;omega) (by simp) fun r H' n' _ ⟨cap',m',q0,q1,q2,q3,q4⟩=> ?_
 simp only[Int.toNat_natCast] at h
 have h:=h cap' m' q0 q1
 subst q2;subst q3;subst q4
 generalize B3 l a=l' at*
 have e1:back (tau 1 nx (nth [i0])) (hp [(1,⟨3,m',l'.map eCJ⟩)]) 2 H=(H.del i0).set nx ⟨3,m',l'.map eCJ⟩:=by
  simp[back,hp,aA.set,aA.nil,tau,nth,uB,XO,aA.eL,aA.yI]
 rw[←e1] at h
 exact h
end
end Go.Proofs.YtegiblhkjfiooaaGreat
end
section
namespace Go.AM
theorem GZ {c:Cfg} {f:CSt→Nat→Option Mic} {s:CSt} {k:Nat} {l:List Nat} (h:f s k=none):vE c f s (k::l)=vE c f s l:=by
 rw[vE,h]
theorem NH {c:Cfg} {f:CSt→Nat→Option Mic} {s:CSt} {k:Nat} {l:List Nat} {m:Mic} (h:f s k=some m):vE c f s (k::l)=m::vE c f (aR c s m) l:=by
 rw[vE,h]
theorem ap4 {k:Nat} (h:k<3):[0,1,2].drop k=k::[0,1,2].drop (k+1):=by
 obtain rfl|rfl|rfl:k=0∨k=1∨k=2:=by omega
 all_goals rfl
theorem apX {k:Nat} (h:k<4):[0,1,2,3].drop k=k::[0,1,2,3].drop (k+1):=by
 obtain rfl|rfl|rfl|rfl:k=0∨k=1∨k=2∨k=3:=by omega
 all_goals rfl
def vU (c:Cfg) (f:CSt→Nat→Option Mic) (l:List Nat) (s:CSt) (es:List Ev) (S:CSt) (E:List Ev):Prop:=dR c s (vE c f s l)=S∧es++iP c s (vE c f s l)=E
theorem vU.none {c:Cfg} {f:CSt→Nat→Option Mic} {s S:CSt} {es E:List Ev} {k:Nat} {l:List Nat} (hl:vU c f (k::l) s es S E) (h:f s k=none):vU c f l s es S E:=by
 unfold vU at hl
 rw[GZ h] at hl
 exact hl
theorem vU.some {c:Cfg} {f:CSt→Nat→Option Mic} {s S:CSt} {es E:List Ev} {k:Nat} {l:List Nat} {m:Mic} (hl:vU c f (k::l) s es S E) (h:f s k=some m):vU c f l (aR c s m) (es++y0 s m) S E:=by
 unfold vU at hl
 rw[NH h] at hl
 refine⟨hl.1,?_⟩
 rw[List.append_assoc]
 exact hl.2
theorem vU.nil {c:Cfg} {f:CSt→Nat→Option Mic} {s S:CSt} {es E:List Ev} (hl:vU c f [] s es S E):s=S∧es=E:=by
 refine⟨hl.1,?_⟩
 have:=hl.2
 rw[vE,iP,List.append_nil] at this
 exact this
theorem agJ {i:CIn} {s:CSt} {k:Nat} (h:i.ready.getD k default=false):vT i s k=none:=by
 unfold vT;rw[if_neg (by rw[h];decide)]
theorem at4 {j:Nat} (h1:1≤j) (h2:j<5):j=1∨j=2∨j=3∨j=4:=by omega
theorem acZ {i:CIn} {s:CSt} {k:Nat} (h: ∀j,1≤j→j<5→NN s k (pQ s k j)=false):vT i s k=none:=by
 unfold vT
 split
 ·simp[List.find?_cons,h 1 (by omega) (by omega),h 2 (by omega) (by omega),h 3 (by omega) (by omega),h 4 (by omega) (by omega)]
 ·rfl
theorem acB {i:CIn} {s:CSt} {k j:Nat} (hr:i.ready.getD k default=true) (h1:1≤j) (h2:j≤4) (h: ∀j',1≤j'→j'<j→NN s k (pQ s k j')=false) (hj:NN s k (pQ s k j)=true):vT i s k=some (.tell k (pQ s k j)):=by
 unfold vT
 rw[if_pos hr]
 rcases at4 h1 (by omega) with rfl|rfl|rfl|rfl
 ·simp[List.find?_cons,hj]
 ·simp[List.find?_cons,hj,h 1 (by omega) (by omega)]
 ·simp[List.find?_cons,hj,h 1 (by omega) (by omega),h 2 (by omega) (by omega)]
 ·simp[List.find?_cons,hj,h 1 (by omega) (by omega),h 2 (by omega) (by omega),h 3 (by omega) (by omega)]
def LV (c:Cfg) (l:List Nat) (s:CSt) (u:List Bool) (S:CSt):Prop:=dR c s (oP c s u l)=S
theorem LV.none {c:Cfg} {s S:CSt} {u:List Bool} {k:Nat} {l:List Nat} (hl:LV c (k::l) s u S) (h:AO c s u k=none):LV c l s u S:=by
 unfold LV at hl
 rw[oP,h] at hl
 exact hl
theorem LV.some {c:Cfg} {s S:CSt} {u:List Bool} {k who:Nat} {l:List Nat} (hl:LV c (k::l) s u S) (h:AO c s u k=some who):LV c l (aR c s (.adm who k)) (u.set who true) S:=by
 unfold LV at hl
 rw[oP,h] at hl
 exact hl
theorem anA {c:Cfg} {s:CSt} {u:List Bool} {st:Nat} (h: ¬(aL s st).pipe.length<2):AO c s u st=none:=if_neg h
theorem ah0 {c:Cfg} {s:CSt} {u:List Bool} {st:Nat} (h: ∀j,1≤j→j<4→KE c s u st (sM s st j)=false):AO c s u st=none:=by
 unfold AO
 split
 ·simp[List.find?_cons,h 1 (by omega) (by omega),h 2 (by omega) (by omega),h 3 (by omega) (by omega)]
 ·rfl
theorem ahR {c:Cfg} {s:CSt} {u:List Bool} {st j:Nat} (hr:(aL s st).pipe.length<2) (h1:1≤j) (h2:j≤3) (h: ∀j',1≤j'→j'<j→KE c s u st (sM s st j')=false) (hj:KE c s u st (sM s st j)=true):AO c s u st=some (sM s st j):=by
 unfold AO
 rw[if_pos hr]
 obtain rfl|rfl|rfl:j=1∨j=2∨j=3:=by omega
 ·simp[List.find?_cons,hj]
 ·simp[List.find?_cons,hj,h 1 (by omega) (by omega)]
 ·simp[List.find?_cons,hj,h 1 (by omega) (by omega),h 2 (by omega) (by omega)]
end Go.AM
end
