/- Texts laid together by a program: rules, contracts and the walk that leads to the law. -/
import Derived.Test.YtmccpdapaccnoaaPG10
import Derived.Test.YtmccpdapaccnoaaPG8
import Derived.Test.YtmccpdapaccnoaaPG4
set_option linter.unusedVariables false
set_option linter.unusedSimpArgs false
set_option linter.unusedSectionVars false
section
namespace Go.Proofs.Ytmccpdapaccnoaa
open Go Go.AM
set_option maxRecDepth 100000
set_option maxHeartbeats 8000000
end Go.Proofs.Ytmccpdapaccnoaa
namespace Go.AM
theorem l9.cells {X:Nat→Prop} {H:aA} {nx i0 i1:Nat} {nm:Nat→Nat} {s:CSt} {es:List Ev} (h:l9 X H nx i0 i1 nm s es) {r r':List D1} {k:Nat} (hk:k<4) (h1:H i1=some ⟨5,1,[r]⟩) (hr:r'=r.set (1+k) (cI 1)):l9 X (H.set i1 ⟨5,1,[r']⟩) nx i0 i1 nm s es:=by
 subst hr
 have hav:=h.rep.names.av
 have hi0:=h.rep.i0
 refine⟨h.rep.frame (Nat.le_refl _) (aA.aC fun he=>hi0.2 (.inr he)) (fun k hk=>aA.aC fun he=>hav k hk (.inr he)) fun id hid=>⟨h.rep.x id hid,fun he=>hi0.2 (he▸hid),fun k hk he=>hav k hk (he▸hid)⟩,?_⟩
 obtain⟨⟨d,a,b,c,e,g1,g2⟩,g3,g4⟩:=h.hap
 rw[h1] at g1
 obtain rfl:r=[d,cI a,cI b,cI c,cI e]:=by simpa using g1
 have hd:aqA (fun id=>X id∨id=i0∨ ∃k,k<19∧id=nm k) (H.set i1 ⟨5,1,[[d,cI a,cI b,cI c,cI e].set (1+k) (cI 1)]⟩) nx i1 es d:=by
  rcases g2 with g2|⟨ev,cap,k1,k2,k3,k4,k5⟩
  ·exact .inl g2
  ·exact .inr ⟨ev,cap,k1,k2.frame (aA.aC k5),k3,k4,k5⟩
 refine⟨?_,g3,g4⟩
 obtain rfl|rfl|rfl|rfl:k=0∨k=1∨k=2∨k=3:=by omega
 ·exact⟨d,1,b,c,e,aA.bH,hd⟩
 ·exact⟨d,a,1,c,e,aA.bH,hd⟩
 ·exact⟨d,a,b,1,e,aA.bH,hd⟩
 ·exact⟨d,a,b,c,1,aA.bH,hd⟩
end Go.AM
namespace Go.Proofs.Ytmccpdapaccnoaa
open Go Go.AM
set_option maxRecDepth 100000
set_option maxHeartbeats 8000000
section
variable {H : aA} {nx : Nat} {K : D → aA → Nat → Prop}
end
end Go.Proofs.Ytmccpdapaccnoaa
end
section
namespace Go.Proofs.Ytmccpdapaccnoaa
open Go Go.AM
set_option maxRecDepth 100000
set_option maxHeartbeats 8000000
section
variable {H : aA} {nx : Nat} {K : D → aA → Nat → Prop}
end
end Go.Proofs.Ytmccpdapaccnoaa
end
section
namespace Go.Proofs.Ytmccpdapaccnoaa
open Go Go.AM
set_option maxRecDepth 100000
set_option maxHeartbeats 8000000
section
variable {H : aA} {nx : Nat} {K : D → aA → Nat → Prop}
end
end Go.Proofs.Ytmccpdapaccnoaa
end
section
namespace Go.Proofs.Ytmccpdapaccnoaa
open Go Go.AM
set_option maxRecDepth 100000
set_option maxHeartbeats 8000000
end Go.Proofs.Ytmccpdapaccnoaa
namespace Go.AM
structure Part (A:Nat→Prop) (lo hi:Nat) (nm:Nat→Nat):Prop where
 inj: ∀j k,A j→A k→nm j=nm k→j=k
 rng: ∀k,A k→lo≤nm k∧nm k<hi
theorem Part.mono {A:Nat→Prop} {lo hi hi':Nat} {nm:Nat→Nat} (h:Part A lo hi nm) (hh:hi≤hi'):Part A lo hi' nm:=⟨h.inj,fun k hk=>by have:=h.rng k hk;omega⟩
theorem Part.put {A B:Nat→Prop} {lo hi hi' k v:Nat} {nm:Nat→Nat} (h:Part A lo hi nm) (h0:lo≤hi) (h1:hi≤v) (h2:v<hi') (hB: ∀j,B j→A j∧j≠k∨j=k):Part B lo hi' (put nm k v):=by
 refine⟨fun i j hi hj he=> ?_,fun j hj=> ?_⟩
 ·rcases hB i hi with⟨az9,az2⟩|rfl<;>rcases hB j hj with⟨b1,b2⟩|rfl
  ·rw[jE az2,jE b2] at he;exact h.inj i j az9 b1 he
  ·rw[jE az2,t8] at he;have:=h.rng i az9;omega
  ·rw[jE b2,t8] at he;have:=h.rng j b1;omega
  ·rfl
 ·rcases hB j hj with⟨az9,az2⟩|rfl
  ·rw[jE az2];have:=h.rng j az9;omega
  ·rw[t8];omega
structure CSz (s:CSt):Prop where
 pl:s.bM.length=3
 sl:s.dD.length=4
 w:s.words.length<2^21
 h:s.holds.length<2^21
 t:s.told.length<2^21∧ ∀j∈s.told,j.rsp.data.length<2^21
 port: ∀k,k<3→(aF s k).queue.length<2^21∧(aF s k).out.length<2^21
 slv: ∀k,k<4→(aL s k).pipe.length<2^21∧(aL s k).done.length<2^21∧ ∀j∈(aL s k).done,j.rsp.data.length<2^21
theorem aM.TF {P:Program} {T:Nat} {e:Env} {H:aA} {nx:Nat} {Q:AQ} {zs:List AC} (h: ∀G,G=H→aM P T zs e G nx Q):aM P T zs e H nx Q:=h H rfl
end Go.AM
namespace Go.Proofs.Ytmccpdapaccnoaa
open Go Go.AM
set_option maxRecDepth 100000
set_option maxHeartbeats 8000000
section
variable {H : aA} {nx : Nat} {K : D → aA → Nat → Prop}
end
end Go.Proofs.Ytmccpdapaccnoaa
end
section
namespace Go.AM
theorem IW {p:Job→Bool}: ∀{A B:List Job},(∀a∈A,p a=false)→(∀b∈B,p b=true)→(A++B).findIdx p=A.length
 | [],[],_,_=>rfl
 | [],b::B,_,hB=>by
   rw[List.nil_append,List.findIdx_cons,hB b (by simp)];rfl
 |a::A,B,hA,hB=>by
  rw[List.cons_append,List.findIdx_cons,hA a (by simp)]
  simp only[cond_false,List.length_cons]
  rw[IW (fun x hx=>hA x (List.mem_cons_of_mem _ hx)) hB]
theorem abS {A B:List Job} {x:Job} (hA: ∀a∈A,uL x a=false) (hB: ∀b∈B,uL x b=true):BM (A++B) x=A++x::B:=by
 unfold BM
 rw[IW hA hB,List.take_left',List.drop_left']
 ·rfl
 ·rfl
def A5 (l:List Job) (k:Nat):List Job:=jX (l.take k)
theorem ahI {l:List Job} {k:Nat} (hk:k≤l.length):(A5 l k).length=k:=by
 unfold A5;rw[(fH _).length_eq,List.length_take];omega
theorem ac8 {l:List Job} {k:Nat} (hk:k<l.length):A5 l (k+1)=BM (A5 l k) (l.getD k default):=by
 unfold A5 jX
 rw[nK hk,List.foldl_append];rfl
theorem ah3 {l:List Job}:A5 l 1=l.take 1:=by
 cases l with
 |nil=>rfl
 |cons x l=>rfl
theorem aiE {l:List Job}:A5 l l.length=jX l:=by unfold A5;rw[List.take_length]
def MS (S:List Job) (x:Job) (j:Nat):List Job:=S.take j++x::S.drop j
theorem amF {S:List Job} {x:Job} {j:Nat} (_:j≤S.length):(MS S x j).length=S.length+1:=by
 unfold MS;simp;omega
end Go.AM
end
section
namespace Go.AM
theorem ah1 {S R:List Job} {x:Job} {j:Nat} (h0:0<j) (hj:j≤S.length):((MS S x j++R).set j (S.getD (j-1) default)).set (j-1) x=MS S x (j-1)++R:=by
 have h1:S.take j=S.take (j-1)++[S.getD (j-1) default]:=by
  have:=nK (l:=S) (k:=j-1) (by omega)
  rwa [show j-1+1=j by omega] at this
 have h2:S.drop (j-1)=S.getD (j-1) default::S.drop j:=by
  have:=List.drop_eq_getElem_cons (l:=S) (i:=j-1) (by omega)
  rw[this,show j-1+1=j by omega];simp[List.getD,show j-1<S.length by omega]
 have hl:(S.take (j-1)).length=j-1:=by simp;omega
 unfold MS
 rw[h1,h2]
 generalize S.take (j-1)=A at*
 generalize S.drop j=B
 generalize S.getD (j-1) default=y
 simp only[List.append_assoc,List.cons_append,List.nil_append,List.singleton_append]
 obtain rfl:j=A.length+1:=by omega
 rw[List.set_append_right _ _ (by omega)]
 simp
theorem anT {S R:List Job} {x:Job} {j:Nat} (hj:j≤S.length):(MS S x j++R).getD j default=x:=by
 have hl:(S.take j).length=j:=by simp;omega
 unfold MS
 simp[List.getD,hl,List.append_assoc,List.getElem?_append_right]
theorem adY {S R:List Job} {x:Job} {j:Nat} (h0:0<j) (hj:j≤S.length):(MS S x j++R).getD (j-1) default=S.getD (j-1) default:=by
 unfold MS
 simp only[List.getD,List.append_assoc]
 rw[List.getElem?_append_left (by simp;omega),List.getElem?_take_of_lt (by omega)]
end Go.AM
namespace Go.Proofs.Ytmccpdapaccnoaa
open Go Go.AM
set_option maxRecDepth 100000
set_option maxHeartbeats 8000000
theorem mY:cJ Try.prog cL Try.f48 dU gU:=cJ.mk Try.func48 (by kernel_rfl) m9
theorem tL:cJ Try.prog gL Try.f29 gA kJ:=cJ.mk Try.func29 (by kernel_rfl) sX
theorem mA:cJ Try.prog cG Try.f12 dF gD:=cJ.mk Try.func12 (by kernel_rfl) mB
section
variable {H : aA} {nx : Nat} {K : D → aA → Nat → Prop}
end
end Go.Proofs.Ytmccpdapaccnoaa
end
section
namespace Go.Proofs.Ytmccpdapaccnoaa
open Go Go.AM
set_option maxRecDepth 100000
set_option maxHeartbeats 8000000
theorem RA:cJ Try.prog zX Try.f5 yF GJ:=cJ.mk Try.func5 (by kernel_rfl) RY
end Go.Proofs.Ytmccpdapaccnoaa
namespace Go.AM
def IQ (H:aA) (lo hi t:Nat) (s:CSt) (A:List Int) (W D:List Job):Prop:=
 ∃ia iw id_ ca cw cd ma mw md,H t=some ⟨6,1,[[.isl (s.words.map aJ),.isl (s.holds.map aJ),.osl 1 ia 0 A.length ca,.osl 5 iw 0 W.length cw,.osl 5 id_ 0 D.length cd,.isl (s.told.map aS)]]⟩∧
  (H ia=some ⟨1,ma,A.map aJ⟩∧A.length≤ca∧ca≤ma)∧(H iw=some ⟨5,mw,W.map aS⟩∧W.length≤cw∧cw≤mw)∧(H id_=some ⟨5,md,D.map aS⟩∧D.length≤cd∧cd≤md)∧
  (lo≤ia∧ia<hi∧lo≤iw∧iw<hi∧lo≤id_∧id_<hi)∧ia≠iw∧ia≠id_∧iw≠id_
theorem IQ.frame {H H':aA} {lo hi hi' t:Nat} {s:CSt} {A:List Int} {W D:List Job} (h:IQ H lo hi t s A W D) (ht:t<lo) (hh:hi≤hi') (hf: ∀id,id<hi→(id=t∨lo≤id)→H' id=H id):IQ H' lo hi' t s A W D:=by
 obtain⟨ia,iw,id_,ca,cw,cd,ma,mw,md,h0,⟨h1,h2⟩,⟨h3,h4⟩,⟨h5,h6⟩,h7,h8⟩:=h
 exact⟨ia,iw,id_,ca,cw,cd,ma,mw,md,by rw[hf t (by omega) (.inl rfl)];exact h0,⟨by rw[hf _ (by omega) (.inr (by omega))];exact h1,h2⟩,⟨by rw[hf _ (by omega) (.inr (by omega))];exact h3,h4⟩,⟨by rw[hf _ (by omega) (.inr (by omega))];exact h5,h6⟩,by omega,h8⟩
theorem KO {H:aA} {nx i:Nat} {o o':bA} (ho:H i=some o) (h:CvO H noF id nx o' o):CvX noF nx H (H.set i o'):=fun j x hj=>by
 by_cases he:j=i
 ·subst he
  rw[aA.bH] at hj
  cases hj
  exact⟨fun h=>h,o,ho,.inr h⟩
 ·rw[aA.aC he] at hj
  exact⟨fun h=>h,x,hj,.inl rfl⟩
theorem CL {β:Type} {f:Nat→List β} {k:Nat}:(List.range (k+1)).flatMap f=(List.range k).flatMap f++f k:=by
 rw[List.range_succ,List.flatMap_append];simp
theorem QU {β:Type} {f:Nat→List β} {m:Nat} (n:Nat) (h: ∀k,k<n→(f k).length≤m):((List.range n).flatMap f).length≤m*n:=by
 induction n with
 |zero=>simp
 |succ n ih=>
  rw[CL,List.length_append]
  have h1:=ih fun k hk=>h k (by omega)
  have h2:=h n (by omega)
  rw[Nat.mul_succ];omega
theorem af0 {K:Env→aA→Nat→Prop} {e:Env} {G:aA} {n:Nat} (h: ∀G',G'=G→K e G' n):K e G n:=h G rfl
theorem as2 {H2 G:aA} {lo hi t:Nat} {s:CSt} {A:List Int} {W D:List Job} {ia iw id_ ca cd ma md x2 cap nx':Nat} {k n:Int}
 (az9:H2 ia=some ⟨1,ma,A.map aJ⟩) (az2:A.length≤ca∧ca≤ma) (aAC:H2 id_=some ⟨5,md,D.map aS⟩) (aAB:D.length≤cd∧cd≤md) (aa:lo≤ia∧ia<hi∧lo≤iw∧iw<hi∧lo≤id_∧id_<hi) (ab:ia≠iw) (ac:ia≠id_) (ad:iw≠id_) (ht:t<lo) (hx:hi≤x2∧x2<nx') (hcap:W.length+1≤cap)
 (g1:G t=some ⟨6,1,[[.isl (s.words.map aJ),.isl (s.holds.map aJ),.osl 1 ia 0 A.length ca,.osl 5 x2 0 (W.length+1) cap,.osl 5 id_ 0 D.length cd,.isl (s.told.map aS)]]⟩) (g2:G x2=some ⟨5,cap,W.map aS++[[cI k,cI n,cI 0,cI 0,.osl 0 0 0 0 0]]⟩) (g3: ∀id,id<hi→id≠iw→id≠t→G id=H2 id):
 ∃H',CvX noF nx' G H'∧IQ H' lo nx' t s A (W++[(⟨k,n,oW⟩:Job)]) D∧ ∀id,id≠x2→H' id=G id:=by
 refine⟨_,KO (i:=x2) (o':=⟨5,cap,(W++[(⟨k,n,oW⟩:Job)]).map aS⟩) g2 (uO (R:=W.map aS) (r':=aS (⟨k,n,oW⟩:Job)) (by rw[List.map_append];rfl) rfl (fun r hr=>(aG dZ _ r hr).2) rfl (aH (bB rfl) (aH (bB rfl) (aH (bB rfl) (aH (bB rfl) (aH (.frz (.nil ..)) eP)))))),?_,fun id e0=>aA.aC e0⟩
 refine⟨ia,x2,id_,ca,cap,cd,ma,cap,md,?_,⟨?_,az2⟩,⟨aA.bH,by simpa using hcap,Nat.le_refl _⟩,⟨?_,aAB⟩,by omega,by omega,by omega,by omega⟩
 ·rw[aA.aC (by omega),g1,List.length_append];rfl
 ·rw[aA.aC (by omega),g3 _ (by omega) ab (by omega)];exact az9
 ·rw[aA.aC (by omega),g3 _ (by omega) ad.symm (by omega)];exact aAC
theorem apO {F:Nat→Prop} {H H':aA} {nx t:Nat} {o o':bA} (h1: ∀j,F j→H' j=none) (h2:H' t=some o') (h3:H t=some o) (h4: ¬F t) (h5:CvO H F id nx o' o) (h6: ∀j,j≠t→¬F j→H' j=H j):CvX F nx H H':=fun j x hj=>by
 have hF: ¬F j:=fun h=>by rw[h1 j h] at hj;cases hj
 by_cases he:j=t
 ·subst he
  rw[h2] at hj
  cases hj
  exact⟨hF,o,h3,.inr h5⟩
 ·rw[h6 j he hF] at hj
  exact⟨hF,x,hj,.inl rfl⟩
def aq5 (b n:Nat) (H:aA):aA:=fun j=>if b≤j∧j<b+n then none else H j
theorem acA {b n j:Nat} {H:aA} (h: ¬(b≤j∧j<b+n)):aq5 b n H j=H j:=if_neg h
theorem ZW {b n nx:Nat} {H:aA}:CvX (fun j=>b≤j∧j<b+n) nx H (aq5 b n H):=fun j x hj=>by
 unfold aq5 at hj
 split at hj
 ·cases hj
 ·exact⟨by assumption,x,hj,.inl rfl⟩
end Go.AM
namespace Go.Proofs.Ytmccpdapaccnoaa
open Go Go.AM
set_option maxRecDepth 100000
set_option maxHeartbeats 8000000
section
variable {H : aA} {nx : Nat} {K : D → aA → Nat → Prop}
end
end Go.Proofs.Ytmccpdapaccnoaa
end
section
namespace Go.AM
def vZ (i:CIn):Prop:=i.ready.length=3∧i.n9.length=4∧i.send.length=3
end Go.AM
namespace Go.Proofs.Ytmccpdapaccnoaa
open Go Go.AM
set_option maxRecDepth 100000
set_option maxHeartbeats 8000000
section
variable {H : aA} {nx : Nat} {K : D → aA → Nat → Prop}
end
end Go.Proofs.Ytmccpdapaccnoaa
end
section
namespace Go.Proofs.Ytmccpdapaccnoaa
open Go Go.AM
set_option maxRecDepth 100000
set_option maxHeartbeats 8000000
section
variable {H : aA} {nx : Nat} {K : D → aA → Nat → Prop}
end
end Go.Proofs.Ytmccpdapaccnoaa
end
section
namespace Go.Proofs.Ytmccpdapaccnoaa
open Go Go.AM
set_option maxRecDepth 100000
set_option maxHeartbeats 8000000
section
variable {H : aA} {nx : Nat} {K : D → aA → Nat → Prop}
end
end Go.Proofs.Ytmccpdapaccnoaa
end
section
namespace Go.AM
theorem abY.frame {H H':aA} {nm:Nat→Nat} {s:CSt} {cells:List D1} (h:abY H nm s cells) (hf: ∀k,k<19→H' (nm k)=H (nm k)):abY H' nm s cells:=by
 obtain⟨⟨wc,hc,pc,vc,tc,q1,q2,q3,q4,q5⟩,⟨m,rows,j1,j2,j3⟩,⟨m',rows',j4,j5,j6⟩⟩:=h
 refine⟨⟨wc,hc,pc,vc,tc,q1,q2.frame (hf _ (by omega)),q3.frame (hf _ (by omega)),q4.frame (hf _ (by omega)),q5⟩,⟨m,rows,by rw[hf 2 (by omega)];exact j1,j2,fun k hk=> ?_⟩,⟨m',rows',by rw[hf 3 (by omega)];exact j4,j5,fun k hk=> ?_⟩⟩
 ·obtain⟨r,k1,k2⟩:=j3 k hk
  exact⟨r,k1,k2.frame (hf _ (by omega)) (hf _ (by omega))⟩
 ·obtain⟨r,k1,k2⟩:=j6 k hk
  exact⟨r,k1,k2.frame (hf _ (by omega)) (hf _ (by omega))⟩
theorem COk.sz {c:Cfg} {s:CSt} (hb:aQ c) (h:COk c s):CSz s:=by
 obtain⟨hwl,_,hhl,_⟩:=h.atm
 have htl:s.told.length≤36:=by have:=h.st.lens hb;simp only[cX] at this;omega
 have hd: ∀j∈s.told,j.rsp.data.length<2^21:=fun j hj=>by
  have:=(h.st.R8 j (List.mem_append_right _ hj)).1
  unfold pA at this;omega
 refine⟨h.pl,h.sl,by omega,by omega,⟨by omega,hd⟩,fun k hk=> ?_,fun k hk=> ?_⟩
 ·have h1:=(h.port k hk).ql;have h2:=(h.port k hk).ol;omega
 ·have h1:=(h.slv k hk).pl;have h2:=(h.slv k hk).dl
  refine⟨by omega,by omega,fun j hj=> ?_⟩
  have:=((h.slv k hk).rsp j hj).1
  unfold pA at this;omega
end Go.AM
namespace Go.Proofs.Ytmccpdapaccnoaa
open Go Go.AM
set_option maxRecDepth 100000
set_option maxHeartbeats 8000000
section
variable {H : aA} {nx : Nat} {K : D → aA → Nat → Prop}
end
end Go.Proofs.Ytmccpdapaccnoaa
end
section
namespace Go.AM
theorem aB.ao4 {P:Program} {f:FuncId} {args args':List D} {H:aA} {nx:Nat} {K:D→aA→Nat→Prop} (H':aA) (F:Nat→Prop) (hl:args.length=args'.length) (hA: ∀(i:Nat) (d0 d:D),args'[i]?=some d0→args[i]?=some d→CvD H F id nx d0 d) (hH:CvX F nx H H') (h:aB P f args' H' nx K):aB P f args H nx K:=by
 refine⟨h.1,fun c vs hs hN hlen hrel=> ?_⟩
 obtain⟨k1,k2⟩:=YO hs (Step.refl c H) hN hH
 refine(h.2 (c.conv nx nx id (c.frI H F)) vs k1 (fun i hi=> ?_) (by omega) fun i d v h1 h2=> ?_).mono ?_
 ·rcases hi with⟨_,hi⟩|⟨h1,h2,h3⟩
  ·exact hN i hi
  ·omega
 ·have hi:i<args.length:=by have:=(List.getElem?_eq_some_iff.1 h1).1;omega
  exact zD hs (fun b h=>.inl h) (fun id o h1 h2 h3=>.inr ⟨id,o,h1,h2,h3,rfl⟩) (fun _ _=>rfl) (hA i d _ h1 (List.getElem?_eq_getElem hi)) (hrel i _ v (List.getElem?_eq_getElem hi) h2)
 ·rintro x w' ⟨v,c2,r,H2,n2,rfl,rfl,p1,p2,p3,p4,p5,p6⟩
  refine⟨v,c2,r,H2,n2,rfl,rfl,p1,k2.trans p2,fun i hi=> ?_,p4,p5,p6⟩
  rcases p3 i hi with h|h
  ·rcases h with⟨_,hi⟩|⟨h1,h2,h3⟩
   ·exact .inl hi
   ·omega
  ·exact .inr h
open Classical in
noncomputable def without (F:Nat→Prop) (H:aA):aA:=fun j=>if F j then none else H j
theorem iI {F:Nat→Prop} {H:aA} {j:Nat} (h: ¬F j):without F H j=H j:=by unfold without;rw[if_neg h]
theorem kS {F:Nat→Prop} {H:aA} {nx:Nat}:CvX F nx H (without F H):=fun j x hj=>by
 by_cases h:F j
 ·unfold without at hj;rw[if_pos h] at hj;cases hj
 ·rw[iI h] at hj;exact⟨h,x,hj,.inl rfl⟩
end Go.AM
namespace Go.Proofs.Ytmccpdapaccnoaa
open Go Go.AM
set_option maxRecDepth 100000
set_option maxHeartbeats 8000000
section
variable {H : aA} {nx : Nat} {K : D → aA → Nat → Prop}
end
end Go.Proofs.Ytmccpdapaccnoaa
end
section
namespace Go.Proofs.Ytmccpdapaccnoaa
open Go Go.AM
set_option maxRecDepth 100000
set_option maxHeartbeats 8000000
section
variable {H : aA} {nx : Nat} {K : D → aA → Nat → Prop}
end
end Go.Proofs.Ytmccpdapaccnoaa
end
section
namespace Go.Proofs.Ytmccpdapaccnoaa.bkX
open Go Go.AM Go.Proofs.Ytmccpdapaccnoaa
set_option maxRecDepth 100000
set_option maxHeartbeats 8000000
section
variable {H : aA} {nx : Nat} {K : D → aA → Nat → Prop}
theorem MM {q:Req} (h:dH q):dH ⟨q.id,3,q.addr,1,false,[],[]⟩:=by
 obtain⟨h1,h2,⟨h3,h4,h5⟩,h6⟩:=h
 refine⟨h1,by dsimp only;omega,⟨by dsimp only;omega,h4,.inr (by dsimp only;omega)⟩,by simp[n5],by simp[n5],fun x hx=>by simp at hx,fun x hx=>by simp at hx,.inr (.inr rfl)⟩
theorem L4 {q:Req} (h:dH q):q.data.length<2^40∧q.g6.length<2^40:=by
 obtain⟨h1,h2,⟨h3,h4,h5⟩,h6,h7,h8⟩:=h
 unfold n5 at h6 h7
 constructor
 ·split at h6<;>omega
 ·split at h7<;>omega
theorem yB (l:List Int):aB Try.prog kN [dS (l.map eU8)] (hp []) 0 fun r H' n'=>n'=1∧H'=hp [(0,rdO (l.take 2000) 0)]∧r=bkP 2 0:=by
 refine DY rfl fun Q hQ=> ?_
 unfold oT
 repeat' (first| (with_reducible first| (refine hK _ _ _ ?_;clear hK K)| (refine hA ?_;clear hA hB A B)| (refine hB ?_;clear hA hB A B)|refine Z1 ?_|refine Z2 ?_|refine Z3 fun KB hKB=> ?_|refine Z4 (by omega) ?_|refine Z5 (by omega) ?_|refine Z6 (fun h=> ?_) fun h=> ?_|refine Z7 (fun h=> ?_) fun h=> ?_|refine fun(cap:Nat) (hcap:_≤cap)=> ?_|refine fun(hcp:_≤cap)=> ?_|refine fun(b:Bool)=> ?_|refine hKX _ _ _ ?_|refine hKY _ _ _ ?_|refine hKZ _ _ _ ?_)| (with_reducible first|refine Y1 fun K hK=> ?_|refine Y2 fun K hK=> ?_|refine Y3 fun A B hA hB=> ?_|refine Y4 (by omega) ?_|refine Y5 (by omega) ?_|refine Y6 (fun h=> ?_) fun h=> ?_| (refine Y7 (fun h=> ?_) (fun h=> ?_)<;>try subst h))<;>(simp only[go_sem];try simp (disch:=omega) only[Iw])| ((with_reducible first|refine Y8 ?_|refine Y9 ?_);try simp only[AQ.then,AQ.blk,reduceIte,Nat.reduceEqDiff])| ((with_reducible refine Y0 ?_);simp only[AQ.then,AQ.blk])| ((with_reducible refine Z8 (fun h=> ?_) (fun h=> ?_))<;>try subst h)|refine⟨by omega,?_⟩| (refine⟨by(rw[List.length_take];omega),?_⟩)| (with_reducible first|refine hKB _ _ _ ?_| (clear hKB KB;refine hKB _ _ _ ?_)| (clear hKB KB;clear hKB KB;refine hKB _ _ _ ?_))|fail)
 ·have e:l.take 2000=(l.take 2000).take 2000:=by rw[List.take_take];simp
  (refine hQ _ _ _ _ _ 1 (bkP 2 0) (hp [(0,rdO (l.take 2000) 0)]) _ _ (.inr rfl) rfl (fU [9] (by omega) (by repeat' (first| (with_reducible first|exact C1|refine C2 ?_ ?_|exact C3|refine C4 ?_ ?_|refine aUP ?_ ?_|refine bfY ?_ ?_ ?_|refine aUQ ?_|refine aUR ?_)| ((with_reducible refine C0 ?_);first|exact CB rfl|exact CC| (exact CQ (by omega) rfl rfl (by first|rfl| (simp;done)|omega| (dsimp only;omega)) rfl)|exact CE (by omega) rfl|exact CR (by omega) rfl|exact CF|exact CH (by first|rfl|assumption)| (exact CG (by first|rfl| (simp;done)| (congr 2;omega)| ((try dsimp only);exact dbT (by omega))| ((try dsimp only);exact dbF (by omega))| ((try dsimp only);exact(dbT (by omega)).symm)| ((try dsimp only);exact(dbF (by omega)).symm)| ((try dsimp only);exact dbE (by omega))| ((try dsimp only);exact diE (by omega))) rfl))| ((with_reducible refine D0 ?_);first|exact CA rfl|exact CI rfl (by simp) rfl rfl rfl|refine C9 ?_|refine CJ ?_)|exact C3|refine C4 ?_ ?_|fail)) ⟨⟨by simp,by simp[sgL],_,rfl,bS (aV _ _)⟩,trivial⟩ (by simp[sgL])) ?_)
  exact⟨rfl,rfl,rfl⟩
 · (refine hQ _ _ _ _ _ 1 (bkP 2 0) (hp [(0,rdO l 0)]) _ _ (.inr rfl) rfl (fU [6] (by omega) (by repeat' (first| (with_reducible first|exact C1|refine C2 ?_ ?_|exact C3|refine C4 ?_ ?_|refine aUP ?_ ?_|refine bfY ?_ ?_ ?_|refine aUQ ?_|refine aUR ?_)| ((with_reducible refine C0 ?_);first|exact CB rfl|exact CC| (exact CQ (by omega) rfl rfl (by first|rfl| (simp;done)|omega| (dsimp only;omega)) rfl)|exact CE (by omega) rfl|exact CR (by omega) rfl|exact CF|exact CH (by first|rfl|assumption)| (exact CG (by first|rfl| (simp;done)| (congr 2;omega)| ((try dsimp only);exact dbT (by omega))| ((try dsimp only);exact dbF (by omega))| ((try dsimp only);exact(dbT (by omega)).symm)| ((try dsimp only);exact(dbF (by omega)).symm)| ((try dsimp only);exact dbE (by omega))| ((try dsimp only);exact diE (by omega))) rfl))| ((with_reducible refine D0 ?_);first|exact CA rfl|exact CI rfl (by simp) rfl rfl rfl|refine C9 ?_|refine CJ ?_)|exact C3|refine C4 ?_ ?_|fail)) ⟨⟨by simp,by simp[sgL],_,rfl,bS (aV _ _)⟩,trivial⟩ (by simp[sgL])) ?_)
   exact⟨rfl,by rw[List.take_of_length_le (by omega)],rfl⟩
theorem F2 {l:List Int} (h:K (bkP 2 nx) (H.set nx (rdO (l.take 2000) 0)) (nx+1)):aB Try.prog kN [dS (l.map eU8)] H nx K:=by
 refine(yB l).AF (l0:=[]) [] rfl ⟨aE rfl,trivial⟩ trivial (by simp) (by simp) (by simp) fun r H' n' _ ⟨q1,q2,q3⟩=> ?_
 subst q1;subst q2;subst q3
 have e1:back (tau 0 nx (nth [])) (hp [(0,rdO (l.take 2000) 0)]) 1 H=H.set nx (rdO (l.take 2000) 0):=by
  simp only[back,hp,aA.set,tau,Nat.not_lt_zero,if_true,if_false,Nat.sub_zero,Nat.add_zero,Option.map_some,rF (aV _ _),aA.eL]
 rw[←e1] at h
 exact h
end
end Go.Proofs.Ytmccpdapaccnoaa.bkX
namespace Go.Proofs.Ytmccpdapaccnoaa
open Go Go.AM
set_option maxRecDepth 100000
set_option maxHeartbeats 8000000
theorem UA:cJ Try.prog CS Try.f64 zW IZ:=cJ.mk Try.func64 (by kernel_rfl) UW
theorem T4:cJ Try.prog B9 Try.f54 z9 I6:=cJ.mk Try.func54 (by kernel_rfl) U3
theorem RX:cJ Try.prog AE Try.f41 yD FE:=cJ.mk Try.func41 (by kernel_rfl) R1
section
variable {H : aA} {nx : Nat} {K : D → aA → Nat → Prop}
theorem YE (h: ∀H' nx',nx+4≤nx'→H' (nx+1)=some ⟨1,3,[true,true,true].map eH⟩→H' (nx+2)=some ⟨1,4,[false,false,false,false].map eH⟩→H' (nx+3)=some ⟨1,3,[true,true,true].map eH⟩→(∀id,id<nx→H' id=H id)→K (dA [.osl 1 (nx+1) 0 3 3,.osl 1 (nx+2) 0 4 4,.osl 1 (nx+3) 0 3 3]) H' nx'):aB Try.prog CS [] H nx K:=by
 refine UA rfl fun Q hQ=> ?_
 unfold zW
 repeat' (first| (with_reducible first| (refine hK _ _ _ ?_;clear hK K)| (refine hA ?_;clear hA hB A B)| (refine hB ?_;clear hA hB A B)|refine Z1 ?_|refine Z2 ?_|refine Z3 fun KB hKB=> ?_|refine Z4 (by omega) ?_|refine Z5 (by omega) ?_|refine Z6 (fun h=> ?_) fun h=> ?_|refine Z7 (fun h=> ?_) fun h=> ?_|refine fun(cap:Nat) (hcap:_≤cap)=> ?_|refine fun(hcp:_≤cap)=> ?_|refine fun(b:Bool)=> ?_|refine hKX _ _ _ ?_|refine hKY _ _ _ ?_|refine hKZ _ _ _ ?_)| (with_reducible first|refine Y1 fun K hK=> ?_|refine Y2 fun K hK=> ?_|refine Y3 fun A B hA hB=> ?_|refine Y4 (by omega) ?_|refine Y5 (by omega) ?_|refine Y6 (fun h=> ?_) fun h=> ?_| (refine Y7 (fun h=> ?_) (fun h=> ?_)<;>try subst h))<;>(simp only[go_sem,Nat.add_assoc,Nat.left_eq_add,Nat.add_eq_left];try simp (disch:=omega) only[Iw])| ((with_reducible first|refine Y8 ?_|refine Y9 ?_);try simp only[AQ.then,AQ.blk,reduceIte,Nat.reduceEqDiff])| ((with_reducible refine Y0 ?_);simp only[AQ.then,AQ.blk])| ((with_reducible refine Z8 (fun h=> ?_) (fun h=> ?_))<;>try subst h)|refine⟨by omega,?_⟩| (refine⟨by(rw[List.length_take];omega),?_⟩)| (with_reducible first|refine hKB _ _ _ ?_| (clear hKB KB;refine hKB _ _ _ ?_)| (clear hKB KB;clear hKB KB;refine hKB _ _ _ ?_))|fail)
 refine hQ _ _ _ _ _ (.inr rfl) (fZ (m:=1) rfl (by simp only[aA.set,Nat.left_eq_add,Nat.reduceEqDiff,if_false,if_true,Nat.one_ne_zero,reduceIte]) rfl) (h _ _ (by omega) ?_ ?_ ?_ fun id hid=> ?_)
 ·simp only[aA.set,Nat.add_left_cancel_iff,Nat.reduceEqDiff,if_false,if_true];rfl
 ·simp only[aA.set,Nat.add_left_cancel_iff,Nat.reduceEqDiff,if_false,if_true];rfl
 ·simp only[aA.set,Nat.add_left_cancel_iff,Nat.reduceEqDiff,if_false,if_true];rfl
 ·simp only[aA.set,show ¬id=nx by omega,show ¬id=nx+1 by omega,show ¬id=nx+2 by omega,show ¬id=nx+3 by omega,if_false]
theorem YJ {l:List Int} {p i:Nat} {slow:Int} (hl:kZ l) (hp50:p+20<2^50) (hsl:0<slow∧slow<1000) (hi:i<nx) (ho:H i=some (rdO l p))
 (h: ∀H' nx' p' x,nx≤nx'→p'≤p+10→vZ x→H' i=some (rdO l p')→(∀id,id<nx→id≠i→H' id=H id)→K (dA (eIn x)) H' nx'):aB Try.prog B9 [bkP 2 i,dI slow] H nx K:=by
 refine aB.tW ?_
 refine T4 rfl fun Q hQ=> ?_
 unfold z9
 repeat' (first| (with_reducible first| (refine hK _ _ _ ?_;clear hK K)| (refine hA ?_;clear hA hB A B)| (refine hB ?_;clear hA hB A B)|refine Z1 ?_|refine Z2 ?_|refine Z3 fun KB hKB=> ?_|refine Z4 (by omega) ?_|refine Z5 (by omega) ?_|refine Z6 (fun h=> ?_) fun h=> ?_|refine Z7 (fun h=> ?_) fun h=> ?_|refine fun(cap:Nat) (hcap:_≤cap)=> ?_|refine fun(hcp:_≤cap)=> ?_|refine fun(b:Bool)=> ?_|refine hKX _ _ _ ?_|refine hKY _ _ _ ?_|refine hKZ _ _ _ ?_)| (first| (with_reducible first|refine Y1 fun K hK=> ?_|refine Y2 fun K hK=> ?_|refine Y3 fun A B hA hB=> ?_|refine Y4 (by omega) ?_|refine Y5 (by omega) ?_|refine Y6 (fun h=> ?_) fun h=> ?_| (refine Y7 (fun h=> ?_) (fun h=> ?_)<;>try subst h))| (refine YE (fun H' nx' hx f1 f2 f3 ffr=> ?_)))<;>(simp only[go_sem,Nat.add_assoc,Nat.left_eq_add,Nat.add_eq_left];try simp (disch:=omega) only[Iw])| ((with_reducible first|refine Y8 ?_|refine Y9 ?_);try simp only[AQ.then,AQ.blk,reduceIte,Nat.reduceEqDiff])| ((with_reducible refine Y0 ?_);simp only[AQ.then,AQ.blk])| ((with_reducible refine Z8 (fun h=> ?_) (fun h=> ?_))<;>try subst h)|refine⟨by omega,?_⟩| (refine⟨by(rw[List.length_take];omega),?_⟩)| (with_reducible first|refine hKB _ _ _ ?_| (clear hKB KB;refine hKB _ _ _ ?_)| (clear hKB KB;clear hKB KB;refine hKB _ _ _ ?_))|fail)
 (have hKX:=hKB;clear hKB)
 refine aM.TF fun G0 hG0=> ?_
 have c0:G0 nx=some ⟨3,1,[[.osl 0 0 0 0 0,.osl 0 0 0 0 0,.osl 0 0 0 0 0]]⟩:=by rw[hG0,aA.aC (by omega),ffr _ (by omega)];exact aA.bH
 have c2:G0 (nx+2)=some ⟨3,1,[[.osl 1 (nx+5) 0 3 3,.osl 1 (nx+6) 0 4 4,.osl 1 (nx+7) 0 3 3]]⟩:=by rw[hG0];exact aA.bH
 have c5:G0 (nx+5)=some ⟨1,3,[true,true,true].map eH⟩:=by rw[hG0,aA.aC (by omega)];exact f1
 have bkY:G0 (nx+6)=some ⟨1,4,[false,false,false,false].map eH⟩:=by rw[hG0,aA.aC (by omega)];exact f2
 have bkZ:G0 (nx+7)=some ⟨1,3,[true,true,true].map eH⟩:=by rw[hG0,aA.aC (by omega)];exact f3
 have ci:G0 i=some (rdO l p):=by rw[hG0,aA.aC (by omega),ffr _ (by omega),aA.aC (by omega)];exact ho
 have cfr: ∀id,id<nx→G0 id=H id:=fun id hid=>by rw[hG0,aA.aC (by omega),ffr _ (by omega),aA.aC (by omega)]
 clear hG0 f1 f2 f3 ffr
 refine aM.gP (β:=Nat×Nat×List Bool×List Bool) (fun u=>en [(6,dI u.1),(5,.one (.c (.ptr 3 (nx+2) 0 0))),(4,.one (.c (.ptr 3 nx 0 0))),(1,dI slow),(0,bkP 2 i)])
  (fun u H1 _=>u.1≤3∧u.2.1≤p+2*u.1∧u.2.2.1.length=3∧u.2.2.2.length=3∧H1 i=some (rdO l u.2.1)∧H1 (nx+5)=some ⟨1,3,u.2.2.1.map eH⟩∧H1 (nx+7)=some ⟨1,3,u.2.2.2.map eH⟩∧ ∀id,id<nx+8→id≠i→id≠nx+5→id≠nx+7→H1 id=G0 id)
  (fun u=>3-u.1) (0,p,[true,true,true],[true,true,true]) ⟨noF,_,by repeat' (first| (with_reducible first|exact C1|refine C2 ?_ ?_|exact C3|refine C4 ?_ ?_|refine aUP ?_ ?_|refine bfY ?_ ?_ ?_|refine aUQ ?_|refine aUR ?_)| ((with_reducible refine C0 ?_);first|exact CB rfl|exact CC| (exact CQ (by omega) rfl rfl (by first|rfl| (simp;done)|omega| (dsimp only;omega)) rfl)|exact CE (by omega) rfl|exact CR (by omega) rfl|exact CF|exact CH (by first|rfl|assumption)| (exact CG (by first|rfl| (simp;done)| (congr 2;omega)| ((try dsimp only);exact dbT (by omega))| ((try dsimp only);exact dbF (by omega))| ((try dsimp only);exact(dbT (by omega)).symm)| ((try dsimp only);exact(dbF (by omega)).symm)| ((try dsimp only);exact dbE (by omega))| ((try dsimp only);exact diE (by omega))) rfl))| ((with_reducible refine D0 ?_);first|exact CA rfl|exact CI rfl (by simp) rfl rfl rfl|refine C9 ?_|refine CJ ?_)|exact C3|refine C4 ?_ ?_|fail),aK,by dsimp only;omega,by dsimp only;omega,rfl,rfl,ci,c5,bkZ,fun _ _ _ _ _=>rfl⟩ ?_
 rintro⟨k,q,ra,rc⟩ H1 nx1 hnx ⟨hk,hq,hra,hrc,gi,g5,bkV,hfr⟩ KL hKL
 dsimp only at hk hq hra hrc gi g5 bkV
 have g2:=(hfr (nx+2) (by omega) (by omega) (by omega) (by omega)).trans c2
 have hA:bQ nx1 [i,nx,nx+2,nx+5,nx+6,nx+7]:=AM.apart (by simp;omega) (by simp;omega)
 simp only[bQ,eZ] at hA
 by_cases hlt:k<3
 ·repeat' (first| (with_reducible first| (refine hK _ _ _ ?_;clear hK K)| (refine hA ?_;clear hA hB A B)| (refine hB ?_;clear hA hB A B)|refine Z1 ?_|refine Z2 ?_|refine Z3 fun KB hKB=> ?_|refine Z4 (by omega) ?_|refine Z5 (by omega) ?_|refine Z6 (fun h=> ?_) fun h=> ?_|refine Z7 (fun h=> ?_) fun h=> ?_|refine fun(cap:Nat) (hcap:_≤cap)=> ?_|refine fun(hcp:_≤cap)=> ?_|refine fun(b:Bool)=> ?_|refine hKX _ _ _ ?_|refine hKY _ _ _ ?_|refine hKZ _ _ _ ?_)| (first| (with_reducible first|refine Y1 fun K hK=> ?_|refine Y2 fun K hK=> ?_|refine Y3 fun A B hA hB=> ?_|refine Y4 (by omega) ?_|refine Y5 (by omega) ?_|refine Y6 (fun h=> ?_) fun h=> ?_| (refine Y7 (fun h=> ?_) (fun h=> ?_)<;>try subst h))| (refine aX (p:=q) hl (by omega) (by omega) (by omega) gi (fun x h1 h2=> ?_))| (refine aX (p:=q+1) hl (by omega) (by omega) (by omega) (by simp only[aA.set,hA,if_false,if_true,gi]) (fun x h1 h2=> ?_)))<;>(simp only[go_sem,Nat.add_assoc,Nat.left_eq_add,Nat.add_eq_left,g2,g5,bkV,gi,hA];try simp (disch:=omega) only[Iw])| ((with_reducible first|refine Y8 ?_|refine Y9 ?_);try simp only[AQ.then,AQ.blk,reduceIte,Nat.reduceEqDiff])| ((with_reducible refine Y0 ?_);simp only[AQ.then,AQ.blk])| ((with_reducible refine Z8 (fun h=> ?_) (fun h=> ?_))<;>try subst h)|refine⟨by omega,?_⟩| (refine⟨by(rw[List.length_take];omega),?_⟩)| (with_reducible first|refine hKB _ _ _ ?_| (clear hKB KB;refine hKB _ _ _ ?_)| (clear hKB KB;clear hKB KB;refine hKB _ _ _ ?_))|fail)
  have er: ∀(r:List Bool) (y:Int),(r.map eH).set k [D1.v (.bool (decide (0<y)))]=(r.set k (decide (0<y))).map eH:=fun r y=>by rw[List.map_set];rfl
  rename_i y hy1 hy2
  rw[er,er]
  refine hKL _ _ _ (k+1,q+1+1,ra.set k (decide (0<y)),rc.set k (decide (0<x))) noF _ (by omega) (by dsimp only;omega) (by repeat' (first| (with_reducible first|exact C1|refine C2 ?_ ?_|exact C3|refine C4 ?_ ?_|refine aUP ?_ ?_|refine bfY ?_ ?_ ?_|refine aUQ ?_|refine aUR ?_)| ((with_reducible refine C0 ?_);first|exact CB rfl|exact CC| (exact CQ (by omega) rfl rfl (by first|rfl| (simp;done)|omega| (dsimp only;omega)) rfl)|exact CE (by omega) rfl|exact CR (by omega) rfl|exact CF|exact CH (by first|rfl|assumption)| (exact CG (by first|rfl| (simp;done)| (congr 2;omega)| ((try dsimp only);exact dbT (by omega))| ((try dsimp only);exact dbF (by omega))| ((try dsimp only);exact(dbT (by omega)).symm)| ((try dsimp only);exact(dbF (by omega)).symm)| ((try dsimp only);exact dbE (by omega))| ((try dsimp only);exact diE (by omega))) rfl))| ((with_reducible refine D0 ?_);first|exact CA rfl|exact CI rfl (by simp) rfl rfl rfl|refine C9 ?_|refine CJ ?_)|exact C3|refine C4 ?_ ?_|fail)) aK ⟨by dsimp only;omega,by dsimp only;omega,by simpa using hra,by simpa using hrc,?_,?_,?_,fun id d1 d2 d3 bkS=> ?_⟩
  ·dsimp only;rw[aA.aC (by omega),aA.aC (by omega)];exact aA.bH
  ·dsimp only;rw[aA.aC (by omega)];exact aA.bH
  ·exact aA.bH
  ·rw[aA.aC bkS,aA.aC d3,aA.aC d2];exact hfr id d1 d2 d3 bkS
 ·repeat' (first| (with_reducible first| (refine hK _ _ _ ?_;clear hK K)| (refine hA ?_;clear hA hB A B)| (refine hB ?_;clear hA hB A B)|refine Z1 ?_|refine Z2 ?_|refine Z3 fun KB hKB=> ?_|refine Z4 (by omega) ?_|refine Z5 (by omega) ?_|refine Z6 (fun h=> ?_) fun h=> ?_|refine Z7 (fun h=> ?_) fun h=> ?_|refine fun(cap:Nat) (hcap:_≤cap)=> ?_|refine fun(hcp:_≤cap)=> ?_|refine fun(b:Bool)=> ?_|refine hKX _ _ _ ?_|refine hKY _ _ _ ?_|refine hKZ _ _ _ ?_)| (with_reducible first|refine Y1 fun K hK=> ?_|refine Y2 fun K hK=> ?_|refine Y3 fun A B hA hB=> ?_|refine Y4 (by omega) ?_|refine Y5 (by omega) ?_|refine Y6 (fun h=> ?_) fun h=> ?_| (refine Y7 (fun h=> ?_) (fun h=> ?_)<;>try subst h))<;>(simp only[go_sem];try simp (disch:=omega) only[Iw])| ((with_reducible first|refine Y8 ?_|refine Y9 ?_);try simp only[AQ.then,AQ.blk,reduceIte,Nat.reduceEqDiff])| ((with_reducible refine Y0 ?_);simp only[AQ.then,AQ.blk])| ((with_reducible refine Z8 (fun h=> ?_) (fun h=> ?_))<;>try subst h)|refine⟨by omega,?_⟩| (refine⟨by(rw[List.length_take];omega),?_⟩)| (with_reducible first|refine hKB _ _ _ ?_| (clear hKB KB;refine hKB _ _ _ ?_)| (clear hKB KB;clear hKB KB;refine hKB _ _ _ ?_))|fail)
  have hk3:k=3:=by omega
  subst hk3
  have bkU:=(hfr (nx+6) (by omega) (by omega) (by omega) (by omega)).trans bkY
  (have hKY:=hKB;clear hKB)
  refine aM.gP (β:=Nat×Nat×List Bool) (fun u=>en [(7,dI u.1),(5,.one (.c (.ptr 3 (nx+2) 0 0))),(4,.one (.c (.ptr 3 nx 0 0))),(1,dI slow),(0,bkP 2 i)])
   (fun u H2 _=>u.1≤4∧u.2.1≤p+6+u.1∧u.2.2.length=4∧H2 i=some (rdO l u.2.1)∧H2 (nx+6)=some ⟨1,4,u.2.2.map eH⟩∧ ∀id,id<nx1→id≠i→id≠nx+6→H2 id=H1 id)
   (fun u=>4-u.1) (0,q,[false,false,false,false]) ⟨noF,_,by repeat' (first| (with_reducible first|exact C1|refine C2 ?_ ?_|exact C3|refine C4 ?_ ?_|refine aUP ?_ ?_|refine bfY ?_ ?_ ?_|refine aUQ ?_|refine aUR ?_)| ((with_reducible refine C0 ?_);first|exact CB rfl|exact CC| (exact CQ (by omega) rfl rfl (by first|rfl| (simp;done)|omega| (dsimp only;omega)) rfl)|exact CE (by omega) rfl|exact CR (by omega) rfl|exact CF|exact CH (by first|rfl|assumption)| (exact CG (by first|rfl| (simp;done)| (congr 2;omega)| ((try dsimp only);exact dbT (by omega))| ((try dsimp only);exact dbF (by omega))| ((try dsimp only);exact(dbT (by omega)).symm)| ((try dsimp only);exact(dbF (by omega)).symm)| ((try dsimp only);exact dbE (by omega))| ((try dsimp only);exact diE (by omega))) rfl))| ((with_reducible refine D0 ?_);first|exact CA rfl|exact CI rfl (by simp) rfl rfl rfl|refine C9 ?_|refine CJ ?_)|exact C3|refine C4 ?_ ?_|fail),aK,by dsimp only;omega,by dsimp only;omega,rfl,gi,bkU,fun _ _ _ _=>rfl⟩ ?_
  rintro⟨k,q2,rb⟩ H2 nx2 hnx2 ⟨hk,hq2,hrb,hi2,h6,hfr2⟩ KM hKM
  dsimp only at hk hq2 hrb hi2 h6
  have b2:=(hfr2 (nx+2) (by omega) (by omega) (by omega)).trans g2
  have b0:=(hfr2 nx (by omega) (by omega) (by omega)).trans ((hfr nx (by omega) (by omega) (by omega) (by omega)).trans c0)
  have hA2:bQ nx2 [i,nx,nx+2,nx+5,nx+6,nx+7]:=AM.apart (by simp;omega) (by simp;omega)
  simp only[bQ,eZ] at hA2
  by_cases hlt:k<4
  ·repeat' (first| (with_reducible first| (refine hK _ _ _ ?_;clear hK K)| (refine hA ?_;clear hA hB A B)| (refine hB ?_;clear hA hB A B)|refine Z1 ?_|refine Z2 ?_|refine Z3 fun KB hKB=> ?_|refine Z4 (by omega) ?_|refine Z5 (by omega) ?_|refine Z6 (fun h=> ?_) fun h=> ?_|refine Z7 (fun h=> ?_) fun h=> ?_|refine fun(cap:Nat) (hcap:_≤cap)=> ?_|refine fun(hcp:_≤cap)=> ?_|refine fun(b:Bool)=> ?_|refine hKX _ _ _ ?_|refine hKY _ _ _ ?_|refine hKZ _ _ _ ?_)| (first| (with_reducible first|refine Y1 fun K hK=> ?_|refine Y2 fun K hK=> ?_|refine Y3 fun A B hA hB=> ?_|refine Y4 (by omega) ?_|refine Y5 (by omega) ?_|refine Y6 (fun h=> ?_) fun h=> ?_| (refine Y7 (fun h=> ?_) (fun h=> ?_)<;>try subst h))| (refine aX (p:=q2) hl (by omega) (by omega) (by omega) hi2 (fun x h1 h2=> ?_)))<;>(simp only[go_sem,Nat.add_assoc,Nat.left_eq_add,Nat.add_eq_left,b2,h6,hi2,hA2];try simp (disch:=omega) only[Iw])| ((with_reducible first|refine Y8 ?_|refine Y9 ?_);try simp only[AQ.then,AQ.blk,reduceIte,Nat.reduceEqDiff])| ((with_reducible refine Y0 ?_);simp only[AQ.then,AQ.blk])| ((with_reducible refine Z8 (fun h=> ?_) (fun h=> ?_))<;>try subst h)|refine⟨by omega,?_⟩| (refine⟨by(rw[List.length_take];omega),?_⟩)| (with_reducible first|refine hKB _ _ _ ?_| (clear hKB KB;refine hKB _ _ _ ?_)| (clear hKB KB;clear hKB KB;refine hKB _ _ _ ?_))|fail)
   have er: ∀(r:List Bool) (y:Int),(r.map eH).set k [D1.v (.bool (decide (y=0)))]=(r.set k (decide (y=0))).map eH:=fun r y=>by rw[List.map_set];rfl
   rw[er]
   refine hKM _ _ _ (k+1,q2+1,rb.set k (decide (x=0))) noF _ (by omega) (by dsimp only;omega) (by repeat' (first| (with_reducible first|exact C1|refine C2 ?_ ?_|exact C3|refine C4 ?_ ?_|refine aUP ?_ ?_|refine bfY ?_ ?_ ?_|refine aUQ ?_|refine aUR ?_)| ((with_reducible refine C0 ?_);first|exact CB rfl|exact CC| (exact CQ (by omega) rfl rfl (by first|rfl| (simp;done)|omega| (dsimp only;omega)) rfl)|exact CE (by omega) rfl|exact CR (by omega) rfl|exact CF|exact CH (by first|rfl|assumption)| (exact CG (by first|rfl| (simp;done)| (congr 2;omega)| ((try dsimp only);exact dbT (by omega))| ((try dsimp only);exact dbF (by omega))| ((try dsimp only);exact(dbT (by omega)).symm)| ((try dsimp only);exact(dbF (by omega)).symm)| ((try dsimp only);exact dbE (by omega))| ((try dsimp only);exact diE (by omega))) rfl))| ((with_reducible refine D0 ?_);first|exact CA rfl|exact CI rfl (by simp) rfl rfl rfl|refine C9 ?_|refine CJ ?_)|exact C3|refine C4 ?_ ?_|fail)) aK ⟨by dsimp only;omega,by dsimp only;omega,by simpa using hrb,?_,?_,fun id d1 d2 d3=> ?_⟩
   ·dsimp only;rw[aA.aC (by omega)];exact aA.bH
   ·exact aA.bH
   ·rw[aA.aC d3,aA.aC d2];exact hfr2 id d1 d2 d3
  ·repeat' (first| (with_reducible first| (refine hK _ _ _ ?_;clear hK K)| (refine hA ?_;clear hA hB A B)| (refine hB ?_;clear hA hB A B)|refine Z1 ?_|refine Z2 ?_|refine Z3 fun KB hKB=> ?_|refine Z4 (by omega) ?_|refine Z5 (by omega) ?_|refine Z6 (fun h=> ?_) fun h=> ?_|refine Z7 (fun h=> ?_) fun h=> ?_|refine fun(cap:Nat) (hcap:_≤cap)=> ?_|refine fun(hcp:_≤cap)=> ?_|refine fun(b:Bool)=> ?_|refine hKX _ _ _ ?_|refine hKY _ _ _ ?_|refine hKZ _ _ _ ?_)| (with_reducible first|refine Y1 fun K hK=> ?_|refine Y2 fun K hK=> ?_|refine Y3 fun A B hA hB=> ?_|refine Y4 (by omega) ?_|refine Y5 (by omega) ?_|refine Y6 (fun h=> ?_) fun h=> ?_| (refine Y7 (fun h=> ?_) (fun h=> ?_)<;>try subst h))<;>(simp only[go_sem,Nat.add_assoc,Nat.left_eq_add,Nat.add_eq_left,b2,b0,hA2];try simp (disch:=omega) only[Iw])| ((with_reducible first|refine Y8 ?_|refine Y9 ?_);try simp only[AQ.then,AQ.blk,reduceIte,Nat.reduceEqDiff])| ((with_reducible refine Y0 ?_);simp only[AQ.then,AQ.blk])| ((with_reducible refine Z8 (fun h=> ?_) (fun h=> ?_))<;>try subst h)|refine⟨by omega,?_⟩| (refine⟨by(rw[List.length_take];omega),?_⟩)| (with_reducible first|refine hKB _ _ _ ?_| (clear hKB KB;refine hKB _ _ _ ?_)| (clear hKB KB;clear hKB KB;refine hKB _ _ _ ?_))|fail)
   have b5:=(hfr2 (nx+5) (by omega) (by omega) (by omega)).trans g5
   have bk0:=(hfr2 (nx+7) (by omega) (by omega) (by omega)).trans bkV
   refine hQ _ _ _ _ _ (.inr rfl) (fZ rfl aA.bH rfl) ⟨dA (eIn ⟨ra,rb,rc⟩),_,fun j=>nx+5≤j∧j<nx+5+3,lY (aH (bW mK ((aA.aC (by omega)).trans b5) hra.symm (by dsimp only;omega) (by omega)) (aH (bW mK ((aA.aC (by omega)).trans h6) hrb.symm (by dsimp only;omega) (by omega)) (aH (bW mK ((aA.aC (by omega)).trans bk0) hrc.symm (by dsimp only;omega) (by omega)) eP))),ZW,h _ _ q2 ⟨ra,rb,rc⟩ (by omega) (by omega) ⟨hra,hrb,hrc⟩ ?_ fun id d1 d2=> ?_⟩
   ·rw[acA (by omega),aA.aC (by omega)];exact hi2
   ·rw[acA (by omega),aA.aC (by omega),hfr2 id (by omega) d2 (by omega),hfr id (by omega) d2 (by omega) (by omega)];exact cfr id d1
end
end Go.Proofs.Ytmccpdapaccnoaa
end
