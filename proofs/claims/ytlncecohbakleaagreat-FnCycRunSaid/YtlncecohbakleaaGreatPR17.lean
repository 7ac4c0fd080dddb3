/- Rules and contracts. -/
import Derived.Test.YtlncecohbakleaaGreatPR15
set_option linter.unusedVariables false
set_option linter.unusedSimpArgs false
set_option maxRecDepth 100000
set_option maxHeartbeats 8000000
namespace Go.AM
def LO(c:Cfg)(f:CSt->Nat->Option Mic)(l:List Nat)(s S:CSt):Prop:=lQ c s (DG c f s l)=S
variable{c:Cfg}{s:CSt}
theorem LO.next{f:CSt->Nat->Option Mic}{S:CSt}{k:Nat}{l:List Nat}(h:LO c f (k::l) s S):LO c f l (SG c s (f s k)) S:=by
 unfold LO at h
 cases a:f s k with
 |none=>rw[N6 a] at h;exact h
 |some m=>rw[OH a] at h;exact h
theorem LO.nil{f:CSt->Nat->Option Mic}{S:CSt}(h:LO c f [] s S):s=S:=h
theorem XR{o:Option Mic}(a:bH c)(hs:COk c s)(h: ∀m,o=some m->R9 c s m):COk c (SG c s o):=by
 cases o with
 |none=>exact hs
 |some m=>exact BV a hs (h m rfl)
theorem jG.sub{X b:Nat->Prop}{H:aA}{nx:Nat}{nm:Nat->Nat}{cells:List D1}(h:jG b H nx nm s cells)(hs: ∀id,X id->b id):jG X H nx nm s cells:=⟨h.rep,⟨h.names.inj,h.names.lt,fun k c d=>h.names.av k c (hs _ d)⟩,fun id a=>h.x id (hs id a)⟩
theorem LO.none{c:Cfg}{f:CSt->Nat->Option Mic}{s S:CSt}{k:Nat}{l:List Nat}(h:LO c f (k::l) s S)(a:f s k=none):LO c f l s S:=by have:=h.next;rwa [a] at this
theorem FU.Vw{S:CSt}{u:List Bool}{k:Nat}{l:List Nat}(hl:FU c (k::l) s u S):FU c l (Go.Proofs.YtlncecohbakleaaGreat.LI c s u k).1 (Go.Proofs.YtlncecohbakleaaGreat.LI c s u k).2 S:=by
 unfold Go.Proofs.YtlncecohbakleaaGreat.LI
 cases h:QV c s u k with
 |none=>exact hl.none h
 |some who=>exact hl.some h
theorem qg{H:aA}{nh n m c:Nat}{R a rows:List (List D1)}{r' r:List D1}(e':a=R++[r'])(e:rows=R++[r])(l: ∀r∈R,∀x∈r,x.eS=true\/ ∃n id,x= .osl n id 0 0 0)(hm:c=m)(h:CvL H noF id nh r' r):CvO H noF id nh ⟨n,c,a⟩ ⟨n,m,rows⟩:=by
 subst e';subst e;subst hm;refine⟨rfl,rfl,by simp,fun _ h=>by simp at h,fun i d b=> ?_⟩;simp only[ab7] at b ⊢;by_cases hi:i<R.length
 ·rw[if_pos hi] at b ⊢;refine⟨d,b,rfl,fun j x y f g=> ?_⟩;obtain rfl:x=y:=by rw[f] at g;exact Option.some.inj g
  rcases l d (abV b) x (abV f) with o|⟨n,k,rfl⟩
  ·exact bE o
  ·exact .BL ..
 ·rw[if_neg hi] at b ⊢;rw[ae2] at b ⊢;split at b;·rename_i p;cases b;exact⟨r,if_pos p,h⟩
  ·cases b
theorem L0{H:aA}{n id:Nat}(h:H id=some ⟨n,0,[]⟩):lW H n id 0 0 0 []:=⟨⟨0,[],h,rfl,by simp,rfl,by omega,by omega⟩⟩
def P9(nx b c:Nat):Nat->Nat:=fun a=>if a=0 then nx+22 else if a=1 then nx+23 else if a=2 then b else if a=3 then c else if a=4 then nx+14 else if a<8 then nx+(a-5) else if a<11 then nx+3+(a-8) else if a<15 then nx+6+(a-11) else nx+10+(a-15)
theorem zn{X:Nat->Prop}{nx b c nx':Nat}(f: ∀id,X id->id<nx)(m:b=nx+15\/nx+25<=b/\b<nx')(hi:c=nx+16\/nx+25<=c/\c<nx'/\c≠b)(h:nx+25<=nx'):Names X nx' (P9 nx b c):=by
 have key: ∀a,a<19->(a=0/\P9 nx b c a=nx+22)\/(a=1/\P9 nx b c a=nx+23)\/(a=2/\P9 nx b c a=b)\/(a=3/\P9 nx b c a=c)\/(a=4/\P9 nx b c a=nx+14)\/(5<=a/\P9 nx b c a+5=nx+a/\a<15)\/(15<=a/\P9 nx b c a+5=nx+a):=fun a n=>by
  unfold P9;repeat' split
  all_goals omega
 refine⟨fun j k g d he=> ?_,fun k d=> ?_,fun k d i=> ?_⟩;·have e:=key j g;have l:=key k d;omega
 ·have e:=key k d;omega
 ·have e:=key k d;have l:=f _ i;omega
structure aa6(k:Nat)(H:aA)(nm:Nat->Nat)(s:CSt)(rows:List (List D1)):Prop where
 len:rows.length=k
 row: ∀j,j<k->∃r,rows[j]?=some r/\yQ H (nm (5+j)) (nm (8+j)) (aL s j) r
structure aa4(k:Nat)(H:aA)(nm:Nat->Nat)(s:CSt)(rows:List (List D1)):Prop where
 len:rows.length=k
 row: ∀j,j<k->∃r,rows[j]?=some r/\IT H (nm (11+j)) (nm (15+j)) (aS s j) r
def V1(nx b0 b c:Nat):Nat->Nat:=fun a=>if a=0 then b0 else if a=1 then b else if a=2 then nx else if a=3 then nx+1 else c
theorem Ag{nx n b0 b c:Nat}(g:nx+2<=b)(d:b<b0)(e:b0<c)(h:c<n):Part (fun j=>j<5\/(5<=j/\j<5+0)\/(8<=j/\j<8+0)) nx n (V1 nx b0 b c):=by
 have key: ∀a,a<5->(a=0/\V1 nx b0 b c a=b0)\/(a=1/\V1 nx b0 b c a=b)\/(a=2/\V1 nx b0 b c a=nx)\/(a=3/\V1 nx b0 b c a=nx+1)\/(a=4/\V1 nx b0 b c a=c):=fun a i=>by
  unfold V1;repeat' split
  all_goals omega
 refine⟨fun j k l f he=> ?_,fun k f=> ?_⟩;·have d:=key j (by omega);have e:=key k (by omega);omega
 ·have d:=key k (by omega);omega
noncomputable def cyB(c:Cfg)(s:CSt):Bool:=@decide (bH c/\COk c s) (Classical.propDecidable _)
theorem Vu(a:bH c)(h:COk c s):cyB c s=true:=by simp[cyB,h,a]
theorem Gu(h: ¬(bH c/\COk c s)):cyB c s=false:=by simp[cyB,h]
theorem wH:cyB c s=true↔bH c/\COk c s:=by simp[cyB]
structure BB(s:CSt):Prop where
 w:s.words.length<2^21
 h:s.holds.length<2^21
 t:s.told.length<2^21
 td: ∀j∈s.told,j.rsp.data.length<2^21
 pl:s.bC.length<2^21
 sl:s.bN.length<2^21
 port: ∀k,(aL s k).queue.length<2^21/\(aL s k).out.length<2^21
 slv: ∀k,(aS s k).pipe.length<2^21/\(aS s k).done.length<2^21/\ ∀j∈(aS s k).done,j.rsp.data.length<2^21
theorem Dd(b:BB s)(c:s.bC.length=3)(d:s.bN.length<=4)(e: ∀k,k<3->(aL s k).queue.length<=3)(f: ∀k,k<s.bN.length->(aS s k).pipe.length<=3/\(aS s k).done.length<=3)(hw:(nR s).length<20)(g:(qV s).length<20):EI s:=by
 refine⟨c,d,e,f,hw,g,⟨b.w,b.h,by simpa [dN] using b.pl,?_,?_,b.t,fun j a=> ?_⟩⟩;·show (cW (nR s)).length<_;rw[(iU _).length_eq];omega
 ·show (cW (qV s)).length<_;rw[(iU _).length_eq];omega
 ·have a:j∈cW (nR s)++cW (qV s)++s.told:=a;simp only[abS,D2] at a;rcases a with(a|a)|a
  ·rcases OF.1 a with⟨k,_,m,_,rfl⟩|⟨k,_,m,_,rfl⟩
   ·exact(by decide:([]:List Int).length<2^21)
   ·exact(by decide:([]:List Int).length<2^21)
  ·obtain⟨k,_,h⟩:=OL.1 a;exact(b.slv k).2.2 j h
  ·exact b.td j a
theorem xm{a b:Nat}(c:s.bC.length=3)(e:s.bN.length<=4)(g: ∀k,k<3->(aL s k).queue.length<=a)(h: ∀k,k<s.bN.length->(aS s k).pipe.length<=b):(nR s).length<=a*3+b*4:=by
 unfold nR;rw[abL];have i:=wE (f:=gL s) (m:=a) s.bC.length fun k d=>by rw[c] at d;simpa [gL] using g k d
 have j:=wE (f:=fD s) (m:=b) s.bN.length fun k d=>by simpa [fD] using h k d
 rw[c] at i;have l:=Nat.mul_le_mul_left b e;rw[c];omega
theorem X6{b:Nat}(a:s.bN.length<=4)(c: ∀k,k<s.bN.length->(aS s k).done.length<=b):(qV s).length<=b*4:=by unfold qV;have e:=wE (f:=fun k=>(aS s k).done) (m:=b) s.bN.length fun k d=>c k d;have g:=Nat.mul_le_mul_left b a;omega
theorem ru(g:BB s)(hp:zH c s)(h:s.bN.length=4)(b: ∀k,k<4->pE c s k):EI s:=by have d: ∀k,k<3->(aL s k).queue.length<=2:=fun k a=>(hp.port k a).ql.1;have e: ∀k,k<s.bN.length->(aS s k).pipe.length<=2:=fun k a=>(b k (by omega)).pl;have f: ∀k,k<s.bN.length->(aS s k).done.length<=2:=fun k a=>(b k (by omega)).dl;have i:=xm hp.pl (by omega) d e;have j:=X6 (by omega) f;exact Dd g hp.pl (by omega) (fun k a=>by have:=d k a;omega) (fun k a=>⟨by have:=e k a;omega,by have:=f k a;omega⟩) (by omega) (by omega)
structure Kw(c:Cfg)(who:Nat)(p:eT)(k:Nat):Prop where
 all: ∀i,i<k->LX c who p (p.out.getD i default)
 srt: ∀i j,i<j->j<k->(p.out.getD i default).n<(p.out.getD j default).n
 ids: ∀i j,i<j->j<k->(bQ c who (p.out.getD i default).n).id=(bQ c who (p.out.getD j default).n).id->(p.out.getD i default).left=(p.out.getD j default).left
theorem Kw.next{who:Nat}{p:eT}{k:Nat}(h:Kw c who p k)(d:LX c who p (p.out.getD k default))(e:0<k->(p.out.getD (k-1) default).n<(p.out.getD k default).n)
 (f: ∀i,i<k->(bQ c who (p.out.getD i default).n).id=(bQ c who (p.out.getD k default).n).id->(p.out.getD i default).left=(p.out.getD k default).left):Kw c who p (k+1):=by
 refine⟨bL h.all d,fun i j a g=> ?_,fun i j a g he=> ?_⟩
 ·by_cases b:j<k;·exact h.srt i j a b
  ·obtain rfl:j=k:=by omega
   have l:=e (by omega);by_cases hi:i=j-1;·subst hi;omega
   ·have:=h.srt i (j-1) (by omega) (by omega);omega
 ·by_cases b:j<k;·exact h.ids i j a b he
  ·obtain rfl:j=k:=by omega
   exact f i a he
theorem Kw.end{who:Nat}{p:eT}(h:Kw c who p p.out.length):(∀j∈p.out,LX c who p j)/\(p.out.Pairwise fun a b=>a.n<b.n)/\ ∀a∈p.out,∀b∈p.out,(bQ c who a.n).id=(bQ c who b.n).id->a.left=b.left:=by
 have f: ∀i (hi:i<p.out.length),p.out.getD i default=p.out[i]:=fun i hi=>by simp[List.getD,hi]
 refine⟨fun j e=> ?_,acH.2 fun i j hi e d=> ?_,fun a g b k he=> ?_⟩;·obtain⟨i,hi,rfl⟩:=ab6.1 e;rw[<-f i hi];exact h.all i hi
 ·rw[<-f i hi,<-f j e];exact h.srt i j d e
 ·obtain⟨i,hi,rfl⟩:=ab6.1 g;obtain⟨j,e,rfl⟩:=ab6.1 k;rw[<-f i hi,<-f j e] at he ⊢;rcases Nat.lt_trichotomy i j with d|d|d;·exact h.ids i j d e he
  ·subst d;rfl
  ·exact(h.ids j i d hi he.symm).symm
def yO(s:CSt)(who n:Int)(st:Nat):Prop:=(0<=who/\who<=2)/\ ∃j∈(aL s who.toNat).out,j.n=n/\j.left=st
noncomputable def oaB(s:CSt)(who n:Int)(st:Nat):Bool:=@decide (yO s who n st) (Classical.propDecidable _)
theorem Mx{who n:Int}{st:Nat}(h:yO s who n st):oaB s who n st=true:=by simp[oaB,h]
theorem Fz{who n:Int}{st:Nat}(h: ¬yO s who n st):oaB s who n st=false:=by simp[oaB,h]
end Go.AM
namespace Go.Proofs.YtlncecohbakleaaGreat
open Go Go.AM
attribute [local irreducible] aJ wv aC vd wvH
section
variable{H:aA}{nx:Nat}{K:afC}
theorem Fy{c:Cfg}{s:CSt}{u:List Bool}{st:Nat}(b:bH c)(hs:COk c s)(a:st<4)(hu:u.length=3):COk c (LI c s u st).1/\(LI c s u st).2.length=3:=by
 unfold LI
 cases h:QV c s u st with
 |none=>exact⟨hs,hu⟩
 |some who=>exact⟨BV b hs (sm a h),by simpa using hu⟩
theorem EH{X:Nat->Prop}{c:Cfg}{i:CIn}{s:CSt}{nm:Nat->Nat}{cells:List D1}(hb:bH c)(hs:COk c s)(hi:tR i)(hR:jG X H nx nm s cells)
 (h: ∀H' nx' g y,nx<=nx'->jG X H' nx' g (yR c i s) y->(∀id,X id->H' id=H id)->K (dA y) H' nx'):
 afB pK [dA (bI c),dA cells,dA (eIn i)] H nx K:=by
 refine bR.mk Tryz.func77 (by kernel_rfl) WB rfl fun Q hQ=> ?_
 unfold sF
 have hX:=hR.x
 obtain⟨ka,eo⟩:=eW hb
 obtain⟨kc,kf,kt⟩:=hi
 obtain⟨C,ad⟩: ∃C:Nat->Prop,C=fun id=>X id\/id=nx\/id=nx+1\/id=nx+2\/id=nx+3:=⟨_,rfl⟩
 have x0:C nx:=by rw[ad];exact .inr (.inl rfl)
 have x1:C (nx+1):=by rw[ad];exact .inr (.inr (.inl rfl))
 have x2:C (nx+2):=by rw[ad];exact .inr (.inr (.inr (.inl rfl)))
 have x3:C (nx+3):=by rw[ad];exact .inr (.inr (.inr (.inr rfl)))
 have xX: ∀id,X id->C id:=fun id h=>by rw[ad];exact .inl h
 have cc: ∀id,C id->id<nx/\X id\/nx<=id/\id<=nx+3:=fun id h=>by
  rw[ad] at h;rcases h with h|h|h|h|h;·exact .inl ⟨hX id h,h⟩
  all_goals exact .inr (by omega)
 have J:=hR
 obtain⟨wc,hc,pc,vc,tc,mp,rp,mv,rv,l,g1,g2,g3,g4,g5,g6,g7,g8,g9,ga,gb⟩:=hR.get
 subst l
 repeat' first|apply vI<;>(simp only[go_sem,nL])|fail
 refine aJ.YQ fun G hG=> ?_
 have f0:G nx=some ⟨3,1,[bI c]⟩:=by rw[hG,aA.aB (by omega),aA.aB (by omega),aA.aB (by omega)];exact aA.aI
 have f1:G (nx+1)=some ⟨5,1,[[.osl 1 (nm 0) 0 s.words.length wc,.osl 1 (nm 1) 0 s.holds.length hc,.osl 4 (nm 2) 0 3 pc,.osl 3 (nm 3) 0 4 vc,.osl 5 (nm 4) 0 s.told.length tc]]⟩:=by rw[hG,aA.aB (by omega),aA.aB (by omega)];exact aA.aI
 have f2:G (nx+2)=some ⟨3,1,[eIn i]⟩:=by rw[hG,aA.aB (by omega)];exact aA.aI
 have f3:G (nx+3)=some ⟨5,1,[[D1.osl 0 0 0 0 0,D1.osl 0 0 0 0 0,D1.osl 0 0 0 0 0,D1.osl 0 0 0 0 0,D1.osl 0 0 0 0 0]]⟩:=by rw[hG];exact aA.aI
 have ff: ∀id,id<nx->G id=H id:=fun id d=>by rw[hG,aA.aB (by omega),aA.aB (by omega),aA.aB (by omega),aA.aB (by omega)]
 clear hG
 have ep:jG C G (nx+4) nm s [.osl 1 (nm 0) 0 s.words.length wc,.osl 1 (nm 1) 0 s.holds.length hc,.osl 4 (nm 2) 0 3 pc,.osl 3 (nm 3) 0 4 vc,.osl 5 (nm 4) 0 s.told.length tc]:=
  ⟨J.rep.frame fun k L=>ff _ (J.names.lt k L),⟨J.names.inj,fun k L=>by have:=J.names.lt k L;omega,fun k L hn=>by
   have h1:=J.names.lt k L
   rcases cc _ hn with⟨_,h2⟩|h2
   ·exact J.names.av k L h2
   ·omega⟩,fun id d=>by rcases cc id d with h|h<;>omega⟩
 clear hR J g1 g2 g3 g4 g5 g6 g7 g8 g9 ga gb
 refine aJ.cG (β:=Nat×(Nat->Nat)×List D1×CSt) (fun u=>en [(7,dI u.1),(6,.one (.c (.ptr 5 (nx+3) 0 0))),(5,.one (.c (.ptr 3 (nx+2) 0 0))),(4,.one (.c (.ptr 5 (nx+1) 0 0))),(3,.one (.c (.ptr 3 nx 0 0)))])
  (fun u H1 M=>u.1<=3/\COk c u.2.2.2/\jG C H1 M u.2.1 u.2.2.2 u.2.2.1/\H1 (nx+1)=some ⟨5,1,[u.2.2.1]⟩/\LO c (pJ i) ([0,1,2].drop u.1) u.2.2.2 (D9 c i s)/\ ∀id,C id->id≠nx+1->H1 id=G id) (fun u=>3-u.1) (0,nm,_,s)
  ⟨noF,_,by repeat' first|exact C1|refine xqI rfl rfl ?_|refine xqP (by omega) rfl rfl ?_|fail,aE,by dsimp only;omega,hs,ep.frame (by omega) (fun _ _ _=>rfl),f1,rfl,fun _ _ _=>rfl⟩ ?_
 rintro⟨k,ct,kx,s1⟩ H1 M et ⟨L,U,ah,w,t,f⟩ KL cw
 dsimp only at L U ah w t f
 have Y:=(f nx x0 (by omega)).trans f0
 have Z:=(f (nx+2) x2 (by omega)).trans f2
 have e3:=(f (nx+3) x3 (by omega)).trans f3
 obtain⟨wc,hc,pc,vc,tc,mp,rp,mv,rv,l,g1,g2,g3,g4,g5,g6,g7,g8,g9,ga,gb⟩:=ah.get
 subst l
 have hB:aO M [nx,nx+1,nx+2,nx+3]:=AM.apart (by simp) (by simp;omega)
 simp only[aO,bG] at hB
 by_cases q:k<3
 ·rw[zg q] at t
  cases hr:i.ready.getD k default with
  |false=>
   repeat' first|apply vI<;>(simp only[go_sem,nL,Y,w,Z,hr,hB];try simp (disch:=omega) only[Iw])|apply vT (by omega)|refine⟨by omega,?_⟩|fail
   all_goals exact cw _ _ _ (k+1,ct,_,s1) noF _ (by omega) (by dsimp only;omega) (by repeat' first|exact C1|refine xqI rfl rfl ?_|refine xqP (by omega) rfl rfl ?_|fail) aE ⟨by dsimp only;omega,U,ah.frame (by omega) (fun _ _ _=>rfl),w,t.none (U6 hr),f⟩
  |true=>
   repeat' first|apply vI<;>(simp only[go_sem,nL,Y,w,Z,hr,hB])|apply vT (by omega)|refine⟨by omega,?_⟩|fail
   refine PW (X:=C) hb U q hr (ah.frame (nx':=M+11) (by omega) (fun _ _ _=>rfl)) fun H' nx' g y cx R S=> ?_;have q1:=(S (nx+1) x1).trans w;obtain⟨cy,da,br,dc,df,_,_,_,_,z,_⟩:=R.get;subst z;have A:=XR hb U (o:=pJ i s1 k) (fun m hm=>HR U q hm);(try simp only[go_sem,nL,q1]);repeat' first|apply vI<;>(simp only[go_sem,nL,q1];try simp (disch:=omega) only[Iw])|fail
   exact cw _ _ _ (k+1,g,_,SG c s1 (pJ i s1 k)) noF _ (by omega) (by dsimp only;omega) (by repeat' first|exact C1|refine xqI rfl rfl ?_|refine xqP (by omega) rfl rfl ?_|fail) aE ⟨by dsimp only;omega,A,R.frame (by omega) (fun id h1 h2=>aA.aB fun he=>h2 (he▸x1)),aA.aI,t.next,fun id d D=>by rw[aA.aB D,S id d];exact f id d D⟩
 ·have cd:k=3:=by omega
  subst cd;have t:=LO.nil t;subst t;repeat' first|apply vI<;>(simp only[go_sem])|apply vF (by omega)|fail
  refine aJ.cG (β:=Nat×(Nat->Nat)×List D1×CSt) (fun u=>en [(8,dI u.1),(6,.one (.c (.ptr 5 (nx+3) 0 0))),(5,.one (.c (.ptr 3 (nx+2) 0 0))),(4,.one (.c (.ptr 5 (nx+1) 0 0))),(3,.one (.c (.ptr 3 nx 0 0)))])
   (fun u H1 M=>u.1<=4/\COk c u.2.2.2/\jG C H1 M u.2.1 u.2.2.2 u.2.2.1/\H1 (nx+1)=some ⟨5,1,[u.2.2.1]⟩/\LO c (lZ i) ([0,1,2,3].drop u.1) u.2.2.2 (MB c i s)/\ ∀id,C id->id≠nx+1->H1 id=G id) (fun u=>4-u.1) (0,ct,_,D9 c i s)
   ⟨noF,_,by repeat' first|exact C1|refine xqI rfl rfl ?_|refine xqP (by omega) rfl rfl ?_|fail,aE,by dsimp only;omega,U,ah.frame (by omega) (fun _ _ _=>rfl),w,rfl,f⟩ ?_
  clear ah w f Y Z e3 hB g1 g2 g3 g4 g5 g6 g7 g8 g9 ga gb U;rintro⟨k,T,ky,s2⟩ H2 bw ew ⟨L,V,I,w,t,f⟩ KM dh;dsimp only at L V I w t f;have Y:=(f nx x0 (by omega)).trans f0;have Z:=(f (nx+2) x2 (by omega)).trans f2;obtain⟨wc,hc,pc,vc,tc,mp,rp,mv,rv,l,g1,g2,g3,g4,g5,g6,g7,g8,g9,ga,gb⟩:=I.get;subst l;have hB:aO bw [nx,nx+1,nx+2,nx+3]:=AM.apart (by simp) (by simp;omega);simp only[aO,bG] at hB;by_cases q:k<4
  ·rw[rz q] at t
   cases hr:i.mW.getD k default with
   |true=>
    repeat' first|apply vI<;>(simp only[go_sem,nL,Y,w,Z,hr,hB];try simp (disch:=omega) only[Iw])|apply vT (by omega)|refine⟨by omega,?_⟩|fail
    all_goals exact dh _ _ _ (k+1,T,_,s2) noF _ (by omega) (by dsimp only;omega) (by repeat' first|exact C1|refine xqI rfl rfl ?_|refine xqP (by omega) rfl rfl ?_|fail) aE ⟨by dsimp only;omega,V,I.frame (by omega) (fun _ _ _=>rfl),w,t.none (MV (.inl hr)),f⟩
   |false=>
    repeat' first|apply vI<;>(simp only[go_sem,nL,Y,w,Z,hr,hB])|apply vT (by omega)|refine⟨by omega,?_⟩|fail
    refine GV (X:=C) hb V q hr (I.frame (nx':=bw+13) (by omega) (fun _ _ _=>rfl)) fun H' nx' g y cx R S=> ?_;have q1:=(S (nx+1) x1).trans w;obtain⟨cy,da,br,dc,df,_,_,_,_,z,_⟩:=R.get;subst z;have A:=XR hb V (o:=lZ i s2 k) (fun m hm=>HS V q hm);(try simp only[go_sem,nL,q1]);repeat' first|apply vI<;>(simp only[go_sem,nL,q1];try simp (disch:=omega) only[Iw])|fail
    exact dh _ _ _ (k+1,g,_,SG c s2 (lZ i s2 k)) noF _ (by omega) (by dsimp only;omega) (by repeat' first|exact C1|refine xqI rfl rfl ?_|refine xqP (by omega) rfl rfl ?_|fail) aE ⟨by dsimp only;omega,A,R.frame (by omega) (fun id h1 h2=>aA.aB fun he=>h2 (he▸x1)),aA.aI,t.next,fun id d D=>by rw[aA.aB D,S id d];exact f id d D⟩
  ·have cf:k=4:=(by omega);subst cf;have t:=LO.nil t;subst t;repeat' first|apply vI<;>(simp only[go_sem])|apply vF (by omega)|fail
   obtain⟨ub,fh⟩: ∃ub,ub=bw+2:=⟨_,rfl⟩
   rw[<-fh];obtain⟨X2,ca⟩: ∃X2:Nat->Prop,X2=fun id=>C id\/id=ub:=⟨_,rfl⟩
   have y1:X2 (nx+1):=(by rw[ca];exact .inl x1);have yu:X2 ub:=(by rw[ca];exact .inr rfl);have yX: ∀id,C id->X2 id:=fun id h=>by rw[ca];exact .inl h
   have aw: ∀id,X2 id->C id\/id=ub:=fun id h=>by rw[ca] at h;exact h
   have N: ∀id,C id->id<nx+4:=fun id h=>by rcases cc id h with h|h<;>omega
   obtain⟨G2,ao⟩: ∃G2,G2=H2.set ub ⟨1,3,[false,false,false].map fE⟩:=⟨_,rfl⟩
   have bb:aA.set H2 ub ⟨1,3,[[D1.v (Value.bool false)],[D1.v (Value.bool false)],[D1.v (Value.bool false)]]⟩=G2:=ao.symm;rw[bb];have j1:G2 (nx+1)=_:=(by rw[ao];exact aA.aB (by omega):G2 (nx+1)=H2 (nx+1)).trans w;have ju:G2 ub=some ⟨1,3,[false,false,false].map fE⟩:=(by rw[ao];exact aA.aI);have ds: ∀id,C id->id≠nx+1->G2 id=G id:=fun id d D=>by rw[ao,aA.aB (by have:=N id d;omega)];exact f id d D
   have jR:jG X2 G2 (bw+5) T (MB c i s) [.osl 1 (T 0) 0 (MB c i s).words.length wc,.osl 1 (T 1) 0 (MB c i s).holds.length hc,.osl 4 (T 2) 0 3 pc,.osl 3 (T 3) 0 4 vc,.osl 5 (T 4) 0 (MB c i s).told.length tc]:=
    ⟨I.rep.frame fun k L=>by rw[ao];exact aA.aB (by have:=I.names.lt k L;omega),⟨I.names.inj,fun k L=>by have:=I.names.lt k L;omega,fun k L hn=>by
     rcases aw _ hn with h|h
     ·exact I.names.av k L h
     ·have:=I.names.lt k L;omega⟩,fun id d=>by
     rcases aw id d with h|h
     ·have:=N id h;omega
     ·omega⟩
   clear I w f Y Z hB g1 g2 g3 g4 g5 g6 g7 g8 g9 ga gb ao bb
   refine aJ.cG (β:=Nat×(Nat->Nat)×List D1×CSt×List Bool) (fun u=>en [(10,dI u.1),(9,.one (.c (.osl 1 ub 0 3 3))),(6,.one (.c (.ptr 5 (nx+3) 0 0))),(5,.one (.c (.ptr 3 (nx+2) 0 0))),(4,.one (.c (.ptr 5 (nx+1) 0 0))),(3,.one (.c (.ptr 3 nx 0 0)))])
    (fun u H1 M=>u.1<=4/\COk c u.2.2.2.1/\u.2.2.2.2.length=3/\jG X2 H1 M u.2.1 u.2.2.2.1 u.2.2.1/\H1 (nx+1)=some ⟨5,1,[u.2.2.1]⟩/\H1 ub=some ⟨1,3,u.2.2.2.2.map fE⟩/\FU c ([0,1,2,3].drop u.1) u.2.2.2.1 u.2.2.2.2 (JI c i s)/\ ∀id,C id->id≠nx+1->H1 id=G id) (fun u=>4-u.1) (0,T,_,MB c i s,[false,false,false])
    ⟨noF,_,by repeat' first|exact C1|refine xqI rfl rfl ?_|refine xqP (by omega) rfl rfl ?_|refine xqO (by omega) rfl rfl (by rfl) ?_|fail,aE,by dsimp only;omega,V,rfl,jR.frame (by omega) (fun _ _ _=>rfl),j1,ju,rfl,ds⟩ ?_
   clear jR j1 ju ds V;rintro⟨k,fi,la,s3,u3⟩ H3 fl fm ⟨L,bh,ck,bk,w,eu,t,f⟩ KN fo;dsimp only at L bh ck bk w eu t f;have Y:=(f nx x0 (by omega)).trans f0;have Z:=(f (nx+2) x2 (by omega)).trans f2;obtain⟨wc,hc,pc,vc,tc,mp,rp,mv,rv,l,g1,g2,g3,g4,g5,g6,g7,g8,g9,ga,gb⟩:=bk.get;subst l;have hB:aO fl [nx,nx+1,nx+2,nx+3]:=AM.apart (by simp) (by simp;omega);simp only[aO,bG] at hB;by_cases q:k<4
   ·rw[rz q] at t;repeat' first|apply vI<;>(simp only[go_sem,nL,Y,w,Z,hB])|apply vT (by omega)|fail
    refine SJ (X:=X2) (um:=3) hb bh q ck (bk.frame (by omega) (fun _ _ _=>rfl)) yu eu (by omega) fun H' nx' g y cx R fp S=> ?_;have q1:=(S (nx+1) y1 (by omega)).trans w;obtain⟨cy,da,br,dc,df,_,_,_,_,z,_⟩:=R.get;subst z;obtain⟨A,fs⟩:=Fy (u:=u3) hb bh q ck;(try simp only[go_sem,nL,q1]);repeat' first|apply vI<;>(simp only[go_sem,nL,q1];try simp (disch:=omega) only[Iw])|fail
    exact fo _ _ _ (k+1,g,_,(LI c s3 u3 k).1,(LI c s3 u3 k).2) noF _ (by omega) (by dsimp only;omega) (by repeat' first|exact C1|refine xqI rfl rfl ?_|refine xqP (by omega) rfl rfl ?_|refine xqO (by omega) rfl rfl (by rfl) ?_|fail) aE ⟨by dsimp only;omega,A,fs,R.frame (by omega) (fun id h1 h2=>aA.aB fun he=>h2 (he▸y1)),aA.aI,by rw[aA.aB (by omega)];exact fp,t.Vw,fun id d D=>by rw[aA.aB D,S id (yX id d) (by have:=N id d;omega)];exact f id d D⟩
   ·have cf:k=4:=(by omega);subst cf;have t:s3=JI c i s:=t;subst t;repeat' first|apply vI<;>(simp only[go_sem])|apply vF (by omega)|fail
    have jR:=bk.sub yX;clear bk Y Z hB g1 g2 g3 g4 g5 g6 g7 g8 g9 ga gb eu
    refine aJ.cG (β:=Nat×(Nat->Nat)×List D1×CSt) (fun u=>en [(11,dI u.1),(6,.one (.c (.ptr 5 (nx+3) 0 0))),(5,.one (.c (.ptr 3 (nx+2) 0 0))),(4,.one (.c (.ptr 5 (nx+1) 0 0))),(3,.one (.c (.ptr 3 nx 0 0)))])
     (fun u H1 M=>u.1<=3/\COk c u.2.2.2/\jG C H1 M u.2.1 u.2.2.2 u.2.2.1/\H1 (nx+1)=some ⟨5,1,[u.2.2.1]⟩/\LO c (MP c i) ([0,1,2].drop u.1) u.2.2.2 (yR c i s)/\ ∀id,C id->id≠nx+1->H1 id=G id) (fun u=>3-u.1) (0,fi,_,JI c i s)
     ⟨noF,_,by repeat' first|exact C1|refine xqI rfl rfl ?_|refine xqP (by omega) rfl rfl ?_|fail,aE,by dsimp only;omega,bh,jR.frame (by omega) (fun _ _ _=>rfl),w,rfl,f⟩ ?_
    clear jR w f bh;rintro⟨k,n,lb,P⟩ H4 E fx ⟨L,B,F,w,t,f⟩ KO cl;dsimp only at L B F w t f;have Y:=(f nx x0 (by omega)).trans f0;have Z:=(f (nx+2) x2 (by omega)).trans f2;have e3:=(f (nx+3) x3 (by omega)).trans f3;have J:=F;obtain⟨wc,hc,pc,vc,tc,mp,rp,mv,rv,l,g1,g2,g3,g4,g5,g6,g7,g8,g9,ga,gb⟩:=F.get;subst l;have hB:aO E [nx,nx+1,nx+2,nx+3]:=AM.apart (by simp) (by simp;omega);simp only[aO,bG] at hB;by_cases q:k<3
    ·rw[zg q] at t;by_cases hg:i.send.getD k default=true/\(aL P k).queue.length<2/\(aL P k).next<(c.cN.getD k default).length
     case neg=>
      have hO:MP c i P k=none:=by unfold MP;exact if_neg hg
      cases hr:i.send.getD k default with
      |false=>
       repeat' first|apply vI<;>(simp only[go_sem,nL,Y,w,Z,hr,hB];try simp (disch:=omega) only[Iw])|apply vT (by omega)|refine⟨by omega,?_⟩|fail
       all_goals exact cl _ _ _ (k+1,n,_,P) noF _ (by omega) (by dsimp only;omega) (by repeat' first|exact C1|refine xqI rfl rfl ?_|refine xqP (by omega) rfl rfl ?_|fail) aE ⟨by dsimp only;omega,B,F.frame (by omega) (fun _ _ _=>rfl),w,t.none hO,f⟩
      |true=>
       have cp:decide ((aL P k).queue.length<2/\(aL P k).next<(c.cN.getD k default).length)=false:=decide_eq_false fun h=>hg ⟨hr,h⟩;repeat' first| (first|apply vI|refine vS hb B q (J.Q6 B.pl B.sl (fun id d=>rfl)) ?_)<;>(simp only[go_sem,nL,Y,w,Z,hr,cp,hB];try simp (disch:=omega) only[Iw])|apply vT (by omega)|refine⟨by omega,?_⟩|fail
       all_goals exact cl _ _ _ (k+1,n,_,P) noF _ (by omega) (by dsimp only;omega) (by repeat' first|exact C1|refine xqI rfl rfl ?_|refine xqP (by omega) rfl rfl ?_|fail) aE ⟨by dsimp only;omega,B,F.frame (by omega) (fun _ _ _=>rfl),w,t.none hO,f⟩
     have hO:MP c i P k=some (.ask k):=(by unfold MP;exact if_pos hg);obtain⟨hr,dv,dx⟩:=hg;have cp:decide ((aL P k).queue.length<2/\(aL P k).next<(c.cN.getD k default).length)=true:=decide_eq_true ⟨dv,dx⟩;obtain⟨p,hp⟩: ∃p,aL P k=p:=⟨_,rfl⟩
     obtain⟨qo,qc,oc,gr,gq,go⟩:=ga k q;rw[hp] at gr gq go dv dx;obtain⟨bp,_⟩:=(B.port k q).next;rw[hp] at bp;have lk:=eo k;have lt:=F.names.lt;have n2:=lt 2 (by omega);have n5:=lt (5+k) (by omega);have a2: ∀x,C x->n 2≠x:=fun x hx he=>F.names.av 2 (by omega) (he▸hx);have a5: ∀x,C x->n (5+k)≠x:=fun x hx he=>F.names.av (5+k) (by omega) (he▸hx);have dy:aO E ([2,5+k].map n):=AM.apart (F.names.list (by simp;omega) (by simp;omega)) (fun x hx=>by obtain⟨j,hj,rfl⟩:=abP.1 hx;exact lt j (by simp at hj;omega));simp only[aO,bG,List.map] at dy;have gd:=eq_false (a2 _ x0);have gf:=eq_false (a2 _ x1);have gi:=eq_false (a2 _ x2);have gp:=eq_false (a2 _ x3);have ha:=eq_false (a5 _ x0);have hd:=eq_false (a5 _ x1);have hf:=eq_false (a5 _ x2);have hh:=eq_false (a5 _ x3);have ho:=eq_false (a2 _ x0).symm;have hq:=eq_false (a2 _ x1).symm;have ht:=eq_false (a2 _ x2).symm;have hv:=eq_false (a5 _ x1).symm;have k1: ∀(G:aA) (b k:Nat),msk (E+b) [k] G (nx+1)=G (nx+1):=fun G b k=>mk1 (by omega);have k2: ∀(G:aA) (b k:Nat),msk (E+b) [k] G (n 2)=G (n 2):=fun G b k=>mk1 (by omega);have k5: ∀(G:aA) (b j:Nat),msk (E+b) [j] G (n (5+k))=G (n (5+k)):=fun G b j=>mk1 (by omega);obtain⟨mq,rq0,z1,z2,z3,z4,z5,z6⟩:=gq.ex;rw[abT] at z4;have hy:List.take p.queue.length (List.drop qo rq0)=p.queue.map aH:=(by rw[z2,abM (by simp)]);have dz: ∀r,(rp.set k r)[k]?=some r:=fun r=>by rw[acA (by omega)]
     repeat' first| (first|apply vI|refine vS hb B q (J.Q6 B.pl B.sl (fun id d=>rfl)) ?_)<;>(simp only[go_sem,nL,Y,w,Z,hr,cp,g1,gr,z1,hy,dz,k1,k2,k5,acE,hB,dy,gd,gf,gi,gp,ha,hd,hf,hh,ho,hq,ht,hv];try simp (disch:=omega) only[Iw])|apply vT (by omega)| (with_reducible first|refine fun(cap:Nat) (hz:_<=cap)=> ?_|refine fun(ma:_<=cap)=> ?_)|refine⟨by omega,?_⟩|fail
     have hex:(p.queue++[p.next]).map aH=(p.queue++[p.next]).map aH:=rfl;obtain⟨s',A⟩: ∃s',s'=bS c P (.ask k):=⟨_,rfl⟩
     have cq:COk c s':=(by rw[A];exact BV hb B (sc B q hO));have t:=t.next;rw[hO,show SG c P (some (.ask k))=s' from A.symm] at t;have aa:aL s' k= {p with queue:=p.queue++[p.next],next:=p.next+1}:=(by rw[A,cH rfl (by rw[B.pl];omega),if_pos rfl,hp]);have inj:=F.names.inj;refine SW (K:=KO) fun W hW=> ?_;have ia:W (E+29)=some ⟨1,cap,(p.queue++[p.next]).map aH⟩:=(by rw[hW];simp (disch:=omega) only[aA.aB,aA.aI]);have w2:W (n 2)=some ⟨4,mp,rp.set k [cI (p.next+1),.osl 1 (E+29) 0 (p.queue.length+1) cap,.osl 3 (n (8+k)) 0 p.out.length oc,cI p.last]⟩:=(by rw[hW];exact aA.aI);have wf: ∀id,id<E->id≠n 2->id≠n (5+k)->W id=H4 id:=fun id h1 h2 h3=>by rw[hW];simp (disch:=omega) only[aA.aB,aA.cC]
     clear hW;have wX: ∀id,C id->W id=H4 id:=fun id d=>wf id (by have:=N id d;omega) (fun he=>a2 id d he.symm) (fun he=>a5 id d he.symm);have wk: ∀a,a<19->a≠2->a≠5+k->W (n a)=H4 (n a):=fun a h1 h2 h3=>wf _ (lt a h1) (fun he=>h2 (inj a 2 h1 (by omega) he)) (fun he=>h3 (inj a (5+k) h1 (by omega) he));obtain⟨g,ab⟩: ∃g,g=put n (5+k) (E+29):=⟨_,rfl⟩
     have O: ∀a,a≠5+k->g a=n a:=fun a h1=>by rw[ab,bV h1]
     have eb:g (5+k)=E+29:=(by rw[ab,fL]);have hN:Names C (E+49) g:=(by rw[ab];exact F.names.put (by omega) (by omega) (fun hn=>by have:=N _ hn;omega));have ed:s'.words=P.words:=(by rw[A];rfl);have ei:s'.holds=P.holds:=(by rw[A];rfl);have ej:s'.told=P.told:=(by rw[A];rfl);have w1:W (nx+1)=some ⟨5,1,[[.osl 1 (g 0) 0 s'.words.length wc,.osl 1 (g 1) 0 s'.holds.length hc,.osl 4 (g 2) 0 3 pc,.osl 3 (g 3) 0 4 vc,.osl 5 (g 4) 0 s'.told.length tc]]⟩:=(by rw[wX _ x1,w,ed,ei,ej,O 0 (by omega),O 1 (by omega),O 2 (by omega),O 3 (by omega),O 4 (by omega)]);refine cl _ _ _ (k+1,g,_,s') noF _ (by omega) (by dsimp only;omega) (by repeat' first|exact C1|refine xqI rfl rfl ?_|refine xqP (by omega) rfl rfl ?_|fail) aE ⟨by dsimp only;omega,cq,⟨⟨⟨wc,hc,pc,vc,tc,rfl,?_,?_,?_,g6,g7⟩,⟨mp,rp.set k [cI (p.next+1),.osl 1 (E+29) 0 (p.queue.length+1) cap,.osl 3 (n (8+k)) 0 p.out.length oc,cI p.last],?_,by rw[ab0,g8],fun j hj=> ?_⟩,⟨mv,rv,?_,g9,fun j hj=> ?_⟩⟩,hN,fun id d=>by have:=N id d;omega⟩,w1,t,fun id d D=>(wX id d).trans (f id d D)⟩;·dsimp only;rw[ed,O 0 (by omega)];exact g3.frame (wk 0 (by omega) (by omega) (by omega))
     ·dsimp only;rw[ei,O 1 (by omega)];exact g4.frame (wk 1 (by omega) (by omega) (by omega))
     ·dsimp only;rw[ej,O 4 (by omega)];exact g5.frame (wk 4 (by omega) (by omega) (by omega))
     ·dsimp only;rw[O 2 (by omega)];exact w2
     ·dsimp only;by_cases cr:j=k
      ·subst cr;refine⟨_,dz _,⟨0,cap,oc,?_,?_,?_⟩⟩;·rw[aa,eb,O (8+j) (by omega)];simp only[VV,abL,List.length_singleton]
       ·rw[aa,eb];exact⟨cap,_,ia,rfl,by simp,by simp,by simp;omega,by omega⟩
       ·rw[aa,O (8+j) (by omega)];exact go.frame (wk (8+j) (by omega) (by omega) (by omega))
      ·obtain⟨ie,ih,iv,v1,v2,v3⟩:=ga j hj;have e:aL s' j=aL P j:=(by rw[A,cH rfl (by rw[B.pl];omega),if_neg cr]);refine⟨_,by rw[acB (Ne.symm cr)];exact v1,⟨ie,ih,iv,?_,?_,?_⟩⟩;·rw[e,O (5+j) (by omega),O (8+j) (by omega)];rfl
       ·rw[e,O (5+j) (by omega)];exact v2.frame (wk (5+j) (by omega) (by omega) (by omega))
       ·rw[e,O (8+j) (by omega)];exact v3.frame (wk (8+j) (by omega) (by omega) (by omega))
     ·dsimp only;rw[O 3 (by omega)];exact(wk 3 (by omega) (by omega) (by omega)).trans g2
     ·dsimp only;obtain⟨iw,br,jh,jo,v1,v2,v3⟩:=gb j hj;have e:aS s' j=aS P j:=(by rw[A];rfl);refine⟨_,v1,⟨iw,br,jh,jo,?_,?_,?_⟩⟩;·rw[e,O (11+j) (by omega),O (15+j) (by omega)];rfl
      ·rw[e,O (11+j) (by omega)];exact v2.frame (wk (11+j) (by omega) (by omega) (by omega))
      ·rw[e,O (15+j) (by omega)];exact v3.frame (wk (15+j) (by omega) (by omega) (by omega))
    ·have cd:k=3:=(by omega);subst cd;have t:=LO.nil t;subst t;repeat' first|apply vI<;>(simp only[go_sem,w,e3,hB,nL])|apply vF (by omega)|fail
     refine hQ _ _ _ _ _ (.inr rfl) (gS rfl aA.aI rfl) ?_;refine h _ _ n _ (by omega) ((F.frame (by omega) fun id h1 h2=>aA.aB fun he=>h2 (he▸x3)).sub xX) fun id d=> ?_;rw[aA.aB (by have:=hX id d;omega),f id (xX id d) (by have:=hX id d;omega)];exact ff id (hX id d)
def WX(nx k:Nat):List (List D1):=(List.range k).map fun j=>[cI 0,.osl 1 (nx+j) 0 0 0,.osl 3 (nx+3+j) 0 0 0,cI 3]
def X9(nx k:Nat):List (List D1):=(List.range k).map fun j=>[.osl 3 (nx+6+j) 0 0 0,.osl 5 (nx+10+j) 0 0 0,cI 2]
theorem xk{nx k:Nat}:(WX nx k).length=k:=by simp[WX]
theorem xg{nx k:Nat}:(X9 nx k).length=k:=by simp[X9]
theorem Jd{nx k:Nat}:WX nx (k+1)=WX nx k++[[cI 0,.osl 1 (nx+k) 0 0 0,.osl 3 (nx+3+k) 0 0 0,cI 3]]:=by simp[WX,adL]
theorem Kv{nx k:Nat}:X9 nx (k+1)=X9 nx k++[[.osl 3 (nx+6+k) 0 0 0,.osl 5 (nx+10+k) 0 0 0,cI 2]]:=by simp[X9,adL]
theorem lq{X:Nat->Prop}(hX: ∀id,X id->id<nx)
 (h: ∀H' nx' nm cells,nx<=nx'->jG X H' nx' nm Q7 cells->(∀id,id<nx->H' id=H id)->K (dA cells) H' nx'):
 afB F7 [] H nx K:=by
 refine bR.mk Tryz.func75 (by kernel_rfl) YO rfl fun Q hQ=> ?_
 unfold wO
 refine aJ.mM 1 (aJ.mM 1 (aJ.mM 1 (aJ.mM 3 (aJ.mM 3 (aJ.mM 3 (aJ.mM 3 (aJ.mM 3 (aJ.mM 3 (aJ.mM 3 (aJ.mM 5 (aJ.mM 5 (aJ.mM 5 (aJ.mM 5 (aJ.mM 5 (aJ.mM 4 (aJ.mM 3 ?_))))))))))))))))
 refine aJ.YQ fun q e=> ?_
 have c1: ∀k,k<3->q (nx+k)=some ⟨1,0,[]⟩:=fun k l=>by
  rw[e];obtain rfl|rfl|rfl:k=0\/k=1\/k=2:=by omega
  all_goals (simp (disch:=omega) only[aA.aB,aA.aI,abH,Nat.reduceAdd,Nat.add_zero])
 have v: ∀k,3<=k->k<10->q (nx+k)=some ⟨3,0,[]⟩:=fun k l P=>by
  rw[e];obtain rfl|rfl|rfl|rfl|rfl|rfl|rfl:k=3\/k=4\/k=5\/k=6\/k=7\/k=8\/k=9:=by omega
  all_goals (simp (disch:=omega) only[aA.aB,aA.aI,abH,Nat.reduceAdd,Nat.add_zero])
 have D: ∀k,10<=k->k<15->q (nx+k)=some ⟨5,0,[]⟩:=fun k l P=>by
  rw[e];obtain rfl|rfl|rfl|rfl|rfl:k=10\/k=11\/k=12\/k=13\/k=14:=by omega
  all_goals (simp (disch:=omega) only[aA.aB,aA.aI,abH,Nat.reduceAdd,Nat.add_zero])
 have cp:q (nx+15)=some ⟨4,0,[]⟩:=by rw[e];simp (disch:=omega) only[aA.aB,aA.aI,abH,Nat.reduceAdd,Nat.add_zero]
 have cv:q (nx+16)=some ⟨3,0,[]⟩:=by rw[e];simp (disch:=omega) only[aA.aB,aA.aI,abH,Nat.reduceAdd,Nat.add_zero]
 have cf: ∀id,id<nx->q id=H id:=fun id g=>by rw[e];simp (disch:=omega) only[aA.aB]
 clear e
 simp only[abH,Nat.reduceAdd]
 repeat' first| (first|apply vI|refine P6 (fun f R=> ?_))<;>(simp only[go_sem,nL])|fail
 have S: ∀k,∀r∈WX nx k,∀x∈r,x.eS=true\/ ∃n id,x= .osl n id 0 0 0:=fun k r hr x E=>by
  obtain⟨j,_,rfl⟩:=abP.1 hr;simp only[abQ,acG,or_false] at E;rcases E with rfl|rfl|rfl|rfl;·exact .inl rfl
  ·exact .inr ⟨_,_,rfl⟩
  ·exact .inr ⟨_,_,rfl⟩
  ·exact .inl rfl
 have T: ∀k,∀r∈X9 nx k,∀x∈r,x.eS=true\/ ∃n id,x= .osl n id 0 0 0:=fun k r hr x E=>by
  obtain⟨j,_,rfl⟩:=abP.1 hr;simp only[abQ,acG,or_false] at E;rcases E with rfl|rfl|rfl;·exact .inr ⟨_,_,rfl⟩
  ·exact .inr ⟨_,_,rfl⟩
  ·exact .inl rfl
 refine aJ.kH _ _ noF (fun t=>.inl rfl) (FQ (i:=nx+20) (o':=⟨5,1,[[.osl 1 (nx+22) 0 64 64,.osl 1 (nx+23) 0 6 f,.osl 4 (nx+15) 0 0 0,.osl 3 (nx+16) 0 0 0,.osl 5 (nx+14) 0 0 0]]⟩) aA.aI (bA (aG (.osl _ _ _ _ _ (by omega)) (aG (.osl _ _ _ _ _ (by omega)) (aG (.BL ..) (aG (.BL ..) (aG (.BL ..) cJ))))))) ?_
 refine aJ.KT fun G C=> ?_
 have U:G (nx+20)=some ⟨5,1,[[.osl 1 (nx+22) 0 64 64,.osl 1 (nx+23) 0 6 f,.osl 4 (nx+15) 0 0 0,.osl 3 (nx+16) 0 0 0,.osl 5 (nx+14) 0 0 0]]⟩:=by rw[C];exact aA.aI
 have V:G (nx+17)=some ⟨5,1,[[D1.osl 0 0 0 0 0,D1.osl 0 0 0 0 0,D1.osl 0 0 0 0 0,D1.osl 0 0 0 0 0,D1.osl 0 0 0 0 0]]⟩:=by rw[C];simp (disch:=omega) only[aA.aB,aA.aI]
 have Y:G (nx+22)=some ⟨1,64,(List.replicate 64 (0:Int)).map aH⟩:=by rw[C];simp (disch:=omega) only[aA.aB,aA.aI];rfl
 have Z:G (nx+23)=some ⟨1,f,(List.replicate 6 (-1:Int)).map aH⟩:=by rw[C];simp (disch:=omega) only[aA.aB,aA.aI];rfl
 have df: ∀id,id<nx+17->G id=q id:=fun id g=>by rw[C];simp (disch:=omega) only[aA.aB]
 clear C
 refine aJ.cG (β:=Nat×Nat×Nat) (fun u=>en [(2,dI u.1),(1,.one (.c (.ptr 5 (nx+20) 0 0))),(0,.one (.c (.ptr 5 (nx+17) 0 0)))])
  (fun u H1 n1=>u.1<=3/\H1 (nx+20)=some ⟨5,1,[[.osl 1 (nx+22) 0 64 64,.osl 1 (nx+23) 0 6 f,.osl 4 u.2.1 0 u.1 u.2.2,.osl 3 (nx+16) 0 0 0,.osl 5 (nx+14) 0 0 0]]⟩/\(∃m,H1 u.2.1=some ⟨4,m,WX nx u.1⟩/\u.1<=u.2.2/\u.2.2<=m)/\(u.2.1=nx+15\/nx+25<=u.2.1/\u.2.1<n1)/\ ∀id,id<nx+25->id≠nx+15->id≠nx+20->H1 id=G id) (fun u=>3-u.1) (0,nx+15,0)
  ⟨noF,_,by repeat' first|exact C1|refine xqI rfl rfl ?_|refine xqP (by omega) rfl rfl ?_|fail,aE,by dsimp only;omega,U,⟨0,(df (nx+15) (by omega)).trans cp,abG _,abG _⟩,.inl rfl,fun _ _ _ _=>rfl⟩ ?_
 rintro⟨k,b,F⟩ H1 w aa ⟨l,y,⟨m,eb,ab,ad⟩,ah,z⟩ KL ao
 dsimp only at l y eb ab ad ah
 have hA:aO w [nx+17,nx+20,b]:=AM.apart (by simp;omega) (by simp;omega)
 simp only[aO,bG] at hA
 have I:=xk (nx:=nx) (k:=k)
 have J:List.take k (WX nx k)=WX nx k:=abM (by omega)
 by_cases aw:k<3
 ·repeat' first|apply vI<;>(simp only[go_sem,nL,y,eb,I,J,hA];try simp (disch:=omega) only[Iw])|apply vT (by omega)| (with_reducible first|refine fun(cap:Nat) (L:_<=cap)=> ?_|refine fun(bh:_<=cap)=> ?_)|refine⟨by omega,?_⟩|fail
  refine SW (K:=KL) fun W s=> ?_;refine ao _ _ _ (k+1,w+6,cap) noF _ (by omega) (by dsimp only;omega) (by repeat' first|exact C1|refine xqI rfl rfl ?_|refine xqP (by omega) rfl rfl ?_|fail) (FQ (i:=w+6) (o':=⟨4,cap,WX nx (k+1)⟩) (by rw[s,aA.aB (by omega)];exact aA.aI) (qg Jd rfl (S k) rfl (aG (bE rfl) (aG (.BL ..) (aG (.BL ..) (aG (bE rfl) cJ)))))) ⟨by dsimp only;omega,?_,⟨cap,aA.aI,by dsimp only;omega,abG _⟩,by dsimp only;omega,fun id M N A=> ?_⟩;·dsimp only;rw[aA.aB (by omega),s,aA.aI]
  ·rw[aA.aB (by omega),s,aA.aB A,aA.aB (by omega),aA.aB (by omega),aA.cC (by omega)];exact z id M N A
 ·repeat' first|apply vI<;>(simp only[go_sem])|apply vF (by omega)|fail
  have bk:k=3:=by omega
  subst bk;have br:H1 (nx+16)=some ⟨3,0,[]⟩:=(z (nx+16) (by omega) (by omega) (by omega)).trans ((df (nx+16) (by omega)).trans cv);clear hA I J
  refine aJ.cG (β:=Nat×Nat×Nat) (fun u=>en [(3,dI u.1),(1,.one (.c (.ptr 5 (nx+20) 0 0))),(0,.one (.c (.ptr 5 (nx+17) 0 0)))])
   (fun u H2 n2=>u.1<=4/\H2 (nx+20)=some ⟨5,1,[[.osl 1 (nx+22) 0 64 64,.osl 1 (nx+23) 0 6 f,.osl 4 b 0 3 F,.osl 3 u.2.1 0 u.1 u.2.2,.osl 5 (nx+14) 0 0 0]]⟩/\(∃m,H2 u.2.1=some ⟨3,m,X9 nx u.1⟩/\u.1<=u.2.2/\u.2.2<=m)/\(u.2.1=nx+16\/nx+25<=u.2.1/\u.2.1<n2/\u.2.1≠b)/\H2 b=some ⟨4,m,WX nx 3⟩/\ ∀id,id<nx+25->id≠nx+15->id≠nx+16->id≠nx+20->H2 id=G id) (fun u=>4-u.1) (0,nx+16,0)
   ⟨noF,_,by repeat' first|exact C1|refine xqI rfl rfl ?_|refine xqP (by omega) rfl rfl ?_|fail,aE,by dsimp only;omega,y,⟨0,br,abG _,abG _⟩,.inl rfl,eb,fun id M N _ A=>z id M N A⟩ ?_
  rintro⟨k,iv,cw⟩ H2 B bw ⟨l,o,⟨mv,bp,ca,cc⟩,cd,bb,a⟩ KM ck;dsimp only at l o bp ca cc cd;have p:aO B [nx+17,nx+20,b,iv]:=AM.apart (by simp;omega) (by simp;omega);simp only[aO,bG] at p;have cl:=xg (nx:=nx) (k:=k);have cq:List.take k (X9 nx k)=X9 nx k:=abM (by omega);by_cases aw:k<4
  ·repeat' first|apply vI<;>(simp only[go_sem,nL,o,bp,cl,cq,p];try simp (disch:=omega) only[Iw])|apply vT (by omega)| (with_reducible first|refine fun(cap:Nat) (L:_<=cap)=> ?_|refine fun(bh:_<=cap)=> ?_)|refine⟨by omega,?_⟩|fail
   refine SW (K:=KM) fun W s=> ?_;refine ck _ _ _ (k+1,B+6,cap) noF _ (by omega) (by dsimp only;omega) (by repeat' first|exact C1|refine xqI rfl rfl ?_|refine xqP (by omega) rfl rfl ?_|fail) (FQ (i:=B+6) (o':=⟨3,cap,X9 nx (k+1)⟩) (by rw[s,aA.aB (by omega)];exact aA.aI) (qg Kv rfl (T k) rfl (aG (.BL ..) (aG (.BL ..) (aG (bE rfl) cJ))))) ⟨by dsimp only;omega,?_,⟨cap,aA.aI,by dsimp only;omega,abG _⟩,by dsimp only;omega,?_,fun id M N f3 A=> ?_⟩;·dsimp only;rw[aA.aB (by omega),s,aA.aI]
   ·rw[aA.aB (by omega),s,aA.aB (by omega),aA.aB (by omega),aA.aB (by omega),aA.cC (by omega)];exact bb
   ·rw[aA.aB (by omega),s,aA.aB A,aA.aB (by omega),aA.aB (by omega),aA.cC (by omega)];exact a id M N f3 A
  ·repeat' first|apply vI<;>(simp only[go_sem])|apply vF (by omega)|fail
   have cr:k=4:=(by omega);subst cr;have O:=(a (nx+17) (by omega) (by omega) (by omega) (by omega)).trans V;have ct:=(a (nx+22) (by omega) (by omega) (by omega) (by omega)).trans Y;have cx:=(a (nx+23) (by omega) (by omega) (by omega) (by omega)).trans Z;have d: ∀id,id<nx+15->H2 id=q id:=fun id g=>(a id (by omega) (by omega) (by omega) (by omega)).trans (df id (by omega));(try simp only[go_sem,nL,o,O,p,nL]);repeat' first|apply vI<;>(simp only[go_sem,nL,o,O,p,nL])|fail
   refine hQ _ _ _ _ _ (.inr rfl) (gS rfl aA.aI rfl) ?_;refine h _ _ (P9 nx b iv) _ (by omega) ⟨⟨⟨64,f,F,cw,0,rfl,⟨⟨64,_,by rw[aA.aB (by show nx+22≠nx+17;omega)];exact ct,rfl,by simp[Q7],by simp[Q7],by simp[Q7],by omega⟩⟩,⟨⟨f,_,by rw[aA.aB (by show nx+23≠nx+17;omega)];exact cx,rfl,by simp[Q7],by simp[Q7],by simpa [Q7] using R,by omega⟩⟩,L0 (by rw[aA.aB (by show nx+14≠nx+17;omega),d _ (by show nx+14<nx+15;omega)];exact D 14 (by omega) (by omega)),by omega,by omega⟩,⟨m,WX nx 3,by rw[aA.aB (by show b≠nx+17;omega)];exact bb,xk,fun k l=> ?_⟩,⟨mv,X9 nx 4,by rw[aA.aB (by show iv≠nx+17;omega)];exact bp,xg,fun k l=> ?_⟩⟩,zn hX (by omega) (by omega) (by omega),fun id g=>by have:=hX id g;omega⟩ fun id g=> ?_
   ·rw[ow l];obtain rfl|rfl|rfl:k=0\/k=1\/k=2:=by omega
    all_goals
     refine⟨_,rfl,⟨⟨0,0,0,rfl,L0 ?_,L0 ?_⟩⟩⟩
    ·rw[aA.aB (by show nx+0≠nx+17;omega),d _ (by show nx+0<nx+15;omega)];exact c1 0 (by omega)
    ·rw[aA.aB (by show nx+3+0≠nx+17;omega),d _ (by show nx+3+0<nx+15;omega)];exact v 3 (by omega) (by omega)
    ·rw[aA.aB (by show nx+1≠nx+17;omega),d _ (by show nx+1<nx+15;omega)];exact c1 1 (by omega)
    ·rw[aA.aB (by show nx+3+1≠nx+17;omega),d _ (by show nx+3+1<nx+15;omega)];exact v 4 (by omega) (by omega)
    ·rw[aA.aB (by show nx+2≠nx+17;omega),d _ (by show nx+2<nx+15;omega)];exact c1 2 (by omega)
    ·rw[aA.aB (by show nx+3+2≠nx+17;omega),d _ (by show nx+3+2<nx+15;omega)];exact v 5 (by omega) (by omega)
   ·rw[za l];obtain rfl|rfl|rfl|rfl:k=0\/k=1\/k=2\/k=3:=by omega
    all_goals
     refine⟨_,rfl,⟨⟨0,0,0,0,rfl,L0 ?_,L0 ?_⟩⟩⟩
    ·rw[aA.aB (by show nx+6+0≠nx+17;omega),d _ (by show nx+6+0<nx+15;omega)];exact v 6 (by omega) (by omega)
    ·rw[aA.aB (by show nx+10+0≠nx+17;omega),d _ (by show nx+10+0<nx+15;omega)];exact D 10 (by omega) (by omega)
    ·rw[aA.aB (by show nx+6+1≠nx+17;omega),d _ (by show nx+6+1<nx+15;omega)];exact v 7 (by omega) (by omega)
    ·rw[aA.aB (by show nx+10+1≠nx+17;omega),d _ (by show nx+10+1<nx+15;omega)];exact D 11 (by omega) (by omega)
    ·rw[aA.aB (by show nx+6+2≠nx+17;omega),d _ (by show nx+6+2<nx+15;omega)];exact v 8 (by omega) (by omega)
    ·rw[aA.aB (by show nx+10+2≠nx+17;omega),d _ (by show nx+10+2<nx+15;omega)];exact D 12 (by omega) (by omega)
    ·rw[aA.aB (by show nx+6+3≠nx+17;omega),d _ (by show nx+6+3<nx+15;omega)];exact v 9 (by omega) (by omega)
    ·rw[aA.aB (by show nx+10+3≠nx+17;omega),d _ (by show nx+10+3<nx+15;omega)];exact D 13 (by omega) (by omega)
   ·rw[aA.aB (by omega),d id (by omega)];exact cf id g
theorem NY{n:Nat}{l:List Int}{p i:Nat}(hn:0<n/\n<=90)(hl:fW l)(R:p+2000<2^50)(hi:i<nx)(U:H i=some (rdO l p))
 (h: ∀H' nx' S (xs:List CIn),nx<=nx'->S<=p+1000->xs.length<=90->(∀x∈xs,tR x)->H' i=some (rdO l S)->(∀id,id<nx->id≠i->H' id=H id)->∀io cap m,nx<=io->io<nx'->H' io=some ⟨3,m,xs.map eIn⟩->xs.length<=cap->cap<=m->K (dO 3 io xs.length cap) H' nx'):afB rU [dP 2 i,dI n] H nx K:=by
 refine bR.mk Tryz.func93 (by kernel_rfl) Z0 rfl fun Q V=> ?_
 unfold wL
 have B:aO nx [i]:=AM.apart (by simp) (by simp;omega)
 simp only[aO,bG] at B
 repeat' first|apply vI<;>(simp only[go_sem,nL,B])|fail
 refine aM (p:=p) hl (by omega) (by omega) (by omega) (by simp only[aA.set,B,if_false];exact U) fun x W h2=> ?_
 obtain⟨a,C,D⟩: ∃a:Int,[[D1.v (Value.int IntKind.i64 2)],[D1.v (Value.int IntKind.i64 3)],[D1.v (Value.int IntKind.i64 5)],[D1.v (Value.int IntKind.i64 20)]][x.toNat]?=some [cI a]/\0<a/\a<1000:=by
  have:x=0\/x=1\/x=2\/x=3:=by omega
  rcases this with rfl|rfl|rfl|rfl;·exact⟨2,rfl,by omega⟩
  ·exact⟨3,rfl,by omega⟩
  ·exact⟨5,rfl,by omega⟩
  ·exact⟨20,rfl,by omega⟩
 have E:(0<=x)=True:=eq_true W
 have F:(x<4)=True:=eq_true (by omega)
 simp only[go_sem,nL,Nat.reduceAdd,B,C,E,F]
 refine⟨by omega,?_⟩
 try apply kI
 repeat' first|apply vI<;>(simp only[go_sem])|fail
 refine aM (p:=p+1) hl (by omega) (by omega) (by omega) aA.aI fun y X Y=> ?_
 simp only[go_sem]
 repeat' first|apply vI<;>(simp only[go_sem])|fail
 refine aJ.KT fun G b=> ?_
 have ci:G i=some (rdO l (p+1+1)):=by rw[b];exact aA.aI
 have c1:G (nx+1)=some ⟨3,0,[]⟩:=by rw[b];simp only[aA.set,show ¬nx+1=i by omega,abJ,Nat.reduceEqDiff,if_false,if_true]
 have I: ∀id,id<nx->id≠i->G id=H id:=fun id d1 d2=>by rw[b];simp only[aA.set,d2,show ¬id=nx+1 by omega,show ¬id=nx+3 by omega,if_false]
 clear b
 refine aJ.cG (β:=Nat×Nat×List CIn×Nat×Nat) (fun u=>en [(7,dI u.1),(6,dI a),(5,.one (.c (.osl 3 u.2.2.2.1 0 u.2.2.1.length u.2.2.2.2))),(0,dP 2 i)])
  (fun u H1 d=>u.1+u.2.2.1.length<=90/\u.2.1+10*u.1<=p+2+10*y.toNat/\(∀x∈u.2.2.1,tR x)/\H1 i=some (rdO l u.2.1)/\(∃m,H1 u.2.2.2.1=some ⟨3,m,u.2.2.1.map eIn⟩/\u.2.2.1.length<=u.2.2.2.2/\u.2.2.2.2<=m)/\nx<=u.2.2.2.1/\u.2.2.2.1<d/\ ∀id,id<nx->id≠i->H1 id=H id)
  (fun u=>u.1) (y.toNat,p+1+1,[],nx+1,0) ⟨noF,_,by repeat' first|exact C1|refine xqI rfl rfl ?_|refine xqP (by omega) rfl rfl ?_|refine xqV rfl (by omega) ?_| (with_reducible apply C2)| ((with_reducible apply C0);exact CC)| ((with_reducible apply D0);apply CJ)|fail,aE,by dsimp only[List.length_nil];omega,by dsimp only;omega,fun x Z=>by simp at Z,ci,⟨0,c1,abG _,abG _⟩,by dsimp only;omega,by dsimp only;omega,I⟩ ?_
 rintro⟨j,q,xs,io,cap⟩ H1 d aa ⟨hj,hq,g,J,⟨m,L,T,M⟩,e,o,r⟩ KL N
 dsimp only at hj hq g J L T M e o
 have s:aO d [i,io]:=AM.apart (by simp;omega) (by simp;omega)
 simp only[aO,bG] at s
 by_cases ab:0<j
 ·repeat' first|apply vI<;>(simp only[go_sem])|apply vT (by omega)|fail
  refine ud hl (by omega) D (by omega) J fun H2 O q2 x ad ah P fi t=> ?_;have f1:=(t io (by omega) (by omega)).trans L;have w:aO O [i,io]:=AM.apart (by simp;omega) (by simp;omega);simp only[aO,bG] at w;simp only[go_sem,abH,f1,s,w];refine⟨M,by omega,fun f A ao=> ?_⟩;try apply kI
  repeat' first|apply vI<;>(simp only[go_sem];try simp (disch:=omega) only[Iw])|fail
  refine N _ _ _ (j-1,q2,xs++[x],d+7,f) noF _ (by omega) (by dsimp only;omega) (by dsimp only;rw[abL,List.length_singleton];repeat' first|exact C1|refine xqI rfl rfl ?_|refine xqP (by omega) rfl rfl ?_|refine xqO (by omega) rfl rfl (by rfl) ?_|refine xqV rfl (by omega) ?_|fail) aE ⟨by simp;omega,by dsimp only;omega,fun z k=> ?_,?_,⟨f,aA.aI,by simpa using A,abG _⟩,by dsimp only;omega,by dsimp only;omega,fun id d1 d2=> ?_⟩
  ·rcases abS.1 k with k|k;·exact g z k
   ·simp at k;subst k;exact P
  ·rw[aA.aB (by omega),aA.aB (by omega),aA.cC (by omega)];exact fi
  ·rw[aA.aB (by omega),aA.aB (by omega),aA.cC (by omega),t id (by omega) d2];exact r id d1 d2
 ·repeat' first|apply vI<;>(simp only[go_sem])|apply vF (by omega)|fail
  exact V _ _ _ _ _ (.inr rfl) rfl (h _ _ q xs (by omega) (by omega) (by omega) g J r io cap m e (by omega) L T M)
theorem YY{n:Nat}{l:List Int}{p i:Nat}(c:0<n/\n<=90)(hl:fW l)(a:p+2000<2^50)(hi:i<nx)(d:H i=some (rdO l p))
 (h: ∀H' nx' b (xs:List CIn),nx<=nx'->b<=p+1000->xs.length<=90->(∀x∈xs,tR x)->H' i=some (rdO l b)->(∀id,id<nx->id≠i->H' id=H id)->K (dS (xs.map eIn)) H' nx'):afB rU [dP 2 i,dI n] H nx K:=
 aC.kH (NY c hl a hi d fun H' nx' b xs e f g k o q io cap m t u r s v=>⟨dS (xs.map eIn),_,fun j=>j=io,pL Bc r rfl s rfl,C6,h _ _ b xs e f g k (by rw[aA.cC (by omega)];exact o) fun id d1 d2=>by rw[aA.cC (by omega)];exact q id d1 d2⟩)
theorem rL{s:CSt}(hs:CSz s)
 (h: ∀H' nx' nm cells,nx<=nx'->BA H' nm s cells->Part (fun k=>k<19) nx nx' nm->(∀id,id<nx->H' id=H id)->K (dA cells) H' nx'):
 afB lU [dA (bK s)] H nx K:=by
 have fl:=hs.pl
 have fm:=hs.sl
 refine bR.mk Tryz.func103 (by kernel_rfl) ar rfl fun Q hQ=> ?_
 unfold w8
 refine aJ.mM 4 (aJ.mM 3 ?_)
 repeat' first| (first|apply vI|refine L3 (w:=s.words) (u:=s.holds) hs.w hs.h (fun H1 b b0 b1 c0 c1 N E h3 dz eb F=> ?_))<;>(simp only[go_sem,nL])|fail
 generalize hU:dF (nx+4) [7] _ H1=U
 have u2:U (nx+2)=some ⟨5,1,[bK s]⟩:=by rw[<-hU,um1 (by omega),F _ (by omega),aA.aB (by omega)];exact aA.aI
 have u3:U (nx+3)=some ⟨5,1,[[.osl 0 0 0 0 0,.osl 0 0 0 0 0,.osl 0 0 0 0 0,.osl 0 0 0 0 0,.osl 0 0 0 0 0]]⟩:=by rw[<-hU,um1 (by omega),F _ (by omega)];exact aA.aI
 have ed:U (nx+11)=some ⟨5,1,[[.osl 0 0 0 0 0,.osl 0 0 0 0 0,.osl 0 0 0 0 0,.osl 0 0 0 0 0,.osl 0 0 0 0 0]]⟩:=by rw[<-hU,show nx+11=nx+4+7 by omega,yt];exact aA.aI
 have u0:U nx=some ⟨4,0,[]⟩:=by rw[<-hU,um1 (by omega),F _ (by omega),aA.aB (by omega),aA.aB (by omega),aA.aB (by omega)];exact aA.aI
 have u1:U (nx+1)=some ⟨3,0,[]⟩:=by rw[<-hU,um1 (by omega),F _ (by omega),aA.aB (by omega),aA.aB (by omega)];exact aA.aI
 have ei:Own aH 1 U b0 c0 s.words:=dz.of (by rw[<-hU,um1 (by omega)])
 have ej:Own aH 1 U b1 c1 s.holds:=eb.of (by rw[<-hU,um1 (by omega)])
 have uf: ∀id,id<nx->U id=H id:=fun id z=>by rw[<-hU,um1 (by omega),F _ (by omega),aA.aB (by omega),aA.aB (by omega),aA.aB (by omega),aA.aB (by omega),mk1 (by omega)]
 clear hU dz eb F
 have m0: ∀G:aA,msk (nx+4) [7] G (nx+2)=G (nx+2):=fun G=>mk1 (by omega)
 refine⟨fun _=>by rw[m0,u2];rfl,?_⟩
 refine kO (l:=s.told) hs.t.1 hs.t.2 fun H2 I b2 c2 h4 h5 R C=> ?_
 simp only[go_sem,m0]
 generalize hV:dF (nx+4) [7] U H2=V
 have v2:V (nx+2)=some ⟨5,1,[bK s]⟩:=by rw[<-hV,um1 (by omega),C _ (by omega),mk1 (by omega)];exact u2
 have v3:V (nx+3)=some ⟨5,1,[[.osl 0 0 0 0 0,.osl 0 0 0 0 0,.osl 0 0 0 0 0,.osl 0 0 0 0 0,.osl 0 0 0 0 0]]⟩:=by rw[<-hV,um1 (by omega),C _ (by omega),mk1 (by omega)];exact u3
 have v11:V (nx+11)=some ⟨5,1,[[.osl 0 0 0 0 0,.osl 0 0 0 0 0,.osl 0 0 0 0 0,.osl 0 0 0 0 0,.osl 0 0 0 0 0]]⟩:=by rw[<-hV,show nx+11=nx+4+7 by omega,yt];exact ed
 have v0:V nx=some ⟨4,0,[]⟩:=by rw[<-hV,um1 (by omega),C _ (by omega),mk1 (by omega)];exact u0
 have v1:V (nx+1)=some ⟨3,0,[]⟩:=by rw[<-hV,um1 (by omega),C _ (by omega),mk1 (by omega)];exact u1
 have fo:Own aH 1 V b0 c0 s.words:=ei.of (by rw[<-hV,um1 (by omega),C _ (by omega),mk1 (by omega)])
 have fp:Own aH 1 V b1 c1 s.holds:=ej.of (by rw[<-hV,um1 (by omega),C _ (by omega),mk1 (by omega)])
 have fs:Own aT 5 V b2 c2 s.told:=R.of (by rw[<-hV,um1 (by omega)])
 have vf: ∀id,id<nx->V id=H id:=fun id z=>by rw[<-hV,um1 (by omega),C _ (by omega),mk1 (by omega)];exact uf id z
 clear hV R C u0 u1 u2 u3 ed ei ej uf
 have hA:aO I [nx+2,nx+3,nx+11]:=AM.apart (by simp) (by simp;omega)
 simp only[aO,bG] at hA
 (try simp only[go_sem,nL,v2,v3,v11,hA,nL]);repeat' first|apply vI<;>(simp only[go_sem,nL,v2,v3,v11,hA,nL])|fail
 refine aJ.kH _ _ noF (fun t=>.inl rfl) (FQ (i:=nx+11) (o':=⟨5,1,[[.osl 1 b0 0 s.words.length c0,.osl 1 b1 0 s.holds.length c1,.osl 4 nx 0 0 0,.osl 3 (nx+1) 0 0 0,.osl 5 b2 0 s.told.length c2]]⟩) aA.aI (bA (aG (.osl _ _ _ _ _ (by omega)) (aG (.osl _ _ _ _ _ (by omega)) (aG (.BL ..) (aG (.BL ..) (aG (.osl _ _ _ _ _ (by omega)) cJ))))))) ?_
 refine aJ.KT fun G hG=> ?_
 have fx:G (nx+11)=some ⟨5,1,[[.osl 1 b0 0 s.words.length c0,.osl 1 b1 0 s.holds.length c1,.osl 4 nx 0 0 0,.osl 3 (nx+1) 0 0 0,.osl 5 b2 0 s.told.length c2]]⟩:=by rw[hG];exact aA.aI
 have df: ∀id,id≠nx+11->G id=V id:=fun id z=>by rw[hG,aA.aB z,aA.aB z]
 clear hG
 refine aJ.cG (β:=Nat×(Nat->Nat)×Nat) (fun u=>en [(4,dI u.1),(3,.one (.c (.ptr 5 (nx+11) 0 0))),(2,.one (.c (.ptr 5 (nx+3) 0 0))),(1,.one (.c (.ptr 5 (nx+2) 0 0)))])
  (fun u H1 b=>u.1<=3/\(u.2.1 0=b0/\u.2.1 1=b1/\u.2.1 3=nx+1/\u.2.1 4=b2)/\Part (fun j=>j<5\/(5<=j/\j<5+u.1)\/(8<=j/\j<8+u.1)) nx b u.2.1/\(u.2.1 2=nx\/I<=u.2.1 2)/\(∀j,(5<=j/\j<5+u.1)\/(8<=j/\j<8+u.1)->I<=u.2.1 j)/\H1 (nx+11)=some ⟨5,1,[[.osl 1 b0 0 s.words.length c0,.osl 1 b1 0 s.holds.length c1,.osl 4 (u.2.1 2) 0 u.1 u.2.2,.osl 3 (nx+1) 0 0 0,.osl 5 b2 0 s.told.length c2]]⟩/\(∃m rows,H1 (u.2.1 2)=some ⟨4,m,rows⟩/\aa6 u.1 H1 u.2.1 s rows/\u.1<=u.2.2/\u.2.2<=m)/\ ∀id,id<I->id≠nx->id≠nx+11->H1 id=V id)
  (fun u=>3-u.1) (0,V1 nx b0 b1 b2,0) ⟨noF,_,by repeat' first|exact C1|refine xqI rfl rfl ?_|refine xqP (by omega) rfl rfl ?_|fail,aE,by dsimp only;omega,⟨rfl,rfl,rfl,rfl⟩,(Ag (n:=I+1) (by omega) E (by omega) (by omega)).mono (by omega),.inl rfl,fun j g=>by dsimp only at g;omega,fx,⟨0,[],(df nx (by omega)).trans v0,⟨rfl,fun j g=>by dsimp only at g;omega⟩,abG _,abG _⟩,fun id _ _ z=>df id z⟩ ?_
 rintro⟨k,nm,S⟩ H1 b ia ⟨hk,⟨n0,n1,n3,n4⟩,O,eo,J,bk,⟨m,rows,gp,⟨T,br⟩,ep,ga⟩,L⟩ KL gb
 dsimp only at hk n0 n1 n3 n4 O eo J bk gp T br ep ga
 have g2:H1 (nx+2)=some ⟨5,1,[bK s]⟩:=(L _ (by omega) (by omega) (by omega)).trans v2
 obtain⟨ip,X⟩: ∃ip,ip=nm 2:=⟨_,rfl⟩
 have bw:=O.rng 2 (.inl (by omega))
 rw[<-X] at bk gp eo bw
 have ca:aO b [nx+2,nx+3,nx+11,ip]:=AM.apart (by simp;omega) (by simp;omega)
 simp only[aO,bG] at ca
 have et:List.take k rows=rows:=abM (by omega)
 by_cases cc:k<3
 ·obtain⟨p,Y⟩: ∃p,p=aL s k:=⟨_,rfl⟩
  have cd:s.bC.getD k default=p:=Y.symm;obtain⟨hq,ho⟩:=hs.port k cc;rw[<-Y] at hq ho;refine aJ.BM fun Z=> ?_;have aa: ∀k l,msk (b+k) l H1=H1:=fun k l=>zQ Z (by omega);repeat' first|apply vI<;>(simp only[go_sem,nL,aa,umS (G:=H1),umD (G:=H1),umB,msk,List.map,abQ,acG,or_false,cd,et,T,g2,bk,gp,ca,fl];try simp (disch:=omega) only[Iw])|apply vT (by omega)| (with_reducible first|refine fun(cap:Nat) (ab:_<=cap)=> ?_|refine fun(eu:_<=cap)=> ?_)|refine⟨by omega,?_⟩|fail
  rename_i cq gd gf co gi gq;refine SW (K:=KL) fun W M=> ?_;have gr:W (b+28)=some ⟨4,cap,rows++[[cI p.next,.osl 1 (b+19) 0 p.queue.length cq,.osl 3 (b+23) 0 p.out.length co,cI p.last]]⟩:=by rw[M,aA.aB (by omega)];exact aA.aI
  have ha:W (b+19)=some ⟨1,cq,p.queue.map aH⟩:=by rw[M];simp (disch:=omega) only[aA.aB,aA.aI]
  have hb:W (b+23)=some ⟨3,co,p.out.map eCJ⟩:=by rw[M];simp (disch:=omega) only[aA.aB,aA.aI]
  have cf:W (nx+11)=some ⟨5,1,[[.osl 1 b0 0 s.words.length c0,.osl 1 b1 0 s.holds.length c1,.osl 4 (b+28) 0 (k+1) cap,.osl 3 (nx+1) 0 0 0,.osl 5 b2 0 s.told.length c2]]⟩:=by rw[M];exact aA.aI
  have wf: ∀id,id<b->id≠ip->id≠nx+11->W id=H1 id:=fun id d1 d2 d3=>by rw[M];simp (disch:=omega) only[aA.aB,aA.cC]
  clear M;obtain⟨f,d⟩: ∃f,f=put (put (put nm (5+k) (b+19)) (8+k) (b+23)) 2 (b+28):=⟨_,rfl⟩
  have p2:f 2=b+28:=by rw[d,fL]
  have p5:f (5+k)=b+19:=by rw[d,bV (by omega),bV (by omega),fL]
  have p8:f (8+k)=b+23:=by rw[d,bV (by omega),fL]
  have P: ∀a,a≠2->a≠5+k->a≠8+k->f a=nm a:=fun a N E h3=>by rw[d,bV N,bV h3,bV E]
  have ck:Part (fun j=>j<5\/(5<=j/\j<5+(k+1))\/(8<=j/\j<8+(k+1))) nx (b+29) f:=by rw[d];exact((O.put (B:=fun j=>j<5\/(5<=j/\j<5+(k+1))\/(8<=j/\j<8+k)) (hi':=b+23) (by omega) (by omega) (by omega) (fun j g=>by first|omega| (dsimp only at*;omega))).put (B:=fun j=>j<5\/(5<=j/\j<5+(k+1))\/(8<=j/\j<8+(k+1))) (hi':=b+28) (by omega) (by omega) (by omega) (fun j g=>by first|omega| (dsimp only at*;omega))).put (by omega) (by omega) (by omega) (fun j g=>by first|omega| (dsimp only at*;omega))
  clear d;refine gb _ _ _ (k+1,f,cap) noF _ (by omega) (by dsimp only;omega) (by repeat' first|exact C1|refine xqI rfl rfl ?_|refine xqP (by omega) rfl rfl ?_|fail) aE ⟨by dsimp only;omega,⟨(P 0 (by omega) (by omega) (by omega)).trans n0,(P 1 (by omega) (by omega) (by omega)).trans n1,(P 3 (by omega) (by omega) (by omega)).trans n3,(P 4 (by omega) (by omega) (by omega)).trans n4⟩,ck.mono (by omega),.inr (by dsimp only;omega),fun j g=> ?_,?_,⟨cap,rows++[[cI p.next,.osl 1 (b+19) 0 p.queue.length cq,.osl 3 (b+23) 0 p.out.length co,cI p.last]],?_,⟨?_,fun j g=> ?_⟩,by dsimp only;omega,abG _⟩,fun id d1 d2 d3=> ?_⟩
  ·dsimp only at g ⊢;by_cases e1:j=5+k;·rw[e1,p5];omega
   ·by_cases e2:j=8+k;·rw[e2,p8];omega
    ·rw[P j (by omega) e1 e2];exact J j (by omega)
  ·dsimp only;rw[p2];exact cf
  ·dsimp only;rw[p2];exact gr
  ·rw[abL,T];rfl
  ·dsimp only at g ⊢;by_cases cl:j=k
   ·subst cl;refine⟨_,by rw[adM (by omega),T,adE];rfl,⟨0,cq,co,?_,?_,?_⟩⟩;·rw[p5,p8,<-Y];rfl
    ·rw[p5,<-Y];exact⟨cq,p.queue.map aH,ha,rfl,by simp,by simp,gd,by omega⟩
    ·rw[p8,<-Y];exact⟨co,p.out.map eCJ,hb,rfl,by simp,by simp,gi,by omega⟩
   ·obtain⟨r,N,E⟩:=br j (by omega);have a5:=O.rng (5+j) (.inr (.inl ⟨by omega,by omega⟩));have a8:=O.rng (8+j) (.inr (.inr ⟨by omega,by omega⟩));have q5:=J (5+j) (.inl (by omega));have q8:=J (8+j) (.inr (by omega));refine⟨r,by rw[adC (by omega)];exact N,?_⟩;rw[P (5+j) (by omega) (by omega) (by omega),P (8+j) (by omega) (by omega) (by omega)];exact E.frame (wf _ (by omega) (fun he=>by have:=O.inj (5+j) 2 (.inr (.inl ⟨by omega,by omega⟩)) (.inl (by omega)) (he.trans X);omega) (by omega)) (wf _ (by omega) (fun he=>by have:=O.inj (8+j) 2 (.inr (.inr ⟨by omega,by omega⟩)) (.inl (by omega)) (he.trans X);omega) (by omega))
  ·rw[wf id (by omega) (by omega) d3];exact L id d1 d2 d3
 ·repeat' first|apply vI<;>(simp only[go_sem,g2])|apply vF (by omega)|fail
  have hd:k=3:=by omega
  subst hd;have g1:H1 (nx+1)=some ⟨3,0,[]⟩:=(L _ (by omega) (by omega) (by omega)).trans v1;clear ca et
  refine aJ.cG (β:=Nat×(Nat->Nat)×Nat) (fun u=>en [(6,dI u.1),(3,.one (.c (.ptr 5 (nx+11) 0 0))),(2,.one (.c (.ptr 5 (nx+3) 0 0))),(1,.one (.c (.ptr 5 (nx+2) 0 0)))])
   (fun u H2 n2=>u.1<=4/\(∀j,j<11->j≠3->u.2.1 j=nm j)/\Part (fun j=>j<11\/(11<=j/\j<11+u.1)\/(15<=j/\j<15+u.1)) nx n2 u.2.1/\(u.2.1 3=nx+1\/b<=u.2.1 3)/\(∀j,(11<=j/\j<11+u.1)\/(15<=j/\j<15+u.1)->b<=u.2.1 j)/\H2 (nx+11)=some ⟨5,1,[[.osl 1 b0 0 s.words.length c0,.osl 1 b1 0 s.holds.length c1,.osl 4 ip 0 3 S,.osl 3 (u.2.1 3) 0 u.1 u.2.2,.osl 5 b2 0 s.told.length c2]]⟩/\(∃m rows,H2 (u.2.1 3)=some ⟨3,m,rows⟩/\aa4 u.1 H2 u.2.1 s rows/\u.1<=u.2.2/\u.2.2<=m)/\ ∀id,id<b->id≠nx+1->id≠nx+11->H2 id=H1 id)
   (fun u=>4-u.1) (0,nm,0) ⟨noF,_,by repeat' first|exact C1|refine xqI rfl rfl ?_|refine xqP (by omega) rfl rfl ?_|fail,aE,by dsimp only;omega,fun _ _ _=>rfl,⟨fun j k g hk he=>O.inj j k (by first|omega| (dsimp only at*;omega)) (by first|omega| (dsimp only at*;omega)) he,fun j g=>by have:=O.rng j (by first|omega| (dsimp only at*;omega));first|omega| (dsimp only at*;omega)⟩,.inl n3,fun j g=>by dsimp only at g;omega,by dsimp only;rw[n3];exact bk,⟨0,[],by dsimp only;rw[n3];exact g1,⟨rfl,fun j g=>by dsimp only at g;omega⟩,abG _,abG _⟩,fun _ _ _ _=>rfl⟩ ?_
  rintro⟨k,ad,cr⟩ H2 e hf ⟨hk,q,A,ah,y,ao,⟨mv,rv,bv,⟨D,ct⟩,ew,hg⟩,x⟩ KM hh;dsimp only at hk q A ah y ao bv D ct ew hg;have e2:H2 (nx+2)=some ⟨5,1,[bK s]⟩:=(x _ (by omega) (by omega) (by omega)).trans g2;obtain⟨iv,aw⟩: ∃iv,iv=ad 3:=⟨_,rfl⟩
  have cw:=A.rng 3 (.inl (by omega));rw[<-aw] at ao bv ah cw;have bb:aO e [nx+2,nx+3,nx+11,iv]:=AM.apart (by simp;omega) (by simp;omega);simp only[aO,bG] at bb;have cx:List.take k rv=rv:=abM (by omega);by_cases cc:k<4
  ·obtain⟨v,bh⟩: ∃v,v=aS s k:=⟨_,rfl⟩
   have cy:s.bN.getD k default=v:=bh.symm;obtain⟨hq,ho,R⟩:=hs.slv k cc;rw[<-bh] at hq ho R;refine aJ.BM fun Z=> ?_;have aa: ∀k l,msk (e+k) l H2=H2:=fun k l=>zQ Z (by omega);repeat' first| (first|apply vI|refine kO (l:=v.done) ho R (fun H5 fh b5 c5 h6 h7 hn bp=> ?_))<;>(simp only[go_sem,nL,aa,umS (G:=H2),umD (G:=H2),umB,msk,List.map,abQ,acG,or_false,cy,cx,D,e2,ao,bv,bb,fm])|apply vT (by omega)| (with_reducible first|refine fun(cap:Nat) (ab:_<=cap)=> ?_|refine fun(eu:_<=cap)=> ?_)|refine⟨by omega,?_⟩|fail
   obtain⟨cp,rfl⟩: ∃cp,cp=cap:=⟨_,rfl⟩
   have da:=ab;have dc:H5 (e+10)=some ⟨3,1,[i6 v]⟩:=(by rw[bp _ (by omega)];simp (disch:=omega) only[aA.aB,aA.aI,aA.cC]);have ht:H5 (e+17)=some ⟨3,cp,v.pipe.map eCJ⟩:=(by rw[bp _ (by omega)];simp (disch:=omega) only[aA.aB,aA.aI,aA.cC]);have ff: ∀id,id<e->H5 id=H2 id:=fun id d1=>by rw[bp _ (by omega)];simp (disch:=omega) only[aA.aB,aA.aI,aA.cC]
   have dh:=(ff (nx+11) (by omega)).trans ao;have fi:=(ff iv (by omega)).trans bv;clear bp;have ds:aO fh [nx+2,nx+3,nx+11,iv,e+10,e+17,e+24,b5]:=AM.apart (by simp;omega) (by simp;omega);simp only[aO,bG] at ds;simp only[dc,dh];refine⟨⟨fun _=>rfl,fun he=>he.elim,fun _=>rfl⟩,?_⟩;(try simp only[go_sem,nL,dc,dh,fi,cx,D,ds,bb,nL]);repeat' first|apply vI<;>(simp only[go_sem,nL,dc,dh,fi,cx,D,ds,bb,nL];try simp (disch:=omega) only[Iw])| (with_reducible first|refine fun(cap:Nat) (ab:_<=cap)=> ?_|refine fun(eu:_<=cap)=> ?_)|refine⟨by omega,?_⟩|fail
   refine SW (K:=KM) fun W M=> ?_;have hv:W (e+25)=some ⟨3,cap,rv++[[.osl 3 (e+17) 0 v.pipe.length cp,.osl 5 b5 0 v.done.length c5,cI v.last]]⟩:=(by rw[M,aA.aB (by omega)];exact aA.aI);have hx:W (e+17)=some ⟨3,cp,v.pipe.map eCJ⟩:=(by rw[M];simp (disch:=omega) only[aA.aB,aA.aI,aA.cC];exact ht);have hy:Own aT 5 W b5 c5 v.done:=hn.of (by rw[M];simp (disch:=omega) only[aA.aB,aA.cC]);have cf:W (nx+11)=some ⟨5,1,[[.osl 1 b0 0 s.words.length c0,.osl 1 b1 0 s.holds.length c1,.osl 4 ip 0 3 S,.osl 3 (e+25) 0 (k+1) cap,.osl 5 b2 0 s.told.length c2]]⟩:=(by rw[M];exact aA.aI);have wf: ∀id,id<e->id≠iv->id≠nx+11->W id=H2 id:=fun id d1 d2 d3=>by rw[M];simp (disch:=omega) only[aA.aB,aA.cC];exact ff id d1
   clear M;obtain⟨f,d⟩: ∃f,f=put (put (put ad (11+k) (e+17)) 3 (e+25)) (15+k) b5:=⟨_,rfl⟩
   have p3:f 3=e+25:=(by rw[d,bV (by omega),fL]);have dv:f (11+k)=e+17:=(by rw[d,bV (by omega),bV (by omega),fL]);have dx:f (15+k)=b5:=(by rw[d,fL]);have P: ∀a,a≠3->a≠11+k->a≠15+k->f a=ad a:=fun a N E h3=>by rw[d,bV h3,bV N,bV E]
   have ck:Part (fun j=>j<11\/(11<=j/\j<11+(k+1))\/(15<=j/\j<15+(k+1))) nx fh f:=(by rw[d];exact((A.put (B:=fun j=>j<11\/(11<=j/\j<11+(k+1))\/(15<=j/\j<15+k)) (hi':=e+18) (by omega) (by omega) (by omega) (fun j g=>by first|omega| (dsimp only at*;omega))).put (B:=fun j=>j<11\/(11<=j/\j<11+(k+1))\/(15<=j/\j<15+k)) (hi':=e+26) (by omega) (by omega) (by omega) (fun j g=>by first|omega| (dsimp only at*;omega))).put (by omega) (by omega) (by omega) (fun j g=>by first|omega| (dsimp only at*;omega)));clear d;refine hh _ _ _ (k+1,f,cap) noF _ (by omega) (by dsimp only;omega) (by repeat' first|exact C1|refine xqI rfl rfl ?_|refine xqP (by omega) rfl rfl ?_|fail) aE ⟨by dsimp only;omega,fun j g j3=> ?_,ck.mono (by omega),.inr (by dsimp only;omega),fun j g=> ?_,?_,⟨cap,rv++[[.osl 3 (e+17) 0 v.pipe.length cp,.osl 5 b5 0 v.done.length c5,cI v.last]],?_,⟨?_,fun j g=> ?_⟩,by dsimp only;omega,abG _⟩,fun id d1 d2 d3=> ?_⟩;·dsimp only;rw[P j j3 (by omega) (by omega)];exact q j g j3
   ·dsimp only at g ⊢;by_cases e1:j=11+k;·rw[e1,dv];omega
    ·by_cases e2:j=15+k;·rw[e2,dx];omega
     ·rw[P j (by omega) e1 e2];exact y j (by omega)
   ·dsimp only;rw[p3];exact cf
   ·dsimp only;rw[p3];exact hv
   ·rw[abL,D];rfl
   ·dsimp only at g ⊢;by_cases cl:j=k
    ·subst cl;refine⟨_,by rw[adM (by omega),D,adE];rfl,⟨0,cp,0,c5,?_,?_,?_⟩⟩;·rw[dv,dx,<-bh];rfl
     ·rw[dv,<-bh];exact⟨cp,v.pipe.map eCJ,hx,rfl,by simp,by simp,da,by omega⟩
     ·rw[dx,<-bh];obtain⟨mo,o1,o2,o3⟩:=hy;exact⟨mo,v.done.map aT,o1,rfl,by simp,by simp,o2,by omega⟩
    ·obtain⟨r,N,E⟩:=ct j (by omega);have a5:=A.rng (11+j) (.inr (.inl ⟨by omega,by omega⟩));have a8:=A.rng (15+j) (.inr (.inr ⟨by omega,by omega⟩));have q5:=y (11+j) (.inl (by omega));have q8:=y (15+j) (.inr (by omega));refine⟨r,by rw[adC (by omega)];exact N,?_⟩;rw[P (11+j) (by omega) (by omega) (by omega),P (15+j) (by omega) (by omega) (by omega)];exact E.frame (wf _ (by omega) (fun he=>by have:=A.inj (11+j) 3 (.inr (.inl ⟨by omega,by omega⟩)) (.inl (by omega)) (he.trans aw);omega) (by omega)) (wf _ (by omega) (fun he=>by have:=A.inj (15+j) 3 (.inr (.inr ⟨by omega,by omega⟩)) (.inl (by omega)) (he.trans aw);omega) (by omega))
   ·rw[wf id (by omega) (by omega) d3];exact x id d1 d2 d3
  ·have e3:H2 (nx+3)=some ⟨5,1,[[.osl 0 0 0 0 0,.osl 0 0 0 0 0,.osl 0 0 0 0 0,.osl 0 0 0 0 0,.osl 0 0 0 0 0]]⟩:=(x _ (by omega) (by omega) (by omega)).trans ((L _ (by omega) (by omega) (by omega)).trans v3);repeat' first|apply vI<;>(simp only[go_sem,e2,e3,ao,bb])|apply vF (by omega)|fail
   have hz:k=4:=(by omega);subst hz;have a2:ad 2=ip:=(q 2 (by omega) (by omega)).trans X.symm;have a0:=(q 0 (by omega) (by omega)).trans n0;have a1:=(q 1 (by omega) (by omega)).trans n1;have a4:=(q 4 (by omega) (by omega)).trans n4;have dy:ip≠nx+1:=fun he=>by have:=O.inj 2 3 (.inl (by omega)) (.inl (by omega)) (by rw[<-X,n3,he]);omega
   have wv: ∀id W o,id≠nx+3->id<I->id≠nx->id≠nx+1->id≠nx+11->V id=o->(H2.set (nx+3) W) id=o:=fun id W o d0 d1 d2 d3 d4 d5=>by rw[aA.aB d0,x id (by omega) d3 d4,L id d1 d2 d4];exact d5
   obtain⟨w0,w1,w2,w3⟩:=fo;obtain⟨x0,x1,x2,x3⟩:=fp;obtain⟨y0,y1,y2,y3⟩:=fs;refine hQ _ _ _ _ _ (.inr rfl) (gS rfl aA.aI rfl) (h _ _ ad _ (by omega) ⟨⟨c0,c1,S,cr,c2,?_,?_,?_,?_,ep,ew⟩,⟨m,rows,?_,T,fun j g=> ?_⟩,⟨mv,rv,?_,D,fun j g=> ?_⟩⟩ ⟨fun j k g hk he=>A.inj j k (by first|omega| (dsimp only;omega)) (by first|omega| (dsimp only;omega)) he,fun j g=>by have:=A.rng j (by first|omega| (dsimp only;omega));omega⟩ fun id z=> ?_);·rw[F3,a0,a1,a2,a4,<-aw]
   ·rw[a0];exact⟨w0,s.words.map aH,wv _ _ _ (by omega) (by omega) (by omega) (by omega) (by omega) w1,rfl,by simp,by simp,w2,by omega⟩
   ·rw[a1];exact⟨x0,s.holds.map aH,wv _ _ _ (by omega) (by omega) (by omega) (by omega) (by omega) x1,rfl,by simp,by simp,x2,by omega⟩
   ·rw[a4];exact⟨y0,s.told.map aT,wv _ _ _ (by omega) (by omega) (by omega) (by omega) (by omega) y1,rfl,by simp,by simp,y2,by omega⟩
   ·rw[a2,aA.aB (by omega),x _ (by omega) dy (by omega)];exact gp
   ·obtain⟨r,N,E⟩:=br j g;have r5:=O.rng (5+j) (.inr (.inl ⟨by omega,by omega⟩));have r8:=O.rng (8+j) (.inr (.inr ⟨by omega,by omega⟩));have q5:=J (5+j) (.inl (by omega));have q8:=J (8+j) (.inr (by omega));rw[q (5+j) (by omega) (by omega),q (8+j) (by omega) (by omega)];exact⟨r,N,E.frame (by rw[aA.aB (by omega),x _ (by omega) (by omega) (by omega)]) (by rw[aA.aB (by omega),x _ (by omega) (by omega) (by omega)])⟩
   ·rw[<-aw,aA.aB (by omega)];exact bv
   ·obtain⟨r,N,E⟩:=ct j g;have q5:=y (11+j) (.inl (by omega));have q8:=y (15+j) (.inr (by omega));exact⟨r,N,E.frame (aA.aB (by omega)) (aA.aB (by omega))⟩
   ·rw[aA.aB (by omega),x id (by omega) (by omega) (by omega),L id (by omega) (by omega) (by omega)];exact vf id z
theorem jb(c:Cfg)(s:CSt)(O:iN c)(P:BB s):afB qK [dA (bI c),dA (bK s)] .nil 0 fun r _ _=>r.plain=true/\r=dB (cyB c s):=by
 have ca:=P.w;have cc:=P.h;have cd:=P.pl;have cf:=P.sl;refine bR.mk Tryz.func105 (by kernel_rfl) jm rfl fun Q V=> ?_;unfold zU;have b: ¬(bH c/\COk c s)->dB false=dB (cyB c s):=fun h=>congrArg dB (Gu h).symm;by_cases t:bH c
 case neg=>
  repeat' first| (first|apply vI|apply J2 O)<;>(simp only[go_sem,eq_false t])|fail
  all_goals exact V _ _ _ _ _ (.inr rfl) rfl ⟨rfl,b fun h=>t h.1⟩
 by_cases Z:o7 s.words s.holds/\(s.bC.length:Int)=3/\(s.bN.length:Int)=4
 case neg=>
  have R: ¬(bH c/\COk c s):=fun⟨_,h⟩=>Z ⟨bo h.atm,by rw[h.pl];rfl,by rw[h.sl];rfl⟩;repeat' first| (first|apply vI|refine Y6 (fun h=> ?_) fun h=> ?_|apply J2 O|refine CT (w:=s.words) (u:=s.holds) (by omega) (by omega) (aF rfl) ?_)<;>(simp only[go_sem,eq_true t])|refine iE (fun h=> ?_) fun h=> ?_|fail
  all_goals first|exact V _ _ _ _ _ (.inr rfl) rfl ⟨rfl,b R⟩|exact absurd ⟨by simp_all,by omega,by omega⟩ Z
 obtain⟨e,F,g⟩:=Z;have F:s.bC.length=3:=by omega
 have g:s.bN.length=4:=by omega
 have aa:=decide_eq_true e;have ab:=decide_eq_true t;repeat' first| (first|apply vI|apply Y5 (by omega)|apply J2 O|refine CT (by omega) (by omega) (aF rfl) ?_)<;>(simp only[go_sem,eq_true t,aa,ab,F,g])|apply vF (by omega)|fail
 refine aJ.Gn fun Y S=> ?_;have c0:Y 0=some ⟨3,1,[bI c]⟩:=by rw[S];rfl
 have c1:Y 1=some ⟨5,1,[bK s]⟩:=by rw[S];rfl
 clear S;obtain⟨C,G⟩: ∃C:Nat->Int,C=fun k=>((aL s k).out.length:Int):=⟨_,rfl⟩
 obtain⟨H,I⟩: ∃H:Nat->Int,H=fun k=>(((aS s k).pipe.length:Int)+(aS s k).done.length):=⟨_,rfl⟩
 refine aJ.cG (β:=Nat) (fun k=>en [(35,dI k),(34,dI 3),(33,dS (s.bC.map dD)),(6,dI 0),(5,dI (eU C k)),(3,.one (.c (.ptr 5 1 0 0))),(2,.one (.c (.ptr 3 0 0 0)))])
  (fun k H1 _=>k<=3/\(∀i,i<k->iA c i (aL s i))/\ ∀id,id<30->H1 id=Y id) (fun k=>3-k) 0 ⟨noF,_,by repeat' first|exact C1|refine xqI rfl rfl ?_|refine xqP (by omega) rfl rfl ?_|fail,aE,by omega,fun i hi=>by omega,fun _ _=>rfl⟩ ?_
 rintro k H1 ad ck ⟨hk,J,d⟩ KL ah;have D:=(d 0 (by omega)).trans c0;have K:=(d 1 (by omega)).trans c1;have E:aO ad [0,1]:=AM.apart (by simp) (by simp;omega);simp only[aO,bG] at E;have cl:=IK (f:=C) (m:=4) (by omega) k fun j hj=>by have:=(J j (by omega)).ol;rw[G];dsimp only;omega
 by_cases l:k<3
 ·obtain⟨p,x⟩: ∃p,p=aL s k:=⟨_,rfl⟩
  have M:s.bC.getD k default=p:=x.symm;obtain⟨o,q⟩:=P.port k;have y:eU C (k+1)=eU C k+p.out.length:=by rw[eU,G,x]
  rw[<-x] at o q;by_cases a:iA c k p
  ·have n:=Fu a;have cp:=a.ol;repeat' first| (first|apply vI|apply yB t l o q)<;>(simp only[go_sem,abH,abI,M,D,K,n,E];try simp (disch:=omega) only[Iw])|apply vT (by omega)|refine⟨by omega,?_⟩|fail
   exact ah _ _ _ (k+1) noF _ (by omega) (by omega) (by rw[y];repeat' first|exact C1|refine xqI rfl rfl ?_|refine xqP (by omega) rfl rfl ?_|fail) aE ⟨by omega,bL J (by rw[<-x];exact a),fun id T=>by rw[aA.aB (by omega)];exact d id T⟩
  ·have n:=TN a;repeat' first| (first|apply vI|apply yB t l o q)<;>(simp only[go_sem,abH,abI,M,D,K,n,E])|apply vT (by omega)|refine⟨by omega,?_⟩|fail
   all_goals exact V _ _ _ _ _ (.inr rfl) rfl ⟨rfl,b fun h=>a (by rw[x];exact h.2.port k l)⟩
 ·have ao:k=3:=by omega
  subst ao;have hP:zH c s:=⟨F,J⟩
  repeat' first|apply vI<;>(simp only[go_sem,D,K,g])|apply vF (by omega)|fail
  refine aJ.cG (β:=Nat) (fun k=>en [(54,dI k),(53,dI 4),(52,dS (s.bN.map i6)),(6,dI (eU H k)),(5,dI (eU C 3)),(3,.one (.c (.ptr 5 1 0 0))),(2,.one (.c (.ptr 3 0 0 0)))])
   (fun k H1 _=>k<=4/\(∀i,i<k->pE c s i)/\ ∀id,id<30->H1 id=Y id) (fun k=>4-k) 0 ⟨noF,_,by repeat' first|exact C1|refine xqI rfl rfl ?_|refine xqP (by omega) rfl rfl ?_|fail,aE,by omega,fun i hi=>by omega,d⟩ ?_
  clear d D K E;rintro k H2 aw bb ⟨hk,z,d⟩ KM bh;have D:=(d 0 (by omega)).trans c0;have K:=(d 1 (by omega)).trans c1;have E:aO aw [0,1]:=AM.apart (by simp) (by simp;omega);simp only[aO,bG] at E;have cq:=IK (f:=H) (m:=4) (by omega) k fun j hj=>by have h1:=(z j (by omega)).pl;have h2:=(z j (by omega)).dl;rw[I];dsimp only;omega
  by_cases l:k<4
  ·obtain⟨v,U⟩: ∃v,v=aS s k:=⟨_,rfl⟩
   have N:s.bN.getD k default=v:=U.symm;obtain⟨o,q,W⟩:=P.slv k;by_cases a:pE c s k
   ·have bk:=a.pl;have bp:=a.dl;rw[<-U] at bk bp;have y:eU H (k+1)=eU H k+(v.pipe.length+v.done.length):=(by rw[eU,I,U]);have n:=Gs a;repeat' first| (first|apply vI|apply uX t hP g l o q W)<;>(simp only[go_sem,abH,abI,N,D,K,n,E];try simp (disch:=omega) only[Iw])|apply vT (by omega)|refine⟨by omega,?_⟩|fail
    exact bh _ _ _ (k+1) noF _ (by omega) (by omega) (by rw[y];repeat' first|exact C1|refine xqI rfl rfl ?_|refine xqP (by omega) rfl rfl ?_|fail) aE ⟨by omega,bL z a,fun id T=>by rw[aA.aB (by omega)];exact d id T⟩
   ·have n:=PK a;repeat' first| (first|apply vI|apply uX t hP g l o q W)<;>(simp only[go_sem,abH,abI,N,D,K,n,E])|apply vT (by omega)|refine⟨by omega,?_⟩|fail
    all_goals exact V _ _ _ _ _ (.inr rfl) rfl ⟨rfl,b fun h=>a (h.2.slv k l)⟩
  ·have br:k=4:=(by omega);subst br;have X:=ru P hP g z;by_cases A:eU C 3=eU H 4
   case neg=>
    have B:(eU C 3=eU H 4)=False:=eq_false A
    have R: ¬(bH c/\COk c s):=fun⟨_,h⟩=>A (by
     have:=h.count
     unfold kY at this
     rw[G,I]
     simp only[eU]
     omega)
    repeat' first|apply vI<;>(simp only[go_sem,abH,abI,D,K,B,E])|apply vF (by omega)|fail
    all_goals exact V _ _ _ _ _ (.inr rfl) rfl ⟨rfl,b R⟩
   have B:(eU C 3=eU H 4)=True:=eq_true A;repeat' first| (first|apply vI|refine eh X (fun H' nx' cr bw=> ?_))<;>(simp only[go_sem,abH,abI,D,K,B,E])|apply vF (by omega)|fail
   have e0:=(bw 0 (by omega)).trans D;refine⟨fun _=>by rw[e0];rfl,?_⟩;apply NA t X.st;simp only[go_sem];repeat' first|apply vI<;>(simp only[go_sem,e0])|fail
   refine V _ _ _ _ _ (.inr rfl) rfl ⟨rfl,congrArg dB ?_⟩;by_cases L:oD c (dN s);·rw[Rl L];refine(Vu t ⟨⟨by have:=e.1.1;omega,e.1.2,by have:=e.2.1;omega,e.2.2⟩,F,g,J,z,?_,L⟩).symm;unfold kY;rw[G,I] at A;simp only[eU] at A;omega
   ·rw[PT L,Gu fun h=>L h.2.st]
theorem iB{c:Cfg}{s:CSt}(a:iN c)(b:BB s)(h:K (dB (cyB c s)) H nx):afB qK [dA (bI c),dA (bK s)] H nx K:=(jb c s a b).pure rfl (aK ⟨aF rfl,aF rfl,trivial⟩) fun r hr=>hr▸h
theorem M7{c:Cfg}{s:CSt}{who:Nat}(hb:bH c)(V:s.bC.length=3)(hw:who<3)(bh:(aL s who).queue.length<2^21)(bk:(aL s who).out.length<2^21)(h:K (dB (ptB c who (aL s who))) H nx):afB F9 [dA (bI c),dA (bK s),dI who] H nx K:=by
 refine aC.pure (args0:=[dA (bI c),dA (bK s),dI who]) (R:=fun rr=>rr=dB (ptB c who (aL s who))) ?_ rfl (aK ⟨aF rfl,aF rfl,aF rfl,trivial⟩) (fun r hr=>hr▸h);clear h;refine aR.mk Tryz.func127 (by kernel_rfl) Y2 rfl fun Q v=> ?_;unfold uW;obtain⟨d,W⟩:=eW hb;have bp:=W who;have C:oC c.map:=hb.1;have cr:=hb.1.1;obtain⟨p,hP⟩: ∃p,p=aL s who:=⟨_,rfl⟩
 have X:s.bC.getD who default=p:=hP.symm;rw[<-hP] at bh bk;have A: ¬iA c who p->dB false=dB (ptB c who (aL s who)):=fun h=>by rw[<-hP,TN h]
 have hT:iA c who p->dB true=dB (ptB c who (aL s who)):=fun h=>by rw[<-hP,Fu h]
 obtain⟨P,a⟩: ∃P,c.cN.getD who default=P:=⟨_,rfl⟩
 rw[a] at bp;have Y: ∀n:Int,bQ c who n=P.getD n.toNat default:=fun n=>by unfold bQ;rw[Int.toNat_natCast,a]
 by_cases h0:(0<=p.next/\p.next<=(P.length:Int))/\((p.queue.length:Int)<=2/\(p.queue.length:Int)<=p.next)/\(p.out.length:Int)<=4/\0<=p.last/\p.last<=3
 case neg=>
  have br: ¬iA c who p:=fun h=>h0 ⟨by have:=h.next;rw[a] at this;exact this,by have:=h.ql;omega,by have:=h.ol;omega,h.last⟩;repeat' first| (first|apply vI|refine Y6 (fun h=> ?_) fun h=> ?_|apply bB)<;>(simp only[go_sem,d,V,X,a])|apply vT (by omega)|refine⟨by omega,?_⟩|fail
  all_goals first|exact aP v _ rfl rfl (A br)| (exfalso;omega)
 obtain⟨⟨Z,ab⟩,⟨ct,w⟩,cw,ad,ah⟩:=h0;have t1:(0<=p.next/\p.next<=(P.length:Int))=True:=eq_true ⟨Z,ab⟩;have t2:(0<=p.last/\p.last<=3)=True:=eq_true ⟨ad,ah⟩;repeat' first| (first|apply vI|apply Y5 (by omega)|apply bB)<;>(simp only[go_sem,d,V,X,a,t1,t2])|refine⟨by omega,?_⟩|fail
 refine aJ.cG (β:=Nat) (fun k=>en [(8,dI k),(7,.one (.c (.ptr 4 8 0 0))),(3,.one (.c (.ptr 3 0 0 0))),(2,dI who)]) (fun k H1 _=>k<=p.queue.length/\(∀i,i<k->p.queue.getD i default=p.next-p.queue.length+i)/\H1 0=some ⟨3,1,[bI c]⟩/\H1 8=some ⟨4,1,[dD p]⟩) (fun k=>p.queue.length-k) 0 ⟨noF,_,by repeat' first|exact C1|refine xqI rfl rfl ?_|refine xqP (by omega) rfl rfl ?_|fail,aE,by omega,fun i hi=>by omega,rfl,rfl⟩ ?_;rintro k H1 cx bw ⟨hk,D,g,e⟩ KL ca;by_cases l:k<p.queue.length
 ·by_cases ao:p.queue.getD k default=p.next-p.queue.length+k
  ·repeat' first|apply vI<;>(simp only[go_sem,e];try simp (disch:=omega) only[Iw])|apply vT (by omega)|apply vF (by omega)|refine⟨by omega,?_⟩|fail
   all_goals first|exact ca _ _ _ (k+1) noF _ (by omega) (by omega) (by repeat' first|exact C1|refine xqI rfl rfl ?_|refine xqP (by omega) rfl rfl ?_|fail) aE ⟨by omega,bL D ao,g,e⟩| (exfalso;omega)
  ·repeat' first|apply vI<;>(simp only[go_sem,e];try simp (disch:=omega) only[Iw])|apply vT (by omega)|refine⟨by omega,?_⟩|fail
   all_goals first|exact aP v _ rfl rfl (A fun h=>ao (h.queue k l))| (exfalso;omega)
 ·have E:k=p.queue.length:=by omega
  rw[E] at D;repeat' first|apply vI<;>(simp only[go_sem,e])|apply vF (by omega)|fail
  refine aJ.cG (β:=Nat) (fun k=>en [(9,dI k),(7,.one (.c (.ptr 4 8 0 0))),(3,.one (.c (.ptr 3 0 0 0))),(2,dI who)]) (fun k H1 _=>k<=p.out.length/\Kw c who p k/\H1 0=some ⟨3,1,[bI c]⟩/\H1 8=some ⟨4,1,[dD p]⟩) (fun k=>p.out.length-k) 0 ⟨noF,_,by repeat' first|exact C1|refine xqI rfl rfl ?_|refine xqP (by omega) rfl rfl ?_|fail,aE,by omega,⟨fun i hi=>by omega,fun i j _ hj=>by omega,fun i j _ hj=>by omega⟩,g,e⟩ ?_;clear g e;rintro k H2 F cc ⟨hk,hI,g,e⟩ KM cd;have G:aO F [0,8]:=AM.apart (by simp) (by simp;omega);simp only[aO,bG] at G;by_cases l:k<p.out.length
  ·have hm:=bT l
   have b:iA c who p->LX c who p (p.out.getD k default)/\(0<k->(p.out.getD (k-1) default).n<(p.out.getD k default).n)/\ ∀i,i<k->(bQ c who (p.out.getD i default).n).id=(bQ c who (p.out.getD k default).n).id->(p.out.getD i default).left=(p.out.getD k default).left:=fun h=>
    ⟨h.out _ hm,fun h0=>by
      have:=acH.1 h.zu (k-1) k (by omega) l (by omega)
      simpa [List.getD,l,show k-1<p.out.length by omega] using this,fun i hi he=>h.Kb _ (bT (by omega)) _ hm he⟩
   have m:=hI.next;generalize S:p.out.getD k default=o at b m;have I:((k:Int)-1).toNat=k-1:=(by omega);by_cases y:o.who=who
   case neg=>
    have J:(o.who=(who:Int))=False:=eq_false y;repeat' first|apply vI<;>(simp only[go_sem,abH,abI,g,e,S,J,G])|apply vT (by omega)|refine⟨by omega,?_⟩|fail
    all_goals exact aP v _ rfl rfl (A fun h=>y (b h).1.1)
   have J:(o.who=(who:Int))=True:=eq_true y;by_cases L:0<=o.n/\o.n<=p.next-p.queue.length-1
   case neg=>
    have T:(0<=o.n/\o.n<=p.next-p.queue.length-1)=False:=eq_false L;repeat' first| (first|apply vI|apply bB)<;>(simp only[go_sem,abH,abI,g,e,S,J,T,G];try simp (disch:=omega) only[Iw])|apply vT (by omega)|refine⟨by omega,?_⟩|fail
    all_goals first|exact aP v _ rfl rfl (A fun h=>L (by have:=(b h).1.2.1;omega))| (exfalso;omega)
   have T:(0<=o.n/\o.n<=p.next-p.queue.length-1)=True:=eq_true L;by_cases t:0<k->(p.out.getD (k-1) default).n<o.n
   case neg=>
    have M:0<k:=(by omega);have t:o.n<=(p.out.getD (k-1) default).n:=(by omega);have e3:(o.n<=(p.out.getD ((k:Int)-1).toNat default).n)=True:=eq_true (by rw[I];exact t);repeat' first| (first|apply vI|apply Y4 (by omega)|refine Y6 (fun h=> ?_) fun h=> ?_|apply bB)<;>(simp only[go_sem,abH,abI,g,e,S,J,T,e3,G];try simp (disch:=omega) only[Iw])|apply vT (by omega)|refine⟨by omega,?_⟩|fail
    all_goals first|exact aP v _ rfl rfl (A fun h=>by have:=(b h).2.1 M;omega)| (exfalso;omega)|exact absurd (of_eq_true e3) (by assumption)
   obtain⟨q,U⟩: ∃q,P.getD o.n.toNat default=q:=⟨_,rfl⟩
   have f:bQ c who o.n=q:=(by rw[Y];exact U);have aa:pA c who o.n:=⟨by omega,by omega,by rw[Int.toNat_natCast,a];omega⟩
   have N:cR q:=f▸H7 hb aa;by_cases u:o.left=iV c.map q
   case neg=>
    have e4:(o.left=iV c.map q)=False:=eq_false u;by_cases M:0<k
    ·have e3:(o.n<=(p.out.getD ((k:Int)-1).toNat default).n)=False:=eq_false (by rw[I];have:=t M;omega);repeat' first| (first|apply vI|apply Y4 (by omega)|refine Y6 (fun h=> ?_) fun h=> ?_|apply bB|apply mI C N (by omega))<;>(simp only[go_sem,abH,abI,g,e,S,d,a,U,J,T,e3,e4,G];try simp (disch:=omega) only[Iw])|apply vT (by omega)|refine⟨by omega,?_⟩|fail
     all_goals first|exact aP v _ rfl rfl (A fun h=>u (by have:=(b h).1.2.2;rw[f] at this;exact this))| (exfalso;omega)
    ·repeat' first| (first|apply vI|apply Y5 (by omega)|apply bB|apply mI C N (by omega))<;>(simp only[go_sem,abH,abI,g,e,S,d,a,U,J,T,e4,G];try simp (disch:=omega) only[Iw])|apply vT (by omega)|refine⟨by omega,?_⟩|fail
     all_goals first|exact aP v _ rfl rfl (A fun h=>u (by have:=(b h).1.2.2;rw[f] at this;exact this))| (exfalso;omega)
   have e4:(o.left=iV c.map q)=True:=eq_true u;have cf:LX c who p o:=⟨y,by omega,by rw[f];exact u⟩
   repeat' first| (first|apply vI|refine Y6 (fun h=> ?_) fun h=> ?_|apply bB|apply mI C N (by omega))<;>(simp only[go_sem,abH,abI,g,e,S,d,a,U,J,T,e4,G];try simp (disch:=omega) only[Iw])|apply vT (by omega)|refine⟨by omega,?_⟩|fail
   all_goals try (exfalso;have h3:=t (by omega);rw[<-I] at h3;omega)
   all_goals (
    refine aJ.cG (β:=Nat) (fun j=>en [(11,dI j),(10,.one (.c (.ptr 3 (F+10) 0 0))),(9,dI k),(7,.one (.c (.ptr 4 8 0 0))),(3,.one (.c (.ptr 3 0 0 0))),(2,dI who)]) (fun j H3 _=>j<=k/\(∀i,i<j->(bQ c who (p.out.getD i default).n).id=(bQ c who o.n).id->(p.out.getD i default).left=o.left)/\H3 0=some ⟨3,1,[bI c]⟩/\H3 8=some ⟨4,1,[dD p]⟩/\H3 (F+10)=some ⟨3,1,[eCJ o]⟩) (fun j=>k-j) 0 ⟨noF,_,by repeat' first|exact C1|refine xqI rfl rfl ?_|refine xqP (by omega) rfl rfl ?_|fail,aE,by omega,fun i hi=>by omega,by rw[aA.aB (by omega)];exact g,by rw[aA.aB (by omega)];exact e,aA.aI⟩ ?_
    rintro j H3 cy ck ⟨hj,hJ,f0,f8,z⟩ KN cl
    by_cases aw:j<k
    ·obtain⟨x,hx⟩: ∃x,p.out.getD j default=x:=⟨_,rfl⟩
     have bb:=hI.all j aw;rw[hx] at bb;obtain⟨O,w⟩: ∃O,P.getD x.n.toNat default=O:=⟨_,rfl⟩
     have B:bQ c who x.n=O:=(by rw[Y];exact w);obtain⟨_,da,_⟩:=bb;by_cases hc:O.id=q.id/\x.left≠o.left
     ·have c1:(O.id=q.id)=True:=eq_true hc.1;have c2:(x.left=o.left)=False:=eq_false hc.2;repeat' first|apply vI<;>(simp only[go_sem,abH,abI,f0,f8,z,hx,d,a,U,w,c1,c2])|apply vT (by omega)|refine⟨by omega,?_⟩|fail
      all_goals exact aP v _ rfl rfl (A fun h=>hc.2 (by
       have h1:=(b h).2.2 j aw
       rw[hx,f,B] at h1
       exact h1 hc.1))
     ·repeat' first| (first|apply vI|apply Y4 (by omega)|refine Y6 (fun h=> ?_) fun h=> ?_)<;>(simp only[go_sem,abH,abI,f0,f8,z,hx,d,a,U,w];try simp (disch:=omega) only[Iw])|apply vT (by omega)|apply vF (by omega)|refine⟨by omega,?_⟩|fail
      all_goals first
       |exact cl _ _ _ (j+1) noF _ (by omega) (by omega) (by repeat' first|exact C1|refine xqI rfl rfl ?_|refine xqP (by omega) rfl rfl ?_|fail) aE ⟨by omega,bL hJ (by rw[hx,f,B];intro he;omega),f0,f8,z⟩
       | (exfalso;omega)
    ·have cp:j=k:=(by omega);subst cp;have cq:=m cf (fun h=>by have:=t h;omega) hJ;repeat' first|apply vI<;>(simp only[go_sem,z];try simp (disch:=omega) only[Iw])|apply vF (by omega)|fail
     exact cd _ _ _ (j+1) noF _ (by omega) (by omega) (by repeat' first|exact C1|refine xqI rfl rfl ?_|refine xqP (by omega) rfl rfl ?_|fail) aE ⟨by omega,cq,f0,f8⟩)
  ·repeat' first|apply vI<;>(simp only[go_sem,e])|apply vF (by omega)|fail
   have E:k=p.out.length:=(by omega);rw[E] at hI;obtain⟨q1,O,q3⟩:=hI.end;exact aP v _ rfl rfl (hT ⟨⟨Z,by rw[a];exact ab⟩,by omega,by omega,⟨ad,ah⟩,D,q1,O,q3⟩)
end
end Go.Proofs.YtlncecohbakleaaGreat
