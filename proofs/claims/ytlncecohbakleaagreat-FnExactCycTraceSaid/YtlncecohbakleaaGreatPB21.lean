/- Texts laid together by a program: rules, contracts and the walk that leads to the law. -/
import Derived.Test.YtlncecohbakleaaGreatPB16
import Derived.Test.YtlncecohbakleaaGreatPB17
set_option linter.unusedVariables false
set_option linter.unusedSimpArgs false
set_option linter.unusedSectionVars false
set_option maxRecDepth 100000
set_option maxHeartbeats 8000000
namespace Go.AM
def aeL:KP Rsp:=fun H r x F=>∃d1,r=[cI x.id,cI x.code,d1]/\SlS 1 (cY aG) H d1 x.data F
theorem Cu{f:Nat->List D1}{u:Nat}{r:List D1}(i:Nat)(h:f u=r):LW f u r i=f i:=by
 unfold LW;split;·rename_i e;rw[e,h]
 ·rfl
section
variable{α:Type}{f:Int -> α -> Int}{z:α -> Nat}{k:Nat}
def SzZ{α:Type}(f:Int->α->Int)(z:α->Nat)(k:Nat):Prop:=∀a x,0<=a->0<=f a x->(z x:Int)<=k+8*(a-f a x)
theorem XC{x:α}{l:List α}:total z (x::l)=z x+total z l:=rfl
theorem ae5(hr:SzR f)(d:SzZ f z k): ∀(l:List α) (a:Int),0<=a->0<=szF f a l->(total z l:Int)<=k*l.length+8*(a-szF f a l)
 | [],a,c,b=>by have e:total z ([]:List α)=0:=rfl;simp only[szF,e,List.length_nil];omega
 |x::l,a,c,b=>by
  simp only[szF] at b ⊢;split at b;·omega
  ·rename_i g;rw[if_neg g];have i:=hr a x c;have j:=d a x c (by omega);have m:=ae5 hr d l (f a x) (by omega) b;have h:(k:Int)*((l.length+1:Nat):Int)=k*l.length+k:=(by push_cast;rw[Int.mul_add,Int.mul_one]);rw[XC,List.length_cons,h];push_cast;omega
theorem Qf{a:Int}{n:Nat}(h:0<=szN a n):szN a n=a-n:=by unfold szN at*;split at h<;>rename_i b<;>first|omega|rw[if_neg b]
theorem wA{a:Int}{g:Int->Int}(h:0<=szT a g):szT a g=g a:=by unfold szT at*;split at h<;>rename_i b<;>first|omega|rw[if_neg b]
theorem aiK{n:Nat}(b:k<=8):(k:Int)*n<=8*n:=by have h:=alC n b;have a:((k*n:Nat):Int)<=((8*n:Nat):Int):=Int.ofNat_le.2 h;push_cast at a;exact a
theorem Cj(hr:SzR f)(c:SzZ f z k)(d:k<=8){l:List α}{a:Int}(g:0<=a)(h:0<=szS f a l):(total z l:Int)<=8*(a-szS f a l):=by obtain⟨b,e⟩:=gR h;have i:=Qf b;have j:szS f a l=szF f (szN a l.length) l:=wA h;have m:=ae5 hr c l _ b e;have o:=aiK (n:=l.length) d;omega
theorem n7: ∀{l:List α},(∀x,z x=k)->total z l=k*l.length
 | [],_=>rfl
 |x::l,h=>by rw[XC,h x,n7 h,List.length_cons,Nat.mul_add,al2,amV]
theorem M0(b:k<=8)(c: ∀x,z x=k){l:List α}{a:Int}(h:0<=szN a l.length):(total z l:Int)<=8*(a-szN a l.length):=by rw[Qf h,n7 c];have d:=aiK (n:=l.length) b;push_cast;omega
theorem dg{B:Nat}: ∀{l:List α},(∀x∈l,z x<=B)->total z l<=l.length*B
 | [],_=>akV _
 |x::l,h=>by have b:=h x (by simp);have c:=dg (B:=B) (l:=l) fun y a=>h y (by simp[a]);rw[XC,List.length_cons,akZ,Nat.one_mul];omega
end
theorem Kv:SzZ kU tG 5:=fun a x f h=>by have b:=wA h;obtain⟨c,d⟩:=gR h;have g:=M0 (k:=1) (z:=eU) (by omega) (fun _=>rfl) c;have i:=M0 (k:=1) (z:=eU) (by omega) (fun _=>rfl) d;have e:tG x=5+total eU x.data+total eU x.lanes:=rfl;unfold kU at*;rw[b,e];push_cast;omega
theorem Eh:SzZ gJ mN 0:=fun a l b h=>by have:=Cj N9 Kv (by omega) b h;unfold gJ mN;omega
theorem afX{a:Int}{x:Cfg}(i:0<=a)(h:0<=z8 a x):(dm x:Int)<=8*(a-z8 a x):=by have c:=wA h;obtain⟨d,h⟩:=gR h;have e:=wA h;obtain⟨b,f⟩:=gR h;have j:=M0 (k:=4) (z:=iS) (by omega) (fun _=>rfl) d;have l:=M0 (k:=1) (z:=eU) (by omega) (fun _=>rfl) b;have m:=Cj zX Eh (by omega) b f;have g:dm x=total iS x.map+total eU x.lat+total mN x.b7:=rfl;unfold z8 at*;rw[c,e,g];push_cast;omega
theorem mf{l:List Job}(h:oM (iQ (2^21)) (2^21) l):total gQ l<=2^45:=by
 have d:=dg (z:=gQ) (B:=2^22) (l:=l) fun x a=>by have:=h.2 x a;have b:gQ x=4+total eU x.rsp.data:=rfl;have c:total eU x.rsp.data=1*x.rsp.data.length:=n7 fun _=>rfl;have hl:x.rsp.data.length<2^21:=this;rw[b,c];omega
 have e:=h.1;omega
theorem wu:SzZ iO gQ 4:=fun a x c h=>by have q:=M0 (k:=1) (z:=eU) (by omega) (fun _=>rfl) (l:=x.rsp.data) h;have b:gQ x=4+total eU x.rsp.data:=rfl;have hs:iO a x=szN a x.rsp.data.length:=rfl;rw[hs,b];push_cast;omega
theorem Ig:SzZ eC gW 2:=fun a x f h=>by have b:=wA h;obtain⟨c,d⟩:=gR h;have g:=M0 (k:=1) (z:=eU) (by omega) (fun _=>rfl) c;have i:=M0 (k:=3) (z:=gC) (by omega) (fun _=>rfl) d;have e:gW x=2+total eU x.queue+total gC x.out:=rfl;unfold eC at*;rw[b,e];push_cast;omega
theorem Ei:SzZ dQ fX 1:=fun a x f h=>by have c:=wA h;obtain⟨b,d⟩:=gR h;have g:=M0 (k:=3) (z:=gC) (by omega) (fun _=>rfl) b;have i:=Cj oL wu (by omega) b d;have e:fX x=1+total gC x.pipe+total gQ x.done:=rfl;unfold dQ at*;rw[c,e];push_cast;omega
theorem acE{a:Int}{w u:List Int}(h:0<=A6 a w u):(total eU w:Int)+total eU u<=8*(a-A6 a w u):=by have b:=wA h;obtain⟨c,d⟩:=gR h;have e:=M0 (k:=1) (z:=eU) (by omega) (fun _=>rfl) c;have f:=M0 (k:=1) (z:=eU) (by omega) (fun _=>rfl) d;unfold A6 at*;rw[b];omega
theorem adA{a:Int}{x:CSt}(k:0<=a)(h:0<=oW a x):(BG x:Int)<=8*(a-oW a x):=by have e:=wA h;obtain⟨b,h⟩:=gR h;have f:=wA h;obtain⟨c,h⟩:=gR h;have g:=wA h;obtain⟨d,i⟩:=gR h;have l:=acE b;have m:=Cj xB Ig (by omega) b c;have n:=Cj tI Ei (by omega) c d;have o:=Cj oL wu (by omega) d i;have j:BG x=total eU x.words+total eU x.holds+total gW x.bE+total fX x.bM+total gQ x.told:=rfl;unfold oW at*;rw[e,f,g,j];push_cast;omega
theorem ahQ:SzZ nK BQ 0:=fun a x i h=>by have b:=wA h;obtain⟨c,h⟩:=gR h;have d:=wA h;obtain⟨e,f⟩:=gR h;have j:=M0 (k:=1) (z:=l6) (by omega) (fun _=>rfl) c;have l:=M0 (k:=1) (z:=l6) (by omega) (fun _=>rfl) e;have m:=M0 (k:=1) (z:=l6) (by omega) (fun _=>rfl) f;have g:BQ x=total l6 x.ready+total l6 x.iP+total l6 x.send:=rfl;unfold nK at*;rw[b,d,g];push_cast;omega
theorem acP{s:CSt}(h:jE (2^21) s)(hp:s.bE.length<=4)(a:s.bM.length<=4):BG s<=2^50:=by
 obtain⟨⟨k,l⟩,d,e,f⟩:=h;have m:total eU s.words=1*s.words.length:=n7 fun _=>rfl;have n:total eU s.holds=1*s.holds.length:=n7 fun _=>rfl;have o:=mf f;have q:total gW s.bE<=s.bE.length*2^24:=dg fun p hp=>by obtain⟨g,b⟩:=d.2 p hp;have i:total eU p.queue=1*p.queue.length:=n7 fun _=>rfl;have j:total gC p.out=3*p.out.length:=n7 fun _=>rfl;have c:gW p=2+total eU p.queue+total gC p.out:=rfl;omega
 have r:total fX s.bM<=s.bM.length*2^46:=dg fun v a=>by obtain⟨g,b⟩:=e.2 v a;have i:total gC v.pipe=3*v.pipe.length:=n7 fun _=>rfl;have j:=mf b;have c:fX v=1+total gC v.pipe+total gQ v.done:=rfl;omega
 have c:BG s=total eU s.words+total eU s.holds+total gW s.bE+total fX s.bM+total gQ s.told:=rfl;have t:=alC (2^24) hp;have u:=alC (2^46) a;omega
theorem Fu.len{s:TSt}(h:Fu s):QM (2^21) s:=⟨⟨h.words,h.holds⟩,h.asked,⟨h.wait,fun j a=>h.data j (by simp[a])⟩,⟨h.done,fun j a=>h.data j (by simp[a])⟩,⟨h.told,fun j a=>h.data j (by simp[a])⟩⟩
theorem lT{H:aA}{a d:D}{l0 l:List D}(h:CvD H (fun _=>True) id 0 a d)(b:Jj H l0 l):Jj H (a::l0) (d::l):=⟨h,b⟩
theorem LY{H:aA}:Jj H [] []:=trivial
theorem TB{H:aA}{d:D}(h:d.imm=true):CvD H (fun _=>True) id 0 d d:=aD h
theorem su{α:Type}{n:Nat}{e:α->List D1}{RowP:KP α}(a:Fzb n e RowP){H:aA}{r:List D1}{x:α}{F:Nat->Prop}(h:RowP H r x F):CvD H (fun _=>True) id 0 (dA (e x)) (.one (.agg r)):=sR (a _ _ _ _ h).2.cvL
end Go.AM
namespace Go.Proofs.YtlncecohbakleaaGreat
open Go Go.AM
attribute [local irreducible] aH wv aC vd wvH
section
variable{H:aA}{nx:Nat}{K:an4}
theorem mQ{l:List Int}(q:l.length<2^21)(h: ∀H' nx' d F,nx<=nx'->SlS 1 (cY aG) H' d l F->(∀j,F j->nx<=j/\j<nx')->(∀j,j<nx->H' j=H j)->K (.one (.c d)) H' nx'):an3 jA [dS (l.map aG)] H nx K:=by
 have r:l.length<2^21:=q;refine bA.mk Tryz.func79 (by kernel_rfl) yk rfl fun Q s=> ?_;unfold yT;repeat' first|apply vI<;>(simp only[go_sem])|refine⟨by omega,?_⟩|fail
 refine aH.cE (β:=Nat) (fun u=>en [(4,dI u),(3,.one (.c (.osl 1 (nx+3) 0 l.length l.length))),(0,dS (l.map aG))]) (fun u H1 p=>u<=l.length/\(∃f G,UI (cY aG) H1 1 (nx+3) l.length (fun _=>[cI 0]) f G l u nx p)/\nx+3<p/\ ∀j,j<nx->H1 j=H j) (fun u=>l.length-u) 0 ⟨noF,_,by repeat' first|exact C1|refine xqI rfl rfl ?_|refine xqO (by omega) rfl rfl (by rfl) ?_|fail,aF,akV _,⟨_,_,uK (by rw[CE];exact aA.aI)⟩,by omega,fun j g=>by simp (disch:=omega) only[aA.aB]⟩ ?_;rintro u H1 t v ⟨hu,⟨f,G,e⟩,i,a⟩ C k;by_cases b:u<l.length
 ·obtain⟨x,m⟩: ∃x,l[u]?=some x:=⟨_,akD b⟩
  have w:x∈l:=akF m;have n:l.getD u default=x:=by simp[List.getD,m]
  have y:=e.blk;have z: ∀f,(rng l.length f)[u]?=some (f u):=fun f=>fS b;have A:f u=[cI 0]:=e.zero u (akA _);repeat' first|apply vI<;>(simp only[go_sem,y,A,n,z,bK,bP,aY,aZ,nL];try simp (disch:=omega) only[Iw])|apply vT (by omega)|refine⟨by omega,?_⟩|fail
  exact k _ _ _ (u+1) noF _ (by omega) (by omega) (by repeat' first|exact C1|refine xqI rfl rfl ?_|refine xqO (by omega) rfl rfl (by rfl) ?_|fail) aF ⟨by omega,⟨_,_,e.step (hi':=_) aN m (G':=fun _=>False) aA.aI rfl (fun j h=>h.elim) i (by omega) (by omega) fun j D B=>aA.aB B⟩,by omega,fun j g=>(aA.aB (by omega)).trans (a j g)⟩
 ·repeat' first|apply vI<;>(simp only[go_sem])|apply vF (by omega)|fail
  have o:u=l.length:=by omega
  subst o;exact s _ _ _ _ _ (.inr rfl) rfl (h _ _ _ _ (by omega) (e.done (by omega) (by omega) (akA _) (akA _) (fun h=>by rw[h];rfl)) (fun j g=>by omega) a)
theorem nf{w:List Int}(g:w.length<2^21)(h: ∀H' nx' d F,nx<=nx'->SlS 1 (cY aG) H' d w F->(∀j,F j->nx<=j/\j<nx')->(∀j,j<nx->H' j=H j)->K (.one (.agg [d])) H' nx'):an3 E5 [dA [.isl (w.map aG)]] H nx K:=by
 refine bA.mk Tryz.func232 (by kernel_rfl) eb rfl fun Q i=> ?_;unfold tD;repeat' first| (first|apply vI|refine mQ g (fun H2 k d F l s1 e f=> ?_))<;>(simp only[go_sem,nL])|fail
 have a:=(f (nx+2) (by omega)).trans aA.aI;have b:=(f (nx+1) (by omega)).trans ((aA.aB (by omega)).trans aA.aI);(try simp only[go_sem,nL,a,b,nL]);repeat' first|apply vI<;>(simp only[go_sem,nL,a,b,nL])|fail
 exact i _ _ _ _ _ (.inr rfl) (CO rfl aA.aI rfl) (h _ _ _ F (by omega) (s1.frame aN fun j c=>(aA.aB (by have:=e j c;omega)).trans (aA.aB (by have:=e j c;omega))) (fun j c=>by have:=e j c;omega) fun j c=>(aA.aB (by omega)).trans ((aA.aB (by omega)).trans ((f j (by omega)).trans ((aA.aB (by omega)).trans ((aA.aB (by omega)).trans (aA.aB (by omega)))))))
theorem YR{w u:List Int}(m:w.length<2^21)(hc:u.length<2^21)(h: ∀H' nx' d1 d2 F1 F2,nx<=nx'->SlS 1 (cY aG) H' d1 w F1->SlS 1 (cY aG) H' d2 u F2->(∀j,F1 j->nx<=j/\j<nx')->(∀j,F2 j->nx<=j/\j<nx')->Dis F1 F2->(∀j,j<nx->H' j=H j)->K (.one (.agg [d1,d2])) H' nx'):an3 zI [dA [.isl (w.map aG),.isl (u.map aG)]] H nx K:=by
 refine bA.mk Tryz.func142 (by kernel_rfl) XN rfl fun Q n=> ?_;unfold pF;repeat' first| (first|apply vI|refine nf m (fun H2 o d1 F1 p s1 c i=> ?_))<;>(simp only[go_sem,nL])|fail
 have d:=(i nx (by omega)).trans ((aA.aB (by omega)).trans ((aA.aB (by omega)).trans aA.aI));have e:=(i (nx+2) (by omega)).trans aA.aI;have b:=(i (nx+1) (by omega)).trans ((aA.aB (by omega)).trans aA.aI);(try simp only[go_sem,nL,d,b,e,nL]);repeat' first| (first|apply vI|refine mQ hc (fun v q d2 F2 r s2 k l=> ?_))<;>(simp only[go_sem,nL,d,b,e,nL])|fail
 have f:=(l (nx+2) (by omega)).trans aA.aI;have g:=(l (nx+1) (by omega)).trans ((aA.aB (by omega)).trans b);(try simp only[go_sem,nL,g,f,nL]);repeat' first|apply vI<;>(simp only[go_sem,nL,g,f,nL])|fail
 exact n _ _ _ _ _ (.inr rfl) (CO rfl aA.aI rfl) (h _ _ _ _ F1 F2 (by omega) (s1.frame aN fun j a=>(aA.aB (by have:=c j a;omega)).trans ((aA.aB (by have:=c j a;omega)).trans ((l j (by have:=c j a;omega)).trans (aA.aB (by have:=c j a;omega))))) (s2.frame aN fun j a=>(aA.aB (by have:=k j a;omega)).trans (aA.aB (by have:=k j a;omega))) (fun j a=>by have:=c j a;omega) (fun j a=>by have:=k j a;omega) (fun j s t=>by have x:=c j s;have y:=k j t;omega)
  fun j a=>(aA.aB (by omega)).trans ((aA.aB (by omega)).trans ((l j (by omega)).trans ((aA.aB (by omega)).trans ((i j (by omega)).trans ((aA.aB (by omega)).trans ((aA.aB (by omega)).trans (aA.aB (by omega)))))))))
theorem HI{l:List Bool}(q:l.length<2^21)(h: ∀H' nx' d F,nx<=nx'->SlS 1 (cY d8) H' d l F->(∀j,F j->nx<=j/\j<nx')->(∀j,j<nx->H' j=H j)->K (.one (.c d)) H' nx'):an3 rK [dS (l.map d8)] H nx K:=by
 have r:l.length<2^21:=q;refine bA.mk Tryz.func146 (by kernel_rfl) qg rfl fun Q s=> ?_;unfold vK;repeat' first|apply vI<;>(simp only[go_sem])|refine⟨by omega,?_⟩|fail
 refine aH.cE (β:=Nat) (fun u=>en [(4,dI u),(3,.one (.c (.osl 1 (nx+3) 0 l.length l.length))),(0,dS (l.map d8))]) (fun u H1 p=>u<=l.length/\(∃f G,UI (cY d8) H1 1 (nx+3) l.length (fun _=>[cB false]) f G l u nx p)/\nx+3<p/\ ∀j,j<nx->H1 j=H j) (fun u=>l.length-u) 0 ⟨noF,_,by repeat' first|exact C1|refine xqI rfl rfl ?_|refine xqO (by omega) rfl rfl (by rfl) ?_|fail,aF,akV _,⟨_,_,uK (by rw[CE];exact aA.aI)⟩,by omega,fun j g=>by simp (disch:=omega) only[aA.aB]⟩ ?_;rintro u H1 t v ⟨hu,⟨f,G,e⟩,i,a⟩ C k;by_cases b:u<l.length
 ·obtain⟨x,m⟩: ∃x,l[u]?=some x:=⟨_,akD b⟩
  have w:x∈l:=akF m;have n:l.getD u default=x:=by simp[List.getD,m]
  have y:=e.blk;have z: ∀f,(rng l.length f)[u]?=some (f u):=fun f=>fS b;have A:f u=[cB false]:=e.zero u (akA _);repeat' first|apply vI<;>(simp only[go_sem,y,A,n,z,bK,bP,aY,aZ,nL];try simp (disch:=omega) only[Iw])|apply vT (by omega)|refine⟨by omega,?_⟩|fail
  exact k _ _ _ (u+1) noF _ (by omega) (by omega) (by repeat' first|exact C1|refine xqI rfl rfl ?_|refine xqO (by omega) rfl rfl (by rfl) ?_|fail) aF ⟨by omega,⟨_,_,e.step (hi':=_) aN m (G':=fun _=>False) aA.aI rfl (fun j h=>h.elim) i (by omega) (by omega) fun j D B=>aA.aB B⟩,by omega,fun j g=>(aA.aB (by omega)).trans (a j g)⟩
 ·repeat' first|apply vI<;>(simp only[go_sem])|apply vF (by omega)|fail
  have o:u=l.length:=by omega
  subst o;exact s _ _ _ _ _ (.inr rfl) rfl (h _ _ _ _ (by omega) (e.done (by omega) (by omega) (akA _) (akA _) (fun h=>by rw[h];rfl)) (fun j g=>by omega) a)
theorem XG{l:List Rng}(q:l.length<2^21)(h: ∀H' nx' d F,nx<=nx'->SlS 4 (cY c7) H' d l F->(∀j,F j->nx<=j/\j<nx')->(∀j,j<nx->H' j=H j)->K (.one (.c d)) H' nx'):an3 wJ [dS (l.map c7)] H nx K:=by
 have r:l.length<2^21:=q;refine bA.mk Tryz.func78 (by kernel_rfl) UU rfl fun Q s=> ?_;unfold m7;repeat' first|apply vI<;>(simp only[go_sem])|refine⟨by omega,?_⟩|fail
 refine aH.cE (β:=Nat) (fun u=>en [(4,dI u),(3,.one (.c (.osl 4 (nx+3) 0 l.length l.length))),(0,dS (l.map c7))]) (fun u H1 p=>u<=l.length/\(∃f G,UI (cY c7) H1 4 (nx+3) l.length (fun _=>[cI 0,cI 0,cI 0,cB false]) f G l u nx p)/\nx+3<p/\ ∀j,j<nx->H1 j=H j) (fun u=>l.length-u) 0 ⟨noF,_,by repeat' first|exact C1|refine xqI rfl rfl ?_|refine xqO (by omega) rfl rfl (by rfl) ?_|fail,aF,akV _,⟨_,_,uK (by rw[CE];exact aA.aI)⟩,by omega,fun j g=>by simp (disch:=omega) only[aA.aB]⟩ ?_;rintro u H1 t v ⟨hu,⟨f,G,e⟩,i,a⟩ C k;by_cases b:u<l.length
 ·obtain⟨x,m⟩: ∃x,l[u]?=some x:=⟨_,akD b⟩
  have w:x∈l:=akF m;have n:l.getD u default=x:=by simp[List.getD,m]
  have y:=e.blk;have z: ∀f,(rng l.length f)[u]?=some (f u):=fun f=>fS b;have A:f u=[cI 0,cI 0,cI 0,cB false]:=e.zero u (akA _);repeat' first| (first|apply vI|apply aj)<;>(simp only[go_sem,y,A,n,z,bK,bP,aY,aZ,nL];try simp (disch:=omega) only[Iw])|apply vT (by omega)|refine⟨by omega,?_⟩|fail
  exact k _ _ _ (u+1) noF _ (by omega) (by omega) (by repeat' first|exact C1|refine xqI rfl rfl ?_|refine xqO (by omega) rfl rfl (by rfl) ?_|fail) aF ⟨by omega,⟨_,_,e.step (hi':=_) aN m (G':=fun _=>False) aA.aI rfl (fun j h=>h.elim) i (by omega) (by omega) fun j D B=>aA.aB B⟩,by omega,fun j g=>(aA.aB (by omega)).trans (a j g)⟩
 ·repeat' first|apply vI<;>(simp only[go_sem])|apply vF (by omega)|fail
  have o:u=l.length:=by omega
  subst o;exact s _ _ _ _ _ (.inr rfl) rfl (h _ _ _ _ (by omega) (e.done (by omega) (by omega) (akA _) (akA _) (fun h=>by rw[h];rfl)) (fun j g=>by omega) a)
theorem NN{l:List eZ}(q:l.length<2^21)(h: ∀H' nx' d F,nx<=nx'->SlS 3 (cY eCJ) H' d l F->(∀j,F j->nx<=j/\j<nx')->(∀j,j<nx->H' j=H j)->K (.one (.c d)) H' nx'):an3 sG [dS (l.map eCJ)] H nx K:=by
 have r:l.length<2^21:=q;refine bA.mk Tryz.func308 (by kernel_rfl) bx rfl fun Q s=> ?_;unfold pX;repeat' first|apply vI<;>(simp only[go_sem])|refine⟨by omega,?_⟩|fail
 refine aH.cE (β:=Nat) (fun u=>en [(4,dI u),(3,.one (.c (.osl 3 (nx+3) 0 l.length l.length))),(0,dS (l.map eCJ))]) (fun u H1 p=>u<=l.length/\(∃f G,UI (cY eCJ) H1 3 (nx+3) l.length (fun _=>[cI 0,cI 0,cI 0]) f G l u nx p)/\nx+3<p/\ ∀j,j<nx->H1 j=H j) (fun u=>l.length-u) 0 ⟨noF,_,by repeat' first|exact C1|refine xqI rfl rfl ?_|refine xqO (by omega) rfl rfl (by rfl) ?_|fail,aF,akV _,⟨_,_,uK (by rw[CE];exact aA.aI)⟩,by omega,fun j g=>by simp (disch:=omega) only[aA.aB]⟩ ?_;rintro u H1 t v ⟨hu,⟨f,G,e⟩,i,a⟩ C k;by_cases b:u<l.length
 ·obtain⟨x,m⟩: ∃x,l[u]?=some x:=⟨_,akD b⟩
  have w:x∈l:=akF m;have n:l.getD u default=x:=by simp[List.getD,m]
  have y:=e.blk;have z: ∀f,(rng l.length f)[u]?=some (f u):=fun f=>fS b;have A:f u=[cI 0,cI 0,cI 0]:=e.zero u (akA _);repeat' first| (first|apply vI|apply qt)<;>(simp only[go_sem,y,A,n,z,bK,bP,aY,aZ,nL];try simp (disch:=omega) only[Iw])|apply vT (by omega)|refine⟨by omega,?_⟩|fail
  exact k _ _ _ (u+1) noF _ (by omega) (by omega) (by repeat' first|exact C1|refine xqI rfl rfl ?_|refine xqO (by omega) rfl rfl (by rfl) ?_|fail) aF ⟨by omega,⟨_,_,e.step (hi':=_) aN m (G':=fun _=>False) aA.aI rfl (fun j h=>h.elim) i (by omega) (by omega) fun j D B=>aA.aB B⟩,by omega,fun j g=>(aA.aB (by omega)).trans (a j g)⟩
 ·repeat' first|apply vI<;>(simp only[go_sem])|apply vF (by omega)|fail
  have o:u=l.length:=by omega
  subst o;exact s _ _ _ _ _ (.inr rfl) rfl (h _ _ _ _ (by omega) (e.done (by omega) (by omega) (akA _) (akA _) (fun h=>by rw[h];rfl)) (fun j g=>by omega) a)
theorem pf{x:Req}(u:l4 (2^21) x)(h: ∀H' nx' r F,nx<=nx'->GX H' r x F->(∀j,F j->nx<=j/\j<nx')->(∀j,j<nx->H' j=H j)->K (.one (.agg r)) H' nx'):an3 EM [dA (dK x)] H nx K:=by
 obtain⟨o,p⟩:=u;refine bA.mk Tryz.func251 (by kernel_rfl) iz rfl fun Q v=> ?_;unfold s6;repeat' first| (first|apply vI|refine mQ (l:=x.data) o (fun H2 w d1 F1 y s1 d m=> ?_))<;>(simp only[go_sem,nL])|fail
 have b:=(m nx (by omega)).trans ((aA.aB (by omega)).trans ((aA.aB (by omega)).trans aA.aI));have e:=(m (nx+2) (by omega)).trans aA.aI;have c:=(m (nx+1) (by omega)).trans ((aA.aB (by omega)).trans aA.aI);have q: ∀j,j<nx->H2 j=H j:=fun j a=>(m j (by omega)).trans ((aA.aB (by omega)).trans ((aA.aB (by omega)).trans (aA.aB (by omega))));(try simp only[go_sem,nL,b,c,e,nL]);repeat' first| (first|apply vI|refine mQ (l:=x.lanes) p (fun z s d2 F2 A s2 n f=> ?_))<;>(simp only[go_sem,nL,b,c,e,nL])|fail
 have g:=(f nx (by omega)).trans ((aA.aB (by omega)).trans b);have i:=(f (nx+2) (by omega)).trans aA.aI;have k:=(f (nx+1) (by omega)).trans ((aA.aB (by omega)).trans c);have t: ∀j,j<nx->z j=H j:=fun j a=>(f j (by omega)).trans ((aA.aB (by omega)).trans (q j a));replace s1:=s1.frame aN fun j a=>(f j (by have:=d j a;omega)).trans (aA.aB (by have:=d j a;omega));(try simp only[go_sem,nL,g,k,i,nL]);repeat' first|apply vI<;>(simp only[go_sem,nL,g,k,i,nL])|fail
 exact v _ _ _ _ _ (.inr rfl) (CO rfl aA.aI rfl) (h _ _ _ (fun j=>nx+3<=j/\j<s) (by omega) ⟨d1,d2,F1,F2,rfl,⟨(s1.frame aN fun j a=>(aA.aB (by have:=d j a;omega)).trans (aA.aB (by have:=d j a;omega))),(s2.frame aN fun j a=>(aA.aB (by have:=n j a;omega)).trans (aA.aB (by have:=n j a;omega))),fun j a=>by have:=d j a;omega,fun j a=>by have:=n j a;omega,fun j B C=>by have D:=d j B;have E:=n j C;omega⟩⟩ (fun j a=>by omega) fun j a=>(aA.aB (by omega)).trans ((aA.aB (by omega)).trans (t j a)))
theorem kp{l:List Req}(w:oM (l4 (2^21)) (2^21) l)(h: ∀H' nx' d F,nx<=nx'->SlS 7 GX H' d l F->(∀j,F j->nx<=j/\j<nx')->(∀j,j<nx->H' j=H j)->K (.one (.c d)) H' nx'):an3 BC [dS (l.map dK)] H nx K:=by
 have C:l.length<2^21:=w.1;refine bA.mk Tryz.func170 (by kernel_rfl) ZA rfl fun Q D=> ?_;unfold qB;repeat' first|apply vI<;>(simp only[go_sem])|refine⟨by omega,?_⟩|fail
 refine aH.cE (β:=Nat) (fun u=>en [(4,dI u),(3,.one (.c (.osl 7 (nx+3) 0 l.length l.length))),(0,dS (l.map dK))]) (fun u H1 y=>u<=l.length/\(∃f G,UI GX H1 7 (nx+3) l.length (fun _=>[cI 0,cI 0,cI 0,cI 0,cB false,.osl 0 0 0 0 0,.osl 0 0 0 0 0]) f G l u nx y)/\nx+3<y/\ ∀j,j<nx->H1 j=H j) (fun u=>l.length-u) 0 ⟨noF,_,by repeat' first|exact C1|refine xqI rfl rfl ?_|refine xqO (by omega) rfl rfl (by rfl) ?_|fail,aF,akV _,⟨_,_,uK (by rw[CE];exact aA.aI)⟩,by omega,fun j a=>by simp (disch:=omega) only[aA.aB]⟩ ?_;rintro u H1 E I ⟨hu,⟨f,G,g⟩,i,b⟩ O k;by_cases e:u<l.length
 ·obtain⟨x,m⟩: ∃x,l[u]?=some x:=⟨_,akD e⟩
  have n:x∈l:=akF m;have o:l.getD u default=x:=by simp[List.getD,m]
  have z:=g.blk;have p: ∀f,(rng l.length f)[u]?=some (f u):=fun f=>fS e;have q:f u=[cI 0,cI 0,cI 0,cI 0,cB false,.osl 0 0 0 0 0,.osl 0 0 0 0 0]:=g.zero u (akA _);repeat' first| (first|apply vI|refine pf (w.2 x n) (fun H2 J r F L hr A s=> ?_))<;>(simp only[go_sem,z,q,o,p,bK,bP,aY,aZ,nL])|apply vT (by omega)|refine⟨by omega,?_⟩|fail
  have t:=DS _ (aA.set H2 (nx+3) ⟨7,l.length,rng l.length (LW f u r)⟩) _ _ _ hr fun j a=>aA.aB (by have:=A j a;omega);have M:r.length=7:=(im _ _ _ _ hr).2.1▸(im _ _ _ _ hr).1;have B:=(s (nx+3) (by omega)).trans z;obtain⟨d1,d2,F1,F2,rfl,_⟩:=hr;(try simp only[go_sem,nL,B,q,p,bK,bP,aY,aZ,nL]);repeat' first|apply vI<;>(simp only[go_sem,nL,B,q,p,bK,bP,aY,aZ,nL];try simp (disch:=omega) only[Iw])|fail
  exact k _ _ _ (u+1) noF _ (by omega) (by omega) (by repeat' first|exact C1|refine xqI rfl rfl ?_|refine xqO (by omega) rfl rfl (by rfl) ?_|fail) aF ⟨by omega,⟨_,_,g.step (hi':=_) DS m (G':=F) aA.aI t (fun j h=>by have:=A j h;omega) i (by omega) (by omega) fun j P N=>(aA.aB N).trans (s j (by omega))⟩,by omega,fun j a=>(aA.aB (by omega)).trans ((s j (by omega)).trans (b j a))⟩
 ·repeat' first|apply vI<;>(simp only[go_sem])|apply vF (by omega)|fail
  have v:u=l.length:=by omega
  subst v;exact D _ _ _ _ _ (.inr rfl) rfl (h _ _ _ _ (by omega) (g.done (by omega) (by omega) (akA _) (akA _) (fun h=>by rw[h];rfl)) (fun j a=>by omega) b)
theorem ch{l:List (List Req)}(t:oM (wR (2^21)) (2^21) l)(h: ∀H' nx' d F,nx<=nx'->SlS 1 EC H' d l F->(∀j,F j->nx<=j/\j<nx')->(∀j,j<nx->H' j=H j)->K (.one (.c d)) H' nx'):an3 y7 [dS (l.map mW)] H nx K:=by
 have A:l.length<2^21:=t.1;refine bA.mk Tryz.func80 (by kernel_rfl) XQ rfl fun Q B=> ?_;unfold pA;repeat' first|apply vI<;>(simp only[go_sem])|refine⟨by omega,?_⟩|fail
 refine aH.cE (β:=Nat) (fun u=>en [(4,dI u),(3,.one (.c (.osl 1 (nx+3) 0 l.length l.length))),(0,dS (l.map mW))]) (fun u H1 v=>u<=l.length/\(∃f G,UI EC H1 1 (nx+3) l.length (fun _=>[.osl 0 0 0 0 0]) f G l u nx v)/\nx+3<v/\ ∀j,j<nx->H1 j=H j) (fun u=>l.length-u) 0 ⟨noF,_,by repeat' first|exact C1|refine xqI rfl rfl ?_|refine xqO (by omega) rfl rfl (by rfl) ?_|fail,aF,akV _,⟨_,_,uK (by rw[CE];exact aA.aI)⟩,by omega,fun j a=>by simp (disch:=omega) only[aA.aB]⟩ ?_;rintro u H1 C D ⟨hu,⟨f,G,g⟩,i,b⟩ L k;by_cases e:u<l.length
 ·obtain⟨x,m⟩: ∃x,l[u]?=some x:=⟨_,akD e⟩
  have n:x∈l:=akF m;have o:l.getD u default=x:=by simp[List.getD,m]
  have w:=g.blk;have p: ∀f,(rng l.length f)[u]?=some (f u):=fun f=>fS e;have q:f u=[.osl 0 0 0 0 0]:=g.zero u (akA _);repeat' first| (first|apply vI|refine kp (t.2 x n) (fun H2 E d F I hs y r=> ?_))<;>(simp only[go_sem,w,q,o,p,bK,bP,aY,aZ,nL])|apply vT (by omega)|refine⟨by omega,?_⟩|fail
  have z:=(r (nx+3) (by omega)).trans w;(try simp only[go_sem,nL,z,q,p,bK,bP,aY,aZ,nL]);repeat' first|apply vI<;>(simp only[go_sem,nL,z,q,p,bK,bP,aY,aZ,nL];try simp (disch:=omega) only[Iw])|fail
  exact k _ _ _ (u+1) noF _ (by omega) (by omega) (by repeat' first|exact C1|refine xqI rfl rfl ?_|refine xqO (by omega) rfl rfl (by rfl) ?_|fail) aF ⟨by omega,⟨_,_,g.step (hi':=_) yH m (G':=F) aA.aI ⟨d,rfl,hs.frame DS fun j a=>aA.aB (by have:=y j a;omega)⟩ (fun j h=>by have:=y j h;omega) i (by omega) (by omega) fun j M J=>(aA.aB J).trans (r j (by omega))⟩,by omega,fun j a=>(aA.aB (by omega)).trans ((r j (by omega)).trans (b j a))⟩
 ·repeat' first|apply vI<;>(simp only[go_sem])|apply vF (by omega)|fail
  have s:u=l.length:=by omega
  subst s;exact B _ _ _ _ _ (.inr rfl) rfl (h _ _ _ _ (by omega) (g.done (by omega) (by omega) (akA _) (akA _) (fun h=>by rw[h];rfl)) (fun j a=>by omega) b)
theorem oy{x:Cfg}(I:pS (2^21) x)(h: ∀H' nx' r F,nx<=nx'->TG H' r x F->(∀j,F j->nx<=j/\j<nx')->(∀j,j<nx->H' j=H j)->K (.one (.agg r)) H' nx'):an3 FD [dA (cD x)] H nx K:=by
 obtain⟨w,y,z⟩:=I;refine bA.mk Tryz.func16 (by kernel_rfl) ef rfl fun Q J=> ?_;unfold tL;repeat' first| (first|apply vI|refine XG (l:=x.map) w (fun H2 L d1 F1 M s1 b v=> ?_))<;>(simp only[go_sem,nL])|fail
 have c:=(v nx (by omega)).trans ((aA.aB (by omega)).trans ((aA.aB (by omega)).trans aA.aI));have k:=(v (nx+2) (by omega)).trans aA.aI;have d:=(v (nx+1) (by omega)).trans ((aA.aB (by omega)).trans aA.aI);have A: ∀j,j<nx->H2 j=H j:=fun j a=>(v j (by omega)).trans ((aA.aB (by omega)).trans ((aA.aB (by omega)).trans (aA.aB (by omega))));(try simp only[go_sem,nL,c,d,k,nL]);repeat' first| (first|apply vI|refine mQ (l:=x.lat) y (fun N O d2 F2 P s2 e m=> ?_))<;>(simp only[go_sem,nL,c,d,k,nL])|fail
 have f:=(m nx (by omega)).trans ((aA.aB (by omega)).trans c);have n:=(m (nx+2) (by omega)).trans aA.aI;have g:=(m (nx+1) (by omega)).trans ((aA.aB (by omega)).trans d);have B: ∀j,j<nx->N j=H j:=fun j a=>(m j (by omega)).trans ((aA.aB (by omega)).trans (A j a));replace s1:=s1.frame aN fun j a=>(m j (by have:=b j a;omega)).trans (aA.aB (by have:=b j a;omega));(try simp only[go_sem,nL,f,g,n,nL]);repeat' first| (first|apply vI|refine ch (l:=x.b7) z (fun R C d3 S T s3 o i=> ?_))<;>(simp only[go_sem,nL,f,g,n,nL])|fail
 have p:=(i nx (by omega)).trans ((aA.aB (by omega)).trans f);have q:=(i (nx+2) (by omega)).trans aA.aI;have s:=(i (nx+1) (by omega)).trans ((aA.aB (by omega)).trans g);have D: ∀j,j<nx->R j=H j:=fun j a=>(i j (by omega)).trans ((aA.aB (by omega)).trans (B j a));replace s1:=s1.frame aN fun j a=>(i j (by have:=b j a;omega)).trans (aA.aB (by have:=b j a;omega));replace s2:=s2.frame aN fun j a=>(i j (by have:=e j a;omega)).trans (aA.aB (by have:=e j a;omega));(try simp only[go_sem,nL,p,s,q,nL]);repeat' first|apply vI<;>(simp only[go_sem,nL,p,s,q,nL])|fail
 exact J _ _ _ _ _ (.inr rfl) (CO rfl aA.aI rfl) (h _ _ _ (fun j=>nx+3<=j/\j<C) (by omega) ⟨d1,d2,d3,F1,F2,S,rfl,⟨(s1.frame aN fun j a=>(aA.aB (by have:=b j a;omega)).trans (aA.aB (by have:=b j a;omega))),(s2.frame aN fun j a=>(aA.aB (by have:=e j a;omega)).trans (aA.aB (by have:=e j a;omega))),(s3.frame yH fun j a=>(aA.aB (by have:=o j a;omega)).trans (aA.aB (by have:=o j a;omega))),fun j a=>by have:=b j a;omega,fun j a=>by have:=e j a;omega,fun j a=>by have:=o j a;omega,fun j t u=>by have E:=b j t;have G:=e j u;omega,fun j t u=>by have E:=b j t;have G:=o j u;omega,fun j t u=>by have E:=e j t;have G:=o j u;omega⟩⟩ (fun j a=>by omega) fun j a=>(aA.aB (by omega)).trans ((aA.aB (by omega)).trans (D j a)))
theorem om{x:Rsp}(k:x.data.length<2^21)(h: ∀H' nx' r F,nx<=nx'->aeL H' r x F->(∀j,F j->nx<=j/\j<nx')->(∀j,j<nx->H' j=H j)->K (.one (.agg r)) H' nx'):an3 EK [dA (nS x)] H nx K:=by
 have f:x.data.length<2^21:=k;refine bA.mk Tryz.func309 (by kernel_rfl) fq rfl fun Q m=> ?_;unfold tM;repeat' first| (first|apply vI|refine mQ (l:=x.data) f (fun H2 n d1 F1 o s1 g e=> ?_))<;>(simp only[go_sem,nL])|fail
 have b:=(e nx (by omega)).trans ((aA.aB (by omega)).trans ((aA.aB (by omega)).trans aA.aI));have c:=(e (nx+2) (by omega)).trans aA.aI;have d:=(e (nx+1) (by omega)).trans ((aA.aB (by omega)).trans aA.aI);have i: ∀j,j<nx->H2 j=H j:=fun j a=>(e j (by omega)).trans ((aA.aB (by omega)).trans ((aA.aB (by omega)).trans (aA.aB (by omega))));(try simp only[go_sem,nL,b,d,c,nL]);repeat' first|apply vI<;>(simp only[go_sem,nL,b,d,c,nL])|fail
 exact m _ _ _ _ _ (.inr rfl) (CO rfl aA.aI rfl) (h _ _ _ F1 (by omega) ⟨d1,rfl,(s1.frame aN fun j a=>(aA.aB (by have:=g j a;omega)).trans (aA.aB (by have:=g j a;omega)))⟩ (fun j a=>by have:=g j a;omega) fun j a=>(aA.aB (by omega)).trans ((aA.aB (by omega)).trans (i j a)))
theorem pg{x:Job}(k:iQ (2^21) x)(h: ∀H' nx' r F,nx<=nx'->DM H' r x F->(∀j,F j->nx<=j/\j<nx')->(∀j,j<nx->H' j=H j)->K (.one (.agg r)) H' nx'):an3 EI [dA (aP x)] H nx K:=by
 have f:x.rsp.data.length<2^21:=k;refine bA.mk Tryz.func235 (by kernel_rfl) ez rfl fun Q l=> ?_;unfold tC;repeat' first| (first|apply vI|refine om (x:=x.rsp) f (fun H2 m r F1 n hr g e=> ?_))<;>(simp only[go_sem,nL])|fail
 obtain⟨d1,rfl,s1⟩:=hr;have b:=(e nx (by omega)).trans ((aA.aB (by omega)).trans ((aA.aB (by omega)).trans aA.aI));have c:=(e (nx+2) (by omega)).trans aA.aI;have d:=(e (nx+1) (by omega)).trans ((aA.aB (by omega)).trans aA.aI);have i: ∀j,j<nx->H2 j=H j:=fun j a=>(e j (by omega)).trans ((aA.aB (by omega)).trans ((aA.aB (by omega)).trans (aA.aB (by omega))));(try simp only[go_sem,nL,b,d,c,nL]);repeat' first|apply vI<;>(simp only[go_sem,nL,b,d,c,nL])|fail
 exact l _ _ _ _ _ (.inr rfl) (CO rfl aA.aI rfl) (h _ _ _ F1 (by omega) ⟨d1,rfl,(s1.frame aN fun j a=>(aA.aB (by have:=g j a;omega)).trans (aA.aB (by have:=g j a;omega)))⟩ (fun j a=>by have:=g j a;omega) fun j a=>(aA.aB (by omega)).trans ((aA.aB (by omega)).trans (i j a)))
theorem NB{l:List Job}(w:oM (iQ (2^21)) (2^21) l)(h: ∀H' nx' d F,nx<=nx'->SlS 5 DM H' d l F->(∀j,F j->nx<=j/\j<nx')->(∀j,j<nx->H' j=H j)->K (.one (.c d)) H' nx'):an3 sV [dS (l.map aP)] H nx K:=by
 have C:l.length<2^21:=w.1;refine bA.mk Tryz.func145 (by kernel_rfl) Z8 rfl fun Q D=> ?_;unfold qE;repeat' first|apply vI<;>(simp only[go_sem])|refine⟨by omega,?_⟩|fail
 refine aH.cE (β:=Nat) (fun u=>en [(4,dI u),(3,.one (.c (.osl 5 (nx+3) 0 l.length l.length))),(0,dS (l.map aP))]) (fun u H1 y=>u<=l.length/\(∃f G,UI DM H1 5 (nx+3) l.length (fun _=>[cI 0,cI 0,cI 0,cI 0,.osl 0 0 0 0 0]) f G l u nx y)/\nx+3<y/\ ∀j,j<nx->H1 j=H j) (fun u=>l.length-u) 0 ⟨noF,_,by repeat' first|exact C1|refine xqI rfl rfl ?_|refine xqO (by omega) rfl rfl (by rfl) ?_|fail,aF,akV _,⟨_,_,uK (by rw[CE];exact aA.aI)⟩,by omega,fun j a=>by simp (disch:=omega) only[aA.aB]⟩ ?_;rintro u H1 E I ⟨hu,⟨f,G,g⟩,i,b⟩ O k;by_cases e:u<l.length
 ·obtain⟨x,m⟩: ∃x,l[u]?=some x:=⟨_,akD e⟩
  have n:x∈l:=akF m;have o:l.getD u default=x:=by simp[List.getD,m]
  have z:=g.blk;have p: ∀f,(rng l.length f)[u]?=some (f u):=fun f=>fS e;have q:f u=[cI 0,cI 0,cI 0,cI 0,.osl 0 0 0 0 0]:=g.zero u (akA _);repeat' first| (first|apply vI|refine pg (w.2 x n) (fun H2 J r F L hr A s=> ?_))<;>(simp only[go_sem,z,q,o,p,bK,bP,aY,aZ,nL])|apply vT (by omega)|refine⟨by omega,?_⟩|fail
  have t:=kP _ (aA.set H2 (nx+3) ⟨5,l.length,rng l.length (LW f u r)⟩) _ _ _ hr fun j a=>aA.aB (by have:=A j a;omega);have M:r.length=5:=(TP _ _ _ _ hr).2.1▸(TP _ _ _ _ hr).1;have B:=(s (nx+3) (by omega)).trans z;obtain⟨d1,rfl,_⟩:=hr;(try simp only[go_sem,nL,B,q,p,bK,bP,aY,aZ,nL]);repeat' first|apply vI<;>(simp only[go_sem,nL,B,q,p,bK,bP,aY,aZ,nL];try simp (disch:=omega) only[Iw])|fail
  exact k _ _ _ (u+1) noF _ (by omega) (by omega) (by repeat' first|exact C1|refine xqI rfl rfl ?_|refine xqO (by omega) rfl rfl (by rfl) ?_|fail) aF ⟨by omega,⟨_,_,g.step (hi':=_) kP m (G':=F) aA.aI t (fun j h=>by have:=A j h;omega) i (by omega) (by omega) fun j P N=>(aA.aB N).trans (s j (by omega))⟩,by omega,fun j a=>(aA.aB (by omega)).trans ((s j (by omega)).trans (b j a))⟩
 ·repeat' first|apply vI<;>(simp only[go_sem])|apply vF (by omega)|fail
  have v:u=l.length:=by omega
  subst v;exact D _ _ _ _ _ (.inr rfl) rfl (h _ _ _ _ (by omega) (g.done (by omega) (by omega) (akA _) (akA _) (fun h=>by rw[h];rfl)) (fun j a=>by omega) b)
theorem gz{x:cJ}(u:kX (2^21) x)(h: ∀H' nx' r F,nx<=nx'->yJ H' r x F->(∀j,F j->nx<=j/\j<nx')->(∀j,j<nx->H' j=H j)->K (.one (.agg r)) H' nx'):an3 BA [dA (bV x)] H nx K:=by
 obtain⟨o,p⟩:=u;refine bA.mk Tryz.func233 (by kernel_rfl) ZF rfl fun Q v=> ?_;unfold qS;repeat' first| (first|apply vI|refine mQ (l:=x.queue) o (fun H2 w d1 F1 y s1 d m=> ?_))<;>(simp only[go_sem,nL])|fail
 have b:=(m nx (by omega)).trans ((aA.aB (by omega)).trans ((aA.aB (by omega)).trans aA.aI));have e:=(m (nx+2) (by omega)).trans aA.aI;have c:=(m (nx+1) (by omega)).trans ((aA.aB (by omega)).trans aA.aI);have q: ∀j,j<nx->H2 j=H j:=fun j a=>(m j (by omega)).trans ((aA.aB (by omega)).trans ((aA.aB (by omega)).trans (aA.aB (by omega))));(try simp only[go_sem,nL,b,c,e,nL]);repeat' first| (first|apply vI|refine NN (l:=x.out) p (fun z s d2 F2 A s2 n f=> ?_))<;>(simp only[go_sem,nL,b,c,e,nL])|fail
 have g:=(f nx (by omega)).trans ((aA.aB (by omega)).trans b);have i:=(f (nx+2) (by omega)).trans aA.aI;have k:=(f (nx+1) (by omega)).trans ((aA.aB (by omega)).trans c);have t: ∀j,j<nx->z j=H j:=fun j a=>(f j (by omega)).trans ((aA.aB (by omega)).trans (q j a));replace s1:=s1.frame aN fun j a=>(f j (by have:=d j a;omega)).trans (aA.aB (by have:=d j a;omega));(try simp only[go_sem,nL,g,k,i,nL]);repeat' first|apply vI<;>(simp only[go_sem,nL,g,k,i,nL])|fail
 exact v _ _ _ _ _ (.inr rfl) (CO rfl aA.aI rfl) (h _ _ _ (fun j=>nx+3<=j/\j<s) (by omega) ⟨d1,d2,F1,F2,rfl,⟨(s1.frame aN fun j a=>(aA.aB (by have:=d j a;omega)).trans (aA.aB (by have:=d j a;omega))),(s2.frame aN fun j a=>(aA.aB (by have:=n j a;omega)).trans (aA.aB (by have:=n j a;omega))),fun j a=>by have:=d j a;omega,fun j a=>by have:=n j a;omega,fun j B C=>by have D:=d j B;have E:=n j C;omega⟩⟩ (fun j a=>by omega) fun j a=>(aA.aB (by omega)).trans ((aA.aB (by omega)).trans (t j a)))
theorem ZB{l:List cJ}(w:oM (kX (2^21)) (2^21) l)(h: ∀H' nx' d F,nx<=nx'->SlS 4 yJ H' d l F->(∀j,F j->nx<=j/\j<nx')->(∀j,j<nx->H' j=H j)->K (.one (.c d)) H' nx'):an3 zO [dS (l.map bV)] H nx K:=by
 have C:l.length<2^21:=w.1;refine bA.mk Tryz.func143 (by kernel_rfl) WJ rfl fun Q D=> ?_;unfold oR;repeat' first|apply vI<;>(simp only[go_sem])|refine⟨by omega,?_⟩|fail
 refine aH.cE (β:=Nat) (fun u=>en [(4,dI u),(3,.one (.c (.osl 4 (nx+3) 0 l.length l.length))),(0,dS (l.map bV))]) (fun u H1 y=>u<=l.length/\(∃f G,UI yJ H1 4 (nx+3) l.length (fun _=>[cI 0,.osl 0 0 0 0 0,.osl 0 0 0 0 0,cI 0]) f G l u nx y)/\nx+3<y/\ ∀j,j<nx->H1 j=H j) (fun u=>l.length-u) 0 ⟨noF,_,by repeat' first|exact C1|refine xqI rfl rfl ?_|refine xqO (by omega) rfl rfl (by rfl) ?_|fail,aF,akV _,⟨_,_,uK (by rw[CE];exact aA.aI)⟩,by omega,fun j a=>by simp (disch:=omega) only[aA.aB]⟩ ?_;rintro u H1 E I ⟨hu,⟨f,G,g⟩,i,b⟩ O k;by_cases e:u<l.length
 ·obtain⟨x,m⟩: ∃x,l[u]?=some x:=⟨_,akD e⟩
  have n:x∈l:=akF m;have o:l.getD u default=x:=by simp[List.getD,m]
  have z:=g.blk;have p: ∀f,(rng l.length f)[u]?=some (f u):=fun f=>fS e;have q:f u=[cI 0,.osl 0 0 0 0 0,.osl 0 0 0 0 0,cI 0]:=g.zero u (akA _);repeat' first| (first|apply vI|refine gz (w.2 x n) (fun H2 J r F L hr A s=> ?_))<;>(simp only[go_sem,z,q,o,p,bK,bP,aY,aZ,nL])|apply vT (by omega)|refine⟨by omega,?_⟩|fail
  have t:=iZ _ (aA.set H2 (nx+3) ⟨4,l.length,rng l.length (LW f u r)⟩) _ _ _ hr fun j a=>aA.aB (by have:=A j a;omega);have M:r.length=4:=(XX _ _ _ _ hr).2.1▸(XX _ _ _ _ hr).1;have B:=(s (nx+3) (by omega)).trans z;obtain⟨d1,d2,F1,F2,rfl,_⟩:=hr;(try simp only[go_sem,nL,B,q,p,bK,bP,aY,aZ,nL]);repeat' first|apply vI<;>(simp only[go_sem,nL,B,q,p,bK,bP,aY,aZ,nL];try simp (disch:=omega) only[Iw])|fail
  exact k _ _ _ (u+1) noF _ (by omega) (by omega) (by repeat' first|exact C1|refine xqI rfl rfl ?_|refine xqO (by omega) rfl rfl (by rfl) ?_|fail) aF ⟨by omega,⟨_,_,g.step (hi':=_) iZ m (G':=F) aA.aI t (fun j h=>by have:=A j h;omega) i (by omega) (by omega) fun j P N=>(aA.aB N).trans (s j (by omega))⟩,by omega,fun j a=>(aA.aB (by omega)).trans ((s j (by omega)).trans (b j a))⟩
 ·repeat' first|apply vI<;>(simp only[go_sem])|apply vF (by omega)|fail
  have v:u=l.length:=by omega
  subst v;exact D _ _ _ _ _ (.inr rfl) rfl (h _ _ _ _ (by omega) (g.done (by omega) (by omega) (akA _) (akA _) (fun h=>by rw[h];rfl)) (fun j a=>by omega) b)
theorem bd{x:lR}(u:jK (2^21) x)(h: ∀H' nx' r F,nx<=nx'->tE H' r x F->(∀j,F j->nx<=j/\j<nx')->(∀j,j<nx->H' j=H j)->K (.one (.agg r)) H' nx'):an3 yZ [dA (eV x)] H nx K:=by
 obtain⟨o,p⟩:=u;refine bA.mk Tryz.func234 (by kernel_rfl) WN rfl fun Q v=> ?_;unfold oI;repeat' first| (first|apply vI|refine NN (l:=x.pipe) o (fun H2 w d1 F1 y s1 d m=> ?_))<;>(simp only[go_sem,nL])|fail
 have b:=(m nx (by omega)).trans ((aA.aB (by omega)).trans ((aA.aB (by omega)).trans aA.aI));have e:=(m (nx+2) (by omega)).trans aA.aI;have c:=(m (nx+1) (by omega)).trans ((aA.aB (by omega)).trans aA.aI);have q: ∀j,j<nx->H2 j=H j:=fun j a=>(m j (by omega)).trans ((aA.aB (by omega)).trans ((aA.aB (by omega)).trans (aA.aB (by omega))));(try simp only[go_sem,nL,b,c,e,nL]);repeat' first| (first|apply vI|refine NB (l:=x.done) p (fun z s d2 F2 A s2 n f=> ?_))<;>(simp only[go_sem,nL,b,c,e,nL])|fail
 have g:=(f nx (by omega)).trans ((aA.aB (by omega)).trans b);have i:=(f (nx+2) (by omega)).trans aA.aI;have k:=(f (nx+1) (by omega)).trans ((aA.aB (by omega)).trans c);have t: ∀j,j<nx->z j=H j:=fun j a=>(f j (by omega)).trans ((aA.aB (by omega)).trans (q j a));replace s1:=s1.frame aN fun j a=>(f j (by have:=d j a;omega)).trans (aA.aB (by have:=d j a;omega));(try simp only[go_sem,nL,g,k,i,nL]);repeat' first|apply vI<;>(simp only[go_sem,nL,g,k,i,nL])|fail
 exact v _ _ _ _ _ (.inr rfl) (CO rfl aA.aI rfl) (h _ _ _ (fun j=>nx+3<=j/\j<s) (by omega) ⟨d1,d2,F1,F2,rfl,⟨(s1.frame aN fun j a=>(aA.aB (by have:=d j a;omega)).trans (aA.aB (by have:=d j a;omega))),(s2.frame kP fun j a=>(aA.aB (by have:=n j a;omega)).trans (aA.aB (by have:=n j a;omega))),fun j a=>by have:=d j a;omega,fun j a=>by have:=n j a;omega,fun j B C=>by have D:=d j B;have E:=n j C;omega⟩⟩ (fun j a=>by omega) fun j a=>(aA.aB (by omega)).trans ((aA.aB (by omega)).trans (t j a)))
theorem X0{l:List lR}(w:oM (jK (2^21)) (2^21) l)(h: ∀H' nx' d F,nx<=nx'->SlS 3 tE H' d l F->(∀j,F j->nx<=j/\j<nx')->(∀j,j<nx->H' j=H j)->K (.one (.c d)) H' nx'):an3 wU [dS (l.map eV)] H nx K:=by
 have C:l.length<2^21:=w.1;refine bA.mk Tryz.func144 (by kernel_rfl) TW rfl fun Q D=> ?_;unfold m8;repeat' first|apply vI<;>(simp only[go_sem])|refine⟨by omega,?_⟩|fail
 refine aH.cE (β:=Nat) (fun u=>en [(4,dI u),(3,.one (.c (.osl 3 (nx+3) 0 l.length l.length))),(0,dS (l.map eV))]) (fun u H1 y=>u<=l.length/\(∃f G,UI tE H1 3 (nx+3) l.length (fun _=>[.osl 0 0 0 0 0,.osl 0 0 0 0 0,cI 0]) f G l u nx y)/\nx+3<y/\ ∀j,j<nx->H1 j=H j) (fun u=>l.length-u) 0 ⟨noF,_,by repeat' first|exact C1|refine xqI rfl rfl ?_|refine xqO (by omega) rfl rfl (by rfl) ?_|fail,aF,akV _,⟨_,_,uK (by rw[CE];exact aA.aI)⟩,by omega,fun j a=>by simp (disch:=omega) only[aA.aB]⟩ ?_;rintro u H1 E I ⟨hu,⟨f,G,g⟩,i,b⟩ O k;by_cases e:u<l.length
 ·obtain⟨x,m⟩: ∃x,l[u]?=some x:=⟨_,akD e⟩
  have n:x∈l:=akF m;have o:l.getD u default=x:=by simp[List.getD,m]
  have z:=g.blk;have p: ∀f,(rng l.length f)[u]?=some (f u):=fun f=>fS e;have q:f u=[.osl 0 0 0 0 0,.osl 0 0 0 0 0,cI 0]:=g.zero u (akA _);repeat' first| (first|apply vI|refine bd (w.2 x n) (fun H2 J r F L hr A s=> ?_))<;>(simp only[go_sem,z,q,o,p,bK,bP,aY,aZ,nL])|apply vT (by omega)|refine⟨by omega,?_⟩|fail
  have t:=kN _ (aA.set H2 (nx+3) ⟨3,l.length,rng l.length (LW f u r)⟩) _ _ _ hr fun j a=>aA.aB (by have:=A j a;omega);have M:r.length=3:=(Q0 _ _ _ _ hr).2.1▸(Q0 _ _ _ _ hr).1;have B:=(s (nx+3) (by omega)).trans z;obtain⟨d1,d2,F1,F2,rfl,_⟩:=hr;(try simp only[go_sem,nL,B,q,p,bK,bP,aY,aZ,nL]);repeat' first|apply vI<;>(simp only[go_sem,nL,B,q,p,bK,bP,aY,aZ,nL];try simp (disch:=omega) only[Iw])|fail
  exact k _ _ _ (u+1) noF _ (by omega) (by omega) (by repeat' first|exact C1|refine xqI rfl rfl ?_|refine xqO (by omega) rfl rfl (by rfl) ?_|fail) aF ⟨by omega,⟨_,_,g.step (hi':=_) kN m (G':=F) aA.aI t (fun j h=>by have:=A j h;omega) i (by omega) (by omega) fun j P N=>(aA.aB N).trans (s j (by omega))⟩,by omega,fun j a=>(aA.aB (by omega)).trans ((s j (by omega)).trans (b j a))⟩
 ·repeat' first|apply vI<;>(simp only[go_sem])|apply vF (by omega)|fail
  have v:u=l.length:=by omega
  subst v;exact D _ _ _ _ _ (.inr rfl) rfl (h _ _ _ _ (by omega) (g.done (by omega) (by omega) (akA _) (akA _) (fun h=>by rw[h];rfl)) (fun j a=>by omega) b)
theorem SO{x:CIn}(I:kW (2^21) x)(h: ∀H' nx' r F,nx<=nx'->E4 H' r x F->(∀j,F j->nx<=j/\j<nx')->(∀j,j<nx->H' j=H j)->K (.one (.agg r)) H' nx'):an3 z7 [dA (eIn x)] H nx K:=by
 obtain⟨w,y,z⟩:=I;refine bA.mk Tryz.func56 (by kernel_rfl) qp rfl fun Q J=> ?_;unfold vM;repeat' first| (first|apply vI|refine HI (l:=x.ready) w (fun H2 L d1 F1 M s1 b v=> ?_))<;>(simp only[go_sem,nL])|fail
 have c:=(v nx (by omega)).trans ((aA.aB (by omega)).trans ((aA.aB (by omega)).trans aA.aI));have k:=(v (nx+2) (by omega)).trans aA.aI;have d:=(v (nx+1) (by omega)).trans ((aA.aB (by omega)).trans aA.aI);have A: ∀j,j<nx->H2 j=H j:=fun j a=>(v j (by omega)).trans ((aA.aB (by omega)).trans ((aA.aB (by omega)).trans (aA.aB (by omega))));(try simp only[go_sem,nL,c,d,k,nL]);repeat' first| (first|apply vI|refine HI (l:=x.iP) y (fun N O d2 F2 P s2 e m=> ?_))<;>(simp only[go_sem,nL,c,d,k,nL])|fail
 have f:=(m nx (by omega)).trans ((aA.aB (by omega)).trans c);have n:=(m (nx+2) (by omega)).trans aA.aI;have g:=(m (nx+1) (by omega)).trans ((aA.aB (by omega)).trans d);have B: ∀j,j<nx->N j=H j:=fun j a=>(m j (by omega)).trans ((aA.aB (by omega)).trans (A j a));replace s1:=s1.frame aN fun j a=>(m j (by have:=b j a;omega)).trans (aA.aB (by have:=b j a;omega));(try simp only[go_sem,nL,f,g,n,nL]);repeat' first| (first|apply vI|refine HI (l:=x.send) z (fun R C d3 S T s3 o i=> ?_))<;>(simp only[go_sem,nL,f,g,n,nL])|fail
 have p:=(i nx (by omega)).trans ((aA.aB (by omega)).trans f);have q:=(i (nx+2) (by omega)).trans aA.aI;have s:=(i (nx+1) (by omega)).trans ((aA.aB (by omega)).trans g);have D: ∀j,j<nx->R j=H j:=fun j a=>(i j (by omega)).trans ((aA.aB (by omega)).trans (B j a));replace s1:=s1.frame aN fun j a=>(i j (by have:=b j a;omega)).trans (aA.aB (by have:=b j a;omega));replace s2:=s2.frame aN fun j a=>(i j (by have:=e j a;omega)).trans (aA.aB (by have:=e j a;omega));(try simp only[go_sem,nL,p,s,q,nL]);repeat' first|apply vI<;>(simp only[go_sem,nL,p,s,q,nL])|fail
 exact J _ _ _ _ _ (.inr rfl) (CO rfl aA.aI rfl) (h _ _ _ (fun j=>nx+3<=j/\j<C) (by omega) ⟨d1,d2,d3,F1,F2,S,rfl,⟨(s1.frame aN fun j a=>(aA.aB (by have:=b j a;omega)).trans (aA.aB (by have:=b j a;omega))),(s2.frame aN fun j a=>(aA.aB (by have:=e j a;omega)).trans (aA.aB (by have:=e j a;omega))),(s3.frame aN fun j a=>(aA.aB (by have:=o j a;omega)).trans (aA.aB (by have:=o j a;omega))),fun j a=>by have:=b j a;omega,fun j a=>by have:=e j a;omega,fun j a=>by have:=o j a;omega,fun j t u=>by have E:=b j t;have G:=e j u;omega,fun j t u=>by have E:=b j t;have G:=o j u;omega,fun j t u=>by have E:=e j t;have G:=o j u;omega⟩⟩ (fun j a=>by omega) fun j a=>(aA.aB (by omega)).trans ((aA.aB (by omega)).trans (D j a)))
theorem pz{l:List CIn}(w:oM (kW (2^21)) (2^21) l)(h: ∀H' nx' d F,nx<=nx'->SlS 3 E4 H' d l F->(∀j,F j->nx<=j/\j<nx')->(∀j,j<nx->H' j=H j)->K (.one (.c d)) H' nx'):an3 EL [dS (l.map eIn)] H nx K:=by
 have C:l.length<2^21:=w.1;refine bA.mk Tryz.func17 (by kernel_rfl) jg rfl fun Q D=> ?_;unfold s7;repeat' first|apply vI<;>(simp only[go_sem])|refine⟨by omega,?_⟩|fail
 refine aH.cE (β:=Nat) (fun u=>en [(4,dI u),(3,.one (.c (.osl 3 (nx+3) 0 l.length l.length))),(0,dS (l.map eIn))]) (fun u H1 y=>u<=l.length/\(∃f G,UI E4 H1 3 (nx+3) l.length (fun _=>[.osl 0 0 0 0 0,.osl 0 0 0 0 0,.osl 0 0 0 0 0]) f G l u nx y)/\nx+3<y/\ ∀j,j<nx->H1 j=H j) (fun u=>l.length-u) 0 ⟨noF,_,by repeat' first|exact C1|refine xqI rfl rfl ?_|refine xqO (by omega) rfl rfl (by rfl) ?_|fail,aF,akV _,⟨_,_,uK (by rw[CE];exact aA.aI)⟩,by omega,fun j a=>by simp (disch:=omega) only[aA.aB]⟩ ?_;rintro u H1 E I ⟨hu,⟨f,G,g⟩,i,b⟩ O k;by_cases e:u<l.length
 ·obtain⟨x,m⟩: ∃x,l[u]?=some x:=⟨_,akD e⟩
  have n:x∈l:=akF m;have o:l.getD u default=x:=by simp[List.getD,m]
  have z:=g.blk;have p: ∀f,(rng l.length f)[u]?=some (f u):=fun f=>fS e;have q:f u=[.osl 0 0 0 0 0,.osl 0 0 0 0 0,.osl 0 0 0 0 0]:=g.zero u (akA _);repeat' first| (first|apply vI|refine SO (w.2 x n) (fun H2 J r F L hr A s=> ?_))<;>(simp only[go_sem,z,q,o,p,bK,bP,aY,aZ,nL])|apply vT (by omega)|refine⟨by omega,?_⟩|fail
  have t:=W0 _ (aA.set H2 (nx+3) ⟨3,l.length,rng l.length (LW f u r)⟩) _ _ _ hr fun j a=>aA.aB (by have:=A j a;omega);have M:r.length=3:=(LX _ _ _ _ hr).2.1▸(LX _ _ _ _ hr).1;have B:=(s (nx+3) (by omega)).trans z;obtain⟨d1,d2,d3,F1,F2,P,rfl,_⟩:=hr;(try simp only[go_sem,nL,B,q,p,bK,bP,aY,aZ,nL]);repeat' first|apply vI<;>(simp only[go_sem,nL,B,q,p,bK,bP,aY,aZ,nL];try simp (disch:=omega) only[Iw])|fail
  exact k _ _ _ (u+1) noF _ (by omega) (by omega) (by repeat' first|exact C1|refine xqI rfl rfl ?_|refine xqO (by omega) rfl rfl (by rfl) ?_|fail) aF ⟨by omega,⟨_,_,g.step (hi':=_) W0 m (G':=F) aA.aI t (fun j h=>by have:=A j h;omega) i (by omega) (by omega) fun j R N=>(aA.aB N).trans (s j (by omega))⟩,by omega,fun j a=>(aA.aB (by omega)).trans ((s j (by omega)).trans (b j a))⟩
 ·repeat' first|apply vI<;>(simp only[go_sem])|apply vF (by omega)|fail
  have v:u=l.length:=by omega
  subst v;exact D _ _ _ _ _ (.inr rfl) rfl (h _ _ _ _ (by omega) (g.done (by omega) (by omega) (akA _) (akA _) (fun h=>by rw[h];rfl)) (fun j a=>by omega) b)
theorem bz{x:CSt}(W:jE (2^21) x)(h: ∀H' nx' r F,nx<=nx'->G6 H' r x F->(∀j,F j->nx<=j/\j<nx')->(∀j,j<nx->H' j=H j)->K (.one (.agg r)) H' nx'):an3 zB [dA (dY x)] H nx K:=by
 obtain⟨⟨L,M⟩,N,O,P⟩:=W;refine bA.mk Tryz.func55 (by kernel_rfl) X3 rfl fun Q X=> ?_;unfold oO;repeat' first| (first|apply vI|refine YR (w:=x.words) (u:=x.holds) L M (fun H2 Y d1 d2 F1 F2 Z s1 s2 d e A J=> ?_))<;>(simp only[go_sem,nL])|fail
 have n:=(J nx (by omega)).trans ((aA.aB (by omega)).trans ((aA.aB (by omega)).trans aA.aI));have B:=(J (nx+2) (by omega)).trans aA.aI;have o:=(J (nx+1) (by omega)).trans ((aA.aB (by omega)).trans aA.aI);have R: ∀j,j<nx->H2 j=H j:=fun j a=>(J j (by omega)).trans ((aA.aB (by omega)).trans ((aA.aB (by omega)).trans (aA.aB (by omega))));(try simp only[go_sem,nL,n,o,B,nL]);repeat' first| (first|apply vI|refine ZB (l:=x.bE) N (fun H3 aa d3 F3 ab s3 f z=> ?_))<;>(simp only[go_sem,nL,n,o,B,nL])|fail
 have p:=(z nx (by omega)).trans ((aA.aB (by omega)).trans n);have C:=(z (nx+2) (by omega)).trans aA.aI;have q:=(z (nx+1) (by omega)).trans ((aA.aB (by omega)).trans o);have S: ∀j,j<nx->H3 j=H j:=fun j a=>(z j (by omega)).trans ((aA.aB (by omega)).trans (R j a));replace s1:=s1.frame aN fun j a=>(z j (by have:=d j a;omega)).trans (aA.aB (by have:=d j a;omega));replace s2:=s2.frame aN fun j a=>(z j (by have:=e j a;omega)).trans (aA.aB (by have:=e j a;omega));(try simp only[go_sem,nL,p,q,C,nL]);repeat' first| (first|apply vI|refine X0 (l:=x.bM) O (fun H4 ad d4 F4 ao s4 g s=> ?_))<;>(simp only[go_sem,nL,p,q,C,nL])|fail
 have t:=(s nx (by omega)).trans ((aA.aB (by omega)).trans p);have D:=(s (nx+2) (by omega)).trans aA.aI;have v:=(s (nx+1) (by omega)).trans ((aA.aB (by omega)).trans q);have T: ∀j,j<nx->H4 j=H j:=fun j a=>(s j (by omega)).trans ((aA.aB (by omega)).trans (S j a));replace s1:=s1.frame aN fun j a=>(s j (by have:=d j a;omega)).trans (aA.aB (by have:=d j a;omega));replace s2:=s2.frame aN fun j a=>(s j (by have:=e j a;omega)).trans (aA.aB (by have:=e j a;omega));replace s3:=s3.frame iZ fun j a=>(s j (by have:=f j a;omega)).trans (aA.aB (by have:=f j a;omega));(try simp only[go_sem,nL,t,v,D,nL]);repeat' first| (first|apply vI|refine NB (l:=x.told) P (fun H5 U d5 F5 az s5 y i=> ?_))<;>(simp only[go_sem,nL,t,v,D,nL])|fail
 have E:=(i nx (by omega)).trans ((aA.aB (by omega)).trans t);have G:=(i (nx+2) (by omega)).trans aA.aI;have I:=(i (nx+1) (by omega)).trans ((aA.aB (by omega)).trans v);have V: ∀j,j<nx->H5 j=H j:=fun j a=>(i j (by omega)).trans ((aA.aB (by omega)).trans (T j a));replace s1:=s1.frame aN fun j a=>(i j (by have:=d j a;omega)).trans (aA.aB (by have:=d j a;omega));replace s2:=s2.frame aN fun j a=>(i j (by have:=e j a;omega)).trans (aA.aB (by have:=e j a;omega));replace s3:=s3.frame iZ fun j a=>(i j (by have:=f j a;omega)).trans (aA.aB (by have:=f j a;omega));replace s4:=s4.frame kN fun j a=>(i j (by have:=g j a;omega)).trans (aA.aB (by have:=g j a;omega));(try simp only[go_sem,nL,E,I,G,nL]);repeat' first|apply vI<;>(simp only[go_sem,nL,E,I,G,nL])|fail
 exact X _ _ _ _ _ (.inr rfl) (CO rfl aA.aI rfl) (h _ _ _ (fun j=>nx+3<=j/\j<U) (by omega) ⟨d1,d2,d3,d4,d5,F1,F2,F3,F4,F5,rfl,⟨(s1.frame aN fun j a=>(aA.aB (by have:=d j a;omega)).trans (aA.aB (by have:=d j a;omega))),(s2.frame aN fun j a=>(aA.aB (by have:=e j a;omega)).trans (aA.aB (by have:=e j a;omega))),(s3.frame iZ fun j a=>(aA.aB (by have:=f j a;omega)).trans (aA.aB (by have:=f j a;omega))),(s4.frame kN fun j a=>(aA.aB (by have:=g j a;omega)).trans (aA.aB (by have:=g j a;omega))),(s5.frame kP fun j a=>(aA.aB (by have:=y j a;omega)).trans (aA.aB (by have:=y j a;omega))),fun j a=>by have:=d j a;omega,fun j a=>by have:=e j a;omega,fun j a=>by have:=f j a;omega,fun j a=>by have:=g j a;omega,fun j a=>by have:=y j a;omega,A,fun j b c=>by have k:=d j b;have m:=f j c;omega,fun j b c=>by have k:=d j b;have m:=g j c;omega,fun j b c=>by have k:=d j b;have m:=y j c;omega,fun j b c=>by have k:=e j b;have m:=f j c;omega,fun j b c=>by have k:=e j b;have m:=g j c;omega,fun j b c=>by have k:=e j b;have m:=y j c;omega,fun j b c=>by have k:=f j b;have m:=g j c;omega,fun j b c=>by have k:=f j b;have m:=y j c;omega,fun j b c=>by have k:=g j b;have m:=y j c;omega⟩⟩ (fun j a=>by omega) fun j a=>(aA.aB (by omega)).trans ((aA.aB (by omega)).trans (V j a)))
variable{d:D1}{k:Int}
theorem j8{l:List Int}{F:Nat->Prop}(s: ∀j,F j->j<nx)(hs:SlS 1 (cY aG) H d l F)(w:l.length<2^21)(R:0<=k)(S:k+total eU l<2^62)
 (h: ∀H' nx',nx<=nx'->SlS 1 (cY aG) H' d (marks eU OS k l) F->(∀j,j<nx->¬F j->H' j=H j)->K (dI (k+total eU l)) H' nx'):an3 gH [.one (.c d),dI k] H nx K:=by
 obtain⟨t,id,off,cap,rfl⟩:=hs.form
 have y:=hs.IF s
 have z:l.length<2^21:=w
 refine bA.mk Tryz.func87 (by kernel_rfl) fi rfl fun Q A=> ?_
 unfold sP
 repeat' first|apply vI<;>(simp only[go_sem])|fail
 refine aH.cE (β:=Nat) (fun u=>en [(5,dI u),(1,dI (k+uY eU l u)),(0,.one (.c (.osl t id off l.length cap)))]) (fun u H1 T=>u<=l.length/\SlS 1 (cY aG) H1 (.osl t id off l.length cap) (mixed eU OS k u l) F/\ ∀j,j<nx->¬F j->H1 j=H j) (fun u=>l.length-u) 0 ⟨noF,_,aT (aT (aT eR (lM (lS (by omega)))) (fN (by rw[lZ];omega))) (aD rfl),aF,akV _,hs,fun _ _ _=>rfl⟩ ?_
 rintro u H1 B C ⟨hu,b,n⟩ U o
 by_cases a:u<l.length
 ·obtain⟨x,e⟩: ∃x,l[u]?=some x:=⟨_,akD a⟩
  have D:x∈l:=akF e;have E:eU x=1:=rfl;have I:=jT (sz:=eU) e;have J:=vW (sz:=eU) e;rw[E] at I J;obtain⟨⟨rfl,rfl⟩,m,f,G,c1,c2,L,g⟩:=b.get (i:=u) (by rw[aO];exact a);rw[aO] at c1;have v:=g.blk;rw[aO] at v;have M: ∀f,(rng l.length f)[u]?=some (f u):=fun f=>fS a;have N:id<nx:=s id g.self;have V: ∀j,G u j->F j/\j≠id:=fun j O=>g.sub u j (by rw[aO];exact a) O;have P:f u=[cI x]:=g.row u x (fF e);repeat' first|apply vI<;>(simp only[go_sem,v,P,M,bK,bP,aY,aZ,nL];try simp (disch:=omega) only[Iw])|apply vT (by omega)|refine⟨by omega,?_⟩|fail
  refine o _ _ _ (u+1) noF _ (by omega) (by omega) (aT (aT (aT eR (lM (lS (by omega)))) (fN (by omega))) (fN (by omega))) aF ⟨by omega,?_,?_⟩;·rw[j7 e];exact SlS.put L (by rw[akI,aO];exact c1) c2 (by rw[akI,aO]) (g.upd aN (fF e) (by rw[aO];exact aA.aI) rfl fun j p q W=>aA.aB p)
  ·exact fun j p q=>(aA.aB (fun h=>q (by rw[h];exact g.self))).trans (n j p q)
 ·repeat' first|apply vI<;>(simp only[go_sem])|apply vF (by omega)|fail
  have r:u=l.length:=by omega
  subst r;rw[lW] at b;exact A _ _ _ _ _ (.inr rfl) rfl (h _ _ (by omega) b n)
theorem kR{l:List Bool}{F:Nat->Prop}(s: ∀j,F j->j<nx)(hs:SlS 1 (cY d8) H d l F)(w:l.length<2^21)(R:0<=k)(S:k+total l6 l<2^62)
 (h: ∀H' nx',nx<=nx'->SlS 1 (cY d8) H' d (marks l6 we k l) F->(∀j,j<nx->¬F j->H' j=H j)->K (dI (k+total l6 l)) H' nx'):an3 gP [.one (.c d),dI k] H nx K:=by
 obtain⟨t,id,off,cap,rfl⟩:=hs.form
 have y:=hs.IF s
 have z:l.length<2^21:=w
 refine bA.mk Tryz.func89 (by kernel_rfl) ZN rfl fun Q A=> ?_
 unfold qL
 repeat' first|apply vI<;>(simp only[go_sem])|fail
 refine aH.cE (β:=Nat) (fun u=>en [(5,dI u),(1,dI (k+uY l6 l u)),(0,.one (.c (.osl t id off l.length cap)))]) (fun u H1 T=>u<=l.length/\SlS 1 (cY d8) H1 (.osl t id off l.length cap) (mixed l6 we k u l) F/\ ∀j,j<nx->¬F j->H1 j=H j) (fun u=>l.length-u) 0 ⟨noF,_,aT (aT (aT eR (lM (lS (by omega)))) (fN (by rw[lZ];omega))) (aD rfl),aF,akV _,hs,fun _ _ _=>rfl⟩ ?_
 rintro u H1 B C ⟨hu,b,n⟩ U o
 by_cases a:u<l.length
 ·obtain⟨x,e⟩: ∃x,l[u]?=some x:=⟨_,akD a⟩
  have D:x∈l:=akF e;have E:l6 x=1:=rfl;have I:=jT (sz:=l6) e;have J:=vW (sz:=l6) e;rw[E] at I J;obtain⟨⟨rfl,rfl⟩,m,f,G,c1,c2,L,g⟩:=b.get (i:=u) (by rw[aO];exact a);rw[aO] at c1;have v:=g.blk;rw[aO] at v;have M: ∀f,(rng l.length f)[u]?=some (f u):=fun f=>fS a;have N:id<nx:=s id g.self;have V: ∀j,G u j->F j/\j≠id:=fun j O=>g.sub u j (by rw[aO];exact a) O;have P:f u=[cB x]:=g.row u x (fF e);repeat' first|apply vI<;>(simp only[go_sem,v,P,M,bK,bP,aY,aZ,nL];try simp (disch:=omega) only[Iw])|apply vT (by omega)|refine⟨by omega,?_⟩|fail
  refine o _ _ _ (u+1) noF _ (by omega) (by omega) (aT (aT (aT eR (lM (lS (by omega)))) (fN (by omega))) (fN (by omega))) aF ⟨by omega,?_,?_⟩;·rw[j7 e];exact SlS.put L (by rw[akI,aO];exact c1) c2 (by rw[akI,aO]) (g.upd aN (fF e) (by rw[aO];exact aA.aI) rfl fun j p q W=>aA.aB p)
  ·exact fun j p q=>(aA.aB (fun h=>q (by rw[h];exact g.self))).trans (n j p q)
 ·repeat' first|apply vI<;>(simp only[go_sem])|apply vF (by omega)|fail
  have r:u=l.length:=by omega
  subst r;rw[lW] at b;exact A _ _ _ _ _ (.inr rfl) rfl (h _ _ (by omega) b n)
theorem R9{l:List Rng}{F:Nat->Prop}(s: ∀j,F j->j<nx)(hs:SlS 4 (cY c7) H d l F)(w:l.length<2^21)(R:0<=k)(S:k+total iS l<2^62)
 (h: ∀H' nx',nx<=nx'->SlS 4 (cY c7) H' d (marks iS XW k l) F->(∀j,j<nx->¬F j->H' j=H j)->K (dI (k+total iS l)) H' nx'):an3 rM [.one (.c d),dI k] H nx K:=by
 obtain⟨t,id,off,cap,rfl⟩:=hs.form
 have y:=hs.IF s
 have z:l.length<2^21:=w
 refine bA.mk Tryz.func86 (by kernel_rfl) P6 rfl fun Q A=> ?_
 unfold lL
 repeat' first|apply vI<;>(simp only[go_sem])|fail
 refine aH.cE (β:=Nat) (fun u=>en [(5,dI u),(1,dI (k+uY iS l u)),(0,.one (.c (.osl t id off l.length cap)))]) (fun u H1 T=>u<=l.length/\SlS 4 (cY c7) H1 (.osl t id off l.length cap) (mixed iS XW k u l) F/\ ∀j,j<nx->¬F j->H1 j=H j) (fun u=>l.length-u) 0 ⟨noF,_,aT (aT (aT eR (lM (lS (by omega)))) (fN (by rw[lZ];omega))) (aD rfl),aF,akV _,hs,fun _ _ _=>rfl⟩ ?_
 rintro u H1 B C ⟨hu,b,n⟩ U o
 by_cases a:u<l.length
 ·obtain⟨x,e⟩: ∃x,l[u]?=some x:=⟨_,akD a⟩
  have D:x∈l:=akF e;have E:iS x=4:=rfl;have I:=jT (sz:=iS) e;have J:=vW (sz:=iS) e;rw[E] at I J;obtain⟨⟨rfl,rfl⟩,m,f,G,c1,c2,L,g⟩:=b.get (i:=u) (by rw[aO];exact a);rw[aO] at c1;have v:=g.blk;rw[aO] at v;have M: ∀f,(rng l.length f)[u]?=some (f u):=fun f=>fS a;have N:id<nx:=s id g.self;have V: ∀j,G u j->F j/\j≠id:=fun j O=>g.sub u j (by rw[aO];exact a) O;have P:f u=[cI x.lo,cI x.hi,cI x.ZU,cB x.only]:=g.row u x (fF e);repeat' first|apply vI<;>(simp only[go_sem,v,P,M,bK,bP,aY,aZ,nL];try simp (disch:=omega) only[Iw])|apply vT (by omega)|refine⟨by omega,?_⟩|fail
  refine o _ _ _ (u+1) noF _ (by omega) (by omega) (aT (aT (aT eR (lM (lS (by omega)))) (fN (by omega))) (fN (by omega))) aF ⟨by omega,?_,?_⟩;·rw[j7 e];exact SlS.put L (by rw[akI,aO];exact c1) c2 (by rw[akI,aO]) (g.upd aN (fF e) (by rw[aO];exact aA.aI) rfl fun j p q W=>aA.aB p)
  ·exact fun j p q=>(aA.aB (fun h=>q (by rw[h];exact g.self))).trans (n j p q)
 ·repeat' first|apply vI<;>(simp only[go_sem])|apply vF (by omega)|fail
  have r:u=l.length:=by omega
  subst r;rw[lW] at b;exact A _ _ _ _ _ (.inr rfl) rfl (h _ _ (by omega) b n)
theorem I9{l:List eZ}{F:Nat->Prop}(t: ∀j,F j->j<nx)(hs:SlS 3 (cY eCJ) H d l F)(y:l.length<2^21)(S:0<=k)(T:k+total gC l<2^62)
 (h: ∀H' nx',nx<=nx'->SlS 3 (cY eCJ) H' d (marks gC bj k l) F->(∀j,j<nx->¬F j->H' j=H j)->K (dI (k+total gC l)) H' nx'):an3 o7 [.one (.c d),dI k] H nx K:=by
 obtain⟨v,id,off,cap,rfl⟩:=hs.form
 have z:=hs.IF t
 have A:l.length<2^21:=y
 refine bA.mk Tryz.func241 (by kernel_rfl) UB rfl fun Q B=> ?_
 unfold nE
 repeat' first|apply vI<;>(simp only[go_sem])|fail
 refine aH.cE (β:=Nat) (fun u=>en [(5,dI u),(1,dI (k+uY gC l u)),(0,.one (.c (.osl v id off l.length cap)))]) (fun u H1 U=>u<=l.length/\SlS 3 (cY eCJ) H1 (.osl v id off l.length cap) (mixed gC bj k u l) F/\ ∀j,j<nx->¬F j->H1 j=H j) (fun u=>l.length-u) 0 ⟨noF,_,aT (aT (aT eR (lM (lS (by omega)))) (fN (by rw[lZ];omega))) (aD rfl),aF,akV _,hs,fun _ _ _=>rfl⟩ ?_
 rintro u H1 C D ⟨hu,b,o⟩ V p
 by_cases a:u<l.length
 ·obtain⟨x,e⟩: ∃x,l[u]?=some x:=⟨_,akD a⟩
  have E:x∈l:=akF e;have I:gC x=3:=rfl;have J:=jT (sz:=gC) e;have L:=vW (sz:=gC) e;rw[I] at J L;obtain⟨⟨rfl,rfl⟩,m,f,G,c1,c2,M,g⟩:=b.get (i:=u) (by rw[aO];exact a);rw[aO] at c1;have w:=g.blk;rw[aO] at w;have N: ∀f,(rng l.length f)[u]?=some (f u):=fun f=>fS a;have O:id<nx:=t id g.self;have W: ∀j,G u j->F j/\j≠id:=fun j P=>g.sub u j (by rw[aO];exact a) P;have R:f u=[cI x.who,cI x.n,cI x.left]:=g.row u x (fF e);repeat' first|apply vI<;>(simp only[go_sem,w,R,N,bK,bP,aY,aZ,nL];try simp (disch:=omega) only[Iw])|apply vT (by omega)|refine⟨by omega,?_⟩|fail
  refine p _ _ _ (u+1) noF _ (by omega) (by omega) (aT (aT (aT eR (lM (lS (by omega)))) (fN (by omega))) (fN (by omega))) aF ⟨by omega,?_,?_⟩;·rw[j7 e];exact SlS.put M (by rw[akI,aO];exact c1) c2 (by rw[akI,aO]) (g.upd aN (fF e) (by rw[aO];exact aA.aI) rfl fun j q r X=>aA.aB q)
  ·exact fun j q r=>(aA.aB (fun h=>r (by rw[h];exact g.self))).trans (o j q r)
 ·repeat' first|apply vI<;>(simp only[go_sem])|apply vF (by omega)|fail
  have s:u=l.length:=by omega
  subst s;rw[lW] at b;exact B _ _ _ _ _ (.inr rfl) rfl (h _ _ (by omega) b o)
theorem Gn{l:List Ev}{F:Nat->Prop}(t: ∀j,F j->j<nx)(hs:SlS 3 (cY eEv) H d l F)(y:l.length<2^21)(S:0<=k)(T:k+total eB l<2^62)
 (h: ∀H' nx',nx<=nx'->SlS 3 (cY eEv) H' d (marks eB rG k l) F->(∀j,j<nx->¬F j->H' j=H j)->K (dI (k+total eB l)) H' nx'):an3 DN [.one (.c d),dI k] H nx K:=by
 obtain⟨v,id,off,cap,rfl⟩:=hs.form
 have z:=hs.IF t
 have A:l.length<2^21:=y
 refine bA.mk Tryz.func62 (by kernel_rfl) P3 rfl fun Q B=> ?_
 unfold lF
 repeat' first|apply vI<;>(simp only[go_sem])|fail
 refine aH.cE (β:=Nat) (fun u=>en [(5,dI u),(1,dI (k+uY eB l u)),(0,.one (.c (.osl v id off l.length cap)))]) (fun u H1 U=>u<=l.length/\SlS 3 (cY eEv) H1 (.osl v id off l.length cap) (mixed eB rG k u l) F/\ ∀j,j<nx->¬F j->H1 j=H j) (fun u=>l.length-u) 0 ⟨noF,_,aT (aT (aT eR (lM (lS (by omega)))) (fN (by rw[lZ];omega))) (aD rfl),aF,akV _,hs,fun _ _ _=>rfl⟩ ?_
 rintro u H1 C D ⟨hu,b,o⟩ V p
 by_cases a:u<l.length
 ·obtain⟨x,e⟩: ∃x,l[u]?=some x:=⟨_,akD a⟩
  have E:x∈l:=akF e;have I:eB x=3:=rfl;have J:=jT (sz:=eB) e;have L:=vW (sz:=eB) e;rw[I] at J L;obtain⟨⟨rfl,rfl⟩,m,f,G,c1,c2,M,g⟩:=b.get (i:=u) (by rw[aO];exact a);rw[aO] at c1;have w:=g.blk;rw[aO] at w;have N: ∀f,(rng l.length f)[u]?=some (f u):=fun f=>fS a;have O:id<nx:=t id g.self;have W: ∀j,G u j->F j/\j≠id:=fun j P=>g.sub u j (by rw[aO];exact a) P;have R:f u=[cI x.kind,cI x.who,cI x.n]:=g.row u x (fF e);repeat' first|apply vI<;>(simp only[go_sem,w,R,N,bK,bP,aY,aZ,nL];try simp (disch:=omega) only[Iw])|apply vT (by omega)|refine⟨by omega,?_⟩|fail
  refine p _ _ _ (u+1) noF _ (by omega) (by omega) (aT (aT (aT eR (lM (lS (by omega)))) (fN (by omega))) (fN (by omega))) aF ⟨by omega,?_,?_⟩;·rw[j7 e];exact SlS.put M (by rw[akI,aO];exact c1) c2 (by rw[akI,aO]) (g.upd aN (fF e) (by rw[aO];exact aA.aI) rfl fun j q r X=>aA.aB q)
  ·exact fun j q r=>(aA.aB (fun h=>r (by rw[h];exact g.self))).trans (o j q r)
 ·repeat' first|apply vI<;>(simp only[go_sem])|apply vF (by omega)|fail
  have s:u=l.length:=by omega
  subst s;rw[lW] at b;exact B _ _ _ _ _ (.inr rfl) rfl (h _ _ (by omega) b o)
theorem WM{l:List Req}{F:Nat->Prop}(n: ∀j,F j->j<nx)(hs:SlS 7 GX H d l F)(M:oM (l4 (2^21)) (2^21) l)(hk:0<=k)(ht:k+total tG l<2^62)
 (h: ∀H' nx',nx<=nx'->SlS 7 GX H' d (marks tG xh k l) F->(∀j,j<nx->¬F j->H' j=H j)->K (dI (k+total tG l)) H' nx'):an3 wY [.one (.c d),dI k] H nx K:=by
 obtain⟨N,id,off,cap,rfl⟩:=hs.form
 have S:=hs.IF n
 have T:l.length<2^21:=M.1
 refine bA.mk Tryz.func176 (by kernel_rfl) T3 rfl fun Q U=> ?_
 unfold nJ
 repeat' first|apply vI<;>(simp only[go_sem])|fail
 refine aH.cE (β:=Nat) (fun u=>en [(5,dI u),(1,dI (k+uY tG l u)),(0,.one (.c (.osl N id off l.length cap)))]) (fun u H1 n1=>u<=l.length/\SlS 7 GX H1 (.osl N id off l.length cap) (mixed tG xh k u l) F/\ ∀j,j<nx->¬F j->H1 j=H j) (fun u=>l.length-u) 0 ⟨noF,_,aT (aT (aT eR (lM (lS (by omega)))) (fN (by rw[lZ];omega))) (aD rfl),aF,akV _,hs,fun _ _ _=>rfl⟩ ?_
 rintro u H1 V W ⟨hu,o,s⟩ KL z
 by_cases g:u<l.length
 ·obtain⟨x,q⟩: ∃x,l[u]?=some x:=⟨_,akD g⟩
  have A:x∈l:=akF q;have X:tG x=5+total eU x.data+total eU x.lanes:=rfl;have Y:=jT (sz:=tG) q;have Z:=vW (sz:=tG) q;rw[X] at Y Z;obtain⟨B,C⟩:=M.2 x A;obtain⟨⟨rfl,rfl⟩,m,f,G,c1,c2,c3,r⟩:=o.get (i:=u) (by rw[aO];exact g);rw[aO] at c1;have O:=r.blk;rw[aO] at O;have t: ∀f,(rng l.length f)[u]?=some (f u):=fun f=>fS g;have aa:id<nx:=n id r.self;have P: ∀j,G u j->F j/\j≠id:=fun j a=>r.sub u j (by rw[aO];exact g) a;obtain⟨d1,d2,F1,F2,w1,b⟩:=r.row u x (fF q);have s1:=b.s1;have v1: ∀j,F1 j->F j/\j≠id:=fun j a=>P j (b.u1 j a);have s2:=b.s2;have v2: ∀j,F2 j->F j/\j≠id:=fun j a=>P j (b.u2 j a);repeat' first| (first|apply vI| (refine j8 (F:=F1) (fun j a=>by have:=n j (v1 j a).1;omega) (s1.frame aN fun j a=>aA.aB (v1 j a).2) B (by omega) (by omega) (fun H2 ab ad D R=> ?_)))<;>(simp only[go_sem,O,w1,t,bK,bP,aY,aZ,nL];try simp (disch:=omega) only[Iw])|apply vT (by omega)|refine⟨by omega,?_⟩|fail
  have E:=(R id (by omega) (fun h=>(v1 id h).2 rfl)).trans aA.aI;have v: ∀j,j<nx->j≠id->¬F1 j->H2 j=H1 j:=fun j p e y=>(R j (by omega) y).trans (aA.aB e);(try simp only[go_sem,nL,E,t,bK,bP,aY,aZ,nL]);repeat' first| (first|apply vI| (refine j8 (F:=F2) (fun j a=>by have:=n j (v2 j a).1;omega) (s2.frame aN fun j a=>v j (by have:=n j (v2 j a).1;omega) (v2 j a).2 (fun h=>b.x12 j h a)) C (by omega) (by omega) (fun H3 ao az t2 I=> ?_)))<;>(simp only[go_sem,nL,E,t,bK,bP,aY,aZ,nL];try simp (disch:=omega) only[Iw])|fail
  have J:=(I id (by omega) (fun h=>(v2 id h).2 rfl)).trans E;have w: ∀j,j<nx->j≠id->¬F1 j->¬F2 j->H3 j=H1 j:=fun j p e g1 g2=>((I j (by omega) g2)).trans (v j p e g1);replace D:=D.frame aN fun j a=>(I j (by have:=n j (v1 j a).1;omega) (fun h=>b.x12 j a h))
  (try simp only[go_sem,nL,J,t,bK,bP,aY,aZ,nL]);repeat' first|apply vI<;>(simp only[go_sem,nL,J,t,bK,bP,aY,aZ,nL])|fail
  refine z _ _ _ (u+1) noF _ (by omega) (by omega) (aT (aT (aT eR (lM (lS (by omega)))) (fN (by omega))) (fN (by omega))) aF ⟨by omega,?_,?_⟩;·rw[j7 q];exact SlS.put c3 (by rw[akI,aO];exact c1) c2 (by rw[akI,aO]) (r.upd DS (fF q) (by rw[aO];exact J) (⟨d1,d2,F1,F2,rfl,⟨D,t2,b.u1,b.u2,b.x12⟩⟩) fun j p e y=>w j (n j e) p (fun h=>y (b.u1 j h)) (fun h=>y (b.u2 j h)))
  ·exact fun j p e=>(w j p (fun h=>e (by rw[h];exact r.self)) (fun h=>e (v1 j h).1) (fun h=>e (v2 j h).1)).trans (s j p e)
 ·repeat' first|apply vI<;>(simp only[go_sem])|apply vF (by omega)|fail
  have L:u=l.length:=by omega
  subst L;rw[lW] at o;exact U _ _ _ _ _ (.inr rfl) rfl (h _ _ (by omega) o s)
theorem UN{l:List (List Req)}{F:Nat->Prop}(r: ∀j,F j->j<nx)(hs:SlS 1 EC H d l F)(E:oM (wR (2^21)) (2^21) l)(hk:0<=k)(ht:k+total mN l<2^62)
 (h: ∀H' nx',nx<=nx'->SlS 1 EC H' d (marks mN fc k l) F->(∀j,j<nx->¬F j->H' j=H j)->K (dI (k+total mN l)) H' nx'):an3 uD [.one (.c d),dI k] H nx K:=by
 obtain⟨I,id,off,cap,rfl⟩:=hs.form
 have L:=hs.IF r
 have M:l.length<2^21:=E.1
 refine bA.mk Tryz.func88 (by kernel_rfl) S4 rfl fun Q N=> ?_
 unfold mL
 repeat' first|apply vI<;>(simp only[go_sem])|fail
 refine aH.cE (β:=Nat) (fun u=>en [(5,dI u),(1,dI (k+uY mN l u)),(0,.one (.c (.osl I id off l.length cap)))]) (fun u H1 n1=>u<=l.length/\SlS 1 EC H1 (.osl I id off l.length cap) (mixed mN fc k u l) F/\ ∀j,j<nx->¬F j->H1 j=H j) (fun u=>l.length-u) 0 ⟨noF,_,aT (aT (aT eR (lM (lS (by omega)))) (fN (by rw[lZ];omega))) (aD rfl),aF,akV _,hs,fun _ _ _=>rfl⟩ ?_
 rintro u H1 O P ⟨hu,b,o⟩ KL t
 by_cases a:u<l.length
 ·obtain⟨x,e⟩: ∃x,l[u]?=some x:=⟨_,akD a⟩
  have v:x∈l:=akF e;have R:mN x=total tG x:=rfl;have S:=jT (sz:=mN) e;have T:=vW (sz:=mN) e;rw[R] at S T;have w:oM (l4 (2^21)) (2^21) x:=E.2 x v;obtain⟨⟨rfl,rfl⟩,m,f,G,c1,c2,U,g⟩:=b.get (i:=u) (by rw[aO];exact a);rw[aO] at c1;have y:=g.blk;rw[aO] at y;have z: ∀f,(rng l.length f)[u]?=some (f u):=fun f=>fS a;have V:id<nx:=r id g.self;have W: ∀j,G u j->F j/\j≠id:=fun j A=>g.sub u j (by rw[aO];exact a) A;obtain⟨d1,s,s1⟩:=g.row u x (fF e);have v1:=W;repeat' first| (first|apply vI| (refine WM (F:=G u) (fun j A=>by have:=r j (v1 j A).1;omega) (s1) w (by omega) (by omega) (fun H2 X Y Z J=> ?_)))<;>(simp only[go_sem,y,s,z,bK,bP,aY,aZ,nL];try simp (disch:=omega) only[Iw])|apply vT (by omega)|refine⟨by omega,?_⟩|fail
  have B:=(J id (by omega) (fun h=>(v1 id h).2 rfl)).trans y;have p: ∀j,j<nx->j≠id->¬G u j->H2 j=H1 j:=fun j q n C=>(J j (by omega) C)
  (try simp only[go_sem,nL,B,s,z,bK,bP,aY,aZ,nL]);repeat' first|apply vI<;>(simp only[go_sem,nL,B,s,z,bK,bP,aY,aZ,nL])|fail
  refine t _ _ _ (u+1) noF _ (by omega) (by omega) (aT (aT (aT eR (lM (lS (by omega)))) (fN (by omega))) (fN (by omega))) aF ⟨by omega,?_,?_⟩;·rw[j7 e];exact SlS.put U (by rw[akI,aO];exact c1) c2 (by rw[akI,aO]) (g.upd yH (fF e) (by rw[aO];exact B.trans (by congr 2;exact Zz fun i _=>(Cu i s).symm)) (⟨d1,rfl,Z⟩) fun j q n C=>p j (r j n) q C)
  ·exact fun j q n=>(p j q (fun h=>n (by rw[h];exact g.self)) (fun h=>n (v1 j h).1)).trans (o j q n)
 ·repeat' first|apply vI<;>(simp only[go_sem])|apply vF (by omega)|fail
  have D:u=l.length:=by omega
  subst D;rw[lW] at b;exact N _ _ _ _ _ (.inr rfl) rfl (h _ _ (by omega) b o)
theorem IC{l:List Job}{F:Nat->Prop}(s: ∀j,F j->j<nx)(hs:SlS 5 DM H d l F)(C:oM (iQ (2^21)) (2^21) l)(hk:0<=k)(ht:k+total gQ l<2^62)
 (h: ∀H' nx',nx<=nx'->SlS 5 DM H' d (marks gQ ZV k l) F->(∀j,j<nx->¬F j->H' j=H j)->K (dI (k+total gQ l)) H' nx'):an3 oY [.one (.c d),dI k] H nx K:=by
 obtain⟨D,id,off,cap,rfl⟩:=hs.form
 have J:=hs.IF s
 have L:l.length<2^21:=C.1
 refine bA.mk Tryz.func156 (by kernel_rfl) UJ rfl fun Q M=> ?_
 unfold nG
 repeat' first|apply vI<;>(simp only[go_sem])|fail
 refine aH.cE (β:=Nat) (fun u=>en [(5,dI u),(1,dI (k+uY gQ l u)),(0,.one (.c (.osl D id off l.length cap)))]) (fun u H1 n1=>u<=l.length/\SlS 5 DM H1 (.osl D id off l.length cap) (mixed gQ ZV k u l) F/\ ∀j,j<nx->¬F j->H1 j=H j) (fun u=>l.length-u) 0 ⟨noF,_,aT (aT (aT eR (lM (lS (by omega)))) (fN (by rw[lZ];omega))) (aD rfl),aF,akV _,hs,fun _ _ _=>rfl⟩ ?_
 rintro u H1 N O ⟨hu,b,o⟩ KL t
 by_cases a:u<l.length
 ·obtain⟨x,g⟩: ∃x,l[u]?=some x:=⟨_,akD a⟩
  have v:x∈l:=akF g;have P:gQ x=4+total eU x.rsp.data:=rfl;have R:=jT (sz:=gQ) g;have S:=vW (sz:=gQ) g;rw[P] at R S;have w:x.rsp.data.length<2^21:=C.2 x v;obtain⟨⟨rfl,rfl⟩,m,f,G,c1,c2,T,n⟩:=b.get (i:=u) (by rw[aO];exact a);rw[aO] at c1;have E:=n.blk;rw[aO] at E;have y: ∀f,(rng l.length f)[u]?=some (f u):=fun f=>fS a;have U:id<nx:=s id n.self;have V: ∀j,G u j->F j/\j≠id:=fun j p=>n.sub u j (by rw[aO];exact a) p;obtain⟨d1,W,s1⟩:=n.row u x (fF g);have v1:=V;repeat' first| (first|apply vI| (refine j8 (F:=G u) (fun j p=>by have:=s j (v1 j p).1;omega) (s1.frame aN fun j p=>aA.aB (v1 j p).2) w (by omega) (by omega) (fun H2 X Y Z I=> ?_)))<;>(simp only[go_sem,E,W,y,bK,bP,aY,aZ,nL];try simp (disch:=omega) only[Iw])|apply vT (by omega)|refine⟨by omega,?_⟩|fail
  have z:=(I id (by omega) (fun h=>(v1 id h).2 rfl)).trans aA.aI;have q: ∀j,j<nx->j≠id->¬G u j->H2 j=H1 j:=fun j r e A=>(I j (by omega) A).trans (aA.aB e);(try simp only[go_sem,nL,z,y,bK,bP,aY,aZ,nL]);repeat' first|apply vI<;>(simp only[go_sem,nL,z,y,bK,bP,aY,aZ,nL])|fail
  refine t _ _ _ (u+1) noF _ (by omega) (by omega) (aT (aT (aT eR (lM (lS (by omega)))) (fN (by omega))) (fN (by omega))) aF ⟨by omega,?_,?_⟩;·rw[j7 g];exact SlS.put T (by rw[akI,aO];exact c1) c2 (by rw[akI,aO]) (n.upd kP (fF g) (by rw[aO];exact z) (⟨d1,rfl,Z⟩) fun j r e A=>q j (s j e) r A)
  ·exact fun j r e=>(q j r (fun h=>e (by rw[h];exact n.self)) (fun h=>e (v1 j h).1)).trans (o j r e)
 ·repeat' first|apply vI<;>(simp only[go_sem])|apply vF (by omega)|fail
  have B:u=l.length:=by omega
  subst B;rw[lW] at b;exact M _ _ _ _ _ (.inr rfl) rfl (h _ _ (by omega) b o)
theorem UO{l:List cJ}{F:Nat->Prop}(o: ∀j,F j->j<nx)(hs:SlS 4 yJ H d l F)(L:oM (kX (2^21)) (2^21) l)(hk:0<=k)(ht:k+total gW l<2^62)
 (h: ∀H' nx',nx<=nx'->SlS 4 yJ H' d (marks gW kq k l) F->(∀j,j<nx->¬F j->H' j=H j)->K (dI (k+total gW l)) H' nx'):an3 tZ [.one (.c d),dI k] H nx K:=by
 obtain⟨M,id,off,cap,rfl⟩:=hs.form
 have S:=hs.IF o
 have T:l.length<2^21:=L.1
 refine bA.mk Tryz.func154 (by kernel_rfl) Q2 rfl fun Q U=> ?_
 unfold mG
 repeat' first|apply vI<;>(simp only[go_sem])|fail
 refine aH.cE (β:=Nat) (fun u=>en [(5,dI u),(1,dI (k+uY gW l u)),(0,.one (.c (.osl M id off l.length cap)))]) (fun u H1 n1=>u<=l.length/\SlS 4 yJ H1 (.osl M id off l.length cap) (mixed gW kq k u l) F/\ ∀j,j<nx->¬F j->H1 j=H j) (fun u=>l.length-u) 0 ⟨noF,_,aT (aT (aT eR (lM (lS (by omega)))) (fN (by rw[lZ];omega))) (aD rfl),aF,akV _,hs,fun _ _ _=>rfl⟩ ?_
 rintro u H1 V W ⟨hu,p,s⟩ KL z
 by_cases g:u<l.length
 ·obtain⟨x,r⟩: ∃x,l[u]?=some x:=⟨_,akD g⟩
  have A:x∈l:=akF r;have X:gW x=2+total eU x.queue+total gC x.out:=rfl;have Y:=jT (sz:=gW) r;have Z:=vW (sz:=gW) r;rw[X] at Y Z;obtain⟨B,C⟩:=L.2 x A;obtain⟨⟨rfl,rfl⟩,m,f,G,c1,c2,c3,q⟩:=p.get (i:=u) (by rw[aO];exact g);rw[aO] at c1;have N:=q.blk;rw[aO] at N;have t: ∀f,(rng l.length f)[u]?=some (f u):=fun f=>fS g;have aa:id<nx:=o id q.self;have O: ∀j,G u j->F j/\j≠id:=fun j a=>q.sub u j (by rw[aO];exact g) a;obtain⟨d1,d2,F1,F2,w1,b⟩:=q.row u x (fF r);have s1:=b.s1;have v1: ∀j,F1 j->F j/\j≠id:=fun j a=>O j (b.u1 j a);have s2:=b.s2;have v2: ∀j,F2 j->F j/\j≠id:=fun j a=>O j (b.u2 j a);repeat' first| (first|apply vI| (refine j8 (F:=F1) (fun j a=>by have:=o j (v1 j a).1;omega) (s1.frame aN fun j a=>aA.aB (v1 j a).2) B (by omega) (by omega) (fun H2 ab ad D P=> ?_)))<;>(simp only[go_sem,N,w1,t,bK,bP,aY,aZ,nL];try simp (disch:=omega) only[Iw])|apply vT (by omega)|refine⟨by omega,?_⟩|fail
  have E:=(P id (by omega) (fun h=>(v1 id h).2 rfl)).trans aA.aI;have v: ∀j,j<nx->j≠id->¬F1 j->H2 j=H1 j:=fun j n e y=>(P j (by omega) y).trans (aA.aB e);(try simp only[go_sem,nL,E,t,bK,bP,aY,aZ,nL]);repeat' first| (first|apply vI| (refine I9 (F:=F2) (fun j a=>by have:=o j (v2 j a).1;omega) (s2.frame aN fun j a=>v j (by have:=o j (v2 j a).1;omega) (v2 j a).2 (fun h=>b.x12 j h a)) C (by omega) (by omega) (fun H3 ao az t2 I=> ?_)))<;>(simp only[go_sem,nL,E,t,bK,bP,aY,aZ,nL])|refine⟨by omega,?_⟩|fail
  have R:=(I id (by omega) (fun h=>(v2 id h).2 rfl)).trans E;have w: ∀j,j<nx->j≠id->¬F1 j->¬F2 j->H3 j=H1 j:=fun j n e g1 g2=>((I j (by omega) g2)).trans (v j n e g1);replace D:=D.frame aN fun j a=>(I j (by have:=o j (v1 j a).1;omega) (fun h=>b.x12 j a h))
  (try simp only[go_sem,nL,R,t,bK,bP,aY,aZ,nL]);repeat' first|apply vI<;>(simp only[go_sem,nL,R,t,bK,bP,aY,aZ,nL];try simp (disch:=omega) only[Iw])|fail
  refine z _ _ _ (u+1) noF _ (by omega) (by omega) (aT (aT (aT eR (lM (lS (by omega)))) (fN (by omega))) (fN (by omega))) aF ⟨by omega,?_,?_⟩;·rw[j7 r];exact SlS.put c3 (by rw[akI,aO];exact c1) c2 (by rw[akI,aO]) (q.upd iZ (fF r) (by rw[aO];exact aA.aI) (⟨d1,d2,F1,F2,rfl,⟨(D.frame aN fun j a=>aA.aB (v1 j a).2),(t2.frame aN fun j a=>aA.aB (v2 j a).2),b.u1,b.u2,b.x12⟩⟩) fun j n e y=>(aA.aB n).trans (w j (o j e) n (fun h=>y (b.u1 j h)) (fun h=>y (b.u2 j h))))
  ·exact fun j n e=>((aA.aB (fun h=>e (by rw[h];exact q.self))).trans (w j n (fun h=>e (by rw[h];exact q.self)) (fun h=>e (v1 j h).1) (fun h=>e (v2 j h).1))).trans (s j n e)
 ·repeat' first|apply vI<;>(simp only[go_sem])|apply vF (by omega)|fail
  have J:u=l.length:=by omega
  subst J;rw[lW] at p;exact U _ _ _ _ _ (.inr rfl) rfl (h _ _ (by omega) p s)
theorem R7{l:List lR}{F:Nat->Prop}(o: ∀j,F j->j<nx)(hs:SlS 3 tE H d l F)(N:oM (jK (2^21)) (2^21) l)(hk:0<=k)(ht:k+total fX l<2^62)
 (h: ∀H' nx',nx<=nx'->SlS 3 tE H' d (marks fX YA k l) F->(∀j,j<nx->¬F j->H' j=H j)->K (dI (k+total fX l)) H' nx'):an3 rA [.one (.c d),dI k] H nx K:=by
 obtain⟨O,id,off,cap,rfl⟩:=hs.form
 have T:=hs.IF o
 have U:l.length<2^21:=N.1
 refine bA.mk Tryz.func155 (by kernel_rfl) PY rfl fun Q V=> ?_
 unfold lD
 repeat' first|apply vI<;>(simp only[go_sem])|fail
 refine aH.cE (β:=Nat) (fun u=>en [(5,dI u),(1,dI (k+uY fX l u)),(0,.one (.c (.osl O id off l.length cap)))]) (fun u H1 n1=>u<=l.length/\SlS 3 tE H1 (.osl O id off l.length cap) (mixed fX YA k u l) F/\ ∀j,j<nx->¬F j->H1 j=H j) (fun u=>l.length-u) 0 ⟨noF,_,aT (aT (aT eR (lM (lS (by omega)))) (fN (by rw[lZ];omega))) (aD rfl),aF,akV _,hs,fun _ _ _=>rfl⟩ ?_
 rintro u H1 W X ⟨hu,p,s⟩ KL A
 by_cases g:u<l.length
 ·obtain⟨x,r⟩: ∃x,l[u]?=some x:=⟨_,akD g⟩
  have B:x∈l:=akF r;have Y:fX x=1+total gC x.pipe+total gQ x.done:=rfl;have Z:=jT (sz:=fX) r;have e2:=vW (sz:=fX) r;rw[Y] at Z e2;obtain⟨C,D⟩:=N.2 x B;obtain⟨⟨rfl,rfl⟩,m,f,G,c1,c2,c3,q⟩:=p.get (i:=u) (by rw[aO];exact g);rw[aO] at c1;have E:=q.blk;rw[aO] at E;have t: ∀f,(rng l.length f)[u]?=some (f u):=fun f=>fS g;have aa:id<nx:=o id q.self;have P: ∀j,G u j->F j/\j≠id:=fun j a=>q.sub u j (by rw[aO];exact g) a;obtain⟨d1,d2,F1,F2,v,b⟩:=q.row u x (fF r);have s1:=b.s1;have v1: ∀j,F1 j->F j/\j≠id:=fun j a=>P j (b.u1 j a);have s2:=b.s2;have v2: ∀j,F2 j->F j/\j≠id:=fun j a=>P j (b.u2 j a);repeat' first| (first|apply vI| (refine I9 (F:=F1) (fun j a=>by have:=o j (v1 j a).1;omega) (s1) C (by omega) (by omega) (fun H2 ab ad I R=> ?_)))<;>(simp only[go_sem,E,v,t,bK,bP,aY,aZ,nL])|apply vT (by omega)|refine⟨by omega,?_⟩|fail
  have J:=(R id (by omega) (fun h=>(v1 id h).2 rfl)).trans E;have w: ∀j,j<nx->j≠id->¬F1 j->H2 j=H1 j:=fun j n e z=>(R j (by omega) z)
  (try simp only[go_sem,nL,J,v,t,bK,bP,aY,aZ,nL]);repeat' first| (first|apply vI| (refine IC (F:=F2) (fun j a=>by have:=o j (v2 j a).1;omega) (s2.frame kP fun j a=>w j (by have:=o j (v2 j a).1;omega) (v2 j a).2 (fun h=>b.x12 j h a)) D (by omega) (by omega) (fun H3 ao az t2 L=> ?_)))<;>(simp only[go_sem,nL,J,v,t,bK,bP,aY,aZ,nL])|refine⟨by omega,?_⟩|fail
  have S:=(L id (by omega) (fun h=>(v2 id h).2 rfl)).trans J;have y: ∀j,j<nx->j≠id->¬F1 j->¬F2 j->H3 j=H1 j:=fun j n e g1 g2=>((L j (by omega) g2)).trans (w j n e g1);replace I:=I.frame aN fun j a=>(L j (by have:=o j (v1 j a).1;omega) (fun h=>b.x12 j a h))
  (try simp only[go_sem,nL,S,v,t,bK,bP,aY,aZ,nL]);repeat' first|apply vI<;>(simp only[go_sem,nL,S,v,t,bK,bP,aY,aZ,nL];try simp (disch:=omega) only[Iw])|fail
  refine A _ _ _ (u+1) noF _ (by omega) (by omega) (aT (aT (aT eR (lM (lS (by omega)))) (fN (by omega))) (fN (by omega))) aF ⟨by omega,?_,?_⟩;·rw[j7 r];exact SlS.put c3 (by rw[akI,aO];exact c1) c2 (by rw[akI,aO]) (q.upd kN (fF r) (by rw[aO];exact aA.aI) (⟨d1,d2,F1,F2,rfl,⟨(I.frame aN fun j a=>aA.aB (v1 j a).2),(t2.frame kP fun j a=>aA.aB (v2 j a).2),b.u1,b.u2,b.x12⟩⟩) fun j n e z=>(aA.aB n).trans (y j (o j e) n (fun h=>z (b.u1 j h)) (fun h=>z (b.u2 j h))))
  ·exact fun j n e=>((aA.aB (fun h=>e (by rw[h];exact q.self))).trans (y j n (fun h=>e (by rw[h];exact q.self)) (fun h=>e (v1 j h).1) (fun h=>e (v2 j h).1))).trans (s j n e)
 ·repeat' first|apply vI<;>(simp only[go_sem])|apply vF (by omega)|fail
  have M:u=l.length:=by omega
  subst M;rw[lW] at p;exact V _ _ _ _ _ (.inr rfl) rfl (h _ _ (by omega) p s)
theorem Qp{l:List CIn}{F:Nat->Prop}(g: ∀j,F j->j<nx)(hs:SlS 3 E4 H d l F)(Z:oM (kW (2^21)) (2^21) l)(hk:0<=k)(ht:k+total BQ l<2^62)
 (h: ∀H' nx',nx<=nx'->SlS 3 E4 H' d (marks BQ En k l) F->(∀j,j<nx->¬F j->H' j=H j)->K (dI (k+total BQ l)) H' nx'):an3 JK [.one (.c d),dI k] H nx K:=by
 obtain⟨n0,id,off,cap,rfl⟩:=hs.form
 have aa:=hs.IF g
 have ab:l.length<2^21:=Z.1
 refine bA.mk Tryz.func23 (by kernel_rfl) YL rfl fun Q hQ=> ?_
 unfold oB
 repeat' first|apply vI<;>(simp only[go_sem])|fail
 refine aH.cE (β:=Nat) (fun u=>en [(5,dI u),(1,dI (k+uY BQ l u)),(0,.one (.c (.osl n0 id off l.length cap)))]) (fun u H1 n1=>u<=l.length/\SlS 3 E4 H1 (.osl n0 id off l.length cap) (mixed BQ En k u l) F/\ ∀j,j<nx->¬F j->H1 j=H j) (fun u=>l.length-u) 0 ⟨noF,_,aT (aT (aT eR (lM (lS (by omega)))) (fN (by rw[lZ];omega))) (aD rfl),aF,akV _,hs,fun _ _ _=>rfl⟩ ?_
 rintro u H1 ad ao ⟨hu,q,v⟩ KL I
 by_cases n:u<l.length
 ·obtain⟨x,s⟩: ∃x,l[u]?=some x:=⟨_,akD n⟩
  have J:x∈l:=akF s;have hz:BQ x=total l6 x.ready+total l6 x.iP+total l6 x.send:=rfl;have e1:=jT (sz:=BQ) s;have e2:=vW (sz:=BQ) s;rw[hz] at e1 e2;obtain⟨L,M,N⟩:=Z.2 x J;obtain⟨⟨rfl,rfl⟩,m,f,G,c1,c2,c3,t⟩:=q.get (i:=u) (by rw[aO];exact n);rw[aO] at c1;have O:=t.blk;rw[aO] at O;have r: ∀f,(rng l.length f)[u]?=some (f u):=fun f=>fS n;have az:id<nx:=g id t.self;have P: ∀j,G u j->F j/\j≠id:=fun j a=>t.sub u j (by rw[aO];exact n) a;obtain⟨d1,d2,d3,F1,F2,D,p,b⟩:=t.row u x (fF s);have s1:=b.s1;have v1: ∀j,F1 j->F j/\j≠id:=fun j a=>P j (b.u1 j a);have s2:=b.s2;have v2: ∀j,F2 j->F j/\j≠id:=fun j a=>P j (b.u2 j a);have s3:=b.s3;have w: ∀j,D j->F j/\j≠id:=fun j a=>P j (b.u3 j a);repeat' first| (first|apply vI| (refine kR (F:=F1) (fun j a=>by have:=g j (v1 j a).1;omega) (s1) L (by omega) (by omega) (fun H2 br ca y f2=> ?_)))<;>(simp only[go_sem,O,p,r,bK,bP,aY,aZ,nL])|apply vT (by omega)|refine⟨by omega,?_⟩|fail
  have R:=(f2 id (by omega) (fun h=>(v1 id h).2 rfl)).trans O;have z: ∀j,j<nx->j≠id->¬F1 j->H2 j=H1 j:=fun j o e A=>(f2 j (by omega) A)
  (try simp only[go_sem,nL,R,p,r,bK,bP,aY,aZ,nL]);repeat' first| (first|apply vI| (refine kR (F:=F2) (fun j a=>by have:=g j (v2 j a).1;omega) (s2.frame aN fun j a=>z j (by have:=g j (v2 j a).1;omega) (v2 j a).2 (fun h=>b.x12 j h a)) M (by omega) (by omega) (fun H3 cc cd S T=> ?_)))<;>(simp only[go_sem,nL,R,p,r,bK,bP,aY,aZ,nL])|refine⟨by omega,?_⟩|fail
  have U:=(T id (by omega) (fun h=>(v2 id h).2 rfl)).trans R;have B: ∀j,j<nx->j≠id->¬F1 j->¬F2 j->H3 j=H1 j:=fun j o e V W=>((T j (by omega) W)).trans (z j o e V);replace y:=y.frame aN fun j a=>(T j (by have:=g j (v1 j a).1;omega) (fun h=>b.x12 j a h))
  (try simp only[go_sem,nL,U,p,r,bK,bP,aY,aZ,nL]);repeat' first| (first|apply vI| (refine kR (F:=D) (fun j a=>by have:=g j (w j a).1;omega) (s3.frame aN fun j a=>B j (by have:=g j (w j a).1;omega) (w j a).2 (fun h=>b.x13 j h a) (fun h=>b.x23 j h a)) N (by omega) (by omega) (fun H4 cf cl t3 E=> ?_)))<;>(simp only[go_sem,nL,U,p,r,bK,bP,aY,aZ,nL];try simp (disch:=omega) only[Iw])|fail
  have X:=(E id (by omega) (fun h=>(w id h).2 rfl)).trans U;have C: ∀j,j<nx->j≠id->¬F1 j->¬F2 j->¬D j->H4 j=H1 j:=fun j o e V W g3=>((E j (by omega) g3)).trans (B j o e V W);replace y:=y.frame aN fun j a=>(E j (by have:=g j (v1 j a).1;omega) (fun h=>b.x13 j a h))
  replace S:=S.frame aN fun j a=>(E j (by have:=g j (v2 j a).1;omega) (fun h=>b.x23 j a h))
  (try simp only[go_sem,nL,X,p,r,bK,bP,aY,aZ,nL]);repeat' first|apply vI<;>(simp only[go_sem,nL,X,p,r,bK,bP,aY,aZ,nL])|fail
  refine I _ _ _ (u+1) noF _ (by omega) (by omega) (aT (aT (aT eR (lM (lS (by omega)))) (fN (by omega))) (fN (by omega))) aF ⟨by omega,?_,?_⟩;·rw[j7 s];exact SlS.put c3 (by rw[akI,aO];exact c1) c2 (by rw[akI,aO]) (t.upd W0 (fF s) (by rw[aO];exact X.trans (by congr 2;exact Zz fun i _=>(Cu i p).symm)) (⟨d1,d2,d3,F1,F2,D,rfl,⟨y,S,t3,b.u1,b.u2,b.u3,b.x12,b.x13,b.x23⟩⟩) fun j o e A=>C j (g j e) o (fun h=>A (b.u1 j h)) (fun h=>A (b.u2 j h)) (fun h=>A (b.u3 j h)))
  ·exact fun j o e=>(C j o (fun h=>e (by rw[h];exact t.self)) (fun h=>e (v1 j h).1) (fun h=>e (v2 j h).1) (fun h=>e (w j h).1)).trans (v j o e)
 ·repeat' first|apply vI<;>(simp only[go_sem])|apply vF (by omega)|fail
  have Y:u=l.length:=by omega
  subst Y;rw[lW] at q;exact hQ _ _ _ _ _ (.inr rfl) rfl (h _ _ (by omega) q v)
end
end Go.Proofs.YtlncecohbakleaaGreat
