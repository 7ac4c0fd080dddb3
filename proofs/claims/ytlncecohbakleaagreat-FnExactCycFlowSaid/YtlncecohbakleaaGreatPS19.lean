/- Texts laid together by a program: rules, contracts and the walk that leads to the law. -/
import Derived.Test.YtlncecohbakleaaGreatPS16
import Derived.Test.YtlncecohbakleaaGreatPS17
set_option linter.unusedVariables false
set_option linter.unusedSimpArgs false
set_option linter.unusedSectionVars false
set_option maxRecDepth 100000
set_option maxHeartbeats 8000000
namespace Go.AM
structure bh6(s:CSt):Prop where
 pl:s.bM.length=3
 sl:s.dD.length=4
 w:s.words.length<=64
 h:s.holds.length<=6
 t:s.told.length<=36
 td: ∀j∈s.told,j.rsp.data.length<2^20
 port: ∀k,k<3->(aF s k).queue.length<=2/\(aF s k).out.length<=4
 slv: ∀k,k<4->(aL s k).pipe.length<=2/\(aL s k).done.length<=2/\ ∀j∈(aL s k).done,j.rsp.data.length<2^20
theorem COk.base{c:Cfg}{s:CSt}(e:aQ c)(h:COk c s):bh6 s:=by
 obtain⟨f,_,g,_⟩:=h.atm;have b:s.told.length<=36:=by have:=h.st.lens e;simp only[cX] at this;omega
 refine⟨h.pl,h.sl,by omega,by omega,b,fun j d=> ?_,fun k a=> ?_,fun k a=>⟨(h.slv k a).pl,(h.slv k a).dl,fun j d=> ?_⟩⟩;·have:=(h.st.R8 j (brH _ d)).1;unfold pA at this;omega
 ·have i:=(h.port k a).ql;have l:=(h.port k a).ol;omega
 ·have:=((h.slv k a).rsp j d).1;unfold pA at this;omega
structure bjY(s:CSt):Prop where
 pl:s.bM.length=3
 sl:s.dD.length=4
 w:s.words.length<=65
 h:s.holds.length<=6
 t:s.told.length<=37
 td: ∀j∈s.told,j.rsp.data.length<2^20
 port: ∀k,k<3->(aF s k).queue.length<=3/\(aF s k).out.length<=5
 slv: ∀k,k<4->(aL s k).pipe.length<=3/\(aL s k).done.length<=3/\ ∀j∈(aL s k).done,j.rsp.data.length<2^20
 qs:(aF s 0).queue.length+(aF s 1).queue.length+(aF s 2).queue.length<=7
theorem bj3{s:CSt}(a:s.bM.length=3)(b:s.dD.length=4):(qU s).length=(aF s 0).queue.length+(aF s 1).queue.length+(aF s 2).queue.length+((aL s 0).pipe.length+(aL s 1).pipe.length+(aL s 2).pipe.length+(aL s 3).pipe.length):=by unfold qU jJ hJ;rw[a,b];simp[brP];omega
theorem bjY.fit{s:CSt}(h:bjY s):beL s/\bdV s:=by
 have c:beL s:=by
  refine⟨by have:=h.w;omega,by have:=h.h;omega,by have:=h.t;omega,fun j d=>by have:=h.td j d;omega,by have:=h.pl;omega,by have:=h.sl;omega,fun k=> ?_,fun k=> ?_⟩
  ·by_cases a:k<3;·have:=h.port k a;omega
   ·have:aF s k=default:=(by unfold aF;rw[List.getD,Z3 (by have:=h.pl;omega)];rfl);rw[this];exact⟨by decide,by decide⟩
  ·by_cases a:k<4;·have:=h.slv k a;exact⟨by omega,by omega,fun j d=>by have:=this.2.2 j d;omega⟩
   ·have:aL s k=default:=(by unfold aL;rw[List.getD,Z3 (by have:=h.sl;omega)];rfl);rw[this];exact⟨by decide,by decide,fun j d=>by cases d⟩
 have e:=be0 (b:=3) (s:=s) (by have:=h.sl;omega) fun k a=>(h.slv k (by have:=h.sl;omega)).2.1;have hw:=bj3 h.pl h.sl;have q:=h.qs;have bqS:=(h.slv 0 (by omega)).1;have f:=(h.slv 1 (by omega)).1;have g:=(h.slv 2 (by omega)).1;have i:=(h.slv 3 (by omega)).1;exact⟨c,bfE c h.pl (by have:=h.sl;omega) (fun k a=>(h.port k a).1) (fun k a=>⟨(h.slv k (by have:=h.sl;omega)).1,(h.slv k (by have:=h.sl;omega)).2.1⟩) (by omega) (by omega)⟩
theorem bh6.bj4{s:CSt}(h:bh6 s):bjY s:=by have bqS:=(h.port 0 (by omega)).1;have b:=(h.port 1 (by omega)).1;have c:=(h.port 2 (by omega)).1;exact⟨h.pl,h.sl,by have:=h.w;omega,h.h,by have:=h.t;omega,h.td,fun k a=>by have:=h.port k a;omega,fun k a=>by have:=h.slv k a;exact⟨by omega,by omega,this.2.2⟩,by omega⟩
theorem bh6.drop{s:CSt}(h:bh6 s):beL {s with dD:=s.dD.drop 1}/\bdV {s with dD:=s.dD.drop 1}:=by
 have c: ∀k,aL {s with dD:=s.dD.drop 1} k=aL s (1+k):=fun k=>by unfold aL;simp only[List.getD,s5]
 have n:=h.bj4.fit.1;have b:beL {s with dD:=s.dD.drop 1}:=by refine⟨n.w,n.h,n.t,n.td,n.pl,by rw[CI];have:=n.sl;omega,n.port,fun k=> ?_⟩;rw[c];exact n.slv (1+k)
 have f:(s.dD.drop 1).length=3:=by rw[CI,h.sl]
 have d: ∀k,k<3->(aF {s with dD:=s.dD.drop 1} k).queue.length<=2:=fun k a=>(h.port k a).1;have hp: ∀k,k<(s.dD.drop 1).length->(aL {s with dD:=s.dD.drop 1} k).pipe.length<=2:=fun k a=>by rw[c];exact(h.slv (1+k) (by omega)).1
 have e: ∀k,k<(s.dD.drop 1).length->(aL {s with dD:=s.dD.drop 1} k).done.length<=2:=fun k a=>by rw[c];exact(h.slv (1+k) (by omega)).2.1
 have k9:=be1 (s:={s with dD:=s.dD.drop 1}) h.pl (by dsimp only;omega) d hp;have l1:=be0 (s:={s with dD:=s.dD.drop 1}) (by dsimp only;omega) e;exact⟨b,bfE b h.pl (by dsimp only;omega) (fun k a=>by have:=d k a;omega) (fun k a=>⟨by have:=hp k a;omega,by have:=e k a;omega⟩) (by omega) (by omega)⟩
structure bm3(i:CIn):Prop where
 r:i.ready.length<2^21
 t:i.n9.length<2^21
 s:i.send.length<2^21
theorem bD5.bNK{α:Type}{RowP:bAT α}{H:aA}{n id m:Nat}{Z:Nat->List D1}{f:Nat->List D1}{G:Nat->Nat->Prop}{l:List α}{lo hi cap:Nat}(h:bD5 RowP H n id m Z f G l l.length lo hi)(hc:l.length<=cap)(hm:cap<=m)(e:l=[]->cap=0):SlS n RowP H (.osl n id 0 l.length cap) l fun j=>j=id\/(lo<=j/\j<hi):=by
 by_cases hl:l=[]
 ·refine .inl ⟨hl,n,id,0,?_⟩;rw[e hl,hl];rfl
 ·have hp:0<l.length:=bGS.2 hl;exact .inr ⟨id,m,cap,rfl,by omega,hc,hm,f,G,h.blk,.inl rfl,fun i x c=>h.row i x (m3.1 c).1 c,fun i j hi d=>⟨.inr (h.sub i j hi d).1,(h.sub i j hi d).2⟩,fun i g j a b=>h.sep i g j a b⟩
section
variable{α:Type}{f:Int -> α -> Int}{z:α -> Nat}{k:Nat}
def SzZ{α:Type}(f:Int->α->Int)(z:α->Nat)(k:Nat):Prop:=∀a x,0<=a->0<=f a x->(z x:Int)<=k+8*(a-f a x)
theorem bCO{x:α}{l:List α}:total z (x::l)=z x+total z l:=rfl
theorem bFP(hr:SzR f)(d:SzZ f z k): ∀(l:List α) (a:Int),0<=a->0<=szF f a l->(total z l:Int)<=k*l.length+8*(a-szF f a l)
 | [],a,c,b=>by have e:total z ([]:List α)=0:=rfl;simp only[szF,e,List.length_nil];omega
 |x::l,a,c,b=>by
  simp only[szF] at b ⊢;split at b;·omega
  ·rename_i g;rw[if_neg g];have h:=hr a x c;have k9:=d a x c (by omega);have l1:=bFP hr d l (f a x) (by omega) b;have bOW:(k:Int)*((l.length+1:Nat):Int)=k*l.length+k:=(by push_cast;rw[Int.mul_add,Int.mul_one]);rw[bCO,List.length_cons,bOW];push_cast;omega
theorem bE2{a:Int}{n:Nat}(h:0<=szN a n):szN a n=a-n:=by unfold szN at*;split at h<;>rename_i b<;>first|omega|rw[if_neg b]
theorem bD9{a:Int}{g:Int->Int}(h:0<=szT a g):szT a g=g a:=by unfold szT at*;split at h<;>rename_i b<;>first|omega|rw[if_neg b]
theorem bFX{n:Nat}(b:k<=8):(k:Int)*n<=8*n:=by have h:=t4 n b;have a:((k*n:Nat):Int)<=((8*n:Nat):Int):=Int.ofNat_le.2 h;push_cast at a;exact a
theorem bFN(hr:SzR f)(c:SzZ f z k)(d:k<=8){l:List α}{a:Int}(g:0<=a)(h:0<=szS f a l):(total z l:Int)<=8*(a-szS f a l):=by obtain⟨b,e⟩:=a29 h;have i:=bE2 b;have j:szS f a l=szF f (szN a l.length) l:=bD9 h;have m:=bFP hr c l _ b e;have k9:=bFX (n:=l.length) d;omega
theorem bAA: ∀{l:List α},(∀x,z x=k)->total z l=k*l.length
 | [],_=>rfl
 |x::l,h=>by rw[bCO,h x,bAA h,List.length_cons,Nat.mul_add,brK,Y3]
theorem bE4(b:k<=8)(c: ∀x,z x=k){l:List α}{a:Int}(h:0<=szN a l.length):(total z l:Int)<=8*(a-szN a l.length):=by rw[bE2 h,bAA c];have k9:=bFX (n:=l.length) b;push_cast;omega
theorem bEU{B:Nat}: ∀{l:List α},(∀x∈l,z x<=B)->total z l<=l.length*B
 | [],_=>bxY _
 |x::l,h=>by have b:=h x (by simp);have c:=bEU (B:=B) (l:=l) fun y a=>h y (by simp[a]);rw[bCO,List.length_cons,o4,Nat.one_mul];omega
end
theorem bEZ:SzZ aZU bzY 5:=fun a x e h=>by have boU:=bD9 h;obtain⟨b,c⟩:=a29 h;have f:=bE4 (k:=1) (z:=byK) (by omega) (fun _=>rfl) b;have g:=bE4 (k:=1) (z:=byK) (by omega) (fun _=>rfl) c;have d:bzY x=5+total byK x.data+total byK x.g6:=rfl;unfold aZU at*;rw[boU,d];push_cast;omega
theorem bEO:SzZ w4 bzB 0:=fun a l b h=>by have:=bFN a6Y bEZ (by omega) b h;unfold w4 bzB;omega
theorem bE1{a:Int}{x:Cfg}(g:0<=a)(h:0<=aZ9 a x):(bC9 x:Int)<=8*(a-aZ9 a x):=by have boU:=bD9 h;obtain⟨c,h⟩:=a29 h;have d:=bD9 h;obtain⟨b,e⟩:=a29 h;have i:=bE4 (k:=4) (z:=byW) (by omega) (fun _=>rfl) c;have j:=bE4 (k:=1) (z:=byK) (by omega) (fun _=>rfl) b;have l:=bFN a3N bEO (by omega) b e;have f:bC9 x=total byW x.map+total byK x.lat+total bzB x.cP:=rfl;unfold aZ9 at*;rw[boU,d,f];push_cast;omega
theorem bB1{l:List Job}(h:aZT (e9 (2^21)) (2^21) l):total byJ l<=2^45:=by
 have d:=bEU (z:=byJ) (B:=2^22) (l:=l) fun x a=>by have:=h.2 x a;have b:byJ x=4+total byK x.rsp.data:=rfl;have c:total byK x.rsp.data=1*x.rsp.data.length:=bAA fun _=>rfl;have hl:x.rsp.data.length<2^21:=this;rw[b,c];omega
 have e:=h.1;omega
theorem bMK:SzZ KJ byJ 4:=fun a x c h=>by have q:=bE4 (k:=1) (z:=byK) (by omega) (fun _=>rfl) (l:=x.rsp.data) h;have b:byJ x=4+total byK x.rsp.data:=rfl;have hs:KJ a x=szN a x.rsp.data.length:=rfl;rw[hs,b];push_cast;omega
theorem bM0:SzZ d5 bIK 2:=fun a x e h=>by have boU:=bD9 h;obtain⟨b,c⟩:=a29 h;have f:=bE4 (k:=1) (z:=byK) (by omega) (fun _=>rfl) b;have g:=bE4 (k:=3) (z:=bIJ) (by omega) (fun _=>rfl) c;have d:bIK x=2+total byK x.queue+total bIJ x.out:=rfl;unfold d5 at*;rw[boU,d];push_cast;omega
theorem bMX:SzZ d4 bII 1:=fun a x e h=>by have boU:=bD9 h;obtain⟨b,c⟩:=a29 h;have f:=bE4 (k:=3) (z:=bIJ) (by omega) (fun _=>rfl) b;have g:=bFN a1P bMK (by omega) b c;have d:bII x=1+total bIJ x.pipe+total byJ x.done:=rfl;unfold d4 at*;rw[boU,d];push_cast;omega
theorem bNI{a:Int}{w u:List Int}(h:0<=a3S a w u):(total byK w:Int)+total byK u<=8*(a-a3S a w u):=by have boU:=bD9 h;obtain⟨b,c⟩:=a29 h;have d:=bE4 (k:=1) (z:=byK) (by omega) (fun _=>rfl) b;have e:=bE4 (k:=1) (z:=byK) (by omega) (fun _=>rfl) c;unfold a3S at*;rw[boU];omega
theorem bMV{a:Int}{x:CSt}(j:0<=a)(h:0<=a1W a x):(bIP x:Int)<=8*(a-a1W a x):=by have boU:=bD9 h;obtain⟨b,h⟩:=a29 h;have e:=bD9 h;obtain⟨c,h⟩:=a29 h;have f:=bD9 h;obtain⟨d,g⟩:=a29 h;have k:=bNI b;have l:=bFN a3A bM0 (by omega) b c;have m:=bFN a2H bMX (by omega) c d;have n:=bFN a1P bMK (by omega) d g;have i:bIP x=total byK x.words+total byK x.holds+total bIK x.bM+total bII x.dD+total byJ x.told:=rfl;unfold a1W at*;rw[boU,e,f,i];push_cast;omega
theorem bNC:SzZ bJ9 bMI 0:=fun a x g h=>by have boU:=bD9 h;obtain⟨b,h⟩:=a29 h;have c:=bD9 h;obtain⟨d,e⟩:=a29 h;have i:=bE4 (k:=1) (z:=bI6) (by omega) (fun _=>rfl) b;have j:=bE4 (k:=1) (z:=bI6) (by omega) (fun _=>rfl) d;have l:=bE4 (k:=1) (z:=bI6) (by omega) (fun _=>rfl) e;have f:bMI x=total bI6 x.ready+total bI6 x.n9+total bI6 x.send:=rfl;unfold bJ9 at*;rw[boU,c,f];push_cast;omega
theorem bMT{s:CSt}(h:w5 (2^21) s)(hp:s.bM.length<=4)(a:s.dD.length<=4):bIP s<=2^50:=by
 obtain⟨⟨i,j⟩,d,k9,l1⟩:=h;have az9:total byK s.words=1*s.words.length:=bAA fun _=>rfl;have az2:total byK s.holds=1*s.holds.length:=bAA fun _=>rfl;have aAA:=bB1 l1;have aAD:total bIK s.bM<=s.bM.length*2^24:=bEU fun p hp=>by obtain⟨e,b⟩:=d.2 p hp;have f:total byK p.queue=1*p.queue.length:=bAA fun _=>rfl;have g:total bIJ p.out=3*p.out.length:=bAA fun _=>rfl;have c:bIK p=2+total byK p.queue+total bIJ p.out:=rfl;omega
 have aAE:total bII s.dD<=s.dD.length*2^46:=bEU fun v a=>by obtain⟨e,b⟩:=k9.2 v a;have f:total bIJ v.pipe=3*v.pipe.length:=bAA fun _=>rfl;have g:=bB1 b;have c:bII v=1+total bIJ v.pipe+total byJ v.done:=rfl;omega
 have c:bIP s=total byK s.words+total byK s.holds+total bIK s.bM+total bII s.dD+total byJ s.told:=rfl;have k:=t4 (2^24) hp;have l:=t4 (2^46) a;omega
end Go.AM
namespace Go.Proofs.YtlncecohbakleaaGreat
open Go Go.AM
attribute [local irreducible] aM wv aB vd wvH
section
variable{H:aA}{nx:Nat}{K:bNX}
theorem bKP{s:CSt}(hs:CSz s)(h: ∀H' nx' r F,nx<=nx'->bIO H' r s F->(∀j,F j->nx<=j/\j<nx')->(∀j,j<nx->H' j=H j)->K (.one (.agg r)) H' nx'):bNW cV [boR (eI s)] H nx K:=by
 have aw:=hs.pl;have ax:=hs.sl;refine BJ rfl fun Q hQ=> ?_;unfold kM;have ht:aZT (e9 (2^21)) (2^21) s.told:=⟨hs.t.1,fun j d=>hs.t.2 j d⟩
 refine aM.BW fun ae=> ?_;have af: ∀k l,msk (nx+k) l H=H:=fun k l=>BV ae (by omega);repeat' first| (first|apply bn1|refine qN (w:=s.words) (u:=s.holds) hs.w hs.h (fun m0 m1 ag ah=> ?_)|refine yX (l:=s.bM) (by omega) (fun bp3 ai=> ?_)|refine xA (l:=s.dD) (by omega) (fun bqM aj=> ?_))<;>(simp only[go_sem,boC,af,umS (G:=H),umD (G:=H),umB])|fail
 refine bAY ht fun H2 E bk2 bF8 ay bp9 bPU D=> ?_;simp only[go_sem];generalize aU3:dT (nx+2) [13] _ H2=U;have um: ∀j,j≠nx+15->U j=H2 j:=fun j d=>by rw[<-aU3];unfold dT;rw[if_neg (by simp;omega)]
 have O:U (nx+15)=some ⟨5,1,[[.osl 0 0 0 0 0,.osl 0 0 0 0 0,.osl 0 0 0 0 0,.osl 0 0 0 0 0,.osl 0 0 0 0 0]]⟩:=by rw[<-aU3];unfold dT;rw[if_pos (by simp)];simp (disch:=omega) only[aA.aC,aA.bH]
 have aXL:U nx=some ⟨5,1,[eI s]⟩:=by rw[um _ (by omega),D _ (by omega)];simp (disch:=omega) only[aA.aC,aA.bH]
 have aUV:U (nx+1)=some ⟨5,1,[[.osl 0 0 0 0 0,.osl 0 0 0 0 0,.osl 0 0 0 0 0,.osl 0 0 0 0 0,.osl 0 0 0 0 0]]⟩:=by rw[um _ (by omega),D _ (by omega)];simp (disch:=omega) only[aA.aC,aA.bH]
 have P:U (nx+17)=some ⟨1,m0,s.words.map aJ⟩:=by rw[um _ (by omega),D _ (by omega)];simp (disch:=omega) only[aA.aC,aA.bH]
 have R:U (nx+18)=some ⟨1,m1,s.holds.map aJ⟩:=by rw[um _ (by omega),D _ (by omega)];simp (disch:=omega) only[aA.aC,aA.bH]
 have S:U (nx+19)=some ⟨4,bp3,s.bM.map cD⟩:=by rw[um _ (by omega),D _ (by omega)];simp (disch:=omega) only[aA.aC,aA.bH]
 have T:U (nx+20)=some ⟨3,bqM,s.dD.map gF⟩:=by rw[um _ (by omega),D _ (by omega)];simp (disch:=omega) only[aA.aC,aA.bH]
 have uf: ∀j,j<nx->U j=H j:=fun j d=>by rw[um _ (by omega),D _ (by omega)];simp (disch:=omega) only[aA.aC]
 replace bp9:=bp9.frame byI fun j d=>um j (by have:=bPU j d;omega);clear aU3 um D;simp only[go_sem,O];generalize bqK:aA.set U (nx+15) _=bqO;have A: ∀j,j≠nx+15->bqO j=U j:=fun j d=>by rw[<-bqK];exact aA.aC d
 have V:bqO (nx+15)=some ⟨5,1,[[.osl 1 (nx+17) 0 s.words.length s.words.length,.osl 1 (nx+18) 0 s.holds.length s.holds.length,.osl 4 (nx+19) 0 s.bM.length s.bM.length,.osl 3 (nx+20) 0 s.dD.length s.dD.length,bk2]]⟩:=by rw[<-bqK];exact aA.bH
 have c0:=(A nx (by omega)).trans aXL;have bPB:=(A (nx+1) (by omega)).trans aUV;have s1:SlS 1 (byQ aJ) bqO (.osl 1 (nx+17) 0 s.words.length s.words.length) s.words fun j=>j=nx+17:=bEA ((A _ (by omega)).trans P) ag rfl;have s2:SlS 1 (byQ aJ) bqO (.osl 1 (nx+18) 0 s.holds.length s.holds.length) s.holds fun j=>j=nx+18:=bEA ((A _ (by omega)).trans R) ah rfl;have ak:=(A (nx+19) (by omega)).trans S;have al:=(A (nx+20) (by omega)).trans T;have cf: ∀j,j<nx->bqO j=H j:=fun j d=>(A j (by omega)).trans (uf j d);replace bp9:=bp9.frame byI fun j d=>A j (by have:=bPU j d;omega);clear bqK A O aXL aUV P R S T uf;apply bn0;repeat' first|apply bn1<;>(simp only[go_sem,c0,V,eI,boC])|fail
 refine aM.gP (β:=Nat) (fun u=>en [(24,boP u),(23,boP s.bM.length),(22,dS (s.bM.map cD)),(3,.one (.c (.ptr 5 (nx+15) 0 0))),(2,.one (.c (.ptr 5 (nx+1) 0 0))),(1,.one (.c (.ptr 5 nx 0 0)))])
  (fun u B bqP=>u<=s.bM.length/\(∃f G,bD5 bJA B 4 (nx+19) bp3 (fun i=>cD (s.bM.getD i default)) f G s.bM u E bqP)/\E<=bqP/\ ∀j,j<E->j≠nx+19->B j=bqO j)
  (fun u=>s.bM.length-u) 0 ⟨noF,_,by repeat' first|exact bo2|refine xqI rfl rfl ?_|refine xqP (by omega) rfl rfl ?_|fail,aK,bxY _,⟨_,_,bBK (by rw[bFM];exact ak)⟩,by omega,fun _ _ _=>rfl⟩ ?_
 rintro u B g az ⟨hu,⟨f,G,boT⟩,ba,m⟩ bpQ an;have bqC:=(m nx (by omega) (by omega)).trans c0;have I:=(m (nx+15) (by omega) (by omega)).trans V;by_cases q:u<s.bM.length
 ·obtain⟨x,W⟩: ∃x,s.bM[u]?=some x:=⟨_,n1 q⟩
  have o:s.bM.getD u default=x:=by simp[List.getD,W]
  obtain⟨X,Y⟩:=hs.port u (by omega);rw[show aF s u=x from o] at X Y;have b1:=boT.blk;have Z: ∀f,(rng s.bM.length f)[u]?=some (f u):=fun f=>by6 q;have bqH:f u=cD x:=(boT.zero u (m5 _)).trans (by rw[o]);have hA:bQ g [nx,nx+1,nx+15,nx+19,nx+20]:=AM.apart (by simp) (by simp<;>omega);simp only[bQ,eZ] at hA;refine aM.BW fun v=> ?_;have y: ∀k l,msk (g+k) l B=B:=fun k l=>BV v (by omega);repeat' first| (first|apply bn1|refine kH (l:=x.queue) X (fun mq J=> ?_)|refine oD (l:=x.out) Y (fun mo ao=> ?_))<;>(simp only[go_sem,boC,y,umS (G:=B),umD (G:=B),umB,msk,List.map,t3,bq7,or_false,o,cD,Z,bqH,byN,byT,byL,byM,bqC,I,b1,hA];try simp (disch:=omega) only[Iw])|apply bn2 (by omega)|refine⟨by omega,?_⟩|fail
  exact an _ _ _ (u+1) noF _ (by omega) (by omega) (by repeat' first|exact bo2|refine xqI rfl rfl ?_|refine xqP (by omega) rfl rfl ?_|fail) aK ⟨by omega,⟨_,_,boT.step (hi':=_) bIL W (G':=fun j=>j=g+25\/j=g+26) aA.bH
   ⟨_,_,fun j=>j=g+25,fun j=>j=g+26,rfl,⟨bEA ((aA.aC (by omega)).trans ((aA.aC (by omega)).trans aA.bH)) J rfl,bEA ((aA.aC (by omega)).trans aA.bH) ao rfl,fun j d=>.inl d,fun j d=>.inr d,fun j z p=>by omega⟩⟩
   (fun j h=>by omega) (by omega) (by omega) (by omega) fun j z p=>(aA.aC p).trans ((aA.aC (by omega)).trans ((aA.aC (by omega)).trans (aA.aC (by omega))))⟩,by omega,fun j z p=>(aA.aC p).trans ((aA.aC (by omega)).trans ((aA.aC (by omega)).trans ((aA.aC (by omega)).trans (m j z p))))⟩
 ·have L:u=s.bM.length:=by omega
  subst L;have bp7:=boT.bNK (m5 _) ai (fun h=>by rw[h];rfl);have g1:=(m (nx+1) (by omega) (by omega)).trans bPB;have aq:=(m (nx+20) (by omega) (by omega)).trans al;replace s1:=s1.frame bp1 fun j d=>m j (by omega) (by omega);replace s2:=s2.frame bp1 fun j d=>m j (by omega) (by omega);replace bp9:=bp9.frame byI fun j d=>m j (by have:=bPU j d;omega) (by have:=bPU j d;omega);have gf: ∀j,j<nx->B j=H j:=fun j d=>(m j (by omega) (by omega)).trans (cf j d);repeat' first|apply bn1<;>(simp only[go_sem,bqC,I,boC])|apply bn3 (by omega)|fail
  refine aM.gP (β:=Nat) (fun u=>en [(49,boP u),(48,boP s.dD.length),(47,dS (s.dD.map gF)),(3,.one (.c (.ptr 5 (nx+15) 0 0))),(2,.one (.c (.ptr 5 (nx+1) 0 0)))])
   (fun u bqL az7=>u<=s.dD.length/\(∃f G,bD5 bIV bqL 3 (nx+20) bqM (fun i=>gF (s.dD.getD i default)) f G s.dD u g az7)/\g<=az7/\ ∀j,j<g->j≠nx+20->bqL j=B j)
   (fun u=>s.dD.length-u) 0 ⟨noF,_,by repeat' first|exact bo2|refine xqI rfl rfl ?_|refine xqP (by omega) rfl rfl ?_|fail,aK,bxY _,⟨_,_,bBK (by rw[bFM];exact aq)⟩,by omega,fun _ _ _=>rfl⟩ ?_
  rintro u bqL e bb ⟨hu,⟨f,G,C⟩,bc,n⟩ bqG ar;have M:=(n (nx+15) (by omega) (by omega)).trans I;by_cases q:u<s.dD.length
  ·obtain⟨x,W⟩: ∃x,s.dD[u]?=some x:=⟨_,n1 q⟩
   have o:s.dD.getD u default=x:=(by simp[List.getD,W]);obtain⟨X,Y,aa⟩:=hs.slv u (by omega);rw[show aL s u=x from o] at X Y aa;have b1:=C.blk;have Z: ∀f,(rng s.dD.length f)[u]?=some (f u):=fun f=>by6 q;have bqH:f u=gF x:=(C.zero u (m5 _)).trans (by rw[o]);have hA:bQ e [nx,nx+1,nx+15,nx+19,nx+20]:=AM.apart (by simp) (by simp<;>omega);simp only[bQ,eZ] at hA;refine aM.BW fun v=> ?_;have y: ∀k l,msk (e+k) l bqL=bqL:=fun k l=>BV v (by omega);repeat' first| (first|apply bn1|refine oD (l:=x.pipe) X (fun mq J=> ?_)|refine bAY (l:=x.done) ⟨Y,fun j d=>aa j d⟩ (fun aZJ au d2 bF5 bd bpO p2 bpU=> ?_))<;>(simp only[go_sem,boC,y,umS (G:=bqL),umD (G:=bqL),umB,msk,List.map,t3,bq7,or_false,o,gF,Z,bqH,byN,byT,byL,byM,M,b1,hA])|apply bn2 (by omega)|refine⟨by omega,?_⟩|fail
   have ab:=(bpU (nx+15) (by omega)).trans ((aA.aC (by omega)).trans ((aA.aC (by omega)).trans M));have vb:=(bpU (nx+20) (by omega)).trans ((aA.aC (by omega)).trans ((aA.aC (by omega)).trans b1));have vq:=(bpU (e+25) (by omega)).trans aA.bH;have vk: ∀j,j<e->j≠nx+20->aZJ j=bqL j:=fun j z p=>(bpU j (by omega)).trans ((aA.aC (by omega)).trans (aA.aC (by omega)));have ad: ∀j,j<e->aZJ j=bqL j:=fun j z=>(bpU j (by omega)).trans ((aA.aC (by omega)).trans (aA.aC (by omega)));have N:bQ au [nx,nx+1,nx+15,nx+19,nx+20]:=AM.apart (by simp) (by simp<;>omega);simp only[bQ,eZ] at N;(try simp only[go_sem,boC,ab,vb,false_implies,Z,bqH,gF,byN,byT,byL,byM,N,boC]);repeat' first|apply bn1<;>(simp only[go_sem,boC,ab,vb,false_implies,Z,bqH,gF,byN,byT,byL,byM,N,boC];try simp (disch:=omega) only[Iw])|refine⟨by omega,?_⟩|fail
   have ts:SlS 3 (byQ eCJ) aZJ (.osl 3 (e+25) 0 x.pipe.length x.pipe.length) x.pipe fun j=>j=e+25:=bEA vq J rfl
   exact ar _ _ _ (u+1) noF _ (by omega) (by omega) (oF (oF (oF (oF (oF K6 (by repeat' first|exact bo2| ((with_reducible apply bo0);exact bpC (by omega) rfl)| ((with_reducible apply bo1);apply bo7)|fail)) (by repeat' first|exact bo2| ((with_reducible apply bo0);exact bpC (by omega) rfl)| ((with_reducible apply bo1);apply bo7)|fail)) (aE rfl)) (aE rfl)) (aE rfl)) aK ⟨by omega,⟨_,_,C.step (hi':=_) bIN W (G':=fun j=>j=e+25\/bF5 j) aA.bH
    ⟨_,_,fun j=>j=e+25,bF5,rfl,⟨ts.frame bp1 fun j d=>aA.aC (by omega),bpO.frame byI fun j d=>aA.aC (by have:=p2 j d;omega),fun j d=>.inl d,fun j d=>.inr d,fun j z p=>by have:=p2 j p;omega⟩⟩
    (fun j h=>h.elim (fun h=>by omega) fun h=>by have:=p2 j h;omega) (by omega) (by omega) (by omega) fun j z p=>(aA.aC p).trans (ad j z)⟩,by omega,fun j z p=>(aA.aC p).trans ((ad j (by omega)).trans (n j z p))⟩
  ·have L:u=s.dD.length:=(by omega);subst L;have bp8:=C.bNK (m5 _) aj (fun h=>by rw[h];rfl);have k1:=(n (nx+1) (by omega) (by omega)).trans g1;replace s1:=s1.frame bp1 fun j d=>n j (by omega) (by omega);replace s2:=s2.frame bp1 fun j d=>n j (by omega) (by omega);replace bp7:=bp7.frame bIL fun j d=>n j (by omega) (by omega);replace bp9:=bp9.frame byI fun j d=>n j (by have:=bPU j d;omega) (by have:=bPU j d;omega);have kf: ∀j,j<nx->bqL j=H j:=fun j d=>(n j (by omega) (by omega)).trans (gf j d);repeat' first|apply bn1<;>(simp only[go_sem,M,k1,boC])|apply bn3 (by omega)|fail
   exact hQ _ _ _ _ _ (.inr rfl) (bBC rfl aA.bH rfl) (h _ _ _ (fun j=>nx+17<=j/\j<e) (by omega) ⟨_,_,_,_,_,_,_,_,_,_,rfl,⟨s1.frame bp1 fun j d=>aA.aC (by omega),s2.frame bp1 fun j d=>aA.aC (by omega),bp7.frame bIL fun j d=>aA.aC (by omega),bp8.frame bIN fun j d=>aA.aC (by omega),bp9.frame byI fun j d=>aA.aC (by have:=bPU j d;omega),
    fun j d=>by omega,fun j d=>by omega,fun j d=>by omega,fun j d=>by omega,fun j d=>by have:=bPU j d;omega,
    fun j a b=>by omega,fun j a b=>by omega,fun j a b=>by omega,fun j a b=>by have:=bPU j b;omega,fun j a b=>by omega,fun j a b=>by omega,fun j a b=>by have:=bPU j b;omega,fun j a b=>by omega,fun j a b=>by have:=bPU j b;omega,fun j a b=>by have:=bPU j b;omega⟩⟩ (fun j d=>by omega) fun j d=>(aA.aC (by omega)).trans (kf j d))
end
end Go.Proofs.YtlncecohbakleaaGreat
