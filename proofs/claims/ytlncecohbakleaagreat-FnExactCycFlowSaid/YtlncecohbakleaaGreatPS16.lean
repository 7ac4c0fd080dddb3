/- Texts laid together by a program: rules, contracts and the walk that leads to the law. -/
import Derived.Test.YtlncecohbakleaaGreatPS15
import Derived.Test.YtlncecohbakleaaGreatPS9
set_option linter.unusedVariables false
set_option linter.unusedSimpArgs false
set_option linter.unusedSectionVars false
set_option maxRecDepth 100000
set_option maxHeartbeats 8000000
namespace Go.AM
def blD(c:Cfg)(f:CSt->Nat->Option Mic)(l:List Nat)(s S:CSt):Prop:=dR c s (vE c f s l)=S
theorem blD.next{c:Cfg}{f:CSt->Nat->Option Mic}{s S:CSt}{k:Nat}{l:List Nat}(h:blD c f (k::l) s S):blD c f l (atS c s (f s k)) S:=by
 unfold blD at h
 cases a:f s k with
 |none=>rw[GZ a] at h;exact h
 |some m=>rw[NH a] at h;exact h
theorem blD.nil{c:Cfg}{f:CSt->Nat->Option Mic}{s S:CSt}(h:blD c f [] s S):s=S:=h
theorem bj1{c:Cfg}{s:CSt}{o:Option Mic}(a:aQ c)(hs:COk c s)(h: ∀m,o=some m->EH c s m):COk c (atS c s o):=by
 cases o with
 |none=>exact hs
 |some m=>exact o9 a hs (h m rfl)
theorem bgJ.sub{X b:Nat->Prop}{H:aA}{nx:Nat}{nm:Nat->Nat}{s:CSt}{cells:List D1}(h:bgJ b H nx nm s cells)(hs: ∀id,X id->b id):bgJ X H nx nm s cells:=⟨h.rep,⟨h.names.inj,h.names.lt,fun k c d=>h.names.av k c (hs _ d)⟩,fun id a=>h.x id (hs id a)⟩
theorem blD.none{c:Cfg}{f:CSt->Nat->Option Mic}{s S:CSt}{k:Nat}{l:List Nat}(h:blD c f (k::l) s S)(a:f s k=none):blD c f l s S:=by have:=h.next;rwa [a] at this
theorem LV.bkK{c:Cfg}{s S:CSt}{u:List Bool}{k:Nat}{l:List Nat}(hl:LV c (k::l) s u S):LV c l (Go.Proofs.YtlncecohbakleaaGreat.bhV c s u k).1 (Go.Proofs.YtlncecohbakleaaGreat.bhV c s u k).2 S:=by
 unfold Go.Proofs.YtlncecohbakleaaGreat.bhV
 cases h:AO c s u k with
 |none=>exact hl.none h
 |some who=>exact hl.some h
structure bkN(k:Nat)(H:aA)(nm:Nat->Nat)(s:CSt)(rows:List (List D1)):Prop where
 len:rows.length=k
 row: ∀j,j<k->∃r,rows[j]?=some r/\CX H (nm (5+j)) (nm (8+j)) (aF s j) r
structure bkL(k:Nat)(H:aA)(nm:Nat->Nat)(s:CSt)(rows:List (List D1)):Prop where
 len:rows.length=k
 row: ∀j,j<k->∃r,rows[j]?=some r/\LJ H (nm (11+j)) (nm (15+j)) (aL s j) r
def biB(nx boW b c:Nat):Nat->Nat:=fun a=>if a=0 then boW else if a=1 then b else if a=2 then nx else if a=3 then nx+1 else c
theorem bj0{nx n boW b c:Nat}(g:nx+2<=b)(d:b<boW)(e:boW<c)(h:c<n):Part (fun j=>j<5\/(5<=j/\j<5+0)\/(8<=j/\j<8+0)) nx n (biB nx boW b c):=by
 have key: ∀a,a<5->(a=0/\biB nx boW b c a=boW)\/(a=1/\biB nx boW b c a=b)\/(a=2/\biB nx boW b c a=nx)\/(a=3/\biB nx boW b c a=nx+1)\/(a=4/\biB nx boW b c a=c):=fun a i=>by
  unfold biB;repeat' split
  all_goals omega
 refine⟨fun j k l f he=> ?_,fun k f=> ?_⟩;·have d:=key j (by omega);have e:=key k (by omega);omega
 ·have d:=key k (by omega);omega
def szN(left:Int)(n:Nat):Int:=if left-n<0 then-1 else left-n
def szT(a:Int)(f:Int->Int):Int:=if a<0 then-1 else f a
def szF{α:Type}(f:Int->α->Int):Int->List α->Int
 |a,[]=>a
 |a,x::l=>if f a x<0 then-1 else szF f (f a x) l
def szS{α:Type}(f:Int->α->Int)(a:Int)(l:List α):Int:=szT (szN a l.length) fun a=>szF f a l
def SzR{α:Type}(f:Int->α->Int):Prop:=∀a x,0<=a->f a x= -1\/(0<=f a x/\f a x<=a)
theorem aZM(a:Int)(n:Nat):szN a n= -1\/(0<=szN a n/\szN a n<=a):=by unfold szN;split<;>omega
variable{a:Int}
theorem a6C{left:Int}{f:Int->Int}(c:a= -1\/(0<=a/\a<=left))(b:0<=a->f a= -1\/(0<=f a/\f a<=a)):szT a f= -1\/(0<=szT a f/\szT a f<=left):=by
 unfold szT;split;·exact .inl rfl
 ·have:=b (by omega);omega
theorem bfA{α:Type}{f:Int->α->Int}(b:SzR f): ∀(l:List α) (a:Int),0<=a->szF f a l= -1\/(0<=szF f a l/\szF f a l<=a)
 | [],a,h=>by simp only[szF];omega
 |x::l,a,h=>by
  simp only[szF];split;·exact .inl rfl
  ·have c:=b a x h;have d:=bfA b l (f a x) (by omega);omega
theorem a4Q{α:Type}{f:Int->α->Int}(b:SzR f)(a:Int)(l:List α):szS f a l= -1\/(0<=szS f a l/\szS f a l<=a):=a6C (aZM _ _) fun h=>bfA b l _ h
theorem bfN{α:Type}{f:Int->α->Int}(b:SzR f):SzR (szS f):=fun a l _=>a4Q b a l
theorem a18{n:Nat}(h:0<=szN a n)(b:a<=2^20):n<2^21:=by unfold szN at h;split at h<;>omega
theorem a29{f:Int->Int}(h:0<=szT a f):0<=a/\0<=f a:=by
 unfold szT at h;split at h;·omega
 ·exact⟨by omega,h⟩
def SzF{α:Type}(f:Int->α->Int)(P:α->Prop):Prop:=∀a x,0<=a->a<=2^20->0<=f a x->P x
theorem beS{α:Type}{f:Int->α->Int}{P:α->Prop}(hr:SzR f)(d:SzF f P): ∀(l:List α) (a:Int),0<=a->a<=2^20->0<=szF f a l->∀x∈l,P x
 | [],_,_,_,_=>fun x g=>by simp at g
 |x::l,a,e,h,b=>by
  simp only[szF] at b;split at b;·omega
  ·have i:=hr a x e;intro y c;rcases t3.1 c with rfl|c;·exact d a y e h (by omega)
   ·exact beS hr d l (f a x) (by omega) (by omega) b y c
def aZT{α:Type}(P:α->Prop)(N:Nat)(l:List α):Prop:=l.length<N/\ ∀x∈l,P x
theorem a5T{α:Type}{f:Int->α->Int}{P:α->Prop}(hr:SzR f)(c:SzF f P){l:List α}(d:a<=2^20)(h:0<=szS f a l):aZT P (2^21) l:=by obtain⟨b,e⟩:=a29 h;have g:=aZM a l.length;exact⟨a18 b d,beS hr c l _ b (by omega) e⟩
theorem a87{α:Type}{f:Int->α->Int}{l:List α}{k:Nat}(b: ¬k<l.length):szF f a (l.drop k)=a:=by rw[brZ (by omega)];rfl
theorem a5L{α:Type}[Inhabited α]{f:Int->α->Int}{l:List α}{k:Nat}(b:k<l.length):szF f a (l.drop k)=if f a (l.getD k default)<0 then-1 else szF f (f a (l.getD k default)) (l.drop (k+1)):=by rw[brB b];simp[szF,List.getD,b]
def a3S(a:Int)(w h:List Int):Int:=szT (szN a w.length) fun a=>szN a h.length
theorem beG(a:Int)(w h:List Int):a3S a w h= -1\/(0<=a3S a w h/\a3S a w h<=a):=a6C (aZM _ _) fun _=>aZM _ _
theorem beX{w h:List Int}(b:a<=2^20)(c:0<=a3S a w h):w.length<2^21/\h.length<2^21:=by obtain⟨d,e⟩:=a29 c;have f:=aZM a w.length;exact⟨a18 d b,a18 e (by omega)⟩
def aZU(a:Int)(x:Req):Int:=szT (szN a x.data.length) fun a=>szN a x.g6.length
theorem a6Y:SzR aZU:=fun _ _ _=>a6C (aZM _ _) fun _=>aZM _ _
def w3(N:Nat)(x:Req):Prop:=x.data.length<N/\x.g6.length<N
theorem beH:SzF aZU (w3 (2^21)):=fun a x d e b=>by unfold aZU at b;obtain⟨bqS,b⟩:=a29 b;have bqB:=a18 bqS (by omega);have f:=aZM a x.data.length;generalize szN a x.data.length=boW at*;have c:=a18 b (by omega);exact⟨bqB,c⟩
def w4(a:Int)(l:List Req):Int:=szS aZU a l
theorem a3N:SzR w4:=bfN a6Y
def aZ7(N:Nat)(l:List Req):Prop:=aZT (w3 N) N l
theorem bdN:SzF w4 (aZ7 (2^21)):=fun a x d b c=>a5T a6Y beH b c
def aZ9(a:Int)(x:Cfg):Int:=szT (szN a x.map.length) fun a=>szT (szN a x.lat.length) fun a=>szS w4 a x.cP
theorem beN:SzR aZ9:=fun _ _ _=>a6C (aZM _ _) fun _=>a6C (aZM _ _) fun _=>a4Q a3N _ _
def aZW(N:Nat)(x:Cfg):Prop:=x.map.length<N/\x.lat.length<N/\aZT (aZ7 N) N x.cP
theorem beC:SzF aZ9 (aZW (2^21)):=fun a x f g b=>by unfold aZ9 at b;obtain⟨bqS,b⟩:=a29 b;have bqB:=a18 bqS (by omega);have h:=aZM a x.map.length;generalize szN a x.map.length=boW at*;obtain⟨c,b⟩:=a29 b;have d:=a18 c (by omega);have i:=aZM boW x.lat.length;generalize szN boW x.lat.length=j at*;have e:=a5T a3N bdN (by omega) b;exact⟨bqB,d,e⟩
def d5(a:Int)(x:fR):Int:=szT (szN a x.queue.length) fun a=>szN a x.out.length
theorem a3A:SzR d5:=fun _ _ _=>a6C (aZM _ _) fun _=>aZM _ _
def f9(N:Nat)(x:fR):Prop:=x.queue.length<N/\x.out.length<N
theorem bd5:SzF d5 (f9 (2^21)):=fun a x d e b=>by unfold d5 at b;obtain⟨bqS,b⟩:=a29 b;have bqB:=a18 bqS (by omega);have f:=aZM a x.queue.length;generalize szN a x.queue.length=boW at*;have c:=a18 b (by omega);exact⟨bqB,c⟩
def a3W(a:Int)(x:Rsp):Int:=szN a x.data.length
theorem bdM:SzR a3W:=fun _ _ _=>aZM _ _
def aZV(N:Nat)(x:Rsp):Prop:=x.data.length<N
theorem beD:SzF a3W (aZV (2^21)):=fun a x c d b=>by unfold a3W at b;have bqB:=a18 b (by omega);exact bqB
def KJ(a:Int)(x:Job):Int:=a3W a x.rsp
theorem a1P:SzR KJ:=fun _ _ _=>bdM _ _ (by assumption)
def e9(N:Nat)(x:Job):Prop:=aZV N x.rsp
theorem a9L:SzF KJ (e9 (2^21)):=fun a x c d b=>by unfold KJ at b;have bqB:=beD _ _ (by omega) (by omega) b;exact bqB
def d4(a:Int)(x:nY):Int:=szT (szN a x.pipe.length) fun a=>szS KJ a x.done
theorem a2H:SzR d4:=fun _ _ _=>a6C (aZM _ _) fun _=>a4Q a1P _ _
def dP(N:Nat)(x:nY):Prop:=x.pipe.length<N/\aZT (e9 N) N x.done
theorem bdI:SzF d4 (dP (2^21)):=fun a x d e b=>by unfold d4 at b;obtain⟨bqS,b⟩:=a29 b;have bqB:=a18 bqS (by omega);have f:=aZM a x.pipe.length;generalize szN a x.pipe.length=boW at*;have c:=a5T a1P a9L (by omega) b;exact⟨bqB,c⟩
def a1W(a:Int)(x:CSt):Int:=szT (a3S a x.words x.holds) fun a=>szT (szS d5 a x.bM) fun a=>szT (szS d4 a x.dD) fun a=>szS KJ a x.told
theorem beF:SzR a1W:=fun _ _ _=>a6C (beG _ _ _) fun _=>a6C (a4Q a3A _ _) fun _=>a6C (a4Q a2H _ _) fun _=>a4Q a1P _ _
def w5(N:Nat)(x:CSt):Prop:=(x.words.length<N/\x.holds.length<N)/\aZT (f9 N) N x.bM/\aZT (dP N) N x.dD/\aZT (e9 N) N x.told
theorem bdJ:SzF a1W (w5 (2^21)):=fun a x i j b=>by unfold a1W at b;obtain⟨bqS,b⟩:=a29 b;have bqB:=beX (by omega) bqS;have k:=beG a x.words x.holds;generalize a3S a x.words x.holds=boW at*;obtain⟨d,b⟩:=a29 b;have e:=a5T a3A bd5 (by omega) d;have l:=a4Q a3A boW x.bM;generalize szS d5 boW x.bM=c at*;obtain⟨f,b⟩:=a29 b;have g:=a5T a2H bdI (by omega) f;have m:=a4Q a2H c x.dD;generalize szS d4 c x.dD=n at*;have h:=a5T a1P a9L (by omega) b;exact⟨bqB,e,g,h⟩
def bcA(N:Nat)(x:TSt):Prop:=(x.words.length<N/\x.holds.length<N)/\x.asked.length<N/\aZT (e9 N) N x.wait/\aZT (e9 N) N x.done/\aZT (e9 N) N x.told
def bJ9(a:Int)(x:CIn):Int:=szT (szN a x.ready.length) fun a=>szT (szN a x.n9.length) fun a=>szN a x.send.length
theorem bM9:SzR bJ9:=fun _ _ _=>a6C (aZM _ _) fun _=>a6C (aZM _ _) fun _=>aZM _ _
def bJB(N:Nat)(x:CIn):Prop:=x.ready.length<N/\x.n9.length<N/\x.send.length<N
theorem bM3:SzF bJ9 (bJB (2^21)):=fun a x f g b=>by unfold bJ9 at b;obtain⟨bqS,b⟩:=a29 b;have bqB:=a18 bqS (by omega);have h:=aZM a x.ready.length;generalize szN a x.ready.length=boW at*;obtain⟨c,b⟩:=a29 b;have d:=a18 c (by omega);have i:=aZM boW x.n9.length;generalize szN boW x.n9.length=j at*;have e:=a18 b (by omega);exact⟨bqB,d,e⟩
theorem aZW.fit{c:Cfg}(h:aZW (2^21) c):jO c:=by obtain⟨b,d,e,k9⟩:=h;exact⟨by omega,by omega,by omega,fun p hp=>by have:=(k9 p hp).1;omega,fun p hp q a=>by have:=(k9 p hp).2 q a;unfold w3 at this;omega⟩
theorem bFC{x:Value}:(D1.v x).free=true:=rfl
def Dis(F G:Nat->Prop):Prop:=∀j,F j->¬G j
def Sub(F G:Nat->Prop):Prop:=∀j,F j->G j
def byK(_:Int):Nat:=1
def bzQ(k:Int)(_:Int):Int:=k
def bI6(_:Bool):Nat:=1
def bMF(k:Int)(_:Bool):Bool:=decide (k.tmod 3=0)
theorem bCV:Fzb 1 aJ (byQ aJ):=bEV fun x=>⟨rfl,rfl⟩
theorem bMW:Fzb 1 eH (byQ eH):=bEV fun x=>⟨rfl,rfl⟩
theorem bEL:Fre (byQ aJ):=bFB fun x=>rfl
def byW(_:Rng):Nat:=4
def bC0(k:Int)(_:Rng):Rng:=⟨k,k+1,k+1+1,decide ((k+1+1+1).tmod 3=0)⟩
theorem bEW:Fzb 4 eN (byQ eN):=bEV fun x=>⟨rfl,rfl⟩
def bIJ(_:fC):Nat:=3
def bJK(k:Int)(_:fC):fC:=⟨k,k+1,k+1+1⟩
theorem bMS:Fzb 3 eCJ (byQ eCJ):=bEV fun x=>⟨rfl,rfl⟩
theorem bMQ:Fre (byQ eCJ):=bFB fun x=>rfl
def bzY(x:Req):Nat:=5+total byK x.data+total byK x.g6
def bEC(k:Int)(x:Req):Req:=⟨k,k+1,k+1+1,k+1+1+1,decide ((k+1+1+1+1).tmod 3=0),marks byK bzQ (k+1+1+1+1+1) x.data,marks byK bzQ (k+1+1+1+1+1+total byK x.data) x.g6⟩
structure bFK(H:aA)(x:Req)(F:Nat->Prop)(d1 d2:D1)(bF4 bF5:Nat->Prop):Prop where
 s1:SlS 1 (byQ aJ) H d1 x.data bF4
 s2:SlS 1 (byQ aJ) H d2 x.g6 bF5
 aUV:Sub bF4 F
 aUW:Sub bF5 F
 x12:Dis bF4 bF5
def bA3:bAT Req:=fun H r x F=>∃d1 d2 bF4 bF5,r=[cI x.id,cI x.kind,cI x.addr,cI x.many,cB x.wrap,d1,d2]/\bFK H x F d1 d2 bF4 bF5
theorem bAS:Frm bA3:=fun _ _ _ _ _ ⟨d1,d2,bF4,bF5,c,h⟩ b=>⟨d1,d2,bF4,bF5,c,{h with s1:=h.s1.frame bp1 fun j a=>b j (h.aUV j a),s2:=h.s2.frame bp1 fun j a=>b j (h.aUW j a)}⟩
theorem bDM:Fzb 7 eB bA3:=fun _ _ _ _ ⟨d1,d2,bF4,bF5,a,h⟩=>⟨rfl,a▸byR (.same _ rfl) (byR (.same _ rfl) (byR (.same _ rfl) (byR (.same _ rfl) (byR (.same _ rfl) (byR (h.s1.frz bCV) (byR (h.s2.frz bCV) (bDK)))))))⟩
def bzB(l:List Req):Nat:=total bzY l
def bDR(k:Int)(l:List Req):List Req:=marks bzY bEC k l
def bAW:bAT (List Req):=fun H r l F=>∃d,r=[d]/\SlS 7 bA3 H d l F
theorem bAH:Frm bAW:=fun _ _ _ _ _ ⟨d,a,b⟩ c=>⟨d,a,b.frame bAS c⟩
theorem bE0:Fzb 1 jR bAW:=fun _ _ _ _ ⟨d,a,b⟩=>⟨rfl,a▸byR (b.frz bDM) bDK⟩
def byJ(x:Job):Nat:=4+total byK x.rsp.data
def bzU(k:Int)(x:Job):Job:=⟨k,k+1,⟨k+1+1,k+1+1+1,marks byK bzQ (k+1+1+1+1) x.rsp.data⟩⟩
def bzL:bAT Job:=fun H r x F=>∃d1,r=[cI x.who,cI x.n,cI x.rsp.id,cI x.rsp.code,d1]/\SlS 1 (byQ aJ) H d1 x.rsp.data F
theorem byI:Frm bzL:=fun _ _ _ _ _ ⟨d,a,b⟩ c=>⟨d,a,b.frame bp1 c⟩
theorem bDO:Fre bzL:=fun _ _ _ _ ⟨d1,d,h⟩=>by subst d;obtain⟨a,bp6,b,c,e⟩:=h.fre bEL;exact⟨by simp[a,bFC],bp6,b,⟨d1,rfl,c⟩,e⟩
theorem bBI:Fzb 5 aS bzL:=fun _ _ _ _ ⟨d1,a,h⟩=>⟨rfl,a▸byR (.same _ rfl) (byR (.same _ rfl) (byR (.same _ rfl) (byR (.same _ rfl) (byR (h.frz bCV) (bDK)))))⟩
def bIK(x:fR):Nat:=2+total byK x.queue+total bIJ x.out
def bJH(k:Int)(x:fR):fR:=⟨k,marks byK bzQ (k+1) x.queue,marks bIJ bJK (k+1+total byK x.queue) x.out,k+1+total byK x.queue+total bIJ x.out⟩
structure bNF(H:aA)(x:fR)(F:Nat->Prop)(d1 d2:D1)(bF4 bF5:Nat->Prop):Prop where
 s1:SlS 1 (byQ aJ) H d1 x.queue bF4
 s2:SlS 3 (byQ eCJ) H d2 x.out bF5
 aUV:Sub bF4 F
 aUW:Sub bF5 F
 x12:Dis bF4 bF5
def bJA:bAT fR:=fun H r x F=>∃d1 d2 bF4 bF5,r=[cI x.next,d1,d2,cI x.last]/\bNF H x F d1 d2 bF4 bF5
theorem bIL:Frm bJA:=fun _ _ _ _ _ ⟨d1,d2,bF4,bF5,c,h⟩ b=>⟨d1,d2,bF4,bF5,c,{h with s1:=h.s1.frame bp1 fun j a=>b j (h.aUV j a),s2:=h.s2.frame bp1 fun j a=>b j (h.aUW j a)}⟩
theorem bM7:Fre bJA:=fun _ _ _ _ ⟨d1,d2,bF4,bF5,b,h⟩=>by
 subst b;obtain⟨az9,bw2,d,bPB,g⟩:=h.s1.fre bEL;obtain⟨az2,bw4,e,c2,i⟩:=h.s2.fre bMQ;refine⟨by simp[az9,az2,bFC],fun j=>bw2 j\/bw4 j,fun j a=> ?_,⟨d1,d2,bw2,bw4,rfl,⟨bPB,c2,fun j a=>(.inl a),fun j a=>(.inr a),fun j k bpZ=>h.x12 j (d j k) (e j bpZ)⟩⟩,fun j o a f=> ?_⟩
 ·rcases a with b|c;·exact h.aUV j (d j b)
  ·exact h.aUW j (e j c)
 ·rcases a with b|c;·exact g j o b f
  ·exact i j o c f
theorem bLS:Fzb 4 cD bJA:=fun _ _ _ _ ⟨d1,d2,bF4,bF5,a,h⟩=>⟨rfl,a▸byR (.same _ rfl) (byR (h.s1.frz bCV) (byR (h.s2.frz bMS) (byR (.same _ rfl) (bDK))))⟩
def bII(x:nY):Nat:=1+total bIJ x.pipe+total byJ x.done
def bI9(k:Int)(x:nY):nY:=⟨marks bIJ bJK (k) x.pipe,marks byJ bzU (k+total bIJ x.pipe) x.done,k+total bIJ x.pipe+total byJ x.done⟩
structure bNB(H:aA)(x:nY)(F:Nat->Prop)(d1 d2:D1)(bF4 bF5:Nat->Prop):Prop where
 s1:SlS 3 (byQ eCJ) H d1 x.pipe bF4
 s2:SlS 5 bzL H d2 x.done bF5
 aUV:Sub bF4 F
 aUW:Sub bF5 F
 x12:Dis bF4 bF5
def bIV:bAT nY:=fun H r x F=>∃d1 d2 bF4 bF5,r=[d1,d2,cI x.last]/\bNB H x F d1 d2 bF4 bF5
theorem bIN:Frm bIV:=fun _ _ _ _ _ ⟨d1,d2,bF4,bF5,c,h⟩ b=>⟨d1,d2,bF4,bF5,c,{h with s1:=h.s1.frame bp1 fun j a=>b j (h.aUV j a),s2:=h.s2.frame byI fun j a=>b j (h.aUW j a)}⟩
theorem bMZ:Fre bIV:=fun _ _ _ _ ⟨d1,d2,bF4,bF5,b,h⟩=>by
 subst b;obtain⟨az9,bw2,d,bPB,g⟩:=h.s1.fre bMQ;obtain⟨az2,bw4,e,c2,i⟩:=h.s2.fre bDO;refine⟨by simp[az9,az2,bFC],fun j=>bw2 j\/bw4 j,fun j a=> ?_,⟨d1,d2,bw2,bw4,rfl,⟨bPB,c2,fun j a=>(.inl a),fun j a=>(.inr a),fun j k bpZ=>h.x12 j (d j k) (e j bpZ)⟩⟩,fun j o a f=> ?_⟩
 ·rcases a with b|c;·exact h.aUV j (d j b)
  ·exact h.aUW j (e j c)
 ·rcases a with b|c;·exact g j o b f
  ·exact i j o c f
theorem bK4:Fzb 3 gF bIV:=fun _ _ _ _ ⟨d1,d2,bF4,bF5,a,h⟩=>⟨rfl,a▸byR (h.s1.frz bMS) (byR (h.s2.frz bBI) (byR (.same _ rfl) (bDK)))⟩
def bMI(x:CIn):Nat:=total bI6 x.ready+total bI6 x.n9+total bI6 x.send
def bNJ(k:Int)(x:CIn):CIn:=⟨marks bI6 bMF (k) x.ready,marks bI6 bMF (k+total bI6 x.ready) x.n9,marks bI6 bMF (k+total bI6 x.ready+total bI6 x.n9) x.send⟩
structure bNL(H:aA)(x:CIn)(F:Nat->Prop)(d1 d2 d3:D1)(bF4 bF5 bF6:Nat->Prop):Prop where
 s1:SlS 1 (byQ eH) H d1 x.ready bF4
 s2:SlS 1 (byQ eH) H d2 x.n9 bF5
 bp7:SlS 1 (byQ eH) H d3 x.send bF6
 aUV:Sub bF4 F
 aUW:Sub bF5 F
 aIG:Sub bF6 F
 x12:Dis bF4 bF5
 x13:Dis bF4 bF6
 x23:Dis bF5 bF6
def bLP:bAT CIn:=fun H r x F=>∃d1 d2 d3 bF4 bF5 bF6,r=[d1,d2,d3]/\bNL H x F d1 d2 d3 bF4 bF5 bF6
theorem bKN:Frm bLP:=fun _ _ _ _ _ ⟨d1,d2,d3,bF4,bF5,bF6,c,h⟩ b=>⟨d1,d2,d3,bF4,bF5,bF6,c,{h with s1:=h.s1.frame bp1 fun j a=>b j (h.aUV j a),s2:=h.s2.frame bp1 fun j a=>b j (h.aUW j a),bp7:=h.bp7.frame bp1 fun j a=>b j (h.aIG j a)}⟩
theorem bML:Fzb 3 eIn bLP:=fun _ _ _ _ ⟨d1,d2,d3,bF4,bF5,bF6,a,h⟩=>⟨rfl,a▸byR (h.s1.frz bMW) (byR (h.s2.frz bMW) (byR (h.bp7.frz bMW) (bDK)))⟩
def bC9(x:Cfg):Nat:=total byW x.map+total byK x.lat+total bzB x.cP
def bFD(k:Int)(x:Cfg):Cfg:=⟨marks byW bC0 (k) x.map,marks byK bzQ (k+total byW x.map) x.lat,marks bzB bDR (k+total byW x.map+total byK x.lat) x.cP⟩
structure bFL(H:aA)(x:Cfg)(F:Nat->Prop)(d1 d2 d3:D1)(bF4 bF5 bF6:Nat->Prop):Prop where
 s1:SlS 4 (byQ eN) H d1 x.map bF4
 s2:SlS 1 (byQ aJ) H d2 x.lat bF5
 bp7:SlS 1 bAW H d3 x.cP bF6
 aUV:Sub bF4 F
 aUW:Sub bF5 F
 aIG:Sub bF6 F
 x12:Dis bF4 bF5
 x13:Dis bF4 bF6
 x23:Dis bF5 bF6
def bBO:bAT Cfg:=fun H r x F=>∃d1 d2 d3 bF4 bF5 bF6,r=[d1,d2,d3]/\bFL H x F d1 d2 d3 bF4 bF5 bF6
theorem bAQ:Frm bBO:=fun _ _ _ _ _ ⟨d1,d2,d3,bF4,bF5,bF6,c,h⟩ b=>⟨d1,d2,d3,bF4,bF5,bF6,c,{h with s1:=h.s1.frame bp1 fun j a=>b j (h.aUV j a),s2:=h.s2.frame bp1 fun j a=>b j (h.aUW j a),bp7:=h.bp7.frame bAH fun j a=>b j (h.aIG j a)}⟩
theorem bEJ:Fzb 3 cU bBO:=fun _ _ _ _ ⟨d1,d2,d3,bF4,bF5,bF6,a,h⟩=>⟨rfl,a▸byR (h.s1.frz bEW) (byR (h.s2.frz bCV) (byR (h.bp7.frz bE0) (bDK)))⟩
def bIP(x:CSt):Nat:=total byK x.words+total byK x.holds+total bIK x.bM+total bII x.dD+total byJ x.told
def bKM(k:Int)(x:CSt):CSt:=⟨marks byK bzQ (k) x.words,marks byK bzQ (k+total byK x.words) x.holds,marks bIK bJH (k+total byK x.words+total byK x.holds) x.bM,marks bII bI9 (k+total byK x.words+total byK x.holds+total bIK x.bM) x.dD,marks byJ bzU (k+total byK x.words+total byK x.holds+total bIK x.bM+total bII x.dD) x.told⟩
structure bND(H:aA)(x:CSt)(F:Nat->Prop)(d1 d2 d3 bkS bk2:D1)(bF4 bF5 bF6 bF7 bF8:Nat->Prop):Prop where
 s1:SlS 1 (byQ aJ) H d1 x.words bF4
 s2:SlS 1 (byQ aJ) H d2 x.holds bF5
 bp7:SlS 4 bJA H d3 x.bM bF6
 bp8:SlS 3 bIV H bkS x.dD bF7
 bp9:SlS 5 bzL H bk2 x.told bF8
 aUV:Sub bF4 F
 aUW:Sub bF5 F
 aIG:Sub bF6 F
 aII:Sub bF7 F
 aUX:Sub bF8 F
 x12:Dis bF4 bF5
 x13:Dis bF4 bF6
 x14:Dis bF4 bF7
 x15:Dis bF4 bF8
 x23:Dis bF5 bF6
 x24:Dis bF5 bF7
 x25:Dis bF5 bF8
 x34:Dis bF6 bF7
 x35:Dis bF6 bF8
 x45:Dis bF7 bF8
def bIO:bAT CSt:=fun H r x F=>∃d1 d2 d3 bkS bk2 bF4 bF5 bF6 bF7 bF8,r=[d1,d2,d3,bkS,bk2]/\bND H x F d1 d2 d3 bkS bk2 bF4 bF5 bF6 bF7 bF8
theorem bIM:Frm bIO:=fun _ _ _ _ _ ⟨d1,d2,d3,bkS,bk2,bF4,bF5,bF6,bF7,bF8,c,h⟩ b=>⟨d1,d2,d3,bkS,bk2,bF4,bF5,bF6,bF7,bF8,c,{h with s1:=h.s1.frame bp1 fun j a=>b j (h.aUV j a),s2:=h.s2.frame bp1 fun j a=>b j (h.aUW j a),bp7:=h.bp7.frame bIL fun j a=>b j (h.aIG j a),bp8:=h.bp8.frame bIN fun j a=>b j (h.aII j a),bp9:=h.bp9.frame byI fun j a=>b j (h.aUX j a)}⟩
theorem bM5:Fre bIO:=fun _ _ _ _ ⟨d1,d2,d3,bkS,bk2,bF4,bF5,bF6,bF7,bF8,c,h⟩=>by
 subst c;obtain⟨az9,bw2,d,bPB,k⟩:=h.s1.fre bEL;obtain⟨az2,bw4,e,c2,l⟩:=h.s2.fre bEL;obtain⟨aAD,bw5,boX,bPO,m⟩:=h.bp7.fre bM7;obtain⟨aAE,bGA,boY,bPY,n⟩:=h.bp8.fre bMZ;obtain⟨aAA,bGB,boZ,bPZ,p⟩:=h.bp9.fre bDO;refine⟨by simp[az9,az2,aAD,aAE,aAA,bFC],fun j=>bw2 j\/bw4 j\/bw5 j\/bGA j\/bGB j,fun j b=> ?_,⟨d1,d2,d3,bkS,bk2,bw2,bw4,bw5,bGA,bGB,rfl,⟨bPB,c2,bPO,bPY,bPZ,fun j b=>(.inl b),fun j b=>(.inr (.inl b)),fun j b=>(.inr (.inr (.inl b))),fun j b=>(.inr (.inr (.inr (.inl b)))),fun j b=>(.inr (.inr (.inr (.inr b)))),fun j a bpZ=>h.x12 j (d j a) (e j bpZ),fun j a bpZ=>h.x13 j (d j a) (boX j bpZ),fun j a bpZ=>h.x14 j (d j a) (boY j bpZ),fun j a bpZ=>h.x15 j (d j a) (boZ j bpZ),fun j a bpZ=>h.x23 j (e j a) (boX j bpZ),fun j a bpZ=>h.x24 j (e j a) (boY j bpZ),fun j a bpZ=>h.x25 j (e j a) (boZ j bpZ),fun j a bpZ=>h.x34 j (boX j a) (boY j bpZ),fun j a bpZ=>h.x35 j (boX j a) (boZ j bpZ),fun j a bpZ=>h.x45 j (boY j a) (boZ j bpZ)⟩⟩,fun j o b f=> ?_⟩
 ·rcases b with c|g|i|k9|l1;·exact h.aUV j (d j c)
  ·exact h.aUW j (e j g)
  ·exact h.aIG j (boX j i)
  ·exact h.aII j (boY j k9)
  ·exact h.aUX j (boZ j l1)
 ·rcases b with c|g|i|k9|l1;·exact k j o c f
  ·exact l j o g f
  ·exact m j o i f
  ·exact n j o k9 f
  ·exact p j o l1 f
theorem bM1:Cvs bIO:=fun _ _ _ _ _ _ ⟨d1,d2,d3,bkS,bk2,bF4,bF5,bF6,bF7,bF8,c,h⟩ b=>c▸aH (h.s1.cv (fun j a=>b j (h.aUV j a))) (aH (h.s2.cv (fun j a=>b j (h.aUW j a))) (aH (h.bp7.cv (fun j a=>b j (h.aIG j a))) (aH (h.bp8.cv (fun j a=>b j (h.aII j a))) (aH (h.bp9.cv (fun j a=>b j (h.aUX j a))) (eP)))))
theorem bJ4:Fzb 5 eI bIO:=fun _ _ _ _ ⟨d1,d2,d3,bkS,bk2,bF4,bF5,bF6,bF7,bF8,a,h⟩=>⟨rfl,a▸byR (h.s1.frz bCV) (byR (h.s2.frz bCV) (byR (h.bp7.frz bLS) (byR (h.bp8.frz bK4) (byR (h.bp9.frz bBI) (bDK)))))⟩
theorem bFQ{α:Type}{RowP:bAT α}(m:Frm RowP)(n:Fre RowP)(hc:Cvs RowP){H:aA}{r:List D1}{x:α}{F:Nat->Prop}{nh:Nat}(h:RowP H r x F)(l: ∀j,F j->j<nh):
 ∃bp6:Nat->Prop,CvL H (fun j=>¬bp6 j) _root_.id nh r r/\RowP (without (fun j=>¬bp6 j) H) r x bp6/\bE9 (without (fun j=>¬bp6 j) H)/\r.all D1.free=true/\ ∀j,bp6 j->j<nh:=by
 obtain⟨a,bp6,b,c,e⟩:=n _ _ _ _ h
 refine⟨bp6,hc _ _ _ _ _ _ c fun j f=>l j (b j f),m _ _ _ _ _ c fun j f=>iI (fun h=>h f),fun i o k row g d p=> ?_,a,fun j f=>l j (b j f)⟩
 unfold without at k
 split at k
 ·cases k
 ·rename_i hi;exact e i o (Classical.not_not.1 hi) k row g d p
theorem bEA{α:Type}[Inhabited α]{H:aA}{n id m:Nat}{e:α->List D1}{l:List α}{F:Nat->Prop}(a:H id=some ⟨n,m,l.map e⟩)(hm:l.length<=m)(b:F id):SlS n (byQ e) H (.osl n id 0 l.length l.length) l F:=by
 by_cases hl:l=[]
 ·exact .inl ⟨hl,n,id,0,by rw[hl];rfl⟩
 ·exact .inr ⟨id,m,l.length,rfl,bGS.2 hl,m5 _,hm,_,_,bE8 a b default⟩
end Go.AM
namespace Go.Proofs.YtlncecohbakleaaGreat
open Go Go.AM
attribute [local irreducible] aM wv aB vd wvH
section
variable{H:aA}{nx:Nat}{K:bNX}
theorem bkC{c:Cfg}{s:CSt}{u:List Bool}{st:Nat}(b:aQ c)(hs:COk c s)(a:st<4)(hu:u.length=3):COk c (bhV c s u st).1/\(bhV c s u st).2.length=3:=by
 unfold bhV
 cases h:AO c s u st with
 |none=>exact⟨hs,hu⟩
 |some who=>exact⟨o9 b hs (XH a h),by simpa using hu⟩
theorem bi3{X:Nat->Prop}{c:Cfg}{i:CIn}{s:CSt}{nm:Nat->Nat}{cells:List D1}(hb:aQ c)(hs:COk c s)(hi:vZ i)(hR:bgJ X H nx nm s cells)
 (h: ∀H' nx' g w,nx<=nx'->bgJ X H' nx' g (vF c i s) w->(∀id,X id->H' id=H id)->K (boR w) H' nx'):
 bNW bgZ [boR (cU c),boR cells,boR (eIn i)] H nx K:=by
 refine cJ.mk Tryz.func77 (by kernel_rfl) biJ rfl fun Q hQ=> ?_
 unfold bgT
 have bPT:=hR.x
 obtain⟨dh,bt⟩:=hC hb
 obtain⟨di,dj,dk⟩:=hi
 obtain⟨B,V⟩: ∃B:Nat->Prop,B=fun id=>X id\/id=nx\/id=nx+1\/id=nx+2\/id=nx+3:=⟨_,rfl⟩
 have x0:B nx:=by rw[V];exact .inr (.inl rfl)
 have x1:B (nx+1):=by rw[V];exact .inr (.inr (.inl rfl))
 have bpZ:B (nx+2):=by rw[V];exact .inr (.inr (.inr (.inl rfl)))
 have aYM:B (nx+3):=by rw[V];exact .inr (.inr (.inr (.inr rfl)))
 have blE: ∀id,X id->B id:=fun id h=>by rw[V];exact .inl h
 have an: ∀id,B id->id<nx/\X id\/nx<=id/\id<=nx+3:=fun id h=>by
  rw[V] at h;rcases h with h|h|h|h|h;·exact .inl ⟨bPT id h,h⟩
  all_goals exact .inr (by omega)
 have I:=hR
 obtain⟨wc,hc,pc,vc,tc,mp,rp,mv,rv,l,g1,g2,g3,bO4,bPU,bkU,bkV,bp4,bp5,ga,gb⟩:=hR.get
 subst l
 repeat' first|apply bn1<;>(simp only[go_sem,boC])|fail
 refine aM.aTJ fun G bqK=> ?_
 have bfZ:G nx=some ⟨3,1,[cU c]⟩:=by rw[bqK,aA.aC (by omega),aA.aC (by omega),aA.aC (by omega)];exact aA.bH
 have bpR:G (nx+1)=some ⟨5,1,[[.osl 1 (nm 0) 0 s.words.length wc,.osl 1 (nm 1) 0 s.holds.length hc,.osl 4 (nm 2) 0 3 pc,.osl 3 (nm 3) 0 4 vc,.osl 5 (nm 4) 0 s.told.length tc]]⟩:=by rw[bqK,aA.aC (by omega),aA.aC (by omega)];exact aA.bH
 have f2:G (nx+2)=some ⟨3,1,[eIn i]⟩:=by rw[bqK,aA.aC (by omega)];exact aA.bH
 have bpS:G (nx+3)=some ⟨5,1,[[D1.osl 0 0 0 0 0,D1.osl 0 0 0 0 0,D1.osl 0 0 0 0 0,D1.osl 0 0 0 0 0,D1.osl 0 0 0 0 0]]⟩:=by rw[bqK];exact aA.bH
 have ff: ∀id,id<nx->G id=H id:=fun id d=>by rw[bqK,aA.aC (by omega),aA.aC (by omega),aA.aC (by omega),aA.aC (by omega)]
 clear bqK
 have bu:bgJ B G (nx+4) nm s [.osl 1 (nm 0) 0 s.words.length wc,.osl 1 (nm 1) 0 s.holds.length hc,.osl 4 (nm 2) 0 3 pc,.osl 3 (nm 3) 0 4 vc,.osl 5 (nm 4) 0 s.told.length tc]:=
  ⟨I.rep.frame fun k J=>ff _ (I.names.lt k J),⟨I.names.inj,fun k J=>by have:=I.names.lt k J;omega,fun k J hn=>by
   have h1:=I.names.lt k J
   rcases an _ hn with⟨_,Y⟩|Y
   ·exact I.names.av k J Y
   ·omega⟩,fun id d=>by rcases an id d with h|h<;>omega⟩
 clear hR I g1 g2 g3 bO4 bPU bkU bkV bp4 bp5 ga gb
 refine aM.gP (β:=Nat×(Nat->Nat)×List D1×CSt) (fun u=>en [(7,boP u.1),(6,.one (.c (.ptr 5 (nx+3) 0 0))),(5,.one (.c (.ptr 3 (nx+2) 0 0))),(4,.one (.c (.ptr 5 (nx+1) 0 0))),(3,.one (.c (.ptr 3 nx 0 0)))])
  (fun u H1 L=>u.1<=3/\COk c u.2.2.2/\bgJ B H1 L u.2.1 u.2.2.2 u.2.2.1/\H1 (nx+1)=some ⟨5,1,[u.2.2.1]⟩/\blD c (vT i) ([0,1,2].drop u.1) u.2.2.2 (CW c i s)/\ ∀id,B id->id≠nx+1->H1 id=G id) (fun u=>3-u.1) (0,nm,_,s)
  ⟨noF,_,by repeat' first|exact bo2|refine xqI rfl rfl ?_|refine xqP (by omega) rfl rfl ?_|fail,aK,by dsimp only;omega,hs,bu.frame (by omega) (fun _ _ _=>rfl),bpR,rfl,fun _ _ _=>rfl⟩ ?_
 rintro⟨k,az,dm,s1⟩ H1 L bw ⟨J,S,Z,t,bPG,f⟩ bpQ ba
 dsimp only at J S Z t bPG f
 have boU:=(f nx x0 (by omega)).trans bfZ
 have U:=(f (nx+2) bpZ (by omega)).trans f2
 have e3:=(f (nx+3) aYM (by omega)).trans bpS
 obtain⟨wc,hc,pc,vc,tc,mp,rp,mv,rv,l,g1,g2,g3,bO4,bPU,bkU,bkV,bp4,bp5,ga,gb⟩:=Z.get
 subst l
 have hB:bQ L [nx,nx+1,nx+2,nx+3]:=AM.apart (by simp) (by simp;omega)
 simp only[bQ,eZ] at hB
 by_cases q:k<3
 ·rw[ap4 q] at bPG
  cases hr:i.ready.getD k default with
  |false=>
   repeat' first|apply bn1<;>(simp only[go_sem,boC,boU,t,U,hr,hB];try simp (disch:=omega) only[Iw])|apply bn2 (by omega)|refine⟨by omega,?_⟩|fail
   all_goals exact ba _ _ _ (k+1,az,_,s1) noF _ (by omega) (by dsimp only;omega) (by repeat' first|exact bo2|refine xqI rfl rfl ?_|refine xqP (by omega) rfl rfl ?_|fail) aK ⟨by dsimp only;omega,S,Z.frame (by omega) (fun _ _ _=>rfl),t,bPG.none (agJ hr),f⟩
  |true=>
   repeat' first|apply bn1<;>(simp only[go_sem,boC,boU,t,U,hr,hB])|apply bn2 (by omega)|refine⟨by omega,?_⟩|fail
   refine bjM (X:=B) hb S q hr (Z.frame (nx':=L+11) (by omega) (fun _ _ _=>rfl)) fun H' nx' g w bb O P=> ?_;have q1:=(P (nx+1) x1).trans t;obtain⟨bc,bd,aj,bf,bg,_,_,_,_,y,_⟩:=O.get;subst y;have z:=bj1 hb S (o:=vT i s1 k) (fun m hm=>TB S q hm);(try simp only[go_sem,boC,q1]);repeat' first|apply bn1<;>(simp only[go_sem,boC,q1];try simp (disch:=omega) only[Iw])|fail
   exact ba _ _ _ (k+1,g,_,atS c s1 (vT i s1 k)) noF _ (by omega) (by dsimp only;omega) (by repeat' first|exact bo2|refine xqI rfl rfl ?_|refine xqP (by omega) rfl rfl ?_|fail) aK ⟨by dsimp only;omega,z,O.frame (by omega) (fun id h1 Y=>aA.aC fun he=>Y (he▸x1)),aA.bH,bPG.next,fun id d C=>by rw[aA.aC C,P id d];exact f id d C⟩
 ·have ao:k=3:=by omega
  subst ao;have bPG:=blD.nil bPG;subst bPG;repeat' first|apply bn1<;>(simp only[go_sem])|apply bn3 (by omega)|fail
  refine aM.gP (β:=Nat×(Nat->Nat)×List D1×CSt) (fun u=>en [(8,boP u.1),(6,.one (.c (.ptr 5 (nx+3) 0 0))),(5,.one (.c (.ptr 3 (nx+2) 0 0))),(4,.one (.c (.ptr 5 (nx+1) 0 0))),(3,.one (.c (.ptr 3 nx 0 0)))])
   (fun u H1 L=>u.1<=4/\COk c u.2.2.2/\bgJ B H1 L u.2.1 u.2.2.2 u.2.2.1/\H1 (nx+1)=some ⟨5,1,[u.2.2.1]⟩/\blD c (qW i) ([0,1,2,3].drop u.1) u.2.2.2 (QD c i s)/\ ∀id,B id->id≠nx+1->H1 id=G id) (fun u=>4-u.1) (0,az,_,CW c i s)
   ⟨noF,_,by repeat' first|exact bo2|refine xqI rfl rfl ?_|refine xqP (by omega) rfl rfl ?_|fail,aK,by dsimp only;omega,S,Z.frame (by omega) (fun _ _ _=>rfl),t,rfl,f⟩ ?_
  clear Z t f boU U e3 hB g1 g2 g3 bO4 bPU bkU bkV bp4 bp5 ga gb S;rintro⟨k,R,dn,s2⟩ H2 ak bx ⟨J,T,F,t,bPG,f⟩ bqG bh;dsimp only at J T F t bPG f;have boU:=(f nx x0 (by omega)).trans bfZ;have U:=(f (nx+2) bpZ (by omega)).trans f2;obtain⟨wc,hc,pc,vc,tc,mp,rp,mv,rv,l,g1,g2,g3,bO4,bPU,bkU,bkV,bp4,bp5,ga,gb⟩:=F.get;subst l;have hB:bQ ak [nx,nx+1,nx+2,nx+3]:=AM.apart (by simp) (by simp;omega);simp only[bQ,eZ] at hB;by_cases q:k<4
  ·rw[apX q] at bPG
   cases hr:i.n9.getD k default with
   |true=>
    repeat' first|apply bn1<;>(simp only[go_sem,boC,boU,t,U,hr,hB];try simp (disch:=omega) only[Iw])|apply bn2 (by omega)|refine⟨by omega,?_⟩|fail
    all_goals exact bh _ _ _ (k+1,R,_,s2) noF _ (by omega) (by dsimp only;omega) (by repeat' first|exact bo2|refine xqI rfl rfl ?_|refine xqP (by omega) rfl rfl ?_|fail) aK ⟨by dsimp only;omega,T,F.frame (by omega) (fun _ _ _=>rfl),t,bPG.none (aa0 (.inl hr)),f⟩
   |false=>
    repeat' first|apply bn1<;>(simp only[go_sem,boC,boU,t,U,hr,hB])|apply bn2 (by omega)|refine⟨by omega,?_⟩|fail
    refine bjR (X:=B) hb T q hr (F.frame (nx':=ak+13) (by omega) (fun _ _ _=>rfl)) fun H' nx' g w bb O P=> ?_;have q1:=(P (nx+1) x1).trans t;obtain⟨bc,bd,aj,bf,bg,_,_,_,_,y,_⟩:=O.get;subst y;have z:=bj1 hb T (o:=qW i s2 k) (fun m hm=>LM T q hm);(try simp only[go_sem,boC,q1]);repeat' first|apply bn1<;>(simp only[go_sem,boC,q1];try simp (disch:=omega) only[Iw])|fail
    exact bh _ _ _ (k+1,g,_,atS c s2 (qW i s2 k)) noF _ (by omega) (by dsimp only;omega) (by repeat' first|exact bo2|refine xqI rfl rfl ?_|refine xqP (by omega) rfl rfl ?_|fail) aK ⟨by dsimp only;omega,z,O.frame (by omega) (fun id h1 Y=>aA.aC fun he=>Y (he▸x1)),aA.bH,bPG.next,fun id d C=>by rw[aA.aC C,P id d];exact f id d C⟩
  ·have aq:k=4:=(by omega);subst aq;have bPG:=blD.nil bPG;subst bPG;repeat' first|apply bn1<;>(simp only[go_sem])|apply bn3 (by omega)|fail
   obtain⟨ub,bz⟩: ∃ub,ub=ak+2:=⟨_,rfl⟩
   rw[<-bz];obtain⟨X2,al⟩: ∃X2:Nat->Prop,X2=fun id=>B id\/id=ub:=⟨_,rfl⟩
   have y1:X2 (nx+1):=(by rw[al];exact .inl x1);have yu:X2 ub:=(by rw[al];exact .inr rfl);have blF: ∀id,B id->X2 id:=fun id h=>by rw[al];exact .inl h
   have ae: ∀id,X2 id->B id\/id=ub:=fun id h=>by rw[al] at h;exact h
   have M: ∀id,B id->id<nx+4:=fun id h=>by rcases an id h with h|h<;>omega
   obtain⟨aID,ad⟩: ∃aID,aID=H2.set ub ⟨1,3,[false,false,false].map eH⟩:=⟨_,rfl⟩
   have af:aA.set H2 ub ⟨1,3,[[D1.v (Value.bool false)],[D1.v (Value.bool false)],[D1.v (Value.bool false)]]⟩=aID:=ad.symm;rw[af];have bO8:aID (nx+1)=_:=(by rw[ad];exact aA.aC (by omega):aID (nx+1)=H2 (nx+1)).trans t;have ju:aID ub=some ⟨1,3,[false,false,false].map eH⟩:=(by rw[ad];exact aA.bH);have bj: ∀id,B id->id≠nx+1->aID id=G id:=fun id d C=>by rw[ad,aA.aC (by have:=M id d;omega)];exact f id d C
   have blG:bgJ X2 aID (ak+5) R (QD c i s) [.osl 1 (R 0) 0 (QD c i s).words.length wc,.osl 1 (R 1) 0 (QD c i s).holds.length hc,.osl 4 (R 2) 0 3 pc,.osl 3 (R 3) 0 4 vc,.osl 5 (R 4) 0 (QD c i s).told.length tc]:=
    ⟨F.rep.frame fun k J=>by rw[ad];exact aA.aC (by have:=F.names.lt k J;omega),⟨F.names.inj,fun k J=>by have:=F.names.lt k J;omega,fun k J hn=>by
     rcases ae _ hn with h|h
     ·exact F.names.av k J h
     ·have:=F.names.lt k J;omega⟩,fun id d=>by
     rcases ae id d with h|h
     ·have:=M id h;omega
     ·omega⟩
   clear F t f boU U hB g1 g2 g3 bO4 bPU bkU bkV bp4 bp5 ga gb ad af
   refine aM.gP (β:=Nat×(Nat->Nat)×List D1×CSt×List Bool) (fun u=>en [(10,boP u.1),(9,.one (.c (.osl 1 ub 0 3 3))),(6,.one (.c (.ptr 5 (nx+3) 0 0))),(5,.one (.c (.ptr 3 (nx+2) 0 0))),(4,.one (.c (.ptr 5 (nx+1) 0 0))),(3,.one (.c (.ptr 3 nx 0 0)))])
    (fun u H1 L=>u.1<=4/\COk c u.2.2.2.1/\u.2.2.2.2.length=3/\bgJ X2 H1 L u.2.1 u.2.2.2.1 u.2.2.1/\H1 (nx+1)=some ⟨5,1,[u.2.2.1]⟩/\H1 ub=some ⟨1,3,u.2.2.2.2.map eH⟩/\LV c ([0,1,2,3].drop u.1) u.2.2.2.1 u.2.2.2.2 (OI c i s)/\ ∀id,B id->id≠nx+1->H1 id=G id) (fun u=>4-u.1) (0,R,_,QD c i s,[false,false,false])
    ⟨noF,_,by repeat' first|exact bo2|refine xqI rfl rfl ?_|refine xqP (by omega) rfl rfl ?_|refine xqO (by omega) rfl rfl (by rfl) ?_|fail,aK,by dsimp only;omega,T,rfl,blG.frame (by omega) (fun _ _ _=>rfl),bO8,ju,rfl,bj⟩ ?_
   clear blG bO8 ju bj T;rintro⟨k,ca,dp,bp7,aIG⟩ H3 cb cc ⟨J,ag,ar,ah,t,eu,bPG,f⟩ bqR cd;dsimp only at J ag ar ah t eu bPG f;have boU:=(f nx x0 (by omega)).trans bfZ;have U:=(f (nx+2) bpZ (by omega)).trans f2;obtain⟨wc,hc,pc,vc,tc,mp,rp,mv,rv,l,g1,g2,g3,bO4,bPU,bkU,bkV,bp4,bp5,ga,gb⟩:=ah.get;subst l;have hB:bQ cb [nx,nx+1,nx+2,nx+3]:=AM.apart (by simp) (by simp;omega);simp only[bQ,eZ] at hB;by_cases q:k<4
   ·rw[apX q] at bPG;repeat' first|apply bn1<;>(simp only[go_sem,boC,boU,t,U,hB])|apply bn2 (by omega)|fail
    refine bjU (X:=X2) (um:=3) hb ag q ar (ah.frame (by omega) (fun _ _ _=>rfl)) yu eu (by omega) fun H' nx' g w bb O cf P=> ?_;have q1:=(P (nx+1) y1 (by omega)).trans t;obtain⟨bc,bd,aj,bf,bg,_,_,_,_,y,_⟩:=O.get;subst y;obtain⟨z,cg⟩:=bkC (u:=aIG) hb ag q ar;(try simp only[go_sem,boC,q1]);repeat' first|apply bn1<;>(simp only[go_sem,boC,q1];try simp (disch:=omega) only[Iw])|fail
    exact cd _ _ _ (k+1,g,_,(bhV c bp7 aIG k).1,(bhV c bp7 aIG k).2) noF _ (by omega) (by dsimp only;omega) (by repeat' first|exact bo2|refine xqI rfl rfl ?_|refine xqP (by omega) rfl rfl ?_|refine xqO (by omega) rfl rfl (by rfl) ?_|fail) aK ⟨by dsimp only;omega,z,cg,O.frame (by omega) (fun id h1 Y=>aA.aC fun he=>Y (he▸y1)),aA.bH,by rw[aA.aC (by omega)];exact cf,bPG.bkK,fun id d C=>by rw[aA.aC C,P id (blF id d) (by have:=M id d;omega)];exact f id d C⟩
   ·have aq:k=4:=(by omega);subst aq;have bPG:bp7=OI c i s:=bPG;subst bPG;repeat' first|apply bn1<;>(simp only[go_sem])|apply bn3 (by omega)|fail
    have blG:=ah.sub blF;clear ah boU U hB g1 g2 g3 bO4 bPU bkU bkV bp4 bp5 ga gb eu
    refine aM.gP (β:=Nat×(Nat->Nat)×List D1×CSt) (fun u=>en [(11,boP u.1),(6,.one (.c (.ptr 5 (nx+3) 0 0))),(5,.one (.c (.ptr 3 (nx+2) 0 0))),(4,.one (.c (.ptr 5 (nx+1) 0 0))),(3,.one (.c (.ptr 3 nx 0 0)))])
     (fun u H1 L=>u.1<=3/\COk c u.2.2.2/\bgJ B H1 L u.2.1 u.2.2.2 u.2.2.1/\H1 (nx+1)=some ⟨5,1,[u.2.2.1]⟩/\blD c (PA c i) ([0,1,2].drop u.1) u.2.2.2 (vF c i s)/\ ∀id,B id->id≠nx+1->H1 id=G id) (fun u=>3-u.1) (0,ca,_,OI c i s)
     ⟨noF,_,by repeat' first|exact bo2|refine xqI rfl rfl ?_|refine xqP (by omega) rfl rfl ?_|fail,aK,by dsimp only;omega,ag,blG.frame (by omega) (fun _ _ _=>rfl),t,rfl,f⟩ ?_
    clear blG t f ag;rintro⟨k,n,dq,bp8⟩ bqL D ch ⟨J,A,E,t,bPG,f⟩ aNB au;dsimp only at J A E t bPG f;have boU:=(f nx x0 (by omega)).trans bfZ;have U:=(f (nx+2) bpZ (by omega)).trans f2;have e3:=(f (nx+3) aYM (by omega)).trans bpS;have I:=E;obtain⟨wc,hc,pc,vc,tc,mp,rp,mv,rv,l,g1,g2,g3,bO4,bPU,bkU,bkV,bp4,bp5,ga,gb⟩:=E.get;subst l;have hB:bQ D [nx,nx+1,nx+2,nx+3]:=AM.apart (by simp) (by simp;omega);simp only[bQ,eZ] at hB;by_cases q:k<3
    ·rw[ap4 q] at bPG;by_cases hg:i.send.getD k default=true/\(aF bp8 k).queue.length<2/\(aF bp8 k).next<(c.cP.getD k default).length
     case neg=>
      have boT:PA c i bp8 k=none:=by unfold PA;exact if_neg hg
      cases hr:i.send.getD k default with
      |false=>
       repeat' first|apply bn1<;>(simp only[go_sem,boC,boU,t,U,hr,hB];try simp (disch:=omega) only[Iw])|apply bn2 (by omega)|refine⟨by omega,?_⟩|fail
       all_goals exact au _ _ _ (k+1,n,_,bp8) noF _ (by omega) (by dsimp only;omega) (by repeat' first|exact bo2|refine xqI rfl rfl ?_|refine xqP (by omega) rfl rfl ?_|fail) aK ⟨by dsimp only;omega,A,E.frame (by omega) (fun _ _ _=>rfl),t,bPG.none boT,f⟩
      |true=>
       have aw:decide ((aF bp8 k).queue.length<2/\(aF bp8 k).next<(c.cP.getD k default).length)=false:=decide_eq_false fun h=>hg ⟨hr,h⟩;repeat' first| (first|apply bn1|refine bhT hb A q (I.ar5 A.pl A.sl (fun id d=>rfl)) ?_)<;>(simp only[go_sem,boC,boU,t,U,hr,aw,hB];try simp (disch:=omega) only[Iw])|apply bn2 (by omega)|refine⟨by omega,?_⟩|fail
       all_goals exact au _ _ _ (k+1,n,_,bp8) noF _ (by omega) (by dsimp only;omega) (by repeat' first|exact bo2|refine xqI rfl rfl ?_|refine xqP (by omega) rfl rfl ?_|fail) aK ⟨by dsimp only;omega,A,E.frame (by omega) (fun _ _ _=>rfl),t,bPG.none boT,f⟩
     have boT:PA c i bp8 k=some (.ask k):=(by unfold PA;exact if_pos hg);obtain⟨hr,bk,bm⟩:=hg;have aw:decide ((aF bp8 k).queue.length<2/\(aF bp8 k).next<(c.cP.getD k default).length)=true:=decide_eq_true ⟨bk,bm⟩;obtain⟨p,hp⟩: ∃p,aF bp8 k=p:=⟨_,rfl⟩
     obtain⟨qo,qc,oc,gr,gq,go⟩:=ga k q;rw[hp] at gr gq go bk bm;obtain⟨ai,_⟩:=(A.port k q).next;rw[hp] at ai;have dr:=bt k;have lt:=E.names.lt;have n2:=lt 2 (by omega);have az8:=lt (5+k) (by omega);have az2: ∀x,B x->n 2≠x:=fun x hx he=>E.names.av 2 (by omega) (he▸hx);have aAA: ∀x,B x->n (5+k)≠x:=fun x hx he=>E.names.av (5+k) (by omega) (he▸hx);have bn:bQ D ([2,5+k].map n):=AM.apart (E.names.list (by simp;omega) (by simp;omega)) (fun x hx=>by obtain⟨j,hj,rfl⟩:=CF.1 hx;exact lt j (by simp at hj;omega));simp only[bQ,eZ,List.map] at bn;have cj:=eq_false (az2 _ x0);have ck:=eq_false (az2 _ x1);have cl:=eq_false (az2 _ bpZ);have cm:=eq_false (az2 _ aYM);have cn:=eq_false (aAA _ x0);have cp:=eq_false (aAA _ x1);have cq:=eq_false (aAA _ bpZ);have cr:=eq_false (aAA _ aYM);have ct:=eq_false (az2 _ x0).symm;have cu:=eq_false (az2 _ x1).symm;have cw:=eq_false (az2 _ bpZ).symm;have cx:=eq_false (aAA _ x1).symm;have k1: ∀(G:aA) (b k:Nat),msk (D+b) [k] G (nx+1)=G (nx+1):=fun G b k=>mk1 (by omega);have k2: ∀(G:aA) (b k:Nat),msk (D+b) [k] G (n 2)=G (n 2):=fun G b k=>mk1 (by omega);have bPE: ∀(G:aA) (b j:Nat),msk (D+b) [j] G (n (5+k))=G (n (5+k)):=fun G b j=>mk1 (by omega);obtain⟨mq,rq0,blH,blI,aEP,blJ,aEQ,blK⟩:=gq.ex;rw[bqW] at blJ;have cy:List.take p.queue.length (List.drop qo rq0)=p.queue.map aJ:=(by rw[blI,boL (by simp)]);have bo: ∀r,(rp.set k r)[k]?=some r:=fun r=>by rw[bqZ (by omega)]
     repeat' first| (first|apply bn1|refine bhT hb A q (I.ar5 A.pl A.sl (fun id d=>rfl)) ?_)<;>(simp only[go_sem,boC,boU,t,U,hr,aw,g1,gr,blH,cy,bo,k1,k2,bPE,bq1,hB,bn,cj,ck,cl,cm,cn,cp,cq,cr,ct,cu,cw,cx];try simp (disch:=omega) only[Iw])|apply bn2 (by omega)| (with_reducible first|refine fun(cap:Nat) (cz:_<=cap)=> ?_|refine fun(ds:_<=cap)=> ?_)|refine⟨by omega,?_⟩|fail
     have hex:(p.queue++[p.next]).map aJ=(p.queue++[p.next]).map aJ:=rfl;obtain⟨s',z⟩: ∃s',s'=aR c bp8 (.ask k):=⟨_,rfl⟩
     have ax:COk c s':=(by rw[z];exact o9 hb A (YH A q boT));have bPG:=bPG.next;rw[boT,show atS c bp8 (some (.ask k))=s' from z.symm] at bPG;have aa:aF s' k= {p with queue:=p.queue++[p.next],next:=p.next+1}:=(by rw[z,bL rfl (by rw[A.pl];omega),if_pos rfl,hp]);have inj:=E.names.inj;refine af0 (K:=aNB) fun W aYL=> ?_;have da:W (D+29)=some ⟨1,cap,(p.queue++[p.next]).map aJ⟩:=(by rw[aYL];simp (disch:=omega) only[aA.aC,aA.bH]);have bqI:W (n 2)=some ⟨4,mp,rp.set k [cI (p.next+1),.osl 1 (D+29) 0 (p.queue.length+1) cap,.osl 3 (n (8+k)) 0 p.out.length oc,cI p.last]⟩:=(by rw[aYL];exact aA.bH);have wf: ∀id,id<D->id≠n 2->id≠n (5+k)->W id=bqL id:=fun id h1 Y h3=>by rw[aYL];simp (disch:=omega) only[aA.aC,aA.jG]
     clear aYL;have blL: ∀id,B id->W id=bqL id:=fun id d=>wf id (by have:=M id d;omega) (fun he=>az2 id d he.symm) (fun he=>aAA id d he.symm);have wk: ∀a,a<19->a≠2->a≠5+k->W (n a)=bqL (n a):=fun a h1 Y h3=>wf _ (lt a h1) (fun he=>Y (inj a 2 h1 (by omega) he)) (fun he=>h3 (inj a (5+k) h1 (by omega) he));obtain⟨g,ab⟩: ∃g,g=put n (5+k) (D+29):=⟨_,rfl⟩
     have N: ∀a,a≠5+k->g a=n a:=fun a h1=>by rw[ab,jE h1]
     have bp:g (5+k)=D+29:=(by rw[ab,t8]);have l2:Names B (D+49) g:=(by rw[ab];exact E.names.put (by omega) (by omega) (fun hn=>by have:=M _ hn;omega));have bq:s'.words=bp8.words:=(by rw[z];rfl);have br:s'.holds=bp8.holds:=(by rw[z];rfl);have bs:s'.told=bp8.told:=(by rw[z];rfl);have bqH:W (nx+1)=some ⟨5,1,[[.osl 1 (g 0) 0 s'.words.length wc,.osl 1 (g 1) 0 s'.holds.length hc,.osl 4 (g 2) 0 3 pc,.osl 3 (g 3) 0 4 vc,.osl 5 (g 4) 0 s'.told.length tc]]⟩:=(by rw[blL _ x1,t,bq,br,bs,N 0 (by omega),N 1 (by omega),N 2 (by omega),N 3 (by omega),N 4 (by omega)]);refine au _ _ _ (k+1,g,_,s') noF _ (by omega) (by dsimp only;omega) (by repeat' first|exact bo2|refine xqI rfl rfl ?_|refine xqP (by omega) rfl rfl ?_|fail) aK ⟨by dsimp only;omega,ax,⟨⟨⟨wc,hc,pc,vc,tc,rfl,?_,?_,?_,bkU,bkV⟩,⟨mp,rp.set k [cI (p.next+1),.osl 1 (D+29) 0 (p.queue.length+1) cap,.osl 3 (n (8+k)) 0 p.out.length oc,cI p.last],?_,by rw[Y5,bp4],fun j hj=> ?_⟩,⟨mv,rv,?_,bp5,fun j hj=> ?_⟩⟩,l2,fun id d=>by have:=M id d;omega⟩,bqH,bPG,fun id d C=>(blL id d).trans (f id d C)⟩;·dsimp only;rw[bq,N 0 (by omega)];exact g3.frame (wk 0 (by omega) (by omega) (by omega))
     ·dsimp only;rw[br,N 1 (by omega)];exact bO4.frame (wk 1 (by omega) (by omega) (by omega))
     ·dsimp only;rw[bs,N 4 (by omega)];exact bPU.frame (wk 4 (by omega) (by omega) (by omega))
     ·dsimp only;rw[N 2 (by omega)];exact bqI
     ·dsimp only;by_cases ay:j=k
      ·subst ay;refine⟨_,bo _,⟨0,cap,oc,?_,?_,?_⟩⟩;·rw[aa,bp,N (8+j) (by omega)];simp only[af5,t2,List.length_singleton]
       ·rw[aa,bp];exact⟨cap,_,da,rfl,by simp,by simp,by simp;omega,by omega⟩
       ·rw[aa,N (8+j) (by omega)];exact go.frame (wk (8+j) (by omega) (by omega) (by omega))
      ·obtain⟨db,dc,dd,v1,v2,aXN⟩:=ga j hj;have e:aF s' j=aF bp8 j:=(by rw[z,bL rfl (by rw[A.pl];omega),if_neg ay]);refine⟨_,by rw[bq0 (Ne.symm ay)];exact v1,⟨db,dc,dd,?_,?_,?_⟩⟩;·rw[e,N (5+j) (by omega),N (8+j) (by omega)];rfl
       ·rw[e,N (5+j) (by omega)];exact v2.frame (wk (5+j) (by omega) (by omega) (by omega))
       ·rw[e,N (8+j) (by omega)];exact aXN.frame (wk (8+j) (by omega) (by omega) (by omega))
     ·dsimp only;rw[N 3 (by omega)];exact(wk 3 (by omega) (by omega) (by omega)).trans g2
     ·dsimp only;obtain⟨de,aj,df,dg,v1,v2,aXN⟩:=gb j hj;have e:aL s' j=aL bp8 j:=(by rw[z];rfl);refine⟨_,v1,⟨de,aj,df,dg,?_,?_,?_⟩⟩;·rw[e,N (11+j) (by omega),N (15+j) (by omega)];rfl
      ·rw[e,N (11+j) (by omega)];exact v2.frame (wk (11+j) (by omega) (by omega) (by omega))
      ·rw[e,N (15+j) (by omega)];exact aXN.frame (wk (15+j) (by omega) (by omega) (by omega))
    ·have ao:k=3:=(by omega);subst ao;have bPG:=blD.nil bPG;subst bPG;repeat' first|apply bn1<;>(simp only[go_sem,t,e3,hB,boC])|apply bn3 (by omega)|fail
     refine hQ _ _ _ _ _ (.inr rfl) (LL rfl aA.bH rfl) ?_;refine h _ _ n _ (by omega) ((E.frame (by omega) fun id h1 Y=>aA.aC fun he=>Y (he▸aYM)).sub blE) fun id d=> ?_;rw[aA.aC (by have:=bPT id d;omega),f id (blE id d) (by have:=bPT id d;omega)];exact ff id (bPT id d)
theorem bjQ{s:CSt}(hs:CSz s)
 (h: ∀H' nx' nm cells,nx<=nx'->abY H' nm s cells->Part (fun k=>k<19) nx nx' nm->(∀id,id<nx->H' id=H id)->K (boR cells) H' nx'):
 bNW bg9 [boR (eI s)] H nx K:=by
 have bz:=hs.pl
 have ca:=hs.sl
 refine cJ.mk Tryz.func103 (by kernel_rfl) biR rfl fun Q hQ=> ?_
 unfold bg0
 refine aM.EJ 4 (aM.EJ 3 ?_)
 repeat' first| (first|apply bn1|refine aQE (w:=s.words) (u:=s.holds) hs.w hs.h (fun H1 b boW b1 c0 bPB M E h3 bk bm F=> ?_))<;>(simp only[go_sem,boC])|fail
 generalize aU3:dT (nx+4) [7] _ H1=U
 have aUW:U (nx+2)=some ⟨5,1,[eI s]⟩:=by rw[<-aU3,um1 (by omega),F _ (by omega),aA.aC (by omega)];exact aA.bH
 have aIG:U (nx+3)=some ⟨5,1,[[.osl 0 0 0 0 0,.osl 0 0 0 0 0,.osl 0 0 0 0 0,.osl 0 0 0 0 0,.osl 0 0 0 0 0]]⟩:=by rw[<-aU3,um1 (by omega),F _ (by omega)];exact aA.bH
 have bn:U (nx+11)=some ⟨5,1,[[.osl 0 0 0 0 0,.osl 0 0 0 0 0,.osl 0 0 0 0 0,.osl 0 0 0 0 0,.osl 0 0 0 0 0]]⟩:=by rw[<-aU3,show nx+11=nx+4+7 by omega,aH6];exact aA.bH
 have aXL:U nx=some ⟨4,0,[]⟩:=by rw[<-aU3,um1 (by omega),F _ (by omega),aA.aC (by omega),aA.aC (by omega),aA.aC (by omega)];exact aA.bH
 have aUV:U (nx+1)=some ⟨3,0,[]⟩:=by rw[<-aU3,um1 (by omega),F _ (by omega),aA.aC (by omega),aA.aC (by omega)];exact aA.bH
 have bo:Own aJ 1 U boW c0 s.words:=bk.of (by rw[<-aU3,um1 (by omega)])
 have bp:Own aJ 1 U b1 bPB s.holds:=bm.of (by rw[<-aU3,um1 (by omega)])
 have uf: ∀id,id<nx->U id=H id:=fun id z=>by rw[<-aU3,um1 (by omega),F _ (by omega),aA.aC (by omega),aA.aC (by omega),aA.aC (by omega),aA.aC (by omega),mk1 (by omega)]
 clear aU3 bk bm F
 have m0: ∀G:aA,msk (nx+4) [7] G (nx+2)=G (nx+2):=fun G=>mk1 (by omega)
 refine⟨fun _=>by rw[m0,aUW];rfl,?_⟩
 refine aNQ (l:=s.told) hs.t.1 hs.t.2 fun H2 I b2 c2 k9 l1 O C=> ?_
 simp only[go_sem,m0]
 generalize bPP:dT (nx+4) [7] U H2=V
 have v2:V (nx+2)=some ⟨5,1,[eI s]⟩:=by rw[<-bPP,um1 (by omega),C _ (by omega),mk1 (by omega)];exact aUW
 have aXN:V (nx+3)=some ⟨5,1,[[.osl 0 0 0 0 0,.osl 0 0 0 0 0,.osl 0 0 0 0 0,.osl 0 0 0 0 0,.osl 0 0 0 0 0]]⟩:=by rw[<-bPP,um1 (by omega),C _ (by omega),mk1 (by omega)];exact aIG
 have v11:V (nx+11)=some ⟨5,1,[[.osl 0 0 0 0 0,.osl 0 0 0 0 0,.osl 0 0 0 0 0,.osl 0 0 0 0 0,.osl 0 0 0 0 0]]⟩:=by rw[<-bPP,show nx+11=nx+4+7 by omega,aH6];exact bn
 have v0:V nx=some ⟨4,0,[]⟩:=by rw[<-bPP,um1 (by omega),C _ (by omega),mk1 (by omega)];exact aXL
 have v1:V (nx+1)=some ⟨3,0,[]⟩:=by rw[<-bPP,um1 (by omega),C _ (by omega),mk1 (by omega)];exact aUV
 have cb:Own aJ 1 V boW c0 s.words:=bo.of (by rw[<-bPP,um1 (by omega),C _ (by omega),mk1 (by omega)])
 have cc:Own aJ 1 V b1 bPB s.holds:=bp.of (by rw[<-bPP,um1 (by omega),C _ (by omega),mk1 (by omega)])
 have cd:Own aS 5 V b2 c2 s.told:=O.of (by rw[<-bPP,um1 (by omega)])
 have vf: ∀id,id<nx->V id=H id:=fun id z=>by rw[<-bPP,um1 (by omega),C _ (by omega),mk1 (by omega)];exact uf id z
 clear bPP O C aXL aUV aUW aIG bn bo bp uf
 have hA:bQ I [nx+2,nx+3,nx+11]:=AM.apart (by simp) (by simp;omega)
 simp only[bQ,eZ] at hA
 (try simp only[go_sem,boC,v2,aXN,v11,hA,boC]);repeat' first|apply bn1<;>(simp only[go_sem,boC,v2,aXN,v11,hA,boC])|fail
 refine aM.tW _ _ noF (fun t=>.inl rfl) (KO (i:=nx+11) (o':=⟨5,1,[[.osl 1 boW 0 s.words.length c0,.osl 1 b1 0 s.holds.length bPB,.osl 4 nx 0 0 0,.osl 3 (nx+1) 0 0 0,.osl 5 b2 0 s.told.length c2]]⟩) aA.bH (aP (aH (.osl _ _ _ _ _ (by omega)) (aH (.osl _ _ _ _ _ (by omega)) (aH (.VS ..) (aH (.VS ..) (aH (.osl _ _ _ _ _ (by omega)) eP))))))) ?_
 refine aM.TF fun G bqK=> ?_
 have cf:G (nx+11)=some ⟨5,1,[[.osl 1 boW 0 s.words.length c0,.osl 1 b1 0 s.holds.length bPB,.osl 4 nx 0 0 0,.osl 3 (nx+1) 0 0 0,.osl 5 b2 0 s.told.length c2]]⟩:=by rw[bqK];exact aA.bH
 have df: ∀id,id≠nx+11->G id=V id:=fun id z=>by rw[bqK,aA.aC z,aA.aC z]
 clear bqK
 refine aM.gP (β:=Nat×(Nat->Nat)×Nat) (fun u=>en [(4,boP u.1),(3,.one (.c (.ptr 5 (nx+11) 0 0))),(2,.one (.c (.ptr 5 (nx+3) 0 0))),(1,.one (.c (.ptr 5 (nx+2) 0 0)))])
  (fun u H1 b=>u.1<=3/\(u.2.1 0=boW/\u.2.1 1=b1/\u.2.1 3=nx+1/\u.2.1 4=b2)/\Part (fun j=>j<5\/(5<=j/\j<5+u.1)\/(8<=j/\j<8+u.1)) nx b u.2.1/\(u.2.1 2=nx\/I<=u.2.1 2)/\(∀j,(5<=j/\j<5+u.1)\/(8<=j/\j<8+u.1)->I<=u.2.1 j)/\H1 (nx+11)=some ⟨5,1,[[.osl 1 boW 0 s.words.length c0,.osl 1 b1 0 s.holds.length bPB,.osl 4 (u.2.1 2) 0 u.1 u.2.2,.osl 3 (nx+1) 0 0 0,.osl 5 b2 0 s.told.length c2]]⟩/\(∃m rows,H1 (u.2.1 2)=some ⟨4,m,rows⟩/\bkN u.1 H1 u.2.1 s rows/\u.1<=u.2.2/\u.2.2<=m)/\ ∀id,id<I->id≠nx->id≠nx+11->H1 id=V id)
  (fun u=>3-u.1) (0,biB nx boW b1 b2,0) ⟨noF,_,by repeat' first|exact bo2|refine xqI rfl rfl ?_|refine xqP (by omega) rfl rfl ?_|fail,aK,by dsimp only;omega,⟨rfl,rfl,rfl,rfl⟩,(bj0 (n:=I+1) (by omega) E (by omega) (by omega)).mono (by omega),.inl rfl,fun j g=>by dsimp only at g;omega,cf,⟨0,[],(df nx (by omega)).trans v0,⟨rfl,fun j g=>by dsimp only at g;omega⟩,m5 _,m5 _⟩,fun id _ _ z=>df id z⟩ ?_
 rintro⟨k,nm,P⟩ H1 b de ⟨hk,⟨n0,bp0,bqP,az7⟩,boS,bq,J,ah,⟨m,rows,gp,⟨R,aj⟩,br,cg⟩,L⟩ bpQ ch
 dsimp only at hk n0 bp0 bqP az7 boS bq J ah gp R aj br cg
 have g2:H1 (nx+2)=some ⟨5,1,[eI s]⟩:=(L _ (by omega) (by omega) (by omega)).trans v2
 obtain⟨ip,S⟩: ∃ip,ip=nm 2:=⟨_,rfl⟩
 have ak:=boS.rng 2 (.inl (by omega))
 rw[<-S] at ah gp bq ak
 have al:bQ b [nx+2,nx+3,nx+11,ip]:=AM.apart (by simp;omega) (by simp;omega)
 simp only[bQ,eZ] at al
 have bs:List.take k rows=rows:=boL (by omega)
 by_cases an:k<3
 ·obtain⟨p,T⟩: ∃p,p=aF s k:=⟨_,rfl⟩
  have ao:s.bM.getD k default=p:=T.symm;obtain⟨hq,ho⟩:=hs.port k an;rw[<-T] at hq ho;refine aM.BW fun X=> ?_;have Y: ∀k l,msk (b+k) l H1=H1:=fun k l=>BV X (by omega);repeat' first|apply bn1<;>(simp only[go_sem,boC,Y,umS (G:=H1),umD (G:=H1),umB,msk,List.map,t3,bq7,or_false,ao,bs,R,g2,ah,gp,al,bz];try simp (disch:=omega) only[Iw])|apply bn2 (by omega)| (with_reducible first|refine fun(cap:Nat) (Z:_<=cap)=> ?_|refine fun(bt:_<=cap)=> ?_)|refine⟨by omega,?_⟩|fail
  rename_i cq cj ck co cl cm;refine af0 (K:=bpQ) fun W aYL=> ?_;have cn:W (b+28)=some ⟨4,cap,rows++[[cI p.next,.osl 1 (b+19) 0 p.queue.length cq,.osl 3 (b+23) 0 p.out.length co,cI p.last]]⟩:=by rw[aYL,aA.aC (by omega)];exact aA.bH
  have cr:W (b+19)=some ⟨1,cq,p.queue.map aJ⟩:=by rw[aYL];simp (disch:=omega) only[aA.aC,aA.bH]
  have ct:W (b+23)=some ⟨3,co,p.out.map eCJ⟩:=by rw[aYL];simp (disch:=omega) only[aA.aC,aA.bH]
  have aq:W (nx+11)=some ⟨5,1,[[.osl 1 boW 0 s.words.length c0,.osl 1 b1 0 s.holds.length bPB,.osl 4 (b+28) 0 (k+1) cap,.osl 3 (nx+1) 0 0 0,.osl 5 b2 0 s.told.length c2]]⟩:=by rw[aYL];exact aA.bH
  have wf: ∀id,id<b->id≠ip->id≠nx+11->W id=H1 id:=fun id d1 d2 d3=>by rw[aYL];simp (disch:=omega) only[aA.aC,aA.jG]
  clear aYL;obtain⟨f,d⟩: ∃f,f=put (put (put nm (5+k) (b+19)) (8+k) (b+23)) 2 (b+28):=⟨_,rfl⟩
  have p2:f 2=b+28:=by rw[d,t8]
  have p5:f (5+k)=b+19:=by rw[d,jE (by omega),jE (by omega),t8]
  have bk9:f (8+k)=b+23:=by rw[d,jE (by omega),t8]
  have N: ∀a,a≠2->a≠5+k->a≠8+k->f a=nm a:=fun a M E h3=>by rw[d,jE M,jE h3,jE E]
  have ar:Part (fun j=>j<5\/(5<=j/\j<5+(k+1))\/(8<=j/\j<8+(k+1))) nx (b+29) f:=by rw[d];exact((boS.put (B:=fun j=>j<5\/(5<=j/\j<5+(k+1))\/(8<=j/\j<8+k)) (hi':=b+23) (by omega) (by omega) (by omega) (fun j g=>by first|omega| (dsimp only at*;omega))).put (B:=fun j=>j<5\/(5<=j/\j<5+(k+1))\/(8<=j/\j<8+(k+1))) (hi':=b+28) (by omega) (by omega) (by omega) (fun j g=>by first|omega| (dsimp only at*;omega))).put (by omega) (by omega) (by omega) (fun j g=>by first|omega| (dsimp only at*;omega))
  clear d;refine ch _ _ _ (k+1,f,cap) noF _ (by omega) (by dsimp only;omega) (by repeat' first|exact bo2|refine xqI rfl rfl ?_|refine xqP (by omega) rfl rfl ?_|fail) aK ⟨by dsimp only;omega,⟨(N 0 (by omega) (by omega) (by omega)).trans n0,(N 1 (by omega) (by omega) (by omega)).trans bp0,(N 3 (by omega) (by omega) (by omega)).trans bqP,(N 4 (by omega) (by omega) (by omega)).trans az7⟩,ar.mono (by omega),.inr (by dsimp only;omega),fun j g=> ?_,?_,⟨cap,rows++[[cI p.next,.osl 1 (b+19) 0 p.queue.length cq,.osl 3 (b+23) 0 p.out.length co,cI p.last]],?_,⟨?_,fun j g=> ?_⟩,by dsimp only;omega,m5 _⟩,fun id d1 d2 d3=> ?_⟩
  ·dsimp only at g ⊢;by_cases e1:j=5+k;·rw[e1,p5];omega
   ·by_cases e2:j=8+k;·rw[e2,bk9];omega
    ·rw[N j (by omega) e1 e2];exact J j (by omega)
  ·dsimp only;rw[p2];exact aq
  ·dsimp only;rw[p2];exact cn
  ·rw[t2,R];rfl
  ·dsimp only at g ⊢;by_cases au:j=k
   ·subst au;refine⟨_,by rw[brX (by omega),R,brJ];rfl,⟨0,cq,co,?_,?_,?_⟩⟩;·rw[p5,bk9,<-T];rfl
    ·rw[p5,<-T];exact⟨cq,p.queue.map aJ,cr,rfl,by simp,by simp,cj,by omega⟩
    ·rw[bk9,<-T];exact⟨co,p.out.map eCJ,ct,rfl,by simp,by simp,cl,by omega⟩
   ·obtain⟨r,M,E⟩:=aj j (by omega);have aAA:=boS.rng (5+j) (.inr (.inl ⟨by omega,by omega⟩));have aAB:=boS.rng (8+j) (.inr (.inr ⟨by omega,by omega⟩));have q5:=J (5+j) (.inl (by omega));have aEM:=J (8+j) (.inr (by omega));refine⟨r,by rw[brO (by omega)];exact M,?_⟩;rw[N (5+j) (by omega) (by omega) (by omega),N (8+j) (by omega) (by omega) (by omega)];exact E.frame (wf _ (by omega) (fun he=>by have:=boS.inj (5+j) 2 (.inr (.inl ⟨by omega,by omega⟩)) (.inl (by omega)) (he.trans S);omega) (by omega)) (wf _ (by omega) (fun he=>by have:=boS.inj (8+j) 2 (.inr (.inr ⟨by omega,by omega⟩)) (.inl (by omega)) (he.trans S);omega) (by omega))
  ·rw[wf id (by omega) (by omega) d3];exact L id d1 d2 d3
 ·repeat' first|apply bn1<;>(simp only[go_sem,g2])|apply bn3 (by omega)|fail
  have cu:k=3:=by omega
  subst cu;have g1:H1 (nx+1)=some ⟨3,0,[]⟩:=(L _ (by omega) (by omega) (by omega)).trans v1;clear al bs
  refine aM.gP (β:=Nat×(Nat->Nat)×Nat) (fun u=>en [(6,boP u.1),(3,.one (.c (.ptr 5 (nx+11) 0 0))),(2,.one (.c (.ptr 5 (nx+3) 0 0))),(1,.one (.c (.ptr 5 (nx+2) 0 0)))])
   (fun u H2 n2=>u.1<=4/\(∀j,j<11->j≠3->u.2.1 j=nm j)/\Part (fun j=>j<11\/(11<=j/\j<11+u.1)\/(15<=j/\j<15+u.1)) nx n2 u.2.1/\(u.2.1 3=nx+1\/b<=u.2.1 3)/\(∀j,(11<=j/\j<11+u.1)\/(15<=j/\j<15+u.1)->b<=u.2.1 j)/\H2 (nx+11)=some ⟨5,1,[[.osl 1 boW 0 s.words.length c0,.osl 1 b1 0 s.holds.length bPB,.osl 4 ip 0 3 P,.osl 3 (u.2.1 3) 0 u.1 u.2.2,.osl 5 b2 0 s.told.length c2]]⟩/\(∃m rows,H2 (u.2.1 3)=some ⟨3,m,rows⟩/\bkL u.1 H2 u.2.1 s rows/\u.1<=u.2.2/\u.2.2<=m)/\ ∀id,id<b->id≠nx+1->id≠nx+11->H2 id=H1 id)
   (fun u=>4-u.1) (0,nm,0) ⟨noF,_,by repeat' first|exact bo2|refine xqI rfl rfl ?_|refine xqP (by omega) rfl rfl ?_|fail,aK,by dsimp only;omega,fun _ _ _=>rfl,⟨fun j k g hk he=>boS.inj j k (by first|omega| (dsimp only at*;omega)) (by first|omega| (dsimp only at*;omega)) he,fun j g=>by have:=boS.rng j (by first|omega| (dsimp only at*;omega));first|omega| (dsimp only at*;omega)⟩,.inl bqP,fun j g=>by dsimp only at g;omega,by dsimp only;rw[bqP];exact ah,⟨0,[],by dsimp only;rw[bqP];exact g1,⟨rfl,fun j g=>by dsimp only at g;omega⟩,m5 _,m5 _⟩,fun _ _ _ _=>rfl⟩ ?_
  rintro⟨k,aa,aw⟩ H2 e cw ⟨hk,q,A,ab,y,ad,⟨mv,rv,bv,⟨D,ax⟩,bu,cx⟩,x⟩ bqG cy;dsimp only at hk q A ab y ad bv D ax bu cx;have e2:H2 (nx+2)=some ⟨5,1,[eI s]⟩:=(x _ (by omega) (by omega) (by omega)).trans g2;obtain⟨iv,ae⟩: ∃iv,iv=aa 3:=⟨_,rfl⟩
  have ay:=A.rng 3 (.inl (by omega));rw[<-ae] at ad bv ab ay;have af:bQ e [nx+2,nx+3,nx+11,iv]:=AM.apart (by simp;omega) (by simp;omega);simp only[bQ,eZ] at af;have az:List.take k rv=rv:=boL (by omega);by_cases an:k<4
  ·obtain⟨v,ag⟩: ∃v,v=aL s k:=⟨_,rfl⟩
   have ba:s.dD.getD k default=v:=ag.symm;obtain⟨hq,ho,O⟩:=hs.slv k an;rw[<-ag] at hq ho O;refine aM.BW fun X=> ?_;have Y: ∀k l,msk (e+k) l H2=H2:=fun k l=>BV X (by omega);repeat' first| (first|apply bn1|refine aNQ (l:=v.done) ho O (fun aZJ bw boZ bPZ bOW bO2 cz ai=> ?_))<;>(simp only[go_sem,boC,Y,umS (G:=H2),umD (G:=H2),umB,msk,List.map,t3,bq7,or_false,ba,az,D,e2,ad,bv,af,ca])|apply bn2 (by omega)| (with_reducible first|refine fun(cap:Nat) (Z:_<=cap)=> ?_|refine fun(bt:_<=cap)=> ?_)|refine⟨by omega,?_⟩|fail
   obtain⟨cp,rfl⟩: ∃cp,cp=cap:=⟨_,rfl⟩
   have bb:=Z;have bc:aZJ (e+10)=some ⟨3,1,[gF v]⟩:=(by rw[ai _ (by omega)];simp (disch:=omega) only[aA.aC,aA.bH,aA.jG]);have f17:aZJ (e+17)=some ⟨3,cp,v.pipe.map eCJ⟩:=(by rw[ai _ (by omega)];simp (disch:=omega) only[aA.aC,aA.bH,aA.jG]);have ff: ∀id,id<e->aZJ id=H2 id:=fun id d1=>by rw[ai _ (by omega)];simp (disch:=omega) only[aA.aC,aA.bH,aA.jG]
   have bd:=(ff (nx+11) (by omega)).trans ad;have bx:=(ff iv (by omega)).trans bv;clear ai;have bf:bQ bw [nx+2,nx+3,nx+11,iv,e+10,e+17,e+24,boZ]:=AM.apart (by simp;omega) (by simp;omega);simp only[bQ,eZ] at bf;simp only[bc,bd];refine⟨⟨fun _=>rfl,fun he=>he.elim,fun _=>rfl⟩,?_⟩;(try simp only[go_sem,boC,bc,bd,bx,az,D,bf,af,boC]);repeat' first|apply bn1<;>(simp only[go_sem,boC,bc,bd,bx,az,D,bf,af,boC];try simp (disch:=omega) only[Iw])| (with_reducible first|refine fun(cap:Nat) (Z:_<=cap)=> ?_|refine fun(bt:_<=cap)=> ?_)|refine⟨by omega,?_⟩|fail
   refine af0 (K:=bqG) fun W aYL=> ?_;have da:W (e+25)=some ⟨3,cap,rv++[[.osl 3 (e+17) 0 v.pipe.length cp,.osl 5 boZ 0 v.done.length bPZ,cI v.last]]⟩:=(by rw[aYL,aA.aC (by omega)];exact aA.bH);have db:W (e+17)=some ⟨3,cp,v.pipe.map eCJ⟩:=(by rw[aYL];simp (disch:=omega) only[aA.aC,aA.bH,aA.jG];exact f17);have dc:Own aS 5 W boZ bPZ v.done:=cz.of (by rw[aYL];simp (disch:=omega) only[aA.aC,aA.jG]);have aq:W (nx+11)=some ⟨5,1,[[.osl 1 boW 0 s.words.length c0,.osl 1 b1 0 s.holds.length bPB,.osl 4 ip 0 3 P,.osl 3 (e+25) 0 (k+1) cap,.osl 5 b2 0 s.told.length c2]]⟩:=(by rw[aYL];exact aA.bH);have wf: ∀id,id<e->id≠iv->id≠nx+11->W id=H2 id:=fun id d1 d2 d3=>by rw[aYL];simp (disch:=omega) only[aA.aC,aA.jG];exact ff id d1
   clear aYL;obtain⟨f,d⟩: ∃f,f=put (put (put aa (11+k) (e+17)) 3 (e+25)) (15+k) boZ:=⟨_,rfl⟩
   have p3:f 3=e+25:=(by rw[d,jE (by omega),t8]);have bg:f (11+k)=e+17:=(by rw[d,jE (by omega),jE (by omega),t8]);have bh:f (15+k)=boZ:=(by rw[d,t8]);have N: ∀a,a≠3->a≠11+k->a≠15+k->f a=aa a:=fun a M E h3=>by rw[d,jE h3,jE M,jE E]
   have ar:Part (fun j=>j<11\/(11<=j/\j<11+(k+1))\/(15<=j/\j<15+(k+1))) nx bw f:=(by rw[d];exact((A.put (B:=fun j=>j<11\/(11<=j/\j<11+(k+1))\/(15<=j/\j<15+k)) (hi':=e+18) (by omega) (by omega) (by omega) (fun j g=>by first|omega| (dsimp only at*;omega))).put (B:=fun j=>j<11\/(11<=j/\j<11+(k+1))\/(15<=j/\j<15+k)) (hi':=e+26) (by omega) (by omega) (by omega) (fun j g=>by first|omega| (dsimp only at*;omega))).put (by omega) (by omega) (by omega) (fun j g=>by first|omega| (dsimp only at*;omega)));clear d;refine cy _ _ _ (k+1,f,cap) noF _ (by omega) (by dsimp only;omega) (by repeat' first|exact bo2|refine xqI rfl rfl ?_|refine xqP (by omega) rfl rfl ?_|fail) aK ⟨by dsimp only;omega,fun j g bPL=> ?_,ar.mono (by omega),.inr (by dsimp only;omega),fun j g=> ?_,?_,⟨cap,rv++[[.osl 3 (e+17) 0 v.pipe.length cp,.osl 5 boZ 0 v.done.length bPZ,cI v.last]],?_,⟨?_,fun j g=> ?_⟩,by dsimp only;omega,m5 _⟩,fun id d1 d2 d3=> ?_⟩;·dsimp only;rw[N j bPL (by omega) (by omega)];exact q j g bPL
   ·dsimp only at g ⊢;by_cases e1:j=11+k;·rw[e1,bg];omega
    ·by_cases e2:j=15+k;·rw[e2,bh];omega
     ·rw[N j (by omega) e1 e2];exact y j (by omega)
   ·dsimp only;rw[p3];exact aq
   ·dsimp only;rw[p3];exact da
   ·rw[t2,D];rfl
   ·dsimp only at g ⊢;by_cases au:j=k
    ·subst au;refine⟨_,by rw[brX (by omega),D,brJ];rfl,⟨0,cp,0,bPZ,?_,?_,?_⟩⟩;·rw[bg,bh,<-ag];rfl
     ·rw[bg,<-ag];exact⟨cp,v.pipe.map eCJ,db,rfl,by simp,by simp,bb,by omega⟩
     ·rw[bh,<-ag];obtain⟨mo,o1,o2,bqD⟩:=dc;exact⟨mo,v.done.map aS,o1,rfl,by simp,by simp,o2,by omega⟩
    ·obtain⟨r,M,E⟩:=ax j (by omega);have aAA:=A.rng (11+j) (.inr (.inl ⟨by omega,by omega⟩));have aAB:=A.rng (15+j) (.inr (.inr ⟨by omega,by omega⟩));have q5:=y (11+j) (.inl (by omega));have aEM:=y (15+j) (.inr (by omega));refine⟨r,by rw[brO (by omega)];exact M,?_⟩;rw[N (11+j) (by omega) (by omega) (by omega),N (15+j) (by omega) (by omega) (by omega)];exact E.frame (wf _ (by omega) (fun he=>by have:=A.inj (11+j) 3 (.inr (.inl ⟨by omega,by omega⟩)) (.inl (by omega)) (he.trans ae);omega) (by omega)) (wf _ (by omega) (fun he=>by have:=A.inj (15+j) 3 (.inr (.inr ⟨by omega,by omega⟩)) (.inl (by omega)) (he.trans ae);omega) (by omega))
   ·rw[wf id (by omega) (by omega) d3];exact x id d1 d2 d3
  ·have e3:H2 (nx+3)=some ⟨5,1,[[.osl 0 0 0 0 0,.osl 0 0 0 0 0,.osl 0 0 0 0 0,.osl 0 0 0 0 0,.osl 0 0 0 0 0]]⟩:=(x _ (by omega) (by omega) (by omega)).trans ((L _ (by omega) (by omega) (by omega)).trans aXN);repeat' first|apply bn1<;>(simp only[go_sem,e2,e3,ad,af])|apply bn3 (by omega)|fail
   have dd:k=4:=(by omega);subst dd;have az2:aa 2=ip:=(q 2 (by omega) (by omega)).trans S.symm;have az5:=(q 0 (by omega) (by omega)).trans n0;have az9:=(q 1 (by omega) (by omega)).trans bp0;have aAE:=(q 4 (by omega) (by omega)).trans az7;have bj:ip≠nx+1:=fun he=>by have:=boS.inj 2 3 (.inl (by omega)) (.inl (by omega)) (by rw[<-S,bqP,he]);omega
   have wv: ∀id W o,id≠nx+3->id<I->id≠nx->id≠nx+1->id≠nx+11->V id=o->(H2.set (nx+3) W) id=o:=fun id W o d0 d1 d2 d3 bkS bk2=>by rw[aA.aC d0,x id (by omega) d3 bkS,L id d1 d2 bkS];exact bk2
   obtain⟨bk1,bqH,bqI,bk6⟩:=cb;obtain⟨x0,x1,bpZ,aYM⟩:=cc;obtain⟨blM,y1,aHC,aHD⟩:=cd;refine hQ _ _ _ _ _ (.inr rfl) (LL rfl aA.bH rfl) (h _ _ aa _ (by omega) ⟨⟨c0,bPB,P,aw,c2,?_,?_,?_,?_,br,bu⟩,⟨m,rows,?_,R,fun j g=> ?_⟩,⟨mv,rv,?_,D,fun j g=> ?_⟩⟩ ⟨fun j k g hk he=>A.inj j k (by first|omega| (dsimp only;omega)) (by first|omega| (dsimp only;omega)) he,fun j g=>by have:=A.rng j (by first|omega| (dsimp only;omega));omega⟩ fun id z=> ?_);·rw[U2,az5,az9,az2,aAE,<-ae]
   ·rw[az5];exact⟨bk1,s.words.map aJ,wv _ _ _ (by omega) (by omega) (by omega) (by omega) (by omega) bqH,rfl,by simp,by simp,bqI,by omega⟩
   ·rw[az9];exact⟨x0,s.holds.map aJ,wv _ _ _ (by omega) (by omega) (by omega) (by omega) (by omega) x1,rfl,by simp,by simp,bpZ,by omega⟩
   ·rw[aAE];exact⟨blM,s.told.map aS,wv _ _ _ (by omega) (by omega) (by omega) (by omega) (by omega) y1,rfl,by simp,by simp,aHC,by omega⟩
   ·rw[az2,aA.aC (by omega),x _ (by omega) bj (by omega)];exact gp
   ·obtain⟨r,M,E⟩:=aj j g;have r5:=boS.rng (5+j) (.inr (.inl ⟨by omega,by omega⟩));have aU6:=boS.rng (8+j) (.inr (.inr ⟨by omega,by omega⟩));have q5:=J (5+j) (.inl (by omega));have aEM:=J (8+j) (.inr (by omega));rw[q (5+j) (by omega) (by omega),q (8+j) (by omega) (by omega)];exact⟨r,M,E.frame (by rw[aA.aC (by omega),x _ (by omega) (by omega) (by omega)]) (by rw[aA.aC (by omega),x _ (by omega) (by omega) (by omega)])⟩
   ·rw[<-ae,aA.aC (by omega)];exact bv
   ·obtain⟨r,M,E⟩:=ax j g;have q5:=y (11+j) (.inl (by omega));have aEM:=y (15+j) (.inr (by omega));exact⟨r,M,E.frame (aA.aC (by omega)) (aA.aC (by omega))⟩
   ·rw[aA.aC (by omega),x id (by omega) (by omega) (by omega),L id (by omega) (by omega) (by omega)];exact vf id z
theorem a8O{x:Rng}(h:K (boR (eN x)) H nx):bNW a0B [boR (eN x)] H nx K:=by
 refine aB.fresh (R:=fun a=>a=boR (eN x)) ?_ rfl (fun r hr=>hr▸h);clear h;refine aN.mk Tryz.func169 (by kernel_rfl) a68 rfl fun Q b=> ?_;unfold a12;repeat' first|apply bn1<;>(simp only[go_sem])|fail
 exact V4 b (boR (eN x)) _ (fZ (m:=1) rfl (by first|exact aA.bH|rfl) rfl) (aE rfl) rfl rfl
theorem bcY{x:fC}(h:K (boR (eCJ x)) H nx):bNW a08 [boR (eCJ x)] H nx K:=by
 refine aB.fresh (R:=fun a=>a=boR (eCJ x)) ?_ rfl (fun r hr=>hr▸h);clear h;refine aN.mk Tryz.func335 (by kernel_rfl) bb5 rfl fun Q b=> ?_;unfold a21;repeat' first|apply bn1<;>(simp only[go_sem])|fail
 exact V4 b (boR (eCJ x)) _ (fZ (m:=1) rfl (by first|exact aA.bH|rfl) rfl) (aE rfl) rfl rfl
theorem aZO{l:List Int}(b:l.length<2^21)(h:K (dB true) H nx):bNW o6 [dS (l.map aJ),dS (l.map aJ)] H nx K:=by
 refine aB.pure (args0:=[dS (l.map aJ),dS (l.map aJ)]) (R:=fun c=>c=dB true) ?_ rfl (aI ⟨aE rfl,aE rfl,trivial⟩) (fun r hr=>hr▸h);clear h;refine aN.mk Tryz.func83 (by kernel_rfl) bdL rfl fun Q d=> ?_;unfold a33;have hl:l.length<2^21:=b;repeat' first|apply bn1<;>(simp only[go_sem])|fail
 (refine aM.loop (α:={k:Nat//k<=l.length/\(True)}) (fun u=>en [(5,boP u.1),(1,dS (l.map aJ)),(0,dS (l.map aJ))]) (fun _=>.nil) _ (fun u=>l.length-u.1) ⟨0,by omega,(by intros;first|trivial|omega)⟩ (bU (m5 _) (by repeat' first|exact bo2|refine xqI rfl rfl ?_|fail)) ?_);(rintro⟨k,g,hinv⟩ bpQ a);by_cases e:k<l.length
 ·generalize f:l.getD k default=x at*;repeat' first|apply bn1<;>(simp only[go_sem,f];try simp (disch:=omega) only[Iw])|apply bn2 (by omega)|refine⟨by omega,?_⟩|fail
  all_goals (refine a _ _ _ ⟨k+1,by omega,trivial⟩ (by omega) (by(try dsimp only);omega) (bU (m5 _) (by repeat' first|exact bo2|refine xqI rfl rfl ?_|fail)))
 ·repeat' first|apply bn1<;>(simp only[go_sem])|apply bn3 (by omega)|fail
  all_goals exact aZ d _ rfl rfl rfl
theorem bKA{l:List Bool}(b:l.length<2^21)(h:K (dB true) H nx):bNW bI5 [dS (l.map eH),dS (l.map eH)] H nx K:=by
 refine aB.pure (args0:=[dS (l.map eH),dS (l.map eH)]) (R:=fun c=>c=dB true) ?_ rfl (aI ⟨aE rfl,aE rfl,trivial⟩) (fun r hr=>hr▸h);clear h;refine aN.mk Tryz.func152 (by kernel_rfl) bMA rfl fun Q d=> ?_;unfold bJN;have hl:l.length<2^21:=b;repeat' first|apply bn1<;>(simp only[go_sem])|fail
 (refine aM.loop (α:={k:Nat//k<=l.length/\(True)}) (fun u=>en [(5,boP u.1),(1,dS (l.map eH)),(0,dS (l.map eH))]) (fun _=>.nil) _ (fun u=>l.length-u.1) ⟨0,by omega,(by intros;first|trivial|omega)⟩ (bU (m5 _) (by repeat' first|exact bo2|refine xqI rfl rfl ?_|fail)) ?_);(rintro⟨k,g,hinv⟩ bpQ a);by_cases e:k<l.length
 ·generalize f:l.getD k default=x at*;repeat' first|apply bn1<;>(simp only[go_sem,f];try simp (disch:=omega) only[Iw])|apply bn2 (by omega)| ((refine bnF (fun h=> ?_) (fun h=> ?_))<;>try subst h)|refine⟨by omega,?_⟩|fail
  all_goals first| (exfalso;simp_all;done)| (refine a _ _ _ ⟨k+1,by omega,trivial⟩ (by omega) (by(try dsimp only);omega) (bU (m5 _) (by repeat' first|exact bo2|refine xqI rfl rfl ?_|fail)))
 ·repeat' first|apply bn1<;>(simp only[go_sem])|apply bn3 (by omega)|fail
  all_goals exact aZ d _ rfl rfl rfl
theorem a93{x:Rng}(h:K (dB true) H nx):bNW a0A [boR (eN x),boR (eN x)] H nx K:=by
 refine aB.pure (args0:=[boR (eN x),boR (eN x)]) (R:=fun a=>a=dB true) ?_ rfl (aI ⟨aE rfl,aE rfl,trivial⟩) (fun r hr=>hr▸h);clear h;refine aN.mk Tryz.func174 (by kernel_rfl) a7E rfl fun Q b=> ?_;unfold a1S;repeat' first|apply bn1<;>(simp only[go_sem])| ((refine bnF (fun h=> ?_) (fun h=> ?_))<;>try subst h)|fail
 all_goals first|exact aZ b _ rfl rfl rfl| (exfalso;simp_all;done)| (exfalso;omega)
theorem a7S{l:List Rng}(b:l.length<2^21)(h:K (dB true) H nx):bNW aZ8 [dS (l.map eN),dS (l.map eN)] H nx K:=by
 refine aB.pure (args0:=[dS (l.map eN),dS (l.map eN)]) (R:=fun c=>c=dB true) ?_ rfl (aI ⟨aE rfl,aE rfl,trivial⟩) (fun r hr=>hr▸h);clear h;refine aN.mk Tryz.func84 (by kernel_rfl) a5Y rfl fun Q d=> ?_;unfold a01;have hl:l.length<2^21:=b;repeat' first|apply bn1<;>(simp only[go_sem])|fail
 (refine aM.loop (α:={k:Nat//k<=l.length/\(True)}) (fun u=>en [(5,boP u.1),(1,dS (l.map eN)),(0,dS (l.map eN))]) (fun _=>.nil) _ (fun u=>l.length-u.1) ⟨0,by omega,(by intros;first|trivial|omega)⟩ (bU (m5 _) (by repeat' first|exact bo2|refine xqI rfl rfl ?_|fail)) ?_);(rintro⟨k,g,hinv⟩ bpQ a);by_cases e:k<l.length
 ·generalize f:l.getD k default=x at*;repeat' first| (first|apply bn1|apply a93)<;>(simp only[go_sem,f];try simp (disch:=omega) only[Iw])|apply bn2 (by omega)|refine⟨by omega,?_⟩|fail
  all_goals (refine a _ _ _ ⟨k+1,by omega,trivial⟩ (by omega) (by(try dsimp only);omega) (bU (m5 _) (by repeat' first|exact bo2|refine xqI rfl rfl ?_|fail)))
 ·repeat' first|apply bn1<;>(simp only[go_sem])|apply bn3 (by omega)|fail
  all_goals exact aZ d _ rfl rfl rfl
theorem bcD{x:fC}(h:K (dB true) H nx):bNW a1C [boR (eCJ x),boR (eCJ x)] H nx K:=by
 refine aB.pure (args0:=[boR (eCJ x),boR (eCJ x)]) (R:=fun a=>a=dB true) ?_ rfl (aI ⟨aE rfl,aE rfl,trivial⟩) (fun r hr=>hr▸h);clear h;refine aN.mk Tryz.func336 (by kernel_rfl) bb3 rfl fun Q b=> ?_;unfold a2Q;repeat' first|apply bn1<;>(simp only[go_sem])|fail
 all_goals first|exact aZ b _ rfl rfl rfl| (exfalso;simp_all;done)| (exfalso;omega)
theorem a41{l:List fC}(b:l.length<2^21)(h:K (dB true) H nx):bNW aZQ [dS (l.map eCJ),dS (l.map eCJ)] H nx K:=by
 refine aB.pure (args0:=[dS (l.map eCJ),dS (l.map eCJ)]) (R:=fun c=>c=dB true) ?_ rfl (aI ⟨aE rfl,aE rfl,trivial⟩) (fun r hr=>hr▸h);clear h;refine aN.mk Tryz.func310 (by kernel_rfl) a91 rfl fun Q d=> ?_;unfold a2M;have hl:l.length<2^21:=b;repeat' first|apply bn1<;>(simp only[go_sem])|fail
 (refine aM.loop (α:={k:Nat//k<=l.length/\(True)}) (fun u=>en [(5,boP u.1),(1,dS (l.map eCJ)),(0,dS (l.map eCJ))]) (fun _=>.nil) _ (fun u=>l.length-u.1) ⟨0,by omega,(by intros;first|trivial|omega)⟩ (bU (m5 _) (by repeat' first|exact bo2|refine xqI rfl rfl ?_|fail)) ?_);(rintro⟨k,g,hinv⟩ bpQ a);by_cases e:k<l.length
 ·generalize f:l.getD k default=x at*;repeat' first| (first|apply bn1|apply bcD)<;>(simp only[go_sem,f];try simp (disch:=omega) only[Iw])|apply bn2 (by omega)|refine⟨by omega,?_⟩|fail
  all_goals (refine a _ _ _ ⟨k+1,by omega,trivial⟩ (by omega) (by(try dsimp only);omega) (bU (m5 _) (by repeat' first|exact bo2|refine xqI rfl rfl ?_|fail)))
 ·repeat' first|apply bn1<;>(simp only[go_sem])|apply bn3 (by omega)|fail
  all_goals exact aZ d _ rfl rfl rfl
theorem bcZ{w:List Int}(a:w.length<2^21)(h:K (dB true) H nx):bNW a07 [boR [.isl (w.map aJ)],boR [.isl (w.map aJ)]] H nx K:=by
 refine aB.pure (args0:=[boR [.isl (w.map aJ)],boR [.isl (w.map aJ)]]) (R:=fun b=>b=dB true) ?_ rfl (aI ⟨aE rfl,aE rfl,trivial⟩) (fun r hr=>hr▸h);clear h;refine aN.mk Tryz.func236 (by kernel_rfl) bbB rfl fun Q c=> ?_;unfold a2R;repeat' first| (first|apply bn1|apply aZO (l:=w) a)<;>(simp only[go_sem])|fail
 all_goals exact aZ c _ rfl rfl rfl
theorem a9Z{w:List Int}{u:List Int}(a:w.length<2^21)(hc:u.length<2^21)(h:K (dB true) H nx):bNW a0N [boR [.isl (w.map aJ),.isl (u.map aJ)],boR [.isl (w.map aJ),.isl (u.map aJ)]] H nx K:=by
 refine aB.pure (args0:=[boR [.isl (w.map aJ),.isl (u.map aJ)],boR [.isl (w.map aJ),.isl (u.map aJ)]]) (R:=fun b=>b=dB true) ?_ rfl (aI ⟨aE rfl,aE rfl,trivial⟩) (fun r hr=>hr▸h);clear h;refine aN.mk Tryz.func148 (by kernel_rfl) a71 rfl fun Q c=> ?_;unfold a1O;repeat' first| (first|apply bn1|apply bcZ (w:=w) a|apply aZO (l:=u) hc)<;>(simp only[go_sem])|fail
 all_goals exact aZ c _ rfl rfl rfl
theorem bcX{x:Req}(a:w3 (2^21) x)(h:K (dB true) H nx):bNW a1K [boR (eB x),boR (eB x)] H nx K:=by
 refine aB.pure (args0:=[boR (eB x),boR (eB x)]) (R:=fun b=>b=dB true) ?_ rfl (aI ⟨aE rfl,aE rfl,trivial⟩) (fun r hr=>hr▸h);clear h;refine aN.mk Tryz.func254 (by kernel_rfl) bbD rfl fun Q c=> ?_;unfold a27;obtain⟨boW,d⟩:=a;repeat' first| (first|apply bn1|apply aZO (l:=x.data) boW|apply aZO (l:=x.g6) d)<;>(simp only[go_sem])| ((refine bnF (fun h=> ?_) (fun h=> ?_))<;>try subst h)|fail
 all_goals first|exact aZ c _ rfl rfl rfl| (exfalso;simp_all;done)| (exfalso;omega)
theorem ba8{l:List Req}(c:aZT (w3 (2^21)) (2^21) l)(h:K (dB true) H nx):bNW a0W [dS (l.map eB),dS (l.map eB)] H nx K:=by
 refine aB.pure (args0:=[dS (l.map eB),dS (l.map eB)]) (R:=fun d=>d=dB true) ?_ rfl (aI ⟨aE rfl,aE rfl,trivial⟩) (fun r hr=>hr▸h);clear h;refine aN.mk Tryz.func175 (by kernel_rfl) a95 rfl fun Q e=> ?_;unfold a2L;have hl:l.length<2^21:=c.1;repeat' first|apply bn1<;>(simp only[go_sem])|fail
 (refine aM.loop (α:={k:Nat//k<=l.length/\(True)}) (fun u=>en [(5,boP u.1),(1,dS (l.map eB)),(0,dS (l.map eB))]) (fun _=>.nil) _ (fun u=>l.length-u.1) ⟨0,by omega,(by intros;first|trivial|omega)⟩ (bU (m5 _) (by repeat' first|exact bo2|refine xqI rfl rfl ?_|fail)) ?_);(rintro⟨k,g,hinv⟩ bpQ a);by_cases b:k<l.length
 ·have hm:=c.2 _ (cC b);generalize f:l.getD k default=x at*;repeat' first| (first|apply bn1|apply bcX hm)<;>(simp only[go_sem,f];try simp (disch:=omega) only[Iw])|apply bn2 (by omega)|refine⟨by omega,?_⟩|fail
  all_goals (refine a _ _ _ ⟨k+1,by omega,trivial⟩ (by omega) (by(try dsimp only);omega) (bU (m5 _) (by repeat' first|exact bo2|refine xqI rfl rfl ?_|fail)))
 ·repeat' first|apply bn1<;>(simp only[go_sem])|apply bn3 (by omega)|fail
  all_goals exact aZ e _ rfl rfl rfl
theorem a92{l:List (List Req)}(c:aZT (aZ7 (2^21)) (2^21) l)(h:K (dB true) H nx):bNW a0O [dS (l.map jR),dS (l.map jR)] H nx K:=by
 refine aB.pure (args0:=[dS (l.map jR),dS (l.map jR)]) (R:=fun d=>d=dB true) ?_ rfl (aI ⟨aE rfl,aE rfl,trivial⟩) (fun r hr=>hr▸h);clear h;refine aN.mk Tryz.func85 (by kernel_rfl) a6K rfl fun Q e=> ?_;unfold a1L;have hl:l.length<2^21:=c.1;repeat' first|apply bn1<;>(simp only[go_sem])|fail
 (refine aM.loop (α:={k:Nat//k<=l.length/\(True)}) (fun u=>en [(5,boP u.1),(1,dS (l.map jR)),(0,dS (l.map jR))]) (fun _=>.nil) _ (fun u=>l.length-u.1) ⟨0,by omega,(by intros;first|trivial|omega)⟩ (bU (m5 _) (by repeat' first|exact bo2|refine xqI rfl rfl ?_|fail)) ?_);(rintro⟨k,g,hinv⟩ bpQ a);by_cases b:k<l.length
 ·have hm:=c.2 _ (cC b);generalize f:l.getD k default=x at*;repeat' first| (first|apply bn1|apply ba8 hm)<;>(simp only[go_sem,f];try simp (disch:=omega) only[Iw])|apply bn2 (by omega)|refine⟨by omega,?_⟩|fail
  all_goals (refine a _ _ _ ⟨k+1,by omega,trivial⟩ (by omega) (by(try dsimp only);omega) (bU (m5 _) (by repeat' first|exact bo2|refine xqI rfl rfl ?_|fail)))
 ·repeat' first|apply bn1<;>(simp only[go_sem])|apply bn3 (by omega)|fail
  all_goals exact aZ e _ rfl rfl rfl
theorem bcV(x:Cfg)(b:aZW (2^21) x):bNW a1B [boR (cU x),boR (cU x)] .nil 0 fun a _ _=>a.plain=true/\a=dB true:=by
 refine aN.mk Tryz.func20 (by kernel_rfl) baA rfl fun Q c=> ?_;unfold a24;obtain⟨boW,d,e⟩:=b;repeat' first| (first|apply bn1|apply a7S (l:=x.map) boW|apply aZO (l:=x.lat) d|apply a92 (l:=x.cP) e)<;>(simp only[go_sem])|fail
 all_goals first|exact aZ c _ rfl rfl rfl| (exfalso;simp_all;done)| (exfalso;omega)
theorem baN{x:fR}(a:f9 (2^21) x)(h:K (dB true) H nx):bNW a0V [boR (cD x),boR (cD x)] H nx K:=by
 refine aB.pure (args0:=[boR (cD x),boR (cD x)]) (R:=fun b=>b=dB true) ?_ rfl (aI ⟨aE rfl,aE rfl,trivial⟩) (fun r hr=>hr▸h);clear h;refine aN.mk Tryz.func237 (by kernel_rfl) a9C rfl fun Q c=> ?_;unfold a2G;obtain⟨boW,d⟩:=a;repeat' first| (first|apply bn1|apply aZO (l:=x.queue) boW|apply a41 (l:=x.out) d)<;>(simp only[go_sem])|fail
 all_goals first|exact aZ c _ rfl rfl rfl| (exfalso;simp_all;done)| (exfalso;omega)
theorem a82{l:List fR}(c:aZT (f9 (2^21)) (2^21) l)(h:K (dB true) H nx):bNW a0L [dS (l.map cD),dS (l.map cD)] H nx K:=by
 refine aB.pure (args0:=[dS (l.map cD),dS (l.map cD)]) (R:=fun d=>d=dB true) ?_ rfl (aI ⟨aE rfl,aE rfl,trivial⟩) (fun r hr=>hr▸h);clear h;refine aN.mk Tryz.func149 (by kernel_rfl) a62 rfl fun Q e=> ?_;unfold a10;have hl:l.length<2^21:=c.1;repeat' first|apply bn1<;>(simp only[go_sem])|fail
 (refine aM.loop (α:={k:Nat//k<=l.length/\(True)}) (fun u=>en [(5,boP u.1),(1,dS (l.map cD)),(0,dS (l.map cD))]) (fun _=>.nil) _ (fun u=>l.length-u.1) ⟨0,by omega,(by intros;first|trivial|omega)⟩ (bU (m5 _) (by repeat' first|exact bo2|refine xqI rfl rfl ?_|fail)) ?_);(rintro⟨k,g,hinv⟩ bpQ a);by_cases b:k<l.length
 ·have hm:=c.2 _ (cC b);generalize f:l.getD k default=x at*;repeat' first| (first|apply bn1|apply baN hm)<;>(simp only[go_sem,f];try simp (disch:=omega) only[Iw])|apply bn2 (by omega)|refine⟨by omega,?_⟩|fail
  all_goals (refine a _ _ _ ⟨k+1,by omega,trivial⟩ (by omega) (by(try dsimp only);omega) (bU (m5 _) (by repeat' first|exact bo2|refine xqI rfl rfl ?_|fail)))
 ·repeat' first|apply bn1<;>(simp only[go_sem])|apply bn3 (by omega)|fail
  all_goals exact aZ e _ rfl rfl rfl
theorem bcW{x:Rsp}(a:aZV (2^21) x)(h:K (dB true) H nx):bNW a1E [boR (tG x),boR (tG x)] H nx K:=by
 refine aB.pure (args0:=[boR (tG x),boR (tG x)]) (R:=fun b=>b=dB true) ?_ rfl (aI ⟨aE rfl,aE rfl,trivial⟩) (fun r hr=>hr▸h);clear h;refine aN.mk Tryz.func311 (by kernel_rfl) bbE rfl fun Q c=> ?_;unfold a2X;have boW:x.data.length<(2^21):=a;repeat' first| (first|apply bn1|apply aZO (l:=x.data) boW)<;>(simp only[go_sem])|fail
 all_goals first|exact aZ c _ rfl rfl rfl| (exfalso;simp_all;done)| (exfalso;omega)
theorem bcH{x:Job}(a:e9 (2^21) x)(h:K (dB true) H nx):bNW a1I [boR (aS x),boR (aS x)] H nx K:=by
 refine aB.pure (args0:=[boR (aS x),boR (aS x)]) (R:=fun b=>b=dB true) ?_ rfl (aI ⟨aE rfl,aE rfl,trivial⟩) (fun r hr=>hr▸h);clear h;refine aN.mk Tryz.func239 (by kernel_rfl) bb4 rfl fun Q c=> ?_;unfold a28;have boW:aZV (2^21) x.rsp:=a;repeat' first| (first|apply bn1|apply bcW (x:=x.rsp) boW)<;>(simp only[go_sem])|fail
 all_goals first|exact aZ c _ rfl rfl rfl| (exfalso;simp_all;done)| (exfalso;omega)
theorem a48{l:List Job}(c:aZT (e9 (2^21)) (2^21) l)(h:K (dB true) H nx):bNW aZX [dS (l.map aS),dS (l.map aS)] H nx K:=by
 refine aB.pure (args0:=[dS (l.map aS),dS (l.map aS)]) (R:=fun d=>d=dB true) ?_ rfl (aI ⟨aE rfl,aE rfl,trivial⟩) (fun r hr=>hr▸h);clear h;refine aN.mk Tryz.func151 (by kernel_rfl) a78 rfl fun Q e=> ?_;unfold a2B;have hl:l.length<2^21:=c.1;repeat' first|apply bn1<;>(simp only[go_sem])|fail
 (refine aM.loop (α:={k:Nat//k<=l.length/\(True)}) (fun u=>en [(5,boP u.1),(1,dS (l.map aS)),(0,dS (l.map aS))]) (fun _=>.nil) _ (fun u=>l.length-u.1) ⟨0,by omega,(by intros;first|trivial|omega)⟩ (bU (m5 _) (by repeat' first|exact bo2|refine xqI rfl rfl ?_|fail)) ?_);(rintro⟨k,g,hinv⟩ bpQ a);by_cases b:k<l.length
 ·have hm:=c.2 _ (cC b);generalize f:l.getD k default=x at*;repeat' first| (first|apply bn1|apply bcH hm)<;>(simp only[go_sem,f];try simp (disch:=omega) only[Iw])|apply bn2 (by omega)|refine⟨by omega,?_⟩|fail
  all_goals (refine a _ _ _ ⟨k+1,by omega,trivial⟩ (by omega) (by(try dsimp only);omega) (bU (m5 _) (by repeat' first|exact bo2|refine xqI rfl rfl ?_|fail)))
 ·repeat' first|apply bn1<;>(simp only[go_sem])|apply bn3 (by omega)|fail
  all_goals exact aZ e _ rfl rfl rfl
theorem a9W{x:nY}(a:dP (2^21) x)(h:K (dB true) H nx):bNW a0I [boR (gF x),boR (gF x)] H nx K:=by
 refine aB.pure (args0:=[boR (gF x),boR (gF x)]) (R:=fun b=>b=dB true) ?_ rfl (aI ⟨aE rfl,aE rfl,trivial⟩) (fun r hr=>hr▸h);clear h;refine aN.mk Tryz.func238 (by kernel_rfl) a7T rfl fun Q c=> ?_;unfold a11;obtain⟨boW,d⟩:=a;repeat' first| (first|apply bn1|apply a41 (l:=x.pipe) boW|apply a48 (l:=x.done) d)<;>(simp only[go_sem])|fail
 all_goals first|exact aZ c _ rfl rfl rfl| (exfalso;simp_all;done)| (exfalso;omega)
theorem a6O{l:List nY}(c:aZT (dP (2^21)) (2^21) l)(h:K (dB true) H nx):bNW aZ3 [dS (l.map gF),dS (l.map gF)] H nx K:=by
 refine aB.pure (args0:=[dS (l.map gF),dS (l.map gF)]) (R:=fun d=>d=dB true) ?_ rfl (aI ⟨aE rfl,aE rfl,trivial⟩) (fun r hr=>hr▸h);clear h;refine aN.mk Tryz.func150 (by kernel_rfl) a51 rfl fun Q e=> ?_;unfold a03;have hl:l.length<2^21:=c.1;repeat' first|apply bn1<;>(simp only[go_sem])|fail
 (refine aM.loop (α:={k:Nat//k<=l.length/\(True)}) (fun u=>en [(5,boP u.1),(1,dS (l.map gF)),(0,dS (l.map gF))]) (fun _=>.nil) _ (fun u=>l.length-u.1) ⟨0,by omega,(by intros;first|trivial|omega)⟩ (bU (m5 _) (by repeat' first|exact bo2|refine xqI rfl rfl ?_|fail)) ?_);(rintro⟨k,g,hinv⟩ bpQ a);by_cases b:k<l.length
 ·have hm:=c.2 _ (cC b);generalize f:l.getD k default=x at*;repeat' first| (first|apply bn1|apply a9W hm)<;>(simp only[go_sem,f];try simp (disch:=omega) only[Iw])|apply bn2 (by omega)|refine⟨by omega,?_⟩|fail
  all_goals (refine a _ _ _ ⟨k+1,by omega,trivial⟩ (by omega) (by(try dsimp only);omega) (bU (m5 _) (by repeat' first|exact bo2|refine xqI rfl rfl ?_|fail)))
 ·repeat' first|apply bn1<;>(simp only[go_sem])|apply bn3 (by omega)|fail
  all_goals exact aZ e _ rfl rfl rfl
theorem a97(x:CSt)(b:w5 (2^21) x):bNW a0D [boR (eI x),boR (eI x)] .nil 0 fun a _ _=>a.plain=true/\a=dB true:=by
 refine aN.mk Tryz.func58 (by kernel_rfl) a7I rfl fun Q c=> ?_;unfold a1Z;obtain⟨⟨bqH,bqI⟩,d,e,boX⟩:=b;repeat' first| (first|apply bn1|apply a9Z (w:=x.words) (u:=x.holds) bqH bqI|apply a82 (l:=x.bM) d|apply a6O (l:=x.dD) e|apply a48 (l:=x.told) boX)<;>(simp only[go_sem])|fail
 all_goals first|exact aZ c _ rfl rfl rfl| (exfalso;simp_all;done)| (exfalso;omega)
theorem a9P{x:CSt}(a:w5 (2^21) x)(h:K (dB true) H nx):bNW a0D [boR (eI x),boR (eI x)] H nx K:=(a97 x a).pure rfl (aI ⟨aE rfl,aE rfl,trivial⟩) (fun r hr=>hr▸h)
theorem bMP(x:CIn)(b:bJB (2^21) x):bNW bJT [boR (eIn x),boR (eIn x)] .nil 0 fun a _ _=>a.plain=true/\a=dB true:=by
 refine aN.mk Tryz.func59 (by kernel_rfl) bMD rfl fun Q c=> ?_;unfold bJQ;obtain⟨boW,d,e⟩:=b;repeat' first| (first|apply bn1|apply bKA (l:=x.ready) boW|apply bKA (l:=x.n9) d|apply bKA (l:=x.send) e)<;>(simp only[go_sem])|fail
 all_goals first|exact aZ c _ rfl rfl rfl| (exfalso;simp_all;done)| (exfalso;omega)
theorem bOK{x:CIn}(a:bJB (2^21) x)(h:K (dB true) H nx):bNW bJT [boR (eIn x),boR (eIn x)] H nx K:=(bMP x a).pure rfl (aI ⟨aE rfl,aE rfl,trivial⟩) (fun r hr=>hr▸h)
theorem bOJ(l:List CIn)(c:aZT (bJB (2^21)) (2^21) l):bNW bN3 [dS (l.map eIn),dS (l.map eIn)] .nil 0 fun d _ _=>d.plain=true/\d=dB true:=by
 refine aN.mk Tryz.func21 (by kernel_rfl) bOD rfl fun Q e=> ?_;unfold bN1;have hl:l.length<2^21:=c.1;repeat' first|apply bn1<;>(simp only[go_sem])|fail
 (refine aM.loop (α:={k:Nat//k<=l.length/\(True)}) (fun u=>en [(5,boP u.1),(1,dS (l.map eIn)),(0,dS (l.map eIn))]) (fun _=>.nil) _ (fun u=>l.length-u.1) ⟨0,by omega,(by intros;first|trivial|omega)⟩ (bU (m5 _) (by repeat' first|exact bo2|refine xqI rfl rfl ?_|fail)) ?_);(rintro⟨k,g,hinv⟩ bpQ a);by_cases b:k<l.length
 ·have hm:=c.2 _ (cC b);generalize f:l.getD k default=x at*;repeat' first| (first|apply bn1|apply bOK hm)<;>(simp only[go_sem,f];try simp (disch:=omega) only[Iw])|apply bn2 (by omega)|refine⟨by omega,?_⟩|fail
  all_goals (refine a _ _ _ ⟨k+1,by omega,trivial⟩ (by omega) (by(try dsimp only);omega) (bU (m5 _) (by repeat' first|exact bo2|refine xqI rfl rfl ?_|fail)))
 ·repeat' first|apply bn1<;>(simp only[go_sem])|apply bn3 (by omega)|fail
  all_goals exact aZ e _ rfl rfl rfl
theorem bAY{l:List Job}(g:aZT (e9 (2^21)) (2^21) l)(h: ∀H' nx' d F,nx<=nx'->SlS 5 bzL H' d l F->(∀j,F j->nx<=j/\j<nx')->(∀j,j<nx->H' j=H j)->K (.one (.c d)) H' nx'):bNW eO [dS (l.map aS)] H nx K:=by
 have y:=g.1;refine cJ.mk Tryz.func184 (by kernel_rfl) MI rfl fun Q z=> ?_;unfold tD;repeat' first| (first|apply bn1|refine z7 g.1 (fun m0 k=> ?_))<;>(simp only[go_sem])|fail
 refine aM.gP (β:=Nat) (fun u=>en [(10,boP u),(9,boP l.length),(8,boQ 5 (nx+4) l.length l.length),(3,boQ 5 (nx+4) l.length l.length)]) (fun u H1 bp0=>u<=l.length/\(∃f G,bD5 bzL H1 5 (nx+4) m0 (fun i=>aS (l.getD i default)) f G l u nx bp0)/\nx+4<bp0/\ ∀j,j<nx->H1 j=H j) (fun u=>l.length-u) 0 ⟨noF,_,by repeat' first|exact bo2|refine xqI rfl rfl ?_|refine xqO (by omega) rfl rfl (by rfl) ?_|fail,aK,bxY _,⟨_,_,bBK (by rw[bFM];exact aA.bH)⟩,by omega,fun j n=>by simp (disch:=omega) only[aA.aC]⟩ ?_;rintro u H1 a A ⟨hu,⟨f,G,boT⟩,o,b⟩ bpQ p;by_cases e:u<l.length
 ·obtain⟨x,q⟩: ∃x,l[u]?=some x:=⟨_,n1 e⟩
  have r:x∈l:=s3 q;have s:l.getD u default=x:=by simp[List.getD,q]
  have hm:x.rsp.data.length<2^21:=g.2 x r;have B:=boT.blk;have C: ∀f,(rng l.length f)[u]?=some (f u):=fun f=>by6 e;have bqH:f u=aS x:=(boT.zero u (m5 _)).trans (by rw[s]);have w:bQ a [nx+4]:=AM.apart (by simp<;>omega) (by simp<;>omega);simp only[bQ,eZ] at w;repeat' first| (first|apply bn1|refine kH hm (fun m t=> ?_))<;>(simp only[go_sem,B,C,bqH,w,aS,byN,byT,byL,byM,boC];try simp (disch:=omega) only[Iw])|apply bn2 (by omega)|refine⟨by omega,?_⟩|fail
  exact p _ _ _ (u+1) noF _ (by omega) (by omega) (by repeat' first|exact bo2|refine xqI rfl rfl ?_|refine xqO (by omega) rfl rfl (by rfl) ?_|fail) aK ⟨by omega,⟨_,_,boT.step (hi':=_) byI q (G':=fun j=>j=a+17) aA.bH ⟨_,rfl,bEA ((aA.aC (by omega)).trans aA.bH) t rfl⟩ (fun j h=>by omega) o (by omega) (by omega) fun j E D=>(aA.aC D).trans ((aA.aC (by omega)).trans (aA.aC (by omega)))⟩,by omega,fun j n=>(aA.aC (by omega)).trans ((aA.aC (by omega)).trans ((aA.aC (by omega)).trans (b j n)))⟩
 ·repeat' first|apply bn1<;>(simp only[go_sem])|apply bn3 (by omega)|fail
  have v:u=l.length:=by omega
  subst v;exact z _ _ _ _ _ (.inr rfl) rfl (h _ _ _ _ (by omega) (boT.done (by omega) (by omega) (m5 _) k (fun h=>by rw[h];rfl)) (fun j n=>by omega) b)
end
end Go.Proofs.YtlncecohbakleaaGreat
