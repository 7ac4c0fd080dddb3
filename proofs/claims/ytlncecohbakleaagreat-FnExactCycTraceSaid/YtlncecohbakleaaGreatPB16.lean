/- Texts laid together by a program: rules, contracts and the walk that leads to the law. -/
import Derived.Test.YtlncecohbakleaaGreatPB15
import Derived.Test.YtlncecohbakleaaGreatPB9
set_option linter.unusedVariables false
set_option linter.unusedSimpArgs false
set_option linter.unusedSectionVars false
set_option maxRecDepth 100000
set_option maxHeartbeats 8000000
namespace Go.AM
def LO(c:Cfg)(f:CSt->Nat->Option Mic)(l:List Nat)(s S:CSt):Prop:=mU c s (L4 c f s l)=S
theorem LO.next{c:Cfg}{f:CSt->Nat->Option Mic}{s S:CSt}{k:Nat}{l:List Nat}(h:LO c f (k::l) s S):LO c f l (za c s (f s k)) S:=by
 unfold LO at h
 cases a:f s k with
 |none=>rw[Dd a] at h;exact h
 |some m=>rw[Cm a] at h;exact h
theorem LO.nil{c:Cfg}{f:CSt->Nat->Option Mic}{s S:CSt}(h:LO c f [] s S):s=S:=h
theorem Qg{c:Cfg}{s:CSt}{o:Option Mic}(a:bI c)(hs:COk c s)(h: ∀m,o=some m->ck c s m):COk c (za c s o):=by
 cases o with
 |none=>exact hs
 |some m=>exact ES a hs (h m rfl)
theorem AF.sub{X b:Nat->Prop}{H:aA}{nx:Nat}{nm:Nat->Nat}{s:CSt}{cells:List D1}(h:AF b H nx nm s cells)(hs: ∀id,X id->b id):AF X H nx nm s cells:=⟨h.rep,⟨h.names.inj,h.names.lt,fun k c d=>h.names.av k c (hs _ d)⟩,fun id a=>h.x id (hs id a)⟩
theorem LO.none{c:Cfg}{f:CSt->Nat->Option Mic}{s S:CSt}{k:Nat}{l:List Nat}(h:LO c f (k::l) s S)(a:f s k=none):LO c f l s S:=by have:=h.next;rwa [a] at this
theorem ND.ai6{c:Cfg}{s S:CSt}{u:List Bool}{k:Nat}{l:List Nat}(hl:ND c (k::l) s u S):ND c l (Go.Proofs.YtlncecohbakleaaGreat.T6 c s u k).1 (Go.Proofs.YtlncecohbakleaaGreat.T6 c s u k).2 S:=by
 unfold Go.Proofs.YtlncecohbakleaaGreat.T6
 cases h:XF c s u k with
 |none=>exact hl.none h
 |some who=>exact hl.some h
structure ajR(k:Nat)(H:aA)(nm:Nat->Nat)(s:CSt)(rows:List (List D1)):Prop where
 len:rows.length=k
 row: ∀j,j<k->∃r,rows[j]?=some r/\IU H (nm (5+j)) (nm (8+j)) (aL s j) r
structure ajW(k:Nat)(H:aA)(nm:Nat->Nat)(s:CSt)(rows:List (List D1)):Prop where
 len:rows.length=k
 row: ∀j,j<k->∃r,rows[j]?=some r/\SK H (nm (11+j)) (nm (15+j)) (aU s j) r
def lq(nx b c d:Nat):Nat->Nat:=fun a=>if a=0 then b else if a=1 then c else if a=2 then nx else if a=3 then nx+1 else d
theorem Mi{nx n b c d:Nat}(h:nx+2<=c)(e:c<b)(f:b<d)(i:d<n):Part (fun j=>j<5\/(5<=j/\j<5+0)\/(8<=j/\j<8+0)) nx n (lq nx b c d):=by
 have key: ∀a,a<5->(a=0/\lq nx b c d a=b)\/(a=1/\lq nx b c d a=c)\/(a=2/\lq nx b c d a=nx)\/(a=3/\lq nx b c d a=nx+1)\/(a=4/\lq nx b c d a=d):=fun a l=>by
  unfold lq;repeat' split
  all_goals omega
 refine⟨fun j k m g he=> ?_,fun k g=> ?_⟩;·have e:=key j (by omega);have f:=key k (by omega);omega
 ·have e:=key k (by omega);omega
def szN(left:Int)(n:Nat):Int:=if left-n<0 then-1 else left-n
def szT(a:Int)(f:Int->Int):Int:=if a<0 then-1 else f a
def szF{α:Type}(f:Int->α->Int):Int->List α->Int
 |a,[]=>a
 |a,x::l=>if f a x<0 then-1 else szF f (f a x) l
def szS{α:Type}(f:Int->α->Int)(a:Int)(l:List α):Int:=szT (szN a l.length) fun a=>szF f a l
def SzR{α:Type}(f:Int->α->Int):Prop:=∀a x,0<=a->f a x= -1\/(0<=f a x/\f a x<=a)
theorem iM(a:Int)(n:Nat):szN a n= -1\/(0<=szN a n/\szN a n<=a):=by unfold szN;split<;>omega
variable{a:Int}
theorem PD{left:Int}{f:Int->Int}(c:a= -1\/(0<=a/\a<=left))(b:0<=a->f a= -1\/(0<=f a/\f a<=a)):szT a f= -1\/(0<=szT a f/\szT a f<=left):=by
 unfold szT;split;·exact .inl rfl
 ·have:=b (by omega);omega
theorem aeW{α:Type}{f:Int->α->Int}(b:SzR f): ∀(l:List α) (a:Int),0<=a->szF f a l= -1\/(0<=szF f a l/\szF f a l<=a)
 | [],a,h=>by simp only[szF];omega
 |x::l,a,h=>by
  simp only[szF];split;·exact .inl rfl
  ·have c:=b a x h;have d:=aeW b l (f a x) (by omega);omega
theorem M7{α:Type}{f:Int->α->Int}(b:SzR f)(a:Int)(l:List α):szS f a l= -1\/(0<=szS f a l/\szS f a l<=a):=PD (iM _ _) fun h=>aeW b l _ h
theorem aiI{α:Type}{f:Int->α->Int}(b:SzR f):SzR (szS f):=fun a l _=>M7 b a l
theorem qA{n:Nat}(h:0<=szN a n)(b:a<=2^20):n<2^21:=by unfold szN at h;split at h<;>omega
theorem gR{f:Int->Int}(h:0<=szT a f):0<=a/\0<=f a:=by
 unfold szT at h;split at h;·omega
 ·exact⟨by omega,h⟩
def SzF{α:Type}(f:Int->α->Int)(P:α->Prop):Prop:=∀a x,0<=a->a<=2^20->0<=f a x->P x
theorem Pr{α:Type}{f:Int->α->Int}{P:α->Prop}(hr:SzR f)(d:SzF f P): ∀(l:List α) (a:Int),0<=a->a<=2^20->0<=szF f a l->∀x∈l,P x
 | [],_,_,_,_=>fun x g=>by simp at g
 |x::l,a,e,h,b=>by
  simp only[szF] at b;split at b;·omega
  ·have i:=hr a x e;intro y c;rcases akK.1 c with rfl|c;·exact d a y e h (by omega)
   ·exact Pr hr d l (f a x) (by omega) (by omega) b y c
def oM{α:Type}(P:α->Prop)(N:Nat)(l:List α):Prop:=l.length<N/\ ∀x∈l,P x
theorem TR{α:Type}{f:Int->α->Int}{P:α->Prop}(hr:SzR f)(c:SzF f P){l:List α}(d:a<=2^20)(h:0<=szS f a l):oM P (2^21) l:=by obtain⟨b,e⟩:=gR h;have g:=iM a l.length;exact⟨qA b d,Pr hr c l _ b (by omega) e⟩
theorem TN{α:Type}{f:Int->α->Int}{l:List α}{k:Nat}(b: ¬k<l.length):szF f a (l.drop k)=a:=by rw[amP (by omega)];rfl
theorem L2{α:Type}[Inhabited α]{f:Int->α->Int}{l:List α}{k:Nat}(b:k<l.length):szF f a (l.drop k)=if f a (l.getD k default)<0 then-1 else szF f (f a (l.getD k default)) (l.drop (k+1)):=by rw[alF b];simp[szF,List.getD,b]
def A6(a:Int)(w h:List Int):Int:=szT (szN a w.length) fun a=>szN a h.length
theorem Fm(a:Int)(w h:List Int):A6 a w h= -1\/(0<=A6 a w h/\A6 a w h<=a):=PD (iM _ _) fun _=>iM _ _
theorem Tw{w h:List Int}(b:a<=2^20)(c:0<=A6 a w h):w.length<2^21/\h.length<2^21:=by obtain⟨d,e⟩:=gR c;have f:=iM a w.length;exact⟨qA d b,qA e (by omega)⟩
def kU(a:Int)(x:Req):Int:=szT (szN a x.data.length) fun a=>szN a x.lanes.length
theorem N9:SzR kU:=fun _ _ _=>PD (iM _ _) fun _=>iM _ _
def l4(N:Nat)(x:Req):Prop:=x.data.length<N/\x.lanes.length<N
theorem Gd:SzF kU (l4 (2^21)):=fun a x f g b=>by unfold kU at b;obtain⟨c,b⟩:=gR b;have d:=qA c (by omega);have h:=iM a x.data.length;generalize szN a x.data.length=i at*;have e:=qA b (by omega);exact⟨d,e⟩
def gJ(a:Int)(l:List Req):Int:=szS kU a l
theorem zX:SzR gJ:=aiI N9
def wR(N:Nat)(l:List Req):Prop:=oM (l4 N) N l
theorem th:SzF gJ (wR (2^21)):=fun a x d b c=>TR N9 Gd b c
def z8(a:Int)(x:Cfg):Int:=szT (szN a x.map.length) fun a=>szT (szN a x.lat.length) fun a=>szS gJ a x.b7
theorem afZ:SzR z8:=fun _ _ _=>PD (iM _ _) fun _=>PD (iM _ _) fun _=>M7 zX _ _
def pS(N:Nat)(x:Cfg):Prop:=x.map.length<N/\x.lat.length<N/\oM (wR N) N x.b7
theorem ac9:SzF z8 (pS (2^21)):=fun a x i j b=>by unfold z8 at b;obtain⟨d,b⟩:=gR b;have e:=qA d (by omega);have k:=iM a x.map.length;generalize szN a x.map.length=c at*;obtain⟨f,b⟩:=gR b;have g:=qA f (by omega);have l:=iM c x.lat.length;generalize szN c x.lat.length=m at*;have h:=TR zX th (by omega) b;exact⟨e,g,h⟩
def eC(a:Int)(x:cJ):Int:=szT (szN a x.queue.length) fun a=>szN a x.out.length
theorem xB:SzR eC:=fun _ _ _=>PD (iM _ _) fun _=>iM _ _
def kX(N:Nat)(x:cJ):Prop:=x.queue.length<N/\x.out.length<N
theorem Aw:SzF eC (kX (2^21)):=fun a x f g b=>by unfold eC at b;obtain⟨c,b⟩:=gR b;have d:=qA c (by omega);have h:=iM a x.queue.length;generalize szN a x.queue.length=i at*;have e:=qA b (by omega);exact⟨d,e⟩
def I5(a:Int)(x:Rsp):Int:=szN a x.data.length
theorem xe:SzR I5:=fun _ _ _=>iM _ _
def G8(N:Nat)(x:Rsp):Prop:=x.data.length<N
theorem Ek:SzF I5 (G8 (2^21)):=fun a x d e b=>by unfold I5 at b;have c:=qA b (by omega);exact c
def iO(a:Int)(x:Job):Int:=I5 a x.rsp
theorem oL:SzR iO:=fun _ _ _=>xe _ _ (by assumption)
def iQ(N:Nat)(x:Job):Prop:=G8 N x.rsp
theorem Z6:SzF iO (iQ (2^21)):=fun a x d e b=>by unfold iO at b;have c:=Ek _ _ (by omega) (by omega) b;exact c
def dQ(a:Int)(x:lR):Int:=szT (szN a x.pipe.length) fun a=>szS iO a x.done
theorem tI:SzR dQ:=fun _ _ _=>PD (iM _ _) fun _=>M7 oL _ _
def jK(N:Nat)(x:lR):Prop:=x.pipe.length<N/\oM (iQ N) N x.done
theorem xm:SzF dQ (jK (2^21)):=fun a x f g b=>by unfold dQ at b;obtain⟨c,b⟩:=gR b;have d:=qA c (by omega);have h:=iM a x.pipe.length;generalize szN a x.pipe.length=i at*;have e:=TR oL Z6 (by omega) b;exact⟨d,e⟩
def oW(a:Int)(x:CSt):Int:=szT (A6 a x.words x.holds) fun a=>szT (szS eC a x.bE) fun a=>szT (szS dQ a x.bM) fun a=>szS iO a x.told
theorem adY:SzR oW:=fun _ _ _=>PD (Fm _ _ _) fun _=>PD (M7 xB _ _) fun _=>PD (M7 tI _ _) fun _=>M7 oL _ _
def jE(N:Nat)(x:CSt):Prop:=(x.words.length<N/\x.holds.length<N)/\oM (kX N) N x.bE/\oM (jK N) N x.bM/\oM (iQ N) N x.told
theorem aaG:SzF oW (jE (2^21)):=fun a x l m b=>by unfold oW at b;obtain⟨e,b⟩:=gR b;have f:=Tw (by omega) e;have n:=Fm a x.words x.holds;generalize A6 a x.words x.holds=c at*;obtain⟨g,b⟩:=gR b;have h:=TR xB Aw (by omega) g;have o:=M7 xB c x.bE;generalize szS eC c x.bE=d at*;obtain⟨i,b⟩:=gR b;have j:=TR tI xm (by omega) i;have p:=M7 tI d x.bM;generalize szS dQ d x.bM=q at*;have k:=TR oL Z6 (by omega) b;exact⟨f,h,j,k⟩
def QM(N:Nat)(x:TSt):Prop:=(x.words.length<N/\x.holds.length<N)/\x.asked.length<N/\oM (iQ N) N x.wait/\oM (iQ N) N x.done/\oM (iQ N) N x.told
def nK(a:Int)(x:CIn):Int:=szT (szN a x.ready.length) fun a=>szT (szN a x.iP.length) fun a=>szN a x.send.length
theorem Tq:SzR nK:=fun _ _ _=>PD (iM _ _) fun _=>PD (iM _ _) fun _=>iM _ _
def kW(N:Nat)(x:CIn):Prop:=x.ready.length<N/\x.iP.length<N/\x.send.length<N
theorem afD:SzF nK (kW (2^21)):=fun a x i j b=>by unfold nK at b;obtain⟨d,b⟩:=gR b;have e:=qA d (by omega);have k:=iM a x.ready.length;generalize szN a x.ready.length=c at*;obtain⟨f,b⟩:=gR b;have g:=qA f (by omega);have l:=iM c x.iP.length;generalize szN c x.iP.length=m at*;have h:=qA b (by omega);exact⟨e,g,h⟩
theorem pS.fit{c:Cfg}(h:pS (2^21) c):OJ c:=by obtain⟨d,e,f,a⟩:=h;exact⟨by omega,by omega,by omega,fun p hp=>by have:=(a p hp).1;omega,fun p hp q b=>by have:=(a p hp).2 q b;unfold l4 at this;omega⟩
def Dis(F G:Nat->Prop):Prop:=∀j,F j->¬G j
def Sub(F G:Nat->Prop):Prop:=∀j,F j->G j
def eU(_:Int):Nat:=1
def OS(k:Int)(_:Int):Int:=k
def l6(_:Bool):Nat:=1
def we(k:Int)(_:Bool):Bool:=decide (k.tmod 3=0)
theorem WK:Fzb 1 aG (cY aG):=SG fun x=>⟨rfl,rfl⟩
theorem Eo:Fzb 1 d8 (cY d8):=SG fun x=>⟨rfl,rfl⟩
def iS(_:Rng):Nat:=4
def XW(k:Int)(_:Rng):Rng:=⟨k,k+1,k+1+1,decide ((k+1+1+1).tmod 3=0)⟩
theorem Il:Fzb 4 c7 (cY c7):=SG fun x=>⟨rfl,rfl⟩
def gC(_:eZ):Nat:=3
def bj(k:Int)(_:eZ):eZ:=⟨k,k+1,k+1+1⟩
theorem Dl:Fzb 3 eCJ (cY eCJ):=SG fun x=>⟨rfl,rfl⟩
def eB(_:Ev):Nat:=3
def rG(k:Int)(_:Ev):Ev:=⟨k,k+1,k+1+1⟩
theorem lr:Fzb 3 eEv (cY eEv):=SG fun x=>⟨rfl,rfl⟩
def tG(x:Req):Nat:=5+total eU x.data+total eU x.lanes
def xh(k:Int)(x:Req):Req:=⟨k,k+1,k+1+1,k+1+1+1,decide ((k+1+1+1+1).tmod 3=0),marks eU OS (k+1+1+1+1+1) x.data,marks eU OS (k+1+1+1+1+1+total eU x.data) x.lanes⟩
structure ad2(H:aA)(x:Req)(F:Nat->Prop)(d1 d2:D1)(F1 F2:Nat->Prop):Prop where
 s1:SlS 1 (cY aG) H d1 x.data F1
 s2:SlS 1 (cY aG) H d2 x.lanes F2
 u1:Sub F1 F
 u2:Sub F2 F
 x12:Dis F1 F2
def GX:KP Req:=fun H r x F=>∃d1 d2 F1 F2,r=[cI x.id,cI x.kind,cI x.addr,cI x.many,cB x.wrap,d1,d2]/\ad2 H x F d1 d2 F1 F2
theorem DS:Frm GX:=fun _ _ _ _ _ ⟨d1,d2,F1,F2,c,h⟩ b=>⟨d1,d2,F1,F2,c,{h with s1:=h.s1.frame aN fun j a=>b j (h.u1 j a),s2:=h.s2.frame aN fun j a=>b j (h.u2 j a)}⟩
theorem im:Fzb 7 dK GX:=fun _ _ _ _ ⟨d1,d2,F1,F2,a,h⟩=>⟨rfl,a▸cM (.same _ rfl) (cM (.same _ rfl) (cM (.same _ rfl) (cM (.same _ rfl) (cM (.same _ rfl) (cM (h.s1.frz WK) (cM (h.s2.frz WK) (KA)))))))⟩
def mN(l:List Req):Nat:=total tG l
def fc(k:Int)(l:List Req):List Req:=marks tG xh k l
def EC:KP (List Req):=fun H r l F=>∃d,r=[d]/\SlS 7 GX H d l F
theorem yH:Frm EC:=fun _ _ _ _ _ ⟨d,a,b⟩ c=>⟨d,a,b.frame DS c⟩
theorem Ks:Fzb 1 mW EC:=fun _ _ _ _ ⟨d,a,b⟩=>⟨rfl,a▸cM (b.frz im) KA⟩
def gQ(x:Job):Nat:=4+total eU x.rsp.data
def ZV(k:Int)(x:Job):Job:=⟨k,k+1,⟨k+1+1,k+1+1+1,marks eU OS (k+1+1+1+1) x.rsp.data⟩⟩
def DM:KP Job:=fun H r x F=>∃d1,r=[cI x.who,cI x.n,cI x.rsp.id,cI x.rsp.code,d1]/\SlS 1 (cY aG) H d1 x.rsp.data F
theorem kP:Frm DM:=fun _ _ _ _ _ ⟨d,a,b⟩ c=>⟨d,a,b.frame aN c⟩
theorem TP:Fzb 5 aP DM:=fun _ _ _ _ ⟨d1,a,h⟩=>⟨rfl,a▸cM (.same _ rfl) (cM (.same _ rfl) (cM (.same _ rfl) (cM (.same _ rfl) (cM (h.frz WK) (KA)))))⟩
def gW(x:cJ):Nat:=2+total eU x.queue+total gC x.out
def kq(k:Int)(x:cJ):cJ:=⟨k,marks eU OS (k+1) x.queue,marks gC bj (k+1+total eU x.queue) x.out,k+1+total eU x.queue+total gC x.out⟩
structure abF(H:aA)(x:cJ)(F:Nat->Prop)(d1 d2:D1)(F1 F2:Nat->Prop):Prop where
 s1:SlS 1 (cY aG) H d1 x.queue F1
 s2:SlS 3 (cY eCJ) H d2 x.out F2
 u1:Sub F1 F
 u2:Sub F2 F
 x12:Dis F1 F2
def yJ:KP cJ:=fun H r x F=>∃d1 d2 F1 F2,r=[cI x.next,d1,d2,cI x.last]/\abF H x F d1 d2 F1 F2
theorem iZ:Frm yJ:=fun _ _ _ _ _ ⟨d1,d2,F1,F2,c,h⟩ b=>⟨d1,d2,F1,F2,c,{h with s1:=h.s1.frame aN fun j a=>b j (h.u1 j a),s2:=h.s2.frame aN fun j a=>b j (h.u2 j a)}⟩
theorem XX:Fzb 4 bV yJ:=fun _ _ _ _ ⟨d1,d2,F1,F2,a,h⟩=>⟨rfl,a▸cM (.same _ rfl) (cM (h.s1.frz WK) (cM (h.s2.frz Dl) (cM (.same _ rfl) (KA))))⟩
def fX(x:lR):Nat:=1+total gC x.pipe+total gQ x.done
def YA(k:Int)(x:lR):lR:=⟨marks gC bj (k) x.pipe,marks gQ ZV (k+total gC x.pipe) x.done,k+total gC x.pipe+total gQ x.done⟩
structure Rc(H:aA)(x:lR)(F:Nat->Prop)(d1 d2:D1)(F1 F2:Nat->Prop):Prop where
 s1:SlS 3 (cY eCJ) H d1 x.pipe F1
 s2:SlS 5 DM H d2 x.done F2
 u1:Sub F1 F
 u2:Sub F2 F
 x12:Dis F1 F2
def tE:KP lR:=fun H r x F=>∃d1 d2 F1 F2,r=[d1,d2,cI x.last]/\Rc H x F d1 d2 F1 F2
theorem kN:Frm tE:=fun _ _ _ _ _ ⟨d1,d2,F1,F2,c,h⟩ b=>⟨d1,d2,F1,F2,c,{h with s1:=h.s1.frame aN fun j a=>b j (h.u1 j a),s2:=h.s2.frame kP fun j a=>b j (h.u2 j a)}⟩
theorem Q0:Fzb 3 eV tE:=fun _ _ _ _ ⟨d1,d2,F1,F2,a,h⟩=>⟨rfl,a▸cM (h.s1.frz Dl) (cM (h.s2.frz TP) (cM (.same _ rfl) (KA)))⟩
def BQ(x:CIn):Nat:=total l6 x.ready+total l6 x.iP+total l6 x.send
def En(k:Int)(x:CIn):CIn:=⟨marks l6 we (k) x.ready,marks l6 we (k+total l6 x.ready) x.iP,marks l6 we (k+total l6 x.ready+total l6 x.iP) x.send⟩
structure afU(H:aA)(x:CIn)(F:Nat->Prop)(d1 d2 d3:D1)(F1 F2 F3:Nat->Prop):Prop where
 s1:SlS 1 (cY d8) H d1 x.ready F1
 s2:SlS 1 (cY d8) H d2 x.iP F2
 s3:SlS 1 (cY d8) H d3 x.send F3
 u1:Sub F1 F
 u2:Sub F2 F
 u3:Sub F3 F
 x12:Dis F1 F2
 x13:Dis F1 F3
 x23:Dis F2 F3
def E4:KP CIn:=fun H r x F=>∃d1 d2 d3 F1 F2 a,r=[d1,d2,d3]/\afU H x F d1 d2 d3 F1 F2 a
theorem W0:Frm E4:=fun _ _ _ _ _ ⟨d1,d2,d3,F1,F2,c,d,h⟩ b=>⟨d1,d2,d3,F1,F2,c,d,{h with s1:=h.s1.frame aN fun j a=>b j (h.u1 j a),s2:=h.s2.frame aN fun j a=>b j (h.u2 j a),s3:=h.s3.frame aN fun j a=>b j (h.u3 j a)}⟩
theorem LX:Fzb 3 eIn E4:=fun _ _ _ _ ⟨d1,d2,d3,F1,F2,b,a,h⟩=>⟨rfl,a▸cM (h.s1.frz Eo) (cM (h.s2.frz Eo) (cM (h.s3.frz Eo) (KA)))⟩
def dm(x:Cfg):Nat:=total iS x.map+total eU x.lat+total mN x.b7
def Xm(k:Int)(x:Cfg):Cfg:=⟨marks iS XW (k) x.map,marks eU OS (k+total iS x.map) x.lat,marks mN fc (k+total iS x.map+total eU x.lat) x.b7⟩
structure acY(H:aA)(x:Cfg)(F:Nat->Prop)(d1 d2 d3:D1)(F1 F2 F3:Nat->Prop):Prop where
 s1:SlS 4 (cY c7) H d1 x.map F1
 s2:SlS 1 (cY aG) H d2 x.lat F2
 s3:SlS 1 EC H d3 x.b7 F3
 u1:Sub F1 F
 u2:Sub F2 F
 u3:Sub F3 F
 x12:Dis F1 F2
 x13:Dis F1 F3
 x23:Dis F2 F3
def TG:KP Cfg:=fun H r x F=>∃d1 d2 d3 F1 F2 a,r=[d1,d2,d3]/\acY H x F d1 d2 d3 F1 F2 a
theorem ae7:Frm TG:=fun _ _ _ _ _ ⟨d1,d2,d3,F1,F2,c,d,h⟩ b=>⟨d1,d2,d3,F1,F2,c,d,{h with s1:=h.s1.frame aN fun j a=>b j (h.u1 j a),s2:=h.s2.frame aN fun j a=>b j (h.u2 j a),s3:=h.s3.frame yH fun j a=>b j (h.u3 j a)}⟩
theorem Dg:Fzb 3 cD TG:=fun _ _ _ _ ⟨d1,d2,d3,F1,F2,b,a,h⟩=>⟨rfl,a▸cM (h.s1.frz Il) (cM (h.s2.frz WK) (cM (h.s3.frz Ks) (KA)))⟩
def BG(x:CSt):Nat:=total eU x.words+total eU x.holds+total gW x.bE+total fX x.bM+total gQ x.told
def Mr(k:Int)(x:CSt):CSt:=⟨marks eU OS (k) x.words,marks eU OS (k+total eU x.words) x.holds,marks gW kq (k+total eU x.words+total eU x.holds) x.bE,marks fX YA (k+total eU x.words+total eU x.holds+total gW x.bE) x.bM,marks gQ ZV (k+total eU x.words+total eU x.holds+total gW x.bE+total fX x.bM) x.told⟩
structure Vr(H:aA)(x:CSt)(F:Nat->Prop)(d1 d2 d3 d4 d5:D1)(F1 F2 F3 F4 F5:Nat->Prop):Prop where
 s1:SlS 1 (cY aG) H d1 x.words F1
 s2:SlS 1 (cY aG) H d2 x.holds F2
 s3:SlS 4 yJ H d3 x.bE F3
 s4:SlS 3 tE H d4 x.bM F4
 s5:SlS 5 DM H d5 x.told F5
 u1:Sub F1 F
 u2:Sub F2 F
 u3:Sub F3 F
 u4:Sub F4 F
 u5:Sub F5 F
 x12:Dis F1 F2
 x13:Dis F1 F3
 x14:Dis F1 F4
 x15:Dis F1 F5
 x23:Dis F2 F3
 x24:Dis F2 F4
 x25:Dis F2 F5
 x34:Dis F3 F4
 x35:Dis F3 F5
 x45:Dis F4 F5
def G6:KP CSt:=fun H r x F=>∃d1 d2 d3 a b F1 F2 c d e,r=[d1,d2,d3,a,b]/\Vr H x F d1 d2 d3 a b F1 F2 c d e
theorem abO:Frm G6:=fun _ _ _ _ _ ⟨d1,d2,d3,c,d,F1,F2,e,f,g,i,h⟩ b=>⟨d1,d2,d3,c,d,F1,F2,e,f,g,i,{h with s1:=h.s1.frame aN fun j a=>b j (h.u1 j a),s2:=h.s2.frame aN fun j a=>b j (h.u2 j a),s3:=h.s3.frame iZ fun j a=>b j (h.u3 j a),s4:=h.s4.frame kN fun j a=>b j (h.u4 j a),s5:=h.s5.frame kP fun j a=>b j (h.u5 j a)}⟩
theorem ml:Fzb 5 dY G6:=fun _ _ _ _ ⟨d1,d2,d3,b,c,F1,F2,d,e,f,a,h⟩=>⟨rfl,a▸cM (h.s1.frz WK) (cM (h.s2.frz WK) (cM (h.s3.frz XX) (cM (h.s4.frz Q0) (cM (h.s5.frz TP) (KA)))))⟩
theorem ajE{α:Type}[Inhabited α]{H:aA}{n id m:Nat}{e:α->List D1}{l:List α}{F:Nat->Prop}(a:H id=some ⟨n,m,l.map e⟩)(hm:l.length<=m)(b:F id):SlS n (cY e) H (.osl n id 0 l.length l.length) l F:=by
 by_cases hl:l=[]
 ·exact .inl ⟨hl,n,id,0,by rw[hl];rfl⟩
 ·exact .inr ⟨id,m,l.length,rfl,anA.2 hl,akA _,hm,_,_,Zw a b default⟩
theorem ai9{H0 H:aA}{nx c j:Nat}(h:j<nx):back (fun i=>nx+i) H0 c H j=H j:=by
 rcases MZ (fun i=>nx+i) H0 H c j (fun a b _ _ h=>by omega) with⟨i,_,d,_⟩|⟨_,d⟩
 ·omega
 ·exact d
theorem ajB{H0 H:aA}{nx c i:Nat}{o:bQ}(h:i<c)(d:H0 i=some o):back (fun i=>nx+i) H0 c H (nx+i)=some (o.rn fun i=>nx+i):=by
 rcases MZ (fun i=>nx+i) H0 H c (nx+i) (fun a b _ _ h=>by omega) with⟨e,_,j,f⟩|⟨g,_⟩
 ·have:e=i:=by omega
  subst this;rw[f,d];rfl
 ·exact absurd rfl (g i h)
end Go.AM
namespace Go.Proofs.YtlncecohbakleaaGreat
open Go Go.AM
attribute [local irreducible] aH wv aC vd wvH
section
variable{H:aA}{nx:Nat}{K:an4}
theorem ad5{c:Cfg}{s:CSt}{u:List Bool}{st:Nat}(b:bI c)(hs:COk c s)(a:st<4)(hu:u.length=3):COk c (T6 c s u st).1/\(T6 c s u st).2.length=3:=by
 unfold T6
 cases h:XF c s u st with
 |none=>exact⟨hs,hu⟩
 |some who=>exact⟨ES b hs (Ge a h),by simpa using hu⟩
theorem Ys{X:Nat->Prop}{c:Cfg}{i:CIn}{s:CSt}{nm:Nat->Nat}{cells:List D1}(hb:bI c)(hs:COk c s)(hi:aiR i)(hR:AF X H nx nm s cells)
 (h: ∀H' nx' g y,nx<=nx'->AF X H' nx' g (T5 c i s) y->(∀id,X id->H' id=H id)->K (dA y) H' nx'):
 an3 SD [dA (cD c),dA cells,dA (eIn i)] H nx K:=by
 refine bA.mk Tryz.func77 (by kernel_rfl) qk rfl fun Q hQ=> ?_
 unfold vG
 have hX:=hR.x
 obtain⟨ng,gd⟩:=eN hb
 obtain⟨nn,np,nq⟩:=hi
 obtain⟨C,Z⟩: ∃C:Nat->Prop,C=fun id=>X id\/id=nx\/id=nx+1\/id=nx+2\/id=nx+3:=⟨_,rfl⟩
 have x0:C nx:=by rw[Z];exact .inr (.inl rfl)
 have x1:C (nx+1):=by rw[Z];exact .inr (.inr (.inl rfl))
 have x2:C (nx+2):=by rw[Z];exact .inr (.inr (.inr (.inl rfl)))
 have x3:C (nx+3):=by rw[Z];exact .inr (.inr (.inr (.inr rfl)))
 have xX: ∀id,X id->C id:=fun id h=>by rw[Z];exact .inl h
 have cq: ∀id,C id->id<nx/\X id\/nx<=id/\id<=nx+3:=fun id h=>by
  rw[Z] at h;rcases h with h|h|h|h|h;·exact .inl ⟨hX id h,h⟩
  all_goals exact .inr (by omega)
 have J:=hR
 obtain⟨wc,hc,pc,vc,tc,mp,rp,mv,rv,l,g1,g2,g3,g4,g5,g6,g7,g8,g9,ga,gb⟩:=hR.get
 subst l
 repeat' first|apply vI<;>(simp only[go_sem,nL])|fail
 refine aH.ae1 fun G hG=> ?_
 have f0:G nx=some ⟨3,1,[cD c]⟩:=by rw[hG,aA.aB (by omega),aA.aB (by omega),aA.aB (by omega)];exact aA.aI
 have f1:G (nx+1)=some ⟨5,1,[[.osl 1 (nm 0) 0 s.words.length wc,.osl 1 (nm 1) 0 s.holds.length hc,.osl 4 (nm 2) 0 3 pc,.osl 3 (nm 3) 0 4 vc,.osl 5 (nm 4) 0 s.told.length tc]]⟩:=by rw[hG,aA.aB (by omega),aA.aB (by omega)];exact aA.aI
 have f2:G (nx+2)=some ⟨3,1,[eIn i]⟩:=by rw[hG,aA.aB (by omega)];exact aA.aI
 have f3:G (nx+3)=some ⟨5,1,[[D1.osl 0 0 0 0 0,D1.osl 0 0 0 0 0,D1.osl 0 0 0 0 0,D1.osl 0 0 0 0 0,D1.osl 0 0 0 0 0]]⟩:=by rw[hG];exact aA.aI
 have ff: ∀id,id<nx->G id=H id:=fun id d=>by rw[hG,aA.aB (by omega),aA.aB (by omega),aA.aB (by omega),aA.aB (by omega)]
 clear hG
 have gf:AF C G (nx+4) nm s [.osl 1 (nm 0) 0 s.words.length wc,.osl 1 (nm 1) 0 s.holds.length hc,.osl 4 (nm 2) 0 3 pc,.osl 3 (nm 3) 0 4 vc,.osl 5 (nm 4) 0 s.told.length tc]:=
  ⟨J.rep.frame fun k L=>ff _ (J.names.lt k L),⟨J.names.inj,fun k L=>by have:=J.names.lt k L;omega,fun k L hn=>by
   have h1:=J.names.lt k L
   rcases cq _ hn with⟨_,h2⟩|h2
   ·exact J.names.av k L h2
   ·omega⟩,fun id d=>by rcases cq id d with h|h<;>omega⟩
 clear hR J g1 g2 g3 g4 g5 g6 g7 g8 g9 ga gb
 refine aH.cE (β:=Nat×(Nat->Nat)×List D1×CSt) (fun u=>en [(7,dI u.1),(6,.one (.c (.ptr 5 (nx+3) 0 0))),(5,.one (.c (.ptr 3 (nx+2) 0 0))),(4,.one (.c (.ptr 5 (nx+1) 0 0))),(3,.one (.c (.ptr 3 nx 0 0)))])
  (fun u H1 M=>u.1<=3/\COk c u.2.2.2/\AF C H1 M u.2.1 u.2.2.2 u.2.2.1/\H1 (nx+1)=some ⟨5,1,[u.2.2.1]⟩/\LO c (AB i) ([0,1,2].drop u.1) u.2.2.2 (QY c i s)/\ ∀id,C id->id≠nx+1->H1 id=G id) (fun u=>3-u.1) (0,nm,_,s)
  ⟨noF,_,by repeat' first|exact C1|refine xqI rfl rfl ?_|refine xqP (by omega) rfl rfl ?_|fail,aF,by dsimp only;omega,hs,gf.frame (by omega) (fun _ _ _=>rfl),f1,rfl,fun _ _ _=>rfl⟩ ?_
 rintro⟨k,ds,ob,s1⟩ H1 M gg ⟨L,T,ad,w,t,f⟩ KL dv
 dsimp only at L T ad w t f
 have V:=(f nx x0 (by omega)).trans f0
 have Y:=(f (nx+2) x2 (by omega)).trans f2
 have e3:=(f (nx+3) x3 (by omega)).trans f3
 obtain⟨wc,hc,pc,vc,tc,mp,rp,mv,rv,l,g1,g2,g3,g4,g5,g6,g7,g8,g9,ga,gb⟩:=ad.get
 subst l
 have hB:bH M [nx,nx+1,nx+2,nx+3]:=AM.apart (by simp) (by simp;omega)
 simp only[bH,cU] at hB
 by_cases q:k<3
 ·rw[Pq q] at t
  cases hr:i.ready.getD k default with
  |false=>
   repeat' first|apply vI<;>(simp only[go_sem,nL,V,w,Y,hr,hB];try simp (disch:=omega) only[Iw])|apply vT (by omega)|refine⟨by omega,?_⟩|fail
   all_goals exact dv _ _ _ (k+1,ds,_,s1) noF _ (by omega) (by dsimp only;omega) (by repeat' first|exact C1|refine xqI rfl rfl ?_|refine xqP (by omega) rfl rfl ?_|fail) aF ⟨by dsimp only;omega,T,ad.frame (by omega) (fun _ _ _=>rfl),w,t.none (Cy hr),f⟩
  |true=>
   repeat' first|apply vI<;>(simp only[go_sem,nL,V,w,Y,hr,hB])|apply vT (by omega)|refine⟨by omega,?_⟩|fail
   refine Bi (X:=C) hb T q hr (ad.frame (nx':=M+11) (by omega) (fun _ _ _=>rfl)) fun H' nx' g y dx P R=> ?_;have q1:=(R (nx+1) x1).trans w;obtain⟨dy,dz,cf,ed,ei,_,_,_,_,z,_⟩:=P.get;subst z;have A:=Qg hb T (o:=AB i s1 k) (fun m hm=>YU T q hm);(try simp only[go_sem,nL,q1]);repeat' first|apply vI<;>(simp only[go_sem,nL,q1];try simp (disch:=omega) only[Iw])|fail
   exact dv _ _ _ (k+1,g,_,za c s1 (AB i s1 k)) noF _ (by omega) (by dsimp only;omega) (by repeat' first|exact C1|refine xqI rfl rfl ?_|refine xqP (by omega) rfl rfl ?_|fail) aF ⟨by dsimp only;omega,A,P.frame (by omega) (fun id h1 h2=>aA.aB fun he=>h2 (he▸x1)),aA.aI,t.next,fun id d D=>by rw[aA.aB D,R id d];exact f id d D⟩
 ·have ct:k=3:=by omega
  subst ct;have t:=LO.nil t;subst t;repeat' first|apply vI<;>(simp only[go_sem])|apply vF (by omega)|fail
  refine aH.cE (β:=Nat×(Nat->Nat)×List D1×CSt) (fun u=>en [(8,dI u.1),(6,.one (.c (.ptr 5 (nx+3) 0 0))),(5,.one (.c (.ptr 3 (nx+2) 0 0))),(4,.one (.c (.ptr 5 (nx+1) 0 0))),(3,.one (.c (.ptr 3 nx 0 0)))])
   (fun u H1 M=>u.1<=4/\COk c u.2.2.2/\AF C H1 M u.2.1 u.2.2.2 u.2.2.1/\H1 (nx+1)=some ⟨5,1,[u.2.2.1]⟩/\LO c (AA i) ([0,1,2,3].drop u.1) u.2.2.2 (XH c i s)/\ ∀id,C id->id≠nx+1->H1 id=G id) (fun u=>4-u.1) (0,ds,_,QY c i s)
   ⟨noF,_,by repeat' first|exact C1|refine xqI rfl rfl ?_|refine xqP (by omega) rfl rfl ?_|fail,aF,by dsimp only;omega,T,ad.frame (by omega) (fun _ _ _=>rfl),w,rfl,f⟩ ?_
  clear ad w f V Y e3 hB g1 g2 g3 g4 g5 g6 g7 g8 g9 ga gb T;rintro⟨k,S,ox,s2⟩ H2 cl gp ⟨L,U,I,w,t,f⟩ KM ej;dsimp only at L U I w t f;have V:=(f nx x0 (by omega)).trans f0;have Y:=(f (nx+2) x2 (by omega)).trans f2;obtain⟨wc,hc,pc,vc,tc,mp,rp,mv,rv,l,g1,g2,g3,g4,g5,g6,g7,g8,g9,ga,gb⟩:=I.get;subst l;have hB:bH cl [nx,nx+1,nx+2,nx+3]:=AM.apart (by simp) (by simp;omega);simp only[bH,cU] at hB;by_cases q:k<4
  ·rw[Qo q] at t
   cases hr:i.iP.getD k default with
   |true=>
    repeat' first|apply vI<;>(simp only[go_sem,nL,V,w,Y,hr,hB];try simp (disch:=omega) only[Iw])|apply vT (by omega)|refine⟨by omega,?_⟩|fail
    all_goals exact ej _ _ _ (k+1,S,_,s2) noF _ (by omega) (by dsimp only;omega) (by repeat' first|exact C1|refine xqI rfl rfl ?_|refine xqP (by omega) rfl rfl ?_|fail) aF ⟨by dsimp only;omega,U,I.frame (by omega) (fun _ _ _=>rfl),w,t.none (ZX (.inl hr)),f⟩
   |false=>
    repeat' first|apply vI<;>(simp only[go_sem,nL,V,w,Y,hr,hB])|apply vT (by omega)|refine⟨by omega,?_⟩|fail
    refine Br (X:=C) hb U q hr (I.frame (nx':=cl+13) (by omega) (fun _ _ _=>rfl)) fun H' nx' g y dx P R=> ?_;have q1:=(R (nx+1) x1).trans w;obtain⟨dy,dz,cf,ed,ei,_,_,_,_,z,_⟩:=P.get;subst z;have A:=Qg hb U (o:=AA i s2 k) (fun m hm=>S7 U q hm);(try simp only[go_sem,nL,q1]);repeat' first|apply vI<;>(simp only[go_sem,nL,q1];try simp (disch:=omega) only[Iw])|fail
    exact ej _ _ _ (k+1,g,_,za c s2 (AA i s2 k)) noF _ (by omega) (by dsimp only;omega) (by repeat' first|exact C1|refine xqI rfl rfl ?_|refine xqP (by omega) rfl rfl ?_|fail) aF ⟨by dsimp only;omega,A,P.frame (by omega) (fun id h1 h2=>aA.aB fun he=>h2 (he▸x1)),aA.aI,t.next,fun id d D=>by rw[aA.aB D,R id d];exact f id d D⟩
  ·have cw:k=4:=(by omega);subst cw;have t:=LO.nil t;subst t;repeat' first|apply vI<;>(simp only[go_sem])|apply vF (by omega)|fail
   obtain⟨ub,ha⟩: ∃ub,ub=cl+2:=⟨_,rfl⟩
   rw[<-ha];obtain⟨X2,cp⟩: ∃X2:Nat->Prop,X2=fun id=>C id\/id=ub:=⟨_,rfl⟩
   have y1:X2 (nx+1):=(by rw[cp];exact .inl x1);have yu:X2 ub:=(by rw[cp];exact .inr rfl);have yX: ∀id,C id->X2 id:=fun id h=>by rw[cp];exact .inl h
   have az: ∀id,X2 id->C id\/id=ub:=fun id h=>by rw[cp] at h;exact h
   have N: ∀id,C id->id<nx+4:=fun id h=>by rcases cq id h with h|h<;>omega
   obtain⟨G2,ao⟩: ∃G2,G2=H2.set ub ⟨1,3,[false,false,false].map d8⟩:=⟨_,rfl⟩
   have br:aA.set H2 ub ⟨1,3,[[D1.v (Value.bool false)],[D1.v (Value.bool false)],[D1.v (Value.bool false)]]⟩=G2:=ao.symm;rw[br];have j1:G2 (nx+1)=_:=(by rw[ao];exact aA.aB (by omega):G2 (nx+1)=H2 (nx+1)).trans w;have ju:G2 ub=some ⟨1,3,[false,false,false].map d8⟩:=(by rw[ao];exact aA.aI);have eo: ∀id,C id->id≠nx+1->G2 id=G id:=fun id d D=>by rw[ao,aA.aB (by have:=N id d;omega)];exact f id d D
   have jR:AF X2 G2 (cl+5) S (XH c i s) [.osl 1 (S 0) 0 (XH c i s).words.length wc,.osl 1 (S 1) 0 (XH c i s).holds.length hc,.osl 4 (S 2) 0 3 pc,.osl 3 (S 3) 0 4 vc,.osl 5 (S 4) 0 (XH c i s).told.length tc]:=
    ⟨I.rep.frame fun k L=>by rw[ao];exact aA.aB (by have:=I.names.lt k L;omega),⟨I.names.inj,fun k L=>by have:=I.names.lt k L;omega,fun k L hn=>by
     rcases az _ hn with h|h
     ·exact I.names.av k L h
     ·have:=I.names.lt k L;omega⟩,fun id d=>by
     rcases az id d with h|h
     ·have:=N id h;omega
     ·omega⟩
   clear I w f V Y hB g1 g2 g3 g4 g5 g6 g7 g8 g9 ga gb ao br
   refine aH.cE (β:=Nat×(Nat->Nat)×List D1×CSt×List Bool) (fun u=>en [(10,dI u.1),(9,.one (.c (.osl 1 ub 0 3 3))),(6,.one (.c (.ptr 5 (nx+3) 0 0))),(5,.one (.c (.ptr 3 (nx+2) 0 0))),(4,.one (.c (.ptr 5 (nx+1) 0 0))),(3,.one (.c (.ptr 3 nx 0 0)))])
    (fun u H1 M=>u.1<=4/\COk c u.2.2.2.1/\u.2.2.2.2.length=3/\AF X2 H1 M u.2.1 u.2.2.2.1 u.2.2.1/\H1 (nx+1)=some ⟨5,1,[u.2.2.1]⟩/\H1 ub=some ⟨1,3,u.2.2.2.2.map d8⟩/\ND c ([0,1,2,3].drop u.1) u.2.2.2.1 u.2.2.2.2 (X6 c i s)/\ ∀id,C id->id≠nx+1->H1 id=G id) (fun u=>4-u.1) (0,S,_,XH c i s,[false,false,false])
    ⟨noF,_,by repeat' first|exact C1|refine xqI rfl rfl ?_|refine xqP (by omega) rfl rfl ?_|refine xqO (by omega) rfl rfl (by rfl) ?_|fail,aF,by dsimp only;omega,U,rfl,jR.frame (by omega) (fun _ _ _=>rfl),j1,ju,rfl,eo⟩ ?_
   clear jR j1 ju eo U;rintro⟨k,hd,po,s3,u3⟩ H3 hf hh ⟨L,ca,cx,cc,w,eu,t,f⟩ KN ho;dsimp only at L ca cx cc w eu t f;have V:=(f nx x0 (by omega)).trans f0;have Y:=(f (nx+2) x2 (by omega)).trans f2;obtain⟨wc,hc,pc,vc,tc,mp,rp,mv,rv,l,g1,g2,g3,g4,g5,g6,g7,g8,g9,ga,gb⟩:=cc.get;subst l;have hB:bH hf [nx,nx+1,nx+2,nx+3]:=AM.apart (by simp) (by simp;omega);simp only[bH,cU] at hB;by_cases q:k<4
   ·rw[Qo q] at t;repeat' first|apply vI<;>(simp only[go_sem,nL,V,w,Y,hB])|apply vT (by omega)|fail
    refine Ez (X:=X2) (um:=3) hb ca q cx (cc.frame (by omega) (fun _ _ _=>rfl)) yu eu (by omega) fun H' nx' g y dx P hq R=> ?_;have q1:=(R (nx+1) y1 (by omega)).trans w;obtain⟨dy,dz,cf,ed,ei,_,_,_,_,z,_⟩:=P.get;subst z;obtain⟨A,ht⟩:=ad5 (u:=u3) hb ca q cx;(try simp only[go_sem,nL,q1]);repeat' first|apply vI<;>(simp only[go_sem,nL,q1];try simp (disch:=omega) only[Iw])|fail
    exact ho _ _ _ (k+1,g,_,(T6 c s3 u3 k).1,(T6 c s3 u3 k).2) noF _ (by omega) (by dsimp only;omega) (by repeat' first|exact C1|refine xqI rfl rfl ?_|refine xqP (by omega) rfl rfl ?_|refine xqO (by omega) rfl rfl (by rfl) ?_|fail) aF ⟨by dsimp only;omega,A,ht,P.frame (by omega) (fun id h1 h2=>aA.aB fun he=>h2 (he▸y1)),aA.aI,by rw[aA.aB (by omega)];exact hq,t.ai6,fun id d D=>by rw[aA.aB D,R id (yX id d) (by have:=N id d;omega)];exact f id d D⟩
   ·have cw:k=4:=(by omega);subst cw;have t:s3=X6 c i s:=t;subst t;repeat' first|apply vI<;>(simp only[go_sem])|apply vF (by omega)|fail
    have jR:=cc.sub yX;clear cc V Y hB g1 g2 g3 g4 g5 g6 g7 g8 g9 ga gb eu
    refine aH.cE (β:=Nat×(Nat->Nat)×List D1×CSt) (fun u=>en [(11,dI u.1),(6,.one (.c (.ptr 5 (nx+3) 0 0))),(5,.one (.c (.ptr 3 (nx+2) 0 0))),(4,.one (.c (.ptr 5 (nx+1) 0 0))),(3,.one (.c (.ptr 3 nx 0 0)))])
     (fun u H1 M=>u.1<=3/\COk c u.2.2.2/\AF C H1 M u.2.1 u.2.2.2 u.2.2.1/\H1 (nx+1)=some ⟨5,1,[u.2.2.1]⟩/\LO c (xv c i) ([0,1,2].drop u.1) u.2.2.2 (T5 c i s)/\ ∀id,C id->id≠nx+1->H1 id=G id) (fun u=>3-u.1) (0,hd,_,X6 c i s)
     ⟨noF,_,by repeat' first|exact C1|refine xqI rfl rfl ?_|refine xqP (by omega) rfl rfl ?_|fail,aF,by dsimp only;omega,ca,jR.frame (by omega) (fun _ _ _=>rfl),w,rfl,f⟩ ?_
    clear jR w f ca;rintro⟨k,n,ps,s4⟩ H4 E hv ⟨L,B,F,w,t,f⟩ KO cy;dsimp only at L B F w t f;have V:=(f nx x0 (by omega)).trans f0;have Y:=(f (nx+2) x2 (by omega)).trans f2;have e3:=(f (nx+3) x3 (by omega)).trans f3;have J:=F;obtain⟨wc,hc,pc,vc,tc,mp,rp,mv,rv,l,g1,g2,g3,g4,g5,g6,g7,g8,g9,ga,gb⟩:=F.get;subst l;have hB:bH E [nx,nx+1,nx+2,nx+3]:=AM.apart (by simp) (by simp;omega);simp only[bH,cU] at hB;by_cases q:k<3
    ·rw[Pq q] at t;by_cases hg:i.send.getD k default=true/\(aL s4 k).queue.length<2/\(aL s4 k).next<(c.b7.getD k default).length
     case neg=>
      have hO:xv c i s4 k=none:=by unfold xv;exact if_neg hg
      cases hr:i.send.getD k default with
      |false=>
       repeat' first|apply vI<;>(simp only[go_sem,nL,V,w,Y,hr,hB];try simp (disch:=omega) only[Iw])|apply vT (by omega)|refine⟨by omega,?_⟩|fail
       all_goals exact cy _ _ _ (k+1,n,_,s4) noF _ (by omega) (by dsimp only;omega) (by repeat' first|exact C1|refine xqI rfl rfl ?_|refine xqP (by omega) rfl rfl ?_|fail) aF ⟨by dsimp only;omega,B,F.frame (by omega) (fun _ _ _=>rfl),w,t.none hO,f⟩
      |true=>
       have dc:decide ((aL s4 k).queue.length<2/\(aL s4 k).next<(c.b7.getD k default).length)=false:=decide_eq_false fun h=>hg ⟨hr,h⟩;repeat' first| (first|apply vI|refine SS hb B q (J.tn B.pl B.sl (fun id d=>rfl)) ?_)<;>(simp only[go_sem,nL,V,w,Y,hr,dc,hB];try simp (disch:=omega) only[Iw])|apply vT (by omega)|refine⟨by omega,?_⟩|fail
       all_goals exact cy _ _ _ (k+1,n,_,s4) noF _ (by omega) (by dsimp only;omega) (by repeat' first|exact C1|refine xqI rfl rfl ?_|refine xqP (by omega) rfl rfl ?_|fail) aF ⟨by dsimp only;omega,B,F.frame (by omega) (fun _ _ _=>rfl),w,t.none hO,f⟩
     have hO:xv c i s4 k=some (.ask k):=(by unfold xv;exact if_pos hg);obtain⟨hr,ep,et⟩:=hg;have dc:decide ((aL s4 k).queue.length<2/\(aL s4 k).next<(c.b7.getD k default).length)=true:=decide_eq_true ⟨ep,et⟩;obtain⟨p,hp⟩: ∃p,aL s4 k=p:=⟨_,rfl⟩
     obtain⟨qo,qc,oc,gr,gq,go⟩:=ga k q;rw[hp] at gr gq go ep et;obtain⟨cd,_⟩:=(B.port k q).next;rw[hp] at cd;have qf:=gd k;have lt:=F.names.lt;have n2:=lt 2 (by omega);have n5:=lt (5+k) (by omega);have a2: ∀x,C x->n 2≠x:=fun x hx he=>F.names.av 2 (by omega) (he▸hx);have a5: ∀x,C x->n (5+k)≠x:=fun x hx he=>F.names.av (5+k) (by omega) (he▸hx);have ew:bH E ([2,5+k].map n):=AM.apart (F.names.list (by simp;omega) (by simp;omega)) (fun x hx=>by obtain⟨j,hj,rfl⟩:=akJ.1 hx;exact lt j (by simp at hj;omega));simp only[bH,cU,List.map] at ew;have hy:=eq_false (a2 _ x0);have hz:=eq_false (a2 _ x1);have ia:=eq_false (a2 _ x2);have ih:=eq_false (a2 _ x3);have iv:=eq_false (a5 _ x0);have iw:=eq_false (a5 _ x1);have jh:=eq_false (a5 _ x2);have jo:=eq_false (a5 _ x3);have kc:=eq_false (a2 _ x0).symm;have kf:=eq_false (a2 _ x1).symm;have kt:=eq_false (a2 _ x2).symm;have la:=eq_false (a5 _ x1).symm;have k1: ∀(G:aA) (b k:Nat),msk (E+b) [k] G (nx+1)=G (nx+1):=fun G b k=>mk1 (by omega);have k2: ∀(G:aA) (b k:Nat),msk (E+b) [k] G (n 2)=G (n 2):=fun G b k=>mk1 (by omega);have k5: ∀(G:aA) (b j:Nat),msk (E+b) [j] G (n (5+k))=G (n (5+k)):=fun G b j=>mk1 (by omega);obtain⟨mq,rq0,z1,z2,z3,z4,z5,z6⟩:=gq.ex;rw[akU] at z4;have lb:List.take p.queue.length (List.drop qo rq0)=p.queue.map aG:=(by rw[z2,akM (by simp)]);have fh: ∀r,(rp.set k r)[k]?=some r:=fun r=>by rw[ak6 (by omega)]
     repeat' first| (first|apply vI|refine SS hb B q (J.tn B.pl B.sl (fun id d=>rfl)) ?_)<;>(simp only[go_sem,nL,V,w,Y,hr,dc,g1,gr,z1,lb,fh,k1,k2,k5,ak4,hB,ew,hy,hz,ia,ih,iv,iw,jh,jo,kc,kf,kt,la];try simp (disch:=omega) only[Iw])|apply vT (by omega)| (with_reducible first|refine fun(cap:Nat) (lk:_<=cap)=> ?_|refine fun(qj:_<=cap)=> ?_)|refine⟨by omega,?_⟩|fail
     have hex:(p.queue++[p.next]).map aG=(p.queue++[p.next]).map aG:=rfl;obtain⟨s',A⟩: ∃s',s'=bS c s4 (.ask k):=⟨_,rfl⟩
     have df:COk c s':=(by rw[A];exact ES hb B (Ep B q hO));have t:=t.next;rw[hO,show za c s4 (some (.ask k))=s' from A.symm] at t;have aa:aL s' k= {p with queue:=p.queue++[p.next],next:=p.next+1}:=(by rw[A,cH rfl (by rw[B.pl];omega),if_pos rfl,hp]);have inj:=F.names.inj;refine tj (K:=KO) fun W hW=> ?_;have ma:W (E+29)=some ⟨1,cap,(p.queue++[p.next]).map aG⟩:=(by rw[hW];simp (disch:=omega) only[aA.aB,aA.aI]);have w2:W (n 2)=some ⟨4,mp,rp.set k [cI (p.next+1),.osl 1 (E+29) 0 (p.queue.length+1) cap,.osl 3 (n (8+k)) 0 p.out.length oc,cI p.last]⟩:=(by rw[hW];exact aA.aI);have wf: ∀id,id<E->id≠n 2->id≠n (5+k)->W id=H4 id:=fun id h1 h2 h3=>by rw[hW];simp (disch:=omega) only[aA.aB,aA.gK]
     clear hW;have wX: ∀id,C id->W id=H4 id:=fun id d=>wf id (by have:=N id d;omega) (fun he=>a2 id d he.symm) (fun he=>a5 id d he.symm);have wk: ∀a,a<19->a≠2->a≠5+k->W (n a)=H4 (n a):=fun a h1 h2 h3=>wf _ (lt a h1) (fun he=>h2 (inj a 2 h1 (by omega) he)) (fun he=>h3 (inj a (5+k) h1 (by omega) he));obtain⟨g,ab⟩: ∃g,g=put n (5+k) (E+29):=⟨_,rfl⟩
     have O: ∀a,a≠5+k->g a=n a:=fun a h1=>by rw[ab,dG h1]
     have fm:g (5+k)=E+29:=(by rw[ab,kQ]);have hN:Names C (E+49) g:=(by rw[ab];exact F.names.put (by omega) (by omega) (fun hn=>by have:=N _ hn;omega));have fo:s'.words=s4.words:=(by rw[A];rfl);have fr:s'.holds=s4.holds:=(by rw[A];rfl);have fs:s'.told=s4.told:=(by rw[A];rfl);have w1:W (nx+1)=some ⟨5,1,[[.osl 1 (g 0) 0 s'.words.length wc,.osl 1 (g 1) 0 s'.holds.length hc,.osl 4 (g 2) 0 3 pc,.osl 3 (g 3) 0 4 vc,.osl 5 (g 4) 0 s'.told.length tc]]⟩:=(by rw[wX _ x1,w,fo,fr,fs,O 0 (by omega),O 1 (by omega),O 2 (by omega),O 3 (by omega),O 4 (by omega)]);refine cy _ _ _ (k+1,g,_,s') noF _ (by omega) (by dsimp only;omega) (by repeat' first|exact C1|refine xqI rfl rfl ?_|refine xqP (by omega) rfl rfl ?_|fail) aF ⟨by dsimp only;omega,df,⟨⟨⟨wc,hc,pc,vc,tc,rfl,?_,?_,?_,g6,g7⟩,⟨mp,rp.set k [cI (p.next+1),.osl 1 (E+29) 0 (p.queue.length+1) cap,.osl 3 (n (8+k)) 0 p.out.length oc,cI p.last],?_,by rw[akI,g8],fun j hj=> ?_⟩,⟨mv,rv,?_,g9,fun j hj=> ?_⟩⟩,hN,fun id d=>by have:=N id d;omega⟩,w1,t,fun id d D=>(wX id d).trans (f id d D)⟩;·dsimp only;rw[fo,O 0 (by omega)];exact g3.frame (wk 0 (by omega) (by omega) (by omega))
     ·dsimp only;rw[fr,O 1 (by omega)];exact g4.frame (wk 1 (by omega) (by omega) (by omega))
     ·dsimp only;rw[fs,O 4 (by omega)];exact g5.frame (wk 4 (by omega) (by omega) (by omega))
     ·dsimp only;rw[O 2 (by omega)];exact w2
     ·dsimp only;by_cases dh:j=k
      ·subst dh;refine⟨_,fh _,⟨0,cap,oc,?_,?_,?_⟩⟩;·rw[aa,fm,O (8+j) (by omega)];simp only[Cp,akG,List.length_singleton]
       ·rw[aa,fm];exact⟨cap,_,ma,rfl,by simp,by simp,by simp;omega,by omega⟩
       ·rw[aa,O (8+j) (by omega)];exact go.frame (wk (8+j) (by omega) (by omega) (by omega))
      ·obtain⟨me,mh,mm,v1,v2,v3⟩:=ga j hj;have e:aL s' j=aL s4 j:=(by rw[A,cH rfl (by rw[B.pl];omega),if_neg dh]);refine⟨_,by rw[ak7 (Ne.symm dh)];exact v1,⟨me,mh,mm,?_,?_,?_⟩⟩;·rw[e,O (5+j) (by omega),O (8+j) (by omega)];rfl
       ·rw[e,O (5+j) (by omega)];exact v2.frame (wk (5+j) (by omega) (by omega) (by omega))
       ·rw[e,O (8+j) (by omega)];exact v3.frame (wk (8+j) (by omega) (by omega) (by omega))
     ·dsimp only;rw[O 3 (by omega)];exact(wk 3 (by omega) (by omega) (by omega)).trans g2
     ·dsimp only;obtain⟨mn,cf,mw,nd,v1,v2,v3⟩:=gb j hj;have e:aU s' j=aU s4 j:=(by rw[A];rfl);refine⟨_,v1,⟨mn,cf,mw,nd,?_,?_,?_⟩⟩;·rw[e,O (11+j) (by omega),O (15+j) (by omega)];rfl
      ·rw[e,O (11+j) (by omega)];exact v2.frame (wk (11+j) (by omega) (by omega) (by omega))
      ·rw[e,O (15+j) (by omega)];exact v3.frame (wk (15+j) (by omega) (by omega) (by omega))
    ·have ct:k=3:=(by omega);subst ct;have t:=LO.nil t;subst t;repeat' first|apply vI<;>(simp only[go_sem,w,e3,hB,nL])|apply vF (by omega)|fail
     refine hQ _ _ _ _ _ (.inr rfl) (nU rfl aA.aI rfl) ?_;refine h _ _ n _ (by omega) ((F.frame (by omega) fun id h1 h2=>aA.aB fun he=>h2 (he▸x3)).sub xX) fun id d=> ?_;rw[aA.aB (by have:=hX id d;omega),f id (xX id d) (by have:=hX id d;omega)];exact ff id (hX id d)
theorem abU{s:CSt}(hs:CSz s)
 (h: ∀H' nx' nm cells,nx<=nx'->Ej H' nm s cells->Part (fun k=>k<19) nx nx' nm->(∀id,id<nx->H' id=H id)->K (dA cells) H' nx'):
 an3 VJ [dA (dY s)] H nx K:=by
 have ha:=hs.pl
 have hb:=hs.sl
 refine bA.mk Tryz.func103 (by kernel_rfl) xz rfl fun Q hQ=> ?_
 unfold yC
 refine aH.kd 4 (aH.kd 3 ?_)
 repeat' first| (first|apply vI|refine P8 (w:=s.words) (u:=s.holds) hs.w hs.h (fun H1 b b0 b1 c0 c1 N E h3 fh fm F=> ?_))<;>(simp only[go_sem,nL])|fail
 generalize hU:dU (nx+4) [7] _ H1=U
 have u2:U (nx+2)=some ⟨5,1,[dY s]⟩:=by rw[<-hU,um1 (by omega),F _ (by omega),aA.aB (by omega)];exact aA.aI
 have u3:U (nx+3)=some ⟨5,1,[[.osl 0 0 0 0 0,.osl 0 0 0 0 0,.osl 0 0 0 0 0,.osl 0 0 0 0 0,.osl 0 0 0 0 0]]⟩:=by rw[<-hU,um1 (by omega),F _ (by omega)];exact aA.aI
 have fo:U (nx+11)=some ⟨5,1,[[.osl 0 0 0 0 0,.osl 0 0 0 0 0,.osl 0 0 0 0 0,.osl 0 0 0 0 0,.osl 0 0 0 0 0]]⟩:=by rw[<-hU,show nx+11=nx+4+7 by omega,aeP];exact aA.aI
 have u0:U nx=some ⟨4,0,[]⟩:=by rw[<-hU,um1 (by omega),F _ (by omega),aA.aB (by omega),aA.aB (by omega),aA.aB (by omega)];exact aA.aI
 have u1:U (nx+1)=some ⟨3,0,[]⟩:=by rw[<-hU,um1 (by omega),F _ (by omega),aA.aB (by omega),aA.aB (by omega)];exact aA.aI
 have fr:Own aG 1 U b0 c0 s.words:=fh.of (by rw[<-hU,um1 (by omega)])
 have fs:Own aG 1 U b1 c1 s.holds:=fm.of (by rw[<-hU,um1 (by omega)])
 have uf: ∀id,id<nx->U id=H id:=fun id z=>by rw[<-hU,um1 (by omega),F _ (by omega),aA.aB (by omega),aA.aB (by omega),aA.aB (by omega),aA.aB (by omega),mk1 (by omega)]
 clear hU fh fm F
 have m0: ∀G:aA,msk (nx+4) [7] G (nx+2)=G (nx+2):=fun G=>mk1 (by omega)
 refine⟨fun _=>by rw[m0,u2];rfl,?_⟩
 refine kS (l:=s.told) hs.t.1 hs.t.2 fun H2 I b2 c2 h4 h5 R C=> ?_
 simp only[go_sem,m0]
 generalize hV:dU (nx+4) [7] U H2=V
 have v2:V (nx+2)=some ⟨5,1,[dY s]⟩:=by rw[<-hV,um1 (by omega),C _ (by omega),mk1 (by omega)];exact u2
 have v3:V (nx+3)=some ⟨5,1,[[.osl 0 0 0 0 0,.osl 0 0 0 0 0,.osl 0 0 0 0 0,.osl 0 0 0 0 0,.osl 0 0 0 0 0]]⟩:=by rw[<-hV,um1 (by omega),C _ (by omega),mk1 (by omega)];exact u3
 have v11:V (nx+11)=some ⟨5,1,[[.osl 0 0 0 0 0,.osl 0 0 0 0 0,.osl 0 0 0 0 0,.osl 0 0 0 0 0,.osl 0 0 0 0 0]]⟩:=by rw[<-hV,show nx+11=nx+4+7 by omega,aeP];exact fo
 have v0:V nx=some ⟨4,0,[]⟩:=by rw[<-hV,um1 (by omega),C _ (by omega),mk1 (by omega)];exact u0
 have v1:V (nx+1)=some ⟨3,0,[]⟩:=by rw[<-hV,um1 (by omega),C _ (by omega),mk1 (by omega)];exact u1
 have hd:Own aG 1 V b0 c0 s.words:=fr.of (by rw[<-hV,um1 (by omega),C _ (by omega),mk1 (by omega)])
 have hf:Own aG 1 V b1 c1 s.holds:=fs.of (by rw[<-hV,um1 (by omega),C _ (by omega),mk1 (by omega)])
 have hg:Own aP 5 V b2 c2 s.told:=R.of (by rw[<-hV,um1 (by omega)])
 have vf: ∀id,id<nx->V id=H id:=fun id z=>by rw[<-hV,um1 (by omega),C _ (by omega),mk1 (by omega)];exact uf id z
 clear hV R C u0 u1 u2 u3 fo fr fs uf
 have hA:bH I [nx+2,nx+3,nx+11]:=AM.apart (by simp) (by simp;omega)
 simp only[bH,cU] at hA
 (try simp only[go_sem,nL,v2,v3,v11,hA,nL]);repeat' first|apply vI<;>(simp only[go_sem,nL,v2,v3,v11,hA,nL])|fail
 refine aH.VP _ _ noF (fun t=>.inl rfl) (dd (i:=nx+11) (o':=⟨5,1,[[.osl 1 b0 0 s.words.length c0,.osl 1 b1 0 s.holds.length c1,.osl 4 nx 0 0 0,.osl 3 (nx+1) 0 0 0,.osl 5 b2 0 s.told.length c2]]⟩) aA.aI (jU (aQ (.osl _ _ _ _ _ (by omega)) (aQ (.osl _ _ _ _ _ (by omega)) (aQ (.Fq ..) (aQ (.Fq ..) (aQ (.osl _ _ _ _ _ (by omega)) iA))))))) ?_
 refine aH.Ia fun G hG=> ?_
 have hh:G (nx+11)=some ⟨5,1,[[.osl 1 b0 0 s.words.length c0,.osl 1 b1 0 s.holds.length c1,.osl 4 nx 0 0 0,.osl 3 (nx+1) 0 0 0,.osl 5 b2 0 s.told.length c2]]⟩:=by rw[hG];exact aA.aI
 have df: ∀id,id≠nx+11->G id=V id:=fun id z=>by rw[hG,aA.aB z,aA.aB z]
 clear hG
 refine aH.cE (β:=Nat×(Nat->Nat)×Nat) (fun u=>en [(4,dI u.1),(3,.one (.c (.ptr 5 (nx+11) 0 0))),(2,.one (.c (.ptr 5 (nx+3) 0 0))),(1,.one (.c (.ptr 5 (nx+2) 0 0)))])
  (fun u H1 b=>u.1<=3/\(u.2.1 0=b0/\u.2.1 1=b1/\u.2.1 3=nx+1/\u.2.1 4=b2)/\Part (fun j=>j<5\/(5<=j/\j<5+u.1)\/(8<=j/\j<8+u.1)) nx b u.2.1/\(u.2.1 2=nx\/I<=u.2.1 2)/\(∀j,(5<=j/\j<5+u.1)\/(8<=j/\j<8+u.1)->I<=u.2.1 j)/\H1 (nx+11)=some ⟨5,1,[[.osl 1 b0 0 s.words.length c0,.osl 1 b1 0 s.holds.length c1,.osl 4 (u.2.1 2) 0 u.1 u.2.2,.osl 3 (nx+1) 0 0 0,.osl 5 b2 0 s.told.length c2]]⟩/\(∃m rows,H1 (u.2.1 2)=some ⟨4,m,rows⟩/\ajR u.1 H1 u.2.1 s rows/\u.1<=u.2.2/\u.2.2<=m)/\ ∀id,id<I->id≠nx->id≠nx+11->H1 id=V id)
  (fun u=>3-u.1) (0,lq nx b0 b1 b2,0) ⟨noF,_,by repeat' first|exact C1|refine xqI rfl rfl ?_|refine xqP (by omega) rfl rfl ?_|fail,aF,by dsimp only;omega,⟨rfl,rfl,rfl,rfl⟩,(Mi (n:=I+1) (by omega) E (by omega) (by omega)).mono (by omega),.inl rfl,fun j g=>by dsimp only at g;omega,hh,⟨0,[],(df nx (by omega)).trans v0,⟨rfl,fun j g=>by dsimp only at g;omega⟩,akA _,akA _⟩,fun id _ _ z=>df id z⟩ ?_
 rintro⟨k,nm,S⟩ H1 b ma ⟨hk,⟨n0,n1,n3,n4⟩,O,ga,J,cd,⟨m,rows,gp,⟨T,cl⟩,gb,hn⟩,L⟩ KL ht
 dsimp only at hk n0 n1 n3 n4 O ga J cd gp T cl gb hn
 have g2:H1 (nx+2)=some ⟨5,1,[dY s]⟩:=(L _ (by omega) (by omega) (by omega)).trans v2
 obtain⟨ip,X⟩: ∃ip,ip=nm 2:=⟨_,rfl⟩
 have ct:=O.rng 2 (.inl (by omega))
 rw[<-X] at cd gp ga ct
 have cw:bH b [nx+2,nx+3,nx+11,ip]:=AM.apart (by simp;omega) (by simp;omega)
 simp only[bH,cU] at cw
 have gd:List.take k rows=rows:=akM (by omega)
 by_cases cx:k<3
 ·obtain⟨p,Y⟩: ∃p,p=aL s k:=⟨_,rfl⟩
  have cy:s.bE.getD k default=p:=Y.symm;obtain⟨hq,ho⟩:=hs.port k cx;rw[<-Y] at hq ho;refine aH.EN fun Z=> ?_;have aa: ∀k l,msk (b+k) l H1=H1:=fun k l=>CW Z (by omega);repeat' first|apply vI<;>(simp only[go_sem,nL,aa,umS (G:=H1),umD (G:=H1),umB,msk,List.map,akK,alM,or_false,cy,gd,T,g2,cd,gp,cw,ha];try simp (disch:=omega) only[Iw])|apply vT (by omega)| (with_reducible first|refine fun(cap:Nat) (ab:_<=cap)=> ?_|refine fun(gf:_<=cap)=> ?_)|refine⟨by omega,?_⟩|fail
  rename_i cq hv hx co hy hz;refine tj (K:=KL) fun W M=> ?_;have ia:W (b+28)=some ⟨4,cap,rows++[[cI p.next,.osl 1 (b+19) 0 p.queue.length cq,.osl 3 (b+23) 0 p.out.length co,cI p.last]]⟩:=by rw[M,aA.aB (by omega)];exact aA.aI
  have ih:W (b+19)=some ⟨1,cq,p.queue.map aG⟩:=by rw[M];simp (disch:=omega) only[aA.aB,aA.aI]
  have iw:W (b+23)=some ⟨3,co,p.out.map eCJ⟩:=by rw[M];simp (disch:=omega) only[aA.aB,aA.aI]
  have dc:W (nx+11)=some ⟨5,1,[[.osl 1 b0 0 s.words.length c0,.osl 1 b1 0 s.holds.length c1,.osl 4 (b+28) 0 (k+1) cap,.osl 3 (nx+1) 0 0 0,.osl 5 b2 0 s.told.length c2]]⟩:=by rw[M];exact aA.aI
  have wf: ∀id,id<b->id≠ip->id≠nx+11->W id=H1 id:=fun id d1 d2 d3=>by rw[M];simp (disch:=omega) only[aA.aB,aA.gK]
  clear M;obtain⟨f,d⟩: ∃f,f=put (put (put nm (5+k) (b+19)) (8+k) (b+23)) 2 (b+28):=⟨_,rfl⟩
  have p2:f 2=b+28:=by rw[d,kQ]
  have p5:f (5+k)=b+19:=by rw[d,dG (by omega),dG (by omega),kQ]
  have p8:f (8+k)=b+23:=by rw[d,dG (by omega),kQ]
  have P: ∀a,a≠2->a≠5+k->a≠8+k->f a=nm a:=fun a N E h3=>by rw[d,dG N,dG h3,dG E]
  have dh:Part (fun j=>j<5\/(5<=j/\j<5+(k+1))\/(8<=j/\j<8+(k+1))) nx (b+29) f:=by rw[d];exact((O.put (B:=fun j=>j<5\/(5<=j/\j<5+(k+1))\/(8<=j/\j<8+k)) (hi':=b+23) (by omega) (by omega) (by omega) (fun j g=>by first|omega| (dsimp only at*;omega))).put (B:=fun j=>j<5\/(5<=j/\j<5+(k+1))\/(8<=j/\j<8+(k+1))) (hi':=b+28) (by omega) (by omega) (by omega) (fun j g=>by first|omega| (dsimp only at*;omega))).put (by omega) (by omega) (by omega) (fun j g=>by first|omega| (dsimp only at*;omega))
  clear d;refine ht _ _ _ (k+1,f,cap) noF _ (by omega) (by dsimp only;omega) (by repeat' first|exact C1|refine xqI rfl rfl ?_|refine xqP (by omega) rfl rfl ?_|fail) aF ⟨by dsimp only;omega,⟨(P 0 (by omega) (by omega) (by omega)).trans n0,(P 1 (by omega) (by omega) (by omega)).trans n1,(P 3 (by omega) (by omega) (by omega)).trans n3,(P 4 (by omega) (by omega) (by omega)).trans n4⟩,dh.mono (by omega),.inr (by dsimp only;omega),fun j g=> ?_,?_,⟨cap,rows++[[cI p.next,.osl 1 (b+19) 0 p.queue.length cq,.osl 3 (b+23) 0 p.out.length co,cI p.last]],?_,⟨?_,fun j g=> ?_⟩,by dsimp only;omega,akA _⟩,fun id d1 d2 d3=> ?_⟩
  ·dsimp only at g ⊢;by_cases e1:j=5+k;·rw[e1,p5];omega
   ·by_cases e2:j=8+k;·rw[e2,p8];omega
    ·rw[P j (by omega) e1 e2];exact J j (by omega)
  ·dsimp only;rw[p2];exact dc
  ·dsimp only;rw[p2];exact ia
  ·rw[akG,T];rfl
  ·dsimp only at g ⊢;by_cases ds:j=k
   ·subst ds;refine⟨_,by rw[amI (by omega),T,al9];rfl,⟨0,cq,co,?_,?_,?_⟩⟩;·rw[p5,p8,<-Y];rfl
    ·rw[p5,<-Y];exact⟨cq,p.queue.map aG,ih,rfl,by simp,by simp,hv,by omega⟩
    ·rw[p8,<-Y];exact⟨co,p.out.map eCJ,iw,rfl,by simp,by simp,hy,by omega⟩
   ·obtain⟨r,N,E⟩:=cl j (by omega);have a5:=O.rng (5+j) (.inr (.inl ⟨by omega,by omega⟩));have a8:=O.rng (8+j) (.inr (.inr ⟨by omega,by omega⟩));have q5:=J (5+j) (.inl (by omega));have q8:=J (8+j) (.inr (by omega));refine⟨r,by rw[amE (by omega)];exact N,?_⟩;rw[P (5+j) (by omega) (by omega) (by omega),P (8+j) (by omega) (by omega) (by omega)];exact E.frame (wf _ (by omega) (fun he=>by have:=O.inj (5+j) 2 (.inr (.inl ⟨by omega,by omega⟩)) (.inl (by omega)) (he.trans X);omega) (by omega)) (wf _ (by omega) (fun he=>by have:=O.inj (8+j) 2 (.inr (.inr ⟨by omega,by omega⟩)) (.inl (by omega)) (he.trans X);omega) (by omega))
  ·rw[wf id (by omega) (by omega) d3];exact L id d1 d2 d3
 ·repeat' first|apply vI<;>(simp only[go_sem,g2])|apply vF (by omega)|fail
  have jh:k=3:=by omega
  subst jh;have g1:H1 (nx+1)=some ⟨3,0,[]⟩:=(L _ (by omega) (by omega) (by omega)).trans v1;clear cw gd
  refine aH.cE (β:=Nat×(Nat->Nat)×Nat) (fun u=>en [(6,dI u.1),(3,.one (.c (.ptr 5 (nx+11) 0 0))),(2,.one (.c (.ptr 5 (nx+3) 0 0))),(1,.one (.c (.ptr 5 (nx+2) 0 0)))])
   (fun u H2 n2=>u.1<=4/\(∀j,j<11->j≠3->u.2.1 j=nm j)/\Part (fun j=>j<11\/(11<=j/\j<11+u.1)\/(15<=j/\j<15+u.1)) nx n2 u.2.1/\(u.2.1 3=nx+1\/b<=u.2.1 3)/\(∀j,(11<=j/\j<11+u.1)\/(15<=j/\j<15+u.1)->b<=u.2.1 j)/\H2 (nx+11)=some ⟨5,1,[[.osl 1 b0 0 s.words.length c0,.osl 1 b1 0 s.holds.length c1,.osl 4 ip 0 3 S,.osl 3 (u.2.1 3) 0 u.1 u.2.2,.osl 5 b2 0 s.told.length c2]]⟩/\(∃m rows,H2 (u.2.1 3)=some ⟨3,m,rows⟩/\ajW u.1 H2 u.2.1 s rows/\u.1<=u.2.2/\u.2.2<=m)/\ ∀id,id<b->id≠nx+1->id≠nx+11->H2 id=H1 id)
   (fun u=>4-u.1) (0,nm,0) ⟨noF,_,by repeat' first|exact C1|refine xqI rfl rfl ?_|refine xqP (by omega) rfl rfl ?_|fail,aF,by dsimp only;omega,fun _ _ _=>rfl,⟨fun j k g hk he=>O.inj j k (by first|omega| (dsimp only at*;omega)) (by first|omega| (dsimp only at*;omega)) he,fun j g=>by have:=O.rng j (by first|omega| (dsimp only at*;omega));first|omega| (dsimp only at*;omega)⟩,.inl n3,fun j g=>by dsimp only at g;omega,by dsimp only;rw[n3];exact cd,⟨0,[],by dsimp only;rw[n3];exact g1,⟨rfl,fun j g=>by dsimp only at g;omega⟩,akA _,akA _⟩,fun _ _ _ _=>rfl⟩ ?_
  rintro⟨k,ad,dv⟩ H2 e jo ⟨hk,q,A,ao,y,az,⟨mv,rv,bv,⟨D,dx⟩,gg,ju⟩,x⟩ KM kc;dsimp only at hk q A ao y az bv D dx gg ju;have e2:H2 (nx+2)=some ⟨5,1,[dY s]⟩:=(x _ (by omega) (by omega) (by omega)).trans g2;obtain⟨iv,br⟩: ∃iv,iv=ad 3:=⟨_,rfl⟩
  have dy:=A.rng 3 (.inl (by omega));rw[<-br] at az bv ao dy;have ca:bH e [nx+2,nx+3,nx+11,iv]:=AM.apart (by simp;omega) (by simp;omega);simp only[bH,cU] at ca;have dz:List.take k rv=rv:=akM (by omega);by_cases cx:k<4
  ·obtain⟨v,cc⟩: ∃v,v=aU s k:=⟨_,rfl⟩
   have ed:s.bM.getD k default=v:=cc.symm;obtain⟨hq,ho,R⟩:=hs.slv k cx;rw[<-cc] at hq ho R;refine aH.EN fun Z=> ?_;have aa: ∀k l,msk (e+k) l H2=H2:=fun k l=>CW Z (by omega);repeat' first| (first|apply vI|refine kS (l:=v.done) ho R (fun H5 gq b5 c5 h6 h7 kf cf=> ?_))<;>(simp only[go_sem,nL,aa,umS (G:=H2),umD (G:=H2),umB,msk,List.map,akK,alM,or_false,ed,dz,D,e2,az,bv,ca,hb])|apply vT (by omega)| (with_reducible first|refine fun(cap:Nat) (ab:_<=cap)=> ?_|refine fun(gf:_<=cap)=> ?_)|refine⟨by omega,?_⟩|fail
   obtain⟨cp,rfl⟩: ∃cp,cp=cap:=⟨_,rfl⟩
   have ei:=ab;have ej:H5 (e+10)=some ⟨3,1,[eV v]⟩:=(by rw[cf _ (by omega)];simp (disch:=omega) only[aA.aB,aA.aI,aA.gK]);have f17:H5 (e+17)=some ⟨3,cp,v.pipe.map eCJ⟩:=(by rw[cf _ (by omega)];simp (disch:=omega) only[aA.aB,aA.aI,aA.gK]);have ff: ∀id,id<e->H5 id=H2 id:=fun id d1=>by rw[cf _ (by omega)];simp (disch:=omega) only[aA.aB,aA.aI,aA.gK]
   have eo:=(ff (nx+11) (by omega)).trans az;have gr:=(ff iv (by omega)).trans bv;clear cf;have ep:bH gq [nx+2,nx+3,nx+11,iv,e+10,e+17,e+24,b5]:=AM.apart (by simp;omega) (by simp;omega);simp only[bH,cU] at ep;simp only[ej,eo];refine⟨⟨fun _=>rfl,fun he=>he.elim,fun _=>rfl⟩,?_⟩;(try simp only[go_sem,nL,ej,eo,gr,dz,D,ep,ca,nL]);repeat' first|apply vI<;>(simp only[go_sem,nL,ej,eo,gr,dz,D,ep,ca,nL];try simp (disch:=omega) only[Iw])| (with_reducible first|refine fun(cap:Nat) (ab:_<=cap)=> ?_|refine fun(gf:_<=cap)=> ?_)|refine⟨by omega,?_⟩|fail
   refine tj (K:=KM) fun W M=> ?_;have kt:W (e+25)=some ⟨3,cap,rv++[[.osl 3 (e+17) 0 v.pipe.length cp,.osl 5 b5 0 v.done.length c5,cI v.last]]⟩:=(by rw[M,aA.aB (by omega)];exact aA.aI);have la:W (e+17)=some ⟨3,cp,v.pipe.map eCJ⟩:=(by rw[M];simp (disch:=omega) only[aA.aB,aA.aI,aA.gK];exact f17);have lb:Own aP 5 W b5 c5 v.done:=kf.of (by rw[M];simp (disch:=omega) only[aA.aB,aA.gK]);have dc:W (nx+11)=some ⟨5,1,[[.osl 1 b0 0 s.words.length c0,.osl 1 b1 0 s.holds.length c1,.osl 4 ip 0 3 S,.osl 3 (e+25) 0 (k+1) cap,.osl 5 b2 0 s.told.length c2]]⟩:=(by rw[M];exact aA.aI);have wf: ∀id,id<e->id≠iv->id≠nx+11->W id=H2 id:=fun id d1 d2 d3=>by rw[M];simp (disch:=omega) only[aA.aB,aA.gK];exact ff id d1
   clear M;obtain⟨f,d⟩: ∃f,f=put (put (put ad (11+k) (e+17)) 3 (e+25)) (15+k) b5:=⟨_,rfl⟩
   have p3:f 3=e+25:=(by rw[d,dG (by omega),kQ]);have et:f (11+k)=e+17:=(by rw[d,dG (by omega),dG (by omega),kQ]);have eu:f (15+k)=b5:=(by rw[d,kQ]);have P: ∀a,a≠3->a≠11+k->a≠15+k->f a=ad a:=fun a N E h3=>by rw[d,dG h3,dG N,dG E]
   have dh:Part (fun j=>j<11\/(11<=j/\j<11+(k+1))\/(15<=j/\j<15+(k+1))) nx gq f:=(by rw[d];exact((A.put (B:=fun j=>j<11\/(11<=j/\j<11+(k+1))\/(15<=j/\j<15+k)) (hi':=e+18) (by omega) (by omega) (by omega) (fun j g=>by first|omega| (dsimp only at*;omega))).put (B:=fun j=>j<11\/(11<=j/\j<11+(k+1))\/(15<=j/\j<15+k)) (hi':=e+26) (by omega) (by omega) (by omega) (fun j g=>by first|omega| (dsimp only at*;omega))).put (by omega) (by omega) (by omega) (fun j g=>by first|omega| (dsimp only at*;omega)));clear d;refine kc _ _ _ (k+1,f,cap) noF _ (by omega) (by dsimp only;omega) (by repeat' first|exact C1|refine xqI rfl rfl ?_|refine xqP (by omega) rfl rfl ?_|fail) aF ⟨by dsimp only;omega,fun j g j3=> ?_,dh.mono (by omega),.inr (by dsimp only;omega),fun j g=> ?_,?_,⟨cap,rv++[[.osl 3 (e+17) 0 v.pipe.length cp,.osl 5 b5 0 v.done.length c5,cI v.last]],?_,⟨?_,fun j g=> ?_⟩,by dsimp only;omega,akA _⟩,fun id d1 d2 d3=> ?_⟩;·dsimp only;rw[P j j3 (by omega) (by omega)];exact q j g j3
   ·dsimp only at g ⊢;by_cases e1:j=11+k;·rw[e1,et];omega
    ·by_cases e2:j=15+k;·rw[e2,eu];omega
     ·rw[P j (by omega) e1 e2];exact y j (by omega)
   ·dsimp only;rw[p3];exact dc
   ·dsimp only;rw[p3];exact kt
   ·rw[akG,D];rfl
   ·dsimp only at g ⊢;by_cases ds:j=k
    ·subst ds;refine⟨_,by rw[amI (by omega),D,al9];rfl,⟨0,cp,0,c5,?_,?_,?_⟩⟩;·rw[et,eu,<-cc];rfl
     ·rw[et,<-cc];exact⟨cp,v.pipe.map eCJ,la,rfl,by simp,by simp,ei,by omega⟩
     ·rw[eu,<-cc];obtain⟨mo,o1,o2,o3⟩:=lb;exact⟨mo,v.done.map aP,o1,rfl,by simp,by simp,o2,by omega⟩
    ·obtain⟨r,N,E⟩:=dx j (by omega);have a5:=A.rng (11+j) (.inr (.inl ⟨by omega,by omega⟩));have a8:=A.rng (15+j) (.inr (.inr ⟨by omega,by omega⟩));have q5:=y (11+j) (.inl (by omega));have q8:=y (15+j) (.inr (by omega));refine⟨r,by rw[amE (by omega)];exact N,?_⟩;rw[P (11+j) (by omega) (by omega) (by omega),P (15+j) (by omega) (by omega) (by omega)];exact E.frame (wf _ (by omega) (fun he=>by have:=A.inj (11+j) 3 (.inr (.inl ⟨by omega,by omega⟩)) (.inl (by omega)) (he.trans br);omega) (by omega)) (wf _ (by omega) (fun he=>by have:=A.inj (15+j) 3 (.inr (.inr ⟨by omega,by omega⟩)) (.inl (by omega)) (he.trans br);omega) (by omega))
   ·rw[wf id (by omega) (by omega) d3];exact x id d1 d2 d3
  ·have e3:H2 (nx+3)=some ⟨5,1,[[.osl 0 0 0 0 0,.osl 0 0 0 0 0,.osl 0 0 0 0 0,.osl 0 0 0 0 0,.osl 0 0 0 0 0]]⟩:=(x _ (by omega) (by omega) (by omega)).trans ((L _ (by omega) (by omega) (by omega)).trans v3);repeat' first|apply vI<;>(simp only[go_sem,e2,e3,az,ca])|apply vF (by omega)|fail
   have lk:k=4:=(by omega);subst lk;have a2:ad 2=ip:=(q 2 (by omega) (by omega)).trans X.symm;have a0:=(q 0 (by omega) (by omega)).trans n0;have a1:=(q 1 (by omega) (by omega)).trans n1;have a4:=(q 4 (by omega) (by omega)).trans n4;have ew:ip≠nx+1:=fun he=>by have:=O.inj 2 3 (.inl (by omega)) (.inl (by omega)) (by rw[<-X,n3,he]);omega
   have wv: ∀id W o,id≠nx+3->id<I->id≠nx->id≠nx+1->id≠nx+11->V id=o->(H2.set (nx+3) W) id=o:=fun id W o d0 d1 d2 d3 d4 d5=>by rw[aA.aB d0,x id (by omega) d3 d4,L id d1 d2 d4];exact d5
   obtain⟨w0,w1,w2,w3⟩:=hd;obtain⟨x0,x1,x2,x3⟩:=hf;obtain⟨y0,y1,y2,y3⟩:=hg;refine hQ _ _ _ _ _ (.inr rfl) (nU rfl aA.aI rfl) (h _ _ ad _ (by omega) ⟨⟨c0,c1,S,dv,c2,?_,?_,?_,?_,gb,gg⟩,⟨m,rows,?_,T,fun j g=> ?_⟩,⟨mv,rv,?_,D,fun j g=> ?_⟩⟩ ⟨fun j k g hk he=>A.inj j k (by first|omega| (dsimp only;omega)) (by first|omega| (dsimp only;omega)) he,fun j g=>by have:=A.rng j (by first|omega| (dsimp only;omega));omega⟩ fun id z=> ?_);·rw[kh,a0,a1,a2,a4,<-br]
   ·rw[a0];exact⟨w0,s.words.map aG,wv _ _ _ (by omega) (by omega) (by omega) (by omega) (by omega) w1,rfl,by simp,by simp,w2,by omega⟩
   ·rw[a1];exact⟨x0,s.holds.map aG,wv _ _ _ (by omega) (by omega) (by omega) (by omega) (by omega) x1,rfl,by simp,by simp,x2,by omega⟩
   ·rw[a4];exact⟨y0,s.told.map aP,wv _ _ _ (by omega) (by omega) (by omega) (by omega) (by omega) y1,rfl,by simp,by simp,y2,by omega⟩
   ·rw[a2,aA.aB (by omega),x _ (by omega) ew (by omega)];exact gp
   ·obtain⟨r,N,E⟩:=cl j g;have r5:=O.rng (5+j) (.inr (.inl ⟨by omega,by omega⟩));have r8:=O.rng (8+j) (.inr (.inr ⟨by omega,by omega⟩));have q5:=J (5+j) (.inl (by omega));have q8:=J (8+j) (.inr (by omega));rw[q (5+j) (by omega) (by omega),q (8+j) (by omega) (by omega)];exact⟨r,N,E.frame (by rw[aA.aB (by omega),x _ (by omega) (by omega) (by omega)]) (by rw[aA.aB (by omega),x _ (by omega) (by omega) (by omega)])⟩
   ·rw[<-br,aA.aB (by omega)];exact bv
   ·obtain⟨r,N,E⟩:=dx j g;have q5:=y (11+j) (.inl (by omega));have q8:=y (15+j) (.inr (by omega));exact⟨r,N,E.frame (aA.aB (by omega)) (aA.aB (by omega))⟩
   ·rw[aA.aB (by omega),x id (by omega) (by omega) (by omega),L id (by omega) (by omega) (by omega)];exact vf id z
theorem aj{x:Rng}(h:K (dA (c7 x)) H nx):an3 yG [dA (c7 x)] H nx K:=by
 refine aC.fresh (R:=fun a=>a=dA (c7 x)) ?_ rfl (fun r hr=>hr▸h);clear h;refine aM.mk Tryz.func169 (by kernel_rfl) XR rfl fun Q b=> ?_;unfold oT;repeat' first|apply vI<;>(simp only[go_sem])|fail
 exact JX b (dA (c7 x)) _ (kD (m:=1) rfl (by first|exact aA.aI|rfl) rfl) (aD rfl) rfl rfl
theorem qt{x:eZ}(h:K (dA (eCJ x)) H nx):an3 FB [dA (eCJ x)] H nx K:=by
 refine aC.fresh (R:=fun a=>a=dA (eCJ x)) ?_ rfl (fun r hr=>hr▸h);clear h;refine aM.mk Tryz.func335 (by kernel_rfl) ji rfl fun Q b=> ?_;unfold tO;repeat' first|apply vI<;>(simp only[go_sem])|fail
 exact JX b (dA (eCJ x)) _ (kD (m:=1) rfl (by first|exact aA.aI|rfl) rfl) (aD rfl) rfl rfl
variable{a:Int}
theorem mP{l:List Int}(hl:0<=a/\a<=2^21)(d:l.length<2^63)(h:K (dI (szN a l.length)) H nx):an3 i6 [dS (l.map aG),dI a] H nx K:=by
 refine aC.pure (args0:=[dS (l.map aG),dI a]) (R:=fun b=>b=dI (szN a l.length)) ?_ rfl (aE ⟨aD rfl,aD rfl,trivial⟩) (fun r hr=>hr▸h);clear h;refine aM.mk Tryz.func71 (by kernel_rfl) ym rfl fun Q c=> ?_;unfold yS;repeat' first|apply vI<;>(simp only[go_sem];try simp (disch:=omega) only[Iw])|refine iB (fun h=> ?_) fun h=> ?_|fail
 all_goals exact aJ c _ rfl rfl (jC (by unfold szN;split<;>omega))
theorem HV{l:List Bool}(hl:0<=a/\a<=2^21)(d:l.length<2^63)(h:K (dI (szN a l.length)) H nx):an3 rE [dS (l.map d8),dI a] H nx K:=by
 refine aC.pure (args0:=[dS (l.map d8),dI a]) (R:=fun b=>b=dI (szN a l.length)) ?_ rfl (aE ⟨aD rfl,aD rfl,trivial⟩) (fun r hr=>hr▸h);clear h;refine aM.mk Tryz.func141 (by kernel_rfl) qe rfl fun Q c=> ?_;unfold vC;repeat' first|apply vI<;>(simp only[go_sem];try simp (disch:=omega) only[Iw])|refine iB (fun h=> ?_) fun h=> ?_|fail
 all_goals exact aJ c _ rfl rfl (jC (by unfold szN;split<;>omega))
theorem XZ{l:List Rng}(hl:0<=a/\a<=2^21)(d:l.length<2^63)(h:K (dI (szN a l.length)) H nx):an3 wO [dS (l.map c7),dI a] H nx K:=by
 refine aC.pure (args0:=[dS (l.map c7),dI a]) (R:=fun b=>b=dI (szN a l.length)) ?_ rfl (aE ⟨aD rfl,aD rfl,trivial⟩) (fun r hr=>hr▸h);clear h;refine aM.mk Tryz.func70 (by kernel_rfl) T9 rfl fun Q c=> ?_;unfold nI;repeat' first|apply vI<;>(simp only[go_sem];try simp (disch:=omega) only[Iw])|refine iB (fun h=> ?_) fun h=> ?_|fail
 all_goals exact aJ c _ rfl rfl (jC (by unfold szN;split<;>omega))
theorem MA{l:List eZ}(hl:0<=a/\a<=2^21)(d:l.length<2^63)(h:K (dI (szN a l.length)) H nx):an3 sY [dS (l.map eCJ),dI a] H nx K:=by
 refine aC.pure (args0:=[dS (l.map eCJ),dI a]) (R:=fun b=>b=dI (szN a l.length)) ?_ rfl (aE ⟨aD rfl,aD rfl,trivial⟩) (fun r hr=>hr▸h);clear h;refine aM.mk Tryz.func306 (by kernel_rfl) Y3 rfl fun Q c=> ?_;unfold qC;repeat' first|apply vI<;>(simp only[go_sem];try simp (disch:=omega) only[Iw])|refine iB (fun h=> ?_) fun h=> ?_|fail
 all_goals exact aJ c _ rfl rfl (jC (by unfold szN;split<;>omega))
theorem nw{w:List Int}(hl:0<=a/\a<=2^21)(b:w.length<2^63)(h:K (dI (szN a w.length)) H nx):an3 EG [dA [.isl (w.map aG)],dI a] H nx K:=by
 refine aC.pure (args0:=[dA [.isl (w.map aG)],dI a]) (R:=fun c=>c=dI (szN a w.length)) ?_ rfl (aE ⟨aD rfl,aD rfl,trivial⟩) (fun r hr=>hr▸h);clear h;refine aM.mk Tryz.func228 (by kernel_rfl) ir rfl fun Q d=> ?_;unfold sE;have e:=iM a w.length;repeat' first| (first|apply vI|apply mP hl b)<;>(simp only[go_sem])|refine iB (fun h=> ?_) fun h=> ?_|fail
 all_goals exact aJ d _ rfl rfl (jC (by omega))
theorem bp{w:List Int}{u:List Int}(hl:0<=a/\a<=2^21)(b:w.length<2^63)(hc:u.length<2^63)(h:K (dI (A6 a w u)) H nx):an3 yV [dA [.isl (w.map aG),.isl (u.map aG)],dI a] H nx K:=by
 refine aC.pure (args0:=[dA [.isl (w.map aG),.isl (u.map aG)],dI a]) (R:=fun c=>c=dI (A6 a w u)) ?_ rfl (aE ⟨aD rfl,aD rfl,trivial⟩) (fun r hr=>hr▸h);clear h;refine aM.mk Tryz.func137 (by kernel_rfl) X5 rfl fun Q d=> ?_;unfold pH;have e:=iM a w.length;have f:=iM (szN a w.length) u.length;repeat' first| (first|apply vI|apply nw (w:=w) hl b|apply mP (l:=u) (by omega) hc)<;>(simp only[go_sem])|refine iB (fun h=> ?_) fun h=> ?_|fail
 all_goals exact aJ d _ rfl rfl (jC (by unfold A6;simp only[szT];repeat' first|omega|split))
theorem pq{x:Req}(hl:0<=a/\a<=2^21)(b:l4 (2^63) x)(h:K (dI (kU a x)) H nx):an3 E8 [dA (dK x),dI a] H nx K:=by
 refine aC.pure (args0:=[dA (dK x),dI a]) (R:=fun c=>c=dI (kU a x)) ?_ rfl (aE ⟨aD rfl,aD rfl,trivial⟩) (fun r hr=>hr▸h);clear h;refine aM.mk Tryz.func246 (by kernel_rfl) gv rfl fun Q d=> ?_;unfold tK;obtain⟨e,f⟩:=b;have g:=iM a x.data.length;have i:=iM (szN a x.data.length) x.lanes.length;repeat' first| (first|apply vI|apply mP (l:=x.data) (a:=a) (by omega) e|apply mP (l:=x.lanes) (a:=szN a x.data.length) (by omega) f)<;>(simp only[go_sem])|refine iB (fun h=> ?_) fun h=> ?_|fail
 all_goals exact aJ d _ rfl rfl (jC (by unfold kU;(try simp only[szT]);repeat' first|omega|split))
theorem gl{l:List Req}(hl:0<=a/\a<=2^21)(j:oM (l4 (2^63)) (2^63) l)(h:K (dI (gJ a l)) H nx):an3 BY [dS (l.map dK),dI a] H nx K:=by
 refine aC.pure (args0:=[dS (l.map dK),dI a]) (R:=fun m=>m=dI (gJ a l)) ?_ rfl (aE ⟨aD rfl,aD rfl,trivial⟩) (fun r hr=>hr▸h);clear h;refine aM.mk Tryz.func163 (by kernel_rfl) di rfl fun Q c=> ?_;unfold qT;obtain⟨n,e⟩:=j;by_cases g:a-l.length<0
 case pos=>
  have o:szS kU a l= -1:=by unfold szS szT szN;rw[if_pos g];rfl
  repeat' first|apply vI<;>(simp only[go_sem];try simp (disch:=omega) only[Iw])|apply vT (by omega)|fail
  all_goals first|exact aJ c _ rfl rfl (congrArg dI o.symm)| (exfalso;omega)
 have p:szS kU a l=szF kU (a-l.length) l:=by unfold szS szT szN;rw[if_neg g,if_neg (by omega)]
 repeat' first|apply vI<;>(simp only[go_sem];try simp (disch:=omega) only[Iw])|apply vF (by omega)|fail
 all_goals try (exfalso;omega)
 refine aH.loop (α:={u:Nat×Int//u.1<=l.length/\(0<=u.2/\u.2<=a)/\szF kU u.2 (l.drop u.1)=szS kU a l}) (fun u=>en [(5,dI u.1.1),(1,dI u.1.2),(0,dS (l.map dK))]) (fun _=>.nil) _ (fun u=>l.length-u.1.1) ⟨(0,a-l.length),by dsimp only;omega,by dsimp only;omega,by rw[p];rfl⟩ (aS (akA _) (by repeat' first|exact C1|refine xqI rfl rfl ?_|fail)) ?_;rintro⟨⟨k,d⟩,q,i,he⟩ t f;dsimp only at q i he;by_cases b:k<l.length
 ·have hm:=e _ (bL b);rw[L2 b] at he;generalize s:l.getD k default=x at hm he;have hr:=N9 d x i.1;repeat' first| (first|apply vI|apply pq (show 0<=d/\d<=2^21 by omega) hm)<;>(simp only[go_sem,s];try simp (disch:=omega) only[Iw])|apply vT (by omega)|refine iB (fun h=> ?_) fun h=> ?_|refine⟨by omega,?_⟩|fail
  ·rw[if_pos (by assumption)] at he;exact aJ c _ rfl rfl (congrArg dI he)
  ·rw[if_neg (by assumption)] at he;refine f _ _ _ ⟨(k+1,kU d x),by dsimp only;omega,by dsimp only;omega,he⟩ (by omega) (by(try dsimp only);omega) (aS (akA _) (by dsimp only;repeat' first|exact C1|refine xqI rfl rfl ?_|fail))
 ·rw[TN b] at he;repeat' first|apply vI<;>(simp only[go_sem])|apply vF (by omega)|fail
  all_goals exact aJ c _ rfl rfl (congrArg dI he)
theorem ai{l:List (List Req)}(hl:0<=a/\a<=2^21)(j:oM (wR (2^63)) (2^63) l)(h:K (dI (szS gJ a l)) H nx):an3 yU [dS (l.map mW),dI a] H nx K:=by
 refine aC.pure (args0:=[dS (l.map mW),dI a]) (R:=fun m=>m=dI (szS gJ a l)) ?_ rfl (aE ⟨aD rfl,aD rfl,trivial⟩) (fun r hr=>hr▸h);clear h;refine aM.mk Tryz.func72 (by kernel_rfl) WH rfl fun Q c=> ?_;unfold oQ;obtain⟨n,e⟩:=j;by_cases g:a-l.length<0
 case pos=>
  have o:szS gJ a l= -1:=by unfold szS szT szN;rw[if_pos g];rfl
  repeat' first|apply vI<;>(simp only[go_sem];try simp (disch:=omega) only[Iw])|apply vT (by omega)|fail
  all_goals first|exact aJ c _ rfl rfl (congrArg dI o.symm)| (exfalso;omega)
 have p:szS gJ a l=szF gJ (a-l.length) l:=by unfold szS szT szN;rw[if_neg g,if_neg (by omega)]
 repeat' first|apply vI<;>(simp only[go_sem];try simp (disch:=omega) only[Iw])|apply vF (by omega)|fail
 all_goals try (exfalso;omega)
 refine aH.loop (α:={u:Nat×Int//u.1<=l.length/\(0<=u.2/\u.2<=a)/\szF gJ u.2 (l.drop u.1)=szS gJ a l}) (fun u=>en [(5,dI u.1.1),(1,dI u.1.2),(0,dS (l.map mW))]) (fun _=>.nil) _ (fun u=>l.length-u.1.1) ⟨(0,a-l.length),by dsimp only;omega,by dsimp only;omega,by rw[p];rfl⟩ (aS (akA _) (by repeat' first|exact C1|refine xqI rfl rfl ?_|fail)) ?_;rintro⟨⟨k,d⟩,q,i,he⟩ t f;dsimp only at q i he;by_cases b:k<l.length
 ·have hm:=e _ (bL b);rw[L2 b] at he;generalize s:l.getD k default=x at hm he;have hr:=zX d x i.1;repeat' first| (first|apply vI|apply gl (show 0<=d/\d<=2^21 by omega) hm)<;>(simp only[go_sem,s];try simp (disch:=omega) only[Iw])|apply vT (by omega)|refine iB (fun h=> ?_) fun h=> ?_|refine⟨by omega,?_⟩|fail
  ·rw[if_pos (by assumption)] at he;exact aJ c _ rfl rfl (congrArg dI he)
  ·rw[if_neg (by assumption)] at he;refine f _ _ _ ⟨(k+1,gJ d x),by dsimp only;omega,by dsimp only;omega,he⟩ (by omega) (by(try dsimp only);omega) (aS (akA _) (by dsimp only;repeat' first|exact C1|refine xqI rfl rfl ?_|fail))
 ·rw[TN b] at he;repeat' first|apply vI<;>(simp only[go_sem])|apply vF (by omega)|fail
  all_goals exact aJ c _ rfl rfl (congrArg dI he)
theorem Vz{x:Cfg}(hl:0<=a/\a<=2^21)(b:pS (2^63) x)(h:K (dI (z8 a x)) H nx):an3 O4 [dA (cD x),dI a] H nx K:=by
 refine aC.pure (args0:=[dA (cD x),dI a]) (R:=fun c=>c=dI (z8 a x)) ?_ rfl (aE ⟨aD rfl,aD rfl,trivial⟩) (fun r hr=>hr▸h);clear h;refine aM.mk Tryz.func13 (by kernel_rfl) fa rfl fun Q d=> ?_;unfold rY;obtain⟨e,f,g⟩:=b;have i:=iM a x.map.length;have j:=iM (szN a x.map.length) x.lat.length;have k:=M7 zX (szN (szN a x.map.length) x.lat.length) x.b7;repeat' first| (first|apply vI|apply XZ (l:=x.map) (a:=a) (by omega) e|apply mP (l:=x.lat) (a:=szN a x.map.length) (by omega) f|apply ai (l:=x.b7) (a:=szN (szN a x.map.length) x.lat.length) (by omega) g)<;>(simp only[go_sem])|refine iB (fun h=> ?_) fun h=> ?_|fail
 all_goals exact aJ d _ rfl rfl (jC (by unfold z8;(try simp only[szT]);repeat' first|omega|split))
theorem eg{x:cJ}(hl:0<=a/\a<=2^21)(b:kX (2^63) x)(h:K (dI (eC a x)) H nx):an3 BI [dA (bV x),dI a] H nx K:=by
 refine aC.pure (args0:=[dA (bV x),dI a]) (R:=fun c=>c=dI (eC a x)) ?_ rfl (aE ⟨aD rfl,aD rfl,trivial⟩) (fun r hr=>hr▸h);clear h;refine aM.mk Tryz.func229 (by kernel_rfl) bc rfl fun Q d=> ?_;unfold pZ;obtain⟨e,f⟩:=b;have g:=iM a x.queue.length;have i:=iM (szN a x.queue.length) x.out.length;repeat' first| (first|apply vI|apply mP (l:=x.queue) (a:=a) (by omega) e|apply MA (l:=x.out) (a:=szN a x.queue.length) (by omega) f)<;>(simp only[go_sem])|refine iB (fun h=> ?_) fun h=> ?_|fail
 all_goals exact aJ d _ rfl rfl (jC (by unfold eC;(try simp only[szT]);repeat' first|omega|split))
theorem YY{l:List cJ}(hl:0<=a/\a<=2^21)(j:oM (kX (2^63)) (2^63) l)(h:K (dI (szS eC a l)) H nx):an3 yM [dS (l.map bV),dI a] H nx K:=by
 refine aC.pure (args0:=[dS (l.map bV),dI a]) (R:=fun m=>m=dI (szS eC a l)) ?_ rfl (aE ⟨aD rfl,aD rfl,trivial⟩) (fun r hr=>hr▸h);clear h;refine aM.mk Tryz.func138 (by kernel_rfl) W6 rfl fun Q c=> ?_;unfold oZ;obtain⟨n,e⟩:=j;by_cases g:a-l.length<0
 case pos=>
  have o:szS eC a l= -1:=by unfold szS szT szN;rw[if_pos g];rfl
  repeat' first|apply vI<;>(simp only[go_sem];try simp (disch:=omega) only[Iw])|apply vT (by omega)|fail
  all_goals first|exact aJ c _ rfl rfl (congrArg dI o.symm)| (exfalso;omega)
 have p:szS eC a l=szF eC (a-l.length) l:=by unfold szS szT szN;rw[if_neg g,if_neg (by omega)]
 repeat' first|apply vI<;>(simp only[go_sem];try simp (disch:=omega) only[Iw])|apply vF (by omega)|fail
 all_goals try (exfalso;omega)
 refine aH.loop (α:={u:Nat×Int//u.1<=l.length/\(0<=u.2/\u.2<=a)/\szF eC u.2 (l.drop u.1)=szS eC a l}) (fun u=>en [(5,dI u.1.1),(1,dI u.1.2),(0,dS (l.map bV))]) (fun _=>.nil) _ (fun u=>l.length-u.1.1) ⟨(0,a-l.length),by dsimp only;omega,by dsimp only;omega,by rw[p];rfl⟩ (aS (akA _) (by repeat' first|exact C1|refine xqI rfl rfl ?_|fail)) ?_;rintro⟨⟨k,d⟩,q,i,he⟩ t f;dsimp only at q i he;by_cases b:k<l.length
 ·have hm:=e _ (bL b);rw[L2 b] at he;generalize s:l.getD k default=x at hm he;have hr:=xB d x i.1;repeat' first| (first|apply vI|apply eg (show 0<=d/\d<=2^21 by omega) hm)<;>(simp only[go_sem,s];try simp (disch:=omega) only[Iw])|apply vT (by omega)|refine iB (fun h=> ?_) fun h=> ?_|refine⟨by omega,?_⟩|fail
  ·rw[if_pos (by assumption)] at he;exact aJ c _ rfl rfl (congrArg dI he)
  ·rw[if_neg (by assumption)] at he;refine f _ _ _ ⟨(k+1,eC d x),by dsimp only;omega,by dsimp only;omega,he⟩ (by omega) (by(try dsimp only);omega) (aS (akA _) (by dsimp only;repeat' first|exact C1|refine xqI rfl rfl ?_|fail))
 ·rw[TN b] at he;repeat' first|apply vI<;>(simp only[go_sem])|apply vF (by omega)|fail
  all_goals exact aJ c _ rfl rfl (congrArg dI he)
theorem oh{x:Rsp}(hl:0<=a/\a<=2^21)(b:G8 (2^63) x)(h:K (dI (I5 a x)) H nx):an3 EZ [dA (nS x),dI a] H nx K:=by
 refine aC.pure (args0:=[dA (nS x),dI a]) (R:=fun c=>c=dI (I5 a x)) ?_ rfl (aE ⟨aD rfl,aD rfl,trivial⟩) (fun r hr=>hr▸h);clear h;refine aM.mk Tryz.func307 (by kernel_rfl) jv rfl fun Q d=> ?_;unfold sN;have e:x.data.length<(2^63):=b;have f:=iM a x.data.length;repeat' first| (first|apply vI|apply mP (l:=x.data) (a:=a) (by omega) e)<;>(simp only[go_sem])|refine iB (fun h=> ?_) fun h=> ?_|fail
 all_goals exact aJ d _ rfl rfl (jC (by unfold I5;(try simp only[szT]);repeat' first|omega|split))
theorem pr{x:Job}(hl:0<=a/\a<=2^21)(b:iQ (2^63) x)(h:K (dI (iO a x)) H nx):an3 E2 [dA (aP x),dI a] H nx K:=by
 refine aC.pure (args0:=[dA (aP x),dI a]) (R:=fun c=>c=dI (iO a x)) ?_ rfl (aE ⟨aD rfl,aD rfl,trivial⟩) (fun r hr=>hr▸h);clear h;refine aM.mk Tryz.func231 (by kernel_rfl) js rfl fun Q d=> ?_;unfold r7;have e:G8 (2^63) x.rsp:=b;have f:0<=a->_:=xe a x.rsp;repeat' first| (first|apply vI|apply oh (x:=x.rsp) (a:=a) (by omega) e)<;>(simp only[go_sem])|refine iB (fun h=> ?_) fun h=> ?_|fail
 all_goals exact aJ d _ rfl rfl (jC (by unfold iO;(try simp only[szT]);repeat' first|omega|split))
theorem MS{l:List Job}(hl:0<=a/\a<=2^21)(j:oM (iQ (2^63)) (2^63) l)(h:K (dI (szS iO a l)) H nx):an3 sI [dS (l.map aP),dI a] H nx K:=by
 refine aC.pure (args0:=[dS (l.map aP),dI a]) (R:=fun m=>m=dI (szS iO a l)) ?_ rfl (aE ⟨aD rfl,aD rfl,trivial⟩) (fun r hr=>hr▸h);clear h;refine aM.mk Tryz.func140 (by kernel_rfl) ak rfl fun Q c=> ?_;unfold qJ;obtain⟨n,e⟩:=j;by_cases g:a-l.length<0
 case pos=>
  have o:szS iO a l= -1:=by unfold szS szT szN;rw[if_pos g];rfl
  repeat' first|apply vI<;>(simp only[go_sem];try simp (disch:=omega) only[Iw])|apply vT (by omega)|fail
  all_goals first|exact aJ c _ rfl rfl (congrArg dI o.symm)| (exfalso;omega)
 have p:szS iO a l=szF iO (a-l.length) l:=by unfold szS szT szN;rw[if_neg g,if_neg (by omega)]
 repeat' first|apply vI<;>(simp only[go_sem];try simp (disch:=omega) only[Iw])|apply vF (by omega)|fail
 all_goals try (exfalso;omega)
 refine aH.loop (α:={u:Nat×Int//u.1<=l.length/\(0<=u.2/\u.2<=a)/\szF iO u.2 (l.drop u.1)=szS iO a l}) (fun u=>en [(5,dI u.1.1),(1,dI u.1.2),(0,dS (l.map aP))]) (fun _=>.nil) _ (fun u=>l.length-u.1.1) ⟨(0,a-l.length),by dsimp only;omega,by dsimp only;omega,by rw[p];rfl⟩ (aS (akA _) (by repeat' first|exact C1|refine xqI rfl rfl ?_|fail)) ?_;rintro⟨⟨k,d⟩,q,i,he⟩ t f;dsimp only at q i he;by_cases b:k<l.length
 ·have hm:=e _ (bL b);rw[L2 b] at he;generalize s:l.getD k default=x at hm he;have hr:=oL d x i.1;repeat' first| (first|apply vI|apply pr (show 0<=d/\d<=2^21 by omega) hm)<;>(simp only[go_sem,s];try simp (disch:=omega) only[Iw])|apply vT (by omega)|refine iB (fun h=> ?_) fun h=> ?_|refine⟨by omega,?_⟩|fail
  ·rw[if_pos (by assumption)] at he;exact aJ c _ rfl rfl (congrArg dI he)
  ·rw[if_neg (by assumption)] at he;refine f _ _ _ ⟨(k+1,iO d x),by dsimp only;omega,by dsimp only;omega,he⟩ (by omega) (by(try dsimp only);omega) (aS (akA _) (by dsimp only;repeat' first|exact C1|refine xqI rfl rfl ?_|fail))
 ·rw[TN b] at he;repeat' first|apply vI<;>(simp only[go_sem])|apply vF (by omega)|fail
  all_goals exact aJ c _ rfl rfl (congrArg dI he)
theorem ZP{x:lR}(hl:0<=a/\a<=2^21)(b:jK (2^63) x)(h:K (dI (dQ a x)) H nx):an3 zA [dA (eV x),dI a] H nx K:=by
 refine aC.pure (args0:=[dA (eV x),dI a]) (R:=fun c=>c=dI (dQ a x)) ?_ rfl (aE ⟨aD rfl,aD rfl,trivial⟩) (fun r hr=>hr▸h);clear h;refine aM.mk Tryz.func230 (by kernel_rfl) XO rfl fun Q d=> ?_;unfold oK;obtain⟨e,f⟩:=b;have g:=iM a x.pipe.length;have i:=M7 oL (szN a x.pipe.length) x.done;repeat' first| (first|apply vI|apply MA (l:=x.pipe) (a:=a) (by omega) e|apply MS (l:=x.done) (a:=szN a x.pipe.length) (by omega) f)<;>(simp only[go_sem])|refine iB (fun h=> ?_) fun h=> ?_|fail
 all_goals exact aJ d _ rfl rfl (jC (by unfold dQ;(try simp only[szT]);repeat' first|omega|split))
theorem WY{l:List lR}(hl:0<=a/\a<=2^21)(j:oM (jK (2^63)) (2^63) l)(h:K (dI (szS dQ a l)) H nx):an3 w8 [dS (l.map eV),dI a] H nx K:=by
 refine aC.pure (args0:=[dS (l.map eV),dI a]) (R:=fun m=>m=dI (szS dQ a l)) ?_ rfl (aE ⟨aD rfl,aD rfl,trivial⟩) (fun r hr=>hr▸h);clear h;refine aM.mk Tryz.func139 (by kernel_rfl) UM rfl fun Q c=> ?_;unfold nB;obtain⟨n,e⟩:=j;by_cases g:a-l.length<0
 case pos=>
  have o:szS dQ a l= -1:=by unfold szS szT szN;rw[if_pos g];rfl
  repeat' first|apply vI<;>(simp only[go_sem];try simp (disch:=omega) only[Iw])|apply vT (by omega)|fail
  all_goals first|exact aJ c _ rfl rfl (congrArg dI o.symm)| (exfalso;omega)
 have p:szS dQ a l=szF dQ (a-l.length) l:=by unfold szS szT szN;rw[if_neg g,if_neg (by omega)]
 repeat' first|apply vI<;>(simp only[go_sem];try simp (disch:=omega) only[Iw])|apply vF (by omega)|fail
 all_goals try (exfalso;omega)
 refine aH.loop (α:={u:Nat×Int//u.1<=l.length/\(0<=u.2/\u.2<=a)/\szF dQ u.2 (l.drop u.1)=szS dQ a l}) (fun u=>en [(5,dI u.1.1),(1,dI u.1.2),(0,dS (l.map eV))]) (fun _=>.nil) _ (fun u=>l.length-u.1.1) ⟨(0,a-l.length),by dsimp only;omega,by dsimp only;omega,by rw[p];rfl⟩ (aS (akA _) (by repeat' first|exact C1|refine xqI rfl rfl ?_|fail)) ?_;rintro⟨⟨k,d⟩,q,i,he⟩ t f;dsimp only at q i he;by_cases b:k<l.length
 ·have hm:=e _ (bL b);rw[L2 b] at he;generalize s:l.getD k default=x at hm he;have hr:=tI d x i.1;repeat' first| (first|apply vI|apply ZP (show 0<=d/\d<=2^21 by omega) hm)<;>(simp only[go_sem,s];try simp (disch:=omega) only[Iw])|apply vT (by omega)|refine iB (fun h=> ?_) fun h=> ?_|refine⟨by omega,?_⟩|fail
  ·rw[if_pos (by assumption)] at he;exact aJ c _ rfl rfl (congrArg dI he)
  ·rw[if_neg (by assumption)] at he;refine f _ _ _ ⟨(k+1,dQ d x),by dsimp only;omega,by dsimp only;omega,he⟩ (by omega) (by(try dsimp only);omega) (aS (akA _) (by dsimp only;repeat' first|exact C1|refine xqI rfl rfl ?_|fail))
 ·rw[TN b] at he;repeat' first|apply vI<;>(simp only[go_sem])|apply vF (by omega)|fail
  all_goals exact aJ c _ rfl rfl (congrArg dI he)
theorem Qa{x:CSt}(hl:0<=a/\a<=2^21)(b:jE (2^63) x)(h:K (dI (oW a x)) H nx):an3 JS [dA (dY x),dI a] H nx K:=by
 refine aC.pure (args0:=[dA (dY x),dI a]) (R:=fun c=>c=dI (oW a x)) ?_ rfl (aE ⟨aD rfl,aD rfl,trivial⟩) (fun r hr=>hr▸h);clear h;refine aM.mk Tryz.func53 (by kernel_rfl) YF rfl fun Q d=> ?_;unfold oS;obtain⟨⟨e,f⟩,g,i,j⟩:=b;have k:=Fm a x.words x.holds;have m:=M7 xB (A6 a x.words x.holds) x.bE;have n:=M7 tI (szS eC (A6 a x.words x.holds) x.bE) x.bM;have o:=M7 oL (szS dQ (szS eC (A6 a x.words x.holds) x.bE) x.bM) x.told;repeat' first| (first|apply vI|apply bp (w:=x.words) (u:=x.holds) (a:=a) (by omega) e f|apply YY (l:=x.bE) (a:=A6 a x.words x.holds) (by omega) g|apply WY (l:=x.bM) (a:=szS eC (A6 a x.words x.holds) x.bE) (by omega) i|apply MS (l:=x.told) (a:=szS dQ (szS eC (A6 a x.words x.holds) x.bE) x.bM) (by omega) j)<;>(simp only[go_sem])|refine iB (fun h=> ?_) fun h=> ?_|fail
 all_goals exact aJ d _ rfl rfl (jC (by unfold oW;(try simp only[szT]);repeat' first|omega|split))
theorem ya{x:CIn}(hl:0<=a/\a<=2^21)(b:kW (2^63) x)(h:K (dI (nK a x)) H nx):an3 HW [dA (eIn x),dI a] H nx K:=by
 refine aC.pure (args0:=[dA (eIn x),dI a]) (R:=fun c=>c=dI (nK a x)) ?_ rfl (aE ⟨aD rfl,aD rfl,trivial⟩) (fun r hr=>hr▸h);clear h;refine aM.mk Tryz.func54 (by kernel_rfl) od rfl fun Q d=> ?_;unfold vD;obtain⟨e,f,g⟩:=b;have i:=iM a x.ready.length;have j:=iM (szN a x.ready.length) x.iP.length;have k:=iM (szN (szN a x.ready.length) x.iP.length) x.send.length;repeat' first| (first|apply vI|apply HV (l:=x.ready) (a:=a) (by omega) e|apply HV (l:=x.iP) (a:=szN a x.ready.length) (by omega) f|apply HV (l:=x.send) (a:=szN (szN a x.ready.length) x.iP.length) (by omega) g)<;>(simp only[go_sem])|refine iB (fun h=> ?_) fun h=> ?_|fail
 all_goals exact aJ d _ rfl rfl (jC (by unfold nK;(try simp only[szT]);repeat' first|omega|split))
theorem Wb{l:List CIn}(hl:0<=a/\a<=2^21)(j:oM (kW (2^63)) (2^63) l)(h:K (dI (szS nK a l)) H nx):an3 PK [dS (l.map eIn),dI a] H nx K:=by
 refine aC.pure (args0:=[dS (l.map eIn),dI a]) (R:=fun m=>m=dI (szS nK a l)) ?_ rfl (aE ⟨aD rfl,aD rfl,trivial⟩) (fun r hr=>hr▸h);clear h;refine aM.mk Tryz.func14 (by kernel_rfl) ie rfl fun Q c=> ?_;unfold sM;obtain⟨n,e⟩:=j;by_cases g:a-l.length<0
 case pos=>
  have o:szS nK a l= -1:=by unfold szS szT szN;rw[if_pos g];rfl
  repeat' first|apply vI<;>(simp only[go_sem];try simp (disch:=omega) only[Iw])|apply vT (by omega)|fail
  all_goals first|exact aJ c _ rfl rfl (congrArg dI o.symm)| (exfalso;omega)
 have p:szS nK a l=szF nK (a-l.length) l:=by unfold szS szT szN;rw[if_neg g,if_neg (by omega)]
 repeat' first|apply vI<;>(simp only[go_sem];try simp (disch:=omega) only[Iw])|apply vF (by omega)|fail
 all_goals try (exfalso;omega)
 refine aH.loop (α:={u:Nat×Int//u.1<=l.length/\(0<=u.2/\u.2<=a)/\szF nK u.2 (l.drop u.1)=szS nK a l}) (fun u=>en [(5,dI u.1.1),(1,dI u.1.2),(0,dS (l.map eIn))]) (fun _=>.nil) _ (fun u=>l.length-u.1.1) ⟨(0,a-l.length),by dsimp only;omega,by dsimp only;omega,by rw[p];rfl⟩ (aS (akA _) (by repeat' first|exact C1|refine xqI rfl rfl ?_|fail)) ?_;rintro⟨⟨k,d⟩,q,i,he⟩ t f;dsimp only at q i he;by_cases b:k<l.length
 ·have hm:=e _ (bL b);rw[L2 b] at he;generalize s:l.getD k default=x at hm he;have hr:=Tq d x i.1;repeat' first| (first|apply vI|apply ya (show 0<=d/\d<=2^21 by omega) hm)<;>(simp only[go_sem,s];try simp (disch:=omega) only[Iw])|apply vT (by omega)|refine iB (fun h=> ?_) fun h=> ?_|refine⟨by omega,?_⟩|fail
  ·rw[if_pos (by assumption)] at he;exact aJ c _ rfl rfl (congrArg dI he)
  ·rw[if_neg (by assumption)] at he;refine f _ _ _ ⟨(k+1,nK d x),by dsimp only;omega,by dsimp only;omega,he⟩ (by omega) (by(try dsimp only);omega) (aS (akA _) (by dsimp only;repeat' first|exact C1|refine xqI rfl rfl ?_|fail))
 ·rw[TN b] at he;repeat' first|apply vI<;>(simp only[go_sem])|apply vF (by omega)|fail
  all_goals exact aJ c _ rfl rfl (congrArg dI he)
theorem SZ(l:List Ev)(b:Int)(i:l.length<2^21)(m:0<=b)(v:b+total eB l<2^62):an3 rO [dS ((marks eB rG b l).map eEv),dI b] .nil 0 fun h _ _=>h.plain=true/\h=dI (b+total eB l):=by
 refine aM.mk Tryz.func63 (by kernel_rfl) P4 rfl fun Q n=> ?_;unfold lG;have o:l.length<2^21:=i;have w:uY eB l 0=0:=lZ;have p:=Cd (sz:=eB) (mk:=rG) (l:=l) (k:=b);have c:=fun(j:Nat) (x:Ev)=>Hk (sz:=eB) (mk:=rG) (l:=l) (k:=b) (j:=j) (x:=x);generalize marks eB rG b l=M at*;repeat' first|apply vI<;>(simp only[go_sem])|fail
 (refine aH.loop (α:={k:Nat//k<=l.length/\(True)}) (fun u=>en [(5,dI u.1),(1,dI (b+uY eB l u.1)),(0,dS (M.map eEv))]) (fun _=>.nil) _ (fun u=>l.length-u.1) ⟨0,by omega,(by intros;first|trivial|omega)⟩ (aS (akA _) (by repeat' first|exact C1|refine xqI rfl rfl ?_| (with_reducible apply C2)| ((with_reducible apply C0);(exact CG (by((try dsimp only);exact diE (by omega))) rfl))| ((with_reducible apply D0);apply CJ)|fail)) ?_);(rintro⟨k,m,hinv⟩ y d);by_cases e:k<l.length
 ·obtain⟨x,a⟩: ∃x,l[k]?=some x:=⟨_,akD e⟩
  have q:x∈l:=akF a;have r:eB x=3:=rfl;have s:=jT (sz:=eB) a;have t:=vW (sz:=eB) a;rw[r] at s t;have f:=c k x a;repeat' first|apply vI<;>(simp only[go_sem,f,rG];try simp (disch:=omega) only[Iw])|apply vT (by omega)|refine⟨by omega,?_⟩|fail
  all_goals (refine d _ _ _ ⟨k+1,by omega,trivial⟩ (by omega) (by(try dsimp only);omega) (aS (akA _) (by repeat' first|exact C1|refine xqI rfl rfl ?_| (with_reducible apply C2)| ((with_reducible apply C0);(exact CG (by((try dsimp only);exact diE (by omega))) rfl))| ((with_reducible apply D0);apply CJ)|fail)))
 ·repeat' first|apply vI<;>(simp only[go_sem])|apply vF (by omega)|fail
  have g:k=l.length:=by omega
  all_goals exact aJ n _ rfl rfl (jC (by rw[g,Yf]))
end
end Go.Proofs.YtlncecohbakleaaGreat
