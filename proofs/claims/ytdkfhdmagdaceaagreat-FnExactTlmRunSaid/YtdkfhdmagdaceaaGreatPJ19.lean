/- Texts laid together by a program: rules, contracts and the walk that leads to the law. -/
import Derived.Test.YtdkfhdmagdaceaaGreatPJ10
import Derived.Test.YtdkfhdmagdaceaaGreatPJ16
import Derived.Test.YtdkfhdmagdaceaaGreatPJ14
import Derived.Test.YtdkfhdmagdaceaaGreatPJ5
import Derived.Test.YtdkfhdmagdaceaaGreatPJ13
import Derived.Test.YtdkfhdmagdaceaaGreatPJ17
import Derived.Test.YtdkfhdmagdaceaaGreatPJ8
import Derived.Test.YtdkfhdmagdaceaaGreatPJ6
import Derived.Test.YtdkfhdmagdaceaaGreatPJ9
set_option linter.unusedVariables false
set_option linter.unusedSimpArgs false
set_option linter.unusedSectionVars false
set_option maxRecDepth 100000
set_option maxHeartbeats 8000000
namespace Go.Proofs.YtdkfhdmagdaceaaGreat
open Go Go.AM
attribute [local irreducible] aM wv aB vd wvH
section
variable {H : aA} {nx : Nat} {K : D → aA → Nat → Prop}
end
end Go.Proofs.YtdkfhdmagdaceaaGreat
namespace Go.AM
structure Part (A:Nat→Prop) (lo hi:Nat) (nm:Nat→Nat):Prop where
 inj: ∀j k,A j→A k→nm j=nm k→j=k
 rng: ∀k,A k→lo≤nm k∧nm k<hi
theorem Part.mono {A:Nat→Prop} {lo hi hi':Nat} {nm:Nat→Nat} (h:Part A lo hi nm) (b:hi≤hi'):Part A lo hi' nm:=⟨h.inj,fun k a=>by have:=h.rng k a;omega⟩
theorem Part.put {A B:Nat→Prop} {lo hi hi' k v:Nat} {nm:Nat→Nat} (h:Part A lo hi nm) (d:lo≤hi) (e:hi≤v) (f:v<hi') (hB: ∀j,B j→A j∧j≠k∨j=k):Part B lo hi' (put nm k v):=by
 refine⟨fun i j hi a he=> ?_,fun j a=> ?_⟩
 ·rcases hB i hi with⟨az9,az2⟩|rfl<;>rcases hB j a with⟨b,c⟩|rfl;·rw[jE az2,jE c] at he;exact h.inj i j az9 b he
  ·rw[jE az2,t8] at he;have:=h.rng i az9;omega
  ·rw[jE c,t8] at he;have:=h.rng j b;omega
  ·rfl
 ·rcases hB j a with⟨az9,az2⟩|rfl;·rw[jE az2];have:=h.rng j az9;omega
  ·rw[t8];omega
structure CSz (s:CSt):Prop where
 pl:s.bM.length=3
 sl:s.dD.length=4
 w:s.words.length<2^21
 h:s.holds.length<2^21
 t:s.told.length<2^21∧ ∀j∈s.told,j.rsp.data.length<2^21
 port: ∀k,k<3→(aF s k).queue.length<2^21∧(aF s k).out.length<2^21
 slv: ∀k,k<4→(aL s k).pipe.length<2^21∧(aL s k).done.length<2^21∧ ∀j∈(aL s k).done,j.rsp.data.length<2^21
end Go.AM
namespace Go.Proofs.YtdkfhdmagdaceaaGreat
open Go Go.AM
attribute [local irreducible] aM wv aB vd wvH
section
variable {H : aA} {nx : Nat} {K : D → aA → Nat → Prop}
end
end Go.Proofs.YtdkfhdmagdaceaaGreat
namespace Go.AM
def IQ (H:aA) (lo hi t:Nat) (s:CSt) (A:List Int) (W D:List Job):Prop:=
 ∃a b id_ c d e f g md,H t=some ⟨6,1,[[.isl (s.words.map aJ),.isl (s.holds.map aJ),.osl 1 a 0 A.length c,.osl 5 b 0 W.length d,.osl 5 id_ 0 D.length e,.isl (s.told.map aS)]]⟩∧
  (H a=some ⟨1,f,A.map aJ⟩∧A.length≤c∧c≤f)∧(H b=some ⟨5,g,W.map aS⟩∧W.length≤d∧d≤g)∧(H id_=some ⟨5,md,D.map aS⟩∧D.length≤e∧e≤md)∧
  (lo≤a∧a<hi∧lo≤b∧b<hi∧lo≤id_∧id_<hi)∧a≠b∧a≠id_∧b≠id_
theorem IQ.frame {H H':aA} {lo hi hi' t:Nat} {s:CSt} {A:List Int} {W D:List Job} (h:IQ H lo hi t s A W D) (r:t<lo) (u:hi≤hi') (a: ∀id,id<hi→(id=t∨lo≤id)→H' id=H id):IQ H' lo hi' t s A W D:=by obtain⟨b,c,id_,d,e,f,g,i,md,j,⟨k,l⟩,⟨m,n⟩,⟨o,p⟩,v,q⟩:=h;exact⟨b,c,id_,d,e,f,g,i,md,by rw[a t (by omega) (.inl rfl)];exact j,⟨by rw[a _ (by omega) (.inr (by omega))];exact k,l⟩,⟨by rw[a _ (by omega) (.inr (by omega))];exact m,n⟩,⟨by rw[a _ (by omega) (.inr (by omega))];exact o,p⟩,by omega,q⟩
end Go.AM
namespace Go.Proofs.YtdkfhdmagdaceaaGreat
open Go Go.AM
attribute [local irreducible] aM wv aB vd wvH
section
variable {H : aA} {nx : Nat} {K : D → aA → Nat → Prop}
end
end Go.Proofs.YtdkfhdmagdaceaaGreat
namespace Go.AM
def jS (f:Nat→Int):Nat→Int
 |0=>0
 |n+1=>jS f n+f n
theorem KF {f:Nat→Int} {m:Int} (a:0≤m): ∀n,(∀k,k<n→0≤f k∧f k≤m)→0≤jS f n∧jS f n≤m*n
 |0,_=>by simp[jS]
 |n+1,h=>by
  have b:=KF a n fun k c=>h k (by omega);have d:=h n (by omega);have e:m*((n+1:Nat):Int)=m*n+m:=by push_cast;rw[Int.mul_add,Int.mul_one]
  simp only[jS];omega
end Go.AM
namespace Go.Proofs.YtdkfhdmagdaceaaGreat
open Go Go.AM
attribute [local irreducible] aM wv aB vd wvH
section
variable {H : aA} {nx : Nat} {K : D → aA → Nat → Prop}
end
end Go.Proofs.YtdkfhdmagdaceaaGreat
namespace Go.AM
theorem abY.frame {H H':aA} {nm:Nat→Nat} {s:CSt} {cells:List D1} (h:abY H nm s cells) (a: ∀k,k<19→H' (nm k)=H (nm k)):abY H' nm s cells:=by
 obtain⟨⟨f,g,i,vc,j,l,n,o,p,q⟩,⟨m,rows,t,u,v⟩,⟨w,b,x,y,z⟩⟩:=h;refine⟨⟨f,g,i,vc,j,l,n.frame (a _ (by omega)),o.frame (a _ (by omega)),p.frame (a _ (by omega)),q⟩,⟨m,rows,by rw[a 2 (by omega)];exact t,u,fun k c=> ?_⟩,⟨w,b,by rw[a 3 (by omega)];exact x,y,fun k c=> ?_⟩⟩;·obtain⟨r,d,e⟩:=v k c;exact⟨r,d,e.frame (a _ (by omega)) (a _ (by omega))⟩
 ·obtain⟨r,d,e⟩:=z k c;exact⟨r,d,e.frame (a _ (by omega)) (a _ (by omega))⟩
theorem COk.sz {c:Cfg} {s:CSt} (d:aQ c) (h:COk c s):CSz s:=by
 obtain⟨e,_,f,_⟩:=h.atm;have g:s.told.length≤36:=by have:=h.st.lens d;simp only[cX] at this;omega
 have i: ∀j∈s.told,j.rsp.data.length<2^21:=fun j b=>by have:=(h.st.R8 j (brH _ b)).1;unfold pA at this;omega
 refine⟨h.pl,h.sl,by omega,by omega,⟨by omega,i⟩,fun k a=> ?_,fun k a=> ?_⟩;·have l:=(h.port k a).ql;have m:=(h.port k a).ol;omega
 ·have l:=(h.slv k a).pl;have m:=(h.slv k a).dl;refine⟨by omega,by omega,fun j b=> ?_⟩;have:=((h.slv k a).rsp j b).1;unfold pA at this;omega
end Go.AM
namespace Go.Proofs.YtdkfhdmagdaceaaGreat
open Go Go.AM
attribute [local irreducible] aM wv aB vd wvH
section
variable {H : aA} {nx : Nat} {K : D → aA → Nat → Prop}
end
end Go.Proofs.YtdkfhdmagdaceaaGreat
namespace Go.AM
def szN (left:Int) (n:Nat):Int:=if left-n<0 then-1 else left-n
def szT (a:Int) (f:Int→Int):Int:=if a<0 then-1 else f a
def szF {α:Type} (f:Int→α→Int):Int→List α→Int
 |a,[]=>a
 |a,x::l=>if f a x<0 then-1 else szF f (f a x) l
def szS {α:Type} (f:Int→α→Int) (a:Int) (l:List α):Int:=szT (szN a l.length) fun a=>szF f a l
def SzR {α:Type} (f:Int→α→Int):Prop:=∀a x,0≤a→f a x= -1∨(0≤f a x∧f a x≤a)
theorem aZM (a:Int) (n:Nat):szN a n= -1∨(0≤szN a n∧szN a n≤a):=by unfold szN;split<;>omega
variable{a:Int}
theorem a6C{left:Int}{f:Int→Int} (c:a= -1∨(0≤a∧a≤left)) (b:0≤a→f a= -1∨(0≤f a∧f a≤a)):szT a f= -1∨(0≤szT a f∧szT a f≤left):=by
 unfold szT;split;·exact .inl rfl
 ·have:=b (by omega);omega
theorem bfA {α:Type} {f:Int→α→Int} (b:SzR f): ∀(l:List α) (a:Int),0≤a→szF f a l= -1∨(0≤szF f a l∧szF f a l≤a)
 | [],a,h=>by simp only[szF];omega
 |x::l,a,h=>by
  simp only[szF];split;·exact .inl rfl
  ·have c:=b a x h;have d:=bfA b l (f a x) (by omega);omega
theorem a4Q{α:Type}{f:Int→α→Int} (b:SzR f) (a:Int) (l:List α):szS f a l= -1∨(0≤szS f a l∧szS f a l≤a):=a6C (aZM _ _) fun h=>bfA b l _ h
theorem bfN{α:Type}{f:Int→α→Int} (b:SzR f):SzR (szS f):=fun a l _=>a4Q b a l
theorem a18{n:Nat} (h:0≤szN a n) (b:a≤2^20):n<2^21:=by unfold szN at h;split at h<;>omega
theorem a29{f:Int→Int} (h:0≤szT a f):0≤a∧0≤f a:=by
 unfold szT at h;split at h;·omega
 ·exact⟨by omega,h⟩
def SzF {α:Type} (f:Int→α→Int) (P:α→Prop):Prop:=∀a x,0≤a→a≤2^20→0≤f a x→P x
theorem beS {α:Type} {f:Int→α→Int} {P:α→Prop} (hr:SzR f) (d:SzF f P): ∀(l:List α) (a:Int),0≤a→a≤2^20→0≤szF f a l→∀x∈l,P x
 | [],_,_,_,_=>fun x g=>by simp at g
 |x::l,a,e,h,b=>by
  simp only[szF] at b;split at b;·omega
  ·have i:=hr a x e;intro y c;rcases t3.1 c with rfl|c;·exact d a y e h (by omega)
   ·exact beS hr d l (f a x) (by omega) (by omega) b y c
def aZT {α:Type} (P:α→Prop) (N:Nat) (l:List α):Prop:=l.length<N∧ ∀x∈l,P x
theorem a5T{α:Type}{f:Int→α→Int}{P:α→Prop} (hr:SzR f) (c:SzF f P){l:List α} (d:a≤2^20) (h:0≤szS f a l):aZT P (2^21) l:=by obtain⟨b,e⟩:=a29 h;have g:=aZM a l.length;exact⟨a18 b d,beS hr c l _ b (by omega) e⟩
theorem a87{α:Type}{f:Int→α→Int}{l:List α}{k:Nat} (b: ¬k<l.length):szF f a (l.drop k)=a:=by rw[brZ (by omega)];rfl
theorem a5L{α:Type} [Inhabited α]{f:Int→α→Int}{l:List α}{k:Nat} (b:k<l.length):szF f a (l.drop k)=if f a (l.getD k default)<0 then-1 else szF f (f a (l.getD k default)) (l.drop (k+1)):=by rw[brB b];simp[szF,List.getD,b]
def a3S (a:Int) (w h:List Int):Int:=szT (szN a w.length) fun a=>szN a h.length
theorem beG (a:Int) (w h:List Int):a3S a w h= -1∨(0≤a3S a w h∧a3S a w h≤a):=a6C (aZM _ _) fun _=>aZM _ _
theorem beX{w h:List Int} (b:a≤2^20) (c:0≤a3S a w h):w.length<2^21∧h.length<2^21:=by obtain⟨d,e⟩:=a29 c;have f:=aZM a w.length;exact⟨a18 d b,a18 e (by omega)⟩
def aZU (a:Int) (x:Req):Int:=szT (szN a x.data.length) fun a=>szN a x.g6.length
theorem a6Y:SzR aZU:=fun _ _ _=>a6C (aZM _ _) fun _=>aZM _ _
def w3 (N:Nat) (x:Req):Prop:=x.data.length<N∧x.g6.length<N
theorem beH:SzF aZU (w3 (2^21)):=fun a x d e b=>by unfold aZU at b;obtain⟨bqS,b⟩:=a29 b;have bqB:=a18 bqS (by omega);have f:=aZM a x.data.length;generalize szN a x.data.length=boW at*;have c:=a18 b (by omega);exact⟨bqB,c⟩
def w4 (a:Int) (l:List Req):Int:=szS aZU a l
theorem a3N:SzR w4:=bfN a6Y
def aZ7 (N:Nat) (l:List Req):Prop:=aZT (w3 N) N l
theorem bdN:SzF w4 (aZ7 (2^21)):=fun a x d b c=>a5T a6Y beH b c
def aZ9 (a:Int) (x:Cfg):Int:=szT (szN a x.map.length) fun a=>szT (szN a x.lat.length) fun a=>szS w4 a x.cP
theorem beN:SzR aZ9:=fun _ _ _=>a6C (aZM _ _) fun _=>a6C (aZM _ _) fun _=>a4Q a3N _ _
def aZW (N:Nat) (x:Cfg):Prop:=x.map.length<N∧x.lat.length<N∧aZT (aZ7 N) N x.cP
theorem beC:SzF aZ9 (aZW (2^21)):=fun a x f g b=>by unfold aZ9 at b;obtain⟨bqS,b⟩:=a29 b;have bqB:=a18 bqS (by omega);have h:=aZM a x.map.length;generalize szN a x.map.length=boW at*;obtain⟨c,b⟩:=a29 b;have d:=a18 c (by omega);have i:=aZM boW x.lat.length;generalize szN boW x.lat.length=j at*;have e:=a5T a3N bdN (by omega) b;exact⟨bqB,d,e⟩
def f9 (N:Nat) (x:fR):Prop:=x.queue.length<N∧x.out.length<N
def a3W (a:Int) (x:Rsp):Int:=szN a x.data.length
theorem bdM:SzR a3W:=fun _ _ _=>aZM _ _
def aZV (N:Nat) (x:Rsp):Prop:=x.data.length<N
theorem beD:SzF a3W (aZV (2^21)):=fun a x c d b=>by unfold a3W at b;have bqB:=a18 b (by omega);exact bqB
def KJ (a:Int) (x:Job):Int:=a3W a x.rsp
theorem a1P:SzR KJ:=fun _ _ _=>bdM _ _ (by assumption)
def e9 (N:Nat) (x:Job):Prop:=aZV N x.rsp
theorem a9L:SzF KJ (e9 (2^21)):=fun a x c d b=>by unfold KJ at b;have bqB:=beD _ _ (by omega) (by omega) b;exact bqB
def dP (N:Nat) (x:nY):Prop:=x.pipe.length<N∧aZT (e9 N) N x.done
def w5 (N:Nat) (x:CSt):Prop:=(x.words.length<N∧x.holds.length<N)∧aZT (f9 N) N x.bM∧aZT (dP N) N x.dD∧aZT (e9 N) N x.told
def bz9 (a:Int) (x:TSt):Int:=szT (a3S a x.words x.holds) fun a=>szT (szN a x.asked.length) fun a=>szT (szS KJ a x.wait) fun a=>szT (szS KJ a x.done) fun a=>szS KJ a x.told
theorem bEP:SzR bz9:=fun _ _ _=>a6C (beG _ _ _) fun _=>a6C (aZM _ _) fun _=>a6C (a4Q a1P _ _) fun _=>a6C (a4Q a1P _ _) fun _=>a4Q a1P _ _
def bcA (N:Nat) (x:TSt):Prop:=(x.words.length<N∧x.holds.length<N)∧x.asked.length<N∧aZT (e9 N) N x.wait∧aZT (e9 N) N x.done∧aZT (e9 N) N x.told
theorem bEF:SzF bz9 (bcA (2^21)):=fun a x l m b=>by unfold bz9 at b;obtain⟨bqS,b⟩:=a29 b;have bqB:=beX (by omega) bqS;have n:=beG a x.words x.holds;generalize a3S a x.words x.holds=boW at*;obtain⟨e,b⟩:=a29 b;have f:=a18 e (by omega);have o:=aZM boW x.asked.length;generalize szN boW x.asked.length=c at*;obtain⟨g,b⟩:=a29 b;have h:=a5T a1P a9L (by omega) g;have p:=a4Q a1P c x.wait;generalize szS KJ c x.wait=d at*;obtain⟨i,b⟩:=a29 b;have j:=a5T a1P a9L (by omega) i;have q:=a4Q a1P d x.done;generalize szS KJ d x.done=boX at*;have k:=a5T a1P a9L (by omega) b;exact⟨bqB,f,h,j,k⟩
theorem aZW.fit{c:Cfg} (h:aZW (2^21) c):jO c:=by obtain⟨d,e,f,a⟩:=h;exact⟨by omega,by omega,by omega,fun p hp=>by have:=(a p hp).1;omega,fun p hp q b=>by have:=(a p hp).2 q b;unfold w3 at this;omega⟩
def a2F {α:Type} (enc:α→List D1) (z:List D1) (l:List α) (k:Nat):List (List D1):=(l.take k).map enc++List.replicate (l.length-k) z
variable{z:List D1}
theorem a14{α:Type}{enc:α→List D1}{l:List α}{k:Nat} (a:k≤l.length):(a2F enc z l k).length=l.length:=by unfold a2F;simp;omega
theorem a15{α:Type} [Inhabited α]{enc:α→List D1}{l:List α}{k:Nat} (a:k<l.length):(a2F enc z l k).set k (enc (l.getD k default))=a2F enc z l (k+1):=by
 unfold a2F;have b:((l.take k).map enc).length=k:=by simp;omega
 rw[List.set_append_right _ _ (by omega),b,brJ,nK a,bqX,C0];congr 1;rw[show l.length-k=(l.length-(k+1))+1 by omega,List.replicate_succ];rfl
theorem a3C{α:Type}{enc:α→List D1}{l:List α}{k:Nat} (b:k<l.length):(a2F enc z l k)[k]?=some z:=by
 unfold a2F;have a:((l.take k).map enc).length=k:=by simp;omega
 rw[brX (by omega),a,brJ,boJ,if_pos (by omega)]
theorem a16{α:Type}{enc:α→List D1}{l:List α}:a2F enc z l l.length=l.map enc:=by unfold a2F;simp
theorem a0R{α:Type}{enc:α→List D1}{l:List α}:a2F enc z l 0=List.replicate l.length z:=by unfold a2F;simp
theorem aB.ao4{P:Program}{f:FuncId}{args args':List D}{H:aA}{nx:Nat}{K:D→aA→Nat→Prop} (H':aA) (F:Nat→Prop) (hl:args.length=args'.length) (n: ∀(i:Nat) (k d:D),args'[i]?=some k→args[i]?=some d→CvD H F id nx k d) (p:CvX F nx H H') (h:aB P f args' H' nx K):aB P f args H nx K:=by
 refine⟨h.1,fun c vs l m hlen e=> ?_⟩;obtain⟨q,s⟩:=YO l (Step.refl c H) m p;refine(h.2 (c.conv nx nx id (c.frI H F)) vs q (fun i hi=> ?_) (by omega) fun i d v a g=> ?_).mono ?_
 ·rcases hi with⟨_,hi⟩|⟨a,g,j⟩
  ·exact m i hi
  ·omega
 ·have hi:i<args.length:=by have:=(m3.1 a).1;omega
  exact zD l (fun b h=>.inl h) (fun id o a g j=>.inr ⟨id,o,a,g,j,rfl⟩) (fun _ _=>rfl) (n i d _ a (n1 hi)) (e i _ v (n1 hi) g)
 ·rintro x E ⟨v,c2,r,t,u,rfl,rfl,w,y,z,A,B,C⟩;refine⟨v,c2,r,t,u,rfl,rfl,w,s.trans y,fun i hi=> ?_,A,B,C⟩;rcases z i hi with h|h
  ·rcases h with⟨_,hi⟩|⟨a,g,j⟩
   ·exact .inl hi
   ·omega
  ·exact .inr h
open Classical in
noncomputable def without (F:Nat→Prop) (H:aA):aA:=fun j=>if F j then none else H j
theorem iI{F:Nat→Prop}{H:aA}{j:Nat} (h: ¬F j):without F H j=H j:=by unfold without;rw[if_neg h]
theorem kS{F:Nat→Prop}{H:aA}{nx:Nat}:CvX F nx H (without F H):=fun j x a=>by
 by_cases h:F j;·unfold without at a;rw[if_pos h] at a;cases a
 ·rw[iI h] at a;exact⟨h,x,a,.inl rfl⟩
end Go.AM
namespace Go.Proofs.YtdkfhdmagdaceaaGreat
open Go Go.AM
attribute [local irreducible] aM wv aB vd wvH
section
variable {H : aA} {nx : Nat} {K : D → aA → Nat → Prop}
end
end Go.Proofs.YtdkfhdmagdaceaaGreat
namespace Go.AM
theorem bFC {x:Value}:(D1.v x).free=true:=rfl
def Dis (F G:Nat→Prop):Prop:=∀j,F j→¬G j
def Sub (F G:Nat→Prop):Prop:=∀j,F j→G j
def byK (_:Int):Nat:=1
def bzQ (k:Int) (_:Int):Int:=k
theorem bCV:Fzb 1 aJ (byQ aJ):=bEV fun x=>⟨rfl,rfl⟩
theorem bEL:Fre (byQ aJ):=bFB fun x=>rfl
def byW (_:Rng):Nat:=4
def bC0 (k:Int) (_:Rng):Rng:=⟨k,k+1,k+1+1,decide ((k+1+1+1).tmod 3=0)⟩
theorem bEW:Fzb 4 eN (byQ eN):=bEV fun x=>⟨rfl,rfl⟩
def bG8 (_:Ev):Nat:=3
def bH5 (k:Int) (_:Ev):Ev:=⟨k,k+1,k+1+1⟩
theorem bH3:Fzb 3 eEv (byQ eEv):=bEV fun x=>⟨rfl,rfl⟩
def bzY (x:Req):Nat:=5+total byK x.data+total byK x.g6
def bEC (k:Int) (x:Req):Req:=⟨k,k+1,k+1+1,k+1+1+1,decide ((k+1+1+1+1).tmod 3=0),marks byK bzQ (k+1+1+1+1+1) x.data,marks byK bzQ (k+1+1+1+1+1+total byK x.data) x.g6⟩
structure bFK (H:aA) (x:Req) (F:Nat→Prop) (d1 d2:D1) (bF4 bF5:Nat→Prop):Prop where
 s1:SlS 1 (byQ aJ) H d1 x.data bF4
 s2:SlS 1 (byQ aJ) H d2 x.g6 bF5
 aUV:Sub bF4 F
 aUW:Sub bF5 F
 x12:Dis bF4 bF5
def bA3:bAT Req:=fun H r x F=>∃d1 d2 bF4 bF5,r=[cI x.id,cI x.kind,cI x.addr,cI x.many,cB x.wrap,d1,d2]∧bFK H x F d1 d2 bF4 bF5
theorem bAS:Frm bA3:=fun _ _ _ _ _ ⟨d1,d2,bF4,bF5,c,h⟩ b=>⟨d1,d2,bF4,bF5,c,{h with s1:=h.s1.frame bp1 fun j a=>b j (h.aUV j a),s2:=h.s2.frame bp1 fun j a=>b j (h.aUW j a)}⟩
theorem bDM:Fzb 7 eB bA3:=fun _ _ _ _ ⟨d1,d2,bF4,bF5,a,h⟩=>⟨rfl,a▸byR (.same _ rfl) (byR (.same _ rfl) (byR (.same _ rfl) (byR (.same _ rfl) (byR (.same _ rfl) (byR (h.s1.frz bCV) (byR (h.s2.frz bCV) (bDK)))))))⟩
def bzB (l:List Req):Nat:=total bzY l
def bDR (k:Int) (l:List Req):List Req:=marks bzY bEC k l
def bAW:bAT (List Req):=fun H r l F=>∃d,r=[d]∧SlS 7 bA3 H d l F
theorem bAH:Frm bAW:=fun _ _ _ _ _ ⟨d,a,b⟩ c=>⟨d,a,b.frame bAS c⟩
theorem bE0:Fzb 1 jR bAW:=fun _ _ _ _ ⟨d,a,b⟩=>⟨rfl,a▸byR (b.frz bDM) bDK⟩
def byJ (x:Job):Nat:=4+total byK x.rsp.data
def bzU (k:Int) (x:Job):Job:=⟨k,k+1,⟨k+1+1,k+1+1+1,marks byK bzQ (k+1+1+1+1) x.rsp.data⟩⟩
def bzL:bAT Job:=fun H r x F=>∃d1,r=[cI x.who,cI x.n,cI x.rsp.id,cI x.rsp.code,d1]∧SlS 1 (byQ aJ) H d1 x.rsp.data F
theorem byI:Frm bzL:=fun _ _ _ _ _ ⟨d,a,b⟩ c=>⟨d,a,b.frame bp1 c⟩
theorem bDO:Fre bzL:=fun _ _ _ _ ⟨d1,d,h⟩=>by subst d;obtain⟨a,bp6,b,c,e⟩:=h.fre bEL;exact⟨by simp[a,bFC],bp6,b,⟨d1,rfl,c⟩,e⟩
theorem bBI:Fzb 5 aS bzL:=fun _ _ _ _ ⟨d1,a,h⟩=>⟨rfl,a▸byR (.same _ rfl) (byR (.same _ rfl) (byR (.same _ rfl) (byR (.same _ rfl) (byR (h.frz bCV) (bDK)))))⟩
def bC9 (x:Cfg):Nat:=total byW x.map+total byK x.lat+total bzB x.cP
def bFD (k:Int) (x:Cfg):Cfg:=⟨marks byW bC0 (k) x.map,marks byK bzQ (k+total byW x.map) x.lat,marks bzB bDR (k+total byW x.map+total byK x.lat) x.cP⟩
structure bFL (H:aA) (x:Cfg) (F:Nat→Prop) (d1 d2 d3:D1) (bF4 bF5 bF6:Nat→Prop):Prop where
 s1:SlS 4 (byQ eN) H d1 x.map bF4
 s2:SlS 1 (byQ aJ) H d2 x.lat bF5
 bp7:SlS 1 bAW H d3 x.cP bF6
 aUV:Sub bF4 F
 aUW:Sub bF5 F
 aIG:Sub bF6 F
 x12:Dis bF4 bF5
 x13:Dis bF4 bF6
 x23:Dis bF5 bF6
def bBO:bAT Cfg:=fun H r x F=>∃d1 d2 d3 bF4 bF5 bF6,r=[d1,d2,d3]∧bFL H x F d1 d2 d3 bF4 bF5 bF6
theorem bAQ:Frm bBO:=fun _ _ _ _ _ ⟨d1,d2,d3,bF4,bF5,bF6,c,h⟩ b=>⟨d1,d2,d3,bF4,bF5,bF6,c,{h with s1:=h.s1.frame bp1 fun j a=>b j (h.aUV j a),s2:=h.s2.frame bp1 fun j a=>b j (h.aUW j a),bp7:=h.bp7.frame bAH fun j a=>b j (h.aIG j a)}⟩
theorem bEJ:Fzb 3 cU bBO:=fun _ _ _ _ ⟨d1,d2,d3,bF4,bF5,bF6,a,h⟩=>⟨rfl,a▸byR (h.s1.frz bEW) (byR (h.s2.frz bCV) (byR (h.bp7.frz bE0) (bDK)))⟩
def bzP (x:TSt):Nat:=total byK x.words+total byK x.holds+total byK x.asked+total byJ x.wait+total byJ x.done+total byJ x.told
def bBQ (k:Int) (x:TSt):TSt:=⟨marks byK bzQ (k) x.words,marks byK bzQ (k+total byK x.words) x.holds,marks byK bzQ (k+total byK x.words+total byK x.holds) x.asked,marks byJ bzU (k+total byK x.words+total byK x.holds+total byK x.asked) x.wait,marks byJ bzU (k+total byK x.words+total byK x.holds+total byK x.asked+total byJ x.wait) x.done,marks byJ bzU (k+total byK x.words+total byK x.holds+total byK x.asked+total byJ x.wait+total byJ x.done) x.told⟩
structure bE6 (H:aA) (x:TSt) (F:Nat→Prop) (d1 d2 d3 bkS bk2 bk3:D1) (bF4 bF5 bF6 bF7 bF8 bF9:Nat→Prop):Prop where
 s1:SlS 1 (byQ aJ) H d1 x.words bF4
 s2:SlS 1 (byQ aJ) H d2 x.holds bF5
 bp7:SlS 1 (byQ aJ) H d3 x.asked bF6
 bp8:SlS 5 bzL H bkS x.wait bF7
 bp9:SlS 5 bzL H bk2 x.done bF8
 aIE:SlS 5 bzL H bk3 x.told bF9
 aUV:Sub bF4 F
 aUW:Sub bF5 F
 aIG:Sub bF6 F
 aII:Sub bF7 F
 aUX:Sub bF8 F
 aIH:Sub bF9 F
 x12:Dis bF4 bF5
 x13:Dis bF4 bF6
 x14:Dis bF4 bF7
 x15:Dis bF4 bF8
 x16:Dis bF4 bF9
 x23:Dis bF5 bF6
 x24:Dis bF5 bF7
 x25:Dis bF5 bF8
 x26:Dis bF5 bF9
 x34:Dis bF6 bF7
 x35:Dis bF6 bF8
 x36:Dis bF6 bF9
 x45:Dis bF7 bF8
 x46:Dis bF7 bF9
 x56:Dis bF8 bF9
def byV:bAT TSt:=fun H r x F=>∃d1 d2 d3 bkS bk2 bk3 bF4 bF5 bF6 bF7 bF8 bF9,r=[d1,d2,d3,bkS,bk2,bk3]∧bE6 H x F d1 d2 d3 bkS bk2 bk3 bF4 bF5 bF6 bF7 bF8 bF9
theorem byO:Frm byV:=fun _ _ _ _ _ ⟨d1,d2,d3,bkS,bk2,bk3,bF4,bF5,bF6,bF7,bF8,bF9,c,h⟩ b=>⟨d1,d2,d3,bkS,bk2,bk3,bF4,bF5,bF6,bF7,bF8,bF9,c,{h with s1:=h.s1.frame bp1 fun j a=>b j (h.aUV j a),s2:=h.s2.frame bp1 fun j a=>b j (h.aUW j a),bp7:=h.bp7.frame bp1 fun j a=>b j (h.aIG j a),bp8:=h.bp8.frame byI fun j a=>b j (h.aII j a),bp9:=h.bp9.frame byI fun j a=>b j (h.aUX j a),aIE:=h.aIE.frame byI fun j a=>b j (h.aIH j a)}⟩
theorem bET:Fre byV:=fun _ _ _ _ ⟨d1,d2,d3,bkS,bk2,bk3,bF4,bF5,bF6,bF7,bF8,bF9,f,h⟩=>by
 subst f;obtain⟨az9,bw2,c,c1,n⟩:=h.s1.fre bEL;obtain⟨az2,bw4,d,c2,p⟩:=h.s2.fre bEL;obtain⟨aAD,bw5,boX,c3,q⟩:=h.bp7.fre bEL;obtain⟨aAE,bGA,boY,c4,r⟩:=h.bp8.fre bDO;obtain⟨aAA,bGB,boZ,c5,s⟩:=h.bp9.fre bDO;obtain⟨aAF,bGC,bkQ,bkY,t⟩:=h.aIE.fre bDO;refine⟨by simp[az9,az2,aAD,aAE,aAA,aAF,bFC],fun j=>bw2 j∨bw4 j∨bw5 j∨bGA j∨bGB j∨bGC j,fun j b=> ?_,⟨d1,d2,d3,bkS,bk2,bk3,bw2,bw4,bw5,bGA,bGB,bGC,rfl,⟨c1,c2,c3,c4,c5,bkY,fun j b=>(.inl b),fun j b=>(.inr (.inl b)),fun j b=>(.inr (.inr (.inl b))),fun j b=>(.inr (.inr (.inr (.inl b)))),fun j b=>(.inr (.inr (.inr (.inr (.inl b))))),fun j b=>(.inr (.inr (.inr (.inr (.inr b))))),fun j a bpZ=>h.x12 j (c j a) (d j bpZ),fun j a bpZ=>h.x13 j (c j a) (boX j bpZ),fun j a bpZ=>h.x14 j (c j a) (boY j bpZ),fun j a bpZ=>h.x15 j (c j a) (boZ j bpZ),fun j a bpZ=>h.x16 j (c j a) (bkQ j bpZ),fun j a bpZ=>h.x23 j (d j a) (boX j bpZ),fun j a bpZ=>h.x24 j (d j a) (boY j bpZ),fun j a bpZ=>h.x25 j (d j a) (boZ j bpZ),fun j a bpZ=>h.x26 j (d j a) (bkQ j bpZ),fun j a bpZ=>h.x34 j (boX j a) (boY j bpZ),fun j a bpZ=>h.x35 j (boX j a) (boZ j bpZ),fun j a bpZ=>h.x36 j (boX j a) (bkQ j bpZ),fun j a bpZ=>h.x45 j (boY j a) (boZ j bpZ),fun j a bpZ=>h.x46 j (boY j a) (bkQ j bpZ),fun j a bpZ=>h.x56 j (boZ j a) (bkQ j bpZ)⟩⟩,fun j o b e=> ?_⟩
 ·rcases b with f|g|i|k|l|m;·exact h.aUV j (c j f)
  ·exact h.aUW j (d j g)
  ·exact h.aIG j (boX j i)
  ·exact h.aII j (boY j k)
  ·exact h.aUX j (boZ j l)
  ·exact h.aIH j (bkQ j m)
 ·rcases b with f|g|i|k|l|m;·exact n j o f e
  ·exact p j o g e
  ·exact q j o i e
  ·exact r j o k e
  ·exact s j o l e
  ·exact t j o m e
theorem bES:Cvs byV:=fun _ _ _ _ _ _ ⟨d1,d2,d3,bkS,bk2,bk3,bF4,bF5,bF6,bF7,bF8,bF9,c,h⟩ b=>c▸aH (h.s1.cv (fun j a=>b j (h.aUV j a))) (aH (h.s2.cv (fun j a=>b j (h.aUW j a))) (aH (h.bp7.cv (fun j a=>b j (h.aIG j a))) (aH (h.bp8.cv (fun j a=>b j (h.aII j a))) (aH (h.bp9.cv (fun j a=>b j (h.aUX j a))) (aH (h.aIE.cv (fun j a=>b j (h.aIH j a))) (eP))))))
theorem bBZ:Fzb 6 eSt byV:=fun _ _ _ _ ⟨d1,d2,d3,bkS,bk2,bk3,bF4,bF5,bF6,bF7,bF8,bF9,a,h⟩=>⟨rfl,a▸byR (h.s1.frz bCV) (byR (h.s2.frz bCV) (byR (h.bp7.frz bCV) (byR (h.bp8.frz bBI) (byR (h.bp9.frz bBI) (byR (h.aIE.frz bBI) (bDK))))))⟩
theorem bE5 {f:Nat→List D1} {u:Nat} {r:List D1} (i:Nat) (h:f u=r):bB4 f u r i=f i:=by
 unfold bB4;split;·rename_i e;rw[e,h]
 ·rfl
end Go.AM
namespace Go.Proofs.YtdkfhdmagdaceaaGreat
open Go Go.AM
attribute [local irreducible] aM wv aB vd wvH
section
variable {H : aA} {nx : Nat} {K : D → aA → Nat → Prop}
theorem bDW:cJ Tryz.prog byU Tryz.f84 bzV bBG:=cJ.mk Tryz.func84 (by kernel_rfl) bDV
variable{d:D1}{k:Int}
theorem byZ{l:List Int}{F:Nat→Prop} (t: ∀j,F j→j<nx) (o:SlS 1 (byQ aJ) H d l F) (y:l.length<2^21) (P:0≤k) (R:k+total byK l<2^62)
 (h: ∀H' g,nx≤g→SlS 1 (byQ aJ) H' d (marks byK bzQ k l) F→(∀j,j<nx→¬F j→H' j=H j)→K (boP (k+total byK l)) H' g):aB Tryz.prog byU [.one (.c d),boP k] H nx K:=by
 obtain⟨v,id,off,cap,rfl⟩:=o.form
 have z:=o.bEI t
 have A:l.length<2^21:=y
 refine bDW rfl fun Q B=> ?_
 unfold bzV
 repeat' first|apply bn1<;>(simp only[go_sem])|fail
 refine aM.gP (β:=Nat) (fun u=>en [(5,boP u),(1,boP (k+bAJ byK l u)),(0,.one (.c (.osl v id off l.length cap)))]) (fun u H1 bp0=>u≤l.length∧SlS 1 (byQ aJ) H1 (.osl v id off l.length cap) (mixed byK bzQ k u l) F∧ ∀j,j<nx→¬F j→H1 j=H j) (fun u=>l.length-u) 0 ⟨noF,_,oF (oF (oF K6 (apS (bBF (by omega)))) (bz5 (by rw[bAM];omega))) (aE rfl),aK,bxY _,o,fun _ _ _=>rfl⟩ ?_
 rintro u H1 C D ⟨hu,b,n⟩ bpQ p
 by_cases a:u<l.length
 ·obtain⟨x,e⟩: ∃x,l[u]?=some x:=⟨_,n1 a⟩
  have E:x∈l:=s3 e;have I:byK x=1:=rfl;have J:=bzX (sz:=byK) e;have L:=bBL (sz:=byK) e;rw[I] at J L;obtain⟨⟨rfl,rfl⟩,m,f,G,c1,c2,c3,boT⟩:=b.get (i:=u) (by rw[bp2];exact a);rw[bp2] at c1;have w:=boT.blk;rw[bp2] at w;have M: ∀f,(rng l.length f)[u]?=some (f u):=fun f=>by6 a;have N:id<nx:=t id boT.self;have bqK: ∀j,G u j→F j∧j≠id:=fun j O=>boT.sub u j (by rw[bp2];exact a) O;have bqH:f u=[cI x]:=boT.row u x (bzS e);repeat' first|apply bn1<;>(simp only[go_sem,w,bqH,M,byN,byT,byL,byM,boC];try simp (disch:=omega) only[Iw])|apply bn2 (by omega)|refine⟨by omega,?_⟩|fail
  refine p _ _ _ (u+1) noF _ (by omega) (by omega) (oF (oF (oF K6 (apS (bBF (by omega)))) (bz5 (by omega))) (bz5 (by omega))) aK ⟨by omega,?_,?_⟩;·rw[bAN e];exact SlS.put c3 (by rw[Y5,bp2];exact c1) c2 (by rw[Y5,bp2]) (boT.upd bp1 (bzS e) (by rw[bp2];exact aA.bH) rfl fun j q r S=>aA.aC q)
  ·exact fun j q r=>(aA.aC (fun h=>r (by rw[h];exact boT.self))).trans (n j q r)
 ·repeat' first|apply bn1<;>(simp only[go_sem])|apply bn3 (by omega)|fail
  have s:u=l.length:=by omega
  subst s;rw[bA4] at b;exact B _ _ _ _ _ (.inr rfl) rfl (h _ _ (by omega) b n)
theorem bBR:cJ Tryz.prog bzT Tryz.f83 by4 bAL:=cJ.mk Tryz.func83 (by kernel_rfl) bBS
theorem bBW{l:List Rng}{F:Nat→Prop} (t: ∀j,F j→j<nx) (o:SlS 4 (byQ eN) H d l F) (y:l.length<2^21) (P:0≤k) (R:k+total byW l<2^62)
 (h: ∀H' g,nx≤g→SlS 4 (byQ eN) H' d (marks byW bC0 k l) F→(∀j,j<nx→¬F j→H' j=H j)→K (boP (k+total byW l)) H' g):aB Tryz.prog bzT [.one (.c d),boP k] H nx K:=by
 obtain⟨v,id,off,cap,rfl⟩:=o.form
 have z:=o.bEI t
 have A:l.length<2^21:=y
 refine bBR rfl fun Q B=> ?_
 unfold by4
 repeat' first|apply bn1<;>(simp only[go_sem])|fail
 refine aM.gP (β:=Nat) (fun u=>en [(5,boP u),(1,boP (k+bAJ byW l u)),(0,.one (.c (.osl v id off l.length cap)))]) (fun u H1 bp0=>u≤l.length∧SlS 4 (byQ eN) H1 (.osl v id off l.length cap) (mixed byW bC0 k u l) F∧ ∀j,j<nx→¬F j→H1 j=H j) (fun u=>l.length-u) 0 ⟨noF,_,oF (oF (oF K6 (apS (bBF (by omega)))) (bz5 (by rw[bAM];omega))) (aE rfl),aK,bxY _,o,fun _ _ _=>rfl⟩ ?_
 rintro u H1 C D ⟨hu,b,n⟩ bpQ p
 by_cases a:u<l.length
 ·obtain⟨x,e⟩: ∃x,l[u]?=some x:=⟨_,n1 a⟩
  have E:x∈l:=s3 e;have I:byW x=4:=rfl;have J:=bzX (sz:=byW) e;have L:=bBL (sz:=byW) e;rw[I] at J L;obtain⟨⟨rfl,rfl⟩,m,f,G,c1,c2,c3,boT⟩:=b.get (i:=u) (by rw[bp2];exact a);rw[bp2] at c1;have w:=boT.blk;rw[bp2] at w;have M: ∀f,(rng l.length f)[u]?=some (f u):=fun f=>by6 a;have N:id<nx:=t id boT.self;have bqK: ∀j,G u j→F j∧j≠id:=fun j O=>boT.sub u j (by rw[bp2];exact a) O;have bqH:f u=[cI x.lo,cI x.hi,cI x.K5,cB x.only]:=boT.row u x (bzS e);repeat' first|apply bn1<;>(simp only[go_sem,w,bqH,M,byN,byT,byL,byM,boC];try simp (disch:=omega) only[Iw])|apply bn2 (by omega)|refine⟨by omega,?_⟩|fail
  refine p _ _ _ (u+1) noF _ (by omega) (by omega) (oF (oF (oF K6 (apS (bBF (by omega)))) (bz5 (by omega))) (bz5 (by omega))) aK ⟨by omega,?_,?_⟩;·rw[bAN e];exact SlS.put c3 (by rw[Y5,bp2];exact c1) c2 (by rw[Y5,bp2]) (boT.upd bp1 (bzS e) (by rw[bp2];exact aA.bH) rfl fun j q r S=>aA.aC q)
  ·exact fun j q r=>(aA.aC (fun h=>r (by rw[h];exact boT.self))).trans (n j q r)
 ·repeat' first|apply bn1<;>(simp only[go_sem])|apply bn3 (by omega)|fail
  have s:u=l.length:=by omega
  subst s;rw[bA4] at b;exact B _ _ _ _ _ (.inr rfl) rfl (h _ _ (by omega) b n)
theorem bHJ:cJ Tryz.prog bG7 Tryz.f27 bGZ bHC:=cJ.mk Tryz.func27 (by kernel_rfl) bHM
theorem bHN{l:List Ev}{F:Nat→Prop} (v: ∀j,F j→j<nx) (p:SlS 3 (byQ eEv) H d l F) (z:l.length<2^21) (R:0≤k) (S:k+total bG8 l<2^62)
 (h: ∀H' g,nx≤g→SlS 3 (byQ eEv) H' d (marks bG8 bH5 k l) F→(∀j,j<nx→¬F j→H' j=H j)→K (boP (k+total bG8 l)) H' g):aB Tryz.prog bG7 [.one (.c d),boP k] H nx K:=by
 obtain⟨w,id,off,cap,rfl⟩:=p.form
 have A:=p.bEI v
 have B:l.length<2^21:=z
 refine bHJ rfl fun Q C=> ?_
 unfold bGZ
 repeat' first|apply bn1<;>(simp only[go_sem])|fail
 refine aM.gP (β:=Nat) (fun u=>en [(5,boP u),(1,boP (k+bAJ bG8 l u)),(0,.one (.c (.osl w id off l.length cap)))]) (fun u H1 bp0=>u≤l.length∧SlS 3 (byQ eEv) H1 (.osl w id off l.length cap) (mixed bG8 bH5 k u l) F∧ ∀j,j<nx→¬F j→H1 j=H j) (fun u=>l.length-u) 0 ⟨noF,_,oF (oF (oF K6 (apS (bBF (by omega)))) (bz5 (by rw[bAM];omega))) (aE rfl),aK,bxY _,p,fun _ _ _=>rfl⟩ ?_
 rintro u H1 D E ⟨hu,b,o⟩ bpQ q
 by_cases a:u<l.length
 ·obtain⟨x,e⟩: ∃x,l[u]?=some x:=⟨_,n1 a⟩
  have I:x∈l:=s3 e;have J:bG8 x=3:=rfl;have L:=bzX (sz:=bG8) e;have M:=bBL (sz:=bG8) e;rw[J] at L M;obtain⟨⟨rfl,rfl⟩,m,f,G,c1,c2,c3,boT⟩:=b.get (i:=u) (by rw[bp2];exact a);rw[bp2] at c1;have y:=boT.blk;rw[bp2] at y;have N: ∀f,(rng l.length f)[u]?=some (f u):=fun f=>by6 a;have O:id<nx:=v id boT.self;have bqK: ∀j,G u j→F j∧j≠id:=fun j P=>boT.sub u j (by rw[bp2];exact a) P;have bqH:f u=[cI x.kind,cI x.who,cI x.n]:=boT.row u x (bzS e);repeat' first|apply bn1<;>(simp only[go_sem,y,bqH,N,byN,byT,byL,byM,boC];try simp (disch:=omega) only[Iw])|apply bn2 (by omega)|refine⟨by omega,?_⟩|fail
  refine q _ _ _ (u+1) noF _ (by omega) (by omega) (oF (oF (oF K6 (apS (bBF (by omega)))) (bz5 (by omega))) (bz5 (by omega))) aK ⟨by omega,?_,?_⟩;·rw[bAN e];exact SlS.put c3 (by rw[Y5,bp2];exact c1) c2 (by rw[Y5,bp2]) (boT.upd bp1 (bzS e) (by rw[bp2];exact aA.bH) rfl fun j r s T=>aA.aC r)
  ·exact fun j r s=>(aA.aC (fun h=>s (by rw[h];exact boT.self))).trans (o j r s)
 ·repeat' first|apply bn1<;>(simp only[go_sem])|apply bn3 (by omega)|fail
  have t:u=l.length:=by omega
  subst t;rw[bA4] at b;exact C _ _ _ _ _ (.inr rfl) rfl (h _ _ (by omega) b o)
theorem bCI:cJ Tryz.prog bz8 Tryz.f178 bzG bAZ:=cJ.mk Tryz.func178 (by kernel_rfl) bCJ
theorem bC2{l:List Req}{F:Nat→Prop} (n: ∀j,F j→j<nx) (z:SlS 7 bA3 H d l F) (J:aZT (w3 (2^21)) (2^21) l) (hk:0≤k) (ht:k+total bzY l<2^62)
 (h: ∀H' r,nx≤r→SlS 7 bA3 H' d (marks bzY bEC k l) F→(∀j,j<nx→¬F j→H' j=H j)→K (boP (k+total bzY l)) H' r):aB Tryz.prog bz8 [.one (.c d),boP k] H nx K:=by
 obtain⟨L,id,off,cap,rfl⟩:=z.form
 have O:=z.bEI n
 have P:l.length<2^21:=J.1
 refine bCI rfl fun Q R=> ?_
 unfold bzG
 repeat' first|apply bn1<;>(simp only[go_sem])|fail
 refine aM.gP (β:=Nat) (fun u=>en [(5,boP u),(1,boP (k+bAJ bzY l u)),(0,.one (.c (.osl L id off l.length cap)))]) (fun u H1 bp0=>u≤l.length∧SlS 7 bA3 H1 (.osl L id off l.length cap) (mixed bzY bEC k u l) F∧ ∀j,j<nx→¬F j→H1 j=H j) (fun u=>l.length-u) 0 ⟨noF,_,oF (oF (oF K6 (apS (bBF (by omega)))) (bz5 (by rw[bAM];omega))) (aE rfl),aK,bxY _,z,fun _ _ _=>rfl⟩ ?_
 rintro u H1 S T ⟨hu,o,s⟩ bpQ A
 by_cases g:u<l.length
 ·obtain⟨x,q⟩: ∃x,l[u]?=some x:=⟨_,n1 g⟩
  have B:x∈l:=s3 q;have U:bzY x=5+total byK x.data+total byK x.g6:=rfl;have V:=bzX (sz:=bzY) q;have W:=bBL (sz:=bzY) q;rw[U] at V W;obtain⟨C,D⟩:=J.2 x B;obtain⟨⟨rfl,rfl⟩,m,f,G,c1,c2,c3,boT⟩:=o.get (i:=u) (by rw[bp2];exact g);rw[bp2] at c1;have M:=boT.blk;rw[bp2] at M;have t: ∀f,(rng l.length f)[u]?=some (f u):=fun f=>by6 g;have X:id<nx:=n id boT.self;have bqK: ∀j,G u j→F j∧j≠id:=fun j a=>boT.sub u j (by rw[bp2];exact g) a;obtain⟨d1,d2,bF4,bF5,bqH,b⟩:=boT.row u x (bzS q);have s1:=b.s1;have v1: ∀j,bF4 j→F j∧j≠id:=fun j a=>bqK j (b.aUV j a);have s2:=b.s2;have v2: ∀j,bF5 j→F j∧j≠id:=fun j a=>bqK j (b.aUW j a);repeat' first| (first|apply bn1| (refine byZ (F:=bF4) (fun j a=>by have:=n j (v1 j a).1;omega) (s1.frame bp1 fun j a=>aA.aC (v1 j a).2) C (by omega) (by omega) (fun Y Z aa bpN N=> ?_)))<;>(simp only[go_sem,M,bqH,t,byN,byT,byL,byM,boC];try simp (disch:=omega) only[Iw])|apply bn2 (by omega)|refine⟨by omega,?_⟩|fail
  have E:=(N id (by omega) (fun h=>(v1 id h).2 rfl)).trans aA.bH;have v: ∀j,j<nx→j≠id→¬bF4 j→Y j=H1 j:=fun j p e y=>(N j (by omega) y).trans (aA.aC e);(try simp only[go_sem,boC,E,t,byN,byT,byL,byM,boC]);repeat' first| (first|apply bn1| (refine byZ (F:=bF5) (fun j a=>by have:=n j (v2 j a).1;omega) (s2.frame bp1 fun j a=>v j (by have:=n j (v2 j a).1;omega) (v2 j a).2 (fun h=>b.x12 j h a)) D (by omega) (by omega) (fun H3 ab ad bpO bpS=> ?_)))<;>(simp only[go_sem,boC,E,t,byN,byT,byL,byM,boC];try simp (disch:=omega) only[Iw])|fail
  have boX:=(bpS id (by omega) (fun h=>(v2 id h).2 rfl)).trans E;have w: ∀j,j<nx→j≠id→¬bF4 j→¬bF5 j→H3 j=H1 j:=fun j p e g1 g2=>((bpS j (by omega) g2)).trans (v j p e g1);replace bpN:=bpN.frame bp1 fun j a=>(bpS j (by have:=n j (v1 j a).1;omega) (fun h=>b.x12 j a h))
  (try simp only[go_sem,boC,boX,t,byN,byT,byL,byM,boC]);repeat' first|apply bn1<;>(simp only[go_sem,boC,boX,t,byN,byT,byL,byM,boC])|fail
  refine A _ _ _ (u+1) noF _ (by omega) (by omega) (oF (oF (oF K6 (apS (bBF (by omega)))) (bz5 (by omega))) (bz5 (by omega))) aK ⟨by omega,?_,?_⟩;·rw[bAN q];exact SlS.put c3 (by rw[Y5,bp2];exact c1) c2 (by rw[Y5,bp2]) (boT.upd bAS (bzS q) (by rw[bp2];exact boX) (⟨d1,d2,bF4,bF5,rfl,⟨bpN,bpO,b.aUV,b.aUW,b.x12⟩⟩) fun j p e y=>w j (n j e) p (fun h=>y (b.aUV j h)) (fun h=>y (b.aUW j h)))
  ·exact fun j p e=>(w j p (fun h=>e (by rw[h];exact boT.self)) (fun h=>e (v1 j h).1) (fun h=>e (v2 j h).1)).trans (s j p e)
 ·repeat' first|apply bn1<;>(simp only[go_sem])|apply bn3 (by omega)|fail
  have I:u=l.length:=by omega
  subst I;rw[bA4] at o;exact R _ _ _ _ _ (.inr rfl) rfl (h _ _ (by omega) o s)
theorem bBV:cJ Tryz.prog bz0 Tryz.f85 bzA bAX:=cJ.mk Tryz.func85 (by kernel_rfl) bB7
theorem bB9{l:List (List Req)}{F:Nat→Prop} (r: ∀j,F j→j<nx) (s:SlS 1 bAW H d l F) (E:aZT (aZ7 (2^21)) (2^21) l) (Y:0≤k) (Z:k+total bzB l<2^62)
 (h: ∀H' n,nx≤n→SlS 1 bAW H' d (marks bzB bDR k l) F→(∀j,j<nx→¬F j→H' j=H j)→K (boP (k+total bzB l)) H' n):aB Tryz.prog bz0 [.one (.c d),boP k] H nx K:=by
 obtain⟨I,id,off,cap,rfl⟩:=s.form
 have L:=s.bEI r
 have M:l.length<2^21:=E.1
 refine bBV rfl fun Q N=> ?_
 unfold bzA
 repeat' first|apply bn1<;>(simp only[go_sem])|fail
 refine aM.gP (β:=Nat) (fun u=>en [(5,boP u),(1,boP (k+bAJ bzB l u)),(0,.one (.c (.osl I id off l.length cap)))]) (fun u H1 bp0=>u≤l.length∧SlS 1 bAW H1 (.osl I id off l.length cap) (mixed bzB bDR k u l) F∧ ∀j,j<nx→¬F j→H1 j=H j) (fun u=>l.length-u) 0 ⟨noF,_,oF (oF (oF K6 (apS (bBF (by omega)))) (bz5 (by rw[bAM];omega))) (aE rfl),aK,bxY _,s,fun _ _ _=>rfl⟩ ?_
 rintro u H1 O P ⟨hu,b,o⟩ bpQ t
 by_cases a:u<l.length
 ·obtain⟨x,e⟩: ∃x,l[u]?=some x:=⟨_,n1 a⟩
  have v:x∈l:=s3 e;have R:bzB x=total bzY x:=rfl;have S:=bzX (sz:=bzB) e;have T:=bBL (sz:=bzB) e;rw[R] at S T;have w:aZT (w3 (2^21)) (2^21) x:=E.2 x v;obtain⟨⟨rfl,rfl⟩,m,f,G,c1,c2,c3,boT⟩:=b.get (i:=u) (by rw[bp2];exact a);rw[bp2] at c1;have y:=boT.blk;rw[bp2] at y;have z: ∀f,(rng l.length f)[u]?=some (f u):=fun f=>by6 a;have U:id<nx:=r id boT.self;have bqK: ∀j,G u j→F j∧j≠id:=fun j A=>boT.sub u j (by rw[bp2];exact a) A;obtain⟨d1,bqH,s1⟩:=boT.row u x (bzS e);have v1:=bqK;repeat' first| (first|apply bn1| (refine bC2 (F:=G u) (fun j A=>by have:=r j (v1 j A).1;omega) (s1) w (by omega) (by omega) (fun V W X bpN J=> ?_)))<;>(simp only[go_sem,y,bqH,z,byN,byT,byL,byM,boC];try simp (disch:=omega) only[Iw])|apply bn2 (by omega)|refine⟨by omega,?_⟩|fail
  have B:=(J id (by omega) (fun h=>(v1 id h).2 rfl)).trans y;have p: ∀j,j<nx→j≠id→¬G u j→V j=H1 j:=fun j q g C=>(J j (by omega) C)
  (try simp only[go_sem,boC,B,bqH,z,byN,byT,byL,byM,boC]);repeat' first|apply bn1<;>(simp only[go_sem,boC,B,bqH,z,byN,byT,byL,byM,boC])|fail
  refine t _ _ _ (u+1) noF _ (by omega) (by omega) (oF (oF (oF K6 (apS (bBF (by omega)))) (bz5 (by omega))) (bz5 (by omega))) aK ⟨by omega,?_,?_⟩;·rw[bAN e];exact SlS.put c3 (by rw[Y5,bp2];exact c1) c2 (by rw[Y5,bp2]) (boT.upd bAH (bzS e) (by rw[bp2];exact B.trans (by congr 2;exact bFT fun i _=>(bE5 i bqH).symm)) (⟨d1,rfl,bpN⟩) fun j q g C=>p j (r j g) q C)
  ·exact fun j q g=>(p j q (fun h=>g (by rw[h];exact boT.self)) (fun h=>g (v1 j h).1)).trans (o j q g)
 ·repeat' first|apply bn1<;>(simp only[go_sem])|apply bn3 (by omega)|fail
  have D:u=l.length:=by omega
  subst D;rw[bA4] at b;exact N _ _ _ _ _ (.inr rfl) rfl (h _ _ (by omega) b o)
theorem bCD:cJ Tryz.prog by3 Tryz.f87 bzF bA0:=cJ.mk Tryz.func87 (by kernel_rfl) bCB
theorem bz6{l:List Job}{F:Nat→Prop} (s: ∀j,F j→j<nx) (t:SlS 5 bzL H d l F) (D:aZT (e9 (2^21)) (2^21) l) (Y:0≤k) (Z:k+total byJ l<2^62)
 (h: ∀H' n,nx≤n→SlS 5 bzL H' d (marks byJ bzU k l) F→(∀j,j<nx→¬F j→H' j=H j)→K (boP (k+total byJ l)) H' n):aB Tryz.prog by3 [.one (.c d),boP k] H nx K:=by
 obtain⟨E,id,off,cap,rfl⟩:=t.form
 have L:=t.bEI s
 have M:l.length<2^21:=D.1
 refine bCD rfl fun Q N=> ?_
 unfold bzF
 repeat' first|apply bn1<;>(simp only[go_sem])|fail
 refine aM.gP (β:=Nat) (fun u=>en [(5,boP u),(1,boP (k+bAJ byJ l u)),(0,.one (.c (.osl E id off l.length cap)))]) (fun u H1 bp0=>u≤l.length∧SlS 5 bzL H1 (.osl E id off l.length cap) (mixed byJ bzU k u l) F∧ ∀j,j<nx→¬F j→H1 j=H j) (fun u=>l.length-u) 0 ⟨noF,_,oF (oF (oF K6 (apS (bBF (by omega)))) (bz5 (by rw[bAM];omega))) (aE rfl),aK,bxY _,t,fun _ _ _=>rfl⟩ ?_
 rintro u H1 O P ⟨hu,b,o⟩ bpQ v
 by_cases a:u<l.length
 ·obtain⟨x,g⟩: ∃x,l[u]?=some x:=⟨_,n1 a⟩
  have w:x∈l:=s3 g;have R:byJ x=4+total byK x.rsp.data:=rfl;have S:=bzX (sz:=byJ) g;have T:=bBL (sz:=byJ) g;rw[R] at S T;have y:x.rsp.data.length<2^21:=D.2 x w;obtain⟨⟨rfl,rfl⟩,m,f,G,c1,c2,c3,boT⟩:=b.get (i:=u) (by rw[bp2];exact a);rw[bp2] at c1;have I:=boT.blk;rw[bp2] at I;have z: ∀f,(rng l.length f)[u]?=some (f u):=fun f=>by6 a;have U:id<nx:=s id boT.self;have bqK: ∀j,G u j→F j∧j≠id:=fun j p=>boT.sub u j (by rw[bp2];exact a) p;obtain⟨d1,bqH,s1⟩:=boT.row u x (bzS g);have v1:=bqK;repeat' first| (first|apply bn1| (refine byZ (F:=G u) (fun j p=>by have:=s j (v1 j p).1;omega) (s1.frame bp1 fun j p=>aA.aC (v1 j p).2) y (by omega) (by omega) (fun V W X bpN J=> ?_)))<;>(simp only[go_sem,I,bqH,z,byN,byT,byL,byM,boC];try simp (disch:=omega) only[Iw])|apply bn2 (by omega)|refine⟨by omega,?_⟩|fail
  have A:=(J id (by omega) (fun h=>(v1 id h).2 rfl)).trans aA.bH;have q: ∀j,j<nx→j≠id→¬G u j→V j=H1 j:=fun j r e B=>(J j (by omega) B).trans (aA.aC e);(try simp only[go_sem,boC,A,z,byN,byT,byL,byM,boC]);repeat' first|apply bn1<;>(simp only[go_sem,boC,A,z,byN,byT,byL,byM,boC])|fail
  refine v _ _ _ (u+1) noF _ (by omega) (by omega) (oF (oF (oF K6 (apS (bBF (by omega)))) (bz5 (by omega))) (bz5 (by omega))) aK ⟨by omega,?_,?_⟩;·rw[bAN g];exact SlS.put c3 (by rw[Y5,bp2];exact c1) c2 (by rw[Y5,bp2]) (boT.upd byI (bzS g) (by rw[bp2];exact A) (⟨d1,rfl,bpN⟩) fun j r e B=>q j (s j e) r B)
  ·exact fun j r e=>(q j r (fun h=>e (by rw[h];exact boT.self)) (fun h=>e (v1 j h).1)).trans (o j r e)
 ·repeat' first|apply bn1<;>(simp only[go_sem])|apply bn3 (by omega)|fail
  have C:u=l.length:=by omega
  subst C;rw[bA4] at b;exact N _ _ _ _ _ (.inr rfl) rfl (h _ _ (by omega) b o)
end
end Go.Proofs.YtdkfhdmagdaceaaGreat
namespace Go.AM
theorem bFQ {α:Type} {RowP:bAT α} (m:Frm RowP) (n:Fre RowP) (p:Cvs RowP) {H:aA} {r:List D1} {x:α} {F:Nat→Prop} {nh:Nat} (h:RowP H r x F) (l: ∀j,F j→j<nh):
 ∃bp6:Nat→Prop,CvL H (fun j=>¬bp6 j) _root_.id nh r r∧RowP (without (fun j=>¬bp6 j) H) r x bp6∧bE9 (without (fun j=>¬bp6 j) H)∧r.all D1.free=true∧ ∀j,bp6 j→j<nh:=by
 obtain⟨a,bp6,b,c,e⟩:=n _ _ _ _ h
 refine⟨bp6,p _ _ _ _ _ _ c fun j f=>l j (b j f),m _ _ _ _ _ c fun j f=>iI (fun h=>h f),fun i o k row g d q=> ?_,a,fun j f=>l j (b j f)⟩
 unfold without at k
 split at k
 ·cases k
 ·rename_i hi;exact e i o (Classical.not_not.1 hi) k row g d q
theorem bEA {α:Type} [Inhabited α] {H:aA} {n id m:Nat} {e:α→List D1} {l:List α} {F:Nat→Prop} (a:H id=some ⟨n,m,l.map e⟩) (hm:l.length≤m) (b:F id):SlS n (byQ e) H (.osl n id 0 l.length l.length) l F:=by
 by_cases hl:l=[]
 ·exact .inl ⟨hl,n,id,0,by rw[hl];rfl⟩
 ·exact .inr ⟨id,m,l.length,rfl,bGS.2 hl,m5 _,hm,_,_,bE8 a b default⟩
end Go.AM
namespace Go.Proofs.YtdkfhdmagdaceaaGreat
open Go Go.AM
attribute [local irreducible] aM wv aB vd wvH
section
variable {H : aA} {nx : Nat} {K : D → aA → Nat → Prop}
theorem bDS:cJ Tryz.prog eO Tryz.f167 tD BL:=cJ.mk Tryz.func167 (by kernel_rfl) MI
theorem bAY {l:List Job} (k:aZT (e9 (2^21)) (2^21) l) (h: ∀H' a d F,nx≤a→SlS 5 bzL H' d l F→(∀j,F j→nx≤j∧j<a)→(∀j,j<nx→H' j=H j)→K (.one (.c d)) H' a):aB Tryz.prog eO [dS (l.map aS)] H nx K:=by
 have z:=k.1;refine bDS rfl fun Q A=> ?_;unfold tD;repeat' first| (first|apply bn1|refine z7 k.1 (fun B n=> ?_))<;>(simp only[go_sem])|fail
 refine aM.gP (β:=Nat) (fun u=>en [(10,boP u),(9,boP l.length),(8,boQ 5 (nx+4) l.length l.length),(3,boQ 5 (nx+4) l.length l.length)]) (fun u H1 bp0=>u≤l.length∧(∃f G,bD5 bzL H1 5 (nx+4) B (fun i=>aS (l.getD i default)) f G l u nx bp0)∧nx+4<bp0∧ ∀j,j<nx→H1 j=H j) (fun u=>l.length-u) 0 ⟨noF,_,by repeat' first|exact bo2|refine xqI rfl rfl ?_|refine xqO (by omega) rfl rfl (by rfl) ?_|fail,aK,bxY _,⟨_,_,bBK (by rw[bFM];exact aA.bH)⟩,by omega,fun j o=>by simp (disch:=omega) only[aA.aC]⟩ ?_;rintro u H1 b C ⟨hu,⟨f,G,boT⟩,p,e⟩ bpQ q;by_cases g:u<l.length
 ·obtain⟨x,r⟩: ∃x,l[u]?=some x:=⟨_,n1 g⟩
  have s:x∈l:=s3 r;have t:l.getD u default=x:=by simp[List.getD,r]
  have hm:x.rsp.data.length<2^21:=k.2 x s;have D:=boT.blk;have E: ∀f,(rng l.length f)[u]?=some (f u):=fun f=>by6 g;have bqH:f u=aS x:=(boT.zero u (m5 _)).trans (by rw[t]);have y:bQ b [nx+4]:=AM.apart (by simp<;>omega) (by simp<;>omega);simp only[bQ,eZ] at y;repeat' first| (first|apply bn1|refine kH hm (fun m v=> ?_))<;>(simp only[go_sem,D,E,bqH,y,aS,byN,byT,byL,byM,boC];try simp (disch:=omega) only[Iw])|apply bn2 (by omega)|refine⟨by omega,?_⟩|fail
  exact q _ _ _ (u+1) noF _ (by omega) (by omega) (by repeat' first|exact bo2|refine xqI rfl rfl ?_|refine xqO (by omega) rfl rfl (by rfl) ?_|fail) aK ⟨by omega,⟨_,_,boT.step (hi':=_) byI r (G':=fun j=>j=b+17) aA.bH ⟨_,rfl,bEA ((aA.aC (by omega)).trans aA.bH) v rfl⟩ (fun j h=>by omega) p (by omega) (by omega) fun j J I=>(aA.aC I).trans ((aA.aC (by omega)).trans (aA.aC (by omega)))⟩,by omega,fun j o=>(aA.aC (by omega)).trans ((aA.aC (by omega)).trans ((aA.aC (by omega)).trans (e j o)))⟩
 ·repeat' first|apply bn1<;>(simp only[go_sem])|apply bn3 (by omega)|fail
  have w:u=l.length:=by omega
  subst w;exact A _ _ _ _ _ (.inr rfl) rfl (h _ _ _ _ (by omega) (boT.done (by omega) (by omega) (m5 _) n (fun h=>by rw[h];rfl)) (fun j o=>by omega) e)
theorem bBH:cJ Tryz.prog iG Tryz.f75 kD pT:=cJ.mk Tryz.func75 (by kernel_rfl) A3
theorem bAG {s:TSt} (G:bcA (2^21) s) (h: ∀H' k r F,nx≤k→byV H' r s F→(∀j,F j→nx≤j∧j<k)→(∀j,j<nx→H' j=H j)→K (.one (.agg r)) H' k):aB Tryz.prog iG [boR (eSt s)] H nx K:=by
 obtain⟨⟨t,v⟩,x,y,z,A⟩:=G;refine bBH rfl fun Q I=> ?_;unfold kD;repeat' first| (first|apply bn1|refine qN (w:=s.words) (u:=s.holds) t v (fun m1 bp3 J L=> ?_)|refine kH (l:=s.asked) x (fun bqM M=> ?_)|refine bAY (l:=s.wait) y (fun o N bkS bF7 O bp8 d m=> ?_))<;>(simp only[go_sem,eSt,boC])|fail
 have n:o nx=some ⟨6,1,[eSt s]⟩:=(m nx (by omega)).trans (by simp (disch:=omega) only[aA.aC,aA.bH];try rfl);have B:o (nx+1)=some ⟨6,1,[[.osl 0 0 0 0 0,.osl 0 0 0 0 0,.osl 0 0 0 0 0,.osl 0 0 0 0 0,.osl 0 0 0 0 0,.osl 0 0 0 0 0]]⟩:=(m (nx+1) (by omega)).trans (by simp (disch:=omega) only[aA.aC,aA.bH]);have s1:SlS 1 (byQ aJ) o (.osl 1 (nx+19) 0 s.words.length s.words.length) s.words fun j=>j=nx+19:=bEA ((m _ (by omega)).trans (by simp (disch:=omega) only[aA.aC,aA.bH])) J rfl;have s2:SlS 1 (byQ aJ) o (.osl 1 (nx+20) 0 s.holds.length s.holds.length) s.holds fun j=>j=nx+20:=bEA ((m _ (by omega)).trans (by simp (disch:=omega) only[aA.aC,aA.bH])) L rfl;have bp7:SlS 1 (byQ aJ) o (.osl 1 (nx+21) 0 s.asked.length s.asked.length) s.asked fun j=>j=nx+21:=bEA ((m _ (by omega)).trans (by simp (disch:=omega) only[aA.aC,aA.bH])) M rfl;have C: ∀j,j<nx→o j=H j:=fun j a=>(m j (by omega)).trans (by simp (disch:=omega) only[aA.aC]);have e: ∀j,j=nx+19→nx+19≤j∧j<nx+20:=fun j h=>by omega
 have f: ∀j,j=nx+20→nx+20≤j∧j<nx+21:=fun j h=>by omega
 have g: ∀j,j=nx+21→nx+21≤j∧j<nx+22:=fun j h=>by omega
 clear m;(try simp only[go_sem,boC,n,eSt,false_implies,boC]);repeat' first| (first|apply bn1|refine bAY (l:=s.done) z (fun T P bk2 bF8 R bp9 i bpS=> ?_))<;>(simp only[go_sem,boC,n,eSt,false_implies,boC])|fail
 have p:=(bpS nx (by omega)).trans n;have D:=(bpS (nx+1) (by omega)).trans B;(try simp only[go_sem,boC,p,eSt,false_implies,boC]);repeat' first| (first|apply bn1|refine bAY (l:=s.told) A (fun bqL E bk3 bF9 S aIE bkU bpT=> ?_))<;>(simp only[go_sem,boC,p,eSt,false_implies,boC])|fail
 have q:=(bpT (nx+1) (by omega)).trans D;replace s1:=s1.frame bp1 fun j a=>bpS j (by have:=e j a;omega);replace s2:=s2.frame bp1 fun j a=>bpS j (by have:=f j a;omega);replace bp7:=bp7.frame bp1 fun j a=>bpS j (by have:=g j a;omega);replace bp8:=bp8.frame byI fun j a=>bpS j (by have:=d j a;omega);(try simp only[go_sem,boC,q,false_implies,boC]);repeat' first|apply bn1<;>(simp only[go_sem,boC,q,false_implies,boC])|fail
 exact I _ _ _ _ _ (.inr rfl) (bBC rfl aA.bH rfl) (h _ _ _ (fun j=>nx+19≤j∧j<E) (by omega) ⟨_,_,_,_,_,_,_,_,_,_,_,_,rfl,⟨(s1.frame bp1 fun j a=>(aA.aC (by have:=e j a;omega)).trans (bpT j (by have:=e j a;omega))),(s2.frame bp1 fun j a=>(aA.aC (by have:=f j a;omega)).trans (bpT j (by have:=f j a;omega))),(bp7.frame bp1 fun j a=>(aA.aC (by have:=g j a;omega)).trans (bpT j (by have:=g j a;omega))),(bp8.frame byI fun j a=>(aA.aC (by have:=d j a;omega)).trans (bpT j (by have:=d j a;omega))),(bp9.frame byI fun j a=>(aA.aC (by have:=i j a;omega)).trans (bpT j (by have:=i j a;omega))),(aIE.frame byI fun j a=>aA.aC (by have:=bkU j a;omega)),fun j a=>by have:=e j a;omega,fun j a=>by have:=f j a;omega,fun j a=>by have:=g j a;omega,fun j a=>by have:=d j a;omega,fun j a=>by have:=i j a;omega,fun j a=>by have:=bkU j a;omega,fun j b c=>by have az9:=e j b;have az2:=f j c;omega,fun j b c=>by have az9:=e j b;have az2:=g j c;omega,fun j b c=>by have az9:=e j b;have az2:=d j c;omega,fun j b c=>by have az9:=e j b;have az2:=i j c;omega,fun j b c=>by have az9:=e j b;have az2:=bkU j c;omega,fun j b c=>by have az9:=f j b;have az2:=g j c;omega,fun j b c=>by have az9:=f j b;have az2:=d j c;omega,fun j b c=>by have az9:=f j b;have az2:=i j c;omega,fun j b c=>by have az9:=f j b;have az2:=bkU j c;omega,fun j b c=>by have az9:=g j b;have az2:=d j c;omega,fun j b c=>by have az9:=g j b;have az2:=i j c;omega,fun j b c=>by have az9:=g j b;have az2:=bkU j c;omega,fun j b c=>by have az9:=d j b;have az2:=i j c;omega,fun j b c=>by have az9:=d j b;have az2:=bkU j c;omega,fun j b c=>by have az9:=i j b;have az2:=bkU j c;omega⟩⟩ (fun j a=>by omega) fun j a=>(aA.aC (by omega)).trans ((bpT j (by omega)).trans ((bpS j (by omega)).trans (C j a))))
end
end Go.Proofs.YtdkfhdmagdaceaaGreat
