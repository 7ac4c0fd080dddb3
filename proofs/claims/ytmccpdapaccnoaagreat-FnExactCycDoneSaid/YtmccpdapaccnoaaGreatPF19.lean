/- Texts laid together by a program: rules, contracts and the walk that leads to the law. -/
import Derived.Test.YtmccpdapaccnoaaGreatPF16
set_option linter.unusedVariables false
set_option linter.unusedSimpArgs false
set_option linter.unusedSectionVars false
namespace Go.AM
def szN (left:Int) (n:Nat):Int:=if left-n<0 then-1 else left-n
def szT (a:Int) (f:Int→Int):Int:=if a<0 then-1 else f a
def szF {α:Type} (f:Int→α→Int):Int→List α→Int
 |a,[]=>a
 |a,x::l=>if f a x<0 then-1 else szF f (f a x) l
def szS {α:Type} (f:Int→α→Int) (a:Int) (l:List α):Int:=szT (szN a l.length) fun a=>szF f a l
def SzR {α:Type} (f:Int→α→Int):Prop:=∀a x,0≤a→f a x= -1∨(0≤f a x∧f a x≤a)
theorem aZM (a:Int) (n:Nat):szN a n= -1∨(0≤szN a n∧szN a n≤a):=by unfold szN;split<;>omega
theorem a6C {a left:Int} {f:Int→Int} (h1:a= -1∨(0≤a∧a≤left)) (h2:0≤a→f a= -1∨(0≤f a∧f a≤a)):szT a f= -1∨(0≤szT a f∧szT a f≤left):=by
 unfold szT
 split
 ·exact .inl rfl
 ·have:=h2 (by omega);omega
theorem bfA {α:Type} {f:Int→α→Int} (hf:SzR f): ∀(l:List α) (a:Int),0≤a→szF f a l= -1∨(0≤szF f a l∧szF f a l≤a)
 | [],a,h=>by simp only[szF];omega
 |x::l,a,h=>by
  simp only[szF]
  split
  ·exact .inl rfl
  ·have h1:=hf a x h
   have h2:=bfA hf l (f a x) (by omega)
   omega
theorem a4Q {α:Type} {f:Int→α→Int} (hf:SzR f) (a:Int) (l:List α):szS f a l= -1∨(0≤szS f a l∧szS f a l≤a):=a6C (aZM _ _) fun h=>bfA hf l _ h
theorem bfN {α:Type} {f:Int→α→Int} (hf:SzR f):SzR (szS f):=fun a l _=>a4Q hf a l
theorem a18 {a:Int} {n:Nat} (h:0≤szN a n) (ha:a≤2^20):n<2^21:=by unfold szN at h;split at h<;>omega
theorem a29 {a:Int} {f:Int→Int} (h:0≤szT a f):0≤a∧0≤f a:=by
 unfold szT at h
 split at h
 ·omega
 ·exact⟨by omega,h⟩
def SzF {α:Type} (f:Int→α→Int) (P:α→Prop):Prop:=∀a x,0≤a→a≤2^20→0≤f a x→P x
theorem beS {α:Type} {f:Int→α→Int} {P:α→Prop} (hr:SzR f) (hf:SzF f P): ∀(l:List α) (a:Int),0≤a→a≤2^20→0≤szF f a l→∀x∈l,P x
 | [],_,_,_,_=>fun x hx=>by simp at hx
 |x::l,a,h0,h1,h2=>by
  simp only[szF] at h2
  split at h2
  ·omega
  ·have h3:=hr a x h0
   intro y hy
   rcases List.mem_cons.1 hy with rfl|hy
   ·exact hf a y h0 h1 (by omega)
   ·exact beS hr hf l (f a x) (by omega) (by omega) h2 y hy
def aZT {α:Type} (P:α→Prop) (N:Nat) (l:List α):Prop:=l.length<N∧ ∀x∈l,P x
theorem a5T {α:Type} {f:Int→α→Int} {P:α→Prop} (hr:SzR f) (hf:SzF f P) {a:Int} {l:List α} (ha:a≤2^20) (h:0≤szS f a l):aZT P (2^21) l:=by
 obtain⟨h1,h2⟩:=a29 h
 have h3:=aZM a l.length
 exact⟨a18 h1 ha,beS hr hf l _ h1 (by omega) h2⟩
theorem a87 {α:Type} {f:Int→α→Int} {a:Int} {l:List α} {k:Nat} (hk: ¬k<l.length):szF f a (l.drop k)=a:=by rw[List.drop_of_length_le (by omega)];rfl
theorem a5L {α:Type} [Inhabited α] {f:Int→α→Int} {a:Int} {l:List α} {k:Nat} (hk:k<l.length):szF f a (l.drop k)=if f a (l.getD k default)<0 then-1 else szF f (f a (l.getD k default)) (l.drop (k+1)):=by
 rw[List.drop_eq_getElem_cons hk]
 simp[szF,List.getD,hk]
def a3S (a:Int) (w h:List Int):Int:=szT (szN a w.length) fun a=>szN a h.length
theorem beG (a:Int) (w h:List Int):a3S a w h= -1∨(0≤a3S a w h∧a3S a w h≤a):=a6C (aZM _ _) fun _=>aZM _ _
theorem beX {a:Int} {w h:List Int} (ha:a≤2^20) (h0:0≤a3S a w h):w.length<2^21∧h.length<2^21:=by
 obtain⟨h1,h2⟩:=a29 h0
 have h3:=aZM a w.length
 exact⟨a18 h1 ha,a18 h2 (by omega)⟩
def aZU (a:Int) (x:Req):Int:=szT (szN a x.data.length) fun a=>szN a x.g6.length
theorem a6Y:SzR aZU:=fun _ _ _=>a6C (aZM _ _) fun _=>aZM _ _
def w3 (N:Nat) (x:Req):Prop:=x.data.length<N∧x.g6.length<N
theorem beH:SzF aZU (w3 (2^21)):=fun a x h0 h1 h2=>by
 unfold aZU at h2
 obtain⟨p0,h2⟩:=a29 h2
 have q0:=a18 p0 (by omega)
 have r0:=aZM a x.data.length
 generalize szN a x.data.length=b0 at*
 have q1:=a18 h2 (by omega)
 exact⟨q0,q1⟩
def w4 (a:Int) (l:List Req):Int:=szS aZU a l
theorem a3N:SzR w4:=bfN a6Y
def aZ7 (N:Nat) (l:List Req):Prop:=aZT (w3 N) N l
theorem bdN:SzF w4 (aZ7 (2^21)):=fun a x h0 h1 h2=>a5T a6Y beH h1 h2
def aZ9 (a:Int) (x:Cfg):Int:=szT (szN a x.map.length) fun a=>szT (szN a x.lat.length) fun a=>szS w4 a x.cP
theorem beN:SzR aZ9:=fun _ _ _=>a6C (aZM _ _) fun _=>a6C (aZM _ _) fun _=>a4Q a3N _ _
def aZW (N:Nat) (x:Cfg):Prop:=x.map.length<N∧x.lat.length<N∧aZT (aZ7 N) N x.cP
theorem beC:SzF aZ9 (aZW (2^21)):=fun a x h0 h1 h2=>by
 unfold aZ9 at h2
 obtain⟨p0,h2⟩:=a29 h2
 have q0:=a18 p0 (by omega)
 have r0:=aZM a x.map.length
 generalize szN a x.map.length=b0 at*
 obtain⟨p1,h2⟩:=a29 h2
 have q1:=a18 p1 (by omega)
 have r1:=aZM b0 x.lat.length
 generalize szN b0 x.lat.length=b1 at*
 have q2:=a5T a3N bdN (by omega) h2
 exact⟨q0,q1,q2⟩
def d5 (a:Int) (x:fR):Int:=szT (szN a x.queue.length) fun a=>szN a x.out.length
theorem a3A:SzR d5:=fun _ _ _=>a6C (aZM _ _) fun _=>aZM _ _
def f9 (N:Nat) (x:fR):Prop:=x.queue.length<N∧x.out.length<N
theorem bd5:SzF d5 (f9 (2^21)):=fun a x h0 h1 h2=>by
 unfold d5 at h2
 obtain⟨p0,h2⟩:=a29 h2
 have q0:=a18 p0 (by omega)
 have r0:=aZM a x.queue.length
 generalize szN a x.queue.length=b0 at*
 have q1:=a18 h2 (by omega)
 exact⟨q0,q1⟩
def a3W (a:Int) (x:Rsp):Int:=szN a x.data.length
theorem bdM:SzR a3W:=fun _ _ _=>aZM _ _
def aZV (N:Nat) (x:Rsp):Prop:=x.data.length<N
theorem beD:SzF a3W (aZV (2^21)):=fun a x h0 h1 h2=>by
 unfold a3W at h2
 have q0:=a18 h2 (by omega)
 exact q0
def KJ (a:Int) (x:Job):Int:=a3W a x.rsp
theorem a1P:SzR KJ:=fun _ _ _=>bdM _ _ (by assumption)
def e9 (N:Nat) (x:Job):Prop:=aZV N x.rsp
theorem a9L:SzF KJ (e9 (2^21)):=fun a x h0 h1 h2=>by
 unfold KJ at h2
 have q0:=beD _ _ (by omega) (by omega) h2
 exact q0
def d4 (a:Int) (x:nY):Int:=szT (szN a x.pipe.length) fun a=>szS KJ a x.done
theorem a2H:SzR d4:=fun _ _ _=>a6C (aZM _ _) fun _=>a4Q a1P _ _
def dP (N:Nat) (x:nY):Prop:=x.pipe.length<N∧aZT (e9 N) N x.done
theorem bdI:SzF d4 (dP (2^21)):=fun a x h0 h1 h2=>by
 unfold d4 at h2
 obtain⟨p0,h2⟩:=a29 h2
 have q0:=a18 p0 (by omega)
 have r0:=aZM a x.pipe.length
 generalize szN a x.pipe.length=b0 at*
 have q1:=a5T a1P a9L (by omega) h2
 exact⟨q0,q1⟩
def a1W (a:Int) (x:CSt):Int:=szT (a3S a x.words x.holds) fun a=>szT (szS d5 a x.bM) fun a=>szT (szS d4 a x.dD) fun a=>szS KJ a x.told
theorem beF:SzR a1W:=fun _ _ _=>a6C (beG _ _ _) fun _=>a6C (a4Q a3A _ _) fun _=>a6C (a4Q a2H _ _) fun _=>a4Q a1P _ _
def w5 (N:Nat) (x:CSt):Prop:=(x.words.length<N∧x.holds.length<N)∧aZT (f9 N) N x.bM∧aZT (dP N) N x.dD∧aZT (e9 N) N x.told
theorem bdJ:SzF a1W (w5 (2^21)):=fun a x h0 h1 h2=>by
 unfold a1W at h2
 obtain⟨p0,h2⟩:=a29 h2
 have q0:=beX (by omega) p0
 have r0:=beG a x.words x.holds
 generalize a3S a x.words x.holds=b0 at*
 obtain⟨p1,h2⟩:=a29 h2
 have q1:=a5T a3A bd5 (by omega) p1
 have r1:=a4Q a3A b0 x.bM
 generalize szS d5 b0 x.bM=b1 at*
 obtain⟨p2,h2⟩:=a29 h2
 have q2:=a5T a2H bdI (by omega) p2
 have r2:=a4Q a2H b1 x.dD
 generalize szS d4 b1 x.dD=b2 at*
 have q3:=a5T a1P a9L (by omega) h2
 exact⟨q0,q1,q2,q3⟩
def bcA (N:Nat) (x:TSt):Prop:=(x.words.length<N∧x.holds.length<N)∧x.asked.length<N∧aZT (e9 N) N x.wait∧aZT (e9 N) N x.done∧aZT (e9 N) N x.told
theorem aZW.fit {c:Cfg} (h:aZW (2^21) c):jO c:=by
 obtain⟨h1,h2,h3,h4⟩:=h
 exact⟨by omega,by omega,by omega,fun p hp=>by have:=(h4 p hp).1;omega,fun p hp q hq=>by have:=(h4 p hp).2 q hq;unfold w3 at this;omega⟩
def a2F {α:Type} (enc:α→List D1) (z:List D1) (l:List α) (k:Nat):List (List D1):=(l.take k).map enc++List.replicate (l.length-k) z
theorem a14 {α:Type} {enc:α→List D1} {z:List D1} {l:List α} {k:Nat} (hk:k≤l.length):(a2F enc z l k).length=l.length:=by
 unfold a2F;simp;omega
theorem a15 {α:Type} [Inhabited α] {enc:α→List D1} {z:List D1} {l:List α} {k:Nat} (hk:k<l.length):(a2F enc z l k).set k (enc (l.getD k default))=a2F enc z l (k+1):=by
 unfold a2F
 have h1:((l.take k).map enc).length=k:=by simp;omega
 rw[List.set_append_right _ _ (by omega),h1,Nat.sub_self,nK hk,List.map_append,List.append_assoc]
 congr 1
 rw[show l.length-k=(l.length-(k+1))+1 by omega,List.replicate_succ]
 rfl
theorem a3C {α:Type} {enc:α→List D1} {z:List D1} {l:List α} {k:Nat} (hk:k<l.length):(a2F enc z l k)[k]?=some z:=by
 unfold a2F
 have h1:((l.take k).map enc).length=k:=by simp;omega
 rw[List.getElem?_append_right (by omega),h1,Nat.sub_self,List.getElem?_replicate,if_pos (by omega)]
theorem a16 {α:Type} {enc:α→List D1} {z:List D1} {l:List α}:a2F enc z l l.length=l.map enc:=by
 unfold a2F;simp
theorem a0R {α:Type} {enc:α→List D1} {z:List D1} {l:List α}:a2F enc z l 0=List.replicate l.length z:=by
 unfold a2F;simp
end Go.AM
