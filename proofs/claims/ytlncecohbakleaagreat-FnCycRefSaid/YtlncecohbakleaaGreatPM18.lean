/- Rules and contracts. -/
import Derived.Test.YtlncecohbakleaaGreatPM13
import Derived.Test.YtlncecohbakleaaGreatPM15
import Derived.Test.YtlncecohbakleaaGreatPM14
set_option linter.unusedVariables false
set_option linter.unusedSimpArgs false
set_option maxRecDepth 100000
set_option maxHeartbeats 8000000
namespace Go.AM
structure zJ(s:CSt):Prop where
 pl:s.bJ.length=3
 sl:s.bR.length<=4
 q: ∀k,k<3->(aN s k).queue.length<=3
 v: ∀k,k<s.bR.length->(aU s k).pipe.length<=3/\(aU s k).done.length<=3
 wl:(m7 s).length<20
 dl:(pH s).length<20
 st:Dh (dN s)
noncomputable def cyB(c:Cfg)(s:CSt):Bool:=@decide (bG c/\COk c s) (Classical.propDecidable _)
variable{c:Cfg}{s:CSt}
theorem Xu(a:bG c)(h:COk c s):cyB c s=true:=by simp[cyB,h,a]
theorem Io(h: ¬(bG c/\COk c s)):cyB c s=false:=by simp[cyB,h]
theorem YV:cyB c s=true↔bG c/\COk c s:=by simp[cyB]
structure I0(s:CSt):Prop where
 w:s.words.length<2^21
 h:s.holds.length<2^21
 t:s.told.length<2^21
 td: ∀j∈s.told,j.rsp.data.length<2^21
 pl:s.bJ.length<2^21
 sl:s.bR.length<2^21
 port: ∀k,(aN s k).queue.length<2^21/\(aN s k).out.length<2^21
 slv: ∀k,(aU s k).pipe.length<2^21/\(aU s k).done.length<2^21/\ ∀j∈(aU s k).done,j.rsp.data.length<2^21
theorem Gf(b:I0 s)(c:s.bJ.length=3)(d:s.bR.length<=4)(e: ∀k,k<3->(aN s k).queue.length<=3)(f: ∀k,k<s.bR.length->(aU s k).pipe.length<=3/\(aU s k).done.length<=3)(hw:(m7 s).length<20)(g:(pH s).length<20):zJ s:=by
 refine⟨c,d,e,f,hw,g,⟨b.w,b.h,by simpa [dN] using b.pl,?_,?_,b.t,fun j a=> ?_⟩⟩;·show (dG (m7 s)).length<_;rw[(i7 _).length_eq];omega
 ·show (dG (pH s)).length<_;rw[(i7 _).length_eq];omega
 ·have a:j∈dG (m7 s)++dG (pH s)++s.told:=a;simp only[adD,F6] at a;rcases a with(a|a)|a
  ·rcases PG.1 a with⟨k,_,m,_,rfl⟩|⟨k,_,m,_,rfl⟩
   ·exact(by decide:([]:List Int).length<2^21)
   ·exact(by decide:([]:List Int).length<2^21)
  ·obtain⟨k,_,h⟩:=O5.1 a;exact(b.slv k).2.2 j h
  ·exact b.td j a
theorem Al{a b:Nat}(c:s.bJ.length=3)(e:s.bR.length<=4)(g: ∀k,k<3->(aN s k).queue.length<=a)(h: ∀k,k<s.bR.length->(aU s k).pipe.length<=b):(m7 s).length<=a*3+b*4:=by
 unfold m7;rw[ac7];have i:=xI (f:=hZ s) (m:=a) s.bJ.length fun k d=>by rw[c] at d;simpa [hZ] using g k d
 have j:=xI (f:=fK s) (m:=b) s.bR.length fun k d=>by simpa [fK] using h k d
 rw[c] at i;have l:=Nat.mul_le_mul_left b e;rw[c];omega
theorem ek{b:Nat}(a:s.bR.length<=4)(c: ∀k,k<s.bR.length->(aU s k).done.length<=b):(pH s).length<=b*4:=by unfold pH;have e:=xI (f:=fun k=>(aU s k).done) (m:=b) s.bR.length fun k d=>c k d;have g:=Nat.mul_le_mul_left b a;omega
theorem tz(g:I0 s)(hp:BK c s)(h:s.bR.length=4)(b: ∀k,k<4->p9 c s k):zJ s:=by have d: ∀k,k<3->(aN s k).queue.length<=2:=fun k a=>(hp.port k a).ql.1;have e: ∀k,k<s.bR.length->(aU s k).pipe.length<=2:=fun k a=>(b k (by omega)).pl;have f: ∀k,k<s.bR.length->(aU s k).done.length<=2:=fun k a=>(b k (by omega)).dl;have i:=Al hp.pl (by omega) d e;have j:=ek (by omega) f;exact Gf g hp.pl (by omega) (fun k a=>by have:=d k a;omega) (fun k a=>⟨by have:=e k a;omega,by have:=f k a;omega⟩) (by omega) (by omega)
structure Nm(c:Cfg)(who:Nat)(p:fF)(k:Nat):Prop where
 all: ∀i,i<k->NZ c who p (p.out.getD i default)
 srt: ∀i j,i<j->j<k->(p.out.getD i default).n<(p.out.getD j default).n
 ids: ∀i j,i<j->j<k->(bF c who (p.out.getD i default).n).id=(bF c who (p.out.getD j default).n).id->(p.out.getD i default).left=(p.out.getD j default).left
theorem Nm.next{who:Nat}{p:fF}{k:Nat}(h:Nm c who p k)(d:NZ c who p (p.out.getD k default))(e:0<k->(p.out.getD (k-1) default).n<(p.out.getD k default).n)
 (f: ∀i,i<k->(bF c who (p.out.getD i default).n).id=(bF c who (p.out.getD k default).n).id->(p.out.getD i default).left=(p.out.getD k default).left):Nm c who p (k+1):=by
 refine⟨bT h.all d,fun i j a g=> ?_,fun i j a g he=> ?_⟩
 ·by_cases b:j<k;·exact h.srt i j a b
  ·obtain rfl:j=k:=by omega
   have l:=e (by omega);by_cases hi:i=j-1;·subst hi;omega
   ·have:=h.srt i (j-1) (by omega) (by omega);omega
 ·by_cases b:j<k;·exact h.ids i j a b he
  ·obtain rfl:j=k:=by omega
   exact f i a he
theorem Nm.end{who:Nat}{p:fF}(h:Nm c who p p.out.length):(∀j∈p.out,NZ c who p j)/\(p.out.Pairwise fun a b=>a.n<b.n)/\ ∀a∈p.out,∀b∈p.out,(bF c who a.n).id=(bF c who b.n).id->a.left=b.left:=by
 have f: ∀i (hi:i<p.out.length),p.out.getD i default=p.out[i]:=fun i hi=>by simp[List.getD,hi]
 refine⟨fun j e=> ?_,adZ.2 fun i j hi e d=> ?_,fun a g b k he=> ?_⟩;·obtain⟨i,hi,rfl⟩:=adS.1 e;rw[<-f i hi];exact h.all i hi
 ·rw[<-f i hi,<-f j e];exact h.srt i j d e
 ·obtain⟨i,hi,rfl⟩:=adS.1 g;obtain⟨j,e,rfl⟩:=adS.1 k;rw[<-f i hi,<-f j e] at he ⊢;rcases Nat.lt_trichotomy i j with d|d|d;·exact h.ids i j d e he
  ·subst d;rfl
  ·exact(h.ids j i d hi he.symm).symm
def zM(s:CSt)(who n:Int)(st:Nat):Prop:=(0<=who/\who<=2)/\ ∃j∈(aN s who.toNat).out,j.n=n/\j.left=st
noncomputable def oaB(s:CSt)(who n:Int)(st:Nat):Bool:=@decide (zM s who n st) (Classical.propDecidable _)
theorem Qk{who n:Int}{st:Nat}(h:zM s who n st):oaB s who n st=true:=by simp[oaB,h]
theorem Hp{who n:Int}{st:Nat}(h: ¬zM s who n st):oaB s who n st=false:=by simp[oaB,h]
theorem zM.asks{c:Cfg}{s:CSt}{st:Nat}{who n:Int}(hp:BK c s)(h:zM s who n st):kL c who n:=by obtain⟨hw,j,b,d,_⟩:=h;have a:=hp.port who.toNat (by omega);obtain⟨_,e,_⟩:=a.out _ b;have:=a.asks (n:=n) (by omega) (by omega) (by omega);rwa [show ((who.toNat:Nat):Int)=who by omega] at this
def T0(x:Int×Int):Job:=⟨x.1,x.2,iL⟩
theorem abW{G:aA}{x2 cap nx':Nat}{W:List Job}{k n:Int}(a:G x2=some ⟨5,cap,W.map aL++[[cI k,cI n,cI 0,cI 0,.osl 0 0 0 0 0]]⟩):CvX noF nx' G (G.set x2 ⟨5,cap,(W++[(⟨k,n,iL⟩:Job)]).map aL⟩):=HF (i:=x2) (o':=⟨5,cap,(W++[(⟨k,n,iL⟩:Job)]).map aL⟩) a (jb (R:=W.map aL) (r':=aL (⟨k,n,iL⟩:Job)) (by rw[adF];rfl) rfl (fun r hr=>(aG bC _ r hr).2) rfl (aH (bE rfl) (aH (bE rfl) (aH (bE rfl) (aH (bE rfl) (aH (.frz (.nil ..)) cG))))))
end Go.AM
namespace Go.Proofs.YtlncecohbakleaaGreat
open Go Go.AM
attribute [local irreducible] aK wv aC vd wvH
section
variable{H:aA}{nx:Nat}{K:ag2}
theorem JT(s:TSt)(hs:Dh s):ag1 cS [dA (eSt s)] (hp []) 0
 fun r H' n'=>∃m0 m1 a b c d,(s.words.length<=m0/\s.holds.length<=m1/\s.asked.length<=a/\s.wait.length<=b/\s.done.length<=c/\s.told.length<=d)/\n'=6/\H'=hp [(0,⟨1,m0,s.words.map aF⟩),(1,⟨1,m1,s.holds.map aF⟩),(2,⟨1,a,s.asked.map aF⟩),(3,⟨5,b,s.wait.map aL⟩),(4,⟨5,c,s.done.map aL⟩),(5,⟨5,d,s.told.map aL⟩)]/\
  r=dA (oIm 0 1 2 3 4 5 s.words.length s.holds.length s.asked.length s.wait.length s.done.length s.told.length s):=by
 obtain⟨o,p,q,t,v,x,f⟩:=hs
 refine uZ rfl fun Q y=> ?_
 unfold iC
 repeat' first| (first|apply vI|refine nU (w:=s.words) (u:=s.holds) (by omega) (by omega) (fun m0 m1 g h=> ?_)|refine kN (l:=s.asked) (by omega) (fun a i=> ?_)|refine iT (l:=s.wait) (by omega) (fun j e=>f j (by simp[e])) (fun b k=> ?_)|refine iT (l:=s.done) (by omega) (fun j e=>f j (by simp[e])) (fun c m=> ?_)|refine iT (l:=s.told) (by omega) (fun j e=>f j (by simp[e])) (fun d n=> ?_))<;>(simp only[go_sem])|fail
 (refine y _ _ _ _ _ 6 (dA (oIm 0 1 2 3 4 5 s.words.length s.holds.length s.asked.length s.wait.length s.done.length s.told.length s)) (hp [(0,⟨1,m0,s.words.map aF⟩),(1,⟨1,m1,s.holds.map aF⟩),(2,⟨1,a,s.asked.map aF⟩),(3,⟨5,b,s.wait.map aL⟩),(4,⟨5,c,s.done.map aL⟩),(5,⟨5,d,s.told.map aL⟩)]) _ _ (.inr rfl) rfl (fT [19,20,21,22,23,24] (by omega) (by repeat' first|exact C1| ((with_reducible apply C0);exact CQ (by omega) rfl rfl (by rfl) rfl)| ((with_reducible apply D0);apply C9)|exact C3|apply C4|fail) ⟨⟨by simp,by simp[sgL],_,rfl,aY (aG aP _) rfl rfl⟩,⟨by simp,by simp[sgL],_,rfl,aY (aG aP _) rfl rfl⟩,⟨by simp,by simp[sgL],_,rfl,aY (aG aP _) rfl rfl⟩,⟨by simp,by simp[sgL],_,rfl,aY (aG bC _) rfl rfl⟩,⟨by simp,by simp[sgL],_,rfl,aY (aG bC _) rfl rfl⟩,⟨by simp,by simp[sgL],_,rfl,aY (aG bC _) rfl rfl⟩,trivial⟩ (by simp[sgL])) ?_)
 exact⟨m0,m1,a,b,c,d,⟨g,h,i,k,m,n⟩,rfl,rfl,rfl⟩
theorem I4{s:TSt}(hs:Dh s)(h: ∀m0 m1 a b c d,(s.words.length<=m0/\s.holds.length<=m1/\s.asked.length<=a/\s.wait.length<=b/\s.done.length<=c/\s.told.length<=d)->K (dA (oIm nx (nx+1) (nx+2) (nx+3) (nx+4) (nx+5) s.words.length s.holds.length s.asked.length s.wait.length s.done.length s.told.length s)) ((((((H.set nx ⟨1,m0,s.words.map aF⟩).set (nx+1) ⟨1,m1,s.holds.map aF⟩).set (nx+2) ⟨1,a,s.asked.map aF⟩).set (nx+3) ⟨5,b,s.wait.map aL⟩).set (nx+4) ⟨5,c,s.done.map aL⟩).set (nx+5) ⟨5,d,s.told.map aL⟩) (nx+6)):
 ag1 cS [dA (eSt s)] H nx K:=by
 refine(JT s hs).DD (l0:=[]) [] rfl ⟨aE rfl,trivial⟩ trivial (by simp) (by simp) (by simp) fun r H' n' _ ⟨m0,m1,a,b,c,d,e,f,g,i⟩=> ?_
 have h:=h m0 m1 a b c d e
 subst f;subst g;subst i
 have j:back (tau 0 nx (nth [])) (hp [(0,⟨1,m0,s.words.map aF⟩),(1,⟨1,m1,s.holds.map aF⟩),(2,⟨1,a,s.asked.map aF⟩),(3,⟨5,b,s.wait.map aL⟩),(4,⟨5,c,s.done.map aL⟩),(5,⟨5,d,s.told.map aL⟩)]) 6 H=((((((H.set nx ⟨1,m0,s.words.map aF⟩).set (nx+1) ⟨1,m1,s.holds.map aF⟩).set (nx+2) ⟨1,a,s.asked.map aF⟩).set (nx+3) ⟨5,b,s.wait.map aL⟩).set (nx+4) ⟨5,c,s.done.map aL⟩).set (nx+5) ⟨5,d,s.told.map aL⟩):=by simp[back,hp,aA.set,aA.nil,tau,nth,nN,sV,aA.fI,aA.wR]
 rw[<-j] at h
 exact h
theorem FQ{s:CSt}(hs:zJ s)(h: ∀H' nx',nx<=nx'->(∀id,id<nx->H' id=H id)->K (dA (eSt (dN s))) H' nx'):ag1 sY [dA (dX s)] H nx K:=by
 have da:=hs.pl;have dm:=hs.sl;obtain⟨N,hN⟩: ∃N,N=s.bR.length:=⟨_,rfl⟩
 rw[<-hN] at dm;apply aC.qC;refine bW.mk Tryz.func51 (by kernel_rfl) gv rfl fun Q hQ=> ?_;unfold yG;repeat' first|apply vI<;>(simp only[go_sem,nL,da])|fail
 apply aK.oB 1;apply aK.oB 5;apply aK.oB 5;refine aK.qC _ _ noF (fun t=>.inl rfl) (HF (i:=nx+7) (o:=⟨6,1,[[.isl (s.words.map aF),.isl (s.holds.map aF),.osl 0 0 0 0 0,.osl 0 0 0 0 0,.osl 0 0 0 0 0,.isl (s.told.map aL)]]⟩) (o':=⟨6,1,[[.isl (s.words.map aF),.isl (s.holds.map aF),.osl 1 (nx+13) 0 0 0,.osl 5 (nx+14) 0 0 0,.osl 5 (nx+15) 0 0 0,.isl (s.told.map aL)]]⟩) (by simp only[aA.set,ac2,ac4,Nat.reduceEqDiff,Nat.reduceAdd,if_false,if_true]) (aW (aH (bE rfl) (aH (bE rfl) (aH (.GO ..) (aH (.GO ..) (aH (.GO ..) (aH (bE rfl) cG)))))))) ?_;refine aK.QK fun G0 X=> ?_;have c0:G0 nx=some ⟨5,1,[dX s]⟩:=by rw[X];simp only[aA.set,ac2,ac4,Nat.reduceEqDiff,Nat.reduceAdd,ac3,if_false,if_true]
 have c1:G0 (nx+1)=some ⟨6,1,[[.osl 0 0 0 0 0,.osl 0 0 0 0 0,.osl 0 0 0 0 0,.osl 0 0 0 0 0,.osl 0 0 0 0 0,.osl 0 0 0 0 0]]⟩:=by rw[X];simp only[aA.set,ac2,ac4,Nat.reduceEqDiff,Nat.reduceAdd,ac3,if_false,if_true]
 have cA:P4 G0 (nx+13) (nx+16) (nx+7) s [] [] []:=by refine⟨nx+13,nx+14,nx+15,0,0,0,0,0,0,?_,⟨?_,by simp,by simp⟩,⟨?_,by simp,by simp⟩,⟨?_,by simp,by simp⟩,by omega,by omega,by omega,by omega⟩<;>rw[X]<;>simp only[aA.set,ac2,ac4,Nat.reduceEqDiff,Nat.reduceAdd,ac3,if_false,if_true]<;>rfl
 have ds: ∀id,id<nx->G0 id=H id:=fun id T=>by rw[X];simp only[aA.set,ac2,show ¬id=nx by omega,show ¬id=nx+1 by omega,show ¬id=nx+7 by omega,show ¬id=nx+13 by omega,show ¬id=nx+(13+1) by omega,show ¬id=nx+(13+(1+1)) by omega,Nat.reduceAdd,show ¬id=nx+14 by omega,show ¬id=nx+15 by omega,if_false]
 clear X
 refine aK.cW (β:=Nat) (fun k=>en [(20,dI k),(19,dI 3),(18,dS (s.bJ.map dK)),(3,.one (.c (.ptr 6 (nx+7) 0 0))),(2,.one (.c (.ptr 6 (nx+1) 0 0))),(1,.one (.c (.ptr 5 nx 0 0)))])
  (fun k H1 U=>k<=3/\P4 H1 (nx+13) U (nx+7) s ((s.bJ.take k).map (·.next)) ((List.range k).flatMap (hZ s)) []/\ ∀id,id<nx+13->id≠nx+7->H1 id=G0 id)
  (fun k=>3-k) 0 ⟨noF,_,by repeat' first|exact C1|refine xqI rfl rfl ?_|refine xqP (by omega) rfl rfl ?_|fail,aI,by omega,cA,fun _ _ _=>rfl⟩ ?_
 rintro k H1 U fp ⟨hk,d,e⟩ KL dv;have g0:H1 nx=some ⟨5,1,[dX s]⟩:=by rw[e _ (by omega) (by omega)];exact c0
 obtain⟨A,cc⟩: ∃A,A=(s.bJ.take k).map (·.next):=⟨_,rfl⟩
 obtain⟨W,cf⟩: ∃W,W=(List.range k).flatMap (hZ s):=⟨_,rfl⟩
 have fs:A.length=k:=by rw[cc];simp;omega
 have dc: ∀k,k<3->(hZ s k).length<=3:=fun k hk=>by have:=hs.q k hk;simpa [hZ] using this
 have fx:W.length<=3*k:=by rw[cf];exact xI k fun j hj=>dc j (by omega)
 rw[<-cc,<-cf] at d;obtain⟨B,C,id_,ca,cw,cd,ma,mw,md,J,⟨r,a2,a3⟩,⟨x,a5,a6⟩,⟨u,a8,a9⟩,aa,V,ac,O⟩:=d;have P:aT U [nx,nx+1,nx+7,B,C,id_]:=AM.apart (by simp;omega) (by simp;omega);simp only[aT,bM] at P;by_cases ck:k<3
 ·obtain⟨p,Y⟩: ∃p,p=aN s k:=⟨_,rfl⟩
  have aj:s.bJ.getD k default=p:=Y.symm;have dx:=hs.q k ck;rw[<-Y] at dx;repeat' first|apply vI<;>(simp only[go_sem,nL,aj,J,r,x,u,P,List.set])|apply vT (by omega)| (with_reducible first|refine fun(cap:Nat) (E:_<=cap)=> ?_|refine fun(Z:_<=cap)=> ?_)|refine⟨by omega,?_⟩|fail
  obtain⟨A',ai⟩: ∃A',A'=A++[p.next]:=⟨_,rfl⟩
  have cp:A'.length=A.length+1:=by rw[ai];simp
  refine aK.cW (β:=Nat) (fun i=>en [(35,dI i),(34,dI p.queue.length),(33,dS (p.queue.map aF)),(20,dI k),(19,dI 3),(18,dS (s.bJ.map dK)),(4,dI k),(3,.one (.c (.ptr 6 (nx+7) 0 0))),(2,.one (.c (.ptr 6 (nx+1) 0 0))),(1,.one (.c (.ptr 5 nx 0 0)))])
   (fun i H2 a=>i<=p.queue.length/\P4 H2 (nx+13) a (nx+7) s A' (W++(hZ s k).take i) []/\ ∀id,id<nx+13->id≠nx+7->H2 id=G0 id)
   (fun i=>p.queue.length-i) 0 ⟨noF,_,by repeat' first|exact C1|refine xqI rfl rfl ?_|refine xqP (by omega) rfl rfl ?_|fail,aI,by omega,?_,fun id y g=> ?_⟩ ?_
  ·rw[List.take_zero,adR];refine⟨U+12,C,id_,cap,cw,cd,cap,mw,md,?_,⟨?_,by omega,ac1 _⟩,⟨?_,a5,a6⟩,⟨?_,a8,a9⟩,by omega,by omega,by omega,by omega⟩;·rw[cp,aA.aJ];rfl
   ·rw[ai];simp only[aA.set,aA.del,P,if_false,if_true]
   ·simp only[aA.set,aA.del,P,if_false];exact x
   ·simp only[aA.set,aA.del,P,if_false];exact u
  ·rw[aA.aB g,aA.aB (by omega),aA.aB (by omega),aA.aB (by omega),aA.cL (by omega)];exact e id y g
  clear J r x u aa V ac O P;rintro i H2 a cq ⟨hi,d,ao⟩ KM cr;obtain⟨z,b⟩: ∃z,z=W++(hZ s k).take i:=⟨_,rfl⟩
  have ct:z.length<=3*k+3:=by have:=dc k ck;rw[b,ac7,adP];omega
  rw[<-b] at d;obtain⟨B,C,id_,ca,cw,cd,ma,mw,md,J,⟨r,a2,a3⟩,⟨x,a5,a6⟩,⟨u,a8,a9⟩,aa,V,ac,O⟩:=d;have P:aT a [nx,nx+1,nx+7,B,C,id_]:=AM.apart (by simp;omega) (by simp;omega);simp only[aT,bM] at P;by_cases F:i<p.queue.length
  ·repeat' first|apply vI<;>(simp only[go_sem,nL,J,r,x,u,P,List.set];try simp (disch:=omega) only[Iw])|apply vT (by omega)| (with_reducible first|refine fun(cap:Nat) (E:_<=cap)=> ?_|refine fun(Z:_<=cap)=> ?_)|refine⟨by omega,?_⟩|fail
   refine TD (K:=KM) fun G hG=> ?_;obtain⟨H',q1,q2,q3⟩:=abI (H2:=H2) (G:=G) (hi:=a) (lo:=nx+13) (t:=nx+7) (s:=s) (W:=z) (D:=[]) (x2:=a+10) (nx':=a+15) (k:=k) (n:=p.queue.getD i default) r ⟨a2,a3⟩ u ⟨a8,a9⟩ aa V ac O (by omega) (by omega) E (by rw[hG];exact aA.aJ) (by rw[hG,aA.aB (by omega)];exact aA.aJ) (fun id y g e2=>by rw[hG,aA.aB e2,aA.aB (by omega),aA.aB (by omega),aA.cL g]);have q4: ∀id,id<nx+13->id≠nx+7->H' id=H2 id:=fun id y g=>by rw[q3 id (by omega),hG,aA.aB g,aA.aB (by omega),aA.aB (by omega),aA.cL (by omega)]
   have L:W++(hZ s k).take (i+1)=z++[(⟨k,p.queue.getD i default,iL⟩:Job)]:=(by rw[gP (by simpa [hZ,<-Y] using F),<-adH,<-b];congr 2;simp[hZ,<-Y,List.getD,F]);exact cr _ _ _ (i+1) noF H' (by omega) (by omega) (by repeat' first|exact C1|refine xqI rfl rfl ?_|refine xqP (by omega) rfl rfl ?_|fail) q1 ⟨by omega,by rw[L];exact q2,fun id y g=>(q4 id y g).trans (ao id y g)⟩
  ·repeat' first|apply vI<;>(simp only[go_sem];try simp (disch:=omega) only[Iw])|apply vF (by omega)|fail
   have dy:i=p.queue.length:=(by omega);have L:z=(List.range (k+1)).flatMap (hZ s):=(by rw[b,uP,<-cf,ac6 (by simp[hZ,<-Y];omega)]);have dz:A'=(s.bJ.take (k+1)).map (·.next):=(by rw[ai,gP (by omega),adF,<-cc];rw[<-aj];rfl);exact dv _ _ _ (k+1) noF _ (by omega) (by omega) (by repeat' first|exact C1|refine xqI rfl rfl ?_|refine xqP (by omega) rfl rfl ?_|fail) aI ⟨by omega,by rw[<-L,<-dz];exact⟨B,C,id_,ca,cw,cd,ma,mw,md,J,⟨r,a2,a3⟩,⟨x,a5,a6⟩,⟨u,a8,a9⟩,by omega,V,ac,O⟩,ao⟩
 ·repeat' first|apply vI<;>(simp only[go_sem,g0])|apply vF (by omega)|fail
  have eb:k=3:=by omega
  subst eb;have cv: ∀k,k<N->(fK s k).length<=3/\(aU s k).done.length<=3:=fun k hk=>⟨by have:=(hs.v k (by omega)).1;simpa [fK] using this,(hs.v k (by omega)).2⟩
  refine aK.cW (β:=Nat) (fun k=>en [(52,dI k),(51,dI N),(50,dS (s.bR.map jF)),(3,.one (.c (.ptr 6 (nx+7) 0 0))),(2,.one (.c (.ptr 6 (nx+1) 0 0)))])
   (fun k H1 U=>k<=N/\P4 H1 (nx+13) U (nx+7) s A (W++(List.range k).flatMap (fK s)) ((List.range k).flatMap fun k=>(aU s k).done)/\ ∀id,id<nx+13->id≠nx+7->H1 id=G0 id)
   (fun k=>N-k) 0 ⟨noF,_,by repeat' first|exact C1|refine xqI rfl rfl ?_|refine xqP (by omega) rfl rfl ?_|refine xqV rfl (by omega) ?_|fail,aI,by omega,?_,e⟩ ?_
  ·simp only[List.range_zero,List.flatMap_nil,adR];exact⟨B,C,id_,ca,cw,cd,ma,mw,md,J,⟨r,a2,a3⟩,⟨x,a5,a6⟩,⟨u,a8,a9⟩,by omega,V,ac,O⟩
  clear J r x u aa V ac O P e g0;rintro k H2 a cq ⟨hk,d,e⟩ KM cr;obtain⟨z,b⟩: ∃z,z=W++(List.range k).flatMap (fK s):=⟨_,rfl⟩
  obtain⟨D,cl⟩: ∃D,D=(List.range k).flatMap fun k=>(aU s k).done:=⟨_,rfl⟩
  have ct:z.length<=9+3*k:=by have:=xI (f:=fK s) (m:=3) k fun j hj=>(cv j (by omega)).1;rw[b,ac7];omega
  have ga:D.length<=3*k:=by rw[cl];exact xI k fun j hj=>(cv j (by omega)).2
  rw[<-b,<-cl] at d;obtain⟨B,C,id_,ca,cw,cd,ma,mw,md,J,⟨r,a2,a3⟩,⟨x,a5,a6⟩,⟨u,a8,a9⟩,aa,V,ac,O⟩:=d;by_cases ck:k<N
  ·obtain⟨v,M⟩: ∃v,v=aU s k:=⟨_,rfl⟩
   have cx:s.bR.getD k default=v:=M.symm;obtain⟨ed,ei⟩:=cv k ck;have ej:v.pipe.length<=3:=(by simpa [fK,<-M] using ed);rw[<-M] at ei;repeat' first|apply vI<;>(simp only[go_sem,nL,cx,J,List.set])|apply vT (by omega)|refine⟨by omega,?_⟩|fail
   refine aK.cW (β:=Nat) (fun i=>en [(59,dI i),(58,dI v.pipe.length),(57,dS (v.pipe.map eCJ)),(52,dI k),(51,dI N),(50,dS (s.bR.map jF)),(9,.one (.c (.ptr 3 (a+3) 0 0))),(3,.one (.c (.ptr 6 (nx+7) 0 0))),(2,.one (.c (.ptr 6 (nx+1) 0 0)))])
    (fun i H3 I=>i<=v.pipe.length/\P4 H3 (nx+13) I (nx+7) s A (z++(fK s k).take i) D/\H3 (a+3)=some ⟨3,1,[jF v]⟩/\ ∀id,id<nx+13->id≠nx+7->H3 id=G0 id)
    (fun i=>v.pipe.length-i) 0 ⟨noF,_,by repeat' first|exact C1|refine xqI rfl rfl ?_|refine xqP (by omega) rfl rfl ?_|fail,aI,by omega,?_,aA.aJ,fun id y g=>by rw[aA.aB (by omega)];exact e id y g⟩ ?_
   ·rw[List.take_zero,adR];refine P4.frame (hi:=a) ⟨B,C,id_,ca,cw,cd,ma,mw,md,J,⟨r,a2,a3⟩,⟨x,a5,a6⟩,⟨u,a8,a9⟩,aa,V,ac,O⟩ (by omega) (by omega) fun id y _=>aA.aB (by omega)
   clear J r x u aa V ac O e;rintro i H3 I eo ⟨hi,d,g9,e⟩ KN ep;obtain⟨W3,R⟩: ∃W3,W3=z++(fK s k).take i:=⟨_,rfl⟩
   have et:W3.length<=12+3*k:=(by rw[R,ac7,adP];omega);rw[<-R] at d;obtain⟨B,C,id_,ca,cw,cd,ma,mw,md,J,⟨r,a2,a3⟩,⟨x,a5,a6⟩,⟨u,a8,a9⟩,aa,V,ac,O⟩:=d;have n1:a+3≠B:=fun he=>by rw[<-he,g9] at r;simp at r
   have n2:a+3≠C:=fun he=>by rw[<-he,g9] at x;simp at x
   have n3:a+3≠id_:=fun he=>by rw[<-he,g9] at u;simp at u
   have P:aT I [nx,nx+1,nx+7,a+3,B,C,id_]:=AM.apart (by simp;omega) (by simp;omega);simp only[aT,bM] at P;by_cases F:i<v.pipe.length
   ·repeat' first|apply vI<;>(simp only[go_sem,nL,J,r,x,u,g9,P,List.set];try simp (disch:=omega) only[Iw])|apply vT (by omega)| (with_reducible first|refine fun(cap:Nat) (E:_<=cap)=> ?_|refine fun(Z:_<=cap)=> ?_)|refine⟨by omega,?_⟩|fail
    refine TD (K:=KN) fun G hG=> ?_;obtain⟨H',q1,q2,q3⟩:=abI (H2:=H3) (G:=G) (hi:=I) (lo:=nx+13) (t:=nx+7) (s:=s) (W:=W3) (D:=D) (x2:=I+13) (nx':=I+18) (k:=(v.pipe.getD i default).who) (n:=(v.pipe.getD i default).n) r ⟨a2,a3⟩ u ⟨a8,a9⟩ aa V ac O (by omega) (by omega) E (by rw[hG];exact aA.aJ) (by rw[hG,aA.aB (by omega)];exact aA.aJ) (fun id y g e2=>by rw[hG,aA.aB e2,aA.aB (by omega),aA.aB (by omega),aA.aB (by omega),aA.cL g]);have q4: ∀id,id<nx+13->id≠nx+7->H' id=H3 id:=fun id y g=>by rw[q3 id (by omega),hG,aA.aB g,aA.aB (by omega),aA.aB (by omega),aA.aB (by omega),aA.cL (by omega)]
    have L:z++(fK s k).take (i+1)=W3++[(⟨(v.pipe.getD i default).who,(v.pipe.getD i default).n,iL⟩:Job)]:=(by rw[gP (by simpa [fK,<-M] using F),<-adH,<-R];congr 2;simp[fK,<-M,List.getD,F]);exact ep _ _ _ (i+1) noF H' (by omega) (by omega) (by repeat' first|exact C1|refine xqI rfl rfl ?_|refine xqP (by omega) rfl rfl ?_|fail) q1 ⟨by omega,by rw[L];exact q2,by rw[q3 _ (by omega),hG,aA.aB (by omega),aA.aB (by omega),aA.aB (by omega),aA.aB (by omega),aA.cL n2];exact g9,fun id y g=>(q4 id y g).trans (e id y g)⟩
   ·have dy:i=v.pipe.length:=(by omega);have L:W3=W++(List.range (k+1)).flatMap (fK s):=(by rw[R,uP,<-adH,<-b,ac6 (by simp[fK,<-M];omega)]);repeat' first|apply vI<;>(simp only[go_sem,nL,J,r,x,u,g9,P,List.set];try simp (disch:=omega) only[Iw])|apply vF (by omega)| (with_reducible first|refine fun(cap:Nat) (E:_<=cap)=> ?_|refine fun(Z:_<=cap)=> ?_)|refine⟨by omega,?_⟩|fail
    have eu:D++v.done=(List.range (k+1)).flatMap fun k=>(aU s k).done:=by rw[uP,<-cl,M]
    have Z:D.length+v.done.length<=cap:=(by omega);refine cr _ _ _ (k+1) noF _ (by omega) (by omega) (by repeat' first|exact C1|refine xqI rfl rfl ?_|refine xqP (by omega) rfl rfl ?_|fail) aI ⟨by omega,?_,fun id y g=>by rw[aA.aB g,aA.aB (by omega),aA.cL (by omega)];exact e id y g⟩;rw[<-L,<-eu];refine⟨B,C,I+5,ca,cw,cap,ma,mw,cap,?_,⟨?_,a2,a3⟩,⟨?_,a5,a6⟩,⟨?_,by simpa using Z,ac1 _⟩,by omega,by omega,by omega,by omega⟩;·rw[aA.aJ,ac7]
    ·rw[aA.aB (by omega),aA.aB (by omega),aA.cL ac];exact r
    ·rw[aA.aB (by omega),aA.aB (by omega),aA.cL O];exact x
    ·rw[aA.aB (by omega),aA.aJ,adF]
  ·repeat' first|apply vI<;>(simp only[go_sem,J])|apply vF (by omega)|fail
   have ew:k=N:=(by omega);subst ew;have df:z=m7 s:=(by rw[b,cf];unfold m7;rw[da,<-hN]);have dh:D=pH s:=(by rw[cl];unfold pH;rw[<-hN]);have d:A=s.bJ.map (·.next):=(by rw[cc,ac6 (by omega)]);have bb:=hs.wl;have bk:=hs.dl;rw[<-df] at bb;rw[<-dh] at bk;refine BZ (l:=z) (by omega) (by omega) x fun H3 I gb f4 bp=> ?_;have f0:=(bp (nx+7) (by omega) (by omega)).trans J;have f1:=(bp B (by omega) V).trans r;have f7:=(bp id_ (by omega) O.symm).trans u;simp only[go_sem];repeat' first|apply vI<;>(simp only[go_sem,f0])|fail
   refine BZ (l:=D) (by omega) (by omega) f7 fun H4 w gd e7 br=> ?_;have y:=(br (nx+7) (by omega) (by omega)).trans f0;have g:=(br B (by omega) ac).trans f1;have e4:=(br C (by omega) O).trans f4;have ex:=((br (nx+1) (by omega) (by omega)).trans ((bp (nx+1) (by omega) (by omega)).trans ((e _ (by omega) (by omega)).trans c1)))
   have ff: ∀id,id<nx->H4 id=H id:=fun id T=>(br id (by omega) (by omega)).trans ((bp id (by omega) (by omega)).trans ((e id (by omega) (by omega)).trans (ds id T)));simp only[go_sem];try apply kI
   have fh:(dG z).length=z.length:=(i7 _).length_eq;have fi:(dG D).length=D.length:=(i7 _).length_eq;have fl:eSt (dN s)=[.isl (s.words.map aF),.isl (s.holds.map aF),.isl (A.map aF),.isl ((dG z).map aL),.isl ((dG D).map aL),.isl (s.told.map aL)]:=(by rw[d,df,dh];rfl);obtain⟨H5,cy⟩: ∃H5:aA,H5=fun j=>if j=B\/j=C\/j=id_ then none else if j=nx+7 then some ⟨6,1,[eSt (dN s)]⟩ else H4 j:=⟨_,rfl⟩
   have q5: ∀j,j≠B->j≠C->j≠id_->j≠nx+7->H5 j=H4 j:=fun j h1 h2 h3 h4=>by rw[cy];simp only[h1,h2,h3,h4,or_self,if_false]
   have q7:H5 (nx+7)=some ⟨6,1,[eSt (dN s)]⟩:=(by rw[cy];simp only[show ¬nx+7=B by omega,show ¬nx+7=C by omega,show ¬nx+7=id_ by omega,or_self,if_false,if_true]);refine aK.qC _ H5 (fun j=>j=B\/j=C\/j=id_) (fun t=>.inl rfl) (yk (t:=nx+7) (fun j hj=>by rw[cy];simp only[hj,if_true]) q7 y (by omega) (aW ?_) fun j h1 h2=>q5 j (fun h=>h2 (.inl h)) (fun h=>h2 (.inr (.inl h))) (fun h=>h2 (.inr (.inr h))) h1) ?_;·rw[fl];exact aH (bE rfl) (aH (bE rfl) (aH (cM aP g rfl a2 (.inl rfl)) (aH (cM bC e4 fh.symm (by omega) (.inr (.inl rfl))) (aH (cM bC e7 fi.symm (by omega) (.inr (.inr rfl))) (aH (bE rfl) cG)))))
   have qx:=(q5 (nx+1) (by omega) (by omega) (by omega) (by omega)).trans ex;have fm: ∀id,id<nx->H5 id=H id:=fun id T=>(q5 id (by omega) (by omega) (by omega) (by omega)).trans (ff id T);have fo:=hs.st;have hz: ∀k,(nx=w+k)=False:=fun k=>eq_false (by omega);generalize hS:dN s=S at*;repeat' first| (first|apply vI|refine I4 (s:=S) fo (fun m0 m1 m2 m3 m4 m5 hm=> ?_))<;>(simp only[go_sem,ac2,ac3,q7,qx,hz,oIm])|fail
   refine hQ _ _ _ _ _ (.inr rfl) (iM rfl aA.aJ rfl) ⟨dA (eSt S),_,fun j=>w+3<=j/\j<w+3+6,oH (aH (cM aP (m:=m0) (by simp only[aA.set,ac4,Nat.reduceEqDiff,show ¬w+3=nx+1 by omega,if_false,if_true]) rfl (ac1 _) (by omega)) (aH (cM aP (m:=m1) (by simp only[aA.set,ac4,Nat.reduceEqDiff,show ¬w+4=nx+1 by omega,if_false,if_true]) rfl (ac1 _) (by omega)) (aH (cM aP (m:=m2) (by simp only[aA.set,ac4,Nat.reduceEqDiff,show ¬w+5=nx+1 by omega,if_false,if_true]) rfl (ac1 _) (by omega)) (aH (cM bC (m:=m3) (by simp only[aA.set,ac4,Nat.reduceEqDiff,show ¬w+6=nx+1 by omega,if_false,if_true]) rfl (ac1 _) (by omega)) (aH (cM bC (m:=m4) (by simp only[aA.set,ac4,Nat.reduceEqDiff,show ¬w+7=nx+1 by omega,if_false,if_true]) rfl (ac1 _) (by omega)) (aH (cM bC (m:=m5) (by simp only[aA.set,ac4,Nat.reduceEqDiff,show ¬w+8=nx+1 by omega,if_false,if_true]) rfl (ac1 _) (by omega)) cG)))))),zl,h _ _ (by omega) fun id T=> ?_⟩;rw[Fg (by omega),aA.aB (by omega),aA.aB (by omega),aA.aB (by omega),aA.aB (by omega),aA.aB (by omega),aA.aB (by omega),aA.aB (by omega)];exact fm id T
variable{l:List Int}{p:Nat}
theorem Dq{Q:AQ}(j: ∀ex e H2 c d nh d2 h F σ,ex=AEx.normal\/ex=AEx.ret->nP H2 e vS=some d->CvR 1 d H2 nh d2 h F σ->(nh=1/\ ∃o',h=hp [(0,o')]/\kC o'/\ ∃(a:Nat) (x:Rsp),o'=rdO l a/\p<=a/\a<=p+12/\d2=dA (lP x)/\(x.data.length<=8))->Q ex e H2 c)
 {e:Env} {H2:aA} {c b f c1 m1 a:Nat} {id code:Int} {D:List Int} (k:nP H2 e vS=some (dA [cI id,cI code,.osl 1 b 0 f c1])) (m:H2 0=some (rdO l a)) (n:H2 b=some ⟨1,m1,D.map aF⟩)
 (i:p<=a/\a<=p+12) (o:f=D.length) (g:f<=c1/\b≠0/\f<=8):Q .ret e H2 c:=by
 obtain⟨g,q,r⟩:=g
 subst o
 exact jZ j (dA (lP ⟨id,code,D⟩)) _ _ k (aH (bE rfl) (aH (bE rfl) (aH (cM aP n rfl g (by simpa using q)) cG))) m (bU _ _) ⟨a,_,rfl,i.1,i.2,rfl,r⟩
theorem ll(l:List Int)(p:Nat)(n:Int)(s:0<n/\n<9000)(hl:gD l)(m:p+12<2^50):ag1 sS [dP 2 0,dI n] (hp [(0,rdO l p)]) 1
 fun t H' n'=>n'=1/\ ∃o',H'=hp [(0,o')]/\kC o'/\ ∃(e:Nat) (x:Rsp),o'=rdO l e/\p<=e/\e<=p+12/\t=dA (lP x)/\(x.data.length<=8):=by
 refine aR.mk Tryz.func180 (by kernel_rfl) ZP rfl fun Q f=> ?_
 unfold xS
 repeat' first| (first|apply vI|refine aO hl (by omega) (by omega) (by omega) rfl (fun x c o=> ?_))<;>(simp only[go_sem];try simp (disch:=omega) only[Iw])|fail
 rename_i id q r code w y
 apply aK.oB 1
 refine aK.zE 3 (β:=Nat×Nat×List Int×Nat)
  (fun b u=>en [(6,dI u.1),(5,dP 3 (b+1)),(4,dP 3 b),(1,dI n),(0,dP 2 0)])
  (fun b u=>hp [(0,rdO l u.2.1),(b,⟨3,1,[[cI 0,cI 0,.osl 0 0 0 0 0]]⟩),(b+1,⟨3,1,[[cI id,cI (1+code),.osl 1 (b+2) 0 u.2.2.1.length u.2.2.2]]⟩),(b+2,⟨1,u.2.2.2,u.2.2.1.map aF⟩)])
  (fun u=>u.1+u.2.2.1.length<=4/\p<=u.2.1/\u.2.1+u.1<=p+7/\u.2.2.1.length<=u.2.2.2)
  (fun u=>u.1) (x.toNat,p+3,[],0) ?_ ⟨by simp;omega,by dsimp only;omega,by dsimp only;omega,ac1 _⟩ ?_
 · (refine eD [1,8,13,0] (by omega) (by repeat' first|exact C1|refine xqI rfl rfl ?_|refine xqP (by omega) rfl rfl ?_|refine xqV rfl (by omega) ?_|fail) ⟨⟨by simp,by simp[sgL],_,rfl,cP (bU _ _)⟩,⟨by simp,by simp[sgL],_,rfl,aW (by repeat' first|exact C1| (with_reducible first|exact C3|apply C4)| ((with_reducible apply C0);first|exact CB rfl|exact CC)|fail)⟩,⟨by simp,by simp[sgL],_,rfl,aW (by repeat' first|exact C1| (with_reducible first|exact C3|apply C4)| ((with_reducible apply C0);first|exact CB rfl|exact CC)|fail)⟩,⟨by simp,by simp[sgL],_,rfl,aY (aG aP _) rfl rfl⟩,trivial⟩ (by simp[sgL]))
 rintro⟨k,z,d,I⟩ ⟨A,B,C,E⟩ J g
 dsimp only at A B C E
 have i:d.take d.length=d:=ad1
 by_cases K:0<k
 ·repeat' first| (first|apply vI|refine aO hl (by omega) (by omega) (by omega) rfl (fun x c o=> ?_))<;>(simp only[go_sem,i];try simp (disch:=omega) only[Iw])|apply vT (by omega)| (with_reducible first|refine fun(cap:Nat) (a:_<=cap)=> ?_|refine fun(F:_<=cap)=> ?_)|refine⟨by omega,?_⟩|fail
  exact g _ _ _ (k-1,z+1,d++[x],cap) (by omega) (by dsimp only;rw[ac7,List.length_singleton];(refine eD [14,15,24,0] (by omega) (by repeat' first|exact C1|refine xqI rfl rfl ?_|refine xqP (by omega) rfl rfl ?_|refine xqV rfl (by omega) ?_|fail) ⟨⟨by simp,by simp[sgL],_,rfl,cP (bU _ _)⟩,⟨by simp,by simp[sgL],_,rfl,aW (by repeat' first|exact C1| (with_reducible first|exact C3|apply C4)| ((with_reducible apply C0);first|exact CB rfl|exact CC)|fail)⟩,⟨by simp,by simp[sgL],_,rfl,aW (by repeat' first|exact C1| (with_reducible first|exact C3|apply C4)| ((with_reducible apply C0);first|exact CB rfl|exact CQ (by omega) rfl rfl (by rfl) rfl)|fail)⟩,⟨by simp,by simp[sgL],_,rfl,aY (aG aP _) rfl rfl⟩,trivial⟩ (by simp[sgL]))) ⟨by simp;omega,by dsimp only;omega,by dsimp only;omega,by simpa using a⟩ (by dsimp only;omega)
 ·repeat' first| (first|apply vI|refine gN s hl (by omega) (by omega) rfl (fun M N G H _=> ?_)|refine aO hl (by omega) (by omega) (by omega) rfl (fun x c o=> ?_))<;>(simp only[go_sem])|apply vF (by omega)|refine iR (fun h=> ?_) fun h=> ?_| ((refine CK (fun h=> ?_) (fun h=> ?_))<;>try subst h)|refine⟨by omega,?_⟩|fail
  all_goals first
   | (obtain⟨v,j⟩:=rD (L:=[[.v (.int .i64 (-1))],[.v (.int .i64 2)]]) (by simp) c (by simp;omega);simp only[j];simp only[go_sem];repeat' first|apply vI<;>(simp only[go_sem])|fail)
   | (obtain⟨v,j⟩:=rD (L:=[[.v (.int .i64 0)],[.v (.int .i64 5)]]) (by simp) c (by simp;omega);simp only[j];simp only[go_sem];repeat' first|apply vI<;>(simp only[go_sem])|fail)
   |skip
  all_goals first
   |exact Dq f rfl rfl rfl (by omega) rfl (by omega)
   |exact Dq f (D:=[-1]) rfl rfl rfl (by omega) rfl (by omega)
   |exact Dq f (D:=[1,2,3,4,5]) rfl rfl rfl (by omega) rfl (by omega)
theorem QQ{i:Nat}{n:Int}(c:0<n/\n<9000)(hl:gD l)(b:p+12<2^50)(hi:i<nx)(e:H i=some (rdO l p))(h: ∀(a:Nat) (x:Rsp),p<=a->a<=p+12->(x.data.length<=8)->K (dA (lP x)) (H.set i (rdO l a)) nx):
 ag1 sS [dP 2 i,dI n] H nx K:=
 (ll l p n c hl b).ML i rfl (eO ⟨pL (by omega) rfl,aE rfl,trivial⟩) hi e (bU l p) fun r o' ⟨a,x,f,g,j,k,m⟩=>by subst f;subst k;exact BY (A:=fun d=>K d (H.set i (rdO l a)) nx) rfl (h a x g j m)
theorem ea{Q:AQ}(k: ∀ex f H2 c d nh d2 h F σ,ex=AEx.normal\/ex=AEx.ret->nP H2 f yM=some d->CvR 1 d H2 nh d2 h F σ->(nh=1/\ ∃o',h=hp [(0,o')]/\kC o'/\ ∃(a:Nat) (w:List Int),o'=rdO l a/\p<=a/\a<=p+70/\d2=dA [.isl (w.map aF)]/\(w.length<=65))->Q ex f H2 c)
 {f:Env} {H2:aA} {c b e c1 m1 a off:Nat} {W D:List Int} (m:nP H2 f yM=some (dA [.osl 1 b off e c1])) (n:H2 0=some (rdO l a)) (o:H2 b=some ⟨1,m1,W.map aF⟩)
 (q:(W.drop off).take e=D) (i:p<=a/\a<=p+70) (g:e=D.length/\off+e<=W.length) (j:e<=c1/\b≠0/\e<=65):Q .ret f H2 c:=by
 obtain⟨j,r,t⟩:=j
 obtain⟨g,s⟩:=g
 exact jZ k (dA [.isl (D.map aF)]) _ _ m (aH (bz (aG aP _) (by rw[adE];exact g) (by simpa using r) o rfl (by simp;omega) (by rw[adE,<-g,<-aeI,<-afG,q]) (by rw[adE];omega)) cG) n (bU _ _) ⟨a,_,rfl,i.1,i.2,rfl,by omega⟩
theorem na(l:List Int)(p:Nat)(n:Int)(c:n=99999\/(0<n/\n<9000))(hl:gD l)(j:p+70<2^50):ag1 sM [dP 2 0,dI n] (hp [(0,rdO l p)]) 1
 fun q H' n'=>n'=1/\ ∃o',H'=hp [(0,o')]/\kC o'/\ ∃(d:Nat) (w:List Int),o'=rdO l d/\p<=d/\d<=p+70/\q=dA [.isl (w.map aF)]/\(w.length<=65):=by
 refine aR.mk Tryz.func255 (by kernel_rfl) ke rfl fun Q a=> ?_
 unfold yF
 have e:(List.replicate 64 (0:Int)).length=64:=rfl
 have f: ∀{H:aA} {nx:Nat} {K:ag2},K (dA [.osl 1 nx 0 64 64]) (H.set nx ⟨1,64,(List.replicate 64 (0:Int)).map aF⟩) (nx+1)->ag1 mG [] H nx K:=fun h=>RZ h
 generalize List.replicate 64 (0:Int)=r at*
 repeat' first| (first|apply vI|apply f|refine aO hl (by omega) (by omega) (by omega) rfl (fun x g m=> ?_))<;>(simp only[go_sem])|fail
 refine aK.zE 3 (β:=Nat×Nat×List Int)
  (fun b u=>en [(6,dI u.1),(5,dP 1 (b+1)),(4,dP 1 b),(1,dI n),(0,dP 2 0)])
  (fun b u=>hp [(0,rdO l u.2.1),(b,⟨1,1,[[.osl 0 0 0 0 0]]⟩),(b+1,⟨1,1,[[.osl 1 (b+2) 0 64 64]]⟩),(b+2,⟨1,64,u.2.2.map aF⟩)])
  (fun u=>u.1<=7/\p<=u.2.1/\u.2.1+8*u.1<=p+57/\u.2.2.length=64)
  (fun u=>u.1) (x.toNat,p+1,r) ?_ ⟨by dsimp only;omega,by dsimp only;omega,by dsimp only;omega,e⟩ ?_
 · (refine eD [1,3,5,0] (by omega) (by repeat' first|exact C1|refine xqI rfl rfl ?_|refine xqP (by omega) rfl rfl ?_|refine xqV rfl (by omega) ?_|fail) ⟨⟨by simp,by simp[sgL],_,rfl,cP (bU _ _)⟩,⟨by simp,by simp[sgL],_,rfl,aW (by repeat' first|exact C1| (with_reducible first|exact C3|apply C4)| ((with_reducible apply C0);exact CC)|fail)⟩,⟨by simp,by simp[sgL],_,rfl,aW (by repeat' first|exact C1| (with_reducible first|exact C3|apply C4)| ((with_reducible apply C0);exact CQ (by omega) rfl rfl (by rfl) rfl)|fail)⟩,⟨by simp,by simp[sgL],_,rfl,aY (aG aP _) rfl rfl⟩,trivial⟩ (by simp[sgL]))
 rintro⟨k,N,w⟩ ⟨s,t,y,z⟩ O i
 dsimp only at s t y z
 by_cases P:0<k
 ·repeat' first| (first|apply vI|refine MR hl (by omega) (by omega) rfl (fun A B C E F=> ?_)|refine aO hl (by omega) (by omega) (by omega) rfl (fun x g m=> ?_))<;>(simp only[go_sem];try simp (disch:=omega) only[Iw])|apply vT (by omega)|refine⟨by omega,?_⟩|fail
  exact i _ _ _ (k-1,A+1,w.set B.toNat (x*257)) (by omega) (by(refine eD [9,10,11,0] (by omega) (by repeat' first|exact C1|refine xqI rfl rfl ?_|refine xqP (by omega) rfl rfl ?_|refine xqV rfl (by omega) ?_|fail) ⟨⟨by simp,by simp[sgL],_,rfl,cP (bU _ _)⟩,⟨by simp,by simp[sgL],_,rfl,aW (by repeat' first|exact C1| (with_reducible first|exact C3|apply C4)| ((with_reducible apply C0);exact CC)|fail)⟩,⟨by simp,by simp[sgL],_,rfl,aW (by repeat' first|exact C1| (with_reducible first|exact C3|apply C4)| ((with_reducible apply C0);exact CQ (by omega) rfl rfl (by rfl) rfl)|fail)⟩,⟨by simp,by simp[sgL],_,rfl,aY (aG aP _) rfl rfl⟩,trivial⟩ (by simp[sgL]))) ⟨by dsimp only;omega,by dsimp only;omega,by dsimp only;omega,by simp;omega⟩ (by dsimp only;omega)
 ·rcases c with rfl|c
  ·repeat' first| (first|apply vI|refine qE (by omega) rfl ?_)<;>(simp only[go_sem])|apply vF (by omega)|fail
   exact ea a (D:=w) rfl rfl rfl (ac6 (by simp;omega)) (by omega) (by omega) (by omega)
  ·repeat' first| (first|apply vI|refine gN c hl (by omega) (by omega) rfl (fun R S G I _=> ?_)|refine aO hl (by omega) (by omega) (by omega) rfl (fun x g m=> ?_))<;>(simp only[go_sem])|apply vF (by omega)|refine iR (fun h=> ?_) fun h=> ?_| (with_reducible first|refine fun(cap:Nat) (o:_<=cap)=> ?_|refine fun(J:_<=cap)=> ?_)| ((refine CK (fun h=> ?_) (fun h=> ?_))<;>try subst h)|refine⟨by omega,?_⟩|fail
   all_goals first
    | (obtain⟨v,M⟩:=rD (L:=[[.v (.int .i64 (-1))],[.v (.int .i64 65536)]]) (by simp) g (by simp;omega);simp only[M];simp only[go_sem];repeat' first|apply vI<;>(simp only[go_sem])|refine⟨by omega,?_⟩|fail)
    |skip
   all_goals first
    |exact ea a (D:=w.drop 1) rfl rfl rfl (ac6 (by simp;omega)) (by omega) (by simp;omega) (by omega)
    |exact ea a (D:=w.set _ _) rfl rfl rfl (ac6 (by simp;omega)) (by omega) (by simp;omega) (by omega)
    |exact ea a (D:=w.take 64++[0]) rfl rfl rfl (ac6 (by simp;omega)) (by omega) (by simp;omega) (by omega)
    |exact ea a (D:=w) rfl rfl rfl (ac6 (by simp;omega)) (by omega) (by omega) (by omega)
    |fail
theorem QE{i:Nat}{n:Int}(c:n=99999\/(0<n/\n<9000))(hl:gD l)(b:p+70<2^50)(hi:i<nx)(e:H i=some (rdO l p))(h: ∀(a:Nat) (w:List Int),p<=a->a<=p+70->(w.length<=65)->K (dA [.isl (w.map aF)]) (H.set i (rdO l a)) nx):
 ag1 sM [dP 2 i,dI n] H nx K:=
 (na l p n c hl b).ML i rfl (eO ⟨pL (by omega) rfl,aE rfl,trivial⟩) hi e (bU l p) fun r o' ⟨a,w,f,g,j,k,m⟩=>by subst f;subst k;exact BY (A:=fun d=>K d (H.set i (rdO l a)) nx) rfl (h a w g j m)
theorem Es{Q:AQ}(m: ∀ex f H2 c d nh d2 i F σ,ex=AEx.normal\/ex=AEx.ret->nP H2 f xO=some d->CvR 1 d H2 nh d2 i F σ->(nh=1/\ ∃o',i=hp [(0,o')]/\kC o'/\ ∃(a:Nat) (w u:List Int),o'=rdO l a/\p<=a/\a<=p+200/\d2=dA [.isl (w.map aF),.isl (u.map aF)]/\(w.length<=65/\u.length<=6))->Q ex f H2 c)
 {f:Env} {H2:aA} {c b e c1 m1 a off:Nat} {w W D:List Int} (n:nP H2 f xO=some (dA [.isl (w.map aF),.osl 1 b off e c1])) (o:H2 0=some (rdO l a)) (q:H2 b=some ⟨1,m1,W.map aF⟩)
 (r:(W.drop off).take e=D) (j:p<=a/\a<=p+200) (g:e=D.length/\off+e<=W.length) (k:e<=c1/\b≠0/\e<=6/\w.length<=65):Q .ret f H2 c:=by
 obtain⟨k,s,v,h⟩:=k
 obtain⟨g,t⟩:=g
 exact jZ m (dA [.isl (w.map aF),.isl (D.map aF)]) _ _ n (aH (bE rfl) (aH (bz (aG aP _) (by rw[adE];exact g) (by simpa using s) q rfl (by simp;omega) (by rw[adE,<-g,<-aeI,<-afG,r]) (by rw[adE];omega)) cG)) o (bU _ _) ⟨a,_,_,rfl,j.1,j.2,rfl,h,by omega⟩
theorem pe(l:List Int)(p:Nat)(n:Int)(r:0<n/\n<9000)(hl:gD l)(q:p+200<2^50):ag1 AS [dP 2 0,dI n] (hp [(0,rdO l p)]) 1
 fun s H' n'=>n'=1/\ ∃o',H'=hp [(0,o')]/\kC o'/\ ∃(a:Nat) (w:List Int) (u:List Int),o'=rdO l a/\p<=a/\a<=p+200/\s=dA [.isl (w.map aF),.isl (u.map aF)]/\(w.length<=65/\u.length<=6):=by
 refine aR.mk Tryz.func179 (by kernel_rfl) fj rfl fun Q c=> ?_
 unfold vW
 have d:(List.replicate 6 (-1:Int)).length=6:=rfl
 have e: ∀{H:aA} {nx:Nat} {K:ag2},(∀hc,6<=hc->K (dA [.osl 1 nx 0 64 64,.osl 1 (nx+1) 0 6 hc]) ((H.set nx ⟨1,64,(List.replicate 64 (0:Int)).map aF⟩).set (nx+1) ⟨1,hc,(List.replicate 6 (-1:Int)).map aF⟩) (nx+2))->ag1 oR [] H nx K:=fun h=>QT h
 generalize List.replicate 64 (0:Int)=J at*
 generalize List.replicate 6 (-1:Int)=t at*
 repeat' first| (first|apply vI|refine e fun hc y=> ?_|refine QE (n:=99999) (.inl rfl) hl (by omega) (by omega) rfl (fun pm w f g i=> ?_))<;>(simp only[go_sem])|fail
 refine aK.zE 3 (β:=Nat×Nat×List Int)
  (fun b u=>en [(6,dI u.1),(5,dP 2 (b+1)),(4,dP 2 b),(1,dI n),(0,dP 2 0)])
  (fun b u=>hp [(0,rdO l u.2.1),(b,⟨2,1,[[.osl 0 0 0 0 0,.osl 0 0 0 0 0]]⟩),(b+1,⟨2,1,[[.isl (w.map aF),.osl 1 (b+2) 0 6 hc]]⟩),(b+2,⟨1,hc,u.2.2.map aF⟩)])
  (fun u=>u.1<=6/\p<=u.2.1/\u.2.1<=p+70+u.1/\u.2.2.length=6)
  (fun u=>6-u.1) (0,pm,t) ?_ ⟨by dsimp only;omega,by dsimp only;omega,by dsimp only;omega,d⟩ ?_
 · (refine eD [1,3,6,0] (by omega) (by repeat' first|exact C1|refine xqI rfl rfl ?_|refine xqP (by omega) rfl rfl ?_|fail) ⟨⟨by simp,by simp[sgL],_,rfl,cP (bU _ _)⟩,⟨by simp,by simp[sgL],_,rfl,aW (by repeat' first|exact C1| (with_reducible first|exact C3|apply C4)| ((with_reducible apply C0);exact CC)|fail)⟩,⟨by simp,by simp[sgL],_,rfl,aW (by repeat' first|exact C1| (with_reducible first|exact C3|apply C4)| ((with_reducible apply C0);first|exact CB rfl|exact CQ (by omega) rfl rfl (by rfl) rfl)|fail)⟩,⟨by simp,by simp[sgL],_,rfl,aY (aG aP _) rfl rfl⟩,trivial⟩ (by simp[sgL]))
 rintro⟨k,z,u⟩ ⟨A,B,C,E⟩ M j
 dsimp only at A B C E
 by_cases N:k<6
 ·repeat' first| (first|apply vI|refine aO hl (by omega) (by omega) (by omega) rfl (fun x m F=> ?_))<;>(simp only[go_sem])|apply vT (by omega)|refine⟨by omega,?_⟩|fail
  obtain⟨v,o⟩:=rD (L:=[[.v (.int .i64 (-1))],[.v (.int .i64 0)],[.v (.int .i64 1)],[.v (.int .i64 16)],[.v (.int .i64 32)]]) (by simp) m (by simp;omega);simp only[go_sem,o];repeat' first|apply vI<;>(simp only[go_sem];try simp (disch:=omega) only[Iw])|refine⟨by omega,?_⟩|fail
  exact j _ _ _ (k+1,z+1,u.set k v) (by omega) (by(refine eD [12,13,14,0] (by omega) (by repeat' first|exact C1|refine xqI rfl rfl ?_|refine xqP (by omega) rfl rfl ?_|fail) ⟨⟨by simp,by simp[sgL],_,rfl,cP (bU _ _)⟩,⟨by simp,by simp[sgL],_,rfl,aW (by repeat' first|exact C1| (with_reducible first|exact C3|apply C4)| ((with_reducible apply C0);exact CC)|fail)⟩,⟨by simp,by simp[sgL],_,rfl,aW (by repeat' first|exact C1| (with_reducible first|exact C3|apply C4)| ((with_reducible apply C0);first|exact CB rfl|exact CQ (by omega) rfl rfl (by rfl) rfl)|fail)⟩,⟨by simp,by simp[sgL],_,rfl,aY (aG aP _) rfl rfl⟩,trivial⟩ (by simp[sgL]))) ⟨by dsimp only;omega,by dsimp only;omega,by dsimp only;omega,by simp;omega⟩ (by dsimp only;omega)
 ·repeat' first| (first|apply vI|refine gN r hl (by omega) (by omega) rfl (fun O P G I _=> ?_)|refine aO hl (by omega) (by omega) (by omega) rfl (fun x m F=> ?_)|refine QE (n:=1) (.inr (by omega)) hl (by omega) (by omega) rfl (fun R S f g i=> ?_))<;>(simp only[go_sem])|apply vF (by omega)|refine iR (fun h=> ?_) fun h=> ?_| ((refine CK (fun h=> ?_) (fun h=> ?_))<;>try subst h)|refine⟨by omega,?_⟩|fail
  all_goals first
   | (obtain⟨v,o⟩:=rD (L:=[[.v (.int .i64 (-2))],[.v (.int .i64 64)]]) (by simp) m (by simp;omega);simp only[o];simp only[go_sem];repeat' first|apply vI<;>(simp only[go_sem])|refine⟨by omega,?_⟩|fail)
   |skip
  all_goals first
   |exact Es c (D:=u.drop 1) rfl rfl rfl (ac6 (by simp;omega)) (by omega) (by simp;omega) (by omega)
   |exact Es c (D:=u.set _ _) rfl rfl rfl (ac6 (by simp;omega)) (by omega) (by simp;omega) (by omega)
   |exact Es c (D:=u) rfl rfl rfl (ac6 (by simp;omega)) (by omega) (by omega) (by omega)
   |fail
theorem ou{i:Nat}{n:Int}(c:0<n/\n<9000)(hl:gD l)(b:p+200<2^50)(hi:i<nx)(e:H i=some (rdO l p))(h: ∀(a:Nat) (w:List Int) (u:List Int),p<=a->a<=p+200->(w.length<=65/\u.length<=6)->K (dA [.isl (w.map aF),.isl (u.map aF)]) (H.set i (rdO l a)) nx):
 ag1 AS [dP 2 i,dI n] H nx K:=
 (pe l p n c hl b).ML i rfl (eO ⟨pL (by omega) rfl,aE rfl,trivial⟩) hi e (bU l p) fun r o' ⟨a,w,u,f,g,j,k,m⟩=>by subst f;subst k;exact BY (A:=fun d=>K d (H.set i (rdO l a)) nx) rfl (h a w u g j m)
theorem ni(c:Cfg)(s:CSt)(O:jJ c)(P:I0 s):ag1 yE [dA (bO c),dA (dX s)] .nil 0 fun r _ _=>r.plain=true/\r=dB (cyB c s):=by
 have cd:=P.w;have cf:=P.h;have ck:=P.pl;have cl:=P.sl;refine bW.mk Tryz.func105 (by kernel_rfl) sc rfl fun Q V=> ?_;unfold BD;have b: ¬(bG c/\COk c s)->dB false=dB (cyB c s):=fun h=>congrArg dB (Io h).symm;by_cases t:bG c
 case neg=>
  repeat' first| (first|apply vI|apply yJ O)<;>(simp only[go_sem,eq_false t])|fail
  all_goals exact V _ _ _ _ _ (.inr rfl) rfl ⟨rfl,b fun h=>t h.1⟩
 by_cases Z:pT s.words s.holds/\(s.bJ.length:Int)=3/\(s.bR.length:Int)=4
 case neg=>
  have R: ¬(bG c/\COk c s):=fun⟨_,h⟩=>Z ⟨jq h.atm,by rw[h.pl];rfl,by rw[h.sl];rfl⟩;repeat' first| (first|apply vI|refine Y6 (fun h=> ?_) fun h=> ?_|apply yJ O|refine E4 (w:=s.words) (u:=s.holds) (by omega) (by omega) (aE rfl) ?_)<;>(simp only[go_sem,eq_true t])|refine iR (fun h=> ?_) fun h=> ?_|fail
  all_goals first|exact V _ _ _ _ _ (.inr rfl) rfl ⟨rfl,b R⟩|exact absurd ⟨by simp_all,by omega,by omega⟩ Z
 obtain⟨e,F,g⟩:=Z;have F:s.bJ.length=3:=by omega
 have g:s.bR.length=4:=by omega
 have aa:=decide_eq_true e;have ab:=decide_eq_true t;repeat' first| (first|apply vI|apply Y5 (by omega)|apply yJ O|refine E4 (by omega) (by omega) (aE rfl) ?_)<;>(simp only[go_sem,eq_true t,aa,ab,F,g])|apply vF (by omega)|fail
 refine aK.Oq fun Y S=> ?_;have c0:Y 0=some ⟨3,1,[bO c]⟩:=by rw[S];rfl
 have c1:Y 1=some ⟨5,1,[dX s]⟩:=by rw[S];rfl
 clear S;obtain⟨C,G⟩: ∃C:Nat->Int,C=fun k=>((aN s k).out.length:Int):=⟨_,rfl⟩
 obtain⟨H,I⟩: ∃H:Nat->Int,H=fun k=>(((aU s k).pipe.length:Int)+(aU s k).done.length):=⟨_,rfl⟩
 refine aK.cW (β:=Nat) (fun k=>en [(35,dI k),(34,dI 3),(33,dS (s.bJ.map dK)),(6,dI 0),(5,dI (fD C k)),(3,.one (.c (.ptr 5 1 0 0))),(2,.one (.c (.ptr 3 0 0 0)))])
  (fun k H1 _=>k<=3/\(∀i,i<k->iK c i (aN s i))/\ ∀id,id<30->H1 id=Y id) (fun k=>3-k) 0 ⟨noF,_,by repeat' first|exact C1|refine xqI rfl rfl ?_|refine xqP (by omega) rfl rfl ?_|fail,aI,by omega,fun i hi=>by omega,fun _ _=>rfl⟩ ?_
 rintro k H1 ad cp ⟨hk,J,d⟩ KL ai;have D:=(d 0 (by omega)).trans c0;have K:=(d 1 (by omega)).trans c1;have E:aT ad [0,1]:=AM.apart (by simp) (by simp;omega);simp only[aT,bM] at E;have cq:=JS (f:=C) (m:=4) (by omega) k fun j hj=>by have:=(J j (by omega)).ol;rw[G];dsimp only;omega
 by_cases l:k<3
 ·obtain⟨p,x⟩: ∃p,p=aN s k:=⟨_,rfl⟩
  have M:s.bJ.getD k default=p:=x.symm;obtain⟨o,q⟩:=P.port k;have y:fD C (k+1)=fD C k+p.out.length:=by rw[fD,G,x]
  rw[<-x] at o q;by_cases a:iK c k p
  ·have n:=Hs a;have cr:=a.ol;repeat' first| (first|apply vI|apply y8 t l o q)<;>(simp only[go_sem,ac2,ac3,M,D,K,n,E];try simp (disch:=omega) only[Iw])|apply vT (by omega)|refine⟨by omega,?_⟩|fail
   exact ai _ _ _ (k+1) noF _ (by omega) (by omega) (by rw[y];repeat' first|exact C1|refine xqI rfl rfl ?_|refine xqP (by omega) rfl rfl ?_|fail) aI ⟨by omega,bT J (by rw[<-x];exact a),fun id T=>by rw[aA.aB (by omega)];exact d id T⟩
  ·have n:=TH a;repeat' first| (first|apply vI|apply y8 t l o q)<;>(simp only[go_sem,ac2,ac3,M,D,K,n,E])|apply vT (by omega)|refine⟨by omega,?_⟩|fail
   all_goals exact V _ _ _ _ _ (.inr rfl) rfl ⟨rfl,b fun h=>a (by rw[x];exact h.2.port k l)⟩
 ·have aj:k=3:=by omega
  subst aj;have hP:BK c s:=⟨F,J⟩
  repeat' first|apply vI<;>(simp only[go_sem,D,K,g])|apply vF (by omega)|fail
  refine aK.cW (β:=Nat) (fun k=>en [(54,dI k),(53,dI 4),(52,dS (s.bR.map jF)),(6,dI (fD H k)),(5,dI (fD C 3)),(3,.one (.c (.ptr 5 1 0 0))),(2,.one (.c (.ptr 3 0 0 0)))])
   (fun k H1 _=>k<=4/\(∀i,i<k->p9 c s i)/\ ∀id,id<30->H1 id=Y id) (fun k=>4-k) 0 ⟨noF,_,by repeat' first|exact C1|refine xqI rfl rfl ?_|refine xqP (by omega) rfl rfl ?_|fail,aI,by omega,fun i hi=>by omega,d⟩ ?_
  clear d D K E;rintro k H2 ao bb ⟨hk,z,d⟩ KM bk;have D:=(d 0 (by omega)).trans c0;have K:=(d 1 (by omega)).trans c1;have E:aT ao [0,1]:=AM.apart (by simp) (by simp;omega);simp only[aT,bM] at E;have ct:=JS (f:=H) (m:=4) (by omega) k fun j hj=>by have h1:=(z j (by omega)).pl;have h2:=(z j (by omega)).dl;rw[I];dsimp only;omega
  by_cases l:k<4
  ·obtain⟨v,U⟩: ∃v,v=aU s k:=⟨_,rfl⟩
   have N:s.bR.getD k default=v:=U.symm;obtain⟨o,q,W⟩:=P.slv k;by_cases a:p9 c s k
   ·have bp:=a.pl;have br:=a.dl;rw[<-U] at bp br;have y:fD H (k+1)=fD H k+(v.pipe.length+v.done.length):=(by rw[fD,I,U]);have n:=Ik a;repeat' first| (first|apply vI|apply xW t hP g l o q W)<;>(simp only[go_sem,ac2,ac3,N,D,K,n,E];try simp (disch:=omega) only[Iw])|apply vT (by omega)|refine⟨by omega,?_⟩|fail
    exact bk _ _ _ (k+1) noF _ (by omega) (by omega) (by rw[y];repeat' first|exact C1|refine xqI rfl rfl ?_|refine xqP (by omega) rfl rfl ?_|fail) aI ⟨by omega,bT z a,fun id T=>by rw[aA.aB (by omega)];exact d id T⟩
   ·have n:=Q6 a;repeat' first| (first|apply vI|apply xW t hP g l o q W)<;>(simp only[go_sem,ac2,ac3,N,D,K,n,E])|apply vT (by omega)|refine⟨by omega,?_⟩|fail
    all_goals exact V _ _ _ _ _ (.inr rfl) rfl ⟨rfl,b fun h=>a (h.2.slv k l)⟩
  ·have ca:k=4:=(by omega);subst ca;have X:=tz P hP g z;by_cases A:fD C 3=fD H 4
   case neg=>
    have B:(fD C 3=fD H 4)=False:=eq_false A
    have R: ¬(bG c/\COk c s):=fun⟨_,h⟩=>A (by
     have:=h.count
     unfold lM at this
     rw[G,I]
     simp only[fD]
     omega)
    repeat' first|apply vI<;>(simp only[go_sem,ac2,ac3,D,K,B,E])|apply vF (by omega)|fail
    all_goals exact V _ _ _ _ _ (.inr rfl) rfl ⟨rfl,b R⟩
   have B:(fD C 3=fD H 4)=True:=eq_true A;repeat' first| (first|apply vI|refine FQ X (fun H' nx' cv cc=> ?_))<;>(simp only[go_sem,ac2,ac3,D,K,B,E])|apply vF (by omega)|fail
   have e0:=(cc 0 (by omega)).trans D;refine⟨fun _=>by rw[e0];rfl,?_⟩;apply CP t X.st;simp only[go_sem];repeat' first|apply vI<;>(simp only[go_sem,e0])|fail
   refine V _ _ _ _ _ (.inr rfl) rfl ⟨rfl,congrArg dB ?_⟩;by_cases L:kM c (dN s);·rw[Ry L];refine(Xu t ⟨⟨by have:=e.1.1;omega,e.1.2,by have:=e.2.1;omega,e.2.2⟩,F,g,J,z,?_,L⟩).symm;unfold lM;rw[G,I] at A;simp only[fD] at A;omega
   ·rw[P2 L,Io fun h=>L h.2.st]
theorem oS{c:Cfg}{s:CSt}(a:jJ c)(b:I0 s)(h:K (dB (cyB c s)) H nx):ag1 yE [dA (bO c),dA (dX s)] H nx K:=(ni c s a b).pure rfl (aM ⟨aE rfl,aE rfl,trivial⟩) fun r hr=>hr▸h
theorem MW{c:Cfg}{s:CSt}{who:Nat}(hb:bG c)(V:s.bJ.length=3)(hw:who<3)(bk:(aN s who).queue.length<2^21)(bp:(aN s who).out.length<2^21)(h:K (dB (ptB c who (aN s who))) H nx):ag1 HS [dA (bO c),dA (dX s),dI who] H nx K:=by
 refine aC.pure (args0:=[dA (bO c),dA (dX s),dI who]) (R:=fun rr=>rr=dB (ptB c who (aN s who))) ?_ rfl (aM ⟨aE rfl,aE rfl,aE rfl,trivial⟩) (fun r hr=>hr▸h);clear h;refine aR.mk Tryz.func127 (by kernel_rfl) Z0 rfl fun Q v=> ?_;unfold xL;obtain⟨d,W⟩:=eM hb;have br:=W who;have C:o9 c.map:=hb.1;have cv:=hb.1.1;obtain⟨p,hP⟩: ∃p,p=aN s who:=⟨_,rfl⟩
 have X:s.bJ.getD who default=p:=hP.symm;rw[<-hP] at bk bp;have A: ¬iK c who p->dB false=dB (ptB c who (aN s who)):=fun h=>by rw[<-hP,TH h]
 have hT:iK c who p->dB true=dB (ptB c who (aN s who)):=fun h=>by rw[<-hP,Hs h]
 obtain⟨P,a⟩: ∃P,c.cH.getD who default=P:=⟨_,rfl⟩
 rw[a] at br;have Y: ∀n:Int,bF c who n=P.getD n.toNat default:=fun n=>by unfold bF;rw[Int.toNat_natCast,a]
 by_cases h0:(0<=p.next/\p.next<=(P.length:Int))/\((p.queue.length:Int)<=2/\(p.queue.length:Int)<=p.next)/\(p.out.length:Int)<=4/\0<=p.last/\p.last<=3
 case neg=>
  have ca: ¬iK c who p:=fun h=>h0 ⟨by have:=h.next;rw[a] at this;exact this,by have:=h.ql;omega,by have:=h.ol;omega,h.last⟩;repeat' first| (first|apply vI|refine Y6 (fun h=> ?_) fun h=> ?_|apply bH)<;>(simp only[go_sem,d,V,X,a])|apply vT (by omega)|refine⟨by omega,?_⟩|fail
  all_goals first|exact aQ v _ rfl rfl (A ca)| (exfalso;omega)
 obtain⟨⟨Z,ab⟩,⟨cw,w⟩,cx,ad,ai⟩:=h0;have t1:(0<=p.next/\p.next<=(P.length:Int))=True:=eq_true ⟨Z,ab⟩;have t2:(0<=p.last/\p.last<=3)=True:=eq_true ⟨ad,ai⟩;repeat' first| (first|apply vI|apply Y5 (by omega)|apply bH)<;>(simp only[go_sem,d,V,X,a,t1,t2])|refine⟨by omega,?_⟩|fail
 refine aK.cW (β:=Nat) (fun k=>en [(8,dI k),(7,.one (.c (.ptr 4 8 0 0))),(3,.one (.c (.ptr 3 0 0 0))),(2,dI who)]) (fun k H1 _=>k<=p.queue.length/\(∀i,i<k->p.queue.getD i default=p.next-p.queue.length+i)/\H1 0=some ⟨3,1,[bO c]⟩/\H1 8=some ⟨4,1,[dK p]⟩) (fun k=>p.queue.length-k) 0 ⟨noF,_,by repeat' first|exact C1|refine xqI rfl rfl ?_|refine xqP (by omega) rfl rfl ?_|fail,aI,by omega,fun i hi=>by omega,rfl,rfl⟩ ?_;rintro k H1 cy cc ⟨hk,D,g,e⟩ KL cd;by_cases l:k<p.queue.length
 ·by_cases aj:p.queue.getD k default=p.next-p.queue.length+k
  ·repeat' first|apply vI<;>(simp only[go_sem,e];try simp (disch:=omega) only[Iw])|apply vT (by omega)|apply vF (by omega)|refine⟨by omega,?_⟩|fail
   all_goals first|exact cd _ _ _ (k+1) noF _ (by omega) (by omega) (by repeat' first|exact C1|refine xqI rfl rfl ?_|refine xqP (by omega) rfl rfl ?_|fail) aI ⟨by omega,bT D aj,g,e⟩| (exfalso;omega)
  ·repeat' first|apply vI<;>(simp only[go_sem,e];try simp (disch:=omega) only[Iw])|apply vT (by omega)|refine⟨by omega,?_⟩|fail
   all_goals first|exact aQ v _ rfl rfl (A fun h=>aj (h.queue k l))| (exfalso;omega)
 ·have E:k=p.queue.length:=by omega
  rw[E] at D;repeat' first|apply vI<;>(simp only[go_sem,e])|apply vF (by omega)|fail
  refine aK.cW (β:=Nat) (fun k=>en [(9,dI k),(7,.one (.c (.ptr 4 8 0 0))),(3,.one (.c (.ptr 3 0 0 0))),(2,dI who)]) (fun k H1 _=>k<=p.out.length/\Nm c who p k/\H1 0=some ⟨3,1,[bO c]⟩/\H1 8=some ⟨4,1,[dK p]⟩) (fun k=>p.out.length-k) 0 ⟨noF,_,by repeat' first|exact C1|refine xqI rfl rfl ?_|refine xqP (by omega) rfl rfl ?_|fail,aI,by omega,⟨fun i hi=>by omega,fun i j _ hj=>by omega,fun i j _ hj=>by omega⟩,g,e⟩ ?_;clear g e;rintro k H2 F cf ⟨hk,hI,g,e⟩ KM ck;have G:aT F [0,8]:=AM.apart (by simp) (by simp;omega);simp only[aT,bM] at G;by_cases l:k<p.out.length
  ·have hm:=cC l
   have b:iK c who p->NZ c who p (p.out.getD k default)/\(0<k->(p.out.getD (k-1) default).n<(p.out.getD k default).n)/\ ∀i,i<k->(bF c who (p.out.getD i default).n).id=(bF c who (p.out.getD k default).n).id->(p.out.getD i default).left=(p.out.getD k default).left:=fun h=>
    ⟨h.out _ hm,fun h0=>by
      have:=adZ.1 h.za (k-1) k (by omega) l (by omega)
      simpa [List.getD,l,show k-1<p.out.length by omega] using this,fun i hi he=>h.Kn _ (cC (by omega)) _ hm he⟩
   have m:=hI.next;generalize S:p.out.getD k default=o at b m;have I:((k:Int)-1).toNat=k-1:=(by omega);by_cases y:o.who=who
   case neg=>
    have J:(o.who=(who:Int))=False:=eq_false y;repeat' first|apply vI<;>(simp only[go_sem,ac2,ac3,g,e,S,J,G])|apply vT (by omega)|refine⟨by omega,?_⟩|fail
    all_goals exact aQ v _ rfl rfl (A fun h=>y (b h).1.1)
   have J:(o.who=(who:Int))=True:=eq_true y;by_cases L:0<=o.n/\o.n<=p.next-p.queue.length-1
   case neg=>
    have T:(0<=o.n/\o.n<=p.next-p.queue.length-1)=False:=eq_false L;repeat' first| (first|apply vI|apply bH)<;>(simp only[go_sem,ac2,ac3,g,e,S,J,T,G];try simp (disch:=omega) only[Iw])|apply vT (by omega)|refine⟨by omega,?_⟩|fail
    all_goals first|exact aQ v _ rfl rfl (A fun h=>L (by have:=(b h).1.2.1;omega))| (exfalso;omega)
   have T:(0<=o.n/\o.n<=p.next-p.queue.length-1)=True:=eq_true L;by_cases t:0<k->(p.out.getD (k-1) default).n<o.n
   case neg=>
    have M:0<k:=(by omega);have t:o.n<=(p.out.getD (k-1) default).n:=(by omega);have e3:(o.n<=(p.out.getD ((k:Int)-1).toNat default).n)=True:=eq_true (by rw[I];exact t);repeat' first| (first|apply vI|apply Y4 (by omega)|refine Y6 (fun h=> ?_) fun h=> ?_|apply bH)<;>(simp only[go_sem,ac2,ac3,g,e,S,J,T,e3,G];try simp (disch:=omega) only[Iw])|apply vT (by omega)|refine⟨by omega,?_⟩|fail
    all_goals first|exact aQ v _ rfl rfl (A fun h=>by have:=(b h).2.1 M;omega)| (exfalso;omega)|exact absurd (of_eq_true e3) (by assumption)
   obtain⟨q,U⟩: ∃q,P.getD o.n.toNat default=q:=⟨_,rfl⟩
   have f:bF c who o.n=q:=(by rw[Y];exact U);have aa:kL c who o.n:=⟨by omega,by omega,by rw[Int.toNat_natCast,a];omega⟩
   have N:cR q:=f▸FE hb aa;by_cases u:o.left=iZ c.map q
   case neg=>
    have e4:(o.left=iZ c.map q)=False:=eq_false u;by_cases M:0<k
    ·have e3:(o.n<=(p.out.getD ((k:Int)-1).toNat default).n)=False:=eq_false (by rw[I];have:=t M;omega);repeat' first| (first|apply vI|apply Y4 (by omega)|refine Y6 (fun h=> ?_) fun h=> ?_|apply bH|apply nD C N (by omega))<;>(simp only[go_sem,ac2,ac3,g,e,S,d,a,U,J,T,e3,e4,G];try simp (disch:=omega) only[Iw])|apply vT (by omega)|refine⟨by omega,?_⟩|fail
     all_goals first|exact aQ v _ rfl rfl (A fun h=>u (by have:=(b h).1.2.2;rw[f] at this;exact this))| (exfalso;omega)
    ·repeat' first| (first|apply vI|apply Y5 (by omega)|apply bH|apply nD C N (by omega))<;>(simp only[go_sem,ac2,ac3,g,e,S,d,a,U,J,T,e4,G];try simp (disch:=omega) only[Iw])|apply vT (by omega)|refine⟨by omega,?_⟩|fail
     all_goals first|exact aQ v _ rfl rfl (A fun h=>u (by have:=(b h).1.2.2;rw[f] at this;exact this))| (exfalso;omega)
   have e4:(o.left=iZ c.map q)=True:=eq_true u;have cl:NZ c who p o:=⟨y,by omega,by rw[f];exact u⟩
   repeat' first| (first|apply vI|refine Y6 (fun h=> ?_) fun h=> ?_|apply bH|apply nD C N (by omega))<;>(simp only[go_sem,ac2,ac3,g,e,S,d,a,U,J,T,e4,G];try simp (disch:=omega) only[Iw])|apply vT (by omega)|refine⟨by omega,?_⟩|fail
   all_goals try (exfalso;have h3:=t (by omega);rw[<-I] at h3;omega)
   all_goals (
    refine aK.cW (β:=Nat) (fun j=>en [(11,dI j),(10,.one (.c (.ptr 3 (F+10) 0 0))),(9,dI k),(7,.one (.c (.ptr 4 8 0 0))),(3,.one (.c (.ptr 3 0 0 0))),(2,dI who)]) (fun j H3 _=>j<=k/\(∀i,i<j->(bF c who (p.out.getD i default).n).id=(bF c who o.n).id->(p.out.getD i default).left=o.left)/\H3 0=some ⟨3,1,[bO c]⟩/\H3 8=some ⟨4,1,[dK p]⟩/\H3 (F+10)=some ⟨3,1,[eCJ o]⟩) (fun j=>k-j) 0 ⟨noF,_,by repeat' first|exact C1|refine xqI rfl rfl ?_|refine xqP (by omega) rfl rfl ?_|fail,aI,by omega,fun i hi=>by omega,by rw[aA.aB (by omega)];exact g,by rw[aA.aB (by omega)];exact e,aA.aJ⟩ ?_
    rintro j H3 da cp ⟨hj,hJ,f0,f8,z⟩ KN cq
    by_cases ao:j<k
    ·obtain⟨x,hx⟩: ∃x,p.out.getD j default=x:=⟨_,rfl⟩
     have bb:=hI.all j ao;rw[hx] at bb;obtain⟨O,w⟩: ∃O,P.getD x.n.toNat default=O:=⟨_,rfl⟩
     have B:bF c who x.n=O:=(by rw[Y];exact w);obtain⟨_,dc,_⟩:=bb;by_cases hc:O.id=q.id/\x.left≠o.left
     ·have c1:(O.id=q.id)=True:=eq_true hc.1;have c2:(x.left=o.left)=False:=eq_false hc.2;repeat' first|apply vI<;>(simp only[go_sem,ac2,ac3,f0,f8,z,hx,d,a,U,w,c1,c2])|apply vT (by omega)|refine⟨by omega,?_⟩|fail
      all_goals exact aQ v _ rfl rfl (A fun h=>hc.2 (by
       have h1:=(b h).2.2 j ao
       rw[hx,f,B] at h1
       exact h1 hc.1))
     ·repeat' first| (first|apply vI|apply Y4 (by omega)|refine Y6 (fun h=> ?_) fun h=> ?_)<;>(simp only[go_sem,ac2,ac3,f0,f8,z,hx,d,a,U,w];try simp (disch:=omega) only[Iw])|apply vT (by omega)|apply vF (by omega)|refine⟨by omega,?_⟩|fail
      all_goals first
       |exact cq _ _ _ (j+1) noF _ (by omega) (by omega) (by repeat' first|exact C1|refine xqI rfl rfl ?_|refine xqP (by omega) rfl rfl ?_|fail) aI ⟨by omega,bT hJ (by rw[hx,f,B];intro he;omega),f0,f8,z⟩
       | (exfalso;omega)
    ·have cr:j=k:=(by omega);subst cr;have ct:=m cl (fun h=>by have:=t h;omega) hJ;repeat' first|apply vI<;>(simp only[go_sem,z];try simp (disch:=omega) only[Iw])|apply vF (by omega)|fail
     exact ck _ _ _ (j+1) noF _ (by omega) (by omega) (by repeat' first|exact C1|refine xqI rfl rfl ?_|refine xqP (by omega) rfl rfl ?_|fail) aI ⟨by omega,ct,f0,f8⟩)
  ·repeat' first|apply vI<;>(simp only[go_sem,e])|apply vF (by omega)|fail
   have E:k=p.out.length:=(by omega);rw[E] at hI;obtain⟨q1,O,q3⟩:=hI.end;exact aQ v _ rfl rfl (hT ⟨⟨Z,by rw[a];exact ab⟩,by omega,by omega,⟨ad,ai⟩,D,q1,O,q3⟩)
theorem jL{s:CSt}{who:Int}{n:Int}{st:Nat}(c:s.bJ.length=3)(a: ∀w,w<3->(aN s w).out.length<2^40){o:D}(d:CvD H (fun _=>True) id 0 (dA (dX s)) o)(h:K (dB (oaB s who n st)) H nx):ag1 xA [o,dI who,dI n,dI st] H nx K:=by
 refine aC.pure (args0:=[dA (dX s),dI who,dI n,dI st]) (R:=fun t=>t=dB (oaB s who n st)) ?_ rfl (aM ⟨d,aE rfl,aE rfl,aE rfl,trivial⟩) (fun r hr=>hr▸h);clear h;refine aR.mk Tryz.func212 (by kernel_rfl) X7 rfl fun Q e=> ?_;unfold t9;by_cases hw:0<=who/\who<=2
 case neg=>
  have f:(0<=who/\who<=2)=False:=eq_false hw;repeat' first| (first|apply vI|apply bH)<;>(simp only[go_sem,f])|fail
  all_goals first|exact aQ e _ rfl rfl (congrArg dB (Hp fun h=>hw h.1).symm)| (exfalso;omega)
 have f:(0<=who/\who<=2)=True:=eq_true hw;obtain⟨p,b⟩: ∃p,p=aN s who.toNat:=⟨_,rfl⟩
 have g:s.bJ.getD who.toNat default=p:=b.symm;have a:=a who.toNat (by omega);rw[<-b] at a;repeat' first| (first|apply vI|apply bH)<;>(simp only[go_sem,f,c,g])|refine⟨by omega,?_⟩|fail
 (refine aK.loop (α:={k:Nat//k<=p.out.length/\(∀i,i<k->¬((p.out.getD i default).n=n/\(p.out.getD i default).left=st))}) (fun u=>en [(10,dI u.1),(9,dS (p.out.map eCJ)),(3,dI st),(2,dI n)]) (fun _=>.nil) _ (fun u=>p.out.length-u.1) ⟨0,by omega,(by intros;first|trivial|omega)⟩ (bI (ac1 _) (by repeat' first|exact C1|refine xqI rfl rfl ?_|fail)) ?_);(rintro⟨k,v,hinv⟩ x l);by_cases m:k<p.out.length
 ·by_cases hc:(p.out.getD k default).n=n/\(p.out.getD k default).left=st
  ·have c1:((p.out.getD k default).n=n)=True:=eq_true hc.1;have c2:((p.out.getD k default).left=(st:Int))=True:=eq_true hc.2;repeat' first|apply vI<;>(simp only[go_sem,c1,c2])|apply vT (by omega)|refine⟨by omega,?_⟩|fail
   all_goals first|exact aQ e _ rfl rfl (congrArg dB (Qk ⟨hw,_,by rw[<-b];exact cC m,hc⟩).symm)| (exfalso;omega)
  ·repeat' first| (first|apply vI|refine Y6 (fun h=> ?_) fun h=> ?_)<;>(simp only[go_sem];try simp (disch:=omega) only[Iw])|apply vT (by omega)|apply vF (by omega)|refine⟨by omega,?_⟩|fail
   all_goals first| (exfalso;omega)| (refine l _ _ _ ⟨k+1,by omega,bT hinv hc⟩ (by omega) (by(try dsimp only);omega) (bI (ac1 _) (by repeat' first|exact C1|refine xqI rfl rfl ?_|fail)))
 ·repeat' first|apply vI<;>(simp only[go_sem])|apply vF (by omega)|fail
  all_goals exact aQ e _ rfl rfl (congrArg dB (Hp fun⟨_,j,q,h⟩=>by
   rw[<-b] at q
   obtain⟨i,hi,rfl⟩:=adS.1 q
   have:=hinv i (by omega)
   rw[show p.out.getD i default=p.out[i] by simp[List.getD,hi]] at this
   exact this h).symm)
theorem IQ{r:Rsp}(a:r.data.length<2^40)(h:K (dB (decide (jY r))) H nx):ag1 rM [dA [cI r.id,cI r.code,.isl (r.data.map aF)]] H nx K:=n7 a h
theorem LD{c:Cfg}{s:CSt}{st:Nat}(hb:bG c)(hp:BK c s)(ca:s.bR.length=4)(ct:st<4)(cv:(aU s st).pipe.length<2^21)(cw:(aU s st).done.length<2^21)(cc: ∀j∈(aU s st).done,j.rsp.data.length<2^21)(h:K (dB (slB c s st)) H nx):ag1 FH [dA (bO c),dA (dX s),dI st] H nx K:=by
 refine aC.pure (args0:=[dA (bO c),dA (dX s),dI st]) (R:=fun rr=>rr=dB (slB c s st)) ?_ rfl (aM ⟨aE rfl,aE rfl,aE rfl,trivial⟩) (fun r hr=>hr▸h);clear h;refine aR.mk Tryz.func128 (by kernel_rfl) XB rfl fun Q T=> ?_;unfold tD;obtain⟨ao,cx⟩:=eM hb;obtain⟨v,f⟩: ∃v,v=aU s st:=⟨_,rfl⟩
 have aa:s.bR.getD st default=v:=f.symm;rw[<-f] at cv cw cc;have hF: ¬p9 c s st->dB false=dB (slB c s st):=fun h=>by rw[Q6 h]
 have hT:p9 c s st->dB true=dB (slB c s st):=fun h=>by rw[Ik h]
 have cd:=hb.2.1;have cy:=U7 hb ct;by_cases h0:(v.pipe.length:Int)<=2/\(v.done.length:Int)<=2/\0<=v.last/\v.last<=2
 case neg=>
  have y: ¬p9 c s st:=fun h=>h0 ⟨by have:=h.pl;rw[<-f] at this;omega,by have:=h.dl;rw[<-f] at this;omega,by have:=h.last;rw[<-f] at this;omega⟩;repeat' first| (first|apply vI|refine Y6 (fun h=> ?_) fun h=> ?_|apply bH)<;>(simp only[go_sem,ca,aa])|apply vT (by omega)|refine⟨by omega,?_⟩|fail
  all_goals first|exact aQ T _ rfl rfl (hF y)| (exfalso;omega)
 obtain⟨et,eu,z,U⟩:=h0;have t2:(0<=v.last/\v.last<=2)=True:=eq_true ⟨z,U⟩;have o: ∀w,w<3->(aN s w).out.length<2^40:=fun w hw=>by have:=(hp.port w hw).ol;omega
 obtain⟨V,hV⟩: ∃V,V=gZ v:=⟨_,rfl⟩
 have da:V.length=v.done.length+v.pipe.length:=by rw[hV];simp[gZ]
 have dc: ∀k,k<v.done.length->V[k]?=some ((v.done.getD k default).who,(v.done.getD k default).n):=fun k F=>by rw[hV];unfold gZ;rw[ae9 (by simpa using F)];simp[List.getD,F,key]
 have df: ∀k,k<v.pipe.length->V[v.done.length+k]?=some ((v.pipe.getD k default).who,(v.pipe.getD k default).n):=fun k F=>by rw[hV];unfold gZ;rw[afL (by simp)];simp[List.getD,F]
 have cf: ∀k x,V[k]?=some x->(V.map T0).take (k+1)=(V.map T0).take k++[T0 x]:=fun k x h=>by obtain⟨F,h2⟩:=adB.1 h;rw[ae5 (by simpa using F),agK,h2]
 have ck: ∀(k:Nat) (x:Int×Int),V[k]?=some x->p9 c s st->zM s x.1 x.2 st:=fun k x h hs=>hs.out x (by rw[<-f,<-hV];exact adI h);repeat' first| (first|apply vI|apply Y5 (by omega)|apply bH)<;>(simp only[go_sem,ca,aa,t2])|refine⟨by omega,?_⟩|fail
 refine aK.cW (β:=Nat×Nat×Nat) (fun u=>en [(9,dI u.1),(8,.one (.c (.osl 5 u.2.1 0 u.1 u.2.2))),(7,.one (.c (.ptr 3 8 0 0))),(4,.one (.c (.ptr 5 1 0 0))),(3,.one (.c (.ptr 3 0 0 0))),(2,dI st)])
  (fun u H1 n1=>u.1<=v.done.length/\(∀i,i<u.1->zM s (v.done.getD i default).who (v.done.getD i default).n st/\yC c (v.done.getD i default))/\H1 0=some ⟨3,1,[bO c]⟩/\H1 1=some ⟨5,1,[dX s]⟩/\H1 8=some ⟨3,1,[jF v]⟩/\(∃m,H1 u.2.1=some ⟨5,m,((V.map T0).take u.1).map aL⟩/\u.1<=u.2.2/\u.2.2<=m)/\26<=u.2.1/\u.2.1<n1)
  (fun u=>v.done.length-u.1) (0,26,0) ⟨noF,_,by repeat' first|exact C1|refine xqI rfl rfl ?_|refine xqP (by omega) rfl rfl ?_| (with_reducible apply C2)| ((with_reducible apply C0);exact CC)| ((with_reducible apply D0);apply CJ)|fail,aI,by dsimp only;omega,fun i hi=>by dsimp only at hi;omega,rfl,rfl,rfl,⟨0,rfl,by dsimp only;omega,by dsimp only;omega⟩,by dsimp only;omega,by dsimp only;omega⟩ ?_
 rintro⟨k,b,C⟩ H1 W dh ⟨F,hI,D,E,t,⟨m,l,X,M⟩,Y,Z⟩ KL dm;dsimp only at F hI l X M Y Z;have I:aT W [0,1,8,b]:=AM.apart (by simp;omega) (by simp;omega);simp only[aT,bM] at I;have N:((V.map T0).take k).length=k:=by simp;omega
 have O:(((V.map T0).take k).map aL).length=k:=by rw[adE,N]
 by_cases p:k<v.done.length
 ·obtain⟨d,g⟩: ∃d,v.done.getD k default=d:=⟨_,rfl⟩
  have cl:d∈(aU s st).done:=by rw[<-g,<-f];exact cC p
  have J:=dc k p;have hIn:=bT hI (k:=k);rw[g] at J hIn;have bb:d.rsp.data.length<2^40:=by have h1:=cc d (by rw[f];exact cl);omega
  by_cases S:zM s d.who d.n st
  case neg=>
   have A:=Hp S;repeat' first| (first|apply vI|refine jL (s:=s) (who:=d.who) (n:=d.n) (st:=st) hp.pl o (aE rfl) ?_)<;>(simp only[go_sem,ac2,ac3,D,E,t,g,A,I])|apply vT (by omega)|refine⟨by omega,?_⟩|fail
   all_goals first|exact aQ T _ rfl rfl (hF fun h=>S (ck _ _ J h))| (exfalso;omega)
  have A:=Qk S;have bk:=S.asks hp;obtain⟨ew,ad,ds⟩:=bk;obtain⟨P,hP⟩: ∃P,c.cH.getD d.who.toNat default=P:=⟨_,rfl⟩
  rw[hP] at ds;obtain⟨q,hq⟩: ∃q,P.getD d.n.toNat default=q:=⟨_,rfl⟩
  have cp:bF c d.who d.n=q:=by unfold bF;rw[hP,hq]
  by_cases hr:yC c d
  case neg=>
   have y: ¬p9 c s st:=fun h=>hr (h.rsp d cl);unfold yC at hr;rw[cp] at hr;by_cases bp:jY d.rsp
   ·have B:=eq_true bp;have e3:(d.rsp.id=q.id)=False:=eq_false fun h=>hr ⟨bp,h⟩;repeat' first| (first|apply vI|refine jL (s:=s) (who:=d.who) (n:=d.n) (st:=st) hp.pl o (aE rfl) ?_|apply IQ bb)<;>(simp only[go_sem,ac2,ac3,D,E,t,g,ao,hP,hq,A,B,e3,I])|apply vT (by omega)|refine⟨by omega,?_⟩|fail
    all_goals first|exact aQ T _ rfl rfl (hF y)| (exfalso;omega)
   ·have B:=eq_false bp;repeat' first| (first|apply vI|refine jL (s:=s) (who:=d.who) (n:=d.n) (st:=st) hp.pl o (aE rfl) ?_|apply IQ bb)<;>(simp only[go_sem,ac2,ac3,D,E,t,g,ao,hP,hq,A,B,I])|apply vT (by omega)|refine⟨by omega,?_⟩|fail
    all_goals first|exact aQ T _ rfl rfl (hF y)| (exfalso;omega)
  have B:=eq_true hr.1;have e3:(d.rsp.id=q.id)=True:=eq_true (by rw[<-cp];exact hr.2);repeat' first| (first|apply vI|refine jL (s:=s) (who:=d.who) (n:=d.n) (st:=st) hp.pl o (aE rfl) ?_|apply IQ bb)<;>(simp only[go_sem,ac2,ac3,D,E,t,l,g,ao,hP,hq,A,B,e3,O,I];try simp (disch:=omega) only[Iw])|apply vT (by omega)| (with_reducible first|refine fun(cap:Nat) (br:_<=cap)=> ?_|refine fun(dv:_<=cap)=> ?_)|refine⟨by omega,?_⟩|fail
  refine TD (K:=KL) fun G hG=> ?_;have q1:G (W+50)=some ⟨5,cap,((V.map T0).take k).map aL++[[cI d.who,cI d.n,cI 0,cI 0,.osl 0 0 0 0 0]]⟩:=by rw[hG];exact aA.aJ
  have q2: ∀id,id<W->id≠b->G id=H1 id:=fun id h1 h2=>by rw[hG,aA.aB (by omega),aA.aB (by omega),aA.aB (by omega),aA.cL h2]
  have q3:=cf k _ J;refine dm _ _ _ (k+1,W+50,cap) noF _ (by omega) (by dsimp only;omega) (by dsimp only;repeat' first|exact C1|refine xqI rfl rfl ?_|refine xqP (by omega) rfl rfl ?_|refine xqO (by omega) rfl rfl (by rfl) ?_|fail) (abW q1) ⟨by dsimp only;omega,hIn ⟨S,hr⟩,?_,?_,?_,⟨cap,by dsimp only;rw[q3];exact aA.aJ,by dsimp only;omega,ac1 _⟩,by dsimp only;omega,by dsimp only;omega⟩;·rw[aA.aB (by omega),q2 _ (by omega) (by omega)];exact D
  ·rw[aA.aB (by omega),q2 _ (by omega) (by omega)];exact E
  ·rw[aA.aB (by omega),q2 _ (by omega) (by omega)];exact t
 ·repeat' first|apply vI<;>(simp only[go_sem,t])|apply vF (by omega)|fail
  have ad:k=v.done.length:=by omega
  subst ad;clear p N O I F
  refine aK.cW (β:=Nat×Nat×Nat) (fun u=>en [(11,dI u.1),(8,.one (.c (.osl 5 u.2.1 0 (v.done.length+u.1) u.2.2))),(7,.one (.c (.ptr 3 8 0 0))),(4,.one (.c (.ptr 5 1 0 0))),(3,.one (.c (.ptr 3 0 0 0))),(2,dI st)])
   (fun u H1 n1=>u.1<=v.pipe.length/\(∀i,i<u.1->zM s (v.pipe.getD i default).who (v.pipe.getD i default).n st/\uh c st i (v.pipe.getD i default))/\H1 0=some ⟨3,1,[bO c]⟩/\H1 1=some ⟨5,1,[dX s]⟩/\H1 8=some ⟨3,1,[jF v]⟩/\(∃m,H1 u.2.1=some ⟨5,m,((V.map T0).take (v.done.length+u.1)).map aL⟩/\v.done.length+u.1<=u.2.2/\u.2.2<=m)/\26<=u.2.1/\u.2.1<n1)
   (fun u=>v.pipe.length-u.1) (0,b,C) ⟨noF,_,by dsimp only;repeat' first|exact C1|refine xqI rfl rfl ?_|refine xqP (by omega) rfl rfl ?_|refine xqO (by omega) rfl rfl (by rfl) ?_|fail,aI,by dsimp only;omega,fun i hi=>by dsimp only at hi;omega,D,E,t,⟨m,l,by dsimp only;omega,M⟩,by dsimp only;omega,by dsimp only;omega⟩ ?_
  clear D E t l X M Y Z;rintro⟨k,b,C⟩ H2 ai dx ⟨F,hJ,D,E,t,⟨m,l,X,M⟩,Y,Z⟩ KM dy;dsimp only at F hJ l X M Y Z;have I:aT ai [0,1,8,b]:=AM.apart (by simp;omega) (by simp;omega);simp only[aT,bM] at I;have N:((V.map T0).take (v.done.length+k)).length=v.done.length+k:=by simp;omega
  have O:(((V.map T0).take (v.done.length+k)).map aL).length=v.done.length+k:=by rw[adE,N]
  by_cases p:k<v.pipe.length
  ·obtain⟨d,g⟩: ∃d,v.pipe.getD k default=d:=⟨_,rfl⟩
   have J:=df k p;have hIn:=bT hJ (k:=k);rw[g] at J hIn;have ab:p9 c s st->uh c st k d:=fun h=>by have:=h.left k (by rw[<-f];exact p);rw[<-f,g] at this;exact this
   by_cases S:zM s d.who d.n st
   case neg=>
    have A:=Hp S;repeat' first| (first|apply vI|refine jL (s:=s) (who:=d.who) (n:=d.n) (st:=st) hp.pl o (aE rfl) ?_)<;>(simp only[go_sem,ac2,ac3,D,E,t,g,A,I])|apply vT (by omega)|refine⟨by omega,?_⟩|fail
    all_goals first|exact aQ T _ rfl rfl (hF fun h=>S (ck _ _ J h))| (exfalso;omega)
   have A:=Qk S;by_cases hl:uh c st k d
   case neg=>
    have y: ¬p9 c s st:=fun h=>hl (ab h);unfold uh at hl;by_cases z:0<=d.left/\d.left<=c.lat.getD st default
    ·have B:(0<=d.left/\d.left<=c.lat.getD st default)=True:=eq_true z
     have ff:0<k:=by
      rcases aeO k with h|h;·exact absurd ⟨z,fun h2=>by omega⟩ hl
      ·exact h
     have e3:(d.left=c.lat.getD st default)=False:=eq_false fun h=>hl ⟨z,fun _=>h⟩;repeat' first| (first|apply vI|apply Y4 (by omega)|refine jL (s:=s) (who:=d.who) (n:=d.n) (st:=st) hp.pl o (aE rfl) ?_|apply bH)<;>(simp only[go_sem,ac2,ac3,D,E,t,g,A,B,e3,I])|apply vT (by omega)|refine⟨by omega,?_⟩|fail
     all_goals first|exact aQ T _ rfl rfl (hF y)| (exfalso;omega)
    ·have B:(0<=d.left/\d.left<=c.lat.getD st default)=False:=eq_false z;repeat' first| (first|apply vI|refine jL (s:=s) (who:=d.who) (n:=d.n) (st:=st) hp.pl o (aE rfl) ?_|apply bH)<;>(simp only[go_sem,ac2,ac3,D,E,t,g,A,B,I])|apply vT (by omega)|refine⟨by omega,?_⟩|fail
     all_goals first|exact aQ T _ rfl rfl (hF y)| (exfalso;omega)
   have B:(0<=d.left/\d.left<=c.lat.getD st default)=True:=eq_true hl.1;have U:=hl.2;repeat' first| (first|apply vI|refine Y6 (fun h=> ?_) fun h=> ?_|refine jL (s:=s) (who:=d.who) (n:=d.n) (st:=st) hp.pl o (aE rfl) ?_|apply bH)<;>(simp only[go_sem,ac2,ac3,D,E,t,l,g,A,B,O,I];try simp (disch:=omega) only[Iw])|apply vT (by omega)|apply vF (by omega)| (with_reducible first|refine fun(cap:Nat) (br:_<=cap)=> ?_|refine fun(dv:_<=cap)=> ?_)|refine⟨by omega,?_⟩|fail
   all_goals first| (exfalso;have:=U (by omega);omega)|skip
   all_goals (
    refine TD (K:=KM) fun G hG=> ?_
    have q3:=cf _ _ J
    have q1:G (ai+52)=some ⟨5,cap,((V.map T0).take (v.done.length+k)).map aL++[[cI d.who,cI d.n,cI 0,cI 0,.osl 0 0 0 0 0]]⟩:=by rw[hG];exact aA.aJ
    have q2: ∀id,id<ai->id≠b->G id=H2 id:=fun id h1 h2=>by rw[hG,aA.aB (by omega),aA.aB (by omega),aA.aB (by omega),aA.cL h2]
    refine dy _ _ _ (k+1,ai+52,cap) noF _ (by omega) (by dsimp only;omega) (by dsimp only;repeat' first|exact C1|refine xqI rfl rfl ?_|refine xqP (by omega) rfl rfl ?_|refine xqO (by omega) rfl rfl (by rfl) ?_|fail) (abW q1) ⟨by dsimp only;omega,hIn ⟨S,hl⟩,?_,?_,?_,⟨cap,by dsimp only;rw[<-ac2,q3];exact aA.aJ,by dsimp only;omega,ac1 _⟩,by dsimp only;omega,by dsimp only;omega⟩
    ·rw[aA.aB (by omega),q2 _ (by omega) (by omega)];exact D
    ·rw[aA.aB (by omega),q2 _ (by omega) (by omega)];exact E
    ·rw[aA.aB (by omega),q2 _ (by omega) (by omega)];exact t)
  ·repeat' first|apply vI<;>(simp only[go_sem,t])|apply vF (by omega)|fail
   have ad:k=v.pipe.length:=(by omega);subst ad;obtain⟨L,hL⟩: ∃L,L=V.map T0:=⟨_,rfl⟩
   have aj: ∀i (hi:i<V.length),L.getD i default=T0 V[i]:=fun i hi=>by rw[hL];simp[List.getD,hi]
   have cq:L.length=v.done.length+v.pipe.length:=(by rw[hL,adE,da]);rw[<-hL,ac6 (by omega)] at l;clear p N O I F D E t
   refine aK.cW (β:=Nat) (fun k=>en [(13,dI k),(8,.one (.c (.osl 5 b 0 (v.done.length+v.pipe.length) C)))])
    (fun k H3 _=>k<=L.length/\(∀i j,i<j->j<k->(L.getD i default).who=(L.getD j default).who->(L.getD i default).n<(L.getD j default).n)/\H3 b=some ⟨5,m,L.map aL⟩) (fun k=>L.length-k) 0 ⟨noF,_,by repeat' first|exact C1|refine xqI rfl rfl ?_|refine xqO (by omega) rfl rfl (by rfl) ?_|fail,aI,by omega,fun i j _ hj=>by omega,l⟩ ?_
   clear l;rintro k H3 fh dz ⟨F,hC,l⟩ KN eb;by_cases p:k<L.length
   ·repeat' first|apply vI<;>(simp only[go_sem])|apply vT (by omega)|fail
    refine aK.cW (β:=Nat) (fun j=>en [(14,dI j),(13,dI k),(8,.one (.c (.osl 5 b 0 (v.done.length+v.pipe.length) C)))])
     (fun j H4 _=>j<=k/\(∀i,i<j->(L.getD i default).who=(L.getD k default).who->(L.getD i default).n<(L.getD k default).n)/\H4 b=some ⟨5,m,L.map aL⟩) (fun j=>k-j) 0 ⟨noF,_,by repeat' first|exact C1|refine xqI rfl rfl ?_|refine xqO (by omega) rfl rfl (by rfl) ?_|fail,aI,by omega,fun i hi=>by omega,l⟩ ?_
    clear l;rintro j H4 fi ed ⟨hj,hD,l⟩ KO ei;by_cases ej:j<k
    ·by_cases hc:(L.getD j default).who=(L.getD k default).who/\(L.getD k default).n<=(L.getD j default).n
     ·have c1:((L.getD j default).who=(L.getD k default).who)=True:=eq_true hc.1;have c2:((L.getD k default).n<=(L.getD j default).n)=True:=eq_true hc.2;repeat' first|apply vI<;>(simp only[go_sem,ac2,ac3,l,cq,c1,c2])|apply vT (by omega)|refine⟨by omega,?_⟩|fail
      all_goals first
       | (exfalso;omega)
       |exact aQ T _ rfl rfl (hF fun h=>by
        have h1:=adZ.1 h.inc j k (by rw[<-f,<-hV];omega) (by rw[<-f,<-hV];omega) ej
        simp only[<-f,<-hV] at h1
        have A:=aj j (by omega)
        have B:=aj k (by omega)
        rw[A,B] at hc
        have:=h1 hc.1
        have:=hc.2
        simp only[T0] at this
        omega)
     ·repeat' first| (first|apply vI|refine Y6 (fun h=> ?_) fun h=> ?_)<;>(simp only[go_sem,ac2,ac3,l,cq];try simp (disch:=omega) only[Iw])|apply vT (by omega)|apply vF (by omega)|refine⟨by omega,?_⟩|fail
      all_goals first
       | (exfalso;omega)
       |exact ei _ _ _ (j+1) noF _ (by omega) (by omega) (by repeat' first|exact C1|refine xqI rfl rfl ?_|refine xqO (by omega) rfl rfl (by rfl) ?_|fail) aI ⟨by omega,bT hD (by intro he;omega),l⟩
    ·repeat' first|apply vI<;>(simp only[go_sem];try simp (disch:=omega) only[Iw])|apply vF (by omega)|fail
     have eo:j=k:=(by omega);subst eo
     exact eb _ _ _ (j+1) noF _ (by omega) (by omega) (by repeat' first|exact C1|refine xqI rfl rfl ?_|refine xqO (by omega) rfl rfl (by rfl) ?_|fail) aI ⟨by omega,fun a e cr he=>by
      by_cases h:e<j
      ·exact hC a e cr h
      ·obtain rfl:e=j:=by omega
       exact hD a cr,l⟩
   ·repeat' first|apply vI<;>(simp only[go_sem])|apply vF (by omega)|fail
    refine aQ T _ rfl rfl (hT ⟨?_,?_,?_,?_,?_,?_,?_⟩);·rw[<-f];omega
    ·rw[<-f];omega
    ·rw[<-f];exact⟨z,U⟩
    ·rw[<-f,<-hV];refine adZ.2 fun i j hi hj ep he=> ?_;have A:=aj i hi;have B:=aj j hj;have:=hC i j ep (by omega);rw[A,B] at this;exact this he
    ·rw[<-f];intro x J;rcases adD.1 J with J|J;·obtain⟨d,hd,rfl⟩:=ac9.1 J;exact(iS (P:=fun d=>zM s d.who d.n st/\yC c d) hI d hd).1
     ·obtain⟨d,hd,rfl⟩:=ac9.1 J;exact iS (P:=fun d=>zM s d.who d.n st) (fun i hi=>(hJ i hi).1) d hd
    ·rw[<-f];exact fun d hd=>(iS (P:=fun d=>zM s d.who d.n st/\yC c d) hI d hd).2
    ·rw[<-f];exact fun i hi=>(hJ i hi).2
end
end Go.Proofs.YtlncecohbakleaaGreat
