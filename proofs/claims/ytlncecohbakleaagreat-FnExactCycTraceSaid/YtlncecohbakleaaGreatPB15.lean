/- Texts laid together by a program: rules, contracts and the walk that leads to the law. -/
import Derived.Test.YtlncecohbakleaaGreatPB14
import Derived.Test.YtlncecohbakleaaGreatPB13
import Derived.Test.YtlncecohbakleaaGreatPB12
set_option linter.unusedVariables false
set_option linter.unusedSimpArgs false
set_option linter.unusedSectionVars false
set_option maxRecDepth 100000
set_option maxHeartbeats 8000000
namespace Go.AM
def eM(f:Nat->Int):Nat->Int
 |0=>0
 |n+1=>eM f n+f n
theorem M6{f:Nat->Int}{m:Int}(a:0<=m): ∀n,(∀k,k<n->0<=f k/\f k<=m)->0<=eM f n/\eM f n<=m*n
 |0,_=>by simp[eM]
 |n+1,h=>by
  have b:=M6 a n fun k c=>h k (by omega);have d:=h n (by omega);have e:m*((n+1:Nat):Int)=m*n+m:=by push_cast;rw[Int.mul_add,Int.mul_one]
  simp only[eM];omega
def aiR(i:CIn):Prop:=i.ready.length=3/\i.iP.length=4/\i.send.length=3
end Go.AM
namespace Go.Proofs.YtlncecohbakleaaGreat
open Go Go.AM
attribute [local irreducible] aH wv aC vd wvH
section
variable{H:aA}{nx:Nat}{K:an4}
theorem AK(l:List CIn)(f:FuncId)(caps:List D1)(p:CIn->Bool)(hl:l.length<2^40)(hc:caps.all D1.fV=true)(j: ∀x∈l,∀(H:aA) (nx:Nat) (K:an4),K (dB (p x)) H nx->an3 f (dA (eIn x)::caps.map fun d=>.one (.c d)) H nx K):
 an3 fB [dS (l.map eIn),.one (.c (.clo f caps))] .nil 0 fun r _ _=>r.plain=true/\r=dI (bR p l):=by
 refine aM.mk Tryz.func252 (by kernel_rfl) yP rfl fun Q g=> ?_
 unfold eP
 repeat' first|apply vI<;>(simp only[go_sem])|fail
 (refine aH.loop (α:={k:Nat//k<=l.length/\(∀i,i<k->p (l.getD i default)=false)}) (fun u=>en [(8,dI u.1),(7,dI l.length),(1,.one (.c (.clo f caps))),(0,dS (l.map eIn))]) (fun _=>.nil) _ (fun u=>l.length-u.1) ⟨0,by omega,(by intros;first|trivial|omega)⟩ (aS (akA _) (by repeat' first|exact C1|refine xqI rfl rfl ?_| (with_reducible apply C2)| ((with_reducible apply C0);exact CH (by assumption))| ((with_reducible apply D0);apply CJ)|fail)) ?_);(rintro⟨k,m,hinv⟩ n b)
 by_cases e:k<l.length
 ·have a:l.getD k default∈l:=by simp[List.getD,e]
  repeat' first| (first|apply vI|apply j _ a _ _ _)<;>(simp only[go_sem];try simp (disch:=omega) only[Iw])|apply vT (by omega)| ((refine L0 (fun h=> ?_) (fun h=> ?_))<;>try subst h)|refine⟨by omega,?_⟩|fail
  ·refine aJ g _ rfl rfl (jC (ak3 (F8 (by omega) (by assumption) hinv)))
  · (refine b _ _ _ ⟨k+1,by omega,bT hinv (by assumption)⟩ (by omega) (by(try dsimp only);omega) (aS (akA _) (by repeat' first|exact C1|refine xqI rfl rfl ?_| (with_reducible apply C2)| ((with_reducible apply C0);exact CH (by assumption))| ((with_reducible apply D0);apply CJ)|fail)))
 ·repeat' first|apply vI<;>(simp only[go_sem])|apply vF (by omega)|fail
  ·refine aJ g _ rfl rfl (jC (ak3 (s8 fun i hi=>hinv i (by omega))))
theorem AE{l:List CIn}{f:FuncId}{caps a:List D1}{p:CIn->Bool}{d:D}(hl:l.length<2^40)(hc:caps.all D1.fV=true)(b:CvD H (fun _=>True) id 0 (dS (l.map eIn)) d)(e:CvD H (fun _=>True) id 0 (.one (.c (.clo f caps))) (.one (.c (.clo f a))))(g: ∀x∈l,∀(H:aA) (nx:Nat) (K:an4),K (dB (p x)) H nx->an3 f (dA (eIn x)::caps.map fun d=>.one (.c d)) H nx K)
 (h:K (dI (bR p l)) H nx):an3 fB [d,.one (.c (.clo f a))] H nx K:=
 (AK l f caps p hl hc g).pure rfl (aE ⟨b,e,trivial⟩) fun r hr=>hr▸h
theorem wH(l:List CIn)(f:FuncId)(caps:List D1)(p:CIn->Bool)(hl:l.length<2^40)(hc:caps.all D1.fV=true)(a: ∀x∈l,∀(H:aA) (nx:Nat) (K:an4),K (dB (p x)) H nx->an3 f (dA (eIn x)::caps.map fun d=>.one (.c d)) H nx K):
 an3 eE [dS (l.map eIn),.one (.c (.clo f caps))] .nil 0 fun r _ _=>r.plain=true/\r=dB (decide (0<=bR p l)):=by
 refine aM.mk Tryz.func171 (by kernel_rfl) uI rfl fun Q b=> ?_
 unfold dW
 repeat' first| (first|apply vI|refine AE hl hc (aD rfl) (pO hc) a ?_)<;>(simp only[go_sem])|fail
 all_goals exact aJ b _ rfl rfl rfl
theorem XL{l:List CIn}{f:FuncId}{caps a:List D1}{p:CIn->Bool}{d:D}(hl:l.length<2^40)(hc:caps.all D1.fV=true)(b:CvD H (fun _=>True) id 0 (dS (l.map eIn)) d)(e:CvD H (fun _=>True) id 0 (.one (.c (.clo f caps))) (.one (.c (.clo f a))))(g: ∀x∈l,∀(H:aA) (nx:Nat) (K:an4),K (dB (p x)) H nx->an3 f (dA (eIn x)::caps.map fun d=>.one (.c d)) H nx K)
 (h:K (dB (decide (0<=bR p l))) H nx):an3 eE [d,.one (.c (.clo f a))] H nx K:=
 (wH l f caps p hl hc g).pure rfl (aE ⟨b,e,trivial⟩) fun r hr=>hr▸h
end
end Go.Proofs.YtlncecohbakleaaGreat
namespace Go.AM
theorem Lc{c:Cfg}{a b:List CIn}: ∀{s:CSt},uA c s (a++b)=uA c s a++uA c (kk c s a) b:=by
 induction a with
 |nil=>intro s;rfl
 |cons i a d=>intro s;rw[List.cons_append,uA,uA,Uj,d,akO]
theorem Ej.frame{H H':aA}{nm:Nat->Nat}{s:CSt}{cells:List D1}(h:Ej H nm s cells)(a: ∀k,k<19->H' (nm k)=H (nm k)):Ej H' nm s cells:=by
 obtain⟨⟨wc,hc,f,vc,g,i,j,l,n,o⟩,⟨m,rows,p,q,t⟩,⟨u,b,v,w,x⟩⟩:=h;refine⟨⟨wc,hc,f,vc,g,i,j.frame (a _ (by omega)),l.frame (a _ (by omega)),n.frame (a _ (by omega)),o⟩,⟨m,rows,by rw[a 2 (by omega)];exact p,q,fun k c=> ?_⟩,⟨u,b,by rw[a 3 (by omega)];exact v,w,fun k c=> ?_⟩⟩;·obtain⟨r,d,e⟩:=t k c;exact⟨r,d,e.frame (a _ (by omega)) (a _ (by omega))⟩
 ·obtain⟨r,d,e⟩:=x k c;exact⟨r,d,e.frame (a _ (by omega)) (a _ (by omega))⟩
variable{s:CSt}
theorem ahR{c:Cfg}{l:List CIn}{k:Nat}(a:k<l.length):kk c s (l.take (k+1))=T5 c (l.getD k default) (kk c s (l.take k)):=by rw[eY a,abL];rfl
theorem afB{c:Cfg}{l:List CIn}{k:Nat}(a:k<l.length):uA c s (l.take (k+1))=uA c s (l.take k)++qu c (l.getD k default) (kk c s (l.take k)):=by rw[eY a,Lc];simp[uA]
theorem COk.sz{c:Cfg}(d:bI c)(h:COk c s):CSz s:=by
 obtain⟨e,_,f,_⟩:=h.atm;have g:s.told.length<=36:=by have:=h.st.lens d;simp only[dH] at this;omega
 have i: ∀j∈s.told,j.rsp.data.length<2^21:=fun j b=>by have:=(h.st.vq j (alT _ b)).1;unfold jZ at this;omega
 refine⟨h.pl,h.sl,by omega,by omega,⟨by omega,i⟩,fun k a=> ?_,fun k a=> ?_⟩;·have l:=(h.port k a).ql;have m:=(h.port k a).ol;omega
 ·have l:=(h.slv k a).pl;have m:=(h.slv k a).dl;refine⟨by omega,by omega,fun j b=> ?_⟩;have:=((h.slv k a).rsp j b).1;unfold jZ at this;omega
theorem abI{c:Cfg}{i:CIn}:(qu c i s).length<=10:=by have a:(jV c s (V0 c i s)).length<=3:=alJ Go.Proofs.YtlncecohbakleaaGreat.Z2 Go.Proofs.YtlncecohbakleaaGreat.R4;have b:(jV c (QY c i s) (PL c i (QY c i s))).length<=4:=alJ Go.Proofs.YtlncecohbakleaaGreat.Z2 Go.Proofs.YtlncecohbakleaaGreat.R4;have d:(jV c (X6 c i s) (yt c i (X6 c i s))).length<=3:=alJ Go.Proofs.YtlncecohbakleaaGreat.Z2 Go.Proofs.YtlncecohbakleaaGreat.R4;rw[Go.Proofs.YtlncecohbakleaaGreat.Qm];simp only[akG,List.length_nil];omega
theorem Ow{c:Cfg}: ∀{l:List CIn} {s:CSt},(uA c s l).length<=10*l.length
 | [],_=>by simp[uA]
 |i::l,s=>by have a:=Ow (c:=c) (l:=l) (s:=T5 c i s);have b:=abI (c:=c) (i:=i) (s:=s);rw[uA,akG,List.length_cons];omega
variable{H:aA}{nx:Nat}
theorem aC.aeH{P:Program}{f:FuncId}{args args':List D}{K:an4}(H':aA)(F:Nat->Prop)(hl:args.length=args'.length)(m: ∀(i:Nat) (k d:D),args'[i]?=some k->args[i]?=some d->CvD H F id nx k d)(n:CvX F nx H H')(h:aC P f args' H' nx K):aC P f args H nx K:=by
 refine⟨h.1,fun c vs hs l hlen e=> ?_⟩;obtain⟨p,q⟩:=Fy hs (Step.refl c H) l n;refine(h.2 (c.conv nx nx id (c.frI H F)) vs p (fun i hi=> ?_) (by omega) fun i d v a g=> ?_).mono ?_
 ·rcases hi with⟨_,hi⟩|⟨a,g,j⟩
  ·exact l i hi
  ·omega
 ·have hi:i<args.length:=by have:=(akE.1 a).1;omega
  exact DL hs (fun b h=>.inl h) (fun id o a g j=>.inr ⟨id,o,a,g,j,rfl⟩) (fun _ _=>rfl) (m i d _ a (akD hi)) (e i _ v (akD hi) g)
 ·rintro x B ⟨v,c2,r,H2,s,rfl,rfl,t,u,w,y,z,A⟩;refine⟨v,c2,r,H2,s,rfl,rfl,t,q.trans u,fun i hi=> ?_,y,z,A⟩;rcases w i hi with h|h
  ·rcases h with⟨_,hi⟩|⟨a,g,j⟩
   ·exact .inl hi
   ·omega
  ·exact .inr h
open Classical in
noncomputable def without(F:Nat->Prop)(H:aA):aA:=fun j=>if F j then none else H j
theorem xJ{F:Nat->Prop}{j:Nat}(h: ¬F j):without F H j=H j:=by unfold without;rw[if_neg h]
theorem JP{F:Nat->Prop}:CvX F nx H (without F H):=fun j x a=>by
 by_cases h:F j;·unfold without at a;rw[if_pos h] at a;cases a
 ·rw[xJ h] at a;exact⟨h,x,a,.inl rfl⟩
theorem aH.ae1{P:Program}{T:Nat}{e:Env}{Q:AQ}{zs:List AC}(h: ∀G,G=H->aH P T zs e G nx Q):aH P T zs e H nx Q:=h H rfl
def Own{α:Type}(enc:α->List D1)(n:Nat)(H:aA)(b cap:Nat)(l:List α):Prop:=∃m,H b=some ⟨n,m,l.map enc⟩/\l.length<=cap/\cap<=m
variable{cap:Nat}
theorem Own.of{α:Type}{enc:α->List D1}{n b:Nat}{l:List α}{H':aA}(h:Own enc n H b cap l)(he:H' b=H b):Own enc n H' b cap l:=by obtain⟨m,a,c⟩:=h;exact⟨m,he.trans a,c⟩
theorem Own.frz{α:Type}{enc:α->List D1}{n b nh:Nat}{l:List α}{F:Nat->Prop}{σ:Nat->Nat}(h:Own enc n H b cap l)(he: ∀x,(enc x).length=n/\(enc x).all D1.fV=true)(a:F b):Cv1 H F σ nh (.isl (l.map enc)) (.osl n b 0 l.length cap):=by obtain⟨m,c,d,e⟩:=h;exact iN he c rfl d a
theorem um1{b k i:Nat}{A B:aA}(h:i≠b+k):dU b [k] A B i=B i:=by unfold dU;rw[if_neg (by simp;omega)]
theorem aeP{b k:Nat}{A B:aA}:dU b [k] A B (b+k)=A (b+k):=by unfold dU;rw[if_pos (by simp)]
theorem mk1{b k i:Nat}{A:aA}(h:i≠b+k):msk b [k] A i=A i:=by unfold msk;rw[if_neg (by simp;omega)]
structure AF(X:Nat->Prop)(H:aA)(nx:Nat)(nm:Nat->Nat)(s:CSt)(cells:List D1):Prop where
 rep:Ej H nm s cells
 names:Names X nx nm
 x: ∀id,X id->id<nx
variable{nm:Nat->Nat}{cells:List D1}
theorem AF.box{X:Nat->Prop}{H':aA}{nx' i0:Nat}(h:AF X H nx nm s cells)(f:nx<=i0)(hi:i0<nx')(c:H' i0=some ⟨5,1,[cells]⟩)(d: ∀id,id<nx->H' id=H id):Rep X H' nx' i0 nm s:=⟨⟨cells,c,h.rep.frame fun k a=>d _ (h.names.lt k a)⟩,h.names.mono (by omega),fun k a he=>by have:=h.names.lt k a;omega,⟨hi,fun e=>by have:=h.x _ e;omega⟩,fun id b=>by have:=h.x id b;omega⟩
theorem AF.frame{X:Nat->Prop}{H H':aA}{nx nx':Nat}{nm:Nat->Nat}{s:CSt}{cells:List D1}(h:AF X H nx nm s cells)(c:nx<=nx')(d: ∀id,id<nx->¬X id->H' id=H id):AF X H' nx' nm s cells:=⟨h.rep.frame fun k b=>d _ (h.names.lt k b) (h.names.av k b),h.names.mono c,fun id a=>by have:=h.x id a;omega⟩
theorem AF.tn{X:Nat->Prop}{G:aA}(h:AF X H nx nm s cells)(hp:s.bE.length=3)(hs:s.bM.length=4)(a: ∀id,id<nx->G id=H id):CvD G (fun _=>True) id 0 (dA (dY s)) (dA cells):=sR (Im ((h.rep.frame fun k b=>a _ (h.names.lt k b)).So (fun _ _=>trivial) hp hs))
theorem AF.len{X:Nat->Prop}(h:AF X H nx nm s cells):cells.length=5:=by obtain⟨⟨_,_,_,_,_,rfl,_⟩,_,_⟩:=h.rep;rfl
theorem AF.get{X:Nat->Prop}(h:AF X H nx nm s cells):
 ∃wc hc a vc d mp b l c,cells=[.osl 1 (nm 0) 0 s.words.length wc,.osl 1 (nm 1) 0 s.holds.length hc,.osl 4 (nm 2) 0 3 a,.osl 3 (nm 3) 0 4 vc,.osl 5 (nm 4) 0 s.told.length d]/\H (nm 2)=some ⟨4,mp,b⟩/\H (nm 3)=some ⟨3,l,c⟩/\
  nN H 1 (nm 0) 0 s.words.length wc (s.words.map aG)/\nN H 1 (nm 1) 0 s.holds.length hc (s.holds.map aG)/\nN H 5 (nm 4) 0 s.told.length d (s.told.map aP)/\3<=a/\4<=vc/\b.length=3/\c.length=4/\
  (∀k,k<3->∃e f g,b[k]?=some [cI (aL s k).next,.osl 1 (nm (5+k)) e (aL s k).queue.length f,.osl 3 (nm (8+k)) 0 (aL s k).out.length g,cI (aL s k).last]/\nN H 1 (nm (5+k)) e (aL s k).queue.length f ((aL s k).queue.map aG)/\nN H 3 (nm (8+k)) 0 (aL s k).out.length g ((aL s k).out.map eCJ))/\
  ∀k,k<4->∃i a do_ j,c[k]?=some [.osl 3 (nm (11+k)) i (aU s k).pipe.length a,.osl 5 (nm (15+k)) do_ (aU s k).done.length j,cI (aU s k).last]/\nN H 3 (nm (11+k)) i (aU s k).pipe.length a ((aU s k).pipe.map eCJ)/\nN H 5 (nm (15+k)) do_ (aU s k).done.length j ((aU s k).done.map aP):=by
 obtain⟨⟨wc,hc,a,vc,d,rfl,p,q,t,u,v⟩,⟨mp,b,w,x,y⟩,⟨l,c,z,A,B⟩⟩:=h.rep
 refine⟨wc,hc,a,vc,d,mp,b,l,c,rfl,w,z,p,q,t,u,v,x,A,fun k m=> ?_,fun k m=> ?_⟩
 ·obtain⟨r,n,⟨e,f,g,rfl,o⟩⟩:=y k m;exact⟨e,f,g,n,o⟩
 ·obtain⟨r,n,⟨i,a,do_,j,rfl,o⟩⟩:=B k m;exact⟨i,a,do_,j,n,o⟩
theorem Rep.ajG{X:Nat->Prop}{H':aA}{nx' i0:Nat}(h:Rep X H nx i0 nm s)(who st:Nat)(b:Nat->Nat)(s':CSt)(u:nx<=nx')(v:Names X nx' b)
 (g: ∀k,k<19->b k=nm k\/((k=4\/k=5+who\/k=8+who\/k=11+st\/k=15+st)/\nx<=b k))
 (e: ∀id,id<nx->id≠i0->(∀k,k<5\/k=5+who\/k=8+who\/k=11+st\/k=15+st->k<19->id≠nm k)->H' id=H id)
 (w: ∃wc hc p vc q,H' i0=some ⟨5,1,[kh b s' wc hc p vc q]⟩/\nN H' 1 (b 0) 0 s'.words.length wc (s'.words.map aG)/\nN H' 1 (b 1) 0 s'.holds.length hc (s'.holds.map aG)/\nN H' 5 (b 4) 0 s'.told.length q (s'.told.map aP)/\3<=p/\4<=vc)
 (y: ∃m rows m0 c,H (nm 2)=some ⟨4,m0,c⟩/\H' (nm 2)=some ⟨4,m,rows⟩/\rows.length=3/\(∀k,k<3->k≠who->rows[k]?=c[k]?)/\(who<3->∃r,rows[who]?=some r/\IU H' (b (5+who)) (b (8+who)) (aL s' who) r))
 (z: ∃m rows m0 c,H (nm 3)=some ⟨3,m0,c⟩/\H' (nm 3)=some ⟨3,m,rows⟩/\rows.length=4/\(∀k,k<4->k≠st->rows[k]?=c[k]?)/\(st<4->∃r,rows[st]?=some r/\SK H' (b (11+st)) (b (15+st)) (aU s' st) r))
 (hw:who<3\/who=14) (hs:st<4\/st=8) (hp: ∀k,k<3->k≠who->aL s' k=aL s k) (A: ∀k,k<4->k≠st->aU s' k=aU s k):Rep X H' nx' i0 b s'/\ ∀id,X id->H' id=H id:=by
 have l:=h.names.av
 have n:=h.i0
 have o:=h.names.lt
 refine⟨h.upd (who:=who) (st:=st) u v (fun k a=> ?_) (fun k a i B C D E=> ?_) (fun k E a i B C D=> ?_) w y z hw hs hp A,fun id d=>e id (h.x id d) (fun he=>n.2 (he▸d)) fun k _ g he=>l k g (he▸d)⟩
 ·rcases g k a with i|i;·rw[i];exact h.ne k a
  ·omega
 ·rcases g k a with t|t;·exact t
  ·omega
 ·refine e _ (o k a) (h.ne k a) fun j F f he=> ?_;have:=h.names.inj k j a f he;omega
theorem Ku{n:Nat}{R:List (List D1)}(h:Gs n R):Gs n (R.drop 1):=fun r hr=>h r (anM hr)
theorem ae6{F:Nat->Prop}{a e:D}(h:CvD H F id nx e a): ∀(i:Nat) (b d:D),[e][i]?=some b->[a][i]?=some d->CvD H F id nx b d:=by
 intro i b d c f
 match i with
 |0=>simp at c f;subst c;subst f;exact h
 |i+1=>simp at c
theorem aiN{F:Nat->Prop}{a g b:D}(h:CvD H F id nx g a)(j:b.imm=true): ∀(i:Nat) (f d:D),[g,b][i]?=some f->[a,b][i]?=some d->CvD H F id nx f d:=by
 intro i f d c e
 match i with
 |0=>simp at c e;subst c;subst e;exact h
 |1=>simp at c e;subst c;subst e;exact aD j
 |i+2=>simp at c
theorem nN.cvD{F:Nat->Prop}{n a off len:Nat}{R:List (List D1)}(h:nN H n a off len cap R)(hi:Gs n R)(b:F a):CvD H F id nx (dS R) (.one (.c (.osl n a off len cap))):=.frz (h.frz hi b)
theorem nN.aiQ{n a off len:Nat}{R:List (List D1)}(h:nN H n a off len cap R)(d:0<len):nN H n a (off+1) (len-1) (cap-1) (R.drop 1):=by obtain⟨m,rows,b,c,e,f,g,i⟩:=h.ex;exact⟨m,rows,b,by rw[<-c,alX],by omega,by rw[akS];omega,by omega,by omega⟩
theorem aa6{l:List eZ}{n:Int}(h:l.Pairwise fun a b=>a.n<b.n)(he: ∃j∈l,j.n=n):l.filter (fun j=>decide (¬j.n=n))=W1 l n:=by
 induction l with
 |nil=>obtain⟨j,c,_⟩:=he;simp at c
 |cons x l o=>
  rw[alD] at h;by_cases d:x.n=n
  ·have i: ∀j∈l,decide (¬j.n=n)=true:=fun j c=>by have:=h.1 j c;exact decide_eq_true (by omega)
   rw[am0,if_neg (by simpa using d),List.filter_eq_self.2 i];unfold W1 K9;rw[show bR (isC n) (x::l)=0 by unfold bR;rw[List.findIdx?_cons,if_pos (show isC n x=true from decide_eq_true d)];rfl];rfl
  ·obtain⟨j,c,f⟩:=he;have g: ∃j∈l,j.n=n:=⟨j,by rcases akK.1 c with rfl|p;exact absurd f d;exact p,f⟩
   have m:0<=bR (isC n) l:=eA.2 (by obtain⟨j,q,r⟩:=g;exact⟨j,q,decide_eq_true r⟩);rw[am0,if_pos (by simpa using d),o h.2 g];unfold W1 K9
   have e:bR (isC n) (x::l)=bR (isC n) l+1:=by
    unfold bR at m ⊢;rw[List.findIdx?_cons,if_neg (show ¬isC n x=true from fun h=>d (of_decide_eq_true h))]
    cases i:List.findIdx? (isC n) l with
    |none=>rw[i] at m;dsimp only at m;omega
    |some k=>rfl
   rw[e,show (bR (isC n) l+1).toNat=(bR (isC n) l).toNat+1 by omega];rfl
section
variable {H : aA} {F : Nat -> Prop} {σ : Nat -> Nat} {nh : Nat} {R R' S S' : List (List D1)} {r r' : List D1}
end
end Go.AM
namespace Go.Proofs.YtlncecohbakleaaGreat
open Go Go.AM
attribute [local irreducible] aH wv aC vd wvH
theorem Sz:bA an2 qh Tryz.f28 BP M9:=bA.mk Tryz.func28 (by kernel_rfl) jt
section
variable{H:aA}{nx:Nat}{K:an4}
theorem kS{l:List Job}(hl:l.length<2^21)(w: ∀j∈l,j.rsp.data.length<2^21)
 (h: ∀H' nx' b cap,nx<=b->b<nx'->Own aP 5 H' b cap l->(∀id,id<nx->H' id=H id)->K (.one (.c (.osl 5 b 0 l.length cap))) H' nx'):an3 fY [dS (l.map aP)] H nx K:=by
 refine bA.mk Tryz.func193 (by kernel_rfl) Q3 rfl fun Q x=> ?_
 unfold nX
 repeat' first|apply vI<;>(simp only[go_sem,nL])|fail
 refine aH.cE (β:=Nat×Nat×Nat) (fun u=>en [(4,dI u.1),(3,.one (.c (.osl 5 u.2.1 0 u.1 u.2.2))),(0,dS (l.map aP))])
  (fun u H1 a=>u.1<=l.length/\(∃m,H1 u.2.1=some ⟨5,m,(l.take u.1).map aP⟩/\u.1<=u.2.2/\u.2.2<=m)/\(nx<=u.2.1/\u.2.1<a)/\ ∀id,id<nx->H1 id=H id)
  (fun u=>l.length-u.1) (0,nx+1,0) ⟨noF,_,by repeat' first|exact C1|refine xqI rfl rfl ?_| (with_reducible apply C2)| ((with_reducible apply C0);exact CC)| ((with_reducible apply D0);apply CJ)|fail,aF,by dsimp only;omega,⟨0,by simp only[aA.set,if_true];rfl,by dsimp only;omega,by dsimp only;omega⟩,by dsimp only;omega,fun id d=>by simp only[aA.set,show ¬id=nx+1 by omega,if_false]⟩ ?_
 rintro⟨k,b,cap⟩ H1 a y ⟨z,⟨m,i,r,s⟩,⟨e,n⟩,f⟩ C o
 dsimp only at z i r s e n
 have p:(l.take k).take k=l.take k:=akM (by simp;omega)
 have t:bH a [b]:=AM.apart (by simp) (by simp;omega)
 simp only[bH,cU] at t
 by_cases g:k<l.length
 ·have hm:=w _ (bL g);have A:b<a+(4+2):=by omega
  repeat' first| (first|apply vI|apply ay hm)<;>(simp only[go_sem,p,aaE,i,t,nL];try simp (disch:=omega) only[Iw])|apply vT (by omega)| (with_reducible first|refine fun(cap:Nat) (v:_<=cap)=> ?_|refine fun(B:_<=cap)=> ?_)|refine⟨by omega,?_⟩| (refine⟨by(rw[ak1];omega),?_⟩)|fail
  refine o _ _ _ (k+1,a+23,cap) noF _ (by omega) (by dsimp only;omega) (by dsimp only;repeat' first|exact C1|refine xqI rfl rfl ?_|refine xqO (by omega) rfl rfl (by rfl) ?_|fail) aF ⟨by dsimp only;omega,⟨cap,by rw[eY g];exact aA.aI,by dsimp only;omega,akA _⟩,by dsimp only;omega,fun id d=> ?_⟩;rw[aA.aB (by omega),aA.aB (by omega),aA.gK (by omega)];exact f id d
 ·repeat' first|apply vI<;>(simp only[go_sem])|apply vF (by omega)|fail
  have q:k=l.length:=by omega
  subst q;refine x _ _ _ _ _ (.inr rfl) rfl (h _ _ b cap e (by omega) ⟨m,?_,r,s⟩ f);rw[i,alU]
theorem ss{w:List Int}(hl:w.length<2^21)(h: ∀H' nx' b cap,nx<=b->b<nx'->Own aG 1 H' b cap w->(∀id,id<nx->H' id=H id)->K (dA [.osl 1 b 0 w.length cap]) H' nx'):an3 uS [dA [.isl (w.map aG)]] H nx K:=by
 refine bA.mk Tryz.func269 (by kernel_rfl) RR rfl fun Q c=> ?_;unfold nW;repeat' first|apply vI<;>(simp only[go_sem,nL])| (with_reducible first|refine fun(cap:Nat) (a:_<=cap)=> ?_|refine fun(d:_<=cap)=> ?_)|refine⟨by omega,?_⟩|fail
 refine c _ _ _ _ _ (.inr rfl) (kD (m:=1) rfl (by simp only[aA.set,akW,Nat.reduceEqDiff,if_false,if_true]) rfl) (h _ _ (nx+2+3) cap (by omega) (by omega) ⟨cap,by simp only[aA.set,akB,akW,Nat.reduceEqDiff,Nat.reduceAdd,if_false,if_true],by assumption,akA _⟩ fun id e=> ?_);rw[aA.aB (by omega),aA.aB (by omega),aA.aB (by omega),aA.gK (by omega)]
theorem P8{w u:List Int}(hl:w.length<2^21)(hu:u.length<2^21)(h: ∀H' nx' a e c0 c1,nx<=e->e<a->a<nx'->Own aG 1 H' a c0 w->Own aG 1 H' e c1 u->(∀id,id<nx->H' id=H id)->K (dA [.osl 1 a 0 w.length c0,.osl 1 e 0 u.length c1]) H' nx'):an3 mO [dA [.isl (w.map aG),.isl (u.map aG)]] H nx K:=by
 refine bA.mk Tryz.func192 (by kernel_rfl) Q9 rfl fun Q k=> ?_;unfold nQ;repeat' first| (first|apply vI|refine ss hl (fun H1 l a c0 n o p b=> ?_))<;>(simp only[go_sem,nL])|fail
 obtain⟨G,c⟩: ∃G,G=dU (nx+2) [3] (((H.set nx ⟨2,1,[[.isl (w.map aG),.isl (u.map aG)]]⟩).set (nx+1) ⟨2,1,[[.osl 0 0 0 0 0,.osl 0 0 0 0 0]]⟩).set (nx+5) ⟨1,0,[]⟩) H1:=⟨_,rfl⟩
 rw[<-c];have f:G nx=some ⟨2,1,[[.isl (w.map aG),.isl (u.map aG)]]⟩:=by rw[c,um1 (by omega),b _ (by omega),aA.aB (by omega)];exact aA.aI
 have g:G (nx+1)=some ⟨2,1,[[.osl 0 0 0 0 0,.osl 0 0 0 0 0]]⟩:=by rw[c,um1 (by omega),b _ (by omega)];exact aA.aI
 have i:G (nx+5)=some ⟨1,0,[]⟩:=by rw[c,aeP];exact aA.aI
 have q:Own aG 1 G a c0 w:=p.of (by rw[c,um1 (by omega)]);have r: ∀id,id<nx->G id=H id:=fun id d=>by rw[c,um1 (by omega),b _ (by omega),aA.aB (by omega),aA.aB (by omega),mk1 (by omega)]
 clear c;have m0: ∀G:aA,msk (nx+2) [3] G nx=G nx:=fun G=>mk1 (by omega);refine⟨fun _=>by rw[m0,f];rfl,?_⟩;simp only[go_sem,f,g,i,m0,nL];repeat' first|apply vI<;>(simp only[go_sem,f,g,i,m0,nL])| (with_reducible first|refine fun(cap:Nat) (j:_<=cap)=> ?_|refine fun(s:_<=cap)=> ?_)|refine⟨by omega,?_⟩|fail
 exact k _ _ _ _ _ (.inr rfl) (kD (m:=1) rfl aA.aI rfl) (h _ _ a (nx+8) c0 cap (by omega) (by omega) (by omega) (q.of (by rw[aA.aB (by omega),aA.aB (by omega),aA.gK (by omega)])) ⟨cap,by rw[aA.aB (by omega)];exact aA.aI,by assumption,akA _⟩ fun id d=>by rw[aA.aB (by omega),aA.aB (by omega),aA.gK (by omega)];exact r id d)
theorem sf{s:TSt}(c:Fu s)(h: ∀H' nx' f g w l n o c0 c1 c2 x y z,nx<=w->w<g->g<f->f<l->l<n->n<o->o<nx'->Own aG 1 H' f c0 s.words->Own aG 1 H' g c1 s.holds->Own aG 1 H' w c2 s.asked->Own aP 5 H' l x s.wait->Own aP 5 H' n y s.done->Own aP 5 H' o z s.told->(∀id,id<nx->H' id=H id)->
 K (dA [.osl 1 f 0 s.words.length c0,.osl 1 g 0 s.holds.length c1,.osl 1 w 0 s.asked.length c2,.osl 5 l 0 s.wait.length x,.osl 5 n 0 s.done.length y,.osl 5 o 0 s.told.length z]) H' nx'):an3 K1 [dA (eSt s)] H nx K:=by
 have B: ∀j∈s.wait,j.rsp.data.length<2^21:=fun j p=>c.data j (by simp[p])
 have C: ∀j∈s.done,j.rsp.data.length<2^21:=fun j p=>c.data j (by simp[p])
 have D: ∀j∈s.told,j.rsp.data.length<2^21:=fun j p=>c.data j (by simp[p])
 have U:=c.asked
 refine bA.mk Tryz.func218 (by kernel_rfl) yn rfl fun Q V=> ?_
 unfold yE
 repeat' first| (first|apply vI|refine P8 c.words c.holds (fun H1 W f g c0 c1 X Y Z q r d=> ?_))<;>(simp only[go_sem,nL])|fail
 obtain⟨G,i⟩: ∃G,G=dU (nx+2) [3] (((H.set nx ⟨6,1,[eSt s]⟩).set (nx+1) ⟨6,1,[[.osl 0 0 0 0 0,.osl 0 0 0 0 0,.osl 0 0 0 0 0,.osl 0 0 0 0 0,.osl 0 0 0 0 0,.osl 0 0 0 0 0]]⟩).set (nx+5) ⟨1,0,[]⟩) H1:=⟨_,rfl⟩
 rw[<-i]
 have A:G nx=some ⟨6,1,[eSt s]⟩:=by rw[i,um1 (by omega),d _ (by omega),aA.aB (by omega)];exact aA.aI
 have E:G (nx+1)=some ⟨6,1,[[.osl 0 0 0 0 0,.osl 0 0 0 0 0,.osl 0 0 0 0 0,.osl 0 0 0 0 0,.osl 0 0 0 0 0,.osl 0 0 0 0 0]]⟩:=by rw[i,um1 (by omega),d _ (by omega)];exact aA.aI
 have O:G (nx+5)=some ⟨1,0,[]⟩:=by rw[i,aeP];exact aA.aI
 have t:Own aG 1 G f c0 s.words:=q.of (by rw[i,um1 (by omega)])
 have u:Own aG 1 G g c1 s.holds:=r.of (by rw[i,um1 (by omega)])
 have P: ∀id,id<nx->G id=H id:=fun id b=>by rw[i,um1 (by omega),d _ (by omega),aA.aB (by omega),aA.aB (by omega),mk1 (by omega)]
 clear i q r d
 have m0: ∀G:aA,msk (nx+2) [3] G nx=G nx:=fun G=>mk1 (by omega)
 simp only[m0,A]
 refine⟨⟨fun _=>rfl,fun _=>rfl,fun _=>rfl,fun _=>rfl⟩,?_⟩
 simp only[go_sem,A,E,O,nL]
 refine⟨by omega,fun c2 F _=> ?_⟩
 refine kS c.wait B fun H2 I l x p1 p2 o3 a=> ?_
 have R:H2 nx=some ⟨6,1,[eSt s]⟩:=by rw[a _ (by omega),aA.aB (by omega),aA.gK (by omega)];exact A
 have k1:H2 (nx+1)=some ⟨6,1,[[.osl 0 0 0 0 0,.osl 0 0 0 0 0,.osl 0 0 0 0 0,.osl 0 0 0 0 0,.osl 0 0 0 0 0,.osl 0 0 0 0 0]]⟩:=by rw[a _ (by omega),aA.aB (by omega),aA.gK (by omega)];exact E
 have J:Own aG 1 H2 f c0 s.words:=t.of (by rw[a _ (by omega),aA.aB (by omega),aA.gK (by omega)])
 have L:Own aG 1 H2 g c1 s.holds:=u.of (by rw[a _ (by omega),aA.aB (by omega),aA.gK (by omega)])
 have M:Own aG 1 H2 (nx+8) c2 s.asked:=⟨c2,by rw[a _ (by omega)];exact aA.aI,F,akA _⟩
 have kf: ∀id,id<nx->H2 id=H id:=fun id b=>by rw[a _ (by omega),aA.aB (by omega),aA.gK (by omega)];exact P id b
 clear A E O t u P a
 simp only[go_sem,R]
 refine kS c.done C fun H3 aa n y p3 p4 o4 k=> ?_
 have l0:H3 nx=some ⟨6,1,[eSt s]⟩:=by rw[k _ (by omega)];exact R
 simp only[go_sem,l0]
 refine kS c.told D fun N ab o z p5 p6 o5 e=> ?_
 have S:N nx=some ⟨6,1,[eSt s]⟩:=by rw[e _ (by omega)];exact l0
 have T:N (nx+1)=some ⟨6,1,[[.osl 0 0 0 0 0,.osl 0 0 0 0 0,.osl 0 0 0 0 0,.osl 0 0 0 0 0,.osl 0 0 0 0 0,.osl 0 0 0 0 0]]⟩:=by rw[e _ (by omega),k _ (by omega)];exact k1
 have v: ∀id,id<I->N id=H2 id:=fun id b=>by rw[e _ (by omega),k _ (by omega)]
 simp only[go_sem,S,T]
 repeat' first|apply vI<;>(simp only[go_sem,S,T])|fail
 exact V _ _ _ _ _ (.inr rfl) (kD (m:=1) rfl aA.aI rfl) (h _ _ f g (nx+8) l n o c0 c1 c2 x y z (by omega) (by omega) (by omega) (by omega) (by omega) (by omega) (by omega)
  (J.of (by rw[aA.aB (by omega),v _ (by omega)])) (L.of (by rw[aA.aB (by omega),v _ (by omega)])) (M.of (by rw[aA.aB (by omega),v _ (by omega)])) (o3.of (by rw[aA.aB (by omega),v _ (by omega)])) (o4.of (by rw[aA.aB (by omega),e _ (by omega)])) (o5.of (by rw[aA.aB (by omega)])) fun id b=>by rw[aA.aB (by omega),v _ (by omega)];exact kf id b)
end
end Go.Proofs.YtlncecohbakleaaGreat
namespace Go.Proofs.YtlncecohbakleaaGreat.B7
open Go Go.AM Go.Proofs.YtlncecohbakleaaGreat
section
variable{H:aA}{nx:Nat}{K:an4}
end
end Go.Proofs.YtlncecohbakleaaGreat.B7
namespace Go.Proofs.YtlncecohbakleaaGreat
open Go Go.AM
attribute [local irreducible] aH wv aC vd wvH
section
variable{H:aA}{nx:Nat}{K:an4}
def bo(n:Int)(l:List eZ):List eZ:=l.filter fun j=>decide (¬j.n=n)
theorem Sd{n:Int}{l:List eZ}{k:Nat}(a:k<l.length):bo n (l.take (k+1))=if (l.getD k default).n=n then bo n (l.take k) else bo n (l.take k)++[l.getD k default]:=by
 unfold bo;rw[eY a,List.filter_append];by_cases h:(l.getD k default).n=n;·rw[if_pos h,am0,if_neg (by simpa using h)];simp
 ·rw[if_neg h,am0,if_pos (by simpa using h)];simp
theorem Bc{l:List eZ}{n:Int}(hl:l.length<2^21)
 (h: ∀H' nx' b cap,nx<=b->b<nx'->Own eCJ 3 H' b cap (bo n l)->(∀id,id<nx->H' id=H id)->K (.one (.c (.osl 3 b 0 (bo n l).length cap))) H' nx'):an3 KV [dS (l.map eCJ),dI n] H nx K:=by
 refine bA.mk Tryz.func208 (by kernel_rfl) yc rfl fun Q C=> ?_
 unfold z0
 repeat' first|apply vI<;>(simp only[go_sem,nL])|fail
 refine aH.cE (β:=Nat×Nat×Nat) (fun u=>en [(6,dI u.1),(5,.one (.c (.osl 3 u.2.1 0 (bo n (l.take u.1)).length u.2.2))),(1,dI n),(0,dS (l.map eCJ))])
  (fun u H1 a=>u.1<=l.length/\Own eCJ 3 H1 u.2.1 u.2.2 (bo n (l.take u.1))/\(nx<=u.2.1/\u.2.1<a)/\ ∀id,id<nx->H1 id=H id)
  (fun u=>l.length-u.1) (0,nx+1,0) ⟨noF,_,by repeat' first|exact C1|refine xqI rfl rfl ?_| (with_reducible apply C2)| ((with_reducible apply C0);exact CC)| ((with_reducible apply D0);apply CJ)|fail,aF,by dsimp only;omega,⟨0,by simp only[aA.set,if_true];rfl,akA _,akA _⟩,by dsimp only;omega,fun id f=>by simp only[aA.set,show ¬id=nx+1 by omega,if_false]⟩ ?_
 rintro⟨k,b,z⟩ H1 a D ⟨E,⟨m,g,o,q⟩,⟨i,s⟩,d⟩ G j
 dsimp only at E g o q i s
 have A:bH a [b]:=AM.apart (by simp) (by simp;omega)
 simp only[bH,cU] at A
 by_cases t:k<l.length
 ·obtain⟨x,v⟩: ∃x,l.getD k default=x:=⟨_,rfl⟩
  have hs:=Sd (n:=n) t;rw[v] at hs;have w: ∀r:List eZ,r.take r.length=r:=fun r=>alU;by_cases p:x.n=n
  ·rw[if_pos p] at hs;have e:(x.n=n)=True:=eq_true p;repeat' first|apply vI<;>(simp only[go_sem,v,e,nL];try simp (disch:=omega) only[Iw])|apply vT (by omega)|refine⟨by omega,?_⟩|fail
   exact j _ _ _ (k+1,b,z) noF _ (by omega) (by dsimp only;omega) (by dsimp only;rw[hs];repeat' first|exact C1|refine xqI rfl rfl ?_|refine xqO (by omega) rfl rfl (by rfl) ?_|fail) aF ⟨by dsimp only;omega,by dsimp only;rw[hs];exact⟨m,g,o,q⟩,by dsimp only;omega,d⟩
  ·rw[if_neg p] at hs;have e:(x.n=n)=False:=eq_false p;have hle:(bo n (l.take k)).length<=k:=alJ (List.length_filter_le _ _) (by rw[ak1];omega);repeat' first|apply vI<;>(simp only[go_sem,v,e,w,g,A,nL];try simp (disch:=omega) only[Iw])|apply vT (by omega)| (with_reducible first|refine fun(cap:Nat) (B:_<=cap)=> ?_|refine fun(F:_<=cap)=> ?_)|refine⟨by omega,?_⟩|fail
   refine j _ _ _ (k+1,a+17,cap) noF _ (by omega) (by dsimp only;omega) (by dsimp only;rw[hs,akG,List.length_singleton];repeat' first|exact C1|refine xqI rfl rfl ?_|refine xqO (by omega) rfl rfl (by rfl) ?_|fail) aF ⟨by dsimp only;omega,by dsimp only;rw[hs];exact⟨cap,aA.aI,by rw[akG,List.length_singleton];omega,akA _⟩,by dsimp only;omega,fun id f=> ?_⟩;rw[aA.aB (by omega),aA.aB (by omega),aA.gK (by omega)];exact d id f
 ·repeat' first|apply vI<;>(simp only[go_sem])|apply vF (by omega)|fail
  have y:k=l.length:=by omega
  subst y;rw[alU] at g o;rw[show (bo n (l.take l.length))=bo n l by rw[alU]];exact C _ _ _ _ _ (.inr rfl) rfl (h _ _ b z i (by omega) ⟨m,g,o,q⟩ d)
end
theorem nU{H:aA}{e:Env}{t n id m:Nat}{cs:List D1}(he:e t= .one (.c (.ptr n id 0 0)))(a:H id=some ⟨n,m,[cs]⟩)(hl:cs.length=n):AJ H e [.cell t n true]=some (dA cs):=by subst hl;simp[AJ,nz,he,vS,a,mkV]
section
variable{H:aA}{nx:Nat}{K:an4}
variable{cells:List D1}
theorem Bi{X:Nat->Prop}{c:Cfg}{i:CIn}{s:CSt}{k:Nat}{nm:Nat->Nat}(hb:bI c)(hs:COk c s)(hk:k<3)(hr:i.ready.getD k default=true)(B:AF X H nx nm s cells)
 (h: ∀H' nx' f t,nx<=nx'->AF X H' nx' f (za c s (AB i s k)) t->(∀id,X id->H' id=H id)->K (dA t) H' nx'):
 an3 K5 [dA cells,dI k] H nx K:=by
 refine bA.mk Tryz.func121 (by kernel_rfl) tq rfl fun Q hQ=> ?_
 unfold zJ
 have hX:=B.x
 obtain⟨wc,hc,pc,vc,tc,mp,rp,mv,rv,M,g1,g2,g3,g4,g5,g6,g7,g8,g9,ga,gb⟩:=B.get
 subst M
 repeat' first| (first|apply vI|refine zq hs hk hr (B.tn hs.pl hs.sl (fun id g=>by rw[aA.aB (by omega),aA.aB (by omega)])) (fun r cx=> ?_))<;>(simp only[go_sem,nL])|fail
 generalize hG:aA.set (aA.set H nx _) (nx+1) _=G
 have f0:G nx=some ⟨5,1,[[.osl 1 (nm 0) 0 s.words.length wc,.osl 1 (nm 1) 0 s.holds.length hc,.osl 4 (nm 2) 0 3 pc,.osl 3 (nm 3) 0 4 vc,.osl 5 (nm 4) 0 s.told.length tc]]⟩:=by rw[<-hG,aA.aB (by omega)];exact aA.aI
 have f1:G (nx+1)=some ⟨5,1,[[D1.osl 0 0 0 0 0,D1.osl 0 0 0 0 0,D1.osl 0 0 0 0 0,D1.osl 0 0 0 0 0,D1.osl 0 0 0 0 0]]⟩:=by rw[<-hG];exact aA.aI
 have C: ∀id,id<nx->G id=H id:=fun id g=>by rw[<-hG,aA.aB (by omega),aA.aB (by omega)]
 clear hG
 have cy:Rep X G (nx+1) nx nm s:=B.box (akA _) (by omega) f0 C
 rcases cx with⟨ho,rfl⟩|⟨st,m,ho,rfl⟩
 · (try simp only[go_sem,nL,f0,f1,nL]);repeat' first|apply vI<;>(simp only[go_sem,nL,f0,f1,nL])|fail
   rw[ho] at h
   refine hQ _ _ _ _ _ (.inr rfl) (nU rfl aA.aI rfl) (h _ _ nm _ (by omega) (B.frame (by omega) fun id g _=>by rw[aA.aB (by omega)];exact C id g) fun id g=> ?_)
   have:=hX id g
   rw[aA.aB (by omega)];exact C id this
 ·have aa:=YU hs hk ho;obtain⟨_,_,N,ab⟩:=aa;obtain⟨p,hp⟩: ∃p,aL s k=p:=⟨_,rfl⟩
  obtain⟨v,hv⟩: ∃v,aU s st=v:=⟨_,rfl⟩
  obtain⟨qo,qc,oc,O,gq,go⟩:=ga k hk;obtain⟨po,ad,do_,dc,gs,gp,gd⟩:=gb st m;rw[hp] at O gq go;rw[hv] at gs gp gd N ab;obtain⟨d,hd⟩: ∃d,v.done.getD 0 default=d:=⟨_,rfl⟩
  rw[hd] at ab;have lt:=B.names.lt;have n2:=lt 2 (by omega);have n3:=lt 3 (by omega);have n4:=lt 4 (by omega);have n8:=lt (8+k) (by omega);have ao:=lt (15+st) (by omega);have a:bH nx ([2,3,4,5+k,8+k,11+st,15+st].map nm):=AM.apart (B.names.list (by simp;omega) (by simp;omega)) (fun x hx=>by obtain⟨j,D,rfl⟩:=akJ.1 hx;exact lt j (by simp at D;omega));simp only[bH,cU,List.map] at a;have P:G (nm 2)=some ⟨4,mp,rp⟩:=(C _ n2).trans g1;have R:G (nm 3)=some ⟨3,mv,rv⟩:=(C _ n3).trans g2;obtain⟨md,rd,d1,d2,d3,d4,d5,d6⟩:=gd.ex;have d7:rd[do_]?=some (aP d):=by have:(rd.drop do_)[0]?=some (aP d):=(by rw[d2,akN,<-hd];simp[List.getD,N]);rwa [akY,Nat.add_zero] at this
  have az:G (nm (15+st))=some ⟨5,md,rd⟩:=(C _ ao).trans d1;(try simp only[go_sem,nL,f0,f1,P,R,O,gs,az,d7,a,nL]);repeat' first| (first|apply vI|refine aC.aeH (args':=[dS ((v.done.drop 1).map aP)]) (without (fun j=>j=nm (15+st)) _) (fun j=>j=nm (15+st)) rfl (ae6 ?_) JP (kS ?_ ?_ fun H2 br J c5 e1 e2 e3 e4=> ?_))<;>(simp only[go_sem,nL,f0,f1,P,R,O,gs,az,d7,a,nL])|apply vF (by omega)|refine⟨by omega,?_⟩|fail
  refine aC.aeH (args':=[dS ((v.done.drop 1).map aP)]) (without (fun j=>j=nm (15+st)) _) (fun j=>j=nm (15+st)) rfl (ae6 ?_) JP (kS ?_ ?_ fun H2 br J c5 e1 e2 e3 e4=> ?_);·rw[amD];exact((gd.frame (by rw[aA.aB (by omega)];exact C _ ao)).aiQ N).cvD (Ku (aW dE _)) rfl
  ·have:=(hs.slv st m).dl;rw[hv] at this;rw[akS];omega
  ·intro j D;have:=(hs.slv st m).rsp j (by rw[hv];exact anM D);have:=this.1.2.2.1;omega
  have q0:H2 nx=some ⟨5,1,[[.osl 1 (nm 0) 0 s.words.length wc,.osl 1 (nm 1) 0 s.holds.length hc,.osl 4 (nm 2) 0 3 pc,.osl 3 (nm 3) 0 4 vc,.osl 5 (nm 4) 0 s.told.length tc]]⟩:=by rw[e4 _ (by omega),xJ (by omega),aA.aB (by omega)];exact f0
  have q1:H2 (nx+1)=some ⟨5,1,[[D1.osl 0 0 0 0 0,D1.osl 0 0 0 0 0,D1.osl 0 0 0 0 0,D1.osl 0 0 0 0 0,D1.osl 0 0 0 0 0]]⟩:=by rw[e4 _ (by omega),xJ (by omega),aA.aB (by omega)];exact f1
  have qj:H2 (nx+16)=some ⟨5,1,[aP d]⟩:=by rw[e4 _ (by omega),xJ (by omega)];exact aA.aI
  have qf: ∀id,id<nx->id≠nm (15+st)->H2 id=H id:=fun id E u=>by rw[e4 _ (by omega),xJ (F:=fun j=>j=nm (15+st)) u,aA.aB (by omega)];exact C _ E
  have S:H2 (nm 2)=some ⟨4,mp,rp⟩:=(qf _ n2 (by simp[a])).trans g1;have ca:H2 (nm 3)=some ⟨3,mv,rv⟩:=(qf _ n3 (by simp[a])).trans g2;(try simp only[go_sem,nL,q0,q1,qj,S,ca,O,gs,a,ak4,nL]);repeat' first|apply vI<;>(simp only[go_sem,nL,q0,q1,qj,S,ca,O,gs,a,ak4,nL])|refine⟨by omega,?_⟩|fail
  refine aC.aeH (args':=[dS (p.out.map eCJ),dI d.n]) (without (fun j=>j=nm (8+k)) _) (fun j=>j=nm (8+k)) rfl (aiN ?_ rfl) JP (Bc ?_ fun H3 o b6 c6 u1 u2 u3 u4=> ?_);·exact(go.frame (by rw[aA.aB (by simp[a]),qf _ n8 (by simp[a])])).cvD (aW E0 _) rfl
  ·have:=(hs.port k hk).ol;rw[hp] at this;omega
  have a3: ∀id,id<br+15->id≠nm (8+k)->id≠nm 3->H3 id=H2 id:=fun id E u I=>by rw[u4 _ E,xJ (F:=fun j=>j=nm (8+k)) u,aA.aB I]
  have r0:=(a3 nx (by omega) (by omega) (by omega)).trans q0;have r1:=(a3 (nx+1) (by omega) (by omega) (by omega)).trans q1;have rj:=(a3 (nx+16) (by omega) (by omega) (by omega)).trans qj;have cc:H3 (nm 2)=some ⟨4,mp,rp⟩:=(a3 _ (by omega) (by simp[a]) (by simp[a])).trans S;have T:H3 (nm 3)=some ⟨3,mv,rv.set st [D1.osl 3 (nm (11+st)) po v.pipe.length ad,D1.osl 5 J 0 (List.drop 1 v.done).length c5,cI v.last]⟩:=by rw[u4 _ (by omega),xJ (F:=fun j=>j=nm (8+k)) (by simp[a])];exact aA.aI
  have rf: ∀id,id<nx->id≠nm (15+st)->id≠nm (8+k)->id≠nm 3->H3 id=H id:=fun id E u I L=>(a3 id (by omega) I L).trans (qf id E u);obtain⟨mt,rt,t1,t2,t3,t4,t5,t6⟩:=g5.ex;rw[alK] at t2;subst t2;have cd:H3 (nm 4)=some ⟨5,mt,s.told.map aP⟩:=(rf _ n4 (by simp[a]) (by simp[a]) (by simp[a])).trans t1;have dv:s.told.length<=36:=by have:=hs.st.lens hb;simp only[dH] at this;omega
  have U: ∀r,(rp.set k r)[k]?=some r:=fun r=>by rw[ak6 (by omega)]
  have V:bH o ([2,3,4,5+k,8+k,11+st,15+st].map nm):=AM.apart (B.names.list (by simp;omega) (by simp;omega)) (fun x hx=>by obtain⟨j,D,rfl⟩:=akJ.1 hx;have:=lt j (by simp at D;omega);omega);simp only[bH,cU,List.map] at V;have Y:bH o [nx,nx+1]:=AM.apart (by simp) (by simp;omega);simp only[bH,cU] at Y;(try simp only[go_sem,nL,r0,r1,rj,cc,T,cd,O,gs,U,Y,V,a,ak4,nL]);repeat' first|apply vI<;>(simp only[go_sem,nL,r0,r1,rj,cc,T,cd,O,gs,U,Y,V,a,ak4,nL])| (with_reducible first|refine fun(cap:Nat) (df:_<=cap)=> ?_|refine fun(dx:_<=cap)=> ?_)|refine⟨by omega,?_⟩|fail
  refine hQ _ _ _ _ _ (.inr rfl) (nU rfl aA.aI rfl) ?_;generalize hW:aA.set _ (nx+1) _=W;have w0:W nx=some ⟨5,1,[[.osl 1 (nm 0) 0 s.words.length wc,.osl 1 (nm 1) 0 s.holds.length hc,.osl 4 (nm 2) 0 3 pc,.osl 3 (nm 3) 0 4 vc,.osl 5 (o+11) 0 (s.told.length+1) cap]]⟩:=by rw[<-hW,aA.aB (by omega)];exact aA.aI
  have w2:W (nm 2)=some ⟨4,mp,rp.set k [cI p.next,.osl 1 (nm (5+k)) qo p.queue.length qc,.osl 3 b6 0 (bo d.n p.out).length c6,cI st]⟩:=by rw[<-hW,aA.aB (by omega),aA.aB (by omega),aA.aB (by omega),aA.aB (by omega)];exact aA.aI
  have wo: ∀id,id<o->id≠nx->id≠nx+1->id≠nm 2->id≠nm 4->W id=H3 id:=fun id E u I L h5=>by rw[<-hW,aA.aB I,aA.aB u,aA.aB (by omega),aA.aB (by omega),aA.aB L,aA.gK h5]
  have w4:W (o+11)=some ⟨5,cap,(s.told++[d]).map aP⟩:=by rw[<-hW,aA.aB (by omega),aA.aB (by omega)];exact aA.aI
  clear hW;have n5:=lt (5+k) (by omega);have dh:=lt (11+st) (by omega);have n0:=lt 0 (by omega);have n1:=lt 1 (by omega);have wf: ∀id,id<nx->id≠nm 2->id≠nm 3->id≠nm 4->id≠nm (8+k)->id≠nm (15+st)->W id=H id:=fun id E u I L h5 h6=>(wo id (by omega) (by omega) (by omega) u L).trans (rf id E h6 h5 I);have w3:=(wo (nm 3) (by omega) (by omega) (by omega) (by simp[a]) (by simp[a])).trans T;have w5:Own aP 5 W J c5 (v.done.drop 1):=e3.of ((wo J (by omega) (by omega) (by omega) (by omega) (by omega)).trans (a3 J (by omega) (by omega) (by omega)));have w6:Own eCJ 3 W b6 c6 (bo d.n p.out):=u3.of (wo b6 (by omega) (by omega) (by omega) (by omega) (by omega));have inj:=B.names.inj;obtain⟨f,q⟩: ∃f,f=put (put (put nm (15+st) J) (8+k) b6) 4 (o+11):=⟨_,rfl⟩
  have w: ∀j,j≠4->j≠8+k->j≠15+st->f j=nm j:=fun j E u I=>by rw[q,dG E,dG u,dG I]
  have p4:f 4=o+11:=by rw[q,kQ]
  have p8:f (8+k)=b6:=by rw[q,dG (by omega),kQ]
  have cf:f (15+st)=J:=by rw[q,dG (by omega),dG (by omega),kQ]
  obtain⟨s',l⟩: ∃s',s'=bS c s (.tell k st):=⟨_,rfl⟩
  have cl:o8 s st=d:=by rw[<-hd,<-hv];rfl
  have cp:=hs.port k hk;rw[hp] at cp;have hex: ∃j∈p.out,j.n=d.n:=by obtain⟨_,j,x1,x2,_⟩:=(hs.slv st m).out (key d) (by rw[hv];exact sx (by rw[<-hd];exact bL (by omega)));have e:(key d).1.toNat=k:=(by show d.who.toNat=k;omega);rw[e,hp] at x1;exact⟨j,x1,x2⟩
  have cq:bo d.n p.out=W1 p.out d.n:=aa6 cp.Gq hex;have y:aL s' k= {p with out:=W1 p.out d.n,last:=st}:=by rw[l,cH rfl (by rw[hs.pl];omega),if_pos rfl,cl,hp]
  have A:aU s' st= {v with done:=v.done.drop 1}:=by rw[l,dF rfl (by rw[hs.sl];omega),if_pos rfl,hv]
  have ct:s'.told=s.told++[d]:=by rw[l,<-cl];rfl
  have Z: ∀z,nx<=z->¬X z:=fun z hz hn=>by have:=hX z hn;omega
  have key:=cy.ajG (H':=W) (nx':=o+16) k st f s' (by omega) ?_ ?_ ?_ ?_ ?_ ?_ (.inl hk) (.inl m) (fun j D b=>by rw[l,cH rfl (by rw[hs.pl];omega),if_neg b]) (fun j D b=>by rw[l,dF rfl (by rw[hs.sl];omega),if_neg b]);·obtain⟨⟨⟨cells,k1,k2⟩,k3,_,_,k4⟩,k5⟩:=key;rw[w0] at k1;have hc:=(bQ.mk.inj (Option.some.inj k1)).2.2;have hc:_=cells:=(List.cons.inj hc).1;rw[<-hc] at k2;rw[ho] at h;refine h _ _ f _ (by omega) ⟨?_,k3,k4⟩ fun id g=>(k5 id g).trans (C id (hX id g));rw[show za c s (some (.tell k st))=s' from l.symm];exact k2
  ·rw[q];exact((B.names.put (nx':=J+1) (by omega) (by omega) (Z _ (by omega))).put (nx':=b6+1) (by omega) (by omega) (Z _ (by omega))).put (by omega) (by omega) (Z _ (by omega))
  ·intro j D;by_cases L:j=4;·subst L;exact .inr ⟨.inl rfl,by omega⟩
   ·by_cases h8:j=8+k;·subst h8;exact .inr ⟨.inr (.inr (.inl rfl)),by omega⟩
    ·by_cases cw:j=15+st;·subst cw;exact .inr ⟨.inr (.inr (.inr (.inr rfl))),by omega⟩
     ·exact .inl (w j L h8 cw)
  ·intro id g h0 b;have g2:=b 2 (by omega) (by omega);have g3:=b 3 (by omega) (by omega);have g4:=b 4 (by omega) (by omega);have g8:=b (8+k) (by omega) (by omega);have ds:=b (15+st) (by omega) (by omega);rw[wf id (by omega) g2 g3 g4 g8 ds,C id (by omega)]
  ·refine⟨wc,hc,pc,vc,cap,?_,?_,?_,?_,g6,g7⟩;·rw[w0];simp only[kh,ct,w 0 (by omega) (by omega) (by omega),w 1 (by omega) (by omega) (by omega),w 2 (by omega) (by omega) (by omega),w 3 (by omega) (by omega) (by omega),p4,akG,List.length_singleton];rw[l];rfl
   ·rw[w 0 (by omega) (by omega) (by omega),l];exact g3.frame (wf _ n0 (fun he=>by have:=inj 0 2 (by omega) (by omega) he;omega) (fun he=>by have:=inj 0 3 (by omega) (by omega) he;omega) (fun he=>by have:=inj 0 4 (by omega) (by omega) he;omega) (fun he=>by have:=inj 0 (8+k) (by omega) (by omega) he;omega) (fun he=>by have:=inj 0 (15+st) (by omega) (by omega) he;omega))
   ·rw[w 1 (by omega) (by omega) (by omega),l];exact g4.frame (wf _ n1 (fun he=>by have:=inj 1 2 (by omega) (by omega) he;omega) (fun he=>by have:=inj 1 3 (by omega) (by omega) he;omega) (fun he=>by have:=inj 1 4 (by omega) (by omega) he;omega) (fun he=>by have:=inj 1 (8+k) (by omega) (by omega) he;omega) (fun he=>by have:=inj 1 (15+st) (by omega) (by omega) he;omega))
   ·rw[p4,ct];exact⟨cap,(s.told++[d]).map aP,w4,rfl,by simp,by simp,by rw[akG,List.length_singleton];omega,by simp⟩
  ·refine⟨mp,_,mp,rp,P,w2,by rw[akI,g8],fun j D b=>by rw[ak7 (Ne.symm b)],fun _=>⟨_,U _,⟨qo,qc,c6,?_,?_,?_⟩⟩⟩;·rw[y,w (5+k) (by omega) (by omega) (by omega),p8,cq];rfl
   ·rw[y,w (5+k) (by omega) (by omega) (by omega)];exact gq.frame (wf _ n5 (by simp[a]) (by simp[a]) (by simp[a]) (by simp[a]) (by simp[a]))
   ·obtain⟨m6,y1,y2,y3⟩:=w6;rw[cq] at y1 y2;rw[y,p8];exact⟨m6,(W1 p.out d.n).map eCJ,y1,rfl,by simp,by simp,y2,by omega⟩
  ·refine⟨mv,_,mv,rv,R,w3,by rw[akI,g9],fun j D b=>by rw[ak7 (Ne.symm b)],fun _=>⟨_,ak6 (by omega),⟨po,ad,0,c5,?_,?_,?_⟩⟩⟩;·rw[A,w (11+st) (by omega) (by omega) (by omega),cf];rfl
   ·rw[A,w (11+st) (by omega) (by omega) (by omega)];exact gp.frame (wf _ dh (by simp[a]) (by simp[a]) (by simp[a]) (by simp[a]) (by simp[a]))
   ·obtain⟨m5,y1,y2,y3⟩:=w5;rw[A,cf];exact⟨m5,(v.done.drop 1).map aP,y1,rfl,by simp,by simp,y2,by omega⟩
theorem Br{X:Nat->Prop}{c:Cfg}{i:CIn}{s:CSt}{st:Nat}{nm:Nat->Nat}(hb:bI c)(hs:COk c s)(p:st<4)(hr:i.iP.getD st default=false)(F:AF X H nx nm s cells)
 (h: ∀H' nx' g B,nx<=nx'->AF X H' nx' g (za c s (AA i s st)) B->(∀id,X id->H' id=H id)->K (dA B) H' nx'):
 an3 KS [dA (cD c),dA cells,dI st] H nx K:=by
 refine bA.mk Tryz.func123 (by kernel_rfl) xx rfl fun Q hQ=> ?_
 unfold x8
 have hX:=F.x
 obtain⟨eu,ht⟩:=eN hb
 have ew: ∀{A:Prop},¬(i.iP.getD st default=true\/A)↔¬A:=fun {A}=>by rw[hr];simp
 obtain⟨wc,hc,pc,vc,tc,mp,rp,mv,rv,aa,g1,g2,g3,g4,g5,g6,g7,g8,g9,ga,gb⟩:=F.get
 obtain⟨v,C⟩: ∃v,aU s st=v:=⟨_,rfl⟩
 obtain⟨po,ff,do_,dc,gs,gp,gd⟩:=gb st p
 rw[C] at gs gp gd
 have br:=F
 subst aa
 have lt:=F.names.lt
 have U:bH nx ([0,1,2,3,4,11+st,15+st].map nm):=AM.apart (F.names.list (by simp;omega) (by simp;omega)) (fun x hx=>by obtain⟨j,hj,rfl⟩:=akJ.1 hx;exact lt j (by simp at hj;omega))
 simp only[bH,cU,List.map] at U
 by_cases cy:v.pipe.length=0
 ·have hlen:((v.pipe.length:Int)=0)=True:=eq_true (by omega);repeat' first|apply vI<;>(simp only[go_sem,nL,g2,gs,hlen,U])|refine⟨by omega,?_⟩|fail
  refine hQ _ _ _ _ _ (.inr rfl) (nU rfl (by rw[aA.aB (by omega)];exact aA.aI) rfl) ?_;rw[ZX (.inr (by rw[C];exact cy))] at h;exact h _ _ nm _ (by omega) (F.frame (by omega) fun id b _=>by rw[aA.aB (by omega),aA.aB (by omega),aA.aB (by omega),aA.aB (by omega)]) fun id b=>by have:=hX id b;rw[aA.aB (by omega),aA.aB (by omega),aA.aB (by omega),aA.aB (by omega)]
 have ca: ¬(i.iP.getD st default=true\/(aU s st).pipe.length=0):=by rw[C];exact ew.2 cy
 have hlen:((v.pipe.length:Int)=0)=False:=eq_false (by omega)
 obtain⟨j,hj⟩: ∃j,v.pipe.getD 0 default=j:=⟨_,rfl⟩
 have t:dZ s st=j:=by unfold dZ;rw[C,hj]
 obtain⟨md,rd,d1,d2,d3,d4,d5,d6⟩:=gd.ex
 obtain⟨me,re,p1,p2,p3,p4,p5,p6⟩:=gp.ex
 rw[akU] at d4 p4
 have p7:re[po]?=some (eCJ j):=by
  have:(re.drop po)[0]?=some (eCJ j):=by rw[p2,akN,<-hj];simp[List.getD,show 0<v.pipe.length by omega]
  rwa [akY,Nat.add_zero] at this
 have df:=hs.slv st p
 have fh:=(df.left 0 (by rw[C];omega)).1
 rw[C,hj] at fh
 have fm:=il hb p
 have hy:=lt (11+st) (by omega)
 have ia:=lt (15+st) (by omega)
 by_cases cc:0<j.left
 ·have M:decide (0<(aU s st).pipe.length/\(dZ s st).left=0/\(aU s st).done.length<2)=false:=decide_eq_false (by rw[t];omega);repeat' first| (first|apply vI|refine HU hs p (br.tn hs.pl hs.sl (fun id b=>by rw[aA.aB (by omega),aA.aB (by omega),aA.aB (by omega),aA.aB (by omega)])) ?_)<;>(simp only[go_sem,nL,g2,gs,hlen,M,p1,p7,U];try simp (disch:=omega) only[Iw])|apply vT (by omega)|refine⟨by omega,?_⟩|fail
  refine hQ _ _ _ _ _ (.inr rfl) (nU rfl (by rw[aA.aB (by omega),aA.aB (by omega)];exact aA.aI) rfl) ?_;have hO:AA i s st=some (.tick st):=ui ca (by rw[t];exact cc);rw[hO] at h;obtain⟨s',d⟩: ∃s',s'=bS c s (.tick st):=⟨_,rfl⟩
  rw[show za c s (some (.tick st))=s' from d.symm] at h;have f:aU s' st= {v with pipe:=v.pipe.set 0 {j with left:=j.left-1}}:=by rw[d,dF rfl (by rw[hs.sl];omega),if_pos rfl,t,C]
  generalize J:aA.set _ (nm (11+st)) _=W;have w0:W (nx+1)=some ⟨5,1,[[.osl 1 (nm 0) 0 s.words.length wc,.osl 1 (nm 1) 0 s.holds.length hc,.osl 4 (nm 2) 0 3 pc,.osl 3 (nm 3) 0 4 vc,.osl 5 (nm 4) 0 s.told.length tc]]⟩:=by rw[<-J,aA.aB (by omega),aA.aB (by omega),aA.aB (by omega)];exact aA.aI
  have fo:W (nm (11+st))=some ⟨3,me,re.set po [cI j.who,cI j.n,cI (j.left-1)]⟩:=by rw[<-J];exact aA.aI
  have wf: ∀id,id<nx->id≠nm (11+st)->W id=H id:=fun id L V=>by rw[<-J,aA.aB V,aA.aB (by omega),aA.aB (by omega),aA.aB (by omega),aA.aB (by omega)]
  clear J;have inj:=F.names.inj;have u: ∀a,a<19->a≠11+st->W (nm a)=H (nm a):=fun a L V=>wf _ (lt a L) fun he=>V (inj a (11+st) L (by omega) he);refine h W _ nm _ (by omega) ⟨⟨⟨wc,hc,pc,vc,tc,?_,?_,?_,?_,g6,g7⟩,⟨mp,rp,(u 2 (by omega) (by omega)).trans g1,g8,fun k hk=> ?_⟩,⟨mv,rv,(u 3 (by omega) (by omega)).trans g2,g9,fun k hk=> ?_⟩⟩,F.names.mono (by omega),fun id b=>by have:=hX id b;omega⟩ fun id b=>wf id (hX id b) fun he=>F.names.av (11+st) (by omega) (he▸b);·rw[d];rfl
  ·rw[d];exact g3.frame (u 0 (by omega) (by omega))
  ·rw[d];exact g4.frame (u 1 (by omega) (by omega))
  ·rw[d];exact g5.frame (u 4 (by omega) (by omega))
  ·obtain⟨qo,qc,oc,x1,x2,x3⟩:=ga k hk;have e:aL s' k=aL s k:=(by rw[d];rfl);exact⟨_,x1,⟨qo,qc,oc,by rw[e];rfl,by rw[e];exact x2.frame (u (5+k) (by omega) (by omega)),by rw[e];exact x3.frame (u (8+k) (by omega) (by omega))⟩⟩
  ·by_cases I:k=st
   ·subst I;refine⟨_,gs,⟨po,ff,do_,dc,?_,?_,?_⟩⟩;·rw[f];simp only[Gm,akI]
    ·rw[f];refine⟨me,_,fo,?_,by simpa using p3,by simp,by simpa using p5,p6⟩;rw[List.drop_set,if_neg (by omega),al9,p2,al8];rfl
    ·rw[f];exact gd.frame (u (15+k) (by omega) (by omega))
   ·obtain⟨cd,cf,cl,cp,x1,x2,x3⟩:=gb k hk;have e:aU s' k=aU s k:=(by rw[d,dF rfl (by rw[hs.sl];omega),if_neg I]);exact⟨_,x1,⟨cd,cf,cl,cp,by rw[e];rfl,by rw[e];exact x2.frame (u (11+k) (by omega) (by omega)),by rw[e];exact x3.frame (u (15+k) (by omega) (by omega))⟩⟩
 by_cases dh:v.done.length<2
 ·have M:decide (0<(aU s st).pipe.length/\(dZ s st).left=0/\(aU s st).done.length<2)=true:=decide_eq_true (by rw[t,C];omega);have fr:j∈(aU s st).pipe:=by rw[C,<-hj];exact bL (by omega)
  obtain⟨ds,Y,cq⟩:=hs.vIn p (km fr);dsimp only at ds Y cq;have Z:rI c j.who j.n:=by have:=(hs.port j.who.toNat (by omega)).asks (n:=j.n) (by omega) Y (by omega);rwa [show ((j.who.toNat:Nat):Int)=j.who by omega] at this
  have dv:=MQ hb Z;have ih:=hb.1.1;obtain⟨dx,dy,ab⟩:=Z;obtain⟨P,hP⟩: ∃P,c.b7.getD j.who.toNat default=P:=⟨_,rfl⟩
  rw[hP] at ab;obtain⟨q,hq⟩: ∃q,P.getD j.n.toNat default=q:=⟨_,rfl⟩
  have dz:bO c j.who j.n=q:=by unfold bO;rw[hP,hq]
  rw[dz] at dv;obtain⟨mw,iv,w1,w2,w3,w4,w5,w6⟩:=g3.ex;obtain⟨mh,iw,fs,ed,jh,jo,ju,kc⟩:=g4.ex;rw[alK] at w2 ed;subst w2;subst ed;have n0:=lt 0 (by omega);have n1:=lt 1 (by omega);have gf:=hs.atm;obtain⟨kf,R,kt,la⟩:=hs.atm;have N:s.words.length=64:=by omega
  have O:s.holds.length=6:=by omega
  refine aH.EN fun gg=> ?_;have ct: ∀k l,msk (nx+k) l H=H:=fun k l=>CW gg (by omega);repeat' first| (first|apply vI|refine HU hs p (br.tn hs.pl hs.sl (fun id b=>by rw[aA.aB (by omega),aA.aB (by omega),aA.aB (by omega),aA.aB (by omega)])) ?_)<;>(simp only[go_sem,nL,g2,gs,hlen,M,p1,p7,eu,hP,hq,ct,U])|refine⟨by omega,?_⟩|fail
  simp only[N,O];apply Ir (m:=c.map) (w:=s.words) (hs:=s.holds) (wc:=wc) (hc:=hc) (i:=nm 0) (j:=nm 1) (wm:=mw) (hm:=mh) (by omega) gf (by omega) (by omega) ds dv (by omega) (by omega) (by simp[U]);·rw[aA.aB (by omega),aA.aB (by omega),aA.aB (by omega),aA.aB (by omega),aA.aB (by omega)];exact w1
  ·rw[aA.aB (by omega),aA.aB (by omega),aA.aB (by omega),aA.aB (by omega),aA.aB (by omega)];exact fs
  obtain⟨D,hD⟩: ∃D,doM c.map s.words s.holds j.who q=D:=⟨_,rfl⟩
  rw[hD];have ei: ∀r,(rv.set st r)[st]?=some r:=fun r=>by rw[ak6 (by omega)]
  have cw:=df.pl;rw[C] at cw;have ad:List.take v.done.length (List.drop do_ rd)=v.done.map aP:=by rw[d2,akM (by simp)]
  have ao:(po+(1+(v.pipe.length-1))<=re.length)=True:=eq_true (by omega);have az:List.take (v.pipe.length-1) (List.drop (po+1) re)=(v.pipe.drop 1).map eCJ:=by rw[<-alX,p2,<-amD,akM (by simp)]
  (try simp only[go_sem,nL,g2,gs,ei,ao,az,ad,List.nil_append,akU,akS,ak4,p1,p7,d1,umS (G:=H),umD (G:=H),umB,ct,N,O,U,nL]);repeat' first|apply vI<;>(simp only[go_sem,nL,g2,gs,ei,ao,az,ad,List.nil_append,akU,akS,ak4,p1,p7,d1,umS (G:=H),umD (G:=H),umB,ct,N,O,U,nL])| (with_reducible first|refine fun(cap:Nat) (gq:_<=cap)=> ?_|refine fun(lb:_<=cap)=> ?_)|refine⟨by omega,?_⟩|fail
  rename_i y ej gr;refine hQ _ _ _ _ _ (.inr rfl) (nU rfl aA.aI rfl) ?_;have hO:AA i s st=some (.work st):=yl ca (by rw[t];exact cc) (by rw[C];exact dh);have R:O6 c s st=D:=by unfold O6;rw[t,dz,hD]
  rw[hO] at h;obtain⟨s',d⟩: ∃s',s'=bS c s (.work st):=⟨_,rfl⟩
  rw[show za c s (some (.work st))=s' from d.symm] at h;have f:aU s' st= {v with pipe:=v.pipe.drop 1,done:=v.done++[⟨j.who,j.n,D.2⟩]}:=by rw[d,dF rfl (by rw[hs.sl];omega),if_pos rfl,R,t,C]
  have S:s'.words=D.1.1:=by rw[d,<-R];rfl
  have T:s'.holds=D.1.2:=by rw[d,<-R];rfl
  have cx:COk c s':=by rw[d];exact ES hb hs (S7 hs p hO)
  obtain⟨ha,_,hd,_⟩:=cx.atm;generalize J:aA.set _ (nx+2) _=W;have n3:=lt 3 (by omega);have inj:=F.names.inj;have lk:nm 0≠nm 3:=fun he=>by have:=inj 0 3 (by omega) (by omega) he;omega
  have ma:nm 0≠nm 1:=fun he=>by have:=inj 0 1 (by omega) (by omega) he;omega
  have mm:nm 1≠nm 3:=fun he=>by have:=inj 1 3 (by omega) (by omega) he;omega
  have hf:W (nx+58)=some ⟨3,y,(v.pipe.drop 1).map eCJ⟩:=by rw[<-J,aA.aB (by omega),aA.aB (by omega),aA.aB (by omega),aA.aB (by omega)];exact aA.aI
  have hg:W (nx+74)=some ⟨5,cap,v.done.map aP++[cI j.who::cI j.n::nS D.2]⟩:=by rw[<-J,aA.aB (by omega)];exact aA.aI
  have w3:W (nm 3)=some ⟨3,mv,rv.set st [.osl 3 (nx+58) 0 (v.pipe.length-1) y,.osl 5 (nx+74) 0 (v.done.length+1) cap,cI v.last]⟩:=by rw[<-J,aA.aB (by omega),aA.aB (by omega),aA.aB (by omega)];exact aA.aI
  have hh:W (nm 1)=some ⟨1,mh,D.1.2.map aG⟩:=by rw[<-J];simp (disch:=omega) only[aA.aB,aA.aI]
  have ho:W (nm 0)=some ⟨1,mw,D.1.1.map aG⟩:=by rw[<-J];simp (disch:=omega) only[aA.aB,aA.aI]
  have wf: ∀id,id<nx->id≠nm 0->id≠nm 1->id≠nm 3->id≠nm (15+st)->W id=H id:=fun id L V h3 h4 h5=>by rw[<-J];simp (disch:=omega) only[aA.aB,aA.gK]
  clear J;have u: ∀a,a<19->a≠0->a≠1->a≠3->a≠15+st->W (nm a)=H (nm a):=fun a L V h3 h4 h5=>wf _ (lt a L) (fun he=>V (inj a 0 L (by omega) he)) (fun he=>h3 (inj a 1 L (by omega) he)) (fun he=>h4 (inj a 3 L (by omega) he)) (fun he=>h5 (inj a (15+st) L (by omega) he));obtain⟨g,E⟩: ∃g,g=put (put nm (11+st) (nx+58)) (15+st) (nx+74):=⟨_,rfl⟩
  have o: ∀a,a≠11+st->a≠15+st->g a=nm a:=fun a L V=>by rw[E,dG V,dG L]
  have eo:g (11+st)=nx+58:=by rw[E,dG (by omega),kQ]
  have ep:g (15+st)=nx+74:=by rw[E,kQ]
  have et: ∀z,nx<=z->¬X z:=fun z hz hn=>by have:=hX z hn;omega
  have hN:Names X (nx+80) g:=by rw[E];exact(F.names.put (nx':=nx+59) (by omega) (by omega) (et _ (by omega))).put (by omega) (by omega) (et _ (by omega))
  refine h W _ g _ (by omega) ⟨⟨⟨wc,hc,pc,vc,tc,?_,?_,?_,?_,g6,g7⟩,⟨mp,rp,?_,g8,fun k hk=> ?_⟩,⟨mv,rv.set st [.osl 3 (nx+58) 0 (v.pipe.length-1) y,.osl 5 (nx+74) 0 (v.done.length+1) cap,cI v.last],?_,by rw[akI,g9],fun k hk=> ?_⟩⟩,hN,fun id b=>by have:=hX id b;omega⟩ fun id b=> ?_;·have e:s'.told=s.told:=(by rw[d];rfl);rw[kh,S,T,e,o 0 (by omega) (by omega),o 1 (by omega) (by omega),o 2 (by omega) (by omega),o 3 (by omega) (by omega),o 4 (by omega) (by omega),show D.1.1.length=64 by rw[<-S];omega,show D.1.2.length=6 by rw[<-T];omega]
  ·rw[o 0 (by omega) (by omega),S];exact⟨mw,_,ho,rfl,by simp,by simp,by rw[<-S];omega,by omega⟩
  ·rw[o 1 (by omega) (by omega),T];exact⟨mh,_,hh,rfl,by simp,by simp,by rw[<-T];omega,by omega⟩
  ·rw[o 4 (by omega) (by omega),d];exact g5.frame (u 4 (by omega) (by omega) (by omega) (by omega) (by omega))
  ·rw[o 2 (by omega) (by omega)];exact(u 2 (by omega) (by omega) (by omega) (by omega) (by omega)).trans g1
  ·obtain⟨qo,qc,oc,x1,x2,x3⟩:=ga k hk;have e:aL s' k=aL s k:=(by rw[d];rfl);exact⟨_,x1,⟨qo,qc,oc,by rw[e,o (5+k) (by omega) (by omega),o (8+k) (by omega) (by omega)];rfl,by rw[e,o (5+k) (by omega) (by omega)];exact x2.frame (u (5+k) (by omega) (by omega) (by omega) (by omega) (by omega)),by rw[e,o (8+k) (by omega) (by omega)];exact x3.frame (u (8+k) (by omega) (by omega) (by omega) (by omega) (by omega))⟩⟩
  ·rw[o 3 (by omega) (by omega)];exact w3
  ·by_cases I:k=st
   ·subst I;refine⟨_,ak6 (by omega),⟨0,y,0,cap,?_,?_,?_⟩⟩;·rw[f,eo,ep];simp only[Gm,akS,akG,List.length_singleton]
    ·rw[f,eo];exact⟨y,_,hf,rfl,by simp,by simp,by rw[akS];omega,by omega⟩
    ·rw[f,ep];exact⟨cap,_,hg,by first| (rw[akQ];done)| (rw[akQ];rfl),by simp,by simp,by rw[akG,List.length_singleton];omega,by omega⟩
   ·obtain⟨cd,cf,cl,cp,x1,x2,x3⟩:=gb k hk;have e:aU s' k=aU s k:=(by rw[d,dF rfl (by rw[hs.sl];omega),if_neg I]);exact⟨_,by rw[ak7 (Ne.symm I)];exact x1,⟨cd,cf,cl,cp,by rw[e,o (11+k) (by omega) (by omega),o (15+k) (by omega) (by omega)];rfl,by rw[e,o (11+k) (by omega) (by omega)];exact x2.frame (u (11+k) (by omega) (by omega) (by omega) (by omega) (by omega)),by rw[e,o (15+k) (by omega) (by omega)];exact x3.frame (u (15+k) (by omega) (by omega) (by omega) (by omega) (by omega))⟩⟩
  ·have av:=F.names.av;exact wf id (hX id b) (fun he=>av 0 (by omega) (he▸b)) (fun he=>av 1 (by omega) (he▸b)) (fun he=>av 3 (by omega) (he▸b)) (fun he=>av (15+st) (by omega) (he▸b))
 ·have M:decide (0<(aU s st).pipe.length/\(dZ s st).left=0/\(aU s st).done.length<2)=false:=decide_eq_false (by rw[C];omega);repeat' first| (first|apply vI|refine HU hs p (br.tn hs.pl hs.sl (fun id b=>by rw[aA.aB (by omega),aA.aB (by omega),aA.aB (by omega),aA.aB (by omega)])) ?_)<;>(simp only[go_sem,nL,g2,gs,hlen,M,p1,p7,U])|apply vF (by omega)|refine⟨by omega,?_⟩|fail
  refine hQ _ _ _ _ _ (.inr rfl) (nU rfl (by rw[aA.aB (by omega)];exact aA.aI) rfl) ?_;rw[xt ca (by rw[t];exact cc) (by rw[C];exact dh)] at h;exact h _ _ nm _ (by omega) (F.frame (by omega) fun id b _=>by rw[aA.aB (by omega),aA.aB (by omega),aA.aB (by omega),aA.aB (by omega)]) fun id b=>by have:=hX id b;rw[aA.aB (by omega),aA.aB (by omega),aA.aB (by omega),aA.aB (by omega)]
def T6(c:Cfg)(s:CSt)(u:List Bool)(st:Nat):CSt×List Bool:=match XF c s u st with
 |none=>(s,u)
 |some who=>(bS c s (.adm who st),u.set who true)
theorem Ez{X:Nat->Prop}{c:Cfg}{s:CSt}{st g uc um:Nat}{u:List Bool}{nm:Nat->Nat}(hb:bI c)(hs:COk c s)(F:st<4)(nd:u.length=3)(m:AF X H nx nm s cells)(n:X g)(cl:H g=some ⟨1,um,u.map d8⟩)(ng:3<=uc)
 (h: ∀H' nx' i C,nx<=nx'->AF X H' nx' i (T6 c s u st).1 C->H' g=some ⟨1,um,(T6 c s u st).2.map d8⟩->(∀id,X id->id≠g->H' id=H id)->K (dA C) H' nx'):
 an3 OC [dA (cD c),dA cells,dI st,.one (.c (.osl 1 g 0 3 uc))] H nx K:=by
 refine bA.mk Tryz.func124 (by kernel_rfl) zp rfl fun Q hQ=> ?_
 unfold CP
 have hX:=m.x
 obtain⟨nn,np⟩:=eN hb
 obtain⟨wc,hc,pc,vc,tc,mp,rp,mv,rv,aa,g1,g2,g3,g4,g5,g6,g7,g8,g9,ga,gb⟩:=m.get
 obtain⟨v,hv⟩: ∃v,aU s st=v:=⟨_,rfl⟩
 obtain⟨po,nq,do_,dc,gs,gp,gd⟩:=gb st F
 rw[hv] at gs gp gd
 have cp:=m
 subst aa
 have lt:=m.names.lt
 have hA:bH nx ([0,1,2,3,4,11+st,15+st].map nm):=AM.apart (m.names.list (by simp;omega) (by simp;omega)) (fun x hx=>by obtain⟨j,hj,rfl⟩:=akJ.1 hx;exact lt j (by simp at hj;omega))
 simp only[bH,cU,List.map] at hA
 have fh:=(hs.slv st F).pl
 rw[hv] at fh
 by_cases ob:v.pipe.length=2
 ·have hlen:((v.pipe.length:Int)=2)=True:=eq_true (by omega);have hn:T6 c s u st=(s,u):=by unfold T6;rw[Hh (by rw[hv];omega)]
  rw[hn] at h;repeat' first|apply vI<;>(simp only[go_sem,nL,g2,gs,hlen,hA])|refine⟨by omega,?_⟩|fail
  refine hQ _ _ _ _ _ (.inr rfl) (nU rfl aA.aI rfl) ?_;have U:=hX g n;refine h _ _ nm _ (by omega) (m.frame (by omega) fun id f _=>by rw[aA.aB (by omega),aA.aB (by omega),aA.aB (by omega)]) (by rw[aA.aB (by omega),aA.aB (by omega),aA.aB (by omega)];exact cl) fun id f _=> ?_;have:=hX id f;rw[aA.aB (by omega),aA.aB (by omega),aA.aB (by omega)]
 have hlen:((v.pipe.length:Int)=2)=False:=eq_false (by omega)
 repeat' first|apply vI<;>(simp only[go_sem,nL,g2,gs,hlen,hA])|refine⟨by omega,?_⟩|fail
 refine aH.ae1 fun G hG=> ?_
 have U:=hX g n
 have f0:G nx=some ⟨3,1,[cD c]⟩:=by rw[hG,aA.aB (by omega),aA.aB (by omega)];exact aA.aI
 have f1:G (nx+1)=some ⟨5,1,[[.osl 1 (nm 0) 0 s.words.length wc,.osl 1 (nm 1) 0 s.holds.length hc,.osl 4 (nm 2) 0 3 pc,.osl 3 (nm 3) 0 4 vc,.osl 5 (nm 4) 0 s.told.length tc]]⟩:=by rw[hG,aA.aB (by omega)];exact aA.aI
 have f2:G (nx+2)=some ⟨5,1,[[D1.osl 0 0 0 0 0,D1.osl 0 0 0 0 0,D1.osl 0 0 0 0 0,D1.osl 0 0 0 0 0,D1.osl 0 0 0 0 0]]⟩:=by rw[hG];exact aA.aI
 have I: ∀id,id<nx->G id=H id:=fun id f=>by rw[hG,aA.aB (by omega),aA.aB (by omega),aA.aB (by omega)]
 clear hG
 refine aH.cE (β:=Nat) (fun j=>en [(9,dI j),(8,.one (.c (.ptr 5 (nx+2) 0 0))),(5,.one (.c (.ptr 5 (nx+1) 0 0))),(4,.one (.c (.ptr 3 nx 0 0))),(3,.one (.c (.osl 1 g 0 3 uc))),(2,dI st)])
  (fun j H1 _=>1<=j/\j<=4/\H1=G/\ ∀D,1<=D->D<j->Q1 c s u st (L6 s st D)=false) (fun j=>4-j) 1 ⟨noF,_,by repeat' first|exact C1|refine xqI rfl rfl ?_|refine xqP (by omega) rfl rfl ?_|refine xqO (by omega) rfl rfl (by rfl) ?_|fail,aF,by omega,by omega,rfl,fun D y h2=>by omega⟩ ?_
 rintro j H1 d fm ⟨fo,ox,fr,hinv⟩ KL cq
 subst fr
 have ad:H1 (nm 3)=some ⟨3,mv,rv⟩:=(I _ (lt 3 (by omega))).trans g2
 have P:H1 g=some ⟨1,um,u.map d8⟩:=(I _ U).trans cl
 obtain⟨fs,gf⟩:=(hs.slv st F).last
 rw[hv] at fs gf
 have A:Q1 c s u st (L6 s st j)=false->∀D,1<=D->D<j+1->Q1 c s u st (L6 s st D)=false:=fun hf D y h2=>by
  by_cases gg:D<j;·exact hinv D y gg
  ·have:D=j:=(by omega);subst this;exact hf
 by_cases ha:j<=3
 ·obtain⟨who,E⟩: ∃who,who=L6 s st j:=⟨_,rfl⟩
  have ct:who=((v.last+(j:Int))%3).toNat:=by rw[E,<-hv];rfl
  have R:who<3:=by omega
  have J:(v.last+(j:Int)).tmod 3=(who:Int):=by rw[alQ (by omega)];omega
  rw[<-E] at A
  cases B:u.getD who default with
  |true=>
   have S:(u.map d8)[who]?=some (d8 true):=(by rw[akN,akD (by omega),Option.map_some];rw[amB,akD (by omega),Option.getD_some] at B;rw[B]);repeat' first|apply vI<;>(simp only[go_sem,f0,f1,ad,P,gs,J,S,nL];try simp (disch:=omega) only[Iw])|apply vT (by omega)|refine⟨by omega,?_⟩|fail
   exact cq _ _ _ (j+1) noF _ (by omega) (by omega) (by repeat' first|exact C1|refine xqI rfl rfl ?_|refine xqP (by omega) rfl rfl ?_|refine xqO (by omega) rfl rfl (by rfl) ?_|fail) aF ⟨by omega,by omega,rfl,A (by unfold Q1;rw[B];rfl)⟩
  |false=>
   have S:(u.map d8)[who]?=some (d8 false):=(by rw[akN,akD (by omega),Option.map_some];rw[amB,akD (by omega),Option.getD_some] at B;rw[B]);by_cases L:SF c s who st
   ·have M:decide (SF c s who st)=true:=decide_eq_true L;have hB:bH d [g,nx,nx+1,nx+2]:=AM.apart (by simp;omega) (by simp;omega);simp only[bH,cU] at hB;obtain⟨qo,qc,oc,gr,gq,go⟩:=ga who R;obtain⟨p,hp⟩: ∃p,aL s who=p:=⟨_,rfl⟩
    rw[hp] at gr gq go;have n2:=lt 2 (by omega);have cw:(nm 2=g)=False:=eq_false fun he=>m.names.av 2 (by omega) (he▸n);obtain⟨m1,m2,_,_⟩:=id L;rw[hp] at m1 m2;have cx:=hs.port who R;rw[hp] at cx;have ps:=cx.ql;obtain⟨T,cy⟩: ∃T,p.queue.getD 0 default=T:=⟨_,rfl⟩
    obtain⟨mq,rq0,x1,x2,x3,x4,x5,x6⟩:=gq.ex;rw[akU] at x4;have x7:rq0[qo]?=some (aG T):=(by have:(rq0.drop qo)[0]?=some (aG T):=(by rw[x2,akN,<-cy];simp[List.getD,show 0<p.queue.length by omega]);rwa [akY,Nat.add_zero] at this);have n5:=lt (5+who) (by omega);have hd:H1 (nm (5+who))=some ⟨1,mq,rq0⟩:=(I _ n5).trans x1;have hg:(nm (5+who)=g)=False:=eq_false fun he=>m.names.av (5+who) (by omega) (he▸n);have df:bH d ([2,3,5+who,8+who,11+st].map nm):=AM.apart (m.names.list (by simp;omega) (by simp;omega)) (fun x hx=>by obtain⟨j,hj,rfl⟩:=akJ.1 hx;have:=lt j (by simp at hj;omega);omega);simp only[bH,cU,List.map] at df;have hh:H1 (nm 2)=some ⟨4,mp,rp⟩:=(I _ n2).trans g1;have n3:=lt 3 (by omega);have n8:=lt (8+who) (by omega);have ho:=lt (11+st) (by omega);have dh:(nm (8+who)=g)=False:=eq_false fun he=>m.names.av (8+who) (by omega) (he▸n);have ds:(nm (11+st)=g)=False:=eq_false fun he=>m.names.av (11+st) (by omega) (he▸n);have dv:(nm 3=g)=False:=eq_false fun he=>m.names.av 3 (by omega) (he▸n);have k0: ∀(G:aA) (b k:Nat),msk (d+b) [k] G nx=G nx:=fun G b k=>mk1 (by omega);have k1: ∀(G:aA) (b k:Nat),msk (d+b) [k] G (nx+1)=G (nx+1):=fun G b k=>mk1 (by omega);have k2: ∀(G:aA) (b k:Nat),msk (d+b) [k] G (nm 2)=G (nm 2):=fun G b k=>mk1 (by omega);have k3: ∀(G:aA) (b k:Nat),msk (d+b) [k] G (nm 3)=G (nm 3):=fun G b k=>mk1 (by omega);have k5: ∀(G:aA) (b k:Nat),msk (d+b) [k] G (nm (5+who))=G (nm (5+who)):=fun G b k=>mk1 (by omega);have k8: ∀(G:aA) (b k:Nat),msk (d+b) [k] G (nm (8+who))=G (nm (8+who)):=fun G b k=>mk1 (by omega);have hq: ∀(G:aA) (b k:Nat),msk (d+b) [k] G (nm (11+st))=G (nm (11+st)):=fun G b k=>mk1 (by omega);have ht: ∀(G:aA) (b k:Nat),34<=b->msk (d+b) [k] G (d+33)=G (d+33):=fun G b k hb=>mk1 (by omega);obtain⟨mo,ro,o1,o2,o3,o4,o5,o6⟩:=go.ex;rw[akU] at o4;rw[alK] at o2;have hy:H1 (nm (8+who))=some ⟨3,mo,ro⟩:=(I _ n8).trans o1;obtain⟨me,re,p1,p2,p3,p4,p5,p6⟩:=gp.ex;rw[akU] at p4;have ia:H1 (nm (11+st))=some ⟨3,me,re⟩:=(I _ ho).trans p1;have ao:(qo+(1+(p.queue.length-1))<=rq0.length)=True:=eq_true (by omega);have az:List.take (p.queue.length-1) (List.drop (qo+1) rq0)=(p.queue.drop 1).map aG:=(by rw[<-alX,x2,<-amD,akM (by simp)]);have br:List.take v.pipe.length (List.drop po re)=v.pipe.map eCJ:=(by rw[p2,akM (by simp)]);have ca:List.take p.out.length ro=p.out.map eCJ:=(by rw[o2,akM (by simp)]);have dx: ∀r,(rp.set who r)[who]?=some r:=fun r=>by rw[ak6 (by omega)]
    have dy: ∀r,(rv.set st r)[st]?=some r:=fun r=>by rw[ak6 (by omega)]
    have dz:=hb.2.1;have ed:bH nx ([2,3,5+who,8+who,11+st].map nm):=AM.apart (m.names.list (by simp;omega) (by simp;omega)) (fun x hx=>by obtain⟨j,hj,rfl⟩:=akJ.1 hx;exact lt j (by simp at hj;omega));simp only[bH,cU,List.map] at ed;repeat' first| (first|apply vI|refine V4 hb hs R F (cp.tn hs.pl hs.sl (fun id f=>I id f)) ?_)<;>(simp only[go_sem,f0,f1,f2,hh,ad,P,hd,hy,ia,x7,gr,gs,J,S,M,hB,cw,hg,dh,ds,dv,df,ed,k0,k1,k2,k3,k5,k8,hq,ht,ao,az,br,ca,dx,dy,List.nil_append,akU,akS,ak4,nL];try simp (disch:=omega) only[Iw])|apply vT (by omega)| (with_reducible first|refine fun(cap:Nat) (ih:_<=cap)=> ?_|refine fun(qf:_<=cap)=> ?_)|refine⟨by omega,?_⟩|fail
    rename_i o ei iv q ej iw;have jh:XF c s u st=some who:=(by rw[E];apply Cw (by rw[hv];omega) fo ha hinv;rw[<-E];unfold Q1;rw[B,M];rfl);have hn:T6 c s u st=(bS c s (.adm who st),u.set who true):=(by unfold T6;rw[jh]);rw[hn] at h;refine hQ _ _ _ _ _ (.inr rfl) (nU rfl aA.aI rfl) ?_;obtain⟨s',t⟩: ∃s',s'=bS c s (.adm who st):=⟨_,rfl⟩
    rw[<-t] at h;have V:(aL s who).queue.getD 0 default=T:=(by rw[hp,cy]);have N:aL s' who= {p with queue:=p.queue.drop 1,out:=p.out++[⟨who,T,st⟩]}:=(by rw[t,cH rfl (by rw[hs.pl];omega),if_pos rfl,V,hp]);have O:aU s' st= {v with pipe:=v.pipe++[⟨who,T,c.lat.getD st default⟩],last:=who}:=(by rw[t,dF rfl (by rw[hs.sl];omega),if_pos rfl,V,hv]);have inj:=m.names.inj;have qj:nm 2≠nm 3:=fun he=>by have:=inj 2 3 (by omega) (by omega) he;omega
    have qx:g≠nm 2:=fun he=>of_eq_false cw he.symm;have rf:g≠nm 3:=fun he=>of_eq_false dv he.symm;have rj:g≠nm (8+who):=fun he=>of_eq_false dh he.symm;have jo:g≠nm (11+st):=fun he=>of_eq_false ds he.symm;generalize Y:aA.set _ (nx+2) _=W;have ju:W (d+47)=some ⟨1,o,(p.queue.drop 1).map aG⟩:=(by rw[<-Y];simp (disch:=omega) only[aA.aB,aA.aI]);have kc:W (d+61)=some ⟨3,q,(p.out++[(⟨who,T,st⟩:eZ)]).map eCJ⟩:=(by rw[<-Y,akQ];simp (disch:=omega) only[aA.aB,aA.aI];rfl);have kf:W (d+83)=some ⟨3,cap,(v.pipe++[(⟨who,T,c.lat.getD st default⟩:eZ)]).map eCJ⟩:=(by rw[<-Y,akQ];simp (disch:=omega) only[aA.aB,aA.aI];rfl);have w2:W (nm 2)=some ⟨4,mp,rp.set who [cI p.next,.osl 1 (d+47) 0 (p.queue.length-1) o,.osl 3 (d+61) 0 (p.out.length+1) q,cI p.last]⟩:=(by rw[<-Y];simp (disch:=omega) only[aA.aB,aA.aI]);have w3:W (nm 3)=some ⟨3,mv,rv.set st [.osl 3 (d+83) 0 (v.pipe.length+1) cap,.osl 5 (nm (15+st)) do_ v.done.length dc,cI who]⟩:=(by rw[<-Y];simp (disch:=omega) only[aA.aB,aA.aI]);have kt:W g=some ⟨1,um,(u.set who true).map d8⟩:=(by rw[<-Y];simp (disch:=omega) only[aA.aB,aA.aI];rw[al8];rfl);have wf: ∀id,id<nx->id≠g->id≠nm 2->id≠nm 3->id≠nm (8+who)->id≠nm (11+st)->W id=H id:=fun id y h2 h3 h4 h5 h6=>by rw[<-Y];simp (disch:=omega) only[aA.aB,aA.gK];exact I id y
    clear Y;have Z: ∀a,a<19->a≠2->a≠3->a≠8+who->a≠11+st->W (nm a)=H (nm a):=fun a y h2 h3 h4 h5=>wf _ (lt a y) (fun he=>m.names.av a y (he▸n)) (fun he=>h2 (inj a 2 y (by omega) he)) (fun he=>h3 (inj a 3 y (by omega) he)) (fun he=>h4 (inj a (8+who) y (by omega) he)) (fun he=>h5 (inj a (11+st) y (by omega) he));obtain⟨i,w⟩: ∃i,i=put (put (put nm (5+who) (d+47)) (8+who) (d+61)) (11+st) (d+83):=⟨_,rfl⟩
    have l: ∀a,a≠5+who->a≠8+who->a≠11+st->i a=nm a:=fun a y h2 h3=>by rw[w,dG h3,dG h2,dG y]
    have eo:i (5+who)=d+47:=(by rw[w,dG (by omega),dG (by omega),kQ]);have ep:i (8+who)=d+61:=(by rw[w,dG (by omega),kQ]);have ab:i (11+st)=d+83:=(by rw[w,kQ]);have cc: ∀z,nx<=z->¬X z:=fun z hz hn=>by have:=hX z hn;omega
    have hN:Names X (d+96) i:=(by rw[w];exact((m.names.put (nx':=d+48) (by omega) (by omega) (cc _ (by omega))).put (nx':=d+62) (by omega) (by omega) (cc _ (by omega))).put (by omega) (by omega) (cc _ (by omega)));have et:s'.words=s.words:=(by rw[t];rfl);have eu:s'.holds=s.holds:=(by rw[t];rfl);have ew:s'.told=s.told:=(by rw[t];rfl);refine h W _ i _ (by omega) ⟨⟨⟨wc,hc,pc,vc,tc,?_,?_,?_,?_,g6,g7⟩,⟨mp,rp.set who [cI p.next,.osl 1 (d+47) 0 (p.queue.length-1) o,.osl 3 (d+61) 0 (p.out.length+1) q,cI p.last],?_,by rw[akI,g8],fun k hk=> ?_⟩,⟨mv,rv.set st [.osl 3 (d+83) 0 (v.pipe.length+1) cap,.osl 5 (nm (15+st)) do_ v.done.length dc,cI who],?_,by rw[akI,g9],fun k hk=> ?_⟩⟩,hN,fun id f=>by have:=hX id f;omega⟩ kt fun id f la=> ?_;·rw[kh,et,eu,ew,l 0 (by omega) (by omega) (by omega),l 1 (by omega) (by omega) (by omega),l 2 (by omega) (by omega) (by omega),l 3 (by omega) (by omega) (by omega),l 4 (by omega) (by omega) (by omega)]
    ·rw[et,l 0 (by omega) (by omega) (by omega)];exact g3.frame (Z 0 (by omega) (by omega) (by omega) (by omega) (by omega))
    ·rw[eu,l 1 (by omega) (by omega) (by omega)];exact g4.frame (Z 1 (by omega) (by omega) (by omega) (by omega) (by omega))
    ·rw[ew,l 4 (by omega) (by omega) (by omega)];exact g5.frame (Z 4 (by omega) (by omega) (by omega) (by omega) (by omega))
    ·rw[l 2 (by omega) (by omega) (by omega)];exact w2
    ·by_cases cd:k=who
     ·subst cd;refine⟨_,dx _,⟨0,o,q,?_,?_,?_⟩⟩;·rw[N,eo,ep];simp only[Cp,akS,akG,List.length_singleton]
      ·rw[N,eo];exact⟨o,_,ju,rfl,by simp,by simp,by simp;omega,by omega⟩
      ·rw[N,ep];exact⟨q,_,kc,rfl,by simp,by simp,by simp;omega,by omega⟩
     ·obtain⟨lb,lk,ma,y1,y2,y3⟩:=ga k hk;have e:aL s' k=aL s k:=(by rw[t,cH rfl (by rw[hs.pl];omega),if_neg cd]);refine⟨_,by rw[ak7 (Ne.symm cd)];exact y1,⟨lb,lk,ma,?_,?_,?_⟩⟩;·rw[e,l (5+k) (by omega) (by omega) (by omega),l (8+k) (by omega) (by omega) (by omega)];rfl
      ·rw[e,l (5+k) (by omega) (by omega) (by omega)];exact y2.frame (Z (5+k) (by omega) (by omega) (by omega) (by omega) (by omega))
      ·rw[e,l (8+k) (by omega) (by omega) (by omega)];exact y3.frame (Z (8+k) (by omega) (by omega) (by omega) (by omega) (by omega))
    ·rw[l 3 (by omega) (by omega) (by omega)];exact w3
    ·by_cases cf:k=st
     ·subst cf;refine⟨_,dy _,⟨0,cap,do_,dc,?_,?_,?_⟩⟩;·rw[O,ab,l (15+k) (by omega) (by omega) (by omega)];simp only[Gm,akG,List.length_singleton]
      ·rw[O,ab];exact⟨cap,_,kf,rfl,by simp,by simp,by simp;omega,by omega⟩
      ·rw[O,l (15+k) (by omega) (by omega) (by omega)];exact gd.frame (Z (15+k) (by omega) (by omega) (by omega) (by omega) (by omega))
     ·obtain⟨mh,mm,mn,mw,y1,y2,y3⟩:=gb k hk;have e:aU s' k=aU s k:=(by rw[t,dF rfl (by rw[hs.sl];omega),if_neg cf]);refine⟨_,by rw[ak7 (Ne.symm cf)];exact y1,⟨mh,mm,mn,mw,?_,?_,?_⟩⟩;·rw[e,l (11+k) (by omega) (by omega) (by omega),l (15+k) (by omega) (by omega) (by omega)];rfl
      ·rw[e,l (11+k) (by omega) (by omega) (by omega)];exact y2.frame (Z (11+k) (by omega) (by omega) (by omega) (by omega) (by omega))
      ·rw[e,l (15+k) (by omega) (by omega) (by omega)];exact y3.frame (Z (15+k) (by omega) (by omega) (by omega) (by omega) (by omega))
    ·have av:=m.names.av;exact wf id (hX id f) la (fun he=>av 2 (by omega) (he▸f)) (fun he=>av 3 (by omega) (he▸f)) (fun he=>av (8+who) (by omega) (he▸f)) (fun he=>av (11+st) (by omega) (he▸f))
   ·have M:decide (SF c s who st)=false:=decide_eq_false L;repeat' first| (first|apply vI|refine V4 hb hs R F (cp.tn hs.pl hs.sl (fun id f=>I id f)) ?_)<;>(simp only[go_sem,f0,f1,ad,P,gs,J,S,M,nL];try simp (disch:=omega) only[Iw])|apply vT (by omega)|refine⟨by omega,?_⟩|fail
    exact cq _ _ _ (j+1) noF _ (by omega) (by omega) (by repeat' first|exact C1|refine xqI rfl rfl ?_|refine xqP (by omega) rfl rfl ?_|refine xqO (by omega) rfl rfl (by rfl) ?_|fail) aF ⟨by omega,by omega,rfl,A (by unfold Q1;rw[B,M];rfl)⟩
 ·have hn:T6 c s u st=(s,u):=by unfold T6;rw[Cc fun D y h2=>hinv D y (by omega)]
  rw[hn] at h;repeat' first|apply vI<;>(simp only[go_sem,f0,f1,f2,nL])|apply vF (by omega)|fail
  refine hQ _ _ _ _ _ (.inr rfl) (nU rfl aA.aI rfl) ?_;refine h _ _ nm _ (by omega) (m.frame (by omega) fun id f _=>by rw[aA.aB (by omega)];exact I id f) (by rw[aA.aB (by omega)];exact P) fun id f _=> ?_;have:=hX id f;rw[aA.aB (by omega)];exact I id this
end
theorem Nx{a b c:Job}(d:fP a b=true)(e:fP b c=true):fP a c=true:=by rw[uU] at*;omega
theorem Yp{l:List Job}(h: ∀i,i<l.length->0<i->fP (l.getD (i-1) default) (l.getD i default)=true):jF l:=by
 have key: ∀d i,i+d+1<l.length->fP (l.getD i default) (l.getD (i+d+1) default)=true:=by
  intro d
  induction d with
  |zero=>exact fun i hi=>h (i+1) hi (by omega)
  |succ d a=>exact fun i hi=>Nx (a i (by omega)) (h (i+d+1+1) hi (by omega))
 refine ak5.2 fun i j hi b c=> ?_;have:=key (j-i-1) i (by omega);rw[show i+(j-i-1)+1=j by omega] at this;simpa [List.getD,hi,b] using this
theorem aeD{l:List Job}(h:jF l){i:Nat}(hi:i<l.length)(a:0<i):fP (l.getD (i-1) default) (l.getD i default)=true:=by have:=ak5.1 h (i-1) i (by omega) hi (by omega);simpa [List.getD,hi,show i-1<l.length by omega] using this
section
variable{H:aA}{nx:Nat}{K:an4}
theorem U3{c:Cfg}{a:List Int}{l:List Job}{b:Bool}(V:bI c)(C:a.length=3)(I:Tk c a)(hl:l.length<2^21)(W: ∀j∈l,j.rsp.data.length<2^21)(h:K (dB (aq c a l b)) H nx):an3 pR [dA (cD c),dS (a.map aG),dS (l.map aP),dB b] H nx K:=by
 refine aC.pure (args0:=[dA (cD c),dS (a.map aG),dS (l.map aP),dB b]) (R:=fun X=>X=dB (aq c a l b)) ?_ rfl (aE ⟨aD rfl,aD rfl,aD rfl,aD rfl,trivial⟩) (fun r hr=>hr▸h);clear h;refine aM.mk Tryz.func214 (by kernel_rfl) sw rfl fun Q t=> ?_;unfold zD;obtain⟨p,F⟩:=eN V;repeat' first|apply vI<;>(simp only[go_sem])|fail
 (refine aH.loop (α:={k:Nat//k<=l.length/\(∀i,i<k->InA a (l.getD i default)/\(0<i->fP (l.getD (i-1) default) (l.getD i default)=true)/\(if b then y4 c (l.getD i default) else (l.getD i default).rsp=kL))}) (fun u=>en [(9,dI u.1),(4,.one (.c (.eT (cD c)))),(3,dB b),(2,dS (l.map aP)),(1,dS (a.map aG))]) (fun _=>.nil) _ (fun u=>l.length-u.1) ⟨0,by omega,(by intros;first|trivial|omega)⟩ (aS (akA _) (by repeat' first|exact C1|refine xqI rfl rfl ?_| (with_reducible apply C2)| ((with_reducible apply D0);exact CI rfl (by simp) rfl rfl rfl)|fail)) ?_);(rintro⟨k,Z,hinv⟩ KL v);by_cases G:k<l.length
 ·obtain⟨j,J⟩: ∃j,j=l.getD k default:=⟨_,rfl⟩
  have g:=J.symm;have hm:j∈l:=by rw[J];exact bL G
  have Y:=W j hm;have m:InA a j->(0<k->fP (l.getD (k-1) default) j=true)->(if b then y4 c j else j.rsp=kL)->∀i,i<k+1->InA a (l.getD i default)/\(0<i->fP (l.getD (i-1) default) (l.getD i default)=true)/\(if b then y4 c (l.getD i default) else (l.getD i default).rsp=kL):=fun s y o=>bT hinv ⟨by rw[g];exact s,by rw[g];exact y,by rw[g];exact o⟩;have f: ¬(InA a j/\(0<k->fP (l.getD (k-1) default) j=true)/\(if b then y4 c j else j.rsp=kL))->aq c a l b=false:=fun h=>Er fun L=>h ⟨L.inA j hm,fun D=>by rw[J];exact aeD L.sorted G D,L.rsp j hm⟩;have q:((k:Int)-1).toNat=k-1:=by omega
  have z:j.rsp=kL↔j.rsp.id=0/\j.rsp.code=0/\(j.rsp.data.length:Int)=0:=by obtain⟨w,n,⟨i,d,x⟩⟩:=j;simp only[kL,Rsp.mk.injEq];refine⟨fun⟨s,y,o⟩=>⟨s,y,by rw[o];rfl⟩,fun⟨s,y,o⟩=>⟨s,y,alZ.1 (by omega)⟩⟩
  by_cases hw:0<=j.who/\j.who<=2
  ·have T:=I j.who.toNat (by omega);have U:=F j.who.toNat;by_cases A:0<=j.n/\j.n<=a.getD j.who.toNat default-1
   ·have B:InA a j:=⟨hw,A.1,by omega⟩
    cases b with
    |false=>
     by_cases D:0<k
     ·by_cases e:fP (l.getD (k-1) default) j=true
      ·repeat' first| (first|apply vI|apply Y4 (by omega)|refine Y6 (fun h=> ?_) fun h=> ?_|apply bF|apply pK)<;>(simp only[go_sem,g,eq_true hw,eq_true A,e,p,C,q];try simp (disch:=omega) only[Iw])|apply vT (by omega)|refine iB (fun h=> ?_) fun h=> ?_|refine⟨by omega,?_⟩|fail
       all_goals first| (refine v _ _ _ ⟨k+1,by omega,m B (fun _=>e) (by rw[if_neg (by decide)];exact z.2 ⟨by omega,by omega,by omega⟩)⟩ (by omega) (by(try dsimp only);omega) (aS (akA _) (by repeat' first|exact C1|refine xqI rfl rfl ?_|fail)))|exact aJ t (dB false) rfl rfl (congrArg dB (f fun⟨_,_,o⟩=>by rw[if_neg (by decide)] at o;have:=z.1 o;omega)).symm
      ·have E:=eq_false_of_ne_true e;repeat' first| (first|apply vI|apply Y4 (by omega)|apply bF|apply pK)<;>(simp only[go_sem,g,eq_true hw,eq_true A,E,p,C,q];try simp (disch:=omega) only[Iw])|apply vT (by omega)|refine⟨by omega,?_⟩|fail
       all_goals exact aJ t (dB false) rfl rfl (congrArg dB (f fun⟨_,y,_⟩=>e (y D))).symm
     ·repeat' first| (first|apply vI|apply Y5 (by omega)|refine Y6 (fun h=> ?_) fun h=> ?_|apply bF)<;>(simp only[go_sem,g,eq_true hw,eq_true A,p,C,q];try simp (disch:=omega) only[Iw])|apply vT (by omega)|refine iB (fun h=> ?_) fun h=> ?_|refine⟨by omega,?_⟩|fail
      all_goals first| (refine v _ _ _ ⟨k+1,by omega,m B (fun h=>absurd h D) (by rw[if_neg (by decide)];exact z.2 ⟨by omega,by omega,by omega⟩)⟩ (by omega) (by(try dsimp only);omega) (aS (akA _) (by repeat' first|exact C1|refine xqI rfl rfl ?_|fail)))|exact aJ t (dB false) rfl rfl (congrArg dB (f fun⟨_,_,o⟩=>by rw[if_neg (by decide)] at o;have:=z.1 o;omega)).symm
    |true=>
     by_cases D:0<k
     ·by_cases e:fP (l.getD (k-1) default) j=true
      ·repeat' first| (first|apply vI|apply Y4 (by omega)|refine Y6 (fun h=> ?_) fun h=> ?_|apply bF|apply pK|apply oX (show j.rsp.data.length<2^40 by omega))<;>(simp only[go_sem,g,eq_true hw,eq_true A,e,p,C,q];try simp (disch:=omega) only[Iw])|apply vT (by omega)|refine⟨by omega,?_⟩|fail
       all_goals first| (refine v _ _ _ ⟨k+1,by omega,m B (fun _=>e) (by rw[if_pos rfl];exact⟨Classical.not_not.1 (by assumption),by unfold bO;omega⟩)⟩ (by omega) (by(try dsimp only);omega) (aS (akA _) (by repeat' first|exact C1|refine xqI rfl rfl ?_|fail)))|exact aJ t (dB false) rfl rfl (congrArg dB (f fun⟨_,_,o⟩=>by rw[if_pos rfl] at o;obtain⟨M,N⟩:=o;unfold bO at N;first|omega|exact absurd M (by assumption)|simp_all)).symm
      ·have E:=eq_false_of_ne_true e;repeat' first| (first|apply vI|apply Y4 (by omega)|apply bF|apply pK)<;>(simp only[go_sem,g,eq_true hw,eq_true A,E,p,C,q];try simp (disch:=omega) only[Iw])|apply vT (by omega)|refine⟨by omega,?_⟩|fail
       all_goals exact aJ t (dB false) rfl rfl (congrArg dB (f fun⟨_,y,_⟩=>e (y D))).symm
     ·repeat' first| (first|apply vI|apply Y5 (by omega)|refine Y6 (fun h=> ?_) fun h=> ?_|apply bF|apply oX (show j.rsp.data.length<2^40 by omega))<;>(simp only[go_sem,g,eq_true hw,eq_true A,p,C,q];try simp (disch:=omega) only[Iw])|apply vT (by omega)|refine⟨by omega,?_⟩|fail
      all_goals first| (refine v _ _ _ ⟨k+1,by omega,m B (fun h=>absurd h D) (by rw[if_pos rfl];exact⟨Classical.not_not.1 (by assumption),by unfold bO;omega⟩)⟩ (by omega) (by(try dsimp only);omega) (aS (akA _) (by repeat' first|exact C1|refine xqI rfl rfl ?_|fail)))|exact aJ t (dB false) rfl rfl (congrArg dB (f fun⟨_,_,o⟩=>by rw[if_pos rfl] at o;obtain⟨M,N⟩:=o;unfold bO at N;first|omega|exact absurd M (by assumption)|simp_all)).symm
   ·repeat' first| (first|apply vI|apply bF)<;>(simp only[go_sem,g,eq_true hw,eq_false A,C];try simp (disch:=omega) only[Iw])|apply vT (by omega)|refine⟨by omega,?_⟩|fail
    all_goals first| (exfalso;omega)|exact aJ t (dB false) rfl rfl (congrArg dB (f fun⟨s,_,_⟩=>A ⟨s.2.1,by have:=s.2.2;omega⟩)).symm
  ·repeat' first| (first|apply vI|apply bF)<;>(simp only[go_sem,g,eq_false hw])|apply vT (by omega)|refine⟨by omega,?_⟩|fail
   all_goals first| (exfalso;omega)|exact aJ t (dB false) rfl rfl (congrArg dB (f fun⟨s,_,_⟩=>hw s.1)).symm
 ·repeat' first|apply vI<;>(simp only[go_sem])|apply vF (by omega)|fail
  have O:k=l.length:=by omega
  subst O;exact aJ t (dB true) rfl rfl (congrArg dB (sa ⟨fun x S=>iE (fun i hi=>(hinv i hi).1) x S,Yp fun i hi=>(hinv i hi).2.1,fun x S=>iE (P:=fun x=>if b then y4 c x else x.rsp=kL) (fun i hi=>(hinv i hi).2.2) x S⟩).symm)
end
theorem umM{b:Nat}{l:List Nat}{H:aA}:dU b l H (msk b l H)=H:=by funext j;simp only[dU,msk];split<;>rfl
theorem muM{b:Nat}{l:List Nat}{H G:aA}:msk b l (dU b l H G)=msk b l G:=by funext j;simp only[dU,msk];split<;>rfl
section
variable{H:aA}{nx:Nat}{K:an4}
end
end Go.Proofs.YtlncecohbakleaaGreat
