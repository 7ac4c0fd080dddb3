/- Texts laid together by a program: rules, contracts and the walk that leads to the law. -/
import Derived.Test.YtlncecohbakleaaGreatPS14
import Derived.Test.YtlncecohbakleaaGreatPS13
import Derived.Test.YtlncecohbakleaaGreatPS12
set_option linter.unusedVariables false
set_option linter.unusedSimpArgs false
set_option linter.unusedSectionVars false
set_option maxRecDepth 100000
set_option maxHeartbeats 8000000
namespace Go.AM
def jS(f:Nat->Int):Nat->Int
 |0=>0
 |n+1=>jS f n+f n
theorem KF{f:Nat->Int}{m:Int}(a:0<=m): ∀n,(∀k,k<n->0<=f k/\f k<=m)->0<=jS f n/\jS f n<=m*n
 |0,_=>by simp[jS]
 |n+1,h=>by
  have b:=KF a n fun k c=>h k (by omega);have d:=h n (by omega);have e:m*((n+1:Nat):Int)=m*n+m:=by push_cast;rw[Int.mul_add,Int.mul_one]
  simp only[jS];omega
def vZ(i:CIn):Prop:=i.ready.length=3/\i.n9.length=4/\i.send.length=3
theorem abY.frame{H H':aA}{nm:Nat->Nat}{s:CSt}{cells:List D1}(h:abY H nm s cells)(a: ∀k,k<19->H' (nm k)=H (nm k)):abY H' nm s cells:=by
 obtain⟨⟨wc,hc,f,vc,g,i,j,l,n,o⟩,⟨m,rows,bO8,bO9,bPL⟩,⟨p,b,bPM,bPR,bPS⟩⟩:=h;refine⟨⟨wc,hc,f,vc,g,i,j.frame (a _ (by omega)),l.frame (a _ (by omega)),n.frame (a _ (by omega)),o⟩,⟨m,rows,by rw[a 2 (by omega)];exact bO8,bO9,fun k c=> ?_⟩,⟨p,b,by rw[a 3 (by omega)];exact bPM,bPR,fun k c=> ?_⟩⟩;·obtain⟨r,d,e⟩:=bPL k c;exact⟨r,d,e.frame (a _ (by omega)) (a _ (by omega))⟩
 ·obtain⟨r,d,e⟩:=bPS k c;exact⟨r,d,e.frame (a _ (by omega)) (a _ (by omega))⟩
variable{s:CSt}
theorem agA{c:Cfg}{l:List CIn}{k:Nat}(a:k<l.length):sQ c s (l.take (k+1))=vF c (l.getD k default) (sQ c s (l.take k)):=by rw[nK a,anC];rfl
theorem COk.sz{c:Cfg}(d:aQ c)(h:COk c s):CSz s:=by
 obtain⟨e,_,f,_⟩:=h.atm;have g:s.told.length<=36:=by have:=h.st.lens d;simp only[cX] at this;omega
 have i: ∀j∈s.told,j.rsp.data.length<2^21:=fun j b=>by have:=(h.st.R8 j (brH _ b)).1;unfold pA at this;omega
 refine⟨h.pl,h.sl,by omega,by omega,⟨by omega,i⟩,fun k a=> ?_,fun k a=> ?_⟩;·have l:=(h.port k a).ql;have m:=(h.port k a).ol;omega
 ·have l:=(h.slv k a).pl;have m:=(h.slv k a).dl;refine⟨by omega,by omega,fun j b=> ?_⟩;have:=((h.slv k a).rsp j b).1;unfold pA at this;omega
variable{H:aA}{nx:Nat}
theorem aB.ao4{P:Program}{f:FuncId}{args args':List D}{K:bNX}(H':aA)(F:Nat->Prop)(hl:args.length=args'.length)(l: ∀(i:Nat) (k d:D),args'[i]?=some k->args[i]?=some d->CvD H F id nx k d)(bO5:CvX F nx H H')(h:aB P f args' H' nx K):aB P f args H nx K:=by
 refine⟨h.1,fun c vs hs l2 hlen e=> ?_⟩;obtain⟨m,n⟩:=YO hs (Step.refl c H) l2 bO5;refine(h.2 (c.conv nx nx id (c.frI H F)) vs m (fun i hi=> ?_) (by omega) fun i d v a g=> ?_).mono ?_
 ·rcases hi with⟨_,hi⟩|⟨a,g,j⟩
  ·exact l2 i hi
  ·omega
 ·have hi:i<args.length:=by have:=(m3.1 a).1;omega
  exact zD hs (fun b h=>.inl h) (fun id o a g j=>.inr ⟨id,o,a,g,j,rfl⟩) (fun _ _=>rfl) (l i d _ a (n1 hi)) (e i _ v (n1 hi) g)
 ·rintro x z ⟨v,c2,r,H2,p,rfl,rfl,q,s,t,u,w,y⟩;refine⟨v,c2,r,H2,p,rfl,rfl,q,n.trans s,fun i hi=> ?_,u,w,y⟩;rcases t i hi with h|h
  ·rcases h with⟨_,hi⟩|⟨a,g,j⟩
   ·exact .inl hi
   ·omega
  ·exact .inr h
open Classical in
noncomputable def without(F:Nat->Prop)(H:aA):aA:=fun j=>if F j then none else H j
theorem iI{F:Nat->Prop}{j:Nat}(h: ¬F j):without F H j=H j:=by unfold without;rw[if_neg h]
theorem kS{F:Nat->Prop}:CvX F nx H (without F H):=fun j x a=>by
 by_cases h:F j;·unfold without at a;rw[if_pos h] at a;cases a
 ·rw[iI h] at a;exact⟨h,x,a,.inl rfl⟩
theorem aM.aTJ{P:Program}{T:Nat}{e:Env}{Q:AQ}{zs:List AC}(h: ∀G,G=H->aM P T zs e G nx Q):aM P T zs e H nx Q:=h H rfl
def Own{α:Type}(enc:α->List D1)(n:Nat)(H:aA)(b cap:Nat)(l:List α):Prop:=∃m,H b=some ⟨n,m,l.map enc⟩/\l.length<=cap/\cap<=m
variable{cap:Nat}
theorem Own.of{α:Type}{enc:α->List D1}{n b:Nat}{l:List α}{H':aA}(h:Own enc n H b cap l)(he:H' b=H b):Own enc n H' b cap l:=by obtain⟨m,a,c⟩:=h;exact⟨m,he.trans a,c⟩
theorem Own.frz{α:Type}{enc:α->List D1}{n b nh:Nat}{l:List α}{F:Nat->Prop}{σ:Nat->Nat}(h:Own enc n H b cap l)(he: ∀x,(enc x).length=n/\(enc x).all D1.dQ=true)(a:F b):Cv1 H F σ nh (.isl (l.map enc)) (.osl n b 0 l.length cap):=by obtain⟨m,c,d,e⟩:=h;exact bW he c rfl d a
theorem um1{b k i:Nat}{A B:aA}(h:i≠b+k):dT b [k] A B i=B i:=by unfold dT;rw[if_neg (by simp;omega)]
theorem aH6{b k:Nat}{A B:aA}:dT b [k] A B (b+k)=A (b+k):=by unfold dT;rw[if_pos (by simp)]
theorem mk1{b k i:Nat}{A:aA}(h:i≠b+k):msk b [k] A i=A i:=by unfold msk;rw[if_neg (by simp;omega)]
structure bgJ(X:Nat->Prop)(H:aA)(nx:Nat)(nm:Nat->Nat)(s:CSt)(cells:List D1):Prop where
 rep:abY H nm s cells
 names:Names X nx nm
 x: ∀id,X id->id<nx
variable{nm:Nat->Nat}{cells:List D1}
theorem bgJ.box{X:Nat->Prop}{H':aA}{nx' i0:Nat}(h:bgJ X H nx nm s cells)(f:nx<=i0)(hi:i0<nx')(c:H' i0=some ⟨5,1,[cells]⟩)(d: ∀id,id<nx->H' id=H id):Rep X H' nx' i0 nm s:=⟨⟨cells,c,h.rep.frame fun k a=>d _ (h.names.lt k a)⟩,h.names.mono (by omega),fun k a he=>by have:=h.names.lt k a;omega,⟨hi,fun e=>by have:=h.x _ e;omega⟩,fun id b=>by have:=h.x id b;omega⟩
theorem bgJ.frame{X:Nat->Prop}{H H':aA}{nx nx':Nat}{nm:Nat->Nat}{s:CSt}{cells:List D1}(h:bgJ X H nx nm s cells)(c:nx<=nx')(d: ∀id,id<nx->¬X id->H' id=H id):bgJ X H' nx' nm s cells:=⟨h.rep.frame fun k b=>d _ (h.names.lt k b) (h.names.av k b),h.names.mono c,fun id a=>by have:=h.x id a;omega⟩
theorem bgJ.ar5{X:Nat->Prop}{G:aA}(h:bgJ X H nx nm s cells)(hp:s.bM.length=3)(hs:s.dD.length=4)(a: ∀id,id<nx->G id=H id):CvD G (fun _=>True) id 0 (boR (eI s)) (boR cells):=lY (A8 ((h.rep.frame fun k b=>a _ (h.names.lt k b)).VI (fun _ _=>trivial) hp hs))
theorem bgJ.len{X:Nat->Prop}(h:bgJ X H nx nm s cells):cells.length=5:=by obtain⟨⟨_,_,_,_,_,rfl,_⟩,_,_⟩:=h.rep;rfl
theorem bgJ.get{X:Nat->Prop}(h:bgJ X H nx nm s cells):
 ∃wc hc a vc d mp b l c,cells=[.osl 1 (nm 0) 0 s.words.length wc,.osl 1 (nm 1) 0 s.holds.length hc,.osl 4 (nm 2) 0 3 a,.osl 3 (nm 3) 0 4 vc,.osl 5 (nm 4) 0 s.told.length d]/\H (nm 2)=some ⟨4,mp,b⟩/\H (nm 3)=some ⟨3,l,c⟩/\
  tZ H 1 (nm 0) 0 s.words.length wc (s.words.map aJ)/\tZ H 1 (nm 1) 0 s.holds.length hc (s.holds.map aJ)/\tZ H 5 (nm 4) 0 s.told.length d (s.told.map aS)/\3<=a/\4<=vc/\b.length=3/\c.length=4/\
  (∀k,k<3->∃e f g,b[k]?=some [cI (aF s k).next,.osl 1 (nm (5+k)) e (aF s k).queue.length f,.osl 3 (nm (8+k)) 0 (aF s k).out.length g,cI (aF s k).last]/\tZ H 1 (nm (5+k)) e (aF s k).queue.length f ((aF s k).queue.map aJ)/\tZ H 3 (nm (8+k)) 0 (aF s k).out.length g ((aF s k).out.map eCJ))/\
  ∀k,k<4->∃i a do_ j,c[k]?=some [.osl 3 (nm (11+k)) i (aL s k).pipe.length a,.osl 5 (nm (15+k)) do_ (aL s k).done.length j,cI (aL s k).last]/\tZ H 3 (nm (11+k)) i (aL s k).pipe.length a ((aL s k).pipe.map eCJ)/\tZ H 5 (nm (15+k)) do_ (aL s k).done.length j ((aL s k).done.map aS):=by
 obtain⟨⟨wc,hc,a,vc,d,rfl,p,q,t,u,v⟩,⟨mp,b,bO8,bO9,bPL⟩,⟨l,c,bPM,bPR,bPS⟩⟩:=h.rep
 refine⟨wc,hc,a,vc,d,mp,b,l,c,rfl,bO8,bPM,p,q,t,u,v,bO9,bPR,fun k m=> ?_,fun k m=> ?_⟩
 ·obtain⟨r,n,⟨e,f,g,rfl,o⟩⟩:=bPL k m;exact⟨e,f,g,n,o⟩
 ·obtain⟨r,n,⟨i,a,do_,j,rfl,o⟩⟩:=bPS k m;exact⟨i,a,do_,j,n,o⟩
theorem Rep.bkO{X:Nat->Prop}{H':aA}{nx' i0:Nat}(h:Rep X H nx i0 nm s)(who st:Nat)(b:Nat->Nat)(s':CSt)(t:nx<=nx')(l2:Names X nx' b)
 (g: ∀k,k<19->b k=nm k\/((k=4\/k=5+who\/k=8+who\/k=11+st\/k=15+st)/\nx<=b k))
 (e: ∀id,id<nx->id≠i0->(∀k,k<5\/k=5+who\/k=8+who\/k=11+st\/k=15+st->k<19->id≠nm k)->H' id=H id)
 (u: ∃wc hc p vc q,H' i0=some ⟨5,1,[U2 b s' wc hc p vc q]⟩/\tZ H' 1 (b 0) 0 s'.words.length wc (s'.words.map aJ)/\tZ H' 1 (b 1) 0 s'.holds.length hc (s'.holds.map aJ)/\tZ H' 5 (b 4) 0 s'.told.length q (s'.told.map aS)/\3<=p/\4<=vc)
 (v: ∃m rows m0 c,H (nm 2)=some ⟨4,m0,c⟩/\H' (nm 2)=some ⟨4,m,rows⟩/\rows.length=3/\(∀k,k<3->k≠who->rows[k]?=c[k]?)/\(who<3->∃r,rows[who]?=some r/\CX H' (b (5+who)) (b (8+who)) (aF s' who) r))
 (w: ∃m rows m0 c,H (nm 3)=some ⟨3,m0,c⟩/\H' (nm 3)=some ⟨3,m,rows⟩/\rows.length=4/\(∀k,k<4->k≠st->rows[k]?=c[k]?)/\(st<4->∃r,rows[st]?=some r/\LJ H' (b (11+st)) (b (15+st)) (aL s' st) r))
 (hw:who<3\/who=14) (hs:st<4\/st=8) (hp: ∀k,k<3->k≠who->aF s' k=aF s k) (y: ∀k,k<4->k≠st->aL s' k=aL s k):Rep X H' nx' i0 b s'/\ ∀id,X id->H' id=H id:=by
 have l:=h.names.av
 have n:=h.i0
 have o:=h.names.lt
 refine⟨h.upd (who:=who) (st:=st) t l2 (fun k a=> ?_) (fun k a i z A k9 l1=> ?_) (fun k l1 a i z A k9=> ?_) u v w hw hs hp y,fun id d=>e id (h.x id d) (fun he=>n.2 (he▸d)) fun k _ g he=>l k g (he▸d)⟩
 ·rcases g k a with i|i;·rw[i];exact h.ne k a
  ·omega
 ·rcases g k a with bOW|bOW;·exact bOW
  ·omega
 ·refine e _ (o k a) (h.ne k a) fun j B f he=> ?_;have:=h.names.inj k j a f he;omega
theorem bjZ{n:Nat}{R:List (List D1)}(h:alR n R):alR n (R.drop 1):=fun r hr=>h r (bsE hr)
theorem bkE{F:Nat->Prop}{a e:D}(h:CvD H F id nx e a): ∀(i:Nat) (b d:D),[e][i]?=some b->[a][i]?=some d->CvD H F id nx b d:=by
 intro i b d c f
 match i with
 |0=>simp at c f;subst c;subst f;exact h
 |i+1=>simp at c
theorem bkH{F:Nat->Prop}{a g b:D}(h:CvD H F id nx g a)(j:b.imm=true): ∀(i:Nat) (f d:D),[g,b][i]?=some f->[a,b][i]?=some d->CvD H F id nx f d:=by
 intro i f d c e
 match i with
 |0=>simp at c e;subst c;subst e;exact h
 |1=>simp at c e;subst c;subst e;exact aE j
 |i+2=>simp at c
theorem tZ.cvD{F:Nat->Prop}{n a off len:Nat}{R:List (List D1)}(h:tZ H n a off len cap R)(hi:alR n R)(b:F a):CvD H F id nx (dS R) (.one (.c (.osl n a off len cap))):=.frz (h.frz hi b)
theorem tZ.bkI{n a off len:Nat}{R:List (List D1)}(h:tZ H n a off len cap R)(d:0<len):tZ H n a (off+1) (len-1) (cap-1) (R.drop 1):=by obtain⟨m,rows,b,c,e,k9,l1,bOW⟩:=h.ex;exact⟨m,rows,b,by rw[<-c,Y2],by omega,by rw[CI];omega,by omega,by omega⟩
theorem bkA{l:List fC}{n:Int}(h:l.Pairwise fun a b=>a.n<b.n)(he: ∃j∈l,j.n=n):l.filter (fun j=>decide (¬j.n=n))=PE l n:=by
 induction l with
 |nil=>obtain⟨j,c,_⟩:=he;simp at c
 |cons x l o=>
  rw[G0] at h;by_cases d:x.n=n
  ·have i: ∀j∈l,decide (¬j.n=n)=true:=fun j c=>by have:=h.1 j c;exact decide_eq_true (by omega)
   rw[br3,if_neg (by simpa using d),List.filter_eq_self.2 i];unfold PE B3;rw[show bK (isC n) (x::l)=0 by unfold bK;rw[List.findIdx?_cons,if_pos (show isC n x=true from decide_eq_true d)];rfl];rfl
  ·obtain⟨j,c,f⟩:=he;have g: ∃j∈l,j.n=n:=⟨j,by rcases t3.1 c with rfl|p;exact absurd f d;exact p,f⟩
   have m:0<=bK (isC n) l:=cH.2 (by obtain⟨j,q,r⟩:=g;exact⟨j,q,decide_eq_true r⟩);rw[br3,if_pos (by simpa using d),o h.2 g];unfold PE B3
   have e:bK (isC n) (x::l)=bK (isC n) l+1:=by
    unfold bK at m ⊢;rw[List.findIdx?_cons,if_neg (show ¬isC n x=true from fun h=>d (of_decide_eq_true h))]
    cases i:List.findIdx? (isC n) l with
    |none=>rw[i] at m;dsimp only at m;omega
    |some k=>rfl
   rw[e,show (bK (isC n) l+1).toNat=(bK (isC n) l).toNat+1 by omega];rfl
section
variable {H : aA} {F : Nat -> Prop} {σ : Nat -> Nat} {nh : Nat} {R R' S S' : List (List D1)} {r r' : List D1}
end
end Go.AM
namespace Go.Proofs.YtlncecohbakleaaGreat
open Go Go.AM
attribute [local irreducible] aM wv aB vd wvH
section
variable{H:aA}{nx:Nat}{K:bNX}
theorem rY(l:List CIn)(f:FuncId)(caps:List D1)(p:CIn->Bool)(hl:l.length<2^40)(hc:caps.all D1.dQ=true)(j: ∀x∈l,∀(H:aA) (nx:Nat) (K:bNX),K (dB (p x)) H nx->bNW f (boR (eIn x)::caps.map fun d=>.one (.c d)) H nx K):
 bNW dK [dS (l.map eIn),.one (.c (.clo f caps))] .nil 0 fun r _ _=>r.plain=true/\r=boP (bK p l):=by
 refine aN.mk Tryz.func252 (by kernel_rfl) rS rfl fun Q g=> ?_
 unfold fI
 repeat' first|apply bn1<;>(simp only[go_sem])|fail
 (refine aM.loop (α:={k:Nat//k<=l.length/\(∀i,i<k->p (l.getD i default)=false)}) (fun u=>en [(8,boP u.1),(7,boP l.length),(1,.one (.c (.clo f caps))),(0,dS (l.map eIn))]) (fun _=>.nil) _ (fun u=>l.length-u.1) ⟨0,by omega,(by intros;first|trivial|omega)⟩ (bU (m5 _) (by repeat' first|exact bo2|refine xqI rfl rfl ?_| (with_reducible apply bo3)| ((with_reducible apply bo0);exact bpG (by assumption))| ((with_reducible apply bo1);apply bo7)|fail)) ?_);(rintro⟨k,m,hinv⟩ bpQ b)
 by_cases e:k<l.length
 ·have a:l.getD k default∈l:=by simp[List.getD,e]
  repeat' first| (first|apply bn1|apply j _ a _ _ _)<;>(simp only[go_sem];try simp (disch:=omega) only[Iw])|apply bn2 (by omega)| ((refine bnF (fun h=> ?_) (fun h=> ?_))<;>try subst h)|refine⟨by omega,?_⟩|fail
  ·refine aZ g _ rfl rfl (qA (bq3 (CU (by omega) (by assumption) hinv)))
  · (refine b _ _ _ ⟨k+1,by omega,iS hinv (by assumption)⟩ (by omega) (by(try dsimp only);omega) (bU (m5 _) (by repeat' first|exact bo2|refine xqI rfl rfl ?_| (with_reducible apply bo3)| ((with_reducible apply bo0);exact bpG (by assumption))| ((with_reducible apply bo1);apply bo7)|fail)))
 ·repeat' first|apply bn1<;>(simp only[go_sem])|apply bn3 (by omega)|fail
  ·refine aZ g _ rfl rfl (qA (bq3 (tI fun i hi=>hinv i (by omega))))
theorem rX{l:List CIn}{f:FuncId}{caps a:List D1}{p:CIn->Bool}{d:D}(hl:l.length<2^40)(hc:caps.all D1.dQ=true)(b:CvD H (fun _=>True) id 0 (dS (l.map eIn)) d)(e:CvD H (fun _=>True) id 0 (.one (.c (.clo f caps))) (.one (.c (.clo f a))))(g: ∀x∈l,∀(H:aA) (nx:Nat) (K:bNX),K (dB (p x)) H nx->bNW f (boR (eIn x)::caps.map fun d=>.one (.c d)) H nx K)
 (h:K (boP (bK p l)) H nx):bNW dK [d,.one (.c (.clo f a))] H nx K:=
 (rY l f caps p hl hc g).pure rfl (aI ⟨b,e,trivial⟩) fun r hr=>hr▸h
theorem pC(l:List CIn)(f:FuncId)(caps:List D1)(p:CIn->Bool)(hl:l.length<2^40)(hc:caps.all D1.dQ=true)(a: ∀x∈l,∀(H:aA) (nx:Nat) (K:bNX),K (dB (p x)) H nx->bNW f (boR (eIn x)::caps.map fun d=>.one (.c d)) H nx K):
 bNW cW [dS (l.map eIn),.one (.c (.clo f caps))] .nil 0 fun r _ _=>r.plain=true/\r=dB (decide (0<=bK p l)):=by
 refine aN.mk Tryz.func171 (by kernel_rfl) oO rfl fun Q b=> ?_
 unfold eM
 repeat' first| (first|apply bn1|refine rX hl hc (aE rfl) (kC hc) a ?_)<;>(simp only[go_sem])|fail
 all_goals exact aZ b _ rfl rfl rfl
theorem pP{l:List CIn}{f:FuncId}{caps a:List D1}{p:CIn->Bool}{d:D}(hl:l.length<2^40)(hc:caps.all D1.dQ=true)(b:CvD H (fun _=>True) id 0 (dS (l.map eIn)) d)(e:CvD H (fun _=>True) id 0 (.one (.c (.clo f caps))) (.one (.c (.clo f a))))(g: ∀x∈l,∀(H:aA) (nx:Nat) (K:bNX),K (dB (p x)) H nx->bNW f (boR (eIn x)::caps.map fun d=>.one (.c d)) H nx K)
 (h:K (dB (decide (0<=bK p l))) H nx):bNW cW [d,.one (.c (.clo f a))] H nx K:=
 (pC l f caps p hl hc g).pure rfl (aI ⟨b,e,trivial⟩) fun r hr=>hr▸h
end
theorem QC:cJ bNV tV Tryz.f27 xR F5:=cJ.mk Tryz.func27 (by kernel_rfl) PZ
section
variable{H:aA}{nx:Nat}{K:bNX}
theorem aNQ{l:List Job}(hl:l.length<2^21)(w: ∀j∈l,j.rsp.data.length<2^21)
 (h: ∀H' nx' b cap,nx<=b->b<nx'->Own aS 5 H' b cap l->(∀id,id<nx->H' id=H id)->K (.one (.c (.osl 5 b 0 l.length cap))) H' nx'):bNW aIM [dS (l.map aS)] H nx K:=by
 refine cJ.mk Tryz.func193 (by kernel_rfl) aLH rfl fun Q x=> ?_
 unfold aJF
 repeat' first|apply bn1<;>(simp only[go_sem,boC])|fail
 refine aM.gP (β:=Nat×Nat×Nat) (fun u=>en [(4,boP u.1),(3,.one (.c (.osl 5 u.2.1 0 u.1 u.2.2))),(0,dS (l.map aS))])
  (fun u H1 a=>u.1<=l.length/\(∃m,H1 u.2.1=some ⟨5,m,(l.take u.1).map aS⟩/\u.1<=u.2.2/\u.2.2<=m)/\(nx<=u.2.1/\u.2.1<a)/\ ∀id,id<nx->H1 id=H id)
  (fun u=>l.length-u.1) (0,nx+1,0) ⟨noF,_,by repeat' first|exact bo2|refine xqI rfl rfl ?_| (with_reducible apply bo3)| ((with_reducible apply bo0);exact bpA)| ((with_reducible apply bo1);apply bo7)|fail,aK,by dsimp only;omega,⟨0,by simp only[aA.set,if_true];rfl,by dsimp only;omega,by dsimp only;omega⟩,by dsimp only;omega,fun id d=>by simp only[aA.set,show ¬id=nx+1 by omega,if_false]⟩ ?_
 rintro⟨k,b,cap⟩ H1 a y ⟨z,⟨m,i,r,s⟩,⟨e,n⟩,f⟩ bpQ o
 dsimp only at z i r s e n
 have p:(l.take k).take k=l.take k:=boL (by simp;omega)
 have t:bQ a [b]:=AM.apart (by simp) (by simp;omega)
 simp only[bQ,eZ] at t
 by_cases g:k<l.length
 ·have hm:=w _ (cC g);have A:b<a+(4+2):=by omega
  repeat' first| (first|apply bn1|apply aMW hm)<;>(simp only[go_sem,p,aM8,i,t,boC];try simp (disch:=omega) only[Iw])|apply bn2 (by omega)| (with_reducible first|refine fun(cap:Nat) (v:_<=cap)=> ?_|refine fun(B:_<=cap)=> ?_)|refine⟨by omega,?_⟩| (refine⟨by(rw[CG];omega),?_⟩)|fail
  refine o _ _ _ (k+1,a+23,cap) noF _ (by omega) (by dsimp only;omega) (by dsimp only;repeat' first|exact bo2|refine xqI rfl rfl ?_|refine xqO (by omega) rfl rfl (by rfl) ?_|fail) aK ⟨by dsimp only;omega,⟨cap,by rw[nK g];exact aA.bH,by dsimp only;omega,m5 _⟩,by dsimp only;omega,fun id d=> ?_⟩;rw[aA.aC (by omega),aA.aC (by omega),aA.jG (by omega)];exact f id d
 ·repeat' first|apply bn1<;>(simp only[go_sem])|apply bn3 (by omega)|fail
  have q:k=l.length:=by omega
  subst q;refine x _ _ _ _ _ (.inr rfl) rfl (h _ _ b cap e (by omega) ⟨m,?_,r,s⟩ f);rw[i,bq4]
theorem aRC{w:List Int}(hl:w.length<2^21)(h: ∀H' nx' b cap,nx<=b->b<nx'->Own aJ 1 H' b cap w->(∀id,id<nx->H' id=H id)->K (boR [.osl 1 b 0 w.length cap]) H' nx'):bNW aIW [boR [.isl (w.map aJ)]] H nx K:=by
 refine cJ.mk Tryz.func269 (by kernel_rfl) aK8 rfl fun Q c=> ?_;unfold aJE;repeat' first|apply bn1<;>(simp only[go_sem,boC])| (with_reducible first|refine fun(cap:Nat) (a:_<=cap)=> ?_|refine fun(d:_<=cap)=> ?_)|refine⟨by omega,?_⟩|fail
 refine c _ _ _ _ _ (.inr rfl) (fZ (m:=1) rfl (by simp only[aA.set,bqU,Nat.reduceEqDiff,if_false,if_true]) rfl) (h _ _ (nx+2+3) cap (by omega) (by omega) ⟨cap,by simp only[aA.set,t1,bqU,Nat.reduceEqDiff,Nat.reduceAdd,if_false,if_true],by assumption,m5 _⟩ fun id e=> ?_);rw[aA.aC (by omega),aA.aC (by omega),aA.aC (by omega),aA.jG (by omega)]
theorem aQE{w u:List Int}(hl:w.length<2^21)(hu:u.length<2^21)(h: ∀H' nx' boW c c0 bPB,nx<=c->c<boW->boW<nx'->Own aJ 1 H' boW c0 w->Own aJ 1 H' c bPB u->(∀id,id<nx->H' id=H id)->K (boR [.osl 1 boW 0 w.length c0,.osl 1 c 0 u.length bPB]) H' nx'):bNW aIR [boR [.isl (w.map aJ),.isl (u.map aJ)]] H nx K:=by
 refine cJ.mk Tryz.func192 (by kernel_rfl) aLG rfl fun Q f=> ?_;unfold aJH;repeat' first| (first|apply bn1|refine aRC hl (fun H1 g boW c0 i j k a=> ?_))<;>(simp only[go_sem,boC])|fail
 obtain⟨G,bqK⟩: ∃G,G=dT (nx+2) [3] (((H.set nx ⟨2,1,[[.isl (w.map aJ),.isl (u.map aJ)]]⟩).set (nx+1) ⟨2,1,[[.osl 0 0 0 0 0,.osl 0 0 0 0 0]]⟩).set (nx+5) ⟨1,0,[]⟩) H1:=⟨_,rfl⟩
 rw[<-bqK];have bqC:G nx=some ⟨2,1,[[.isl (w.map aJ),.isl (u.map aJ)]]⟩:=by rw[bqK,um1 (by omega),a _ (by omega),aA.aC (by omega)];exact aA.bH
 have d:G (nx+1)=some ⟨2,1,[[.osl 0 0 0 0 0,.osl 0 0 0 0 0]]⟩:=by rw[bqK,um1 (by omega),a _ (by omega)];exact aA.bH
 have bPU:G (nx+5)=some ⟨1,0,[]⟩:=by rw[bqK,aH6];exact aA.bH
 have l:Own aJ 1 G boW c0 w:=k.of (by rw[bqK,um1 (by omega)]);have n: ∀id,id<nx->G id=H id:=fun id b=>by rw[bqK,um1 (by omega),a _ (by omega),aA.aC (by omega),aA.aC (by omega),mk1 (by omega)]
 clear bqK;have m0: ∀G:aA,msk (nx+2) [3] G nx=G nx:=fun G=>mk1 (by omega);refine⟨fun _=>by rw[m0,bqC];rfl,?_⟩;simp only[go_sem,bqC,d,bPU,m0,boC];repeat' first|apply bn1<;>(simp only[go_sem,bqC,d,bPU,m0,boC])| (with_reducible first|refine fun(cap:Nat) (e:_<=cap)=> ?_|refine fun(o:_<=cap)=> ?_)|refine⟨by omega,?_⟩|fail
 exact f _ _ _ _ _ (.inr rfl) (fZ (m:=1) rfl aA.bH rfl) (h _ _ boW (nx+8) c0 cap (by omega) (by omega) (by omega) (l.of (by rw[aA.aC (by omega),aA.aC (by omega),aA.jG (by omega)])) ⟨cap,by rw[aA.aC (by omega)];exact aA.bH,by assumption,m5 _⟩ fun id b=>by rw[aA.aC (by omega),aA.aC (by omega),aA.jG (by omega)];exact n id b)
theorem aQR{s:TSt}(c:aTQ s)(h: ∀H' nx' boW f q boX boY boZ c0 bPB c2 bPO bPY bPZ,nx<=q->q<f->f<boW->boW<boX->boX<boY->boY<boZ->boZ<nx'->Own aJ 1 H' boW c0 s.words->Own aJ 1 H' f bPB s.holds->Own aJ 1 H' q c2 s.asked->Own aS 5 H' boX bPO s.wait->Own aS 5 H' boY bPY s.done->Own aS 5 H' boZ bPZ s.told->(∀id,id<nx->H' id=H id)->
 K (boR [.osl 1 boW 0 s.words.length c0,.osl 1 f 0 s.holds.length bPB,.osl 1 q 0 s.asked.length c2,.osl 5 boX 0 s.wait.length bPO,.osl 5 boY 0 s.done.length bPY,.osl 5 boZ 0 s.told.length bPZ]) H' nx'):bNW aI0 [boR (eSt s)] H nx K:=by
 have r: ∀j∈s.wait,j.rsp.data.length<2^21:=fun j i=>c.data j (by simp[i])
 have t: ∀j∈s.done,j.rsp.data.length<2^21:=fun j i=>c.data j (by simp[i])
 have u: ∀j∈s.told,j.rsp.data.length<2^21:=fun j i=>c.data j (by simp[i])
 have E:=c.asked
 refine cJ.mk Tryz.func218 (by kernel_rfl) aLD rfl fun Q F=> ?_
 unfold aJB
 repeat' first| (first|apply bn1|refine aQE c.words c.holds (fun H1 I boW f c0 bPB J L M k l d=> ?_))<;>(simp only[go_sem,boC])|fail
 obtain⟨G,bqK⟩: ∃G,G=dT (nx+2) [3] (((H.set nx ⟨6,1,[eSt s]⟩).set (nx+1) ⟨6,1,[[.osl 0 0 0 0 0,.osl 0 0 0 0 0,.osl 0 0 0 0 0,.osl 0 0 0 0 0,.osl 0 0 0 0 0,.osl 0 0 0 0 0]]⟩).set (nx+5) ⟨1,0,[]⟩) H1:=⟨_,rfl⟩
 rw[<-bqK]
 have bqC:G nx=some ⟨6,1,[eSt s]⟩:=by rw[bqK,um1 (by omega),d _ (by omega),aA.aC (by omega)];exact aA.bH
 have v:G (nx+1)=some ⟨6,1,[[.osl 0 0 0 0 0,.osl 0 0 0 0 0,.osl 0 0 0 0 0,.osl 0 0 0 0 0,.osl 0 0 0 0 0,.osl 0 0 0 0 0]]⟩:=by rw[bqK,um1 (by omega),d _ (by omega)];exact aA.bH
 have bPU:G (nx+5)=some ⟨1,0,[]⟩:=by rw[bqK,aH6];exact aA.bH
 have n:Own aJ 1 G boW c0 s.words:=k.of (by rw[bqK,um1 (by omega)])
 have o:Own aJ 1 G f bPB s.holds:=l.of (by rw[bqK,um1 (by omega)])
 have B: ∀id,id<nx->G id=H id:=fun id b=>by rw[bqK,um1 (by omega),d _ (by omega),aA.aC (by omega),aA.aC (by omega),mk1 (by omega)]
 clear bqK k l d
 have m0: ∀G:aA,msk (nx+2) [3] G nx=G nx:=fun G=>mk1 (by omega)
 simp only[m0,bqC]
 refine⟨⟨fun _=>rfl,fun _=>rfl,fun _=>rfl,fun _=>rfl⟩,?_⟩
 simp only[go_sem,bqC,v,bPU,boC]
 refine⟨by omega,fun c2 w _=> ?_⟩
 refine aNQ c.wait r fun H2 x boX bPO T U bqD a=> ?_
 have C:H2 nx=some ⟨6,1,[eSt s]⟩:=by rw[a _ (by omega),aA.aC (by omega),aA.jG (by omega)];exact bqC
 have N:H2 (nx+1)=some ⟨6,1,[[.osl 0 0 0 0 0,.osl 0 0 0 0 0,.osl 0 0 0 0 0,.osl 0 0 0 0 0,.osl 0 0 0 0 0,.osl 0 0 0 0 0]]⟩:=by rw[a _ (by omega),aA.aC (by omega),aA.jG (by omega)];exact v
 have y:Own aJ 1 H2 boW c0 s.words:=n.of (by rw[a _ (by omega),aA.aC (by omega),aA.jG (by omega)])
 have z:Own aJ 1 H2 f bPB s.holds:=o.of (by rw[a _ (by omega),aA.aC (by omega),aA.jG (by omega)])
 have A:Own aJ 1 H2 (nx+8) c2 s.asked:=⟨c2,by rw[a _ (by omega)];exact aA.bH,w,m5 _⟩
 have O: ∀id,id<nx->H2 id=H id:=fun id b=>by rw[a _ (by omega),aA.aC (by omega),aA.jG (by omega)];exact B id b
 clear bqC v bPU n o B a
 simp only[go_sem,C]
 refine aNQ c.done t fun P R boY bPY V W bqE g=> ?_
 have l0:P nx=some ⟨6,1,[eSt s]⟩:=by rw[g _ (by omega)];exact C
 simp only[go_sem,l0]
 refine aNQ c.told u fun bqL S boZ bPZ X Y bqF e=> ?_
 have D:bqL nx=some ⟨6,1,[eSt s]⟩:=by rw[e _ (by omega)];exact l0
 have bp0:bqL (nx+1)=some ⟨6,1,[[.osl 0 0 0 0 0,.osl 0 0 0 0 0,.osl 0 0 0 0 0,.osl 0 0 0 0 0,.osl 0 0 0 0 0,.osl 0 0 0 0 0]]⟩:=by rw[e _ (by omega),g _ (by omega)];exact N
 have p: ∀id,id<x->bqL id=H2 id:=fun id b=>by rw[e _ (by omega),g _ (by omega)]
 simp only[go_sem,D,bp0]
 repeat' first|apply bn1<;>(simp only[go_sem,D,bp0])|fail
 exact F _ _ _ _ _ (.inr rfl) (fZ (m:=1) rfl aA.bH rfl) (h _ _ boW f (nx+8) boX boY boZ c0 bPB c2 bPO bPY bPZ (by omega) (by omega) (by omega) (by omega) (by omega) (by omega) (by omega)
  (y.of (by rw[aA.aC (by omega),p _ (by omega)])) (z.of (by rw[aA.aC (by omega),p _ (by omega)])) (A.of (by rw[aA.aC (by omega),p _ (by omega)])) (bqD.of (by rw[aA.aC (by omega),p _ (by omega)])) (bqE.of (by rw[aA.aC (by omega),e _ (by omega)])) (bqF.of (by rw[aA.aC (by omega)])) fun id b=>by rw[aA.aC (by omega),p _ (by omega)];exact O id b)
end
end Go.Proofs.YtlncecohbakleaaGreat
namespace Go.Proofs.YtlncecohbakleaaGreat.bkX
open Go Go.AM Go.Proofs.YtlncecohbakleaaGreat
section
variable{H:aA}{nx:Nat}{K:bNX}
end
end Go.Proofs.YtlncecohbakleaaGreat.bkX
namespace Go.Proofs.YtlncecohbakleaaGreat
open Go Go.AM
attribute [local irreducible] aM wv aB vd wvH
section
variable{H:aA}{nx:Nat}{K:bNX}
theorem YE(h: ∀H' nx',nx+4<=nx'->H' (nx+1)=some ⟨1,3,[true,true,true].map eH⟩->H' (nx+2)=some ⟨1,4,[false,false,false,false].map eH⟩->H' (nx+3)=some ⟨1,3,[true,true,true].map eH⟩->(∀id,id<nx->H' id=H id)->K (boR [.osl 1 (nx+1) 0 3 3,.osl 1 (nx+2) 0 4 4,.osl 1 (nx+3) 0 3 3]) H' nx'):bNW CS [] H nx K:=by
 refine cJ.mk Tryz.func95 (by kernel_rfl) UW rfl fun Q a=> ?_;unfold zW;repeat' first|apply bn1<;>(simp only[go_sem,boC])|fail
 refine a _ _ _ _ _ (.inr rfl) (fZ (m:=1) rfl (by simp only[aA.set,bqT,Nat.reduceEqDiff,if_false,if_true,brN,reduceIte]) rfl) (h _ _ (by omega) ?_ ?_ ?_ fun id b=> ?_);·simp only[aA.set,bqU,Nat.reduceEqDiff,if_false,if_true];rfl
 ·simp only[aA.set,bqU,Nat.reduceEqDiff,if_false,if_true];rfl
 ·simp only[aA.set,bqU,Nat.reduceEqDiff,if_false,if_true];rfl
 ·simp only[aA.set,show ¬id=nx by omega,show ¬id=nx+1 by omega,show ¬id=nx+2 by omega,show ¬id=nx+3 by omega,if_false]
def bh2(n:Int)(l:List fC):List fC:=l.filter fun j=>decide (¬j.n=n)
theorem bj6{n:Int}{l:List fC}{k:Nat}(a:k<l.length):bh2 n (l.take (k+1))=if (l.getD k default).n=n then bh2 n (l.take k) else bh2 n (l.take k)++[l.getD k default]:=by
 unfold bh2;rw[nK a,List.filter_append];by_cases h:(l.getD k default).n=n;·rw[if_pos h,br3,if_neg (by simpa using h)];simp
 ·rw[if_neg h,br3,if_pos (by simpa using h)];simp
theorem bjO{l:List fC}{n:Int}(hl:l.length<2^21)
 (h: ∀H' nx' b cap,nx<=b->b<nx'->Own eCJ 3 H' b cap (bh2 n l)->(∀id,id<nx->H' id=H id)->K (.one (.c (.osl 3 b 0 (bh2 n l).length cap))) H' nx'):bNW bhB [dS (l.map eCJ),boP n] H nx K:=by
 refine cJ.mk Tryz.func208 (by kernel_rfl) biU rfl fun Q C=> ?_
 unfold bg4
 repeat' first|apply bn1<;>(simp only[go_sem,boC])|fail
 refine aM.gP (β:=Nat×Nat×Nat) (fun u=>en [(6,boP u.1),(5,.one (.c (.osl 3 u.2.1 0 (bh2 n (l.take u.1)).length u.2.2))),(1,boP n),(0,dS (l.map eCJ))])
  (fun u H1 a=>u.1<=l.length/\Own eCJ 3 H1 u.2.1 u.2.2 (bh2 n (l.take u.1))/\(nx<=u.2.1/\u.2.1<a)/\ ∀id,id<nx->H1 id=H id)
  (fun u=>l.length-u.1) (0,nx+1,0) ⟨noF,_,by repeat' first|exact bo2|refine xqI rfl rfl ?_| (with_reducible apply bo3)| ((with_reducible apply bo0);exact bpA)| ((with_reducible apply bo1);apply bo7)|fail,aK,by dsimp only;omega,⟨0,by simp only[aA.set,if_true];rfl,m5 _,m5 _⟩,by dsimp only;omega,fun id f=>by simp only[aA.set,show ¬id=nx+1 by omega,if_false]⟩ ?_
 rintro⟨k,b,z⟩ H1 a D ⟨E,⟨m,g,o,q⟩,⟨i,s⟩,d⟩ bpQ j
 dsimp only at E g o q i s
 have A:bQ a [b]:=AM.apart (by simp) (by simp;omega)
 simp only[bQ,eZ] at A
 by_cases t:k<l.length
 ·obtain⟨x,v⟩: ∃x,l.getD k default=x:=⟨_,rfl⟩
  have hs:=bj6 (n:=n) t;rw[v] at hs;have w: ∀r:List fC,r.take r.length=r:=fun r=>bq4;by_cases p:x.n=n
  ·rw[if_pos p] at hs;have e:(x.n=n)=True:=eq_true p;repeat' first|apply bn1<;>(simp only[go_sem,v,e,boC];try simp (disch:=omega) only[Iw])|apply bn2 (by omega)|refine⟨by omega,?_⟩|fail
   exact j _ _ _ (k+1,b,z) noF _ (by omega) (by dsimp only;omega) (by dsimp only;rw[hs];repeat' first|exact bo2|refine xqI rfl rfl ?_|refine xqO (by omega) rfl rfl (by rfl) ?_|fail) aK ⟨by dsimp only;omega,by dsimp only;rw[hs];exact⟨m,g,o,q⟩,by dsimp only;omega,d⟩
  ·rw[if_neg p] at hs;have e:(x.n=n)=False:=eq_false p;have hle:(bh2 n (l.take k)).length<=k:=CQ (List.length_filter_le _ _) (by rw[CG];omega);repeat' first|apply bn1<;>(simp only[go_sem,v,e,w,g,A,boC];try simp (disch:=omega) only[Iw])|apply bn2 (by omega)| (with_reducible first|refine fun(cap:Nat) (B:_<=cap)=> ?_|refine fun(F:_<=cap)=> ?_)|refine⟨by omega,?_⟩|fail
   refine j _ _ _ (k+1,a+17,cap) noF _ (by omega) (by dsimp only;omega) (by dsimp only;rw[hs,t2,List.length_singleton];repeat' first|exact bo2|refine xqI rfl rfl ?_|refine xqO (by omega) rfl rfl (by rfl) ?_|fail) aK ⟨by dsimp only;omega,by dsimp only;rw[hs];exact⟨cap,aA.bH,by rw[t2,List.length_singleton];omega,m5 _⟩,by dsimp only;omega,fun id f=> ?_⟩;rw[aA.aC (by omega),aA.aC (by omega),aA.jG (by omega)];exact d id f
 ·repeat' first|apply bn1<;>(simp only[go_sem])|apply bn3 (by omega)|fail
  have y:k=l.length:=by omega
  subst y;rw[bq4] at g o;rw[show (bh2 n (l.take l.length))=bh2 n l by rw[bq4]];exact C _ _ _ _ _ (.inr rfl) rfl (h _ _ b z i (by omega) ⟨m,g,o,q⟩ d)
end
theorem LL{H:aA}{e:Env}{t n id m:Nat}{cs:List D1}(he:e t= .one (.c (.ptr n id 0 0)))(a:H id=some ⟨n,m,[cs]⟩)(hl:cs.length=n):yT H e [.cell t n true]=some (boR cs):=by subst hl;simp[yT,VP,he,tT,a,mkV]
section
variable{H:aA}{nx:Nat}{K:bNX}
variable{cells:List D1}
theorem bjM{X:Nat->Prop}{c:Cfg}{i:CIn}{s:CSt}{k:Nat}{nm:Nat->Nat}(hb:aQ c)(hs:COk c s)(Y:k<3)(hr:i.ready.getD k default=true)(B:bgJ X H nx nm s cells)
 (h: ∀H' nx' f t,nx<=nx'->bgJ X H' nx' f (atS c s (vT i s k)) t->(∀id,X id->H' id=H id)->K (boR t) H' nx'):
 bNW bg8 [boR cells,boP k] H nx K:=by
 refine cJ.mk Tryz.func121 (by kernel_rfl) biT rfl fun Q hQ=> ?_
 unfold bg1
 have bPT:=B.x
 obtain⟨wc,hc,pc,vc,tc,mp,Z,mv,rv,J,g1,g2,g3,bO4,bPU,bkU,bkV,bp4,bp5,ga,gb⟩:=B.get
 subst J
 repeat' first| (first|apply bn1|refine bjH hs Y hr (B.ar5 hs.pl hs.sl (fun id g=>by rw[aA.aC (by omega),aA.aC (by omega)])) (fun r au=> ?_))<;>(simp only[go_sem,boC])|fail
 generalize bqK:aA.set (aA.set H nx _) (nx+1) _=G
 have bfZ:G nx=some ⟨5,1,[[.osl 1 (nm 0) 0 s.words.length wc,.osl 1 (nm 1) 0 s.holds.length hc,.osl 4 (nm 2) 0 3 pc,.osl 3 (nm 3) 0 4 vc,.osl 5 (nm 4) 0 s.told.length tc]]⟩:=by rw[<-bqK,aA.aC (by omega)];exact aA.bH
 have bpR:G (nx+1)=some ⟨5,1,[[D1.osl 0 0 0 0 0,D1.osl 0 0 0 0 0,D1.osl 0 0 0 0 0,D1.osl 0 0 0 0 0,D1.osl 0 0 0 0 0]]⟩:=by rw[<-bqK];exact aA.bH
 have C: ∀id,id<nx->G id=H id:=fun id g=>by rw[<-bqK,aA.aC (by omega),aA.aC (by omega)]
 clear bqK
 have aw:Rep X G (nx+1) nx nm s:=B.box (m5 _) (by omega) bfZ C
 rcases au with⟨ho,rfl⟩|⟨st,m,ho,rfl⟩
 · (try simp only[go_sem,boC,bfZ,bpR,boC]);repeat' first|apply bn1<;>(simp only[go_sem,boC,bfZ,bpR,boC])|fail
   rw[ho] at h
   refine hQ _ _ _ _ _ (.inr rfl) (LL rfl aA.bH rfl) (h _ _ nm _ (by omega) (B.frame (by omega) fun id g _=>by rw[aA.aC (by omega)];exact C id g) fun id g=> ?_)
   have:=bPT id g
   rw[aA.aC (by omega)];exact C id this
 ·have aa:=TB hs Y ho;obtain⟨_,_,L,ab⟩:=aa;obtain⟨p,hp⟩: ∃p,aF s k=p:=⟨_,rfl⟩
  obtain⟨v,hv⟩: ∃v,aL s st=v:=⟨_,rfl⟩
  obtain⟨qo,qc,oc,M,gq,go⟩:=ga k Y;obtain⟨po,ad,do_,dc,gs,gp,gd⟩:=gb st m;rw[hp] at M gq go;rw[hv] at gs gp gd L ab;obtain⟨d,hd⟩: ∃d,v.done.getD 0 default=d:=⟨_,rfl⟩
  rw[hd] at ab;have lt:=B.names.lt;have n2:=lt 2 (by omega);have bqP:=lt 3 (by omega);have az7:=lt 4 (by omega);have aAJ:=lt (8+k) (by omega);have ae:=lt (15+st) (by omega);have a:bQ nx ([2,3,4,5+k,8+k,11+st,15+st].map nm):=AM.apart (B.names.list (by simp;omega) (by simp;omega)) (fun x hx=>by obtain⟨j,D,rfl⟩:=CF.1 hx;exact lt j (by simp at D;omega));simp only[bQ,eZ,List.map] at a;have N:G (nm 2)=some ⟨4,mp,Z⟩:=(C _ n2).trans g1;have O:G (nm 3)=some ⟨3,mv,rv⟩:=(C _ bqP).trans g2;obtain⟨md,rd,d1,d2,d3,bkS,bk2,bk3⟩:=gd.ex;have bk4:rd[do_]?=some (aS d):=by have:(rd.drop do_)[0]?=some (aS d):=(by rw[d2,p0,<-hd];simp[List.getD,L]);rwa [s5,Nat.add_zero] at this
  have af:G (nm (15+st))=some ⟨5,md,rd⟩:=(C _ ae).trans d1;(try simp only[go_sem,boC,bfZ,bpR,N,O,M,gs,af,bk4,a,boC]);repeat' first| (first|apply bn1|refine aB.ao4 (args':=[dS ((v.done.drop 1).map aS)]) (without (fun j=>j=nm (15+st)) _) (fun j=>j=nm (15+st)) rfl (bkE ?_) kS (aNQ ?_ ?_ fun H2 ag boZ bPZ e1 e2 e3 e4=> ?_))<;>(simp only[go_sem,boC,bfZ,bpR,N,O,M,gs,af,bk4,a,boC])|apply bn3 (by omega)|refine⟨by omega,?_⟩|fail
  refine aB.ao4 (args':=[dS ((v.done.drop 1).map aS)]) (without (fun j=>j=nm (15+st)) _) (fun j=>j=nm (15+st)) rfl (bkE ?_) kS (aNQ ?_ ?_ fun H2 ag boZ bPZ e1 e2 e3 e4=> ?_);·rw[brE];exact((gd.frame (by rw[aA.aC (by omega)];exact C _ ae)).bkI L).cvD (bjZ (aG dZ _)) rfl
  ·have:=(hs.slv st m).dl;rw[hv] at this;rw[CI];omega
  ·intro j D;have:=(hs.slv st m).rsp j (by rw[hv];exact bsE D);have:=this.1.2.2.1;omega
  have bqB:H2 nx=some ⟨5,1,[[.osl 1 (nm 0) 0 s.words.length wc,.osl 1 (nm 1) 0 s.holds.length hc,.osl 4 (nm 2) 0 3 pc,.osl 3 (nm 3) 0 4 vc,.osl 5 (nm 4) 0 s.told.length tc]]⟩:=by rw[e4 _ (by omega),iI (by omega),aA.aC (by omega)];exact bfZ
  have q1:H2 (nx+1)=some ⟨5,1,[[D1.osl 0 0 0 0 0,D1.osl 0 0 0 0 0,D1.osl 0 0 0 0 0,D1.osl 0 0 0 0 0,D1.osl 0 0 0 0 0]]⟩:=by rw[e4 _ (by omega),iI (by omega),aA.aC (by omega)];exact bpR
  have qj:H2 (nx+16)=some ⟨5,1,[aS d]⟩:=by rw[e4 _ (by omega),iI (by omega)];exact aA.bH
  have qf: ∀id,id<nx->id≠nm (15+st)->H2 id=H id:=fun id E u=>by rw[e4 _ (by omega),iI (F:=fun j=>j=nm (15+st)) u,aA.aC (by omega)];exact C _ E
  have P:H2 (nm 2)=some ⟨4,mp,Z⟩:=(qf _ n2 (by simp[a])).trans g1;have ah:H2 (nm 3)=some ⟨3,mv,rv⟩:=(qf _ bqP (by simp[a])).trans g2;(try simp only[go_sem,boC,bqB,q1,qj,P,ah,M,gs,a,bq1,boC]);repeat' first|apply bn1<;>(simp only[go_sem,boC,bqB,q1,qj,P,ah,M,gs,a,bq1,boC])|refine⟨by omega,?_⟩|fail
  refine aB.ao4 (args':=[dS (p.out.map eCJ),boP d.n]) (without (fun j=>j=nm (8+k)) _) (fun j=>j=nm (8+k)) rfl (bkH ?_ rfl) kS (bjO ?_ fun H3 o bkQ bkY aUV aUW aIG aII=> ?_);·exact(go.frame (by rw[aA.aC (by simp[a]),qf _ aAJ (by simp[a])])).cvD (aG yK _) rfl
  ·have:=(hs.port k Y).ol;rw[hp] at this;omega
  have aAD: ∀id,id<ag+15->id≠nm (8+k)->id≠nm 3->H3 id=H2 id:=fun id E u I=>by rw[aII _ E,iI (F:=fun j=>j=nm (8+k)) u,aA.aC I]
  have r0:=(aAD nx (by omega) (by omega) (by omega)).trans bqB;have r1:=(aAD (nx+1) (by omega) (by omega) (by omega)).trans q1;have rj:=(aAD (nx+16) (by omega) (by omega) (by omega)).trans qj;have ai:H3 (nm 2)=some ⟨4,mp,Z⟩:=(aAD _ (by omega) (by simp[a]) (by simp[a])).trans P;have R:H3 (nm 3)=some ⟨3,mv,rv.set st [D1.osl 3 (nm (11+st)) po v.pipe.length ad,D1.osl 5 boZ 0 (List.drop 1 v.done).length bPZ,cI v.last]⟩:=by rw[aII _ (by omega),iI (F:=fun j=>j=nm (8+k)) (by simp[a])];exact aA.bH
  have rf: ∀id,id<nx->id≠nm (15+st)->id≠nm (8+k)->id≠nm 3->H3 id=H id:=fun id E u I k9=>(aAD id (by omega) I k9).trans (qf id E u);obtain⟨mt,rt,bpN,bpO,bpP,bpY,aU1,aU2⟩:=bPU.ex;rw[bq5] at bpO;subst bpO;have aj:H3 (nm 4)=some ⟨5,mt,s.told.map aS⟩:=(rf _ az7 (by simp[a]) (by simp[a]) (by simp[a])).trans bpN;have ba:s.told.length<=36:=by have:=hs.st.lens hb;simp only[cX] at this;omega
  have S: ∀r,(Z.set k r)[k]?=some r:=fun r=>by rw[bqZ (by omega)]
  have T:bQ o ([2,3,4,5+k,8+k,11+st,15+st].map nm):=AM.apart (B.names.list (by simp;omega) (by simp;omega)) (fun x hx=>by obtain⟨j,D,rfl⟩:=CF.1 hx;have:=lt j (by simp at D;omega);omega);simp only[bQ,eZ,List.map] at T;have U:bQ o [nx,nx+1]:=AM.apart (by simp) (by simp;omega);simp only[bQ,eZ] at U;(try simp only[go_sem,boC,r0,r1,rj,ai,R,aj,M,gs,S,U,T,a,bq1,boC]);repeat' first|apply bn1<;>(simp only[go_sem,boC,r0,r1,rj,ai,R,aj,M,gs,S,U,T,a,bq1,boC])| (with_reducible first|refine fun(cap:Nat) (ax:_<=cap)=> ?_|refine fun(bb:_<=cap)=> ?_)|refine⟨by omega,?_⟩|fail
  refine hQ _ _ _ _ _ (.inr rfl) (LL rfl aA.bH rfl) ?_;generalize aYL:aA.set _ (nx+1) _=W;have bk1:W nx=some ⟨5,1,[[.osl 1 (nm 0) 0 s.words.length wc,.osl 1 (nm 1) 0 s.holds.length hc,.osl 4 (nm 2) 0 3 pc,.osl 3 (nm 3) 0 4 vc,.osl 5 (o+11) 0 (s.told.length+1) cap]]⟩:=by rw[<-aYL,aA.aC (by omega)];exact aA.bH
  have bqI:W (nm 2)=some ⟨4,mp,Z.set k [cI p.next,.osl 1 (nm (5+k)) qo p.queue.length qc,.osl 3 bkQ 0 (bh2 d.n p.out).length bkY,cI st]⟩:=by rw[<-aYL,aA.aC (by omega),aA.aC (by omega),aA.aC (by omega),aA.aC (by omega)];exact aA.bH
  have wo: ∀id,id<o->id≠nx->id≠nx+1->id≠nm 2->id≠nm 4->W id=H3 id:=fun id E u I k9 l1=>by rw[<-aYL,aA.aC I,aA.aC u,aA.aC (by omega),aA.aC (by omega),aA.aC k9,aA.jG l1]
  have bk5:W (o+11)=some ⟨5,cap,(s.told++[d]).map aS⟩:=by rw[<-aYL,aA.aC (by omega),aA.aC (by omega)];exact aA.bH
  clear aYL;have az8:=lt (5+k) (by omega);have ay:=lt (11+st) (by omega);have n0:=lt 0 (by omega);have bp0:=lt 1 (by omega);have wf: ∀id,id<nx->id≠nm 2->id≠nm 3->id≠nm 4->id≠nm (8+k)->id≠nm (15+st)->W id=H id:=fun id E u I k9 l1 bOW=>(wo id (by omega) (by omega) (by omega) u k9).trans (rf id E bOW l1 I);have bk6:=(wo (nm 3) (by omega) (by omega) (by omega) (by simp[a]) (by simp[a])).trans R;have bk7:Own aS 5 W boZ bPZ (v.done.drop 1):=e3.of ((wo boZ (by omega) (by omega) (by omega) (by omega) (by omega)).trans (aAD boZ (by omega) (by omega) (by omega)));have bk8:Own eCJ 3 W bkQ bkY (bh2 d.n p.out):=aIG.of (wo bkQ (by omega) (by omega) (by omega) (by omega) (by omega));have inj:=B.names.inj;obtain⟨f,q⟩: ∃f,f=put (put (put nm (15+st) boZ) (8+k) bkQ) 4 (o+11):=⟨_,rfl⟩
  have w: ∀j,j≠4->j≠8+k->j≠15+st->f j=nm j:=fun j E u I=>by rw[q,jE E,jE u,jE I]
  have p4:f 4=o+11:=by rw[q,t8]
  have bk9:f (8+k)=bkQ:=by rw[q,jE (by omega),t8]
  have ak:f (15+st)=boZ:=by rw[q,jE (by omega),jE (by omega),t8]
  obtain⟨s',l⟩: ∃s',s'=aR c s (.tell k st):=⟨_,rfl⟩
  have al:iF s st=d:=by rw[<-hd,<-hv];rfl
  have an:=hs.port k Y;rw[hp] at an;have hex: ∃j∈p.out,j.n=d.n:=by obtain⟨_,j,x1,bpZ,_⟩:=(hs.slv st m).out (key d) (by rw[hv];exact M9 (by rw[<-hd];exact cC (by omega)));have e:(key d).1.toNat=k:=(by show d.who.toNat=k;omega);rw[e,hp] at x1;exact⟨j,x1,bpZ⟩
  have ao:bh2 d.n p.out=PE p.out d.n:=bkA an.acX hex;have y:aF s' k= {p with out:=PE p.out d.n,last:=st}:=by rw[l,bL rfl (by rw[hs.pl];omega),if_pos rfl,al,hp]
  have A:aL s' st= {v with done:=v.done.drop 1}:=by rw[l,bO rfl (by rw[hs.sl];omega),if_pos rfl,hv]
  have aq:s'.told=s.told++[d]:=by rw[l,<-al];rfl
  have V: ∀z,nx<=z->¬X z:=fun z hz hn=>by have:=bPT z hn;omega
  have key:=aw.bkO (H':=W) (nx':=o+16) k st f s' (by omega) ?_ ?_ ?_ ?_ ?_ ?_ (.inl Y) (.inl m) (fun j D b=>by rw[l,bL rfl (by rw[hs.pl];omega),if_neg b]) (fun j D b=>by rw[l,bO rfl (by rw[hs.sl];omega),if_neg b]);·obtain⟨⟨⟨cells,k1,k2⟩,bPC,_,_,bPD⟩,bPE⟩:=key;rw[bk1] at k1;have hc:=(bA.mk.inj (Option.some.inj k1)).2.2;have hc:_=cells:=(List.cons.inj hc).1;rw[<-hc] at k2;rw[ho] at h;refine h _ _ f _ (by omega) ⟨?_,bPC,bPD⟩ fun id g=>(bPE id g).trans (C id (bPT id g));rw[show atS c s (some (.tell k st))=s' from l.symm];exact k2
  ·rw[q];exact((B.names.put (nx':=boZ+1) (by omega) (by omega) (V _ (by omega))).put (nx':=bkQ+1) (by omega) (by omega) (V _ (by omega))).put (by omega) (by omega) (V _ (by omega))
  ·intro j D;by_cases k9:j=4;·subst k9;exact .inr ⟨.inl rfl,by omega⟩
   ·by_cases bPH:j=8+k;·subst bPH;exact .inr ⟨.inr (.inr (.inl rfl)),by omega⟩
    ·by_cases ar:j=15+st;·subst ar;exact .inr ⟨.inr (.inr (.inr (.inr rfl))),by omega⟩
     ·exact .inl (w j k9 bPH ar)
  ·intro id g h0 b;have g2:=b 2 (by omega) (by omega);have g3:=b 3 (by omega) (by omega);have bO4:=b 4 (by omega) (by omega);have bp4:=b (8+k) (by omega) (by omega);have az:=b (15+st) (by omega) (by omega);rw[wf id (by omega) g2 g3 bO4 bp4 az,C id (by omega)]
  ·refine⟨wc,hc,pc,vc,cap,?_,?_,?_,?_,bkU,bkV⟩;·rw[bk1];simp only[U2,aq,w 0 (by omega) (by omega) (by omega),w 1 (by omega) (by omega) (by omega),w 2 (by omega) (by omega) (by omega),w 3 (by omega) (by omega) (by omega),p4,t2,List.length_singleton];rw[l];rfl
   ·rw[w 0 (by omega) (by omega) (by omega),l];exact g3.frame (wf _ n0 (fun he=>by have:=inj 0 2 (by omega) (by omega) he;omega) (fun he=>by have:=inj 0 3 (by omega) (by omega) he;omega) (fun he=>by have:=inj 0 4 (by omega) (by omega) he;omega) (fun he=>by have:=inj 0 (8+k) (by omega) (by omega) he;omega) (fun he=>by have:=inj 0 (15+st) (by omega) (by omega) he;omega))
   ·rw[w 1 (by omega) (by omega) (by omega),l];exact bO4.frame (wf _ bp0 (fun he=>by have:=inj 1 2 (by omega) (by omega) he;omega) (fun he=>by have:=inj 1 3 (by omega) (by omega) he;omega) (fun he=>by have:=inj 1 4 (by omega) (by omega) he;omega) (fun he=>by have:=inj 1 (8+k) (by omega) (by omega) he;omega) (fun he=>by have:=inj 1 (15+st) (by omega) (by omega) he;omega))
   ·rw[p4,aq];exact⟨cap,(s.told++[d]).map aS,bk5,rfl,by simp,by simp,by rw[t2,List.length_singleton];omega,by simp⟩
  ·refine⟨mp,_,mp,Z,N,bqI,by rw[Y5,bp4],fun j D b=>by rw[bq0 (Ne.symm b)],fun _=>⟨_,S _,⟨qo,qc,bkY,?_,?_,?_⟩⟩⟩;·rw[y,w (5+k) (by omega) (by omega) (by omega),bk9,ao];rfl
   ·rw[y,w (5+k) (by omega) (by omega) (by omega)];exact gq.frame (wf _ az8 (by simp[a]) (by simp[a]) (by simp[a]) (by simp[a]) (by simp[a]))
   ·obtain⟨aHI,y1,aHC,aHD⟩:=bk8;rw[ao] at y1 aHC;rw[y,bk9];exact⟨aHI,(PE p.out d.n).map eCJ,y1,rfl,by simp,by simp,aHC,by omega⟩
  ·refine⟨mv,_,mv,rv,O,bk6,by rw[Y5,bp5],fun j D b=>by rw[bq0 (Ne.symm b)],fun _=>⟨_,bqZ (by omega),⟨po,ad,0,bPZ,?_,?_,?_⟩⟩⟩;·rw[A,w (11+st) (by omega) (by omega) (by omega),ak];rfl
   ·rw[A,w (11+st) (by omega) (by omega) (by omega)];exact gp.frame (wf _ ay (by simp[a]) (by simp[a]) (by simp[a]) (by simp[a]) (by simp[a]))
   ·obtain⟨bqQ,y1,aHC,aHD⟩:=bk7;rw[A,ak];exact⟨bqQ,(v.done.drop 1).map aS,y1,rfl,by simp,by simp,aHC,by omega⟩
theorem bjR{X:Nat->Prop}{c:Cfg}{i:CIn}{s:CSt}{st:Nat}{nm:Nat->Nat}(hb:aQ c)(hs:COk c s)(p:st<4)(hr:i.n9.getD st default=false)(F:bgJ X H nx nm s cells)
 (h: ∀H' nx' g B,nx<=nx'->bgJ X H' nx' g (atS c s (qW i s st)) B->(∀id,X id->H' id=H id)->K (boR B) H' nx'):
 bNW bg7 [boR (cU c),boR cells,boP st] H nx K:=by
 refine cJ.mk Tryz.func123 (by kernel_rfl) bjA rfl fun Q hQ=> ?_
 unfold bg2
 have bPT:=F.x
 obtain⟨bm,ch⟩:=hC hb
 have bn: ∀{A:Prop},¬(i.n9.getD st default=true\/A)↔¬A:=fun {A}=>by rw[hr];simp
 obtain⟨wc,hc,pc,vc,tc,mp,rp,mv,rv,aa,g1,g2,g3,bO4,bPU,bkU,bkV,bp4,bp5,ga,gb⟩:=F.get
 obtain⟨v,C⟩: ∃v,aL s st=v:=⟨_,rfl⟩
 obtain⟨po,bo,do_,dc,gs,gp,gd⟩:=gb st p
 rw[C] at gs gp gd
 have af:=F
 subst aa
 have lt:=F.names.lt
 have T:bQ nx ([0,1,2,3,4,11+st,15+st].map nm):=AM.apart (F.names.list (by simp;omega) (by simp;omega)) (fun x hx=>by obtain⟨j,hj,rfl⟩:=CF.1 hx;exact lt j (by simp at hj;omega))
 simp only[bQ,eZ,List.map] at T
 by_cases au:v.pipe.length=0
 ·have hlen:((v.pipe.length:Int)=0)=True:=eq_true (by omega);repeat' first|apply bn1<;>(simp only[go_sem,boC,g2,gs,hlen,T])|refine⟨by omega,?_⟩|fail
  refine hQ _ _ _ _ _ (.inr rfl) (LL rfl (by rw[aA.aC (by omega)];exact aA.bH) rfl) ?_;rw[aa0 (.inr (by rw[C];exact au))] at h;exact h _ _ nm _ (by omega) (F.frame (by omega) fun id b _=>by rw[aA.aC (by omega),aA.aC (by omega),aA.aC (by omega),aA.aC (by omega)]) fun id b=>by have:=bPT id b;rw[aA.aC (by omega),aA.aC (by omega),aA.aC (by omega),aA.aC (by omega)]
 have ag: ¬(i.n9.getD st default=true\/(aL s st).pipe.length=0):=by rw[C];exact bn.2 au
 have hlen:((v.pipe.length:Int)=0)=False:=eq_false (by omega)
 obtain⟨j,hj⟩: ∃j,v.pipe.getD 0 default=j:=⟨_,rfl⟩
 have t:bI s st=j:=by unfold bI;rw[C,hj]
 obtain⟨md,rd,d1,d2,d3,bkS,bk2,bk3⟩:=gd.ex
 obtain⟨me,re,p1,p2,p3,p4,p5,p6⟩:=gp.ex
 rw[bqW] at bkS p4
 have p7:re[po]?=some (eCJ j):=by
  have:(re.drop po)[0]?=some (eCJ j):=by rw[p2,p0,<-hj];simp[List.getD,show 0<v.pipe.length by omega]
  rwa [s5,Nat.add_zero] at this
 have aw:=hs.slv st p
 have bp:=(aw.left 0 (by rw[C];omega)).1
 rw[C,hj] at bp
 have bq:=S0 hb p
 have cj:=lt (11+st) (by omega)
 have ck:=lt (15+st) (by omega)
 by_cases ah:0<j.left
 ·have L:decide (0<(aL s st).pipe.length/\(bI s st).left=0/\(aL s st).done.length<2)=false:=decide_eq_false (by rw[t];omega);repeat' first| (first|apply bn1|refine bgY hs p (af.ar5 hs.pl hs.sl (fun id b=>by rw[aA.aC (by omega),aA.aC (by omega),aA.aC (by omega),aA.aC (by omega)])) ?_)<;>(simp only[go_sem,boC,g2,gs,hlen,L,p1,p7,T];try simp (disch:=omega) only[Iw])|apply bn2 (by omega)|refine⟨by omega,?_⟩|fail
  refine hQ _ _ _ _ _ (.inr rfl) (LL rfl (by rw[aA.aC (by omega),aA.aC (by omega)];exact aA.bH) rfl) ?_;have boT:qW i s st=some (.tick st):=acO ag (by rw[t];exact ah);rw[boT] at h;obtain⟨s',d⟩: ∃s',s'=aR c s (.tick st):=⟨_,rfl⟩
  rw[show atS c s (some (.tick st))=s' from d.symm] at h;have f:aL s' st= {v with pipe:=v.pipe.set 0 {j with left:=j.left-1}}:=by rw[d,bO rfl (by rw[hs.sl];omega),if_pos rfl,t,C]
  generalize aYL:aA.set _ (nm (11+st)) _=W;have bk1:W (nx+1)=some ⟨5,1,[[.osl 1 (nm 0) 0 s.words.length wc,.osl 1 (nm 1) 0 s.holds.length hc,.osl 4 (nm 2) 0 3 pc,.osl 3 (nm 3) 0 4 vc,.osl 5 (nm 4) 0 s.told.length tc]]⟩:=by rw[<-aYL,aA.aC (by omega),aA.aC (by omega),aA.aC (by omega)];exact aA.bH
  have br:W (nm (11+st))=some ⟨3,me,re.set po [cI j.who,cI j.n,cI (j.left-1)]⟩:=by rw[<-aYL];exact aA.bH
  have wf: ∀id,id<nx->id≠nm (11+st)->W id=H id:=fun id J U=>by rw[<-aYL,aA.aC U,aA.aC (by omega),aA.aC (by omega),aA.aC (by omega),aA.aC (by omega)]
  clear aYL;have inj:=F.names.inj;have u: ∀a,a<19->a≠11+st->W (nm a)=H (nm a):=fun a J U=>wf _ (lt a J) fun he=>U (inj a (11+st) J (by omega) he);refine h W _ nm _ (by omega) ⟨⟨⟨wc,hc,pc,vc,tc,?_,?_,?_,?_,bkU,bkV⟩,⟨mp,rp,(u 2 (by omega) (by omega)).trans g1,bp4,fun k hk=> ?_⟩,⟨mv,rv,(u 3 (by omega) (by omega)).trans g2,bp5,fun k hk=> ?_⟩⟩,F.names.mono (by omega),fun id b=>by have:=bPT id b;omega⟩ fun id b=>wf id (bPT id b) fun he=>F.names.av (11+st) (by omega) (he▸b);·rw[d];rfl
  ·rw[d];exact g3.frame (u 0 (by omega) (by omega))
  ·rw[d];exact bO4.frame (u 1 (by omega) (by omega))
  ·rw[d];exact bPU.frame (u 4 (by omega) (by omega))
  ·obtain⟨qo,qc,oc,x1,bpZ,aYM⟩:=ga k hk;have e:aF s' k=aF s k:=(by rw[d];rfl);exact⟨_,x1,⟨qo,qc,oc,by rw[e];rfl,by rw[e];exact bpZ.frame (u (5+k) (by omega) (by omega)),by rw[e];exact aYM.frame (u (8+k) (by omega) (by omega))⟩⟩
  ·by_cases I:k=st
   ·subst I;refine⟨_,gs,⟨po,bo,do_,dc,?_,?_,?_⟩⟩;·rw[f];simp only[aj9,Y5]
    ·rw[f];refine⟨me,_,br,?_,by simpa using p3,by simp,by simpa using p5,p6⟩;rw[List.drop_set,if_neg (by omega),brJ,p2,brD];rfl
    ·rw[f];exact gd.frame (u (15+k) (by omega) (by omega))
   ·obtain⟨ai,aj,ak,al,x1,bpZ,aYM⟩:=gb k hk;have e:aL s' k=aL s k:=(by rw[d,bO rfl (by rw[hs.sl];omega),if_neg I]);exact⟨_,x1,⟨ai,aj,ak,al,by rw[e];rfl,by rw[e];exact bpZ.frame (u (11+k) (by omega) (by omega)),by rw[e];exact aYM.frame (u (15+k) (by omega) (by omega))⟩⟩
 by_cases ax:v.done.length<2
 ·have L:decide (0<(aL s st).pipe.length/\(bI s st).left=0/\(aL s st).done.length<2)=true:=decide_eq_true (by rw[t,C];omega);have bs:j∈(aL s st).pipe:=by rw[C,<-hj];exact cC (by omega)
  obtain⟨ay,V,an⟩:=hs.vIn p (JB bs);dsimp only at ay V an;have Y:oA c j.who j.n:=by have:=(hs.port j.who.toNat (by omega)).asks (n:=j.n) (by omega) V (by omega);rwa [show ((j.who.toNat:Nat):Int)=j.who by omega] at this
  have az:=GK hb Y;have cl:=hb.1.1;obtain⟨ba,bb,ab⟩:=Y;obtain⟨P,boS⟩: ∃P,c.cP.getD j.who.toNat default=P:=⟨_,rfl⟩
  rw[boS] at ab;obtain⟨q,hq⟩: ∃q,P.getD j.n.toNat default=q:=⟨_,rfl⟩
  have bc:bT c j.who j.n=q:=by unfold bT;rw[boS,hq]
  rw[bc] at az;obtain⟨mw,cm,bqH,bqI,bk6,bk5,bk7,bk8⟩:=g3.ex;obtain⟨mh,cn,bt,bd,cp,cq,cr,ct⟩:=bO4.ex;rw[bq5] at bqI bd;subst bqI;subst bd;have n0:=lt 0 (by omega);have bp0:=lt 1 (by omega);have bu:=hs.atm;obtain⟨cu,O,cw,cx⟩:=hs.atm;have M:s.words.length=64:=by omega
  have N:s.holds.length=6:=by omega
  refine aM.BW fun bw=> ?_;have ao: ∀k l,msk (nx+k) l H=H:=fun k l=>BV bw (by omega);repeat' first| (first|apply bn1|refine bgY hs p (af.ar5 hs.pl hs.sl (fun id b=>by rw[aA.aC (by omega),aA.aC (by omega),aA.aC (by omega),aA.aC (by omega)])) ?_)<;>(simp only[go_sem,boC,g2,gs,hlen,L,p1,p7,bm,boS,hq,ao,T])|refine⟨by omega,?_⟩|fail
  simp only[M,N];apply aS7 (m:=c.map) (w:=s.words) (hs:=s.holds) (wc:=wc) (hc:=hc) (i:=nm 0) (j:=nm 1) (wm:=mw) (hm:=mh) (by omega) bu (by omega) (by omega) ay az (by omega) (by omega) (by simp[T]);·rw[aA.aC (by omega),aA.aC (by omega),aA.aC (by omega),aA.aC (by omega),aA.aC (by omega)];exact bqH
  ·rw[aA.aC (by omega),aA.aC (by omega),aA.aC (by omega),aA.aC (by omega),aA.aC (by omega)];exact bt
  obtain⟨D,bqA⟩: ∃D,doM c.map s.words s.holds j.who q=D:=⟨_,rfl⟩
  rw[bqA];have bf: ∀r,(rv.set st r)[st]?=some r:=fun r=>by rw[bqZ (by omega)]
  have aq:=aw.pl;rw[C] at aq;have Z:List.take v.done.length (List.drop do_ rd)=v.done.map aS:=by rw[d2,boL (by simp)]
  have ad:(po+(1+(v.pipe.length-1))<=re.length)=True:=eq_true (by omega);have ae:List.take (v.pipe.length-1) (List.drop (po+1) re)=(v.pipe.drop 1).map eCJ:=by rw[<-Y2,p2,<-brE,boL (by simp)]
  (try simp only[go_sem,boC,g2,gs,bf,ad,ae,Z,List.nil_append,bqW,CI,bq1,p1,p7,d1,umS (G:=H),umD (G:=H),umB,ao,M,N,T,boC]);repeat' first|apply bn1<;>(simp only[go_sem,boC,g2,gs,bf,ad,ae,Z,List.nil_append,bqW,CI,bq1,p1,p7,d1,umS (G:=H),umD (G:=H),umB,ao,M,N,T,boC])| (with_reducible first|refine fun(cap:Nat) (bx:_<=cap)=> ?_|refine fun(cy:_<=cap)=> ?_)|refine⟨by omega,?_⟩|fail
  rename_i y bg bz;refine hQ _ _ _ _ _ (.inr rfl) (LL rfl aA.bH rfl) ?_;have boT:qW i s st=some (.work st):=adE ag (by rw[t];exact ah) (by rw[C];exact ax);have O:jD c s st=D:=by unfold jD;rw[t,bc,bqA]
  rw[boT] at h;obtain⟨s',d⟩: ∃s',s'=aR c s (.work st):=⟨_,rfl⟩
  rw[show atS c s (some (.work st))=s' from d.symm] at h;have f:aL s' st= {v with pipe:=v.pipe.drop 1,done:=v.done++[⟨j.who,j.n,D.2⟩]}:=by rw[d,bO rfl (by rw[hs.sl];omega),if_pos rfl,O,t,C]
  have R:s'.words=D.1.1:=by rw[d,<-O];rfl
  have S:s'.holds=D.1.2:=by rw[d,<-O];rfl
  have ar:COk c s':=by rw[d];exact o9 hb hs (LM hs p boT)
  obtain⟨ca,_,cb,_⟩:=ar.atm;generalize aYL:aA.set _ (nx+2) _=W;have bqP:=lt 3 (by omega);have inj:=F.names.inj;have cz:nm 0≠nm 3:=fun he=>by have:=inj 0 3 (by omega) (by omega) he;omega
  have da:nm 0≠nm 1:=fun he=>by have:=inj 0 1 (by omega) (by omega) he;omega
  have db:nm 1≠nm 3:=fun he=>by have:=inj 1 3 (by omega) (by omega) he;omega
  have cc:W (nx+58)=some ⟨3,y,(v.pipe.drop 1).map eCJ⟩:=by rw[<-aYL,aA.aC (by omega),aA.aC (by omega),aA.aC (by omega),aA.aC (by omega)];exact aA.bH
  have cd:W (nx+74)=some ⟨5,cap,v.done.map aS++[cI j.who::cI j.n::tG D.2]⟩:=by rw[<-aYL,aA.aC (by omega)];exact aA.bH
  have bk6:W (nm 3)=some ⟨3,mv,rv.set st [.osl 3 (nx+58) 0 (v.pipe.length-1) y,.osl 5 (nx+74) 0 (v.done.length+1) cap,cI v.last]⟩:=by rw[<-aYL,aA.aC (by omega),aA.aC (by omega),aA.aC (by omega)];exact aA.bH
  have cf:W (nm 1)=some ⟨1,mh,D.1.2.map aJ⟩:=by rw[<-aYL];simp (disch:=omega) only[aA.aC,aA.bH]
  have cg:W (nm 0)=some ⟨1,mw,D.1.1.map aJ⟩:=by rw[<-aYL];simp (disch:=omega) only[aA.aC,aA.bH]
  have wf: ∀id,id<nx->id≠nm 0->id≠nm 1->id≠nm 3->id≠nm (15+st)->W id=H id:=fun id J U h3 k9 l1=>by rw[<-aYL];simp (disch:=omega) only[aA.aC,aA.jG]
  clear aYL;have u: ∀a,a<19->a≠0->a≠1->a≠3->a≠15+st->W (nm a)=H (nm a):=fun a J U h3 k9 l1=>wf _ (lt a J) (fun he=>U (inj a 0 J (by omega) he)) (fun he=>h3 (inj a 1 J (by omega) he)) (fun he=>k9 (inj a 3 J (by omega) he)) (fun he=>l1 (inj a (15+st) J (by omega) he));obtain⟨g,E⟩: ∃g,g=put (put nm (11+st) (nx+58)) (15+st) (nx+74):=⟨_,rfl⟩
  have o: ∀a,a≠11+st->a≠15+st->g a=nm a:=fun a J U=>by rw[E,jE U,jE J]
  have bh:g (11+st)=nx+58:=by rw[E,jE (by omega),t8]
  have bj:g (15+st)=nx+74:=by rw[E,t8]
  have bk: ∀z,nx<=z->¬X z:=fun z hz hn=>by have:=bPT z hn;omega
  have l2:Names X (nx+80) g:=by rw[E];exact(F.names.put (nx':=nx+59) (by omega) (by omega) (bk _ (by omega))).put (by omega) (by omega) (bk _ (by omega))
  refine h W _ g _ (by omega) ⟨⟨⟨wc,hc,pc,vc,tc,?_,?_,?_,?_,bkU,bkV⟩,⟨mp,rp,?_,bp4,fun k hk=> ?_⟩,⟨mv,rv.set st [.osl 3 (nx+58) 0 (v.pipe.length-1) y,.osl 5 (nx+74) 0 (v.done.length+1) cap,cI v.last],?_,by rw[Y5,bp5],fun k hk=> ?_⟩⟩,l2,fun id b=>by have:=bPT id b;omega⟩ fun id b=> ?_;·have e:s'.told=s.told:=(by rw[d];rfl);rw[U2,R,S,e,o 0 (by omega) (by omega),o 1 (by omega) (by omega),o 2 (by omega) (by omega),o 3 (by omega) (by omega),o 4 (by omega) (by omega),show D.1.1.length=64 by rw[<-R];omega,show D.1.2.length=6 by rw[<-S];omega]
  ·rw[o 0 (by omega) (by omega),R];exact⟨mw,_,cg,rfl,by simp,by simp,by rw[<-R];omega,by omega⟩
  ·rw[o 1 (by omega) (by omega),S];exact⟨mh,_,cf,rfl,by simp,by simp,by rw[<-S];omega,by omega⟩
  ·rw[o 4 (by omega) (by omega),d];exact bPU.frame (u 4 (by omega) (by omega) (by omega) (by omega) (by omega))
  ·rw[o 2 (by omega) (by omega)];exact(u 2 (by omega) (by omega) (by omega) (by omega) (by omega)).trans g1
  ·obtain⟨qo,qc,oc,x1,bpZ,aYM⟩:=ga k hk;have e:aF s' k=aF s k:=(by rw[d];rfl);exact⟨_,x1,⟨qo,qc,oc,by rw[e,o (5+k) (by omega) (by omega),o (8+k) (by omega) (by omega)];rfl,by rw[e,o (5+k) (by omega) (by omega)];exact bpZ.frame (u (5+k) (by omega) (by omega) (by omega) (by omega) (by omega)),by rw[e,o (8+k) (by omega) (by omega)];exact aYM.frame (u (8+k) (by omega) (by omega) (by omega) (by omega) (by omega))⟩⟩
  ·rw[o 3 (by omega) (by omega)];exact bk6
  ·by_cases I:k=st
   ·subst I;refine⟨_,bqZ (by omega),⟨0,y,0,cap,?_,?_,?_⟩⟩;·rw[f,bh,bj];simp only[aj9,CI,t2,List.length_singleton]
    ·rw[f,bh];exact⟨y,_,cc,rfl,by simp,by simp,by rw[CI];omega,by omega⟩
    ·rw[f,bj];exact⟨cap,_,cd,by first| (rw[bqX];done)| (rw[bqX];rfl),by simp,by simp,by rw[t2,List.length_singleton];omega,by omega⟩
   ·obtain⟨ai,aj,ak,al,x1,bpZ,aYM⟩:=gb k hk;have e:aL s' k=aL s k:=(by rw[d,bO rfl (by rw[hs.sl];omega),if_neg I]);exact⟨_,by rw[bq0 (Ne.symm I)];exact x1,⟨ai,aj,ak,al,by rw[e,o (11+k) (by omega) (by omega),o (15+k) (by omega) (by omega)];rfl,by rw[e,o (11+k) (by omega) (by omega)];exact bpZ.frame (u (11+k) (by omega) (by omega) (by omega) (by omega) (by omega)),by rw[e,o (15+k) (by omega) (by omega)];exact aYM.frame (u (15+k) (by omega) (by omega) (by omega) (by omega) (by omega))⟩⟩
  ·have av:=F.names.av;exact wf id (bPT id b) (fun he=>av 0 (by omega) (he▸b)) (fun he=>av 1 (by omega) (he▸b)) (fun he=>av 3 (by omega) (he▸b)) (fun he=>av (15+st) (by omega) (he▸b))
 ·have L:decide (0<(aL s st).pipe.length/\(bI s st).left=0/\(aL s st).done.length<2)=false:=decide_eq_false (by rw[C];omega);repeat' first| (first|apply bn1|refine bgY hs p (af.ar5 hs.pl hs.sl (fun id b=>by rw[aA.aC (by omega),aA.aC (by omega),aA.aC (by omega),aA.aC (by omega)])) ?_)<;>(simp only[go_sem,boC,g2,gs,hlen,L,p1,p7,T])|apply bn3 (by omega)|refine⟨by omega,?_⟩|fail
  refine hQ _ _ _ _ _ (.inr rfl) (LL rfl (by rw[aA.aC (by omega)];exact aA.bH) rfl) ?_;rw[ae2 ag (by rw[t];exact ah) (by rw[C];exact ax)] at h;exact h _ _ nm _ (by omega) (F.frame (by omega) fun id b _=>by rw[aA.aC (by omega),aA.aC (by omega),aA.aC (by omega),aA.aC (by omega)]) fun id b=>by have:=bPT id b;rw[aA.aC (by omega),aA.aC (by omega),aA.aC (by omega),aA.aC (by omega)]
def bhV(c:Cfg)(s:CSt)(u:List Bool)(st:Nat):CSt×List Bool:=match AO c s u st with
 |none=>(s,u)
 |some who=>(aR c s (.adm who st),u.set who true)
theorem bjU{X:Nat->Prop}{c:Cfg}{s:CSt}{st g uc um:Nat}{u:List Bool}{nm:Nat->Nat}(hb:aQ c)(hs:COk c s)(F:st<4)(dd:u.length=3)(m:bgJ X H nx nm s cells)(n:X g)(ak:H g=some ⟨1,um,u.map eH⟩)(de:3<=uc)
 (h: ∀H' nx' i C,nx<=nx'->bgJ X H' nx' i (bhV c s u st).1 C->H' g=some ⟨1,um,(bhV c s u st).2.map eH⟩->(∀id,X id->id≠g->H' id=H id)->K (boR C) H' nx'):
 bNW bhG [boR (cU c),boR cells,boP st,.one (.c (.osl 1 g 0 3 uc))] H nx K:=by
 refine cJ.mk Tryz.func124 (by kernel_rfl) bjN rfl fun Q hQ=> ?_
 unfold bhD
 have bPT:=m.x
 obtain⟨df,dg⟩:=hC hb
 obtain⟨wc,hc,pc,vc,tc,mp,rp,mv,rv,aa,g1,g2,g3,bO4,bPU,bkU,bkV,bp4,bp5,ga,gb⟩:=m.get
 obtain⟨v,hv⟩: ∃v,aL s st=v:=⟨_,rfl⟩
 obtain⟨po,dh,do_,dc,gs,gp,gd⟩:=gb st F
 rw[hv] at gs gp gd
 have al:=m
 subst aa
 have lt:=m.names.lt
 have hA:bQ nx ([0,1,2,3,4,11+st,15+st].map nm):=AM.apart (m.names.list (by simp;omega) (by simp;omega)) (fun x hx=>by obtain⟨j,hj,rfl⟩:=CF.1 hx;exact lt j (by simp at hj;omega))
 simp only[bQ,eZ,List.map] at hA
 have bo:=(hs.slv st F).pl
 rw[hv] at bo
 by_cases di:v.pipe.length=2
 ·have hlen:((v.pipe.length:Int)=2)=True:=eq_true (by omega);have hn:bhV c s u st=(s,u):=by unfold bhV;rw[anA (by rw[hv];omega)]
  rw[hn] at h;repeat' first|apply bn1<;>(simp only[go_sem,boC,g2,gs,hlen,hA])|refine⟨by omega,?_⟩|fail
  refine hQ _ _ _ _ _ (.inr rfl) (LL rfl aA.bH rfl) ?_;have U:=bPT g n;refine h _ _ nm _ (by omega) (m.frame (by omega) fun id f _=>by rw[aA.aC (by omega),aA.aC (by omega),aA.aC (by omega)]) (by rw[aA.aC (by omega),aA.aC (by omega),aA.aC (by omega)];exact ak) fun id f _=> ?_;have:=bPT id f;rw[aA.aC (by omega),aA.aC (by omega),aA.aC (by omega)]
 have hlen:((v.pipe.length:Int)=2)=False:=eq_false (by omega)
 repeat' first|apply bn1<;>(simp only[go_sem,boC,g2,gs,hlen,hA])|refine⟨by omega,?_⟩|fail
 refine aM.aTJ fun G bqK=> ?_
 have U:=bPT g n
 have bfZ:G nx=some ⟨3,1,[cU c]⟩:=by rw[bqK,aA.aC (by omega),aA.aC (by omega)];exact aA.bH
 have bpR:G (nx+1)=some ⟨5,1,[[.osl 1 (nm 0) 0 s.words.length wc,.osl 1 (nm 1) 0 s.holds.length hc,.osl 4 (nm 2) 0 3 pc,.osl 3 (nm 3) 0 4 vc,.osl 5 (nm 4) 0 s.told.length tc]]⟩:=by rw[bqK,aA.aC (by omega)];exact aA.bH
 have f2:G (nx+2)=some ⟨5,1,[[D1.osl 0 0 0 0 0,D1.osl 0 0 0 0 0,D1.osl 0 0 0 0 0,D1.osl 0 0 0 0 0,D1.osl 0 0 0 0 0]]⟩:=by rw[bqK];exact aA.bH
 have I: ∀id,id<nx->G id=H id:=fun id f=>by rw[bqK,aA.aC (by omega),aA.aC (by omega),aA.aC (by omega)]
 clear bqK
 refine aM.gP (β:=Nat) (fun j=>en [(9,boP j),(8,.one (.c (.ptr 5 (nx+2) 0 0))),(5,.one (.c (.ptr 5 (nx+1) 0 0))),(4,.one (.c (.ptr 3 nx 0 0))),(3,.one (.c (.osl 1 g 0 3 uc))),(2,boP st)])
  (fun j H1 _=>1<=j/\j<=4/\H1=G/\ ∀D,1<=D->D<j->KE c s u st (sM s st D)=false) (fun j=>4-j) 1 ⟨noF,_,by repeat' first|exact bo2|refine xqI rfl rfl ?_|refine xqP (by omega) rfl rfl ?_|refine xqO (by omega) rfl rfl (by rfl) ?_|fail,aK,by omega,by omega,rfl,fun D y h2=>by omega⟩ ?_
 rintro j H1 d bp ⟨bq,dj,br,hinv⟩ bpQ an
 subst br
 have ab:H1 (nm 3)=some ⟨3,mv,rv⟩:=(I _ (lt 3 (by omega))).trans g2
 have P:H1 g=some ⟨1,um,u.map eH⟩:=(I _ U).trans ak
 obtain⟨bs,bt⟩:=(hs.slv st F).last
 rw[hv] at bs bt
 have A:KE c s u st (sM s st j)=false->∀D,1<=D->D<j+1->KE c s u st (sM s st D)=false:=fun hf D y h2=>by
  by_cases bu:D<j;·exact hinv D y bu
  ·have:D=j:=(by omega);subst this;exact hf
 by_cases bw:j<=3
 ·obtain⟨who,E⟩: ∃who,who=sM s st j:=⟨_,rfl⟩
  have ao:who=((v.last+(j:Int))%3).toNat:=by rw[E,<-hv];rfl
  have R:who<3:=by omega
  have J:(v.last+(j:Int)).tmod 3=(who:Int):=by rw[brF (by omega)];omega
  rw[<-E] at A
  cases B:u.getD who default with
  |true=>
   have S:(u.map eH)[who]?=some (eH true):=(by rw[p0,n1 (by omega),Option.map_some];rw[KL,n1 (by omega),Option.getD_some] at B;rw[B]);repeat' first|apply bn1<;>(simp only[go_sem,bfZ,bpR,ab,P,gs,J,S,boC];try simp (disch:=omega) only[Iw])|apply bn2 (by omega)|refine⟨by omega,?_⟩|fail
   exact an _ _ _ (j+1) noF _ (by omega) (by omega) (by repeat' first|exact bo2|refine xqI rfl rfl ?_|refine xqP (by omega) rfl rfl ?_|refine xqO (by omega) rfl rfl (by rfl) ?_|fail) aK ⟨by omega,by omega,rfl,A (by unfold KE;rw[B];rfl)⟩
  |false=>
   have S:(u.map eH)[who]?=some (eH false):=(by rw[p0,n1 (by omega),Option.map_some];rw[KL,n1 (by omega),Option.getD_some] at B;rw[B]);by_cases L:HV c s who st
   ·have M:decide (HV c s who st)=true:=decide_eq_true L;have hB:bQ d [g,nx,nx+1,nx+2]:=AM.apart (by simp;omega) (by simp;omega);simp only[bQ,eZ] at hB;obtain⟨qo,qc,oc,gr,gq,go⟩:=ga who R;obtain⟨p,hp⟩: ∃p,aF s who=p:=⟨_,rfl⟩
    rw[hp] at gr gq go;have n2:=lt 2 (by omega);have aq:(nm 2=g)=False:=eq_false fun he=>m.names.av 2 (by omega) (he▸n);obtain⟨m1,bp3,_,_⟩:=id L;rw[hp] at m1 bp3;have ar:=hs.port who R;rw[hp] at ar;have dk:=ar.ql;obtain⟨T,au⟩: ∃T,p.queue.getD 0 default=T:=⟨_,rfl⟩
    obtain⟨mq,rq0,x1,bpZ,aYM,aAO,blA,aIL⟩:=gq.ex;rw[bqW] at aAO;have blB:rq0[qo]?=some (aJ T):=(by have:(rq0.drop qo)[0]?=some (aJ T):=(by rw[bpZ,p0,<-au];simp[List.getD,show 0<p.queue.length by omega]);rwa [s5,Nat.add_zero] at this);have az8:=lt (5+who) (by omega);have bx:H1 (nm (5+who))=some ⟨1,mq,rq0⟩:=(I _ az8).trans x1;have bz:(nm (5+who)=g)=False:=eq_false fun he=>m.names.av (5+who) (by omega) (he▸n);have aw:bQ d ([2,3,5+who,8+who,11+st].map nm):=AM.apart (m.names.list (by simp;omega) (by simp;omega)) (fun x hx=>by obtain⟨j,hj,rfl⟩:=CF.1 hx;have:=lt j (by simp at hj;omega);omega);simp only[bQ,eZ,List.map] at aw;have ca:H1 (nm 2)=some ⟨4,mp,rp⟩:=(I _ n2).trans g1;have bqP:=lt 3 (by omega);have aAJ:=lt (8+who) (by omega);have cb:=lt (11+st) (by omega);have ax:(nm (8+who)=g)=False:=eq_false fun he=>m.names.av (8+who) (by omega) (he▸n);have ay:(nm (11+st)=g)=False:=eq_false fun he=>m.names.av (11+st) (by omega) (he▸n);have az:(nm 3=g)=False:=eq_false fun he=>m.names.av 3 (by omega) (he▸n);have k0: ∀(G:aA) (b k:Nat),msk (d+b) [k] G nx=G nx:=fun G b k=>mk1 (by omega);have k1: ∀(G:aA) (b k:Nat),msk (d+b) [k] G (nx+1)=G (nx+1):=fun G b k=>mk1 (by omega);have k2: ∀(G:aA) (b k:Nat),msk (d+b) [k] G (nm 2)=G (nm 2):=fun G b k=>mk1 (by omega);have bPC: ∀(G:aA) (b k:Nat),msk (d+b) [k] G (nm 3)=G (nm 3):=fun G b k=>mk1 (by omega);have bPE: ∀(G:aA) (b k:Nat),msk (d+b) [k] G (nm (5+who))=G (nm (5+who)):=fun G b k=>mk1 (by omega);have bPJ: ∀(G:aA) (b k:Nat),msk (d+b) [k] G (nm (8+who))=G (nm (8+who)):=fun G b k=>mk1 (by omega);have cc: ∀(G:aA) (b k:Nat),msk (d+b) [k] G (nm (11+st))=G (nm (11+st)):=fun G b k=>mk1 (by omega);have cd: ∀(G:aA) (b k:Nat),34<=b->msk (d+b) [k] G (d+33)=G (d+33):=fun G b k hb=>mk1 (by omega);obtain⟨mo,ro,o1,o2,bqD,bqE,bqF,blC⟩:=go.ex;rw[bqW] at bqE;rw[bq5] at o2;have cf:H1 (nm (8+who))=some ⟨3,mo,ro⟩:=(I _ aAJ).trans o1;obtain⟨me,re,p1,p2,p3,p4,p5,p6⟩:=gp.ex;rw[bqW] at p4;have cg:H1 (nm (11+st))=some ⟨3,me,re⟩:=(I _ cb).trans p1;have ad:(qo+(1+(p.queue.length-1))<=rq0.length)=True:=eq_true (by omega);have ae:List.take (p.queue.length-1) (List.drop (qo+1) rq0)=(p.queue.drop 1).map aJ:=(by rw[<-Y2,bpZ,<-brE,boL (by simp)]);have af:List.take v.pipe.length (List.drop po re)=v.pipe.map eCJ:=(by rw[p2,boL (by simp)]);have ag:List.take p.out.length ro=p.out.map eCJ:=(by rw[o2,boL (by simp)]);have ba: ∀r,(rp.set who r)[who]?=some r:=fun r=>by rw[bqZ (by omega)]
    have bb: ∀r,(rv.set st r)[st]?=some r:=fun r=>by rw[bqZ (by omega)]
    have bc:=hb.2.1;have bd:bQ nx ([2,3,5+who,8+who,11+st].map nm):=AM.apart (m.names.list (by simp;omega) (by simp;omega)) (fun x hx=>by obtain⟨j,hj,rfl⟩:=CF.1 hx;exact lt j (by simp at hj;omega));simp only[bQ,eZ,List.map] at bd;repeat' first| (first|apply bn1|refine bhY hb hs R F (al.ar5 hs.pl hs.sl (fun id f=>I id f)) ?_)<;>(simp only[go_sem,bfZ,bpR,f2,ca,ab,P,bx,cf,cg,blB,gr,gs,J,S,M,hB,aq,bz,ax,ay,az,aw,bd,k0,k1,k2,bPC,bPE,bPJ,cc,cd,ad,ae,af,ag,ba,bb,List.nil_append,bqW,CI,bq1,boC];try simp (disch:=omega) only[Iw])|apply bn2 (by omega)| (with_reducible first|refine fun(cap:Nat) (ch:_<=cap)=> ?_|refine fun(dm:_<=cap)=> ?_)|refine⟨by omega,?_⟩|fail
    rename_i o bf cj q bg ck;have cl:AO c s u st=some who:=(by rw[E];apply ahR (by rw[hv];omega) bq bw hinv;rw[<-E];unfold KE;rw[B,M];rfl);have hn:bhV c s u st=(aR c s (.adm who st),u.set who true):=(by unfold bhV;rw[cl]);rw[hn] at h;refine hQ _ _ _ _ _ (.inr rfl) (LL rfl aA.bH rfl) ?_;obtain⟨s',t⟩: ∃s',s'=aR c s (.adm who st):=⟨_,rfl⟩
    rw[<-t] at h;have V:(aF s who).queue.getD 0 default=T:=(by rw[hp,au]);have N:aF s' who= {p with queue:=p.queue.drop 1,out:=p.out++[⟨who,T,st⟩]}:=(by rw[t,bL rfl (by rw[hs.pl];omega),if_pos rfl,V,hp]);have O:aL s' st= {v with pipe:=v.pipe++[⟨who,T,c.lat.getD st default⟩],last:=who}:=(by rw[t,bO rfl (by rw[hs.sl];omega),if_pos rfl,V,hv]);have inj:=m.names.inj;have dn:nm 2≠nm 3:=fun he=>by have:=inj 2 3 (by omega) (by omega) he;omega
    have dp:g≠nm 2:=fun he=>of_eq_false aq he.symm;have dq:g≠nm 3:=fun he=>of_eq_false az he.symm;have dr:g≠nm (8+who):=fun he=>of_eq_false ax he.symm;have cm:g≠nm (11+st):=fun he=>of_eq_false ay he.symm;generalize aYL:aA.set _ (nx+2) _=W;have cn:W (d+47)=some ⟨1,o,(p.queue.drop 1).map aJ⟩:=(by rw[<-aYL];simp (disch:=omega) only[aA.aC,aA.bH]);have cp:W (d+61)=some ⟨3,q,(p.out++[(⟨who,T,st⟩:fC)]).map eCJ⟩:=(by rw[<-aYL,bqX];simp (disch:=omega) only[aA.aC,aA.bH];rfl);have cq:W (d+83)=some ⟨3,cap,(v.pipe++[(⟨who,T,c.lat.getD st default⟩:fC)]).map eCJ⟩:=(by rw[<-aYL,bqX];simp (disch:=omega) only[aA.aC,aA.bH];rfl);have bqI:W (nm 2)=some ⟨4,mp,rp.set who [cI p.next,.osl 1 (d+47) 0 (p.queue.length-1) o,.osl 3 (d+61) 0 (p.out.length+1) q,cI p.last]⟩:=(by rw[<-aYL];simp (disch:=omega) only[aA.aC,aA.bH]);have bk6:W (nm 3)=some ⟨3,mv,rv.set st [.osl 3 (d+83) 0 (v.pipe.length+1) cap,.osl 5 (nm (15+st)) do_ v.done.length dc,cI who]⟩:=(by rw[<-aYL];simp (disch:=omega) only[aA.aC,aA.bH]);have cr:W g=some ⟨1,um,(u.set who true).map eH⟩:=(by rw[<-aYL];simp (disch:=omega) only[aA.aC,aA.bH];rw[brD];rfl);have wf: ∀id,id<nx->id≠g->id≠nm 2->id≠nm 3->id≠nm (8+who)->id≠nm (11+st)->W id=H id:=fun id y h2 h3 k9 l1 bOW=>by rw[<-aYL];simp (disch:=omega) only[aA.aC,aA.jG];exact I id y
    clear aYL;have Y: ∀a,a<19->a≠2->a≠3->a≠8+who->a≠11+st->W (nm a)=H (nm a):=fun a y h2 h3 k9 l1=>wf _ (lt a y) (fun he=>m.names.av a y (he▸n)) (fun he=>h2 (inj a 2 y (by omega) he)) (fun he=>h3 (inj a 3 y (by omega) he)) (fun he=>k9 (inj a (8+who) y (by omega) he)) (fun he=>l1 (inj a (11+st) y (by omega) he));obtain⟨i,w⟩: ∃i,i=put (put (put nm (5+who) (d+47)) (8+who) (d+61)) (11+st) (d+83):=⟨_,rfl⟩
    have l: ∀a,a≠5+who->a≠8+who->a≠11+st->i a=nm a:=fun a y h2 h3=>by rw[w,jE h3,jE h2,jE y]
    have bh:i (5+who)=d+47:=(by rw[w,jE (by omega),jE (by omega),t8]);have bj:i (8+who)=d+61:=(by rw[w,jE (by omega),t8]);have Z:i (11+st)=d+83:=(by rw[w,t8]);have ah: ∀z,nx<=z->¬X z:=fun z hz hn=>by have:=bPT z hn;omega
    have l2:Names X (d+96) i:=(by rw[w];exact((m.names.put (nx':=d+48) (by omega) (by omega) (ah _ (by omega))).put (nx':=d+62) (by omega) (by omega) (ah _ (by omega))).put (by omega) (by omega) (ah _ (by omega)));have bk:s'.words=s.words:=(by rw[t];rfl);have bm:s'.holds=s.holds:=(by rw[t];rfl);have bn:s'.told=s.told:=(by rw[t];rfl);refine h W _ i _ (by omega) ⟨⟨⟨wc,hc,pc,vc,tc,?_,?_,?_,?_,bkU,bkV⟩,⟨mp,rp.set who [cI p.next,.osl 1 (d+47) 0 (p.queue.length-1) o,.osl 3 (d+61) 0 (p.out.length+1) q,cI p.last],?_,by rw[Y5,bp4],fun k hk=> ?_⟩,⟨mv,rv.set st [.osl 3 (d+83) 0 (v.pipe.length+1) cap,.osl 5 (nm (15+st)) do_ v.done.length dc,cI who],?_,by rw[Y5,bp5],fun k hk=> ?_⟩⟩,l2,fun id f=>by have:=bPT id f;omega⟩ cr fun id f ct=> ?_;·rw[U2,bk,bm,bn,l 0 (by omega) (by omega) (by omega),l 1 (by omega) (by omega) (by omega),l 2 (by omega) (by omega) (by omega),l 3 (by omega) (by omega) (by omega),l 4 (by omega) (by omega) (by omega)]
    ·rw[bk,l 0 (by omega) (by omega) (by omega)];exact g3.frame (Y 0 (by omega) (by omega) (by omega) (by omega) (by omega))
    ·rw[bm,l 1 (by omega) (by omega) (by omega)];exact bO4.frame (Y 1 (by omega) (by omega) (by omega) (by omega) (by omega))
    ·rw[bn,l 4 (by omega) (by omega) (by omega)];exact bPU.frame (Y 4 (by omega) (by omega) (by omega) (by omega) (by omega))
    ·rw[l 2 (by omega) (by omega) (by omega)];exact bqI
    ·by_cases ai:k=who
     ·subst ai;refine⟨_,ba _,⟨0,o,q,?_,?_,?_⟩⟩;·rw[N,bh,bj];simp only[af5,CI,t2,List.length_singleton]
      ·rw[N,bh];exact⟨o,_,cn,rfl,by simp,by simp,by simp;omega,by omega⟩
      ·rw[N,bj];exact⟨q,_,cp,rfl,by simp,by simp,by simp;omega,by omega⟩
     ·obtain⟨cu,cw,cx,y1,aHC,aHD⟩:=ga k hk;have e:aF s' k=aF s k:=(by rw[t,bL rfl (by rw[hs.pl];omega),if_neg ai]);refine⟨_,by rw[bq0 (Ne.symm ai)];exact y1,⟨cu,cw,cx,?_,?_,?_⟩⟩;·rw[e,l (5+k) (by omega) (by omega) (by omega),l (8+k) (by omega) (by omega) (by omega)];rfl
      ·rw[e,l (5+k) (by omega) (by omega) (by omega)];exact aHC.frame (Y (5+k) (by omega) (by omega) (by omega) (by omega) (by omega))
      ·rw[e,l (8+k) (by omega) (by omega) (by omega)];exact aHD.frame (Y (8+k) (by omega) (by omega) (by omega) (by omega) (by omega))
    ·rw[l 3 (by omega) (by omega) (by omega)];exact bk6
    ·by_cases aj:k=st
     ·subst aj;refine⟨_,bb _,⟨0,cap,do_,dc,?_,?_,?_⟩⟩;·rw[O,Z,l (15+k) (by omega) (by omega) (by omega)];simp only[aj9,t2,List.length_singleton]
      ·rw[O,Z];exact⟨cap,_,cq,rfl,by simp,by simp,by simp;omega,by omega⟩
      ·rw[O,l (15+k) (by omega) (by omega) (by omega)];exact gd.frame (Y (15+k) (by omega) (by omega) (by omega) (by omega) (by omega))
     ·obtain⟨cy,cz,da,db,y1,aHC,aHD⟩:=gb k hk;have e:aL s' k=aL s k:=(by rw[t,bO rfl (by rw[hs.sl];omega),if_neg aj]);refine⟨_,by rw[bq0 (Ne.symm aj)];exact y1,⟨cy,cz,da,db,?_,?_,?_⟩⟩;·rw[e,l (11+k) (by omega) (by omega) (by omega),l (15+k) (by omega) (by omega) (by omega)];rfl
      ·rw[e,l (11+k) (by omega) (by omega) (by omega)];exact aHC.frame (Y (11+k) (by omega) (by omega) (by omega) (by omega) (by omega))
      ·rw[e,l (15+k) (by omega) (by omega) (by omega)];exact aHD.frame (Y (15+k) (by omega) (by omega) (by omega) (by omega) (by omega))
    ·have av:=m.names.av;exact wf id (bPT id f) ct (fun he=>av 2 (by omega) (he▸f)) (fun he=>av 3 (by omega) (he▸f)) (fun he=>av (8+who) (by omega) (he▸f)) (fun he=>av (11+st) (by omega) (he▸f))
   ·have M:decide (HV c s who st)=false:=decide_eq_false L;repeat' first| (first|apply bn1|refine bhY hb hs R F (al.ar5 hs.pl hs.sl (fun id f=>I id f)) ?_)<;>(simp only[go_sem,bfZ,bpR,ab,P,gs,J,S,M,boC];try simp (disch:=omega) only[Iw])|apply bn2 (by omega)|refine⟨by omega,?_⟩|fail
    exact an _ _ _ (j+1) noF _ (by omega) (by omega) (by repeat' first|exact bo2|refine xqI rfl rfl ?_|refine xqP (by omega) rfl rfl ?_|refine xqO (by omega) rfl rfl (by rfl) ?_|fail) aK ⟨by omega,by omega,rfl,A (by unfold KE;rw[B,M];rfl)⟩
 ·have hn:bhV c s u st=(s,u):=by unfold bhV;rw[ah0 fun D y h2=>hinv D y (by omega)]
  rw[hn] at h;repeat' first|apply bn1<;>(simp only[go_sem,bfZ,bpR,f2,boC])|apply bn3 (by omega)|fail
  refine hQ _ _ _ _ _ (.inr rfl) (LL rfl aA.bH rfl) ?_;refine h _ _ nm _ (by omega) (m.frame (by omega) fun id f _=>by rw[aA.aC (by omega)];exact I id f) (by rw[aA.aC (by omega)];exact P) fun id f _=> ?_;have:=bPT id f;rw[aA.aC (by omega)];exact I id this
end
theorem aTC{a b c:Job}(d:uL a b=true)(e:uL b c=true):uL a c=true:=by rw[qL] at*;omega
theorem aTV{l:List Job}(h: ∀i,i<l.length->0<i->uL (l.getD (i-1) default) (l.getD i default)=true):kW l:=by
 have key: ∀d i,i+d+1<l.length->uL (l.getD i default) (l.getD (i+d+1) default)=true:=by
  intro d
  induction d with
  |zero=>exact fun i hi=>h (i+1) hi (by omega)
  |succ d a=>exact fun i hi=>aTC (a i (by omega)) (h (i+d+1+1) hi (by omega))
 refine Z6.2 fun i j hi b c=> ?_;have:=key (j-i-1) i (by omega);rw[show i+(j-i-1)+1=j by omega] at this;simpa [List.getD,hi,b] using this
theorem aT4{l:List Job}(h:kW l){i:Nat}(hi:i<l.length)(a:0<i):uL (l.getD (i-1) default) (l.getD i default)=true:=by have:=Z6.1 h (i-1) i (by omega) hi (by omega);simpa [List.getD,hi,show i-1<l.length by omega] using this
section
variable{H:aA}{nx:Nat}{K:bNX}
theorem aMA{c:Cfg}{a:List Int}{l:List Job}{b:Bool}(S:aQ c)(C:a.length=3)(I:aTF c a)(hl:l.length<2^21)(T: ∀j∈l,j.rsp.data.length<2^21)(h:K (dB (aPK c a l b)) H nx):bNW aIQ [boR (cU c),dS (a.map aJ),dS (l.map aS),dB b] H nx K:=by
 refine aB.pure (args0:=[boR (cU c),dS (a.map aJ),dS (l.map aS),dB b]) (R:=fun U=>U=dB (aPK c a l b)) ?_ rfl (aI ⟨aE rfl,aE rfl,aE rfl,aE rfl,trivial⟩) (fun r hr=>hr▸h);clear h;refine aN.mk Tryz.func214 (by kernel_rfl) aKV rfl fun Q t=> ?_;unfold aI9;obtain⟨p,F⟩:=hC S;repeat' first|apply bn1<;>(simp only[go_sem])|fail
 (refine aM.loop (α:={k:Nat//k<=l.length/\(∀i,i<k->InA a (l.getD i default)/\(0<i->uL (l.getD (i-1) default) (l.getD i default)=true)/\(if b then as5 c (l.getD i default) else (l.getD i default).rsp=oW))}) (fun u=>en [(9,boP u.1),(4,.one (.c (.fQ (cU c)))),(3,dB b),(2,dS (l.map aS)),(1,dS (a.map aJ))]) (fun _=>.nil) _ (fun u=>l.length-u.1) ⟨0,by omega,(by intros;first|trivial|omega)⟩ (bU (m5 _) (by repeat' first|exact bo2|refine xqI rfl rfl ?_| (with_reducible apply bo3)| ((with_reducible apply bo1);exact bpH rfl (by simp) rfl rfl rfl)|fail)) ?_);(rintro⟨k,W,hinv⟩ bpQ v);by_cases G:k<l.length
 ·obtain⟨j,J⟩: ∃j,j=l.getD k default:=⟨_,rfl⟩
  have g:=J.symm;have hm:j∈l:=by rw[J];exact cC G
  have V:=T j hm;have m:InA a j->(0<k->uL (l.getD (k-1) default) j=true)->(if b then as5 c j else j.rsp=oW)->∀i,i<k+1->InA a (l.getD i default)/\(0<i->uL (l.getD (i-1) default) (l.getD i default)=true)/\(if b then as5 c (l.getD i default) else (l.getD i default).rsp=oW):=fun s y o=>iS hinv ⟨by rw[g];exact s,by rw[g];exact y,by rw[g];exact o⟩;have f: ¬(InA a j/\(0<k->uL (l.getD (k-1) default) j=true)/\(if b then as5 c j else j.rsp=oW))->aPK c a l b=false:=fun h=>aSY fun aIF=>h ⟨aIF.inA j hm,fun D=>by rw[J];exact aT4 aIF.sorted G D,aIF.rsp j hm⟩;have q:((k:Int)-1).toNat=k-1:=by omega
  have z:j.rsp=oW↔j.rsp.id=0/\j.rsp.code=0/\(j.rsp.data.length:Int)=0:=by obtain⟨w,n,⟨i,d,x⟩⟩:=j;simp only[oW,Rsp.mk.injEq];refine⟨fun⟨s,y,o⟩=>⟨s,y,by rw[o];rfl⟩,fun⟨s,y,o⟩=>⟨s,y,H4.1 (by omega)⟩⟩
  by_cases hw:0<=j.who/\j.who<=2
  ·have N:=I j.who.toNat (by omega);have O:=F j.who.toNat;by_cases A:0<=j.n/\j.n<=a.getD j.who.toNat default-1
   ·have B:InA a j:=⟨hw,A.1,by omega⟩
    cases b with
    |false=>
     by_cases D:0<k
     ·by_cases e:uL (l.getD (k-1) default) j=true
      ·repeat' first| (first|apply bn1|apply bpJ (by omega)|refine bpL (fun h=> ?_) fun h=> ?_|apply aBC|apply c9)<;>(simp only[go_sem,g,eq_true hw,eq_true A,e,p,C,q];try simp (disch:=omega) only[Iw])|apply bn2 (by omega)|refine bnE (fun h=> ?_) fun h=> ?_|refine⟨by omega,?_⟩|fail
       all_goals first| (refine v _ _ _ ⟨k+1,by omega,m B (fun _=>e) (by rw[if_neg (by decide)];exact z.2 ⟨by omega,by omega,by omega⟩)⟩ (by omega) (by(try dsimp only);omega) (bU (m5 _) (by repeat' first|exact bo2|refine xqI rfl rfl ?_|fail)))|exact aZ t (dB false) rfl rfl (congrArg dB (f fun⟨_,_,o⟩=>by rw[if_neg (by decide)] at o;have:=z.1 o;omega)).symm
      ·have E:=eq_false_of_ne_true e;repeat' first| (first|apply bn1|apply bpJ (by omega)|apply aBC|apply c9)<;>(simp only[go_sem,g,eq_true hw,eq_true A,E,p,C,q];try simp (disch:=omega) only[Iw])|apply bn2 (by omega)|refine⟨by omega,?_⟩|fail
       all_goals exact aZ t (dB false) rfl rfl (congrArg dB (f fun⟨_,y,_⟩=>e (y D))).symm
     ·repeat' first| (first|apply bn1|apply bpK (by omega)|refine bpL (fun h=> ?_) fun h=> ?_|apply aBC)<;>(simp only[go_sem,g,eq_true hw,eq_true A,p,C,q];try simp (disch:=omega) only[Iw])|apply bn2 (by omega)|refine bnE (fun h=> ?_) fun h=> ?_|refine⟨by omega,?_⟩|fail
      all_goals first| (refine v _ _ _ ⟨k+1,by omega,m B (fun h=>absurd h D) (by rw[if_neg (by decide)];exact z.2 ⟨by omega,by omega,by omega⟩)⟩ (by omega) (by(try dsimp only);omega) (bU (m5 _) (by repeat' first|exact bo2|refine xqI rfl rfl ?_|fail)))|exact aZ t (dB false) rfl rfl (congrArg dB (f fun⟨_,_,o⟩=>by rw[if_neg (by decide)] at o;have:=z.1 o;omega)).symm
    |true=>
     by_cases D:0<k
     ·by_cases e:uL (l.getD (k-1) default) j=true
      ·repeat' first| (first|apply bn1|apply bpJ (by omega)|refine bpL (fun h=> ?_) fun h=> ?_|apply aBC|apply c9|apply aMP (show j.rsp.data.length<2^40 by omega))<;>(simp only[go_sem,g,eq_true hw,eq_true A,e,p,C,q];try simp (disch:=omega) only[Iw])|apply bn2 (by omega)|refine⟨by omega,?_⟩|fail
       all_goals first| (refine v _ _ _ ⟨k+1,by omega,m B (fun _=>e) (by rw[if_pos rfl];exact⟨Classical.not_not.1 (by assumption),by unfold bT;omega⟩)⟩ (by omega) (by(try dsimp only);omega) (bU (m5 _) (by repeat' first|exact bo2|refine xqI rfl rfl ?_|fail)))|exact aZ t (dB false) rfl rfl (congrArg dB (f fun⟨_,_,o⟩=>by rw[if_pos rfl] at o;obtain⟨k9,l1⟩:=o;unfold bT at l1;first|omega|exact absurd k9 (by assumption)|simp_all)).symm
      ·have E:=eq_false_of_ne_true e;repeat' first| (first|apply bn1|apply bpJ (by omega)|apply aBC|apply c9)<;>(simp only[go_sem,g,eq_true hw,eq_true A,E,p,C,q];try simp (disch:=omega) only[Iw])|apply bn2 (by omega)|refine⟨by omega,?_⟩|fail
       all_goals exact aZ t (dB false) rfl rfl (congrArg dB (f fun⟨_,y,_⟩=>e (y D))).symm
     ·repeat' first| (first|apply bn1|apply bpK (by omega)|refine bpL (fun h=> ?_) fun h=> ?_|apply aBC|apply aMP (show j.rsp.data.length<2^40 by omega))<;>(simp only[go_sem,g,eq_true hw,eq_true A,p,C,q];try simp (disch:=omega) only[Iw])|apply bn2 (by omega)|refine⟨by omega,?_⟩|fail
      all_goals first| (refine v _ _ _ ⟨k+1,by omega,m B (fun h=>absurd h D) (by rw[if_pos rfl];exact⟨Classical.not_not.1 (by assumption),by unfold bT;omega⟩)⟩ (by omega) (by(try dsimp only);omega) (bU (m5 _) (by repeat' first|exact bo2|refine xqI rfl rfl ?_|fail)))|exact aZ t (dB false) rfl rfl (congrArg dB (f fun⟨_,_,o⟩=>by rw[if_pos rfl] at o;obtain⟨k9,l1⟩:=o;unfold bT at l1;first|omega|exact absurd k9 (by assumption)|simp_all)).symm
   ·repeat' first| (first|apply bn1|apply aBC)<;>(simp only[go_sem,g,eq_true hw,eq_false A,C];try simp (disch:=omega) only[Iw])|apply bn2 (by omega)|refine⟨by omega,?_⟩|fail
    all_goals first| (exfalso;omega)|exact aZ t (dB false) rfl rfl (congrArg dB (f fun⟨s,_,_⟩=>A ⟨s.2.1,by have:=s.2.2;omega⟩)).symm
  ·repeat' first| (first|apply bn1|apply aBC)<;>(simp only[go_sem,g,eq_false hw])|apply bn2 (by omega)|refine⟨by omega,?_⟩|fail
   all_goals first| (exfalso;omega)|exact aZ t (dB false) rfl rfl (congrArg dB (f fun⟨s,_,_⟩=>hw s.1)).symm
 ·repeat' first|apply bn1<;>(simp only[go_sem])|apply bn3 (by omega)|fail
  have L:k=l.length:=by omega
  subst L;exact aZ t (dB true) rfl rfl (congrArg dB (aQD ⟨fun x M=>aKJ (fun i hi=>(hinv i hi).1) x M,aTV fun i hi=>(hinv i hi).2.1,fun x M=>aKJ (P:=fun x=>if b then as5 c x else x.rsp=oW) (fun i hi=>(hinv i hi).2.2) x M⟩).symm)
end
theorem umM{b:Nat}{l:List Nat}{H:aA}:dT b l H (msk b l H)=H:=by funext j;simp only[dT,msk];split<;>rfl
theorem muM{b:Nat}{l:List Nat}{H G:aA}:msk b l (dT b l H G)=msk b l G:=by funext j;simp only[dT,msk];split<;>rfl
section
variable{H:aA}{nx:Nat}{K:bNX}
end
theorem PB:cJ bNV FO Tryz.f35 vJ DL:=cJ.mk Tryz.func35 (by kernel_rfl) O7
section
variable{H:aA}{nx:Nat}{K:bNX}
end
end Go.Proofs.YtlncecohbakleaaGreat
