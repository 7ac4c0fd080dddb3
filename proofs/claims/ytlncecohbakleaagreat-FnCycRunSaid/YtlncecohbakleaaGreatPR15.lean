/- Rules and contracts. -/
import Derived.Test.YtlncecohbakleaaGreatPR14
import Derived.Test.YtlncecohbakleaaGreatPR13
import Derived.Test.YtlncecohbakleaaGreatPR12
import Derived.Test.YtlncecohbakleaaGreatPR9
set_option linter.unusedVariables false
set_option linter.unusedSimpArgs false
set_option maxRecDepth 100000
set_option maxHeartbeats 8000000
namespace Go.AM
def eU(f:Nat->Int):Nat->Int
 |0=>0
 |n+1=>eU f n+f n
theorem IK{f:Nat->Int}{m:Int}(a:0<=m): ∀n,(∀k,k<n->0<=f k/\f k<=m)->0<=eU f n/\eU f n<=m*n
 |0,_=>by simp[eU]
 |n+1,h=>by
  have b:=IK a n fun k c=>h k (by omega);have d:=h n (by omega);have e:m*((n+1:Nat):Int)=m*n+m:=by push_cast;rw[Int.mul_add,Int.mul_one]
  simp only[eU];omega
def tR(i:CIn):Prop:=i.ready.length=3/\i.mW.length=4/\i.send.length=3
end Go.AM
namespace Go.Proofs.YtlncecohbakleaaGreat
open Go Go.AM
attribute [local irreducible] aJ wv aC vd wvH
section
variable{H:aA}{nx:Nat}{K:afC}
theorem xN(l:List CIn)(f:FuncId)(caps:List D1)(p:CIn->Bool)(hl:l.length<2^40)(hc:caps.all D1.eS=true)(j: ∀x∈l,∀(H:aA) (nx:Nat) (K:afC),K (dB (p x)) H nx->afB f (dA (eIn x)::caps.map fun d=>.one (.c d)) H nx K):
 afB fJ [dS (l.map eIn),.one (.c (.clo f caps))] .nil 0 fun r _ _=>r.plain=true/\r=dI (bP p l):=by
 refine aR.mk Tryz.func252 (by kernel_rfl) vG rfl fun Q g=> ?_
 unfold eZ
 repeat' first|apply vI<;>(simp only[go_sem])|fail
 (refine aJ.loop (α:={k:Nat//k<=l.length/\(∀i,i<k->p (l.getD i default)=false)}) (fun u=>en [(8,dI u.1),(7,dI l.length),(1,.one (.c (.clo f caps))),(0,dS (l.map eIn))]) (fun _=>.nil) _ (fun u=>l.length-u.1) ⟨0,by omega,(by intros;first|trivial|omega)⟩ (bF (abG _) (by repeat' first|exact C1|refine xqI rfl rfl ?_| (with_reducible apply C2)| ((with_reducible apply C0);exact CH (by assumption))| ((with_reducible apply D0);apply CJ)|fail)) ?_);(rintro⟨k,m,hinv⟩ n b)
 by_cases e:k<l.length
 ·have a:l.getD k default∈l:=by simp[List.getD,e]
  repeat' first| (first|apply vI|apply j _ a _ _ _)<;>(simp only[go_sem];try simp (disch:=omega) only[Iw])|apply vT (by omega)| ((refine y5 (fun h=> ?_) (fun h=> ?_))<;>try subst h)|refine⟨by omega,?_⟩|fail
  ·refine aP g _ rfl rfl (nP (acD (CU (by omega) (by assumption) hinv)))
  · (refine b _ _ _ ⟨k+1,by omega,bL hinv (by assumption)⟩ (by omega) (by(try dsimp only);omega) (bF (abG _) (by repeat' first|exact C1|refine xqI rfl rfl ?_| (with_reducible apply C2)| ((with_reducible apply C0);exact CH (by assumption))| ((with_reducible apply D0);apply CJ)|fail)))
 ·repeat' first|apply vI<;>(simp only[go_sem])|apply vF (by omega)|fail
  ·refine aP g _ rfl rfl (nP (acD (qC fun i hi=>hinv i (by omega))))
theorem xS{l:List CIn}{f:FuncId}{caps a:List D1}{p:CIn->Bool}{d:D}(hl:l.length<2^40)(hc:caps.all D1.eS=true)(b:CvD H (fun _=>True) id 0 (dS (l.map eIn)) d)(e:CvD H (fun _=>True) id 0 (.one (.c (.clo f caps))) (.one (.c (.clo f a))))(g: ∀x∈l,∀(H:aA) (nx:Nat) (K:afC),K (dB (p x)) H nx->afB f (dA (eIn x)::caps.map fun d=>.one (.c d)) H nx K)
 (h:K (dI (bP p l)) H nx):afB fJ [d,.one (.c (.clo f a))] H nx K:=
 (xN l f caps p hl hc g).pure rfl (aK ⟨b,e,trivial⟩) fun r hr=>hr▸h
theorem tC(l:List CIn)(f:FuncId)(caps:List D1)(p:CIn->Bool)(hl:l.length<2^40)(hc:caps.all D1.eS=true)(a: ∀x∈l,∀(H:aA) (nx:Nat) (K:afC),K (dB (p x)) H nx->afB f (dA (eIn x)::caps.map fun d=>.one (.c d)) H nx K):
 afB eK [dS (l.map eIn),.one (.c (.clo f caps))] .nil 0 fun r _ _=>r.plain=true/\r=dB (decide (0<=bP p l)):=by
 refine aR.mk Tryz.func171 (by kernel_rfl) rZ rfl fun Q b=> ?_
 unfold eB
 repeat' first| (first|apply vI|refine xS hl hc (aF rfl) (lI hc) a ?_)<;>(simp only[go_sem])|fail
 all_goals exact aP b _ rfl rfl rfl
theorem kC{l:List CIn}{f:FuncId}{caps a:List D1}{p:CIn->Bool}{d:D}(hl:l.length<2^40)(hc:caps.all D1.eS=true)(b:CvD H (fun _=>True) id 0 (dS (l.map eIn)) d)(e:CvD H (fun _=>True) id 0 (.one (.c (.clo f caps))) (.one (.c (.clo f a))))(g: ∀x∈l,∀(H:aA) (nx:Nat) (K:afC),K (dB (p x)) H nx->afB f (dA (eIn x)::caps.map fun d=>.one (.c d)) H nx K)
 (h:K (dB (decide (0<=bP p l))) H nx):afB eK [d,.one (.c (.clo f a))] H nx K:=
 (tC l f caps p hl hc g).pure rfl (aK ⟨b,e,trivial⟩) fun r hr=>hr▸h
end
end Go.Proofs.YtlncecohbakleaaGreat
namespace Go.AM
theorem Bx{c:Cfg}{a b:List CIn}: ∀{s:CSt},eE c s (a++b)=eE c s a++eE c (uC c s a) b:=by
 induction a with
 |nil=>intro s;rfl
 |cons i a d=>intro s;rw[List.cons_append,eE,eE,Hd,d,abY]
theorem BA.frame{H H':aA}{nm:Nat->Nat}{s:CSt}{cells:List D1}(h:BA H nm s cells)(a: ∀k,k<19->H' (nm k)=H (nm k)):BA H' nm s cells:=by
 obtain⟨⟨wc,hc,f,vc,g,i,j,l,n,o⟩,⟨m,rows,p,q,t⟩,⟨u,b,v,w,x⟩⟩:=h;refine⟨⟨wc,hc,f,vc,g,i,j.frame (a _ (by omega)),l.frame (a _ (by omega)),n.frame (a _ (by omega)),o⟩,⟨m,rows,by rw[a 2 (by omega)];exact p,q,fun k c=> ?_⟩,⟨u,b,by rw[a 3 (by omega)];exact v,w,fun k c=> ?_⟩⟩;·obtain⟨r,d,e⟩:=t k c;exact⟨r,d,e.frame (a _ (by omega)) (a _ (by omega))⟩
 ·obtain⟨r,d,e⟩:=x k c;exact⟨r,d,e.frame (a _ (by omega)) (a _ (by omega))⟩
variable{s:CSt}
theorem HV{c:Cfg}{l:List CIn}{k:Nat}(a:k<l.length):uC c s (l.take (k+1))=yR c (l.getD k default) (uC c s (l.take k)):=by rw[fC a,xy];rfl
theorem NW{c:Cfg}{l:List CIn}{k:Nat}(a:k<l.length):eE c s (l.take (k+1))=eE c s (l.take k)++E9 c (l.getD k default) (uC c s (l.take k)):=by rw[fC a,Bx];simp[eE]
theorem COk.sz{c:Cfg}(d:bH c)(h:COk c s):CSz s:=by
 obtain⟨e,_,f,_⟩:=h.atm;have g:s.told.length<=36:=by have:=h.st.lens d;simp only[dN] at this;omega
 have i: ∀j∈s.told,j.rsp.data.length<2^21:=fun j b=>by have:=(h.st.fv j (ac2 _ b)).1;unfold jU at this;omega
 refine⟨h.pl,h.sl,by omega,by omega,⟨by omega,i⟩,fun k a=> ?_,fun k a=> ?_⟩;·have l:=(h.port k a).ql;have m:=(h.port k a).ol;omega
 ·have l:=(h.slv k a).pl;have m:=(h.slv k a).dl;refine⟨by omega,by omega,fun j b=> ?_⟩;have:=((h.slv k a).rsp j b).1;unfold jU at this;omega
theorem MI{c:Cfg}{i:CIn}:(E9 c i s).length<=10:=by have a:(gV c s (LZ c i s)).length<=3:=acQ Go.Proofs.YtlncecohbakleaaGreat.TV Go.Proofs.YtlncecohbakleaaGreat.LU;have b:(gV c (D9 c i s) (FJ c i (D9 c i s))).length<=4:=acQ Go.Proofs.YtlncecohbakleaaGreat.TV Go.Proofs.YtlncecohbakleaaGreat.LU;have d:(gV c (JI c i s) (WA c i (JI c i s))).length<=3:=acQ Go.Proofs.YtlncecohbakleaaGreat.TV Go.Proofs.YtlncecohbakleaaGreat.LU;rw[Go.Proofs.YtlncecohbakleaaGreat.tq];simp only[abL,List.length_nil];omega
theorem EB{c:Cfg}: ∀{l:List CIn} {s:CSt},(eE c s l).length<=10*l.length
 | [],_=>by simp[eE]
 |i::l,s=>by have a:=EB (c:=c) (l:=l) (s:=yR c i s);have b:=MI (c:=c) (i:=i) (s:=s);rw[eE,abL,List.length_cons];omega
variable{H:aA}{nx:Nat}
theorem aC.wj{P:Program}{f:FuncId}{args args':List D}{K:afC}(H':aA)(F:Nat->Prop)(hl:args.length=args'.length)(m: ∀(i:Nat) (k d:D),args'[i]?=some k->args[i]?=some d->CvD H F id nx k d)(n:CvX F nx H H')(h:aC P f args' H' nx K):aC P f args H nx K:=by
 refine⟨h.1,fun c vs hs l hlen e=> ?_⟩;obtain⟨p,q⟩:=tk hs (Step.refl c H) l n;refine(h.2 (c.conv nx nx id (c.frI H F)) vs p (fun i hi=> ?_) (by omega) fun i d v a g=> ?_).mono ?_
 ·rcases hi with⟨_,hi⟩|⟨a,g,j⟩
  ·exact l i hi
  ·omega
 ·have hi:i<args.length:=by have:=(abN.1 a).1;omega
  exact z7 hs (fun b h=>.inl h) (fun id o a g j=>.inr ⟨id,o,a,g,j,rfl⟩) (fun _ _=>rfl) (m i d _ a (abO hi)) (e i _ v (abO hi) g)
 ·rintro x B ⟨v,c2,r,H2,s,rfl,rfl,t,u,w,y,z,A⟩;refine⟨v,c2,r,H2,s,rfl,rfl,t,q.trans u,fun i hi=> ?_,y,z,A⟩;rcases w i hi with h|h
  ·rcases h with⟨_,hi⟩|⟨a,g,j⟩
   ·exact .inl hi
   ·omega
  ·exact .inr h
open Classical in
noncomputable def without(F:Nat->Prop)(H:aA):aA:=fun j=>if F j then none else H j
theorem b9{F:Nat->Prop}{j:Nat}(h: ¬F j):without F H j=H j:=by unfold without;rw[if_neg h]
theorem eV{F:Nat->Prop}:CvX F nx H (without F H):=fun j x a=>by
 by_cases h:F j;·unfold without at a;rw[if_pos h] at a;cases a
 ·rw[b9 h] at a;exact⟨h,x,a,.inl rfl⟩
theorem aJ.YQ{P:Program}{T:Nat}{e:Env}{Q:AQ}{zs:List AC}(h: ∀G,G=H->aJ P T zs e G nx Q):aJ P T zs e H nx Q:=h H rfl
def Own{α:Type}(enc:α->List D1)(n:Nat)(H:aA)(b cap:Nat)(l:List α):Prop:=∃m,H b=some ⟨n,m,l.map enc⟩/\l.length<=cap/\cap<=m
variable{n cap:Nat}
theorem Own.of{α:Type}{enc:α->List D1}{b:Nat}{l:List α}{H':aA}(h:Own enc n H b cap l)(he:H' b=H b):Own enc n H' b cap l:=by obtain⟨m,a,c⟩:=h;exact⟨m,he.trans a,c⟩
theorem Own.frz{α:Type}{enc:α->List D1}{b nh:Nat}{l:List α}{F:Nat->Prop}{σ:Nat->Nat}(h:Own enc n H b cap l)(he: ∀x,(enc x).length=n/\(enc x).all D1.eS=true)(a:F b):Cv1 H F σ nh (.isl (l.map enc)) (.osl n b 0 l.length cap):=by obtain⟨m,c,d,e⟩:=h;exact cP he c rfl d a
theorem um1{b k i:Nat}{A B:aA}(h:i≠b+k):dF b [k] A B i=B i:=by unfold dF;rw[if_neg (by simp;omega)]
theorem yt{b k:Nat}{A B:aA}:dF b [k] A B (b+k)=A (b+k):=by unfold dF;rw[if_pos (by simp)]
theorem mk1{b k i:Nat}{A:aA}(h:i≠b+k):msk b [k] A i=A i:=by unfold msk;rw[if_neg (by simp;omega)]
theorem ZF{F:Nat->Prop}{σ:Nat->Nat}{nh:Nat}{rows:List (List D1)}{id off len:Nat}{o:bM}(hi:su n rows)(hl:len=rows.length)(d:F id)(e:H id=some o)(f:o.n=n)(hlen:off+rows.length<=o.rows.length)(hr:(o.rows.drop off).take rows.length=rows)(hc:rows.length<=cap):Cv1 H F σ nh (.isl rows) (.osl n id off len cap):=by
 subst hl
 have g: ∀i:Nat,∀r',rows[i]?=some r'->o.rows[off+i]?=some r':=by
  intro i r' h;rw[<-hr,acM] at h;split at h;·rw[ab4] at h;exact h
  ·cases h
 refine .frz (.frz rows n id off cap o (fun i j=>((rows[i]?.getD [])[j]?).getD .dead) d e f hlen hc (fun i r' h=>(hi r' (abV h)).1) (fun i j r' c a b=>⟨r',g i r' a,by rw[a];simp[b]⟩) fun i j r' c a b=> ?_);rw[a];simp only[Option.getD_some,b];exact .same c ((hi r' (abV a)).2 c (abV b))
structure jG(X:Nat->Prop)(H:aA)(nx:Nat)(nm:Nat->Nat)(s:CSt)(cells:List D1):Prop where
 rep:BA H nm s cells
 names:Names X nx nm
 x: ∀id,X id->id<nx
variable{nm:Nat->Nat}{cells:List D1}
theorem jG.box{X:Nat->Prop}{H':aA}{nx' i0:Nat}(h:jG X H nx nm s cells)(f:nx<=i0)(hi:i0<nx')(c:H' i0=some ⟨5,1,[cells]⟩)(d: ∀id,id<nx->H' id=H id):Rep X H' nx' i0 nm s:=⟨⟨cells,c,h.rep.frame fun k a=>d _ (h.names.lt k a)⟩,h.names.mono (by omega),fun k a he=>by have:=h.names.lt k a;omega,⟨hi,fun e=>by have:=h.x _ e;omega⟩,fun id b=>by have:=h.x id b;omega⟩
theorem jG.frame{X:Nat->Prop}{H H':aA}{nx nx':Nat}{nm:Nat->Nat}{s:CSt}{cells:List D1}(h:jG X H nx nm s cells)(c:nx<=nx')(d: ∀id,id<nx->¬X id->H' id=H id):jG X H' nx' nm s cells:=⟨h.rep.frame fun k b=>d _ (h.names.lt k b) (h.names.av k b),h.names.mono c,fun id a=>by have:=h.x id a;omega⟩
theorem jG.Q6{X:Nat->Prop}{G:aA}(h:jG X H nx nm s cells)(hp:s.bC.length=3)(hs:s.bN.length=4)(a: ∀id,id<nx->G id=H id):CvD G (fun _=>True) id 0 (dA (bK s)) (dA cells):=iR (nM ((h.rep.frame fun k b=>a _ (h.names.lt k b)).OY (fun _ _=>trivial) hp hs))
theorem jG.len{X:Nat->Prop}(h:jG X H nx nm s cells):cells.length=5:=by obtain⟨⟨_,_,_,_,_,rfl,_⟩,_,_⟩:=h.rep;rfl
theorem jG.get{X:Nat->Prop}(h:jG X H nx nm s cells):
 ∃wc hc a vc d mp b l c,cells=[.osl 1 (nm 0) 0 s.words.length wc,.osl 1 (nm 1) 0 s.holds.length hc,.osl 4 (nm 2) 0 3 a,.osl 3 (nm 3) 0 4 vc,.osl 5 (nm 4) 0 s.told.length d]/\H (nm 2)=some ⟨4,mp,b⟩/\H (nm 3)=some ⟨3,l,c⟩/\
  lW H 1 (nm 0) 0 s.words.length wc (s.words.map aH)/\lW H 1 (nm 1) 0 s.holds.length hc (s.holds.map aH)/\lW H 5 (nm 4) 0 s.told.length d (s.told.map aT)/\3<=a/\4<=vc/\b.length=3/\c.length=4/\
  (∀k,k<3->∃e f g,b[k]?=some [cI (aL s k).next,.osl 1 (nm (5+k)) e (aL s k).queue.length f,.osl 3 (nm (8+k)) 0 (aL s k).out.length g,cI (aL s k).last]/\lW H 1 (nm (5+k)) e (aL s k).queue.length f ((aL s k).queue.map aH)/\lW H 3 (nm (8+k)) 0 (aL s k).out.length g ((aL s k).out.map eCJ))/\
  ∀k,k<4->∃i a do_ j,c[k]?=some [.osl 3 (nm (11+k)) i (aS s k).pipe.length a,.osl 5 (nm (15+k)) do_ (aS s k).done.length j,cI (aS s k).last]/\lW H 3 (nm (11+k)) i (aS s k).pipe.length a ((aS s k).pipe.map eCJ)/\lW H 5 (nm (15+k)) do_ (aS s k).done.length j ((aS s k).done.map aT):=by
 obtain⟨⟨wc,hc,a,vc,d,rfl,p,q,t,u,v⟩,⟨mp,b,w,x,y⟩,⟨l,c,z,A,B⟩⟩:=h.rep
 refine⟨wc,hc,a,vc,d,mp,b,l,c,rfl,w,z,p,q,t,u,v,x,A,fun k m=> ?_,fun k m=> ?_⟩
 ·obtain⟨r,n,⟨e,f,g,rfl,o⟩⟩:=y k m;exact⟨e,f,g,n,o⟩
 ·obtain⟨r,n,⟨i,a,do_,j,rfl,o⟩⟩:=B k m;exact⟨i,a,do_,j,n,o⟩
theorem Rep.aaT{X:Nat->Prop}{H':aA}{nx' i0:Nat}(h:Rep X H nx i0 nm s)(who st:Nat)(b:Nat->Nat)(s':CSt)(u:nx<=nx')(v:Names X nx' b)
 (g: ∀k,k<19->b k=nm k\/((k=4\/k=5+who\/k=8+who\/k=11+st\/k=15+st)/\nx<=b k))
 (e: ∀id,id<nx->id≠i0->(∀k,k<5\/k=5+who\/k=8+who\/k=11+st\/k=15+st->k<19->id≠nm k)->H' id=H id)
 (w: ∃wc hc p vc q,H' i0=some ⟨5,1,[F3 b s' wc hc p vc q]⟩/\lW H' 1 (b 0) 0 s'.words.length wc (s'.words.map aH)/\lW H' 1 (b 1) 0 s'.holds.length hc (s'.holds.map aH)/\lW H' 5 (b 4) 0 s'.told.length q (s'.told.map aT)/\3<=p/\4<=vc)
 (y: ∃m rows m0 c,H (nm 2)=some ⟨4,m0,c⟩/\H' (nm 2)=some ⟨4,m,rows⟩/\rows.length=3/\(∀k,k<3->k≠who->rows[k]?=c[k]?)/\(who<3->∃r,rows[who]?=some r/\yQ H' (b (5+who)) (b (8+who)) (aL s' who) r))
 (z: ∃m rows m0 c,H (nm 3)=some ⟨3,m0,c⟩/\H' (nm 3)=some ⟨3,m,rows⟩/\rows.length=4/\(∀k,k<4->k≠st->rows[k]?=c[k]?)/\(st<4->∃r,rows[st]?=some r/\IT H' (b (11+st)) (b (15+st)) (aS s' st) r))
 (hw:who<3\/who=14) (hs:st<4\/st=8) (hp: ∀k,k<3->k≠who->aL s' k=aL s k) (A: ∀k,k<4->k≠st->aS s' k=aS s k):Rep X H' nx' i0 b s'/\ ∀id,X id->H' id=H id:=by
 have l:=h.names.av
 have n:=h.i0
 have o:=h.names.lt
 refine⟨h.upd (who:=who) (st:=st) u v (fun k a=> ?_) (fun k a i B C D E=> ?_) (fun k E a i B C D=> ?_) w y z hw hs hp A,fun id d=>e id (h.x id d) (fun he=>n.2 (he▸d)) fun k _ g he=>l k g (he▸d)⟩
 ·rcases g k a with i|i;·rw[i];exact h.ne k a
  ·omega
 ·rcases g k a with t|t;·exact t
  ·omega
 ·refine e _ (o k a) (h.ne k a) fun j F f he=> ?_;have:=h.names.inj k j a f he;omega
theorem Dq{R:List (List D1)}(h:su n R):su n (R.drop 1):=fun r hr=>h r (ad0 hr)
theorem Oc{F:Nat->Prop}{a e:D}(h:CvD H F id nx e a): ∀(i:Nat) (b d:D),[e][i]?=some b->[a][i]?=some d->CvD H F id nx b d:=by
 intro i b d c f
 match i with
 |0=>simp at c f;subst c;subst f;exact h
 |i+1=>simp at c
theorem Zl{F:Nat->Prop}{a g b:D}(h:CvD H F id nx g a)(j:b.imm=true): ∀(i:Nat) (f d:D),[g,b][i]?=some f->[a,b][i]?=some d->CvD H F id nx f d:=by
 intro i f d c e
 match i with
 |0=>simp at c e;subst c;subst e;exact h
 |1=>simp at c e;subst c;subst e;exact aF j
 |i+2=>simp at c
theorem lW.cvD{F:Nat->Prop}{id0 off len:Nat}{R:List (List D1)}(h:lW H n id0 off len cap R)(hi:su n R)(a:F id0):CvD H F id nx (dS R) (.one (.c (.osl n id0 off len cap))):=.frz (h.frz hi a)
theorem lW.aaB{id0 off len:Nat}{R:List (List D1)}(h:lW H n id0 off len cap R)(c:0<len):lW H n id0 (off+1) (len-1) (cap-1) (R.drop 1):=by obtain⟨m,rows,a,b,d,e,f,g⟩:=h.ex;exact⟨m,rows,a,by rw[<-b,ac5],by omega,by rw[ab1];omega,by omega,by omega⟩
theorem Pq{l:List gD}{n:Int}(h:l.Pairwise fun a b=>a.n<b.n)(he: ∃j∈l,j.n=n):l.filter (fun j=>decide (¬j.n=n))=QX l n:=by
 induction l with
 |nil=>obtain⟨j,c,_⟩:=he;simp at c
 |cons x l o=>
  rw[acN] at h;by_cases d:x.n=n
  ·have i: ∀j∈l,decide (¬j.n=n)=true:=fun j c=>by have:=h.1 j c;exact decide_eq_true (by omega)
   rw[aeD,if_neg (by simpa using d),List.filter_eq_self.2 i];unfold QX HG;rw[show bP (isC n) (x::l)=0 by unfold bP;rw[List.findIdx?_cons,if_pos (show isC n x=true from decide_eq_true d)];rfl];rfl
  ·obtain⟨j,c,f⟩:=he;have g: ∃j∈l,j.n=n:=⟨j,by rcases abQ.1 c with rfl|p;exact absurd f d;exact p,f⟩
   have m:0<=bP (isC n) l:=cU.2 (by obtain⟨j,q,r⟩:=g;exact⟨j,q,decide_eq_true r⟩);rw[aeD,if_pos (by simpa using d),o h.2 g];unfold QX HG
   have e:bP (isC n) (x::l)=bP (isC n) l+1:=by
    unfold bP at m ⊢;rw[List.findIdx?_cons,if_neg (show ¬isC n x=true from fun h=>d (of_decide_eq_true h))]
    cases i:List.findIdx? (isC n) l with
    |none=>rw[i] at m;dsimp only at m;omega
    |some k=>rfl
   rw[e,show (bP (isC n) l+1).toNat=(bP (isC n) l).toNat+1 by omega];rfl
theorem Tf{H0:aA}{n' j:Nat}(h:j<nx):back (fun i=>nx+i) H0 n' H j=H j:=by
 rcases IU (fun i=>nx+i) H0 H n' j (fun a b _ _ h=>by omega) with⟨i,_,c,_⟩|⟨_,c⟩
 ·omega
 ·exact c
theorem Sg{H0:aA}{n' i:Nat}{o:bM}(h:i<n')(c:H0 i=some o):back (fun i=>nx+i) H0 n' H (nx+i)=some (o.rn fun i=>nx+i):=by
 rcases IU (fun i=>nx+i) H0 H n' (nx+i) (fun a b _ _ h=>by omega) with⟨d,_,g,e⟩|⟨f,_⟩
 ·have:d=i:=by omega
  subst this;rw[e,c];rfl
 ·exact absurd rfl (f i h)
end Go.AM
namespace Go.Proofs.YtlncecohbakleaaGreat
open Go Go.AM
attribute [local irreducible] aJ wv aC vd wvH
theorem IF:bR afA lA Tryz.f28 mG IS:=bR.mk Tryz.func28 (by kernel_rfl) VA
section
variable{H:aA}{nx:Nat}{K:afC}
end
theorem NV:bR afA iC Tryz.f27 pC M5:=bR.mk Tryz.func27 (by kernel_rfl) cz
section
variable{H:aA}{nx:Nat}{K:afC}
theorem kO{l:List Job}(hl:l.length<2^21)(w: ∀j∈l,j.rsp.data.length<2^21)
 (h: ∀H' nx' b cap,nx<=b->b<nx'->Own aT 5 H' b cap l->(∀id,id<nx->H' id=H id)->K (.one (.c (.osl 5 b 0 l.length cap))) H' nx'):afB gG [dS (l.map aT)] H nx K:=by
 refine bR.mk Tryz.func193 (by kernel_rfl) MF rfl fun Q x=> ?_
 unfold mN
 repeat' first|apply vI<;>(simp only[go_sem,nL])|fail
 refine aJ.cG (β:=Nat×Nat×Nat) (fun u=>en [(4,dI u.1),(3,.one (.c (.osl 5 u.2.1 0 u.1 u.2.2))),(0,dS (l.map aT))])
  (fun u H1 a=>u.1<=l.length/\(∃m,H1 u.2.1=some ⟨5,m,(l.take u.1).map aT⟩/\u.1<=u.2.2/\u.2.2<=m)/\(nx<=u.2.1/\u.2.1<a)/\ ∀id,id<nx->H1 id=H id)
  (fun u=>l.length-u.1) (0,nx+1,0) ⟨noF,_,by repeat' first|exact C1|refine xqI rfl rfl ?_| (with_reducible apply C2)| ((with_reducible apply C0);exact CC)| ((with_reducible apply D0);apply CJ)|fail,aE,by dsimp only;omega,⟨0,by simp only[aA.set,if_true];rfl,by dsimp only;omega,by dsimp only;omega⟩,by dsimp only;omega,fun id d=>by simp only[aA.set,show ¬id=nx+1 by omega,if_false]⟩ ?_
 rintro⟨k,b,cap⟩ H1 a y ⟨z,⟨m,i,r,s⟩,⟨e,n⟩,f⟩ C o
 dsimp only at z i r s e n
 have p:(l.take k).take k=l.take k:=abM (by simp;omega)
 have t:aO a [b]:=AM.apart (by simp) (by simp;omega)
 simp only[aO,bG] at t
 by_cases g:k<l.length
 ·have hm:=w _ (bT g);have A:b<a+(4+2):=by omega
  repeat' first| (first|apply vI|apply SN hm)<;>(simp only[go_sem,p,Pu,i,t,nL];try simp (disch:=omega) only[Iw])|apply vT (by omega)| (with_reducible first|refine fun(cap:Nat) (v:_<=cap)=> ?_|refine fun(B:_<=cap)=> ?_)|refine⟨by omega,?_⟩| (refine⟨by(rw[ab5];omega),?_⟩)|fail
  refine o _ _ _ (k+1,a+23,cap) noF _ (by omega) (by dsimp only;omega) (by dsimp only;repeat' first|exact C1|refine xqI rfl rfl ?_|refine xqO (by omega) rfl rfl (by rfl) ?_|fail) aE ⟨by dsimp only;omega,⟨cap,by rw[fC g];exact aA.aI,by dsimp only;omega,abG _⟩,by dsimp only;omega,fun id d=> ?_⟩;rw[aA.aB (by omega),aA.aB (by omega),aA.cC (by omega)];exact f id d
 ·repeat' first|apply vI<;>(simp only[go_sem])|apply vF (by omega)|fail
  have q:k=l.length:=by omega
  subst q;refine x _ _ _ _ _ (.inr rfl) rfl (h _ _ b cap e (by omega) ⟨m,?_,r,s⟩ f);rw[i,acI]
theorem YZ{w:List Int}(hl:w.length<2^21)(h: ∀H' nx' b cap,nx<=b->b<nx'->Own aH 1 H' b cap w->(∀id,id<nx->H' id=H id)->K (dA [.osl 1 b 0 w.length cap]) H' nx'):afB rR [dA [.isl (w.map aH)]] H nx K:=by
 refine bR.mk Tryz.func269 (by kernel_rfl) N3 rfl fun Q c=> ?_;unfold mF;repeat' first|apply vI<;>(simp only[go_sem,nL])| (with_reducible first|refine fun(cap:Nat) (a:_<=cap)=> ?_|refine fun(d:_<=cap)=> ?_)|refine⟨by omega,?_⟩|fail
 refine c _ _ _ _ _ (.inr rfl) (gP (m:=1) rfl (by simp only[aA.set,abJ,Nat.reduceEqDiff,if_false,if_true]) rfl) (h _ _ (nx+2+3) cap (by omega) (by omega) ⟨cap,by simp only[aA.set,abH,abJ,Nat.reduceEqDiff,Nat.reduceAdd,if_false,if_true],by assumption,abG _⟩ fun id e=> ?_);rw[aA.aB (by omega),aA.aB (by omega),aA.aB (by omega),aA.cC (by omega)]
theorem L3{w u:List Int}(hl:w.length<2^21)(hu:u.length<2^21)(h: ∀H' nx' b0 d c0 c1,nx<=d->d<b0->b0<nx'->Own aH 1 H' b0 c0 w->Own aH 1 H' d c1 u->(∀id,id<nx->H' id=H id)->K (dA [.osl 1 b0 0 w.length c0,.osl 1 d 0 u.length c1]) H' nx'):afB lX [dA [.isl (w.map aH),.isl (u.map aH)]] H nx K:=by
 refine bR.mk Tryz.func192 (by kernel_rfl) LY rfl fun Q j=> ?_;unfold mL;repeat' first| (first|apply vI|refine YZ hl (fun H1 k b0 c0 l n o a=> ?_))<;>(simp only[go_sem,nL])|fail
 obtain⟨G,b⟩: ∃G,G=dF (nx+2) [3] (((H.set nx ⟨2,1,[[.isl (w.map aH),.isl (u.map aH)]]⟩).set (nx+1) ⟨2,1,[[.osl 0 0 0 0 0,.osl 0 0 0 0 0]]⟩).set (nx+5) ⟨1,0,[]⟩) H1:=⟨_,rfl⟩
 rw[<-b];have e:G nx=some ⟨2,1,[[.isl (w.map aH),.isl (u.map aH)]]⟩:=by rw[b,um1 (by omega),a _ (by omega),aA.aB (by omega)];exact aA.aI
 have f:G (nx+1)=some ⟨2,1,[[.osl 0 0 0 0 0,.osl 0 0 0 0 0]]⟩:=by rw[b,um1 (by omega),a _ (by omega)];exact aA.aI
 have g:G (nx+5)=some ⟨1,0,[]⟩:=by rw[b,yt];exact aA.aI
 have p:Own aH 1 G b0 c0 w:=o.of (by rw[b,um1 (by omega)]);have q: ∀id,id<nx->G id=H id:=fun id c=>by rw[b,um1 (by omega),a _ (by omega),aA.aB (by omega),aA.aB (by omega),mk1 (by omega)]
 clear b;have m0: ∀G:aA,msk (nx+2) [3] G nx=G nx:=fun G=>mk1 (by omega);refine⟨fun _=>by rw[m0,e];rfl,?_⟩;simp only[go_sem,e,f,g,m0,nL];repeat' first|apply vI<;>(simp only[go_sem,e,f,g,m0,nL])| (with_reducible first|refine fun(cap:Nat) (i:_<=cap)=> ?_|refine fun(r:_<=cap)=> ?_)|refine⟨by omega,?_⟩|fail
 exact j _ _ _ _ _ (.inr rfl) (gP (m:=1) rfl aA.aI rfl) (h _ _ b0 (nx+8) c0 cap (by omega) (by omega) (by omega) (p.of (by rw[aA.aB (by omega),aA.aB (by omega),aA.cC (by omega)])) ⟨cap,by rw[aA.aB (by omega)];exact aA.aI,by assumption,abG _⟩ fun id c=>by rw[aA.aB (by omega),aA.aB (by omega),aA.cC (by omega)];exact q id c)
theorem ZY{s:TSt}(c:Ih s)(h: ∀H' nx' b0 f u k l n c0 c1 c2 v w x,nx<=u->u<f->f<b0->b0<k->k<l->l<n->n<nx'->Own aH 1 H' b0 c0 s.words->Own aH 1 H' f c1 s.holds->Own aH 1 H' u c2 s.asked->Own aT 5 H' k v s.wait->Own aT 5 H' l w s.done->Own aT 5 H' n x s.told->(∀id,id<nx->H' id=H id)->
 K (dA [.osl 1 b0 0 s.words.length c0,.osl 1 f 0 s.holds.length c1,.osl 1 u 0 s.asked.length c2,.osl 5 k 0 s.wait.length v,.osl 5 l 0 s.done.length w,.osl 5 n 0 s.told.length x]) H' nx'):afB G8 [dA (eSt s)] H nx K:=by
 have z: ∀j∈s.wait,j.rsp.data.length<2^21:=fun j o=>c.data j (by simp[o])
 have A: ∀j∈s.done,j.rsp.data.length<2^21:=fun j o=>c.data j (by simp[o])
 have B: ∀j∈s.told,j.rsp.data.length<2^21:=fun j o=>c.data j (by simp[o])
 have S:=c.asked
 refine bR.mk Tryz.func218 (by kernel_rfl) cg rfl fun Q T=> ?_
 unfold vY
 repeat' first| (first|apply vI|refine L3 c.words c.holds (fun H1 U b0 f c0 c1 V W X p q d=> ?_))<;>(simp only[go_sem,nL])|fail
 obtain⟨G,g⟩: ∃G,G=dF (nx+2) [3] (((H.set nx ⟨6,1,[eSt s]⟩).set (nx+1) ⟨6,1,[[.osl 0 0 0 0 0,.osl 0 0 0 0 0,.osl 0 0 0 0 0,.osl 0 0 0 0 0,.osl 0 0 0 0 0,.osl 0 0 0 0 0]]⟩).set (nx+5) ⟨1,0,[]⟩) H1:=⟨_,rfl⟩
 rw[<-g]
 have y:G nx=some ⟨6,1,[eSt s]⟩:=by rw[g,um1 (by omega),d _ (by omega),aA.aB (by omega)];exact aA.aI
 have C:G (nx+1)=some ⟨6,1,[[.osl 0 0 0 0 0,.osl 0 0 0 0 0,.osl 0 0 0 0 0,.osl 0 0 0 0 0,.osl 0 0 0 0 0,.osl 0 0 0 0 0]]⟩:=by rw[g,um1 (by omega),d _ (by omega)];exact aA.aI
 have M:G (nx+5)=some ⟨1,0,[]⟩:=by rw[g,yt];exact aA.aI
 have r:Own aH 1 G b0 c0 s.words:=p.of (by rw[g,um1 (by omega)])
 have t:Own aH 1 G f c1 s.holds:=q.of (by rw[g,um1 (by omega)])
 have N: ∀id,id<nx->G id=H id:=fun id b=>by rw[g,um1 (by omega),d _ (by omega),aA.aB (by omega),aA.aB (by omega),mk1 (by omega)]
 clear g p q d
 have m0: ∀G:aA,msk (nx+2) [3] G nx=G nx:=fun G=>mk1 (by omega)
 simp only[m0,y]
 refine⟨⟨fun _=>rfl,fun _=>rfl,fun _=>rfl,fun _=>rfl⟩,?_⟩
 simp only[go_sem,y,C,M,nL]
 refine⟨by omega,fun c2 D _=> ?_⟩
 refine kO c.wait z fun H2 E k v p1 p2 Y a=> ?_
 have O:H2 nx=some ⟨6,1,[eSt s]⟩:=by rw[a _ (by omega),aA.aB (by omega),aA.cC (by omega)];exact y
 have Z:H2 (nx+1)=some ⟨6,1,[[.osl 0 0 0 0 0,.osl 0 0 0 0 0,.osl 0 0 0 0 0,.osl 0 0 0 0 0,.osl 0 0 0 0 0,.osl 0 0 0 0 0]]⟩:=by rw[a _ (by omega),aA.aB (by omega),aA.cC (by omega)];exact C
 have F:Own aH 1 H2 b0 c0 s.words:=r.of (by rw[a _ (by omega),aA.aB (by omega),aA.cC (by omega)])
 have I:Own aH 1 H2 f c1 s.holds:=t.of (by rw[a _ (by omega),aA.aB (by omega),aA.cC (by omega)])
 have J:Own aH 1 H2 (nx+8) c2 s.asked:=⟨c2,by rw[a _ (by omega)];exact aA.aI,D,abG _⟩
 have kf: ∀id,id<nx->H2 id=H id:=fun id b=>by rw[a _ (by omega),aA.aB (by omega),aA.cC (by omega)];exact N id b
 clear y C M r t N a
 simp only[go_sem,O]
 refine kO c.done A fun H3 aa l w p3 p4 o4 i=> ?_
 have l0:H3 nx=some ⟨6,1,[eSt s]⟩:=by rw[i _ (by omega)];exact O
 simp only[go_sem,l0]
 refine kO c.told B fun L ab n x p5 p6 o5 e=> ?_
 have P:L nx=some ⟨6,1,[eSt s]⟩:=by rw[e _ (by omega)];exact l0
 have R:L (nx+1)=some ⟨6,1,[[.osl 0 0 0 0 0,.osl 0 0 0 0 0,.osl 0 0 0 0 0,.osl 0 0 0 0 0,.osl 0 0 0 0 0,.osl 0 0 0 0 0]]⟩:=by rw[e _ (by omega),i _ (by omega)];exact Z
 have fr: ∀id,id<E->L id=H2 id:=fun id b=>by rw[e _ (by omega),i _ (by omega)]
 simp only[go_sem,P,R]
 repeat' first|apply vI<;>(simp only[go_sem,P,R])|fail
 exact T _ _ _ _ _ (.inr rfl) (gP (m:=1) rfl aA.aI rfl) (h _ _ b0 f (nx+8) k l n c0 c1 c2 v w x (by omega) (by omega) (by omega) (by omega) (by omega) (by omega) (by omega)
  (F.of (by rw[aA.aB (by omega),fr _ (by omega)])) (I.of (by rw[aA.aB (by omega),fr _ (by omega)])) (J.of (by rw[aA.aB (by omega),fr _ (by omega)])) (Y.of (by rw[aA.aB (by omega),fr _ (by omega)])) (o4.of (by rw[aA.aB (by omega),e _ (by omega)])) (o5.of (by rw[aA.aB (by omega)])) fun id b=>by rw[aA.aB (by omega),fr _ (by omega)];exact kf id b)
def SD(n:Int)(l:List gD):List gD:=l.filter fun j=>decide (¬j.n=n)
theorem Ld{n:Int}{l:List gD}{k:Nat}(a:k<l.length):SD n (l.take (k+1))=if (l.getD k default).n=n then SD n (l.take k) else SD n (l.take k)++[l.getD k default]:=by
 unfold SD;rw[fC a,List.filter_append];by_cases h:(l.getD k default).n=n;·rw[if_pos h,aeD,if_neg (by simpa using h)];simp
 ·rw[if_neg h,aeD,if_pos (by simpa using h)];simp
theorem ir{l:List gD}{n:Int}(hl:l.length<2^21)
 (h: ∀H' nx' b cap,nx<=b->b<nx'->Own eCJ 3 H' b cap (SD n l)->(∀id,id<nx->H' id=H id)->K (.one (.c (.osl 3 b 0 (SD n l).length cap))) H' nx'):afB GX [dS (l.map eCJ),dI n] H nx K:=by
 refine bR.mk Tryz.func208 (by kernel_rfl) ZG rfl fun Q C=> ?_
 unfold wU
 repeat' first|apply vI<;>(simp only[go_sem,nL])|fail
 refine aJ.cG (β:=Nat×Nat×Nat) (fun u=>en [(6,dI u.1),(5,.one (.c (.osl 3 u.2.1 0 (SD n (l.take u.1)).length u.2.2))),(1,dI n),(0,dS (l.map eCJ))])
  (fun u H1 a=>u.1<=l.length/\Own eCJ 3 H1 u.2.1 u.2.2 (SD n (l.take u.1))/\(nx<=u.2.1/\u.2.1<a)/\ ∀id,id<nx->H1 id=H id)
  (fun u=>l.length-u.1) (0,nx+1,0) ⟨noF,_,by repeat' first|exact C1|refine xqI rfl rfl ?_| (with_reducible apply C2)| ((with_reducible apply C0);exact CC)| ((with_reducible apply D0);apply CJ)|fail,aE,by dsimp only;omega,⟨0,by simp only[aA.set,if_true];rfl,abG _,abG _⟩,by dsimp only;omega,fun id f=>by simp only[aA.set,show ¬id=nx+1 by omega,if_false]⟩ ?_
 rintro⟨k,b,z⟩ H1 a D ⟨E,⟨m,g,o,q⟩,⟨i,s⟩,d⟩ G j
 dsimp only at E g o q i s
 have A:aO a [b]:=AM.apart (by simp) (by simp;omega)
 simp only[aO,bG] at A
 by_cases t:k<l.length
 ·obtain⟨x,v⟩: ∃x,l.getD k default=x:=⟨_,rfl⟩
  have hs:=Ld (n:=n) t;rw[v] at hs;have w: ∀r:List gD,r.take r.length=r:=fun r=>acI;by_cases p:x.n=n
  ·rw[if_pos p] at hs;have e:(x.n=n)=True:=eq_true p;repeat' first|apply vI<;>(simp only[go_sem,v,e,nL];try simp (disch:=omega) only[Iw])|apply vT (by omega)|refine⟨by omega,?_⟩|fail
   exact j _ _ _ (k+1,b,z) noF _ (by omega) (by dsimp only;omega) (by dsimp only;rw[hs];repeat' first|exact C1|refine xqI rfl rfl ?_|refine xqO (by omega) rfl rfl (by rfl) ?_|fail) aE ⟨by dsimp only;omega,by dsimp only;rw[hs];exact⟨m,g,o,q⟩,by dsimp only;omega,d⟩
  ·rw[if_neg p] at hs;have e:(x.n=n)=False:=eq_false p;have hle:(SD n (l.take k)).length<=k:=acQ (List.length_filter_le _ _) (by rw[ab5];omega);repeat' first|apply vI<;>(simp only[go_sem,v,e,w,g,A,nL];try simp (disch:=omega) only[Iw])|apply vT (by omega)| (with_reducible first|refine fun(cap:Nat) (B:_<=cap)=> ?_|refine fun(F:_<=cap)=> ?_)|refine⟨by omega,?_⟩|fail
   refine j _ _ _ (k+1,a+17,cap) noF _ (by omega) (by dsimp only;omega) (by dsimp only;rw[hs,abL,List.length_singleton];repeat' first|exact C1|refine xqI rfl rfl ?_|refine xqO (by omega) rfl rfl (by rfl) ?_|fail) aE ⟨by dsimp only;omega,by dsimp only;rw[hs];exact⟨cap,aA.aI,by rw[abL,List.length_singleton];omega,abG _⟩,by dsimp only;omega,fun id f=> ?_⟩;rw[aA.aB (by omega),aA.aB (by omega),aA.cC (by omega)];exact d id f
 ·repeat' first|apply vI<;>(simp only[go_sem])|apply vF (by omega)|fail
  have y:k=l.length:=by omega
  subst y;rw[acI] at g o;rw[show (SD n (l.take l.length))=SD n l by rw[acI]];exact C _ _ _ _ _ (.inr rfl) rfl (h _ _ b z i (by omega) ⟨m,g,o,q⟩ d)
end
end Go.Proofs.YtlncecohbakleaaGreat
namespace Go.Proofs.YtlncecohbakleaaGreat.B7
open Go Go.AM Go.Proofs.YtlncecohbakleaaGreat
section
variable{H:aA}{nx:Nat}{K:afC}
theorem Jk{q:Req}(h:cR q):cR ⟨q.id,3,q.addr,1,false,[],[]⟩:=by obtain⟨b,d,⟨e,c,f⟩,g⟩:=h;refine⟨b,by dsimp only;omega,⟨by dsimp only;omega,c,.inr (by dsimp only;omega)⟩,by simp[nG],by simp[nG],fun x a=>by simp at a,fun x a=>by simp at a,.inr (.inr rfl)⟩
theorem Ht{q:Req}(h:cR q):q.data.length<2^40/\q.lanes.length<2^40:=by
 obtain⟨c,d,⟨e,f,g⟩,a,b,i⟩:=h;unfold nG at a b;constructor;·split at a<;>omega
 ·split at b<;>omega
theorem YE(l:List Int):afB wZ [dS (l.map eU8)] (hp []) 0 fun r H' n'=>n'=1/\H'=hp [(0,rdO (l.take 2000) 0)]/\r=dP 2 0:=by
 refine aR.mk Tryz.func91 (by kernel_rfl) XC rfl fun Q a=> ?_;unfold sO;repeat' first|apply vI<;>(simp only[go_sem])|refine iE (fun h=> ?_) fun h=> ?_|refine⟨by omega,?_⟩|fail
 ·have e:l.take 2000=(l.take 2000).take 2000:=by rw[List.take_take];simp
  (refine a _ _ _ _ _ 1 (dP 2 0) (hp [(0,rdO (l.take 2000) 0)]) _ _ (.inr rfl) rfl (jT [9] (by omega) (by repeat' first| ((with_reducible apply C0);exact CE (by omega) rfl)| ((with_reducible apply D0);apply CJ)|fail) ⟨⟨by simp,by simp[sgL],_,rfl,eD (bU _ _)⟩,trivial⟩ (by simp[sgL])) ?_);exact⟨rfl,rfl,rfl⟩
 · (refine a _ _ _ _ _ 1 (dP 2 0) (hp [(0,rdO l 0)]) _ _ (.inr rfl) rfl (jT [6] (by omega) (by repeat' first| ((with_reducible apply C0);exact CE (by omega) rfl)| ((with_reducible apply D0);apply CJ)|fail) ⟨⟨by simp,by simp[sgL],_,rfl,eD (bU _ _)⟩,trivial⟩ (by simp[sgL])) ?_)
   exact⟨rfl,by rw[abM (by omega)],rfl⟩
theorem ZV{l:List Int}(h:K (dP 2 nx) (H.set nx (rdO (l.take 2000) 0)) (nx+1)):afB wZ [dS (l.map eU8)] H nx K:=by
 refine(YE l).JG (l0:=[]) [] rfl ⟨aF rfl,trivial⟩ trivial (by simp) (by simp) (by simp) fun r H' n' _ ⟨a,b,c⟩=> ?_;subst a;subst b;subst c;have d:back (tau 0 nx (nth [])) (hp [(0,rdO (l.take 2000) 0)]) 1 H=H.set nx (rdO (l.take 2000) 0):=by simp only[back,hp,aA.set,tau,acC,if_true,if_false,Nat.sub_zero,Nat.add_zero,Option.map_some,sZ (bU _ _),aA.iS]
 rw[<-d] at h;exact h
end
end Go.Proofs.YtlncecohbakleaaGreat.B7
namespace Go.Proofs.YtlncecohbakleaaGreat
open Go Go.AM
attribute [local irreducible] aJ wv aC vd wvH
section
variable{H:aA}{nx:Nat}{K:afC}
theorem TR(h: ∀H' nx',nx+4<=nx'->H' (nx+1)=some ⟨1,3,[true,true,true].map fE⟩->H' (nx+2)=some ⟨1,4,[false,false,false,false].map fE⟩->H' (nx+3)=some ⟨1,3,[true,true,true].map fE⟩->(∀id,id<nx->H' id=H id)->K (dA [.osl 1 (nx+1) 0 3 3,.osl 1 (nx+2) 0 4 4,.osl 1 (nx+3) 0 3 3]) H' nx'):afB wM [] H nx K:=by
 refine bR.mk Tryz.func95 (by kernel_rfl) mg rfl fun Q a=> ?_;unfold zS;repeat' first|apply vI<;>(simp only[go_sem,nL])|fail
 refine a _ _ _ _ _ (.inr rfl) (gP (m:=1) rfl (by simp only[aA.set,abI,Nat.reduceEqDiff,if_false,if_true,adK,reduceIte]) rfl) (h _ _ (by omega) ?_ ?_ ?_ fun id b=> ?_);·simp only[aA.set,abJ,Nat.reduceEqDiff,if_false,if_true];rfl
 ·simp only[aA.set,abJ,Nat.reduceEqDiff,if_false,if_true];rfl
 ·simp only[aA.set,abJ,Nat.reduceEqDiff,if_false,if_true];rfl
 ·simp only[aA.set,show ¬id=nx by omega,show ¬id=nx+1 by omega,show ¬id=nx+2 by omega,show ¬id=nx+3 by omega,if_false]
theorem ud{l:List Int}{p i:Nat}{b:Int}(hl:fW l)(S:p+20<2^50)(aa:0<b/\b<1000)(hi:i<nx)(ho:H i=some (rdO l p))
 (h: ∀H' nx' T x,nx<=nx'->T<=p+10->tR x->H' i=some (rdO l T)->(∀id,id<nx->id≠i->H' id=H id)->K (dA (eIn x)) H' nx'):afB JZ [dP 2 i,dI b] H nx K:=by
 apply aC.kH
 refine bR.mk Tryz.func109 (by kernel_rfl) gv rfl fun Q hQ=> ?_
 unfold AL
 repeat' first| (first|apply vI|refine TR (fun H' nx' hx U V W f=> ?_))<;>(simp only[go_sem,nL])|fail
 refine aJ.KT fun s d=> ?_
 have c0:s nx=some ⟨3,1,[[.osl 0 0 0 0 0,.osl 0 0 0 0 0,.osl 0 0 0 0 0]]⟩:=by rw[d,aA.aB (by omega),f _ (by omega)];exact aA.aI
 have c2:s (nx+2)=some ⟨3,1,[[.osl 1 (nx+5) 0 3 3,.osl 1 (nx+6) 0 4 4,.osl 1 (nx+7) 0 3 3]]⟩:=by rw[d];exact aA.aI
 have c5:s (nx+5)=some ⟨1,3,[true,true,true].map fE⟩:=by rw[d,aA.aB (by omega)];exact U
 have c6:s (nx+6)=some ⟨1,4,[false,false,false,false].map fE⟩:=by rw[d,aA.aB (by omega)];exact V
 have c7:s (nx+7)=some ⟨1,3,[true,true,true].map fE⟩:=by rw[d,aA.aB (by omega)];exact W
 have ci:s i=some (rdO l p):=by rw[d,aA.aB (by omega),f _ (by omega),aA.aB (by omega)];exact ho
 have A: ∀id,id<nx->s id=H id:=fun id ab=>by rw[d,aA.aB (by omega),f _ (by omega),aA.aB (by omega)]
 clear d U V W f
 refine aJ.cG (β:=Nat×Nat×List Bool×List Bool) (fun u=>en [(6,dI u.1),(5,.one (.c (.ptr 3 (nx+2) 0 0))),(4,.one (.c (.ptr 3 nx 0 0))),(1,dI b),(0,dP 2 i)])
  (fun u H1 _=>u.1<=3/\u.2.1<=p+2*u.1/\u.2.2.1.length=3/\u.2.2.2.length=3/\H1 i=some (rdO l u.2.1)/\H1 (nx+5)=some ⟨1,3,u.2.2.1.map fE⟩/\H1 (nx+7)=some ⟨1,3,u.2.2.2.map fE⟩/\ ∀id,id<nx+8->id≠i->id≠nx+5->id≠nx+7->H1 id=s id)
  (fun u=>3-u.1) (0,p,[true,true,true],[true,true,true]) ⟨noF,_,by repeat' first|exact C1|refine xqI rfl rfl ?_|refine xqP (by omega) rfl rfl ?_|fail,aE,by dsimp only;omega,by dsimp only;omega,rfl,rfl,ci,c5,c7,fun _ _ _ _ _=>rfl⟩ ?_
 rintro⟨k,q,B,rc⟩ H1 w ad ⟨C,hq,g,m,z,D,E,e⟩ KL F
 dsimp only at C hq g m z D E
 have X:=(e (nx+2) (by omega) (by omega) (by omega) (by omega)).trans c2
 have G:aO w [i,nx,nx+2,nx+5,nx+6,nx+7]:=AM.apart (by simp;omega) (by simp;omega)
 simp only[aO,bG] at G
 by_cases I:k<3
 ·repeat' first| (first|apply vI|refine aM (p:=q) hl (by omega) (by omega) (by omega) z (fun y ah ao=> ?_)|refine aM (p:=q+1) hl (by omega) (by omega) (by omega) (by simp only[aA.set,G,if_false,if_true,z]) (fun x h1 h2=> ?_))<;>(simp only[go_sem,nL,X,D,E,z,G];try simp (disch:=omega) only[Iw])|apply vT (by omega)|refine⟨by omega,?_⟩|fail
  have er: ∀(r:List Bool) (y:Int),(r.map fE).set k [D1.v (.bool (decide (0<y)))]=(r.set k (decide (0<y))).map fE:=fun r y=>by rw[acY];rfl
  rw[er,er];refine F _ _ _ (k+1,q+1+1,B.set k (decide (0<y)),rc.set k (decide (0<x))) noF _ (by omega) (by dsimp only;omega) (by repeat' first|exact C1|refine xqI rfl rfl ?_|refine xqP (by omega) rfl rfl ?_|fail) aE ⟨by dsimp only;omega,by dsimp only;omega,by simpa using g,by simpa using m,?_,?_,?_,fun id d1 d2 d3 Y=> ?_⟩;·dsimp only;rw[aA.aB (by omega),aA.aB (by omega)];exact aA.aI
  ·dsimp only;rw[aA.aB (by omega)];exact aA.aI
  ·exact aA.aI
  ·rw[aA.aB Y,aA.aB d3,aA.aB d2];exact e id d1 d2 d3 Y
 ·repeat' first|apply vI<;>(simp only[go_sem])|apply vF (by omega)|fail
  have J:k=3:=by omega
  subst J;have g6:=(e (nx+6) (by omega) (by omega) (by omega) (by omega)).trans c6
  refine aJ.cG (β:=Nat×Nat×List Bool) (fun u=>en [(7,dI u.1),(5,.one (.c (.ptr 3 (nx+2) 0 0))),(4,.one (.c (.ptr 3 nx 0 0))),(1,dI b),(0,dP 2 i)])
   (fun u H2 _=>u.1<=4/\u.2.1<=p+6+u.1/\u.2.2.length=4/\H2 i=some (rdO l u.2.1)/\H2 (nx+6)=some ⟨1,4,u.2.2.map fE⟩/\ ∀id,id<w->id≠i->id≠nx+6->H2 id=H1 id)
   (fun u=>4-u.1) (0,q,[false,false,false,false]) ⟨noF,_,by repeat' first|exact C1|refine xqI rfl rfl ?_|refine xqP (by omega) rfl rfl ?_|fail,aE,by dsimp only;omega,by dsimp only;omega,rfl,z,g6,fun _ _ _ _=>rfl⟩ ?_
  rintro⟨k,L,M⟩ H2 N Z ⟨C,O,n,o,P,a⟩ KM R;dsimp only at C O n o P;have b2:=(a (nx+2) (by omega) (by omega) (by omega)).trans X;have b0:=(a nx (by omega) (by omega) (by omega)).trans ((e nx (by omega) (by omega) (by omega) (by omega)).trans c0);have t:aO N [i,nx,nx+2,nx+5,nx+6,nx+7]:=AM.apart (by simp;omega) (by simp;omega);simp only[aO,bG] at t;by_cases I:k<4
  ·repeat' first| (first|apply vI|refine aM (p:=L) hl (by omega) (by omega) (by omega) o (fun x h1 h2=> ?_))<;>(simp only[go_sem,nL,b2,P,o,t];try simp (disch:=omega) only[Iw])|apply vT (by omega)|refine⟨by omega,?_⟩|fail
   have er: ∀(r:List Bool) (y:Int),(r.map fE).set k [D1.v (.bool (decide (y=0)))]=(r.set k (decide (y=0))).map fE:=fun r y=>by rw[acY];rfl
   rw[er];refine R _ _ _ (k+1,L+1,M.set k (decide (x=0))) noF _ (by omega) (by dsimp only;omega) (by repeat' first|exact C1|refine xqI rfl rfl ?_|refine xqP (by omega) rfl rfl ?_|fail) aE ⟨by dsimp only;omega,by dsimp only;omega,by simpa using n,?_,?_,fun id d1 d2 d3=> ?_⟩;·dsimp only;rw[aA.aB (by omega)];exact aA.aI
   ·exact aA.aI
   ·rw[aA.aB d3,aA.aB d2];exact a id d1 d2 d3
  ·repeat' first|apply vI<;>(simp only[go_sem,nL,b2,b0,t])|apply vF (by omega)|fail
   have b5:=(a (nx+5) (by omega) (by omega) (by omega)).trans D;have b7:=(a (nx+7) (by omega) (by omega) (by omega)).trans E;refine hQ _ _ _ _ _ (.inr rfl) (gP rfl aA.aI rfl) ⟨dA (eIn ⟨B,M,rc⟩),_,fun j=>nx+5<=j/\j<nx+5+3,iR (aG (cP HJ ((aA.aB (by omega)).trans b5) g.symm (by dsimp only;omega) (by omega)) (aG (cP HJ ((aA.aB (by omega)).trans P) n.symm (by dsimp only;omega) (by omega)) (aG (cP HJ ((aA.aB (by omega)).trans b7) m.symm (by dsimp only;omega) (by omega)) cJ))),yq,h _ _ L ⟨B,M,rc⟩ (by omega) (by omega) ⟨g,n,m⟩ ?_ fun id d1 d2=> ?_⟩;·rw[En (by omega),aA.aB (by omega)];exact o
   ·rw[En (by omega),aA.aB (by omega),a id (by omega) d2 (by omega),e id (by omega) d2 (by omega) (by omega)];exact A id d1
end
theorem gS{H:aA}{e:Env}{t n id m:Nat}{cs:List D1}(he:e t= .one (.c (.ptr n id 0 0)))(a:H id=some ⟨n,m,[cs]⟩)(hl:cs.length=n):mT H e [.cell t n true]=some (dA cs):=by subst hl;simp[mT,VF,he,qB,a,mkV]
section
variable{H:aA}{nx:Nat}{K:afC}
variable{cells:List D1}
theorem PW{X:Nat->Prop}{c:Cfg}{i:CIn}{s:CSt}{k:Nat}{nm:Nat->Nat}(hb:bH c)(hs:COk c s)(hk:k<3)(hr:i.ready.getD k default=true)(B:jG X H nx nm s cells)
 (h: ∀H' nx' f t,nx<=nx'->jG X H' nx' f (SG c s (pJ i s k)) t->(∀id,X id->H' id=H id)->K (dA t) H' nx'):
 afB zN [dA cells,dI k] H nx K:=by
 refine bR.mk Tryz.func121 (by kernel_rfl) ai rfl fun Q hQ=> ?_
 unfold uS
 have hX:=B.x
 obtain⟨wc,hc,pc,vc,tc,mp,rp,mv,rv,M,g1,g2,g3,g4,g5,g6,g7,g8,g9,ga,gb⟩:=B.get
 subst M
 repeat' first| (first|apply vI|refine GZ hs hk hr (B.Q6 hs.pl hs.sl (fun id g=>by rw[aA.aB (by omega),aA.aB (by omega)])) (fun r cf=> ?_))<;>(simp only[go_sem,nL])|fail
 generalize hG:aA.set (aA.set H nx _) (nx+1) _=G
 have f0:G nx=some ⟨5,1,[[.osl 1 (nm 0) 0 s.words.length wc,.osl 1 (nm 1) 0 s.holds.length hc,.osl 4 (nm 2) 0 3 pc,.osl 3 (nm 3) 0 4 vc,.osl 5 (nm 4) 0 s.told.length tc]]⟩:=by rw[<-hG,aA.aB (by omega)];exact aA.aI
 have f1:G (nx+1)=some ⟨5,1,[[D1.osl 0 0 0 0 0,D1.osl 0 0 0 0 0,D1.osl 0 0 0 0 0,D1.osl 0 0 0 0 0,D1.osl 0 0 0 0 0]]⟩:=by rw[<-hG];exact aA.aI
 have C: ∀id,id<nx->G id=H id:=fun id g=>by rw[<-hG,aA.aB (by omega),aA.aB (by omega)]
 clear hG
 have ck:Rep X G (nx+1) nx nm s:=B.box (abG _) (by omega) f0 C
 rcases cf with⟨ho,rfl⟩|⟨st,m,ho,rfl⟩
 · (try simp only[go_sem,nL,f0,f1,nL]);repeat' first|apply vI<;>(simp only[go_sem,nL,f0,f1,nL])|fail
   rw[ho] at h
   refine hQ _ _ _ _ _ (.inr rfl) (gS rfl aA.aI rfl) (h _ _ nm _ (by omega) (B.frame (by omega) fun id g _=>by rw[aA.aB (by omega)];exact C id g) fun id g=> ?_)
   have:=hX id g
   rw[aA.aB (by omega)];exact C id this
 ·have aa:=HR hs hk ho;obtain⟨_,_,N,ab⟩:=aa;obtain⟨p,hp⟩: ∃p,aL s k=p:=⟨_,rfl⟩
  obtain⟨v,hv⟩: ∃v,aS s st=v:=⟨_,rfl⟩
  obtain⟨qo,qc,oc,O,gq,go⟩:=ga k hk;obtain⟨po,ad,do_,dc,gs,gp,gd⟩:=gb st m;rw[hp] at O gq go;rw[hv] at gs gp gd N ab;obtain⟨d,hd⟩: ∃d,v.done.getD 0 default=d:=⟨_,rfl⟩
  rw[hd] at ab;have lt:=B.names.lt;have n2:=lt 2 (by omega);have n3:=lt 3 (by omega);have n4:=lt 4 (by omega);have n8:=lt (8+k) (by omega);have ah:=lt (15+st) (by omega);have a:aO nx ([2,3,4,5+k,8+k,11+st,15+st].map nm):=AM.apart (B.names.list (by simp;omega) (by simp;omega)) (fun x hx=>by obtain⟨j,D,rfl⟩:=abP.1 hx;exact lt j (by simp at D;omega));simp only[aO,bG,List.map] at a;have P:G (nm 2)=some ⟨4,mp,rp⟩:=(C _ n2).trans g1;have R:G (nm 3)=some ⟨3,mv,rv⟩:=(C _ n3).trans g2;obtain⟨md,rd,d1,d2,d3,d4,d5,d6⟩:=gd.ex;have d7:rd[do_]?=some (aT d):=by have:(rd.drop do_)[0]?=some (aT d):=(by rw[d2,abW,<-hd];simp[List.getD,N]);rwa [ab4,Nat.add_zero] at this
  have ao:G (nm (15+st))=some ⟨5,md,rd⟩:=(C _ ah).trans d1;(try simp only[go_sem,nL,f0,f1,P,R,O,gs,ao,d7,a,nL]);repeat' first| (first|apply vI|refine aC.wj (args':=[dS ((v.done.drop 1).map aT)]) (without (fun j=>j=nm (15+st)) _) (fun j=>j=nm (15+st)) rfl (Oc ?_) eV (kO ?_ ?_ fun H2 aw J c5 e1 e2 e3 e4=> ?_))<;>(simp only[go_sem,nL,f0,f1,P,R,O,gs,ao,d7,a,nL])|apply vF (by omega)|refine⟨by omega,?_⟩|fail
  refine aC.wj (args':=[dS ((v.done.drop 1).map aT)]) (without (fun j=>j=nm (15+st)) _) (fun j=>j=nm (15+st)) rfl (Oc ?_) eV (kO ?_ ?_ fun H2 aw J c5 e1 e2 e3 e4=> ?_);·rw[acZ];exact((gd.frame (by rw[aA.aB (by omega)];exact C _ ah)).aaB N).cvD (Dq (aN dQ _)) rfl
  ·have:=(hs.slv st m).dl;rw[hv] at this;rw[ab1];omega
  ·intro j D;have:=(hs.slv st m).rsp j (by rw[hv];exact ad0 D);have:=this.1.2.2.1;omega
  have q0:H2 nx=some ⟨5,1,[[.osl 1 (nm 0) 0 s.words.length wc,.osl 1 (nm 1) 0 s.holds.length hc,.osl 4 (nm 2) 0 3 pc,.osl 3 (nm 3) 0 4 vc,.osl 5 (nm 4) 0 s.told.length tc]]⟩:=by rw[e4 _ (by omega),b9 (by omega),aA.aB (by omega)];exact f0
  have q1:H2 (nx+1)=some ⟨5,1,[[D1.osl 0 0 0 0 0,D1.osl 0 0 0 0 0,D1.osl 0 0 0 0 0,D1.osl 0 0 0 0 0,D1.osl 0 0 0 0 0]]⟩:=by rw[e4 _ (by omega),b9 (by omega),aA.aB (by omega)];exact f1
  have qj:H2 (nx+16)=some ⟨5,1,[aT d]⟩:=by rw[e4 _ (by omega),b9 (by omega)];exact aA.aI
  have qf: ∀id,id<nx->id≠nm (15+st)->H2 id=H id:=fun id E u=>by rw[e4 _ (by omega),b9 (F:=fun j=>j=nm (15+st)) u,aA.aB (by omega)];exact C _ E
  have S:H2 (nm 2)=some ⟨4,mp,rp⟩:=(qf _ n2 (by simp[a])).trans g1;have bb:H2 (nm 3)=some ⟨3,mv,rv⟩:=(qf _ n3 (by simp[a])).trans g2;(try simp only[go_sem,nL,q0,q1,qj,S,bb,O,gs,a,acE,nL]);repeat' first|apply vI<;>(simp only[go_sem,nL,q0,q1,qj,S,bb,O,gs,a,acE,nL])|refine⟨by omega,?_⟩|fail
  refine aC.wj (args':=[dS (p.out.map eCJ),dI d.n]) (without (fun j=>j=nm (8+k)) _) (fun j=>j=nm (8+k)) rfl (Zl ?_ rfl) eV (ir ?_ fun H3 o b6 c6 u1 u2 u3 u4=> ?_);·exact(go.frame (by rw[aA.aB (by simp[a]),qf _ n8 (by simp[a])])).cvD (aN B0 _) rfl
  ·have:=(hs.port k hk).ol;rw[hp] at this;omega
  have a3: ∀id,id<aw+15->id≠nm (8+k)->id≠nm 3->H3 id=H2 id:=fun id E u I=>by rw[u4 _ E,b9 (F:=fun j=>j=nm (8+k)) u,aA.aB I]
  have r0:=(a3 nx (by omega) (by omega) (by omega)).trans q0;have r1:=(a3 (nx+1) (by omega) (by omega) (by omega)).trans q1;have rj:=(a3 (nx+16) (by omega) (by omega) (by omega)).trans qj;have bh:H3 (nm 2)=some ⟨4,mp,rp⟩:=(a3 _ (by omega) (by simp[a]) (by simp[a])).trans S;have T:H3 (nm 3)=some ⟨3,mv,rv.set st [D1.osl 3 (nm (11+st)) po v.pipe.length ad,D1.osl 5 J 0 (List.drop 1 v.done).length c5,cI v.last]⟩:=by rw[u4 _ (by omega),b9 (F:=fun j=>j=nm (8+k)) (by simp[a])];exact aA.aI
  have rf: ∀id,id<nx->id≠nm (15+st)->id≠nm (8+k)->id≠nm 3->H3 id=H id:=fun id E u I L=>(a3 id (by omega) I L).trans (qf id E u);obtain⟨mt,rt,t1,t2,t3,t4,t5,t6⟩:=g5.ex;rw[acK] at t2;subst t2;have bk:H3 (nm 4)=some ⟨5,mt,s.told.map aT⟩:=(rf _ n4 (by simp[a]) (by simp[a]) (by simp[a])).trans t1;have cr:s.told.length<=36:=by have:=hs.st.lens hb;simp only[dN] at this;omega
  have U: ∀r,(rp.set k r)[k]?=some r:=fun r=>by rw[acA (by omega)]
  have V:aO o ([2,3,4,5+k,8+k,11+st,15+st].map nm):=AM.apart (B.names.list (by simp;omega) (by simp;omega)) (fun x hx=>by obtain⟨j,D,rfl⟩:=abP.1 hx;have:=lt j (by simp at D;omega);omega);simp only[aO,bG,List.map] at V;have Y:aO o [nx,nx+1]:=AM.apart (by simp) (by simp;omega);simp only[aO,bG] at Y;(try simp only[go_sem,nL,r0,r1,rj,bh,T,bk,O,gs,U,Y,V,a,acE,nL]);repeat' first|apply vI<;>(simp only[go_sem,nL,r0,r1,rj,bh,T,bk,O,gs,U,Y,V,a,acE,nL])| (with_reducible first|refine fun(cap:Nat) (cl:_<=cap)=> ?_|refine fun(ct:_<=cap)=> ?_)|refine⟨by omega,?_⟩|fail
  refine hQ _ _ _ _ _ (.inr rfl) (gS rfl aA.aI rfl) ?_;generalize hW:aA.set _ (nx+1) _=W;have w0:W nx=some ⟨5,1,[[.osl 1 (nm 0) 0 s.words.length wc,.osl 1 (nm 1) 0 s.holds.length hc,.osl 4 (nm 2) 0 3 pc,.osl 3 (nm 3) 0 4 vc,.osl 5 (o+11) 0 (s.told.length+1) cap]]⟩:=by rw[<-hW,aA.aB (by omega)];exact aA.aI
  have w2:W (nm 2)=some ⟨4,mp,rp.set k [cI p.next,.osl 1 (nm (5+k)) qo p.queue.length qc,.osl 3 b6 0 (SD d.n p.out).length c6,cI st]⟩:=by rw[<-hW,aA.aB (by omega),aA.aB (by omega),aA.aB (by omega),aA.aB (by omega)];exact aA.aI
  have wo: ∀id,id<o->id≠nx->id≠nx+1->id≠nm 2->id≠nm 4->W id=H3 id:=fun id E u I L h5=>by rw[<-hW,aA.aB I,aA.aB u,aA.aB (by omega),aA.aB (by omega),aA.aB L,aA.cC h5]
  have w4:W (o+11)=some ⟨5,cap,(s.told++[d]).map aT⟩:=by rw[<-hW,aA.aB (by omega),aA.aB (by omega)];exact aA.aI
  clear hW;have n5:=lt (5+k) (by omega);have cp:=lt (11+st) (by omega);have n0:=lt 0 (by omega);have n1:=lt 1 (by omega);have wf: ∀id,id<nx->id≠nm 2->id≠nm 3->id≠nm 4->id≠nm (8+k)->id≠nm (15+st)->W id=H id:=fun id E u I L h5 h6=>(wo id (by omega) (by omega) (by omega) u L).trans (rf id E h6 h5 I);have w3:=(wo (nm 3) (by omega) (by omega) (by omega) (by simp[a]) (by simp[a])).trans T;have w5:Own aT 5 W J c5 (v.done.drop 1):=e3.of ((wo J (by omega) (by omega) (by omega) (by omega) (by omega)).trans (a3 J (by omega) (by omega) (by omega)));have w6:Own eCJ 3 W b6 c6 (SD d.n p.out):=u3.of (wo b6 (by omega) (by omega) (by omega) (by omega) (by omega));have inj:=B.names.inj;obtain⟨f,q⟩: ∃f,f=put (put (put nm (15+st) J) (8+k) b6) 4 (o+11):=⟨_,rfl⟩
  have w: ∀j,j≠4->j≠8+k->j≠15+st->f j=nm j:=fun j E u I=>by rw[q,bV E,bV u,bV I]
  have p4:f 4=o+11:=by rw[q,fL]
  have p8:f (8+k)=b6:=by rw[q,bV (by omega),fL]
  have bp:f (15+st)=J:=by rw[q,bV (by omega),bV (by omega),fL]
  obtain⟨s',l⟩: ∃s',s'=bS c s (.tell k st):=⟨_,rfl⟩
  have br:nC s st=d:=by rw[<-hd,<-hv];rfl
  have bw:=hs.port k hk;rw[hp] at bw;have hex: ∃j∈p.out,j.n=d.n:=by obtain⟨_,j,x1,x2,_⟩:=(hs.slv st m).out (key d) (by rw[hv];exact ZB (by rw[<-hd];exact bT (by omega)));have e:(key d).1.toNat=k:=(by show d.who.toNat=k;omega);rw[e,hp] at x1;exact⟨j,x1,x2⟩
  have ca:SD d.n p.out=QX p.out d.n:=Pq bw.zu hex;have y:aL s' k= {p with out:=QX p.out d.n,last:=st}:=by rw[l,cH rfl (by rw[hs.pl];omega),if_pos rfl,br,hp]
  have A:aS s' st= {v with done:=v.done.drop 1}:=by rw[l,cY rfl (by rw[hs.sl];omega),if_pos rfl,hv]
  have cc:s'.told=s.told++[d]:=by rw[l,<-br];rfl
  have Z: ∀z,nx<=z->¬X z:=fun z hz hn=>by have:=hX z hn;omega
  have key:=ck.aaT (H':=W) (nx':=o+16) k st f s' (by omega) ?_ ?_ ?_ ?_ ?_ ?_ (.inl hk) (.inl m) (fun j D b=>by rw[l,cH rfl (by rw[hs.pl];omega),if_neg b]) (fun j D b=>by rw[l,cY rfl (by rw[hs.sl];omega),if_neg b]);·obtain⟨⟨⟨cells,k1,k2⟩,k3,_,_,k4⟩,k5⟩:=key;rw[w0] at k1;have hc:=(bM.mk.inj (Option.some.inj k1)).2.2;have hc:_=cells:=(List.cons.inj hc).1;rw[<-hc] at k2;rw[ho] at h;refine h _ _ f _ (by omega) ⟨?_,k3,k4⟩ fun id g=>(k5 id g).trans (C id (hX id g));rw[show SG c s (some (.tell k st))=s' from l.symm];exact k2
  ·rw[q];exact((B.names.put (nx':=J+1) (by omega) (by omega) (Z _ (by omega))).put (nx':=b6+1) (by omega) (by omega) (Z _ (by omega))).put (by omega) (by omega) (Z _ (by omega))
  ·intro j D;by_cases L:j=4;·subst L;exact .inr ⟨.inl rfl,by omega⟩
   ·by_cases h8:j=8+k;·subst h8;exact .inr ⟨.inr (.inr (.inl rfl)),by omega⟩
    ·by_cases cd:j=15+st;·subst cd;exact .inr ⟨.inr (.inr (.inr (.inr rfl))),by omega⟩
     ·exact .inl (w j L h8 cd)
  ·intro id g h0 b;have g2:=b 2 (by omega) (by omega);have g3:=b 3 (by omega) (by omega);have g4:=b 4 (by omega) (by omega);have g8:=b (8+k) (by omega) (by omega);have cq:=b (15+st) (by omega) (by omega);rw[wf id (by omega) g2 g3 g4 g8 cq,C id (by omega)]
  ·refine⟨wc,hc,pc,vc,cap,?_,?_,?_,?_,g6,g7⟩;·rw[w0];simp only[F3,cc,w 0 (by omega) (by omega) (by omega),w 1 (by omega) (by omega) (by omega),w 2 (by omega) (by omega) (by omega),w 3 (by omega) (by omega) (by omega),p4,abL,List.length_singleton];rw[l];rfl
   ·rw[w 0 (by omega) (by omega) (by omega),l];exact g3.frame (wf _ n0 (fun he=>by have:=inj 0 2 (by omega) (by omega) he;omega) (fun he=>by have:=inj 0 3 (by omega) (by omega) he;omega) (fun he=>by have:=inj 0 4 (by omega) (by omega) he;omega) (fun he=>by have:=inj 0 (8+k) (by omega) (by omega) he;omega) (fun he=>by have:=inj 0 (15+st) (by omega) (by omega) he;omega))
   ·rw[w 1 (by omega) (by omega) (by omega),l];exact g4.frame (wf _ n1 (fun he=>by have:=inj 1 2 (by omega) (by omega) he;omega) (fun he=>by have:=inj 1 3 (by omega) (by omega) he;omega) (fun he=>by have:=inj 1 4 (by omega) (by omega) he;omega) (fun he=>by have:=inj 1 (8+k) (by omega) (by omega) he;omega) (fun he=>by have:=inj 1 (15+st) (by omega) (by omega) he;omega))
   ·rw[p4,cc];exact⟨cap,(s.told++[d]).map aT,w4,rfl,by simp,by simp,by rw[abL,List.length_singleton];omega,by simp⟩
  ·refine⟨mp,_,mp,rp,P,w2,by rw[ab0,g8],fun j D b=>by rw[acB (Ne.symm b)],fun _=>⟨_,U _,⟨qo,qc,c6,?_,?_,?_⟩⟩⟩;·rw[y,w (5+k) (by omega) (by omega) (by omega),p8,ca];rfl
   ·rw[y,w (5+k) (by omega) (by omega) (by omega)];exact gq.frame (wf _ n5 (by simp[a]) (by simp[a]) (by simp[a]) (by simp[a]) (by simp[a]))
   ·obtain⟨m6,y1,y2,y3⟩:=w6;rw[ca] at y1 y2;rw[y,p8];exact⟨m6,(QX p.out d.n).map eCJ,y1,rfl,by simp,by simp,y2,by omega⟩
  ·refine⟨mv,_,mv,rv,R,w3,by rw[ab0,g9],fun j D b=>by rw[acB (Ne.symm b)],fun _=>⟨_,acA (by omega),⟨po,ad,0,c5,?_,?_,?_⟩⟩⟩;·rw[A,w (11+st) (by omega) (by omega) (by omega),bp];rfl
   ·rw[A,w (11+st) (by omega) (by omega) (by omega)];exact gp.frame (wf _ cp (by simp[a]) (by simp[a]) (by simp[a]) (by simp[a]) (by simp[a]))
   ·obtain⟨m5,y1,y2,y3⟩:=w5;rw[A,bp];exact⟨m5,(v.done.drop 1).map aT,y1,rfl,by simp,by simp,y2,by omega⟩
theorem GV{X:Nat->Prop}{c:Cfg}{i:CIn}{s:CSt}{st:Nat}{nm:Nat->Nat}(hb:bH c)(hs:COk c s)(p:st<4)(hr:i.mW.getD st default=false)(F:jG X H nx nm s cells)
 (h: ∀H' nx' g B,nx<=nx'->jG X H' nx' g (SG c s (lZ i s st)) B->(∀id,X id->H' id=H id)->K (dA B) H' nx'):
 afB zP [dA (bI c),dA cells,dI st] H nx K:=by
 refine bR.mk Tryz.func123 (by kernel_rfl) de rfl fun Q hQ=> ?_
 unfold wR
 have hX:=F.x
 obtain⟨dx,fp⟩:=eW hb
 have dy: ∀{A:Prop},¬(i.mW.getD st default=true\/A)↔¬A:=fun {A}=>by rw[hr];simp
 obtain⟨wc,hc,pc,vc,tc,mp,rp,mv,rv,aa,g1,g2,g3,g4,g5,g6,g7,g8,g9,ga,gb⟩:=F.get
 obtain⟨v,C⟩: ∃v,aS s st=v:=⟨_,rfl⟩
 obtain⟨po,dz,do_,dc,gs,gp,gd⟩:=gb st p
 rw[C] at gs gp gd
 have aw:=F
 subst aa
 have lt:=F.names.lt
 have U:aO nx ([0,1,2,3,4,11+st,15+st].map nm):=AM.apart (F.names.list (by simp;omega) (by simp;omega)) (fun x hx=>by obtain⟨j,hj,rfl⟩:=abP.1 hx;exact lt j (by simp at hj;omega))
 simp only[aO,bG,List.map] at U
 by_cases ck:v.pipe.length=0
 ·have hlen:((v.pipe.length:Int)=0)=True:=eq_true (by omega);repeat' first|apply vI<;>(simp only[go_sem,nL,g2,gs,hlen,U])|refine⟨by omega,?_⟩|fail
  refine hQ _ _ _ _ _ (.inr rfl) (gS rfl (by rw[aA.aB (by omega)];exact aA.aI) rfl) ?_;rw[MV (.inr (by rw[C];exact ck))] at h;exact h _ _ nm _ (by omega) (F.frame (by omega) fun id b _=>by rw[aA.aB (by omega),aA.aB (by omega),aA.aB (by omega),aA.aB (by omega)]) fun id b=>by have:=hX id b;rw[aA.aB (by omega),aA.aB (by omega),aA.aB (by omega),aA.aB (by omega)]
 have bb: ¬(i.mW.getD st default=true\/(aS s st).pipe.length=0):=by rw[C];exact dy.2 ck
 have hlen:((v.pipe.length:Int)=0)=False:=eq_false (by omega)
 obtain⟨j,hj⟩: ∃j,v.pipe.getD 0 default=j:=⟨_,rfl⟩
 have t:eA s st=j:=by unfold eA;rw[C,hj]
 obtain⟨md,rd,d1,d2,d3,d4,d5,d6⟩:=gd.ex
 obtain⟨me,re,p1,p2,p3,p4,p5,p6⟩:=gp.ex
 rw[abT] at d4 p4
 have p7:re[po]?=some (eCJ j):=by
  have:(re.drop po)[0]?=some (eCJ j):=by rw[p2,abW,<-hj];simp[List.getD,show 0<v.pipe.length by omega]
  rwa [ab4,Nat.add_zero] at this
 have cl:=hs.slv st p
 have eb:=(cl.left 0 (by rw[C];omega)).1
 rw[C,hj] at eb
 have ed:=UO hb p
 have fs:=lt (11+st) (by omega)
 have fx:=lt (15+st) (by omega)
 by_cases bh:0<j.left
 ·have M:decide (0<(aS s st).pipe.length/\(eA s st).left=0/\(aS s st).done.length<2)=false:=decide_eq_false (by rw[t];omega);repeat' first| (first|apply vI|refine pG hs p (aw.Q6 hs.pl hs.sl (fun id b=>by rw[aA.aB (by omega),aA.aB (by omega),aA.aB (by omega),aA.aB (by omega)])) ?_)<;>(simp only[go_sem,nL,g2,gs,hlen,M,p1,p7,U];try simp (disch:=omega) only[Iw])|apply vT (by omega)|refine⟨by omega,?_⟩|fail
  refine hQ _ _ _ _ _ (.inr rfl) (gS rfl (by rw[aA.aB (by omega),aA.aB (by omega)];exact aA.aI) rfl) ?_;have hO:lZ i s st=some (.tick st):=ZA bb (by rw[t];exact bh);rw[hO] at h;obtain⟨s',d⟩: ∃s',s'=bS c s (.tick st):=⟨_,rfl⟩
  rw[show SG c s (some (.tick st))=s' from d.symm] at h;have f:aS s' st= {v with pipe:=v.pipe.set 0 {j with left:=j.left-1}}:=by rw[d,cY rfl (by rw[hs.sl];omega),if_pos rfl,t,C]
  generalize J:aA.set _ (nm (11+st)) _=W;have w0:W (nx+1)=some ⟨5,1,[[.osl 1 (nm 0) 0 s.words.length wc,.osl 1 (nm 1) 0 s.holds.length hc,.osl 4 (nm 2) 0 3 pc,.osl 3 (nm 3) 0 4 vc,.osl 5 (nm 4) 0 s.told.length tc]]⟩:=by rw[<-J,aA.aB (by omega),aA.aB (by omega),aA.aB (by omega)];exact aA.aI
  have ei:W (nm (11+st))=some ⟨3,me,re.set po [cI j.who,cI j.n,cI (j.left-1)]⟩:=by rw[<-J];exact aA.aI
  have wf: ∀id,id<nx->id≠nm (11+st)->W id=H id:=fun id L V=>by rw[<-J,aA.aB V,aA.aB (by omega),aA.aB (by omega),aA.aB (by omega),aA.aB (by omega)]
  clear J;have inj:=F.names.inj;have u: ∀a,a<19->a≠11+st->W (nm a)=H (nm a):=fun a L V=>wf _ (lt a L) fun he=>V (inj a (11+st) L (by omega) he);refine h W _ nm _ (by omega) ⟨⟨⟨wc,hc,pc,vc,tc,?_,?_,?_,?_,g6,g7⟩,⟨mp,rp,(u 2 (by omega) (by omega)).trans g1,g8,fun k hk=> ?_⟩,⟨mv,rv,(u 3 (by omega) (by omega)).trans g2,g9,fun k hk=> ?_⟩⟩,F.names.mono (by omega),fun id b=>by have:=hX id b;omega⟩ fun id b=>wf id (hX id b) fun he=>F.names.av (11+st) (by omega) (he▸b);·rw[d];rfl
  ·rw[d];exact g3.frame (u 0 (by omega) (by omega))
  ·rw[d];exact g4.frame (u 1 (by omega) (by omega))
  ·rw[d];exact g5.frame (u 4 (by omega) (by omega))
  ·obtain⟨qo,qc,oc,x1,x2,x3⟩:=ga k hk;have e:aL s' k=aL s k:=(by rw[d];rfl);exact⟨_,x1,⟨qo,qc,oc,by rw[e];rfl,by rw[e];exact x2.frame (u (5+k) (by omega) (by omega)),by rw[e];exact x3.frame (u (8+k) (by omega) (by omega))⟩⟩
  ·by_cases I:k=st
   ·subst I;refine⟨_,gs,⟨po,dz,do_,dc,?_,?_,?_⟩⟩;·rw[f];simp only[ja,ab0]
    ·rw[f];refine⟨me,_,ei,?_,by simpa using p3,by simp,by simpa using p5,p6⟩;rw[List.drop_set,if_neg (by omega),adE,p2,acY];rfl
    ·rw[f];exact gd.frame (u (15+k) (by omega) (by omega))
   ·obtain⟨bk,bp,br,bw,x1,x2,x3⟩:=gb k hk;have e:aS s' k=aS s k:=(by rw[d,cY rfl (by rw[hs.sl];omega),if_neg I]);exact⟨_,x1,⟨bk,bp,br,bw,by rw[e];rfl,by rw[e];exact x2.frame (u (11+k) (by omega) (by omega)),by rw[e];exact x3.frame (u (15+k) (by omega) (by omega))⟩⟩
 by_cases cp:v.done.length<2
 ·have M:decide (0<(aS s st).pipe.length/\(eA s st).left=0/\(aS s st).done.length<2)=true:=decide_eq_true (by rw[t,C];omega);have ej:j∈(aS s st).pipe:=by rw[C,<-hj];exact bT (by omega)
  obtain⟨cq,Y,ca⟩:=hs.vIn p (UU ej);dsimp only at cq Y ca;have Z:pA c j.who j.n:=by have:=(hs.port j.who.toNat (by omega)).asks (n:=j.n) (by omega) Y (by omega);rwa [show ((j.who.toNat:Nat):Int)=j.who by omega] at this
  have cr:=H7 hb Z;have gf:=hb.1.1;obtain⟨ct,cw,ab⟩:=Z;obtain⟨P,hP⟩: ∃P,c.cN.getD j.who.toNat default=P:=⟨_,rfl⟩
  rw[hP] at ab;obtain⟨q,hq⟩: ∃q,P.getD j.n.toNat default=q:=⟨_,rfl⟩
  have cx:bQ c j.who j.n=q:=by unfold bQ;rw[hP,hq]
  rw[cx] at cr;obtain⟨mw,gi,w1,w2,w3,w4,w5,w6⟩:=g3.ex;obtain⟨mh,gq,eo,cy,gr,ha,hd,hf⟩:=g4.ex;rw[acK] at w2 cy;subst w2;subst cy;have n0:=lt 0 (by omega);have n1:=lt 1 (by omega);have ep:=hs.atm;obtain⟨hg,R,hh,ho⟩:=hs.atm;have N:s.words.length=64:=by omega
  have O:s.holds.length=6:=by omega
  refine aJ.BM fun et=> ?_;have cc: ∀k l,msk (nx+k) l H=H:=fun k l=>zQ et (by omega);repeat' first| (first|apply vI|refine pG hs p (aw.Q6 hs.pl hs.sl (fun id b=>by rw[aA.aB (by omega),aA.aB (by omega),aA.aB (by omega),aA.aB (by omega)])) ?_)<;>(simp only[go_sem,nL,g2,gs,hlen,M,p1,p7,dx,hP,hq,cc,U])|refine⟨by omega,?_⟩|fail
  simp only[N,O];apply xt (m:=c.map) (w:=s.words) (hs:=s.holds) (wc:=wc) (hc:=hc) (i:=nm 0) (j:=nm 1) (wm:=mw) (hm:=mh) (by omega) ep (by omega) (by omega) cq cr (by omega) (by omega) (by simp[U]);·rw[aA.aB (by omega),aA.aB (by omega),aA.aB (by omega),aA.aB (by omega),aA.aB (by omega)];exact w1
  ·rw[aA.aB (by omega),aA.aB (by omega),aA.aB (by omega),aA.aB (by omega),aA.aB (by omega)];exact eo
  obtain⟨D,hD⟩: ∃D,doM c.map s.words s.holds j.who q=D:=⟨_,rfl⟩
  rw[hD];have da: ∀r,(rv.set st r)[st]?=some r:=fun r=>by rw[acA (by omega)]
  have cd:=cl.pl;rw[C] at cd;have ad:List.take v.done.length (List.drop do_ rd)=v.done.map aT:=by rw[d2,abM (by simp)]
  have ah:(po+(1+(v.pipe.length-1))<=re.length)=True:=eq_true (by omega);have ao:List.take (v.pipe.length-1) (List.drop (po+1) re)=(v.pipe.drop 1).map eCJ:=by rw[<-ac5,p2,<-acZ,abM (by simp)]
  (try simp only[go_sem,nL,g2,gs,da,ah,ao,ad,List.nil_append,abT,ab1,acE,p1,p7,d1,umS (G:=H),umD (G:=H),umB,cc,N,O,U,nL]);repeat' first|apply vI<;>(simp only[go_sem,nL,g2,gs,da,ah,ao,ad,List.nil_append,abT,ab1,acE,p1,p7,d1,umS (G:=H),umD (G:=H),umB,cc,N,O,U,nL])| (with_reducible first|refine fun(cap:Nat) (eu:_<=cap)=> ?_|refine fun(ht:_<=cap)=> ?_)|refine⟨by omega,?_⟩|fail
  rename_i y df ew;refine hQ _ _ _ _ _ (.inr rfl) (gS rfl aA.aI rfl) ?_;have hO:lZ i s st=some (.work st):=YL bb (by rw[t];exact bh) (by rw[C];exact cp);have R:KR c s st=D:=by unfold KR;rw[t,cx,hD]
  rw[hO] at h;obtain⟨s',d⟩: ∃s',s'=bS c s (.work st):=⟨_,rfl⟩
  rw[show SG c s (some (.work st))=s' from d.symm] at h;have f:aS s' st= {v with pipe:=v.pipe.drop 1,done:=v.done++[⟨j.who,j.n,D.2⟩]}:=by rw[d,cY rfl (by rw[hs.sl];omega),if_pos rfl,R,t,C]
  have S:s'.words=D.1.1:=by rw[d,<-R];rfl
  have T:s'.holds=D.1.2:=by rw[d,<-R];rfl
  have cf:COk c s':=by rw[d];exact BV hb hs (HS hs p hO)
  obtain⟨ff,_,fh,_⟩:=cf.atm;generalize J:aA.set _ (nx+2) _=W;have n3:=lt 3 (by omega);have inj:=F.names.inj;have hy:nm 0≠nm 3:=fun he=>by have:=inj 0 3 (by omega) (by omega) he;omega
  have ia:nm 0≠nm 1:=fun he=>by have:=inj 0 1 (by omega) (by omega) he;omega
  have ie:nm 1≠nm 3:=fun he=>by have:=inj 1 3 (by omega) (by omega) he;omega
  have fi:W (nx+58)=some ⟨3,y,(v.pipe.drop 1).map eCJ⟩:=by rw[<-J,aA.aB (by omega),aA.aB (by omega),aA.aB (by omega),aA.aB (by omega)];exact aA.aI
  have fl:W (nx+74)=some ⟨5,cap,v.done.map aT++[cI j.who::cI j.n::mS D.2]⟩:=by rw[<-J,aA.aB (by omega)];exact aA.aI
  have w3:W (nm 3)=some ⟨3,mv,rv.set st [.osl 3 (nx+58) 0 (v.pipe.length-1) y,.osl 5 (nx+74) 0 (v.done.length+1) cap,cI v.last]⟩:=by rw[<-J,aA.aB (by omega),aA.aB (by omega),aA.aB (by omega)];exact aA.aI
  have fm:W (nm 1)=some ⟨1,mh,D.1.2.map aH⟩:=by rw[<-J];simp (disch:=omega) only[aA.aB,aA.aI]
  have fo:W (nm 0)=some ⟨1,mw,D.1.1.map aH⟩:=by rw[<-J];simp (disch:=omega) only[aA.aB,aA.aI]
  have wf: ∀id,id<nx->id≠nm 0->id≠nm 1->id≠nm 3->id≠nm (15+st)->W id=H id:=fun id L V h3 h4 h5=>by rw[<-J];simp (disch:=omega) only[aA.aB,aA.cC]
  clear J;have u: ∀a,a<19->a≠0->a≠1->a≠3->a≠15+st->W (nm a)=H (nm a):=fun a L V h3 h4 h5=>wf _ (lt a L) (fun he=>V (inj a 0 L (by omega) he)) (fun he=>h3 (inj a 1 L (by omega) he)) (fun he=>h4 (inj a 3 L (by omega) he)) (fun he=>h5 (inj a (15+st) L (by omega) he));obtain⟨g,E⟩: ∃g,g=put (put nm (11+st) (nx+58)) (15+st) (nx+74):=⟨_,rfl⟩
  have o: ∀a,a≠11+st->a≠15+st->g a=nm a:=fun a L V=>by rw[E,bV V,bV L]
  have dh:g (11+st)=nx+58:=by rw[E,bV (by omega),fL]
  have ds:g (15+st)=nx+74:=by rw[E,fL]
  have dv: ∀z,nx<=z->¬X z:=fun z hz hn=>by have:=hX z hn;omega
  have hN:Names X (nx+80) g:=by rw[E];exact(F.names.put (nx':=nx+59) (by omega) (by omega) (dv _ (by omega))).put (by omega) (by omega) (dv _ (by omega))
  refine h W _ g _ (by omega) ⟨⟨⟨wc,hc,pc,vc,tc,?_,?_,?_,?_,g6,g7⟩,⟨mp,rp,?_,g8,fun k hk=> ?_⟩,⟨mv,rv.set st [.osl 3 (nx+58) 0 (v.pipe.length-1) y,.osl 5 (nx+74) 0 (v.done.length+1) cap,cI v.last],?_,by rw[ab0,g9],fun k hk=> ?_⟩⟩,hN,fun id b=>by have:=hX id b;omega⟩ fun id b=> ?_;·have e:s'.told=s.told:=(by rw[d];rfl);rw[F3,S,T,e,o 0 (by omega) (by omega),o 1 (by omega) (by omega),o 2 (by omega) (by omega),o 3 (by omega) (by omega),o 4 (by omega) (by omega),show D.1.1.length=64 by rw[<-S];omega,show D.1.2.length=6 by rw[<-T];omega]
  ·rw[o 0 (by omega) (by omega),S];exact⟨mw,_,fo,rfl,by simp,by simp,by rw[<-S];omega,by omega⟩
  ·rw[o 1 (by omega) (by omega),T];exact⟨mh,_,fm,rfl,by simp,by simp,by rw[<-T];omega,by omega⟩
  ·rw[o 4 (by omega) (by omega),d];exact g5.frame (u 4 (by omega) (by omega) (by omega) (by omega) (by omega))
  ·rw[o 2 (by omega) (by omega)];exact(u 2 (by omega) (by omega) (by omega) (by omega) (by omega)).trans g1
  ·obtain⟨qo,qc,oc,x1,x2,x3⟩:=ga k hk;have e:aL s' k=aL s k:=(by rw[d];rfl);exact⟨_,x1,⟨qo,qc,oc,by rw[e,o (5+k) (by omega) (by omega),o (8+k) (by omega) (by omega)];rfl,by rw[e,o (5+k) (by omega) (by omega)];exact x2.frame (u (5+k) (by omega) (by omega) (by omega) (by omega) (by omega)),by rw[e,o (8+k) (by omega) (by omega)];exact x3.frame (u (8+k) (by omega) (by omega) (by omega) (by omega) (by omega))⟩⟩
  ·rw[o 3 (by omega) (by omega)];exact w3
  ·by_cases I:k=st
   ·subst I;refine⟨_,acA (by omega),⟨0,y,0,cap,?_,?_,?_⟩⟩;·rw[f,dh,ds];simp only[ja,ab1,abL,List.length_singleton]
    ·rw[f,dh];exact⟨y,_,fi,rfl,by simp,by simp,by rw[ab1];omega,by omega⟩
    ·rw[f,ds];exact⟨cap,_,fl,by first| (rw[abU];done)| (rw[abU];rfl),by simp,by simp,by rw[abL,List.length_singleton];omega,by omega⟩
   ·obtain⟨bk,bp,br,bw,x1,x2,x3⟩:=gb k hk;have e:aS s' k=aS s k:=(by rw[d,cY rfl (by rw[hs.sl];omega),if_neg I]);exact⟨_,by rw[acB (Ne.symm I)];exact x1,⟨bk,bp,br,bw,by rw[e,o (11+k) (by omega) (by omega),o (15+k) (by omega) (by omega)];rfl,by rw[e,o (11+k) (by omega) (by omega)];exact x2.frame (u (11+k) (by omega) (by omega) (by omega) (by omega) (by omega)),by rw[e,o (15+k) (by omega) (by omega)];exact x3.frame (u (15+k) (by omega) (by omega) (by omega) (by omega) (by omega))⟩⟩
  ·have av:=F.names.av;exact wf id (hX id b) (fun he=>av 0 (by omega) (he▸b)) (fun he=>av 1 (by omega) (he▸b)) (fun he=>av 3 (by omega) (he▸b)) (fun he=>av (15+st) (by omega) (he▸b))
 ·have M:decide (0<(aS s st).pipe.length/\(eA s st).left=0/\(aS s st).done.length<2)=false:=decide_eq_false (by rw[C];omega);repeat' first| (first|apply vI|refine pG hs p (aw.Q6 hs.pl hs.sl (fun id b=>by rw[aA.aB (by omega),aA.aB (by omega),aA.aB (by omega),aA.aB (by omega)])) ?_)<;>(simp only[go_sem,nL,g2,gs,hlen,M,p1,p7,U])|apply vF (by omega)|refine⟨by omega,?_⟩|fail
  refine hQ _ _ _ _ _ (.inr rfl) (gS rfl (by rw[aA.aB (by omega)];exact aA.aI) rfl) ?_;rw[YV bb (by rw[t];exact bh) (by rw[C];exact cp)] at h;exact h _ _ nm _ (by omega) (F.frame (by omega) fun id b _=>by rw[aA.aB (by omega),aA.aB (by omega),aA.aB (by omega),aA.aB (by omega)]) fun id b=>by have:=hX id b;rw[aA.aB (by omega),aA.aB (by omega),aA.aB (by omega),aA.aB (by omega)]
def LI(c:Cfg)(s:CSt)(u:List Bool)(st:Nat):CSt×List Bool:=match QV c s u st with
 |none=>(s,u)
 |some who=>(bS c s (.adm who st),u.set who true)
theorem SJ{X:Nat->Prop}{c:Cfg}{s:CSt}{st g uc um:Nat}{u:List Bool}{nm:Nat->Nat}(hb:bH c)(hs:COk c s)(F:st<4)(jh:u.length=3)(m:jG X H nx nm s cells)(n:X g)(br:H g=some ⟨1,um,u.map fE⟩)(jo:3<=uc)
 (h: ∀H' nx' i C,nx<=nx'->jG X H' nx' i (LI c s u st).1 C->H' g=some ⟨1,um,(LI c s u st).2.map fE⟩->(∀id,X id->id≠g->H' id=H id)->K (dA C) H' nx'):
 afB DQ [dA (bI c),dA cells,dI st,.one (.c (.osl 1 g 0 3 uc))] H nx K:=by
 refine bR.mk Tryz.func124 (by kernel_rfl) og rfl fun Q hQ=> ?_
 unfold zY
 have hX:=m.x
 obtain⟨ju,ka⟩:=eW hb
 obtain⟨wc,hc,pc,vc,tc,mp,rp,mv,rv,aa,g1,g2,g3,g4,g5,g6,g7,g8,g9,ga,gb⟩:=m.get
 obtain⟨v,hv⟩: ∃v,aS s st=v:=⟨_,rfl⟩
 obtain⟨po,kc,do_,dc,gs,gp,gd⟩:=gb st F
 rw[hv] at gs gp gd
 have bw:=m
 subst aa
 have lt:=m.names.lt
 have hA:aO nx ([0,1,2,3,4,11+st,15+st].map nm):=AM.apart (m.names.list (by simp;omega) (by simp;omega)) (fun x hx=>by obtain⟨j,hj,rfl⟩:=abP.1 hx;exact lt j (by simp at hj;omega))
 simp only[aO,bG,List.map] at hA
 have dz:=(hs.slv st F).pl
 rw[hv] at dz
 by_cases kf:v.pipe.length=2
 ·have hlen:((v.pipe.length:Int)=2)=True:=eq_true (by omega);have hn:LI c s u st=(s,u):=by unfold LI;rw[zj (by rw[hv];omega)]
  rw[hn] at h;repeat' first|apply vI<;>(simp only[go_sem,nL,g2,gs,hlen,hA])|refine⟨by omega,?_⟩|fail
  refine hQ _ _ _ _ _ (.inr rfl) (gS rfl aA.aI rfl) ?_;have U:=hX g n;refine h _ _ nm _ (by omega) (m.frame (by omega) fun id f _=>by rw[aA.aB (by omega),aA.aB (by omega),aA.aB (by omega)]) (by rw[aA.aB (by omega),aA.aB (by omega),aA.aB (by omega)];exact br) fun id f _=> ?_;have:=hX id f;rw[aA.aB (by omega),aA.aB (by omega),aA.aB (by omega)]
 have hlen:((v.pipe.length:Int)=2)=False:=eq_false (by omega)
 repeat' first|apply vI<;>(simp only[go_sem,nL,g2,gs,hlen,hA])|refine⟨by omega,?_⟩|fail
 refine aJ.YQ fun G hG=> ?_
 have U:=hX g n
 have f0:G nx=some ⟨3,1,[bI c]⟩:=by rw[hG,aA.aB (by omega),aA.aB (by omega)];exact aA.aI
 have f1:G (nx+1)=some ⟨5,1,[[.osl 1 (nm 0) 0 s.words.length wc,.osl 1 (nm 1) 0 s.holds.length hc,.osl 4 (nm 2) 0 3 pc,.osl 3 (nm 3) 0 4 vc,.osl 5 (nm 4) 0 s.told.length tc]]⟩:=by rw[hG,aA.aB (by omega)];exact aA.aI
 have f2:G (nx+2)=some ⟨5,1,[[D1.osl 0 0 0 0 0,D1.osl 0 0 0 0 0,D1.osl 0 0 0 0 0,D1.osl 0 0 0 0 0,D1.osl 0 0 0 0 0]]⟩:=by rw[hG];exact aA.aI
 have I: ∀id,id<nx->G id=H id:=fun id f=>by rw[hG,aA.aB (by omega),aA.aB (by omega),aA.aB (by omega)]
 clear hG
 refine aJ.cG (β:=Nat) (fun j=>en [(9,dI j),(8,.one (.c (.ptr 5 (nx+2) 0 0))),(5,.one (.c (.ptr 5 (nx+1) 0 0))),(4,.one (.c (.ptr 3 nx 0 0))),(3,.one (.c (.osl 1 g 0 3 uc))),(2,dI st)])
  (fun j H1 _=>1<=j/\j<=4/\H1=G/\ ∀D,1<=D->D<j->MA c s u st (H9 s st D)=false) (fun j=>4-j) 1 ⟨noF,_,by repeat' first|exact C1|refine xqI rfl rfl ?_|refine xqP (by omega) rfl rfl ?_|refine xqO (by omega) rfl rfl (by rfl) ?_|fail,aE,by omega,by omega,rfl,fun D y h2=>by omega⟩ ?_
 rintro j H1 d eb ⟨ed,kt,ei,hinv⟩ KL ca
 subst ei
 have ad:H1 (nm 3)=some ⟨3,mv,rv⟩:=(I _ (lt 3 (by omega))).trans g2
 have P:H1 g=some ⟨1,um,u.map fE⟩:=(I _ U).trans br
 obtain⟨ej,eo⟩:=(hs.slv st F).last
 rw[hv] at ej eo
 have A:MA c s u st (H9 s st j)=false->∀D,1<=D->D<j+1->MA c s u st (H9 s st D)=false:=fun hf D y h2=>by
  by_cases ep:D<j;·exact hinv D y ep
  ·have:D=j:=(by omega);subst this;exact hf
 by_cases et:j<=3
 ·obtain⟨who,E⟩: ∃who,who=H9 s st j:=⟨_,rfl⟩
  have cc:who=((v.last+(j:Int))%3).toNat:=by rw[E,<-hv];rfl
  have R:who<3:=by omega
  have J:(v.last+(j:Int)).tmod 3=(who:Int):=by rw[ac0 (by omega)];omega
  rw[<-E] at A
  cases B:u.getD who default with
  |true=>
   have S:(u.map fE)[who]?=some (fE true):=(by rw[abW,abO (by omega),Option.map_some];rw[adI,abO (by omega),Option.getD_some] at B;rw[B]);repeat' first|apply vI<;>(simp only[go_sem,f0,f1,ad,P,gs,J,S,nL];try simp (disch:=omega) only[Iw])|apply vT (by omega)|refine⟨by omega,?_⟩|fail
   exact ca _ _ _ (j+1) noF _ (by omega) (by omega) (by repeat' first|exact C1|refine xqI rfl rfl ?_|refine xqP (by omega) rfl rfl ?_|refine xqO (by omega) rfl rfl (by rfl) ?_|fail) aE ⟨by omega,by omega,rfl,A (by unfold MA;rw[B];rfl)⟩
  |false=>
   have S:(u.map fE)[who]?=some (fE false):=(by rw[abW,abO (by omega),Option.map_some];rw[adI,abO (by omega),Option.getD_some] at B;rw[B]);by_cases L:NM c s who st
   ·have M:decide (NM c s who st)=true:=decide_eq_true L;have hB:aO d [g,nx,nx+1,nx+2]:=AM.apart (by simp;omega) (by simp;omega);simp only[aO,bG] at hB;obtain⟨qo,qc,oc,gr,gq,go⟩:=ga who R;obtain⟨p,hp⟩: ∃p,aL s who=p:=⟨_,rfl⟩
    rw[hp] at gr gq go;have n2:=lt 2 (by omega);have cd:(nm 2=g)=False:=eq_false fun he=>m.names.av 2 (by omega) (he▸n);obtain⟨m1,m2,_,_⟩:=id L;rw[hp] at m1 m2;have cf:=hs.port who R;rw[hp] at cf;have kx:=cf.ql;obtain⟨T,ck⟩: ∃T,p.queue.getD 0 default=T:=⟨_,rfl⟩
    obtain⟨mq,rq0,x1,x2,x3,x4,x5,x6⟩:=gq.ex;rw[abT] at x4;have x7:rq0[qo]?=some (aH T):=(by have:(rq0.drop qo)[0]?=some (aH T):=(by rw[x2,abW,<-ck];simp[List.getD,show 0<p.queue.length by omega]);rwa [ab4,Nat.add_zero] at this);have n5:=lt (5+who) (by omega);have eu:H1 (nm (5+who))=some ⟨1,mq,rq0⟩:=(I _ n5).trans x1;have ew:(nm (5+who)=g)=False:=eq_false fun he=>m.names.av (5+who) (by omega) (he▸n);have cl:aO d ([2,3,5+who,8+who,11+st].map nm):=AM.apart (m.names.list (by simp;omega) (by simp;omega)) (fun x hx=>by obtain⟨j,hj,rfl⟩:=abP.1 hx;have:=lt j (by simp at hj;omega);omega);simp only[aO,bG,List.map] at cl;have fh:H1 (nm 2)=some ⟨4,mp,rp⟩:=(I _ n2).trans g1;have n3:=lt 3 (by omega);have n8:=lt (8+who) (by omega);have fi:=lt (11+st) (by omega);have cp:(nm (8+who)=g)=False:=eq_false fun he=>m.names.av (8+who) (by omega) (he▸n);have cq:(nm (11+st)=g)=False:=eq_false fun he=>m.names.av (11+st) (by omega) (he▸n);have cr:(nm 3=g)=False:=eq_false fun he=>m.names.av 3 (by omega) (he▸n);have k0: ∀(G:aA) (b k:Nat),msk (d+b) [k] G nx=G nx:=fun G b k=>mk1 (by omega);have k1: ∀(G:aA) (b k:Nat),msk (d+b) [k] G (nx+1)=G (nx+1):=fun G b k=>mk1 (by omega);have k2: ∀(G:aA) (b k:Nat),msk (d+b) [k] G (nm 2)=G (nm 2):=fun G b k=>mk1 (by omega);have k3: ∀(G:aA) (b k:Nat),msk (d+b) [k] G (nm 3)=G (nm 3):=fun G b k=>mk1 (by omega);have k5: ∀(G:aA) (b k:Nat),msk (d+b) [k] G (nm (5+who))=G (nm (5+who)):=fun G b k=>mk1 (by omega);have k8: ∀(G:aA) (b k:Nat),msk (d+b) [k] G (nm (8+who))=G (nm (8+who)):=fun G b k=>mk1 (by omega);have fl: ∀(G:aA) (b k:Nat),msk (d+b) [k] G (nm (11+st))=G (nm (11+st)):=fun G b k=>mk1 (by omega);have fm: ∀(G:aA) (b k:Nat),34<=b->msk (d+b) [k] G (d+33)=G (d+33):=fun G b k hb=>mk1 (by omega);obtain⟨mo,ro,o1,o2,o3,o4,o5,o6⟩:=go.ex;rw[abT] at o4;rw[acK] at o2;have fo:H1 (nm (8+who))=some ⟨3,mo,ro⟩:=(I _ n8).trans o1;obtain⟨me,re,p1,p2,p3,p4,p5,p6⟩:=gp.ex;rw[abT] at p4;have fp:H1 (nm (11+st))=some ⟨3,me,re⟩:=(I _ fi).trans p1;have ah:(qo+(1+(p.queue.length-1))<=rq0.length)=True:=eq_true (by omega);have ao:List.take (p.queue.length-1) (List.drop (qo+1) rq0)=(p.queue.drop 1).map aH:=(by rw[<-ac5,x2,<-acZ,abM (by simp)]);have aw:List.take v.pipe.length (List.drop po re)=v.pipe.map eCJ:=(by rw[p2,abM (by simp)]);have bb:List.take p.out.length ro=p.out.map eCJ:=(by rw[o2,abM (by simp)]);have ct: ∀r,(rp.set who r)[who]?=some r:=fun r=>by rw[acA (by omega)]
    have cw: ∀r,(rv.set st r)[st]?=some r:=fun r=>by rw[acA (by omega)]
    have cx:=hb.2.1;have cy:aO nx ([2,3,5+who,8+who,11+st].map nm):=AM.apart (m.names.list (by simp;omega) (by simp;omega)) (fun x hx=>by obtain⟨j,hj,rfl⟩:=abP.1 hx;exact lt j (by simp at hj;omega));simp only[aO,bG,List.map] at cy;repeat' first| (first|apply vI|refine QF hb hs R F (bw.Q6 hs.pl hs.sl (fun id f=>I id f)) ?_)<;>(simp only[go_sem,f0,f1,f2,fh,ad,P,eu,fo,fp,x7,gr,gs,J,S,M,hB,cd,ew,cp,cq,cr,cl,cy,k0,k1,k2,k3,k5,k8,fl,fm,ah,ao,aw,bb,ct,cw,List.nil_append,abT,ab1,acE,nL];try simp (disch:=omega) only[Iw])|apply vT (by omega)| (with_reducible first|refine fun(cap:Nat) (fs:_<=cap)=> ?_|refine fun(ky:_<=cap)=> ?_)|refine⟨by omega,?_⟩|fail
    rename_i o da fx q df gf;have gi:QV c s u st=some who:=(by rw[E];apply qw (by rw[hv];omega) ed et hinv;rw[<-E];unfold MA;rw[B,M];rfl);have hn:LI c s u st=(bS c s (.adm who st),u.set who true):=(by unfold LI;rw[gi]);rw[hn] at h;refine hQ _ _ _ _ _ (.inr rfl) (gS rfl aA.aI rfl) ?_;obtain⟨s',t⟩: ∃s',s'=bS c s (.adm who st):=⟨_,rfl⟩
    rw[<-t] at h;have V:(aL s who).queue.getD 0 default=T:=(by rw[hp,ck]);have N:aL s' who= {p with queue:=p.queue.drop 1,out:=p.out++[⟨who,T,st⟩]}:=(by rw[t,cH rfl (by rw[hs.pl];omega),if_pos rfl,V,hp]);have O:aS s' st= {v with pipe:=v.pipe++[⟨who,T,c.lat.getD st default⟩],last:=who}:=(by rw[t,cY rfl (by rw[hs.sl];omega),if_pos rfl,V,hv]);have inj:=m.names.inj;have la:nm 2≠nm 3:=fun he=>by have:=inj 2 3 (by omega) (by omega) he;omega
    have lb:g≠nm 2:=fun he=>of_eq_false cd he.symm;have lk:g≠nm 3:=fun he=>of_eq_false cr he.symm;have ma:g≠nm (8+who):=fun he=>of_eq_false cp he.symm;have ha:g≠nm (11+st):=fun he=>of_eq_false cq he.symm;generalize Y:aA.set _ (nx+2) _=W;have hd:W (d+47)=some ⟨1,o,(p.queue.drop 1).map aH⟩:=(by rw[<-Y];simp (disch:=omega) only[aA.aB,aA.aI]);have hg:W (d+61)=some ⟨3,q,(p.out++[(⟨who,T,st⟩:gD)]).map eCJ⟩:=(by rw[<-Y,abU];simp (disch:=omega) only[aA.aB,aA.aI];rfl);have hh:W (d+83)=some ⟨3,cap,(v.pipe++[(⟨who,T,c.lat.getD st default⟩:gD)]).map eCJ⟩:=(by rw[<-Y,abU];simp (disch:=omega) only[aA.aB,aA.aI];rfl);have w2:W (nm 2)=some ⟨4,mp,rp.set who [cI p.next,.osl 1 (d+47) 0 (p.queue.length-1) o,.osl 3 (d+61) 0 (p.out.length+1) q,cI p.last]⟩:=(by rw[<-Y];simp (disch:=omega) only[aA.aB,aA.aI]);have w3:W (nm 3)=some ⟨3,mv,rv.set st [.osl 3 (d+83) 0 (v.pipe.length+1) cap,.osl 5 (nm (15+st)) do_ v.done.length dc,cI who]⟩:=(by rw[<-Y];simp (disch:=omega) only[aA.aB,aA.aI]);have ho:W g=some ⟨1,um,(u.set who true).map fE⟩:=(by rw[<-Y];simp (disch:=omega) only[aA.aB,aA.aI];rw[acY];rfl);have wf: ∀id,id<nx->id≠g->id≠nm 2->id≠nm 3->id≠nm (8+who)->id≠nm (11+st)->W id=H id:=fun id y h2 h3 h4 h5 h6=>by rw[<-Y];simp (disch:=omega) only[aA.aB,aA.cC];exact I id y
    clear Y;have Z: ∀a,a<19->a≠2->a≠3->a≠8+who->a≠11+st->W (nm a)=H (nm a):=fun a y h2 h3 h4 h5=>wf _ (lt a y) (fun he=>m.names.av a y (he▸n)) (fun he=>h2 (inj a 2 y (by omega) he)) (fun he=>h3 (inj a 3 y (by omega) he)) (fun he=>h4 (inj a (8+who) y (by omega) he)) (fun he=>h5 (inj a (11+st) y (by omega) he));obtain⟨i,w⟩: ∃i,i=put (put (put nm (5+who) (d+47)) (8+who) (d+61)) (11+st) (d+83):=⟨_,rfl⟩
    have l: ∀a,a≠5+who->a≠8+who->a≠11+st->i a=nm a:=fun a y h2 h3=>by rw[w,bV h3,bV h2,bV y]
    have dh:i (5+who)=d+47:=(by rw[w,bV (by omega),bV (by omega),fL]);have ds:i (8+who)=d+61:=(by rw[w,bV (by omega),fL]);have ab:i (11+st)=d+83:=(by rw[w,fL]);have bh: ∀z,nx<=z->¬X z:=fun z hz hn=>by have:=hX z hn;omega
    have hN:Names X (d+96) i:=(by rw[w];exact((m.names.put (nx':=d+48) (by omega) (by omega) (bh _ (by omega))).put (nx':=d+62) (by omega) (by omega) (bh _ (by omega))).put (by omega) (by omega) (bh _ (by omega)));have dv:s'.words=s.words:=(by rw[t];rfl);have dx:s'.holds=s.holds:=(by rw[t];rfl);have dy:s'.told=s.told:=(by rw[t];rfl);refine h W _ i _ (by omega) ⟨⟨⟨wc,hc,pc,vc,tc,?_,?_,?_,?_,g6,g7⟩,⟨mp,rp.set who [cI p.next,.osl 1 (d+47) 0 (p.queue.length-1) o,.osl 3 (d+61) 0 (p.out.length+1) q,cI p.last],?_,by rw[ab0,g8],fun k hk=> ?_⟩,⟨mv,rv.set st [.osl 3 (d+83) 0 (v.pipe.length+1) cap,.osl 5 (nm (15+st)) do_ v.done.length dc,cI who],?_,by rw[ab0,g9],fun k hk=> ?_⟩⟩,hN,fun id f=>by have:=hX id f;omega⟩ ho fun id f hq=> ?_;·rw[F3,dv,dx,dy,l 0 (by omega) (by omega) (by omega),l 1 (by omega) (by omega) (by omega),l 2 (by omega) (by omega) (by omega),l 3 (by omega) (by omega) (by omega),l 4 (by omega) (by omega) (by omega)]
    ·rw[dv,l 0 (by omega) (by omega) (by omega)];exact g3.frame (Z 0 (by omega) (by omega) (by omega) (by omega) (by omega))
    ·rw[dx,l 1 (by omega) (by omega) (by omega)];exact g4.frame (Z 1 (by omega) (by omega) (by omega) (by omega) (by omega))
    ·rw[dy,l 4 (by omega) (by omega) (by omega)];exact g5.frame (Z 4 (by omega) (by omega) (by omega) (by omega) (by omega))
    ·rw[l 2 (by omega) (by omega) (by omega)];exact w2
    ·by_cases bk:k=who
     ·subst bk;refine⟨_,ct _,⟨0,o,q,?_,?_,?_⟩⟩;·rw[N,dh,ds];simp only[VV,ab1,abL,List.length_singleton]
      ·rw[N,dh];exact⟨o,_,hd,rfl,by simp,by simp,by simp;omega,by omega⟩
      ·rw[N,ds];exact⟨q,_,hg,rfl,by simp,by simp,by simp;omega,by omega⟩
     ·obtain⟨ht,hy,ia,y1,y2,y3⟩:=ga k hk;have e:aL s' k=aL s k:=(by rw[t,cH rfl (by rw[hs.pl];omega),if_neg bk]);refine⟨_,by rw[acB (Ne.symm bk)];exact y1,⟨ht,hy,ia,?_,?_,?_⟩⟩;·rw[e,l (5+k) (by omega) (by omega) (by omega),l (8+k) (by omega) (by omega) (by omega)];rfl
      ·rw[e,l (5+k) (by omega) (by omega) (by omega)];exact y2.frame (Z (5+k) (by omega) (by omega) (by omega) (by omega) (by omega))
      ·rw[e,l (8+k) (by omega) (by omega) (by omega)];exact y3.frame (Z (8+k) (by omega) (by omega) (by omega) (by omega) (by omega))
    ·rw[l 3 (by omega) (by omega) (by omega)];exact w3
    ·by_cases bp:k=st
     ·subst bp;refine⟨_,cw _,⟨0,cap,do_,dc,?_,?_,?_⟩⟩;·rw[O,ab,l (15+k) (by omega) (by omega) (by omega)];simp only[ja,abL,List.length_singleton]
      ·rw[O,ab];exact⟨cap,_,hh,rfl,by simp,by simp,by simp;omega,by omega⟩
      ·rw[O,l (15+k) (by omega) (by omega) (by omega)];exact gd.frame (Z (15+k) (by omega) (by omega) (by omega) (by omega) (by omega))
     ·obtain⟨ie,ih,iv,iw,y1,y2,y3⟩:=gb k hk;have e:aS s' k=aS s k:=(by rw[t,cY rfl (by rw[hs.sl];omega),if_neg bp]);refine⟨_,by rw[acB (Ne.symm bp)];exact y1,⟨ie,ih,iv,iw,?_,?_,?_⟩⟩;·rw[e,l (11+k) (by omega) (by omega) (by omega),l (15+k) (by omega) (by omega) (by omega)];rfl
      ·rw[e,l (11+k) (by omega) (by omega) (by omega)];exact y2.frame (Z (11+k) (by omega) (by omega) (by omega) (by omega) (by omega))
      ·rw[e,l (15+k) (by omega) (by omega) (by omega)];exact y3.frame (Z (15+k) (by omega) (by omega) (by omega) (by omega) (by omega))
    ·have av:=m.names.av;exact wf id (hX id f) hq (fun he=>av 2 (by omega) (he▸f)) (fun he=>av 3 (by omega) (he▸f)) (fun he=>av (8+who) (by omega) (he▸f)) (fun he=>av (11+st) (by omega) (he▸f))
   ·have M:decide (NM c s who st)=false:=decide_eq_false L;repeat' first| (first|apply vI|refine QF hb hs R F (bw.Q6 hs.pl hs.sl (fun id f=>I id f)) ?_)<;>(simp only[go_sem,f0,f1,ad,P,gs,J,S,M,nL];try simp (disch:=omega) only[Iw])|apply vT (by omega)|refine⟨by omega,?_⟩|fail
    exact ca _ _ _ (j+1) noF _ (by omega) (by omega) (by repeat' first|exact C1|refine xqI rfl rfl ?_|refine xqP (by omega) rfl rfl ?_|refine xqO (by omega) rfl rfl (by rfl) ?_|fail) aE ⟨by omega,by omega,rfl,A (by unfold MA;rw[B,M];rfl)⟩
 ·have hn:LI c s u st=(s,u):=by unfold LI;rw[ov fun D y h2=>hinv D y (by omega)]
  rw[hn] at h;repeat' first|apply vI<;>(simp only[go_sem,f0,f1,f2,nL])|apply vF (by omega)|fail
  refine hQ _ _ _ _ _ (.inr rfl) (gS rfl aA.aI rfl) ?_;refine h _ _ nm _ (by omega) (m.frame (by omega) fun id f _=>by rw[aA.aB (by omega)];exact I id f) (by rw[aA.aB (by omega)];exact P) fun id f _=> ?_;have:=hX id f;rw[aA.aB (by omega)];exact I id this
end
theorem umM{b:Nat}{l:List Nat}{H:aA}:dF b l H (msk b l H)=H:=by funext j;simp only[dF,msk];split<;>rfl
theorem muM{b:Nat}{l:List Nat}{H G:aA}:msk b l (dF b l H G)=msk b l G:=by funext j;simp only[dF,msk];split<;>rfl
section
variable{H:aA}{nx:Nat}{K:afC}
theorem wg(h:K (dB true) H nx):afB FR [] H nx K:=by
 refine aC.pure (args0:=[]) (R:=fun a=>a=dB true) ?_ rfl (aK trivial) (fun r hr=>hr▸h);clear h;refine aR.mk Tryz.func33 (by kernel_rfl) vn rfl fun Q b=> ?_;unfold CV;repeat' first| (first|apply vI|apply CP)<;>(simp only[go_sem])|fail
 all_goals first|with_reducible refine aP b _ rfl rfl ?_|skip
 all_goals exact(l8 (by decide)).symm
end
end Go.Proofs.YtlncecohbakleaaGreat
