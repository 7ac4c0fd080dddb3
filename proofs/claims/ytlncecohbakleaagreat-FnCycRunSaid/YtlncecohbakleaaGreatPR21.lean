/- Rules and contracts. -/
import Derived.Test.YtlncecohbakleaaGreatPR19
import Derived.Test.YtlncecohbakleaaGreatPR20
set_option linter.unusedVariables false
set_option linter.unusedSimpArgs false
set_option maxRecDepth 100000
set_option maxHeartbeats 8000000
namespace Go.AM
def HO:CSt:=⟨[],[],[],[],[]⟩
def inB(i:CIn):Bool:=decide (i.ready.length=3/\i.mW.length=4/\i.send.length=3)
theorem JA{i:CIn}:inB i=true↔tR i:=decide_eq_true_iff
noncomputable def Ga(c:Cfg)(s:CSt)(i:CIn):CSt:=if cyB c s=true/\inB i=true then yR c i s else HO
noncomputable def evB(c:Cfg)(s:CSt)(i:CIn):List Ev:=if cyB c s=true/\inB i=true then E9 c i s else []
variable{c:Cfg}{s:CSt}
theorem Fp{i:CIn}(a:cyB c s=true)(b:inB i=true):evB c s i=E9 c i s:=if_pos ⟨a,b⟩
theorem Nh:tR ze:=⟨rfl,rfl,rfl⟩
theorem Ka{H:aA}{F:Nat->Prop}{σ:Nat->Nat}{nh a b d:Nat}(c:H a=some ⟨1,3,[true,true,true].map fE⟩)(e:H b=some ⟨1,4,[false,false,false,false].map fE⟩)(f:H d=some ⟨1,3,[true,true,true].map fE⟩)(g:F a)(h:F b)(i:F d):
 CvL H F σ nh (eIn ze) [.osl 1 a 0 3 3,.osl 1 b 0 4 4,.osl 1 d 0 3 3]:=
 aG (cP HJ c rfl (by decide) g) (aG (cP HJ e rfl (by decide) h) (aG (cP HJ f rfl (by decide) i) cJ))
def Lg(s:CSt):Option Mic->List Ev
 |none=>[]
 |some m=>BQ s m
def LOE(c:Cfg)(f:CSt->Nat->Option Mic)(l:List Nat)(s:CSt)(E:List Ev)(S:CSt)(T:List Ev):Prop:=lQ c s (DG c f s l)=S/\E++gV c s (DG c f s l)=T
theorem LOE.next{f:CSt->Nat->Option Mic}{S:CSt}{k:Nat}{l:List Nat}{E T:List Ev}(h:LOE c f (k::l) s E S T):LOE c f l (SG c s (f s k)) (E++Lg s (f s k)) S T:=by
 unfold LOE at h
 cases a:f s k with
 |none=>rw[N6 a] at h;exact⟨h.1,by rw[Lg,ab3];exact h.2⟩
 |some m=>rw[OH a] at h;exact⟨h.1,by rw[abY];exact h.2⟩
theorem LOE.none{c:Cfg}{f:CSt->Nat->Option Mic}{s S:CSt}{k:Nat}{l:List Nat}{E T:List Ev}(h:LOE c f (k::l) s E S T)(a:f s k=none):LOE c f l s E S T:=by have:=h.next;rw[a,Lg,ab3] at this;exact this
theorem LOE.nil{f:CSt->Nat->Option Mic}{S:CSt}{E T:List Ev}(h:LOE c f [] s E S T):s=S/\E=T:=⟨h.1,by rw[<-h.2];exact(ab3 E).symm⟩
structure EvI(c:Cfg)(nx:Nat)(G H:aA)(nx1:Nat)(nm:Nat->Nat)(cl:List D1)(s:CSt)(E:List Ev)(io cap:Nat):Prop where
 ok:COk c s
 rep:jG (fun id=>id<nx+18\/id=io) H nx1 nm s cl
 x:H (nx+17)=some ⟨5,1,[cl]⟩
 out: ∃m,H io=some ⟨3,m,E.map eEv⟩/\E.length<=cap/\cap<=m
 io:io=nx+4\/nx+18<=io
 fr: ∀id,id<nx+17->id≠nx+4->H id=G id
theorem jG.swap{H G:aA}{n n' p io b:Nat}{nm:Nat->Nat}{e:List D1}(h:jG (fun id=>id<p\/id=io) H n nm s e)(f: ∀id,id<n->id≠io->G id=H id)(g:n<=b)(d:b<n'):jG (fun id=>id<p\/id=b) G n' nm s e:=
 ⟨h.rep.frame fun j c=>f _ (h.names.lt j c) fun he=>h.names.av j c (.inr he),⟨h.names.inj,fun j c=>by have:=h.names.lt j c;omega,fun j c d=>by
   rcases d with d|d
   ·exact h.names.av j c (.inl d)
   ·have:=h.names.lt j c;omega⟩,fun id a=>by
   rcases a with a|a
   ·have:=h.x id (.inl a);omega
   ·omega⟩
theorem jG.add{X:Nat->Prop}{H G:aA}{n n' b:Nat}{nm:Nat->Nat}{e:List D1}(h:jG X H n nm s e)(f: ∀id,id<n->G id=H id)(g:n<=b)(d:b<n'):jG (fun id=>X id\/id=b) G n' nm s e:=
 ⟨h.rep.frame fun j c=>f _ (h.names.lt j c),⟨h.names.inj,fun j c=>by have:=h.names.lt j c;omega,fun j c d=>by
   rcases d with d|d
   ·exact h.names.av j c d
   ·have:=h.names.lt j c;omega⟩,fun id a=>by
   rcases a with a|a
   ·have:=h.x id a;omega
   ·omega⟩
def TQ(c:Cfg)(i:CIn)(s:CSt)(k:Nat):List Ev:=if i.send.getD k default=true/\(aL s k).queue.length<2/\(aL s k).next<(c.cN.getD k default).length then [⟨1,k,(aL s k).next⟩] else []
theorem Du{c:Cfg}{i:CIn}{s:CSt}: ∀{l:List Nat} {x:CSt},l.Nodup->x.bC.length=3->(∀k∈l,k<3/\aL x k=aL s k)->gV c x (DG c (MP c i) x l)=l.flatMap (TQ c i s)
 | [],x,_,_,_=>rfl
 |k::l,x,d,hp,hl=>by
  obtain⟨g,a⟩:=hl k (by simp);rw[acO] at d;rw[ad6];by_cases e:i.send.getD k default=true/\(aL s k).queue.length<2/\(aL s k).next<(c.cN.getD k default).length
  ·have f:MP c i x k=some (.ask k):=(by unfold MP;rw[a];exact if_pos e);rw[OH f];show BQ x (.ask k)++gV c (bS c x (.ask k)) (DG c (MP c i) (bS c x (.ask k)) l)=_;rw[Du (l:=l) d.2 (by simp[bS,hp]) fun j b=>⟨(hl j (acL _ b)).1,?_⟩];·unfold TQ;rw[if_pos e,BQ,a]
   ·rw[cH (s:=x) rfl (by omega),if_neg (fun he=>d.1 (by rw[<-he];exact b))];exact(hl j (acL _ b)).2
  ·have f:MP c i x k=none:=(by unfold MP;rw[a];exact if_neg e);rw[N6 f,Du (l:=l) d.2 hp fun j b=>hl j (acL _ b)];unfold TQ;rw[if_neg e];rfl
theorem Sx{i:CIn}(h:s.bC.length=3):gV c s (WA c i s)=(List.range 3).flatMap (TQ c i s):=by unfold WA;exact Du (s:=s) (by decide) h fun k a=>⟨QW a,rfl⟩
theorem aq{i:CIn}{k:Nat}:(List.range (k+1)).flatMap (TQ c i s)=(List.range k).flatMap (TQ c i s)++TQ c i s k:=by rw[adL,aeS];simp
noncomputable def J1(c:Cfg)(s:CSt)(l:List CIn):Bool:=cyB c s&&(decide (l.length<=300)&&l.all inB)
noncomputable def gw(c:Cfg)(s:CSt)(l:List CIn):CSt:=if J1 c s l=true then uC c s l else HO
noncomputable def RH(c:Cfg)(s:CSt)(l:List CIn):List Ev:=if J1 c s l=true then eE c s l else []
theorem AZ{l:List CIn}:J1 c s l=true↔cyB c s=true/\l.length<=300/\ ∀i∈l,tR i:=by unfold J1;simp only[acF,decide_eq_true_eq,abX,JA]
theorem Pg{l:List CIn}:(RH c s l).length<=3000:=by
 unfold RH;split;·rename_i h;have:=EB (c:=c) (s:=s) (l:=l);have:=(AZ.1 h).2.1;omega
 ·simp
structure HE(l:List CIn):Prop where
 len:l.length<2^21
 all: ∀i∈l,PM i
theorem tR.fit{i:CIn}(h:tR i):PM i:=by obtain⟨a,b,c⟩:=h;exact⟨by omega,by omega,by omega⟩
end Go.AM
namespace Go.Proofs.YtlncecohbakleaaGreat
open Go Go.AM
attribute [local irreducible] aJ wv aC vd wvH
section
variable{H:aA}{nx:Nat}{K:afC}
variable{i:CIn}
theorem vO(j:i.ready.length<2^21)(k:i.mW.length<2^21)(l:i.send.length<2^21)(h:K (dB (inB i)) H nx):afB A3 [dA (eIn i)] H nx K:=by
 refine aC.pure (args0:=[dA (eIn i)]) (R:=fun f=>f=dB (inB i)) ?_ rfl (aK ⟨aF rfl,trivial⟩) (fun r hr=>hr▸h);clear h;refine aR.mk Tryz.func106 (by kernel_rfl) sn rfl fun Q c=> ?_;unfold C8;by_cases b:i.ready.length=3
 ·by_cases d:i.mW.length=4
  ·by_cases e:i.send.length=3
   ·have a:inB i=true:=decide_eq_true ⟨b,d,e⟩;repeat' first| (first|apply vI|apply Y4 (by omega))<;>(simp only[go_sem,b,d,e])|fail
    all_goals exact aP c _ rfl rfl (congrArg dB a.symm)
   ·have a:inB i=false:=decide_eq_false fun h=>e h.2.2;have g:decide ((i.send.length:Int)=3)=false:=decide_eq_false (by omega);repeat' first| (first|apply vI|apply Y4 (by omega))<;>(simp only[go_sem,b,d,g])|fail
    all_goals first|exact aP c _ rfl rfl (congrArg dB a.symm)|omega
  ·have a:inB i=false:=decide_eq_false fun h=>d h.2.1;repeat' first| (first|apply vI|apply Y4 (by omega)|apply Y5 (by omega))<;>(simp only[go_sem,b])|fail
   all_goals first|exact aP c _ rfl rfl (congrArg dB a.symm)|omega
 ·have a:inB i=false:=decide_eq_false fun h=>b h.1;repeat' first| (first|apply vI|apply Y5 (by omega))<;>(simp only[go_sem])|fail
  all_goals first|exact aP c _ rfl rfl (congrArg dB a.symm)|omega
theorem DH(j:i.ready.length<2^21)(k:i.mW.length<2^21)(l:i.send.length<2^21)(h:K (dB (inB i)) H nx):afB FF [dA (eIn i)] H nx K:=by
 refine aC.pure (args0:=[dA (eIn i)]) (R:=fun f=>f=dB (inB i)) ?_ rfl (aK ⟨aF rfl,trivial⟩) (fun r hr=>hr▸h);clear h;refine aR.mk Tryz.func49 (by kernel_rfl) ve rfl fun Q c=> ?_;unfold CO;by_cases b:i.ready.length=3
 ·by_cases d:i.mW.length=4
  ·by_cases e:i.send.length=3
   ·have a:inB i=true:=decide_eq_true ⟨b,d,e⟩;repeat' first| (first|apply vI|apply Y4 (by omega))<;>(simp only[go_sem,b,d,e])|fail
    all_goals exact aP c _ rfl rfl (congrArg dB a.symm)
   ·have a:inB i=false:=decide_eq_false fun h=>e h.2.2;have g:decide ((i.send.length:Int)=3)=false:=decide_eq_false (by omega);repeat' first| (first|apply vI|apply Y4 (by omega))<;>(simp only[go_sem,b,d,g])|fail
    all_goals first|exact aP c _ rfl rfl (congrArg dB a.symm)|omega
  ·have a:inB i=false:=decide_eq_false fun h=>d h.2.1;repeat' first| (first|apply vI|apply Y4 (by omega)|apply Y5 (by omega))<;>(simp only[go_sem,b])|fail
   all_goals first|exact aP c _ rfl rfl (congrArg dB a.symm)|omega
 ·have a:inB i=false:=decide_eq_false fun h=>b h.1;repeat' first| (first|apply vI|apply Y5 (by omega))<;>(simp only[go_sem])|fail
  all_goals first|exact aP c _ rfl rfl (congrArg dB a.symm)|omega
variable{c:Cfg}{s:CSt}
theorem WE(y:iN c)(T:BB s)(hi:PM i)
 (h: ∀H' nx',nx<=nx'->(∀id,id<nx->H' id=H id)->K (dA (bK (Ga c s i))) H' nx'):afB uO [dA (bI c),dA (bK s),dA (eIn i)] H nx K:=by
 obtain⟨l1,l2,l3⟩:=hi
 by_cases B:cyB c s=true/\inB i=true
 ·obtain⟨O,hs⟩:=wH.1 B.1;unfold Ga at h;rw[if_pos B] at h;obtain⟨r,t⟩:=B;apply aC.kH;refine KD rfl fun Q P=> ?_;unfold nK;repeat' first| (first|apply vI|apply iB y T|apply vO (i:=i) (by omega) (by omega) (by omega)|refine fT (hs.sz O) (fun H' nx' nm cells hx U V m=> ?_))<;>(simp only[go_sem,r,t,nL])|fail
  have C:cells.length=5:=by obtain⟨_,_,_,_,_,rfl,_⟩:=U.ex;rfl
  have D:cells++List.drop cells.length [D1.osl 0 0 0 0 0,.osl 0 0 0 0 0,.osl 0 0 0 0 0,.osl 0 0 0 0 0,.osl 0 0 0 0 0]=cells:=by rw[C];simp
  refine⟨C,by omega,?_⟩;rw[D];try apply kI
  refine aJ.KT fun A u=> ?_;have n: ∀id,id<nx+4->A id=H' id:=fun id l=>by rw[u,aA.aB (by omega)]
  have c0:A nx=some ⟨3,1,[bI c]⟩:=by rw[n _ (by omega),m _ (by omega)];simp only[aA.set,abI,Nat.reduceEqDiff,if_false,if_true,adK,reduceIte]
  have c2:A (nx+2)=some ⟨3,1,[eIn i]⟩:=by rw[n _ (by omega),m _ (by omega)];simp only[aA.set,abJ,Nat.reduceEqDiff,abK,if_false,if_true,reduceIte]
  have c3:A (nx+3)=some ⟨5,1,[[.osl 0 0 0 0 0,.osl 0 0 0 0 0,.osl 0 0 0 0 0,.osl 0 0 0 0 0,.osl 0 0 0 0 0]]⟩:=by rw[n _ (by omega),m _ (by omega)];simp only[aA.set,abJ,Nat.reduceEqDiff,abK,if_false,if_true,reduceIte]
  have W: ∀id,id<nx->A id=H id:=fun id l=>by rw[n _ (by omega),m _ (by omega)];simp only[aA.set,show ¬id=nx by omega,show ¬id=nx+1 by omega,show ¬id=nx+2 by omega,show ¬id=nx+3 by omega,if_false]
  have gR:Rep (fun id=>id<nx+4) A nx' (nx+15) nm s:=by have v:=fun k g=>V.rng k g;refine⟨⟨cells,by rw[u];exact aA.aI,U.frame fun k g=>by have:=v k g;rw[u,aA.aB (by omega)]⟩,⟨V.inj,fun k g=>by have:=v k g;omega,fun k g hn=>by have:=v k g;omega⟩,fun k g=>by have:=v k g;omega,⟨by omega,by omega⟩,fun id l=>by omega⟩
  clear u U V m n;have hA:aO nx' [nx,nx+2]:=AM.apart (by simp) (by simp;omega);simp only[aO,bG] at hA;repeat' first|apply vI<;>(simp only[go_sem,abH,abI,c0,c2,hA])|fail
  refine lK (X:=fun id=>id<nx+4) O hs (JA.1 t) (gR.frame (by omega) rfl (fun _ _=>rfl) fun id E=>⟨by omega,by omega,fun k g he=>gR.names.av k g (he▸E)⟩) fun H2 Y o a b d e ab w G=> ?_;have I:COk c (yR c i s):=vw O hs;generalize yR c i s=S at*;obtain⟨R,Z,J⟩:=w.st;obtain⟨wc,hc,pc,vc,tc,L,_⟩:=J.ex;have p:=Z;rw[L] at p;unfold F3 at p;simp only[go_sem];repeat' first|apply vI<;>(simp only[go_sem,p])|fail
  have ad:=w.names.lt;refine aC.wj (args':=[dA (bK S)]) (without (fun j=>∃k,k<19/\j=o k) H2) (fun j=>∃k,k<19/\j=o k) rfl (fun i d0 d r t=> ?_) eV ?_
  ·match i with
   |0=>simp only[List.getElem?_cons_zero,Option.some.injEq] at r t;subst r;subst t;have:=nM (σ:=id) (nh:=Y+3) (J.OY (F:=fun j=>∃k,k<19/\j=o k) (fun k g=>⟨k,g,rfl⟩) I.pl I.sl);rw[L] at this;exact iR this
   |i+1=>simp at r
  refine fT (I.sz O) fun H3 ah aa f ao M N x=> ?_;have q:f.length=5:=by obtain⟨_,_,_,_,_,rfl,_⟩:=M.ex;rfl
  have z:f++List.drop f.length [D1.osl 0 0 0 0 0,.osl 0 0 0 0 0,.osl 0 0 0 0 0,.osl 0 0 0 0 0,.osl 0 0 0 0 0]=f:=by rw[q];simp
  have e3:H3 (nx+3)=some ⟨5,1,[[.osl 0 0 0 0 0,.osl 0 0 0 0 0,.osl 0 0 0 0 0,.osl 0 0 0 0 0,.osl 0 0 0 0 0]]⟩:=by rw[x _ (by omega),b9 (fun⟨k,g,he⟩=>w.names.av k g (show o k<nx+4 by omega)),G _ (show nx+3<nx+4 by omega)];exact c3
  simp only[go_sem,e3];refine⟨q,by omega,?_⟩;rw[z];try apply kI
  repeat' first|apply vI<;>(simp only[go_sem])|fail
  refine P _ _ _ _ _ (.inr rfl) (gP rfl aA.aI q) ⟨dA (bK S),_,fun j=>∃k,k<19/\j=aa k,?_,eV,h _ _ (by omega) fun id l=> ?_⟩;·exact iR (nM ((M.frame fun k g=>aA.aB (by have:=N.rng k g;omega)).OY (fun k g=>⟨k,g,rfl⟩) I.pl I.sl))
  ·rw[b9 (fun⟨k,g,he⟩=>by have:=N.rng k g;omega),aA.aB (by omega),x _ (by omega),b9 (fun⟨k,g,he⟩=>w.names.av k g (show o k<nx+4 by omega)),G _ (show id<nx+4 by omega)];exact W id l
 ·unfold Ga at h;rw[if_neg B] at h;apply aC.kH;refine KD rfl fun Q P=> ?_;unfold nK;have hz:bK HO=[.isl [],.isl [],.isl [],.isl [],.isl []]:=rfl;by_cases r:cyB c s=true
  ·have t:inB i=false:=by cases hh:inB i;rfl;exact absurd ⟨r,hh⟩ B
   repeat' first| (first|apply vI|apply iB y T|apply vO (i:=i) (by omega) (by omega) (by omega))<;>(simp only[go_sem,r,t,nL])|fail
   exact P _ _ _ _ _ (.inr rfl) (gS rfl aA.aI rfl) ⟨dA (bK HO),_,noF,iR (aG (.frz (.nil ..)) (aG (.frz (.nil ..)) (aG (.frz (.nil ..)) (aG (.frz (.nil ..)) (aG (.frz (.nil ..)) cJ))))),aE,h _ _ (by omega) fun id l=>by simp (disch:=omega) only[aA.aB]⟩
  ·have t:cyB c s=false:=by cases hh:cyB c s;rfl;exact absurd hh r
   repeat' first| (first|apply vI|apply iB y T)<;>(simp only[go_sem,t,nL])|fail
   exact P _ _ _ _ _ (.inr rfl) (gS rfl aA.aI rfl) ⟨dA (bK HO),_,noF,iR (aG (.frz (.nil ..)) (aG (.frz (.nil ..)) (aG (.frz (.nil ..)) (aG (.frz (.nil ..)) (aG (.frz (.nil ..)) cJ))))),aE,h _ _ (by omega) fun id l=>by simp (disch:=omega) only[aA.aB]⟩
theorem xo{τ:Nat->Nat}{n m:Nat}{l:List Ev}:bM.rn τ ⟨n,m,l.map eEv⟩=⟨n,m,l.map eEv⟩:=by refine sZ fun r hr x a=> ?_;obtain⟨y,_,rfl⟩:=abP.1 hr;exact abX.1 (HF y).2 x a
theorem uG(l:List Ev)(hl:l.length<2^21):afB eN [dS (l.map eEv)] (hp []) 0
 fun r H' n'=>∃cap,l.length<=cap/\n'=1/\H'=hp [(0,⟨3,cap,l.map eEv⟩)]/\r=dO 3 0 l.length cap:=by
 refine aR.mk Tryz.func199 (by kernel_rfl) tF rfl fun Q c=> ?_
 unfold eG
 refine aJ.seq (aJ.mM 3 ?_)
 repeat' first|apply vI<;>(simp only[go_sem])|refine Z7 (fun h=> ?_) fun h=> ?_| (with_reducible first|refine fun(cap:Nat) (d:_<=cap)=> ?_|refine fun(e:_<=cap)=> ?_|refine fun(b:Bool)=> ?_)| ((refine y5 (fun h=> ?_) (fun h=> ?_))<;>try subst h)|refine⟨by omega,?_⟩|fail
 all_goals first
  | (have a:=abG cap
     (refine c _ _ _ _ _ 1 (dO 3 0 l.length cap) (hp [(0,⟨3,cap,l.map eEv⟩)]) _ _ (.inr rfl) rfl (jT [6] (by omega) (by repeat' first|exact C1| ((with_reducible apply C0);exact CQ (by omega) rfl rfl (by rfl) rfl)| ((with_reducible apply D0);apply CJ)|fail) ⟨⟨by simp,by simp[sgL],_,rfl,cD (aN HF _) rfl rfl⟩,trivial⟩ (by simp[sgL])) ?_)
     exact⟨cap,by omega,rfl,rfl,rfl⟩)
  | (have f:l=[]:=acJ (by omega)
     subst f
     (refine c _ _ _ _ _ 1 (dO 3 0 0 0) (hp [(0,⟨3,0,([]:List Ev).map eEv⟩)]) _ _ (.inr rfl) rfl (jT [0] (by omega) (by repeat' first|exact C1| ((with_reducible apply C0);exact CC)| ((with_reducible apply D0);apply CJ)|fail) ⟨⟨by simp,by simp[sgL],_,rfl,cD (aN HF _) rfl rfl⟩,trivial⟩ (by simp[sgL])) ?_)
     exact⟨0,abG _,rfl,rfl,rfl⟩)
theorem uA{l:List Ev}(hl:l.length<2^21)(h: ∀cap,l.length<=cap->K (dO 3 nx l.length cap) (H.set nx ⟨3,cap,l.map eEv⟩) (nx+1)):afB eN [dS (l.map eEv)] H nx K:=by
 refine(uG l hl).JG (l0:=[]) [] rfl ⟨aF rfl,trivial⟩ trivial (by simp) (by simp) (by simp) fun r H' n' _ ⟨cap,a,b,c,d⟩=> ?_;have h:=h cap a;subst b;subst c;subst d;have e:back (tau 0 nx (nth [])) (hp [(0,⟨3,cap,l.map eEv⟩)]) 1 H=H.set nx ⟨3,cap,l.map eEv⟩:=by simp only[back,hp,aA.set,tau,acC,if_true,if_false,Nat.sub_zero,Nat.add_zero,Option.map_some,xo,aA.iS]
 rw[<-e] at h;exact h
theorem EE{l:List Ev}(hl:l.length<2^21)(h: ∀H' nx' io m,nx<=io->io<nx'->H' io=some ⟨3,m,l.map eEv⟩->l.length<=m->(∀id,id<nx->H' id=H id)->K (dO 3 io l.length l.length) H' nx'):afB kJ [dS (l.map eEv)] H nx K:=by
 refine bR.mk Tryz.func107 (by kernel_rfl) DR rfl fun Q b=> ?_;unfold hZ;repeat' first| (first|apply vI|refine uA hl (fun cap a=> ?_)|apply IV (l:=l) (by omega) a (by omega) aA.aI)<;>(simp only[go_sem])|fail
 exact b _ _ _ _ _ (.inr rfl) rfl (h _ _ (nx+1+4) cap (by omega) (by omega) aA.aI a fun id c=>by simp (disch:=omega) only[aA.aB])
theorem J9(a b:List Ev)(o:a.length<2^40)(p:b.length<2^40):afB iM [dS (a.map eEv),dS (b.map eEv)] .nil 0 fun j _ _=>j.plain=true/\j=dB (decide (a=b)):=by
 refine aR.mk Tryz.func31 (by kernel_rfl) VG rfl fun Q f=> ?_;unfold qE;by_cases hl:a.length=b.length
 ·repeat' first|apply vI<;>(simp only[go_sem])|apply vF (by omega)|fail
  (refine aJ.loop (α:={k:Nat//k<=a.length/\(∀i,i<k->a.getD i default=b.getD i default)}) (fun u=>en [(5,dI u.1),(1,dS (b.map eEv)),(0,dS (a.map eEv))]) (fun _=>.nil) _ (fun u=>a.length-u.1) ⟨0,by omega,(by intros;first|trivial|omega)⟩ (bF (abG _) (by repeat' first|exact C1|refine xqI rfl rfl ?_|fail)) ?_);(rintro⟨k,q,hinv⟩ r g);by_cases m:k<a.length
  ·have d:A4 (eEv (a.getD k default))=some [(a.getD k default).kind,(a.getD k default).who,(a.getD k default).n]:=rfl;have e:A4 (eEv (b.getD k default))=some [(b.getD k default).kind,(b.getD k default).who,(b.getD k default).n]:=rfl;have h: ¬a.getD k default=b.getD k default->¬a=b:=fun d e=>d (by rw[e]);have heq:[(a.getD k default).kind,(a.getD k default).who,(a.getD k default).n]=[(b.getD k default).kind,(b.getD k default).who,(b.getD k default).n]↔a.getD k default=b.getD k default:=(by generalize a.getD k default=x;generalize b.getD k default=y;obtain⟨s,x2,t⟩:=x;obtain⟨v,w,z⟩:=y;simp);generalize A:[(a.getD k default).kind,(a.getD k default).who,(a.getD k default).n]=X at*;generalize B:[(b.getD k default).kind,(b.getD k default).who,(b.getD k default).n]=Y at*;by_cases c:X=Y
   ·have l:(¬X=Y)=False:=eq_false (Classical.not_not.2 c);repeat' first|apply vI<;>(simp only[go_sem,d,e,c];try simp (disch:=omega) only[Iw])|apply vT (by omega)|refine⟨by omega,?_⟩|fail
    (refine g _ _ _ ⟨k+1,by omega,bL hinv (heq.1 c)⟩ (by omega) (by(try dsimp only);omega) (bF (abG _) (by repeat' first|exact C1|refine xqI rfl rfl ?_|fail)))
   ·have l:(X=Y)=False:=eq_false c;repeat' first|apply vI<;>(simp only[go_sem,d,e,l])|apply vT (by omega)|refine⟨by omega,?_⟩|fail
    refine aP f _ rfl rfl (fX (h fun he=>c (heq.2 he)))
  ·repeat' first|apply vI<;>(simp only[go_sem])|apply vF (by omega)|fail
   refine aP f _ rfl rfl (l8 (yV hl fun i hi=>hinv i (by omega)))
 ·repeat' first|apply vI<;>(simp only[go_sem])|apply vT (by omega)|fail
  refine aP f _ rfl rfl (fX fun he=>hl (by rw[he]))
theorem J8{a:List Ev}{b:List Ev}(c:a.length<2^40)(d:b.length<2^40)(h:K (dB (decide (a=b))) H nx):afB iM [dS (a.map eEv),dS (b.map eEv)] H nx K:=(J9 a b c d).pure rfl (aK ⟨aF rfl,aF rfl,trivial⟩) (fun r hr=>hr▸h)
theorem u9:bR afA mJ Tryz.f34 jQ FT:=bR.mk Tryz.func34 (by kernel_rfl) TF
theorem SZ(q:iN c)(z:BB s)(hi:PM i)
 (h: ∀H' nx' io m,nx<=io->io<nx'->H' io=some ⟨3,m,(evB c s i).map eEv⟩->(evB c s i).length<=m->(∀id,id<nx->H' id=H id)->K (dO 3 io (evB c s i).length (evB c s i).length) H' nx'):afB mJ [dA (bI c),dA (bK s),dA (eIn i)] H nx K:=by
 obtain⟨Y,Z,l3⟩:=hi
 have t: ¬(cyB c s=true/\inB i=true)->evB c s i=[]:=fun h=>if_neg h
 by_cases r:cyB c s=true
 ·by_cases n:inB i=true
  ·obtain⟨I,hs⟩:=wH.1 r;have A:=JA.1 n;rw[Fp r n] at h;refine u9 rfl fun Q u=> ?_;unfold jQ;repeat' first| (first|apply vI|apply iB q z|apply vO (i:=i) (by omega) (by omega) (by omega)|refine fT (hs.sz I) (fun H' nx' nm cells hx B C o=> ?_))<;>(simp only[go_sem,r,n,nL])|fail
   have v:cells.length=5:=(by obtain⟨_,_,_,_,_,rfl,_⟩:=B.ex;rfl);have w:cells++List.drop cells.length [D1.osl 0 0 0 0 0,.osl 0 0 0 0 0,.osl 0 0 0 0 0,.osl 0 0 0 0 0,.osl 0 0 0 0 0]=cells:=(by rw[v];simp);refine⟨v,by omega,?_⟩;rw[w];try apply kI
   refine aJ.KT fun y f=> ?_;have c0:y nx=some ⟨3,1,[bI c]⟩:=(by rw[f,aA.aB (by omega),o _ (by omega)];simp (disch:=omega) only[aA.aB,aA.aI]);have c2:y (nx+2)=some ⟨3,1,[eIn i]⟩:=(by rw[f,aA.aB (by omega),o _ (by omega)];simp (disch:=omega) only[aA.aB,aA.aI]);have D: ∀id,id<nx->y id=H id:=fun id g=>by rw[f,aA.aB (by omega),o _ (by omega)];simp (disch:=omega) only[aA.aB]
   have J:Rep (fun id=>id<nx+3) y nx' (nx+15) nm s:=(by have p:=fun k j=>C.rng k j;refine⟨⟨cells,by rw[f];exact aA.aI,B.frame fun k j=>by have:=p k j;rw[f,aA.aB (by omega)]⟩,⟨C.inj,fun k j=>by have:=p k j;omega,fun k j hn=>by have:=p k j;omega⟩,fun k j=>by have:=p k j;omega,⟨by omega,by omega⟩,fun id g=>by omega⟩);clear f B C o;have L:aO nx' [nx,nx+2]:=AM.apart (by simp) (by simp;omega);simp only[aO,bG] at L;repeat' first|apply vI<;>(simp only[go_sem,nL,c0,c2,L])|fail
   refine lK (X:=fun id=>id<nx+3) I hs A (J.frame (by omega) rfl (fun _ _=>rfl) fun id x=>⟨by omega,by omega,fun k j he=>J.names.av k j (he▸x)⟩) fun H2 N O a b d e P R E=> ?_;have S:=MI (c:=c) (i:=i) (s:=s);(try simp only[go_sem,nL,nL]);repeat' first| (first|apply vI|apply Y4 (by omega)|apply Y5 (by omega)|refine Y6 (fun h=> ?_) fun h=> ?_| (refine Y7 (fun h=> ?_) (fun h=> ?_)<;>try subst h)|refine EE (l:=E9 c i s) (by omega) (fun H3 T io m b1 b2 U V F=> ?_))<;>(simp only[go_sem,nL,nL];try simp (disch:=omega) only[Iw])|apply vT (by omega)|apply vF (by omega)|refine iE (fun h=> ?_) fun h=> ?_|refine Z7 (fun h=> ?_) fun h=> ?_|refine bX rfl ?_| (with_reducible first|refine fun(cap:Nat) (M:_<=cap)=> ?_|refine fun(W:_<=cap)=> ?_|refine fun(b:Bool)=> ?_)| ((refine y5 (fun h=> ?_) (fun h=> ?_))<;>try subst h)|refine⟨by omega,?_⟩| (refine⟨by(rw[ab5];omega),?_⟩)|fail
   exact u _ _ _ _ _ (.inr rfl) rfl (h _ _ io m (by omega) (by omega) U V fun id g=>by rw[F _ (by omega),E _ (by show id<nx+3;omega)];exact D id g)
  ·have n:inB i=false:=by cases G:inB i;rfl;exact absurd G n
   rw[t (fun h=>by rw[n] at h;exact absurd h.2 (by decide))] at h;apply aC.kH;refine u9 rfl fun Q u=> ?_;unfold jQ;apply aJ.mM 3;repeat' first| (first|apply vI|apply iB q z|apply vO (i:=i) (by omega) (by omega) (by omega))<;>(simp only[go_sem,r,n,nL])|fail
   exact u _ _ _ _ _ (.inr rfl) rfl ⟨dO 3 nx 0 0,_,noF,VT (.BL ..),aE,h _ _ nx 0 (abG _) (by omega) (by simp (disch:=omega) only[aA.aB,aA.aI];rfl) (abG _) fun id g=>by simp (disch:=omega) only[aA.aB]⟩
 ·have n:cyB c s=false:=by cases G:cyB c s;rfl;exact absurd G r
  rw[t (fun h=>r h.1)] at h;apply aC.kH;refine u9 rfl fun Q u=> ?_;unfold jQ;apply aJ.mM 3;repeat' first| (first|apply vI|apply iB q z)<;>(simp only[go_sem,n,nL])|fail
  exact u _ _ _ _ _ (.inr rfl) rfl ⟨dO 3 nx 0 0,_,noF,VT (.BL ..),aE,h _ _ nx 0 (abG _) (by omega) (by simp (disch:=omega) only[aA.aB,aA.aI];rfl) (abG _) fun id g=>by simp (disch:=omega) only[aA.aB]⟩
theorem TA(a:iN c)(d:BB s)(hi:PM i)
 (h: ∀H' nx',nx<=nx'->(∀id,id<nx->H' id=H id)->K (dS ((evB c s i).map eEv)) H' nx'):afB mJ [dA (bI c),dA (bK s),dA (eIn i)] H nx K:=
 aC.kH (SZ a d hi fun H' nx' io m g k e l f=>⟨dS ((evB c s i).map eEv),_,fun j=>j=io,pL HF e rfl (abG _) rfl,C6,h _ _ (by omega) fun id b=>by rw[aA.cC (by omega)];exact f id b⟩)
theorem jv(h: ∀H' nx',nx<=nx'->(∀id,id<nx->H' id=H id)->K (dA (eIn ze)) H' nx'):afB wM [] H nx K:=by apply aC.kH;refine TR fun H' nx' f b c d e=>⟨dA (eIn ze),without (fun j=>j=nx+1\/j=nx+2\/j=nx+3) H',_,iR (Ka b c d (.inl rfl) (.inr (.inl rfl)) (.inr (.inr rfl))),eV,h _ _ (by omega) fun id a=>by rw[b9 (by omega)];exact e id a⟩
theorem SI(cy:iN c)(hf:BB s)(hi:PM i)
 (h: ∀H' nx' io cap m,nx<=io->io<nx'->H' io=some ⟨3,m,(evB c s i).map eEv⟩->(evB c s i).length<=cap->cap<=m->(∀id,id<nx->H' id=H id)->K (dO 3 io (evB c s i).length cap) H' nx'):afB mK [dA (bI c),dA (bK s),dA (eIn i)] H nx K:=by
 obtain⟨l1,l2,l3⟩:=hi
 refine bR.mk Tryz.func47 (by kernel_rfl) S6 rfl fun Q hQ=> ?_
 unfold oP
 have ha: ¬(cyB c s=true/\inB i=true)->evB c s i=[]:=fun h=>if_neg h
 cases J:cyB c s
 ·rw[ha (fun h=>by rw[J] at h;exact absurd h.1 (by decide))] at h;repeat' first| (first|apply vI|apply gF cy hf)<;>(simp only[go_sem,J,nL])|fail
  exact hQ _ _ _ _ _ (.inr rfl) rfl (h _ _ (nx+4) 0 0 (by omega) (by omega) (by simp (disch:=omega) only[aA.aB,aA.aI];rfl) (abG _) (abG _) fun id S=>by simp (disch:=omega) only[aA.aB])
 cases y:inB i
 ·rw[ha (fun h=>by rw[y] at h;exact absurd h.2 (by decide))] at h;repeat' first| (first|apply vI|apply gF cy hf|apply DH (i:=i) (by omega) (by omega) (by omega))<;>(simp only[go_sem,J,y,nL])|fail
  exact hQ _ _ _ _ _ (.inr rfl) rfl (h _ _ (nx+4) 0 0 (by omega) (by omega) (by simp (disch:=omega) only[aA.aB,aA.aI];rfl) (abG _) (abG _) fun id S=>by simp (disch:=omega) only[aA.aB])
 rw[Fp J y] at h
 obtain⟨hb,hs⟩:=wH.1 J
 have cd:=JA.1 y
 have iv:=hs.sz hb
 obtain⟨hg,da,df⟩:=cd
 repeat' first| (first|apply vI|apply gF cy hf|apply DH (i:=i) (by omega) (by omega) (by omega)|refine rL iv (fun H1 iw nm cells hx hR T cf=> ?_))<;>(simp only[go_sem,J,y,nL])|fail
 have hh:cells.length=5:=by obtain⟨_,_,_,_,_,rfl,_⟩:=hR.ex;rfl
 have dh:cells++List.drop cells.length [D1.osl 0 0 0 0 0,.osl 0 0 0 0 0,.osl 0 0 0 0 0,.osl 0 0 0 0 0,.osl 0 0 0 0 0]=cells:=by rw[hh];simp
 refine⟨hh,by omega,?_⟩
 rw[dh]
 try apply kI
 refine aJ.YQ fun G hG=> ?_
 have f0:G nx=some ⟨3,1,[bI c]⟩:=by rw[hG,aA.aB (by omega),cf _ (by omega)];simp (disch:=omega) only[aA.aB,aA.aI]
 have f2:G (nx+2)=some ⟨3,1,[eIn i]⟩:=by rw[hG,aA.aB (by omega),cf _ (by omega)];simp (disch:=omega) only[aA.aB,aA.aI]
 have f4:G (nx+4)=some ⟨3,0,[]⟩:=by rw[hG,aA.aB (by omega),cf _ (by omega)];exact aA.aI
 have fx:G (nx+17)=some ⟨5,1,[cells]⟩:=by rw[hG];exact aA.aI
 have ff: ∀id,id<nx->G id=H id:=fun id S=>by rw[hG,aA.aB (by omega),cf _ (by omega)];simp (disch:=omega) only[aA.aB]
 have fR:jG (fun id=>id<nx+18\/id=nx+4) G iw nm s cells:=by have ds:=fun k hk=>T.rng k hk;exact⟨hR.frame fun k hk=>by have:=ds k hk;rw[hG,aA.aB (by omega)],⟨T.inj,fun k hk=>(ds k hk).2,fun k hk hn=>by have:=ds k hk;omega⟩,fun id S=>by omega⟩
 clear hG hR T cf
 repeat' first|apply vI<;>(simp only[go_sem])|fail
 refine aJ.cG (β:=Nat×(Nat->Nat)×List D1×CSt×List Ev×Nat×Nat) (fun u=>en [(9,dI u.1),(8,.one (.c (.ptr 5 (nx+17) 0 0))),(7,.one (.c (.osl 3 u.2.2.2.2.2.1 0 u.2.2.2.2.1.length u.2.2.2.2.2.2))),(5,.one (.c (.ptr 3 (nx+2) 0 0))),(3,.one (.c (.ptr 3 nx 0 0)))])
  (fun u H1 n1=>u.1<=3/\u.2.2.2.2.1.length<=u.1/\EvI c nx G H1 n1 u.2.1 u.2.2.1 u.2.2.2.1 u.2.2.2.2.1 u.2.2.2.2.2.1 u.2.2.2.2.2.2/\LOE c (pJ i) ([0,1,2].drop u.1) u.2.2.2.1 u.2.2.2.2.1 (D9 c i s) (gV c s (LZ c i s))) (fun u=>3-u.1) (0,nm,cells,s,[],nx+4,0)
  ⟨noF,_,by repeat' first|exact C1|refine xqI rfl rfl ?_|refine xqP (by omega) rfl rfl ?_| (with_reducible apply C2)| ((with_reducible apply C0);exact CC)| ((with_reducible apply D0);apply CJ)|fail,aE,by dsimp only;omega,by simp,⟨hs,fR.frame (by omega) (fun _ _ _=>rfl),fx,⟨0,f4,abG _,abG _⟩,.inl rfl,fun _ _ _=>rfl⟩,⟨rfl,rfl⟩⟩ ?_
 rintro⟨k,ad,np,s1,E1,io,cap⟩ H2 z jh ⟨hk,jo,hE,O⟩ KL dv
 dsimp only at hk jo hE O
 obtain⟨B,ck,p,⟨m,U,o2,o3⟩,cd,a⟩:=hE
 have L:=(a nx (by omega) (by omega)).trans f0
 have M:=(a (nx+2) (by omega) (by omega)).trans f2
 have bk:=ck.x io (.inr rfl)
 have bp:=ck.x (nx+17) (.inl (by omega))
 have hB:aO z [nx,nx+2,nx+17,io]:=AM.apart (by simp;omega) (by simp;omega)
 simp only[aO,bG] at hB
 have f:=ck.Q6 B.pl B.sl (G:=H2) (fun id S=>rfl)
 have g:=ck
 obtain⟨wc,hc,pc,vc,tc,mp,rp,mv,rv,D,g1,g2,g3,g4,g5,g6,g7,g8,g9,ga,gb⟩:=ck.get
 subst D
 have lt:=g.names.lt
 have n3:=lt 3 (by omega)
 have av:=g.names.av
 by_cases e:k<3
 ·rw[zg e] at O
  cases hr:i.ready.getD k default with
  |false=>
   repeat' first|apply vI<;>(simp only[go_sem,nL,L,p,M,hr,hg,hB];try simp (disch:=omega) only[Iw])|apply vT (by omega)|refine⟨by omega,?_⟩|fail
   all_goals exact dv _ _ _ (k+1,ad,_,s1,E1,io,cap) noF _ (by omega) (by dsimp only;omega) (by dsimp only;repeat' first|exact C1|refine xqI rfl rfl ?_|refine xqP (by omega) rfl rfl ?_|refine xqO (by omega) rfl rfl (by rfl) ?_|fail) aE ⟨by dsimp only;omega,by dsimp only;omega,⟨B,g.frame (by omega) (fun _ _ _=>rfl),p,⟨m,U,o2,o3⟩,cd,a⟩,O.none (U6 hr)⟩
  |true=>
   repeat' first| (first|apply vI|refine GZ B e hr f (fun r ju=> ?_))<;>(simp only[go_sem,nL,L,p,M,hr,hg,hB])|apply vT (by omega)|refine⟨by omega,?_⟩|fail
   rcases ju with⟨ho,rfl⟩|⟨st,dx,ho,rfl⟩
   · (try simp only[go_sem,nL,L,p,M,hB]);repeat' first|apply vI<;>(simp only[go_sem,nL,L,p,M,hB];try simp (disch:=omega) only[Iw])|fail
     all_goals exact dv _ _ _ (k+1,ad,_,s1,E1,io,cap) noF _ (by omega) (by dsimp only;omega) (by dsimp only;repeat' first|exact C1|refine xqI rfl rfl ?_|refine xqP (by omega) rfl rfl ?_|refine xqO (by omega) rfl rfl (by rfl) ?_|fail) aE ⟨by dsimp only;omega,by dsimp only;omega,⟨B,g.frame (by omega) (fun _ _ _=>rfl),p,⟨m,U,o2,o3⟩,cd,a⟩,O.none ho⟩
   ·obtain⟨_,_,ka,nq⟩:=HR B e ho;obtain⟨po,kc,do_,dc,gs,gp,gd⟩:=gb st dx;obtain⟨d,hd⟩: ∃d,(aS s1 st).done.getD 0 default=d:=⟨_,rfl⟩
    obtain⟨md,rd,d1,d2,d3,d4,d5,d6⟩:=gd.ex;have d7:rd[do_]?=some (aT d):=(by have:(rd.drop do_)[0]?=some (aT d):=(by rw[d2,abW,<-hd];simp[List.getD,ka]);rwa [ab4,Nat.add_zero] at this);have k3: ∀(W:aA) (b:Nat),msk (z+b) [14] W (ad 3)=W (ad 3):=fun W b=>mk1 (by omega);have kx: ∀(W:aA) (b:Nat),msk (z+b) [14] W (nx+17)=W (nx+17):=fun W b=>mk1 (by omega);have V:aO z [ad 3,ad (15+st)]:=AM.apart (by simp;intro he;have:=g.names.inj 3 (15+st) (by omega) (by omega) he;omega) (by simp;exact⟨n3,lt (15+st) (by omega)⟩);simp only[aO,bG] at V;(try simp only[go_sem,nL,L,p,M,g2,gs,d1,d7,k3,kx,hB,V]);repeat' first| (first|apply vI|refine GZ B e hr f (fun r2 kf=> ?_))<;>(simp only[go_sem,nL,L,p,M,g2,gs,d1,d7,k3,kx,hB,V])|apply vT (by omega)|fail
    rcases kf with⟨h',_⟩|⟨ob,_,hj,rfl⟩
    ·rw[ho] at h';cases h'
    rw[ho] at hj;cases hj;have br:List.take E1.length (E1.map eEv)=E1.map eEv:=abM (by simp);have bw:(E1.map eEv).length=E1.length:=abT ..;(try simp only[go_sem,nL,L,p,M,g2,gs,d1,d7,k3,kx,U,br,bw,hB,V]);repeat' first|apply vI<;>(simp only[go_sem,nL,L,p,M,g2,gs,d1,d7,k3,kx,U,br,bw,hB,V])| (with_reducible first|refine fun(cap:Nat) (cl:_<=cap)=> ?_|refine fun(hq:_<=cap)=> ?_)|refine⟨by omega,?_⟩|fail
    generalize E:aA.set _ (z+28) _=G2;have kt:G2 (z+28)=some ⟨3,cap,(E1++[(⟨3,k,d.n⟩:Ev)]).map eEv⟩:=(by rw[<-E,aA.aI,abU];rfl);have Y: ∀id,id<z->id≠io->G2 id=H2 id:=fun id h3 h4=>by rw[<-E,aA.aB (by omega),aA.aB (by omega),aA.cC h4]
    clear E;have ah:=jG.swap (b:=z+28) (n':=z+34) g Y (by omega) (by omega);refine PW (X:=fun id=>id<nx+18\/id=z+28) hb B e hr ah fun H' nx' ao P dy F t=> ?_;have I:=(t (nx+17) (.inl (by omega))).trans ((Y (nx+17) (by omega) (by omega)).trans p);have ky:=(t (z+28) (.inr rfl)).trans kt;have ca:=XR hb B (o:=pJ i s1 k) (fun m hm=>HR B e hm);obtain⟨dz,eb,ed,ei,ej,_,_,_,_,j,_⟩:=F.get;subst j;(try simp only[go_sem,nL,I]);repeat' first|apply vI<;>(simp only[go_sem,nL,I];try simp (disch:=omega) only[Iw])|fail
    have cp:Lg s1 (pJ i s1 k)=[⟨3,k,d.n⟩]:=(by rw[ho,<-hd];rfl);have Z:=O.next;rw[cp] at Z;exact dv _ _ _ (k+1,ao,_,SG c s1 (pJ i s1 k),E1++[⟨3,k,d.n⟩],z+28,cap) noF _ (by omega) (by dsimp only;omega) (by dsimp only;rw[abL,List.length_singleton];repeat' first|exact C1|refine xqI rfl rfl ?_|refine xqP (by omega) rfl rfl ?_|refine xqO (by omega) rfl rfl (by rfl) ?_|fail) aE ⟨by dsimp only;omega,by dsimp only;rw[abL,List.length_singleton];omega,⟨ca,F.frame (by omega) (fun id J y=>aA.aB fun he=>y (.inl (by omega))),aA.aI,⟨cap,by dsimp only;rw[aA.aB (by omega)];exact ky,by dsimp only;rw[abL,List.length_singleton];omega,abG _⟩,.inr (by dsimp only;omega),fun id J y=>by rw[aA.aB (by omega),t id (.inl (by omega)),Y id (by omega) (by omega)];exact a id J y⟩,Z⟩
 ·have eo:k=3:=by omega
  subst eo;obtain⟨ep,la⟩:=LOE.nil O;subst ep;repeat' first|apply vI<;>(simp only[go_sem])|apply vF (by omega)|fail
  refine aJ.cG (β:=Nat×(Nat->Nat)×List D1×CSt×List Ev×Nat×Nat) (fun u=>en [(10,dI u.1),(8,.one (.c (.ptr 5 (nx+17) 0 0))),(7,.one (.c (.osl 3 u.2.2.2.2.2.1 0 u.2.2.2.2.1.length u.2.2.2.2.2.2))),(5,.one (.c (.ptr 3 (nx+2) 0 0))),(3,.one (.c (.ptr 3 nx 0 0)))])
   (fun u H1 n1=>u.1<=4/\u.2.2.2.2.1.length<=3+u.1/\EvI c nx G H1 n1 u.2.1 u.2.2.1 u.2.2.2.1 u.2.2.2.2.1 u.2.2.2.2.2.1 u.2.2.2.2.2.2/\LOE c (lZ i) ([0,1,2,3].drop u.1) u.2.2.2.1 u.2.2.2.2.1 (MB c i s) (E1++gV c (D9 c i s) (FJ c i (D9 c i s)))) (fun u=>4-u.1) (0,ad,_,D9 c i s,E1,io,cap)
   ⟨noF,_,by dsimp only;repeat' first|exact C1|refine xqI rfl rfl ?_|refine xqP (by omega) rfl rfl ?_|refine xqO (by omega) rfl rfl (by rfl) ?_|fail,aE,by dsimp only;omega,by dsimp only;omega,⟨B,g.frame (by omega) (fun _ _ _=>rfl),p,⟨m,U,o2,o3⟩,cd,a⟩,⟨rfl,rfl⟩⟩ ?_
  clear g a L p M hB f g1 g2 g3 g4 g5 g6 g7 g8 g9 ga gb lt n3 av U o2 o3 B bp bk;obtain⟨T1,ht⟩: ∃T1,T1=E1++gV c (D9 c i s) (FJ c i (D9 c i s)):=⟨_,rfl⟩
  rw[<-ht];rintro⟨k,cx,ox,s2,E2,q,aa⟩ H3 l lb ⟨hk,et,hE,O⟩ KM ew;dsimp only at hk et hE O;obtain⟨C,ah,p,⟨m2,U,o2,o3⟩,aw,a⟩:=hE;have L:=(a nx (by omega) (by omega)).trans f0;have M:=(a (nx+2) (by omega) (by omega)).trans f2;have bk:=ah.x q (.inr rfl);have bp:=ah.x (nx+17) (.inl (by omega));have hB:aO l [nx,nx+2,nx+17,q]:=AM.apart (by simp;omega) (by simp;omega);simp only[aO,bG] at hB;have f:=ah.Q6 C.pl C.sl (G:=H3) (fun id S=>rfl);have g:=ah;obtain⟨wc,hc,pc,vc,tc,mp,rp,mv,rv,D,g1,g2,g3,g4,g5,g6,g7,g8,g9,ga,gb⟩:=ah.get;subst D;have lt:=g.names.lt;have n3:=lt 3 (by omega);have av:=g.names.av;by_cases e:k<4
  ·rw[rz e] at O;have ca:=XR hb C (o:=lZ i s2 k) (fun m hm=>HS C e hm)
   cases hr:i.mW.getD k default with
   |true=>
    repeat' first|apply vI<;>(simp only[go_sem,nL,L,p,M,hr,da,hB];try simp (disch:=omega) only[Iw])|apply vT (by omega)|refine⟨by omega,?_⟩|fail
    all_goals exact ew _ _ _ (k+1,cx,_,s2,E2,q,aa) noF _ (by omega) (by dsimp only;omega) (by dsimp only;repeat' first|exact C1|refine xqI rfl rfl ?_|refine xqP (by omega) rfl rfl ?_|refine xqO (by omega) rfl rfl (by rfl) ?_|fail) aE ⟨by dsimp only;omega,by dsimp only;omega,⟨C,g.frame (by omega) (fun _ _ _=>rfl),p,⟨m2,U,o2,o3⟩,aw,a⟩,O.none (MV (.inl hr))⟩
   |false=>
    by_cases T:0<(aS s2 k).pipe.length/\(eA s2 k).left=0/\(aS s2 k).done.length<2
    ·obtain⟨po,kc,do_,dc,gs,gp,gd⟩:=gb k e;obtain⟨d,hd⟩: ∃d,(aS s2 k).pipe.getD 0 default=d:=⟨_,rfl⟩
     obtain⟨md,rd,d1,d2,d3,d4,d5,d6⟩:=gp.ex;have d7:rd[po]?=some (eCJ d):=(by have:(rd.drop po)[0]?=some (eCJ d):=(by rw[d2,abW,<-hd];simp[List.getD,T.1]);rwa [ab4,Nat.add_zero] at this);have pa:=T.1;have V:aO l [cx 3,cx (11+k)]:=AM.apart (by simp;intro he;have:=g.names.inj 3 (11+k) (by omega) (by omega) he;omega) (by simp;exact⟨n3,lt (11+k) (by omega)⟩);simp only[aO,bG] at V;have br:List.take E2.length (E2.map eEv)=E2.map eEv:=abM (by simp);have bw:(E2.map eEv).length=E2.length:=abT ..
     have lk:lZ i s2 k=some (.work k):=by
      unfold lZ
      rw[if_neg (fun h=>by
       rcases h with h|h
       ·rw[hr] at h;cases h
       ·have:=T.1;omega),if_neg (by have:=T.2.1;omega),if_pos T.2.2]
     repeat' first| (first|apply vI|apply pG C e f)<;>(simp only[go_sem,nL,L,p,M,g2,gs,d1,d7,hr,da,T,U,br,bw,hB,V])|apply vT (by omega)| (with_reducible first|refine fun(cap:Nat) (cl:_<=cap)=> ?_|refine fun(hq:_<=cap)=> ?_)|refine⟨by omega,?_⟩|fail
     generalize E:aA.set _ (l+34) _=G2;have ma:G2 (l+34)=some ⟨3,cap,(E2++[(⟨2,d.who,d.n⟩:Ev)]).map eEv⟩:=(by rw[<-E,aA.aI,abU];rfl);have Y: ∀id,id<l->id≠q->G2 id=H3 id:=fun id h3 h4=>by rw[<-E,aA.aB (by omega),aA.aB (by omega),aA.cC h4]
     clear E;have N:=jG.swap (b:=l+34) (n':=l+47) g Y (by omega) (by omega);refine GV (X:=fun id=>id<nx+18\/id=l+34) hb C e hr N fun H' nx' ao P dy F t=> ?_;have I:=(t (nx+17) (.inl (by omega))).trans ((Y (nx+17) (by omega) (by omega)).trans p);have cq:=(t (l+34) (.inr rfl)).trans ma;obtain⟨dz,eb,ed,ei,ej,_,_,_,_,j,_⟩:=F.get;subst j;(try simp only[go_sem,nL,I]);repeat' first|apply vI<;>(simp only[go_sem,nL,I];try simp (disch:=omega) only[Iw])|fail
     have cp:Lg s2 (lZ i s2 k)=[⟨2,d.who,d.n⟩]:=(by rw[lk,<-hd];rfl);have Z:=O.next;rw[cp] at Z;exact ew _ _ _ (k+1,ao,_,SG c s2 (lZ i s2 k),E2++[⟨2,d.who,d.n⟩],l+34,cap) noF _ (by omega) (by dsimp only;omega) (by dsimp only;rw[abL,List.length_singleton];repeat' first|exact C1|refine xqI rfl rfl ?_|refine xqP (by omega) rfl rfl ?_|refine xqO (by omega) rfl rfl (by rfl) ?_|fail) aE ⟨by dsimp only;omega,by dsimp only;rw[abL,List.length_singleton];omega,⟨ca,F.frame (by omega) (fun id J y=>aA.aB fun he=>y (.inl (by omega))),aA.aI,⟨cap,by dsimp only;rw[aA.aB (by omega)];exact cq,by dsimp only;rw[abL,List.length_singleton];omega,abG _⟩,.inr (by dsimp only;omega),fun id J y=>by rw[aA.aB (by omega),t id (.inl (by omega)),Y id (by omega) (by omega)];exact a id J y⟩,Z⟩
    ·have cp:Lg s2 (lZ i s2 k)=[]:=by
      unfold lZ
      split
      ·rfl
      ·split;·rfl
       ·split;·rename_i q1 q2 q3;have hv:0<(aS s2 k).pipe.length:=Nat.pos_of_ne_zero fun h0=>q1 (.inr h0);have pb:=((C.slv k e).left 0 hv).1.1;exact absurd ⟨hv,by unfold eA at q2 ⊢;omega,q3⟩ T
        ·rfl
     repeat' first| (first|apply vI|apply pG C e f)<;>(simp only[go_sem,nL,L,p,M,hr,da,T,hB])|apply vT (by omega)|refine⟨by omega,?_⟩|fail
     refine GV (X:=fun id=>id<nx+18\/id=q) hb C e hr (g.frame (nx':=l+24) (by omega) (fun _ _ _=>rfl)) fun H' nx' ao P dy F t=> ?_
     have I:=(t (nx+17) (.inl (by omega))).trans p
     have cq:=(t q (.inr rfl)).trans U
     obtain⟨dz,eb,ed,ei,ej,_,_,_,_,j,_⟩:=F.get
     subst j
     (try simp only[go_sem,nL,I]);repeat' first|apply vI<;>(simp only[go_sem,nL,I];try simp (disch:=omega) only[Iw])|fail
     have Z:=O.next
     rw[cp,ab3] at Z
     exact ew _ _ _ (k+1,ao,_,SG c s2 (lZ i s2 k),E2,q,aa) noF _ (by omega) (by dsimp only;omega) (by dsimp only;repeat' first|exact C1|refine xqI rfl rfl ?_|refine xqP (by omega) rfl rfl ?_|refine xqO (by omega) rfl rfl (by rfl) ?_|fail) aE ⟨by dsimp only;omega,by dsimp only;omega,⟨ca,F.frame (by omega) (fun id J y=>aA.aB fun he=>y (.inl (by omega))),aA.aI,⟨m2,by dsimp only;rw[aA.aB (by omega)];exact cq,o2,o3⟩,aw,fun id J y=>by rw[aA.aB (by omega),t id (.inl (by omega))];exact a id J y⟩,Z⟩
  ·have fh:k=4:=(by omega);subst fh;obtain⟨ep,me⟩:=LOE.nil O;subst ep;repeat' first|apply vI<;>(simp only[go_sem])|apply vF (by omega)|fail
   have mh:([[D1.v (.bool false)],[D1.v (.bool false)],[D1.v (.bool false)]]:List (List D1))=[false,false,false].map fE:=rfl;rw[mh];generalize fi:aA.set H3 (l+2) _=G3;have tu:G3 (l+2)=some ⟨1,3,[false,false,false].map fE⟩:=(by rw[<-fi];exact aA.aI);have Y: ∀id,id<l->G3 id=H3 id:=fun id h3=>by rw[<-fi,aA.aB (by omega)]
   clear fi;have N:=jG.add (b:=l+2) (n':=l+5) g Y (by omega) (by omega);have hy:=(Y q bk).trans U;have hz:=(Y (nx+17) bp).trans p;have ia: ∀id,id<nx+17->id≠nx+4->G3 id=G id:=fun id J y=>(Y id (by omega)).trans (a id J y);have mi:q<l:=bk;have pj:nx+18<=l:=bp;obtain⟨ub,ml⟩: ∃ub,ub=l+2:=⟨_,rfl⟩
   rw[<-ml] at tu N ⊢
   refine aJ.cG (β:=Nat×(Nat->Nat)×List D1×CSt×List Bool) (fun u=>en [(12,dI u.1),(11,.one (.c (.osl 1 ub 0 3 3))),(8,.one (.c (.ptr 5 (nx+17) 0 0))),(7,.one (.c (.osl 3 q 0 E2.length aa))),(5,.one (.c (.ptr 3 (nx+2) 0 0))),(3,.one (.c (.ptr 3 nx 0 0)))])
    (fun u H1 n1=>u.1<=4/\COk c u.2.2.2.1/\u.2.2.2.2.length=3/\jG (fun id=>(id<nx+18\/id=q)\/id=ub) H1 n1 u.2.1 u.2.2.2.1 u.2.2.1/\H1 (nx+17)=some ⟨5,1,[u.2.2.1]⟩/\H1 ub=some ⟨1,3,u.2.2.2.2.map fE⟩/\FU c ([0,1,2,3].drop u.1) u.2.2.2.1 u.2.2.2.2 (JI c i s)/\H1 q=some ⟨3,m2,E2.map eEv⟩/\ ∀id,id<nx+17->id≠nx+4->H1 id=G id) (fun u=>4-u.1) (0,cx,_,MB c i s,[false,false,false])
    ⟨noF,_,by dsimp only;repeat' first|exact C1|refine xqI rfl rfl ?_|refine xqP (by omega) rfl rfl ?_|refine xqO (by omega) rfl rfl (by rfl) ?_|fail,aE,by dsimp only;omega,C,rfl,N.frame (by omega) (fun _ _ _=>rfl),hz,tu,rfl,hy,ia⟩ ?_
   clear g a L p M hB f g1 g2 g3 g4 g5 g6 g7 g8 g9 ga gb lt n3 av U C bp bk N tu Y hy hz ia;rintro⟨k,fl,pk,s3,u3⟩ H4 ie mm ⟨hk,w,fm,N,p,eu,O,fo,a⟩ KN mn;dsimp only at hk w fm N p eu O;have L:=(a nx (by omega) (by omega)).trans f0;have M:=(a (nx+2) (by omega) (by omega)).trans f2;have g:=N;obtain⟨wc,hc,pc,vc,tc,mp,rp,mv,rv,D,g1,g2,g3,g4,g5,g6,g7,g8,g9,ga,gb⟩:=N.get;subst D;have hB:aO ie [nx,nx+2,nx+17,q]:=AM.apart (by simp;omega) (by simp;omega);simp only[aO,bG] at hB;by_cases e:k<4
   ·rw[rz e] at O;repeat' first|apply vI<;>(simp only[go_sem,nL,L,p,M,hB])|apply vT (by omega)|fail
    refine SJ (X:=fun id=>(id<nx+18\/id=q)\/id=ub) (um:=3) hb w e fm (g.frame (by omega) (fun _ _ _=>rfl)) (.inr rfl) eu (by omega) fun H' nx' ao P dy F mq t=> ?_;have I:=(t (nx+17) (.inl (.inl (by omega))) (by omega)).trans p;have cq:=(t q (.inl (.inr rfl)) (by omega)).trans fo;obtain⟨dz,eb,ed,ei,ej,_,_,_,_,j,_⟩:=F.get;subst j;obtain⟨ca,mr⟩:=Fy (u:=u3) hb w e fm;(try simp only[go_sem,nL,I]);repeat' first|apply vI<;>(simp only[go_sem,nL,I];try simp (disch:=omega) only[Iw])|fail
    exact mn _ _ _ (k+1,ao,_,(LI c s3 u3 k).1,(LI c s3 u3 k).2) noF _ (by omega) (by dsimp only;omega) (by repeat' first|exact C1|refine xqI rfl rfl ?_|refine xqP (by omega) rfl rfl ?_|refine xqO (by omega) rfl rfl (by rfl) ?_|fail) aE ⟨by dsimp only;omega,ca,mr,F.frame (by omega) (fun id J y=>aA.aB fun he=>y (.inl (.inl (by omega)))),aA.aI,by rw[aA.aB (by omega)];exact mq,O.Vw,by rw[aA.aB (by omega)];exact cq,fun id J y=>by rw[aA.aB (by omega),t id (.inl (.inl (by omega))) (by omega)];exact a id J y⟩
   ·have fh:k=4:=(by omega);subst fh;have O:s3=JI c i s:=O;subst O;repeat' first|apply vI<;>(simp only[go_sem])|apply vF (by omega)|fail
    have fp:jG (fun id=>id<nx+18\/id=q) H4 ie fl (JI c i s) _:=g.sub fun id h=>.inl h;obtain⟨A,hA⟩: ∃A,A=JI c i s:=⟨_,rfl⟩
    rw[<-hA] at fp w;have mw:=w.pl
    refine aJ.cG (β:=Nat×List Ev×Nat×Nat) (fun u=>en [(13,dI u.1),(8,.one (.c (.ptr 5 (nx+17) 0 0))),(7,.one (.c (.osl 3 u.2.2.1 0 u.2.1.length u.2.2.2))),(5,.one (.c (.ptr 3 (nx+2) 0 0))),(3,.one (.c (.ptr 3 nx 0 0)))])
     (fun u H1 n1=>u.1<=3/\u.2.1=E2++(List.range u.1).flatMap (TQ c i A)/\u.2.1.length<=7+u.1/\EvI c nx G H1 n1 fl _ A u.2.1 u.2.2.1 u.2.2.2) (fun u=>3-u.1) (0,E2,q,aa)
     ⟨noF,_,by dsimp only;repeat' first|exact C1|refine xqI rfl rfl ?_|refine xqP (by omega) rfl rfl ?_|refine xqO (by omega) rfl rfl (by rfl) ?_|fail,aE,by dsimp only;omega,by simp,by dsimp only;omega,⟨w,fp.frame (by omega) (fun _ _ _=>rfl),by rw[hA];exact p,⟨m2,fo,o2,o3⟩,aw,a⟩⟩ ?_
    clear g N p eu fo a L M hB g1 g2 g3 g4 g5 g6 g7 g8 g9 ga gb fp o2 o3;rintro⟨k,E3,cc,bb⟩ H5 ab nd ⟨hk,cr,fs,hE⟩ KO gf;dsimp only at hk cr fs hE;obtain⟨_,R,p,⟨m5,U,o2,o3⟩,ct,a⟩:=hE;have L:=(a nx (by omega) (by omega)).trans f0;have M:=(a (nx+2) (by omega) (by omega)).trans f2;have bk:=R.x cc (.inr rfl);have bp:=R.x (nx+17) (.inl (by omega));have hB:aO ab [nx,nx+2,nx+17,cc]:=AM.apart (by simp;omega) (by simp;omega);simp only[aO,bG] at hB;have f:=R.Q6 w.pl w.sl (G:=H5) (fun id S=>rfl);obtain⟨pn,pq,pr,ps,qb,qf,qi,qj,qx,bh,g1,g2,g3,g4,g5,g6,g7,g8,g9,ga,gb⟩:=R.get;cases bh;have lt:=R.names.lt;have n2:=lt 2 (by omega);have av:=R.names.av;by_cases e:k<3
    ·cases hr:i.send.getD k default with
     |false=>
      have cw:TQ c i A k=[]:=(by unfold TQ;rw[if_neg fun h=>by rw[hr] at h;cases h.1]);repeat' first|apply vI<;>(simp only[go_sem,nL,L,p,M,hr,df,hB];try simp (disch:=omega) only[Iw])|apply vT (by omega)|refine⟨by omega,?_⟩|fail
      all_goals exact gf _ _ _ (k+1,E3,cc,bb) noF _ (by omega) (by dsimp only;omega) (by dsimp only;repeat' first|exact C1|refine xqI rfl rfl ?_|refine xqP (by omega) rfl rfl ?_|refine xqO (by omega) rfl rfl (by rfl) ?_|fail) aE ⟨by dsimp only;omega,by dsimp only;rw[aq,cw,ab3];exact cr,by dsimp only;omega,⟨w,R.frame (by omega) (fun _ _ _=>rfl),p,⟨m5,U,o2,o3⟩,ct,a⟩⟩
     |true=>
      by_cases T:(aL A k).queue.length<2/\(aL A k).next<(c.cN.getD k default).length
      ·have cw:TQ c i A k=[⟨1,k,(aL A k).next⟩]:=(by unfold TQ;rw[if_pos ⟨hr,T⟩]);obtain⟨qo,qc,oc,gr,gq,go⟩:=ga k e;have ih:aO ab [fl 2]:=AM.apart (by simp) (by simp;exact n2);simp only[aO,bG] at ih;have br:List.take E3.length (E3.map eEv)=E3.map eEv:=abM (by simp);have bw:(E3.map eEv).length=E3.length:=abT ..;repeat' first| (first|apply vI|apply vS hb w e f)<;>(simp only[go_sem,nL,L,p,M,g1,gr,hr,df,T,U,br,bw,hB,ih];try simp (disch:=omega) only[Iw])|apply vT (by omega)| (with_reducible first|refine fun(cap:Nat) (cl:_<=cap)=> ?_|refine fun(hq:_<=cap)=> ?_)|refine⟨by omega,?_⟩|fail
       generalize E:aA.set _ (ab+23) _=G2;have ng:G2 (ab+23)=some ⟨3,cap,(E3++[(⟨1,k,(aL A k).next⟩:Ev)]).map eEv⟩:=(by rw[<-E,aA.aI,abU];rfl);have Y: ∀id,id<ab->id≠cc->G2 id=H5 id:=fun id h3 h4=>by rw[<-E,aA.aB (by omega),aA.aB (by omega),aA.cC h4]
       clear E;have nn:=jG.swap (b:=ab+23) (n':=ab+28) R Y (by omega) (by omega);exact gf _ _ _ (k+1,E3++[(⟨1,k,(aL A k).next⟩:Ev)],ab+23,cap) noF _ (by omega) (by dsimp only;omega) (by dsimp only;rw[abL,List.length_singleton];repeat' first|exact C1|refine xqI rfl rfl ?_|refine xqP (by omega) rfl rfl ?_|refine xqO (by omega) rfl rfl (by rfl) ?_|fail) aE ⟨by dsimp only;omega,by dsimp only;rw[aq,cw,<-abY,<-cr],by dsimp only;rw[abL,List.length_singleton];omega,⟨w,nn,(Y (nx+17) (by omega) (by omega)).trans p,⟨cap,ng,by dsimp only;rw[abL,List.length_singleton];omega,abG _⟩,.inr (by dsimp only;omega),fun id J y=>(Y id (by omega) (by omega)).trans (a id J y)⟩⟩
      ·have cw:TQ c i A k=[]:=(by unfold TQ;rw[if_neg fun h=>T h.2]);repeat' first| (first|apply vI|apply vS hb w e f)<;>(simp only[go_sem,nL,L,p,M,hr,df,T,hB];try simp (disch:=omega) only[Iw])|apply vT (by omega)|refine⟨by omega,?_⟩|fail
       all_goals exact gf _ _ _ (k+1,E3,cc,bb) noF _ (by omega) (by dsimp only;omega) (by dsimp only;repeat' first|exact C1|refine xqI rfl rfl ?_|refine xqP (by omega) rfl rfl ?_|refine xqO (by omega) rfl rfl (by rfl) ?_|fail) aE ⟨by dsimp only;omega,by dsimp only;rw[aq,cw,ab3];exact cr,by dsimp only;omega,⟨w,R.frame (by omega) (fun _ _ _=>rfl),p,⟨m5,U,o2,o3⟩,ct,a⟩⟩
    ·have eo:k=3:=(by omega);subst eo;have gi:E3=E9 c i s:=(by rw[cr,tq,List.nil_append,me,ht,la,<-hA,Sx mw]);repeat' first|apply vI<;>(simp only[go_sem])|apply vF (by omega)|fail
     rw[<-gi] at h;exact hQ _ _ _ _ _ (.inr rfl) rfl (h _ _ cc bb m5 (by omega) (by omega) U o2 o3 fun id S=>by rw[a id (by omega) (by omega)];exact ff id S)
variable{l:List CIn}
theorem bx(B: ∀{H:aA} {nx:Nat} {K:afC},K (dB true) H nx->afB BC [dA (bI c),dA (bK s),dS (l.map eIn)] H nx K)(Y:bH c)(hs:COk c s)(hl:l.length<=300)(hi: ∀i∈l,tR i)
 (h: ∀H' nx',nx<=nx'->(∀id,id<nx->H' id=H id)->K (dA (bK (uC c s l))) H' nx'):afB iC [dA (bI c),dA (bK s),dS (l.map eIn)] H nx K:=by
 apply aC.kH
 refine NV rfl fun Q hQ=> ?_
 unfold pC
 repeat' first| (first|apply vI|apply B|refine fT (hs.sz Y) (fun H' nx' nm cells hx n hP o=> ?_))<;>(simp only[go_sem,nL])|fail
 have L:cells.length=5:=by obtain⟨_,_,_,_,_,rfl,_⟩:=n.ex;rfl
 have M:cells++List.drop cells.length [D1.osl 0 0 0 0 0,.osl 0 0 0 0 0,.osl 0 0 0 0 0,.osl 0 0 0 0 0,.osl 0 0 0 0 0]=cells:=by rw[L];simp
 refine⟨L,by omega,?_⟩
 rw[M]
 try apply kI
 repeat' first|apply vI<;>(simp only[go_sem])|fail
 refine aJ.KT fun C t=> ?_
 have v: ∀id,id<nx+3->C id=H' id:=fun id f=>by rw[t,aA.aB (by omega)]
 have c0:C nx=some ⟨3,1,[bI c]⟩:=by rw[v _ (by omega),o _ (by omega)];simp only[aA.set,abI,Nat.reduceEqDiff,if_false,if_true,adK,reduceIte]
 have c2:C (nx+2)=some ⟨5,1,[[.osl 0 0 0 0 0,.osl 0 0 0 0 0,.osl 0 0 0 0 0,.osl 0 0 0 0 0,.osl 0 0 0 0 0]]⟩:=by rw[v _ (by omega),o _ (by omega)];simp only[aA.set,abJ,Nat.reduceEqDiff,abK,if_false,if_true,reduceIte]
 have aa: ∀id,id<nx->C id=H id:=fun id f=>by rw[v _ (by omega),o _ (by omega)];simp only[aA.set,show ¬id=nx by omega,show ¬id=nx+1 by omega,show ¬id=nx+2 by omega,if_false]
 have gR:Rep (fun id=>id<nx+3) C nx' (nx+10) nm s:=by have w:=fun k g=>hP.rng k g;refine⟨⟨cells,by rw[t];exact aA.aI,n.frame fun k g=>by have:=w k g;rw[t,aA.aB (by omega)]⟩,⟨hP.inj,fun k g=>by have:=w k g;omega,fun k g hn=>by have:=w k g;omega⟩,fun k g=>by have:=w k g;omega,⟨by omega,by omega⟩,fun id f=>by omega⟩
 clear t n hP o v
 refine aJ.cG (β:=Nat×(Nat->Nat)) (fun u=>en [(20,dI u.1),(19,dI l.length),(18,dS (l.map eIn)),(7,.one (.c (.ptr 5 (nx+10) 0 0))),(6,.one (.c (.ptr 5 (nx+2) 0 0))),(3,.one (.c (.ptr 3 nx 0 0)))])
  (fun u H1 x=>u.1<=l.length/\Rep (fun id=>id<nx+3) H1 x (nx+10) u.2 (uC c s (l.take u.1))/\ ∀id,id<nx+3->H1 id=C id)
  (fun u=>l.length-u.1) (0,nm) ⟨noF,_,by repeat' first|exact C1|refine xqI rfl rfl ?_|refine xqP (by omega) rfl rfl ?_|fail,aE,by dsimp only;omega,gR.frame (by omega) rfl (fun _ _=>rfl) (fun id (f:id<nx+3)=>⟨by omega,by omega,fun k g he=>gR.names.av k g (he▸f)⟩),fun _ _=>rfl⟩ ?_
 rintro⟨k,p⟩ H1 x bh ⟨g,n,y⟩ KL ab
 dsimp only at g n
 have g0:=(y nx (by omega)).trans c0
 have g2:=(y (nx+2) (by omega)).trans c2
 obtain⟨S,z⟩: ∃S,S=uC c s (l.take k):=⟨_,rfl⟩
 have J:COk c S:=by rw[z];exact(FL Y hs).1
 rw[<-z] at n
 have bk:=n.i0
 by_cases N:k<l.length
 ·obtain⟨i,f⟩: ∃i,i=l.getD k default:=⟨_,rfl⟩
  have ad:tR i:=by rw[f];exact hi _ (bT N)
  have hA:aO x [nx]:=AM.apart (by simp) (by simp;omega);simp only[aO,bG] at hA;repeat' first|apply vI<;>(simp only[go_sem,abH,abI,f.symm,g0,hA])|apply vT (by omega)|refine⟨by omega,?_⟩|fail
  have O:=n.names.lt;refine lK (X:=fun id=>id<nx+3) Y J ad (n.frame (by omega) (aA.aB (by omega)) (fun k g=>aA.aB (by have:=O k g;omega)) fun id P=>⟨by omega,by omega,fun k g he=>n.names.av k g (he▸P)⟩) fun H2 ah E a b d e ao R aw=> ?_;have o: ∀id,id<nx+3->H2 id=C id:=fun id f=>by rw[aw id f,aA.aB (by omega)];exact y id f
  have G:uC c s (l.take (k+1))=yR c i S:=by rw[HV N,<-z,<-f]
  simp only[go_sem];repeat' first|apply vI<;>(simp only[go_sem];try simp (disch:=omega) only[Iw])|fail
  exact ab _ _ _ (k+1,E) noF _ (by omega) (by dsimp only;omega) (by repeat' first|exact C1|refine xqI rfl rfl ?_|refine xqP (by omega) rfl rfl ?_|fail) aE ⟨by dsimp only;omega,by dsimp only;rw[G];exact R.frame (by omega) rfl (fun _ _=>rfl) (fun id f=>⟨by omega,by omega,fun k g he=>R.names.av k g (he▸f)⟩),o⟩
 ·have G:S=uC c s l:=by rw[z,abM (by omega)]
  obtain⟨Z,bb,T⟩:=n.st;obtain⟨wc,hc,pc,vc,tc,U,_⟩:=T.ex;have q:=bb;rw[U] at q;unfold F3 at q;repeat' first|apply vI<;>(simp only[go_sem,q])|apply vF (by omega)|fail
  have bp:=n.names.lt;refine aC.wj (args':=[dA (bK S)]) (without (fun j=>∃k,k<19/\j=p k) H1) (fun j=>∃k,k<19/\j=p k) rfl (fun i d0 d h1 h2=> ?_) eV ?_
  ·match i with
   |0=>simp only[List.getElem?_cons_zero,Option.some.injEq] at h1 h2;subst h1;subst h2;have:=nM (σ:=id) (nh:=x+4) (T.OY (F:=fun j=>∃k,k<19/\j=p k) (fun k g=>⟨k,g,rfl⟩) J.pl J.sl);rw[U] at this;exact iR this
   |i+1=>simp at h1
  refine fT (J.sz Y) fun H2 ah E m ao V W A=> ?_;have r:m.length=5:=by obtain⟨_,_,_,_,_,rfl,_⟩:=V.ex;rfl
  have I:m++List.drop m.length [D1.osl 0 0 0 0 0,.osl 0 0 0 0 0,.osl 0 0 0 0 0,.osl 0 0 0 0 0,.osl 0 0 0 0 0]=m:=by rw[r];simp
  have e2:H2 (nx+2)=some ⟨5,1,[[.osl 0 0 0 0 0,.osl 0 0 0 0 0,.osl 0 0 0 0 0,.osl 0 0 0 0 0,.osl 0 0 0 0 0]]⟩:=by rw[A _ (by omega),b9 (fun⟨k,g,he⟩=>n.names.av k g (show p k<nx+3 by omega))];exact g2
  simp only[go_sem,e2];refine⟨r,by omega,?_⟩;rw[I];try apply kI
  repeat' first|apply vI<;>(simp only[go_sem])|fail
  refine hQ _ _ _ _ _ (.inr rfl) (gP rfl aA.aI r) ⟨dA (bK (uC c s l)),_,fun j=>∃k,k<19/\j=E k,?_,eV,h _ _ (by omega) fun id f=> ?_⟩;·rw[<-G];exact iR (nM ((V.frame fun k g=>aA.aB (by have:=W.rng k g;omega)).OY (fun k g=>⟨k,g,rfl⟩) J.pl J.sl))
  ·rw[b9 (fun⟨k,g,he⟩=>by have:=W.rng k g;omega),aA.aB (by omega),A _ (by omega),b9 (fun⟨k,g,he⟩=>n.names.av k g (show p k<nx+3 by omega)),y id (by omega)];exact aa id f
theorem NP(hi:PM i)(h:K (dB (!inB i)) H nx):afB GC [dA (eIn i)] H nx K:=by
 refine aC.pure (args0:=[dA (eIn i)]) (R:=fun a=>a=dB (!inB i)) ?_ rfl (aK ⟨aF rfl,trivial⟩) (fun r hr=>hr▸h);clear h;refine aR.mk Tryz.func172 (by kernel_rfl) ZW rfl fun Q b=> ?_;unfold wD;repeat' first| (first|apply vI|apply vO (i:=i) hi.r hi.t hi.s)<;>(simp only[go_sem])|fail
 all_goals first|with_reducible refine aP b _ rfl rfl ?_|skip
 all_goals first|exact nU (by omega)|exact l8 (by omega)|exact fX (by omega)|rfl
theorem DM(a:iN c)(k:BB s)(hl:HE l)(h:K (dB (J1 c s l)) H nx):afB BC [dA (bI c),dA (bK s),dS (l.map eIn)] H nx K:=by
 refine aC.pure (args0:=[dA (bI c),dA (bK s),dS (l.map eIn)]) (R:=fun q=>q=dB (J1 c s l)) ?_ rfl (aK ⟨aF rfl,aF rfl,aF rfl,trivial⟩) (fun r hr=>hr▸h);clear h;refine aR.mk Tryz.func81 (by kernel_rfl) sk rfl fun Q m=> ?_;unfold CW;have t:=hl.len;cases e:cyB c s
 ·repeat' first| (first|apply vI|apply iB a k)<;>(simp only[go_sem,e])|fail
  refine aP m _ rfl rfl (by unfold J1;rw[e];rfl)
 by_cases o:l.length<=300
 ·have b:((l.length:Int)<=300)=True:=eq_true (by omega);have f:0<=bP (fun i=> !inB i) l↔l.all inB=false:=by rw[cU,<-aeV,abX];simp
  cases j:l.all inB
  ·have d:(0<=bP (fun i=> !inB i) l)=True:=eq_true (f.2 j);have g:decide (0<=bP (fun i=> !inB i) l)=true:=decide_eq_true (f.2 j);repeat' first| (first|apply vI|apply iB a k|refine kC (l:=l) (caps:=[]) (p:=fun i=> !inB i) (by omega) rfl (aF rfl) (lI rfl) (fun x n H nx K h=>NP (hl.all x n) h) ?_)<;>(simp only[go_sem,e,b,d,g])|fail
   refine aP m _ rfl rfl (by unfold J1;rw[e,j,adQ,adQ];rfl)
  ·have d:(0<=bP (fun i=> !inB i) l)=False:=eq_false fun h=>by rw[f.1 h] at j;cases j
   have g:decide (0<=bP (fun i=> !inB i) l)=false:=(by simp only[d,decide_false]);repeat' first| (first|apply vI|apply iB a k|refine kC (l:=l) (caps:=[]) (p:=fun i=> !inB i) (by omega) rfl (aF rfl) (lI rfl) (fun x n H nx K h=>NP (hl.all x n) h) ?_)<;>(simp only[go_sem,e,b,d,g])|fail
   refine aP m _ rfl rfl (by unfold J1;rw[e,j,decide_eq_true o];rfl)
 ·have b:((l.length:Int)<=300)=False:=eq_false (by omega);repeat' first| (first|apply vI|apply iB a k)<;>(simp only[go_sem,e,b])|fail
  refine aP m _ rfl rfl (by unfold J1;rw[e,decide_eq_false o];rfl)
theorem xM(a:iN c)(d:BB s)(hl:HE l)
 (h: ∀H' nx',nx<=nx'->(∀id,id<nx->H' id=H id)->K (dA (bK (gw c s l))) H' nx'):afB iC [dA (bI c),dA (bK s),dS (l.map eIn)] H nx K:=by
 cases b:J1 c s l
 ·unfold gw at h;rw[if_neg (by rw[b];decide)] at h;apply aC.kH;refine NV rfl fun Q e=> ?_;unfold pC;repeat' first| (first|apply vI|apply DM a d hl)<;>(simp only[go_sem,b,nL])|fail
  exact e _ _ _ _ _ (.inr rfl) (gS rfl aA.aI rfl) ⟨dA (bK HO),_,noF,iR (aG (.frz (.nil ..)) (aG (.frz (.nil ..)) (aG (.frz (.nil ..)) (aG (.frz (.nil ..)) (aG (.frz (.nil ..)) cJ))))),aE,h _ _ (by omega) fun id f=>by simp (disch:=omega) only[aA.aB]⟩
 ·unfold gw at h;rw[if_pos b] at h;obtain⟨g,i,j⟩:=AZ.1 b;obtain⟨k,hs⟩:=wH.1 g;exact bx (fun h=>DM a d hl (by rw[b];exact h)) k hs i j h
theorem WR(G:iN c)(hf:BB s)(I:HE l)
 (h: ∀H' nx' io m,nx<=io->io<nx'->H' io=some ⟨3,m,(RH c s l).map eEv⟩->(RH c s l).length<=m->(∀id,id<nx->H' id=H id)->K (dO 3 io (RH c s l).length (RH c s l).length) H' nx'):afB lA [dA (bI c),dA (bK s),dS (l.map eIn)] H nx K:=by
 cases hr:J1 c s l
 ·unfold RH at h;rw[if_neg (by rw[hr];decide)] at h;apply aC.kH;refine IF rfl fun Q W=> ?_;unfold mG;apply aJ.mM 3;repeat' first| (first|apply vI|apply DM G hf I)<;>(simp only[go_sem,hr,nL])|fail
  exact W _ _ _ _ _ (.inr rfl) rfl ⟨dO 3 nx 0 0,_,noF,VT (.BL ..),aE,h _ _ nx 0 (abG _) (by omega) (by simp (disch:=omega) only[aA.aB,aA.aI];rfl) (abG _) fun id f=>by simp (disch:=omega) only[aA.aB]⟩
 unfold RH at h
 rw[if_pos hr] at h
 obtain⟨h2,hl,hi⟩:=AZ.1 hr
 obtain⟨Y,hs⟩:=wH.1 h2
 refine IF rfl fun Q W=> ?_
 unfold mG
 repeat' first| (first|apply vI|apply DM G hf I|refine fT (hs.sz Y) (fun H' nx' nm cells hx q Z t=> ?_))<;>(simp only[go_sem,hr,nL])|fail
 have J:cells.length=5:=by obtain⟨_,_,_,_,_,rfl,_⟩:=q.ex;rfl
 have L:cells++List.drop cells.length [D1.osl 0 0 0 0 0,.osl 0 0 0 0 0,.osl 0 0 0 0 0,.osl 0 0 0 0 0,.osl 0 0 0 0 0]=cells:=by rw[J];simp
 refine⟨J,by omega,?_⟩
 rw[L]
 try apply kI
 repeat' first|apply vI<;>(simp only[go_sem])|fail
 apply aJ.mM 3
 refine aJ.KT fun C r=> ?_
 have M: ∀id,id<nx+2->C id=((H.set nx ⟨3,1,[bI c]⟩).set (nx+1) ⟨5,1,[bK s]⟩) id:=fun id f=>by rw[r,aA.aB (by omega),aA.aB (by omega),t id (by omega)]
 have c0:C nx=some ⟨3,1,[bI c]⟩:=by rw[M _ (by omega),aA.aB (by omega)];exact aA.aI
 have aa: ∀id,id<nx->C id=H id:=fun id f=>by rw[M _ (by omega),aA.aB (by omega),aA.aB (by omega)]
 have gR:Rep (fun id=>id<nx+2\/id=nx'+1+3) C (nx'+1+3+1) (nx+10) nm s:=by have v:=fun k g=>Z.rng k g;refine⟨⟨cells,by rw[r,aA.aB (by omega)];exact aA.aI,q.frame fun k g=>by have:=v k g;rw[r,aA.aB (by omega),aA.aB (by omega)]⟩,⟨Z.inj,fun k g=>by have:=v k g;omega,fun k g hn=>by have:=v k g;omega⟩,fun k g=>by have:=v k g;omega,⟨by omega,by omega⟩,fun id f=>by omega⟩
 have gO:C (nx'+1+3)=some ⟨3,0,[]⟩:=by rw[r];exact aA.aI
 clear r q Z t
 refine aJ.cG (β:=Nat×(Nat->Nat)×Nat×Nat) (fun u=>en [(20,dI u.1),(19,dI l.length),(18,dS (l.map eIn)),(8,.one (.c (.osl 3 u.2.2.1 0 (eE c s (l.take u.1)).length u.2.2.2))),(7,.one (.c (.ptr 5 (nx+10) 0 0))),(3,.one (.c (.ptr 3 nx 0 0)))])
  (fun u H1 j=>u.1<=l.length/\nx+2<=u.2.2.1/\Rep (fun id=>id<nx+2\/id=u.2.2.1) H1 j (nx+10) u.2.1 (uC c s (l.take u.1))/\(∀id,id<nx+2->H1 id=C id)/\ ∃m,H1 u.2.2.1=some ⟨3,m,(eE c s (l.take u.1)).map eEv⟩/\(eE c s (l.take u.1)).length<=u.2.2.2/\u.2.2.2<=m)
  (fun u=>l.length-u.1) (0,nm,nx'+1+3,0) ⟨noF,_,by(repeat' first|exact C1|refine xqI rfl rfl ?_|refine xqP (by omega) rfl rfl ?_| (with_reducible apply C2)| ((with_reducible apply C0);exact CC)| ((with_reducible apply D0);apply CJ)|fail);all_goals exact .BL ..,aE,by dsimp only;omega,by dsimp only;omega,gR,fun _ _=>rfl,0,gO,by simp[eE],abG _⟩ ?_
 rintro⟨k,bk,io,cap⟩ H1 j bp ⟨g,N,q,D,m,V,g2,g3⟩ KL ab
 dsimp only at g N q V g2 g3
 have g0:=(D nx (by omega)).trans c0
 obtain⟨O,o⟩: ∃O,O=eE c s (l.take k):=⟨_,rfl⟩
 obtain⟨S,w⟩: ∃S,S=uC c s (l.take k):=⟨_,rfl⟩
 have hS:COk c S:=by rw[w];exact(FL Y hs).1
 rw[<-w] at q
 rw[<-o] at V g2
 have br:=q.x io (.inr rfl)
 have ad:=q.i0
 have bw:O.length<=3000:=by have p:=EB (c:=c) (l:=l.take k) (s:=s);rw[<-o,ab5] at p;omega
 by_cases E:k<l.length
 ·obtain⟨i,f⟩: ∃i,i=l.getD k default:=⟨_,rfl⟩
  have ah:tR i:=by rw[f];exact hi _ (bT E)
  have hA:aO j [nx,io]:=AM.apart (by simp;omega) (by simp;omega);simp only[aO,bG] at hA;rw[<-o];repeat' first|apply vI<;>(simp only[go_sem,abH,abI,f.symm,g0,hA])|apply vT (by omega)|refine⟨by omega,?_⟩|fail
  have A:=q.names.lt;refine lK (X:=fun id=>id<nx+2\/id=io\/(j<=id/\id<j+12)) Y hS ah (q.frame (by omega) (aA.aB (by omega)) (fun k g=>aA.aB (by have:=A k g;omega)) fun id n=> ?_) fun H2 ao aw a b d e ca y P=> ?_
  ·refine⟨by omega,fun he=> ?_,fun k g he=> ?_⟩
   ·rcases n with p|p|p;·omega
    ·exact ad.2 (.inr (he▸p))
    ·omega
   ·have:=A k g;rcases n with p|p|p;·exact q.names.av k g (.inl (he▸p))
    ·exact q.names.av k g (.inr (he▸p))
    ·omega
  have f1:H2 io=some ⟨3,m,O.map eEv⟩:=by rw[P io (.inr (.inl rfl)),aA.aB (by omega)];exact V
  have t: ∀id,id<nx+2->H2 id=C id:=fun id f=>by rw[P id (.inl f),aA.aB (by omega)];exact D id f
  have cc:=MI (c:=c) (i:=i) (s:=S);have R:aO ao [nx,io,j+5,j+10]:=AM.apart (by simp;omega) (by simp;omega);simp only[aO,bG] at R;have hz:(io=j+10)=False:=eq_false (by omega);simp only[go_sem,abH,f1,hA,R,hz];have F:eE c s (l.take (k+1))=O++E9 c i S:=by rw[NW E,<-o,<-w,<-f]
  have bb:uC c s (l.take (k+1))=yR c i S:=by rw[HV E,<-w,<-f]
  refine⟨g3,by omega,fun B T cd=> ?_⟩;try apply kI
  repeat' first|apply vI<;>(simp only[go_sem];try simp (disch:=omega) only[Iw])|fail
  have z:=y.names.av;have U:=y.i0;have cf:=y.names.lt;refine ab _ _ _ (k+1,aw,j+10,B) noF _ (by omega) (by dsimp only;omega) (by dsimp only;rw[F,abL];repeat' first|exact C1|refine xqI rfl rfl ?_|refine xqP (by omega) rfl rfl ?_|refine xqO (by omega) rfl rfl (by rfl) ?_|fail) aE ⟨by dsimp only;omega,by dsimp only;omega,?_,fun id f=> ?_,B,?_,?_,abG _⟩
  ·dsimp only;rw[bb];refine y.frame (by omega) ?_ (fun k g=> ?_) fun id n=> ?_;·rw[aA.aB (fun he=>U.2 (.inr (.inr ⟨by omega,by omega⟩))),aA.cC (fun he=>U.2 (.inr (.inl he)))]
   ·rw[aA.aB (fun he=>z k g (.inr (.inr ⟨by omega,by omega⟩))),aA.cC (fun he=>z k g (.inr (.inl he)))]
   ·rcases n with p|p;·exact⟨by omega,by omega,fun k g he=>z k g (.inl (he▸p))⟩
    ·exact⟨by omega,by omega,fun k g he=>z k g (.inr (.inr ⟨by omega,by omega⟩))⟩
  ·rw[aA.aB (by omega),aA.cC (by omega)];exact t id f
  ·dsimp only;rw[F,abU];exact aA.aI
  ·dsimp only;rw[F,abL];exact T
 ·rw[<-o];have bh:O=eE c s l:=by rw[o,abM (by omega)]
  repeat' first| (first|apply vI|apply IV (l:=O) (by omega) g2 (by omega) V)<;>(simp only[go_sem])|apply vF (by omega)|fail
  rw[<-bh] at h;exact W _ _ _ _ _ (.inr rfl) rfl (h _ _ io m (by omega) (by omega) aA.aI (by omega) fun id f=>by rw[aA.aB (by omega),D id (by omega)];exact aa id f)
theorem HQ(a:iN c)(d:BB s)(hl:HE l)
 (h: ∀H' nx',nx<=nx'->(∀id,id<nx->H' id=H id)->K (dS ((RH c s l).map eEv)) H' nx'):afB lA [dA (bI c),dA (bK s),dS (l.map eIn)] H nx K:=
 aC.kH (WR a d hl fun H' nx' io m g i e k f=>⟨dS ((RH c s l).map eEv),_,fun j=>j=io,pL HF e rfl (abG _) rfl,C6,h _ _ (by omega) fun id b=>by rw[aA.cC (by omega)];exact f id b⟩)
theorem CS(hl:HE l)(h:K (dB (l.all inB)) H nx):afB DF [dS (l.map eIn)] H nx K:=by
 refine aC.pure (args0:=[dS (l.map eIn)]) (R:=fun e=>e=dB (l.all inB)) ?_ rfl (aK ⟨aF rfl,trivial⟩) (fun r hr=>hr▸h);clear h;refine aR.mk Tryz.func74 (by kernel_rfl) im rfl fun Q d=> ?_;unfold AS;have f:=hl.len;repeat' first|apply vI<;>(simp only[go_sem])|fail
 (refine aJ.loop (α:={k:Nat//k<=l.length/\(∀i,i<k->inB (l.getD i default)=true)}) (fun u=>en [(3,dI u.1),(0,dS (l.map eIn))]) (fun _=>.nil) _ (fun u=>l.length-u.1) ⟨0,by omega,(by intros;first|trivial|omega)⟩ (bF (abG _) (by repeat' first|exact C1|refine xqI rfl rfl ?_|fail)) ?_);(rintro⟨k,j,hinv⟩ m c);by_cases b:k<l.length
 ·have a:=hl.all _ (bT b);cases hi:inB (l.getD k default)
  ·repeat' first| (first|apply vI|apply DH (i:=l.getD k default) a.r a.t a.s)<;>(simp only[go_sem,hi])|apply vT (by omega)|refine⟨by omega,?_⟩|fail
   exact aP d (dB false) rfl rfl (congrArg dB (by
    cases h:l.all inB
    ·rfl
    ·rw[abX.1 h _ (bT b)] at hi;cases hi))
  ·repeat' first| (first|apply vI|apply DH (i:=l.getD k default) a.r a.t a.s)<;>(simp only[go_sem,hi];try simp (disch:=omega) only[Iw])|apply vT (by omega)|refine⟨by omega,?_⟩|fail
   (refine c _ _ _ ⟨k+1,by omega,bL hinv hi⟩ (by omega) (by(try dsimp only);omega) (bF (abG _) (by repeat' first|exact C1|refine xqI rfl rfl ?_|fail)))
 ·repeat' first|apply vI<;>(simp only[go_sem])|apply vF (by omega)|fail
  exact aP d (dB true) rfl rfl (congrArg dB (by
   refine(abX.2 fun x g=> ?_).symm
   obtain⟨i,hi,rfl⟩:=List.getElem_of_mem g
   have:=hinv i (by omega)
   rwa [show l.getD i default=l[i] by simp[List.getD,hi]] at this))
theorem NO(r:iN c)(X:BB s)(hl:HE l)
 (h: ∀H' nx',nx<=nx'->(∀id,id<nx->H' id=H id)->K (dA (bK (gw c s l))) H' nx'):afB rK [dA (bI c),dA (bK s),dS (l.map eIn)] H nx K:=by
 have bh:=hl.len
 apply aC.kH
 refine bR.mk Tryz.func30 (by kernel_rfl) fc rfl fun Q hQ=> ?_
 unfold uQ
 have m:J1 c s l=false->∀{G:aA} {e2:Env} {n2:Nat},nx<=n2->(∀id,id<nx->G id=H id)->e2 6= .one (.c (.ptr 5 (nx+2) 0 0))->Q .ret e2 (G.set (nx+2) ⟨5,1,[[.osl 0 0 0 0 0,.osl 0 0 0 0 0,.osl 0 0 0 0 0,.osl 0 0 0 0 0,.osl 0 0 0 0 0]]⟩) n2:=fun Y G e2 n2 g1 g2 g3=>by unfold gw at h;rw[if_neg (by rw[Y];decide)] at h;exact hQ _ _ _ _ _ (.inr rfl) (gS g3 aA.aI rfl) ⟨dA (bK HO),_,noF,iR (aG (.frz (.nil ..)) (aG (.frz (.nil ..)) (aG (.frz (.nil ..)) (aG (.frz (.nil ..)) (aG (.frz (.nil ..)) cJ))))),aE,h _ _ g1 fun id a=>by rw[aA.aB (by omega)];exact g2 id a⟩
 have t:J1 c s l=(cyB c s&&(decide (l.length<=300)&&l.all inB)):=rfl
 cases C:cyB c s
 ·repeat' first| (first|apply vI|apply gF r X)<;>(simp only[go_sem,C,nL])|fail
  exact m (by rw[t,C];rfl) (by omega) (fun id a=>by simp (disch:=omega) only[aA.aB]) rfl
 by_cases hn:l.length<=300
 case neg=>
  have v:(300<(l.length:Int))=True:=eq_true (by omega);repeat' first| (first|apply vI|apply gF r X)<;>(simp only[go_sem,C,v,nL])|fail
  exact m (by rw[t,decide_eq_false hn,C];rfl) (by omega) (fun id a=>by simp (disch:=omega) only[aA.aB]) rfl
 have v:(300<(l.length:Int))=False:=eq_false (by omega)
 have F:decide (300<(l.length:Int))=false:=decide_eq_false (by omega)
 cases Z:l.all inB
 ·repeat' first| (first|apply vI|apply gF r X|apply CS hl)<;>(simp only[go_sem,C,v,F,Z,nL])|fail
  exact m (by rw[t,Z,adQ,adQ]) (by omega) (fun id a=>by simp (disch:=omega) only[aA.aB]) rfl
 clear m
 have Y:J1 c s l=true:=by rw[t,C,Z,decide_eq_true hn];rfl
 have hi:=(AZ.1 Y).2.2
 unfold gw at h
 rw[if_pos Y] at h
 obtain⟨hb,hs⟩:=wH.1 C
 have aa:=hs.sz hb
 repeat' first| (first|apply vI|apply gF r X|apply CS hl|refine rL aa (fun H1 ab nm cells hx hR I w=> ?_))<;>(simp only[go_sem,C,v,F,Z,nL])|fail
 have g:cells.length=5:=by obtain⟨_,_,_,_,_,rfl,_⟩:=hR.ex;rfl
 have b:cells++List.drop cells.length [D1.osl 0 0 0 0 0,.osl 0 0 0 0 0,.osl 0 0 0 0 0,.osl 0 0 0 0 0,.osl 0 0 0 0 0]=cells:=by rw[g];simp
 refine⟨g,by omega,?_⟩
 rw[b]
 generalize E:aA.set H1 (nx+19) _=G
 have J:G (nx+19)=some ⟨5,1,[cells]⟩:=by rw[<-E];exact aA.aI
 have g0:G nx=some ⟨3,1,[bI c]⟩:=by rw[<-E,aA.aB (by omega),w _ (by omega)];simp (disch:=omega) only[aA.aB,aA.aI]
 have g2:G (nx+2)=some ⟨5,1,[[.osl 0 0 0 0 0,.osl 0 0 0 0 0,.osl 0 0 0 0 0,.osl 0 0 0 0 0,.osl 0 0 0 0 0]]⟩:=by rw[<-E,aA.aB (by omega),w _ (by omega)];simp (disch:=omega) only[aA.aB,aA.aI]
 have gf: ∀id,id<nx->G id=H id:=fun id a=>by rw[<-E,aA.aB (by omega),w _ (by omega)];simp (disch:=omega) only[aA.aB]
 have L:jG (fun j=>j<nx+20) G ab nm s cells:=⟨hR.frame fun k e=>by have:=I.rng k e;rw[<-E,aA.aB (by omega)],⟨I.inj,fun k e=>(I.rng k e).2,fun k e hj=>by have:=(I.rng k e).1;have hj:nm k<nx+20:=hj;omega⟩,fun id a=>by have a:id<nx+20:=a;omega⟩
 clear E w hR I
 apply kI
 repeat' first|apply vI<;>(simp only[go_sem])|fail
 refine aJ.cG (β:=Nat×CSt×(Nat->Nat)×List D1) (fun u=>en [(8,dI u.1),(7,.one (.c (.ptr 5 (nx+19) 0 0))),(6,.one (.c (.ptr 5 (nx+2) 0 0))),(3,.one (.c (.ptr 3 nx 0 0))),(2,dS (l.map eIn))])
  (fun u M n3=>u.1<=l.length/\u.2.1=uC c s (l.take u.1)/\jG (fun j=>j<nx+20) M n3 u.2.2.1 u.2.1 u.2.2.2/\M (nx+19)=some ⟨5,1,[u.2.2.2]⟩/\ ∀id,id<nx+19->M id=G id)
  (fun u=>l.length-u.1) (0,s,nm,cells) ⟨noF,_,by repeat' first|exact C1|refine xqI rfl rfl ?_|refine xqP (by omega) rfl rfl ?_|fail,aE,by dsimp only;omega,rfl,L.frame (by omega) fun _ _ _=>rfl,J,fun _ _=>rfl⟩ ?_
 clear L J g b
 rintro⟨k,s3,x,y⟩ M ad bk ⟨e,o,p,z,A⟩ KL ah
 dsimp only at e o p z
 have N:COk c s3:=by rw[o];exact(FL hb hs).1
 have s0:=(A nx (by omega)).trans g0
 have s2:=(A (nx+2) (by omega)).trans g2
 have g:=p.len
 have q:aO ad [nx,nx+2,nx+19]:=AM.apart (by simp) (by simp;omega)
 simp only[aO,bG] at q
 by_cases O:k<l.length
 ·obtain⟨i,a⟩: ∃i,i=l.getD k default:=⟨_,rfl⟩
  have ao:tR i:=by rw[a];exact hi _ (bT O)
  repeat' first| (first|apply vI|refine EH hb N ao (p.frame (by omega) fun id d1 _=>rfl) (fun H5 bp aw B br P R=> ?_))<;>(simp only[go_sem,s0,z,q,g,a.symm,nL])|apply vT (by omega)|refine⟨by omega,?_⟩|fail
  have S:=(R (nx+19) (by show nx+19<nx+20;omega)).trans z;have D:=P.len;have b:List.drop 5 y=[]:=by rw[<-g];simp
  (try simp only[go_sem,nL,S,D,b,ab3,q,nL]);repeat' first|apply vI<;>(simp only[go_sem,nL,S,D,b,ab3,q,nL];try simp (disch:=omega) only[Iw])|refine⟨by omega,?_⟩|fail
  refine ah _ _ _ (k+1,yR c i s3,aw,B) noF _ (by omega) (by dsimp only;omega) (by repeat' first|exact C1|refine xqI rfl rfl ?_|refine xqP (by omega) rfl rfl ?_|fail) aE ⟨by dsimp only;omega,by dsimp only;rw[o,HV O,a],by dsimp only;exact P.frame (by omega) fun id _ d2=>aA.aB fun he=>d2 (by show id<nx+20;omega),aA.aI,fun id a=> ?_⟩;rw[aA.aB (by omega),R id (by show id<nx+20;omega)];exact A id a
 ·repeat' first|apply vI<;>(simp only[go_sem,s0,s2,z,q,g,nL])|apply vF (by omega)|fail
  have f:=N.sz hb;have T:=p.names.av;rw[abM (by omega)] at o;rw[<-o] at h;refine aC.wj (args':=[dA (bK s3)]) (without (fun j=>∃k,k<19/\j=x k) M) (fun j=>∃k,k<19/\j=x k) rfl (Oc (iR (nM (p.rep.OY (fun k e=>⟨k,e,rfl⟩) f.pl f.sl)))) eV ?_;refine rL f fun H4 bw bb d ca U V W=> ?_;have w2:H4 (nx+2)=some ⟨5,1,[[.osl 0 0 0 0 0,.osl 0 0 0 0 0,.osl 0 0 0 0 0,.osl 0 0 0 0 0,.osl 0 0 0 0 0]]⟩:=by rw[W _ (by omega),b9 (fun⟨k,e,he⟩=>T k e (by show x k<nx+20;omega))];exact s2
  have wf: ∀id,id<nx->H4 id=H id:=fun id a=>by rw[W _ (by omega),b9 (fun⟨k,e,he⟩=>T k e (by show x k<nx+20;omega)),A id (by omega)];exact gf id a
  have n:d.length=5:=by obtain⟨_,_,_,_,_,rfl,_⟩:=U.ex;rfl
  have b:d++List.drop d.length [D1.osl 0 0 0 0 0,.osl 0 0 0 0 0,.osl 0 0 0 0 0,.osl 0 0 0 0 0,.osl 0 0 0 0 0]=d:=by rw[n];simp
  (try simp only[go_sem,nL,w2,n,b,nL]);repeat' first|apply vI<;>(simp only[go_sem,nL,w2,n,b,nL])|fail
  refine hQ _ _ _ _ _ (.inr rfl) (gS rfl aA.aI n) ⟨dA (bK s3),_,fun j=>∃k,k<19/\j=bb k,?_,eV,h _ _ (by omega) fun id a=> ?_⟩;·exact iR (nM ((U.frame fun k e=>aA.aB (by have:=V.rng k e;omega)).OY (fun k e=>⟨k,e,rfl⟩) f.pl f.sl))
  ·rw[b9 (fun⟨k,e,he⟩=>by have:=V.rng k e;omega),aA.aB (by omega)];exact wf id a
theorem TZ(b:iN c)(k:BB s)(hi:PM i):afB mK [dA (bI c),dA (bK s),dA (eIn i)] .nil 0 fun r H' n'=>(r.free=true/\Vs H')/\ ∃io cap m,io<n'/\r=dO 3 io (evB c s i).length cap/\H' io=some ⟨3,m,(evB c s i).map eEv⟩/\(evB c s i).length<=cap/\cap<=m:=by
 apply aC.kH;refine SI b k hi fun H' nx' io cap m q f g l n t=> ?_;refine⟨_,without (fun j=>¬j=io) H',_,VT (vj f rfl),eV,⟨rfl,fun j o a=> ?_⟩,io,cap,m,f,rfl,(b9 (fun h=>h rfl)).trans g,l,n⟩;unfold without at a;split at a;·cases a
 ·rename_i p;cases Classical.not_not.1 p;rw[g] at a;cases a;intro r hr d e;obtain⟨x,_,rfl⟩:=abP.1 hr;unfold eEv at e;simp only[abQ,acG,or_false] at e;rcases e with rfl|rfl|rfl<;>rfl
theorem UY{X:Nat->Prop}{nm:Nat->Nat}{cells:List D1}(a:iN c)(b:BB s)(hi:PM i)(hp:s.bC.length=3)(hs:s.bN.length=4)(d:jG X H nx nm s cells)
 (h: ∀H' nx' io cap m,nx<=io->io<nx'->H' io=some ⟨3,m,(evB c s i).map eEv⟩->(evB c s i).length<=cap->cap<=m->(∀id,id<nx->H' id=H id)->K (dO 3 io (evB c s i).length cap) H' nx'):afB mK [dA (bI c),dA cells,dA (eIn i)] H nx K:=by
 refine(TZ a b hi).aa5 rfl (aK ⟨aF rfl,d.Q6 hp hs (G:=H) (fun id e=>rfl),aF rfl,trivial⟩) ?_
 rintro r H' n' ⟨io,cap,m,f,rfl,g,k,l⟩
 exact h _ _ (nx+io) cap m (by omega) (by omega) (by rw[Sg f g,xo]) k l fun j n=>Tf n
theorem IG(o:iN c)(hf:BB s)(hl:HE l)
 (h: ∀H' nx',nx<=nx'->(∀id,id<nx->H' id=H id)->K (dS ((RH c s l).map eEv)) H' nx'):afB nJ [dA (bI c),dA (bK s),dS (l.map eIn)] H nx K:=by
 have ck:=hl.len
 apply aC.kH
 refine bR.mk Tryz.func32 (by kernel_rfl) UF rfl fun Q hQ=> ?_
 unfold qO
 have g:J1 c s l=false->∀{G:aA} {e2:Env} {n2:Nat},nx<=n2->(∀id,id<nx->G id=H id)->e2 6= .one (.c (.osl 3 (nx+3) 0 0 0))->Q .ret e2 G n2:=fun S G e2 n2 g1 g2 g3=>by unfold RH at h;rw[if_neg (by rw[S];decide)] at h;exact hQ _ _ _ _ _ (.inr rfl) (congrArg some g3) ⟨dS (([]:List Ev).map eEv),_,noF,vZ,aE,h _ _ g1 g2⟩
 have v:J1 c s l=(cyB c s&&(decide (l.length<=300)&&l.all inB)):=rfl
 cases t:cyB c s
 ·repeat' first| (first|apply vI|apply gF o hf)<;>(simp only[go_sem,t,nL])|fail
  exact g (by rw[v,t];rfl) (by omega) (fun id a=>by simp (disch:=omega) only[aA.aB]) rfl
 by_cases hn:l.length<=300
 case neg=>
  have w:(300<(l.length:Int))=True:=eq_true (by omega);repeat' first| (first|apply vI|apply gF o hf)<;>(simp only[go_sem,t,w,nL])|fail
  exact g (by rw[v,decide_eq_false hn,t];rfl) (by omega) (fun id a=>by simp (disch:=omega) only[aA.aB]) rfl
 have w:(300<(l.length:Int))=False:=eq_false (by omega)
 have V:decide (300<(l.length:Int))=false:=decide_eq_false (by omega)
 cases ha:l.all inB
 ·repeat' first| (first|apply vI|apply gF o hf|apply CS hl)<;>(simp only[go_sem,t,w,V,ha,nL])|fail
  exact g (by rw[v,ha,adQ,adQ]) (by omega) (fun id a=>by simp (disch:=omega) only[aA.aB]) rfl
 clear g
 have S:J1 c s l=true:=by rw[v,t,ha,decide_eq_true hn];rfl
 have hi:=(AZ.1 S).2.2
 unfold RH at h
 rw[if_pos S] at h
 obtain⟨W,hs⟩:=wH.1 t
 have bb:=hs.sz W
 repeat' first| (first|apply vI|apply gF o hf|apply CS hl|refine rL bb (fun H1 bh nm cells hx hR X y=> ?_))<;>(simp only[go_sem,t,w,V,ha,nL])|fail
 have d:cells.length=5:=by obtain⟨_,_,_,_,_,rfl,_⟩:=hR.ex;rfl
 have e:cells++List.drop cells.length [D1.osl 0 0 0 0 0,.osl 0 0 0 0 0,.osl 0 0 0 0 0,.osl 0 0 0 0 0,.osl 0 0 0 0 0]=cells:=by rw[d];simp
 refine⟨d,by omega,?_⟩
 rw[e]
 generalize T:aA.set H1 (nx+21) _=G
 have Y:G (nx+21)=some ⟨5,1,[cells]⟩:=by rw[<-T];exact aA.aI
 have g0:G nx=some ⟨3,1,[bI c]⟩:=by rw[<-T,aA.aB (by omega),y _ (by omega)];simp (disch:=omega) only[aA.aB,aA.aI]
 have g3:G (nx+3)=some ⟨3,0,[]⟩:=by rw[<-T,aA.aB (by omega),y _ (by omega)];exact aA.aI
 have gf: ∀id,id<nx->G id=H id:=fun id a=>by rw[<-T,aA.aB (by omega),y _ (by omega)];simp (disch:=omega) only[aA.aB]
 have Z:jG (fun j=>j<nx+22\/j=nx+3) G bh nm s cells:=⟨hR.frame fun k F=>by have:=X.rng k F;rw[<-T,aA.aB (by omega)],⟨X.inj,fun k F=>(X.rng k F).2,fun k F hj=>by have:=(X.rng k F).1;omega⟩,fun id a=>by omega⟩
 clear T y hR X
 apply kI
 repeat' first|apply vI<;>(simp only[go_sem])|fail
 refine aJ.cG (β:=Nat×CSt×(Nat->Nat)×List D1×Nat×Nat) (fun u=>en [(9,dI u.1),(8,.one (.c (.ptr 5 (nx+21) 0 0))),(7,.one (.c (.osl 3 u.2.2.2.2.1 0 (eE c s (l.take u.1)).length u.2.2.2.2.2))),(3,.one (.c (.ptr 3 nx 0 0))),(2,dS (l.map eIn))])
  (fun u U n3=>u.1<=l.length/\u.2.1=uC c s (l.take u.1)/\jG (fun j=>j<nx+22\/j=u.2.2.2.2.1) U n3 u.2.2.1 u.2.1 u.2.2.2.1/\U (nx+21)=some ⟨5,1,[u.2.2.2.1]⟩/\(u.2.2.2.2.1=nx+3\/nx+22<=u.2.2.2.2.1)/\(∃m,U u.2.2.2.2.1=some ⟨3,m,(eE c s (l.take u.1)).map eEv⟩/\(eE c s (l.take u.1)).length<=u.2.2.2.2.2/\u.2.2.2.2.2<=m)/\ ∀id,id<nx+3->U id=G id)
  (fun u=>l.length-u.1) (0,s,nm,cells,nx+3,0) ⟨noF,_,by repeat' first|exact C1|refine xqI rfl rfl ?_|refine xqP (by omega) rfl rfl ?_| (with_reducible apply C2)| ((with_reducible apply C0);exact CC)| ((with_reducible apply D0);apply CJ)|fail,aE,by dsimp only;omega,rfl,Z.frame (by omega) fun _ _ _=>rfl,Y,.inl rfl,⟨0,g3,by simp[eE],abG _⟩,fun _ _=>rfl⟩ ?_
 clear Z Y d e g3
 rintro⟨k,I,cl,z,io,cap⟩ U f cp ⟨F,A,p,B,bk,⟨m,o1,o2,o3⟩,J⟩ KL bp
 dsimp only at F A p B bk o1 o2 o3
 have q:COk c I:=by rw[A];exact(FL W hs).1
 have s0:=(J nx (by omega)).trans g0
 have d:=p.len
 obtain⟨O,n⟩: ∃O,O=eE c s (l.take k):=⟨_,rfl⟩
 rw[<-n] at o1 o2
 have cq:=p.x io (.inr rfl)
 have cr:O.length<=3000:=by have t:=EB (c:=c) (l:=l.take k) (s:=s);rw[<-n,ab5] at t;omega
 have aa:aO f [nx,nx+21,io]:=AM.apart (by simp;omega) (by simp;omega)
 simp only[aO,bG] at aa
 by_cases L:k<l.length
 ·obtain⟨i,a⟩: ∃i,i=l.getD k default:=⟨_,rfl⟩
  have M:tR i:=by rw[a];exact hi _ (bT L)
  have br:evB c I i=E9 c i I:=Fp (wH.2 ⟨W,q⟩) (JA.2 M);rw[<-n];repeat' first|apply vI<;>(simp only[go_sem,s0,B,aa,d,a.symm,nL])|apply vT (by omega)|refine⟨by omega,?_⟩|fail
  refine UY o ((q.base W).tn.fit).1 M.fit q.pl q.sl (p.frame (by omega) fun _ _ _=>rfl) fun H4 N ie bw mE b1 b2 b3 b4 b5 b6=> ?_;rw[br] at b3 b4 ⊢;have ab:aO N [nx,nx+21,io,ie]:=AM.apart (by simp;omega) (by simp;omega);simp only[aO,bG] at ab;have f1:H4 io=some ⟨3,m,O.map eEv⟩:=(b6 io (by omega)).trans o1;have f0:=(b6 nx (by omega)).trans s0;have ca:=(b6 (nx+21) (by omega)).trans B;have ct:=MI (c:=c) (i:=i) (s:=I);have S:(io=ie)=False:=eq_false (by omega);simp only[go_sem,abH,f1,b3,S];refine⟨o3,by omega,fun r q1 q2=> ?_⟩;rw[<-abU];have ad:eE c s (l.take (k+1))=O++E9 c i I:=by rw[NW L,<-n,<-A,<-a]
  rw[<-ad];rw[show O.length+(E9 c i I).length=(eE c s (l.take (k+1))).length by rw[ad,abL]] at q1 ⊢;generalize P:aA.set _ (f+12) _=G5;have tb:G5 (f+12)=some ⟨3,r,(eE c s (l.take (k+1))).map eEv⟩:=by rw[<-P];exact aA.aI
  have tf: ∀id,id<f->id≠io->G5 id=U id:=fun id h3 h4=>by rw[<-P,aA.aB (by omega),aA.cC h4,b6 id (by omega)]
  clear P ab f1 f0 ca;have ah:=(tf (nx+21) (by omega) (by omega)).trans B;have t0:=(tf nx (by omega) (by omega)).trans s0;have cc:=jG.swap (b:=f+12) (n':=N) p tf (by omega) (by omega);have C:aO N [nx,nx+21,f+12]:=AM.apart (by simp;omega) (by simp;omega);simp only[aO,bG] at C;apply kI;repeat' first|apply vI<;>(simp only[go_sem,ah,t0,a.symm,C,d,nL])|refine⟨by omega,?_⟩|fail
  refine EH W q M (cc.frame (by omega) fun _ _ _=>rfl) fun H5 cw cd D cx ao R=> ?_;have aw:=(R (nx+21) (.inl (by omega))).trans ah;have E:=ao.len;have e:List.drop 5 z=[]:=by rw[<-d];simp
  (try simp only[go_sem,nL,aw,d,E,e,ab3,C,nL]);repeat' first|apply vI<;>(simp only[go_sem,nL,aw,d,E,e,ab3,C,nL];try simp (disch:=omega) only[Iw])|fail
  refine bp _ _ _ (k+1,yR c i I,cd,D,f+12,r) noF _ (by omega) (by dsimp only;omega) (by dsimp only;repeat' first|exact C1|refine xqI rfl rfl ?_|refine xqP (by omega) rfl rfl ?_|refine xqO (by omega) rfl rfl (by rfl) ?_|fail) aE ⟨by dsimp only;omega,by dsimp only;rw[A,HV L,a],by dsimp only;exact ao.frame (by omega) fun id _ d2=>aA.aB fun he=>d2 (.inl (by omega)),aA.aI,.inr (by dsimp only;omega),⟨r,by dsimp only;rw[aA.aB (by omega),R _ (.inr rfl)];exact tb,q1,abG _⟩,fun id a=> ?_⟩;rw[aA.aB (by omega),R id (.inl (by omega)),tf id (by omega) (by omega)];exact J id a
 ·rw[<-n];have cf:O=eE c s l:=by rw[n,abM (by omega)]
  repeat' first|apply vI<;>(simp only[go_sem])|apply vF (by omega)|fail
  rw[<-cf] at h;exact hQ _ _ _ _ _ (.inr rfl) rfl ⟨dS (O.map eEv),_,fun j=>j=io,pL HF o1 rfl o2 rfl,C6,h _ _ (by omega) fun id a=>by rw[aA.cC (by omega),J id (by omega)];exact gf id a⟩
theorem jd:afB i7 [dA (bK HO),dA (bK HO)] .nil 0 fun r _ _=>r.plain=true/\r=dB true:=by
 refine aR.mk Tryz.func29 (by kernel_rfl) P4 rfl fun Q l=> ?_;unfold nY;have d:bK HO=[.isl (([]:List Int).map aH),.isl (([]:List Int).map aH),.isl [],.isl [],.isl (([]:List Job).map aT)]:=rfl;rw[d];repeat' first| (first|apply vI|apply TH (a:=[]) (b:=[]) (u:=[]) (v:=[]) (by simp) (by simp) (by simp) (by simp)|refine F6 (a:=[]) (b:=[]) (by simp) (by simp) (fun j e=>by simp at e) (fun j e=>by simp at e) ?_)<;>(simp only[go_sem])|fail
 refine aJ.cG (β:=Nat) (fun _=>en [(5,dI 0),(3,.one (.c (.ptr 5 1 0 0))),(2,.one (.c (.ptr 5 0 0 0)))]) (fun _ H1 _=>H1 0=some ⟨5,1,[bK HO]⟩/\H1 1=some ⟨5,1,[bK HO]⟩) (fun u=>u) 0 ⟨noF,_,by repeat' first|exact C1|refine xqI rfl rfl ?_|refine xqP (by omega) rfl rfl ?_|fail,aE,rfl,rfl⟩ ?_;rintro _ H1 m h ⟨f,g⟩ q n;rw[d] at f g;repeat' first|apply vI<;>(simp only[go_sem,f,g])|apply vF (by omega)|fail
 refine aJ.cG (β:=Nat) (fun _=>en [(8,dI 0),(3,.one (.c (.ptr 5 1 0 0))),(2,.one (.c (.ptr 5 0 0 0)))]) (fun _ H2 _=>H2 0=some ⟨5,1,[bK HO]⟩/\H2 1=some ⟨5,1,[bK HO]⟩) (fun u=>u) 0 ⟨noF,_,by repeat' first|exact C1|refine xqI rfl rfl ?_|refine xqP (by omega) rfl rfl ?_|fail,aE,f,g⟩ ?_;rintro _ H2 o i ⟨b0,k⟩ s p;rw[d] at b0 k;repeat' first|apply vI<;>(simp only[go_sem,b0,k])|apply vF (by omega)|fail
 exact aP l _ rfl rfl rfl
theorem ni(h:K (dB true) H nx):afB i7 [dA (bK HO),dA (bK HO)] H nx K:=jd.pure rfl (aK ⟨aF rfl,aF rfl,trivial⟩) fun r hr=>hr▸h
end
end Go.Proofs.YtlncecohbakleaaGreat
