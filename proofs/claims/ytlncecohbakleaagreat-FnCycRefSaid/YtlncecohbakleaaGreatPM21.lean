/- Rules and contracts. -/
import Derived.Test.YtlncecohbakleaaGreatPM19
import Derived.Test.YtlncecohbakleaaGreatPM20
set_option linter.unusedVariables false
set_option linter.unusedSimpArgs false
set_option maxRecDepth 100000
set_option maxHeartbeats 8000000
namespace Go.AM
def Uz:CSt:=⟨[],[],[],[],[]⟩
def inB(i:CIn):Bool:=decide (i.ready.length=3/\i.nO.length=4/\i.send.length=3)
theorem vo{i:CIn}:inB i=true↔fw i:=decide_eq_true_iff
noncomputable def By(c:Cfg)(s:CSt)(i:CIn):CSt:=if cyB c s=true/\inB i=true then L4 c i s else Uz
noncomputable def evB(c:Cfg)(s:CSt)(i:CIn):List Ev:=if cyB c s=true/\inB i=true then WL c i s else []
variable{s:CSt}
theorem Ql{c:Cfg}{i:CIn}(a:cyB c s=true)(b:inB i=true):evB c s i=WL c i s:=if_pos ⟨a,b⟩
def Nf(s:CSt):Option Mic->List Ev
 |none=>[]
 |some m=>CZ s m
def LOE(c:Cfg)(f:CSt->Nat->Option Mic)(l:List Nat)(s:CSt)(E:List Ev)(S:CSt)(T:List Ev):Prop:=l6 c s (ET c f s l)=S/\E++iE c s (ET c f s l)=T
theorem LOE.next{c:Cfg}{f:CSt->Nat->Option Mic}{S:CSt}{k:Nat}{l:List Nat}{E T:List Ev}(h:LOE c f (k::l) s E S T):LOE c f l (TO c s (f s k)) (E++Nf s (f s k)) S T:=by
 unfold LOE at h
 cases a:f s k with
 |none=>rw[PF a] at h;exact⟨h.1,by rw[Nf,adR];exact h.2⟩
 |some m=>rw[PH a] at h;exact⟨h.1,by rw[adH];exact h.2⟩
theorem LOE.none{c:Cfg}{f:CSt->Nat->Option Mic}{s S:CSt}{k:Nat}{l:List Nat}{E T:List Ev}(h:LOE c f (k::l) s E S T)(a:f s k=none):LOE c f l s E S T:=by have:=h.next;rw[a,Nf,adR] at this;exact this
theorem LOE.nil{c:Cfg}{f:CSt->Nat->Option Mic}{s S:CSt}{E T:List Ev}(h:LOE c f [] s E S T):s=S/\E=T:=⟨h.1,by rw[<-h.2];exact(adR E).symm⟩
structure EvI(c:Cfg)(nx:Nat)(G H:aA)(nx1:Nat)(nm:Nat->Nat)(cl:List D1)(s:CSt)(E:List Ev)(io cap:Nat):Prop where
 ok:COk c s
 rep:kW (fun id=>id<nx+18\/id=io) H nx1 nm s cl
 x:H (nx+17)=some ⟨5,1,[cl]⟩
 out: ∃m,H io=some ⟨3,m,E.map eEv⟩/\E.length<=cap/\cap<=m
 io:io=nx+4\/nx+18<=io
 fr: ∀id,id<nx+17->id≠nx+4->H id=G id
theorem kW.swap{H G:aA}{n n' p io b:Nat}{nm:Nat->Nat}{e:List D1}(h:kW (fun id=>id<p\/id=io) H n nm s e)(f: ∀id,id<n->id≠io->G id=H id)(g:n<=b)(d:b<n'):kW (fun id=>id<p\/id=b) G n' nm s e:=
 ⟨h.rep.frame fun j c=>f _ (h.names.lt j c) fun he=>h.names.av j c (.inr he),⟨h.names.inj,fun j c=>by have:=h.names.lt j c;omega,fun j c d=>by
   rcases d with d|d
   ·exact h.names.av j c (.inl d)
   ·have:=h.names.lt j c;omega⟩,fun id a=>by
   rcases a with a|a
   ·have:=h.x id (.inl a);omega
   ·omega⟩
theorem kW.add{X:Nat->Prop}{H G:aA}{n n' b:Nat}{nm:Nat->Nat}{e:List D1}(h:kW X H n nm s e)(f: ∀id,id<n->G id=H id)(g:n<=b)(d:b<n'):kW (fun id=>X id\/id=b) G n' nm s e:=
 ⟨h.rep.frame fun j c=>f _ (h.names.lt j c),⟨h.names.inj,fun j c=>by have:=h.names.lt j c;omega,fun j c d=>by
   rcases d with d|d
   ·exact h.names.av j c d
   ·have:=h.names.lt j c;omega⟩,fun id a=>by
   rcases a with a|a
   ·have:=h.x id a;omega
   ·omega⟩
def U1(c:Cfg)(i:CIn)(s:CSt)(k:Nat):List Ev:=if i.send.getD k default=true/\(aN s k).queue.length<2/\(aN s k).next<(c.cH.getD k default).length then [⟨1,k,(aN s k).next⟩] else []
theorem Gw{c:Cfg}{i:CIn}{s:CSt}: ∀{l:List Nat} {x:CSt},l.Nodup->x.bJ.length=3->(∀k∈l,k<3/\aN x k=aN s k)->iE c x (ET c (NH c i) x l)=l.flatMap (U1 c i s)
 | [],x,_,_,_=>rfl
 |k::l,x,d,hp,hl=>by
  obtain⟨g,a⟩:=hl k (by simp);rw[aeA] at d;rw[afS];by_cases e:i.send.getD k default=true/\(aN s k).queue.length<2/\(aN s k).next<(c.cH.getD k default).length
  ·have f:NH c i x k=some (.ask k):=(by unfold NH;rw[a];exact if_pos e);rw[PH f];show CZ x (.ask k)++iE c (bS c x (.ask k)) (ET c (NH c i) (bS c x (.ask k)) l)=_;rw[Gw (l:=l) d.2 (by simp[bS,hp]) fun j b=>⟨(hl j (ad7 _ b)).1,?_⟩];·unfold U1;rw[if_pos e,CZ,a]
   ·rw[cJ (s:=x) rfl (by omega),if_neg (fun he=>d.1 (by rw[<-he];exact b))];exact(hl j (ad7 _ b)).2
  ·have f:NH c i x k=none:=(by unfold NH;rw[a];exact if_neg e);rw[PF f,Gw (l:=l) d.2 hp fun j b=>hl j (ad7 _ b)];unfold U1;rw[if_neg e];rfl
theorem Wt{c:Cfg}{i:CIn}(h:s.bJ.length=3):iE c s (XG c i s)=(List.range 3).flatMap (U1 c i s):=by unfold XG;exact Gw (s:=s) (by decide) h fun k a=>⟨SB a,rfl⟩
theorem gj{c:Cfg}{i:CIn}{k:Nat}:(List.range (k+1)).flatMap (U1 c i s)=(List.range k).flatMap (U1 c i s)++U1 c i s k:=by rw[ae4,agJ];simp
theorem Vz{c:Cfg}{i:CIn}(a:cyB c s=true)(b:inB i=true):By c s i=L4 c i s:=if_pos ⟨a,b⟩
end Go.AM
namespace Go.Proofs.YtlncecohbakleaaGreat
open Go Go.AM
attribute [local irreducible] aK wv aC vd wvH
section
variable{H:aA}{nx:Nat}{K:ag2}
variable{i:CIn}
theorem EP(j:i.ready.length<2^21)(k:i.nO.length<2^21)(l:i.send.length<2^21)(h:K (dB (inB i)) H nx):ag1 HI [dA (eIn i)] H nx K:=by
 refine aC.pure (args0:=[dA (eIn i)]) (R:=fun f=>f=dB (inB i)) ?_ rfl (aM ⟨aE rfl,trivial⟩) (fun r hr=>hr▸h);clear h;refine aR.mk Tryz.func106 (by kernel_rfl) vj rfl fun Q c=> ?_;unfold E0;by_cases b:i.ready.length=3
 ·by_cases d:i.nO.length=4
  ·by_cases e:i.send.length=3
   ·have a:inB i=true:=decide_eq_true ⟨b,d,e⟩;repeat' first| (first|apply vI|apply Y4 (by omega))<;>(simp only[go_sem,b,d,e])|fail
    all_goals exact aQ c _ rfl rfl (congrArg dB a.symm)
   ·have a:inB i=false:=decide_eq_false fun h=>e h.2.2;have g:decide ((i.send.length:Int)=3)=false:=decide_eq_false (by omega);repeat' first| (first|apply vI|apply Y4 (by omega))<;>(simp only[go_sem,b,d,g])|fail
    all_goals first|exact aQ c _ rfl rfl (congrArg dB a.symm)|omega
  ·have a:inB i=false:=decide_eq_false fun h=>d h.2.1;repeat' first| (first|apply vI|apply Y4 (by omega)|apply Y5 (by omega))<;>(simp only[go_sem,b])|fail
   all_goals first|exact aQ c _ rfl rfl (congrArg dB a.symm)|omega
 ·have a:inB i=false:=decide_eq_false fun h=>b h.1;repeat' first| (first|apply vI|apply Y5 (by omega))<;>(simp only[go_sem])|fail
  all_goals first|exact aQ c _ rfl rfl (congrArg dB a.symm)|omega
theorem KG(j:i.ready.length<2^21)(k:i.nO.length<2^21)(l:i.send.length<2^21)(h:K (dB (inB i)) H nx):ag1 BW [dA (eIn i)] H nx K:=by
 refine aC.pure (args0:=[dA (eIn i)]) (R:=fun f=>f=dB (inB i)) ?_ rfl (aM ⟨aE rfl,trivial⟩) (fun r hr=>hr▸h);clear h;refine aR.mk Tryz.func49 (by kernel_rfl) vi rfl fun Q c=> ?_;unfold EA;by_cases b:i.ready.length=3
 ·by_cases d:i.nO.length=4
  ·by_cases e:i.send.length=3
   ·have a:inB i=true:=decide_eq_true ⟨b,d,e⟩;repeat' first| (first|apply vI|apply Y4 (by omega))<;>(simp only[go_sem,b,d,e])|fail
    all_goals exact aQ c _ rfl rfl (congrArg dB a.symm)
   ·have a:inB i=false:=decide_eq_false fun h=>e h.2.2;have g:decide ((i.send.length:Int)=3)=false:=decide_eq_false (by omega);repeat' first| (first|apply vI|apply Y4 (by omega))<;>(simp only[go_sem,b,d,g])|fail
    all_goals first|exact aQ c _ rfl rfl (congrArg dB a.symm)|omega
  ·have a:inB i=false:=decide_eq_false fun h=>d h.2.1;repeat' first| (first|apply vI|apply Y4 (by omega)|apply Y5 (by omega))<;>(simp only[go_sem,b])|fail
   all_goals first|exact aQ c _ rfl rfl (congrArg dB a.symm)|omega
 ·have a:inB i=false:=decide_eq_false fun h=>b h.1;repeat' first| (first|apply vI|apply Y5 (by omega))<;>(simp only[go_sem])|fail
  all_goals first|exact aQ c _ rfl rfl (congrArg dB a.symm)|omega
theorem YK{c:Cfg}{s:CSt}(y:jJ c)(T:I0 s)(hi:WN i)
 (h: ∀H' nx',nx<=nx'->(∀id,id<nx->H' id=H id)->K (dA (dX (By c s i))) H' nx'):ag1 GG [dA (bO c),dA (dX s),dA (eIn i)] H nx K:=by
 obtain⟨l1,l2,l3⟩:=hi
 by_cases B:cyB c s=true/\inB i=true
 ·obtain⟨O,hs⟩:=YV.1 B.1;unfold By at h;rw[if_pos B] at h;obtain⟨r,t⟩:=B;apply aC.qC;refine LS rfl fun Q P=> ?_;unfold oP;repeat' first| (first|apply vI|apply oS y T|apply EP (i:=i) (by omega) (by omega) (by omega)|refine nZ (hs.sz O) (fun H' nx' nm cells hx U V m=> ?_))<;>(simp only[go_sem,r,t,nL])|fail
  have C:cells.length=5:=by obtain⟨_,_,_,_,_,rfl,_⟩:=U.ex;rfl
  have D:cells++List.drop cells.length [D1.osl 0 0 0 0 0,.osl 0 0 0 0 0,.osl 0 0 0 0 0,.osl 0 0 0 0 0,.osl 0 0 0 0 0]=cells:=by rw[C];simp
  refine⟨C,by omega,?_⟩;rw[D];try apply kI
  refine aK.QK fun A u=> ?_;have n: ∀id,id<nx+4->A id=H' id:=fun id l=>by rw[u,aA.aB (by omega)]
  have c0:A nx=some ⟨3,1,[bO c]⟩:=by rw[n _ (by omega),m _ (by omega)];simp only[aA.set,ac3,Nat.reduceEqDiff,if_false,if_true,ae8,reduceIte]
  have c2:A (nx+2)=some ⟨3,1,[eIn i]⟩:=by rw[n _ (by omega),m _ (by omega)];simp only[aA.set,ac4,Nat.reduceEqDiff,ac5,if_false,if_true,reduceIte]
  have c3:A (nx+3)=some ⟨5,1,[[.osl 0 0 0 0 0,.osl 0 0 0 0 0,.osl 0 0 0 0 0,.osl 0 0 0 0 0,.osl 0 0 0 0 0]]⟩:=by rw[n _ (by omega),m _ (by omega)];simp only[aA.set,ac4,Nat.reduceEqDiff,ac5,if_false,if_true,reduceIte]
  have W: ∀id,id<nx->A id=H id:=fun id l=>by rw[n _ (by omega),m _ (by omega)];simp only[aA.set,show ¬id=nx by omega,show ¬id=nx+1 by omega,show ¬id=nx+2 by omega,show ¬id=nx+3 by omega,if_false]
  have gR:Rep (fun id=>id<nx+4) A nx' (nx+15) nm s:=by have v:=fun k g=>V.rng k g;refine⟨⟨cells,by rw[u];exact aA.aJ,U.frame fun k g=>by have:=v k g;rw[u,aA.aB (by omega)]⟩,⟨V.inj,fun k g=>by have:=v k g;omega,fun k g hn=>by have:=v k g;omega⟩,fun k g=>by have:=v k g;omega,⟨by omega,by omega⟩,fun id l=>by omega⟩
  clear u U V m n;have hA:aT nx' [nx,nx+2]:=AM.apart (by simp) (by simp;omega);simp only[aT,bM] at hA;repeat' first|apply vI<;>(simp only[go_sem,ac2,ac3,c0,c2,hA])|fail
  refine CO (X:=fun id=>id<nx+4) O hs (vo.1 t) (gR.frame (by omega) rfl (fun _ _=>rfl) fun id E=>⟨by omega,by omega,fun k g he=>gR.names.av k g (he▸E)⟩) fun H2 Y o a b d e ab w G=> ?_;have I:COk c (L4 c i s):=wz O hs;generalize L4 c i s=S at*;obtain⟨R,Z,J⟩:=w.st;obtain⟨wc,hc,pc,vc,tc,L,_⟩:=J.ex;have p:=Z;rw[L] at p;unfold I6 at p;simp only[go_sem];repeat' first|apply vI<;>(simp only[go_sem,p])|fail
  have ad:=w.names.lt;refine aC.Jh (args':=[dA (dX S)]) (without (fun j=>∃k,k<19/\j=o k) H2) (fun j=>∃k,k<19/\j=o k) rfl (fun i d0 d r t=> ?_) kK ?_
  ·match i with
   |0=>simp only[List.getElem?_cons_zero,Option.some.injEq] at r t;subst r;subst t;have:=CL (σ:=id) (nh:=Y+3) (J.XD (F:=fun j=>∃k,k<19/\j=o k) (fun k g=>⟨k,g,rfl⟩) I.pl I.sl);rw[L] at this;exact oH this
   |i+1=>simp at r
  refine nZ (I.sz O) fun H3 ai aa f aj M N x=> ?_;have q:f.length=5:=by obtain⟨_,_,_,_,_,rfl,_⟩:=M.ex;rfl
  have z:f++List.drop f.length [D1.osl 0 0 0 0 0,.osl 0 0 0 0 0,.osl 0 0 0 0 0,.osl 0 0 0 0 0,.osl 0 0 0 0 0]=f:=by rw[q];simp
  have e3:H3 (nx+3)=some ⟨5,1,[[.osl 0 0 0 0 0,.osl 0 0 0 0 0,.osl 0 0 0 0 0,.osl 0 0 0 0 0,.osl 0 0 0 0 0]]⟩:=by rw[x _ (by omega),dM (fun⟨k,g,he⟩=>w.names.av k g (show o k<nx+4 by omega)),G _ (show nx+3<nx+4 by omega)];exact c3
  simp only[go_sem,e3];refine⟨q,by omega,?_⟩;rw[z];try apply kI
  repeat' first|apply vI<;>(simp only[go_sem])|fail
  refine P _ _ _ _ _ (.inr rfl) (iM rfl aA.aJ q) ⟨dA (dX S),_,fun j=>∃k,k<19/\j=aa k,?_,kK,h _ _ (by omega) fun id l=> ?_⟩;·exact oH (CL ((M.frame fun k g=>aA.aB (by have:=N.rng k g;omega)).XD (fun k g=>⟨k,g,rfl⟩) I.pl I.sl))
  ·rw[dM (fun⟨k,g,he⟩=>by have:=N.rng k g;omega),aA.aB (by omega),x _ (by omega),dM (fun⟨k,g,he⟩=>w.names.av k g (show o k<nx+4 by omega)),G _ (show id<nx+4 by omega)];exact W id l
 ·unfold By at h;rw[if_neg B] at h;apply aC.qC;refine LS rfl fun Q P=> ?_;unfold oP;have hz:dX Uz=[.isl [],.isl [],.isl [],.isl [],.isl []]:=rfl;by_cases r:cyB c s=true
  ·have t:inB i=false:=by cases hh:inB i;rfl;exact absurd ⟨r,hh⟩ B
   repeat' first| (first|apply vI|apply oS y T|apply EP (i:=i) (by omega) (by omega) (by omega))<;>(simp only[go_sem,r,t,nL])|fail
   exact P _ _ _ _ _ (.inr rfl) (jO rfl aA.aJ rfl) ⟨dA (dX Uz),_,noF,oH (aH (.frz (.nil ..)) (aH (.frz (.nil ..)) (aH (.frz (.nil ..)) (aH (.frz (.nil ..)) (aH (.frz (.nil ..)) cG))))),aI,h _ _ (by omega) fun id l=>by simp (disch:=omega) only[aA.aB]⟩
  ·have t:cyB c s=false:=by cases hh:cyB c s;rfl;exact absurd hh r
   repeat' first| (first|apply vI|apply oS y T)<;>(simp only[go_sem,t,nL])|fail
   exact P _ _ _ _ _ (.inr rfl) (jO rfl aA.aJ rfl) ⟨dA (dX Uz),_,noF,oH (aH (.frz (.nil ..)) (aH (.frz (.nil ..)) (aH (.frz (.nil ..)) (aH (.frz (.nil ..)) (aH (.frz (.nil ..)) cG))))),aI,h _ _ (by omega) fun id l=>by simp (disch:=omega) only[aA.aB]⟩
theorem Ts{τ:Nat->Nat}{n m:Nat}{l:List Ev}:bN.rn τ ⟨n,m,l.map eEv⟩=⟨n,m,l.map eEv⟩:=by refine mW fun r hr x a=> ?_;obtain⟨y,_,rfl⟩:=ac9.1 hr;exact adK.1 (MV y).2 x a
theorem vN(l:List Ev)(hl:l.length<2^21):ag1 fB [dS (l.map eEv)] (hp []) 0
 fun r H' n'=>∃cap,l.length<=cap/\n'=1/\H'=hp [(0,⟨3,cap,l.map eEv⟩)]/\r=dO 3 0 l.length cap:=by
 refine aR.mk Tryz.func199 (by kernel_rfl) uE rfl fun Q c=> ?_
 unfold eU
 refine aK.seq (aK.oB 3 ?_)
 repeat' first|apply vI<;>(simp only[go_sem])|refine Z7 (fun h=> ?_) fun h=> ?_| (with_reducible first|refine fun(cap:Nat) (d:_<=cap)=> ?_|refine fun(e:_<=cap)=> ?_|refine fun(b:Bool)=> ?_)| ((refine CK (fun h=> ?_) (fun h=> ?_))<;>try subst h)|refine⟨by omega,?_⟩|fail
 all_goals first
  | (have a:=ac1 cap
     (refine c _ _ _ _ _ 1 (dO 3 0 l.length cap) (hp [(0,⟨3,cap,l.map eEv⟩)]) _ _ (.inr rfl) rfl (fT [6] (by omega) (by repeat' first|exact C1| ((with_reducible apply C0);exact CQ (by omega) rfl rfl (by rfl) rfl)| ((with_reducible apply D0);apply CJ)|fail) ⟨⟨by simp,by simp[sgL],_,rfl,aY (aG MV _) rfl rfl⟩,trivial⟩ (by simp[sgL])) ?_)
     exact⟨cap,by omega,rfl,rfl,rfl⟩)
  | (have f:l=[]:=ad5 (by omega)
     subst f
     (refine c _ _ _ _ _ 1 (dO 3 0 0 0) (hp [(0,⟨3,0,([]:List Ev).map eEv⟩)]) _ _ (.inr rfl) rfl (fT [0] (by omega) (by repeat' first|exact C1| ((with_reducible apply C0);exact CC)| ((with_reducible apply D0);apply CJ)|fail) ⟨⟨by simp,by simp[sgL],_,rfl,aY (aG MV _) rfl rfl⟩,trivial⟩ (by simp[sgL])) ?_)
     exact⟨0,ac1 _,rfl,rfl,rfl⟩)
theorem vE{l:List Ev}(hl:l.length<2^21)(h: ∀cap,l.length<=cap->K (dO 3 nx l.length cap) (H.set nx ⟨3,cap,l.map eEv⟩) (nx+1)):ag1 fB [dS (l.map eEv)] H nx K:=by
 refine(vN l hl).DD (l0:=[]) [] rfl ⟨aE rfl,trivial⟩ trivial (by simp) (by simp) (by simp) fun r H' n' _ ⟨cap,a,b,c,d⟩=> ?_;have h:=h cap a;subst b;subst c;subst d;have e:back (tau 0 nx (nth [])) (hp [(0,⟨3,cap,l.map eEv⟩)]) 1 H=H.set nx ⟨3,cap,l.map eEv⟩:=by simp only[back,hp,aA.set,tau,adV,if_true,if_false,Nat.sub_zero,Nat.add_zero,Option.map_some,Ts,aA.fI]
 rw[<-e] at h;exact h
theorem GJ{l:List Ev}(hl:l.length<2^21)(h: ∀H' nx' io m,nx<=io->io<nx'->H' io=some ⟨3,m,l.map eEv⟩->l.length<=m->(∀id,id<nx->H' id=H id)->K (dO 3 io l.length l.length) H' nx'):ag1 kP [dS (l.map eEv)] H nx K:=by
 refine bW.mk Tryz.func107 (by kernel_rfl) D4 rfl fun Q b=> ?_;unfold iI;repeat' first| (first|apply vI|refine vE hl (fun cap a=> ?_)|apply VL (l:=l) (by omega) a (by omega) aA.aJ)<;>(simp only[go_sem])|fail
 exact b _ _ _ _ _ (.inr rfl) rfl (h _ _ (nx+1+4) cap (by omega) (by omega) aA.aJ a fun id c=>by simp (disch:=omega) only[aA.aB])
theorem YH(a b:List Ev)(o:a.length<2^40)(p:b.length<2^40):ag1 tZ [dS (a.map eEv),dS (b.map eEv)] .nil 0 fun j _ _=>j.plain=true/\j=dB (decide (a=b)):=by
 refine aR.mk Tryz.func31 (by kernel_rfl) VW rfl fun Q f=> ?_;unfold rA;by_cases hl:a.length=b.length
 ·repeat' first|apply vI<;>(simp only[go_sem])|apply vF (by omega)|fail
  (refine aK.loop (α:={k:Nat//k<=a.length/\(∀i,i<k->a.getD i default=b.getD i default)}) (fun u=>en [(5,dI u.1),(1,dS (b.map eEv)),(0,dS (a.map eEv))]) (fun _=>.nil) _ (fun u=>a.length-u.1) ⟨0,by omega,(by intros;first|trivial|omega)⟩ (bI (ac1 _) (by repeat' first|exact C1|refine xqI rfl rfl ?_|fail)) ?_);(rintro⟨k,q,hinv⟩ r g);by_cases m:k<a.length
  ·have d:FD (eEv (a.getD k default))=some [(a.getD k default).kind,(a.getD k default).who,(a.getD k default).n]:=rfl;have e:FD (eEv (b.getD k default))=some [(b.getD k default).kind,(b.getD k default).who,(b.getD k default).n]:=rfl;have h: ¬a.getD k default=b.getD k default->¬a=b:=fun d e=>d (by rw[e]);have heq:[(a.getD k default).kind,(a.getD k default).who,(a.getD k default).n]=[(b.getD k default).kind,(b.getD k default).who,(b.getD k default).n]↔a.getD k default=b.getD k default:=(by generalize a.getD k default=x;generalize b.getD k default=y;obtain⟨s,x2,t⟩:=x;obtain⟨v,w,z⟩:=y;simp);generalize A:[(a.getD k default).kind,(a.getD k default).who,(a.getD k default).n]=X at*;generalize B:[(b.getD k default).kind,(b.getD k default).who,(b.getD k default).n]=Y at*;by_cases c:X=Y
   ·have l:(¬X=Y)=False:=eq_false (Classical.not_not.2 c);repeat' first|apply vI<;>(simp only[go_sem,d,e,c];try simp (disch:=omega) only[Iw])|apply vT (by omega)|refine⟨by omega,?_⟩|fail
    (refine g _ _ _ ⟨k+1,by omega,bT hinv (heq.1 c)⟩ (by omega) (by(try dsimp only);omega) (bI (ac1 _) (by repeat' first|exact C1|refine xqI rfl rfl ?_|fail)))
   ·have l:(X=Y)=False:=eq_false c;repeat' first|apply vI<;>(simp only[go_sem,d,e,l])|apply vT (by omega)|refine⟨by omega,?_⟩|fail
    refine aQ f _ rfl rfl (gV (h fun he=>c (heq.2 he)))
  ·repeat' first|apply vI<;>(simp only[go_sem])|apply vF (by omega)|fail
   refine aQ f _ rfl rfl (nB (SQ hl fun i hi=>hinv i (by omega)))
 ·repeat' first|apply vI<;>(simp only[go_sem])|apply vT (by omega)|fail
  refine aQ f _ rfl rfl (gV fun he=>hl (by rw[he]))
theorem DA{a:List Ev}{b:List Ev}(c:a.length<2^40)(d:b.length<2^40)(h:K (dB (decide (a=b))) H nx):ag1 tZ [dS (a.map eEv),dS (b.map eEv)] H nx K:=(YH a b c d).pure rfl (aM ⟨aE rfl,aE rfl,trivial⟩) (fun r hr=>hr▸h)
theorem vV:bW ag0 rS Tryz.f34 jU HA:=bW.mk Tryz.func34 (by kernel_rfl) S8
theorem T9{c:Cfg}{s:CSt}(q:jJ c)(z:I0 s)(hi:WN i)
 (h: ∀H' nx' io m,nx<=io->io<nx'->H' io=some ⟨3,m,(evB c s i).map eEv⟩->(evB c s i).length<=m->(∀id,id<nx->H' id=H id)->K (dO 3 io (evB c s i).length (evB c s i).length) H' nx'):ag1 rS [dA (bO c),dA (dX s),dA (eIn i)] H nx K:=by
 obtain⟨Y,Z,l3⟩:=hi
 have t: ¬(cyB c s=true/\inB i=true)->evB c s i=[]:=fun h=>if_neg h
 by_cases r:cyB c s=true
 ·by_cases n:inB i=true
  ·obtain⟨I,hs⟩:=YV.1 r;have A:=vo.1 n;rw[Ql r n] at h;refine vV rfl fun Q u=> ?_;unfold jU;repeat' first| (first|apply vI|apply oS q z|apply EP (i:=i) (by omega) (by omega) (by omega)|refine nZ (hs.sz I) (fun H' nx' nm cells hx B C o=> ?_))<;>(simp only[go_sem,r,n,nL])|fail
   have v:cells.length=5:=(by obtain⟨_,_,_,_,_,rfl,_⟩:=B.ex;rfl);have w:cells++List.drop cells.length [D1.osl 0 0 0 0 0,.osl 0 0 0 0 0,.osl 0 0 0 0 0,.osl 0 0 0 0 0,.osl 0 0 0 0 0]=cells:=(by rw[v];simp);refine⟨v,by omega,?_⟩;rw[w];try apply kI
   refine aK.QK fun y f=> ?_;have c0:y nx=some ⟨3,1,[bO c]⟩:=(by rw[f,aA.aB (by omega),o _ (by omega)];simp (disch:=omega) only[aA.aB,aA.aJ]);have c2:y (nx+2)=some ⟨3,1,[eIn i]⟩:=(by rw[f,aA.aB (by omega),o _ (by omega)];simp (disch:=omega) only[aA.aB,aA.aJ]);have D: ∀id,id<nx->y id=H id:=fun id g=>by rw[f,aA.aB (by omega),o _ (by omega)];simp (disch:=omega) only[aA.aB]
   have J:Rep (fun id=>id<nx+3) y nx' (nx+15) nm s:=(by have p:=fun k j=>C.rng k j;refine⟨⟨cells,by rw[f];exact aA.aJ,B.frame fun k j=>by have:=p k j;rw[f,aA.aB (by omega)]⟩,⟨C.inj,fun k j=>by have:=p k j;omega,fun k j hn=>by have:=p k j;omega⟩,fun k j=>by have:=p k j;omega,⟨by omega,by omega⟩,fun id g=>by omega⟩);clear f B C o;have L:aT nx' [nx,nx+2]:=AM.apart (by simp) (by simp;omega);simp only[aT,bM] at L;repeat' first|apply vI<;>(simp only[go_sem,nL,c0,c2,L])|fail
   refine CO (X:=fun id=>id<nx+3) I hs A (J.frame (by omega) rfl (fun _ _=>rfl) fun id x=>⟨by omega,by omega,fun k j he=>J.names.av k j (he▸x)⟩) fun H2 N O a b d e P R E=> ?_;have S:=zn (c:=c) (i:=i) (s:=s);(try simp only[go_sem,nL,nL]);repeat' first| (first|apply vI|apply Y4 (by omega)|apply Y5 (by omega)|refine Y6 (fun h=> ?_) fun h=> ?_| (refine Y7 (fun h=> ?_) (fun h=> ?_)<;>try subst h)|refine GJ (l:=WL c i s) (by omega) (fun H3 T io m b1 b2 U V F=> ?_))<;>(simp only[go_sem,nL,nL];try simp (disch:=omega) only[Iw])|apply vT (by omega)|apply vF (by omega)|refine iR (fun h=> ?_) fun h=> ?_|refine Z7 (fun h=> ?_) fun h=> ?_|refine bX rfl ?_| (with_reducible first|refine fun(cap:Nat) (M:_<=cap)=> ?_|refine fun(W:_<=cap)=> ?_|refine fun(b:Bool)=> ?_)| ((refine CK (fun h=> ?_) (fun h=> ?_))<;>try subst h)|refine⟨by omega,?_⟩| (refine⟨by(rw[adP];omega),?_⟩)|fail
   exact u _ _ _ _ _ (.inr rfl) rfl (h _ _ io m (by omega) (by omega) U V fun id g=>by rw[F _ (by omega),E _ (by show id<nx+3;omega)];exact D id g)
  ·have n:inB i=false:=by cases G:inB i;rfl;exact absurd G n
   rw[t (fun h=>by rw[n] at h;exact absurd h.2 (by decide))] at h;apply aC.qC;refine vV rfl fun Q u=> ?_;unfold jU;apply aK.oB 3;repeat' first| (first|apply vI|apply oS q z|apply EP (i:=i) (by omega) (by omega) (by omega))<;>(simp only[go_sem,r,n,nL])|fail
   exact u _ _ _ _ _ (.inr rfl) rfl ⟨dO 3 nx 0 0,_,noF,sn (.GO ..),aI,h _ _ nx 0 (ac1 _) (by omega) (by simp (disch:=omega) only[aA.aB,aA.aJ];rfl) (ac1 _) fun id g=>by simp (disch:=omega) only[aA.aB]⟩
 ·have n:cyB c s=false:=by cases G:cyB c s;rfl;exact absurd G r
  rw[t (fun h=>r h.1)] at h;apply aC.qC;refine vV rfl fun Q u=> ?_;unfold jU;apply aK.oB 3;repeat' first| (first|apply vI|apply oS q z)<;>(simp only[go_sem,n,nL])|fail
  exact u _ _ _ _ _ (.inr rfl) rfl ⟨dO 3 nx 0 0,_,noF,sn (.GO ..),aI,h _ _ nx 0 (ac1 _) (by omega) (by simp (disch:=omega) only[aA.aB,aA.aJ];rfl) (ac1 _) fun id g=>by simp (disch:=omega) only[aA.aB]⟩
theorem T8{c:Cfg}{s:CSt}(a:jJ c)(d:I0 s)(hi:WN i)
 (h: ∀H' nx',nx<=nx'->(∀id,id<nx->H' id=H id)->K (dS ((evB c s i).map eEv)) H' nx'):ag1 rS [dA (bO c),dA (dX s),dA (eIn i)] H nx K:=
 aC.qC (T9 a d hi fun H' nx' io m g k e l f=>⟨dS ((evB c s i).map eEv),_,fun j=>j=io,oI MV e rfl (ac1 _) rfl,O9,h _ _ (by omega) fun id b=>by rw[aA.cL (by omega)];exact f id b⟩)
theorem TF{c:Cfg}{s:CSt}(da:jJ c)(hf:I0 s)(hi:WN i)
 (h: ∀H' nx' io cap m,nx<=io->io<nx'->H' io=some ⟨3,m,(evB c s i).map eEv⟩->(evB c s i).length<=cap->cap<=m->(∀id,id<nx->H' id=H id)->K (dO 3 io (evB c s i).length cap) H' nx'):ag1 rN [dA (bO c),dA (dX s),dA (eIn i)] H nx K:=by
 obtain⟨l1,l2,l3⟩:=hi
 refine bW.mk Tryz.func47 (by kernel_rfl) TW rfl fun Q hQ=> ?_
 unfold pJ
 have ha: ¬(cyB c s=true/\inB i=true)->evB c s i=[]:=fun h=>if_neg h
 cases J:cyB c s
 ·rw[ha (fun h=>by rw[J] at h;exact absurd h.1 (by decide))] at h;repeat' first| (first|apply vI|apply oV da hf)<;>(simp only[go_sem,J,nL])|fail
  exact hQ _ _ _ _ _ (.inr rfl) rfl (h _ _ (nx+4) 0 0 (by omega) (by omega) (by simp (disch:=omega) only[aA.aB,aA.aJ];rfl) (ac1 _) (ac1 _) fun id S=>by simp (disch:=omega) only[aA.aB])
 cases y:inB i
 ·rw[ha (fun h=>by rw[y] at h;exact absurd h.2 (by decide))] at h;repeat' first| (first|apply vI|apply oV da hf|apply KG (i:=i) (by omega) (by omega) (by omega))<;>(simp only[go_sem,J,y,nL])|fail
  exact hQ _ _ _ _ _ (.inr rfl) rfl (h _ _ (nx+4) 0 0 (by omega) (by omega) (by simp (disch:=omega) only[aA.aB,aA.aJ];rfl) (ac1 _) (ac1 _) fun id S=>by simp (disch:=omega) only[aA.aB])
 rw[Ql J y] at h
 obtain⟨hb,hs⟩:=YV.1 J
 have ck:=vo.1 y
 have iw:=hs.sz hb
 obtain⟨hg,df,dh⟩:=ck
 repeat' first| (first|apply vI|apply oV da hf|apply KG (i:=i) (by omega) (by omega) (by omega)|refine QA iw (fun H1 jh nm cells hx hR T cl=> ?_))<;>(simp only[go_sem,J,y,nL])|fail
 have hh:cells.length=5:=by obtain⟨_,_,_,_,_,rfl,_⟩:=hR.ex;rfl
 have dm:cells++List.drop cells.length [D1.osl 0 0 0 0 0,.osl 0 0 0 0 0,.osl 0 0 0 0 0,.osl 0 0 0 0 0,.osl 0 0 0 0 0]=cells:=by rw[hh];simp
 refine⟨hh,by omega,?_⟩
 rw[dm]
 try apply kI
 refine aK.ec fun G hG=> ?_
 have f0:G nx=some ⟨3,1,[bO c]⟩:=by rw[hG,aA.aB (by omega),cl _ (by omega)];simp (disch:=omega) only[aA.aB,aA.aJ]
 have f2:G (nx+2)=some ⟨3,1,[eIn i]⟩:=by rw[hG,aA.aB (by omega),cl _ (by omega)];simp (disch:=omega) only[aA.aB,aA.aJ]
 have f4:G (nx+4)=some ⟨3,0,[]⟩:=by rw[hG,aA.aB (by omega),cl _ (by omega)];exact aA.aJ
 have fx:G (nx+17)=some ⟨5,1,[cells]⟩:=by rw[hG];exact aA.aJ
 have ff: ∀id,id<nx->G id=H id:=fun id S=>by rw[hG,aA.aB (by omega),cl _ (by omega)];simp (disch:=omega) only[aA.aB]
 have fR:kW (fun id=>id<nx+18\/id=nx+4) G jh nm s cells:=by have ds:=fun k hk=>T.rng k hk;exact⟨hR.frame fun k hk=>by have:=ds k hk;rw[hG,aA.aB (by omega)],⟨T.inj,fun k hk=>(ds k hk).2,fun k hk hn=>by have:=ds k hk;omega⟩,fun id S=>by omega⟩
 clear hG hR T cl
 repeat' first|apply vI<;>(simp only[go_sem])|fail
 refine aK.cW (β:=Nat×(Nat->Nat)×List D1×CSt×List Ev×Nat×Nat) (fun u=>en [(9,dI u.1),(8,.one (.c (.ptr 5 (nx+17) 0 0))),(7,.one (.c (.osl 3 u.2.2.2.2.2.1 0 u.2.2.2.2.1.length u.2.2.2.2.2.2))),(5,.one (.c (.ptr 3 (nx+2) 0 0))),(3,.one (.c (.ptr 3 nx 0 0)))])
  (fun u H1 n1=>u.1<=3/\u.2.2.2.2.1.length<=u.1/\EvI c nx G H1 n1 u.2.1 u.2.2.1 u.2.2.2.1 u.2.2.2.2.1 u.2.2.2.2.2.1 u.2.2.2.2.2.2/\LOE c (pY i) ([0,1,2].drop u.1) u.2.2.2.1 u.2.2.2.2.1 (F9 c i s) (iE c s (N2 c i s))) (fun u=>3-u.1) (0,nm,cells,s,[],nx+4,0)
  ⟨noF,_,by repeat' first|exact C1|refine xqI rfl rfl ?_|refine xqP (by omega) rfl rfl ?_| (with_reducible apply C2)| ((with_reducible apply C0);exact CC)| ((with_reducible apply D0);apply CJ)|fail,aI,by dsimp only;omega,by simp,⟨hs,fR.frame (by omega) (fun _ _ _=>rfl),fx,⟨0,f4,ac1 _,ac1 _⟩,.inl rfl,fun _ _ _=>rfl⟩,⟨rfl,rfl⟩⟩ ?_
 rintro⟨k,ad,ob,s1,E1,io,cap⟩ H2 z jo ⟨hk,ju,hE,O⟩ KL dv
 dsimp only at hk ju hE O
 obtain⟨B,cp,p,⟨m,U,o2,o3⟩,ck,a⟩:=hE
 have L:=(a nx (by omega) (by omega)).trans f0
 have M:=(a (nx+2) (by omega) (by omega)).trans f2
 have bp:=cp.x io (.inr rfl)
 have br:=cp.x (nx+17) (.inl (by omega))
 have hB:aT z [nx,nx+2,nx+17,io]:=AM.apart (by simp;omega) (by simp;omega)
 simp only[aT,bM] at hB
 have f:=cp.UD B.pl B.sl (G:=H2) (fun id S=>rfl)
 have g:=cp
 obtain⟨wc,hc,pc,vc,tc,mp,rp,mv,rv,D,g1,g2,g3,g4,g5,g6,g7,g8,g9,ga,gb⟩:=cp.get
 subst D
 have lt:=g.names.lt
 have n3:=lt 3 (by omega)
 have av:=g.names.av
 by_cases e:k<3
 ·rw[zo e] at O
  cases hr:i.ready.getD k default with
  |false=>
   repeat' first|apply vI<;>(simp only[go_sem,nL,L,p,M,hr,hg,hB];try simp (disch:=omega) only[Iw])|apply vT (by omega)|refine⟨by omega,?_⟩|fail
   all_goals exact dv _ _ _ (k+1,ad,_,s1,E1,io,cap) noF _ (by omega) (by dsimp only;omega) (by dsimp only;repeat' first|exact C1|refine xqI rfl rfl ?_|refine xqP (by omega) rfl rfl ?_|refine xqO (by omega) rfl rfl (by rfl) ?_|fail) aI ⟨by dsimp only;omega,by dsimp only;omega,⟨B,g.frame (by omega) (fun _ _ _=>rfl),p,⟨m,U,o2,o3⟩,ck,a⟩,O.none (U9 hr)⟩
  |true=>
   repeat' first| (first|apply vI|refine II B e hr f (fun r kc=> ?_))<;>(simp only[go_sem,nL,L,p,M,hr,hg,hB])|apply vT (by omega)|refine⟨by omega,?_⟩|fail
   rcases kc with⟨ho,rfl⟩|⟨st,dx,ho,rfl⟩
   · (try simp only[go_sem,nL,L,p,M,hB]);repeat' first|apply vI<;>(simp only[go_sem,nL,L,p,M,hB];try simp (disch:=omega) only[Iw])|fail
     all_goals exact dv _ _ _ (k+1,ad,_,s1,E1,io,cap) noF _ (by omega) (by dsimp only;omega) (by dsimp only;repeat' first|exact C1|refine xqI rfl rfl ?_|refine xqP (by omega) rfl rfl ?_|refine xqO (by omega) rfl rfl (by rfl) ?_|fail) aI ⟨by dsimp only;omega,by dsimp only;omega,⟨B,g.frame (by omega) (fun _ _ _=>rfl),p,⟨m,U,o2,o3⟩,ck,a⟩,O.none ho⟩
   ·obtain⟨_,_,kf,oi⟩:=JU B e ho;obtain⟨po,kk,do_,dc,gs,gp,gd⟩:=gb st dx;obtain⟨d,hd⟩: ∃d,(aU s1 st).done.getD 0 default=d:=⟨_,rfl⟩
    obtain⟨md,rd,d1,d2,d3,d4,d5,d6⟩:=gd.ex;have d7:rd[do_]?=some (aL d):=(by have:(rd.drop do_)[0]?=some (aL d):=(by rw[d2,adJ,<-hd];simp[List.getD,kf]);rwa [adO,Nat.add_zero] at this);have k3: ∀(W:aA) (b:Nat),msk (z+b) [14] W (ad 3)=W (ad 3):=fun W b=>mk1 (by omega);have kx: ∀(W:aA) (b:Nat),msk (z+b) [14] W (nx+17)=W (nx+17):=fun W b=>mk1 (by omega);have V:aT z [ad 3,ad (15+st)]:=AM.apart (by simp;intro he;have:=g.names.inj 3 (15+st) (by omega) (by omega) he;omega) (by simp;exact⟨n3,lt (15+st) (by omega)⟩);simp only[aT,bM] at V;(try simp only[go_sem,nL,L,p,M,g2,gs,d1,d7,k3,kx,hB,V]);repeat' first| (first|apply vI|refine II B e hr f (fun r2 kt=> ?_))<;>(simp only[go_sem,nL,L,p,M,g2,gs,d1,d7,k3,kx,hB,V])|apply vT (by omega)|fail
    rcases kt with⟨h',_⟩|⟨oj,_,hj,rfl⟩
    ·rw[ho] at h';cases h'
    rw[ho] at hj;cases hj;have ca:List.take E1.length (E1.map eEv)=E1.map eEv:=ac6 (by simp);have cc:(E1.map eEv).length=E1.length:=adE ..;(try simp only[go_sem,nL,L,p,M,g2,gs,d1,d7,k3,kx,U,ca,cc,hB,V]);repeat' first|apply vI<;>(simp only[go_sem,nL,L,p,M,g2,gs,d1,d7,k3,kx,U,ca,cc,hB,V])| (with_reducible first|refine fun(cap:Nat) (cq:_<=cap)=> ?_|refine fun(hq:_<=cap)=> ?_)|refine⟨by omega,?_⟩|fail
    generalize E:aA.set _ (z+28) _=G2;have la:G2 (z+28)=some ⟨3,cap,(E1++[(⟨3,k,d.n⟩:Ev)]).map eEv⟩:=(by rw[<-E,aA.aJ,adF];rfl);have Y: ∀id,id<z->id≠io->G2 id=H2 id:=fun id h3 h4=>by rw[<-E,aA.aB (by omega),aA.aB (by omega),aA.cL h4]
    clear E;have ai:=kW.swap (b:=z+28) (n':=z+34) g Y (by omega) (by omega);refine QL (X:=fun id=>id<nx+18\/id=z+28) hb B e hr ai fun H' nx' aj P dy F t=> ?_;have I:=(t (nx+17) (.inl (by omega))).trans ((Y (nx+17) (by omega) (by omega)).trans p);have lb:=(t (z+28) (.inr rfl)).trans la;have cd:=YZ hb B (o:=pY i s1 k) (fun m hm=>JU B e hm);obtain⟨dz,eb,ed,ei,ej,_,_,_,_,j,_⟩:=F.get;subst j;(try simp only[go_sem,nL,I]);repeat' first|apply vI<;>(simp only[go_sem,nL,I];try simp (disch:=omega) only[Iw])|fail
    have cr:Nf s1 (pY i s1 k)=[⟨3,k,d.n⟩]:=(by rw[ho,<-hd];rfl);have Z:=O.next;rw[cr] at Z;exact dv _ _ _ (k+1,aj,_,TO c s1 (pY i s1 k),E1++[⟨3,k,d.n⟩],z+28,cap) noF _ (by omega) (by dsimp only;omega) (by dsimp only;rw[ac7,List.length_singleton];repeat' first|exact C1|refine xqI rfl rfl ?_|refine xqP (by omega) rfl rfl ?_|refine xqO (by omega) rfl rfl (by rfl) ?_|fail) aI ⟨by dsimp only;omega,by dsimp only;rw[ac7,List.length_singleton];omega,⟨cd,F.frame (by omega) (fun id J y=>aA.aB fun he=>y (.inl (by omega))),aA.aJ,⟨cap,by dsimp only;rw[aA.aB (by omega)];exact lb,by dsimp only;rw[ac7,List.length_singleton];omega,ac1 _⟩,.inr (by dsimp only;omega),fun id J y=>by rw[aA.aB (by omega),t id (.inl (by omega)),Y id (by omega) (by omega)];exact a id J y⟩,Z⟩
 ·have eo:k=3:=by omega
  subst eo;obtain⟨ep,lk⟩:=LOE.nil O;subst ep;repeat' first|apply vI<;>(simp only[go_sem])|apply vF (by omega)|fail
  refine aK.cW (β:=Nat×(Nat->Nat)×List D1×CSt×List Ev×Nat×Nat) (fun u=>en [(10,dI u.1),(8,.one (.c (.ptr 5 (nx+17) 0 0))),(7,.one (.c (.osl 3 u.2.2.2.2.2.1 0 u.2.2.2.2.1.length u.2.2.2.2.2.2))),(5,.one (.c (.ptr 3 (nx+2) 0 0))),(3,.one (.c (.ptr 3 nx 0 0)))])
   (fun u H1 n1=>u.1<=4/\u.2.2.2.2.1.length<=3+u.1/\EvI c nx G H1 n1 u.2.1 u.2.2.1 u.2.2.2.1 u.2.2.2.2.1 u.2.2.2.2.2.1 u.2.2.2.2.2.2/\LOE c (mQ i) ([0,1,2,3].drop u.1) u.2.2.2.1 u.2.2.2.2.1 (OA c i s) (E1++iE c (F9 c i s) (GY c i (F9 c i s)))) (fun u=>4-u.1) (0,ad,_,F9 c i s,E1,io,cap)
   ⟨noF,_,by dsimp only;repeat' first|exact C1|refine xqI rfl rfl ?_|refine xqP (by omega) rfl rfl ?_|refine xqO (by omega) rfl rfl (by rfl) ?_|fail,aI,by dsimp only;omega,by dsimp only;omega,⟨B,g.frame (by omega) (fun _ _ _=>rfl),p,⟨m,U,o2,o3⟩,ck,a⟩,⟨rfl,rfl⟩⟩ ?_
  clear g a L p M hB f g1 g2 g3 g4 g5 g6 g7 g8 g9 ga gb lt n3 av U o2 o3 B br bp;obtain⟨T1,ht⟩: ∃T1,T1=E1++iE c (F9 c i s) (GY c i (F9 c i s)):=⟨_,rfl⟩
  rw[<-ht];rintro⟨k,cy,ox,s2,E2,q,aa⟩ H3 l ma ⟨hk,et,hE,O⟩ KM ew;dsimp only at hk et hE O;obtain⟨C,ai,p,⟨m2,U,o2,o3⟩,ao,a⟩:=hE;have L:=(a nx (by omega) (by omega)).trans f0;have M:=(a (nx+2) (by omega) (by omega)).trans f2;have bp:=ai.x q (.inr rfl);have br:=ai.x (nx+17) (.inl (by omega));have hB:aT l [nx,nx+2,nx+17,q]:=AM.apart (by simp;omega) (by simp;omega);simp only[aT,bM] at hB;have f:=ai.UD C.pl C.sl (G:=H3) (fun id S=>rfl);have g:=ai;obtain⟨wc,hc,pc,vc,tc,mp,rp,mv,rv,D,g1,g2,g3,g4,g5,g6,g7,g8,g9,ga,gb⟩:=ai.get;subst D;have lt:=g.names.lt;have n3:=lt 3 (by omega);have av:=g.names.av;by_cases e:k<4
  ·rw[ta e] at O;have cd:=YZ hb C (o:=mQ i s2 k) (fun m hm=>I9 C e hm)
   cases hr:i.nO.getD k default with
   |true=>
    repeat' first|apply vI<;>(simp only[go_sem,nL,L,p,M,hr,df,hB];try simp (disch:=omega) only[Iw])|apply vT (by omega)|refine⟨by omega,?_⟩|fail
    all_goals exact ew _ _ _ (k+1,cy,_,s2,E2,q,aa) noF _ (by omega) (by dsimp only;omega) (by dsimp only;repeat' first|exact C1|refine xqI rfl rfl ?_|refine xqP (by omega) rfl rfl ?_|refine xqO (by omega) rfl rfl (by rfl) ?_|fail) aI ⟨by dsimp only;omega,by dsimp only;omega,⟨C,g.frame (by omega) (fun _ _ _=>rfl),p,⟨m2,U,o2,o3⟩,ao,a⟩,O.none (NW (.inl hr))⟩
   |false=>
    by_cases T:0<(aU s2 k).pipe.length/\(eL s2 k).left=0/\(aU s2 k).done.length<2
    ·obtain⟨po,kk,do_,dc,gs,gp,gd⟩:=gb k e;obtain⟨d,hd⟩: ∃d,(aU s2 k).pipe.getD 0 default=d:=⟨_,rfl⟩
     obtain⟨md,rd,d1,d2,d3,d4,d5,d6⟩:=gp.ex;have d7:rd[po]?=some (eCJ d):=(by have:(rd.drop po)[0]?=some (eCJ d):=(by rw[d2,adJ,<-hd];simp[List.getD,T.1]);rwa [adO,Nat.add_zero] at this);have pa:=T.1;have V:aT l [cy 3,cy (11+k)]:=AM.apart (by simp;intro he;have:=g.names.inj 3 (11+k) (by omega) (by omega) he;omega) (by simp;exact⟨n3,lt (11+k) (by omega)⟩);simp only[aT,bM] at V;have ca:List.take E2.length (E2.map eEv)=E2.map eEv:=ac6 (by simp);have cc:(E2.map eEv).length=E2.length:=adE ..
     have me:mQ i s2 k=some (.work k):=by
      unfold mQ
      rw[if_neg (fun h=>by
       rcases h with h|h
       ·rw[hr] at h;cases h
       ·have:=T.1;omega),if_neg (by have:=T.2.1;omega),if_pos T.2.2]
     repeat' first| (first|apply vI|apply pX C e f)<;>(simp only[go_sem,nL,L,p,M,g2,gs,d1,d7,hr,df,T,U,ca,cc,hB,V])|apply vT (by omega)| (with_reducible first|refine fun(cap:Nat) (cq:_<=cap)=> ?_|refine fun(hq:_<=cap)=> ?_)|refine⟨by omega,?_⟩|fail
     generalize E:aA.set _ (l+34) _=G2;have mh:G2 (l+34)=some ⟨3,cap,(E2++[(⟨2,d.who,d.n⟩:Ev)]).map eEv⟩:=(by rw[<-E,aA.aJ,adF];rfl);have Y: ∀id,id<l->id≠q->G2 id=H3 id:=fun id h3 h4=>by rw[<-E,aA.aB (by omega),aA.aB (by omega),aA.cL h4]
     clear E;have N:=kW.swap (b:=l+34) (n':=l+47) g Y (by omega) (by omega);refine HR (X:=fun id=>id<nx+18\/id=l+34) hb C e hr N fun H' nx' aj P dy F t=> ?_;have I:=(t (nx+17) (.inl (by omega))).trans ((Y (nx+17) (by omega) (by omega)).trans p);have ct:=(t (l+34) (.inr rfl)).trans mh;obtain⟨dz,eb,ed,ei,ej,_,_,_,_,j,_⟩:=F.get;subst j;(try simp only[go_sem,nL,I]);repeat' first|apply vI<;>(simp only[go_sem,nL,I];try simp (disch:=omega) only[Iw])|fail
     have cr:Nf s2 (mQ i s2 k)=[⟨2,d.who,d.n⟩]:=(by rw[me,<-hd];rfl);have Z:=O.next;rw[cr] at Z;exact ew _ _ _ (k+1,aj,_,TO c s2 (mQ i s2 k),E2++[⟨2,d.who,d.n⟩],l+34,cap) noF _ (by omega) (by dsimp only;omega) (by dsimp only;rw[ac7,List.length_singleton];repeat' first|exact C1|refine xqI rfl rfl ?_|refine xqP (by omega) rfl rfl ?_|refine xqO (by omega) rfl rfl (by rfl) ?_|fail) aI ⟨by dsimp only;omega,by dsimp only;rw[ac7,List.length_singleton];omega,⟨cd,F.frame (by omega) (fun id J y=>aA.aB fun he=>y (.inl (by omega))),aA.aJ,⟨cap,by dsimp only;rw[aA.aB (by omega)];exact ct,by dsimp only;rw[ac7,List.length_singleton];omega,ac1 _⟩,.inr (by dsimp only;omega),fun id J y=>by rw[aA.aB (by omega),t id (.inl (by omega)),Y id (by omega) (by omega)];exact a id J y⟩,Z⟩
    ·have cr:Nf s2 (mQ i s2 k)=[]:=by
      unfold mQ
      split
      ·rfl
      ·split;·rfl
       ·split;·rename_i q1 q2 q3;have hv:0<(aU s2 k).pipe.length:=af8 fun h0=>q1 (.inr h0);have pb:=((C.slv k e).left 0 hv).1.1;exact absurd ⟨hv,by unfold eL at q2 ⊢;omega,q3⟩ T
        ·rfl
     repeat' first| (first|apply vI|apply pX C e f)<;>(simp only[go_sem,nL,L,p,M,hr,df,T,hB])|apply vT (by omega)|refine⟨by omega,?_⟩|fail
     refine HR (X:=fun id=>id<nx+18\/id=q) hb C e hr (g.frame (nx':=l+24) (by omega) (fun _ _ _=>rfl)) fun H' nx' aj P dy F t=> ?_
     have I:=(t (nx+17) (.inl (by omega))).trans p
     have ct:=(t q (.inr rfl)).trans U
     obtain⟨dz,eb,ed,ei,ej,_,_,_,_,j,_⟩:=F.get
     subst j
     (try simp only[go_sem,nL,I]);repeat' first|apply vI<;>(simp only[go_sem,nL,I];try simp (disch:=omega) only[Iw])|fail
     have Z:=O.next
     rw[cr,adR] at Z
     exact ew _ _ _ (k+1,aj,_,TO c s2 (mQ i s2 k),E2,q,aa) noF _ (by omega) (by dsimp only;omega) (by dsimp only;repeat' first|exact C1|refine xqI rfl rfl ?_|refine xqP (by omega) rfl rfl ?_|refine xqO (by omega) rfl rfl (by rfl) ?_|fail) aI ⟨by dsimp only;omega,by dsimp only;omega,⟨cd,F.frame (by omega) (fun id J y=>aA.aB fun he=>y (.inl (by omega))),aA.aJ,⟨m2,by dsimp only;rw[aA.aB (by omega)];exact ct,o2,o3⟩,ao,fun id J y=>by rw[aA.aB (by omega),t id (.inl (by omega))];exact a id J y⟩,Z⟩
  ·have fh:k=4:=(by omega);subst fh;obtain⟨ep,mi⟩:=LOE.nil O;subst ep;repeat' first|apply vI<;>(simp only[go_sem])|apply vF (by omega)|fail
   have ml:([[D1.v (.bool false)],[D1.v (.bool false)],[D1.v (.bool false)]]:List (List D1))=[false,false,false].map gE:=rfl;rw[ml];generalize fi:aA.set H3 (l+2) _=G3;have tu:G3 (l+2)=some ⟨1,3,[false,false,false].map gE⟩:=(by rw[<-fi];exact aA.aJ);have Y: ∀id,id<l->G3 id=H3 id:=fun id h3=>by rw[<-fi,aA.aB (by omega)]
   clear fi;have N:=kW.add (b:=l+2) (n':=l+5) g Y (by omega) (by omega);have hy:=(Y q bp).trans U;have hz:=(Y (nx+17) br).trans p;have ia: ∀id,id<nx+17->id≠nx+4->G3 id=G id:=fun id J y=>(Y id (by omega)).trans (a id J y);have mm:q<l:=bp;have pj:nx+18<=l:=br;obtain⟨ub,mn⟩: ∃ub,ub=l+2:=⟨_,rfl⟩
   rw[<-mn] at tu N ⊢
   refine aK.cW (β:=Nat×(Nat->Nat)×List D1×CSt×List Bool) (fun u=>en [(12,dI u.1),(11,.one (.c (.osl 1 ub 0 3 3))),(8,.one (.c (.ptr 5 (nx+17) 0 0))),(7,.one (.c (.osl 3 q 0 E2.length aa))),(5,.one (.c (.ptr 3 (nx+2) 0 0))),(3,.one (.c (.ptr 3 nx 0 0)))])
    (fun u H1 n1=>u.1<=4/\COk c u.2.2.2.1/\u.2.2.2.2.length=3/\kW (fun id=>(id<nx+18\/id=q)\/id=ub) H1 n1 u.2.1 u.2.2.2.1 u.2.2.1/\H1 (nx+17)=some ⟨5,1,[u.2.2.1]⟩/\H1 ub=some ⟨1,3,u.2.2.2.2.map gE⟩/\HE c ([0,1,2,3].drop u.1) u.2.2.2.1 u.2.2.2.2 (KX c i s)/\H1 q=some ⟨3,m2,E2.map eEv⟩/\ ∀id,id<nx+17->id≠nx+4->H1 id=G id) (fun u=>4-u.1) (0,cy,_,OA c i s,[false,false,false])
    ⟨noF,_,by dsimp only;repeat' first|exact C1|refine xqI rfl rfl ?_|refine xqP (by omega) rfl rfl ?_|refine xqO (by omega) rfl rfl (by rfl) ?_|fail,aI,by dsimp only;omega,C,rfl,N.frame (by omega) (fun _ _ _=>rfl),hz,tu,rfl,hy,ia⟩ ?_
   clear g a L p M hB f g1 g2 g3 g4 g5 g6 g7 g8 g9 ga gb lt n3 av U C br bp N tu Y hy hz ia;rintro⟨k,fl,pk,s3,u3⟩ H4 ih mq ⟨hk,w,fm,N,p,eu,O,fo,a⟩ KN mr;dsimp only at hk w fm N p eu O;have L:=(a nx (by omega) (by omega)).trans f0;have M:=(a (nx+2) (by omega) (by omega)).trans f2;have g:=N;obtain⟨wc,hc,pc,vc,tc,mp,rp,mv,rv,D,g1,g2,g3,g4,g5,g6,g7,g8,g9,ga,gb⟩:=N.get;subst D;have hB:aT ih [nx,nx+2,nx+17,q]:=AM.apart (by simp;omega) (by simp;omega);simp only[aT,bM] at hB;by_cases e:k<4
   ·rw[ta e] at O;repeat' first|apply vI<;>(simp only[go_sem,nL,L,p,M,hB])|apply vT (by omega)|fail
    refine T5 (X:=fun id=>(id<nx+18\/id=q)\/id=ub) (um:=3) hb w e fm (g.frame (by omega) (fun _ _ _=>rfl)) (.inr rfl) eu (by omega) fun H' nx' aj P dy F mw t=> ?_;have I:=(t (nx+17) (.inl (.inl (by omega))) (by omega)).trans p;have ct:=(t q (.inl (.inr rfl)) (by omega)).trans fo;obtain⟨dz,eb,ed,ei,ej,_,_,_,_,j,_⟩:=F.get;subst j;obtain⟨cd,nd⟩:=Iv (u:=u3) hb w e fm;(try simp only[go_sem,nL,I]);repeat' first|apply vI<;>(simp only[go_sem,nL,I];try simp (disch:=omega) only[Iw])|fail
    exact mr _ _ _ (k+1,aj,_,(L3 c s3 u3 k).1,(L3 c s3 u3 k).2) noF _ (by omega) (by dsimp only;omega) (by repeat' first|exact C1|refine xqI rfl rfl ?_|refine xqP (by omega) rfl rfl ?_|refine xqO (by omega) rfl rfl (by rfl) ?_|fail) aI ⟨by dsimp only;omega,cd,nd,F.frame (by omega) (fun id J y=>aA.aB fun he=>y (.inl (.inl (by omega)))),aA.aJ,by rw[aA.aB (by omega)];exact mw,O.Yg,by rw[aA.aB (by omega)];exact ct,fun id J y=>by rw[aA.aB (by omega),t id (.inl (.inl (by omega))) (by omega)];exact a id J y⟩
   ·have fh:k=4:=(by omega);subst fh;have O:s3=KX c i s:=O;subst O;repeat' first|apply vI<;>(simp only[go_sem])|apply vF (by omega)|fail
    have fp:kW (fun id=>id<nx+18\/id=q) H4 ih fl (KX c i s) _:=g.sub fun id h=>.inl h;obtain⟨A,hA⟩: ∃A,A=KX c i s:=⟨_,rfl⟩
    rw[<-hA] at fp w;have ng:=w.pl
    refine aK.cW (β:=Nat×List Ev×Nat×Nat) (fun u=>en [(13,dI u.1),(8,.one (.c (.ptr 5 (nx+17) 0 0))),(7,.one (.c (.osl 3 u.2.2.1 0 u.2.1.length u.2.2.2))),(5,.one (.c (.ptr 3 (nx+2) 0 0))),(3,.one (.c (.ptr 3 nx 0 0)))])
     (fun u H1 n1=>u.1<=3/\u.2.1=E2++(List.range u.1).flatMap (U1 c i A)/\u.2.1.length<=7+u.1/\EvI c nx G H1 n1 fl _ A u.2.1 u.2.2.1 u.2.2.2) (fun u=>3-u.1) (0,E2,q,aa)
     ⟨noF,_,by dsimp only;repeat' first|exact C1|refine xqI rfl rfl ?_|refine xqP (by omega) rfl rfl ?_|refine xqO (by omega) rfl rfl (by rfl) ?_|fail,aI,by dsimp only;omega,by simp,by dsimp only;omega,⟨w,fp.frame (by omega) (fun _ _ _=>rfl),by rw[hA];exact p,⟨m2,fo,o2,o3⟩,ao,a⟩⟩ ?_
    clear g N p eu fo a L M hB g1 g2 g3 g4 g5 g6 g7 g8 g9 ga gb fp o2 o3;rintro⟨k,E3,cf,bb⟩ H5 ab nn ⟨hk,cv,fs,hE⟩ KO gf;dsimp only at hk cv fs hE;obtain⟨_,R,p,⟨m5,U,o2,o3⟩,cw,a⟩:=hE;have L:=(a nx (by omega) (by omega)).trans f0;have M:=(a (nx+2) (by omega) (by omega)).trans f2;have bp:=R.x cf (.inr rfl);have br:=R.x (nx+17) (.inl (by omega));have hB:aT ab [nx,nx+2,nx+17,cf]:=AM.apart (by simp;omega) (by simp;omega);simp only[aT,bM] at hB;have f:=R.UD w.pl w.sl (G:=H5) (fun id S=>rfl);obtain⟨pn,pq,pr,ps,qb,qf,qi,qj,qx,bk,g1,g2,g3,g4,g5,g6,g7,g8,g9,ga,gb⟩:=R.get;cases bk;have lt:=R.names.lt;have n2:=lt 2 (by omega);have av:=R.names.av;by_cases e:k<3
    ·cases hr:i.send.getD k default with
     |false=>
      have cx:U1 c i A k=[]:=(by unfold U1;rw[if_neg fun h=>by rw[hr] at h;cases h.1]);repeat' first|apply vI<;>(simp only[go_sem,nL,L,p,M,hr,dh,hB];try simp (disch:=omega) only[Iw])|apply vT (by omega)|refine⟨by omega,?_⟩|fail
      all_goals exact gf _ _ _ (k+1,E3,cf,bb) noF _ (by omega) (by dsimp only;omega) (by dsimp only;repeat' first|exact C1|refine xqI rfl rfl ?_|refine xqP (by omega) rfl rfl ?_|refine xqO (by omega) rfl rfl (by rfl) ?_|fail) aI ⟨by dsimp only;omega,by dsimp only;rw[gj,cx,adR];exact cv,by dsimp only;omega,⟨w,R.frame (by omega) (fun _ _ _=>rfl),p,⟨m5,U,o2,o3⟩,cw,a⟩⟩
     |true=>
      by_cases T:(aN A k).queue.length<2/\(aN A k).next<(c.cH.getD k default).length
      ·have cx:U1 c i A k=[⟨1,k,(aN A k).next⟩]:=(by unfold U1;rw[if_pos ⟨hr,T⟩]);obtain⟨qo,qc,oc,gr,gq,go⟩:=ga k e;have iv:aT ab [fl 2]:=AM.apart (by simp) (by simp;exact n2);simp only[aT,bM] at iv;have ca:List.take E3.length (E3.map eEv)=E3.map eEv:=ac6 (by simp);have cc:(E3.map eEv).length=E3.length:=adE ..;repeat' first| (first|apply vI|apply wK hb w e f)<;>(simp only[go_sem,nL,L,p,M,g1,gr,hr,dh,T,U,ca,cc,hB,iv];try simp (disch:=omega) only[Iw])|apply vT (by omega)| (with_reducible first|refine fun(cap:Nat) (cq:_<=cap)=> ?_|refine fun(hq:_<=cap)=> ?_)|refine⟨by omega,?_⟩|fail
       generalize E:aA.set _ (ab+23) _=G2;have np:G2 (ab+23)=some ⟨3,cap,(E3++[(⟨1,k,(aN A k).next⟩:Ev)]).map eEv⟩:=(by rw[<-E,aA.aJ,adF];rfl);have Y: ∀id,id<ab->id≠cf->G2 id=H5 id:=fun id h3 h4=>by rw[<-E,aA.aB (by omega),aA.aB (by omega),aA.cL h4]
       clear E;have nq:=kW.swap (b:=ab+23) (n':=ab+28) R Y (by omega) (by omega);exact gf _ _ _ (k+1,E3++[(⟨1,k,(aN A k).next⟩:Ev)],ab+23,cap) noF _ (by omega) (by dsimp only;omega) (by dsimp only;rw[ac7,List.length_singleton];repeat' first|exact C1|refine xqI rfl rfl ?_|refine xqP (by omega) rfl rfl ?_|refine xqO (by omega) rfl rfl (by rfl) ?_|fail) aI ⟨by dsimp only;omega,by dsimp only;rw[gj,cx,<-adH,<-cv],by dsimp only;rw[ac7,List.length_singleton];omega,⟨w,nq,(Y (nx+17) (by omega) (by omega)).trans p,⟨cap,np,by dsimp only;rw[ac7,List.length_singleton];omega,ac1 _⟩,.inr (by dsimp only;omega),fun id J y=>(Y id (by omega) (by omega)).trans (a id J y)⟩⟩
      ·have cx:U1 c i A k=[]:=(by unfold U1;rw[if_neg fun h=>T h.2]);repeat' first| (first|apply vI|apply wK hb w e f)<;>(simp only[go_sem,nL,L,p,M,hr,dh,T,hB];try simp (disch:=omega) only[Iw])|apply vT (by omega)|refine⟨by omega,?_⟩|fail
       all_goals exact gf _ _ _ (k+1,E3,cf,bb) noF _ (by omega) (by dsimp only;omega) (by dsimp only;repeat' first|exact C1|refine xqI rfl rfl ?_|refine xqP (by omega) rfl rfl ?_|refine xqO (by omega) rfl rfl (by rfl) ?_|fail) aI ⟨by dsimp only;omega,by dsimp only;rw[gj,cx,adR];exact cv,by dsimp only;omega,⟨w,R.frame (by omega) (fun _ _ _=>rfl),p,⟨m5,U,o2,o3⟩,cw,a⟩⟩
    ·have eo:k=3:=(by omega);subst eo;have gi:E3=WL c i s:=(by rw[cv,yb,List.nil_append,mi,ht,lk,<-hA,Wt ng]);repeat' first|apply vI<;>(simp only[go_sem])|apply vF (by omega)|fail
     rw[<-gi] at h;exact hQ _ _ _ _ _ (.inr rfl) rfl (h _ _ cf bb m5 (by omega) (by omega) U o2 o3 fun id S=>by rw[a id (by omega) (by omega)];exact ff id S)
theorem TM{c:Cfg}{s:CSt}(a:jJ c)(d:I0 s)(hi:WN i)
 (h: ∀H' nx',nx<=nx'->(∀id,id<nx->H' id=H id)->K (dS ((evB c s i).map eEv)) H' nx'):ag1 rN [dA (bO c),dA (dX s),dA (eIn i)] H nx K:=
 aC.qC (TF a d hi fun H' nx' io cap m k l e f n g=>⟨dS ((evB c s i).map eEv),_,fun j=>j=io,oI MV e rfl f rfl,O9,h _ _ (by omega) fun id b=>by rw[aA.cL (by omega)];exact g id b⟩)
end
theorem Ns(l:List Int)(X: ∀x∈l,0<=x/\x<256):ag1 K7 [dS (l.map eU8)] .nil 0 fun rr _ _=>rr.plain=true/\rr=dB true:=by
 refine bW.mk Tryz.func6 (by kernel_rfl) VA rfl fun Q S=> ?_;unfold qY;by_cases aa:l.length<=1048576
 case neg=>
  repeat' first|apply vI<;>(simp only[go_sem])|apply vT (by omega)|fail
  exact S _ _ _ _ _ (.inr rfl) rfl ⟨rfl,rfl⟩
 have hl:gD l:=⟨by omega,X⟩
 repeat' first| (first|apply vI|refine ON hl (fun H1 bb c s i bk d B ha hi Y=> ?_))<;>(simp only[go_sem])|apply vF (by omega)|fail
 refine T8 d B hi fun H2 bp br k=> ?_;have T:H2 10=some ⟨3,1,[bO c]⟩:=by rw[k _ (by omega)];simp (disch:=omega) only[aA.aB,aA.aJ]
 have V:H2 11=some ⟨5,1,[dX s]⟩:=by rw[k _ (by omega)];simp (disch:=omega) only[aA.aB,aA.aJ]
 have W:H2 12=some ⟨3,1,[eIn i]⟩:=by rw[k _ (by omega)];simp (disch:=omega) only[aA.aB,aA.aJ]
 clear k Y;obtain⟨E,C⟩: ∃E,E=evB c s i:=⟨_,rfl⟩
 have ca:E.length<=10:=by
  rw[C];unfold evB;split;·exact zn
  ·simp
 rw[<-C];(try simp only[go_sem,nL,T,V,W,nL]);repeat' first| (first|apply vI|apply TM d B hi)<;>(simp only[go_sem,nL,T,V,W,nL])|fail
 intro H3 e cc m;rw[<-C];have n:=(m 10 (by omega)).trans T;have o:=(m 11 (by omega)).trans V;have p:=(m 12 (by omega)).trans W;clear m T V W;have f:decide (E=E)=true:=decide_eq_true rfl;have q: ∀{H:aA} {nx:Nat} {K:ag2},K (dB true) H nx->ag1 G8 [] H nx K:=fun h=>Ah h;have I: ∀{H:aA} {nx:Nat} {K:ag2},K (dB (inB i)) H nx->ag1 BW [dA (eIn i)] H nx K:=fun h=>KG (by have:=hi.r;omega) (by have:=hi.t;omega) (by have:=hi.s;omega) h;by_cases v:cyB c s=true/\inB i=true
 case neg=>
  have Z:E=[]:=C.trans (if_neg v);subst Z;cases g:cyB c s
  · (try simp only[go_sem,nL,f,g,n,o,p,adQ,List.length_nil,nL]);repeat' first| (first|apply vI|apply Y4 (by omega)|apply DA (a:=[]) (b:=[]) (by simp) (by simp)|apply oV d B|apply q)<;>(simp only[go_sem,nL,f,g,n,o,p,adQ,List.length_nil,nL])|fail
    exact S _ _ _ _ _ (.inr rfl) rfl ⟨rfl,rfl⟩
  ·have u:inB i=false:=by cases h:inB i with|true=>exact absurd ⟨g,h⟩ v|false=>rfl
   (try simp only[go_sem,nL,f,g,u,n,o,p,adQ,List.length_nil,nL]);repeat' first| (first|apply vI|apply Y4 (by omega)|apply DA (a:=[]) (b:=[]) (by simp) (by simp)|apply oV d B|apply I|apply q)<;>(simp only[go_sem,nL,f,g,u,n,o,p,adQ,List.length_nil,nL])|fail
   exact S _ _ _ _ _ (.inr rfl) rfl ⟨rfl,rfl⟩
 obtain⟨g,u⟩:=v;obtain⟨F,hs⟩:=YV.1 g;have w:E=WL c i s:=C.trans (Ql g u);have J:JQ c (dN s) E:=by rw[w];exact Ky F hs
 have L:=uu J;have M:E.take E.length=E:=ad1;have N:runM c (dN s) E=dN (L4 c i s):=by rw[w];exact(Wo F hs).symm
 have O:COk c (L4 c i s):=wz F hs;have y:zJ (L4 c i s):=((O.base F).Ee.fit).2;have P: ∀{H:aA} {nx:Nat} {K:ag2},K (.tup [.agg (eSt (dN (L4 c i s))),.c (cI E.length)]) H nx->ag1 BJ [dA (bO c),dA (eSt (dN s)),dS (E.map eEv)] H nx K:=fun h=>by refine(ij c E F d (dN s) hs.st (fun h=>pf d ha.st (by rw[Ya F hs.st];exact h)) (by omega)).fresh rfl fun r hr=> ?_;rw[hr,L,M,N];exact h
 clear w J L M N C;obtain⟨x,hx⟩: ∃x,x=L4 c i s:=⟨_,rfl⟩
 have ab:By c s i=x:=(Vz g u).trans hx.symm;rw[<-hx] at y P;have z: ∀G:aA,msk (e+9) [8] G 10=G 10:=fun G=>mk1 (by omega);have A: ∀G:aA,msk (e+9) [8] G 11=G 11:=fun G=>mk1 (by omega);(try simp only[go_sem,nL,f,g,u,n,o,p,z,A,nL]);repeat' first| (first|apply vI|apply DA (a:=E) (b:=E) (by omega) (by omega)|apply oV d B|apply I|apply FQ ha)<;>(simp only[go_sem,nL,f,g,u,n,o,p,z,A,nL])|fail
 intro H4 ad cd R;generalize hU:c8 _ _ _ _=U;have um: ∀id,id<e->U id=H3 id:=fun id h=>by rw[<-hU,um1 (by omega),R id (by omega),mk1 (by omega)]
 have t7:U (e+17)=some ⟨6,1,[[.osl 0 0 0 0 0,.osl 0 0 0 0 0,.osl 0 0 0 0 0,.osl 0 0 0 0 0,.osl 0 0 0 0 0,.osl 0 0 0 0 0]]⟩:=by rw[<-hU];exact yy.trans aA.aJ
 have t3:=(um 10 (by omega)).trans n;have t4:=(um 11 (by omega)).trans o;have t5:=(um 12 (by omega)).trans p;clear hU um R z A n o p;refine⟨fun _=>by rw[t3]<;>rfl,P ?_⟩;have hA:aT ad [10,11,12,e+17]:=AM.apart (by simp<;>omega) (by simp<;>omega);simp only[aT,bM] at hA;(try simp only[go_sem,nL,Yd,t3,t4,t5,t7,hA,adE,decide_true,nL]);repeat' first| (first|apply vI|apply YK d B hi)<;>(simp only[go_sem,nL,Yd,t3,t4,t5,t7,hA,adE,decide_true,nL])|fail
 intro H5 cf ck ai;rw[ab];have v7:H5 (e+17)=some ⟨6,1,[eSt (dN x)]⟩:=by rw[ai _ (by omega)];exact aA.aJ
 refine⟨fun _=>by rw[v7]<;>rfl,?_⟩;refine FQ y fun H6 cl cp aj=> ?_;have w7:=(aj (e+17) (by omega)).trans v7;have ao: ∀{H:aA} {nx:Nat} {K:ag2},K (dB true) H nx->ag1 wQ [dA (eSt (dN x)),dA (eSt (dN x))] H nx K:=fun h=>by obtain⟨g,u,h3,h4,h5,h6,h7⟩:=y.st;exact yc (by omega) (by omega) (by omega) (by omega) (by omega) (by omega) (fun j hj=>by have:=h7 j hj;omega) h
 (try simp only[go_sem,nL,w7,nL]);repeat' first| (first|apply vI|apply ao)<;>(simp only[go_sem,nL,w7,nL])|fail
 exact S _ _ _ _ _ (.inr rfl) rfl ⟨rfl,rfl⟩
end Go.Proofs.YtlncecohbakleaaGreat
