/- Texts laid together by a program: rules, contracts and the walk that leads to the law. -/
import Derived.Test.YtdkfhdmagdaceaaGreatPH6
import Derived.Test.YtdkfhdmagdaceaaGreatPH30
import Derived.Test.YtdkfhdmagdaceaaGreatPH21
import Derived.Test.YtdkfhdmagdaceaaGreatPH29
import Derived.Test.YtdkfhdmagdaceaaGreatPH9
import Derived.Test.YtdkfhdmagdaceaaGreatPH23
set_option linter.unusedVariables false
set_option linter.unusedSimpArgs false
set_option linter.unusedSectionVars false
set_option maxRecDepth 100000
set_option maxHeartbeats 8000000
namespace Go.AM
def inB (i:CIn):Bool:=decide (i.ready.length=3∧i.n9.length=4∧i.send.length=3)
theorem bm2 {i:CIn}:inB i=true↔vZ i:=decide_eq_true_iff
end Go.AM
namespace Go.Proofs.YtdkfhdmagdaceaaGreat
open Go Go.AM
attribute [local irreducible] aM wv aB vd wvH
section
variable {H : aA} {nx : Nat} {K : D → aA → Nat → Prop}
theorem bl6 {i:CIn} (j:i.ready.length<2^20) (k:i.n9.length<2^20) (l:i.send.length<2^20) (h:K (dB (inB i)) H nx):aB Tryz.prog uJ [boR (eIn i)] H nx K:=by
 refine aB.pure (args0:=[boR (eIn i)]) (R:=fun f=>f=dB (inB i)) ?_ rfl (aI ⟨aE rfl,trivial⟩) (fun r hr=>hr▸h);clear h;refine XL rfl fun Q c=> ?_;unfold CT;by_cases b:i.ready.length=3
 ·by_cases d:i.n9.length=4
  ·by_cases e:i.send.length=3
   ·have a:inB i=true:=decide_eq_true ⟨b,d,e⟩;repeat' first| (first|apply bn1|apply bpJ (by omega))<;>(simp only[go_sem,b,d,e])|fail
    all_goals exact aZ c _ rfl rfl (congrArg dB a.symm)
   ·have a:inB i=false:=decide_eq_false fun h=>e h.2.2;have g:decide ((i.send.length:Int)=3)=false:=decide_eq_false (by omega);repeat' first| (first|apply bn1|apply bpJ (by omega))<;>(simp only[go_sem,b,d,g])|fail
    all_goals first|exact aZ c _ rfl rfl (congrArg dB a.symm)|omega
  ·have a:inB i=false:=decide_eq_false fun h=>d h.2.1;repeat' first| (first|apply bn1|apply bpJ (by omega)|apply bpK (by omega))<;>(simp only[go_sem,b])|fail
   all_goals first|exact aZ c _ rfl rfl (congrArg dB a.symm)|omega
 ·have a:inB i=false:=decide_eq_false fun h=>b h.1;repeat' first| (first|apply bn1|apply bpK (by omega))<;>(simp only[go_sem])|fail
  all_goals first|exact aZ c _ rfl rfl (congrArg dB a.symm)|omega
theorem bl2 {i:CIn} (j:i.ready.length<2^20) (k:i.n9.length<2^20) (l:i.send.length<2^20) (h:K (dB (inB i)) H nx):aB Tryz.prog bl1 [boR (eIn i)] H nx K:=by
 refine aB.pure (args0:=[boR (eIn i)]) (R:=fun f=>f=dB (inB i)) ?_ rfl (aI ⟨aE rfl,trivial⟩) (fun r hr=>hr▸h);clear h;refine bmX rfl fun Q c=> ?_;unfold bl8;by_cases b:i.ready.length=3
 ·by_cases d:i.n9.length=4
  ·by_cases e:i.send.length=3
   ·have a:inB i=true:=decide_eq_true ⟨b,d,e⟩;repeat' first| (first|apply bn1|apply bpJ (by omega))<;>(simp only[go_sem,b,d,e])|fail
    all_goals exact aZ c _ rfl rfl (congrArg dB a.symm)
   ·have a:inB i=false:=decide_eq_false fun h=>e h.2.2;have g:decide ((i.send.length:Int)=3)=false:=decide_eq_false (by omega);repeat' first| (first|apply bn1|apply bpJ (by omega))<;>(simp only[go_sem,b,d,g])|fail
    all_goals first|exact aZ c _ rfl rfl (congrArg dB a.symm)|omega
  ·have a:inB i=false:=decide_eq_false fun h=>d h.2.1;repeat' first| (first|apply bn1|apply bpJ (by omega)|apply bpK (by omega))<;>(simp only[go_sem,b])|fail
   all_goals first|exact aZ c _ rfl rfl (congrArg dB a.symm)|omega
 ·have a:inB i=false:=decide_eq_false fun h=>b h.1;repeat' first| (first|apply bn1|apply bpK (by omega))<;>(simp only[go_sem])|fail
  all_goals first|exact aZ c _ rfl rfl (congrArg dB a.symm)|omega
end
end Go.Proofs.YtdkfhdmagdaceaaGreat
namespace Go.AM
noncomputable def evB (c:Cfg) (s:CSt) (i:CIn):List Ev:=if cyB c s=true∧inB i=true then TK c i s else []
theorem buU {c:Cfg} {s:CSt} {i:CIn} (a:cyB c s=true) (b:inB i=true):evB c s i=TK c i s:=if_pos ⟨a,b⟩
end Go.AM
namespace Go.Proofs.YtdkfhdmagdaceaaGreat
open Go Go.AM
attribute [local irreducible] aM wv aB vd wvH
section
variable {H : aA} {nx : Nat} {K : D → aA → Nat → Prop}
theorem buM {τ:Nat→Nat} {n m:Nat} {l:List Ev}:bA.rn τ ⟨n,m,l.map eEv⟩=⟨n,m,l.map eEv⟩:=by refine rF fun r hr x a=> ?_;obtain⟨y,_,rfl⟩:=CF.1 hr;exact w2.1 (aq2 y).2 x a
theorem bt3 (l:List Ev) (hl:l.length<2^21):aB Tryz.prog btT [dS (l.map eEv)] (hp []) 0
 fun r H' n'=>∃cap,l.length≤cap∧n'=1∧H'=hp [(0,⟨3,cap,l.map eEv⟩)]∧r=boQ 3 0 l.length cap:=by
 refine bt1 rfl fun Q c=> ?_
 unfold btS
 refine aM.seq (aM.EJ 3 ?_)
 repeat' first|apply bn1<;>(simp only[go_sem])|refine bpI (fun h=> ?_) fun h=> ?_| (with_reducible first|refine fun(cap:Nat) (d:_≤cap)=> ?_|refine fun(e:_≤cap)=> ?_|refine fun(b:Bool)=> ?_)| ((refine bnF (fun h=> ?_) (fun h=> ?_))<;>try subst h)|refine⟨by omega,?_⟩|fail
 all_goals first
  | (have a:=m5 cap
     (refine c _ _ _ _ _ 1 (boQ 3 0 l.length cap) (hp [(0,⟨3,cap,l.map eEv⟩)]) _ _ (.inr rfl) rfl (fU [6] (by omega) (by repeat' first|exact bo2| ((with_reducible apply bo0);exact bpB (by omega) rfl rfl (by rfl) rfl)| ((with_reducible apply bo1);apply bo7)|fail) ⟨⟨by simp,by simp[sgL],_,rfl,bP (aG aq2 _) rfl rfl⟩,trivial⟩ (by simp[sgL])) ?_)
     exact⟨cap,by omega,rfl,rfl,rfl⟩)
  | (have f:l=[]:=CE (by omega)
     subst f
     (refine c _ _ _ _ _ 1 (boQ 3 0 0 0) (hp [(0,⟨3,0,([]:List Ev).map eEv⟩)]) _ _ (.inr rfl) rfl (fU [0] (by omega) (by repeat' first|exact bo2| ((with_reducible apply bo0);exact bpA)| ((with_reducible apply bo1);apply bo7)|fail) ⟨⟨by simp,by simp[sgL],_,rfl,bP (aG aq2 _) rfl rfl⟩,trivial⟩ (by simp[sgL])) ?_)
     exact⟨0,m5 _,rfl,rfl,rfl⟩)
theorem bt2 {l:List Ev} (hl:l.length<2^21) (h: ∀cap,l.length≤cap→K (boQ 3 nx l.length cap) (H.set nx ⟨3,cap,l.map eEv⟩) (nx+1)):aB Tryz.prog btT [dS (l.map eEv)] H nx K:=by
 refine(bt3 l hl).AF (l0:=[]) [] rfl ⟨aE rfl,trivial⟩ trivial (by simp) (by simp) (by simp) fun r H' n' _ ⟨cap,bqB,a,b,c⟩=> ?_;have h:=h cap bqB;subst a;subst b;subst c;have d:back (tau 0 nx (nth [])) (hp [(0,⟨3,cap,l.map eEv⟩)]) 1 H=H.set nx ⟨3,cap,l.map eEv⟩:=by simp only[back,hp,aA.set,tau,bq2,if_true,if_false,Nat.sub_zero,Nat.add_zero,Option.map_some,buM,aA.eL]
 rw[←d] at h;exact h
theorem bt5:cJ Tryz.prog btW Tryz.f96 btU btZ:=cJ.mk Tryz.func96 (by kernel_rfl) bt6
theorem bt7 {l:List Ev} (hl:l.length<2^21) (h: ∀H' nx',nx≤nx'→(∀id,id<nx→H' id=H id)→K (dS (l.map eEv)) H' nx'):aB Tryz.prog btW [dS (l.map eEv)] H nx K:=by
 apply aB.tW;refine bt5 rfl fun Q b=> ?_;unfold btU;repeat' first| (first|apply bn1|refine bt2 hl (fun cap a=> ?_)|apply axH (l:=l) (by omega) a (by omega) aA.bH)<;>(simp only[go_sem])|fail
 refine b _ _ _ _ _ (.inr rfl) rfl ⟨dS (l.map eEv),_,fun j=>j=nx+1+4,yP aq2 aA.bH rfl (m5 _) rfl,PU,h _ _ (by omega) fun id c=> ?_⟩;simp (disch:=omega) only[aA.jG,aA.aC]
theorem bwO {a:List Ev} {b:List Ev} (p:a.length<2^40) (q:b.length<2^40) (h:K (dB (decide (a=b))) H nx):aB Tryz.prog bv8 [dS (a.map eEv),dS (b.map eEv)] H nx K:=by
 refine aB.pure (args0:=[dS (a.map eEv),dS (b.map eEv)]) (R:=fun m=>m=dB (decide (a=b))) ?_ rfl (aI ⟨aE rfl,aE rfl,trivial⟩) (fun r hr=>hr▸h);clear h;refine bwM rfl fun Q f=> ?_;unfold bv5;by_cases hl:a.length=b.length
 ·repeat' first|apply bn1<;>(simp only[go_sem])|apply bn3 (by omega)|fail
  (refine aM.loop (α:={k:Nat//k≤a.length∧(∀i,i<k→a.getD i default=b.getD i default)}) (fun u=>en [(5,boP u.1),(1,dS (b.map eEv)),(0,dS (a.map eEv))]) (fun _=>.nil) _ (fun u=>a.length-u.1) ⟨0,by omega,(by intros;first|trivial|omega)⟩ (bU (m5 _) (by repeat' first|exact bo2|refine xqI rfl rfl ?_|fail)) ?_);(rintro⟨k,s,hinv⟩ bpQ g);by_cases o:k<a.length
  ·have d:xY (eEv (a.getD k default))=some [(a.getD k default).kind,(a.getD k default).who,(a.getD k default).n]:=rfl;have e:xY (eEv (b.getD k default))=some [(b.getD k default).kind,(b.getD k default).who,(b.getD k default).n]:=rfl;have j: ¬a.getD k default=b.getD k default→¬a=b:=fun d e=>d (by rw[e]);have heq:[(a.getD k default).kind,(a.getD k default).who,(a.getD k default).n]=[(b.getD k default).kind,(b.getD k default).who,(b.getD k default).n]↔a.getD k default=b.getD k default:=(by generalize a.getD k default=x;generalize b.getD k default=y;obtain⟨t,bpZ,aYM⟩:=x;obtain⟨v,aHC,aHD⟩:=y;simp);generalize w:[(a.getD k default).kind,(a.getD k default).who,(a.getD k default).n]=X at*;generalize z:[(b.getD k default).kind,(b.getD k default).who,(b.getD k default).n]=Y at*;by_cases c:X=Y
   ·have l:(¬X=Y)=False:=eq_false (Classical.not_not.2 c);repeat' first|apply bn1<;>(simp only[go_sem,d,e,c];try simp (disch:=omega) only[Iw])|apply bn2 (by omega)|refine⟨by omega,?_⟩|fail
    (refine g _ _ _ ⟨k+1,by omega,iS hinv (heq.1 c)⟩ (by omega) (by(try dsimp only);omega) (bU (m5 _) (by repeat' first|exact bo2|refine xqI rfl rfl ?_|fail)))
   ·have l:(X=Y)=False:=eq_false c;repeat' first|apply bn1<;>(simp only[go_sem,d,e,l])|apply bn2 (by omega)|refine⟨by omega,?_⟩|fail
    refine aZ f _ rfl rfl (j7 (j fun he=>c (heq.2 he)))
  ·repeat' first|apply bn1<;>(simp only[go_sem])|apply bn3 (by omega)|fail
   refine aZ f _ rfl rfl (q9 (yO hl fun i hi=>hinv i (by omega)))
 ·repeat' first|apply bn1<;>(simp only[go_sem])|apply bn2 (by omega)|fail
  refine aZ f _ rfl rfl (j7 fun he=>hl (by rw[he]))
theorem buG:cJ Tryz.prog bt4 Tryz.f29 btY bt9:=cJ.mk Tryz.func29 (by kernel_rfl) buE
theorem buF {c:Cfg} {s:CSt} {i:CIn} (p:jO c) (w:beL s) (hi:bm3 i)
 (h: ∀H' nx',nx≤nx'→(∀id,id<nx→H' id=H id)→K (dS ((evB c s i).map eEv)) H' nx'):aB Tryz.prog bt4 [boR (cU c),boR (eI s),boR (eIn i)] H nx K:=by
 obtain⟨P,R,S⟩:=hi
 apply aB.tW
 refine buG rfl fun Q x=> ?_
 unfold btY
 have r: ¬(cyB c s=true∧inB i=true)→evB c s i=[]:=fun h=>if_neg h
 by_cases q:cyB c s=true
 ·by_cases m:inB i=true
  ·obtain⟨E,hs⟩:=bmR.1 q;have y:=bm2.1 m;rw[buU q m] at h;repeat' first| (first|apply bn1|apply bd4 p w|apply bl6 (i:=i) (by omega) (by omega) (by omega)|refine fJ (hs.sz E) (fun H' nx' nm cells T z boS n=> ?_))<;>(simp only[go_sem,q,m,boC])|fail
   have t:cells.length=5:=(by obtain⟨_,_,_,_,_,rfl,_⟩:=z.ex;rfl);have u:cells++List.drop cells.length [D1.osl 0 0 0 0 0,.osl 0 0 0 0 0,.osl 0 0 0 0 0,.osl 0 0 0 0 0,.osl 0 0 0 0 0]=cells:=(by rw[t];simp);refine⟨t,by omega,?_⟩;rw[u];try apply bn0
   refine aM.TF fun bqO f=> ?_;have c0:bqO nx=some ⟨3,1,[cU c]⟩:=(by rw[f,aA.aC (by omega),n _ (by omega)];simp (disch:=omega) only[aA.aC,aA.bH]);have c2:bqO (nx+2)=some ⟨3,1,[eIn i]⟩:=(by rw[f,aA.aC (by omega),n _ (by omega)];simp (disch:=omega) only[aA.aC,aA.bH]);have A: ∀id,id<nx→bqO id=H id:=fun id g=>by rw[f,aA.aC (by omega),n _ (by omega)];simp (disch:=omega) only[aA.aC]
   have bnC:Rep (fun id=>id<nx+3) bqO nx' (nx+15) nm s:=(by have o:=fun k j=>boS.rng k j;refine⟨⟨cells,by rw[f];exact aA.bH,z.frame fun k j=>by have:=o k j;rw[f,aA.aC (by omega)]⟩,⟨boS.inj,fun k j=>by have:=o k j;omega,fun k j U=>by have:=o k j;omega⟩,fun k j=>by have:=o k j;omega,⟨by omega,by omega⟩,fun id g=>by omega⟩);clear f z boS n;have F:bQ nx' [nx,nx+2]:=AM.apart (by simp) (by simp;omega);simp only[bQ,eZ] at F;repeat' first|apply bn1<;>(simp only[go_sem,boC,c0,c2,F])|fail
   refine tX (X:=fun id=>id<nx+3) E hs y (bnC.frame (by omega) rfl (fun _ _=>rfl) fun id v=>⟨by omega,by omega,fun k j he=>bnC.names.av k j (he▸v)⟩) fun H2 G I a b d e J L B=> ?_;have M:=ay2 (c:=c) (i:=i) (s:=s);(try simp only[go_sem,boC,boC]);repeat' first| (first|apply bn1|refine bt7 (l:=TK c i s) (by omega) (fun V N O C=> ?_))<;>(simp only[go_sem,boC,boC])|fail
   exact x _ _ _ _ _ (.inr rfl) rfl ⟨_,_,noF,aE rfl,aK,h _ _ (by omega) fun id g=>by rw[C _ (by omega),B _ (by show id<nx+3;omega)];exact A id g⟩
  ·have m:inB i=false:=by cases D:inB i;rfl;exact absurd D m
   rw[r (fun h=>by rw[m] at h;exact absurd h.2 (by decide))] at h;repeat' first| (first|apply bn1|apply bd4 p w|apply bl6 (i:=i) (by omega) (by omega) (by omega))<;>(simp only[go_sem,q,m,boC])|fail
   exact x _ _ _ _ _ (.inr rfl) rfl ⟨dS (([]:List Ev).map eEv),_,noF,xG,aK,h _ _ (by omega) fun id g=>by simp (disch:=omega) only[aA.aC]⟩
 ·have m:cyB c s=false:=by cases D:cyB c s;rfl;exact absurd D q
  rw[r (fun h=>q h.1)] at h;repeat' first| (first|apply bn1|apply bd4 p w)<;>(simp only[go_sem,m,boC])|fail
  exact x _ _ _ _ _ (.inr rfl) rfl ⟨dS (([]:List Ev).map eEv),_,noF,xG,aK,h _ _ (by omega) fun id g=>by simp (disch:=omega) only[aA.aC]⟩
end
end Go.Proofs.YtdkfhdmagdaceaaGreat
namespace Go.AM
def bwV (s:CSt):Option Mic→List Ev
 |none=>[]
 |some m=>y0 s m
def LOE (c:Cfg) (f:CSt→Nat→Option Mic) (l:List Nat) (s:CSt) (E:List Ev) (S:CSt) (T:List Ev):Prop:=dR c s (vE c f s l)=S∧E++iP c s (vE c f s l)=T
variable{s:CSt}
theorem LOE.next{c:Cfg}{f:CSt→Nat→Option Mic}{S:CSt}{k:Nat}{l:List Nat}{E T:List Ev} (h:LOE c f (k::l) s E S T):LOE c f l (atS c s (f s k)) (E++bwV s (f s k)) S T:=by
 unfold LOE at h
 cases a:f s k with
 |none=>rw[GZ a] at h;exact⟨h.1,by rw[bwV,bq6];exact h.2⟩
 |some m=>rw[NH a] at h;exact⟨h.1,by rw[C0];exact h.2⟩
theorem LOE.none {c:Cfg} {f:CSt→Nat→Option Mic} {s S:CSt} {k:Nat} {l:List Nat} {E T:List Ev} (h:LOE c f (k::l) s E S T) (a:f s k=none):LOE c f l s E S T:=by have:=h.next;rw[a,bwV,bq6] at this;exact this
theorem LOE.nil{c:Cfg}{f:CSt→Nat→Option Mic}{S:CSt}{E T:List Ev} (h:LOE c f [] s E S T):s=S∧E=T:=⟨h.1,by rw[←h.2];exact(bq6 E).symm⟩
structure EvI (c:Cfg) (nx:Nat) (G H:aA) (nx1:Nat) (nm:Nat→Nat) (cl:List D1) (s:CSt) (E:List Ev) (io cap:Nat):Prop where
 ok:COk c s
 rep:bgJ (fun id=>id<nx+18∨id=io) H nx1 nm s cl
 x:H (nx+17)=some ⟨5,1,[cl]⟩
 out: ∃m,H io=some ⟨3,m,E.map eEv⟩∧E.length≤cap∧cap≤m
 io:io=nx+4∨nx+18≤io
 fr: ∀id,id<nx+17→id≠nx+4→H id=G id
theorem bgJ.swap{H G:aA}{n n' p io b:Nat}{nm:Nat→Nat}{e:List D1} (h:bgJ (fun id=>id<p∨id=io) H n nm s e) (f: ∀id,id<n→id≠io→G id=H id) (g:n≤b) (d:b<n'):bgJ (fun id=>id<p∨id=b) G n' nm s e:=
 ⟨h.rep.frame fun j c=>f _ (h.names.lt j c) fun he=>h.names.av j c (.inr he),⟨h.names.inj,fun j c=>by have:=h.names.lt j c;omega,fun j c d=>by
   rcases d with d|d
   ·exact h.names.av j c (.inl d)
   ·have:=h.names.lt j c;omega⟩,fun id a=>by
   rcases a with a|a
   ·have:=h.x id (.inl a);omega
   ·omega⟩
theorem bgJ.add{X:Nat→Prop}{H G:aA}{n n' b:Nat}{nm:Nat→Nat}{e:List D1} (h:bgJ X H n nm s e) (f: ∀id,id<n→G id=H id) (g:n≤b) (d:b<n'):bgJ (fun id=>X id∨id=b) G n' nm s e:=
 ⟨h.rep.frame fun j c=>f _ (h.names.lt j c),⟨h.names.inj,fun j c=>by have:=h.names.lt j c;omega,fun j c d=>by
   rcases d with d|d
   ·exact h.names.av j c d
   ·have:=h.names.lt j c;omega⟩,fun id a=>by
   rcases a with a|a
   ·have:=h.x id a;omega
   ·omega⟩
def bwL (c:Cfg) (i:CIn) (s:CSt) (k:Nat):List Ev:=if i.send.getD k default=true∧(aF s k).queue.length<2∧(aF s k).next<(c.cP.getD k default).length then [⟨1,k,(aF s k).next⟩] else []
theorem bwS {c:Cfg} {i:CIn} {s:CSt}: ∀{l:List Nat} {x:CSt},l.Nodup→x.bM.length=3→(∀k∈l,k<3∧aF x k=aF s k)→iP c x (vE c (PA c i) x l)=l.flatMap (bwL c i s)
 | [],x,_,_,_=>rfl
 |k::l,x,d,hp,hl=>by
  obtain⟨f,a⟩:=hl k (by simp);rw[bq8] at d;rw[br4];by_cases e:i.send.getD k default=true∧(aF s k).queue.length<2∧(aF s k).next<(c.cP.getD k default).length
  ·have boT:PA c i x k=some (.ask k):=(by unfold PA;rw[a];exact if_pos e);rw[NH boT];show y0 x (.ask k)++iP c (aR c x (.ask k)) (vE c (PA c i) (aR c x (.ask k)) l)=_;rw[bwS (l:=l) d.2 (by simp[aR,hp]) fun j b=>⟨(hl j (bq9 _ b)).1,?_⟩];·unfold bwL;rw[if_pos e,y0,a]
   ·rw[bL (s:=x) rfl (by omega),if_neg (fun he=>d.1 (by rw[←he];exact b))];exact(hl j (bq9 _ b)).2
  ·have boT:PA c i x k=none:=(by unfold PA;rw[a];exact if_neg e);rw[GZ boT,bwS (l:=l) d.2 hp fun j b=>hl j (bq9 _ b)];unfold bwL;rw[if_neg e];rfl
theorem bwY{c:Cfg}{i:CIn} (h:s.bM.length=3):iP c s (MV c i s)=(List.range 3).flatMap (bwL c i s):=by unfold MV;exact bwS (s:=s) (by decide) h fun k a=>⟨tC a,rfl⟩
theorem bwP{c:Cfg}{i:CIn}{k:Nat}:(List.range (k+1)).flatMap (bwL c i s)=(List.range k).flatMap (bwL c i s)++bwL c i s k:=by rw[brP,bw6];simp
end Go.AM
namespace Go.Proofs.YtdkfhdmagdaceaaGreat
open Go Go.AM
attribute [local irreducible] aM wv aB vd wvH
section
variable {H : aA} {nx : Nat} {K : D → aA → Nat → Prop}
theorem bwI:cJ Tryz.prog bv7 Tryz.f31 bv3 bwB:=cJ.mk Tryz.func31 (by kernel_rfl) bwK
theorem bwJ {c:Cfg} {s:CSt} {i:CIn} (bd:jO c) (hf:beL s) (hi:bm3 i)
 (h: ∀H' nx',nx≤nx'→(∀id,id<nx→H' id=H id)→K (dS ((evB c s i).map eEv)) H' nx'):aB Tryz.prog bv7 [boR (cU c),boR (eI s),boR (eIn i)] H nx K:=by
 obtain⟨l1,l2,l3⟩:=hi
 apply aB.tW
 refine bwI rfl fun Q hQ=> ?_
 unfold bv3
 have ck: ¬(cyB c s=true∧inB i=true)→evB c s i=[]:=fun h=>if_neg h
 cases L:cyB c s
 ·rw[ck (fun h=>by rw[L] at h;exact absurd h.1 (by decide))] at h;repeat' first| (first|apply bn1|apply bd7 bd hf)<;>(simp only[go_sem,L,boC])|fail
  exact hQ _ _ _ _ _ (.inr rfl) rfl ⟨dS (([]:List Ev).map eEv),_,noF,xG,aK,h _ _ (by omega) fun id S=>by simp (disch:=omega) only[aA.aC]⟩
 cases z:inB i
 ·rw[ck (fun h=>by rw[z] at h;exact absurd h.2 (by decide))] at h;repeat' first| (first|apply bn1|apply bd7 bd hf|apply bl2 (i:=i) (by omega) (by omega) (by omega))<;>(simp only[go_sem,L,z,boC])|fail
  exact hQ _ _ _ _ _ (.inr rfl) rfl ⟨dS (([]:List Ev).map eEv),_,noF,xG,aK,h _ _ (by omega) fun id S=>by simp (disch:=omega) only[aA.aC]⟩
 rw[buU L z] at h
 obtain⟨hb,hs⟩:=bmR.1 L
 have ao:=bm2.1 z
 have cy:=hs.sz hb
 obtain⟨cl,bf,bg⟩:=ao
 repeat' first| (first|apply bn1|apply bd7 bd hf|apply bl2 (i:=i) (by omega) (by omega) (by omega)|refine bjQ cy (fun H1 cz nm cells hx hR boS aq=> ?_))<;>(simp only[go_sem,L,z,boC])|fail
 have cm:cells.length=5:=by obtain⟨_,_,_,_,_,rfl,_⟩:=hR.ex;rfl
 have bh:cells++List.drop cells.length [D1.osl 0 0 0 0 0,.osl 0 0 0 0 0,.osl 0 0 0 0 0,.osl 0 0 0 0 0,.osl 0 0 0 0 0]=cells:=by rw[cm];simp
 refine⟨cm,by omega,?_⟩
 rw[bh]
 try apply bn0
 refine aM.aTJ fun G bqK=> ?_
 have bfZ:G nx=some ⟨3,1,[cU c]⟩:=by rw[bqK,aA.aC (by omega),aq _ (by omega)];simp (disch:=omega) only[aA.aC,aA.bH]
 have f2:G (nx+2)=some ⟨3,1,[eIn i]⟩:=by rw[bqK,aA.aC (by omega),aq _ (by omega)];simp (disch:=omega) only[aA.aC,aA.bH]
 have bpT:G (nx+4)=some ⟨3,0,[]⟩:=by rw[bqK,aA.aC (by omega),aq _ (by omega)];exact aA.bH
 have fx:G (nx+17)=some ⟨5,1,[cells]⟩:=by rw[bqK];exact aA.bH
 have ff: ∀id,id<nx→G id=H id:=fun id S=>by rw[bqK,aA.aC (by omega),aq _ (by omega)];simp (disch:=omega) only[aA.aC]
 have bw1:bgJ (fun id=>id<nx+18∨id=nx+4) G cz nm s cells:=by have bj:=fun k hk=>boS.rng k hk;exact⟨hR.frame fun k hk=>by have:=bj k hk;rw[bqK,aA.aC (by omega)],⟨boS.inj,fun k hk=>(bj k hk).2,fun k hk hn=>by have:=bj k hk;omega⟩,fun id S=>by omega⟩
 clear bqK hR boS aq
 repeat' first|apply bn1<;>(simp only[go_sem])|fail
 refine aM.gP (β:=Nat×(Nat→Nat)×List D1×CSt×List Ev×Nat×Nat) (fun u=>en [(9,boP u.1),(8,.one (.c (.ptr 5 (nx+17) 0 0))),(7,.one (.c (.osl 3 u.2.2.2.2.2.1 0 u.2.2.2.2.1.length u.2.2.2.2.2.2))),(5,.one (.c (.ptr 3 (nx+2) 0 0))),(3,.one (.c (.ptr 3 nx 0 0)))])
  (fun u H1 bp0=>u.1≤3∧u.2.2.2.2.1.length≤u.1∧EvI c nx G H1 bp0 u.2.1 u.2.2.1 u.2.2.2.1 u.2.2.2.2.1 u.2.2.2.2.2.1 u.2.2.2.2.2.2∧LOE c (vT i) ([0,1,2].drop u.1) u.2.2.2.1 u.2.2.2.2.1 (CW c i s) (iP c s (KQ c i s))) (fun u=>3-u.1) (0,nm,cells,s,[],nx+4,0)
  ⟨noF,_,by repeat' first|exact bo2|refine xqI rfl rfl ?_|refine xqP (by omega) rfl rfl ?_| (with_reducible apply bo3)| ((with_reducible apply bo0);exact bpA)| ((with_reducible apply bo1);apply bo7)|fail,aK,by dsimp only;omega,by simp,⟨hs,bw1.frame (by omega) (fun _ _ _=>rfl),fx,⟨0,bpT,m5 _,m5 _⟩,.inl rfl,fun _ _ _=>rfl⟩,⟨rfl,rfl⟩⟩ ?_
 rintro⟨k,ab,eb,s1,bw2,io,cap⟩ H2 B da ⟨hk,db,hE,O⟩ bpQ bk
 dsimp only at hk db hE O
 obtain⟨C,ar,q,⟨m,T,o2,bqD⟩,ao,a⟩:=hE
 have boU:=(a nx (by omega) (by omega)).trans bfZ
 have M:=(a (nx+2) (by omega) (by omega)).trans f2
 have ah:=ar.x io (.inr rfl)
 have ai:=ar.x (nx+17) (.inl (by omega))
 have hB:bQ B [nx,nx+2,nx+17,io]:=AM.apart (by simp;omega) (by simp;omega)
 simp only[bQ,eZ] at hB
 have f:=ar.ar5 C.pl C.sl (G:=H2) (fun id S=>rfl)
 have g:=ar
 obtain⟨wc,hc,pc,vc,tc,mp,rp,mv,rv,E,g1,g2,g3,g4,g5,bkU,bkV,bp4,bp5,ga,gb⟩:=ar.get
 subst E
 have lt:=g.names.lt
 have bqP:=lt 3 (by omega)
 have av:=g.names.av
 by_cases e:k<3
 ·rw[ap4 e] at O
  cases hr:i.ready.getD k default with
  |false=>
   repeat' first|apply bn1<;>(simp only[go_sem,boC,boU,q,M,hr,cl,hB];try simp (disch:=omega) only[Iw])|apply bn2 (by omega)|refine⟨by omega,?_⟩|fail
   all_goals exact bk _ _ _ (k+1,ab,_,s1,bw2,io,cap) noF _ (by omega) (by dsimp only;omega) (by dsimp only;repeat' first|exact bo2|refine xqI rfl rfl ?_|refine xqP (by omega) rfl rfl ?_|refine xqO (by omega) rfl rfl (by rfl) ?_|fail) aK ⟨by dsimp only;omega,by dsimp only;omega,⟨C,g.frame (by omega) (fun _ _ _=>rfl),q,⟨m,T,o2,bqD⟩,ao,a⟩,O.none (agJ hr)⟩
  |true=>
   repeat' first| (first|apply bn1|refine bjH C e hr f (fun r dd=> ?_))<;>(simp only[go_sem,boC,boU,q,M,hr,cl,hB])|apply bn2 (by omega)|refine⟨by omega,?_⟩|fail
   rcases dd with⟨ho,rfl⟩|⟨st,bm,ho,rfl⟩
   · (try simp only[go_sem,boC,boU,q,M,hB]);repeat' first|apply bn1<;>(simp only[go_sem,boC,boU,q,M,hB];try simp (disch:=omega) only[Iw])|fail
     all_goals exact bk _ _ _ (k+1,ab,_,s1,bw2,io,cap) noF _ (by omega) (by dsimp only;omega) (by dsimp only;repeat' first|exact bo2|refine xqI rfl rfl ?_|refine xqP (by omega) rfl rfl ?_|refine xqO (by omega) rfl rfl (by rfl) ?_|fail) aK ⟨by dsimp only;omega,by dsimp only;omega,⟨C,g.frame (by omega) (fun _ _ _=>rfl),q,⟨m,T,o2,bqD⟩,ao,a⟩,O.none ho⟩
   ·obtain⟨_,_,de,ec⟩:=TB C e ho;obtain⟨po,df,do_,dc,gs,gp,gd⟩:=gb st bm;obtain⟨d,hd⟩: ∃d,(aL s1 st).done.getD 0 default=d:=⟨_,rfl⟩
    obtain⟨md,rd,d1,d2,d3,bkS,bk2,bk3⟩:=gd.ex;have bk4:rd[do_]?=some (aS d):=(by have:(rd.drop do_)[0]?=some (aS d):=(by rw[d2,p0,←hd];simp[List.getD,de]);rwa [s5,Nat.add_zero] at this);have k3: ∀(W:aA) (b:Nat),msk (B+b) [14] W (ab 3)=W (ab 3):=fun W b=>mk1 (by omega);have kx: ∀(W:aA) (b:Nat),msk (B+b) [14] W (nx+17)=W (nx+17):=fun W b=>mk1 (by omega);have U:bQ B [ab 3,ab (15+st)]:=AM.apart (by simp;intro he;have:=g.names.inj 3 (15+st) (by omega) (by omega) he;omega) (by simp;exact⟨bqP,lt (15+st) (by omega)⟩);simp only[bQ,eZ] at U;(try simp only[go_sem,boC,boU,q,M,g2,gs,d1,bk4,k3,kx,hB,U]);repeat' first| (first|apply bn1|refine bjH C e hr f (fun r2 dg=> ?_))<;>(simp only[go_sem,boC,boU,q,M,g2,gs,d1,bk4,k3,kx,hB,U])|apply bn2 (by omega)|fail
    rcases dg with⟨h',_⟩|⟨ed,_,cn,rfl⟩
    ·rw[ho] at h';cases h'
    rw[ho] at cn;cases cn;have aj:List.take bw2.length (bw2.map eEv)=bw2.map eEv:=boL (by simp);have ak:(bw2.map eEv).length=bw2.length:=bqW ..;(try simp only[go_sem,boC,boU,q,M,g2,gs,d1,bk4,k3,kx,T,aj,ak,hB,U]);repeat' first|apply bn1<;>(simp only[go_sem,boC,boU,q,M,g2,gs,d1,bk4,k3,kx,T,aj,ak,hB,U])| (with_reducible first|refine fun(cap:Nat) (au:_≤cap)=> ?_|refine fun(cp:_≤cap)=> ?_)|refine⟨by omega,?_⟩|fail
    generalize F:aA.set _ (B+28) _=aID;have dh:aID (B+28)=some ⟨3,cap,(bw2++[(⟨3,k,d.n⟩:Ev)]).map eEv⟩:=(by rw[←F,aA.bH,bqX];rfl);have V: ∀id,id<B→id≠io→aID id=H2 id:=fun id h3 h4=>by rw[←F,aA.aC (by omega),aA.aC (by omega),aA.jG h4]
    clear F;have ad:=bgJ.swap (b:=B+28) (n':=B+34) g V (by omega) (by omega);refine bjM (X:=fun id=>id<nx+18∨id=B+28) hb C e hr ad fun H' nx' ae P bn I w=> ?_;have J:=(w (nx+17) (.inl (by omega))).trans ((V (nx+17) (by omega) (by omega)).trans q);have di:=(w (B+28) (.inr rfl)).trans dh;have al:=bj1 hb C (o:=vT i s1 k) (fun m hm=>TB C e hm);obtain⟨bo,bp,bq,br,bs,_,_,_,_,l,_⟩:=I.get;subst l;(try simp only[go_sem,boC,J]);repeat' first|apply bn1<;>(simp only[go_sem,boC,J];try simp (disch:=omega) only[Iw])|fail
    have aw:bwV s1 (vT i s1 k)=[⟨3,k,d.n⟩]:=(by rw[ho,←hd];rfl);have Y:=O.next;rw[aw] at Y;exact bk _ _ _ (k+1,ae,_,atS c s1 (vT i s1 k),bw2++[⟨3,k,d.n⟩],B+28,cap) noF _ (by omega) (by dsimp only;omega) (by dsimp only;rw[t2,List.length_singleton];repeat' first|exact bo2|refine xqI rfl rfl ?_|refine xqP (by omega) rfl rfl ?_|refine xqO (by omega) rfl rfl (by rfl) ?_|fail) aK ⟨by dsimp only;omega,by dsimp only;rw[t2,List.length_singleton];omega,⟨al,I.frame (by omega) (fun id L z=>aA.aC fun he=>z (.inl (by omega))),aA.bH,⟨cap,by dsimp only;rw[aA.aC (by omega)];exact di,by dsimp only;rw[t2,List.length_singleton];omega,m5 _⟩,.inr (by dsimp only;omega),fun id L z=>by rw[aA.aC (by omega),w id (.inl (by omega)),V id (by omega) (by omega)];exact a id L z⟩,Y⟩
 ·have bt:k=3:=by omega
  subst bt;obtain⟨bu,dj⟩:=LOE.nil O;subst bu;repeat' first|apply bn1<;>(simp only[go_sem])|apply bn3 (by omega)|fail
  refine aM.gP (β:=Nat×(Nat→Nat)×List D1×CSt×List Ev×Nat×Nat) (fun u=>en [(10,boP u.1),(8,.one (.c (.ptr 5 (nx+17) 0 0))),(7,.one (.c (.osl 3 u.2.2.2.2.2.1 0 u.2.2.2.2.1.length u.2.2.2.2.2.2))),(5,.one (.c (.ptr 3 (nx+2) 0 0))),(3,.one (.c (.ptr 3 nx 0 0)))])
   (fun u H1 bp0=>u.1≤4∧u.2.2.2.2.1.length≤3+u.1∧EvI c nx G H1 bp0 u.2.1 u.2.2.1 u.2.2.2.1 u.2.2.2.2.1 u.2.2.2.2.2.1 u.2.2.2.2.2.2∧LOE c (qW i) ([0,1,2,3].drop u.1) u.2.2.2.1 u.2.2.2.2.1 (QD c i s) (bw2++iP c (CW c i s) (xX c i (CW c i s)))) (fun u=>4-u.1) (0,ab,_,CW c i s,bw2,io,cap)
   ⟨noF,_,by dsimp only;repeat' first|exact bo2|refine xqI rfl rfl ?_|refine xqP (by omega) rfl rfl ?_|refine xqO (by omega) rfl rfl (by rfl) ?_|fail,aK,by dsimp only;omega,by dsimp only;omega,⟨C,g.frame (by omega) (fun _ _ _=>rfl),q,⟨m,T,o2,bqD⟩,ao,a⟩,⟨rfl,rfl⟩⟩ ?_
  clear g a boU q M hB f g1 g2 g3 g4 g5 bkU bkV bp4 bp5 ga gb lt bqP av T o2 bqD C ai ah;obtain⟨bw3,cq⟩: ∃bw3,bw3=bw2++iP c (CW c i s) (xX c i (CW c i s)):=⟨_,rfl⟩
  rw[←cq];rintro⟨k,bc,ee,s2,bw4,t,aa⟩ H3 p dk ⟨hk,bw,hE,O⟩ bqG bx;dsimp only at hk bw hE O;obtain⟨D,ad,q,⟨bp3,T,o2,bqD⟩,af,a⟩:=hE;have boU:=(a nx (by omega) (by omega)).trans bfZ;have M:=(a (nx+2) (by omega) (by omega)).trans f2;have ah:=ad.x t (.inr rfl);have ai:=ad.x (nx+17) (.inl (by omega));have hB:bQ p [nx,nx+2,nx+17,t]:=AM.apart (by simp;omega) (by simp;omega);simp only[bQ,eZ] at hB;have f:=ad.ar5 D.pl D.sl (G:=H3) (fun id S=>rfl);have g:=ad;obtain⟨wc,hc,pc,vc,tc,mp,rp,mv,rv,E,g1,g2,g3,g4,g5,bkU,bkV,bp4,bp5,ga,gb⟩:=ad.get;subst E;have lt:=g.names.lt;have bqP:=lt 3 (by omega);have av:=g.names.av;by_cases e:k<4
  ·rw[apX e] at O;have al:=bj1 hb D (o:=qW i s2 k) (fun m hm=>LM D e hm)
   cases hr:i.n9.getD k default with
   |true=>
    repeat' first|apply bn1<;>(simp only[go_sem,boC,boU,q,M,hr,bf,hB];try simp (disch:=omega) only[Iw])|apply bn2 (by omega)|refine⟨by omega,?_⟩|fail
    all_goals exact bx _ _ _ (k+1,bc,_,s2,bw4,t,aa) noF _ (by omega) (by dsimp only;omega) (by dsimp only;repeat' first|exact bo2|refine xqI rfl rfl ?_|refine xqP (by omega) rfl rfl ?_|refine xqO (by omega) rfl rfl (by rfl) ?_|fail) aK ⟨by dsimp only;omega,by dsimp only;omega,⟨D,g.frame (by omega) (fun _ _ _=>rfl),q,⟨bp3,T,o2,bqD⟩,af,a⟩,O.none (aa0 (.inl hr))⟩
   |false=>
    by_cases boS:0<(aL s2 k).pipe.length∧(bI s2 k).left=0∧(aL s2 k).done.length<2
    ·obtain⟨po,df,do_,dc,gs,gp,gd⟩:=gb k e;obtain⟨d,hd⟩: ∃d,(aL s2 k).pipe.getD 0 default=d:=⟨_,rfl⟩
     obtain⟨md,rd,d1,d2,d3,bkS,bk2,bk3⟩:=gp.ex;have bk4:rd[po]?=some (eCJ d):=(by have:(rd.drop po)[0]?=some (eCJ d):=(by rw[d2,p0,←hd];simp[List.getD,boS.1]);rwa [s5,Nat.add_zero] at this);have ef:=boS.1;have U:bQ p [bc 3,bc (11+k)]:=AM.apart (by simp;intro he;have:=g.names.inj 3 (11+k) (by omega) (by omega) he;omega) (by simp;exact⟨bqP,lt (11+k) (by omega)⟩);simp only[bQ,eZ] at U;have aj:List.take bw4.length (bw4.map eEv)=bw4.map eEv:=boL (by simp);have ak:(bw4.map eEv).length=bw4.length:=bqW ..
     have dm:qW i s2 k=some (.work k):=by
      unfold qW
      rw[if_neg (fun h=>by
       rcases h with h|h
       ·rw[hr] at h;cases h
       ·have:=boS.1;omega),if_neg (by have:=boS.2.1;omega),if_pos boS.2.2]
     repeat' first| (first|apply bn1|apply bgY D e f)<;>(simp only[go_sem,boC,boU,q,M,g2,gs,d1,bk4,hr,bf,boS,T,aj,ak,hB,U])|apply bn2 (by omega)| (with_reducible first|refine fun(cap:Nat) (au:_≤cap)=> ?_|refine fun(cp:_≤cap)=> ?_)|refine⟨by omega,?_⟩|fail
     generalize F:aA.set _ (p+34) _=aID;have dn:aID (p+34)=some ⟨3,cap,(bw4++[(⟨2,d.who,d.n⟩:Ev)]).map eEv⟩:=(by rw[←F,aA.bH,bqX];rfl);have V: ∀id,id<p→id≠t→aID id=H3 id:=fun id h3 h4=>by rw[←F,aA.aC (by omega),aA.aC (by omega),aA.jG h4]
     clear F;have N:=bgJ.swap (b:=p+34) (n':=p+47) g V (by omega) (by omega);refine bjR (X:=fun id=>id<nx+18∨id=p+34) hb D e hr N fun H' nx' ae P bn I w=> ?_;have J:=(w (nx+17) (.inl (by omega))).trans ((V (nx+17) (by omega) (by omega)).trans q);have ax:=(w (p+34) (.inr rfl)).trans dn;obtain⟨bo,bp,bq,br,bs,_,_,_,_,l,_⟩:=I.get;subst l;(try simp only[go_sem,boC,J]);repeat' first|apply bn1<;>(simp only[go_sem,boC,J];try simp (disch:=omega) only[Iw])|fail
     have aw:bwV s2 (qW i s2 k)=[⟨2,d.who,d.n⟩]:=(by rw[dm,←hd];rfl);have Y:=O.next;rw[aw] at Y;exact bx _ _ _ (k+1,ae,_,atS c s2 (qW i s2 k),bw4++[⟨2,d.who,d.n⟩],p+34,cap) noF _ (by omega) (by dsimp only;omega) (by dsimp only;rw[t2,List.length_singleton];repeat' first|exact bo2|refine xqI rfl rfl ?_|refine xqP (by omega) rfl rfl ?_|refine xqO (by omega) rfl rfl (by rfl) ?_|fail) aK ⟨by dsimp only;omega,by dsimp only;rw[t2,List.length_singleton];omega,⟨al,I.frame (by omega) (fun id L z=>aA.aC fun he=>z (.inl (by omega))),aA.bH,⟨cap,by dsimp only;rw[aA.aC (by omega)];exact ax,by dsimp only;rw[t2,List.length_singleton];omega,m5 _⟩,.inr (by dsimp only;omega),fun id L z=>by rw[aA.aC (by omega),w id (.inl (by omega)),V id (by omega) (by omega)];exact a id L z⟩,Y⟩
    ·have aw:bwV s2 (qW i s2 k)=[]:=by
      unfold qW
      split
      ·rfl
      ·split;·rfl
       ·split;·rename_i q1 q2 q3;have cr:0<(aL s2 k).pipe.length:=Nat.pos_of_ne_zero fun h0=>q1 (.inr h0);have eg:=((D.slv k e).left 0 cr).1.1;exact absurd ⟨cr,by unfold bI at q2 ⊢;omega,q3⟩ boS
        ·rfl
     repeat' first| (first|apply bn1|apply bgY D e f)<;>(simp only[go_sem,boC,boU,q,M,hr,bf,boS,hB])|apply bn2 (by omega)|refine⟨by omega,?_⟩|fail
     refine bjR (X:=fun id=>id<nx+18∨id=t) hb D e hr (g.frame (nx':=p+24) (by omega) (fun _ _ _=>rfl)) fun H' nx' ae P bn I w=> ?_
     have J:=(w (nx+17) (.inl (by omega))).trans q
     have ax:=(w t (.inr rfl)).trans T
     obtain⟨bo,bp,bq,br,bs,_,_,_,_,l,_⟩:=I.get
     subst l
     (try simp only[go_sem,boC,J]);repeat' first|apply bn1<;>(simp only[go_sem,boC,J];try simp (disch:=omega) only[Iw])|fail
     have Y:=O.next
     rw[aw,bq6] at Y
     exact bx _ _ _ (k+1,ae,_,atS c s2 (qW i s2 k),bw4,t,aa) noF _ (by omega) (by dsimp only;omega) (by dsimp only;repeat' first|exact bo2|refine xqI rfl rfl ?_|refine xqP (by omega) rfl rfl ?_|refine xqO (by omega) rfl rfl (by rfl) ?_|fail) aK ⟨by dsimp only;omega,by dsimp only;omega,⟨al,I.frame (by omega) (fun id L z=>aA.aC fun he=>z (.inl (by omega))),aA.bH,⟨bp3,by dsimp only;rw[aA.aC (by omega)];exact ax,o2,bqD⟩,af,fun id L z=>by rw[aA.aC (by omega),w id (.inl (by omega))];exact a id L z⟩,Y⟩
  ·have bz:k=4:=(by omega);subst bz;obtain⟨bu,dp⟩:=LOE.nil O;subst bu;repeat' first|apply bn1<;>(simp only[go_sem])|apply bn3 (by omega)|fail
   have dq:([[D1.v (.bool false)],[D1.v (.bool false)],[D1.v (.bool false)]]:List (List D1))=[false,false,false].map eH:=rfl;rw[dq];generalize ca:aA.set H3 (p+2) _=aUZ;have tu:aUZ (p+2)=some ⟨1,3,[false,false,false].map eH⟩:=(by rw[←ca];exact aA.bH);have V: ∀id,id<p→aUZ id=H3 id:=fun id h3=>by rw[←ca,aA.aC (by omega)]
   clear ca;have N:=bgJ.add (b:=p+2) (n':=p+5) g V (by omega) (by omega);have ct:=(V t ah).trans T;have cu:=(V (nx+17) ai).trans q;have cv: ∀id,id<nx+17→id≠nx+4→aUZ id=G id:=fun id L z=>(V id (by omega)).trans (a id L z);have dr:t<p:=ah;have eh:nx+18≤p:=ai;obtain⟨ub,ds⟩: ∃ub,ub=p+2:=⟨_,rfl⟩
   rw[←ds] at tu N ⊢
   refine aM.gP (β:=Nat×(Nat→Nat)×List D1×CSt×List Bool) (fun u=>en [(12,boP u.1),(11,.one (.c (.osl 1 ub 0 3 3))),(8,.one (.c (.ptr 5 (nx+17) 0 0))),(7,.one (.c (.osl 3 t 0 bw4.length aa))),(5,.one (.c (.ptr 3 (nx+2) 0 0))),(3,.one (.c (.ptr 3 nx 0 0)))])
    (fun u H1 bp0=>u.1≤4∧COk c u.2.2.2.1∧u.2.2.2.2.length=3∧bgJ (fun id=>(id<nx+18∨id=t)∨id=ub) H1 bp0 u.2.1 u.2.2.2.1 u.2.2.1∧H1 (nx+17)=some ⟨5,1,[u.2.2.1]⟩∧H1 ub=some ⟨1,3,u.2.2.2.2.map eH⟩∧LV c ([0,1,2,3].drop u.1) u.2.2.2.1 u.2.2.2.2 (OI c i s)∧H1 t=some ⟨3,bp3,bw4.map eEv⟩∧ ∀id,id<nx+17→id≠nx+4→H1 id=G id) (fun u=>4-u.1) (0,bc,_,QD c i s,[false,false,false])
    ⟨noF,_,by dsimp only;repeat' first|exact bo2|refine xqI rfl rfl ?_|refine xqP (by omega) rfl rfl ?_|refine xqO (by omega) rfl rfl (by rfl) ?_|fail,aK,by dsimp only;omega,D,rfl,N.frame (by omega) (fun _ _ _=>rfl),cu,tu,rfl,ct,cv⟩ ?_
   clear g a boU q M hB f g1 g2 g3 g4 g5 bkU bkV bp4 bp5 ga gb lt bqP av T D ai ah N tu V ct cu cv;rintro⟨k,cb,ei,bp7,aIG⟩ bqL cw dt ⟨hk,y,cc,N,q,eu,O,cd,a⟩ bqR du;dsimp only at hk y cc N q eu O;have boU:=(a nx (by omega) (by omega)).trans bfZ;have M:=(a (nx+2) (by omega) (by omega)).trans f2;have g:=N;obtain⟨wc,hc,pc,vc,tc,mp,rp,mv,rv,E,g1,g2,g3,g4,g5,bkU,bkV,bp4,bp5,ga,gb⟩:=N.get;subst E;have hB:bQ cw [nx,nx+2,nx+17,t]:=AM.apart (by simp;omega) (by simp;omega);simp only[bQ,eZ] at hB;by_cases e:k<4
   ·rw[apX e] at O;repeat' first|apply bn1<;>(simp only[go_sem,boC,boU,q,M,hB])|apply bn2 (by omega)|fail
    refine bjU (X:=fun id=>(id<nx+18∨id=t)∨id=ub) (um:=3) hb y e cc (g.frame (by omega) (fun _ _ _=>rfl)) (.inr rfl) eu (by omega) fun H' nx' ae P bn I dv w=> ?_;have J:=(w (nx+17) (.inl (.inl (by omega))) (by omega)).trans q;have ax:=(w t (.inl (.inr rfl)) (by omega)).trans cd;obtain⟨bo,bp,bq,br,bs,_,_,_,_,l,_⟩:=I.get;subst l;obtain⟨al,dw⟩:=bkC (u:=aIG) hb y e cc;(try simp only[go_sem,boC,J]);repeat' first|apply bn1<;>(simp only[go_sem,boC,J];try simp (disch:=omega) only[Iw])|fail
    exact du _ _ _ (k+1,ae,_,(bhV c bp7 aIG k).1,(bhV c bp7 aIG k).2) noF _ (by omega) (by dsimp only;omega) (by repeat' first|exact bo2|refine xqI rfl rfl ?_|refine xqP (by omega) rfl rfl ?_|refine xqO (by omega) rfl rfl (by rfl) ?_|fail) aK ⟨by dsimp only;omega,al,dw,I.frame (by omega) (fun id L z=>aA.aC fun he=>z (.inl (.inl (by omega)))),aA.bH,by rw[aA.aC (by omega)];exact dv,O.bkK,by rw[aA.aC (by omega)];exact ax,fun id L z=>by rw[aA.aC (by omega),w id (.inl (.inl (by omega))) (by omega)];exact a id L z⟩
   ·have bz:k=4:=(by omega);subst bz;have O:bp7=OI c i s:=O;subst O;repeat' first|apply bn1<;>(simp only[go_sem])|apply bn3 (by omega)|fail
    have cf:bgJ (fun id=>id<nx+18∨id=t) bqL cw cb (OI c i s) _:=g.sub fun id h=>.inl h;obtain⟨A,hA⟩: ∃A,A=OI c i s:=⟨_,rfl⟩
    rw[←hA] at cf y;have dx:=y.pl
    refine aM.gP (β:=Nat×List Ev×Nat×Nat) (fun u=>en [(13,boP u.1),(8,.one (.c (.ptr 5 (nx+17) 0 0))),(7,.one (.c (.osl 3 u.2.2.1 0 u.2.1.length u.2.2.2))),(5,.one (.c (.ptr 3 (nx+2) 0 0))),(3,.one (.c (.ptr 3 nx 0 0)))])
     (fun u H1 bp0=>u.1≤3∧u.2.1=bw4++(List.range u.1).flatMap (bwL c i A)∧u.2.1.length≤7+u.1∧EvI c nx G H1 bp0 cb _ A u.2.1 u.2.2.1 u.2.2.2) (fun u=>3-u.1) (0,bw4,t,aa)
     ⟨noF,_,by dsimp only;repeat' first|exact bo2|refine xqI rfl rfl ?_|refine xqP (by omega) rfl rfl ?_|refine xqO (by omega) rfl rfl (by rfl) ?_|fail,aK,by dsimp only;omega,by simp,by dsimp only;omega,⟨y,cf.frame (by omega) (fun _ _ _=>rfl),by rw[hA];exact q,⟨bp3,cd,o2,bqD⟩,af,a⟩⟩ ?_
    clear g N q eu cd a boU M hB g1 g2 g3 g4 g5 bkU bkV bp4 bp5 ga gb cf o2 bqD;rintro⟨k,bw5,an,ay⟩ aZJ Z dy ⟨hk,az,cg,hE⟩ aNB ch;dsimp only at hk az cg hE;obtain⟨_,R,q,⟨bqQ,T,o2,bqD⟩,ba,a⟩:=hE;have boU:=(a nx (by omega) (by omega)).trans bfZ;have M:=(a (nx+2) (by omega) (by omega)).trans f2;have ah:=R.x an (.inr rfl);have ai:=R.x (nx+17) (.inl (by omega));have hB:bQ Z [nx,nx+2,nx+17,an]:=AM.apart (by simp;omega) (by simp;omega);simp only[bQ,eZ] at hB;have f:=R.ar5 y.pl y.sl (G:=aZJ) (fun id S=>rfl);obtain⟨ej,ek,eo,ep,et,ew,ey,ez,fa,ag,g1,g2,g3,g4,g5,bkU,bkV,bp4,bp5,ga,gb⟩:=R.get;cases ag;have lt:=R.names.lt;have n2:=lt 2 (by omega);have av:=R.names.av;by_cases e:k<3
    ·cases hr:i.send.getD k default with
     |false=>
      have bb:bwL c i A k=[]:=(by unfold bwL;rw[if_neg fun h=>by rw[hr] at h;cases h.1]);repeat' first|apply bn1<;>(simp only[go_sem,boC,boU,q,M,hr,bg,hB];try simp (disch:=omega) only[Iw])|apply bn2 (by omega)|refine⟨by omega,?_⟩|fail
      all_goals exact ch _ _ _ (k+1,bw5,an,ay) noF _ (by omega) (by dsimp only;omega) (by dsimp only;repeat' first|exact bo2|refine xqI rfl rfl ?_|refine xqP (by omega) rfl rfl ?_|refine xqO (by omega) rfl rfl (by rfl) ?_|fail) aK ⟨by dsimp only;omega,by dsimp only;rw[bwP,bb,bq6];exact az,by dsimp only;omega,⟨y,R.frame (by omega) (fun _ _ _=>rfl),q,⟨bqQ,T,o2,bqD⟩,ba,a⟩⟩
     |true=>
      by_cases boS:(aF A k).queue.length<2∧(aF A k).next<(c.cP.getD k default).length
      ·have bb:bwL c i A k=[⟨1,k,(aF A k).next⟩]:=(by unfold bwL;rw[if_pos ⟨hr,boS⟩]);obtain⟨qo,qc,oc,gr,gq,go⟩:=ga k e;have cx:bQ Z [cb 2]:=AM.apart (by simp) (by simp;exact n2);simp only[bQ,eZ] at cx;have aj:List.take bw5.length (bw5.map eEv)=bw5.map eEv:=boL (by simp);have ak:(bw5.map eEv).length=bw5.length:=bqW ..;repeat' first| (first|apply bn1|apply bhT hb y e f)<;>(simp only[go_sem,boC,boU,q,M,g1,gr,hr,bg,boS,T,aj,ak,hB,cx];try simp (disch:=omega) only[Iw])|apply bn2 (by omega)| (with_reducible first|refine fun(cap:Nat) (au:_≤cap)=> ?_|refine fun(cp:_≤cap)=> ?_)|refine⟨by omega,?_⟩|fail
       generalize F:aA.set _ (Z+23) _=aID;have dz:aID (Z+23)=some ⟨3,cap,(bw5++[(⟨1,k,(aF A k).next⟩:Ev)]).map eEv⟩:=(by rw[←F,aA.bH,bqX];rfl);have V: ∀id,id<Z→id≠an→aID id=aZJ id:=fun id h3 h4=>by rw[←F,aA.aC (by omega),aA.aC (by omega),aA.jG h4]
       clear F;have ea:=bgJ.swap (b:=Z+23) (n':=Z+28) R V (by omega) (by omega);exact ch _ _ _ (k+1,bw5++[(⟨1,k,(aF A k).next⟩:Ev)],Z+23,cap) noF _ (by omega) (by dsimp only;omega) (by dsimp only;rw[t2,List.length_singleton];repeat' first|exact bo2|refine xqI rfl rfl ?_|refine xqP (by omega) rfl rfl ?_|refine xqO (by omega) rfl rfl (by rfl) ?_|fail) aK ⟨by dsimp only;omega,by dsimp only;rw[bwP,bb,←C0,←az],by dsimp only;rw[t2,List.length_singleton];omega,⟨y,ea,(V (nx+17) (by omega) (by omega)).trans q,⟨cap,dz,by dsimp only;rw[t2,List.length_singleton];omega,m5 _⟩,.inr (by dsimp only;omega),fun id L z=>(V id (by omega) (by omega)).trans (a id L z)⟩⟩
      ·have bb:bwL c i A k=[]:=(by unfold bwL;rw[if_neg fun h=>boS h.2]);repeat' first| (first|apply bn1|apply bhT hb y e f)<;>(simp only[go_sem,boC,boU,q,M,hr,bg,boS,hB];try simp (disch:=omega) only[Iw])|apply bn2 (by omega)|refine⟨by omega,?_⟩|fail
       all_goals exact ch _ _ _ (k+1,bw5,an,ay) noF _ (by omega) (by dsimp only;omega) (by dsimp only;repeat' first|exact bo2|refine xqI rfl rfl ?_|refine xqP (by omega) rfl rfl ?_|refine xqO (by omega) rfl rfl (by rfl) ?_|fail) aK ⟨by dsimp only;omega,by dsimp only;rw[bwP,bb,bq6];exact az,by dsimp only;omega,⟨y,R.frame (by omega) (fun _ _ _=>rfl),q,⟨bqQ,T,o2,bqD⟩,ba,a⟩⟩
    ·have bt:k=3:=(by omega);subst bt;have cj:bw5=TK c i s:=(by rw[az,aoN,List.nil_append,dp,cq,dj,←hA,bwY dx]);repeat' first|apply bn1<;>(simp only[go_sem])|apply bn3 (by omega)|fail
     rw[←cj] at h;exact hQ _ _ _ _ _ (.inr rfl) rfl ⟨dS (bw5.map eEv),_,fun j=>j=an,yP aq2 T rfl o2 rfl,PU,h _ _ (by omega) fun id S=>by rw[aA.jG (by omega),a id (by omega) (by omega)];exact ff id S⟩
end
end Go.Proofs.YtdkfhdmagdaceaaGreat
