/- Texts laid together by a program: rules, contracts and the walk that leads to the law. -/
import Derived.Test.YtlncecohbakleaaGreatPB18
import Derived.Test.YtlncecohbakleaaGreatPB17
import Derived.Test.YtlncecohbakleaaGreatPB16
import Derived.Deep.Slices
import Derived.Test.YtlncecohbakleaaGreatChecked
set_option linter.unusedVariables false
set_option linter.unusedSimpArgs false
set_option linter.unusedSectionVars false
set_option maxRecDepth 100000
set_option maxHeartbeats 8000000
namespace Go.AM
theorem WX{l:List Job}{x:Job}:cR (l++[x])=wP (cR l) x:=by unfold cR;rw[List.foldl_append];rfl
theorem je{l:List Job}:(cR l).length=l.length:=(iT l).length_eq
end Go.AM
namespace Go.AM
open Go.ChangeShapes Go.WideShapes Go.RowKit
inductive Big:D1->Prop
 |v (x:Value):Big (.v x)
 |isl (rows:List (List D1)) (h1:rows.length<2^63) (h2: ∀r∈rows,∀d∈r,Big d):Big (.isl rows)
theorem Big.len{rows:List (List D1)}(h:Big (.isl rows)):rows.length<2^63:=by cases h;assumption
theorem Big.row{rows:List (List D1)}(h:Big (.isl rows)): ∀r∈rows,∀d∈r,Big d:=by cases h;assumption
def W8(a:List D1):Prop:=∀d∈a,Big d
structure Opn(w:World)(ds:List D1)(cs:List Value):Prop where
 len:cs.length=ds.length
 at_: ∀(j:Nat) (d:D1),ds[j]?=some d->∃v,cs[j]?=some v/\Imm (fun b=>b<w.heap.size) w d v
 big:W8 ds
structure jN(P:Program)(t:TypeId){A:Type}(enc:A->List D1):Prop where
 op: ∀{H:Type} {ec:TypeId×Value->H} {w:World} {base:Nat} {spare:Nat->Bool} {held:Bool} {fuel:Nat} {cs:List Value} {x:DataW H×List MemPlace},
  DataW.trod ec P w base spare held fuel t cs=some x->∃a,Opn w (enc a) cs
variable{P:Program}{t:TypeId}
theorem Ts(c:P.underlying t=some (.int .i64)):jN P t aG:=.mk fun h=>by
 obtain⟨n,rfl,_,_⟩:=DataW.trod_int c h;refine⟨n,rfl,fun j d a=> ?_,fun d b=> ?_⟩
 ·match j with
  |0=>simp only[aG,List.getElem?_cons_zero,Option.some.injEq] at a;subst a;exact⟨_,rfl,.v _ rfl⟩
  |j+1=>simp[aG] at a
 ·simp only[aG,akT] at b;subst b;exact .v _
theorem Lf(e:P.underlying t=some .bool):jN P t d8:=.mk fun h=>by
 obtain⟨b,rfl,_⟩:=DataW.trod_bool e h;refine⟨b,rfl,fun j d a=> ?_,fun d c=> ?_⟩
 ·match j with
  |0=>simp only[d8,List.getElem?_cons_zero,Option.some.injEq] at a;subst a;exact⟨_,rfl,.v _ rfl⟩
  |j+1=>simp[d8] at a
 ·simp only[d8,akT] at c;subst c;exact .v _
theorem lX{A B:Type}{b:A->List D1}{c:B->List D1}(h:jN P t b)(f:A->B)(d: ∀a,c (f a)=b a):jN P t c:=.mk fun e=>by obtain⟨a,g⟩:=h.op e;exact⟨f a,by rw[d];exact g⟩
theorem kO{e:TypeId}{A:Type}[Inhabited A]{enc:A->List D1}{n:Nat}(he:jN P e enc)(X:P.underlying t=some (.slice e))(hc:P.cellsOf e=n)(Y:0<n)(hl: ∀a,(enc a).length=n):jN P t fun l:List A=>[.isl (l.map enc)]:=.mk fun {H ec w base spare held fuel cs x} h=>by
 rcases Deep.open_slice X h with⟨rfl,_⟩|⟨a,len,cap,m,n',D,Pl,rfl,hb,N,hm,O,_,hi⟩
 ·refine⟨[],rfl,fun j d F=> ?_,fun d u=> ?_⟩
  ·match j with
   |0=>simp only[ak2,List.getElem?_cons_zero,Option.some.injEq] at F;subst F;exact⟨_,rfl,.isl [] none 0 1 0 0 (fun _ _=>.int .u8 0) (fun h=>absurd rfl h) (akA _) (fun i r h=>by simp at h) (fun i j r d h=>by simp at h) (fun i j r d h=>by simp at h)⟩
   |j+1=>simp at F
  ·simp only[ak2,akT] at u;subst u;exact .isl _ (by simp) fun r hr=>by simp at hr
 ·have Z:len<=m:=by rw[O];split<;>omega
  obtain⟨f,V⟩:=Deep.choose_lt (α:=A) (n:=len) (p:=fun i y=>∃C,w.cells? base (a.add (i*n)) n=some C/\Opn w (enc y) C) fun i c=>by obtain⟨C,B,G⟩:=hi i (by omega);rw[hc] at B;obtain⟨y,Q⟩:=he.op G;exact⟨y,C,B,Q⟩
  have J:((List.range len).map f).length=len:=by simp
  have z: ∀(i:Nat) (r:List D1),((List.range len).map f |>.map enc)[i]?=some r->i<len/\r=enc (f i):=fun i r hr=>by rw[List.map_map,akN] at hr;obtain⟨y,Q,rfl⟩:=akH.1 hr;obtain⟨c,rfl⟩:=akE.1 Q;simp only[List.length_range] at c;exact⟨c,by simp⟩
  obtain⟨b,o,s⟩:=a;have g: ∀i j (d:D1),i<len->(enc (f i))[j]?=some d->∃v,w.cell? ((Addr.mk b o s).add (i*n+j))=some v/\Imm (fun b=>b<w.heap.size) w d v:=fun i j d c u=>by obtain⟨C,B,G⟩:=V i c;obtain⟨_,h3,h4⟩:=World.cells?_some B;obtain⟨v,h5,h6⟩:=G.at_ j d u;have R:j<n:=(by have:=(akE.1 u).1;rw[hl] at this;exact this);have W:=h4 j R;rw[Deep.add_add,h5] at W;exact⟨v,W,h6⟩
  have q:0<len->s=none/\b<w.heap.size:=fun h=>by have:(enc (f 0))[0]?=some ((enc (f 0))[0]'(by rw[hl];exact Y)):=akD _;obtain⟨v,B,_⟩:=g 0 0 _ h this;have K:=World.cell?_spot B;have L:=World.block_lt_of_cell? w _ B;simp only[Nat.zero_mul,Nat.add_zero,Addr.add,if_true] at K L;exact⟨K,L⟩
  have E: ∀k,(Addr.mk b o none).add k=⟨b,o+k,none⟩:=fun k=>by
   unfold Addr.add;split;·rename_i h;subst h;simp
   ·simp
  refine⟨(List.range len).map f,rfl,fun j d F=> ?_,fun d u=> ?_⟩
  ·match j with
   |0=>
    simp only[List.getElem?_cons_zero,Option.some.injEq] at F;subst F;have key:=Imm.isl (I:=fun b=>b<w.heap.size) (w:=w) (((List.range len).map f).map enc) (some ⟨b,o,s⟩) cap n b o (fun i j=>(w.cell? ⟨b,o+(i*n+j),none⟩).getD (.bool false)) (fun S=> ?_) (by rw[akU,J];exact N) (fun i r hr=> ?_) (fun i j r d hr u=> ?_) (fun i j r d hr u=> ?_);·rw[akU,J] at key;exact⟨_,rfl,key⟩
    ·have M:0<len:=by
      rcases alV len with h|h
      ·subst h;exact absurd (by simp) S
      ·exact h
     obtain⟨rfl,T⟩:=q M
     exact⟨rfl,T⟩
    ·obtain⟨_,rfl⟩:=z i r hr;exact hl _
    ·obtain⟨c,rfl⟩:=z i r hr;obtain⟨v,B,_⟩:=g i j d c u;obtain⟨rfl,_⟩:=q (by omega);rw[E] at B;rw[B];rfl
    ·obtain⟨c,rfl⟩:=z i r hr;obtain⟨v,B,G⟩:=g i j d c u;obtain⟨rfl,_⟩:=q (by omega);rw[E] at B;rw[B];exact G
   |j+1=>simp at F
  ·simp only[akT] at u;subst u;refine .isl _ (by rw[akU,J];have:cap<=2^63-1:=hm;omega) fun r hr d u=> ?_;obtain⟨i,U⟩:=an1.1 hr;obtain⟨c,rfl⟩:=z i r U;obtain⟨_,_,G⟩:=V i c;exact G.big d u
structure rk(P:Program)(fs:List Field)(lo:Nat){A:Type}(enc:A->List D1):Prop where
 op: ∀{H:Type} {ec:TypeId×Value->H} {w:World} {base:Nat} {spare:Nat->Bool} {held:Bool} {n:Nat} {cs:List Value},
 (∀f∈fs,∃x,DataW.trod ec P w base spare held n f.type ((cs.drop f.offset).take (P.cellsOf f.type))=some x)->∃a,(∀(j:Nat) (d:D1),(enc a)[j]?=some d->∃v,cs[lo+j]?=some v/\Imm (fun b=>b<w.heap.size) w d v)/\W8 (enc a)
theorem iH{lo:Nat}:rk P [] lo fun _:Unit=>[]:=.mk fun _=>⟨(),fun j d h=>by simp at h,fun d h=>by simp at h⟩
theorem aX{f:Field}{r:List Field}{lo n:Nat}{A B:Type}{k:A->List D1}{s:B->List D1}(u:jN P f.type k)(y:f.offset=lo)(hc:P.cellsOf f.type=n)(hl: ∀a,(k a).length=n)(z:rk P r (lo+n) s):rk P (f::r) lo fun p:A×B=>k p.1++s p.2:=.mk fun {H ec w base spare held m cs} h=>by
 obtain⟨x,C⟩:=h f (by simp);obtain⟨a,t⟩:=u.op C;obtain⟨b,D,l⟩:=z.op fun g E=>h g (alL _ E);refine⟨(a,b),fun j d e=> ?_,fun d i=> ?_⟩
 ·dsimp only at e;by_cases o:j<n
  ·rw[amE (by rw[hl];exact o)] at e;obtain⟨v,c,q⟩:=t.at_ j d e;rw[y,alB,akY] at c;split at c;·exact⟨v,c,q⟩
   ·cases c
  ·rw[amI (by rw[hl];omega),hl] at e;obtain⟨v,c,q⟩:=D _ d e;exact⟨v,by rw[<-c];congr 1;omega,q⟩
 ·rcases akL.1 i with i|i;·exact t.big d i
  ·exact l d i
theorem gF{c:Array Field}{A:Type}{enc:A->List D1}{n:Nat}(h:rk P c.toList 0 enc)(e:P.underlying t=some (.struct c))(hc:P.cellsOf t=n)(hl: ∀a,(enc a).length=n):jN P t enc:=.mk fun {H ec w base spare held fuel cs x} g=>by
 obtain⟨xs,m,_,_,k,u,l⟩:=DataW.trod_struct e g
 obtain⟨a,o,p⟩:=h.op (ec:=ec) (w:=w) (base:=base) (spare:=spare) (held:=held) (n:=m) (cs:=cs) fun f q=>by
  obtain⟨i,hi⟩:=an1.1 q;have b:c[i]?=some f:=by simpa using hi
  have r:=l i f b;have v:i<c.size:=(amJ.1 b).1;exact⟨_,r.trans (akD (by omega))⟩
 exact⟨a,by rw[k,hc,hl],fun j d s=>by simpa using o j d s,p⟩
theorem yh{c:Cf}{d:D1}{x:Value}(h:Imm c.I c.w d x):Rel c d x:=by
 cases h with
 |v y h=>exact .v _ h
 |isl rows a cap n b o f i e j hc hr=>exact .isl rows a cap n b o f i e j hc hr
 |eT cells b o f g hc hr=>exact .eT cells b o f g hc hr
 |XS x b g hw=>exact .XS x b g hw
abbrev cf0(w:World):Cf:=⟨fun _=>(0,0),fun _=>False,fun b=>b<w.heap.size,w⟩
theorem ahP{e:Array Field}{A:Type}{enc:A->List D1}{H:Type}{ec:TypeId×Value->H}{w:World}{base:Nat}{spare:Nat->Bool}{held:Bool}{r:Reach}{f:Nat}{v:Value}{d:DataW H}{p:List MemPlace}
 (h:jN P t enc) (hs:P.underlying t=some (.struct e)) (g:Value.okWide P w r f t v) (j:DataW.Trod ec P w base spare held t v d p): ∃a,fW (cf0 w) (dA (enc a)) v/\W8 (enc a):=by
 obtain⟨cs,rfl,_⟩:=okWide_struct hs g
 obtain⟨fuel,k⟩:=j
 obtain⟨a,c⟩:=h.op k
 refine⟨a,⟨cs.toList,by simp,c.len,fun i d u l m=> ?_⟩,c.big⟩
 obtain⟨v,n,o⟩:=c.at_ i d l
 have b:(Value.agg cs).cells.toList[i]?=some u:=m
 rw[n] at b
 obtain rfl:=Option.some.inj b
 exact yh o
theorem ah1{e:TypeId}{A:Type}{enc:A->List D1}{H:Type}{ec:TypeId×Value->H}{w:World}{base:Nat}{spare:Nat->Bool}{held:Bool}{r:Reach}{g:Nat}{v:Value}{d:DataW H}{p:List MemPlace}
 (h:jN P t fun l:List A=>[.isl (l.map enc)]) (hs:P.underlying t=some (.slice e)) (i:Value.okWide P w r g t v) (j:DataW.Trod ec P w base spare held t v d p): ∃l:List A,fW (cf0 w) (dS (l.map enc)) v/\Big (.isl (l.map enc)):=by
 obtain⟨b,len,cap,rfl⟩:=okWide_slice hs i
 obtain⟨fuel,k⟩:=j
 obtain⟨l,hl⟩:=h.op k
 obtain⟨v,f,m⟩:=hl.at_ 0 _ rfl
 have a:((Value.slice b len cap).cells.toList)[0]?=some (Value.slice b len cap):=rfl
 rw[a] at f
 obtain rfl:=Option.some.inj f
 exact⟨l,(yh (c:=cf0 w) m:Rel (cf0 w) _ _),hl.big _ (by simp)⟩
theorem ahN{f:FuncId}{c:List D}{w:World}{vs:List Value}(h:aC P f c .nil 0 fun m _ _=>m.plain=true/\m=dB true)(hl:vs.length=c.length)(q: ∀(i:Nat) (d:D) (u:Value),c[i]?=some d->vs[i]?=some u->fW (cf0 w) d u):
 Calls P f vs.toArray w fun e n=>e= .returned (.bool true)/\Below w.heap.size w n:=by
 have g: ∀b,¬AT (cf0 w) .nil b:=by rintro b ⟨id,o,h,_⟩;cases h
 have l:St (cf0 w) .nil:=⟨fun id o h=>(by cases h),fun id o h=>(by cases h),fun id o h=>(by cases h),fun id o i j r d h=>(by cases h),fun id s o o' h=>(by cases h),fun id o h=>(by cases h),fun b h=>h⟩
 refine(h.2 (cf0 w) vs l (fun i hi=>hi.elim) hl q).mono ?_
 rintro x n ⟨u,c',r,H',nx',rfl,rfl,v,a,y,z,p,A,rfl⟩
 have hu:u= .bool true:=by simp only[fW,mR,Rel,cG] at p;cases p;rfl
 subst hu
 exact⟨rfl,a.os,a.tape,a.output,a.size,fun k t=>a.frame k t (g k)⟩
end Go.AM
namespace Go.AM
theorem W8.at_{a:List D1}(h:W8 a)(i:Nat){d:D1}(b:a[i]?=some d):Big d:=h d (akF b)
theorem Big.bb{α:Type}{enc:α->List D1}{l:List α}(h:Big (.isl (l.map enc))):l.length<2^63:=by have:=h.len;simpa using this
theorem Big.elem{α:Type}{enc:α->List D1}{l:List α}(h:Big (.isl (l.map enc))): ∀x∈l,W8 (enc x):=fun x a d b=>h.row _ (al1 a) d b
theorem Big.xf{α:Type}{enc:α->List D1}{P:α->Prop}{l:List α}(h:Big (.isl (l.map enc)))(a: ∀x,W8 (enc x)->P x):oM P (2^63) l:=⟨h.bb,fun x b=>a x (h.elem x b)⟩
theorem acS(q:Req)(h:W8 (dK q)):l4 (2^63) q:=⟨(h.at_ 5 rfl).bb,(h.at_ 6 rfl).bb⟩
theorem Yc(p:List Req)(h:W8 (mW p)):wR (2^63) p:=(h.at_ 0 rfl).xf acS
theorem ajA(c:Cfg)(h:W8 (cD c)):pS (2^63) c:=⟨(h.at_ 0 rfl).bb,(h.at_ 1 rfl).bb,(h.at_ 2 rfl).xf Yc⟩
theorem Yq(p:cJ)(h:W8 (bV p)):kX (2^63) p:=⟨(h.at_ 1 rfl).bb,(h.at_ 2 rfl).bb⟩
theorem Pf(j:Job)(h:W8 (aP j)):iQ (2^63) j:=(h.at_ 4 rfl).bb
theorem adI(v:lR)(h:W8 (eV v)):jK (2^63) v:=⟨(h.at_ 0 rfl).bb,(h.at_ 1 rfl).xf Pf⟩
theorem ajD(s:CSt)(h:W8 (dY s)):jE (2^63) s:=⟨⟨(h.at_ 0 rfl).bb,(h.at_ 1 rfl).bb⟩,(h.at_ 2 rfl).xf Yq,(h.at_ 3 rfl).xf adI,(h.at_ 4 rfl).xf Pf⟩
theorem aj1(i:CIn)(h:W8 (eIn i)):kW (2^63) i:=⟨(h.at_ 0 rfl).bb,(h.at_ 1 rfl).bb,(h.at_ 2 rfl).bb⟩
theorem jE.fit{s:CSt}(h:jE (2^21) s):zz s:=by
 obtain⟨⟨c,d⟩,⟨e,f⟩,⟨g,i⟩,j,l⟩:=h
 have hp: ∀k,kX (2^21) (aL s k):=fun k=>by
  by_cases a:k<s.bE.length;·exact f _ (bL a)
  ·have:aL s k=default:=(by unfold aL;simp[List.getD,a]);rw[this];exact⟨by decide,by decide⟩
 have b: ∀k,jK (2^21) (aU s k):=fun k=>by
  by_cases a:k<s.bM.length;·exact i _ (bL a)
  ·have:aU s k=default:=(by unfold aU;simp[List.getD,a]);rw[this];exact⟨by decide,by decide,fun x m=>absurd m (alM)⟩
 exact⟨c,d,j,l,e,g,hp,fun k=>⟨(b k).1,(b k).2.1,(b k).2.2⟩⟩
theorem QM.fit{s:TSt}(h:QM (2^21) s):Fu s:=by
 obtain⟨⟨b,c⟩,d,⟨e,f⟩,⟨g,i⟩,k,l⟩:=h;refine⟨b,c,d,e,g,k,fun j a=> ?_⟩;simp only[akL] at a;rcases a with(a|a)|a;·exact f j a
 ·exact i j a
 ·exact l j a
end Go.AM
namespace Go.Proofs.YtlncecohbakleaaGreat
open Go Go.AM
attribute [local irreducible] aH wv aC vd wvH
section
variable{H:aA}{nx:Nat}{K:an4}
theorem vx{s:CSt}(hf:jx s)(h:K (dA (eSt (dH s))) H nx):an3 LJ [dA (dY s)] H nx K:=by
 refine aC.fresh (R:=fun rr=>rr=dA (eSt (dH s))) ?_ rfl (fun r hr=>hr▸h);clear h;refine aM.mk Tryz.func130 (by kernel_rfl) vo rfl fun Q hQ=> ?_;unfold zK;have Y:=hf.pl;have eu:=hf.sl;obtain⟨N,hN⟩: ∃N,N=s.bM.length:=⟨_,rfl⟩
 rw[<-hN] at eu;have E:=hN.symm;have O:=hf.st;have hq:s.words.length<2^21:=O.words;have ht:s.holds.length<2^21:=O.holds;have hv:s.told.length<2^21:=O.told;have ew: ∀j∈s.told,j.rsp.data.length<2^21:=fun j hj=>O.data j (alT _ hj);repeat' first| (first|apply vI|apply Av (w:=s.words) (u:=s.holds) (by omega) (by omega)|apply zd (l:=s.told) (by omega) ew)<;>(simp only[go_sem,umB,umS,umM,muM])|fail
 apply aH.kd 1;refine aH.VP _ _ noF (fun t=>.inl rfl) (dd (i:=9) (o':=⟨6,1,[[.isl (s.words.map aG),.isl (s.holds.map aG),.osl 1 12 0 0 0,.isl ((cR []).map aP),.isl ((cR []).map aP),.isl (s.told.map aP)]]⟩) (by rw[aA.aB (by omega)];exact aA.aI) (jU (aQ (bZ rfl) (aQ (bZ rfl) (aQ (.Fq ..) (aQ L7 (aQ L7 (aQ (bZ rfl) iA)))))))) ?_;refine aH.Ia fun G0 S=> ?_;have c0:G0 0=some ⟨5,1,[dY s]⟩:=by rw[S];rfl
 have c1:G0 1=some ⟨6,1,[[.osl 0 0 0 0 0,.osl 0 0 0 0 0,.osl 0 0 0 0 0,.osl 0 0 0 0 0,.osl 0 0 0 0 0,.osl 0 0 0 0 0]]⟩:=by rw[S];rfl
 have c9:G0 9=some ⟨6,1,[[.isl (s.words.map aG),.isl (s.holds.map aG),.osl 1 12 0 0 0,.isl ((cR []).map aP),.isl ((cR []).map aP),.isl (s.told.map aP)]]⟩:=by rw[S];exact aA.aI
 have ei:G0 12=some ⟨1,0,[]⟩:=by rw[S];rfl
 clear S;obtain⟨A,Z⟩: ∃A:Nat->List Int,A=fun k=>(s.bE.take k).map (·.next):=⟨_,rfl⟩
 have cc: ∀k,k<=3->(A k).length=k:=fun k T=>by rw[Z];simp;omega
 have ff: ∀k,k<3->A (k+1)=A k++[(s.bE.getD k default).next]:=fun k T=>by rw[Z];dsimp only;rw[amF (by omega),akQ];simp[List.getD,show k<s.bE.length by omega]
 have y:A 3=(dH s).asked:=by rw[Z];dsimp only;rw[akM (by omega)];rfl
 have ej: ∀k,k<3->(gI s k).length<=3:=fun k T=>by have:=hf.q k T;simpa [gI] using this
 have cd: ∀k,k<N->(eX s k).length<=3/\(aU s k).done.length<=3:=fun k T=>⟨by have:=(hf.v k (by omega)).1;simpa [eX] using this,(hf.v k (by omega)).2⟩
 obtain⟨C,ab⟩: ∃C:Nat->List Job,C=fun k=>(List.range k).flatMap (gI s):=⟨_,rfl⟩
 have cf: ∀k,C (k+1)=C k++gI s k:=fun k=>by rw[ab];exact w7
 have aa: ∀k,k<=3->(C k).length<=3*k:=fun k T=>by rw[ab];exact yB k fun j hj=>ej j (by omega)
 have cl:C 0=[]:=by rw[ab];rfl
 refine aH.cE (β:=Nat×Nat×Nat) (fun u=>en [(4,dI u.1),(3,.one (.c (.ptr 6 9 0 0))),(2,.one (.c (.ptr 6 1 0 0))),(1,.one (.c (.ptr 5 0 0 0)))])
  (fun u H1 n1=>u.1<=3/\H1 0=some ⟨5,1,[dY s]⟩/\H1 1=some ⟨6,1,[[.osl 0 0 0 0 0,.osl 0 0 0 0 0,.osl 0 0 0 0 0,.osl 0 0 0 0 0,.osl 0 0 0 0 0,.osl 0 0 0 0 0]]⟩/\H1 9=some ⟨6,1,[[.isl (s.words.map aG),.isl (s.holds.map aG),.osl 1 u.2.1 0 u.1 u.2.2,.isl ((cR (C u.1)).map aP),.isl ((cR []).map aP),.isl (s.told.map aP)]]⟩/\(∃m,H1 u.2.1=some ⟨1,m,(A u.1).map aG⟩/\u.1<=u.2.2/\u.2.2<=m)/\12<=u.2.1/\u.2.1<n1) (fun u=>3-u.1) (0,12,0)
  ⟨noF,_,by repeat' first|exact C1|refine xqI rfl rfl ?_|refine xqP (by omega) rfl rfl ?_|fail,aF,by dsimp only;omega,c0,c1,by dsimp only;rw[cl];exact c9,⟨0,by rw[ei,Z];rfl,akA _,akA _⟩,by dsimp only;omega,by dsimp only;omega⟩ ?_
 clear c0 c1 c9 ei;rintro⟨k,D,ca⟩ H1 z fh ⟨T,b,g,a,⟨m,p,cp,fm⟩,cq,ct⟩ KL fo;dsimp only at T a p cp fm cq ct;have M:bH z [0,1,9,D]:=AM.apart (by simp;omega) (by simp;omega);simp only[bH,cU] at M;have eo:=cc k T;by_cases cw:k<3
 ·obtain⟨P,hP⟩: ∃P,P=aL s k:=⟨_,rfl⟩
  have ad:s.bE.getD k default=P:=hP.symm;have fs:=hf.q k cw;rw[<-hP] at fs;have m9: ∀G:aA,msk (z+5) [8] G 9=G 9:=fun G=>by unfold msk;rw[if_neg (by simp)]
  rw[<-eo] at a cp;repeat' first|apply vI<;>(simp only[go_sem,nL,b,g,a,m9,p,Y,ad,M])|apply vT (by omega)| (with_reducible first|refine fun(cap:Nat) (gb:_<=cap)=> ?_|refine fun(hy:_<=cap)=> ?_)|refine⟨by omega,?_⟩|fail
  refine aH.Ia fun G1 U=> ?_;have hc:A k++[P.next]=A (k+1):=by rw[ff k cw,ad]
  have d0:G1 0=some ⟨5,1,[dY s]⟩:=by rw[U];simp[aA.set,aA.del,M,b]
  have d1:G1 1=some ⟨6,1,[[.osl 0 0 0 0 0,.osl 0 0 0 0 0,.osl 0 0 0 0 0,.osl 0 0 0 0 0,.osl 0 0 0 0 0,.osl 0 0 0 0 0]]⟩:=by rw[U];simp[aA.set,aA.del,M,g]
  have d9:G1 9=some ⟨6,1,[[.isl (s.words.map aG),.isl (s.holds.map aG),.osl 1 (z+14) 0 (k+1) cap,.isl ((cR (C k)).map aP),.isl ((cR []).map aP),.isl (s.told.map aP)]]⟩:=by rw[U,eo];exact aA.aI
  have dA:G1 (z+14)=some ⟨1,cap,(A (k+1)).map aG⟩:=by rw[U,aA.aB (by omega),<-hc];exact aA.aI
  clear U b g a p M
  refine aH.cE (β:=Nat) (fun j=>en [(5,dI j),(4,dI k),(3,.one (.c (.ptr 6 9 0 0))),(2,.one (.c (.ptr 6 1 0 0))),(1,.one (.c (.ptr 5 0 0 0)))])
   (fun j H2 _=>j<=P.queue.length/\H2 0=some ⟨5,1,[dY s]⟩/\H2 1=some ⟨6,1,[[.osl 0 0 0 0 0,.osl 0 0 0 0 0,.osl 0 0 0 0 0,.osl 0 0 0 0 0,.osl 0 0 0 0 0,.osl 0 0 0 0 0]]⟩/\H2 9=some ⟨6,1,[[.isl (s.words.map aG),.isl (s.holds.map aG),.osl 1 (z+14) 0 (k+1) cap,.isl ((cR (C k++(gI s k).take j)).map aP),.isl ((cR []).map aP),.isl (s.told.map aP)]]⟩/\H2 (z+14)=some ⟨1,cap,(A (k+1)).map aG⟩) (fun j=>P.queue.length-j) 0
   ⟨noF,_,by repeat' first|exact C1|refine xqI rfl rfl ?_|refine xqP (by omega) rfl rfl ?_|fail,aF,by omega,d0,d1,by rw[List.take_zero,alE];exact d9,dA⟩ ?_
  clear d0 d1 d9 dA;rintro j H2 cx cy ⟨hj,b,g,a,p⟩ KM dc;obtain⟨W,B⟩: ∃W,W=C k++(gI s k).take j:=⟨_,rfl⟩
  rw[<-B] at a;have I:(cR W).length<2^21:=by have h1:=aa k T;have h2:=ej k cw;rw[je,B,akG,ak1];omega
  have M:bH cx [0,1,9,z+14]:=AM.apart (by simp) (by simp;omega);simp only[bH,cU] at M;by_cases e:j<P.queue.length
  ·obtain⟨n,hn⟩: ∃n,P.queue.getD j default=n:=⟨_,rfl⟩
   repeat' first| (first|apply vI|apply U6 I)<;>(simp only[go_sem,nL,b,g,a,Y,ad,hn,M];try simp (disch:=omega) only[Iw])|apply vT (by omega)|refine⟨by omega,?_⟩|fail
   have o:C k++(gI s k).take (j+1)=W++[(⟨k,n,kL⟩:Job)]:=(by rw[eY (by simpa [gI,<-hP] using e),<-akO,<-B];congr 2;rw[<-hn];simp[gI,<-hP,List.getD,e]);exact dc _ _ _ (j+1) noF _ (by omega) (by omega) (by repeat' first|exact C1|refine xqI rfl rfl ?_|refine xqP (by omega) rfl rfl ?_|fail) aF ⟨by omega,by rw[aA.aB (by omega)];exact b,by rw[aA.aB (by omega)];exact g,by rw[o,WX];exact aA.aI,by rw[aA.aB (by omega)];exact p⟩
  ·have df:j=P.queue.length:=(by omega);have o:W=C (k+1):=(by rw[B,cf,akM (by simp[gI,<-hP];omega)]);repeat' first|apply vI<;>(simp only[go_sem,b,Y,ad];try simp (disch:=omega) only[Iw])|apply vF (by omega)|refine⟨by omega,?_⟩|fail
   exact fo _ _ _ (k+1,z+14,cap) noF _ (by omega) (by dsimp only;omega) (by repeat' first|exact C1|refine xqI rfl rfl ?_|refine xqP (by omega) rfl rfl ?_|fail) aF ⟨by dsimp only;omega,b,g,by dsimp only;rw[<-o];exact a,⟨cap,p,by dsimp only;omega,akA _⟩,by dsimp only;omega,by dsimp only;omega⟩
 ·have gd:k=3:=by omega
  subst gd;repeat' first|apply vI<;>(simp only[go_sem,b,g,a])|apply vF (by omega)|fail
  obtain⟨J,ao⟩: ∃J:Nat->List Job,J=fun k=>C 3++(List.range k).flatMap (eX s):=⟨_,rfl⟩
  have dh: ∀k,J (k+1)=J k++eX s k:=fun k=>by rw[ao];dsimp only;rw[w7,akO]
  have ds: ∀k,k<=N->(J k).length<=9+3*k:=fun k T=>by have h1:=aa 3 (by omega);have h2:=yB (f:=eX s) (m:=3) k fun j hj=>(cd j (by omega)).1;rw[ao];dsimp only;rw[akG];omega
  have dv:J 0=C 3:=by rw[ao];simp
  obtain⟨L,az⟩: ∃L:Nat->List Job,L=fun k=>(List.range k).flatMap fun k=>(aU s k).done:=⟨_,rfl⟩
  have dx: ∀k,L (k+1)=L k++(aU s k).done:=fun k=>by rw[az];exact w7
  have dy: ∀k,k<=N->(L k).length<=3*k:=fun k T=>by rw[az];exact yB k fun j hj=>(cd j (by omega)).2
  have dz:L 0=[]:=by rw[az];rfl
  refine aH.cE (β:=Nat) (fun k=>en [(6,dI k),(3,.one (.c (.ptr 6 9 0 0))),(2,.one (.c (.ptr 6 1 0 0))),(1,.one (.c (.ptr 5 0 0 0)))])
   (fun k H2 _=>k<=N/\H2 0=some ⟨5,1,[dY s]⟩/\H2 1=some ⟨6,1,[[.osl 0 0 0 0 0,.osl 0 0 0 0 0,.osl 0 0 0 0 0,.osl 0 0 0 0 0,.osl 0 0 0 0 0,.osl 0 0 0 0 0]]⟩/\H2 9=some ⟨6,1,[[.isl (s.words.map aG),.isl (s.holds.map aG),.osl 1 D 0 3 ca,.isl ((cR (J k)).map aP),.isl ((cR (L k)).map aP),.isl (s.told.map aP)]]⟩/\H2 D=some ⟨1,m,(A 3).map aG⟩) (fun k=>N-k) 0
   ⟨noF,_,by repeat' first|exact C1|refine xqI rfl rfl ?_|refine xqP (by omega) rfl rfl ?_|fail,aF,by omega,b,g,by rw[dv,dz];exact a,p⟩ ?_
  clear b g a p M;rintro k H2 cx cy ⟨ep,b,g,a,p⟩ KM dc;have M:bH cx [0,1,9,D]:=AM.apart (by simp;omega) (by simp;omega);simp only[bH,cU] at M;by_cases ed:k<N
  ·obtain⟨V,hV⟩: ∃V,V=aU s k:=⟨_,rfl⟩
   have br:s.bM.getD k default=V:=hV.symm;obtain⟨gf,gg⟩:=cd k ed;have gp:V.pipe.length<=3:=(by simpa [eX,<-hV] using gf);rw[<-hV] at gg;repeat' first|apply vI<;>(simp only[go_sem,b,g,a,E])|apply vT (by omega)|fail
   refine aH.cE (β:=Nat) (fun j=>en [(7,dI j),(6,dI k),(3,.one (.c (.ptr 6 9 0 0))),(2,.one (.c (.ptr 6 1 0 0))),(1,.one (.c (.ptr 5 0 0 0)))])
    (fun j X _=>j<=V.pipe.length/\X 0=some ⟨5,1,[dY s]⟩/\X 1=some ⟨6,1,[[.osl 0 0 0 0 0,.osl 0 0 0 0 0,.osl 0 0 0 0 0,.osl 0 0 0 0 0,.osl 0 0 0 0 0,.osl 0 0 0 0 0]]⟩/\X 9=some ⟨6,1,[[.isl (s.words.map aG),.isl (s.holds.map aG),.osl 1 D 0 3 ca,.isl ((cR (J k++(eX s k).take j)).map aP),.isl ((cR (L k)).map aP),.isl (s.told.map aP)]]⟩/\X D=some ⟨1,m,(A 3).map aG⟩) (fun j=>V.pipe.length-j) 0
    ⟨noF,_,by repeat' first|exact C1|refine xqI rfl rfl ?_|refine xqP (by omega) rfl rfl ?_|fail,aF,by omega,b,g,by rw[List.take_zero,alE];exact a,p⟩ ?_
   clear b g a p;rintro j X gq gr ⟨hj,b,g,a,p⟩ KN ha;obtain⟨W,B⟩: ∃W,W=J k++(eX s k).take j:=⟨_,rfl⟩
   rw[<-B] at a;have I:(cR W).length<2^21:=(by have h1:=ds k ep;rw[je,B,akG,ak1];omega);have y:bH gq [0,1,9,D]:=AM.apart (by simp;omega) (by simp;omega);simp only[bH,cU] at y;by_cases e:j<V.pipe.length
   ·obtain⟨x,hx⟩: ∃x,V.pipe.getD j default=x:=⟨_,rfl⟩
    repeat' first| (first|apply vI|apply U6 I)<;>(simp only[go_sem,nL,b,g,a,E,br,hx,y];try simp (disch:=omega) only[Iw])|apply vT (by omega)|refine⟨by omega,?_⟩|fail
    have o:J k++(eX s k).take (j+1)=W++[(⟨x.who,x.n,kL⟩:Job)]:=(by rw[eY (by simpa [eX,<-hV] using e),<-akO,<-B];congr 2;rw[<-hx];simp[eX,<-hV,List.getD,e]);exact ha _ _ _ (j+1) noF _ (by omega) (by omega) (by repeat' first|exact C1|refine xqI rfl rfl ?_|refine xqP (by omega) rfl rfl ?_|fail) aF ⟨by omega,by rw[aA.aB (by omega)];exact b,by rw[aA.aB (by omega)];exact g,by rw[o,WX];exact aA.aI,by rw[aA.aB (by omega)];exact p⟩
   ·have df:j=V.pipe.length:=(by omega);have o:W=J (k+1):=(by rw[B,dh,akM (by simp[eX,<-hV];omega)]);rw[o] at a;repeat' first|apply vI<;>(simp only[go_sem,b,E,br])|apply vF (by omega)|refine⟨by omega,?_⟩|fail
    refine aH.cE (β:=Nat) (fun j=>en [(8,dI j),(6,dI k),(3,.one (.c (.ptr 6 9 0 0))),(2,.one (.c (.ptr 6 1 0 0))),(1,.one (.c (.ptr 5 0 0 0)))])
     (fun j X _=>j<=V.done.length/\X 0=some ⟨5,1,[dY s]⟩/\X 1=some ⟨6,1,[[.osl 0 0 0 0 0,.osl 0 0 0 0 0,.osl 0 0 0 0 0,.osl 0 0 0 0 0,.osl 0 0 0 0 0,.osl 0 0 0 0 0]]⟩/\X 9=some ⟨6,1,[[.isl (s.words.map aG),.isl (s.holds.map aG),.osl 1 D 0 3 ca,.isl ((cR (J (k+1))).map aP),.isl ((cR (L k++V.done.take j)).map aP),.isl (s.told.map aP)]]⟩/\X D=some ⟨1,m,(A 3).map aG⟩) (fun j=>V.done.length-j) 0
     ⟨noF,_,by repeat' first|exact C1|refine xqI rfl rfl ?_|refine xqP (by omega) rfl rfl ?_|fail,aF,by omega,b,g,by rw[List.take_zero,alE];exact a,p⟩ ?_
    clear b g a p y I B o W hj df e;rintro j H4 hb hd ⟨hj,b,g,a,p⟩ KO hg;obtain⟨W,B⟩: ∃W,W=L k++V.done.take j:=⟨_,rfl⟩
    rw[<-B] at a;have I:(cR W).length<2^21:=(by have h1:=dy k ep;rw[je,B,akG,ak1];omega);have y:bH hb [0,1,9,D]:=AM.apart (by simp;omega) (by simp;omega);simp only[bH,cU] at y;by_cases e:j<V.done.length
    ·obtain⟨x,hx⟩: ∃x,V.done.getD j default=x:=⟨_,rfl⟩
     repeat' first| (first|apply vI|apply Ec (l:=cR W) (j:=x) I)<;>(simp only[go_sem,nL,b,g,a,E,br,hx,y];try simp (disch:=omega) only[Iw])|apply vT (by omega)|refine⟨by omega,?_⟩|fail
     have o:L k++V.done.take (j+1)=W++[x]:=(by rw[eY e,<-akO,<-B,hx]);exact hg _ _ _ (j+1) noF _ (by omega) (by omega) (by repeat' first|exact C1|refine xqI rfl rfl ?_|refine xqP (by omega) rfl rfl ?_|fail) aF ⟨by omega,by rw[aA.aB (by omega)];exact b,by rw[aA.aB (by omega)];exact g,by rw[o,WX];exact aA.aI,by rw[aA.aB (by omega)];exact p⟩
    ·have df:j=V.done.length:=(by omega);have o:W=L (k+1):=(by rw[B,dx,akM (by omega),hV]);rw[o] at a;repeat' first|apply vI<;>(simp only[go_sem,b,E,br];try simp (disch:=omega) only[Iw])|apply vF (by omega)|refine⟨by omega,?_⟩|fail
     exact dc _ _ _ (k+1) noF _ (by omega) (by omega) (by repeat' first|exact C1|refine xqI rfl rfl ?_|refine xqP (by omega) rfl rfl ?_|fail) aF ⟨by omega,b,g,a,p⟩
  ·have et:k=N:=(by omega);have hh:cR (J k)=(dH s).wait:=(by rw[ao,ab,et];show _=cR (pN s);unfold pN;rw[Y,hN]);have ho:cR (L k)=(dH s).done:=(by rw[az,et];show _=cR (tP s);unfold tP;rw[hN]);rw[hh,ho] at a;repeat' first|apply vI<;>(simp only[go_sem,b,g,a,E,M])|apply vF (by omega)|fail
   refine aC.aeH (args':=[dA (eSt (dH s))]) (without (fun j=>j=D) H2) (fun j=>j=D) rfl (fun i d0 d h1 h2=> ?_) JP ?_
   ·cases i with
    |succ i=>simp at h1
    |zero=>simp only[List.getElem?_cons_zero,Option.some.injEq] at h1 h2;subst h1;subst h2;apply sR;show CvL _ _ _ _ [.isl (s.words.map aG),.isl (s.holds.map aG),.isl ((dH s).asked.map aG),.isl ((dH s).wait.map aP),.isl ((dH s).done.map aP),.isl (s.told.map aP)] _;rw[<-y];exact aQ (bZ rfl) (aQ (bZ rfl) (aQ (iN bG p (by rw[cc 3 (by omega)]) (by rw[cc 3 (by omega)];exact cp) rfl) (aQ (bZ rfl) (aQ (bZ rfl) (aQ (bZ rfl) iA)))))
   have w1:(without (fun j=>j=D) H2) 1=some ⟨6,1,[[.osl 0 0 0 0 0,.osl 0 0 0 0 0,.osl 0 0 0 0 0,.osl 0 0 0 0 0,.osl 0 0 0 0 0,.osl 0 0 0 0 0]]⟩:=(by rw[xJ (F:=fun j=>j=D) (by omega)];exact g);refine sf O fun H5 hz b0 b1 b2 b3 b4 b5 k0 k1 k2 k3 k4 k5 u1 u2 u3 u4 u5 u6 u7 o0 o1 o2 o3 o4 o5 fr=> ?_;have w2:=(fr 1 (by omega)).trans w1;simp only[go_sem,w2];try apply kI
   repeat' first|apply vI<;>(simp only[go_sem])|fail
   refine JX hQ (dA (eSt (dH s))) _ (kD (m:=1) rfl aA.aI rfl) (sR (aQ ((o0.of (aA.aB (by omega))).frz bG (by simp)) (aQ ((o1.of (aA.aB (by omega))).frz bG (by simp)) (aQ ((o2.of (aA.aB (by omega))).frz bG (by simp)) (aQ ((o3.of (aA.aB (by omega))).frz dE (by simp)) (aQ ((o4.of (aA.aB (by omega))).frz dE (by simp)) (aQ ((o5.of (aA.aB (by omega))).frz dE (by simp)) iA))))))) rfl rfl
theorem abQ{c:Cfg}{s:CSt}(o:OJ c)(D:zz s)(h:K (dB (cyB c s)) H nx):an3 de [dA (cD c),dA (dY s)] H nx K:=by
 refine aC.pure (args0:=[dA (cD c),dA (dY s)]) (R:=fun rr=>rr=dB (cyB c s)) ?_ rfl (aE ⟨aD rfl,aD rfl,trivial⟩) (fun r hr=>hr▸h);clear h;refine aM.mk Tryz.func48 (by kernel_rfl) Am rfl fun Q E=> ?_;unfold DH;have br:=D.w;have ca:=D.h;have cc:=D.pl;have cd:=D.sl;have a: ¬(bI c/\COk c s)->dB false=dB (cyB c s):=fun h=>congrArg dB (Qs h).symm;by_cases z:bI c
 case neg=>
  repeat' first| (first|apply vI|apply mA o)<;>(simp only[go_sem,eq_false z])|fail
  all_goals exact aJ E _ rfl rfl (a fun h=>z h.1)
 have U:=eq_true z;by_cases F:rH s.words s.holds
 case neg=>
  repeat' first| (first|apply vI|apply mA o|apply rW (show s.words.length<2^40 by omega) (show s.holds.length<2^40 by omega))<;>(simp only[go_sem,U,eq_false F])|fail
  all_goals exact aJ E _ rfl rfl (a fun h=>F (tw h.2.atm))
 have e2:=eq_true F;by_cases d:(s.bE.length:Int)=3/\(s.bM.length:Int)=4
 case neg=>
  have G: ¬(bI c/\COk c s):=fun⟨_,h⟩=>d ⟨by rw[h.pl];rfl,by rw[h.sl];rfl⟩;repeat' first| (first|apply vI|refine Y6 (fun h=> ?_) fun h=> ?_|apply mA o|apply rW (show s.words.length<2^40 by omega) (show s.holds.length<2^40 by omega))<;>(simp only[go_sem,U,e2])|apply vT (by omega)|fail
  all_goals first|exact aJ E _ rfl rfl (a G)| (exfalso;omega)
 have e:s.bM.length=4:=by omega
 have d:s.bE.length=3:=by omega
 repeat' first| (first|apply vI|apply Y5 (by omega)|apply mA o|apply rW (show s.words.length<2^40 by omega) (show s.holds.length<2^40 by omega))<;>(simp only[go_sem,U,e2,d,e])|apply vF (by omega)|fail
 obtain⟨n,A⟩: ∃n:Nat->Int,n=fun k=>((aL s k).out.length:Int):=⟨_,rfl⟩
 obtain⟨l,B⟩: ∃l:Nat->Int,l=fun k=>(((aU s k).pipe.length:Int)+(aU s k).done.length):=⟨_,rfl⟩
 (refine aH.loop (α:={k:Nat//k<=3/\(∀i,i<k->gV c i (aL s i))}) (fun u=>en [(6,dI u.1),(5,dI (eM n u.1)),(3,.one (.c (.eT (dY s)))),(2,.one (.c (.eT (cD c))))]) (fun _=>.nil) _ (fun u=>3-u.1) ⟨0,by omega,(by intros;first|trivial|omega)⟩ (aS (akA _) (by repeat' first|exact C1|refine xqI rfl rfl ?_| (with_reducible apply C2)| ((with_reducible apply D0);exact CI rfl (by simp) rfl rfl rfl)|fail)) ?_);(rintro⟨k,hk,hinv⟩ KL W);have cf:=M6 (f:=n) (m:=4) (by omega) k fun j hj=>by have:=(hinv j (by omega)).ol;rw[A];dsimp only;omega
 by_cases I:k<3
 ·obtain⟨P,X⟩: ∃P,P=aL s k:=⟨_,rfl⟩
  have N:s.bE.getD k default=P:=X.symm;obtain⟨p,q⟩:=D.port k;by_cases b:gV c k (aL s k)
  ·have g:=Qt b;have Y:=b.ol;rw[<-X] at Y;have t:eM n (k+1)=eM n k+P.out.length:=(by rw[eM,A,X]);have J:=bT hinv b;repeat' first| (first|apply vI|apply S0 z d I p q)<;>(simp only[go_sem,N,d,g];try simp (disch:=omega) only[Iw])|apply vT (by omega)|refine⟨by omega,?_⟩|fail
   all_goals (rw[<-t];(refine W _ _ _ ⟨k+1,by omega,J⟩ (by omega) (by(try dsimp only);omega) (aS (akA _) (by repeat' first|exact C1|refine xqI rfl rfl ?_|fail))))
  ·have g:=cr b;repeat' first| (first|apply vI|apply S0 z d I p q)<;>(simp only[go_sem,N,d,g])|apply vT (by omega)|fail
   all_goals exact aJ E _ rfl rfl (a fun h=>b (h.2.port k I))
 ·have Z:k=3:=by omega
  subst Z;have L:C6 c s:=⟨d,hinv⟩
  have cl:eM l 0=0:=rfl;repeat' first|apply vI<;>(simp only[go_sem])|apply vF (by omega)|fail
  refine aH.loop (α:={k:Nat//k<=4/\ ∀i,i<k->rP c s i}) (fun u=>en [(7,dI u.1),(5,dI (eM n 3-eM l u.1)),(3,.one (.c (.eT (dY s)))),(2,.one (.c (.eT (cD c))))]) (fun _=>.nil) _ (fun u=>4-u.1) ⟨0,by omega,fun i hi=>by omega⟩ (aS (akA _) (by repeat' first|exact C1|refine xqI rfl rfl ?_| (with_reducible apply C2)| ((with_reducible apply C0);(exact CG (by((try dsimp only);exact diE (by omega))) rfl))| ((with_reducible apply D0);apply CJ)|fail)) ?_;rintro⟨k,hk,v⟩ KM aa;have cp:=M6 (f:=l) (m:=4) (by omega) k fun j hj=>by have h1:=(v j (by omega)).pl;have h2:=(v j (by omega)).dl;rw[B];dsimp only;omega
  by_cases x:k<4
  ·obtain⟨V,hV⟩: ∃V,V=aU s k:=⟨_,rfl⟩
   have O:s.bM.getD k default=V:=hV.symm;obtain⟨p,q,S⟩:=D.slv k;by_cases b:rP c s k
   ·have ab:=b.pl;have ad:=b.dl;rw[<-hV] at ab ad;have g:=Pw b;have t:eM n 3-eM l (k+1)=eM n 3-eM l k-V.pipe.length-V.done.length:=by have h1:l k=V.pipe.length+V.done.length:=(by rw[B,hV]);have h2:eM l (k+1)=eM l k+l k:=rfl;omega
    have J:=bT v b;repeat' first| (first|apply vI|apply O8 z L e x p q S)<;>(simp only[go_sem,O,e,g];try simp (disch:=omega) only[Iw])|apply vT (by omega)|refine⟨by omega,?_⟩|fail
    all_goals (rw[<-t];exact aa _ _ _ ⟨k+1,by omega,J⟩ (by omega) (by(try dsimp only);omega) (aS (akA _) (by repeat' first|exact C1|refine xqI rfl rfl ?_|fail)))
   ·have g:=VT b;repeat' first| (first|apply vI|apply O8 z L e x p q S)<;>(simp only[go_sem,O,e,g])|apply vT (by omega)|fail
    all_goals exact aJ E _ rfl rfl (a fun h=>b (h.2.slv k x))
  ·have ao:k=4:=(by omega);subst ao;have T:=Dp D L e v;by_cases M:eM n 3=eM l 4
   case neg=>
    have G: ¬(bI c/\COk c s):=fun⟨_,h⟩=>M (by
     have:=h.count
     unfold lO at this
     rw[A,B]
     simp only[eM]
     omega)
    have y:(eM n 3-eM l 4=0)=False:=eq_false (by omega);repeat' first|apply vI<;>(simp only[go_sem,y])|apply vF (by omega)|fail
    all_goals exact aJ E _ rfl rfl (a G)
   have y:(eM n 3-eM l 4=0)=True:=eq_true (by omega);have az:=agD (s:=dH s) z;repeat' first| (first|apply vI|apply vx T|apply Fj o T.st)<;>(simp only[go_sem,y,az])|apply vF (by omega)|fail
   all_goals (
    refine aJ E _ rfl rfl (congrArg dB ?_)
    by_cases C:rU c (dH s)
    ·rw[Wy C];refine(aeT z ⟨⟨by have:=F.1.1;omega,F.1.2,by have:=F.2.1;omega,F.2.2⟩,d,e,hinv,v,?_,C⟩).symm;unfold lO;rw[A,B] at M;simp only[eM] at M;omega
    ·rw[U0 C,Qs fun h=>C h.2.st])
theorem mS{l:List Int}(b:l.length<2^21)(h:K (dB true) H nx):an3 iY [dS (l.map aG),dS (l.map aG)] H nx K:=by
 refine aC.pure (args0:=[dS (l.map aG),dS (l.map aG)]) (R:=fun c=>c=dB true) ?_ rfl (aE ⟨aD rfl,aD rfl,trivial⟩) (fun r hr=>hr▸h);clear h;refine aM.mk Tryz.func83 (by kernel_rfl) tb rfl fun Q d=> ?_;unfold zN;have hl:l.length<2^21:=b;repeat' first|apply vI<;>(simp only[go_sem])|fail
 (refine aH.loop (α:={k:Nat//k<=l.length/\(True)}) (fun u=>en [(5,dI u.1),(1,dS (l.map aG)),(0,dS (l.map aG))]) (fun _=>.nil) _ (fun u=>l.length-u.1) ⟨0,by omega,(by intros;first|trivial|omega)⟩ (aS (akA _) (by repeat' first|exact C1|refine xqI rfl rfl ?_|fail)) ?_);(rintro⟨k,g,hinv⟩ i a);by_cases e:k<l.length
 ·generalize f:l.getD k default=x at*;repeat' first|apply vI<;>(simp only[go_sem,f];try simp (disch:=omega) only[Iw])|apply vT (by omega)|refine⟨by omega,?_⟩|fail
  all_goals (refine a _ _ _ ⟨k+1,by omega,trivial⟩ (by omega) (by(try dsimp only);omega) (aS (akA _) (by repeat' first|exact C1|refine xqI rfl rfl ?_|fail)))
 ·repeat' first|apply vI<;>(simp only[go_sem])|apply vF (by omega)|fail
  all_goals exact aJ d _ rfl rfl rfl
theorem HA{l:List Bool}(b:l.length<2^21)(h:K (dB true) H nx):an3 rQ [dS (l.map d8),dS (l.map d8)] H nx K:=by
 refine aC.pure (args0:=[dS (l.map d8),dS (l.map d8)]) (R:=fun c=>c=dB true) ?_ rfl (aE ⟨aD rfl,aD rfl,trivial⟩) (fun r hr=>hr▸h);clear h;refine aM.mk Tryz.func152 (by kernel_rfl) px rfl fun Q d=> ?_;unfold wC;have hl:l.length<2^21:=b;repeat' first|apply vI<;>(simp only[go_sem])|fail
 (refine aH.loop (α:={k:Nat//k<=l.length/\(True)}) (fun u=>en [(5,dI u.1),(1,dS (l.map d8)),(0,dS (l.map d8))]) (fun _=>.nil) _ (fun u=>l.length-u.1) ⟨0,by omega,(by intros;first|trivial|omega)⟩ (aS (akA _) (by repeat' first|exact C1|refine xqI rfl rfl ?_|fail)) ?_);(rintro⟨k,g,hinv⟩ i a);by_cases e:k<l.length
 ·generalize f:l.getD k default=x at*;repeat' first|apply vI<;>(simp only[go_sem,f];try simp (disch:=omega) only[Iw])|apply vT (by omega)| ((refine L0 (fun h=> ?_) (fun h=> ?_))<;>try subst h)|refine⟨by omega,?_⟩|fail
  all_goals first| (exfalso;simp_all;done)| (refine a _ _ _ ⟨k+1,by omega,trivial⟩ (by omega) (by(try dsimp only);omega) (aS (akA _) (by repeat' first|exact C1|refine xqI rfl rfl ?_|fail)))
 ·repeat' first|apply vI<;>(simp only[go_sem])|apply vF (by omega)|fail
  all_goals exact aJ d _ rfl rfl rfl
theorem cg{x:Rng}(h:K (dB true) H nx):an3 zQ [dA (c7 x),dA (c7 x)] H nx K:=by
 refine aC.pure (args0:=[dA (c7 x),dA (c7 x)]) (R:=fun a=>a=dB true) ?_ rfl (aE ⟨aD rfl,aD rfl,trivial⟩) (fun r hr=>hr▸h);clear h;refine aM.mk Tryz.func174 (by kernel_rfl) XJ rfl fun Q b=> ?_;unfold oD;repeat' first|apply vI<;>(simp only[go_sem])| ((refine L0 (fun h=> ?_) (fun h=> ?_))<;>try subst h)|fail
 all_goals first|exact aJ b _ rfl rfl rfl| (exfalso;simp_all;done)| (exfalso;omega)
theorem X8{l:List Rng}(b:l.length<2^21)(h:K (dB true) H nx):an3 w9 [dS (l.map c7),dS (l.map c7)] H nx K:=by
 refine aC.pure (args0:=[dS (l.map c7),dS (l.map c7)]) (R:=fun c=>c=dB true) ?_ rfl (aE ⟨aD rfl,aD rfl,trivial⟩) (fun r hr=>hr▸h);clear h;refine aM.mk Tryz.func84 (by kernel_rfl) T7 rfl fun Q d=> ?_;unfold nM;have hl:l.length<2^21:=b;repeat' first|apply vI<;>(simp only[go_sem])|fail
 (refine aH.loop (α:={k:Nat//k<=l.length/\(True)}) (fun u=>en [(5,dI u.1),(1,dS (l.map c7)),(0,dS (l.map c7))]) (fun _=>.nil) _ (fun u=>l.length-u.1) ⟨0,by omega,(by intros;first|trivial|omega)⟩ (aS (akA _) (by repeat' first|exact C1|refine xqI rfl rfl ?_|fail)) ?_);(rintro⟨k,g,hinv⟩ i a);by_cases e:k<l.length
 ·generalize f:l.getD k default=x at*;repeat' first| (first|apply vI|apply cg)<;>(simp only[go_sem,f];try simp (disch:=omega) only[Iw])|apply vT (by omega)|refine⟨by omega,?_⟩|fail
  all_goals (refine a _ _ _ ⟨k+1,by omega,trivial⟩ (by omega) (by(try dsimp only);omega) (aS (akA _) (by repeat' first|exact C1|refine xqI rfl rfl ?_|fail)))
 ·repeat' first|apply vI<;>(simp only[go_sem])|apply vF (by omega)|fail
  all_goals exact aJ d _ rfl rfl rfl
theorem nj{x:eZ}(h:K (dB true) H nx):an3 ET [dA (eCJ x),dA (eCJ x)] H nx K:=by
 refine aC.pure (args0:=[dA (eCJ x),dA (eCJ x)]) (R:=fun a=>a=dB true) ?_ rfl (aE ⟨aD rfl,aD rfl,trivial⟩) (fun r hr=>hr▸h);clear h;refine aM.mk Tryz.func336 (by kernel_rfl) fb rfl fun Q b=> ?_;unfold sF;repeat' first|apply vI<;>(simp only[go_sem])|fail
 all_goals first|exact aJ b _ rfl rfl rfl| (exfalso;simp_all;done)| (exfalso;omega)
theorem MF{l:List eZ}(b:l.length<2^21)(h:K (dB true) H nx):an3 sL [dS (l.map eCJ),dS (l.map eCJ)] H nx K:=by
 refine aC.pure (args0:=[dS (l.map eCJ),dS (l.map eCJ)]) (R:=fun c=>c=dB true) ?_ rfl (aE ⟨aD rfl,aD rfl,trivial⟩) (fun r hr=>hr▸h);clear h;refine aM.mk Tryz.func310 (by kernel_rfl) ar rfl fun Q d=> ?_;unfold qD;have hl:l.length<2^21:=b;repeat' first|apply vI<;>(simp only[go_sem])|fail
 (refine aH.loop (α:={k:Nat//k<=l.length/\(True)}) (fun u=>en [(5,dI u.1),(1,dS (l.map eCJ)),(0,dS (l.map eCJ))]) (fun _=>.nil) _ (fun u=>l.length-u.1) ⟨0,by omega,(by intros;first|trivial|omega)⟩ (aS (akA _) (by repeat' first|exact C1|refine xqI rfl rfl ?_|fail)) ?_);(rintro⟨k,g,hinv⟩ i a);by_cases e:k<l.length
 ·generalize f:l.getD k default=x at*;repeat' first| (first|apply vI|apply nj)<;>(simp only[go_sem,f];try simp (disch:=omega) only[Iw])|apply vT (by omega)|refine⟨by omega,?_⟩|fail
  all_goals (refine a _ _ _ ⟨k+1,by omega,trivial⟩ (by omega) (by(try dsimp only);omega) (aS (akA _) (by repeat' first|exact C1|refine xqI rfl rfl ?_|fail)))
 ·repeat' first|apply vI<;>(simp only[go_sem])|apply vF (by omega)|fail
  all_goals exact aJ d _ rfl rfl rfl
theorem cn{x:Ev}(h:K (dB true) H nx):an3 zT [dA (eEv x),dA (eEv x)] H nx K:=by
 refine aC.pure (args0:=[dA (eEv x),dA (eEv x)]) (R:=fun a=>a=dB true) ?_ rfl (aE ⟨aD rfl,aD rfl,trivial⟩) (fun r hr=>hr▸h);clear h;refine aM.mk Tryz.func147 (by kernel_rfl) YC rfl fun Q b=> ?_;unfold oG;repeat' first|apply vI<;>(simp only[go_sem])|fail
 all_goals first|exact aJ b _ rfl rfl rfl| (exfalso;simp_all;done)| (exfalso;omega)
theorem IV(l:List Ev)(c:l.length<2^21):an3 oF [dS (l.map eEv),dS (l.map eEv)] .nil 0 fun b _ _=>b.plain=true/\b=dB true:=by
 refine aM.mk Tryz.func57 (by kernel_rfl) UH rfl fun Q d=> ?_;unfold nF;have hl:l.length<2^21:=c;repeat' first|apply vI<;>(simp only[go_sem])|fail
 (refine aH.loop (α:={k:Nat//k<=l.length/\(True)}) (fun u=>en [(5,dI u.1),(1,dS (l.map eEv)),(0,dS (l.map eEv))]) (fun _=>.nil) _ (fun u=>l.length-u.1) ⟨0,by omega,(by intros;first|trivial|omega)⟩ (aS (akA _) (by repeat' first|exact C1|refine xqI rfl rfl ?_|fail)) ?_);(rintro⟨k,g,hinv⟩ h a);by_cases e:k<l.length
 ·generalize f:l.getD k default=x at*;repeat' first| (first|apply vI|apply cn)<;>(simp only[go_sem,f];try simp (disch:=omega) only[Iw])|apply vT (by omega)|refine⟨by omega,?_⟩|fail
  all_goals (refine a _ _ _ ⟨k+1,by omega,trivial⟩ (by omega) (by(try dsimp only);omega) (aS (akA _) (by repeat' first|exact C1|refine xqI rfl rfl ?_|fail)))
 ·repeat' first|apply vI<;>(simp only[go_sem])|apply vF (by omega)|fail
  all_goals exact aJ d _ rfl rfl rfl
theorem Ka{l:List Ev}(a:l.length<2^21)(h:K (dB true) H nx):an3 oF [dS (l.map eEv),dS (l.map eEv)] H nx K:=(IV l a).pure rfl (aE ⟨aD rfl,aD rfl,trivial⟩) (fun r hr=>hr▸h)
theorem pk{w:List Int}(a:w.length<2^21)(h:K (dB true) H nx):an3 FE [dA [.isl (w.map aG)],dA [.isl (w.map aG)]] H nx K:=by
 refine aC.pure (args0:=[dA [.isl (w.map aG)],dA [.isl (w.map aG)]]) (R:=fun b=>b=dB true) ?_ rfl (aE ⟨aD rfl,aD rfl,trivial⟩) (fun r hr=>hr▸h);clear h;refine aM.mk Tryz.func236 (by kernel_rfl) ft rfl fun Q c=> ?_;unfold sK;repeat' first| (first|apply vI|apply mS (l:=w) a)<;>(simp only[go_sem])|fail
 all_goals exact aJ c _ rfl rfl rfl
theorem ZM{w:List Int}{u:List Int}(a:w.length<2^21)(hc:u.length<2^21)(h:K (dB true) H nx):an3 yF [dA [.isl (w.map aG),.isl (u.map aG)],dA [.isl (w.map aG),.isl (u.map aG)]] H nx K:=by
 refine aC.pure (args0:=[dA [.isl (w.map aG),.isl (u.map aG)],dA [.isl (w.map aG),.isl (u.map aG)]]) (R:=fun b=>b=dB true) ?_ rfl (aE ⟨aD rfl,aD rfl,trivial⟩) (fun r hr=>hr▸h);clear h;refine aM.mk Tryz.func148 (by kernel_rfl) X1 rfl fun Q c=> ?_;unfold pC;repeat' first| (first|apply vI|apply pk (w:=w) a|apply mS (l:=u) hc)<;>(simp only[go_sem])|fail
 all_goals exact aJ c _ rfl rfl rfl
theorem ot{x:Req}(a:l4 (2^21) x)(h:K (dB true) H nx):an3 EJ [dA (dK x),dA (dK x)] H nx K:=by
 refine aC.pure (args0:=[dA (dK x),dA (dK x)]) (R:=fun b=>b=dB true) ?_ rfl (aE ⟨aD rfl,aD rfl,trivial⟩) (fun r hr=>hr▸h);clear h;refine aM.mk Tryz.func254 (by kernel_rfl) ig rfl fun Q c=> ?_;unfold rZ;obtain⟨d,e⟩:=a;repeat' first| (first|apply vI|apply mS (l:=x.data) d|apply mS (l:=x.lanes) e)<;>(simp only[go_sem])| ((refine L0 (fun h=> ?_) (fun h=> ?_))<;>try subst h)|fail
 all_goals first|exact aJ c _ rfl rfl rfl| (exfalso;simp_all;done)| (exfalso;omega)
theorem jd{l:List Req}(c:oM (l4 (2^21)) (2^21) l)(h:K (dB true) H nx):an3 BZ [dS (l.map dK),dS (l.map dK)] H nx K:=by
 refine aC.pure (args0:=[dS (l.map dK),dS (l.map dK)]) (R:=fun d=>d=dB true) ?_ rfl (aE ⟨aD rfl,aD rfl,trivial⟩) (fun r hr=>hr▸h);clear h;refine aM.mk Tryz.func175 (by kernel_rfl) bg rfl fun Q e=> ?_;unfold pY;have hl:l.length<2^21:=c.1;repeat' first|apply vI<;>(simp only[go_sem])|fail
 (refine aH.loop (α:={k:Nat//k<=l.length/\(True)}) (fun u=>en [(5,dI u.1),(1,dS (l.map dK)),(0,dS (l.map dK))]) (fun _=>.nil) _ (fun u=>l.length-u.1) ⟨0,by omega,(by intros;first|trivial|omega)⟩ (aS (akA _) (by repeat' first|exact C1|refine xqI rfl rfl ?_|fail)) ?_);(rintro⟨k,g,hinv⟩ i a);by_cases b:k<l.length
 ·have hm:=c.2 _ (bL b);generalize f:l.getD k default=x at*;repeat' first| (first|apply vI|apply ot hm)<;>(simp only[go_sem,f];try simp (disch:=omega) only[Iw])|apply vT (by omega)|refine⟨by omega,?_⟩|fail
  all_goals (refine a _ _ _ ⟨k+1,by omega,trivial⟩ (by omega) (by(try dsimp only);omega) (aS (akA _) (by repeat' first|exact C1|refine xqI rfl rfl ?_|fail)))
 ·repeat' first|apply vI<;>(simp only[go_sem])|apply vF (by omega)|fail
  all_goals exact aJ e _ rfl rfl rfl
theorem YX{l:List (List Req)}(c:oM (wR (2^21)) (2^21) l)(h:K (dB true) H nx):an3 z9 [dS (l.map mW),dS (l.map mW)] H nx K:=by
 refine aC.pure (args0:=[dS (l.map mW),dS (l.map mW)]) (R:=fun d=>d=dB true) ?_ rfl (aE ⟨aD rfl,aD rfl,trivial⟩) (fun r hr=>hr▸h);clear h;refine aM.mk Tryz.func85 (by kernel_rfl) XV rfl fun Q e=> ?_;unfold pB;have hl:l.length<2^21:=c.1;repeat' first|apply vI<;>(simp only[go_sem])|fail
 (refine aH.loop (α:={k:Nat//k<=l.length/\(True)}) (fun u=>en [(5,dI u.1),(1,dS (l.map mW)),(0,dS (l.map mW))]) (fun _=>.nil) _ (fun u=>l.length-u.1) ⟨0,by omega,(by intros;first|trivial|omega)⟩ (aS (akA _) (by repeat' first|exact C1|refine xqI rfl rfl ?_|fail)) ?_);(rintro⟨k,g,hinv⟩ i a);by_cases b:k<l.length
 ·have hm:=c.2 _ (bL b);generalize f:l.getD k default=x at*;repeat' first| (first|apply vI|apply jd hm)<;>(simp only[go_sem,f];try simp (disch:=omega) only[Iw])|apply vT (by omega)|refine⟨by omega,?_⟩|fail
  all_goals (refine a _ _ _ ⟨k+1,by omega,trivial⟩ (by omega) (by(try dsimp only);omega) (aS (akA _) (by repeat' first|exact C1|refine xqI rfl rfl ?_|fail)))
 ·repeat' first|apply vI<;>(simp only[go_sem])|apply vF (by omega)|fail
  all_goals exact aJ e _ rfl rfl rfl
theorem oi(x:Cfg)(b:pS (2^21) x):an3 E7 [dA (cD x),dA (cD x)] .nil 0 fun a _ _=>a.plain=true/\a=dB true:=by
 refine aM.mk Tryz.func20 (by kernel_rfl) iu rfl fun Q c=> ?_;unfold tB;obtain⟨d,e,f⟩:=b;repeat' first| (first|apply vI|apply X8 (l:=x.map) d|apply mS (l:=x.lat) e|apply YX (l:=x.b7) f)<;>(simp only[go_sem])|fail
 all_goals first|exact aJ c _ rfl rfl rfl| (exfalso;simp_all;done)| (exfalso;omega)
theorem gn{x:cJ}(a:kX (2^21) x)(h:K (dB true) H nx):an3 BK [dA (bV x),dA (bV x)] H nx K:=by
 refine aC.pure (args0:=[dA (bV x),dA (bV x)]) (R:=fun b=>b=dB true) ?_ rfl (aE ⟨aD rfl,aD rfl,trivial⟩) (fun r hr=>hr▸h);clear h;refine aM.mk Tryz.func237 (by kernel_rfl) YT rfl fun Q c=> ?_;unfold qI;obtain⟨d,e⟩:=a;repeat' first| (first|apply vI|apply mS (l:=x.queue) d|apply MF (l:=x.out) e)<;>(simp only[go_sem])|fail
 all_goals first|exact aJ c _ rfl rfl rfl| (exfalso;simp_all;done)| (exfalso;omega)
theorem ZH{l:List cJ}(c:oM (kX (2^21)) (2^21) l)(h:K (dB true) H nx):an3 zG [dS (l.map bV),dS (l.map bV)] H nx K:=by
 refine aC.pure (args0:=[dS (l.map bV),dS (l.map bV)]) (R:=fun d=>d=dB true) ?_ rfl (aE ⟨aD rfl,aD rfl,trivial⟩) (fun r hr=>hr▸h);clear h;refine aM.mk Tryz.func149 (by kernel_rfl) XY rfl fun Q e=> ?_;unfold o9;have hl:l.length<2^21:=c.1;repeat' first|apply vI<;>(simp only[go_sem])|fail
 (refine aH.loop (α:={k:Nat//k<=l.length/\(True)}) (fun u=>en [(5,dI u.1),(1,dS (l.map bV)),(0,dS (l.map bV))]) (fun _=>.nil) _ (fun u=>l.length-u.1) ⟨0,by omega,(by intros;first|trivial|omega)⟩ (aS (akA _) (by repeat' first|exact C1|refine xqI rfl rfl ?_|fail)) ?_);(rintro⟨k,g,hinv⟩ i a);by_cases b:k<l.length
 ·have hm:=c.2 _ (bL b);generalize f:l.getD k default=x at*;repeat' first| (first|apply vI|apply gn hm)<;>(simp only[go_sem,f];try simp (disch:=omega) only[Iw])|apply vT (by omega)|refine⟨by omega,?_⟩|fail
  all_goals (refine a _ _ _ ⟨k+1,by omega,trivial⟩ (by omega) (by(try dsimp only);omega) (aS (akA _) (by repeat' first|exact C1|refine xqI rfl rfl ?_|fail)))
 ·repeat' first|apply vI<;>(simp only[go_sem])|apply vF (by omega)|fail
  all_goals exact aJ e _ rfl rfl rfl
theorem mu{x:Rsp}(a:G8 (2^21) x)(h:K (dB true) H nx):an3 EW [dA (nS x),dA (nS x)] H nx K:=by
 refine aC.pure (args0:=[dA (nS x),dA (nS x)]) (R:=fun b=>b=dB true) ?_ rfl (aE ⟨aD rfl,aD rfl,trivial⟩) (fun r hr=>hr▸h);clear h;refine aM.mk Tryz.func311 (by kernel_rfl) dw rfl fun Q c=> ?_;unfold r6;have d:x.data.length<(2^21):=a;repeat' first| (first|apply vI|apply mS (l:=x.data) d)<;>(simp only[go_sem])|fail
 all_goals first|exact aJ c _ rfl rfl rfl| (exfalso;simp_all;done)| (exfalso;omega)
theorem oa{x:Job}(a:iQ (2^21) x)(h:K (dB true) H nx):an3 EH [dA (aP x),dA (aP x)] H nx K:=by
 refine aC.pure (args0:=[dA (aP x),dA (aP x)]) (R:=fun b=>b=dB true) ?_ rfl (aE ⟨aD rfl,aD rfl,trivial⟩) (fun r hr=>hr▸h);clear h;refine aM.mk Tryz.func239 (by kernel_rfl) gk rfl fun Q c=> ?_;unfold sU;have d:G8 (2^21) x.rsp:=a;repeat' first| (first|apply vI|apply mu (x:=x.rsp) d)<;>(simp only[go_sem])|fail
 all_goals first|exact aJ c _ rfl rfl rfl| (exfalso;simp_all;done)| (exfalso;omega)
theorem M4{l:List Job}(c:oM (iQ (2^21)) (2^21) l)(h:K (dB true) H nx):an3 sT [dS (l.map aP),dS (l.map aP)] H nx K:=by
 refine aC.pure (args0:=[dS (l.map aP),dS (l.map aP)]) (R:=fun d=>d=dB true) ?_ rfl (aE ⟨aD rfl,aD rfl,trivial⟩) (fun r hr=>hr▸h);clear h;refine aM.mk Tryz.func151 (by kernel_rfl) Y1 rfl fun Q e=> ?_;unfold qH;have hl:l.length<2^21:=c.1;repeat' first|apply vI<;>(simp only[go_sem])|fail
 (refine aH.loop (α:={k:Nat//k<=l.length/\(True)}) (fun u=>en [(5,dI u.1),(1,dS (l.map aP)),(0,dS (l.map aP))]) (fun _=>.nil) _ (fun u=>l.length-u.1) ⟨0,by omega,(by intros;first|trivial|omega)⟩ (aS (akA _) (by repeat' first|exact C1|refine xqI rfl rfl ?_|fail)) ?_);(rintro⟨k,g,hinv⟩ i a);by_cases b:k<l.length
 ·have hm:=c.2 _ (bL b);generalize f:l.getD k default=x at*;repeat' first| (first|apply vI|apply oa hm)<;>(simp only[go_sem,f];try simp (disch:=omega) only[Iw])|apply vT (by omega)|refine⟨by omega,?_⟩|fail
  all_goals (refine a _ _ _ ⟨k+1,by omega,trivial⟩ (by omega) (by(try dsimp only);omega) (aS (akA _) (by repeat' first|exact C1|refine xqI rfl rfl ?_|fail)))
 ·repeat' first|apply vI<;>(simp only[go_sem])|apply vF (by omega)|fail
  all_goals exact aJ e _ rfl rfl rfl
theorem ZS{x:lR}(a:jK (2^21) x)(h:K (dB true) H nx):an3 xZ [dA (eV x),dA (eV x)] H nx K:=by
 refine aC.pure (args0:=[dA (eV x),dA (eV x)]) (R:=fun b=>b=dB true) ?_ rfl (aE ⟨aD rfl,aD rfl,trivial⟩) (fun r hr=>hr▸h);clear h;refine aM.mk Tryz.func238 (by kernel_rfl) W7 rfl fun Q c=> ?_;unfold oP;obtain⟨d,e⟩:=a;repeat' first| (first|apply vI|apply MF (l:=x.pipe) d|apply M4 (l:=x.done) e)<;>(simp only[go_sem])|fail
 all_goals first|exact aJ c _ rfl rfl rfl| (exfalso;simp_all;done)| (exfalso;omega)
theorem YI{l:List lR}(c:oM (jK (2^21)) (2^21) l)(h:K (dB true) H nx):an3 wV [dS (l.map eV),dS (l.map eV)] H nx K:=by
 refine aC.pure (args0:=[dS (l.map eV),dS (l.map eV)]) (R:=fun d=>d=dB true) ?_ rfl (aE ⟨aD rfl,aD rfl,trivial⟩) (fun r hr=>hr▸h);clear h;refine aM.mk Tryz.func150 (by kernel_rfl) UL rfl fun Q e=> ?_;unfold nH;have hl:l.length<2^21:=c.1;repeat' first|apply vI<;>(simp only[go_sem])|fail
 (refine aH.loop (α:={k:Nat//k<=l.length/\(True)}) (fun u=>en [(5,dI u.1),(1,dS (l.map eV)),(0,dS (l.map eV))]) (fun _=>.nil) _ (fun u=>l.length-u.1) ⟨0,by omega,(by intros;first|trivial|omega)⟩ (aS (akA _) (by repeat' first|exact C1|refine xqI rfl rfl ?_|fail)) ?_);(rintro⟨k,g,hinv⟩ i a);by_cases b:k<l.length
 ·have hm:=c.2 _ (bL b);generalize f:l.getD k default=x at*;repeat' first| (first|apply vI|apply ZS hm)<;>(simp only[go_sem,f];try simp (disch:=omega) only[Iw])|apply vT (by omega)|refine⟨by omega,?_⟩|fail
  all_goals (refine a _ _ _ ⟨k+1,by omega,trivial⟩ (by omega) (by(try dsimp only);omega) (aS (akA _) (by repeat' first|exact C1|refine xqI rfl rfl ?_|fail)))
 ·repeat' first|apply vI<;>(simp only[go_sem])|apply vF (by omega)|fail
  all_goals exact aJ e _ rfl rfl rfl
theorem cb(x:CSt)(b:jE (2^21) x):an3 zM [dA (dY x),dA (dY x)] .nil 0 fun a _ _=>a.plain=true/\a=dB true:=by
 refine aM.mk Tryz.func58 (by kernel_rfl) XM rfl fun Q c=> ?_;unfold pE;obtain⟨⟨d,e⟩,f,g,h⟩:=b;repeat' first| (first|apply vI|apply ZM (w:=x.words) (u:=x.holds) d e|apply ZH (l:=x.bE) f|apply YI (l:=x.bM) g|apply M4 (l:=x.told) h)<;>(simp only[go_sem])|fail
 all_goals first|exact aJ c _ rfl rfl rfl| (exfalso;simp_all;done)| (exfalso;omega)
theorem S9(x:CIn)(b:kW (2^21) x):an3 rC [dA (eIn x),dA (eIn x)] .nil 0 fun a _ _=>a.plain=true/\a=dB true:=by
 refine aM.mk Tryz.func59 (by kernel_rfl) nt rfl fun Q c=> ?_;unfold wD;obtain⟨d,e,f⟩:=b;repeat' first| (first|apply vI|apply HA (l:=x.ready) d|apply HA (l:=x.iP) e|apply HA (l:=x.send) f)<;>(simp only[go_sem])|fail
 all_goals first|exact aJ c _ rfl rfl rfl| (exfalso;simp_all;done)| (exfalso;omega)
theorem sj{x:CIn}(a:kW (2^21) x)(h:K (dB true) H nx):an3 rC [dA (eIn x),dA (eIn x)] H nx K:=(S9 x a).pure rfl (aE ⟨aD rfl,aD rfl,trivial⟩) (fun r hr=>hr▸h)
theorem qd(l:List CIn)(c:oM (kW (2^21)) (2^21) l):an3 EY [dS (l.map eIn),dS (l.map eIn)] .nil 0 fun d _ _=>d.plain=true/\d=dB true:=by
 refine aM.mk Tryz.func21 (by kernel_rfl) iq rfl fun Q e=> ?_;unfold sZ;have hl:l.length<2^21:=c.1;repeat' first|apply vI<;>(simp only[go_sem])|fail
 (refine aH.loop (α:={k:Nat//k<=l.length/\(True)}) (fun u=>en [(5,dI u.1),(1,dS (l.map eIn)),(0,dS (l.map eIn))]) (fun _=>.nil) _ (fun u=>l.length-u.1) ⟨0,by omega,(by intros;first|trivial|omega)⟩ (aS (akA _) (by repeat' first|exact C1|refine xqI rfl rfl ?_|fail)) ?_);(rintro⟨k,g,hinv⟩ h a);by_cases b:k<l.length
 ·have hm:=c.2 _ (bL b);generalize f:l.getD k default=x at*;repeat' first| (first|apply vI|apply sj hm)<;>(simp only[go_sem,f];try simp (disch:=omega) only[Iw])|apply vT (by omega)|refine⟨by omega,?_⟩|fail
  all_goals (refine a _ _ _ ⟨k+1,by omega,trivial⟩ (by omega) (by(try dsimp only);omega) (aS (akA _) (by repeat' first|exact C1|refine xqI rfl rfl ?_|fail)))
 ·repeat' first|apply vI<;>(simp only[go_sem])|apply vF (by omega)|fail
  all_goals exact aJ e _ rfl rfl rfl
end
end Go.Proofs.YtlncecohbakleaaGreat
namespace Go.Proofs.YtlncecohbakleaaGreat
open Go Go.AM Go.Proofs
theorem A3:jN an2 3 aG:=Ts Tryz.underlying3
theorem Nm:jN an2 4 d8:=Lf Tryz.underlying4
theorem YE:jN an2 23 fun l:List Int=>[.isl (l.map aG)]:=kO (n:=1) A3 Tryz.underlying23 (by kernel_rfl) (by decide) fun _=>rfl
theorem Fk:jN an2 66 fun l:List Bool=>[.isl (l.map d8)]:=kO (n:=1) Nm Tryz.underlying66 (by kernel_rfl) (by decide) fun _=>rfl
theorem ah6:jN an2 211 c7:=lX (gF (n:=4) (aX (n:=1) A3 rfl (by kernel_rfl) (fun _=>rfl) (aX (n:=1) A3 rfl (by kernel_rfl) (fun _=>rfl) (aX (n:=1) A3 rfl (by kernel_rfl) (fun _=>rfl) (aX (n:=1) Nm rfl (by kernel_rfl) (fun _=>rfl) iH)))) Tryz.underlying211 (by kernel_rfl) fun _=>rfl) (fun p:Int×Int×Int×Bool×Unit=>⟨p.1,p.2.1,p.2.2.1,p.2.2.2.1⟩) (fun _=>rfl)
theorem afW:jN an2 22 fun l:List Rng=>[.isl (l.map c7)]:=kO (n:=4) ah6 Tryz.underlying22 (by kernel_rfl) (by decide) fun _=>rfl
theorem ahY:jN an2 286 dK:=lX (gF (n:=7) (aX (n:=1) A3 rfl (by kernel_rfl) (fun _=>rfl) (aX (n:=1) A3 rfl (by kernel_rfl) (fun _=>rfl) (aX (n:=1) A3 rfl (by kernel_rfl) (fun _=>rfl) (aX (n:=1) A3 rfl (by kernel_rfl) (fun _=>rfl) (aX (n:=1) Nm rfl (by kernel_rfl) (fun _=>rfl) (aX (n:=1) YE rfl (by kernel_rfl) (fun _=>rfl) (aX (n:=1) YE rfl (by kernel_rfl) (fun _=>rfl) iH))))))) Tryz.underlying286 (by kernel_rfl) fun _=>rfl) (fun p:Int×Int×Int×Int×Bool×List Int×List Int×Unit=>⟨p.1,p.2.1,p.2.2.1,p.2.2.2.1,p.2.2.2.2.1,p.2.2.2.2.2.1,p.2.2.2.2.2.2.1⟩) (fun _=>rfl)
theorem ag4:jN an2 201 mW:=kO (n:=7) ahY Tryz.underlying201 (by kernel_rfl) (by decide) fun _=>rfl
theorem aeI:jN an2 24 fun l:List (List Req)=>[.isl (l.map mW)]:=kO (n:=1) ag4 Tryz.underlying24 (by kernel_rfl) (by decide) fun _=>rfl
theorem aj7:jN an2 26 cD:=lX (gF (n:=3) (aX (n:=1) afW rfl (by kernel_rfl) (fun _=>rfl) (aX (n:=1) YE rfl (by kernel_rfl) (fun _=>rfl) (aX (n:=1) aeI rfl (by kernel_rfl) (fun _=>rfl) iH))) Tryz.underlying26 (by kernel_rfl) fun _=>rfl) (fun p:List Rng×List Int×List (List Req)×Unit=>⟨p.1,p.2.1,p.2.2.1⟩) (fun _=>rfl)
theorem afY:jN an2 349 eCJ:=lX (gF (n:=3) (aX (n:=1) A3 rfl (by kernel_rfl) (fun _=>rfl) (aX (n:=1) A3 rfl (by kernel_rfl) (fun _=>rfl) (aX (n:=1) A3 rfl (by kernel_rfl) (fun _=>rfl) iH))) Tryz.underlying349 (by kernel_rfl) fun _=>rfl) (fun p:Int×Int×Int×Unit=>⟨p.1,p.2.1,p.2.2.1⟩) (fun _=>rfl)
theorem aeY:jN an2 261 fun l:List eZ=>[.isl (l.map eCJ)]:=kO (n:=3) afY Tryz.underlying261 (by kernel_rfl) (by decide) fun _=>rfl
theorem ad9:jN an2 263 bV:=lX (gF (n:=4) (aX (n:=1) A3 rfl (by kernel_rfl) (fun _=>rfl) (aX (n:=1) YE rfl (by kernel_rfl) (fun _=>rfl) (aX (n:=1) aeY rfl (by kernel_rfl) (fun _=>rfl) (aX (n:=1) A3 rfl (by kernel_rfl) (fun _=>rfl) iH)))) Tryz.underlying263 (by kernel_rfl) fun _=>rfl) (fun p:Int×List Int×List eZ×Int×Unit=>⟨p.1,p.2.1,p.2.2.1,p.2.2.2.1⟩) (fun _=>rfl)
theorem adJ:jN an2 93 fun l:List cJ=>[.isl (l.map bV)]:=kO (n:=4) ad9 Tryz.underlying93 (by kernel_rfl) (by decide) fun _=>rfl
theorem ahW:jN an2 268 nS:=lX (gF (n:=3) (aX (n:=1) A3 rfl (by kernel_rfl) (fun _=>rfl) (aX (n:=1) A3 rfl (by kernel_rfl) (fun _=>rfl) (aX (n:=1) YE rfl (by kernel_rfl) (fun _=>rfl) iH))) Tryz.underlying268 (by kernel_rfl) fun _=>rfl) (fun p:Int×Int×List Int×Unit=>⟨p.1,p.2.1,p.2.2.1⟩) (fun _=>rfl)
theorem aiU:jN an2 270 aP:=lX (gF (n:=5) (aX (n:=1) A3 rfl (by kernel_rfl) (fun _=>rfl) (aX (n:=1) A3 rfl (by kernel_rfl) (fun _=>rfl) (aX (n:=3) ahW rfl (by kernel_rfl) (fun _=>rfl) iH))) Tryz.underlying270 (by kernel_rfl) fun _=>rfl) (fun p:Int×Int×Rsp×Unit=>⟨p.1,p.2.1,p.2.2.1⟩) (fun _=>rfl)
theorem abC:jN an2 95 fun l:List Job=>[.isl (l.map aP)]:=kO (n:=5) aiU Tryz.underlying95 (by kernel_rfl) (by decide) fun _=>rfl
theorem afF:jN an2 266 eV:=lX (gF (n:=3) (aX (n:=1) aeY rfl (by kernel_rfl) (fun _=>rfl) (aX (n:=1) abC rfl (by kernel_rfl) (fun _=>rfl) (aX (n:=1) A3 rfl (by kernel_rfl) (fun _=>rfl) iH))) Tryz.underlying266 (by kernel_rfl) fun _=>rfl) (fun p:List eZ×List Job×Int×Unit=>⟨p.1,p.2.1,p.2.2.1⟩) (fun _=>rfl)
theorem agL:jN an2 94 fun l:List lR=>[.isl (l.map eV)]:=kO (n:=3) afF Tryz.underlying94 (by kernel_rfl) (by decide) fun _=>rfl
theorem aiX:jN an2 90 fun l:List Int=>[.isl (l.map aG)]:=lX (gF (n:=1) (aX (n:=1) YE rfl (by kernel_rfl) (fun _=>rfl) iH) Tryz.underlying90 (by kernel_rfl) fun _=>rfl) (fun p:List Int×Unit=>p.1) (fun _=>rfl)
theorem aiH:jN an2 92 fun p:List Int×List Int=>[.isl (p.1.map aG),.isl (p.2.map aG)]:=lX (gF (n:=2) (aX (n:=1) aiX rfl (by kernel_rfl) (fun _=>rfl) (aX (n:=1) YE rfl (by kernel_rfl) (fun _=>rfl) iH)) Tryz.underlying92 (by kernel_rfl) fun _=>rfl) (fun p:List Int×List Int×Unit=>(p.1,p.2.1)) (fun _=>rfl)
theorem aj4:jN an2 97 dY:=lX (gF (n:=5) (aX (n:=2) aiH rfl (by kernel_rfl) (fun _=>rfl) (aX (n:=1) adJ rfl (by kernel_rfl) (fun _=>rfl) (aX (n:=1) agL rfl (by kernel_rfl) (fun _=>rfl) (aX (n:=1) abC rfl (by kernel_rfl) (fun _=>rfl) iH)))) Tryz.underlying97 (by kernel_rfl) fun _=>rfl) (fun p:(List Int×List Int)×List cJ×List lR×List Job×Unit=>⟨p.1.1,p.1.2,p.2.1,p.2.2.1,p.2.2.2.1⟩) (fun _=>rfl)
theorem ai0:jN an2 98 eIn:=lX (gF (n:=3) (aX (n:=1) Fk rfl (by kernel_rfl) (fun _=>rfl) (aX (n:=1) Fk rfl (by kernel_rfl) (fun _=>rfl) (aX (n:=1) Fk rfl (by kernel_rfl) (fun _=>rfl) iH))) Tryz.underlying98 (by kernel_rfl) fun _=>rfl) (fun p:List Bool×List Bool×List Bool×Unit=>⟨p.1,p.2.1,p.2.2.1⟩) (fun _=>rfl)
theorem aj5:jN an2 27 fun l:List CIn=>[.isl (l.map eIn)]:=kO (n:=3) ai0 Tryz.underlying27 (by kernel_rfl) (by decide) fun _=>rfl
end Go.Proofs.YtlncecohbakleaaGreat
