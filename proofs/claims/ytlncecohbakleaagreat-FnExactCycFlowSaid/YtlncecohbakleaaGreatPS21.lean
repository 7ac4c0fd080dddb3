/- Texts laid together by a program: rules, contracts and the walk that leads to the law. -/
import Derived.Test.YtlncecohbakleaaGreatPS16
import Derived.Deep.Slices
import Derived.Test.YtlncecohbakleaaGreatChecked
import Derived.Test.YtlncecohbakleaaGreatPS17
set_option linter.unusedVariables false
set_option linter.unusedSimpArgs false
set_option linter.unusedSectionVars false
set_option maxRecDepth 100000
set_option maxHeartbeats 8000000
namespace Go.AM
def bFJ:bAT Rsp:=fun H r x F=>∃d1,r=[cI x.id,cI x.code,d1]/\SlS 1 (byQ aJ) H d1 x.data F
end Go.AM
namespace Go.AM
open Go.ChangeShapes Go.WideShapes Go.RowKit
inductive Big:D1->Prop
 |v (x:Value):Big (.v x)
 |isl (rows:List (List D1)) (h1:rows.length<2^63) (h2: ∀r∈rows,∀d∈r,Big d):Big (.isl rows)
theorem Big.len{rows:List (List D1)}(h:Big (.isl rows)):rows.length<2^63:=by cases h;assumption
theorem Big.row{rows:List (List D1)}(h:Big (.isl rows)): ∀r∈rows,∀d∈r,Big d:=by cases h;assumption
def a9N(a:List D1):Prop:=∀d∈a,Big d
structure Opn(w:World)(ds:List D1)(cs:List Value):Prop where
 len:cs.length=ds.length
 at_: ∀(j:Nat) (d:D1),ds[j]?=some d->∃v,cs[j]?=some v/\Imm (fun b=>b<w.heap.size) w d v
 big:a9N ds
structure aZK(P:Program)(t:TypeId){A:Type}(enc:A->List D1):Prop where
 op: ∀{H:Type} {ec:TypeId×Value->H} {w:World} {base:Nat} {spare:Nat->Bool} {held:Bool} {fuel:Nat} {cs:List Value} {x:DataW H×List MemPlace},
  DataW.trod ec P w base spare held fuel t cs=some x->∃a,Opn w (enc a) cs
variable{P:Program}{t:TypeId}
theorem beU(c:P.underlying t=some (.int .i64)):aZK P t aJ:=.mk fun h=>by
 obtain⟨n,rfl,_,_⟩:=DataW.trod_int c h;refine⟨n,rfl,fun j d a=> ?_,fun d b=> ?_⟩
 ·match j with
  |0=>simp only[aJ,List.getElem?_cons_zero,Option.some.injEq] at a;subst a;exact⟨_,rfl,.v _ rfl⟩
  |j+1=>simp[aJ] at a
 ·simp only[aJ,CJ] at b;subst b;exact .v _
theorem beK(e:P.underlying t=some .bool):aZK P t eH:=.mk fun h=>by
 obtain⟨b,rfl,_⟩:=DataW.trod_bool e h;refine⟨b,rfl,fun j d a=> ?_,fun d c=> ?_⟩
 ·match j with
  |0=>simp only[eH,List.getElem?_cons_zero,Option.some.injEq] at a;subst a;exact⟨_,rfl,.v _ rfl⟩
  |j+1=>simp[eH] at a
 ·simp only[eH,CJ] at c;subst c;exact .v _
theorem aZ0{A B:Type}{b:A->List D1}{c:B->List D1}(h:aZK P t b)(f:A->B)(d: ∀a,c (f a)=b a):aZK P t c:=.mk fun e=>by obtain⟨a,g⟩:=h.op e;exact⟨f a,by rw[d];exact g⟩
theorem aZ1{e:TypeId}{A:Type}[Inhabited A]{enc:A->List D1}{n:Nat}(he:aZK P e enc)(W:P.underlying t=some (.slice e))(hc:P.cellsOf e=n)(X:0<n)(hl: ∀a,(enc a).length=n):aZK P t fun l:List A=>[.isl (l.map enc)]:=.mk fun {H ec w base spare held fuel cs x} h=>by
 rcases Deep.open_slice W h with⟨rfl,_⟩|⟨a,len,cap,m,Z,D,Pl,rfl,hb,N,hm,O,_,hi⟩
 ·refine⟨[],rfl,fun j d F=> ?_,fun d u=> ?_⟩
  ·match j with
   |0=>simp only[q0,List.getElem?_cons_zero,Option.some.injEq] at F;subst F;exact⟨_,rfl,.isl [] none 0 1 0 0 (fun _ _=>.int .u8 0) (fun h=>absurd rfl h) (m5 _) (fun i r h=>by simp at h) (fun i j r d h=>by simp at h) (fun i j r d h=>by simp at h)⟩
   |j+1=>simp at F
  ·simp only[q0,CJ] at u;subst u;exact .isl _ (by simp) fun r hr=>by simp at hr
 ·have Y:len<=m:=by rw[O];split<;>omega
  obtain⟨f,V⟩:=Deep.choose_lt (α:=A) (n:=len) (p:=fun i y=>∃C,w.cells? base (a.add (i*n)) n=some C/\Opn w (enc y) C) fun i c=>by obtain⟨C,B,G⟩:=hi i (by omega);rw[hc] at B;obtain⟨y,Q⟩:=he.op G;exact⟨y,C,B,Q⟩
  have J:((List.range len).map f).length=len:=by simp
  have z: ∀(i:Nat) (r:List D1),((List.range len).map f |>.map enc)[i]?=some r->i<len/\r=enc (f i):=fun i r hr=>by rw[bGT,p0] at hr;obtain⟨y,Q,rfl⟩:=m4.1 hr;obtain⟨c,rfl⟩:=m3.1 Q;simp only[List.length_range] at c;exact⟨c,by simp⟩
  obtain⟨b,o,s⟩:=a;have g: ∀i j (d:D1),i<len->(enc (f i))[j]?=some d->∃v,w.cell? ((Addr.mk b o s).add (i*n+j))=some v/\Imm (fun b=>b<w.heap.size) w d v:=fun i j d c u=>by obtain⟨C,B,G⟩:=V i c;obtain⟨_,h3,k9⟩:=World.cells?_some B;obtain⟨v,l1,bOW⟩:=G.at_ j d u;have R:j<n:=(by have:=(m3.1 u).1;rw[hl] at this;exact this);have bO2:=k9 j R;rw[Deep.add_add,l1] at bO2;exact⟨v,bO2,bOW⟩
  have q:0<len->s=none/\b<w.heap.size:=fun h=>by have:(enc (f 0))[0]?=some ((enc (f 0))[0]'(by rw[hl];exact X)):=n1 _;obtain⟨v,B,_⟩:=g 0 0 _ h this;have K:=World.cell?_spot B;have L:=World.block_lt_of_cell? w _ B;simp only[Nat.zero_mul,Nat.add_zero,Addr.add,if_true] at K L;exact⟨K,L⟩
  have E: ∀k,(Addr.mk b o none).add k=⟨b,o+k,none⟩:=fun k=>by
   unfold Addr.add;split;·rename_i h;subst h;simp
   ·simp
  refine⟨(List.range len).map f,rfl,fun j d F=> ?_,fun d u=> ?_⟩
  ·match j with
   |0=>
    simp only[List.getElem?_cons_zero,Option.some.injEq] at F;subst F;have key:=Imm.isl (I:=fun b=>b<w.heap.size) (w:=w) (((List.range len).map f).map enc) (some ⟨b,o,s⟩) cap n b o (fun i j=>(w.cell? ⟨b,o+(i*n+j),none⟩).getD (.bool false)) (fun S=> ?_) (by rw[bqW,J];exact N) (fun i r hr=> ?_) (fun i j r d hr u=> ?_) (fun i j r d hr u=> ?_);·rw[bqW,J] at key;exact⟨_,rfl,key⟩
    ·have M:0<len:=by
      rcases CR len with h|h
      ·subst h;exact absurd (by simp) S
      ·exact h
     obtain⟨rfl,T⟩:=q M
     exact⟨rfl,T⟩
    ·obtain⟨_,rfl⟩:=z i r hr;exact hl _
    ·obtain⟨c,rfl⟩:=z i r hr;obtain⟨v,B,_⟩:=g i j d c u;obtain⟨rfl,_⟩:=q (by omega);rw[E] at B;rw[B];rfl
    ·obtain⟨c,rfl⟩:=z i r hr;obtain⟨v,B,G⟩:=g i j d c u;obtain⟨rfl,_⟩:=q (by omega);rw[E] at B;rw[B];exact G
   |j+1=>simp at F
  ·simp only[CJ] at u;subst u;refine .isl _ (by rw[bqW,J];have:cap<=2^63-1:=hm;omega) fun r hr d u=> ?_;obtain⟨i,U⟩:=bGV.1 hr;obtain⟨c,rfl⟩:=z i r U;obtain⟨_,_,G⟩:=V i c;exact G.big d u
structure bdD(P:Program)(fs:List Field)(lo:Nat){A:Type}(enc:A->List D1):Prop where
 op: ∀{H:Type} {ec:TypeId×Value->H} {w:World} {base:Nat} {spare:Nat->Bool} {held:Bool} {n:Nat} {cs:List Value},
 (∀f∈fs,∃x,DataW.trod ec P w base spare held n f.type ((cs.drop f.offset).take (P.cellsOf f.type))=some x)->∃a,(∀(j:Nat) (d:D1),(enc a)[j]?=some d->∃v,cs[lo+j]?=some v/\Imm (fun b=>b<w.heap.size) w d v)/\a9N (enc a)
theorem z0{lo:Nat}:bdD P [] lo fun _:Unit=>[]:=.mk fun _=>⟨(),fun j d h=>by simp at h,fun d h=>by simp at h⟩
theorem b6{f:Field}{q:List Field}{lo n:Nat}{A B:Type}{k:A->List D1}{r:B->List D1}(t:aZK P f.type k)(u:f.offset=lo)(hc:P.cellsOf f.type=n)(hl: ∀a,(k a).length=n)(y:bdD P q (lo+n) r):bdD P (f::q) lo fun p:A×B=>k p.1++r p.2:=.mk fun {H ec w base spare held m cs} h=>by
 obtain⟨x,z⟩:=h f (by simp);obtain⟨a,s⟩:=t.op z;obtain⟨b,C,l⟩:=y.op fun g D=>h g (bq9 _ D);refine⟨(a,b),fun j d e=> ?_,fun d i=> ?_⟩
 ·dsimp only at e;by_cases o:j<n
  ·rw[brO (by rw[hl];exact o)] at e;obtain⟨v,c,k9⟩:=s.at_ j d e;rw[u,s4,s5] at c;split at c;·exact⟨v,c,k9⟩
   ·cases c
  ·rw[brX (by rw[hl];omega),hl] at e;obtain⟨v,c,k9⟩:=C _ d e;exact⟨v,by rw[<-c];congr 1;omega,k9⟩
 ·rcases o3.1 i with i|i;·exact s.big d i
  ·exact l d i
theorem w0{c:Array Field}{A:Type}{enc:A->List D1}{n:Nat}(h:bdD P c.toList 0 enc)(e:P.underlying t=some (.struct c))(hc:P.cellsOf t=n)(hl: ∀a,(enc a).length=n):aZK P t enc:=.mk fun {H ec w base spare held fuel cs x} g=>by
 obtain⟨xs,m,_,_,k,s,l⟩:=DataW.trod_struct e g
 obtain⟨a,o,p⟩:=h.op (ec:=ec) (w:=w) (base:=base) (spare:=spare) (held:=held) (n:=m) (cs:=cs) fun f q=>by
  obtain⟨i,hi⟩:=bGV.1 q;have b:c[i]?=some f:=by simpa using hi
  have k9:=l i f b;have l1:i<c.size:=(C4.1 b).1;exact⟨_,k9.trans (n1 (by omega))⟩
 exact⟨a,by rw[k,hc,hl],fun j d r=>by simpa using o j d r,p⟩
theorem bdW{c:Cf}{d:D1}{x:Value}(h:Imm c.I c.w d x):Rel c d x:=by
 cases h with
 |v y h=>exact .v _ h
 |isl rows a cap n b o f g e i hc hr=>exact .isl rows a cap n b o f g e i hc hr
 |fQ cells b o f bOV hc hr=>exact .fQ cells b o f bOV hc hr
 |MY x b bOV hw=>exact .MY x b bOV hw
abbrev cf0(w:World):Cf:=⟨fun _=>(0,0),fun _=>False,fun b=>b<w.heap.size,w⟩
variable{spare:Nat->Bool}
theorem bfK{e:Array Field}{A:Type}{enc:A->List D1}{H:Type}{ec:TypeId×Value->H}{w:World}{base:Nat}{held:Bool}{r:Reach}{boW:Nat}{v:Value}{d:DataW H}{p:List MemPlace}
 (h:aZK P t enc) (hs:P.underlying t=some (.struct e)) (f:Value.okWide P w r boW t v) (g:DataW.Trod ec P w base spare held t v d p): ∃a,fD (cf0 w) (boR (enc a)) v/\a9N (enc a):=by
 obtain⟨cs,rfl,_⟩:=okWide_struct hs f
 obtain⟨fuel,j⟩:=g
 obtain⟨a,c⟩:=h.op j
 refine⟨a,⟨cs.toList,by simp,c.len,fun i d u k l=> ?_⟩,c.big⟩
 obtain⟨v,m,k9⟩:=c.at_ i d k
 have b:(Value.agg cs).cells.toList[i]?=some u:=l
 rw[m] at b
 obtain rfl:=Option.some.inj b
 exact bdW k9
theorem bfL{e:TypeId}{A:Type}{enc:A->List D1}{H:Type}{ec:TypeId×Value->H}{w:World}{base:Nat}{held:Bool}{r:Reach}{boW:Nat}{v:Value}{d:DataW H}{p:List MemPlace}
 (h:aZK P t fun l:List A=>[.isl (l.map enc)]) (hs:P.underlying t=some (.slice e)) (g:Value.okWide P w r boW t v) (i:DataW.Trod ec P w base spare held t v d p): ∃l:List A,fD (cf0 w) (dS (l.map enc)) v/\Big (.isl (l.map enc)):=by
 obtain⟨b,len,cap,rfl⟩:=okWide_slice hs g
 obtain⟨fuel,j⟩:=i
 obtain⟨l,hl⟩:=h.op j
 obtain⟨v,f,k9⟩:=hl.at_ 0 _ rfl
 have a:((Value.slice b len cap).cells.toList)[0]?=some (Value.slice b len cap):=rfl
 rw[a] at f
 obtain rfl:=Option.some.inj f
 exact⟨l,(bdW (c:=cf0 w) k9:Rel (cf0 w) _ _),hl.big _ (by simp)⟩
theorem bOT{H:Type}{ec:TypeId×Value->H}{w:World}{base:Nat}{held:Bool}{r:Reach}{boW:Nat}{v:Value}{d:DataW H}{p:List MemPlace}
 (hs:P.underlying t=some (.int .i64)) (b:Value.okWide P w r boW t v) (e:DataW.Trod ec P w base spare held t v d p): ∃n:Int,fD (cf0 w) (boP n) v/\ -2^63<=n/\n<2^63:=by
 obtain⟨n,rfl⟩:=okWide_int hs b
 obtain⟨fuel,f⟩:=e
 obtain⟨m,a,_,g⟩:=DataW.trod_int hs f
 have h:(Value.int .i64 n).cells= #[Value.int .i64 n]:=rfl
 have hm:m=n:=by simp[Value.cells] at a;exact a.symm
 subst hm
 refine⟨m,(bdW (c:=cf0 w) (.v _ rfl):Rel (cf0 w) _ _),?_⟩
 simp only[Lit.wf,q7,decide_eq_true_eq] at g
 have i:IntKind.i64.min= -2^63:=by decide
 have j:IntKind.i64.max=2^63-1:=by decide
 omega
theorem bfJ{f:FuncId}{c:List D}{w:World}{vs:List Value}(h:aB P f c .nil 0 fun m _ _=>m.plain=true/\m=dB true)(hl:vs.length=c.length)(q: ∀(i:Nat) (d:D) (u:Value),c[i]?=some d->vs[i]?=some u->fD (cf0 w) d u):
 Calls P f vs.toArray w fun e n=>e= .returned (.bool true)/\Below w.heap.size w n:=by
 have g: ∀b,¬uG (cf0 w) .nil b:=by rintro b ⟨id,o,h,_⟩;cases h
 have l:St (cf0 w) .nil:=⟨fun id o h=>(by cases h),fun id o h=>(by cases h),fun id o h=>(by cases h),fun id o i j r d h=>(by cases h),fun id s o o' h=>(by cases h),fun id o h=>(by cases h),fun b h=>h⟩
 refine(h.2 (cf0 w) vs l (fun i hi=>hi.elim) hl q).mono ?_
 rintro x n ⟨u,c',r,H',nx',rfl,rfl,v,a,y,z,p,A,rfl⟩
 have hu:u= .bool true:=by simp only[fD,jZ,Rel,bY] at p;cases p;rfl
 subst hu
 exact⟨rfl,a.os,a.tape,a.output,a.size,fun k t=>a.frame k t (g k)⟩
end Go.AM
namespace Go.AM
theorem aTQ.len{s:TSt}(h:aTQ s):bcA (2^21) s:=⟨⟨h.words,h.holds⟩,h.asked,⟨h.wait,fun j a=>h.data j (by simp[a])⟩,⟨h.done,fun j a=>h.data j (by simp[a])⟩,⟨h.told,fun j a=>h.data j (by simp[a])⟩⟩
end Go.AM
namespace Go.Proofs.YtlncecohbakleaaGreat
open Go Go.AM
attribute [local irreducible] aM wv aB vd wvH
section
variable{H:aA}{nx:Nat}{K:bNX}
theorem bzD{l:List Int}(o:l.length<2^21)(h: ∀H' nx' d F,nx<=nx'->SlS 1 (byQ aJ) H' d l F->(∀j,F j->nx<=j/\j<nx')->(∀j,j<nx->H' j=H j)->K (.one (.c d)) H' nx'):bNW p8 [dS (l.map aJ)] H nx K:=by
 have p:l.length<2^21:=o;refine cJ.mk Tryz.func79 (by kernel_rfl) bdX rfl fun Q q=> ?_;unfold a3V;repeat' first|apply bn1<;>(simp only[go_sem])|refine⟨by omega,?_⟩|fail
 refine aM.gP (β:=Nat) (fun u=>en [(4,boP u),(3,.one (.c (.osl 1 (nx+3) 0 l.length l.length))),(0,dS (l.map aJ))]) (fun u H1 bp0=>u<=l.length/\(∃f G,bD5 (byQ aJ) H1 1 (nx+3) l.length (fun _=>[cI 0]) f G l u nx bp0)/\nx+3<bp0/\ ∀j,j<nx->H1 j=H j) (fun u=>l.length-u) 0 ⟨noF,_,by repeat' first|exact bo2|refine xqI rfl rfl ?_|refine xqO (by omega) rfl rfl (by rfl) ?_|fail,aK,bxY _,⟨_,_,bBK (by rw[bC6];exact aA.bH)⟩,by omega,fun j e=>by simp (disch:=omega) only[aA.aC]⟩ ?_;rintro u H1 r s ⟨hu,⟨f,G,boT⟩,g,a⟩ bpQ i;by_cases b:u<l.length
 ·obtain⟨x,k⟩: ∃x,l[u]?=some x:=⟨_,n1 b⟩
  have t:x∈l:=s3 k;have m:l.getD u default=x:=by simp[List.getD,k]
  have v:=boT.blk;have w: ∀f,(rng l.length f)[u]?=some (f u):=fun f=>by6 b;have bqH:f u=[cI 0]:=boT.zero u (m5 _);repeat' first|apply bn1<;>(simp only[go_sem,v,bqH,m,w,byN,byT,byL,byM,boC];try simp (disch:=omega) only[Iw])|apply bn2 (by omega)|refine⟨by omega,?_⟩|fail
  exact i _ _ _ (u+1) noF _ (by omega) (by omega) (by repeat' first|exact bo2|refine xqI rfl rfl ?_|refine xqO (by omega) rfl rfl (by rfl) ?_|fail) aK ⟨by omega,⟨_,_,boT.step (hi':=_) bp1 k (G':=fun _=>False) aA.bH rfl (fun j h=>h.elim) g (by omega) (by omega) fun j z y=>aA.aC y⟩,by omega,fun j e=>(aA.aC (by omega)).trans (a j e)⟩
 ·repeat' first|apply bn1<;>(simp only[go_sem])|apply bn3 (by omega)|fail
  have n:u=l.length:=by omega
  subst n;exact q _ _ _ _ _ (.inr rfl) rfl (h _ _ _ _ (by omega) (boT.done (by omega) (by omega) (m5 _) (m5 _) (fun h=>by rw[h];rfl)) (fun j e=>by omega) a)
variable{w:List Int}
theorem bD7(g:w.length<2^21)(h: ∀H' nx' d F,nx<=nx'->SlS 1 (byQ aJ) H' d w F->(∀j,F j->nx<=j/\j<nx')->(∀j,j<nx->H' j=H j)->K (.one (.agg [d])) H' nx'):bNW a1G [boR [.isl (w.map aJ)]] H nx K:=by
 refine cJ.mk Tryz.func232 (by kernel_rfl) ba7 rfl fun Q i=> ?_;unfold a22;repeat' first| (first|apply bn1|refine bzD g (fun H2 k d F l s1 e f=> ?_))<;>(simp only[go_sem,boC])|fail
 have a:=(f (nx+2) (by omega)).trans aA.bH;have b:=(f (nx+1) (by omega)).trans ((aA.aC (by omega)).trans aA.bH);(try simp only[go_sem,boC,a,b,boC]);repeat' first|apply bn1<;>(simp only[go_sem,boC,a,b,boC])|fail
 exact i _ _ _ _ _ (.inr rfl) (bBC rfl aA.bH rfl) (h _ _ _ F (by omega) (s1.frame bp1 fun j c=>(aA.aC (by have:=e j c;omega)).trans (aA.aC (by have:=e j c;omega))) (fun j c=>by have:=e j c;omega) fun j c=>(aA.aC (by omega)).trans ((aA.aC (by omega)).trans ((f j (by omega)).trans ((aA.aC (by omega)).trans ((aA.aC (by omega)).trans (aA.aC (by omega)))))))
theorem bDA{u:List Int}(l:w.length<2^21)(hc:u.length<2^21)(h: ∀H' nx' d1 d2 bF4 bF5,nx<=nx'->SlS 1 (byQ aJ) H' d1 w bF4->SlS 1 (byQ aJ) H' d2 u bF5->(∀j,bF4 j->nx<=j/\j<nx')->(∀j,bF5 j->nx<=j/\j<nx')->Dis bF4 bF5->(∀j,j<nx->H' j=H j)->K (.one (.agg [d1,d2])) H' nx'):bNW a0K [boR [.isl (w.map aJ),.isl (u.map aJ)]] H nx K:=by
 refine cJ.mk Tryz.func142 (by kernel_rfl) a6S rfl fun Q m=> ?_;unfold a13;repeat' first| (first|apply bn1|refine bD7 l (fun H2 n d1 bF4 o s1 c i=> ?_))<;>(simp only[go_sem,boC])|fail
 have d:=(i nx (by omega)).trans ((aA.aC (by omega)).trans ((aA.aC (by omega)).trans aA.bH));have e:=(i (nx+2) (by omega)).trans aA.bH;have b:=(i (nx+1) (by omega)).trans ((aA.aC (by omega)).trans aA.bH);(try simp only[go_sem,boC,d,b,e,boC]);repeat' first| (first|apply bn1|refine bzD hc (fun t p d2 bF5 q s2 k bpS=> ?_))<;>(simp only[go_sem,boC,d,b,e,boC])|fail
 have f:=(bpS (nx+2) (by omega)).trans aA.bH;have g:=(bpS (nx+1) (by omega)).trans ((aA.aC (by omega)).trans b);(try simp only[go_sem,boC,g,f,boC]);repeat' first|apply bn1<;>(simp only[go_sem,boC,g,f,boC])|fail
 exact m _ _ _ _ _ (.inr rfl) (bBC rfl aA.bH rfl) (h _ _ _ _ bF4 bF5 (by omega) (s1.frame bp1 fun j a=>(aA.aC (by have:=c j a;omega)).trans ((aA.aC (by have:=c j a;omega)).trans ((bpS j (by have:=c j a;omega)).trans (aA.aC (by have:=c j a;omega))))) (s2.frame bp1 fun j a=>(aA.aC (by have:=k j a;omega)).trans (aA.aC (by have:=k j a;omega))) (fun j a=>by have:=c j a;omega) (fun j a=>by have:=k j a;omega) (fun j r s=>by have az9:=c j r;have az2:=k j s;omega)
  fun j a=>(aA.aC (by omega)).trans ((aA.aC (by omega)).trans ((bpS j (by omega)).trans ((aA.aC (by omega)).trans ((i j (by omega)).trans ((aA.aC (by omega)).trans ((aA.aC (by omega)).trans (aA.aC (by omega)))))))))
theorem bKB{l:List Bool}(o:l.length<2^21)(h: ∀H' nx' d F,nx<=nx'->SlS 1 (byQ eH) H' d l F->(∀j,F j->nx<=j/\j<nx')->(∀j,j<nx->H' j=H j)->K (.one (.c d)) H' nx'):bNW bJG [dS (l.map eH)] H nx K:=by
 have p:l.length<2^21:=o;refine cJ.mk Tryz.func146 (by kernel_rfl) bMC rfl fun Q q=> ?_;unfold bJL;repeat' first|apply bn1<;>(simp only[go_sem])|refine⟨by omega,?_⟩|fail
 refine aM.gP (β:=Nat) (fun u=>en [(4,boP u),(3,.one (.c (.osl 1 (nx+3) 0 l.length l.length))),(0,dS (l.map eH))]) (fun u H1 bp0=>u<=l.length/\(∃f G,bD5 (byQ eH) H1 1 (nx+3) l.length (fun _=>[cB false]) f G l u nx bp0)/\nx+3<bp0/\ ∀j,j<nx->H1 j=H j) (fun u=>l.length-u) 0 ⟨noF,_,by repeat' first|exact bo2|refine xqI rfl rfl ?_|refine xqO (by omega) rfl rfl (by rfl) ?_|fail,aK,bxY _,⟨_,_,bBK (by rw[bC6];exact aA.bH)⟩,by omega,fun j e=>by simp (disch:=omega) only[aA.aC]⟩ ?_;rintro u H1 r s ⟨hu,⟨f,G,boT⟩,g,a⟩ bpQ i;by_cases b:u<l.length
 ·obtain⟨x,k⟩: ∃x,l[u]?=some x:=⟨_,n1 b⟩
  have t:x∈l:=s3 k;have m:l.getD u default=x:=by simp[List.getD,k]
  have v:=boT.blk;have w: ∀f,(rng l.length f)[u]?=some (f u):=fun f=>by6 b;have bqH:f u=[cB false]:=boT.zero u (m5 _);repeat' first|apply bn1<;>(simp only[go_sem,v,bqH,m,w,byN,byT,byL,byM,boC];try simp (disch:=omega) only[Iw])|apply bn2 (by omega)|refine⟨by omega,?_⟩|fail
  exact i _ _ _ (u+1) noF _ (by omega) (by omega) (by repeat' first|exact bo2|refine xqI rfl rfl ?_|refine xqO (by omega) rfl rfl (by rfl) ?_|fail) aK ⟨by omega,⟨_,_,boT.step (hi':=_) bp1 k (G':=fun _=>False) aA.bH rfl (fun j h=>h.elim) g (by omega) (by omega) fun j z y=>aA.aC y⟩,by omega,fun j e=>(aA.aC (by omega)).trans (a j e)⟩
 ·repeat' first|apply bn1<;>(simp only[go_sem])|apply bn3 (by omega)|fail
  have n:u=l.length:=by omega
  subst n;exact q _ _ _ _ _ (.inr rfl) rfl (h _ _ _ _ (by omega) (boT.done (by omega) (by omega) (m5 _) (m5 _) (fun h=>by rw[h];rfl)) (fun j e=>by omega) a)
theorem bCX{l:List Rng}(o:l.length<2^21)(h: ∀H' nx' d F,nx<=nx'->SlS 4 (byQ eN) H' d l F->(∀j,F j->nx<=j/\j<nx')->(∀j,j<nx->H' j=H j)->K (.one (.c d)) H' nx'):bNW aZ4 [dS (l.map eN)] H nx K:=by
 have p:l.length<2^21:=o;refine cJ.mk Tryz.func78 (by kernel_rfl) a50 rfl fun Q q=> ?_;unfold a02;repeat' first|apply bn1<;>(simp only[go_sem])|refine⟨by omega,?_⟩|fail
 refine aM.gP (β:=Nat) (fun u=>en [(4,boP u),(3,.one (.c (.osl 4 (nx+3) 0 l.length l.length))),(0,dS (l.map eN))]) (fun u H1 bp0=>u<=l.length/\(∃f G,bD5 (byQ eN) H1 4 (nx+3) l.length (fun _=>[cI 0,cI 0,cI 0,cB false]) f G l u nx bp0)/\nx+3<bp0/\ ∀j,j<nx->H1 j=H j) (fun u=>l.length-u) 0 ⟨noF,_,by repeat' first|exact bo2|refine xqI rfl rfl ?_|refine xqO (by omega) rfl rfl (by rfl) ?_|fail,aK,bxY _,⟨_,_,bBK (by rw[bC6];exact aA.bH)⟩,by omega,fun j e=>by simp (disch:=omega) only[aA.aC]⟩ ?_;rintro u H1 r s ⟨hu,⟨f,G,boT⟩,g,a⟩ bpQ i;by_cases b:u<l.length
 ·obtain⟨x,k⟩: ∃x,l[u]?=some x:=⟨_,n1 b⟩
  have t:x∈l:=s3 k;have m:l.getD u default=x:=by simp[List.getD,k]
  have v:=boT.blk;have w: ∀f,(rng l.length f)[u]?=some (f u):=fun f=>by6 b;have bqH:f u=[cI 0,cI 0,cI 0,cB false]:=boT.zero u (m5 _);repeat' first| (first|apply bn1|apply a8O)<;>(simp only[go_sem,v,bqH,m,w,byN,byT,byL,byM,boC];try simp (disch:=omega) only[Iw])|apply bn2 (by omega)|refine⟨by omega,?_⟩|fail
  exact i _ _ _ (u+1) noF _ (by omega) (by omega) (by repeat' first|exact bo2|refine xqI rfl rfl ?_|refine xqO (by omega) rfl rfl (by rfl) ?_|fail) aK ⟨by omega,⟨_,_,boT.step (hi':=_) bp1 k (G':=fun _=>False) aA.bH rfl (fun j h=>h.elim) g (by omega) (by omega) fun j z y=>aA.aC y⟩,by omega,fun j e=>(aA.aC (by omega)).trans (a j e)⟩
 ·repeat' first|apply bn1<;>(simp only[go_sem])|apply bn3 (by omega)|fail
  have n:u=l.length:=by omega
  subst n;exact q _ _ _ _ _ (.inr rfl) rfl (h _ _ _ _ (by omega) (boT.done (by omega) (by omega) (m5 _) (m5 _) (fun h=>by rw[h];rfl)) (fun j e=>by omega) a)
theorem bKJ{l:List fC}(o:l.length<2^21)(h: ∀H' nx' d F,nx<=nx'->SlS 3 (byQ eCJ) H' d l F->(∀j,F j->nx<=j/\j<nx')->(∀j,j<nx->H' j=H j)->K (.one (.c d)) H' nx'):bNW aZY [dS (l.map eCJ)] H nx K:=by
 have p:l.length<2^21:=o;refine cJ.mk Tryz.func308 (by kernel_rfl) a96 rfl fun Q q=> ?_;unfold a2E;repeat' first|apply bn1<;>(simp only[go_sem])|refine⟨by omega,?_⟩|fail
 refine aM.gP (β:=Nat) (fun u=>en [(4,boP u),(3,.one (.c (.osl 3 (nx+3) 0 l.length l.length))),(0,dS (l.map eCJ))]) (fun u H1 bp0=>u<=l.length/\(∃f G,bD5 (byQ eCJ) H1 3 (nx+3) l.length (fun _=>[cI 0,cI 0,cI 0]) f G l u nx bp0)/\nx+3<bp0/\ ∀j,j<nx->H1 j=H j) (fun u=>l.length-u) 0 ⟨noF,_,by repeat' first|exact bo2|refine xqI rfl rfl ?_|refine xqO (by omega) rfl rfl (by rfl) ?_|fail,aK,bxY _,⟨_,_,bBK (by rw[bC6];exact aA.bH)⟩,by omega,fun j e=>by simp (disch:=omega) only[aA.aC]⟩ ?_;rintro u H1 r s ⟨hu,⟨f,G,boT⟩,g,a⟩ bpQ i;by_cases b:u<l.length
 ·obtain⟨x,k⟩: ∃x,l[u]?=some x:=⟨_,n1 b⟩
  have t:x∈l:=s3 k;have m:l.getD u default=x:=by simp[List.getD,k]
  have v:=boT.blk;have w: ∀f,(rng l.length f)[u]?=some (f u):=fun f=>by6 b;have bqH:f u=[cI 0,cI 0,cI 0]:=boT.zero u (m5 _);repeat' first| (first|apply bn1|apply bcY)<;>(simp only[go_sem,v,bqH,m,w,byN,byT,byL,byM,boC];try simp (disch:=omega) only[Iw])|apply bn2 (by omega)|refine⟨by omega,?_⟩|fail
  exact i _ _ _ (u+1) noF _ (by omega) (by omega) (by repeat' first|exact bo2|refine xqI rfl rfl ?_|refine xqO (by omega) rfl rfl (by rfl) ?_|fail) aK ⟨by omega,⟨_,_,boT.step (hi':=_) bp1 k (G':=fun _=>False) aA.bH rfl (fun j h=>h.elim) g (by omega) (by omega) fun j z y=>aA.aC y⟩,by omega,fun j e=>(aA.aC (by omega)).trans (a j e)⟩
 ·repeat' first|apply bn1<;>(simp only[go_sem])|apply bn3 (by omega)|fail
  have n:u=l.length:=by omega
  subst n;exact q _ _ _ _ _ (.inr rfl) rfl (h _ _ _ _ (by omega) (boT.done (by omega) (by omega) (m5 _) (m5 _) (fun h=>by rw[h];rfl)) (fun j e=>by omega) a)
theorem bD3{x:Req}(t:w3 (2^21) x)(h: ∀H' nx' r F,nx<=nx'->bA3 H' r x F->(∀j,F j->nx<=j/\j<nx')->(∀j,j<nx->H' j=H j)->K (.one (.agg r)) H' nx'):bNW a1D [boR (eB x)] H nx K:=by
 obtain⟨n,o⟩:=t;refine cJ.mk Tryz.func251 (by kernel_rfl) bbL rfl fun Q u=> ?_;unfold a2T;repeat' first| (first|apply bn1|refine bzD (l:=x.data) n (fun H2 v d1 bF4 w s1 d k=> ?_))<;>(simp only[go_sem,boC])|fail
 have b:=(k nx (by omega)).trans ((aA.aC (by omega)).trans ((aA.aC (by omega)).trans aA.bH));have e:=(k (nx+2) (by omega)).trans aA.bH;have c:=(k (nx+1) (by omega)).trans ((aA.aC (by omega)).trans aA.bH);have p: ∀j,j<nx->H2 j=H j:=fun j a=>(k j (by omega)).trans ((aA.aC (by omega)).trans ((aA.aC (by omega)).trans (aA.aC (by omega))));(try simp only[go_sem,boC,b,c,e,boC]);repeat' first| (first|apply bn1|refine bzD (l:=x.g6) o (fun y q d2 bF5 z s2 m bpS=> ?_))<;>(simp only[go_sem,boC,b,c,e,boC])|fail
 have f:=(bpS nx (by omega)).trans ((aA.aC (by omega)).trans b);have g:=(bpS (nx+2) (by omega)).trans aA.bH;have i:=(bpS (nx+1) (by omega)).trans ((aA.aC (by omega)).trans c);have s: ∀j,j<nx->y j=H j:=fun j a=>(bpS j (by omega)).trans ((aA.aC (by omega)).trans (p j a));replace s1:=s1.frame bp1 fun j a=>(bpS j (by have:=d j a;omega)).trans (aA.aC (by have:=d j a;omega));(try simp only[go_sem,boC,f,i,g,boC]);repeat' first|apply bn1<;>(simp only[go_sem,boC,f,i,g,boC])|fail
 exact u _ _ _ _ _ (.inr rfl) (bBC rfl aA.bH rfl) (h _ _ _ (fun j=>nx+3<=j/\j<q) (by omega) ⟨d1,d2,bF4,bF5,rfl,⟨(s1.frame bp1 fun j a=>(aA.aC (by have:=d j a;omega)).trans (aA.aC (by have:=d j a;omega))),(s2.frame bp1 fun j a=>(aA.aC (by have:=m j a;omega)).trans (aA.aC (by have:=m j a;omega))),fun j a=>by have:=d j a;omega,fun j a=>by have:=m j a;omega,fun j A B=>by have az9:=d j A;have az2:=m j B;omega⟩⟩ (fun j a=>by omega) fun j a=>(aA.aC (by omega)).trans ((aA.aC (by omega)).trans (s j a)))
theorem bDN{l:List Req}(t:aZT (w3 (2^21)) (2^21) l)(h: ∀H' nx' d F,nx<=nx'->SlS 7 bA3 H' d l F->(∀j,F j->nx<=j/\j<nx')->(∀j,j<nx->H' j=H j)->K (.one (.c d)) H' nx'):bNW a0S [dS (l.map eB)] H nx K:=by
 have z:l.length<2^21:=t.1;refine cJ.mk Tryz.func170 (by kernel_rfl) a9S rfl fun Q A=> ?_;unfold a17;repeat' first|apply bn1<;>(simp only[go_sem])|refine⟨by omega,?_⟩|fail
 refine aM.gP (β:=Nat) (fun u=>en [(4,boP u),(3,.one (.c (.osl 7 (nx+3) 0 l.length l.length))),(0,dS (l.map eB))]) (fun u H1 bp0=>u<=l.length/\(∃f G,bD5 bA3 H1 7 (nx+3) l.length (fun _=>[cI 0,cI 0,cI 0,cI 0,cB false,.osl 0 0 0 0 0,.osl 0 0 0 0 0]) f G l u nx bp0)/\nx+3<bp0/\ ∀j,j<nx->H1 j=H j) (fun u=>l.length-u) 0 ⟨noF,_,by repeat' first|exact bo2|refine xqI rfl rfl ?_|refine xqO (by omega) rfl rfl (by rfl) ?_|fail,aK,bxY _,⟨_,_,bBK (by rw[bC6];exact aA.bH)⟩,by omega,fun j a=>by simp (disch:=omega) only[aA.aC]⟩ ?_;rintro u H1 B C ⟨hu,⟨f,G,boT⟩,g,b⟩ bpQ i;by_cases e:u<l.length
 ·obtain⟨x,k⟩: ∃x,l[u]?=some x:=⟨_,n1 e⟩
  have m:x∈l:=s3 k;have n:l.getD u default=x:=by simp[List.getD,k]
  have v:=boT.blk;have o: ∀f,(rng l.length f)[u]?=some (f u):=fun f=>by6 e;have bqH:f u=[cI 0,cI 0,cI 0,cI 0,cB false,.osl 0 0 0 0 0,.osl 0 0 0 0 0]:=boT.zero u (m5 _);repeat' first| (first|apply bn1|refine bD3 (t.2 x m) (fun H2 D r F E hr w p=> ?_))<;>(simp only[go_sem,v,bqH,n,o,byN,byT,byL,byM,boC])|apply bn2 (by omega)|refine⟨by omega,?_⟩|fail
  have q:=bAS _ (aA.set H2 (nx+3) ⟨7,l.length,rng l.length (bB4 f u r)⟩) _ _ _ hr fun j a=>aA.aC (by have:=w j a;omega);have I:r.length=7:=(bDM _ _ _ _ hr).2.1▸(bDM _ _ _ _ hr).1;have y:=(p (nx+3) (by omega)).trans v;obtain⟨d1,d2,bF4,bF5,rfl,_⟩:=hr;(try simp only[go_sem,boC,y,bqH,o,byN,byT,byL,byM,boC]);repeat' first|apply bn1<;>(simp only[go_sem,boC,y,bqH,o,byN,byT,byL,byM,boC];try simp (disch:=omega) only[Iw])|fail
  exact i _ _ _ (u+1) noF _ (by omega) (by omega) (by repeat' first|exact bo2|refine xqI rfl rfl ?_|refine xqO (by omega) rfl rfl (by rfl) ?_|fail) aK ⟨by omega,⟨_,_,boT.step (hi':=_) bAS k (G':=F) aA.bH q (fun j h=>by have:=w j h;omega) g (by omega) (by omega) fun j L J=>(aA.aC J).trans (p j (by omega))⟩,by omega,fun j a=>(aA.aC (by omega)).trans ((p j (by omega)).trans (b j a))⟩
 ·repeat' first|apply bn1<;>(simp only[go_sem])|apply bn3 (by omega)|fail
  have s:u=l.length:=by omega
  subst s;exact A _ _ _ _ _ (.inr rfl) rfl (h _ _ _ _ (by omega) (boT.done (by omega) (by omega) (m5 _) (m5 _) (fun h=>by rw[h];rfl)) (fun j a=>by omega) b)
theorem bDE{l:List (List Req)}(r:aZT (aZ7 (2^21)) (2^21) l)(h: ∀H' nx' d F,nx<=nx'->SlS 1 bAW H' d l F->(∀j,F j->nx<=j/\j<nx')->(∀j,j<nx->H' j=H j)->K (.one (.c d)) H' nx'):bNW a0G [dS (l.map jR)] H nx K:=by
 have w:l.length<2^21:=r.1;refine cJ.mk Tryz.func80 (by kernel_rfl) a6U rfl fun Q y=> ?_;unfold a1T;repeat' first|apply bn1<;>(simp only[go_sem])|refine⟨by omega,?_⟩|fail
 refine aM.gP (β:=Nat) (fun u=>en [(4,boP u),(3,.one (.c (.osl 1 (nx+3) 0 l.length l.length))),(0,dS (l.map jR))]) (fun u H1 bp0=>u<=l.length/\(∃f G,bD5 bAW H1 1 (nx+3) l.length (fun _=>[.osl 0 0 0 0 0]) f G l u nx bp0)/\nx+3<bp0/\ ∀j,j<nx->H1 j=H j) (fun u=>l.length-u) 0 ⟨noF,_,by repeat' first|exact bo2|refine xqI rfl rfl ?_|refine xqO (by omega) rfl rfl (by rfl) ?_|fail,aK,bxY _,⟨_,_,bBK (by rw[bC6];exact aA.bH)⟩,by omega,fun j a=>by simp (disch:=omega) only[aA.aC]⟩ ?_;rintro u H1 z A ⟨hu,⟨f,G,boT⟩,g,b⟩ bpQ i;by_cases e:u<l.length
 ·obtain⟨x,k⟩: ∃x,l[u]?=some x:=⟨_,n1 e⟩
  have m:x∈l:=s3 k;have n:l.getD u default=x:=by simp[List.getD,k]
  have s:=boT.blk;have o: ∀f,(rng l.length f)[u]?=some (f u):=fun f=>by6 e;have bqH:f u=[.osl 0 0 0 0 0]:=boT.zero u (m5 _);repeat' first| (first|apply bn1|refine bDN (r.2 x m) (fun H2 B d F C hs t p=> ?_))<;>(simp only[go_sem,s,bqH,n,o,byN,byT,byL,byM,boC])|apply bn2 (by omega)|refine⟨by omega,?_⟩|fail
  have v:=(p (nx+3) (by omega)).trans s;(try simp only[go_sem,boC,v,bqH,o,byN,byT,byL,byM,boC]);repeat' first|apply bn1<;>(simp only[go_sem,boC,v,bqH,o,byN,byT,byL,byM,boC];try simp (disch:=omega) only[Iw])|fail
  exact i _ _ _ (u+1) noF _ (by omega) (by omega) (by repeat' first|exact bo2|refine xqI rfl rfl ?_|refine xqO (by omega) rfl rfl (by rfl) ?_|fail) aK ⟨by omega,⟨_,_,boT.step (hi':=_) bAH k (G':=F) aA.bH ⟨d,rfl,hs.frame bAS fun j a=>aA.aC (by have:=t j a;omega)⟩ (fun j h=>by have:=t j h;omega) g (by omega) (by omega) fun j E D=>(aA.aC D).trans (p j (by omega))⟩,by omega,fun j a=>(aA.aC (by omega)).trans ((p j (by omega)).trans (b j a))⟩
 ·repeat' first|apply bn1<;>(simp only[go_sem])|apply bn3 (by omega)|fail
  have q:u=l.length:=by omega
  subst q;exact y _ _ _ _ _ (.inr rfl) rfl (h _ _ _ _ (by omega) (boT.done (by omega) (by omega) (m5 _) (m5 _) (fun h=>by rw[h];rfl)) (fun j a=>by omega) b)
theorem bD4{x:Cfg}(C:aZW (2^21) x)(h: ∀H' nx' r F,nx<=nx'->bBO H' r x F->(∀j,F j->nx<=j/\j<nx')->(∀j,j<nx->H' j=H j)->K (.one (.agg r)) H' nx'):bNW aZL [boR (cU x)] H nx K:=by
 obtain⟨u,v,w⟩:=C;refine cJ.mk Tryz.func16 (by kernel_rfl) bbW rfl fun Q D=> ?_;unfold a2W;repeat' first| (first|apply bn1|refine bCX (l:=x.map) u (fun H2 E d1 bF4 G s1 b t=> ?_))<;>(simp only[go_sem,boC])|fail
 have c:=(t nx (by omega)).trans ((aA.aC (by omega)).trans ((aA.aC (by omega)).trans aA.bH));have i:=(t (nx+2) (by omega)).trans aA.bH;have d:=(t (nx+1) (by omega)).trans ((aA.aC (by omega)).trans aA.bH);have y: ∀j,j<nx->H2 j=H j:=fun j a=>(t j (by omega)).trans ((aA.aC (by omega)).trans ((aA.aC (by omega)).trans (aA.aC (by omega))));(try simp only[go_sem,boC,c,d,i,boC]);repeat' first| (first|apply bn1|refine bzD (l:=x.lat) v (fun I J d2 bF5 L s2 e bpS=> ?_))<;>(simp only[go_sem,boC,c,d,i,boC])|fail
 have f:=(bpS nx (by omega)).trans ((aA.aC (by omega)).trans c);have k:=(bpS (nx+2) (by omega)).trans aA.bH;have g:=(bpS (nx+1) (by omega)).trans ((aA.aC (by omega)).trans d);have z: ∀j,j<nx->I j=H j:=fun j a=>(bpS j (by omega)).trans ((aA.aC (by omega)).trans (y j a));replace s1:=s1.frame bp1 fun j a=>(bpS j (by have:=b j a;omega)).trans (aA.aC (by have:=b j a;omega));(try simp only[go_sem,boC,f,g,k,boC]);repeat' first| (first|apply bn1|refine bDE (l:=x.cP) w (fun bqL A d3 bF6 M bp7 m bpT=> ?_))<;>(simp only[go_sem,boC,f,g,k,boC])|fail
 have n:=(bpT nx (by omega)).trans ((aA.aC (by omega)).trans f);have o:=(bpT (nx+2) (by omega)).trans aA.bH;have p:=(bpT (nx+1) (by omega)).trans ((aA.aC (by omega)).trans g);have B: ∀j,j<nx->bqL j=H j:=fun j a=>(bpT j (by omega)).trans ((aA.aC (by omega)).trans (z j a));replace s1:=s1.frame bp1 fun j a=>(bpT j (by have:=b j a;omega)).trans (aA.aC (by have:=b j a;omega));replace s2:=s2.frame bp1 fun j a=>(bpT j (by have:=e j a;omega)).trans (aA.aC (by have:=e j a;omega));(try simp only[go_sem,boC,n,p,o,boC]);repeat' first|apply bn1<;>(simp only[go_sem,boC,n,p,o,boC])|fail
 exact D _ _ _ _ _ (.inr rfl) (bBC rfl aA.bH rfl) (h _ _ _ (fun j=>nx+3<=j/\j<A) (by omega) ⟨d1,d2,d3,bF4,bF5,bF6,rfl,⟨(s1.frame bp1 fun j a=>(aA.aC (by have:=b j a;omega)).trans (aA.aC (by have:=b j a;omega))),(s2.frame bp1 fun j a=>(aA.aC (by have:=e j a;omega)).trans (aA.aC (by have:=e j a;omega))),(bp7.frame bAH fun j a=>(aA.aC (by have:=m j a;omega)).trans (aA.aC (by have:=m j a;omega))),fun j a=>by have:=b j a;omega,fun j a=>by have:=e j a;omega,fun j a=>by have:=m j a;omega,fun j q s=>by have az9:=b j q;have az2:=e j s;omega,fun j q s=>by have az9:=b j q;have az2:=m j s;omega,fun j q s=>by have az9:=e j q;have az2:=m j s;omega⟩⟩ (fun j a=>by omega) fun j a=>(aA.aC (by omega)).trans ((aA.aC (by omega)).trans (B j a)))
theorem bD8{x:Rsp}(k:x.data.length<2^21)(h: ∀H' nx' r F,nx<=nx'->bFJ H' r x F->(∀j,F j->nx<=j/\j<nx')->(∀j,j<nx->H' j=H j)->K (.one (.agg r)) H' nx'):bNW a05 [boR (tG x)] H nx K:=by
 have f:x.data.length<2^21:=k;refine cJ.mk Tryz.func309 (by kernel_rfl) bbM rfl fun Q m=> ?_;unfold a25;repeat' first| (first|apply bn1|refine bzD (l:=x.data) f (fun H2 n d1 bF4 o s1 g e=> ?_))<;>(simp only[go_sem,boC])|fail
 have b:=(e nx (by omega)).trans ((aA.aC (by omega)).trans ((aA.aC (by omega)).trans aA.bH));have c:=(e (nx+2) (by omega)).trans aA.bH;have d:=(e (nx+1) (by omega)).trans ((aA.aC (by omega)).trans aA.bH);have i: ∀j,j<nx->H2 j=H j:=fun j a=>(e j (by omega)).trans ((aA.aC (by omega)).trans ((aA.aC (by omega)).trans (aA.aC (by omega))));(try simp only[go_sem,boC,b,d,c,boC]);repeat' first|apply bn1<;>(simp only[go_sem,boC,b,d,c,boC])|fail
 exact m _ _ _ _ _ (.inr rfl) (bBC rfl aA.bH rfl) (h _ _ _ bF4 (by omega) ⟨d1,rfl,(s1.frame bp1 fun j a=>(aA.aC (by have:=g j a;omega)).trans (aA.aC (by have:=g j a;omega)))⟩ (fun j a=>by have:=g j a;omega) fun j a=>(aA.aC (by omega)).trans ((aA.aC (by omega)).trans (i j a)))
theorem bD6{x:Job}(k:e9 (2^21) x)(h: ∀H' nx' r F,nx<=nx'->bzL H' r x F->(∀j,F j->nx<=j/\j<nx')->(∀j,j<nx->H' j=H j)->K (.one (.agg r)) H' nx'):bNW a1H [boR (aS x)] H nx K:=by
 have f:x.rsp.data.length<2^21:=k;refine cJ.mk Tryz.func235 (by kernel_rfl) bbH rfl fun Q l=> ?_;unfold a2Z;repeat' first| (first|apply bn1|refine bD8 (x:=x.rsp) f (fun H2 m r bF4 n hr g e=> ?_))<;>(simp only[go_sem,boC])|fail
 obtain⟨d1,rfl,s1⟩:=hr;have b:=(e nx (by omega)).trans ((aA.aC (by omega)).trans ((aA.aC (by omega)).trans aA.bH));have c:=(e (nx+2) (by omega)).trans aA.bH;have d:=(e (nx+1) (by omega)).trans ((aA.aC (by omega)).trans aA.bH);have i: ∀j,j<nx->H2 j=H j:=fun j a=>(e j (by omega)).trans ((aA.aC (by omega)).trans ((aA.aC (by omega)).trans (aA.aC (by omega))));(try simp only[go_sem,boC,b,d,c,boC]);repeat' first|apply bn1<;>(simp only[go_sem,boC,b,d,c,boC])|fail
 exact l _ _ _ _ _ (.inr rfl) (bBC rfl aA.bH rfl) (h _ _ _ bF4 (by omega) ⟨d1,rfl,(s1.frame bp1 fun j a=>(aA.aC (by have:=g j a;omega)).trans (aA.aC (by have:=g j a;omega)))⟩ (fun j a=>by have:=g j a;omega) fun j a=>(aA.aC (by omega)).trans ((aA.aC (by omega)).trans (i j a)))
theorem bAO{l:List Job}(t:aZT (e9 (2^21)) (2^21) l)(h: ∀H' nx' d F,nx<=nx'->SlS 5 bzL H' d l F->(∀j,F j->nx<=j/\j<nx')->(∀j,j<nx->H' j=H j)->K (.one (.c d)) H' nx'):bNW aZR [dS (l.map aS)] H nx K:=by
 have z:l.length<2^21:=t.1;refine cJ.mk Tryz.func145 (by kernel_rfl) a8J rfl fun Q A=> ?_;unfold a2J;repeat' first|apply bn1<;>(simp only[go_sem])|refine⟨by omega,?_⟩|fail
 refine aM.gP (β:=Nat) (fun u=>en [(4,boP u),(3,.one (.c (.osl 5 (nx+3) 0 l.length l.length))),(0,dS (l.map aS))]) (fun u H1 bp0=>u<=l.length/\(∃f G,bD5 bzL H1 5 (nx+3) l.length (fun _=>[cI 0,cI 0,cI 0,cI 0,.osl 0 0 0 0 0]) f G l u nx bp0)/\nx+3<bp0/\ ∀j,j<nx->H1 j=H j) (fun u=>l.length-u) 0 ⟨noF,_,by repeat' first|exact bo2|refine xqI rfl rfl ?_|refine xqO (by omega) rfl rfl (by rfl) ?_|fail,aK,bxY _,⟨_,_,bBK (by rw[bC6];exact aA.bH)⟩,by omega,fun j a=>by simp (disch:=omega) only[aA.aC]⟩ ?_;rintro u H1 B C ⟨hu,⟨f,G,boT⟩,g,b⟩ bpQ i;by_cases e:u<l.length
 ·obtain⟨x,k⟩: ∃x,l[u]?=some x:=⟨_,n1 e⟩
  have m:x∈l:=s3 k;have n:l.getD u default=x:=by simp[List.getD,k]
  have v:=boT.blk;have o: ∀f,(rng l.length f)[u]?=some (f u):=fun f=>by6 e;have bqH:f u=[cI 0,cI 0,cI 0,cI 0,.osl 0 0 0 0 0]:=boT.zero u (m5 _);repeat' first| (first|apply bn1|refine bD6 (t.2 x m) (fun H2 D r F E hr w p=> ?_))<;>(simp only[go_sem,v,bqH,n,o,byN,byT,byL,byM,boC])|apply bn2 (by omega)|refine⟨by omega,?_⟩|fail
  have q:=byI _ (aA.set H2 (nx+3) ⟨5,l.length,rng l.length (bB4 f u r)⟩) _ _ _ hr fun j a=>aA.aC (by have:=w j a;omega);have I:r.length=5:=(bBI _ _ _ _ hr).2.1▸(bBI _ _ _ _ hr).1;have y:=(p (nx+3) (by omega)).trans v;obtain⟨d1,rfl,_⟩:=hr;(try simp only[go_sem,boC,y,bqH,o,byN,byT,byL,byM,boC]);repeat' first|apply bn1<;>(simp only[go_sem,boC,y,bqH,o,byN,byT,byL,byM,boC];try simp (disch:=omega) only[Iw])|fail
  exact i _ _ _ (u+1) noF _ (by omega) (by omega) (by repeat' first|exact bo2|refine xqI rfl rfl ?_|refine xqO (by omega) rfl rfl (by rfl) ?_|fail) aK ⟨by omega,⟨_,_,boT.step (hi':=_) byI k (G':=F) aA.bH q (fun j h=>by have:=w j h;omega) g (by omega) (by omega) fun j L J=>(aA.aC J).trans (p j (by omega))⟩,by omega,fun j a=>(aA.aC (by omega)).trans ((p j (by omega)).trans (b j a))⟩
 ·repeat' first|apply bn1<;>(simp only[go_sem])|apply bn3 (by omega)|fail
  have s:u=l.length:=by omega
  subst s;exact A _ _ _ _ _ (.inr rfl) rfl (h _ _ _ _ (by omega) (boT.done (by omega) (by omega) (m5 _) (m5 _) (fun h=>by rw[h];rfl)) (fun j a=>by omega) b)
theorem bL1{x:fR}(t:f9 (2^21) x)(h: ∀H' nx' r F,nx<=nx'->bJA H' r x F->(∀j,F j->nx<=j/\j<nx')->(∀j,j<nx->H' j=H j)->K (.one (.agg r)) H' nx'):bNW a0X [boR (cD x)] H nx K:=by
 obtain⟨n,o⟩:=t;refine cJ.mk Tryz.func233 (by kernel_rfl) a9R rfl fun Q u=> ?_;unfold a2A;repeat' first| (first|apply bn1|refine bzD (l:=x.queue) n (fun H2 v d1 bF4 w s1 d k=> ?_))<;>(simp only[go_sem,boC])|fail
 have b:=(k nx (by omega)).trans ((aA.aC (by omega)).trans ((aA.aC (by omega)).trans aA.bH));have e:=(k (nx+2) (by omega)).trans aA.bH;have c:=(k (nx+1) (by omega)).trans ((aA.aC (by omega)).trans aA.bH);have p: ∀j,j<nx->H2 j=H j:=fun j a=>(k j (by omega)).trans ((aA.aC (by omega)).trans ((aA.aC (by omega)).trans (aA.aC (by omega))));(try simp only[go_sem,boC,b,c,e,boC]);repeat' first| (first|apply bn1|refine bKJ (l:=x.out) o (fun y q d2 bF5 z s2 m bpS=> ?_))<;>(simp only[go_sem,boC,b,c,e,boC])|fail
 have f:=(bpS nx (by omega)).trans ((aA.aC (by omega)).trans b);have g:=(bpS (nx+2) (by omega)).trans aA.bH;have i:=(bpS (nx+1) (by omega)).trans ((aA.aC (by omega)).trans c);have s: ∀j,j<nx->y j=H j:=fun j a=>(bpS j (by omega)).trans ((aA.aC (by omega)).trans (p j a));replace s1:=s1.frame bp1 fun j a=>(bpS j (by have:=d j a;omega)).trans (aA.aC (by have:=d j a;omega));(try simp only[go_sem,boC,f,i,g,boC]);repeat' first|apply bn1<;>(simp only[go_sem,boC,f,i,g,boC])|fail
 exact u _ _ _ _ _ (.inr rfl) (bBC rfl aA.bH rfl) (h _ _ _ (fun j=>nx+3<=j/\j<q) (by omega) ⟨d1,d2,bF4,bF5,rfl,⟨(s1.frame bp1 fun j a=>(aA.aC (by have:=d j a;omega)).trans (aA.aC (by have:=d j a;omega))),(s2.frame bp1 fun j a=>(aA.aC (by have:=m j a;omega)).trans (aA.aC (by have:=m j a;omega))),fun j a=>by have:=d j a;omega,fun j a=>by have:=m j a;omega,fun j A B=>by have az9:=d j A;have az2:=m j B;omega⟩⟩ (fun j a=>by omega) fun j a=>(aA.aC (by omega)).trans ((aA.aC (by omega)).trans (s j a)))
theorem bLU{l:List fR}(t:aZT (f9 (2^21)) (2^21) l)(h: ∀H' nx' d F,nx<=nx'->SlS 4 bJA H' d l F->(∀j,F j->nx<=j/\j<nx')->(∀j,j<nx->H' j=H j)->K (.one (.c d)) H' nx'):bNW a0J [dS (l.map cD)] H nx K:=by
 have z:l.length<2^21:=t.1;refine cJ.mk Tryz.func143 (by kernel_rfl) a69 rfl fun Q A=> ?_;unfold a1U;repeat' first|apply bn1<;>(simp only[go_sem])|refine⟨by omega,?_⟩|fail
 refine aM.gP (β:=Nat) (fun u=>en [(4,boP u),(3,.one (.c (.osl 4 (nx+3) 0 l.length l.length))),(0,dS (l.map cD))]) (fun u H1 bp0=>u<=l.length/\(∃f G,bD5 bJA H1 4 (nx+3) l.length (fun _=>[cI 0,.osl 0 0 0 0 0,.osl 0 0 0 0 0,cI 0]) f G l u nx bp0)/\nx+3<bp0/\ ∀j,j<nx->H1 j=H j) (fun u=>l.length-u) 0 ⟨noF,_,by repeat' first|exact bo2|refine xqI rfl rfl ?_|refine xqO (by omega) rfl rfl (by rfl) ?_|fail,aK,bxY _,⟨_,_,bBK (by rw[bC6];exact aA.bH)⟩,by omega,fun j a=>by simp (disch:=omega) only[aA.aC]⟩ ?_;rintro u H1 B C ⟨hu,⟨f,G,boT⟩,g,b⟩ bpQ i;by_cases e:u<l.length
 ·obtain⟨x,k⟩: ∃x,l[u]?=some x:=⟨_,n1 e⟩
  have m:x∈l:=s3 k;have n:l.getD u default=x:=by simp[List.getD,k]
  have v:=boT.blk;have o: ∀f,(rng l.length f)[u]?=some (f u):=fun f=>by6 e;have bqH:f u=[cI 0,.osl 0 0 0 0 0,.osl 0 0 0 0 0,cI 0]:=boT.zero u (m5 _);repeat' first| (first|apply bn1|refine bL1 (t.2 x m) (fun H2 D r F E hr w p=> ?_))<;>(simp only[go_sem,v,bqH,n,o,byN,byT,byL,byM,boC])|apply bn2 (by omega)|refine⟨by omega,?_⟩|fail
  have q:=bIL _ (aA.set H2 (nx+3) ⟨4,l.length,rng l.length (bB4 f u r)⟩) _ _ _ hr fun j a=>aA.aC (by have:=w j a;omega);have I:r.length=4:=(bLS _ _ _ _ hr).2.1▸(bLS _ _ _ _ hr).1;have y:=(p (nx+3) (by omega)).trans v;obtain⟨d1,d2,bF4,bF5,rfl,_⟩:=hr;(try simp only[go_sem,boC,y,bqH,o,byN,byT,byL,byM,boC]);repeat' first|apply bn1<;>(simp only[go_sem,boC,y,bqH,o,byN,byT,byL,byM,boC];try simp (disch:=omega) only[Iw])|fail
  exact i _ _ _ (u+1) noF _ (by omega) (by omega) (by repeat' first|exact bo2|refine xqI rfl rfl ?_|refine xqO (by omega) rfl rfl (by rfl) ?_|fail) aK ⟨by omega,⟨_,_,boT.step (hi':=_) bIL k (G':=F) aA.bH q (fun j h=>by have:=w j h;omega) g (by omega) (by omega) fun j L J=>(aA.aC J).trans (p j (by omega))⟩,by omega,fun j a=>(aA.aC (by omega)).trans ((p j (by omega)).trans (b j a))⟩
 ·repeat' first|apply bn1<;>(simp only[go_sem])|apply bn3 (by omega)|fail
  have s:u=l.length:=by omega
  subst s;exact A _ _ _ _ _ (.inr rfl) rfl (h _ _ _ _ (by omega) (boT.done (by omega) (by omega) (m5 _) (m5 _) (fun h=>by rw[h];rfl)) (fun j a=>by omega) b)
theorem bLV{x:nY}(t:dP (2^21) x)(h: ∀H' nx' r F,nx<=nx'->bIV H' r x F->(∀j,F j->nx<=j/\j<nx')->(∀j,j<nx->H' j=H j)->K (.one (.agg r)) H' nx'):bNW a0F [boR (gF x)] H nx K:=by
 obtain⟨n,o⟩:=t;refine cJ.mk Tryz.func234 (by kernel_rfl) a63 rfl fun Q u=> ?_;unfold a1R;repeat' first| (first|apply bn1|refine bKJ (l:=x.pipe) n (fun H2 v d1 bF4 w s1 d k=> ?_))<;>(simp only[go_sem,boC])|fail
 have b:=(k nx (by omega)).trans ((aA.aC (by omega)).trans ((aA.aC (by omega)).trans aA.bH));have e:=(k (nx+2) (by omega)).trans aA.bH;have c:=(k (nx+1) (by omega)).trans ((aA.aC (by omega)).trans aA.bH);have p: ∀j,j<nx->H2 j=H j:=fun j a=>(k j (by omega)).trans ((aA.aC (by omega)).trans ((aA.aC (by omega)).trans (aA.aC (by omega))));(try simp only[go_sem,boC,b,c,e,boC]);repeat' first| (first|apply bn1|refine bAO (l:=x.done) o (fun y q d2 bF5 z s2 m bpS=> ?_))<;>(simp only[go_sem,boC,b,c,e,boC])|fail
 have f:=(bpS nx (by omega)).trans ((aA.aC (by omega)).trans b);have g:=(bpS (nx+2) (by omega)).trans aA.bH;have i:=(bpS (nx+1) (by omega)).trans ((aA.aC (by omega)).trans c);have s: ∀j,j<nx->y j=H j:=fun j a=>(bpS j (by omega)).trans ((aA.aC (by omega)).trans (p j a));replace s1:=s1.frame bp1 fun j a=>(bpS j (by have:=d j a;omega)).trans (aA.aC (by have:=d j a;omega));(try simp only[go_sem,boC,f,i,g,boC]);repeat' first|apply bn1<;>(simp only[go_sem,boC,f,i,g,boC])|fail
 exact u _ _ _ _ _ (.inr rfl) (bBC rfl aA.bH rfl) (h _ _ _ (fun j=>nx+3<=j/\j<q) (by omega) ⟨d1,d2,bF4,bF5,rfl,⟨(s1.frame bp1 fun j a=>(aA.aC (by have:=d j a;omega)).trans (aA.aC (by have:=d j a;omega))),(s2.frame byI fun j a=>(aA.aC (by have:=m j a;omega)).trans (aA.aC (by have:=m j a;omega))),fun j a=>by have:=d j a;omega,fun j a=>by have:=m j a;omega,fun j A B=>by have az9:=d j A;have az2:=m j B;omega⟩⟩ (fun j a=>by omega) fun j a=>(aA.aC (by omega)).trans ((aA.aC (by omega)).trans (s j a)))
theorem bLR{l:List nY}(t:aZT (dP (2^21)) (2^21) l)(h: ∀H' nx' d F,nx<=nx'->SlS 3 bIV H' d l F->(∀j,F j->nx<=j/\j<nx')->(∀j,j<nx->H' j=H j)->K (.one (.c d)) H' nx'):bNW aZ2 [dS (l.map gF)] H nx K:=by
 have z:l.length<2^21:=t.1;refine cJ.mk Tryz.func144 (by kernel_rfl) a52 rfl fun Q A=> ?_;unfold a0Z;repeat' first|apply bn1<;>(simp only[go_sem])|refine⟨by omega,?_⟩|fail
 refine aM.gP (β:=Nat) (fun u=>en [(4,boP u),(3,.one (.c (.osl 3 (nx+3) 0 l.length l.length))),(0,dS (l.map gF))]) (fun u H1 bp0=>u<=l.length/\(∃f G,bD5 bIV H1 3 (nx+3) l.length (fun _=>[.osl 0 0 0 0 0,.osl 0 0 0 0 0,cI 0]) f G l u nx bp0)/\nx+3<bp0/\ ∀j,j<nx->H1 j=H j) (fun u=>l.length-u) 0 ⟨noF,_,by repeat' first|exact bo2|refine xqI rfl rfl ?_|refine xqO (by omega) rfl rfl (by rfl) ?_|fail,aK,bxY _,⟨_,_,bBK (by rw[bC6];exact aA.bH)⟩,by omega,fun j a=>by simp (disch:=omega) only[aA.aC]⟩ ?_;rintro u H1 B C ⟨hu,⟨f,G,boT⟩,g,b⟩ bpQ i;by_cases e:u<l.length
 ·obtain⟨x,k⟩: ∃x,l[u]?=some x:=⟨_,n1 e⟩
  have m:x∈l:=s3 k;have n:l.getD u default=x:=by simp[List.getD,k]
  have v:=boT.blk;have o: ∀f,(rng l.length f)[u]?=some (f u):=fun f=>by6 e;have bqH:f u=[.osl 0 0 0 0 0,.osl 0 0 0 0 0,cI 0]:=boT.zero u (m5 _);repeat' first| (first|apply bn1|refine bLV (t.2 x m) (fun H2 D r F E hr w p=> ?_))<;>(simp only[go_sem,v,bqH,n,o,byN,byT,byL,byM,boC])|apply bn2 (by omega)|refine⟨by omega,?_⟩|fail
  have q:=bIN _ (aA.set H2 (nx+3) ⟨3,l.length,rng l.length (bB4 f u r)⟩) _ _ _ hr fun j a=>aA.aC (by have:=w j a;omega);have I:r.length=3:=(bK4 _ _ _ _ hr).2.1▸(bK4 _ _ _ _ hr).1;have y:=(p (nx+3) (by omega)).trans v;obtain⟨d1,d2,bF4,bF5,rfl,_⟩:=hr;(try simp only[go_sem,boC,y,bqH,o,byN,byT,byL,byM,boC]);repeat' first|apply bn1<;>(simp only[go_sem,boC,y,bqH,o,byN,byT,byL,byM,boC];try simp (disch:=omega) only[Iw])|fail
  exact i _ _ _ (u+1) noF _ (by omega) (by omega) (by repeat' first|exact bo2|refine xqI rfl rfl ?_|refine xqO (by omega) rfl rfl (by rfl) ?_|fail) aK ⟨by omega,⟨_,_,boT.step (hi':=_) bIN k (G':=F) aA.bH q (fun j h=>by have:=w j h;omega) g (by omega) (by omega) fun j L J=>(aA.aC J).trans (p j (by omega))⟩,by omega,fun j a=>(aA.aC (by omega)).trans ((p j (by omega)).trans (b j a))⟩
 ·repeat' first|apply bn1<;>(simp only[go_sem])|apply bn3 (by omega)|fail
  have s:u=l.length:=by omega
  subst s;exact A _ _ _ _ _ (.inr rfl) rfl (h _ _ _ _ (by omega) (boT.done (by omega) (by omega) (m5 _) (m5 _) (fun h=>by rw[h];rfl)) (fun j a=>by omega) b)
theorem bLC{x:CIn}(C:bJB (2^21) x)(h: ∀H' nx' r F,nx<=nx'->bLP H' r x F->(∀j,F j->nx<=j/\j<nx')->(∀j,j<nx->H' j=H j)->K (.one (.agg r)) H' nx'):bNW bIS [boR (eIn x)] H nx K:=by
 obtain⟨u,v,w⟩:=C;refine cJ.mk Tryz.func56 (by kernel_rfl) bL8 rfl fun Q D=> ?_;unfold bJP;repeat' first| (first|apply bn1|refine bKB (l:=x.ready) u (fun H2 E d1 bF4 G s1 b t=> ?_))<;>(simp only[go_sem,boC])|fail
 have c:=(t nx (by omega)).trans ((aA.aC (by omega)).trans ((aA.aC (by omega)).trans aA.bH));have i:=(t (nx+2) (by omega)).trans aA.bH;have d:=(t (nx+1) (by omega)).trans ((aA.aC (by omega)).trans aA.bH);have y: ∀j,j<nx->H2 j=H j:=fun j a=>(t j (by omega)).trans ((aA.aC (by omega)).trans ((aA.aC (by omega)).trans (aA.aC (by omega))));(try simp only[go_sem,boC,c,d,i,boC]);repeat' first| (first|apply bn1|refine bKB (l:=x.n9) v (fun I J d2 bF5 L s2 e bpS=> ?_))<;>(simp only[go_sem,boC,c,d,i,boC])|fail
 have f:=(bpS nx (by omega)).trans ((aA.aC (by omega)).trans c);have k:=(bpS (nx+2) (by omega)).trans aA.bH;have g:=(bpS (nx+1) (by omega)).trans ((aA.aC (by omega)).trans d);have z: ∀j,j<nx->I j=H j:=fun j a=>(bpS j (by omega)).trans ((aA.aC (by omega)).trans (y j a));replace s1:=s1.frame bp1 fun j a=>(bpS j (by have:=b j a;omega)).trans (aA.aC (by have:=b j a;omega));(try simp only[go_sem,boC,f,g,k,boC]);repeat' first| (first|apply bn1|refine bKB (l:=x.send) w (fun bqL A d3 bF6 M bp7 m bpT=> ?_))<;>(simp only[go_sem,boC,f,g,k,boC])|fail
 have n:=(bpT nx (by omega)).trans ((aA.aC (by omega)).trans f);have o:=(bpT (nx+2) (by omega)).trans aA.bH;have p:=(bpT (nx+1) (by omega)).trans ((aA.aC (by omega)).trans g);have B: ∀j,j<nx->bqL j=H j:=fun j a=>(bpT j (by omega)).trans ((aA.aC (by omega)).trans (z j a));replace s1:=s1.frame bp1 fun j a=>(bpT j (by have:=b j a;omega)).trans (aA.aC (by have:=b j a;omega));replace s2:=s2.frame bp1 fun j a=>(bpT j (by have:=e j a;omega)).trans (aA.aC (by have:=e j a;omega));(try simp only[go_sem,boC,n,p,o,boC]);repeat' first|apply bn1<;>(simp only[go_sem,boC,n,p,o,boC])|fail
 exact D _ _ _ _ _ (.inr rfl) (bBC rfl aA.bH rfl) (h _ _ _ (fun j=>nx+3<=j/\j<A) (by omega) ⟨d1,d2,d3,bF4,bF5,bF6,rfl,⟨(s1.frame bp1 fun j a=>(aA.aC (by have:=b j a;omega)).trans (aA.aC (by have:=b j a;omega))),(s2.frame bp1 fun j a=>(aA.aC (by have:=e j a;omega)).trans (aA.aC (by have:=e j a;omega))),(bp7.frame bp1 fun j a=>(aA.aC (by have:=m j a;omega)).trans (aA.aC (by have:=m j a;omega))),fun j a=>by have:=b j a;omega,fun j a=>by have:=e j a;omega,fun j a=>by have:=m j a;omega,fun j q s=>by have az9:=b j q;have az2:=e j s;omega,fun j q s=>by have az9:=b j q;have az2:=m j s;omega,fun j q s=>by have az9:=e j q;have az2:=m j s;omega⟩⟩ (fun j a=>by omega) fun j a=>(aA.aC (by omega)).trans ((aA.aC (by omega)).trans (B j a)))
theorem bOI{l:List CIn}(t:aZT (bJB (2^21)) (2^21) l)(h: ∀H' nx' d F,nx<=nx'->SlS 3 bLP H' d l F->(∀j,F j->nx<=j/\j<nx')->(∀j,j<nx->H' j=H j)->K (.one (.c d)) H' nx'):bNW bN2 [dS (l.map eIn)] H nx K:=by
 have z:l.length<2^21:=t.1;refine cJ.mk Tryz.func17 (by kernel_rfl) bOC rfl fun Q A=> ?_;unfold bN0;repeat' first|apply bn1<;>(simp only[go_sem])|refine⟨by omega,?_⟩|fail
 refine aM.gP (β:=Nat) (fun u=>en [(4,boP u),(3,.one (.c (.osl 3 (nx+3) 0 l.length l.length))),(0,dS (l.map eIn))]) (fun u H1 bp0=>u<=l.length/\(∃f G,bD5 bLP H1 3 (nx+3) l.length (fun _=>[.osl 0 0 0 0 0,.osl 0 0 0 0 0,.osl 0 0 0 0 0]) f G l u nx bp0)/\nx+3<bp0/\ ∀j,j<nx->H1 j=H j) (fun u=>l.length-u) 0 ⟨noF,_,by repeat' first|exact bo2|refine xqI rfl rfl ?_|refine xqO (by omega) rfl rfl (by rfl) ?_|fail,aK,bxY _,⟨_,_,bBK (by rw[bC6];exact aA.bH)⟩,by omega,fun j a=>by simp (disch:=omega) only[aA.aC]⟩ ?_;rintro u H1 B C ⟨hu,⟨f,G,boT⟩,g,b⟩ bpQ i;by_cases e:u<l.length
 ·obtain⟨x,k⟩: ∃x,l[u]?=some x:=⟨_,n1 e⟩
  have m:x∈l:=s3 k;have n:l.getD u default=x:=by simp[List.getD,k]
  have v:=boT.blk;have o: ∀f,(rng l.length f)[u]?=some (f u):=fun f=>by6 e;have bqH:f u=[.osl 0 0 0 0 0,.osl 0 0 0 0 0,.osl 0 0 0 0 0]:=boT.zero u (m5 _);repeat' first| (first|apply bn1|refine bLC (t.2 x m) (fun H2 D r F E hr w p=> ?_))<;>(simp only[go_sem,v,bqH,n,o,byN,byT,byL,byM,boC])|apply bn2 (by omega)|refine⟨by omega,?_⟩|fail
  have q:=bKN _ (aA.set H2 (nx+3) ⟨3,l.length,rng l.length (bB4 f u r)⟩) _ _ _ hr fun j a=>aA.aC (by have:=w j a;omega);have I:r.length=3:=(bML _ _ _ _ hr).2.1▸(bML _ _ _ _ hr).1;have y:=(p (nx+3) (by omega)).trans v;obtain⟨d1,d2,d3,bF4,bF5,bF6,rfl,_⟩:=hr;(try simp only[go_sem,boC,y,bqH,o,byN,byT,byL,byM,boC]);repeat' first|apply bn1<;>(simp only[go_sem,boC,y,bqH,o,byN,byT,byL,byM,boC];try simp (disch:=omega) only[Iw])|fail
  exact i _ _ _ (u+1) noF _ (by omega) (by omega) (by repeat' first|exact bo2|refine xqI rfl rfl ?_|refine xqO (by omega) rfl rfl (by rfl) ?_|fail) aK ⟨by omega,⟨_,_,boT.step (hi':=_) bKN k (G':=F) aA.bH q (fun j h=>by have:=w j h;omega) g (by omega) (by omega) fun j L J=>(aA.aC J).trans (p j (by omega))⟩,by omega,fun j a=>(aA.aC (by omega)).trans ((p j (by omega)).trans (b j a))⟩
 ·repeat' first|apply bn1<;>(simp only[go_sem])|apply bn3 (by omega)|fail
  have s:u=l.length:=by omega
  subst s;exact A _ _ _ _ _ (.inr rfl) rfl (h _ _ _ _ (by omega) (boT.done (by omega) (by omega) (m5 _) (m5 _) (fun h=>by rw[h];rfl)) (fun j a=>by omega) b)
theorem bKG{x:CSt}(O:w5 (2^21) x)(h: ∀H' nx' r F,nx<=nx'->bIO H' r x F->(∀j,F j->nx<=j/\j<nx')->(∀j,j<nx->H' j=H j)->K (.one (.agg r)) H' nx'):bNW B7 [boR (eI x)] H nx K:=by
 obtain⟨⟨B,C⟩,D,E,G⟩:=O;refine cJ.mk Tryz.func55 (by kernel_rfl) a6V rfl fun Q P=> ?_;unfold a1N;repeat' first| (first|apply bn1|refine bDA (w:=x.words) (u:=x.holds) B C (fun H2 R d1 d2 bF4 bF5 S s1 s2 d e p A=> ?_))<;>(simp only[go_sem,boC])|fail
 have g:=(A nx (by omega)).trans ((aA.aC (by omega)).trans ((aA.aC (by omega)).trans aA.bH));have q:=(A (nx+2) (by omega)).trans aA.bH;have i:=(A (nx+1) (by omega)).trans ((aA.aC (by omega)).trans aA.bH);have I: ∀j,j<nx->H2 j=H j:=fun j a=>(A j (by omega)).trans ((aA.aC (by omega)).trans ((aA.aC (by omega)).trans (aA.aC (by omega))));(try simp only[go_sem,boC,g,i,q,boC]);repeat' first| (first|apply bn1|refine bLU (l:=x.bM) D (fun T U d3 bF6 V bp7 f bpS=> ?_))<;>(simp only[go_sem,boC,g,i,q,boC])|fail
 have k:=(bpS nx (by omega)).trans ((aA.aC (by omega)).trans g);have s:=(bpS (nx+2) (by omega)).trans aA.bH;have m:=(bpS (nx+1) (by omega)).trans ((aA.aC (by omega)).trans i);have J: ∀j,j<nx->T j=H j:=fun j a=>(bpS j (by omega)).trans ((aA.aC (by omega)).trans (I j a));replace s1:=s1.frame bp1 fun j a=>(bpS j (by have:=d j a;omega)).trans (aA.aC (by have:=d j a;omega));replace s2:=s2.frame bp1 fun j a=>(bpS j (by have:=e j a;omega)).trans (aA.aC (by have:=e j a;omega));(try simp only[go_sem,boC,k,m,s,boC]);repeat' first| (first|apply bn1|refine bLR (l:=x.dD) E (fun bqL W bkS bF7 X bp8 bO4 bpT=> ?_))<;>(simp only[go_sem,boC,k,m,s,boC])|fail
 have n:=(bpT nx (by omega)).trans ((aA.aC (by omega)).trans k);have t:=(bpT (nx+2) (by omega)).trans aA.bH;have o:=(bpT (nx+1) (by omega)).trans ((aA.aC (by omega)).trans m);have L: ∀j,j<nx->bqL j=H j:=fun j a=>(bpT j (by omega)).trans ((aA.aC (by omega)).trans (J j a));replace s1:=s1.frame bp1 fun j a=>(bpT j (by have:=d j a;omega)).trans (aA.aC (by have:=d j a;omega));replace s2:=s2.frame bp1 fun j a=>(bpT j (by have:=e j a;omega)).trans (aA.aC (by have:=e j a;omega));replace bp7:=bp7.frame bIL fun j a=>(bpT j (by have:=f j a;omega)).trans (aA.aC (by have:=f j a;omega));(try simp only[go_sem,boC,n,o,t,boC]);repeat' first| (first|apply bn1|refine bAO (l:=x.told) G (fun aZJ M bk2 bF8 Y bp9 bPU bpU=> ?_))<;>(simp only[go_sem,boC,n,o,t,boC])|fail
 have v:=(bpU nx (by omega)).trans ((aA.aC (by omega)).trans n);have y:=(bpU (nx+2) (by omega)).trans aA.bH;have z:=(bpU (nx+1) (by omega)).trans ((aA.aC (by omega)).trans o);have N: ∀j,j<nx->aZJ j=H j:=fun j a=>(bpU j (by omega)).trans ((aA.aC (by omega)).trans (L j a));replace s1:=s1.frame bp1 fun j a=>(bpU j (by have:=d j a;omega)).trans (aA.aC (by have:=d j a;omega));replace s2:=s2.frame bp1 fun j a=>(bpU j (by have:=e j a;omega)).trans (aA.aC (by have:=e j a;omega));replace bp7:=bp7.frame bIL fun j a=>(bpU j (by have:=f j a;omega)).trans (aA.aC (by have:=f j a;omega));replace bp8:=bp8.frame bIN fun j a=>(bpU j (by have:=bO4 j a;omega)).trans (aA.aC (by have:=bO4 j a;omega));(try simp only[go_sem,boC,v,z,y,boC]);repeat' first|apply bn1<;>(simp only[go_sem,boC,v,z,y,boC])|fail
 exact P _ _ _ _ _ (.inr rfl) (bBC rfl aA.bH rfl) (h _ _ _ (fun j=>nx+3<=j/\j<M) (by omega) ⟨d1,d2,d3,bkS,bk2,bF4,bF5,bF6,bF7,bF8,rfl,⟨(s1.frame bp1 fun j a=>(aA.aC (by have:=d j a;omega)).trans (aA.aC (by have:=d j a;omega))),(s2.frame bp1 fun j a=>(aA.aC (by have:=e j a;omega)).trans (aA.aC (by have:=e j a;omega))),(bp7.frame bIL fun j a=>(aA.aC (by have:=f j a;omega)).trans (aA.aC (by have:=f j a;omega))),(bp8.frame bIN fun j a=>(aA.aC (by have:=bO4 j a;omega)).trans (aA.aC (by have:=bO4 j a;omega))),(bp9.frame byI fun j a=>(aA.aC (by have:=bPU j a;omega)).trans (aA.aC (by have:=bPU j a;omega))),fun j a=>by have:=d j a;omega,fun j a=>by have:=e j a;omega,fun j a=>by have:=f j a;omega,fun j a=>by have:=bO4 j a;omega,fun j a=>by have:=bPU j a;omega,p,fun j b c=>by have az9:=d j b;have az2:=f j c;omega,fun j b c=>by have az9:=d j b;have az2:=bO4 j c;omega,fun j b c=>by have az9:=d j b;have az2:=bPU j c;omega,fun j b c=>by have az9:=e j b;have az2:=f j c;omega,fun j b c=>by have az9:=e j b;have az2:=bO4 j c;omega,fun j b c=>by have az9:=e j b;have az2:=bPU j c;omega,fun j b c=>by have az9:=f j b;have az2:=bO4 j c;omega,fun j b c=>by have az9:=f j b;have az2:=bPU j c;omega,fun j b c=>by have az9:=bO4 j b;have az2:=bPU j c;omega⟩⟩ (fun j a=>by omega) fun j a=>(aA.aC (by omega)).trans ((aA.aC (by omega)).trans (N j a)))
variable{a:Int}
theorem aZP{l:List Int}(hl:0<=a/\a<=2^21)(d:l.length<2^63)(h:K (boP (szN a l.length)) H nx):bNW g7 [dS (l.map aJ),boP a] H nx K:=by
 refine aB.pure (args0:=[dS (l.map aJ),boP a]) (R:=fun b=>b=boP (szN a l.length)) ?_ rfl (aI ⟨aE rfl,aE rfl,trivial⟩) (fun r hr=>hr▸h);clear h;refine aN.mk Tryz.func71 (by kernel_rfl) bdH rfl fun Q c=> ?_;unfold a39;repeat' first|apply bn1<;>(simp only[go_sem];try simp (disch:=omega) only[Iw])|refine bnE (fun h=> ?_) fun h=> ?_|fail
 all_goals exact aZ c _ rfl rfl (qA (by unfold szN;split<;>omega))
theorem bKE{l:List Bool}(hl:0<=a/\a<=2^21)(d:l.length<2^63)(h:K (boP (szN a l.length)) H nx):bNW bI3 [dS (l.map eH),boP a] H nx K:=by
 refine aB.pure (args0:=[dS (l.map eH),boP a]) (R:=fun b=>b=boP (szN a l.length)) ?_ rfl (aI ⟨aE rfl,aE rfl,trivial⟩) (fun r hr=>hr▸h);clear h;refine aN.mk Tryz.func141 (by kernel_rfl) bL6 rfl fun Q c=> ?_;unfold bJM;repeat' first|apply bn1<;>(simp only[go_sem];try simp (disch:=omega) only[Iw])|refine bnE (fun h=> ?_) fun h=> ?_|fail
 all_goals exact aZ c _ rfl rfl (qA (by unfold szN;split<;>omega))
theorem a6T{l:List Rng}(hl:0<=a/\a<=2^21)(d:l.length<2^63)(h:K (boP (szN a l.length)) H nx):bNW aZ5 [dS (l.map eN),boP a] H nx K:=by
 refine aB.pure (args0:=[dS (l.map eN),boP a]) (R:=fun b=>b=boP (szN a l.length)) ?_ rfl (aI ⟨aE rfl,aE rfl,trivial⟩) (fun r hr=>hr▸h);clear h;refine aN.mk Tryz.func70 (by kernel_rfl) a57 rfl fun Q c=> ?_;unfold a0Y;repeat' first|apply bn1<;>(simp only[go_sem];try simp (disch:=omega) only[Iw])|refine bnE (fun h=> ?_) fun h=> ?_|fail
 all_goals exact aZ c _ rfl rfl (qA (by unfold szN;split<;>omega))
theorem a45{l:List fC}(hl:0<=a/\a<=2^21)(d:l.length<2^63)(h:K (boP (szN a l.length)) H nx):bNW aZZ [dS (l.map eCJ),boP a] H nx K:=by
 refine aB.pure (args0:=[dS (l.map eCJ),boP a]) (R:=fun b=>b=boP (szN a l.length)) ?_ rfl (aI ⟨aE rfl,aE rfl,trivial⟩) (fun r hr=>hr▸h);clear h;refine aN.mk Tryz.func306 (by kernel_rfl) a9M rfl fun Q c=> ?_;unfold a2N;repeat' first|apply bn1<;>(simp only[go_sem];try simp (disch:=omega) only[Iw])|refine bnE (fun h=> ?_) fun h=> ?_|fail
 all_goals exact aZ c _ rfl rfl (qA (by unfold szN;split<;>omega))
theorem bcM(hl:0<=a/\a<=2^21)(b:w.length<2^63)(h:K (boP (szN a w.length)) H nx):bNW a09 [boR [.isl (w.map aJ)],boP a] H nx K:=by
 refine aB.pure (args0:=[boR [.isl (w.map aJ)],boP a]) (R:=fun c=>c=boP (szN a w.length)) ?_ rfl (aI ⟨aE rfl,aE rfl,trivial⟩) (fun r hr=>hr▸h);clear h;refine aN.mk Tryz.func228 (by kernel_rfl) ba5 rfl fun Q d=> ?_;unfold a2Y;have e:=aZM a w.length;repeat' first| (first|apply bn1|apply aZP hl b)<;>(simp only[go_sem])|refine bnE (fun h=> ?_) fun h=> ?_|fail
 all_goals exact aZ d _ rfl rfl (qA (by omega))
theorem a8R{u:List Int}(hl:0<=a/\a<=2^21)(b:w.length<2^63)(hc:u.length<2^63)(h:K (boP (a3S a w u)) H nx):bNW a0M [boR [.isl (w.map aJ),.isl (u.map aJ)],boP a] H nx K:=by
 refine aB.pure (args0:=[boR [.isl (w.map aJ),.isl (u.map aJ)],boP a]) (R:=fun c=>c=boP (a3S a w u)) ?_ rfl (aI ⟨aE rfl,aE rfl,trivial⟩) (fun r hr=>hr▸h);clear h;refine aN.mk Tryz.func137 (by kernel_rfl) a7C rfl fun Q d=> ?_;unfold a1Q;have e:=aZM a w.length;have f:=aZM (szN a w.length) u.length;repeat' first| (first|apply bn1|apply bcM (w:=w) hl b|apply aZP (l:=u) (by omega) hc)<;>(simp only[go_sem])|refine bnE (fun h=> ?_) fun h=> ?_|fail
 all_goals exact aZ d _ rfl rfl (qA (by unfold a3S;simp only[szT];repeat' first|omega|split))
theorem bc6{x:Req}(hl:0<=a/\a<=2^21)(b:w3 (2^63) x)(h:K (boP (aZU a x)) H nx):bNW a06 [boR (eB x),boP a] H nx K:=by
 refine aB.pure (args0:=[boR (eB x),boP a]) (R:=fun c=>c=boP (aZU a x)) ?_ rfl (aI ⟨aE rfl,aE rfl,trivial⟩) (fun r hr=>hr▸h);clear h;refine aN.mk Tryz.func246 (by kernel_rfl) bb8 rfl fun Q d=> ?_;unfold a26;obtain⟨boW,e⟩:=b;have f:=aZM a x.data.length;have g:=aZM (szN a x.data.length) x.g6.length;repeat' first| (first|apply bn1|apply aZP (l:=x.data) (a:=a) (by omega) boW|apply aZP (l:=x.g6) (a:=szN a x.data.length) (by omega) e)<;>(simp only[go_sem])|refine bnE (fun h=> ?_) fun h=> ?_|fail
 all_goals exact aZ d _ rfl rfl (qA (by unfold aZU;(try simp only[szT]);repeat' first|omega|split))
theorem bbC{l:List Req}(hl:0<=a/\a<=2^21)(j:aZT (w3 (2^63)) (2^63) l)(h:K (boP (w4 a l)) H nx):bNW a0U [dS (l.map eB),boP a] H nx K:=by
 refine aB.pure (args0:=[dS (l.map eB),boP a]) (R:=fun m=>m=boP (w4 a l)) ?_ rfl (aI ⟨aE rfl,aE rfl,trivial⟩) (fun r hr=>hr▸h);clear h;refine aN.mk Tryz.func163 (by kernel_rfl) a9H rfl fun Q c=> ?_;unfold a2D;obtain⟨n,e⟩:=j;by_cases g:a-l.length<0
 case pos=>
  have o:szS aZU a l= -1:=by unfold szS szT szN;rw[if_pos g];rfl
  repeat' first|apply bn1<;>(simp only[go_sem];try simp (disch:=omega) only[Iw])|apply bn2 (by omega)|fail
  all_goals first|exact aZ c _ rfl rfl (congrArg boP o.symm)| (exfalso;omega)
 have boU:szS aZU a l=szF aZU (a-l.length) l:=by unfold szS szT szN;rw[if_neg g,if_neg (by omega)]
 repeat' first|apply bn1<;>(simp only[go_sem];try simp (disch:=omega) only[Iw])|apply bn3 (by omega)|fail
 all_goals try (exfalso;omega)
 refine aM.loop (α:={u:Nat×Int//u.1<=l.length/\(0<=u.2/\u.2<=a)/\szF aZU u.2 (l.drop u.1)=szS aZU a l}) (fun u=>en [(5,boP u.1.1),(1,boP u.1.2),(0,dS (l.map eB))]) (fun _=>.nil) _ (fun u=>l.length-u.1.1) ⟨(0,a-l.length),by dsimp only;omega,by dsimp only;omega,by rw[boU];rfl⟩ (bU (m5 _) (by repeat' first|exact bo2|refine xqI rfl rfl ?_|fail)) ?_;rintro⟨⟨k,d⟩,p,i,he⟩ bpQ f;dsimp only at p i he;by_cases b:k<l.length
 ·have hm:=e _ (cC b);rw[a5L b] at he;generalize q:l.getD k default=x at hm he;have hr:=a6Y d x i.1;repeat' first| (first|apply bn1|apply bc6 (show 0<=d/\d<=2^21 by omega) hm)<;>(simp only[go_sem,q];try simp (disch:=omega) only[Iw])|apply bn2 (by omega)|refine bnE (fun h=> ?_) fun h=> ?_|refine⟨by omega,?_⟩|fail
  ·rw[if_pos (by assumption)] at he;exact aZ c _ rfl rfl (congrArg boP he)
  ·rw[if_neg (by assumption)] at he;refine f _ _ _ ⟨(k+1,aZU d x),by dsimp only;omega,by dsimp only;omega,he⟩ (by omega) (by(try dsimp only);omega) (bU (m5 _) (by dsimp only;repeat' first|exact bo2|refine xqI rfl rfl ?_|fail))
 ·rw[a87 b] at he;repeat' first|apply bn1<;>(simp only[go_sem])|apply bn3 (by omega)|fail
  all_goals exact aZ c _ rfl rfl (congrArg boP he)
theorem a9K{l:List (List Req)}(hl:0<=a/\a<=2^21)(j:aZT (aZ7 (2^63)) (2^63) l)(h:K (boP (szS w4 a l)) H nx):bNW a0C [dS (l.map jR),boP a] H nx K:=by
 refine aB.pure (args0:=[dS (l.map jR),boP a]) (R:=fun m=>m=boP (szS w4 a l)) ?_ rfl (aI ⟨aE rfl,aE rfl,trivial⟩) (fun r hr=>hr▸h);clear h;refine aN.mk Tryz.func72 (by kernel_rfl) a7R rfl fun Q c=> ?_;unfold a1X;obtain⟨n,e⟩:=j;by_cases g:a-l.length<0
 case pos=>
  have o:szS w4 a l= -1:=by unfold szS szT szN;rw[if_pos g];rfl
  repeat' first|apply bn1<;>(simp only[go_sem];try simp (disch:=omega) only[Iw])|apply bn2 (by omega)|fail
  all_goals first|exact aZ c _ rfl rfl (congrArg boP o.symm)| (exfalso;omega)
 have boU:szS w4 a l=szF w4 (a-l.length) l:=by unfold szS szT szN;rw[if_neg g,if_neg (by omega)]
 repeat' first|apply bn1<;>(simp only[go_sem];try simp (disch:=omega) only[Iw])|apply bn3 (by omega)|fail
 all_goals try (exfalso;omega)
 refine aM.loop (α:={u:Nat×Int//u.1<=l.length/\(0<=u.2/\u.2<=a)/\szF w4 u.2 (l.drop u.1)=szS w4 a l}) (fun u=>en [(5,boP u.1.1),(1,boP u.1.2),(0,dS (l.map jR))]) (fun _=>.nil) _ (fun u=>l.length-u.1.1) ⟨(0,a-l.length),by dsimp only;omega,by dsimp only;omega,by rw[boU];rfl⟩ (bU (m5 _) (by repeat' first|exact bo2|refine xqI rfl rfl ?_|fail)) ?_;rintro⟨⟨k,d⟩,p,i,he⟩ bpQ f;dsimp only at p i he;by_cases b:k<l.length
 ·have hm:=e _ (cC b);rw[a5L b] at he;generalize q:l.getD k default=x at hm he;have hr:=a3N d x i.1;repeat' first| (first|apply bn1|apply bbC (show 0<=d/\d<=2^21 by omega) hm)<;>(simp only[go_sem,q];try simp (disch:=omega) only[Iw])|apply bn2 (by omega)|refine bnE (fun h=> ?_) fun h=> ?_|refine⟨by omega,?_⟩|fail
  ·rw[if_pos (by assumption)] at he;exact aZ c _ rfl rfl (congrArg boP he)
  ·rw[if_neg (by assumption)] at he;refine f _ _ _ ⟨(k+1,w4 d x),by dsimp only;omega,by dsimp only;omega,he⟩ (by omega) (by(try dsimp only);omega) (bU (m5 _) (by dsimp only;repeat' first|exact bo2|refine xqI rfl rfl ?_|fail))
 ·rw[a87 b] at he;repeat' first|apply bn1<;>(simp only[go_sem])|apply bn3 (by omega)|fail
  all_goals exact aZ c _ rfl rfl (congrArg boP he)
theorem a3E{x:Cfg}(hl:0<=a/\a<=2^21)(b:aZW (2^63) x)(h:K (boP (aZ9 a x)) H nx):bNW a1J [boR (cU x),boP a] H nx K:=by
 refine aB.pure (args0:=[boR (cU x),boP a]) (R:=fun c=>c=boP (aZ9 a x)) ?_ rfl (aI ⟨aE rfl,aE rfl,trivial⟩) (fun r hr=>hr▸h);clear h;refine aN.mk Tryz.func13 (by kernel_rfl) baB rfl fun Q d=> ?_;unfold a2V;obtain⟨boW,e,f⟩:=b;have g:=aZM a x.map.length;have i:=aZM (szN a x.map.length) x.lat.length;have j:=a4Q a3N (szN (szN a x.map.length) x.lat.length) x.cP;repeat' first| (first|apply bn1|apply a6T (l:=x.map) (a:=a) (by omega) boW|apply aZP (l:=x.lat) (a:=szN a x.map.length) (by omega) e|apply a9K (l:=x.cP) (a:=szN (szN a x.map.length) x.lat.length) (by omega) f)<;>(simp only[go_sem])|refine bnE (fun h=> ?_) fun h=> ?_|fail
 all_goals exact aZ d _ rfl rfl (qA (by unfold aZ9;(try simp only[szT]);repeat' first|omega|split))
theorem baX{x:fR}(hl:0<=a/\a<=2^21)(b:f9 (2^63) x)(h:K (boP (d5 a x)) H nx):bNW a0T [boR (cD x),boP a] H nx K:=by
 refine aB.pure (args0:=[boR (cD x),boP a]) (R:=fun c=>c=boP (d5 a x)) ?_ rfl (aI ⟨aE rfl,aE rfl,trivial⟩) (fun r hr=>hr▸h);clear h;refine aN.mk Tryz.func229 (by kernel_rfl) a9I rfl fun Q d=> ?_;unfold a2I;obtain⟨boW,e⟩:=b;have f:=aZM a x.queue.length;have g:=aZM (szN a x.queue.length) x.out.length;repeat' first| (first|apply bn1|apply aZP (l:=x.queue) (a:=a) (by omega) boW|apply a45 (l:=x.out) (a:=szN a x.queue.length) (by omega) e)<;>(simp only[go_sem])|refine bnE (fun h=> ?_) fun h=> ?_|fail
 all_goals exact aZ d _ rfl rfl (qA (by unfold d5;(try simp only[szT]);repeat' first|omega|split))
theorem a8H{l:List fR}(hl:0<=a/\a<=2^21)(j:aZT (f9 (2^63)) (2^63) l)(h:K (boP (szS d5 a l)) H nx):bNW a0H [dS (l.map cD),boP a] H nx K:=by
 refine aB.pure (args0:=[dS (l.map cD),boP a]) (R:=fun m=>m=boP (szS d5 a l)) ?_ rfl (aI ⟨aE rfl,aE rfl,trivial⟩) (fun r hr=>hr▸h);clear h;refine aN.mk Tryz.func138 (by kernel_rfl) a7M rfl fun Q c=> ?_;unfold a1Y;obtain⟨n,e⟩:=j;by_cases g:a-l.length<0
 case pos=>
  have o:szS d5 a l= -1:=by unfold szS szT szN;rw[if_pos g];rfl
  repeat' first|apply bn1<;>(simp only[go_sem];try simp (disch:=omega) only[Iw])|apply bn2 (by omega)|fail
  all_goals first|exact aZ c _ rfl rfl (congrArg boP o.symm)| (exfalso;omega)
 have boU:szS d5 a l=szF d5 (a-l.length) l:=by unfold szS szT szN;rw[if_neg g,if_neg (by omega)]
 repeat' first|apply bn1<;>(simp only[go_sem];try simp (disch:=omega) only[Iw])|apply bn3 (by omega)|fail
 all_goals try (exfalso;omega)
 refine aM.loop (α:={u:Nat×Int//u.1<=l.length/\(0<=u.2/\u.2<=a)/\szF d5 u.2 (l.drop u.1)=szS d5 a l}) (fun u=>en [(5,boP u.1.1),(1,boP u.1.2),(0,dS (l.map cD))]) (fun _=>.nil) _ (fun u=>l.length-u.1.1) ⟨(0,a-l.length),by dsimp only;omega,by dsimp only;omega,by rw[boU];rfl⟩ (bU (m5 _) (by repeat' first|exact bo2|refine xqI rfl rfl ?_|fail)) ?_;rintro⟨⟨k,d⟩,p,i,he⟩ bpQ f;dsimp only at p i he;by_cases b:k<l.length
 ·have hm:=e _ (cC b);rw[a5L b] at he;generalize q:l.getD k default=x at hm he;have hr:=a3A d x i.1;repeat' first| (first|apply bn1|apply baX (show 0<=d/\d<=2^21 by omega) hm)<;>(simp only[go_sem,q];try simp (disch:=omega) only[Iw])|apply bn2 (by omega)|refine bnE (fun h=> ?_) fun h=> ?_|refine⟨by omega,?_⟩|fail
  ·rw[if_pos (by assumption)] at he;exact aZ c _ rfl rfl (congrArg boP he)
  ·rw[if_neg (by assumption)] at he;refine f _ _ _ ⟨(k+1,d5 d x),by dsimp only;omega,by dsimp only;omega,he⟩ (by omega) (by(try dsimp only);omega) (bU (m5 _) (by dsimp only;repeat' first|exact bo2|refine xqI rfl rfl ?_|fail))
 ·rw[a87 b] at he;repeat' first|apply bn1<;>(simp only[go_sem])|apply bn3 (by omega)|fail
  all_goals exact aZ c _ rfl rfl (congrArg boP he)
theorem bdC{x:Rsp}(hl:0<=a/\a<=2^21)(b:aZV (2^63) x)(h:K (boP (a3W a x)) H nx):bNW a1F [boR (tG x),boP a] H nx K:=by
 refine aB.pure (args0:=[boR (tG x),boP a]) (R:=fun c=>c=boP (a3W a x)) ?_ rfl (aI ⟨aE rfl,aE rfl,trivial⟩) (fun r hr=>hr▸h);clear h;refine aN.mk Tryz.func307 (by kernel_rfl) baY rfl fun Q d=> ?_;unfold a2U;have boW:x.data.length<(2^63):=b;have e:=aZM a x.data.length;repeat' first| (first|apply bn1|apply aZP (l:=x.data) (a:=a) (by omega) boW)<;>(simp only[go_sem])|refine bnE (fun h=> ?_) fun h=> ?_|fail
 all_goals exact aZ d _ rfl rfl (qA (by unfold a3W;(try simp only[szT]);repeat' first|omega|split))
theorem bcG{x:Job}(hl:0<=a/\a<=2^21)(b:e9 (2^63) x)(h:K (boP (KJ a x)) H nx):bNW a1A [boR (aS x),boP a] H nx K:=by
 refine aB.pure (args0:=[boR (aS x),boP a]) (R:=fun c=>c=boP (KJ a x)) ?_ rfl (aI ⟨aE rfl,aE rfl,trivial⟩) (fun r hr=>hr▸h);clear h;refine aN.mk Tryz.func231 (by kernel_rfl) bbZ rfl fun Q d=> ?_;unfold a2S;have boW:aZV (2^63) x.rsp:=b;have e:0<=a->_:=bdM a x.rsp;repeat' first| (first|apply bn1|apply bdC (x:=x.rsp) (a:=a) (by omega) boW)<;>(simp only[go_sem])|refine bnE (fun h=> ?_) fun h=> ?_|fail
 all_goals exact aZ d _ rfl rfl (qA (by unfold KJ;(try simp only[szT]);repeat' first|omega|split))
theorem a5D{l:List Job}(hl:0<=a/\a<=2^21)(j:aZT (e9 (2^63)) (2^63) l)(h:K (boP (szS KJ a l)) H nx):bNW aZS [dS (l.map aS),boP a] H nx K:=by
 refine aB.pure (args0:=[dS (l.map aS),boP a]) (R:=fun m=>m=boP (szS KJ a l)) ?_ rfl (aI ⟨aE rfl,aE rfl,trivial⟩) (fun r hr=>hr▸h);clear h;refine aN.mk Tryz.func140 (by kernel_rfl) a8W rfl fun Q c=> ?_;unfold a2K;obtain⟨n,e⟩:=j;by_cases g:a-l.length<0
 case pos=>
  have o:szS KJ a l= -1:=by unfold szS szT szN;rw[if_pos g];rfl
  repeat' first|apply bn1<;>(simp only[go_sem];try simp (disch:=omega) only[Iw])|apply bn2 (by omega)|fail
  all_goals first|exact aZ c _ rfl rfl (congrArg boP o.symm)| (exfalso;omega)
 have boU:szS KJ a l=szF KJ (a-l.length) l:=by unfold szS szT szN;rw[if_neg g,if_neg (by omega)]
 repeat' first|apply bn1<;>(simp only[go_sem];try simp (disch:=omega) only[Iw])|apply bn3 (by omega)|fail
 all_goals try (exfalso;omega)
 refine aM.loop (α:={u:Nat×Int//u.1<=l.length/\(0<=u.2/\u.2<=a)/\szF KJ u.2 (l.drop u.1)=szS KJ a l}) (fun u=>en [(5,boP u.1.1),(1,boP u.1.2),(0,dS (l.map aS))]) (fun _=>.nil) _ (fun u=>l.length-u.1.1) ⟨(0,a-l.length),by dsimp only;omega,by dsimp only;omega,by rw[boU];rfl⟩ (bU (m5 _) (by repeat' first|exact bo2|refine xqI rfl rfl ?_|fail)) ?_;rintro⟨⟨k,d⟩,p,i,he⟩ bpQ f;dsimp only at p i he;by_cases b:k<l.length
 ·have hm:=e _ (cC b);rw[a5L b] at he;generalize q:l.getD k default=x at hm he;have hr:=a1P d x i.1;repeat' first| (first|apply bn1|apply bcG (show 0<=d/\d<=2^21 by omega) hm)<;>(simp only[go_sem,q];try simp (disch:=omega) only[Iw])|apply bn2 (by omega)|refine bnE (fun h=> ?_) fun h=> ?_|refine⟨by omega,?_⟩|fail
  ·rw[if_pos (by assumption)] at he;exact aZ c _ rfl rfl (congrArg boP he)
  ·rw[if_neg (by assumption)] at he;refine f _ _ _ ⟨(k+1,KJ d x),by dsimp only;omega,by dsimp only;omega,he⟩ (by omega) (by(try dsimp only);omega) (bU (m5 _) (by dsimp only;repeat' first|exact bo2|refine xqI rfl rfl ?_|fail))
 ·rw[a87 b] at he;repeat' first|apply bn1<;>(simp only[go_sem])|apply bn3 (by omega)|fail
  all_goals exact aZ c _ rfl rfl (congrArg boP he)
theorem a9U{x:nY}(hl:0<=a/\a<=2^21)(b:dP (2^63) x)(h:K (boP (d4 a x)) H nx):bNW a0P [boR (gF x),boP a] H nx K:=by
 refine aB.pure (args0:=[boR (gF x),boP a]) (R:=fun c=>c=boP (d4 a x)) ?_ rfl (aI ⟨aE rfl,aE rfl,trivial⟩) (fun r hr=>hr▸h);clear h;refine aN.mk Tryz.func230 (by kernel_rfl) a67 rfl fun Q d=> ?_;unfold a1V;obtain⟨boW,e⟩:=b;have f:=aZM a x.pipe.length;have g:=a4Q a1P (szN a x.pipe.length) x.done;repeat' first| (first|apply bn1|apply a45 (l:=x.pipe) (a:=a) (by omega) boW|apply a5D (l:=x.done) (a:=szN a x.pipe.length) (by omega) e)<;>(simp only[go_sem])|refine bnE (fun h=> ?_) fun h=> ?_|fail
 all_goals exact aZ d _ rfl rfl (qA (by unfold d4;(try simp only[szT]);repeat' first|omega|split))
theorem a6Q{l:List nY}(hl:0<=a/\a<=2^21)(j:aZT (dP (2^63)) (2^63) l)(h:K (boP (szS d4 a l)) H nx):bNW aZ6 [dS (l.map gF),boP a] H nx K:=by
 refine aB.pure (args0:=[dS (l.map gF),boP a]) (R:=fun m=>m=boP (szS d4 a l)) ?_ rfl (aI ⟨aE rfl,aE rfl,trivial⟩) (fun r hr=>hr▸h);clear h;refine aN.mk Tryz.func139 (by kernel_rfl) a5U rfl fun Q c=> ?_;unfold a00;obtain⟨n,e⟩:=j;by_cases g:a-l.length<0
 case pos=>
  have o:szS d4 a l= -1:=by unfold szS szT szN;rw[if_pos g];rfl
  repeat' first|apply bn1<;>(simp only[go_sem];try simp (disch:=omega) only[Iw])|apply bn2 (by omega)|fail
  all_goals first|exact aZ c _ rfl rfl (congrArg boP o.symm)| (exfalso;omega)
 have boU:szS d4 a l=szF d4 (a-l.length) l:=by unfold szS szT szN;rw[if_neg g,if_neg (by omega)]
 repeat' first|apply bn1<;>(simp only[go_sem];try simp (disch:=omega) only[Iw])|apply bn3 (by omega)|fail
 all_goals try (exfalso;omega)
 refine aM.loop (α:={u:Nat×Int//u.1<=l.length/\(0<=u.2/\u.2<=a)/\szF d4 u.2 (l.drop u.1)=szS d4 a l}) (fun u=>en [(5,boP u.1.1),(1,boP u.1.2),(0,dS (l.map gF))]) (fun _=>.nil) _ (fun u=>l.length-u.1.1) ⟨(0,a-l.length),by dsimp only;omega,by dsimp only;omega,by rw[boU];rfl⟩ (bU (m5 _) (by repeat' first|exact bo2|refine xqI rfl rfl ?_|fail)) ?_;rintro⟨⟨k,d⟩,p,i,he⟩ bpQ f;dsimp only at p i he;by_cases b:k<l.length
 ·have hm:=e _ (cC b);rw[a5L b] at he;generalize q:l.getD k default=x at hm he;have hr:=a2H d x i.1;repeat' first| (first|apply bn1|apply a9U (show 0<=d/\d<=2^21 by omega) hm)<;>(simp only[go_sem,q];try simp (disch:=omega) only[Iw])|apply bn2 (by omega)|refine bnE (fun h=> ?_) fun h=> ?_|refine⟨by omega,?_⟩|fail
  ·rw[if_pos (by assumption)] at he;exact aZ c _ rfl rfl (congrArg boP he)
  ·rw[if_neg (by assumption)] at he;refine f _ _ _ ⟨(k+1,d4 d x),by dsimp only;omega,by dsimp only;omega,he⟩ (by omega) (by(try dsimp only);omega) (bU (m5 _) (by dsimp only;repeat' first|exact bo2|refine xqI rfl rfl ?_|fail))
 ·rw[a87 b] at he;repeat' first|apply bn1<;>(simp only[go_sem])|apply bn3 (by omega)|fail
  all_goals exact aZ c _ rfl rfl (congrArg boP he)
theorem a4H{x:CSt}(hl:0<=a/\a<=2^21)(b:w5 (2^63) x)(h:K (boP (a1W a x)) H nx):bNW a0E [boR (eI x),boP a] H nx K:=by
 refine aB.pure (args0:=[boR (eI x),boP a]) (R:=fun c=>c=boP (a1W a x)) ?_ rfl (aI ⟨aE rfl,aE rfl,trivial⟩) (fun r hr=>hr▸h);clear h;refine aN.mk Tryz.func53 (by kernel_rfl) a6N rfl fun Q d=> ?_;unfold a1M;obtain⟨⟨bqH,bqI⟩,e,f,boX⟩:=b;have g:=beG a x.words x.holds;have i:=a4Q a3A (a3S a x.words x.holds) x.bM;have j:=a4Q a2H (szS d5 (a3S a x.words x.holds) x.bM) x.dD;have k:=a4Q a1P (szS d4 (szS d5 (a3S a x.words x.holds) x.bM) x.dD) x.told;repeat' first| (first|apply bn1|apply a8R (w:=x.words) (u:=x.holds) (a:=a) (by omega) bqH bqI|apply a8H (l:=x.bM) (a:=a3S a x.words x.holds) (by omega) e|apply a6Q (l:=x.dD) (a:=szS d5 (a3S a x.words x.holds) x.bM) (by omega) f|apply a5D (l:=x.told) (a:=szS d4 (szS d5 (a3S a x.words x.holds) x.bM) x.dD) (by omega) boX)<;>(simp only[go_sem])|refine bnE (fun h=> ?_) fun h=> ?_|fail
 all_goals exact aZ d _ rfl rfl (qA (by unfold a1W;(try simp only[szT]);repeat' first|omega|split))
theorem bK2{x:CIn}(hl:0<=a/\a<=2^21)(b:bJB (2^63) x)(h:K (boP (bJ9 a x)) H nx):bNW bJU [boR (eIn x),boP a] H nx K:=by
 refine aB.pure (args0:=[boR (eIn x),boP a]) (R:=fun c=>c=boP (bJ9 a x)) ?_ rfl (aI ⟨aE rfl,aE rfl,trivial⟩) (fun r hr=>hr▸h);clear h;refine aN.mk Tryz.func54 (by kernel_rfl) bL9 rfl fun Q d=> ?_;unfold bJO;obtain⟨boW,e,f⟩:=b;have g:=aZM a x.ready.length;have i:=aZM (szN a x.ready.length) x.n9.length;have j:=aZM (szN (szN a x.ready.length) x.n9.length) x.send.length;repeat' first| (first|apply bn1|apply bKE (l:=x.ready) (a:=a) (by omega) boW|apply bKE (l:=x.n9) (a:=szN a x.ready.length) (by omega) e|apply bKE (l:=x.send) (a:=szN (szN a x.ready.length) x.n9.length) (by omega) f)<;>(simp only[go_sem])|refine bnE (fun h=> ?_) fun h=> ?_|fail
 all_goals exact aZ d _ rfl rfl (qA (by unfold bJ9;(try simp only[szT]);repeat' first|omega|split))
theorem bOP{l:List CIn}(hl:0<=a/\a<=2^21)(j:aZT (bJB (2^63)) (2^63) l)(h:K (boP (szS bJ9 a l)) H nx):bNW bN9 [dS (l.map eIn),boP a] H nx K:=by
 refine aB.pure (args0:=[dS (l.map eIn),boP a]) (R:=fun m=>m=boP (szS bJ9 a l)) ?_ rfl (aI ⟨aE rfl,aE rfl,trivial⟩) (fun r hr=>hr▸h);clear h;refine aN.mk Tryz.func14 (by kernel_rfl) bOE rfl fun Q c=> ?_;unfold bNZ;obtain⟨n,e⟩:=j;by_cases g:a-l.length<0
 case pos=>
  have o:szS bJ9 a l= -1:=by unfold szS szT szN;rw[if_pos g];rfl
  repeat' first|apply bn1<;>(simp only[go_sem];try simp (disch:=omega) only[Iw])|apply bn2 (by omega)|fail
  all_goals first|exact aZ c _ rfl rfl (congrArg boP o.symm)| (exfalso;omega)
 have boU:szS bJ9 a l=szF bJ9 (a-l.length) l:=by unfold szS szT szN;rw[if_neg g,if_neg (by omega)]
 repeat' first|apply bn1<;>(simp only[go_sem];try simp (disch:=omega) only[Iw])|apply bn3 (by omega)|fail
 all_goals try (exfalso;omega)
 refine aM.loop (α:={u:Nat×Int//u.1<=l.length/\(0<=u.2/\u.2<=a)/\szF bJ9 u.2 (l.drop u.1)=szS bJ9 a l}) (fun u=>en [(5,boP u.1.1),(1,boP u.1.2),(0,dS (l.map eIn))]) (fun _=>.nil) _ (fun u=>l.length-u.1.1) ⟨(0,a-l.length),by dsimp only;omega,by dsimp only;omega,by rw[boU];rfl⟩ (bU (m5 _) (by repeat' first|exact bo2|refine xqI rfl rfl ?_|fail)) ?_;rintro⟨⟨k,d⟩,p,i,he⟩ bpQ f;dsimp only at p i he;by_cases b:k<l.length
 ·have hm:=e _ (cC b);rw[a5L b] at he;generalize q:l.getD k default=x at hm he;have hr:=bM9 d x i.1;repeat' first| (first|apply bn1|apply bK2 (show 0<=d/\d<=2^21 by omega) hm)<;>(simp only[go_sem,q];try simp (disch:=omega) only[Iw])|apply bn2 (by omega)|refine bnE (fun h=> ?_) fun h=> ?_|refine⟨by omega,?_⟩|fail
  ·rw[if_pos (by assumption)] at he;exact aZ c _ rfl rfl (congrArg boP he)
  ·rw[if_neg (by assumption)] at he;refine f _ _ _ ⟨(k+1,bJ9 d x),by dsimp only;omega,by dsimp only;omega,he⟩ (by omega) (by(try dsimp only);omega) (bU (m5 _) (by dsimp only;repeat' first|exact bo2|refine xqI rfl rfl ?_|fail))
 ·rw[a87 b] at he;repeat' first|apply bn1<;>(simp only[go_sem])|apply bn3 (by omega)|fail
  all_goals exact aZ c _ rfl rfl (congrArg boP he)
end
end Go.Proofs.YtlncecohbakleaaGreat
namespace Go.Proofs.YtlncecohbakleaaGreat
open Go Go.AM Go.Proofs
theorem a2O:aZK bNV 3 aJ:=beU Tryz.underlying3
theorem beY:aZK bNV 4 eH:=beK Tryz.underlying4
theorem a6Z:aZK bNV 23 fun l:List Int=>[.isl (l.map aJ)]:=aZ1 (n:=1) a2O Tryz.underlying23 (by kernel_rfl) (by decide) fun _=>rfl
theorem bMU:aZK bNV 66 fun l:List Bool=>[.isl (l.map eH)]:=aZ1 (n:=1) beY Tryz.underlying66 (by kernel_rfl) (by decide) fun _=>rfl
theorem bfQ:aZK bNV 211 eN:=aZ0 (w0 (n:=4) (b6 (n:=1) a2O rfl (by kernel_rfl) (fun _=>rfl) (b6 (n:=1) a2O rfl (by kernel_rfl) (fun _=>rfl) (b6 (n:=1) a2O rfl (by kernel_rfl) (fun _=>rfl) (b6 (n:=1) beY rfl (by kernel_rfl) (fun _=>rfl) z0)))) Tryz.underlying211 (by kernel_rfl) fun _=>rfl) (fun p:Int×Int×Int×Bool×Unit=>⟨p.1,p.2.1,p.2.2.1,p.2.2.2.1⟩) (fun _=>rfl)
theorem bfF:aZK bNV 22 fun l:List Rng=>[.isl (l.map eN)]:=aZ1 (n:=4) bfQ Tryz.underlying22 (by kernel_rfl) (by decide) fun _=>rfl
theorem bfT:aZK bNV 286 eB:=aZ0 (w0 (n:=7) (b6 (n:=1) a2O rfl (by kernel_rfl) (fun _=>rfl) (b6 (n:=1) a2O rfl (by kernel_rfl) (fun _=>rfl) (b6 (n:=1) a2O rfl (by kernel_rfl) (fun _=>rfl) (b6 (n:=1) a2O rfl (by kernel_rfl) (fun _=>rfl) (b6 (n:=1) beY rfl (by kernel_rfl) (fun _=>rfl) (b6 (n:=1) a6Z rfl (by kernel_rfl) (fun _=>rfl) (b6 (n:=1) a6Z rfl (by kernel_rfl) (fun _=>rfl) z0))))))) Tryz.underlying286 (by kernel_rfl) fun _=>rfl) (fun p:Int×Int×Int×Int×Bool×List Int×List Int×Unit=>⟨p.1,p.2.1,p.2.2.1,p.2.2.2.1,p.2.2.2.2.1,p.2.2.2.2.2.1,p.2.2.2.2.2.2.1⟩) (fun _=>rfl)
theorem bfG:aZK bNV 201 jR:=aZ1 (n:=7) bfT Tryz.underlying201 (by kernel_rfl) (by decide) fun _=>rfl
theorem be7:aZK bNV 24 fun l:List (List Req)=>[.isl (l.map jR)]:=aZ1 (n:=1) bfG Tryz.underlying24 (by kernel_rfl) (by decide) fun _=>rfl
theorem bfW:aZK bNV 26 cU:=aZ0 (w0 (n:=3) (b6 (n:=1) bfF rfl (by kernel_rfl) (fun _=>rfl) (b6 (n:=1) a6Z rfl (by kernel_rfl) (fun _=>rfl) (b6 (n:=1) be7 rfl (by kernel_rfl) (fun _=>rfl) z0))) Tryz.underlying26 (by kernel_rfl) fun _=>rfl) (fun p:List Rng×List Int×List (List Req)×Unit=>⟨p.1,p.2.1,p.2.2.1⟩) (fun _=>rfl)
theorem bfH:aZK bNV 349 eCJ:=aZ0 (w0 (n:=3) (b6 (n:=1) a2O rfl (by kernel_rfl) (fun _=>rfl) (b6 (n:=1) a2O rfl (by kernel_rfl) (fun _=>rfl) (b6 (n:=1) a2O rfl (by kernel_rfl) (fun _=>rfl) z0))) Tryz.underlying349 (by kernel_rfl) fun _=>rfl) (fun p:Int×Int×Int×Unit=>⟨p.1,p.2.1,p.2.2.1⟩) (fun _=>rfl)
theorem bfC:aZK bNV 261 fun l:List fC=>[.isl (l.map eCJ)]:=aZ1 (n:=3) bfH Tryz.underlying261 (by kernel_rfl) (by decide) fun _=>rfl
theorem be6:aZK bNV 263 cD:=aZ0 (w0 (n:=4) (b6 (n:=1) a2O rfl (by kernel_rfl) (fun _=>rfl) (b6 (n:=1) a6Z rfl (by kernel_rfl) (fun _=>rfl) (b6 (n:=1) bfC rfl (by kernel_rfl) (fun _=>rfl) (b6 (n:=1) a2O rfl (by kernel_rfl) (fun _=>rfl) z0)))) Tryz.underlying263 (by kernel_rfl) fun _=>rfl) (fun p:Int×List Int×List fC×Int×Unit=>⟨p.1,p.2.1,p.2.2.1,p.2.2.2.1⟩) (fun _=>rfl)
theorem be5:aZK bNV 93 fun l:List fR=>[.isl (l.map cD)]:=aZ1 (n:=4) be6 Tryz.underlying93 (by kernel_rfl) (by decide) fun _=>rfl
theorem bfR:aZK bNV 268 tG:=aZ0 (w0 (n:=3) (b6 (n:=1) a2O rfl (by kernel_rfl) (fun _=>rfl) (b6 (n:=1) a2O rfl (by kernel_rfl) (fun _=>rfl) (b6 (n:=1) a6Z rfl (by kernel_rfl) (fun _=>rfl) z0))) Tryz.underlying268 (by kernel_rfl) fun _=>rfl) (fun p:Int×Int×List Int×Unit=>⟨p.1,p.2.1,p.2.2.1⟩) (fun _=>rfl)
theorem bfO:aZK bNV 270 aS:=aZ0 (w0 (n:=5) (b6 (n:=1) a2O rfl (by kernel_rfl) (fun _=>rfl) (b6 (n:=1) a2O rfl (by kernel_rfl) (fun _=>rfl) (b6 (n:=3) bfR rfl (by kernel_rfl) (fun _=>rfl) z0))) Tryz.underlying270 (by kernel_rfl) fun _=>rfl) (fun p:Int×Int×Rsp×Unit=>⟨p.1,p.2.1,p.2.2.1⟩) (fun _=>rfl)
theorem beZ:aZK bNV 95 fun l:List Job=>[.isl (l.map aS)]:=aZ1 (n:=5) bfO Tryz.underlying95 (by kernel_rfl) (by decide) fun _=>rfl
theorem bfD:aZK bNV 266 gF:=aZ0 (w0 (n:=3) (b6 (n:=1) bfC rfl (by kernel_rfl) (fun _=>rfl) (b6 (n:=1) beZ rfl (by kernel_rfl) (fun _=>rfl) (b6 (n:=1) a2O rfl (by kernel_rfl) (fun _=>rfl) z0))) Tryz.underlying266 (by kernel_rfl) fun _=>rfl) (fun p:List fC×List Job×Int×Unit=>⟨p.1,p.2.1,p.2.2.1⟩) (fun _=>rfl)
theorem bfI:aZK bNV 94 fun l:List nY=>[.isl (l.map gF)]:=aZ1 (n:=3) bfD Tryz.underlying94 (by kernel_rfl) (by decide) fun _=>rfl
theorem bfS:aZK bNV 90 fun l:List Int=>[.isl (l.map aJ)]:=aZ0 (w0 (n:=1) (b6 (n:=1) a6Z rfl (by kernel_rfl) (fun _=>rfl) z0) Tryz.underlying90 (by kernel_rfl) fun _=>rfl) (fun p:List Int×Unit=>p.1) (fun _=>rfl)
theorem bfP:aZK bNV 92 fun p:List Int×List Int=>[.isl (p.1.map aJ),.isl (p.2.map aJ)]:=aZ0 (w0 (n:=2) (b6 (n:=1) bfS rfl (by kernel_rfl) (fun _=>rfl) (b6 (n:=1) a6Z rfl (by kernel_rfl) (fun _=>rfl) z0)) Tryz.underlying92 (by kernel_rfl) fun _=>rfl) (fun p:List Int×List Int×Unit=>(p.1,p.2.1)) (fun _=>rfl)
theorem bfX:aZK bNV 97 eI:=aZ0 (w0 (n:=5) (b6 (n:=2) bfP rfl (by kernel_rfl) (fun _=>rfl) (b6 (n:=1) be5 rfl (by kernel_rfl) (fun _=>rfl) (b6 (n:=1) bfI rfl (by kernel_rfl) (fun _=>rfl) (b6 (n:=1) beZ rfl (by kernel_rfl) (fun _=>rfl) z0)))) Tryz.underlying97 (by kernel_rfl) fun _=>rfl) (fun p:(List Int×List Int)×List fR×List nY×List Job×Unit=>⟨p.1.1,p.1.2,p.2.1,p.2.2.1,p.2.2.2.1⟩) (fun _=>rfl)
theorem bNP:aZK bNV 98 eIn:=aZ0 (w0 (n:=3) (b6 (n:=1) bMU rfl (by kernel_rfl) (fun _=>rfl) (b6 (n:=1) bMU rfl (by kernel_rfl) (fun _=>rfl) (b6 (n:=1) bMU rfl (by kernel_rfl) (fun _=>rfl) z0))) Tryz.underlying98 (by kernel_rfl) fun _=>rfl) (fun p:List Bool×List Bool×List Bool×Unit=>⟨p.1,p.2.1,p.2.2.1⟩) (fun _=>rfl)
theorem bOU:aZK bNV 27 fun l:List CIn=>[.isl (l.map eIn)]:=aZ1 (n:=3) bNP Tryz.underlying27 (by kernel_rfl) (by decide) fun _=>rfl
end Go.Proofs.YtlncecohbakleaaGreat
namespace Go.Proofs.YtlncecohbakleaaGreat
open Go Go.AM
attribute [local irreducible] aM wv aB vd wvH
section
variable{H:aA}{nx:Nat}{K:bNX}
end
end Go.Proofs.YtlncecohbakleaaGreat
