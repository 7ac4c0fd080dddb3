/- Texts laid together by a program: rules, contracts and the walk that leads to the law. -/
import Derived.Test.YtmccpdapaccnoaaGreatPF19
import Derived.Test.YtmccpdapaccnoaaGreatPF15
import Derived.Test.YtmccpdapaccnoaaGreatPF3
import Derived.Test.YtmccpdapaccnoaaGreatPF17
import Derived.Test.YtmccpdapaccnoaaGreatPF20
import Derived.Test.YtmccpdapaccnoaaGreatPF21
import Derived.Test.YtmccpdapaccnoaaGreatPF22
import Derived.Test.YtmccpdapaccnoaaGreatPF5
import Derived.OpenShut
import Derived.Below
import Derived.Deep.Slices
import Derived.Test.YtmccpdapaccnoaaGreatChecked
set_option linter.unusedVariables false
set_option linter.unusedSimpArgs false
set_option linter.unusedSectionVars false
section
namespace Go.AM
theorem w5.fit {s:CSt} (h:w5 (2^21) s):beL s:=by
 obtain⟨⟨h1,h2⟩,⟨h3,h4⟩,⟨h5,h6⟩,h7,h8⟩:=h
 have hp: ∀k,f9 (2^21) (aF s k):=fun k=>by
  by_cases hk:k<s.bM.length
  ·exact h4 _ (cC hk)
  ·have:aF s k=default:=by unfold aF;simp[List.getD,hk]
   rw[this];exact⟨by decide,by decide⟩
 have hv: ∀k,dP (2^21) (aL s k):=fun k=>by
  by_cases hk:k<s.dD.length
  ·exact h6 _ (cC hk)
  ·have:aL s k=default:=by unfold aL;simp[List.getD,hk]
   rw[this];exact⟨by decide,by decide,fun x hx=>absurd hx (List.not_mem_nil)⟩
 exact⟨h1,h2,h7,h8,h3,h5,hp,fun k=>⟨(hv k).1,(hv k).2.1,(hv k).2.2⟩⟩
theorem bcA.fit {s:TSt} (h:bcA (2^21) s):aTQ s:=by
 obtain⟨⟨h1,h2⟩,h3,⟨h4,h5⟩,⟨h6,h7⟩,h8,h9⟩:=h
 refine⟨h1,h2,h3,h4,h6,h8,fun j hj=> ?_⟩
 simp only[List.mem_append] at hj
 rcases hj with(hj|hj)|hj
 ·exact h5 j hj
 ·exact h7 j hj
 ·exact h9 j hj
end Go.AM
end
section
namespace Go.Proofs.YtmccpdapaccnoaaGreat
open Go Go.AM
set_option maxRecDepth 100000
set_option maxHeartbeats 8000000
section
variable {H : aA} {nx : Nat} {K : D → aA → Nat → Prop}
theorem bgI (c:Cfg) (s:CSt) (hb:aZW (2^63) c) (hs:w5 (2^63) s):aB Tryz.prog bgA [dA (cU c),dA (eI s)] .nil 0 fun rr _ _=>rr.plain=true∧rr=dB true:=by
 refine bgC rfl fun Q hQ=> ?_
 unfold bf8
 have r1:=beN 1048576 c (by omega)
 by_cases h1:aZ9 1048576 c<0
 case pos=>
  repeat' (first| (with_reducible first| (refine hK _ _ _ ?_;clear hK K)| (refine hA ?_;clear hA hB A B)|refine Z1 ?_)| (first| (with_reducible first|refine Y2 fun K hK=> ?_|refine Y3 fun A B hA hB=> ?_)| (refine a3E (x:=c) (a:=1048576) (by omega) hb ?_))<;>(simp only[go_sem,eq_true h1])| ((with_reducible refine Y8 ?_);try simp only[AQ.then,AQ.blk,reduceIte,Nat.reduceEqDiff])|fail)
  all_goals exact aZ hQ _ rfl rfl rfl
 have r2:=beF (aZ9 1048576 c) s (by omega)
 by_cases h2:a1W (aZ9 1048576 c) s<0
 case pos=>
  repeat' (first| (with_reducible first| (refine hK _ _ _ ?_;clear hK K)| (refine hA ?_;clear hA hB A B)| (refine hB ?_;clear hA hB A B)|refine Z1 ?_|refine Z2 ?_)| (first| (with_reducible first|refine Y2 fun K hK=> ?_|refine Y3 fun A B hA hB=> ?_)| (refine a3E (x:=c) (a:=1048576) (by omega) hb ?_)| (refine a4H (x:=s) (a:=aZ9 1048576 c) (by omega) hs ?_))<;>(simp only[go_sem,eq_false h1,eq_true h2])| ((with_reducible refine Y8 ?_);try simp only[AQ.then,AQ.blk,reduceIte,Nat.reduceEqDiff])|fail)
  all_goals exact aZ hQ _ rfl rfl rfl
 have hc:=beC 1048576 c (by omega) (by omega) (by omega)
 have hy:=bdJ (aZ9 1048576 c) s (by omega) (by omega) (by omega)
 repeat' (first| (with_reducible first| (refine hK _ _ _ ?_;clear hK K)| (refine hA ?_;clear hA hB A B)| (refine hB ?_;clear hA hB A B)|refine Z1 ?_|refine Z2 ?_)| (first| (with_reducible first|refine Y2 fun K hK=> ?_|refine Y3 fun A B hA hB=> ?_)| (refine a3E (x:=c) (a:=1048576) (by omega) hb ?_)| (refine a4H (x:=s) (a:=aZ9 1048576 c) (by omega) hs ?_)| (refine bcF hc ?_)| (refine a8Q hy ?_)| (refine bgF hc.fit hy.fit ?_)| (refine bgH hc.fit hy.fit ?_)| (refine bcB hc ?_)| (refine a9P hy ?_))<;>(simp only[go_sem,eq_false h1,eq_false h2])| ((with_reducible refine Y8 ?_);try simp only[AQ.then,AQ.blk,reduceIte,Nat.reduceEqDiff])| ((with_reducible refine Z8 (fun h=> ?_) (fun h=> ?_))<;>try subst h)|fail)
 all_goals first|exact aZ hQ _ rfl rfl rfl| (exfalso;simp_all;done)
end
end Go.Proofs.YtmccpdapaccnoaaGreat
end
section
namespace Go.AM
open Go.RowKit
end Go.AM
end
section
namespace Go.AM
open Go.ChangeShapes Go.WideShapes Go.RowKit
inductive Big:D1→Prop
 |v (x:Value):Big (.v x)
 |isl (rows:List (List D1)) (h1:rows.length<2^63) (h2: ∀r∈rows,∀d∈r,Big d):Big (.isl rows)
theorem Big.len {rows:List (List D1)} (h:Big (.isl rows)):rows.length<2^63:=by cases h;assumption
theorem Big.row {rows:List (List D1)} (h:Big (.isl rows)): ∀r∈rows,∀d∈r,Big d:=by cases h;assumption
def a9N (ds:List D1):Prop:=∀d∈ds,Big d
structure Opn (w:World) (ds:List D1) (cs:List Value):Prop where
 len:cs.length=ds.length
 at_: ∀(j:Nat) (d:D1),ds[j]?=some d→∃v,cs[j]?=some v∧Imm (fun b=>b<w.heap.size) w d v
 big:a9N ds
structure aZK (P:Program) (t:TypeId) {A:Type} (enc:A→List D1):Prop where
 op: ∀{H:Type} {ec:TypeId×Value→H} {w:World} {base:Nat} {spare:Nat→Bool} {held:Bool} {fuel:Nat} {cs:List Value} {x:DataW H×List MemPlace},
  DataW.trod ec P w base spare held fuel t cs=some x→∃a,Opn w (enc a) cs
theorem beU {P:Program} {t:TypeId} (ht:P.underlying t=some (.int .i64)):aZK P t aJ:=.mk fun h=>by
 obtain⟨n,rfl,_,_⟩:=DataW.trod_int ht h
 refine⟨n,rfl,fun j d hj=> ?_,fun d hd=> ?_⟩
 ·match j with
  |0=>simp only[aJ,List.getElem?_cons_zero,Option.some.injEq] at hj;subst hj;exact⟨_,rfl,.v _ rfl⟩
  |j+1=>simp[aJ] at hj
 ·simp only[aJ,List.mem_singleton] at hd;subst hd;exact .v _
theorem beK {P:Program} {t:TypeId} (ht:P.underlying t=some .bool):aZK P t eH:=.mk fun h=>by
 obtain⟨b,rfl,_⟩:=DataW.trod_bool ht h
 refine⟨b,rfl,fun j d hj=> ?_,fun d hd=> ?_⟩
 ·match j with
  |0=>simp only[eH,List.getElem?_cons_zero,Option.some.injEq] at hj;subst hj;exact⟨_,rfl,.v _ rfl⟩
  |j+1=>simp[eH] at hj
 ·simp only[eH,List.mem_singleton] at hd;subst hd;exact .v _
theorem aZ0 {P:Program} {t:TypeId} {A B:Type} {encA:A→List D1} {encB:B→List D1} (h:aZK P t encA) (f:A→B) (hf: ∀a,encB (f a)=encA a):aZK P t encB:=.mk fun hx=>by
 obtain⟨a,ha⟩:=h.op hx
 exact⟨f a,by rw[hf];exact ha⟩
theorem aZ1 {P:Program} {t e:TypeId} {A:Type} [Inhabited A] {enc:A→List D1} {n:Nat} (he:aZK P e enc) (ht:P.underlying t=some (.slice e)) (hc:P.cellsOf e=n) (h0:0<n) (hl: ∀a,(enc a).length=n):aZK P t fun l:List A=>[.isl (l.map enc)]:=.mk fun {H ec w base spare held fuel cs x} h=>by
 rcases Deep.open_slice ht h with⟨rfl,_⟩|⟨a,len,cap,m,n',D,Pl,rfl,hb,hlc,hm,hmm,_,hi⟩
 ·refine⟨[],rfl,fun j d hj=> ?_,fun d hd=> ?_⟩
  ·match j with
   |0=>
    simp only[List.map_nil,List.getElem?_cons_zero,Option.some.injEq] at hj;subst hj
    exact⟨_,rfl,.isl [] none 0 1 0 0 (fun _ _=>.int .u8 0) (fun h=>absurd rfl h) (Nat.le_refl _) (fun i r h=>by simp at h) (fun i j r d h=>by simp at h) (fun i j r d h=>by simp at h)⟩
   |j+1=>simp at hj
  ·simp only[List.map_nil,List.mem_singleton] at hd;subst hd;exact .isl _ (by simp) fun r hr=>by simp at hr
 ·have hlm:len≤m:=by rw[hmm];split<;>omega
  obtain⟨f,hf⟩:=Deep.choose_lt (α:=A) (n:=len) (p:=fun i y=>∃cs',w.cells? base (a.add (i*n)) n=some cs'∧Opn w (enc y) cs') fun i hil=>by
   obtain⟨cs',h1,h2⟩:=hi i (by omega)
   rw[hc] at h1
   obtain⟨y,hy⟩:=he.op h2
   exact⟨y,cs',h1,hy⟩
  have hll:((List.range len).map f).length=len:=by simp
  have hget: ∀(i:Nat) (r:List D1),((List.range len).map f |>.map enc)[i]?=some r→i<len∧r=enc (f i):=fun i r hr=>by
   rw[List.map_map,List.getElem?_map] at hr
   obtain⟨y,hy,rfl⟩:=Option.map_eq_some_iff.1 hr
   obtain⟨hil,rfl⟩:=List.getElem?_eq_some_iff.1 hy
   simp only[List.length_range] at hil
   exact⟨hil,by simp⟩
  obtain⟨b,o,s⟩:=a
  have hcell: ∀i j (d:D1),i<len→(enc (f i))[j]?=some d→∃v,w.cell? ((Addr.mk b o s).add (i*n+j))=some v∧Imm (fun b=>b<w.heap.size) w d v:=fun i j d hil hd=>by
   obtain⟨cs',h1,h2⟩:=hf i hil
   obtain⟨_,h3,h4⟩:=World.cells?_some h1
   obtain⟨v,h5,h6⟩:=h2.at_ j d hd
   have hjn:j<n:=by
    have:=(List.getElem?_eq_some_iff.1 hd).1
    rw[hl] at this;exact this
   have h7:=h4 j hjn
   rw[Deep.add_add,h5] at h7
   exact⟨v,h7,h6⟩
  have hspot:0<len→s=none∧b<w.heap.size:=fun h=>by
   have:(enc (f 0))[0]?=some ((enc (f 0))[0]'(by rw[hl];exact h0)):=List.getElem?_eq_getElem _
   obtain⟨v,h1,_⟩:=hcell 0 0 _ h this
   have hsp:=World.cell?_spot h1
   have hbl:=World.block_lt_of_cell? w _ h1
   simp only[Nat.zero_mul,Nat.add_zero,Addr.add,if_true] at hsp hbl
   exact⟨hsp,hbl⟩
  have hadd: ∀k,(Addr.mk b o none).add k=⟨b,o+k,none⟩:=fun k=>by
   unfold Addr.add
   split
   ·rename_i h;subst h;simp
   ·simp
  refine⟨(List.range len).map f,rfl,fun j d hj=> ?_,fun d hd=> ?_⟩
  ·match j with
   |0=>
    simp only[List.getElem?_cons_zero,Option.some.injEq] at hj;subst hj
    have key:=Imm.isl (I:=fun b=>b<w.heap.size) (w:=w) (((List.range len).map f).map enc) (some ⟨b,o,s⟩) cap n b o (fun i j=>(w.cell? ⟨b,o+(i*n+j),none⟩).getD (.bool false)) (fun hne=> ?_) (by rw[List.length_map,hll];exact hlc) (fun i r hr=> ?_) (fun i j r d hr hd=> ?_) (fun i j r d hr hd=> ?_)
    ·rw[List.length_map,hll] at key
     exact⟨_,rfl,key⟩
    ·have hpos:0<len:=by
      rcases Nat.eq_zero_or_pos len with h|h
      ·subst h;exact absurd (by simp) hne
      ·exact h
     obtain⟨rfl,hb2⟩:=hspot hpos
     exact⟨rfl,hb2⟩
    ·obtain⟨_,rfl⟩:=hget i r hr
     exact hl _
    ·obtain⟨hil,rfl⟩:=hget i r hr
     obtain⟨v,h1,_⟩:=hcell i j d hil hd
     obtain⟨rfl,_⟩:=hspot (by omega)
     rw[hadd] at h1
     rw[h1];rfl
    ·obtain⟨hil,rfl⟩:=hget i r hr
     obtain⟨v,h1,h2⟩:=hcell i j d hil hd
     obtain⟨rfl,_⟩:=hspot (by omega)
     rw[hadd] at h1
     rw[h1];exact h2
   |j+1=>simp at hj
  ·simp only[List.mem_singleton] at hd;subst hd
   refine .isl _ (by rw[List.length_map,hll];have:cap≤2^63-1:=hm;omega) fun r hr d hd=> ?_
   obtain⟨i,hir⟩:=List.mem_iff_getElem?.1 hr
   obtain⟨hil,rfl⟩:=hget i r hir
   obtain⟨_,_,h2⟩:=hf i hil
   exact h2.big d hd
structure bdD (P:Program) (fs:List Field) (lo:Nat) {A:Type} (enc:A→List D1):Prop where
 op: ∀{H:Type} {ec:TypeId×Value→H} {w:World} {base:Nat} {spare:Nat→Bool} {held:Bool} {n:Nat} {cs:List Value},
 (∀f∈fs,∃x,DataW.trod ec P w base spare held n f.type ((cs.drop f.offset).take (P.cellsOf f.type))=some x)→∃a,(∀(j:Nat) (d:D1),(enc a)[j]?=some d→∃v,cs[lo+j]?=some v∧Imm (fun b=>b<w.heap.size) w d v)∧a9N (enc a)
theorem z0 {P:Program} {lo:Nat}:bdD P [] lo fun _:Unit=>[]:=.mk fun _=>⟨(),fun j d h=>by simp at h,fun d h=>by simp at h⟩
theorem b6 {P:Program} {f:Field} {fs:List Field} {lo n:Nat} {A B:Type} {e1:A→List D1} {e2:B→List D1} (h1:aZK P f.type e1) (ho:f.offset=lo) (hc:P.cellsOf f.type=n) (hl: ∀a,(e1 a).length=n) (h2:bdD P fs (lo+n) e2):bdD P (f::fs) lo fun p:A×B=>e1 p.1++e2 p.2:=.mk fun {H ec w base spare held m cs} h=>by
 obtain⟨x,hx⟩:=h f (by simp)
 obtain⟨a,ha⟩:=h1.op hx
 obtain⟨b,hb,hbb⟩:=h2.op fun g hg=>h g (List.mem_cons_of_mem _ hg)
 refine⟨(a,b),fun j d hj=> ?_,fun d hd=> ?_⟩
 ·dsimp only at hj
  by_cases hjn:j<n
  ·rw[List.getElem?_append_left (by rw[hl];exact hjn)] at hj
   obtain⟨v,h3,h4⟩:=ha.at_ j d hj
   rw[ho,List.getElem?_take,List.getElem?_drop] at h3
   split at h3
   ·exact⟨v,h3,h4⟩
   ·cases h3
  ·rw[List.getElem?_append_right (by rw[hl];omega),hl] at hj
   obtain⟨v,h3,h4⟩:=hb _ d hj
   exact⟨v,by rw[←h3];congr 1;omega,h4⟩
 ·rcases List.mem_append.1 hd with hd|hd
  ·exact ha.big d hd
  ·exact hbb d hd
theorem w0 {P:Program} {t:TypeId} {fs:Array Field} {A:Type} {enc:A→List D1} {n:Nat} (h:bdD P fs.toList 0 enc) (ht:P.underlying t=some (.struct fs)) (hc:P.cellsOf t=n) (hl: ∀a,(enc a).length=n):aZK P t enc:=.mk fun {H ec w base spare held fuel cs x} hx=>by
 obtain⟨xs,m,_,_,h1,h2,h3⟩:=DataW.trod_struct ht hx
 obtain⟨a,ha,hb⟩:=h.op (ec:=ec) (w:=w) (base:=base) (spare:=spare) (held:=held) (n:=m) (cs:=cs) fun f hf=>by
  obtain⟨i,hi⟩:=List.mem_iff_getElem?.1 hf
  have hi2:fs[i]?=some f:=by simpa using hi
  have h4:=h3 i f hi2
  have h5:i<fs.size:=(Array.getElem?_eq_some_iff.1 hi2).1
  exact⟨_,h4.trans (List.getElem?_eq_getElem (by omega))⟩
 exact⟨a,by rw[h1,hc,hl],fun j d hj=>by simpa using ha j d hj,hb⟩
theorem bdW {c:Cf} {d:D1} {x:Value} (h:Imm c.I c.w d x):Rel c d x:=by
 cases h with
 |v y h=>exact .v _ h
 |isl rows a cap n b o f ha hcap hn hc hr=>exact .isl rows a cap n b o f ha hcap hn hc hr
 |fQ cells b o f hI hc hr=>exact .fQ cells b o f hI hc hr
 |MY x b hI hw=>exact .MY x b hI hw
abbrev cf0 (w:World):Cf:=⟨fun _=>(0,0),fun _=>False,fun b=>b<w.heap.size,w⟩
theorem bfK {P:Program} {t:TypeId} {fs:Array Field} {A:Type} {enc:A→List D1} {H:Type} {ec:TypeId×Value→H} {w:World} {base:Nat} {spare:Nat→Bool} {held:Bool} {r:Reach} {b0:Nat} {v:Value} {d:DataW H} {p:List MemPlace}
 (h:aZK P t enc) (hs:P.underlying t=some (.struct fs)) (hv:Value.okWide P w r b0 t v) (hd:DataW.Trod ec P w base spare held t v d p): ∃a,fD (cf0 w) (dA (enc a)) v∧a9N (enc a):=by
 obtain⟨cs,rfl,_⟩:=okWide_struct hs hv
 obtain⟨fuel,hf⟩:=hd
 obtain⟨a,ha⟩:=h.op hf
 refine⟨a,⟨cs.toList,by simp,ha.len,fun i d u h1 h2=> ?_⟩,ha.big⟩
 obtain⟨v,h3,h4⟩:=ha.at_ i d h1
 have h2':(Value.agg cs).cells.toList[i]?=some u:=h2
 rw[h3] at h2'
 obtain rfl:=Option.some.inj h2'
 exact bdW h4
theorem bfL {P:Program} {t e:TypeId} {A:Type} {enc:A→List D1} {H:Type} {ec:TypeId×Value→H} {w:World} {base:Nat} {spare:Nat→Bool} {held:Bool} {r:Reach} {b0:Nat} {v:Value} {d:DataW H} {p:List MemPlace}
 (h:aZK P t fun l:List A=>[.isl (l.map enc)]) (hs:P.underlying t=some (.slice e)) (hv:Value.okWide P w r b0 t v) (hd:DataW.Trod ec P w base spare held t v d p): ∃l:List A,fD (cf0 w) (dS (l.map enc)) v∧Big (.isl (l.map enc)):=by
 obtain⟨az,len,cap,rfl⟩:=okWide_slice hs hv
 obtain⟨fuel,hf⟩:=hd
 obtain⟨l,hl⟩:=h.op hf
 obtain⟨v,h3,h4⟩:=hl.at_ 0 _ rfl
 have h3':((Value.slice az len cap).cells.toList)[0]?=some (Value.slice az len cap):=rfl
 rw[h3'] at h3
 obtain rfl:=Option.some.inj h3
 exact⟨l,(bdW (c:=cf0 w) h4:Rel (cf0 w) _ _),hl.big _ (by simp)⟩
theorem bfJ {P:Program} {f:FuncId} {ds:List D} {w:World} {vs:List Value} (h:aB P f ds .nil 0 fun rr _ _=>rr.plain=true∧rr=dB true) (hl:vs.length=ds.length) (hv: ∀(i:Nat) (d:D) (u:Value),ds[i]?=some d→vs[i]?=some u→fD (cf0 w) d u):
 Calls P f vs.toArray w fun e w'=>e= .returned (.bool true)∧Below w.heap.size w w':=by
 have hno: ∀b,¬uG (cf0 w) .nil b:=by rintro b ⟨id,o,h,_⟩;cases h
 have hst:St (cf0 w) .nil:=⟨fun id o h=>(by cases h),fun id o h=>(by cases h),fun id o h=>(by cases h),fun id o i j r d h=>(by cases h),fun id id' o o' h=>(by cases h),fun id o h=>(by cases h),fun b h=>h⟩
 refine(h.2 (cf0 w) vs hst (fun i hi=>hi.elim) hl hv).mono ?_
 rintro x w' ⟨u,c',r,H',nx',rfl,rfl,p1,p2,p3,p4,p5,p6,rfl⟩
 have hu:u= .bool true:=by
  simp only[fD,jZ,Rel,bY] at p5
  cases p5;rfl
 subst hu
 exact⟨rfl,p2.os,p2.tape,p2.output,p2.size,fun k hk=>p2.frame k hk (hno k)⟩
end Go.AM
end
section
namespace Go.Proofs.YtmccpdapaccnoaaGreat
open Go Go.AM Go.Proofs
theorem a2O:aZK Tryz.prog 3 aJ:=beU Tryz.underlying3
theorem beY:aZK Tryz.prog 4 eH:=beK Tryz.underlying4
theorem a6Z:aZK Tryz.prog 23 fun l:List Int=>[.isl (l.map aJ)]:=aZ1 (n:=1) a2O Tryz.underlying23 (by kernel_rfl) (by decide) fun _=>rfl
theorem bfQ:aZK Tryz.prog 205 eN:=aZ0 (w0 (n:=4) (b6 (n:=1) a2O rfl (by kernel_rfl) (fun _=>rfl) (b6 (n:=1) a2O rfl (by kernel_rfl) (fun _=>rfl) (b6 (n:=1) a2O rfl (by kernel_rfl) (fun _=>rfl) (b6 (n:=1) beY rfl (by kernel_rfl) (fun _=>rfl) z0)))) Tryz.underlying205 (by kernel_rfl) fun _=>rfl) (fun p:Int×Int×Int×Bool×Unit=>⟨p.1,p.2.1,p.2.2.1,p.2.2.2.1⟩) (fun _=>rfl)
theorem bfF:aZK Tryz.prog 22 fun l:List Rng=>[.isl (l.map eN)]:=aZ1 (n:=4) bfQ Tryz.underlying22 (by kernel_rfl) (by decide) fun _=>rfl
theorem bfT:aZK Tryz.prog 276 eB:=aZ0 (w0 (n:=7) (b6 (n:=1) a2O rfl (by kernel_rfl) (fun _=>rfl) (b6 (n:=1) a2O rfl (by kernel_rfl) (fun _=>rfl) (b6 (n:=1) a2O rfl (by kernel_rfl) (fun _=>rfl) (b6 (n:=1) a2O rfl (by kernel_rfl) (fun _=>rfl) (b6 (n:=1) beY rfl (by kernel_rfl) (fun _=>rfl) (b6 (n:=1) a6Z rfl (by kernel_rfl) (fun _=>rfl) (b6 (n:=1) a6Z rfl (by kernel_rfl) (fun _=>rfl) z0))))))) Tryz.underlying276 (by kernel_rfl) fun _=>rfl) (fun p:Int×Int×Int×Int×Bool×List Int×List Int×Unit=>⟨p.1,p.2.1,p.2.2.1,p.2.2.2.1,p.2.2.2.2.1,p.2.2.2.2.2.1,p.2.2.2.2.2.2.1⟩) (fun _=>rfl)
theorem bfG:aZK Tryz.prog 187 jR:=aZ1 (n:=7) bfT Tryz.underlying187 (by kernel_rfl) (by decide) fun _=>rfl
theorem be7:aZK Tryz.prog 24 fun l:List (List Req)=>[.isl (l.map jR)]:=aZ1 (n:=1) bfG Tryz.underlying24 (by kernel_rfl) (by decide) fun _=>rfl
theorem bfW:aZK Tryz.prog 26 cU:=aZ0 (w0 (n:=3) (b6 (n:=1) bfF rfl (by kernel_rfl) (fun _=>rfl) (b6 (n:=1) a6Z rfl (by kernel_rfl) (fun _=>rfl) (b6 (n:=1) be7 rfl (by kernel_rfl) (fun _=>rfl) z0))) Tryz.underlying26 (by kernel_rfl) fun _=>rfl) (fun p:List Rng×List Int×List (List Req)×Unit=>⟨p.1,p.2.1,p.2.2.1⟩) (fun _=>rfl)
theorem bfH:aZK Tryz.prog 326 eCJ:=aZ0 (w0 (n:=3) (b6 (n:=1) a2O rfl (by kernel_rfl) (fun _=>rfl) (b6 (n:=1) a2O rfl (by kernel_rfl) (fun _=>rfl) (b6 (n:=1) a2O rfl (by kernel_rfl) (fun _=>rfl) z0))) Tryz.underlying326 (by kernel_rfl) fun _=>rfl) (fun p:Int×Int×Int×Unit=>⟨p.1,p.2.1,p.2.2.1⟩) (fun _=>rfl)
theorem bfC:aZK Tryz.prog 221 fun l:List fC=>[.isl (l.map eCJ)]:=aZ1 (n:=3) bfH Tryz.underlying221 (by kernel_rfl) (by decide) fun _=>rfl
theorem be6:aZK Tryz.prog 223 cD:=aZ0 (w0 (n:=4) (b6 (n:=1) a2O rfl (by kernel_rfl) (fun _=>rfl) (b6 (n:=1) a6Z rfl (by kernel_rfl) (fun _=>rfl) (b6 (n:=1) bfC rfl (by kernel_rfl) (fun _=>rfl) (b6 (n:=1) a2O rfl (by kernel_rfl) (fun _=>rfl) z0)))) Tryz.underlying223 (by kernel_rfl) fun _=>rfl) (fun p:Int×List Int×List fC×Int×Unit=>⟨p.1,p.2.1,p.2.2.1,p.2.2.2.1⟩) (fun _=>rfl)
theorem be5:aZK Tryz.prog 68 fun l:List fR=>[.isl (l.map cD)]:=aZ1 (n:=4) be6 Tryz.underlying68 (by kernel_rfl) (by decide) fun _=>rfl
theorem bfR:aZK Tryz.prog 190 tG:=aZ0 (w0 (n:=3) (b6 (n:=1) a2O rfl (by kernel_rfl) (fun _=>rfl) (b6 (n:=1) a2O rfl (by kernel_rfl) (fun _=>rfl) (b6 (n:=1) a6Z rfl (by kernel_rfl) (fun _=>rfl) z0))) Tryz.underlying190 (by kernel_rfl) fun _=>rfl) (fun p:Int×Int×List Int×Unit=>⟨p.1,p.2.1,p.2.2.1⟩) (fun _=>rfl)
theorem bfO:aZK Tryz.prog 192 aS:=aZ0 (w0 (n:=5) (b6 (n:=1) a2O rfl (by kernel_rfl) (fun _=>rfl) (b6 (n:=1) a2O rfl (by kernel_rfl) (fun _=>rfl) (b6 (n:=3) bfR rfl (by kernel_rfl) (fun _=>rfl) z0))) Tryz.underlying192 (by kernel_rfl) fun _=>rfl) (fun p:Int×Int×Rsp×Unit=>⟨p.1,p.2.1,p.2.2.1⟩) (fun _=>rfl)
theorem beZ:aZK Tryz.prog 31 fun l:List Job=>[.isl (l.map aS)]:=aZ1 (n:=5) bfO Tryz.underlying31 (by kernel_rfl) (by decide) fun _=>rfl
theorem bfD:aZK Tryz.prog 226 gF:=aZ0 (w0 (n:=3) (b6 (n:=1) bfC rfl (by kernel_rfl) (fun _=>rfl) (b6 (n:=1) beZ rfl (by kernel_rfl) (fun _=>rfl) (b6 (n:=1) a2O rfl (by kernel_rfl) (fun _=>rfl) z0))) Tryz.underlying226 (by kernel_rfl) fun _=>rfl) (fun p:List fC×List Job×Int×Unit=>⟨p.1,p.2.1,p.2.2.1⟩) (fun _=>rfl)
theorem bfI:aZK Tryz.prog 69 fun l:List nY=>[.isl (l.map gF)]:=aZ1 (n:=3) bfD Tryz.underlying69 (by kernel_rfl) (by decide) fun _=>rfl
theorem bfS:aZK Tryz.prog 28 fun l:List Int=>[.isl (l.map aJ)]:=aZ0 (w0 (n:=1) (b6 (n:=1) a6Z rfl (by kernel_rfl) (fun _=>rfl) z0) Tryz.underlying28 (by kernel_rfl) fun _=>rfl) (fun p:List Int×Unit=>p.1) (fun _=>rfl)
theorem bfP:aZK Tryz.prog 30 fun p:List Int×List Int=>[.isl (p.1.map aJ),.isl (p.2.map aJ)]:=aZ0 (w0 (n:=2) (b6 (n:=1) bfS rfl (by kernel_rfl) (fun _=>rfl) (b6 (n:=1) a6Z rfl (by kernel_rfl) (fun _=>rfl) z0)) Tryz.underlying30 (by kernel_rfl) fun _=>rfl) (fun p:List Int×List Int×Unit=>(p.1,p.2.1)) (fun _=>rfl)
theorem bfX:aZK Tryz.prog 71 eI:=aZ0 (w0 (n:=5) (b6 (n:=2) bfP rfl (by kernel_rfl) (fun _=>rfl) (b6 (n:=1) be5 rfl (by kernel_rfl) (fun _=>rfl) (b6 (n:=1) bfI rfl (by kernel_rfl) (fun _=>rfl) (b6 (n:=1) beZ rfl (by kernel_rfl) (fun _=>rfl) z0)))) Tryz.underlying71 (by kernel_rfl) fun _=>rfl) (fun p:(List Int×List Int)×List fR×List nY×List Job×Unit=>⟨p.1.1,p.1.2,p.2.1,p.2.2.1,p.2.2.2.1⟩) (fun _=>rfl)
end Go.Proofs.YtmccpdapaccnoaaGreat
end
section
namespace Go.AM
theorem a9N.at_ {ds:List D1} (h:a9N ds) (i:Nat) {d:D1} (hd:ds[i]?=some d):Big d:=h d (List.mem_of_getElem? hd)
theorem Big.bdS {α:Type} {enc:α→List D1} {l:List α} (h:Big (.isl (l.map enc))):l.length<2^63:=by have:=h.len;simpa using this
theorem Big.elem {α:Type} {enc:α→List D1} {l:List α} (h:Big (.isl (l.map enc))): ∀x∈l,a9N (enc x):=fun x hx d hd=>h.row _ (List.mem_map_of_mem hx) d hd
theorem Big.apP {α:Type} {enc:α→List D1} {P:α→Prop} {l:List α} (h:Big (.isl (l.map enc))) (hP: ∀x,a9N (enc x)→P x):aZT P (2^63) l:=⟨h.bdS,fun x hx=>hP x (h.elem x hx)⟩
theorem be9 (q:Req) (h:a9N (eB q)):w3 (2^63) q:=⟨(h.at_ 5 rfl).bdS,(h.at_ 6 rfl).bdS⟩
theorem be3 (p:List Req) (h:a9N (jR p)):aZ7 (2^63) p:=(h.at_ 0 rfl).apP be9
theorem bfU (c:Cfg) (h:a9N (cU c)):aZW (2^63) c:=⟨(h.at_ 0 rfl).bdS,(h.at_ 1 rfl).bdS,(h.at_ 2 rfl).apP be3⟩
theorem be4 (p:fR) (h:a9N (cD p)):f9 (2^63) p:=⟨(h.at_ 1 rfl).bdS,(h.at_ 2 rfl).bdS⟩
theorem beQ (j:Job) (h:a9N (aS j)):e9 (2^63) j:=(h.at_ 4 rfl).bdS
theorem be8 (v:nY) (h:a9N (gF v)):dP (2^63) v:=⟨(h.at_ 0 rfl).bdS,(h.at_ 1 rfl).apP beQ⟩
theorem bfV (s:CSt) (h:a9N (eI s)):w5 (2^63) s:=⟨⟨(h.at_ 0 rfl).bdS,(h.at_ 1 rfl).bdS⟩,(h.at_ 2 rfl).apP be4,(h.at_ 3 rfl).apP be8,(h.at_ 4 rfl).apP beQ⟩
end Go.AM
end
section

end
