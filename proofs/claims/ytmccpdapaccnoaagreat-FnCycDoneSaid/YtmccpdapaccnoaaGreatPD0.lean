/- Texts laid together by a program: rules, contracts and the walk that leads to the law. -/
import Derived.WalkKit
set_option linter.unusedVariables false
set_option linter.unusedSimpArgs false
set_option linter.unusedSectionVars false
set_option maxRecDepth 100000
set_option maxHeartbeats 8000000
abbrev m5:=@Nat.le_refl
abbrev t1:=@Nat.add_assoc
abbrev bqT:=@Nat.left_eq_add
abbrev bqU:=@Nat.add_left_cancel_iff
abbrev bqV:=@Nat.add_eq_left
abbrev t2:=@List.length_append
abbrev boL:=@List.take_of_length_le
abbrev n1:=@List.getElem?_eq_getElem
abbrev CF:=@List.mem_map
abbrev t3:=@List.mem_cons
abbrev m3:=@List.getElem?_eq_some_iff
abbrev m4:=@Option.map_eq_some_iff
abbrev o3:=@List.mem_append
abbrev n3:=@List.map_cons
abbrev bqW:=@List.length_map
abbrev bqX:=@List.map_append
abbrev s3:=@List.mem_of_getElem?
abbrev C0:=@List.append_assoc
abbrev p0:=@List.getElem?_map
abbrev Y5:=@List.length_set
abbrev CI:=@List.length_drop
abbrev CJ:=@List.mem_singleton
abbrev w2:=@List.all_eq_true
abbrev bqY:=@List.mem_iff_getElem
abbrev s5:=@List.getElem?_drop
abbrev o5:=@List.getElem?_append
abbrev o4:=@Nat.add_mul
abbrev bqZ:=@List.getElem?_set_self
abbrev bq0:=@List.getElem?_set_ne
abbrev CG:=@List.length_take
abbrev bq1:=@List.set_set
abbrev q0:=@List.map_nil
abbrev CE:=@List.eq_nil_of_length_eq_zero
abbrev q7:=@Bool.and_eq_true
abbrev bq2:=@Nat.not_lt_zero
abbrev bq6:=@List.append_nil
abbrev Z6:=@List.pairwise_iff_getElem
abbrev bq3:=@Eq.symm
abbrev bq4:=@List.take_length
abbrev s4:=@List.getElem?_take
abbrev bq9:=@List.mem_cons_of_mem
abbrev bq7:=@List.not_mem_nil
abbrev G0:=@List.pairwise_cons
abbrev bq5:=@List.drop_zero
abbrev H4:=@List.length_eq_zero_iff
abbrev bq8:=@List.nodup_cons
abbrev brA:=@List.mem_append_left
abbrev brB:=@List.drop_eq_getElem_cons
abbrev brC:=@List.map_congr_left
abbrev w1:=@Nat.mul_comm
abbrev t4:=@Nat.mul_le_mul_right
abbrev brD:=@List.map_set
abbrev brE:=@List.map_drop
abbrev brF:=@Int.tmod_eq_emod_of_nonneg
abbrev boN:=@List.take_append_drop
abbrev brG:=@List.nodup_append
abbrev brH:=@List.mem_append_right
abbrev CR:=@Nat.eq_zero_or_pos
abbrev Y2:=@List.drop_drop
abbrev C2:=@List.mem_range
abbrev CQ:=@Nat.le_trans
abbrev CC:=@Bool.false_eq_true
abbrev x2:=@Array.ext'
abbrev Y4:=@Nat.zero_add
abbrev CA:=@Bool.not_eq_true'
abbrev CB:=@Bool.or_eq_true
abbrev Z5:=@List.getElem_mem
abbrev brI:=@List.mem_map_of_mem
abbrev brJ:=@Nat.sub_self
abbrev brK:=@Nat.mul_one
abbrev brL:=@Iff.rfl
abbrev KL:=@List.getD_eq_getElem?_getD
abbrev brM:=@List.pairwise_append
abbrev CH:=@List.getElem?_toArray
abbrev D0:=@List.getElem?_set
abbrev brN:=@Nat.one_ne_zero
abbrev brO:=@List.getElem?_append_left
abbrev brP:=@List.range_succ
abbrev brQ:=@List.take_succ_eq_append_getElem
abbrev brR:=@List.perm_middle
abbrev brS:=@List.count_append
abbrev C1:=@List.map_toArray
abbrev Y8:=@List.mem_flatMap
abbrev Z3:=@List.getElem?_eq_none
abbrev brT:=@List.map_id
abbrev Z4:=@List.findIdx?_eq_some_iff_getElem
abbrev brU:=@List.getElem_take
abbrev brV:=@List.perm_iff_count
abbrev brW:=@List.count_cons
abbrev btP:=@List.eq_nil_iff_forall_not_mem
abbrev brX:=@List.getElem?_append_right
abbrev C3:=@Nat.mul_assoc
abbrev C4:=@Array.getElem?_eq_some_iff
abbrev C9:=@Nat.mod_eq_of_lt
abbrev Y3:=@Nat.add_comm
abbrev F0:=@List.size_toArray
abbrev btQ:=@Bool.true_and
abbrev brY:=@List.pairwise_map
abbrev brZ:=@List.drop_of_length_le
abbrev br0:=@Int.tmod_nonneg
abbrev br1:=@Int.tmod_lt_of_pos
abbrev br2:=@List.ext_getElem
abbrev br3:=@List.filter_cons
abbrev KM:=@Option.bind_eq_some_iff
abbrev KN:=@Array.all_eq_true_iff_forall_mem
abbrev Y6:=@Array.getElem?_append
abbrev Y7:=@Array.getElem?_toList
abbrev br4:=@List.flatMap_cons
abbrev Y9:=@List.contains_iff_mem
abbrev boI:=@Bool.and_eq_false_iff
abbrev Z1:=@Bool.not_true
abbrev Z2:=@Array.getElem?_setIfInBounds_ne
abbrev br5:=@Nat.succ_pos
abbrev br6:=@Nat.lt_irrefl
abbrev br7:=@List.map_take
abbrev br8:=@Nat.lt_succ_iff_lt_or_eq
abbrev br9:=@List.not_of_lt_findIdx
abbrev bsA:=@List.findIdx_getElem
abbrev bsB:=@List.set_append
abbrev bsC:=@Nat.and_two_pow_sub_one_eq_mod
abbrev bsD:=@List.getElem_map
abbrev bsE:=@List.mem_of_mem_drop
abbrev bsF:=@List.set_eq_take_append_cons_drop
abbrev btR:=@List.foldl_append
abbrev bsG:=@Int.tdiv_eq_ediv_of_nonneg
abbrev Z7:=@Option.isSome_iff_exists
abbrev boH:=@Nat.add_mul_mod_self_right
abbrev boJ:=@List.getElem?_replicate
abbrev boK:=@Array.getD_eq_getD_getElem?
abbrev bsH:=@List.getElem?_singleton
abbrev boM:=@Nat.le_of_ble_eq_true
abbrev bsI:=@List.findIdx?_eq_none_iff
abbrev bsJ:=@List.drop_append_of_le_length
abbrev bsK:=@List.drop_sublist_drop_left
abbrev bsL:=@Nat.testBit_shiftLeft
abbrev bsM:=@List.mem_of_find?_eq_some
namespace Go.AM
theorem aa1: ∀{a c b d:Nat},2^a*(2*b+1)=2^c*(2*d+1)→a=c∧b=d
 |0,0,b,d,h=>⟨rfl,by simp at h;omega⟩
 |0,c+1,b,d,h=>by rw[Nat.pow_succ,Nat.pow_zero,w1 (2^c) 2,C3] at h;generalize 2^c*(2*d+1)=z at h;omega
 |a+1,0,b,d,h=>by rw[Nat.pow_succ,Nat.pow_zero,w1 (2^a) 2,C3] at h;generalize 2^a*(2*b+1)=z at h;omega
 |a+1,c+1,b,d,h=>by rw[Nat.pow_succ,Nat.pow_succ,w1 (2^a) 2,w1 (2^c) 2,C3,C3] at h;obtain⟨h1,h2⟩:=aa1 (Nat.eq_of_mul_eq_mul_left (by omega) h);exact⟨by rw[h1],h2⟩
def Q8 (a b:Nat):Nat:=2^a*(2*b+1)
theorem G3{a b c d:Nat} (h:Q8 a b=Q8 c d):a=c∧b=d:=aa1 h
theorem WH{a b:Nat}:0<Q8 a b:=Nat.mul_pos (Nat.pow_pos (by omega)) (by omega)
def IT {α:Type} (f:α→Nat):List α→Nat
 | []=>0
 |x::r=>Q8 (f x) (IT f r)
theorem NA {α:Type} {f:α→Nat} (hf: ∀x y,f x=f y→x=y): ∀l m:List α,IT f l=IT f m→l=m
 | [],[],_=>rfl
 | [],y::m,h=>by have:=WH (a:=f y) (b:=IT f m);simp only[IT] at h;omega
 |x::l,[],h=>by have:=WH (a:=f x) (b:=IT f l);simp only[IT] at h;omega
 |x::l,y::m,h=>by simp only[IT] at h;obtain⟨h1,h2⟩:=G3 h;rw[hf x y h1,NA hf l m h2]
def amV (x:Int):Nat:=if 0≤x then 2*x.toNat else 2*(-x).toNat+1
theorem aaP (x y:Int) (h:amV x=amV y):x=y:=by unfold amV at h;split at h<;>split at h<;>omega
structure mH where
 kn:Nat
 bl:Bool
 m:List (List Int×Int)
def adS (x:mH):Nat:=Q8 x.kn (Q8 x.bl.toNat (IT (fun p=>Q8 (IT amV p.1) (amV p.2)) x.m))
theorem amB (x y:mH) (h:adS x=adS y):x=y:=by
 obtain⟨a,b,m⟩:=x;obtain⟨a',b',m'⟩:=y;unfold adS at h;obtain⟨h1,h2⟩:=G3 h;obtain⟨h3,h4⟩:=G3 h2
 have h5:=NA (fun p q hpq=>by
  obtain⟨e1,e2⟩:=G3 hpq
  exact Prod.ext (NA aaP _ _ e1) (aaP _ _ e2)) _ _ h4
 dsimp only at*;subst h5;subst h1;cases b<;>cases b'<;>first| (simp at h3;done)|rfl
theorem WY: ∃(f:mH→Nat) (g:Nat→mH),∀x,g (f x)=x:=by
 classical
 refine⟨adS,fun n=>if h: ∃x,adS x=n then Classical.choose h else ⟨0,false,[]⟩,fun x=> ?_⟩;have h: ∃y,adS y=adS x:=⟨x,rfl⟩
 simp only[h,dif_pos];exact amB _ _ (Classical.choose_spec h)
noncomputable def aaX:mH→Nat:=Classical.choose WY
noncomputable def acE:Nat→mH:=Classical.choose (Classical.choose_spec WY)
theorem yH (x:mH):acE (aaX x)=x:=Classical.choose_spec (Classical.choose_spec WY) x
def pJ (kn:Nat) (l:List Int):Value:=if kn=0 then .int .i64 (l.headD 0) else .agg (l.map fun n=>Value.int .i64 n).toArray
def zV (kn:Nat):Nat:=if kn=0 then 1 else kn
def elemV (bl:Bool) (n:Int):Value:=if bl then .bool (decide (n≠0)) else .int .i64 n
def mH.rows (x:mH):List (Value×Value):=x.m.map fun p=>(pJ x.kn p.1,elemV x.bl p.2)
def mH.ok (x:mH):Prop:=∀p∈x.m,p.1.length=zV x.kn
abbrev NZ (ob:Option Obj) (x:mH):Prop:=∃es clock,ob=some (Obj.map es clock)∧(es.toList.map fun e=>(e.key,e.val))=x.rows∧x.ok
inductive D1 where
 |v (x:Value)
 |isl (rows:List (List D1))
 |osl (n id off len cap:Nat)
 |ptr (n id row col:Nat)
 |fQ (cells:List D1)
 |clo (f:FuncId) (caps:List D1)
 |MY (x:mH)
 |omap (id:Nat)
 |dead
inductive DV where
 |c (d:D1)
 |agg (cs:List D1)
inductive D where
 |one (x:DV)
 |tup (xs:List DV)
 |dead
structure bA where
 n:Nat
 ext:Nat
 rows:List (List D1)
abbrev aA:=Nat→Option bA
def aA.nil:aA:=fun _=>none
def aA.set (H:aA) (id:Nat) (o:bA):aA:=fun i=>if i=id then some o else H i
def aA.del (H:aA) (id:Nat):aA:=fun i=>if i=id then none else H i
noncomputable def u4 (x:mH):bA:=⟨0,aaX x+1,[]⟩
noncomputable def anD (o:bA):Option mH:=if o.n=0∧o.rows=[]∧0<o.ext then some (acE (o.ext-1)) else none
theorem ahL{x:mH}:anD (u4 x)=some x:=by simp[anD,u4,yH]
noncomputable def I7 (H:aA) (i:Nat):Option mH:=(H i).bind anD
def yW (ob:Option Obj) (base:Nat) (o:bA):Prop:=
 if o.n=0∧o.rows=[] then NZ ob (acE (o.ext-1))
 else ∃arr T,ob=some (Obj.cells arr T (0,0))∧base+o.ext*o.n≤arr.size
variable{base:Nat}
theorem yW.ex{ob:Option Obj}{o:bA} (h:yW ob base o): ∃x,ob=some x:=by
 unfold yW at h;split at h;·obtain⟨es,clock,h,_⟩:=h;exact⟨_,h⟩
 ·obtain⟨arr,T,h,_⟩:=h;exact⟨_,h⟩
theorem yW.lt{w:World}{b:Nat}{o:bA} (h:yW w.heap[b]? base o):b<w.heap.size:=by obtain⟨x,h⟩:=h.ex;exact(C4.1 h).1
theorem yW.mk{ob:Option Obj}{o:bA} (hn: ¬(o.n=0∧o.rows=[])) (h: ∃arr T,ob=some (Obj.cells arr T (0,0))∧base+o.ext*o.n≤arr.size):yW ob base o:=by unfold yW;rw[if_neg hn];exact h
theorem yW.cells {ob:Option Obj} {base:Nat} {o:bA} (h:yW ob base o) (hn: ¬(o.n=0∧o.rows=[])): ∃arr T,ob=some (Obj.cells arr T (0,0))∧base+o.ext*o.n≤arr.size:=by unfold yW at h;rwa [if_neg hn] at h
theorem yW.arW{ob:Option Obj}{o o':bA} (h:yW ob base o) (h1:o'.n=o.n) (h2:o'.ext=o.ext) (h3:o.n=0→(o'.rows=[]↔o.rows=[])):yW ob base o':=by
 unfold yW at h ⊢;rw[h1,h2];by_cases hn:o.n=0;·simp only[h3 hn];exact h
 ·simp only[hn,false_and,if_false] at h ⊢;exact h
structure Cf where
 ρ:Nat→Nat×Nat
 N:Nat→Prop
 I:Nat→Prop
 w:World
inductive Imm (I:Nat→Prop) (w:World):D1→Value→Prop where
 |v (x:Value) (h:x.oneCell'=true):Imm I w (.v x) x
 |isl (rows:List (List D1)) (a:Option Addr) (cap n b o:Nat) (f:Nat→Nat→Value)
  (ha:rows≠[]→a=some ⟨b,o,none⟩∧I b) (hcap:rows.length≤cap)
  (hn: ∀(i:Nat) (r:List D1),rows[i]?=some r→r.length=n)
  (hc: ∀(i j:Nat) (r:List D1) (d:D1),rows[i]?=some r→r[j]?=some d→w.cell? ⟨b,o+(i*n+j),none⟩=some (f i j))
  (hr: ∀(i j:Nat) (r:List D1) (d:D1),rows[i]?=some r→r[j]?=some d→Imm I w d (f i j)):Imm I w (.isl rows) (.slice a rows.length cap)
 |fQ (cells:List D1) (b o:Nat) (f:Nat→Value) (hI:I b)
  (hc: ∀(j:Nat) (d:D1),cells[j]?=some d→w.cell? ⟨b,o+j,none⟩=some (f j))
  (hr: ∀(j:Nat) (d:D1),cells[j]?=some d→Imm I w d (f j)):Imm I w (.fQ cells) (.pointer (some ⟨b,o,none⟩))
 |MY (x:mH) (b:Nat) (hI:I b) (hw:NZ w.heap[b]? x):Imm I w (.MY x) (.map (some b))
theorem Imm.wT{I I':Nat→Prop}{w w':World}{d:D1}{x:Value} (h:Imm I w d x) (hI: ∀b,I b→I' b)
 (hw: ∀b,I b→w'.heap[b]?=w.heap[b]?):Imm I' w' d x:=by
 induction h with
 |v x h=>exact .v x h
 |isl rows a cap n b o f ha hcap hn hc hr ih=>
  refine .isl rows a cap n b o f (fun h=>⟨(ha h).1,hI _ (ha h).2⟩) hcap hn (fun i j r d h1 h2=> ?_) ih;have hne:rows≠[]:=by rintro rfl;simp at h1
  rw[World.cell?_of_block (w:=w) (hw b (ha hne).2)];exact hc i j r d h1 h2
 |fQ cells b o f hb hc hr ih=>refine .fQ cells b o f (hI _ hb) (fun j d h1=> ?_) ih;rw[World.cell?_of_block (w:=w) (hw b hb)];exact hc j d h1
 |MY x b hb h=>exact .MY x b (hI _ hb) (by rw[hw b hb];exact h)
def bY (c:Cf):D1→Value→Prop
 | .osl n id off len cap,x=>len≤cap∧((cap=0∧ ∃a,x= .slice a 0 0)∨(0<cap∧c.N id∧x= .slice (some ⟨(c.ρ id).1,(c.ρ id).2+off*n,none⟩) len cap))
 | .ptr n id row col,x=>c.N id∧x= .pointer (some ⟨(c.ρ id).1,(c.ρ id).2+(row*n+col),none⟩)
 | .omap id,x=>c.N id∧x= .map (some (c.ρ id).1)
 | .dead,x=>x.oneCell'=true
 |d,x=>Imm c.I c.w d x
def Rel (c:Cf):D1→Value→Prop
 | .clo f caps,x=>∃vs:List Value,x= .func (.func f) #[] vs.toArray∧vs.length=caps.length∧ ∀(i:Nat) (d:D1) (u:Value),caps[i]?=some d→vs[i]?=some u→bY c d u
 |d,x=>bY c d x
def rU (c:Cf) (cs:List D1) (vs:List Value):Prop:=vs.length=cs.length∧ ∀(i:Nat) (d:D1) (u:Value),cs[i]?=some d→vs[i]?=some u→Rel c d u
def jZ (c:Cf):DV→Value→Prop
 | .c d,x=>Rel c d x
 | .agg cs,x=>∃vs:List Value,x= .agg vs.toArray∧rU c cs vs
def fD (c:Cf):D→Value→Prop
 | .one d,x=>jZ c d x
 | .tup ds,x=>∃vs:List Value,x= .tuple vs.toArray∧vs.length=ds.length∧ ∀(i:Nat) (d:DV) (u:Value),ds[i]?=some d→vs[i]?=some u→jZ c d u
 | .dead,_=>True
structure St (c:Cf) (H:aA):Prop where
 named: ∀id o,H id=some o→c.N id
 wf: ∀id o,H id=some o→o.rows.length≤o.ext∧ ∀(i:Nat) (r:List D1),o.rows[i]?=some r→r.length=o.n
 blk: ∀id o,H id=some o→0<o.ext→yW c.w.heap[(c.ρ id).1]? (c.ρ id).2 o
 cells: ∀id o (i j:Nat) (r:List D1) (d:D1),H id=some o→o.rows[i]?=some r→r[j]?=some d→
  ∃x,c.w.cell? ⟨(c.ρ id).1,(c.ρ id).2+(i*o.n+j),none⟩=some x∧Rel c d x
 sep: ∀id id' o o',H id=some o→H id'=some o'→0<o.ext→0<o'.ext→id≠id'→(c.ρ id).1≠(c.ρ id').1
 imm: ∀id o,H id=some o→0<o.ext→¬c.I (c.ρ id).1
 old: ∀b,c.I b→b<c.w.heap.size
def uG (c:Cf) (H:aA) (b:Nat):Prop:=∃id o,H id=some o∧0<o.ext∧(c.ρ id).1=b
structure Step (c:Cf) (H:aA) (c':Cf) (H':aA):Prop where
 ρ: ∀id,c.N id→c'.ρ id=c.ρ id
 N: ∀id,c.N id→c'.N id
 I: ∀b,c.I b→c'.I b
 I': ∀b,c'.I b→c.I b∨uG c H b∨c.w.heap.size≤b
 size:c.w.heap.size≤c'.w.heap.size
 os:c'.w.os=c.w.os
 tape:c'.w.tape=c.w.tape
 output:c'.w.output=c.w.output
 frame: ∀b,b<c.w.heap.size→¬uG c H b→c'.w.heap[b]?=c.w.heap[b]?
 own: ∀b,uG c' H' b→uG c H b∨c.w.heap.size≤b
theorem Step.refl (c:Cf) (H:aA):Step c H c H:=⟨fun _ _=>rfl,fun _ h=>h,fun _ h=>h,fun _ h=>.inl h,m5 _,rfl,rfl,rfl,fun _ _ _=>rfl,fun _ h=>.inl h⟩
theorem Step.trans {c c' c'':Cf} {H H' H'':aA} (h:Step c H c' H') (k:Step c' H' c'' H''):Step c H c'' H'' where
 ρ id hn:=(k.ρ id (h.N id hn)).trans (h.ρ id hn)
 N id hn:=k.N id (h.N id hn)
 I b hb:=k.I b (h.I b hb)
 I' b hb:=by
  rcases k.I' b hb with hb|hb|hb;·exact h.I' b hb
  ·exact .inr (h.own b hb)
  ·exact .inr (.inr (CQ h.size hb))
 size:=CQ h.size k.size
 os:=k.os.trans h.os
 tape:=k.tape.trans h.tape
 output:=k.output.trans h.output
 frame b hb ho:=by rw[k.frame b (Nat.lt_of_lt_of_le hb h.size) (fun h2=>(h.own b h2).elim ho (fun h3=>by omega)),h.frame b hb ho]
 own b hb:=by
  rcases k.own b hb with h2|h2;·exact h.own b h2
  ·exact .inr (CQ h.size h2)
variable{c:Cf}
theorem St.WW{H:aA} (hs:St c H){b:Nat} (hb:c.I b): ¬uG c H b:=by rintro⟨id,o,h1,h2,rfl⟩;exact hs.imm id o h1 h2 hb
theorem Step.dQ{c':Cf}{H H':aA} (h:Step c H c' H') (hs:St c H){b:Nat} (hb:c.I b):c'.w.heap[b]?=c.w.heap[b]?:=h.frame b (hs.old b hb) (hs.WW hb)
theorem Imm.oQ {I:Nat→Prop} {w:World} {d:D1} {x:Value} (h:Imm I w d x):x.oneCell'=true:=by cases h<;>first|assumption|rfl
theorem bY.oQ {c:Cf} {d:D1} {x:Value} (h:bY c d x):x.oneCell'=true:=by
 cases d<;>simp only[bY] at h<;>first|exact h.oQ|exact h|skip
 ·obtain⟨_,⟨_,a,rfl⟩|⟨_,_,rfl⟩⟩:=h<;>rfl
 ·obtain⟨_,rfl⟩:=h;rfl
 ·obtain⟨_,rfl⟩:=h;rfl
theorem Rel.oQ {c:Cf} {d:D1} {x:Value} (h:Rel c d x):x.oneCell'=true:=by
 cases d with
 |clo f caps=>obtain⟨vs,rfl,_⟩:=h;rfl
 |_=>simp only[Rel] at h;exact bY.oQ h
theorem bY.step {c c':Cf} {H H':aA} (h:Step c H c' H') (hs:St c H) {d:D1} {x:Value} (hr:bY c d x):bY c' d x:=by
 cases d<;>simp only[bY] at hr ⊢ <;>first|exact hr.wT h.I (fun b hb=>h.dQ hs hb)|exact hr|skip
 ·refine⟨hr.1,hr.2.imp id fun⟨h0,h1,h2⟩=>⟨h0,h.N _ h1,by rw[h.ρ _ h1];exact h2⟩⟩
 ·exact⟨h.N _ hr.1,by rw[h.ρ _ hr.1];exact hr.2⟩
 ·exact⟨h.N _ hr.1,by rw[h.ρ _ hr.1];exact hr.2⟩
theorem Rel.step {c c':Cf} {H H':aA} (h:Step c H c' H') (hs:St c H) {d:D1} {x:Value} (hr:Rel c d x):Rel c' d x:=by
 cases d with
 |clo f caps=>obtain⟨vs,hx,hl,hf⟩:=hr;exact⟨vs,hx,hl,fun i d u h1 h2=>(hf i d u h1 h2).step h hs⟩
 |_=>simp only[Rel] at hr ⊢;exact bY.step h hs hr
theorem rU.step {c c':Cf} {H H':aA} (h:Step c H c' H') (hs:St c H) {cs:List D1} {vs:List Value} (hr:rU c cs vs):rU c' cs vs:=⟨hr.1,fun i d u h1 h2=>(hr.2 i d u h1 h2).step h hs⟩
theorem jZ.step {c c':Cf} {H H':aA} (h:Step c H c' H') (hs:St c H) {d:DV} {x:Value} (hr:jZ c d x):jZ c' d x:=by
 cases d with
 |c d=>exact Rel.step h hs hr
 |agg cs=>obtain⟨vs,hx,hl⟩:=hr;exact⟨vs,hx,hl.step h hs⟩
theorem fD.step {c c':Cf} {H H':aA} (h:Step c H c' H') (hs:St c H) {d:D} {x:Value} (hr:fD c d x):fD c' d x:=by
 cases d with
 |one d=>exact jZ.step h hs hr
 |tup ds=>obtain⟨vs,hx,hl,hf⟩:=hr;exact⟨vs,hx,hl,fun i d u h1 h2=>(hf i d u h1 h2).step h hs⟩
 |dead=>exact trivial
theorem St.forget{H H':aA} (hs:St c H) (h: ∀id o,H' id=some o→H id=some o):St c H' where
 named id o ho:=hs.named id o (h id o ho)
 wf id o ho:=hs.wf id o (h id o ho)
 blk id o ho:=hs.blk id o (h id o ho)
 cells id o i j r d ho:=hs.cells id o i j r d (h id o ho)
 sep id id' o o' ho ho':=hs.sep id id' o o' (h id o ho) (h id' o' ho')
 imm id o ho:=hs.imm id o (h id o ho)
 old:=hs.old
theorem Step.forget (c:Cf){H H':aA} (h: ∀id o,H' id=some o→H id=some o):Step c H c H':={Step.refl c H with own:=fun b ⟨id,o,h1,h2,h3⟩=>.inl ⟨id,o,h id o h1,h2,h3⟩}
def Cf.drew (c:Cf) (k:Nat):Cf:={c with w:={c.w with drawn:=k}}
theorem St.drew {c:Cf} {H:aA} (hs:St c H) (k:Nat):St (c.drew k) H:=by
 have hI: ∀d x,Rel c d x→Rel (c.drew k) d x:=by
  intro d x h;have h0: ∀d x,bY c d x→bY (c.drew k) d x:=by intro d x h;cases d<;>simp only[bY,Cf.drew] at h ⊢ <;>first|exact h.wT (fun _ h=>h) (fun _ _=>rfl)|exact h
  cases d with
  |clo f caps=>obtain⟨vs,hx,hl,hf⟩:=h;exact⟨vs,hx,hl,fun i d u h1 h2=>h0 _ _ (hf i d u h1 h2)⟩
  |_=>simp only[Rel] at h ⊢;exact h0 _ _ h
 exact⟨hs.named,hs.wf,hs.blk,fun id o i j r d h1 h2 h3=>let ⟨x,h4,h5⟩:=hs.cells id o i j r d h1 h2 h3;⟨x,h4,hI _ _ h5⟩,hs.sep,hs.imm,hs.old⟩
theorem Step.drew (c:Cf) (H:aA) (k:Nat):Step c H (c.drew k) H:={Step.refl c H with own:=fun b h=>.inl h}
inductive aT where
 |tm (t:Nat)
 |kv (x:Value)
 |fn (f:FuncId)
def D1.nil:D1:=.osl 0 0 0 0 0
def ofV:Value→D1
 | .slice none 0 0=>.nil
 |x=>.v x
abbrev Env:=Nat→D
def Env.nil:Env:=fun _=>.dead
def Env.set (e:Env) (t:Nat) (d:D):Env:=fun i=>if i=t then d else e i
def aT.ev (e:Env):aT→D
 | .tm t=>e t
 | .kv (.agg cs)=>.one (.agg (cs.toList.map ofV))
 | .kv x=>.one (.c (ofV x))
 | .fn f=>.one (.c (.clo f []))
def afY:Value→Bool
 | .agg cs=>cs.toList.all Value.oneCell'
 | .tuple _=>false
 |_=>true
def trO:Operand→Option aT
 | .tmp t=>some (.tm t)
 | .const x=>if afY x then some (.kv x) else none
 | .func f=>some (.fn f)
 | .global _=>none
theorem afP{x:Value} (h:x.oneCell'=true):Rel c (ofV x) x:=by
 unfold ofV;split;·simp only[D1.nil,Rel,bY];exact⟨m5 _,.inl ⟨trivial,none,rfl⟩⟩
 ·simp only[Rel,bY];exact .v x h
def ER (c:Cf) (T:Nat) (e:Env) (a:Act):Prop:=a.tmps.size=T∧a.defers=[]∧ ∀t,fD c (e t) (a.tmps.getD t undef)
theorem YZ{cs:List Value} (h:cs.all Value.oneCell'=true):rU c (cs.map ofV) cs:=by refine⟨by simp,fun i d u h1 h2=> ?_⟩;simp only[p0,h2,Option.map_some,Option.some.injEq] at h1;subst h1;exact afP (w2.1 h u (s3 h2))
theorem lP{T:Nat}{e:Env}{a:Act} (he:ER c T e a){x:Operand}{y:aT} (h:trO x=some y):fD c (y.ev e) (a.eval x):=by
 cases x with
 |tmp t=>simp only[trO,Option.some.injEq] at h;subst h;exact he.2.2 t
 |func f=>simp only[trO,Option.some.injEq] at h;subst h;simp only[aT.ev,fD,jZ,Rel,Act.eval];exact⟨[],by simp,rfl,by simp⟩
 |global g=>simp[trO] at h
 |const x=>
  simp only[trO] at h;split at h
  ·rename_i hk;simp only[Option.some.injEq] at h;subst h
   cases x<;>simp only[afY] at hk<;>first
    | (exact⟨_,by simp[Act.eval],YZ hk⟩)
    | (simp at hk;done)
    | (simp only[aT.ev,fD,jZ,Act.eval];exact afP (by first|rfl|simp[Value.oneCell']))
  ·simp at h
inductive XK where
 |bad
 |zI (f:FuncId)
 |qJ (neg:Bool)
 |copy (n:Nat)
 |clear (n:Nat) (z:List D1)
 |aaN (f:FuncId)
 |DS (kn:Nat) (bl:Bool)
 |sS
 |rA (kn:Nat) (bl ok:Bool)
 |vM (kn:Nat) (bl:Bool)
 |aeq (neg:Bool) (n:Nat)
inductive AOp where
 |move (x:aT)
 |pick (c a b:aT)
 |tF (x:aT)
 |load (n:Nat) (agg:Bool) (a:aT)
 |fld (k:Nat) (x:aT)
 |idx (n:Nat) (x i:aT)
 |TL (n len:Nat) (x i:aT)
 |bin (op:BinOp) (x y:aT)
 |beq (neg:Bool) (x y:aT)
 |un (op:UnOp) (x:aT)
 |conv (k:IntKind) (x:aT)
 |len (str:Bool) (x:aT)
 |cap (x:aT)
 |ext (x:aT) (i:Nat)
 |slc (n:Nat) (x:aT) (lo hi mx:Option aT)
 |arD (x:aT)
 |sub (x:aT) (lo hi:Option aT)
 |mmx (mn:Bool) (x y:aT)
 |field (off n:Nat) (agg:Bool) (x:aT)
 |aoO (x i:aT)
 |build (zero:List D1) (parts:List (Nat×Nat×aT))
 |alloc (zero:List D1)
 |box (agg:Bool) (x:aT)
 |bC (n len:Nat) (zero:List D1) (parts:List (Nat×Nat×aT))
 |kY (n:Nat) (zero:List D1) (len cap:aT)
 |store (n:Nat) (agg:Bool) (a x:aT)
 |append (n:Nat) (s x:aT)
 |call (f:FuncId) (args:List aT)
 |t5 (f:aT) (args:List aT)
 |xop (k:XK) (args:List aT)
def tT (H:aA):D1→Nat→Option (List D1)
 | .ptr n id row col,k=>
   match H id with
   |some o=>if o.n=n then
     match o.rows[row]? with
     |some r=>if col+k≤r.length then some ((r.drop col).take k) else none
     |none=>none
    else none
   |none=>none
 | .fQ cells,k=>if k≤cells.length then some (cells.take k) else none
 |_,_=>none
def mkV (agg:Bool) (cs:List D1):Option D:=
 if agg then some (.one (.agg cs)) else
 match cs with
 | [d]=>some (.one (.c d))
 |_=>none
def SA:BinOp→Value→Value→Option Value
 | .shl,.int k a,.int _ b=>if b<0 then none else some (.int k (k.wrap (a*2^(min b.toNat k.bits))))
 | .shr,.int k a,.int _ b=>if b<0 then none else some (.int k (a.fdiv (2^(min b.toNat k.bits))))
 | .add,.int k a,.int k' b=>if k=k' then some (.int k (k.wrap (a+b))) else none
 | .sub,.int k a,.int k' b=>if k=k' then some (.int k (k.wrap (a-b))) else none
 | .mul,.int k a,.int k' b=>if k=k' then some (.int k (k.wrap (a*b))) else none
 | .quo,.int k a,.int k' b=>if k=k' then (if b=0 then none else some (.int k (k.wrap (a.tdiv b)))) else none
 | .rem,.int k a,.int k' b=>if k=k' then (if b=0 then none else some (.int k (a.tmod b))) else none
 | .and,.int k a,.int k' b=>if k=k' then some (.int k (k.wrap (BitVec.ofInt k.bits a&&& BitVec.ofInt k.bits b).toNat)) else none
 | .or,.int k a,.int k' b=>if k=k' then some (.int k (k.wrap (BitVec.ofInt k.bits a|||BitVec.ofInt k.bits b).toNat)) else none
 | .xor,.int k a,.int k' b=>if k=k' then some (.int k (k.wrap (BitVec.ofInt k.bits a^^^BitVec.ofInt k.bits b).toNat)) else none
 | .andNot,.int k a,.int k' b=>if k=k' then some (.int k (k.wrap (BitVec.ofInt k.bits a&&& ~~~ BitVec.ofInt k.bits b).toNat)) else none
 | .eql,.int k a,.int k' b=>if k=k' then some (.bool (a==b)) else none
 | .neq,.int k a,.int k' b=>if k=k' then some (.bool (a != b)) else none
 | .lss,.int k a,.int k' b=>if k=k' then some (.bool (a<b)) else none
 | .leq,.int k a,.int k' b=>if k=k' then some (.bool (a≤b)) else none
 | .gtr,.int k a,.int k' b=>if k=k' then some (.bool (a>b)) else none
 | .geq,.int k a,.int k' b=>if k=k' then some (.bool (a≥b)) else none
 | .add,.string a,.string b=>if ((a.size+b.size:Nat):Int)>IntKind.i64.max then none else some (.string (a++b))
 | .eql,.string a,.string b=>some (.bool (a.toList==b.toList))
 | .neq,.string a,.string b=>some (.bool !(a.toList==b.toList))
 |_,_,_=>none
theorem akK{P:Program}{op:BinOp}{t:TypeId}{x y v:Value} (h:SA op x y=some v) (w:World):(binOp op t x y).run P w= .ok v w:=by
 unfold SA at h;split at h
 all_goals first
  | (split at h
     ·split at h;·simp at h
      ·simp only[Option.some.injEq] at h;subst h;rename_i h1 h2;subst h1;simp[binOp,Op.intDiv,h2]
     ·simp at h)
  | (split at h
     ·simp only[Option.some.injEq] at h;subst h;rename_i h1;subst h1;simp[binOp,Op.intArith,Op.intBits,Op.intCmp]
     ·simp at h)
  | (split at h
     ·simp at h
     ·simp only[Option.some.injEq] at h;subst h;rename_i h1;simp[binOp,Op.shift,h1];done)
  | (split at h
     ·simp at h
     ·simp only[Option.some.injEq] at h;subst h;rename_i h1;simp only[binOp,Op.stringOp,if_neg h1];rfl)
  | (simp only[Option.some.injEq] at h;subst h;simp[binOp,Op.stringOp])
  | (simp at h;done)
def DV.cells:DV→List D1
 | .c d=>[d]
 | .agg cs=>cs
def iA (cs:List D1) (off:Nat) (ds:List D1):List D1:=cs.take off++ds++cs.drop (off+ds.length)
def sH (e:Env):List D1→List (Nat×Nat×aT)→Option (List D1)
 |cs,[]=>some cs
 |cs,(off,n,x)::ps=>
  match x.ev e with
  | .one d=>if d.cells.length=n∧off+n≤cs.length then sH e (iA cs off d.cells) ps else none
  |_=>none
def aa5 (t:Bool):D→D→D
 | .one (.c (.v (.bool x))),.one (.c (.v (.bool y)))=>.one (.c (.v (.bool (if t then x else y))))
 |a,b=>if t then a else b
def HD (e:Env) (d:Nat):Option aT→Option Nat
 |none=>some d
 |some x=>
  match x.ev e with
  | .one (.c (.v (.int _ k)))=>if 0≤k then some k.toNat else none
  |_=>none
def ZU (n lo hi mx:Nat):D1→Option D1
 | .osl m id off _ cap=>if m=n∨cap=0 then (if lo≤hi∧hi≤mx∧mx≤cap then some (.osl n id (off+lo) (hi-lo) (mx-lo)) else none) else none
 |_=>none
def G2:List D→Option (List D1)
 | []=>some []
 | .one (.c (.clo _ _))::_=>none
 | .one (.c d)::r=>(G2 r).map (d:: ·)
 |_::_=>none
def xY:List D1→Option (List Int)
 | []=>some []
 | .v (.int .i64 n)::r=>(xY r).map (n:: ·)
 |_=>none
def eqD (neg:Bool) (n:Nat) (xs ys:List D1):Option (List Int)→Option (List Int)→Option D
 |some a,some b=>if xs.length=n∧ys.length=n then some (.one (.c (.v (.bool (if neg then decide (¬a=b) else decide (a=b)))))) else none
 |_,_=>none
def OA (kn:Nat):D→Option (List Int)
 | .one (.agg cs)=>if kn=0 then none else xY cs
 | .one (.c (.v (.int .i64 n)))=>if kn=0 then some [n] else none
 |_=>none
def S4 (bl:Bool):D→Option Int
 | .one (.c (.v (.bool b)))=>if bl then some (if b then 1 else 0) else none
 | .one (.c (.v (.int .i64 n)))=>if bl then none else some n
 |_=>none
def xq:XK→List D→Option D
 | .zI f,ds=>(G2 ds).map fun caps=>.one (.c (.clo f caps))
 | .aeq neg n,[.one (.agg xs),.one (.agg ys)]=>eqD neg n xs ys (xY xs) (xY ys)
 |_,_=>none
def aU (H:aA) (e:Env):AOp→Option D
 | .move x=>some (x.ev e)
 | .pick c a b=>match c.ev e with
   | .one (.c (.v (.bool t)))=>some (aa5 t (a.ev e) (b.ev e))
   |_=>none
 | .tF x=>match x.ev e with
   | .one (.c (.ptr n id row col))=>some (.one (.c (.ptr n id row col)))
   | .one (.c (.fQ cs))=>some (.one (.c (.fQ cs)))
   |_=>none
 | .load n g a=>match a.ev e with
   | .one (.c d)=>(tT H d n).bind (mkV g)
   |_=>none
 | .fld k x=>match x.ev e with
   | .one (.c (.ptr n id row col))=>some (.one (.c (.ptr n id row (col+k))))
   | .one (.c (.fQ cs))=>some (.one (.c (.fQ (cs.drop k))))
   |_=>none
 | .idx n x i=>match x.ev e,i.ev e with
   | .one (.c (.osl m id off len _)),.one (.c (.v (.int _ k)))=>if m=n∧0≤k∧k<len then some (.one (.c (.ptr n id (off+k.toNat) 0))) else none
   | .one (.c (.isl rows)),.one (.c (.v (.int _ k)))=>
     if 0≤k then
      match rows[k.toNat]? with
      |some r=>if r.length=n then some (.one (.c (.fQ r))) else none
      |none=>none
     else none
   |_,_=>none
 | .TL n len x i=>match x.ev e,i.ev e with
   | .one (.c (.ptr m id row col)),.one (.c (.v (.int _ k)))=>if 0≤k∧k<len then some (.one (.c (.ptr m id row (col+k.toNat*n)))) else none
   |_,_=>none
 | .bin op x y=>match x.ev e,y.ev e with
   | .one (.c (.v a)),.one (.c (.v b))=>(SA op a b).map fun v=>.one (.c (.v v))
   |_,_=>none
 | .beq neg x y=>match x.ev e,y.ev e with
   | .one (.c (.v (.bool a))),.one (.c (.v (.bool b)))=>some (.one (.c (.v (.bool (if neg then a != b else a==b)))))
   |_,_=>none
 | .un op x=>match op,x.ev e with
   | .not,.one (.c (.v (.bool b)))=>some (.one (.c (.v (.bool !b))))
   | .neg,.one (.c (.v (.int k n)))=>some (.one (.c (.v (.int k (k.wrap (0-n))))))
   |_,_=>none
 | .conv k x=>match x.ev e with
   | .one (.c (.v (.int _ n)))=>some (.one (.c (.v (.int k (k.wrap n)))))
   |_=>none
 | .len str x=>match str,x.ev e with
   |true,.one (.c (.v (.string s)))=>some (.one (.c (.v (.int .i64 s.size))))
   |false,.one (.c (.isl rows))=>some (.one (.c (.v (.int .i64 rows.length))))
   |false,.one (.c (.osl _ _ _ len _))=>some (.one (.c (.v (.int .i64 len))))
   |_,_=>none
 | .cap x=>match x.ev e with
   | .one (.c (.osl _ _ _ _ cap))=>some (.one (.c (.v (.int .i64 cap))))
   |_=>none
 | .ext x i=>match x.ev e with
   | .tup xs=>(xs[i]?).map .one
   |_=>none
 | .slc n x lo hi mx=>match x.ev e with
   | .one (.c (.isl rows))=>
     match mx,HD e 0 lo,HD e rows.length hi with
     |none,some l,some h=>if l≤h∧h≤rows.length∧(∀r∈rows,r.length=n) then some (.one (.c (.isl ((rows.drop l).take (h-l))))) else none
     |_,_,_=>none
   | .one (.c (.osl m id off len cap))=>
     match HD e 0 lo,HD e len hi,HD e cap mx with
     |some l,some h,some mm=>(ZU n l h mm (.osl m id off len cap)).map fun d=>.one (.c d)
     |_,_,_=>none
   |_=>none
 | .arD x=>match x.ev e with
   | .one (.c (.isl _))=>some (.one (.c .nil))
   | .one (.c (.osl _ _ _ _ _))=>some (.one (.c .nil))
   |_=>none
 | .sub x lo hi=>match x.ev e with
   | .one (.c (.v (.string s)))=>
     match HD e 0 lo,HD e s.size hi with
     |some l,some h=>if l≤h∧h≤s.size then some (.one (.c (.v (.string (s.extract l h))))) else none
     |_,_=>none
   |_=>none
 | .mmx mn x y=>match x.ev e,y.ev e with
   | .one (.c (.v (.int k a))),.one (.c (.v (.int _ b)))=>some (.one (.c (.v (.int k (if mn then (if b<a then b else a) else (if a<b then b else a))))))
   |_,_=>none
 | .field off n g x=>match x.ev e with
   | .one (.agg cs)=>if off+n≤cs.length then mkV g ((cs.drop off).take n) else none
   |_=>none
 | .aoO x i=>match x.ev e,i.ev e with
   | .one (.c (.v (.string s))),.one (.c (.v (.int _ k)))=>if 0≤k then (s[k.toNat]?).map fun b=>.one (.c (.v (.int .u8 b.toNat))) else none
   |_,_=>none
 | .build zero parts=>(sH e zero parts).map fun cs=>.one (.agg cs)
 | .xop k args=>xq k (args.map (·.ev e))
 |_=>none
def layout (P:Program) (t:TypeId):Option (Nat×Bool):=
 match P.info? t,P.underlying t with
 |some i,some (.struct _)=>some (i.size,true)
 |some i,some (.array _ _)=>some (i.size,true)
 |some i,some _=>if i.size=1 then some (1,false) else none
 |_,_=>none
def zeroOf (P:Program) (t:TypeId):Option (List D1):=
 match P.info? t with
 |some i=>match i.zero with
  |some z=>if z.cells.toList.all Value.oneCell'∧z.cells.size=i.size then some (z.cells.toList.map ofV) else none
  |none=>none
 |none=>none
def JE:Option Operand→Option (Option aT)
 |none=>some none
 |some x=>(trO x).map some
def mX (place:Nat→Option (Nat×Nat)):List (Nat×Operand)→Option (List (Nat×Nat×aT))
 | []=>some []
 | (i,x)::ps=>
   match place i,trO x,mX place ps with
   |some (off,n),some y,some r=>some ((off,n,y)::r)
   |_,_,_=>none
def kT (P:Program) (fs:Array Field) (i:Nat):Option (Nat×Nat):=
 match fs[i]? with
 |some f=>match layout P f.type with
  |some (n,_)=>some (f.offset,n)
  |none=>none
 |none=>none
def d9 (P:Program) (t:TypeId):Option (TypeId×Nat):=
 match P.underlying t with
 |some (.slice e)=>match layout P e with
  |some (n,_)=>some (e,n)
  |none=>none
 |_=>none
def M1 (P:Program) (b:Builtin) (args:List Operand) (ts:List TypeId):Option AOp:=
 match b,args,ts with
 | .len,[x],[t]=>match trO x,P.underlying t with
   |some y,some .string=>some (.len true y)
   |some y,some (.slice _)=>some (.len false y)
   |_,_=>none
 | .cap,[x],[t]=>match trO x,P.underlying t with
   |some y,some (.slice _)=>some (.cap y)
   |_,_=>none
 | .min,[x,y],_=>match trO x,trO y with
   |some x,some y=>some (.mmx true x y)
   |_,_=>none
 | .max,[x,y],_=>match trO x,trO y with
   |some x,some y=>some (.mmx false x y)
   |_,_=>none
 | .append,[s,x],[t,u]=>match trO s,trO x,d9 P t with
   |some s,some x,some (e,n)=>if t=u∧0<n∧(zeroOf P e).isSome∧P.bytesOf e≤65536 then some (.append n s x) else none
   |_,_,_=>none
 |_,_,_=>none
def F3 (P:Program):Op→Option AOp
 | .move x=>(trO x).map .move
 | .assign x=>(trO x).map .move
 | .pick c a b=>match trO c,trO a,trO b with
   |some c,some a,some b=>some (.pick c a b)
   |_,_,_=>none
 | .nilCheck x=>(trO x).map .tF
 | .load t a=>match layout P t,trO a with
   |some (n,g),some a=>some (.load n g a)
   |_,_=>none
 | .store t a x=>match layout P t,trO a,trO x with
   |some (n,g),some a,some x=>some (.store n g a x)
   |_,_,_=>none
 | .fieldAddr s x f=>match P.underlying s,trO x with
   |some (.struct fs),some x=>match fs[f]? with
    |some fd=>match layout P fd.type with
     |some (n,_)=>if n=0 then none else some (.fld fd.offset x)
     |none=>none
    |none=>none
   |_,_=>none
 | .indexAddr t x i=>match P.underlying t,trO x,trO i with
   |some (.slice e),some x,some i=>match layout P e with
    |some (n,_)=>some (.idx n x i)
    |none=>none
   |some (.array len e),some x,some i=>match layout P e with
    |some (n,_)=>some (.TL n len x i)
    |none=>none
   |_,_,_=>none
 | .binOp op t x y _=>match P.underlying t,trO x,trO y with
   |some (.int _),some x,some y=>some (.bin op x y)
   |some .string,some x,some y=>some (.bin op x y)
   |some .bool,some x,some y=>match op with
    | .eql=>some (.beq false x y)
    | .neq=>some (.beq true x y)
    |_=>none
   |_,_,_=>none
 | .unOp op _ x=>(trO x).map (.un op)
 | .convert src dst x=>match P.underlying src,P.underlying dst,trO x with
   |some (.int _),some (.int k),some x=>some (.conv k x)
   |_,_,_=>none
 | .extract x i=>(trO x).map fun x=>.ext x i
 | .slice t x none (some (.const (.int _ 0))) (some (.const (.int _ 0)))=>match P.underlying t,trO x with
   |some (.slice e),some x=>match layout P e with
    |some _=>some (.arD x)
    |none=>none
   |_,_=>none
 | .slice t x lo hi mx=>match P.underlying t,trO x,JE lo,JE hi,JE mx with
   |some (.slice e),some x,some lo,some hi,some mx=>match layout P e with
    |some (n,_)=>if mx.isSome&&hi.isNone then none else some (.slc n x lo hi mx)
    |none=>none
   |some .string,some x,some lo,some hi,some none=>some (.sub x lo hi)
   |_,_,_,_,_=>none
 | .field t x f=>match P.underlying t,trO x with
   |some (.struct fs),some x=>match fs[f]? with
    |some fd=>match layout P fd.type with
     |some (n,g)=>some (.field fd.offset n g x)
     |none=>none
    |none=>none
   |_,_=>none
 | .index t x i=>match P.underlying t,trO x,trO i with
   |some .string,some x,some i=>some (.aoO x i)
   |_,_,_=>none
 | .build t ps=>match P.underlying t,zeroOf P t with
   |some (.struct fs),some z=>if fs.all (fun f=>(P.info? f.type).isSome) then (mX (kT P fs) ps.toList).map (.build z) else none
   |some (.array _ el),some z=>match layout P el with
    |some (n,_)=>(mX (fun i=>some (i*n,n)) ps.toList).map (.build z)
    |none=>none
   |_,_=>none
 | .alloc t=>(zeroOf P t).map .alloc
 | .box t x=>match layout P t,trO x with
   |some (_,g),some x=>some (.box g x)
   |_,_=>none
 | .buildSlice t len ps=>match d9 P t with
   |some (e,n)=>match zeroOf P e with
    |some z=>if z.length=n∧len*n≤4096∧0<n then (mX (fun i=>some (i*n,n)) ps.toList).map (.bC n len z) else none
    |none=>none
   |none=>none
 | .makeSlice t l k=>match d9 P t,trO l,trO k with
   |some (e,n),some l,some k=>match zeroOf P e with
    |some z=>if z.length=n∧0<n∧P.bytesOf e≤65536 then some (.kY n z l k) else none
    |none=>none
   |_,_,_=>none
 | .call c=>match c.callee with
   | .builtin b=>M1 P b c.args.toList c.argTypes.toList
   | .value (.func f)=>(c.args.toList.mapM trO).map (.call f)
   | .value x=>match trO x,c.args.toList.mapM trO with
     |some x,some l=>some (.t5 x l)
     |_,_=>none
   |_=>none
 |_=>none
section
variable {P : Program} {c : Cf} {H : aA}
theorem iK {t:TypeId} {n:Nat} {g:Bool} (h:layout P t=some (n,g)) (w:World):
 (isAgg t).run P w= .ok g w∧(sizeOf t).run P w= .ok n w∧(g=false→n=1):=by
 unfold layout at h
 split at h
 ·rename_i i fs hi hu;simp only[Option.some.injEq,Prod.mk.injEq] at h;obtain⟨rfl,rfl⟩:=h;simp[isAgg,run_underlying hu,sizeOf,typeInfo,hi]
 ·rename_i i l e hi hu;simp only[Option.some.injEq,Prod.mk.injEq] at h;obtain⟨rfl,rfl⟩:=h;simp[isAgg,run_underlying hu,sizeOf,typeInfo,hi]
 ·rename_i i d hns hna hi hu;split at h
  ·rename_i h1;simp only[Option.some.injEq,Prod.mk.injEq] at h;obtain⟨rfl,rfl⟩:=h;refine⟨?_,by simp[sizeOf,typeInfo,hi,h1],fun _=>rfl⟩;simp only[isAgg,Sem.run_bind,run_underlying hu,Result.andThen_ok]
   cases d with
   |struct fs=>exact(hns _ rfl).elim
   |array l e=>exact(hna _ _ rfl).elim
   |_=>rfl
  ·simp at h
 ·simp at h
end
section
variable {P : Program} {c : Cf} {H : aA} {T : Nat} {e : Env} {a : Act}
theorem tO (b o k:Nat):(⟨b,o,none⟩:Addr).add k=⟨b,o+k,none⟩:=by
 unfold Addr.add;split;·rename_i h;subst h;rfl
 ·rfl
variable{cs:List D1}
theorem IU (hs:St c H){d:D1}{k:Nat} (h:tT H d k=some cs){x:Value} (hx:Rel c d x):
 ∃b o,x= .pointer (some ⟨b,o,none⟩)∧cs.length=k∧ ∀(j:Nat) (y:D1),cs[j]?=some y→∃u,c.w.cell? ⟨b,o+j,none⟩=some u∧Rel c y u:=by
 unfold tT at h
 split at h
 ·rename_i n id row col;split at h
  ·rename_i o ho;split at h
   ·rename_i hn;split at h
    ·rename_i r hr;split at h
     ·rename_i hk;simp only[Option.some.injEq] at h;subst h;simp only[Rel,bY] at hx;obtain⟨_,rfl⟩:=hx;refine⟨_,_,rfl,by simp;omega,fun j y hy=> ?_⟩;rw[s4] at hy;split at hy;·rw[s5] at hy;obtain⟨u,hu,hru⟩:=hs.cells id o row (col+j) r y ho hr hy;refine⟨u,?_,hru⟩;rw[←hu,hn];simp[t1]
      ·simp at hy
     ·simp at h
    ·simp at h
   ·simp at h
  ·simp at h
 ·rename_i cells;split at h
  ·rename_i hk;simp only[Option.some.injEq] at h;subst h;simp only[Rel,bY] at hx
   cases hx with
   |fQ _ b o f hI hc hr=>
    refine⟨b,o,rfl,by simp;omega,fun j y hy=> ?_⟩;rw[s4] at hy;split at hy;·refine⟨f j,hc j y hy,?_⟩;have:=hr j y hy;cases y<;>first|exact this| (cases this;done)
    ·simp at hy
  ·simp at h
 ·simp at h
theorem anM (f:Nat→Value) (h: ∀(j:Nat) (y:D1),cs[j]?=some y→Rel c y (f j)):rU c cs ((List.range cs.length).map f):=by refine⟨by simp,fun i d u h1 h2=> ?_⟩;simp only[p0,List.getElem?_range] at h2;have hi:i<cs.length:=(m3.1 h1).1;simp[hi] at h2;subst h2;exact h i d h1
variable{t:TypeId}{n:Nat}{g:Bool}
theorem abH (hs:St c H) (hl:layout P t=some (n,g)){d:D1}{r:D} (h:tT H d n=some cs) (hm:mkV g cs=some r)
 {x:Value} (hx:Rel c d x): ∃v,(Instr.loadAt t x).run P c.w= .ok v c.w∧fD c r v:=by
 obtain⟨b,o,rfl,hlen,hc⟩:=IU hs h hx
 obtain⟨h1,h2,h3⟩:=iK hl c.w
 have hall: ∀j,∃u:Value,∀y,cs[j]?=some y→c.w.cell? ⟨b,o+j,none⟩=some u∧Rel c y u:=by
  intro j
  cases hy:cs[j]? with
  |none=>exact⟨undef,fun y h=>by cases h⟩
  |some y=>obtain⟨u,hu⟩:=hc j y hy;exact⟨u,fun y' h=>by cases h;exact hu⟩
 obtain⟨f,hf⟩:=Classical.axiomOfChoice hall
 cases g with
 |true=>
  simp only[mkV,if_true,Option.some.injEq] at hm;subst hm
  have hld:=run_loadCells (P:=P) c.w ⟨b,o,none⟩ n f (fun j hj=>by
   rw[tO]
   have: ∃y,cs[j]?=some y:=⟨cs[j]'(by omega),n1 (by omega)⟩
   obtain⟨y,hy⟩:=this
   exact(hf j y hy).1)
  refine⟨.agg ((List.range n).map f).toArray,?_,?_⟩;·simp[Instr.loadAt,Instr.sureAddr,loadVar,h1,h2,hld]
  ·exact⟨_,rfl,by rw[←hlen];exact anM f (fun j y hy=>(hf j y hy).2)⟩
 |false=>
  simp only[mkV] at hm;have:=h3 rfl;subst this
  match cs,hlen with
  | [y],_=>simp at hm;subst hm;obtain⟨hu,hr⟩:=hf 0 y rfl;refine⟨f 0,?_,hr⟩;simp only[Nat.add_zero] at hu;simp[Instr.loadAt,Instr.sureAddr,loadVar,h1,hu]
theorem abM{x:Option Operand}{y:Option aT}{d k:Nat} (he:ER c T e a) (ht:JE x=some y) (h:HD e d y=some k) (lim:Nat) (hk:k≤lim) (code:BoundsCode):
 (x=none∧k=d)∨ ∃v,x.map a.eval=some v∧(Instr.sliceBound v lim code).run P c.w= .ok k c.w:=by
 cases x with
 |none=>simp only[JE,Option.some.injEq] at ht;subst ht;simp only[HD,Option.some.injEq] at h;exact .inl ⟨rfl,h.symm⟩
 |some x=>
  simp only[JE,m4] at ht;obtain⟨z,hz,rfl⟩:=ht;simp only[HD] at h;split at h
  ·rename_i q i hv;split at h;·rename_i hi;simp only[Option.some.injEq] at h;subst h;have hr:=lP he hz;rw[hv] at hr;simp only[fD,jZ,Rel,bY] at hr;cases hq:a.eval x<;>rw[hq] at hr<;>cases hr;refine .inr ⟨_,rfl,?_⟩;rw[hq];have:i≤(lim:Int):=(by omega);simp[Instr.sliceBound,asIntOf,hi,this]
   ·simp at h
  ·simp at h
theorem x6{x y:Value} (h:Rel c (.v x) y):y=x:=by simp only[Rel,bY] at h;cases h;rfl
theorem IS{x:Value} (h:x.oneCell'=true):Rel c (.v x) x:=by simp only[Rel,bY];exact .v x h
variable{x:Operand}
theorem xU{y:aT}{v:Value} (he:ER c T e a) (ht:trO x=some y) (h:y.ev e= .one (.c (.v v))):a.eval x=v:=by have:=lP he ht;rw[h] at this;exact x6 this
theorem qD{y:aT}{d:D1} (he:ER c T e a) (ht:trO x=some y) (h:y.ev e= .one (.c d)):Rel c d (a.eval x):=by have:=lP he ht;rw[h] at this;exact this
theorem alJ{op:BinOp}{x y v:Value} (h:SA op x y=some v):v.oneCell'=true:=by unfold SA at h;split at h<;>(repeat (split at h))<;>first| (simp only[Option.some.injEq] at h;subst h;rfl)|simp at h
variable{y:Operand}
theorem aaQ{op:BinOp}{u v r:Value} (h:SA op u v=some r) (w:World):(eqGuard op t x y u v).run P w= .ok () w:=by unfold SA at h;split at h<;>first| (simp at h;done)|simp[eqGuard]
theorem LG{x:Option Operand}{y:Option aT} (h:JE x=some y):(x=none↔y=none):=by
 cases x with
 |none=>simp only[JE,Option.some.injEq] at h;subst h;simp
 |some x=>simp only[JE,m4] at h;obtain⟨z,_,rfl⟩:=h;simp
theorem KR{b:Bool}:Rel c (.v (.bool b)) (.bool b):=IS rfl
theorem oU{k:IntKind}{n:Int}:Rel c (.v (.int k n)) (.int k n):=IS rfl
theorem aiR{t:Bool}{x y:D}{u v:Value} (hx:fD c x u) (hy:fD c y v):fD c (aa5 t x y) (if t then u else v):=by
 unfold aa5;split;·have h1:=x6 (c:=c) hx;have h2:=x6 (c:=c) hy;subst h1;subst h2;cases t<;>exact KR
 ·cases t<;>assumption
theorem YG{rows:List (List D1)}{x:Value} (hx:Rel c (.isl rows) x): ∃a cap,x= .slice a rows.length cap∧rows.length≤cap:=by
 simp only[Rel,bY] at hx
 cases hx with
 |isl _ a cap n b o f ha hcap hn hc hr=>exact⟨a,cap,rfl,hcap⟩
theorem aoA{rows:List (List D1)}{a:Option Addr}{cap l h:Nat} (hx:Rel c (.isl rows) (.slice a rows.length cap)) (hl:l≤h) (hh:h≤rows.length) (hn: ∀r∈rows,r.length=n):
 Rel c (.isl ((rows.drop l).take (h-l))) (.slice (if cap=l then a else a.map (·.add (l*n))) (h-l) (cap-l)):=by
 simp only[Rel,bY] at hx ⊢
 generalize hv:Value.slice a rows.length cap=v at hx
 cases hx with
 |isl _ a' cap' n' b o f ha hcap hn' hc hr=>
  injection hv with h1 h2 h3;subst h1;subst h3;have hlen:((rows.drop l).take (h-l)).length=h-l:=by simp;omega
  have hsub: ∀(i:Nat) (r:List D1),((rows.drop l).take (h-l))[i]?=some r→rows[l+i]?=some r:=by
   intro i r hr;rw[s4] at hr;split at hr;·rw[s5] at hr;exact hr
   ·simp at hr
  conv=>arg 4;rw[←hlen]
  have hnn: ∀(i:Nat) (r:List D1),rows[i]?=some r→n'=n:=fun i r hr=>(hn' i r hr).symm.trans (hn r (s3 hr));refine .isl _ _ _ n' b (o+l*n') (fun i j=>f (l+i) j) (fun hne=> ?_) (by rw[hlen];omega) (fun i r hr=>hn' _ r (hsub i r hr)) (fun i j r d h1 h2=> ?_) (fun i j r d h1 h2=>hr (l+i) j r d (hsub i r h1) h2)
  ·have hne':rows≠[]:=(by rintro rfl;simp at hne);obtain⟨rfl,hI⟩:=ha hne'
   have hpos:0<h-l:=by
    rcases CR (h-l) with h0|h0;·rw[h0] at hne;simp at hne
    ·exact h0
   have hn2:n'=n:=by
    match rows,hne' with
    |r::_,_=>exact hnn 0 r rfl
   subst hn2;rw[if_neg (by omega)];exact⟨by simp[tO],hI⟩
  ·rw[←hc (l+i) j r d (hsub i r h1) h2];congr 2;rw[o4];omega
variable{el:TypeId}
theorem L5{x:Value}{lo hi mx:Option Value}{A:Option Addr}{len cap l h m:Nat} (hu:P.underlying t=some (.slice el)) (hsz:(sizeOf el).run P c.w= .ok n c.w)
 (hx:x= .slice A len cap)
 (hm:(mx=none∧m=cap)∨ ∃v,mx=some v∧(Instr.sliceBound v cap .slice3Acap).run P c.w= .ok m c.w)
 (hh:(hi=none∧h=len∧mx=none)∨ ∃v,hi=some v∧(∀code,(Instr.sliceBound v m code).run P c.w= .ok h c.w))
 (hl:(lo=none∧l=0)∨ ∃v,lo=some v∧(∀code,(Instr.sliceBound v h code).run P c.w= .ok l c.w)):
 (Instr.sliceAt t x lo hi mx).run P c.w= .ok (.slice (if m=l then A else A.map (·.add (l*n))) (h-l) (m-l)) c.w:=by
 subst hx
 rcases hm with⟨rfl,rfl⟩|⟨vm,rfl,hm⟩
 ·rcases hh with⟨rfl,rfl,_⟩|⟨vh,rfl,hh⟩
  ·rcases hl with⟨rfl,rfl⟩|⟨vl,rfl,hl⟩
   ·simp[Instr.sliceAt,Instr.slice,run_underlying hu,Instr.sliceBounds,hsz]
   ·simp[Instr.sliceAt,Instr.slice,run_underlying hu,Instr.sliceBounds,hsz,hl]
  ·rcases hl with⟨rfl,rfl⟩|⟨vl,rfl,hl⟩
   ·simp[Instr.sliceAt,Instr.slice,run_underlying hu,Instr.sliceBounds,hsz,hh]
   ·simp[Instr.sliceAt,Instr.slice,run_underlying hu,Instr.sliceBounds,hsz,hh,hl]
 ·rcases hh with⟨rfl,rfl,h3⟩|⟨vh,rfl,hh⟩
  ·simp at h3
  ·rcases hl with⟨rfl,rfl⟩|⟨vl,rfl,hl⟩
   ·simp[Instr.sliceAt,Instr.slice,run_underlying hu,Instr.sliceBounds,hsz,hm,hh]
   ·simp[Instr.sliceAt,Instr.slice,run_underlying hu,Instr.sliceBounds,hsz,hm,hh,hl]
def kF (P:Program) (c:Cf) (a:Act) (o:Oper) (d:D):Prop:=∃v,(execOp a.eval o).run P c.w= .ok (.value v) c.w∧fD c d v
variable{o:Oper}{d:D}
theorem ajL (he:ER c T e a){y:aT} (ho:o.op= .move x∨o.op= .assign x) (ht:trO x=some y) (hq:aU H e (.move y)=some d):kF P c a o d:=by simp only[aU,Option.some.injEq] at hq;subst hq;refine⟨a.eval x,?_,lP he ht⟩;rcases ho with ho|ho<;>simp[execOp,ho]
variable{x':aT}
theorem aq3 (he:ER c T e a){z:Operand}{y' z':aT} (ho:o.op= .pick x y z) (hx:trO x=some x') (hy:trO y=some y') (hz:trO z=some z')
 (hq:aU H e (.pick x' y' z')=some d):kF P c a o d:=by
 simp only[aU] at hq
 split at hq
 ·rename_i t hv;simp only[Option.some.injEq] at hq;subst hq;have h1:=xU he hx hv;refine⟨if t then a.eval y else a.eval z,?_,aiR (lP he hy) (lP he hz)⟩;simp[execOp,ho,h1,asBool]
 ·simp at hq
theorem aj0 (he:ER c T e a) (ho:o.op= .nilCheck x) (hx:trO x=some x') (hq:aU H e (.tF x')=some d):kF P c a o d:=by
 simp only[aU] at hq;have key: ∀(D:D1) (p:Addr),x'.ev e= .one (.c D)→a.eval x= .pointer (some p)→kF P c a o (.one (.c D)):=by intro D p h1 h2;refine⟨a.eval x,?_,qD he hx h1⟩;simp[execOp,ho,h2]
 split at hq;·rename_i n id row col hv;simp only[Option.some.injEq] at hq;subst hq;have h1:=qD he hx hv;simp only[Rel,bY] at h1;exact key _ _ hv h1.2
 ·rename_i cs hv;simp only[Option.some.injEq] at hq;subst hq;have h1:=qD he hx hv;simp only[Rel,bY] at h1;generalize hg:a.eval x=v at h1;cases h1;exact key _ _ hv hg
 ·simp at hq
theorem arH (hs:St c H) (he:ER c T e a) (ho:o.op= .load t x) (hl:layout P t=some (n,g)) (hx:trO x=some x')
 (hq:aU H e (.load n g x')=some d):kF P c a o d:=by
 simp only[aU] at hq
 split at hq
 ·rename_i d1 hv;simp only[KM] at hq;obtain⟨cs,h1,h2⟩:=hq;obtain⟨v,hr,hd⟩:=abH hs hl h1 h2 (qD he hx hv);exact⟨v,by simp[execOp,ho,hr],hd⟩
 ·simp at hq
theorem ar2 (he:ER c T e a){s:TypeId}{f:Nat}{fs:Array Field}{fd:Field} (ho:o.op= .fieldAddr s x f) (hu:P.underlying s=some (.struct fs)) (hf:fs[f]?=some fd)
 (hl:layout P fd.type=some (n,g)) (hn:n≠0) (hx:trO x=some x') (hq:aU H e (.fld fd.offset x')=some d):kF P c a o d:=by
 simp only[aU] at hq
 have hrun: ∀b p,a.eval x= .pointer (some ⟨b,p,none⟩)→(execOp a.eval o).run P c.w= .ok (.value (.pointer (some ⟨b,p+fd.offset,none⟩))) c.w:=by intro b p h;have h2:=(iK hl c.w).2.1;simp[execOp,ho,h,Instr.fieldAt,run_underlying hu,hf,Instr.sureAddr,fieldPlace,h2,hn,tO]
 split at hq
 ·rename_i n' id row col hv;simp only[Option.some.injEq] at hq;subst hq;have h1:=qD he hx hv;simp only[Rel,bY] at h1;refine⟨_,hrun _ _ h1.2,?_⟩;simp only[fD,jZ,Rel,bY];exact⟨h1.1,by simp[t1]⟩
 ·rename_i cs hv;simp only[Option.some.injEq] at hq;subst hq;have h1:=qD he hx hv;simp only[Rel,bY] at h1;generalize hg:a.eval x=v at h1
  cases h1 with
  |fQ _ b p f hI hc hr=>refine⟨_,hrun _ _ hg,?_⟩;simp only[fD,jZ,Rel,bY];refine .fQ _ b (p+fd.offset) (fun j=>f (fd.offset+j)) hI (fun j y hy=> ?_) (fun j y hy=>hr _ y (by rw[s5] at hy;exact hy));rw[s5] at hy;rw[t1];exact hc _ y hy
 ·simp at hq
theorem asH (he:ER c T e a){i:Operand}{i':aT} (ho:o.op= .indexAddr t x i) (hu:P.underlying t=some (.slice el))
 (hl:layout P el=some (n,g)) (hx:trO x=some x') (hi:trO i=some i') (hq:aU H e (.idx n x' i')=some d):kF P c a o d:=by
 simp only[aU] at hq
 have hsz:=(iK hl c.w).2.1
 have hrun: ∀b p len cap q k,a.eval x= .slice (some ⟨b,p,none⟩) len cap→a.eval i= .int q k→0≤k→k<len→
  (execOp a.eval o).run P c.w= .ok (.value (.pointer (some ⟨b,p+k.toNat*n,none⟩))) c.w:=by
  intro b p len cap q k h1 h2 h3 h4
  simp[execOp,ho,h1,h2,Instr.indexAt,asIntOf,run_underlying hu,h3,h4,hsz,tO]
 split at hq
 ·rename_i m id off len cap q k hv hk;split at hq
  ·rename_i hc;obtain⟨rfl,h0,hlt⟩:=hc;simp only[Option.some.injEq] at hq;subst hq;have h1:=qD he hx hv;have h2:=xU he hi hk;simp only[Rel,bY] at h1;obtain⟨hle,⟨hc0,_⟩|⟨hcp,hN,h1⟩⟩:=h1;·omega
   ·refine⟨_,hrun _ _ _ _ _ _ h1 h2 h0 hlt,?_⟩;simp only[fD,jZ,Rel,bY];exact⟨hN,by simp[o4,t1]⟩
  ·simp at hq
 ·rename_i rows q k hv hk;split at hq
  ·rename_i h0;split at hq
   ·rename_i r hr;split at hq
    ·rename_i hrn;simp only[Option.some.injEq] at hq;subst hq;have h1:=qD he hx hv;have h2:=xU he hi hk;simp only[Rel,bY] at h1;generalize hg:a.eval x=v at h1
     cases h1 with
     |isl _ A cap n' b p f ha hcap hn' hc hrr=>have hne:rows≠[]:=(by rintro rfl;simp at hr);obtain⟨rfl,hI⟩:=ha hne;have hlt:k.toNat<rows.length:=(m3.1 hr).1;have hnn:n'=n:=(hn' _ r hr).symm.trans hrn;subst hnn;refine⟨_,hrun _ _ _ _ _ _ hg h2 h0 (by omega),?_⟩;simp only[fD,jZ,Rel,bY];exact .fQ r b _ (fun j=>f k.toNat j) hI (fun j y hy=>by rw[t1];exact hc k.toNat j r y hr hy) (fun j y hy=>hrr k.toNat j r y hr hy)
    ·simp at hq
   ·simp at hq
  ·simp at hq
 ·simp at hq
theorem ar0 (he:ER c T e a){i:Operand}{i':aT}{len:Nat} (ho:o.op= .indexAddr t x i) (hu:P.underlying t=some (.array len el))
 (hl:layout P el=some (n,g)) (hx:trO x=some x') (hi:trO i=some i') (hq:aU H e (.TL n len x' i')=some d):kF P c a o d:=by
 simp only[aU] at hq
 have hsz:=(iK hl c.w).2.1
 split at hq
 ·rename_i m id row col q k hv hk;split at hq
  ·rename_i hc;obtain⟨h0,hlt⟩:=hc;simp only[Option.some.injEq] at hq;subst hq;have h1:=qD he hx hv;have h2:=xU he hi hk;simp only[Rel,bY] at h1;refine⟨.pointer (some ⟨(c.ρ id).1,(c.ρ id).2+(row*m+col)+k.toNat*n,none⟩),?_,?_⟩;·simp[execOp,ho,h1.2,h2,Instr.indexAt,Instr.sureAddr,asIntOf,run_underlying hu,h0,hlt,hsz,tO]
   ·simp only[fD,jZ,Rel,bY];exact⟨h1.1,by simp[t1]⟩
  ·simp at hq
 ·simp at hq
theorem apU (he:ER c T e a){op:BinOp}{t':TypeId}{y':aT} (ho:o.op= .binOp op t x y t') (hx:trO x=some x') (hy:trO y=some y')
 (hq:aU H e (.bin op x' y')=some d):kF P c a o d:=by
 simp only[aU] at hq
 split at hq
 ·rename_i u v hu hv;simp only[m4] at hq;obtain⟨r,hr,rfl⟩:=hq;have h1:=xU he hx hu;have h2:=xU he hy hv;refine⟨r,?_,IS (alJ hr)⟩;simp[execOp,ho,h1,h2,aaQ hr,akK hr]
 ·simp at hq
theorem apV (he:ER c T e a){neg:Bool}{t':TypeId}{y':aT} (ho:o.op= .binOp (if neg then .neq else .eql) t x y t') (hu:P.underlying t=some .bool)
 (hx:trO x=some x') (hy:trO y=some y') (hq:aU H e (.beq neg x' y')=some d):kF P c a o d:=by
 simp only[aU] at hq
 split at hq
 ·rename_i u v hu' hv;simp only[Option.some.injEq] at hq;subst hq;have h1:=xU he hx hu';have h2:=xU he hy hv
  have heq:(Op.equal t (.bool u) (.bool v)).run P c.w= .ok (u==v) c.w:=by
   have: ∀d,(Op.equalIn (d+1) t (.bool u) (.bool v)).run P c.w= .ok (u==v) c.w:=fun d=>by simp only[Op.equalIn,Sem.run_bind,run_underlying hu,Result.andThen_ok,Sem.run_pure]
   exact this 9999
  refine⟨_,?_,KR⟩;cases neg;·simp only[execOp,ho,h1,h2,CC,if_false,eqGuard,binOp,Sem.run_bind,Result.andThen_ok,Sem.run_pure];simp[heq]
  ·simp only[execOp,ho,h1,h2,if_true,eqGuard,binOp,Sem.run_bind,Result.andThen_ok,Sem.run_pure];simp[heq,bne]
 ·simp at hq
theorem as4 (he:ER c T e a){op:UnOp} (ho:o.op= .unOp op t x) (hx:trO x=some x') (hq:aU H e (.un op x')=some d):kF P c a o d:=by
 simp only[aU] at hq;split at hq;·rename_i b hv;simp only[Option.some.injEq] at hq;subst hq;have h1:=xU he hx hv;exact⟨_,by simp[execOp,ho,h1,Op.unary],KR⟩
 ·rename_i k n hv;simp only[Option.some.injEq] at hq;subst hq;have h1:=xU he hx hv;exact⟨_,by simp[execOp,ho,h1,Op.unary,Op.intArith],oU⟩
 ·simp at hq
theorem aqO (he:ER c T e a){s:TypeId}{k k0:IntKind} (ho:o.op= .convert s t x) (hs':P.underlying s=some (.int k0)) (hu:P.underlying t=some (.int k)) (hx:trO x=some x')
 (hq:aU H e (.conv k x')=some d):kF P c a o d:=by
 simp only[aU] at hq
 split at hq
 ·rename_i q n hv;simp only[Option.some.injEq] at hq;subst hq;have h1:=xU he hx hv;exact⟨_,by simp[execOp,ho,h1,convert,run_underlying hs',run_underlying hu,Conv.intToInt],oU⟩
 ·simp at hq
theorem asE (he:ER c T e a){i:Nat} (ho:o.op= .extract x i) (hx:trO x=some x') (hq:aU H e (.ext x' i)=some d):kF P c a o d:=by
 simp only[aU] at hq;split at hq
 ·rename_i xs hv;simp only[m4] at hq;obtain⟨y,hy,rfl⟩:=hq;have h1:=lP he hx;rw[hv] at h1;obtain⟨vs,hvs,hl,hr⟩:=h1;have hi:i<vs.length:=by rw[hl];exact(m3.1 hy).1
  refine⟨vs[i],?_,hr i y _ hy (n1 hi)⟩;simp[execOp,ho,hvs,Instr.extract,hi]
 ·simp at hq
theorem ap0 (he:ER c T e a){str:Bool} (ho:o.op= .call {callee:=.builtin .len,args:=#[x],argTypes:=#[t]})
 (hu:if str then P.underlying t=some .string else ∃el,P.underlying t=some (.slice el)) (hx:trO x=some x') (hq:aU H e (.len str x')=some d):kF P c a o d:=by
 simp only[aU] at hq
 split at hq
 ·rename_i s hv;simp only[Option.some.injEq] at hq;subst hq;simp only[if_true] at hu;have h1:=xU he hx hv;exact⟨_,by simp[execOp,ho,resolve,invoke,builtin,h1,Builtin.len_,run_underlying hu,goInt],oU⟩
 ·rename_i rows hv;simp only[Option.some.injEq] at hq;subst hq;simp only[CC,if_false] at hu;obtain⟨el,hu⟩:=hu;obtain⟨A,cap,h1,_⟩:=YG (qD he hx hv);exact⟨_,by simp[execOp,ho,resolve,invoke,builtin,h1,Builtin.len_,run_underlying hu,goInt],oU⟩
 ·rename_i n id off len cap hv;simp only[Option.some.injEq] at hq;subst hq;simp only[CC,if_false] at hu;obtain⟨el,hu⟩:=hu;have h1:=qD he hx hv;simp only[Rel,bY] at h1;obtain⟨hle,⟨hc0,A,h1⟩|⟨_,_,h1⟩⟩:=h1;·have:len=0:=(by omega);subst this;exact⟨_,by simp[execOp,ho,resolve,invoke,builtin,h1,Builtin.len_,run_underlying hu,goInt],oU⟩
  ·exact⟨_,by simp[execOp,ho,resolve,invoke,builtin,h1,Builtin.len_,run_underlying hu,goInt],oU⟩
 ·simp at hq
theorem asC (he:ER c T e a) (ho:o.op= .call {callee:=.builtin .cap,args:=#[x],argTypes:=#[t]})
 (hu:P.underlying t=some (.slice el)) (hx:trO x=some x') (hq:aU H e (.cap x')=some d):kF P c a o d:=by
 simp only[aU] at hq
 split at hq
 ·rename_i n id off len cap hv;simp only[Option.some.injEq] at hq;subst hq;have h1:=qD he hx hv;simp only[Rel,bY] at h1;obtain⟨hle,⟨hc0,A,h1⟩|⟨_,_,h1⟩⟩:=h1;·subst hc0;exact⟨_,by simp[execOp,ho,resolve,invoke,builtin,h1,Builtin.cap_,run_underlying hu,goInt],oU⟩
  ·exact⟨_,by simp[execOp,ho,resolve,invoke,builtin,h1,Builtin.cap_,run_underlying hu,goInt],oU⟩
 ·simp at hq
theorem as0 (he:ER c T e a){y':aT}{ts:Array TypeId}{mn:Bool} (ho:o.op= .call {callee:=.builtin (if mn then .min else .max),args:=#[x,y],argTypes:=ts})
 (hx:trO x=some x') (hy:trO y=some y') (hq:aU H e (.mmx mn x' y')=some d):kF P c a o d:=by
 simp only[aU] at hq
 split at hq
 ·rename_i k u q v hu hv;simp only[Option.some.injEq] at hq;subst hq;have h1:=xU he hx hu;have h2:=xU he hy hv;cases mn;·exact⟨_,by simp[execOp,ho,resolve,invoke,builtin,h1,h2,Builtin.max_,Builtin.max2],oU⟩
  ·exact⟨_,by simp[execOp,ho,resolve,invoke,builtin,h1,h2,Builtin.min_,Builtin.min2],oU⟩
 ·simp at hq
theorem aqJ (he:ER c T e a){i:Operand}{i':aT} (ho:o.op= .index t x i) (hu:P.underlying t=some .string)
 (hx:trO x=some x') (hi:trO i=some i') (hq:aU H e (.aoO x' i')=some d):kF P c a o d:=by
 simp only[aU] at hq
 split at hq
 ·rename_i s q k hv hk;split at hq;·rename_i h0;simp only[m4] at hq;obtain⟨b,hb,rfl⟩:=hq;have h1:=xU he hx hv;have h2:=xU he hi hk;exact⟨_,by simp[execOp,ho,h1,h2,Instr.index,asIntOf,run_underlying hu,h0,hb],oU⟩
  ·simp at hq
 ·simp at hq
theorem sV{x:Option Operand}{y:Option aT}{d k:Nat} (he:ER c T e a) (ht:JE x=some y) (h:HD e d y=some k) (lim:Nat) (hk:k≤lim):
 (x=none∧k=d)∨ ∃v,x.map a.eval=some v∧ ∀code,(Instr.sliceBound v lim code).run P c.w= .ok k c.w:=by
 rcases abM (P:=P) he ht h lim hk .index with h1|⟨v,h1,_⟩
 ·exact .inl h1
 ·refine .inr ⟨v,h1,fun code=> ?_⟩;rcases abM (P:=P) he ht h lim hk code with⟨h2,_⟩|⟨v',h2,h3⟩
  ·subst h2;simp at h1
  ·rw[h1] at h2;cases h2;exact h3
theorem as3 (he:ER c T e a){lo hi mx:Option Operand}{lo' hi' mx':Option aT} (ho:o.op= .slice t x lo hi mx)
 (hu:P.underlying t=some (.slice el)) (hl:layout P el=some (n,g)) (hx:trO x=some x') (hlo:JE lo=some lo') (hhi:JE hi=some hi') (hmx:JE mx=some mx')
 (hmh:mx'≠none→hi'≠none) (hq:aU H e (.slc n x' lo' hi' mx')=some d):kF P c a o d:=by
 have hsz:=(iK hl c.w).2.1
 simp only[aU] at hq
 split at hq
 ·rename_i rows hv;split at hq
  ·rename_i l h h1 h2;split at hq
   ·rename_i hc;obtain⟨hle,hlen,hall⟩:=hc;simp only[Option.some.injEq] at hq;subst hq;obtain⟨A,cap,hA,hcap⟩:=YG (qD he hx hv);have hrel:=qD he hx hv;rw[hA] at hrel;have hmx0:mx=none:=(LG hmx).2 rfl;subst hmx0;have r1:=sV (P:=P) he hlo h1 h hle;have r2:=sV (P:=P) he hhi h2 cap (by omega)
    have hrun:=L5 (P:=P) (c:=c) (l:=l) (h:=h) (x:=a.eval x) (lo:=lo.map a.eval) (hi:=hi.map a.eval) (mx:=none) (m:=cap) hu hsz hA (.inl ⟨rfl,rfl⟩)
     (by rcases r2 with⟨rfl,rfl⟩|r2;exact .inl ⟨rfl,rfl,rfl⟩;exact .inr r2) (by rcases r1 with⟨rfl,rfl⟩|r1;exact .inl ⟨rfl,rfl⟩;exact .inr r1)
    exact⟨_,by simp only[execOp,ho,Option.map_none,Sem.run_bind,hrun,Result.andThen_ok,Sem.run_pure],aoA hrel hle hlen hall⟩
   ·simp at hq
  ·simp at hq
 ·rename_i m id off len cap hv;split at hq
  ·rename_i l h mm h1 h2 h3;simp only[m4,ZU] at hq;obtain⟨d1,hd,rfl⟩:=hq;split at hd
   ·rename_i hmn;split at hd
    ·rename_i hc;obtain⟨hlh,hhm,hmc⟩:=hc;simp only[Option.some.injEq] at hd;subst hd;have hrel:=qD he hx hv;simp only[Rel,bY] at hrel;obtain⟨hlc,hrel⟩:=hrel
     have hA: ∃A,a.eval x= .slice A len cap:=by
      rcases hrel with⟨hc0,A,hx0⟩|⟨_,_,hx0⟩
      ·subst hc0;have:len=0:=(by omega);subst this;exact⟨A,hx0⟩
      ·exact⟨_,hx0⟩
     obtain⟨A,hA⟩:=hA;have r1:=sV (P:=P) he hlo h1 h hlh;have r2:=sV (P:=P) he hhi h2 mm hhm;have r3:=sV (P:=P) he hmx h3 cap hmc
     have hrun:=L5 (P:=P) (c:=c) (l:=l) (h:=h) (x:=a.eval x) (lo:=lo.map a.eval) (hi:=hi.map a.eval) (mx:=mx.map a.eval) (m:=mm) hu hsz hA
      (by rcases r3 with⟨rfl,rfl⟩|⟨v,h4,h5⟩;exact .inl ⟨rfl,rfl⟩;exact .inr ⟨v,h4,h5 _⟩)
      (by rcases r2 with⟨rfl,rfl⟩|r2
          ·refine .inl ⟨rfl,rfl,?_⟩
           cases mx with
           |none=>rfl
           |some y=>have hn0:hi'=none:=(LG hhi).1 rfl;exact absurd hn0 (hmh (fun h0=>by have:=(LG hmx).2 h0;simp at this))
          ·exact .inr r2)
      (by rcases r1 with⟨rfl,rfl⟩|r1;exact .inl ⟨rfl,rfl⟩;exact .inr r1)
     refine⟨_,by simp only[execOp,ho,Sem.run_bind,hrun,Result.andThen_ok,Sem.run_pure];rfl,?_⟩;simp only[fD,jZ,Rel,bY];refine⟨by omega,?_⟩;rcases CR (mm-l) with h0|h0;·have:h-l=0:=(by omega);rw[h0,this];exact .inl ⟨rfl,_,rfl⟩
     ·rcases hrel with⟨hc0,_⟩|⟨_,hN,hx0⟩
      ·omega
      ·have hmn':m=n:=(by omega);subst hmn';rw[hA] at hx0;injection hx0 with e1 e2 e3;refine .inr ⟨h0,hN,?_⟩;rw[if_neg (by omega),e1];simp[tO,o4,t1]
    ·simp at hd
   ·simp at hd
  ·simp at hq
 ·simp at hq
theorem asZ (he:ER c T e a){lo hi:Option Operand}{lo' hi':Option aT} (ho:o.op= .slice t x lo hi none)
 (hu:P.underlying t=some .string) (hx:trO x=some x') (hlo:JE lo=some lo') (hhi:JE hi=some hi') (hq:aU H e (.sub x' lo' hi')=some d):kF P c a o d:=by
 simp only[aU] at hq
 split at hq
 ·rename_i s hv;split at hq
  ·rename_i l h h1 h2;split at hq
   ·rename_i hc;simp only[Option.some.injEq] at hq;subst hq;have hA:=xU he hx hv;have r1:=sV (P:=P) he hlo h1 h hc.1;have r2:=sV (P:=P) he hhi h2 s.size hc.2;refine⟨.string (s.extract l h),?_,IS rfl⟩;rcases r1 with⟨rfl,rfl⟩|⟨v1,e1,r1⟩<;>rcases r2 with⟨rfl,rfl⟩|⟨v2,e2,r2⟩
    ·simp[execOp,ho,hA,Instr.sliceAt,run_underlying hu,Instr.slice,Instr.sliceBounds]
    ·simp[execOp,ho,hA,Instr.sliceAt,run_underlying hu,Instr.slice,Instr.sliceBounds,e2,r2]
    ·simp[execOp,ho,hA,Instr.sliceAt,run_underlying hu,Instr.slice,Instr.sliceBounds,e1,r1]
    ·simp[execOp,ho,hA,Instr.sliceAt,run_underlying hu,Instr.slice,Instr.sliceBounds,e1,r1,e2,r2]
   ·simp at hq
  ·simp at hq
 ·simp at hq
theorem apE (he:ER c T e a){s:TypeId}{f:Nat}{fs:Array Field}{fd:Field} (ho:o.op= .field s x f) (hu:P.underlying s=some (.struct fs)) (hf:fs[f]?=some fd)
 (hl:layout P fd.type=some (n,g)) (hx:trO x=some x') (hq:aU H e (.field fd.offset n g x')=some d):kF P c a o d:=by
 obtain⟨h1,h2,h3⟩:=iK hl c.w
 simp only[aU] at hq
 split at hq
 ·rename_i cs hv;split at hq
  ·rename_i hlen;have hr:=lP he hx;rw[hv] at hr;obtain⟨vs,hvs,hvl,hvr⟩:=hr
   cases g with
   |true=>
    simp only[mkV,if_true,Option.some.injEq] at hq;subst hq;refine⟨.agg (vs.toArray.extract fd.offset (fd.offset+n)),?_,?_⟩;·simp[execOp,ho,hvs,Instr.field,run_underlying hu,hf,asAgg,part,h1,h2]
    ·refine⟨(vs.drop fd.offset).take n,by simp[List.extract_toArray,List.extract_eq_take_drop],?_,?_⟩;·simp;omega
     ·intro i y u hy hu';rw[s4] at hy hu';split at hy;·rename_i hi;rw[if_pos hi] at hu';rw[s5] at hy hu';exact hvr _ y u hy hu'
      ·simp at hy
   |false=>
    have:=h3 rfl;subst this;simp only[mkV] at hq;have hd: ∃y,cs[fd.offset]?=some y:=⟨cs[fd.offset]'(by omega),n1 (by omega)⟩
    obtain⟨y,hy⟩:=hd;have hone:(cs.drop fd.offset).take 1=[y]:=(by rw[brB (by omega)];simp only[List.take_succ_cons,List.take_zero];rw[n1 (by omega)] at hy;simpa using hy);rw[hone] at hq;simp at hq;subst hq;have hu':vs[fd.offset]?=some (vs[fd.offset]'(by omega)):=n1 (by omega);refine⟨vs[fd.offset]'(by omega),?_,hvr _ y _ hy hu'⟩;have hlt:fd.offset<vs.length:=(by omega);simp[execOp,ho,hvs,Instr.field,run_underlying hu,hf,asAgg,part,h1,hlt]
  ·simp at hq
 ·simp at hq
theorem aa7: ∀(ds:List Value) (k off:Nat) (cs:Array Value),off+k+ds.length≤cs.size→
 ((ds.zipIdx k).foldl (fun(cs:Array Value) (p:Value×Nat)=>cs.setIfInBounds (off+p.2) p.1) cs).toList=cs.toList.take (off+k)++ds++cs.toList.drop (off+k+ds.length)
 | [],k,off,cs,_=>by simp
 |x::ds,k,off,cs,h=>by simp only[List.zipIdx_cons,List.foldl_cons];rw[aa7 ds (k+1) off _ (by simp at h ⊢;omega)];have e:=list_seg_step cs.toList (off+k) x ds (by simp at h ⊢;omega);simp only[List.length_cons] at*;rw[show off+(k+1)=off+k+1 from by omega];simpa [Array.toList_setIfInBounds] using e
theorem ajD{ds:List D1}{us vs:List Value}{off:Nat} (h1:rU c cs us) (h2:rU c ds vs) (hl:off+ds.length≤cs.length):
 rU c (iA cs off ds) (us.take off++vs++us.drop (off+vs.length)):=by
 have e1:=h1.1
 have e2:=h2.1
 refine⟨by simp[iA];omega,fun i d u hd hu=> ?_⟩
 simp only[iA,C0] at hd hu
 rw[o5] at hd hu
 rw[o5] at hd hu
 simp only[CG,s4,s5] at hd hu
 have hm1:min off cs.length=off:=by omega
 have hm2:min off us.length=off:=by omega
 rw[hm1] at hd;rw[hm2] at hu
 by_cases hi:i<off
 ·rw[if_pos hi,if_pos hi] at hd hu;exact h1.2 i d u hd hu
 ·rw[if_neg hi] at hd hu;by_cases hj:i-off<ds.length;·rw[if_pos hj] at hd;rw[if_pos (by omega)] at hu;exact h2.2 _ d u hd hu
  ·rw[if_neg hj] at hd;rw[if_neg (by omega)] at hu;rw[e2] at hu;exact h1.2 _ d u hd hu
theorem G1{d:DV}{x:Value} (h:jZ c d x):rU c d.cells x.cells.toList:=by
 cases d with
 |c d=>
  simp only[jZ] at h;have h1:=h.oQ;have hc:x.cells= #[x]:=by cases x<;>first|rfl|simp[Value.oneCell'] at h1
  rw[hc];refine⟨rfl,fun i d' u h2 h3=> ?_⟩
  match i with
  |0=>simp[DV.cells] at h2 h3;subst h2;subst h3;exact h
  |i+1=>simp[DV.cells] at h2
 |agg cs=>obtain⟨vs,rfl,hr⟩:=h;simpa [Value.cells,DV.cells] using hr
theorem KA (he:ER c T e a) (place:Nat→Option (Nat×Nat)): ∀(ps:List (Nat×Operand)) (qs:List (Nat×Nat×aT)) (cs:List D1) (us:Array Value) (rs:List D1),
 mX place ps=some qs→sH e cs qs=some rs→rU c cs us.toList→
 ∃vs,Instr.fill place us (ps.map fun p=>(p.1,a.eval p.2))=some vs∧rU c rs vs.toList
 | [],qs,cs,us,rs,ht,hf,hr=>by simp only[mX,Option.some.injEq] at ht;subst ht;simp only[sH,Option.some.injEq] at hf;subst hf;exact⟨us,rfl,hr⟩
 | (i,x)::ps,qs,cs,us,rs,ht,hf,hr=>by
   simp only[mX] at ht;split at ht
   ·rename_i off n y r hp hy htr;simp only[Option.some.injEq] at ht;subst ht;simp only[sH] at hf;split at hf
    ·rename_i d hd;split at hf;·rename_i hc;have hrel:=lP he hy;rw[hd] at hrel;have hcr:=G1 hrel;have hlen:(a.eval x).cells.size=n:=(by have:=hcr.1;simp at this;omega);have hus:us.size=cs.length:=(by have:=hr.1;simpa using this);have hov:=ajD hr hcr (off:=off) (by omega);obtain⟨vs,h1,h2⟩:=KA he place ps r (iA cs off d.cells) (us.toList.take off++(a.eval x).cells.toList++us.toList.drop (off+(a.eval x).cells.toList.length)).toArray rs htr hf (by simpa using hov);refine⟨vs,?_,h2⟩;simp only[n3,Instr.fill,hp];rw[if_neg (by simp[hlen,hus];omega)];rw[←h1];congr 1;apply x2;have:=aa7 (a.eval x).cells.toList 0 off us (by simp[hlen];omega);simp only[Nat.add_zero] at this;rw[←this];rw[←Array.foldl_toList];simp
     ·simp at hf
    ·simp at hf
   ·simp at ht
theorem mF{z:List D1} (h:zeroOf P t=some z) (w:World): ∃v,(zeroValue t).run P w= .ok v w∧rU c z v.cells.toList∧z.length=v.cells.size∧(∀i,P.info? t=some i→v.cells.size=i.size)∧v.cells.toList.all Value.oneCell'=true:=by
 unfold zeroOf at h;split at h
 ·rename_i i hi;split at h
  ·rename_i v hv;split at h;·rename_i hc;simp only[Option.some.injEq] at h;subst h;refine⟨v,by simp[zeroValue,typeInfo,hi,hv],YZ hc.1,by simp,fun j hj=> ?_,hc.1⟩;rw[hi] at hj;cases hj;exact hc.2
   ·simp at h
  ·simp at h
 ·simp at h
theorem ad2 (fs:Array Field) (h: ∀f∈fs.toList,(P.info? f.type).isSome=true) (w:World):
 ∃pl,(fs.mapM fun f=>do pure (f.offset,←sizeOf f.type):Sem (Array (Nat×Nat))).run P w= .ok pl w∧ ∀i p,kT P fs i=some p→pl[i]?=some p:=by
 have key: ∀(l:List Field),(∀f∈l,(P.info? f.type).isSome=true)→∃pl,(l.mapM fun f=>do pure (f.offset,←sizeOf f.type):Sem (List (Nat×Nat))).run P w= .ok pl w∧
  ∀i p,kT P l.toArray i=some p→pl[i]?=some p:=by
  intro l
  induction l with
  |nil=>intro _;exact⟨[],by simp,by simp[kT]⟩
  |cons f l ih=>
   intro hl;obtain⟨pl,h1,h2⟩:=ih (fun g hg=>hl g (by simp[hg]));obtain⟨inf,hinf⟩:=Z7.1 (hl f (by simp));refine⟨(f.offset,inf.size)::pl,?_,?_⟩;·have hs1:(sizeOf f.type).run P w= .ok inf.size w:=(by simp[sizeOf,typeInfo,hinf]);simp only[List.mapM_cons,Sem.run_bind,hs1,Result.andThen_ok,Sem.run_pure] at h1 ⊢;rw[h1];rfl
   ·intro i p hp
    match i with
    |0=>
     simp only[kT,CH,List.getElem?_cons_zero] at hp;split at hp;·rename_i n g hlay;have:=(iK hlay w).2.1;simp[sizeOf,typeInfo,hinf] at this;simp at hp;subst hp;simp[this]
     ·simp at hp
    |i+1=>have:=h2 i p (by simpa [kT] using hp);simpa using this
 obtain⟨l⟩:=fs
 obtain⟨pl,h1,h2⟩:=key l (by simpa using h)
 refine⟨pl.toArray,?_,fun i p hp=>by simpa using h2 i p hp⟩
 simp only[List.mapM_toArray,Sem.run_map,h1,Result.andThen_ok]
theorem aoU (he:ER c T e a){ps:Array (Nat×Operand)}{z:List D1}{fs:Array Field}{qs:List (Nat×Nat×aT)} (ho:o.op= .build t ps) (hu:P.underlying t=some (.struct fs))
 (hz:zeroOf P t=some z) (hall:fs.all (fun f=>(P.info? f.type).isSome)=true) (ht:mX (kT P fs) ps.toList=some qs) (hq:aU H e (.build z qs)=some d):kF P c a o d:=by
 simp only[aU,m4] at hq
 obtain⟨rs,hf,rfl⟩:=hq
 obtain⟨zv,hz1,hz2,_⟩:=mF (c:=c) hz c.w
 obtain⟨pl,hp1,hp2⟩:=ad2 (P:=P) fs (fun f hf=>by simpa using (KN.1 hall) f (by simpa using hf)) c.w
 have htr: ∀(l:List (Nat×Operand)) (q:List (Nat×Nat×aT)),mX (kT P fs) l=some q→mX (pl[·]?) l=some q:=by
  intro l
  induction l with
  |nil=>intro q h;exact h
  |cons p l ih=>
   intro q h;obtain⟨i,x⟩:=p;simp only[mX] at h ⊢;split at h;·rename_i off n y r h1 h2 h3;simp only[Option.some.injEq] at h;subst h;simp[hp2 i _ h1,h2,ih r h3]
   ·simp at h
 obtain⟨vs,h1,h2⟩:=KA he (pl[·]?) ps.toList qs z zv.cells rs (htr _ _ ht) hf hz2
 refine⟨.agg vs,?_,⟨vs.toList,by simp,h2⟩⟩
 have hmap:(ps.map fun p=>(p.1,a.eval p.2)).toList=ps.toList.map fun p=>(p.1,a.eval p.2):=by simp
 simp only[execOp,ho,Instr.build,Sem.run_bind,hz1,Result.andThen_ok,run_underlying hu,hp1,hmap,h1,Sem.run_pure]
theorem ak5 (he:ER c T e a){ps:Array (Nat×Operand)}{z:List D1}{len:Nat}{qs:List (Nat×Nat×aT)} (ho:o.op= .build t ps) (hu:P.underlying t=some (.array len el))
 (hz:zeroOf P t=some z) (hl:layout P el=some (n,g)) (ht:mX (fun i=>some (i*n,n)) ps.toList=some qs) (hq:aU H e (.build z qs)=some d):kF P c a o d:=by
 simp only[aU,m4] at hq
 obtain⟨rs,hf,rfl⟩:=hq
 obtain⟨zv,hz1,hz2,_⟩:=mF (c:=c) hz c.w
 obtain⟨vs,h1,h2⟩:=KA he _ ps.toList qs z zv.cells rs ht hf hz2
 refine⟨.agg vs,?_,⟨vs.toList,by simp,h2⟩⟩
 have hmap:(ps.map fun p=>(p.1,a.eval p.2)).toList=ps.toList.map fun p=>(p.1,a.eval p.2):=by simp
 have hsz:=(iK hl c.w).2.1
 simp only[execOp,ho,Instr.build,Sem.run_bind,hz1,Result.andThen_ok,run_underlying hu,hsz,hmap,h1,Sem.run_pure]
end
end Go.AM
namespace Go.AM
open Go.RowKit
section
variable {P : Program} {c : Cf} {H : aA}
def Cf.named (c:Cf) (m:Nat) (b base:Nat) (w:World):Cf:={ρ:=fun i=>if i=m then (b,base) else c.ρ i,N:=fun i=>i=m∨c.N i,I:=c.I,w:=w}
structure oZ (c:Cf) (arr:Array Value) (base:Nat) (o:bA):Prop where
 le:o.rows.length≤o.ext
 len: ∀(i:Nat) (r:List D1),o.rows[i]?=some r→r.length=o.n
 size:base+o.ext*o.n≤arr.size
 rel: ∀(i j:Nat) (r:List D1) (d:D1),o.rows[i]?=some r→r[j]?=some d→∃u,arr[base+(i*o.n+j)]?=some u∧Rel c d u
 nm: ¬(o.n=0∧o.rows=[]∧0<o.ext)
theorem bG {H:aA} {m id:Nat} {o o':bA} (h:(H.set m o) id=some o'):(id=m∧o=o')∨(id≠m∧H id=some o'):=by
 unfold aA.set at h;split at h;·rename_i he;exact .inl ⟨he,by simpa using h⟩
 ·rename_i he;exact .inr ⟨he,h⟩
theorem GY (hs:St c H) {m:Nat} {o:bA} {arr:Array Value} (T:TypeId) (hm: ¬c.N m) (hr:oZ c arr 0 o):
 St (c.named m c.w.heap.size 0 (c.w.alloc (.cells arr T))) (H.set m o)∧Step c H (c.named m c.w.heap.size 0 (c.w.alloc (.cells arr T))) (H.set m o):=by
 have hρ: ∀id,c.N id→(c.named m c.w.heap.size 0 (c.w.alloc (.cells arr T))).ρ id=c.ρ id:=by intro id hid;simp only[Cf.named];rw[if_neg (by rintro rfl;exact hm hid)]
 have hblk: ∀id o',H id=some o'→0<o'.ext→(c.ρ id).1<c.w.heap.size:=by intro id o' h1 h2;exact(hs.blk id o' h1 h2).lt
 have hheap: ∀b,b<c.w.heap.size→(c.w.alloc (.cells arr T)).heap[b]?=c.w.heap[b]?:=fun b hb=>Below.heap_alloc _ _ _ hb
 have hnew:(c.w.alloc (.cells arr T)).heap[c.w.heap.size]?=some (.cells arr T (0,0)):=by show (c.w.heap.push _)[_]?=_;simp
 have hstep:Step c H (c.named m c.w.heap.size 0 (c.w.alloc (.cells arr T))) (H.set m o):={
  ρ:=hρ
  N:=fun _ h=>.inr h
  I:=fun _ h=>h
  I':=fun _ h=>.inl h
  size:=by simp[Cf.named]
  os:=rfl
  tape:=rfl
  output:=rfl
  frame:=fun b hb _=>hheap b hb
  own:=by
   rintro b ⟨id,o',h1,h2,h3⟩;rcases bG h1 with⟨rfl,rfl⟩|⟨hne,h1⟩
   ·right;simp[Cf.named] at h3;omega
   ·left;exact⟨id,o',h1,h2,by rw[hρ id (hs.named id o' h1)] at h3;exact h3⟩}
 refine⟨?_,hstep⟩
 refine {named:= ?_,wf:= ?_,blk:= ?_,cells:= ?_,sep:= ?_,imm:= ?_,old:= ?_}
 ·intro id o' h;rcases bG h with⟨rfl,rfl⟩|⟨hne,h⟩
  ·exact .inl rfl
  ·exact .inr (hs.named id o' h)
 ·intro id o' h;rcases bG h with⟨rfl,rfl⟩|⟨hne,h⟩
  ·exact⟨hr.le,hr.len⟩
  ·exact hs.wf id o' h
 ·intro id o' h he;rcases bG h with⟨rfl,rfl⟩|⟨hne,h⟩
  ·refine yW.mk (fun hm=>hr.nm ⟨hm.1,hm.2,he⟩) ⟨arr,T,?_,?_⟩;·simp only[Cf.named,if_true];exact hnew
   ·simpa [Cf.named] using hr.size
  ·rw[hρ id (hs.named id o' h)];have:=hs.blk id o' h he;rw[←hheap _ (hblk id o' h he)] at this;exact this
 ·intro id o' i j r d h h1 h2;rcases bG h with⟨rfl,rfl⟩|⟨hne,h⟩
  ·obtain⟨u,h3,h4⟩:=hr.rel i j r d h1 h2;refine⟨u,?_,h4.step hstep hs⟩;simp only[Cf.named,if_true,World.cell?,hnew];simpa using h3
  ·obtain⟨u,h3,h4⟩:=hs.cells id o' i j r d h h1 h2;refine⟨u,?_,h4.step hstep hs⟩;rw[hρ id (hs.named id o' h)];rw[←h3];exact World.cell?_of_block (w:=c.w) (hheap _ (World.block_lt_of_cell? c.w _ h3))
 ·intro id id' o1 o2 h1 h2 e1 e2 hne;rcases bG h1 with⟨rfl,rfl⟩|⟨hn1,k1⟩<;>rcases bG h2 with⟨rfl,rfl⟩|⟨hn2,k2⟩
  ·exact absurd rfl hne
  ·rw[hρ id' (hs.named id' o2 k2)];simp only[Cf.named,if_true];have:=hblk id' o2 k2 e2;omega
  ·rw[hρ id (hs.named id o1 k1)];simp only[Cf.named,if_true];have:=hblk id o1 k1 e1;omega
  ·rw[hρ id (hs.named id o1 k1),hρ id' (hs.named id' o2 k2)];exact hs.sep id id' o1 o2 k1 k2 e1 e2 hne
 ·intro id o' h he;rcases bG h with⟨rfl,rfl⟩|⟨hne,h⟩
  ·simp only[Cf.named,if_true];intro hI;have:=hs.old _ hI;omega
  ·rw[hρ id (hs.named id o' h)];exact hs.imm id o' h he
 ·intro b hb;have:=hs.old b hb;simp[Cf.named];omega
theorem amJ {H0:aA} (hs:St c H) (hsub: ∀id o,H0 id=some o→H id=some o) {b base:Nat} {arr arr':Array Value} {T:TypeId} {m:Nat} {o:bA}
 (hb:c.w.heap[b]?=some (.cells arr T (0,0))) (how:uG c H b) (hno: ¬uG c H0 b) (hm:c.N m→c.ρ m=(b,base)) (hm0:H0 m=none) (hr:oZ c arr' base o):
 St (c.named m b base (c.w.setRow b arr')) (H0.set m o)∧Step c H (c.named m b base (c.w.setRow b arr')) (H0.set m o):=by
 have hlt:b<c.w.heap.size:=(C4.1 hb).1
 have hnI: ¬c.I b:=fun h=>hs.WW h how
 have hs0:=hs.forget hsub
 have hρ: ∀id,c.N id→(c.named m b base (c.w.setRow b arr')).ρ id=c.ρ id:=by
  intro id hid;simp only[Cf.named];split;·rename_i he;subst he;exact(hm hid).symm
  ·rfl
 have hheap: ∀k,k≠b→(c.w.setRow b arr').heap[k]?=c.w.heap[k]?:=fun k hk=>setRow_other _ _ _ _ hk
 have hnew:(c.w.setRow b arr').heap[b]?=some (.cells arr' T (0,0)):=setRow_heap _ _ _ _ _ _ hb
 have hblk: ∀id o',H0 id=some o'→0<o'.ext→(c.ρ id).1≠b:=fun id o' h1 h2 h3=>hno ⟨id,o',h1,h2,h3⟩
 have hstep:Step c H (c.named m b base (c.w.setRow b arr')) (H0.set m o):={
  ρ:=hρ
  N:=fun _ h=>.inr h
  I:=fun _ h=>h
  I':=fun _ h=>.inl h
  size:=by simp[Cf.named]
  os:=rfl
  tape:=rfl
  output:=rfl
  frame:=fun k hk hno'=>hheap k (by rintro rfl;exact hno' how)
  own:=by
   rintro k ⟨id,o',h1,h2,h3⟩;rcases bG h1 with⟨rfl,rfl⟩|⟨hne,h1⟩
   ·left;simp[Cf.named] at h3;subst h3;exact how
   ·left;exact⟨id,o',hsub id o' h1,h2,by rw[hρ id (hs0.named id o' h1)] at h3;exact h3⟩}
 refine⟨?_,hstep⟩
 refine {named:= ?_,wf:= ?_,blk:= ?_,cells:= ?_,sep:= ?_,imm:= ?_,old:= ?_}
 ·intro id o' h;rcases bG h with⟨rfl,rfl⟩|⟨hne,h⟩
  ·exact .inl rfl
  ·exact .inr (hs0.named id o' h)
 ·intro id o' h;rcases bG h with⟨rfl,rfl⟩|⟨hne,h⟩
  ·exact⟨hr.le,hr.len⟩
  ·exact hs0.wf id o' h
 ·intro id o' h he;rcases bG h with⟨rfl,rfl⟩|⟨hne,h⟩
  ·refine yW.mk (fun hm=>hr.nm ⟨hm.1,hm.2,he⟩) ⟨arr',T,?_,?_⟩;·simp only[Cf.named,if_true];exact hnew
   ·simpa [Cf.named] using hr.size
  ·rw[hρ id (hs0.named id o' h)];have:=hs0.blk id o' h he;rw[←hheap _ (hblk id o' h he)] at this;exact this
 ·intro id o' i j r d h h1 h2;rcases bG h with⟨rfl,rfl⟩|⟨hne,h⟩
  ·obtain⟨u,h3,h4⟩:=hr.rel i j r d h1 h2;refine⟨u,?_,h4.step hstep hs⟩;simp only[Cf.named,if_true,World.cell?,hnew];simpa using h3
  ·obtain⟨u,h3,h4⟩:=hs0.cells id o' i j r d h h1 h2;refine⟨u,?_,h4.step hstep hs⟩;have hpos:0<o'.ext:=by have:=(hs0.wf id o' h).1;have hi:i<o'.rows.length:=(m3.1 h1).1;omega
   rw[hρ id (hs0.named id o' h),←h3];exact World.cell?_of_block (w:=c.w) (hheap _ (hblk id o' h hpos))
 ·intro id id' o1 o2 h1 h2 e1 e2 hne;rcases bG h1 with⟨rfl,rfl⟩|⟨hn1,k1⟩<;>rcases bG h2 with⟨rfl,rfl⟩|⟨hn2,k2⟩
  ·exact absurd rfl hne
  ·rw[hρ id' (hs0.named id' o2 k2)];simp only[Cf.named,if_true];exact fun h=>hblk id' o2 k2 e2 h.symm
  ·rw[hρ id (hs0.named id o1 k1)];simp only[Cf.named,if_true];exact hblk id o1 k1 e1
  ·rw[hρ id (hs0.named id o1 k1),hρ id' (hs0.named id' o2 k2)];exact hs0.sep id id' o1 o2 k1 k2 e1 e2 hne
 ·intro id o' h he;rcases bG h with⟨rfl,rfl⟩|⟨hne,h⟩
  ·simp only[Cf.named,if_true];exact hnI
  ·rw[hρ id (hs0.named id o' h)];exact hs0.imm id o' h he
 ·intro b hb;have:=hs.old b hb;simp[Cf.named];omega
theorem oZ.drew {arr:Array Value} {base:Nat} {o:bA} (h:oZ c arr base o) (k:Nat):oZ (c.drew k) arr base o where
 le:=h.le
 len:=h.len
 size:=h.size
 nm:=h.nm
 rel i j r d h1 h2:=by
  obtain⟨u,h3,h4⟩:=h.rel i j r d h1 h2;refine⟨u,h3,?_⟩;have h0: ∀d x,bY c d x→bY (c.drew k) d x:=by intro d x h;cases d<;>simp only[bY,Cf.drew] at h ⊢ <;>first|exact h.wT (fun _ h=>h) (fun _ _=>rfl)|exact h
  cases d with
  |clo f caps=>obtain⟨vs,hx,hl,hf⟩:=h4;exact⟨vs,hx,hl,fun i d u h1 h2=>h0 _ _ (hf i d u h1 h2)⟩
  |_=>simp only[Rel] at h4 ⊢;exact h0 _ _ h4
end
section
variable {P : Program} {c : Cf} {H : aA} {T : Nat} {e : Env} {a : Act}
def chunk:Nat→Nat→List D1→List (List D1)
 |0,_,_=>[]
 |k+1,n,l=>l.take n::chunk k n (l.drop n)
def lT (id:Nat) (e:Env):AOp→Option (D×bA)
 | .alloc z=>some (.one (.c (.ptr z.length id 0 0)),⟨z.length,1,[z]⟩)
 | .box _ x=>match x.ev e with
   | .one d=>some (.one (.c (.ptr d.cells.length id 0 0)),⟨d.cells.length,1,[d.cells]⟩)
   |_=>none
 | .bC n len z parts=>(sH e ((List.replicate len z).flatten) parts).map fun rs=>(.one (.c (.osl n id 0 len len)),⟨n,len,chunk len n rs⟩)
 | .kY n z l k=>match l.ev e,k.ev e with
   | .one (.c (.v (.int _ x))),.one (.c (.v (.int _ y)))=>if 0≤x∧x≤y∧y≤2147483647 then some (.one (.c (.osl n id 0 x.toNat y.toNat)),⟨n,y.toNat,List.replicate y.toNat z⟩) else none
   |_,_=>none
 |_=>none
theorem LZ: ∀(k n:Nat) (l:List D1) (i:Nat) (r:List D1),(chunk k n l)[i]?=some r→i<k∧r=(l.drop (i*n)).take n
 |0,n,l,i,r,h=>by simp[chunk] at h
 |k+1,n,l,0,r,h=>by simp[chunk] at h;simp[h]
 |k+1,n,l,i+1,r,h=>by simp only[chunk,List.getElem?_cons_succ] at h;obtain⟨h1,h2⟩:=LZ k n (l.drop n) i r h;refine⟨by omega,?_⟩;rw[h2,Y2,o4];congr 2;omega
theorem DI: ∀(k n:Nat) (l:List D1),(chunk k n l).length=k
 |0,_,_=>rfl
 |k+1,n,l=>by simp[chunk,DI k n]
variable{arr:Array Value}
theorem YR{rs:List D1}{len n:Nat} (h:rU c rs arr.toList) (hl:rs.length=len*n):oZ c arr 0 ⟨n,len,chunk len n rs⟩:=by
 refine⟨by simp[DI],fun i r hr=> ?_,?_,fun i j r d h1 h2=> ?_,fun⟨_,h2,h3⟩=>by have:=congrArg List.length h2;simp only[DI,List.length_nil] at this h3;omega⟩;·obtain⟨hi,rfl⟩:=LZ _ _ _ _ _ hr;have:(i+1)*n≤len*n:=t4 _ (by omega);rw[o4] at this;simp;omega
 ·have:=h.1;simp at this;simp;omega
 ·obtain⟨hi,rfl⟩:=LZ _ _ _ _ _ h1;rw[s4] at h2;split at h2;·rw[s5] at h2;have hlt:i*n+j<rs.length:=(m3.1 h2).1;have h3:arr.toList[i*n+j]?=some (arr.toList[i*n+j]'(by rw[h.1];exact hlt)):=n1 _;refine⟨_,?_,h.2 _ d _ h2 h3⟩;simp
  ·simp at h2
theorem adM{cs:List D1} (h:rU c cs arr.toList):oZ c arr 0 ⟨cs.length,1,[cs]⟩:=by
 refine⟨by simp,fun i r hr=> ?_,?_,fun i j r d h1 h2=> ?_,fun⟨_,h2,_⟩=>by cases h2⟩
 ·match i with
  |0=>simp at hr;simp[hr]
  |i+1=>simp at hr
 ·have:=h.1;simp at this;simp;omega
 ·match i with
  |0=>simp at h1;subst h1;have hlt:j<cs.length:=(m3.1 h2).1;have h3:arr.toList[j]?=some (arr.toList[j]'(by rw[h.1];exact hlt)):=n1 _;refine⟨_,?_,h.2 _ d _ h2 h3⟩;simp
  |i+1=>simp at h1
def NT (P:Program) (c:Cf) (H:aA) (a:Act) (o:Oper) (id:Nat) (d:D) (ob:bA):Prop:=∃v c',(execOp a.eval o).run P c.w= .ok (.value v) c'.w∧St c' (H.set id ob)∧Step c H c' (H.set id ob)∧fD c' d v∧(∀i,c'.N i↔i=id∨c.N i)
variable{o:Oper}{t:TypeId}
theorem WE (hs:St c H){id:Nat} (hN: ¬c.N id){cs:List D1} (hr:rU c cs arr.toList)
 (hrun:(execOp a.eval o).run P c.w= .ok (.value (.pointer (some ⟨c.w.heap.size,0,none⟩))) (c.w.alloc (.cells arr t))):
 NT P c H a o id (.one (.c (.ptr cs.length id 0 0))) ⟨cs.length,1,[cs]⟩:=by
 obtain⟨h1,h2⟩:=GY hs t hN (adM hr)
 refine⟨_,c.named id c.w.heap.size 0 (c.w.alloc (.cells arr t)),hrun,h1,h2,?_,fun i=>brL⟩
 simp only[fD,jZ,Rel,bY,Cf.named,if_true]
 exact⟨.inl trivial,by simp⟩
theorem VU (hs:St c H){id n len cap ext:Nat} (hN: ¬c.N id){rows:List (List D1)} (hr:oZ c arr 0 ⟨n,ext,rows⟩) (hlc:len≤cap)
 (hrun:(execOp a.eval o).run P c.w= .ok (.value (.slice (some ⟨c.w.heap.size,0,none⟩) len cap)) (c.w.alloc (.cells arr t))):
 NT P c H a o id (.one (.c (.osl n id 0 len cap))) ⟨n,ext,rows⟩:=by
 obtain⟨h1,h2⟩:=GY hs t hN hr
 refine⟨_,c.named id c.w.heap.size 0 (c.w.alloc (.cells arr t)),hrun,h1,h2,?_,fun i=>brL⟩
 simp only[fD,jZ,Rel,bY,Cf.named,if_true]
 refine⟨hlc,?_⟩
 rcases CR cap with h0|h0
 ·subst h0;have:len=0:=by omega
  subst this;exact .inl ⟨rfl,_,rfl⟩
 ·exact .inr ⟨h0,.inl trivial,by simp⟩
variable{z:List D1}
theorem apL (hs:St c H){id:Nat}{d:D}{ob:bA} (hN: ¬c.N id) (ho:o.op= .alloc t) (hz:zeroOf P t=some z) (hq:lT id e (.alloc z)=some (d,ob)):NT P c H a o id d ob:=by simp only[lT,Option.some.injEq,Prod.mk.injEq] at hq;obtain⟨rfl,rfl⟩:=hq;obtain⟨v,h1,h2,_⟩:=mF (c:=c) hz c.w;apply WE hs (t:=t) hN h2;simp[execOp,ho,Instr.alloc,h1,newVar,newRow]
theorem asW (hs:St c H) (he:ER c T e a){x:Operand}{x':aT}{g:Bool}{id:Nat}{d:D}{ob:bA} (hN: ¬c.N id) (ho:o.op= .box t x) (hx:trO x=some x')
 (hq:lT id e (.box g x')=some (d,ob)):NT P c H a o id d ob:=by
 simp only[lT] at hq
 split at hq
 ·rename_i dv hv;simp only[Option.some.injEq,Prod.mk.injEq] at hq;obtain⟨rfl,rfl⟩:=hq;have hr:=lP he hx;rw[hv] at hr;apply WE hs (t:=t) hN (G1 hr);simp[execOp,ho,Instr.box,newVar,newRow]
 ·simp at hq
theorem lI{el:TypeId}{n:Nat} (h:d9 P t=some (el,n)) (w:World):P.underlying t=some (.slice el)∧(sizeOf el).run P w= .ok n w∧ ∃g,layout P el=some (n,g):=by
 unfold d9 at h;split at h
 ·rename_i e' hu;split at h;·rename_i n' g hl;simp only[Option.some.injEq,Prod.mk.injEq] at h;obtain⟨rfl,rfl⟩:=h;exact⟨hu,(iK hl w).2.1,g,hl⟩
  ·simp at h
 ·simp at h
theorem agX{zv:Array Value} (hz:rU c z zv.toList) (hpos:0<zv.size) (len:Nat):
 rU c ((List.replicate len z).flatten) ((Array.range (len*zv.size)).map (zv[· %zv.size]!)).toList:=by
 have hzl:z.length=zv.size:=by have:=hz.1;simp at this;omega
 refine⟨by simp[hzl],fun i d u h1 h2=> ?_⟩
 simp only[Array.toList_map,Array.toList_range,p0,List.getElem?_range] at h2
 have hi:i<len*zv.size:=by have:=(m3.1 h1).1;simpa [hzl] using this
 simp[hi] at h2
 have hmod:i%zv.size<zv.size:=Nat.mod_lt _ hpos
 rw[getElem!_pos zv _ hmod] at h2
 have key: ∀(k i:Nat),i<k*z.length→((List.replicate k z).flatten)[i]?=z[i%z.length]?:=by
  intro k
  induction k with
  |zero=>intro i hi;simp at hi
  |succ k ih=>
   intro i hi;simp only[List.replicate_succ,List.flatten_cons];rw[o5];split;·rename_i hlt;rw[C9 hlt]
   ·rename_i hge;rw[ih (i-z.length) (by rw[o4] at hi;omega)];congr 1;exact(Nat.mod_eq_sub_mod (by omega)).symm
 rw[key len i (by rw[hzl];exact hi),hzl] at h1
 apply hz.2 (i%zv.size) d u h1
 rw[←h2]
 simp[hmod]
theorem amD (hs:St c H) (he:ER c T e a){el:TypeId}{len n:Nat}{ps:Array (Nat×Operand)}{qs:List (Nat×Nat×aT)}{id:Nat}{d:D}{ob:bA} (hN: ¬c.N id)
 (ho:o.op= .buildSlice t len ps) (hse:d9 P t=some (el,n)) (hz:zeroOf P el=some z) (hzn:z.length=n) (hsm:len*n≤4096) (hn:0<n) (ht:mX (fun i=>some (i*n,n)) ps.toList=some qs)
 (hq:lT id e (.bC n len z qs)=some (d,ob)):NT P c H a o id d ob:=by
 simp only[lT,m4] at hq
 obtain⟨rs,hf,hq⟩:=hq
 simp only[Prod.mk.injEq] at hq
 obtain⟨rfl,rfl⟩:=hq
 obtain⟨hu,hsz,_⟩:=lI hse c.w
 obtain⟨zv,hz1,hz2,hz3,_⟩:=mF (c:=c) hz c.w
 have hzv:zv.cells.size=n:=by omega
 have hmade:=agX hz2 (by omega) len
 rw[hzv] at hmade
 obtain⟨vs,h1,h2⟩:=KA he (fun i=>some (i*n,n)) ps.toList qs _ _ rs ht hf hmade
 have hrl:rs.length=len*n:=by
  have: ∀(q:List (Nat×Nat×aT)) (cs:List D1) (rs:List D1),sH e cs q=some rs→rs.length=cs.length:=by
   intro q
   induction q with
   |nil=>intro cs rs h;simp only[sH,Option.some.injEq] at h;rw[h]
   |cons p q ih=>
    obtain⟨off,m,x⟩:=p;intro cs rs h;simp only[sH] at h;split at h
    ·split at h;·rename_i hc;rw[ih _ _ h];simp[iA];omega
     ·simp at h
    ·simp at h
  rw[this _ _ _ hf];simp[hzn]
 apply VU hs (t:=el) hN (YR h2 hrl) (m5 _)
 have hnb: ¬(16777216<len*n):=by omega
 have hmap:(ps.map fun p=>(p.1,a.eval p.2)).toList=ps.toList.map fun p=>(p.1,a.eval p.2):=by simp
 by_cases h0:len*n=0
 ·have hzero:(Array.range (len*n)).map (fun i=>zv.cells[i%n]!)=(Array.range (len*n)).map (fun i=>(#[]:Array Value)[i%(#[]:Array Value).size]!):=by rw[h0];simp
  rw[hzero] at h1;simp only[execOp,ho,Instr.buildSlice,Sem.run_bind,run_underlying hu,Result.andThen_ok,hsz,hmap];simp only[Nat.reducePow,gt_iff_lt,if_neg hnb,if_pos h0,Sem.run_bind,Sem.run_pure,Result.andThen_ok,h1,newRow,run_newObj_alloc]
 ·simp only[execOp,ho,Instr.buildSlice,Sem.run_bind,run_underlying hu,Result.andThen_ok,hsz,hmap];simp only[Nat.reducePow,gt_iff_lt,if_neg hnb,if_neg h0,Sem.run_bind,hz1,Sem.run_pure,Result.andThen_ok,hzv,h1,newRow,run_newObj_alloc]
theorem aiA{zv:Array Value} (hz:rU c z zv.toList) (hpos:0<zv.size) (len:Nat):oZ c (madeCells zv (len*zv.size)) 0 ⟨zv.size,len,List.replicate len z⟩:=by
 have hzl:z.length=zv.size:=by have:=hz.1;simp at this;omega
 refine⟨by simp,fun i r hr=> ?_,by simp[size_madeCells],fun i j r d h1 h2=> ?_,fun⟨h1,_,_⟩=>by dsimp only at h1;omega⟩;·have:=m3.1 hr;obtain⟨h3,h4⟩:=this;simp at h4;rw[←h4];exact hzl
 ·obtain⟨h3,h4⟩:=m3.1 h1;simp at h3 h4;subst h4;have hj:j<z.length:=(m3.1 h2).1;have hlt:i*zv.size+j<len*zv.size:=by have:(i+1)*zv.size≤len*zv.size:=t4 _ (by omega);rw[o4] at this;omega
  have hmod:(i*zv.size+j)%zv.size=j:=by rw[Y3,boH];exact C9 (by omega)
  refine⟨zv[j]'(by omega),?_,hz.2 j d _ h2 (by simp)⟩;simp only[madeCells,Y4,Array.getElem?_map];rw[Array.getElem?_range,if_pos hlt];simp only[Option.map_some,hmod];rw[getElem!_pos zv j (by omega)]
theorem ag4 (hs:St c H) (he:ER c T e a){el:TypeId}{n:Nat}{l k:Operand}{l' k':aT}{i:TypeInfo}{id:Nat}{d:D}{ob:bA} (hN: ¬c.N id)
 (ho:o.op= .makeSlice t l k) (hse:d9 P t=some (el,n)) (hz:zeroOf P el=some z) (hzn:z.length=n) (hn:0<n) (hi:P.info? el=some i) (hb:i.bytes≤65536) (hl:trO l=some l') (hk:trO k=some k')
 (hq:lT id e (.kY n z l' k')=some (d,ob)):NT P c H a o id d ob:=by
 simp only[lT] at hq
 split at hq
 ·rename_i q1 x q2 y hv1 hv2;split at hq
  ·rename_i hc;obtain⟨h0,hxy,hy⟩:=hc;simp only[Option.some.injEq,Prod.mk.injEq] at hq;obtain⟨rfl,rfl⟩:=hq;have e1:=xU he hl hv1;have e2:=xU he hk hv2;obtain⟨hu,hsz,_⟩:=lI hse c.w;obtain⟨zv,hz1,hz2,hz3,hz4,_⟩:=mF (c:=c) hz c.w;have hzv:zv.cells.size=n:=(by omega);have hsz':i.size=n:=by have:=hz4 i hi;omega
   have hzi:i.zero=some zv:=by
    simp[zeroValue,typeInfo,hi] at hz1
    cases hzz:i.zero with
    |none=>simp[hzz] at hz1
    |some z'=>simp[hzz] at hz1;rw[hz1]
   have hr:=aiA hz2 (by omega) y.toNat;rw[hzv] at hr;have hmul:(i.bytes:Int)*y≤281474976710656:=by have h1:(i.bytes:Int)≤65536:=(by omega);have h2:(i.bytes:Int)*y≤65536*y:=Int.mul_le_mul_of_nonneg_right h1 (by omega);omega
   have hrun:=run_make (P:=P) c.w t el i zv hu hi hzi q1 q2 x y h0 hxy hmul (by omega);apply VU hs (t:=el) hN hr (by omega);rw[hsz'] at hrun;simp only[execOp,ho,e1,e2,Sem.run_bind,hrun,Result.andThen_ok,Sem.run_pure]
  ·simp at hq
 ·simp at hq
end
end Go.AM
