/- Rules and contracts. -/
import Derived.WalkKit
set_option linter.unusedVariables false
set_option linter.unusedSimpArgs false
set_option maxRecDepth 100000
set_option maxHeartbeats 8000000
abbrev abG:=@Nat.le_refl
abbrev abH:=@Nat.add_assoc
abbrev abI:=@Nat.left_eq_add
abbrev abJ:=@Nat.add_left_cancel_iff
abbrev abK:=@Nat.add_eq_left
abbrev abL:=@List.length_append
abbrev abM:=@List.take_of_length_le
abbrev abN:=@List.getElem?_eq_some_iff
abbrev abO:=@List.getElem?_eq_getElem
abbrev abP:=@List.mem_map
abbrev abQ:=@List.mem_cons
abbrev abR:=@Option.map_eq_some_iff
abbrev abS:=@List.mem_append
abbrev abT:=@List.length_map
abbrev abU:=@List.map_append
abbrev abV:=@List.mem_of_getElem?
abbrev abW:=@List.getElem?_map
abbrev abX:=@List.all_eq_true
abbrev abY:=@List.append_assoc
abbrev abZ:=@List.map_cons
abbrev ab0:=@List.length_set
abbrev ab1:=@List.length_drop
abbrev ab2:=@List.mem_singleton
abbrev ab3:=@List.append_nil
abbrev ab4:=@List.getElem?_drop
abbrev ab5:=@List.length_take
abbrev ab6:=@List.mem_iff_getElem
abbrev ab7:=@List.getElem?_append
abbrev ab8:=@Nat.add_mul
abbrev ab9:=@List.map_nil
abbrev acA:=@List.getElem?_set_self
abbrev acB:=@List.getElem?_set_ne
abbrev acC:=@Nat.not_lt_zero
abbrev acD:=@Eq.symm
abbrev acE:=@List.set_set
abbrev acF:=@Bool.and_eq_true
abbrev acG:=@List.not_mem_nil
abbrev acH:=@List.pairwise_iff_getElem
abbrev acI:=@List.take_length
abbrev acJ:=@List.eq_nil_of_length_eq_zero
abbrev acK:=@List.drop_zero
abbrev acL:=@List.mem_cons_of_mem
abbrev acM:=@List.getElem?_take
abbrev acN:=@List.pairwise_cons
abbrev acO:=@List.nodup_cons
abbrev acP:=@List.mem_append_left
abbrev acQ:=@Nat.le_trans
abbrev acR:=@List.drop_eq_getElem_cons
abbrev acS:=@Nat.zero_add
abbrev acT:=@List.map_congr_left
abbrev acU:=@List.take_append_drop
abbrev acV:=@Nat.mul_comm
abbrev acW:=@Nat.mul_le_mul_right
abbrev acX:=@List.length_eq_zero_iff
abbrev acY:=@List.map_set
abbrev acZ:=@List.map_drop
abbrev ac0:=@Int.tmod_eq_emod_of_nonneg
abbrev ac1:=@List.nodup_append
abbrev ac2:=@List.mem_append_right
abbrev ac3:=@Nat.eq_zero_or_pos
abbrev ac4:=@Bool.false_eq_true
abbrev ac5:=@List.drop_drop
abbrev ac6:=@Iff.rfl
abbrev ac7:=@List.mem_range
abbrev ac8:=@Array.ext'
abbrev ac9:=@Bool.not_eq_true'
abbrev adA:=@Bool.or_eq_true
abbrev adB:=@List.getElem_mem
abbrev adC:=@List.getElem?_append_left
abbrev adD:=@List.mem_map_of_mem
abbrev adE:=@Nat.sub_self
abbrev adF:=@Nat.mul_one
abbrev adG:=@List.getElem?_toArray
abbrev adH:=@List.getElem?_set
abbrev adI:=@List.getD_eq_getElem?_getD
abbrev adJ:=@List.pairwise_append
abbrev adK:=@Nat.one_ne_zero
abbrev adL:=@List.range_succ
abbrev adM:=@List.getElem?_append_right
abbrev adN:=@List.take_succ_eq_append_getElem
abbrev adO:=@List.perm_middle
abbrev adP:=@List.count_append
abbrev adQ:=@Bool.and_false
abbrev adR:=@List.map_toArray
abbrev adS:=@List.mem_flatMap
abbrev adT:=@List.getElem?_eq_none
abbrev adU:=@Nat.lt_irrefl
abbrev adV:=@List.map_id
abbrev adW:=@List.findIdx?_eq_some_iff_getElem
abbrev adX:=@List.getElem_take
abbrev adY:=@List.perm_iff_count
abbrev adZ:=@List.count_cons
abbrev ad0:=@List.mem_of_mem_drop
abbrev ad1:=@Nat.mul_assoc
abbrev ad2:=@Array.getElem?_eq_some_iff
abbrev ad3:=@Nat.mod_eq_of_lt
abbrev ad4:=@Nat.add_comm
abbrev ad5:=@List.size_toArray
abbrev ad6:=@List.flatMap_cons
abbrev ad7:=@List.pairwise_map
abbrev ad8:=@List.drop_of_length_le
abbrev ad9:=@Int.tmod_nonneg
abbrev aeA:=@Int.tmod_lt_of_pos
abbrev aeB:=@List.ext_getElem
abbrev aeC:=@Int.tdiv_eq_ediv_of_nonneg
abbrev aeD:=@List.filter_cons
abbrev aeE:=@Option.bind_eq_some_iff
abbrev aeF:=@Array.all_eq_true_iff_forall_mem
abbrev aeG:=@Array.getElem?_append
abbrev aeH:=@Array.getElem?_toList
abbrev aeI:=@List.contains_iff_mem
abbrev aeJ:=@Bool.not_true
abbrev aeK:=@Array.getElem?_setIfInBounds_ne
abbrev aeL:=@Nat.succ_pos
abbrev aeM:=@List.map_take
abbrev aeN:=@Nat.lt_succ_iff_lt_or_eq
abbrev aeO:=@List.not_of_lt_findIdx
abbrev aeP:=@List.findIdx_getElem
abbrev aeQ:=@List.set_append
abbrev aeR:=@Nat.and_two_pow_sub_one_eq_mod
abbrev aeS:=@List.flatMap_append
abbrev aeT:=@List.getElem_map
abbrev aeU:=@List.set_eq_take_append_cons_drop
abbrev aeV:=@Bool.not_eq_true
abbrev aeW:=@List.mem_of_mem_take
abbrev aeX:=@Option.isSome_iff_exists
abbrev aeY:=@Nat.add_mul_mod_self_right
abbrev aeZ:=@Bool.and_eq_false_iff
abbrev ae0:=@List.getElem?_replicate
abbrev ae1:=@Array.getD_eq_getD_getElem?
abbrev ae2:=@List.getElem?_singleton
abbrev ae3:=@Nat.le_of_ble_eq_true
abbrev ae4:=@List.findIdx?_eq_none_iff
abbrev ae5:=@List.drop_append_of_le_length
abbrev ae6:=@List.drop_sublist_drop_left
abbrev ae7:=@Nat.testBit_shiftLeft
abbrev ae8:=@List.mem_of_find?_eq_some
abbrev ae9:=@Nat.add_sub_cancel_left
namespace Go.AM
theorem yh: ∀{a c b d:Nat},2^a*(2*b+1)=2^c*(2*d+1)->a=c/\b=d
 |0,0,b,d,h=>⟨rfl,by simp at h;omega⟩
 |0,c+1,b,d,h=>by rw[Nat.pow_succ,Nat.pow_zero,acV (2^c) 2,ad1] at h;generalize 2^c*(2*d+1)=z at h;omega
 |a+1,0,b,d,h=>by rw[Nat.pow_succ,Nat.pow_zero,acV (2^a) 2,ad1] at h;generalize 2^a*(2*b+1)=z at h;omega
 |a+1,c+1,b,d,h=>by rw[Nat.pow_succ,Nat.pow_succ,acV (2^a) 2,acV (2^c) 2,ad1,ad1] at h;obtain⟨e,f⟩:=yh (Nat.eq_of_mul_eq_mul_left (by omega) h);exact⟨by rw[e],f⟩
def YD(a b:Nat):Nat:=2^a*(2*b+1)
theorem N9{a b c d:Nat}(h:YD a b=YD c d):a=c/\b=d:=yh h
theorem pw{a b:Nat}:0<YD a b:=Nat.mul_pos (Nat.pow_pos (by omega)) (by omega)
def QB{α:Type}(f:α->Nat):List α->Nat
 | []=>0
 |x::r=>YD (f x) (QB f r)
theorem U0{α:Type}{f:α->Nat}(c: ∀x y,f x=f y->x=y): ∀l m:List α,QB f l=QB f m->l=m
 | [],[],_=>rfl
 | [],y::m,h=>by have:=pw (a:=f y) (b:=QB f m);simp only[QB] at h;omega
 |x::l,[],h=>by have:=pw (a:=f x) (b:=QB f l);simp only[QB] at h;omega
 |x::l,y::m,h=>by simp only[QB] at h;obtain⟨d,e⟩:=N9 h;rw[c x y d,U0 c l m e]
def Mf(x:Int):Nat:=if 0<=x then 2*x.toNat else 2*(-x).toNat+1
theorem yk(x y:Int)(h:Mf x=Mf y):x=y:=by unfold Mf at h;split at h<;>split at h<;>omega
structure oZ where
 kn:Nat
 bl:Bool
 m:List (List Int×Int)
def Ea(x:oZ):Nat:=YD x.kn (YD x.bl.toNat (QB (fun p=>YD (QB Mf p.1) (Mf p.2)) x.m))
theorem Qp(x y:oZ)(h:Ea x=Ea y):x=y:=by
 obtain⟨a,b,m⟩:=x;obtain⟨n,d,o⟩:=y;unfold Ea at h;obtain⟨e,f⟩:=N9 h;obtain⟨g,i⟩:=N9 f
 have j:=U0 (fun p q c=>by
  obtain⟨k,l⟩:=N9 c
  exact Prod.ext (U0 yk _ _ k) (yk _ _ l)) _ _ i
 dsimp only at*;subst j;subst e;cases b<;>cases d<;>first| (simp at g;done)|rfl
theorem tx: ∃(f:oZ->Nat) (g:Nat->oZ),∀x,g (f x)=x:=by
 classical
 refine⟨Ea,fun n=>if h: ∃x,Ea x=n then Classical.choose h else ⟨0,false,[]⟩,fun x=> ?_⟩;have h: ∃y,Ea y=Ea x:=⟨x,rfl⟩
 simp only[h,dif_pos];exact Qp _ _ (Classical.choose_spec h)
noncomputable def zr:oZ->Nat:=Classical.choose tx
noncomputable def Cl:Nat->oZ:=Classical.choose (Classical.choose_spec tx)
theorem EY(x:oZ):Cl (zr x)=x:=Classical.choose_spec (Classical.choose_spec tx) x
def tI(kn:Nat)(l:List Int):Value:=if kn=0 then .int .i64 (l.headD 0) else .agg (l.map fun n=>Value.int .i64 n).toArray
def F5(kn:Nat):Nat:=if kn=0 then 1 else kn
def elemV(bl:Bool)(n:Int):Value:=if bl then .bool (decide (n≠0)) else .int .i64 n
def oZ.rows(x:oZ):List (Value×Value):=x.m.map fun p=>(tI x.kn p.1,elemV x.bl p.2)
def oZ.ok(x:oZ):Prop:=∀p∈x.m,p.1.length=F5 x.kn
abbrev V5(ob:Option Obj)(x:oZ):Prop:=∃es clock,ob=some (Obj.map es clock)/\(es.toList.map fun e=>(e.key,e.val))=x.rows/\x.ok
inductive D1 where
 |v (x:Value)
 |isl (rows:List (List D1))
 |osl (n id off len cap:Nat)
 |ptr (n id row col:Nat)
 |fF (cells:List D1)
 |clo (f:FuncId) (caps:List D1)
 |VI (x:oZ)
 |omap (id:Nat)
 |dead
inductive DV where
 |c (d:D1)
 |agg (cs:List D1)
inductive D where
 |one (x:DV)
 |tup (xs:List DV)
 |dead
structure bM where
 n:Nat
 ext:Nat
 rows:List (List D1)
abbrev aA:=Nat->Option bM
def aA.nil:aA:=fun _=>none
def aA.set(H:aA)(id:Nat)(o:bM):aA:=fun i=>if i=id then some o else H i
def aA.del(H:aA)(id:Nat):aA:=fun i=>if i=id then none else H i
noncomputable def BN(x:oZ):bM:=⟨0,zr x+1,[]⟩
noncomputable def Rf(o:bM):Option oZ:=if o.n=0/\o.rows=[]/\0<o.ext then some (Cl (o.ext-1)) else none
theorem Li{x:oZ}:Rf (BN x)=some x:=by simp[Rf,BN,EY]
noncomputable def PN(H:aA)(i:Nat):Option oZ:=(H i).bind Rf
def FE(a:Option Obj)(base:Nat)(o:bM):Prop:=
 if o.n=0/\o.rows=[] then V5 a (Cl (o.ext-1))
 else ∃arr T,a=some (Obj.cells arr T (0,0))/\base+o.ext*o.n<=arr.size
variable{base:Nat}
theorem FE.ex{a:Option Obj}{o:bM}(h:FE a base o): ∃x,a=some x:=by
 unfold FE at h;split at h;·obtain⟨es,clock,h,_⟩:=h;exact⟨_,h⟩
 ·obtain⟨arr,T,h,_⟩:=h;exact⟨_,h⟩
theorem FE.lt{w:World}{b:Nat}{o:bM}(h:FE w.heap[b]? base o):b<w.heap.size:=by obtain⟨x,h⟩:=h.ex;exact(ad2.1 h).1
theorem FE.mk{a:Option Obj}{o:bM}(b: ¬(o.n=0/\o.rows=[]))(h: ∃arr T,a=some (Obj.cells arr T (0,0))/\base+o.ext*o.n<=arr.size):FE a base o:=by unfold FE;rw[if_neg b];exact h
theorem FE.cells{a:Option Obj}{base:Nat}{o:bM}(h:FE a base o)(b: ¬(o.n=0/\o.rows=[])): ∃arr T,a=some (Obj.cells arr T (0,0))/\base+o.ext*o.n<=arr.size:=by unfold FE at h;rwa [if_neg b] at h
theorem FE.Te{a:Option Obj}{o o':bM}(h:FE a base o)(c:o'.n=o.n)(d:o'.ext=o.ext)(e:o.n=0->(o'.rows=[]↔o.rows=[])):FE a base o':=by
 unfold FE at h ⊢;rw[c,d];by_cases b:o.n=0;·simp only[e b];exact h
 ·simp only[b,false_and,if_false] at h ⊢;exact h
structure Cf where
 ρ:Nat->Nat×Nat
 N:Nat->Prop
 I:Nat->Prop
 w:World
inductive Imm(I:Nat->Prop)(w:World):D1->Value->Prop where
 |v (x:Value) (h:x.oneCell'=true):Imm I w (.v x) x
 |isl (rows:List (List D1)) (a:Option Addr) (cap n b o:Nat) (f:Nat->Nat->Value)
  (ha:rows≠[]->a=some ⟨b,o,none⟩/\I b) (hcap:rows.length<=cap)
  (hn: ∀(i:Nat) (r:List D1),rows[i]?=some r->r.length=n)
  (hc: ∀(i j:Nat) (r:List D1) (d:D1),rows[i]?=some r->r[j]?=some d->w.cell? ⟨b,o+(i*n+j),none⟩=some (f i j))
  (hr: ∀(i j:Nat) (r:List D1) (d:D1),rows[i]?=some r->r[j]?=some d->Imm I w d (f i j)):Imm I w (.isl rows) (.slice a rows.length cap)
 |fF (cells:List D1) (b o:Nat) (f:Nat->Value) (hI:I b)
  (hc: ∀(j:Nat) (d:D1),cells[j]?=some d->w.cell? ⟨b,o+j,none⟩=some (f j))
  (hr: ∀(j:Nat) (d:D1),cells[j]?=some d->Imm I w d (f j)):Imm I w (.fF cells) (.pointer (some ⟨b,o,none⟩))
 |VI (x:oZ) (b:Nat) (hI:I b) (hw:V5 w.heap[b]? x):Imm I w (.VI x) (.map (some b))
theorem Imm.DL{I I':Nat->Prop}{w q:World}{d:D1}{x:Value}(h:Imm I w d x)(k: ∀b,I b->I' b)
 (hw: ∀b,I b->q.heap[b]?=w.heap[b]?):Imm I' q d x:=by
 induction h with
 |v x h=>exact .v x h
 |isl rows a cap n b o f l c s hc hr m=>
  refine .isl rows a cap n b o f (fun h=>⟨(l h).1,k _ (l h).2⟩) c s (fun i j r d g t=> ?_) m;have p:rows≠[]:=by rintro rfl;simp at g
  rw[World.cell?_of_block (w:=w) (hw b (l p).2)];exact hc i j r d g t
 |fF cells b o f e hc hr m=>refine .fF cells b o f (k _ e) (fun j d g=> ?_) m;rw[World.cell?_of_block (w:=w) (hw b e)];exact hc j d g
 |VI x b e h=>exact .VI x b (k _ e) (by rw[hw b e];exact h)
def cO(c:Cf):D1->Value->Prop
 | .osl n id off len cap,x=>len<=cap/\((cap=0/\ ∃a,x= .slice a 0 0)\/(0<cap/\c.N id/\x= .slice (some ⟨(c.ρ id).1,(c.ρ id).2+off*n,none⟩) len cap))
 | .ptr n id row b,x=>c.N id/\x= .pointer (some ⟨(c.ρ id).1,(c.ρ id).2+(row*n+b),none⟩)
 | .omap id,x=>c.N id/\x= .map (some (c.ρ id).1)
 | .dead,x=>x.oneCell'=true
 |d,x=>Imm c.I c.w d x
def Rel(c:Cf):D1->Value->Prop
 | .clo f caps,x=>∃vs:List Value,x= .func (.func f) #[] vs.toArray/\vs.length=caps.length/\ ∀(i:Nat) (d:D1) (u:Value),caps[i]?=some d->vs[i]?=some u->cO c d u
 |d,x=>cO c d x
def xT(c:Cf)(cs:List D1)(vs:List Value):Prop:=vs.length=cs.length/\ ∀(i:Nat) (d:D1) (u:Value),cs[i]?=some d->vs[i]?=some u->Rel c d u
def lT(c:Cf):DV->Value->Prop
 | .c d,x=>Rel c d x
 | .agg cs,x=>∃vs:List Value,x= .agg vs.toArray/\xT c cs vs
def gN(c:Cf):D->Value->Prop
 | .one d,x=>lT c d x
 | .tup a,x=>∃vs:List Value,x= .tuple vs.toArray/\vs.length=a.length/\ ∀(i:Nat) (d:DV) (u:Value),a[i]?=some d->vs[i]?=some u->lT c d u
 | .dead,_=>True
structure St(c:Cf)(H:aA):Prop where
 named: ∀id o,H id=some o->c.N id
 wf: ∀id o,H id=some o->o.rows.length<=o.ext/\ ∀(i:Nat) (r:List D1),o.rows[i]?=some r->r.length=o.n
 blk: ∀id o,H id=some o->0<o.ext->FE c.w.heap[(c.ρ id).1]? (c.ρ id).2 o
 cells: ∀id o (i j:Nat) (r:List D1) (d:D1),H id=some o->o.rows[i]?=some r->r[j]?=some d->
  ∃x,c.w.cell? ⟨(c.ρ id).1,(c.ρ id).2+(i*o.n+j),none⟩=some x/\Rel c d x
 sep: ∀id id' o o',H id=some o->H id'=some o'->0<o.ext->0<o'.ext->id≠id'->(c.ρ id).1≠(c.ρ id').1
 imm: ∀id o,H id=some o->0<o.ext->¬c.I (c.ρ id).1
 old: ∀b,c.I b->b<c.w.heap.size
def yA(c:Cf)(H:aA)(b:Nat):Prop:=∃id o,H id=some o/\0<o.ext/\(c.ρ id).1=b
structure Step(c:Cf)(H:aA)(c':Cf)(H':aA):Prop where
 ρ: ∀id,c.N id->c'.ρ id=c.ρ id
 N: ∀id,c.N id->c'.N id
 I: ∀b,c.I b->c'.I b
 I': ∀b,c'.I b->c.I b\/yA c H b\/c.w.heap.size<=b
 size:c.w.heap.size<=c'.w.heap.size
 os:c'.w.os=c.w.os
 tape:c'.w.tape=c.w.tape
 output:c'.w.output=c.w.output
 frame: ∀b,b<c.w.heap.size->¬yA c H b->c'.w.heap[b]?=c.w.heap[b]?
 own: ∀b,yA c' H' b->yA c H b\/c.w.heap.size<=b
theorem Step.refl(c:Cf)(H:aA):Step c H c H:=⟨fun _ _=>rfl,fun _ h=>h,fun _ h=>h,fun _ h=>.inl h,abG _,rfl,rfl,rfl,fun _ _ _=>rfl,fun _ h=>.inl h⟩
theorem Step.trans{c c' d:Cf}{H H' e:aA}(h:Step c H c' H')(k:Step c' H' d e):Step c H d e where
 ρ id g:=(k.ρ id (h.N id g)).trans (h.ρ id g)
 N id g:=k.N id (h.N id g)
 I b a:=k.I b (h.I b a)
 I' b a:=by
  rcases k.I' b a with a|a|a;·exact h.I' b a
  ·exact .inr (h.own b a)
  ·exact .inr (.inr (acQ h.size a))
 size:=acQ h.size k.size
 os:=k.os.trans h.os
 tape:=k.tape.trans h.tape
 output:=k.output.trans h.output
 frame b a i:=by rw[k.frame b (Nat.lt_of_lt_of_le a h.size) (fun f=>(h.own b f).elim i (fun j=>by omega)),h.frame b a i]
 own b a:=by
  rcases k.own b a with f|f;·exact h.own b f
  ·exact .inr (acQ h.size f)
variable{c:Cf}
theorem St.oz{H:aA}(hs:St c H){b:Nat}(a:c.I b): ¬yA c H b:=by rintro⟨id,o,d,e,rfl⟩;exact hs.imm id o d e a
theorem Step.eS{c':Cf}{H H':aA}(h:Step c H c' H')(hs:St c H){b:Nat}(a:c.I b):c'.w.heap[b]?=c.w.heap[b]?:=h.frame b (hs.old b a) (hs.oz a)
theorem Imm.sN{I:Nat->Prop}{w:World}{d:D1}{x:Value}(h:Imm I w d x):x.oneCell'=true:=by cases h<;>first|assumption|rfl
theorem cO.sN{c:Cf}{d:D1}{x:Value}(h:cO c d x):x.oneCell'=true:=by
 cases d<;>simp only[cO] at h<;>first|exact h.sN|exact h|skip
 ·obtain⟨_,⟨_,a,rfl⟩|⟨_,_,rfl⟩⟩:=h<;>rfl
 ·obtain⟨_,rfl⟩:=h;rfl
 ·obtain⟨_,rfl⟩:=h;rfl
theorem Rel.sN{c:Cf}{d:D1}{x:Value}(h:Rel c d x):x.oneCell'=true:=by
 cases d with
 |clo f caps=>obtain⟨vs,rfl,_⟩:=h;rfl
 |_=>simp only[Rel] at h;exact cO.sN h
theorem cO.step{c c':Cf}{H H':aA}(h:Step c H c' H')(hs:St c H){d:D1}{x:Value}(hr:cO c d x):cO c' d x:=by
 cases d<;>simp only[cO] at hr ⊢ <;>first|exact hr.DL h.I (fun b e=>h.eS hs e)|exact hr|skip
 ·refine⟨hr.1,hr.2.imp id fun⟨f,a,g⟩=>⟨f,h.N _ a,by rw[h.ρ _ a];exact g⟩⟩
 ·exact⟨h.N _ hr.1,by rw[h.ρ _ hr.1];exact hr.2⟩
 ·exact⟨h.N _ hr.1,by rw[h.ρ _ hr.1];exact hr.2⟩
theorem Rel.step{c c':Cf}{H H':aA}(h:Step c H c' H')(hs:St c H){d:D1}{x:Value}(hr:Rel c d x):Rel c' d x:=by
 cases d with
 |clo f caps=>obtain⟨vs,a,hl,b⟩:=hr;exact⟨vs,a,hl,fun i d u e g=>(b i d u e g).step h hs⟩
 |_=>simp only[Rel] at hr ⊢;exact cO.step h hs hr
theorem xT.step{c c':Cf}{H H':aA}(h:Step c H c' H')(hs:St c H){cs:List D1}{vs:List Value}(hr:xT c cs vs):xT c' cs vs:=⟨hr.1,fun i d u a b=>(hr.2 i d u a b).step h hs⟩
theorem lT.step{c c':Cf}{H H':aA}(h:Step c H c' H')(hs:St c H){d:DV}{x:Value}(hr:lT c d x):lT c' d x:=by
 cases d with
 |c d=>exact Rel.step h hs hr
 |agg cs=>obtain⟨vs,a,hl⟩:=hr;exact⟨vs,a,hl.step h hs⟩
theorem gN.step{c c':Cf}{H H':aA}(h:Step c H c' H')(hs:St c H){d:D}{x:Value}(hr:gN c d x):gN c' d x:=by
 cases d with
 |one d=>exact lT.step h hs hr
 |tup g=>obtain⟨vs,a,hl,b⟩:=hr;exact⟨vs,a,hl,fun i d u e f=>(b i d u e f).step h hs⟩
 |dead=>exact trivial
theorem St.forget{H H':aA}(hs:St c H)(h: ∀id o,H' id=some o->H id=some o):St c H' where
 named id o a:=hs.named id o (h id o a)
 wf id o a:=hs.wf id o (h id o a)
 blk id o a:=hs.blk id o (h id o a)
 cells id o i j r d a:=hs.cells id o i j r d (h id o a)
 sep id b o o' a e:=hs.sep id b o o' (h id o a) (h b o' e)
 imm id o a:=hs.imm id o (h id o a)
 old:=hs.old
theorem Step.forget(c:Cf){H H':aA}(h: ∀id o,H' id=some o->H id=some o):Step c H c H':={Step.refl c H with own:=fun b ⟨id,o,a,d,e⟩=>.inl ⟨id,o,h id o a,d,e⟩}
def Cf.drew(c:Cf)(k:Nat):Cf:={c with w:={c.w with drawn:=k}}
theorem St.drew{c:Cf}{H:aA}(hs:St c H)(k:Nat):St (c.drew k) H:=by
 have g: ∀d x,Rel c d x->Rel (c.drew k) d x:=by
  intro d x h;have e: ∀d x,cO c d x->cO (c.drew k) d x:=by intro d x h;cases d<;>simp only[cO,Cf.drew] at h ⊢ <;>first|exact h.DL (fun _ h=>h) (fun _ _=>rfl)|exact h
  cases d with
  |clo f caps=>obtain⟨vs,l,hl,m⟩:=h;exact⟨vs,l,hl,fun i d u a b=>e _ _ (m i d u a b)⟩
  |_=>simp only[Rel] at h ⊢;exact e _ _ h
 exact⟨hs.named,hs.wf,hs.blk,fun id o i j r d a b n=>let ⟨x,p,q⟩:=hs.cells id o i j r d a b n;⟨x,p,g _ _ q⟩,hs.sep,hs.imm,hs.old⟩
theorem Step.drew(c:Cf)(H:aA)(k:Nat):Step c H (c.drew k) H:={Step.refl c H with own:=fun b h=>.inl h}
inductive aY where
 |tm (t:Nat)
 |kv (x:Value)
 |fn (f:FuncId)
def D1.nil:D1:=.osl 0 0 0 0 0
def ofV:Value->D1
 | .slice none 0 0=>.nil
 |x=>.v x
abbrev Env:=Nat->D
def Env.nil:Env:=fun _=>.dead
def Env.set(e:Env)(t:Nat)(d:D):Env:=fun i=>if i=t then d else e i
def aY.ev(e:Env):aY->D
 | .tm t=>e t
 | .kv (.agg cs)=>.one (.agg (cs.toList.map ofV))
 | .kv x=>.one (.c (ofV x))
 | .fn f=>.one (.c (.clo f []))
def Gc:Value->Bool
 | .agg cs=>cs.toList.all Value.oneCell'
 | .tuple _=>false
 |_=>true
def trO:Operand->Option aY
 | .tmp t=>some (.tm t)
 | .const x=>if Gc x then some (.kv x) else none
 | .func f=>some (.fn f)
 | .global _=>none
theorem Fj{x:Value}(h:x.oneCell'=true):Rel c (ofV x) x:=by
 unfold ofV;split;·simp only[D1.nil,Rel,cO];exact⟨abG _,.inl ⟨trivial,none,rfl⟩⟩
 ·simp only[Rel,cO];exact .v x h
def ER(c:Cf)(T:Nat)(e:Env)(a:Act):Prop:=a.tmps.size=T/\a.defers=[]/\ ∀t,gN c (e t) (a.tmps.getD t undef)
theorem we{cs:List Value}(h:cs.all Value.oneCell'=true):xT c (cs.map ofV) cs:=by refine⟨by simp,fun i d u a b=> ?_⟩;simp only[abW,b,Option.map_some,Option.some.injEq] at a;subst a;exact Fj (abX.1 h u (abV b))
theorem n9{T:Nat}{e:Env}{a:Act}(he:ER c T e a){x:Operand}{y:aY}(h:trO x=some y):gN c (y.ev e) (a.eval x):=by
 cases x with
 |tmp t=>simp only[trO,Option.some.injEq] at h;subst h;exact he.2.2 t
 |func f=>simp only[trO,Option.some.injEq] at h;subst h;simp only[aY.ev,gN,lT,Rel,Act.eval];exact⟨[],by simp,rfl,by simp⟩
 |global g=>simp[trO] at h
 |const x=>
  simp only[trO] at h;split at h
  ·rename_i b;simp only[Option.some.injEq] at h;subst h
   cases x<;>simp only[Gc] at b<;>first
    | (exact⟨_,by simp[Act.eval],we b⟩)
    | (simp at b;done)
    | (simp only[aY.ev,gN,lT,Act.eval];exact Fj (by first|rfl|simp[Value.oneCell']))
  ·simp at h
inductive XK where
 |bad
 |FV (f:FuncId)
 |tY (neg:Bool)
 |copy (n:Nat)
 |clear (n:Nat) (z:List D1)
 |zd (f:FuncId)
 |KY (kn:Nat) (bl:Bool)
 |y6
 |uU (kn:Nat) (bl ok:Bool)
 |BY (kn:Nat) (bl:Bool)
 |aeq (neg:Bool) (n:Nat)
inductive AOp where
 |move (x:aY)
 |pick (c a b:aY)
 |yT (x:aY)
 |load (n:Nat) (agg:Bool) (a:aY)
 |fld (k:Nat) (x:aY)
 |idx (n:Nat) (x i:aY)
 |jc (n len:Nat) (x i:aY)
 |bin (op:BinOp) (x y:aY)
 |beq (neg:Bool) (x y:aY)
 |un (op:UnOp) (x:aY)
 |conv (k:IntKind) (x:aY)
 |len (str:Bool) (x:aY)
 |cap (x:aY)
 |ext (x:aY) (i:Nat)
 |slc (n:Nat) (x:aY) (lo hi mx:Option aY)
 |Xy (x:aY)
 |sub (x:aY) (lo hi:Option aY)
 |mmx (mn:Bool) (x y:aY)
 |field (off n:Nat) (agg:Bool) (x:aY)
 |Uc (x i:aY)
 |build (zero:List D1) (parts:List (Nat×Nat×aY))
 |alloc (zero:List D1)
 |box (agg:Bool) (x:aY)
 |aU (n len:Nat) (zero:List D1) (parts:List (Nat×Nat×aY))
 |pU (n:Nat) (zero:List D1) (len cap:aY)
 |store (n:Nat) (agg:Bool) (a x:aY)
 |append (n:Nat) (s x:aY)
 |call (f:FuncId) (args:List aY)
 |AX (f:aY) (args:List aY)
 |xop (k:XK) (args:List aY)
def qB(H:aA):D1->Nat->Option (List D1)
 | .ptr n id row a,k=>
   match H id with
   |some o=>if o.n=n then
     match o.rows[row]? with
     |some r=>if a+k<=r.length then some ((r.drop a).take k) else none
     |none=>none
    else none
   |none=>none
 | .fF cells,k=>if k<=cells.length then some (cells.take k) else none
 |_,_=>none
def mkV(agg:Bool)(cs:List D1):Option D:=
 if agg then some (.one (.agg cs)) else
 match cs with
 | [d]=>some (.one (.c d))
 |_=>none
def an:BinOp->Value->Value->Option Value
 | .shl,.int k a,.int _ b=>if b<0 then none else some (.int k (k.wrap (a*2^(min b.toNat k.bits))))
 | .shr,.int k a,.int _ b=>if b<0 then none else some (.int k (a.fdiv (2^(min b.toNat k.bits))))
 | .add,.int k a,.int k' b=>if k=k' then some (.int k (k.wrap (a+b))) else none
 | .sub,.int k a,.int k' b=>if k=k' then some (.int k (k.wrap (a-b))) else none
 | .mul,.int k a,.int k' b=>if k=k' then some (.int k (k.wrap (a*b))) else none
 | .quo,.int k a,.int k' b=>if k=k' then (if b=0 then none else some (.int k (k.wrap (a.tdiv b)))) else none
 | .rem,.int k a,.int k' b=>if k=k' then (if b=0 then none else some (.int k (a.tmod b))) else none
 | .and,.int k a,.int k' b=>if k=k' then some (.int k (k.wrap (BitVec.ofInt k.bits a&&& BitVec.ofInt k.bits b).toNat)) else none
 | .or,.int k a,.int k' b=>if k=k' then some (.int k (k.wrap (BitVec.ofInt k.bits a|||BitVec.ofInt k.bits b).toNat)) else none
 | .xor,.int k a,.int k' b=>if k=k' then some (.int k (k.wrap (BitVec.ofInt k.bits a^^^BitVec.ofInt k.bits b).toNat)) else none
 | .andNot,.int k a,.int k' b=>if k=k' then some (.int k (k.wrap (BitVec.ofInt k.bits a&&& ~~~ BitVec.ofInt k.bits b).toNat)) else none
 | .eql,.int k a,.int k' b=>if k=k' then some (.bool (a==b)) else none
 | .neq,.int k a,.int k' b=>if k=k' then some (.bool (a != b)) else none
 | .lss,.int k a,.int k' b=>if k=k' then some (.bool (a<b)) else none
 | .leq,.int k a,.int k' b=>if k=k' then some (.bool (a<=b)) else none
 | .gtr,.int k a,.int k' b=>if k=k' then some (.bool (a>b)) else none
 | .geq,.int k a,.int k' b=>if k=k' then some (.bool (a>=b)) else none
 | .add,.string a,.string b=>if ((a.size+b.size:Nat):Int)>IntKind.i64.max then none else some (.string (a++b))
 | .eql,.string a,.string b=>some (.bool (a.toList==b.toList))
 | .neq,.string a,.string b=>some (.bool !(a.toList==b.toList))
 |_,_,_=>none
theorem Ma{P:Program}{op:BinOp}{t:TypeId}{x y v:Value}(h:an op x y=some v)(w:World):(binOp op t x y).run P w= .ok v w:=by
 unfold an at h;split at h
 all_goals first
  | (split at h
     ·split at h;·simp at h
      ·simp only[Option.some.injEq] at h;subst h;rename_i a b;subst a;simp[binOp,Op.intDiv,b]
     ·simp at h)
  | (split at h
     ·simp only[Option.some.injEq] at h;subst h;rename_i a;subst a;simp[binOp,Op.intArith,Op.intBits,Op.intCmp]
     ·simp at h)
  | (split at h
     ·simp at h
     ·simp only[Option.some.injEq] at h;subst h;rename_i a;simp[binOp,Op.shift,a];done)
  | (split at h
     ·simp at h
     ·simp only[Option.some.injEq] at h;subst h;rename_i a;simp only[binOp,Op.stringOp,if_neg a];rfl)
  | (simp only[Option.some.injEq] at h;subst h;simp[binOp,Op.stringOp])
  | (simp at h;done)
def DV.cells:DV->List D1
 | .c d=>[d]
 | .agg cs=>cs
def j9(cs:List D1)(off:Nat)(a:List D1):List D1:=cs.take off++a++cs.drop (off+a.length)
def x9(e:Env):List D1->List (Nat×Nat×aY)->Option (List D1)
 |cs,[]=>some cs
 |cs,(off,n,x)::a=>
  match x.ev e with
  | .one d=>if d.cells.length=n/\off+n<=cs.length then x9 e (j9 cs off d.cells) a else none
  |_=>none
def zo(t:Bool):D->D->D
 | .one (.c (.v (.bool x))),.one (.c (.v (.bool y)))=>.one (.c (.v (.bool (if t then x else y))))
 |a,b=>if t then a else b
def OU(e:Env)(d:Nat):Option aY->Option Nat
 |none=>some d
 |some x=>
  match x.ev e with
  | .one (.c (.v (.int _ k)))=>if 0<=k then some k.toNat else none
  |_=>none
def wx(n lo hi mx:Nat):D1->Option D1
 | .osl m id off _ cap=>if m=n\/cap=0 then (if lo<=hi/\hi<=mx/\mx<=cap then some (.osl n id (off+lo) (hi-lo) (mx-lo)) else none) else none
 |_=>none
def OD:List D->Option (List D1)
 | []=>some []
 | .one (.c (.clo _ _))::_=>none
 | .one (.c d)::r=>(OD r).map (d:: ·)
 |_::_=>none
def A4:List D1->Option (List Int)
 | []=>some []
 | .v (.int .i64 n)::r=>(A4 r).map (n:: ·)
 |_=>none
def eqD(neg:Bool)(n:Nat)(xs ys:List D1):Option (List Int)->Option (List Int)->Option D
 |some a,some b=>if xs.length=n/\ys.length=n then some (.one (.c (.v (.bool (if neg then decide (¬a=b) else decide (a=b)))))) else none
 |_,_=>none
def WM(kn:Nat):D->Option (List Int)
 | .one (.agg cs)=>if kn=0 then none else A4 cs
 | .one (.c (.v (.int .i64 n)))=>if kn=0 then some [n] else none
 |_=>none
def al(bl:Bool):D->Option Int
 | .one (.c (.v (.bool b)))=>if bl then some (if b then 1 else 0) else none
 | .one (.c (.v (.int .i64 n)))=>if bl then none else some n
 |_=>none
def xq:XK->List D->Option D
 | .FV f,a=>(OD a).map fun caps=>.one (.c (.clo f caps))
 | .aeq neg n,[.one (.agg xs),.one (.agg ys)]=>eqD neg n xs ys (A4 xs) (A4 ys)
 |_,_=>none
def bJ(H:aA)(e:Env):AOp->Option D
 | .move x=>some (x.ev e)
 | .pick c a b=>match c.ev e with
   | .one (.c (.v (.bool t)))=>some (zo t (a.ev e) (b.ev e))
   |_=>none
 | .yT x=>match x.ev e with
   | .one (.c (.ptr n id row f))=>some (.one (.c (.ptr n id row f)))
   | .one (.c (.fF cs))=>some (.one (.c (.fF cs)))
   |_=>none
 | .load n g a=>match a.ev e with
   | .one (.c d)=>(qB H d n).bind (mkV g)
   |_=>none
 | .fld k x=>match x.ev e with
   | .one (.c (.ptr n id row f))=>some (.one (.c (.ptr n id row (f+k))))
   | .one (.c (.fF cs))=>some (.one (.c (.fF (cs.drop k))))
   |_=>none
 | .idx n x i=>match x.ev e,i.ev e with
   | .one (.c (.osl m id off len _)),.one (.c (.v (.int _ k)))=>if m=n/\0<=k/\k<len then some (.one (.c (.ptr n id (off+k.toNat) 0))) else none
   | .one (.c (.isl rows)),.one (.c (.v (.int _ k)))=>
     if 0<=k then
      match rows[k.toNat]? with
      |some r=>if r.length=n then some (.one (.c (.fF r))) else none
      |none=>none
     else none
   |_,_=>none
 | .jc n len x i=>match x.ev e,i.ev e with
   | .one (.c (.ptr m id row f)),.one (.c (.v (.int _ k)))=>if 0<=k/\k<len then some (.one (.c (.ptr m id row (f+k.toNat*n)))) else none
   |_,_=>none
 | .bin op x y=>match x.ev e,y.ev e with
   | .one (.c (.v a)),.one (.c (.v b))=>(an op a b).map fun v=>.one (.c (.v v))
   |_,_=>none
 | .beq neg x y=>match x.ev e,y.ev e with
   | .one (.c (.v (.bool a))),.one (.c (.v (.bool b)))=>some (.one (.c (.v (.bool (if neg then a != b else a==b)))))
   |_,_=>none
 | .un op x=>match op,x.ev e with
   | .not,.one (.c (.v (.bool b)))=>some (.one (.c (.v (.bool !b))))
   | .neg,.one (.c (.v (.int k n)))=>some (.one (.c (.v (.int k (k.wrap (0-n))))))
   |_,_=>none
 | .conv k x=>match x.ev e with
   | .one (.c (.v (.int _ n)))=>some (.one (.c (.v (.int k (k.wrap n)))))
   |_=>none
 | .len str x=>match str,x.ev e with
   |true,.one (.c (.v (.string s)))=>some (.one (.c (.v (.int .i64 s.size))))
   |false,.one (.c (.isl rows))=>some (.one (.c (.v (.int .i64 rows.length))))
   |false,.one (.c (.osl _ _ _ len _))=>some (.one (.c (.v (.int .i64 len))))
   |_,_=>none
 | .cap x=>match x.ev e with
   | .one (.c (.osl _ _ _ _ cap))=>some (.one (.c (.v (.int .i64 cap))))
   |_=>none
 | .ext x i=>match x.ev e with
   | .tup xs=>(xs[i]?).map .one
   |_=>none
 | .slc n x lo hi mx=>match x.ev e with
   | .one (.c (.isl rows))=>
     match mx,OU e 0 lo,OU e rows.length hi with
     |none,some l,some h=>if l<=h/\h<=rows.length/\(∀r∈rows,r.length=n) then some (.one (.c (.isl ((rows.drop l).take (h-l))))) else none
     |_,_,_=>none
   | .one (.c (.osl m id off len cap))=>
     match OU e 0 lo,OU e len hi,OU e cap mx with
     |some l,some h,some j=>(wx n l h j (.osl m id off len cap)).map fun d=>.one (.c d)
     |_,_,_=>none
   |_=>none
 | .Xy x=>match x.ev e with
   | .one (.c (.isl _))=>some (.one (.c .nil))
   | .one (.c (.osl _ _ _ _ _))=>some (.one (.c .nil))
   |_=>none
 | .sub x lo hi=>match x.ev e with
   | .one (.c (.v (.string s)))=>
     match OU e 0 lo,OU e s.size hi with
     |some l,some h=>if l<=h/\h<=s.size then some (.one (.c (.v (.string (s.extract l h))))) else none
     |_,_=>none
   |_=>none
 | .mmx o x y=>match x.ev e,y.ev e with
   | .one (.c (.v (.int k a))),.one (.c (.v (.int _ b)))=>some (.one (.c (.v (.int k (if o then (if b<a then b else a) else (if a<b then b else a))))))
   |_,_=>none
 | .field off n g x=>match x.ev e with
   | .one (.agg cs)=>if off+n<=cs.length then mkV g ((cs.drop off).take n) else none
   |_=>none
 | .Uc x i=>match x.ev e,i.ev e with
   | .one (.c (.v (.string s))),.one (.c (.v (.int _ k)))=>if 0<=k then (s[k.toNat]?).map fun b=>.one (.c (.v (.int .u8 b.toNat))) else none
   |_,_=>none
 | .build zero parts=>(x9 e zero parts).map fun cs=>.one (.agg cs)
 | .xop k args=>xq k (args.map (·.ev e))
 |_=>none
def layout(P:Program)(t:TypeId):Option (Nat×Bool):=
 match P.info? t,P.underlying t with
 |some i,some (.struct _)=>some (i.size,true)
 |some i,some (.array _ _)=>some (i.size,true)
 |some i,some _=>if i.size=1 then some (1,false) else none
 |_,_=>none
def zeroOf(P:Program)(t:TypeId):Option (List D1):=
 match P.info? t with
 |some i=>match i.zero with
  |some z=>if z.cells.toList.all Value.oneCell'/\z.cells.size=i.size then some (z.cells.toList.map ofV) else none
  |none=>none
 |none=>none
def Q9:Option Operand->Option (Option aY)
 |none=>some none
 |some x=>(trO x).map some
def qQ(place:Nat->Option (Nat×Nat)):List (Nat×Operand)->Option (List (Nat×Nat×aY))
 | []=>some []
 | (i,x)::a=>
   match place i,trO x,qQ place a with
   |some (off,n),some y,some r=>some ((off,n,y)::r)
   |_,_,_=>none
def mU(P:Program)(a:Array Field)(i:Nat):Option (Nat×Nat):=
 match a[i]? with
 |some f=>match layout P f.type with
  |some (n,_)=>some (f.offset,n)
  |none=>none
 |none=>none
def iH(P:Program)(t:TypeId):Option (TypeId×Nat):=
 match P.underlying t with
 |some (.slice e)=>match layout P e with
  |some (n,_)=>some (e,n)
  |none=>none
 |_=>none
def UT(P:Program)(b:Builtin)(args:List Operand)(a:List TypeId):Option AOp:=
 match b,args,a with
 | .len,[x],[t]=>match trO x,P.underlying t with
   |some y,some .string=>some (.len true y)
   |some y,some (.slice _)=>some (.len false y)
   |_,_=>none
 | .cap,[x],[t]=>match trO x,P.underlying t with
   |some y,some (.slice _)=>some (.cap y)
   |_,_=>none
 | .min,[x,y],_=>match trO x,trO y with
   |some x,some y=>some (.mmx true x y)
   |_,_=>none
 | .max,[x,y],_=>match trO x,trO y with
   |some x,some y=>some (.mmx false x y)
   |_,_=>none
 | .append,[s,x],[t,u]=>match trO s,trO x,iH P t with
   |some s,some x,some (e,n)=>if t=u/\0<n/\(zeroOf P e).isSome/\P.bytesOf e<=65536 then some (.append n s x) else none
   |_,_,_=>none
 |_,_,_=>none
def NN(P:Program):Op->Option AOp
 | .move x=>(trO x).map .move
 | .assign x=>(trO x).map .move
 | .pick c a b=>match trO c,trO a,trO b with
   |some c,some a,some b=>some (.pick c a b)
   |_,_,_=>none
 | .nilCheck x=>(trO x).map .yT
 | .load t a=>match layout P t,trO a with
   |some (n,g),some a=>some (.load n g a)
   |_,_=>none
 | .store t a x=>match layout P t,trO a,trO x with
   |some (n,g),some a,some x=>some (.store n g a x)
   |_,_,_=>none
 | .fieldAddr s x f=>match P.underlying s,trO x with
   |some (.struct d),some x=>match d[f]? with
    |some fd=>match layout P fd.type with
     |some (n,_)=>if n=0 then none else some (.fld fd.offset x)
     |none=>none
    |none=>none
   |_,_=>none
 | .indexAddr t x i=>match P.underlying t,trO x,trO i with
   |some (.slice e),some x,some i=>match layout P e with
    |some (n,_)=>some (.idx n x i)
    |none=>none
   |some (.array len e),some x,some i=>match layout P e with
    |some (n,_)=>some (.jc n len x i)
    |none=>none
   |_,_,_=>none
 | .binOp op t x y _=>match P.underlying t,trO x,trO y with
   |some (.int _),some x,some y=>some (.bin op x y)
   |some .string,some x,some y=>some (.bin op x y)
   |some .bool,some x,some y=>match op with
    | .eql=>some (.beq false x y)
    | .neq=>some (.beq true x y)
    |_=>none
   |_,_,_=>none
 | .unOp op _ x=>(trO x).map (.un op)
 | .convert src dst x=>match P.underlying src,P.underlying dst,trO x with
   |some (.int _),some (.int k),some x=>some (.conv k x)
   |_,_,_=>none
 | .extract x i=>(trO x).map fun x=>.ext x i
 | .slice t x none (some (.const (.int _ 0))) (some (.const (.int _ 0)))=>match P.underlying t,trO x with
   |some (.slice e),some x=>match layout P e with
    |some _=>some (.Xy x)
    |none=>none
   |_,_=>none
 | .slice t x lo hi mx=>match P.underlying t,trO x,Q9 lo,Q9 hi,Q9 mx with
   |some (.slice e),some x,some lo,some hi,some mx=>match layout P e with
    |some (n,_)=>if mx.isSome&&hi.isNone then none else some (.slc n x lo hi mx)
    |none=>none
   |some .string,some x,some lo,some hi,some none=>some (.sub x lo hi)
   |_,_,_,_,_=>none
 | .field t x f=>match P.underlying t,trO x with
   |some (.struct d),some x=>match d[f]? with
    |some fd=>match layout P fd.type with
     |some (n,g)=>some (.field fd.offset n g x)
     |none=>none
    |none=>none
   |_,_=>none
 | .index t x i=>match P.underlying t,trO x,trO i with
   |some .string,some x,some i=>some (.Uc x i)
   |_,_,_=>none
 | .build t h=>match P.underlying t,zeroOf P t with
   |some (.struct d),some z=>if d.all (fun f=>(P.info? f.type).isSome) then (qQ (mU P d) h.toList).map (.build z) else none
   |some (.array _ el),some z=>match layout P el with
    |some (n,_)=>(qQ (fun i=>some (i*n,n)) h.toList).map (.build z)
    |none=>none
   |_,_=>none
 | .alloc t=>(zeroOf P t).map .alloc
 | .box t x=>match layout P t,trO x with
   |some (_,g),some x=>some (.box g x)
   |_,_=>none
 | .buildSlice t len h=>match iH P t with
   |some (e,n)=>match zeroOf P e with
    |some z=>if z.length=n/\len*n<=4096/\0<n then (qQ (fun i=>some (i*n,n)) h.toList).map (.aU n len z) else none
    |none=>none
   |none=>none
 | .makeSlice t l k=>match iH P t,trO l,trO k with
   |some (e,n),some l,some k=>match zeroOf P e with
    |some z=>if z.length=n/\0<n/\P.bytesOf e<=65536 then some (.pU n z l k) else none
    |none=>none
   |_,_,_=>none
 | .call c=>match c.callee with
   | .builtin b=>UT P b c.args.toList c.argTypes.toList
   | .value (.func f)=>(c.args.toList.mapM trO).map (.call f)
   | .value x=>match trO x,c.args.toList.mapM trO with
     |some x,some l=>some (.AX x l)
     |_,_=>none
   |_=>none
 |_=>none
section
variable{P:Program}{c:Cf}{H:aA}
theorem kD{t:TypeId}{n:Nat}{g:Bool}(h:layout P t=some (n,g))(w:World):
 (isAgg t).run P w= .ok g w/\(sizeOf t).run P w= .ok n w/\(g=false->n=1):=by
 unfold layout at h
 split at h
 ·rename_i i c hi hu;simp only[Option.some.injEq,Prod.mk.injEq] at h;obtain⟨rfl,rfl⟩:=h;simp[isAgg,run_underlying hu,sizeOf,typeInfo,hi]
 ·rename_i i l e hi hu;simp only[Option.some.injEq,Prod.mk.injEq] at h;obtain⟨rfl,rfl⟩:=h;simp[isAgg,run_underlying hu,sizeOf,typeInfo,hi]
 ·rename_i i d a b hi hu;split at h
  ·rename_i f;simp only[Option.some.injEq,Prod.mk.injEq] at h;obtain⟨rfl,rfl⟩:=h;refine⟨?_,by simp[sizeOf,typeInfo,hi,f],fun _=>rfl⟩;simp only[isAgg,Sem.run_bind,run_underlying hu,Result.andThen_ok]
   cases d with
   |struct c=>exact(a _ rfl).elim
   |array l e=>exact(b _ _ rfl).elim
   |_=>rfl
  ·simp at h
 ·simp at h
end
section
variable{P:Program}{c:Cf}{H:aA}{T:Nat}{e:Env}{a:Act}
theorem DT(b o k:Nat):(⟨b,o,none⟩:Addr).add k=⟨b,o+k,none⟩:=by
 unfold Addr.add;split;·rename_i h;subst h;rfl
 ·rfl
variable{cs:List D1}
theorem P7(hs:St c H){d:D1}{k:Nat}(h:qB H d k=some cs){x:Value}(e:Rel c d x):
 ∃b o,x= .pointer (some ⟨b,o,none⟩)/\cs.length=k/\ ∀(j:Nat) (y:D1),cs[j]?=some y->∃u,c.w.cell? ⟨b,o+j,none⟩=some u/\Rel c y u:=by
 unfold qB at h
 split at h
 ·rename_i n id row g;split at h
  ·rename_i o l;split at h
   ·rename_i m;split at h
    ·rename_i r hr;split at h
     ·rename_i p;simp only[Option.some.injEq] at h;subst h;simp only[Rel,cO] at e;obtain⟨_,rfl⟩:=e;refine⟨_,_,rfl,by simp;omega,fun j y a=> ?_⟩;rw[acM] at a;split at a;·rw[ab4] at a;obtain⟨u,hu,i⟩:=hs.cells id o row (g+j) r y l hr a;refine⟨u,?_,i⟩;rw[<-hu,m];simp[abH]
      ·simp at a
     ·simp at h
    ·simp at h
   ·simp at h
  ·simp at h
 ·rename_i cells;split at h
  ·rename_i p;simp only[Option.some.injEq] at h;subst h;simp only[Rel,cO] at e
   cases e with
   |fF _ b o f q hc hr=>
    refine⟨b,o,rfl,by simp;omega,fun j y a=> ?_⟩;rw[acM] at a;split at a;·refine⟨f j,hc j y a,?_⟩;have:=hr j y a;cases y<;>first|exact this| (cases this;done)
    ·simp at a
  ·simp at h
 ·simp at h
theorem Sv(f:Nat->Value)(h: ∀(j:Nat) (y:D1),cs[j]?=some y->Rel c y (f j)):xT c cs ((List.range cs.length).map f):=by refine⟨by simp,fun i d u b a=> ?_⟩;simp only[abW,List.getElem?_range] at a;have hi:i<cs.length:=(abN.1 b).1;simp[hi] at a;subst a;exact h i d b
variable{t:TypeId}{n:Nat}{g:Bool}
theorem xh(hs:St c H)(hl:layout P t=some (n,g)){d:D1}{r:D}(h:qB H d n=some cs)(hm:mkV g cs=some r)
 {x:Value} (m:Rel c d x): ∃v,(Instr.loadAt t x).run P c.w= .ok v c.w/\gN c r v:=by
 obtain⟨b,o,rfl,hlen,hc⟩:=P7 hs h m
 obtain⟨l,p,q⟩:=kD hl c.w
 have a: ∀j,∃u:Value,∀y,cs[j]?=some y->c.w.cell? ⟨b,o+j,none⟩=some u/\Rel c y u:=by
  intro j
  cases e:cs[j]? with
  |none=>exact⟨undef,fun y h=>by cases h⟩
  |some y=>obtain⟨u,hu⟩:=hc j y e;exact⟨u,fun s h=>by cases h;exact hu⟩
 obtain⟨f,i⟩:=Classical.axiomOfChoice a
 cases g with
 |true=>
  simp only[mkV,if_true,Option.some.injEq] at hm;subst hm
  have k:=run_loadCells (P:=P) c.w ⟨b,o,none⟩ n f (fun j z=>by
   rw[DT]
   have: ∃y,cs[j]?=some y:=⟨cs[j]'(by omega),abO (by omega)⟩
   obtain⟨y,e⟩:=this
   exact(i j y e).1)
  refine⟨.agg ((List.range n).map f).toArray,?_,?_⟩;·simp[Instr.loadAt,Instr.sureAddr,loadVar,l,p,k]
  ·exact⟨_,rfl,by rw[<-hlen];exact Sv f (fun j y e=>(i j y e).2)⟩
 |false=>
  simp only[mkV] at hm;have:=q rfl;subst this
  match cs,hlen with
  | [y],_=>simp at hm;subst hm;obtain⟨hu,hr⟩:=i 0 y rfl;refine⟨f 0,?_,hr⟩;simp only[Nat.add_zero] at hu;simp[Instr.loadAt,Instr.sureAddr,loadVar,l,hu]
theorem vz{x:Option Operand}{y:Option aY}{d k:Nat}(he:ER c T e a)(f:Q9 x=some y)(h:OU e d y=some k)(b:Nat)(m:k<=b)(code:BoundsCode):
 (x=none/\k=d)\/ ∃v,x.map a.eval=some v/\(Instr.sliceBound v b code).run P c.w= .ok k c.w:=by
 cases x with
 |none=>simp only[Q9,Option.some.injEq] at f;subst f;simp only[OU,Option.some.injEq] at h;exact .inl ⟨rfl,h.symm⟩
 |some x=>
  simp only[Q9,abR] at f;obtain⟨z,j,rfl⟩:=f;simp only[OU] at h;split at h
  ·rename_i q i l;split at h;·rename_i hi;simp only[Option.some.injEq] at h;subst h;have hr:=n9 he j;rw[l] at hr;simp only[gN,lT,Rel,cO] at hr;cases g:a.eval x<;>rw[g] at hr<;>cases hr;refine .inr ⟨_,rfl,?_⟩;rw[g];have:i<=(b:Int):=(by omega);simp[Instr.sliceBound,asIntOf,hi,this]
   ·simp at h
  ·simp at h
theorem EN{x y:Value}(h:Rel c (.v x) y):y=x:=by simp only[Rel,cO] at h;cases h;rfl
theorem PX{x:Value}(h:x.oneCell'=true):Rel c (.v x) x:=by simp only[Rel,cO];exact .v x h
variable{x:Operand}
theorem E7{y:aY}{v:Value}(he:ER c T e a)(b:trO x=some y)(h:y.ev e= .one (.c (.v v))):a.eval x=v:=by have:=n9 he b;rw[h] at this;exact EN this
theorem wW{y:aY}{d:D1}(he:ER c T e a)(b:trO x=some y)(h:y.ev e= .one (.c d)):Rel c d (a.eval x):=by have:=n9 he b;rw[h] at this;exact this
theorem Mr{op:BinOp}{x y v:Value}(h:an op x y=some v):v.oneCell'=true:=by unfold an at h;split at h<;>(repeat (split at h))<;>first| (simp only[Option.some.injEq] at h;subst h;rfl)|simp at h
variable{y:Operand}
theorem Ad{op:BinOp}{u v r:Value}(h:an op u v=some r)(w:World):(eqGuard op t x y u v).run P w= .ok () w:=by unfold an at h;split at h<;>first| (simp at h;done)|simp[eqGuard]
theorem TP{x:Option Operand}{y:Option aY}(h:Q9 x=some y):(x=none↔y=none):=by
 cases x with
 |none=>simp only[Q9,Option.some.injEq] at h;subst h;simp
 |some x=>simp only[Q9,abR] at h;obtain⟨z,_,rfl⟩:=h;simp
theorem R1{b:Bool}:Rel c (.v (.bool b)) (.bool b):=PX rfl
theorem sL{k:IntKind}{n:Int}:Rel c (.v (.int k n)) (.int k n):=PX rfl
theorem Kh{t:Bool}{x y:D}{u v:Value}(a:gN c x u)(b:gN c y v):gN c (zo t x y) (if t then u else v):=by
 unfold zo;split;·have d:=EN (c:=c) a;have e:=EN (c:=c) b;subst d;subst e;cases t<;>exact R1
 ·cases t<;>assumption
theorem ui{rows:List (List D1)}{x:Value}(e:Rel c (.isl rows) x): ∃a cap,x= .slice a rows.length cap/\rows.length<=cap:=by
 simp only[Rel,cO] at e
 cases e with
 |isl _ a cap n b o f g d h hc hr=>exact⟨a,cap,rfl,d⟩
theorem Ui{rows:List (List D1)}{a:Option Addr}{cap l h:Nat}(s:Rel c (.isl rows) (.slice a rows.length cap))(hl:l<=h)(F:h<=rows.length)(A: ∀r∈rows,r.length=n):
 Rel c (.isl ((rows.drop l).take (h-l))) (.slice (if cap=l then a else a.map (·.add (l*n))) (h-l) (cap-l)):=by
 simp only[Rel,cO] at s ⊢
 generalize B:Value.slice a rows.length cap=v at s
 cases s with
 |isl _ G x n' b o f C y m hc hr=>
  injection B with p q D;subst p;subst D;have hlen:((rows.drop l).take (h-l)).length=h-l:=by simp;omega
  have e: ∀(i:Nat) (r:List D1),((rows.drop l).take (h-l))[i]?=some r->rows[l+i]?=some r:=by
   intro i r hr;rw[acM] at hr;split at hr;·rw[ab4] at hr;exact hr
   ·simp at hr
  conv=>arg 4;rw[<-hlen]
  have t: ∀(i:Nat) (r:List D1),rows[i]?=some r->n'=n:=fun i r hr=>(m i r hr).symm.trans (A r (abV hr));refine .isl _ _ _ n' b (o+l*n') (fun i j=>f (l+i) j) (fun k=> ?_) (by rw[hlen];omega) (fun i r hr=>m _ r (e i r hr)) (fun i j r d p q=> ?_) (fun i j r d p q=>hr (l+i) j r d (e i r p) q)
  ·have g:rows≠[]:=(by rintro rfl;simp at k);obtain⟨rfl,E⟩:=C g
   have z:0<h-l:=by
    rcases ac3 (h-l) with u|u;·rw[u] at k;simp at k
    ·exact u
   have w:n'=n:=by
    match rows,g with
    |r::_,_=>exact t 0 r rfl
   subst w;rw[if_neg (by omega)];exact⟨by simp[DT],E⟩
  ·rw[<-hc (l+i) j r d (e i r p) q];congr 2;rw[ab8];omega
variable{el:TypeId}
theorem TX{x:Value}{lo hi mx:Option Value}{A:Option Addr}{len cap l h m:Nat}(hu:P.underlying t=some (.slice el))(a:(sizeOf el).run P c.w= .ok n c.w)
 (e:x= .slice A len cap)
 (hm:(mx=none/\m=cap)\/ ∃v,mx=some v/\(Instr.sliceBound v cap .slice3Acap).run P c.w= .ok m c.w)
 (b:(hi=none/\h=len/\mx=none)\/ ∃v,hi=some v/\(∀code,(Instr.sliceBound v m code).run P c.w= .ok h c.w))
 (hl:(lo=none/\l=0)\/ ∃v,lo=some v/\(∀code,(Instr.sliceBound v h code).run P c.w= .ok l c.w)):
 (Instr.sliceAt t x lo hi mx).run P c.w= .ok (.slice (if m=l then A else A.map (·.add (l*n))) (h-l) (m-l)) c.w:=by
 subst e
 rcases hm with⟨rfl,rfl⟩|⟨i,rfl,hm⟩
 ·rcases b with⟨rfl,rfl,_⟩|⟨f,rfl,b⟩
  ·rcases hl with⟨rfl,rfl⟩|⟨d,rfl,hl⟩
   ·simp[Instr.sliceAt,Instr.slice,run_underlying hu,Instr.sliceBounds,a]
   ·simp[Instr.sliceAt,Instr.slice,run_underlying hu,Instr.sliceBounds,a,hl]
  ·rcases hl with⟨rfl,rfl⟩|⟨d,rfl,hl⟩
   ·simp[Instr.sliceAt,Instr.slice,run_underlying hu,Instr.sliceBounds,a,b]
   ·simp[Instr.sliceAt,Instr.slice,run_underlying hu,Instr.sliceBounds,a,b,hl]
 ·rcases b with⟨rfl,rfl,g⟩|⟨f,rfl,b⟩
  ·simp at g
  ·rcases hl with⟨rfl,rfl⟩|⟨d,rfl,hl⟩
   ·simp[Instr.sliceAt,Instr.slice,run_underlying hu,Instr.sliceBounds,a,hm,b]
   ·simp[Instr.sliceAt,Instr.slice,run_underlying hu,Instr.sliceBounds,a,hm,b,hl]
def mD(P:Program)(c:Cf)(a:Act)(o:Oper)(d:D):Prop:=∃v,(execOp a.eval o).run P c.w= .ok (.value v) c.w/\gN c d v
variable{o:Oper}{d:D}
theorem Oq(he:ER c T e a){y:aY}(b:o.op= .move x\/o.op= .assign x)(g:trO x=some y)(f:bJ H e (.move y)=some d):mD P c a o d:=by simp only[bJ,Option.some.injEq] at f;subst f;refine⟨a.eval x,?_,n9 he g⟩;rcases b with b|b<;>simp[execOp,b]
variable{x':aY}
theorem Ys(he:ER c T e a){z:Operand}{f g:aY}(h:o.op= .pick x y z)(i:trO x=some x')(j:trO y=some f)(k:trO z=some g)
 (b:bJ H e (.pick x' f g)=some d):mD P c a o d:=by
 simp only[bJ] at b
 split at b
 ·rename_i t l;simp only[Option.some.injEq] at b;subst b;have m:=E7 he i l;refine⟨if t then a.eval y else a.eval z,?_,Kh (n9 he j) (n9 he k)⟩;simp[execOp,h,m,asBool]
 ·simp at b
theorem Rh(he:ER c T e a)(i:o.op= .nilCheck x)(h:trO x=some x')(f:bJ H e (.yT x')=some d):mD P c a o d:=by
 simp only[bJ] at f;have key: ∀(D:D1) (p:Addr),x'.ev e= .one (.c D)->a.eval x= .pointer (some p)->mD P c a o (.one (.c D)):=by intro D p b j;refine⟨a.eval x,?_,wW he h b⟩;simp[execOp,i,j]
 split at f;·rename_i n id row k g;simp only[Option.some.injEq] at f;subst f;have b:=wW he h g;simp only[Rel,cO] at b;exact key _ _ g b.2
 ·rename_i cs g;simp only[Option.some.injEq] at f;subst f;have b:=wW he h g;simp only[Rel,cO] at b;generalize l:a.eval x=v at b;cases b;exact key _ _ g l
 ·simp at f
theorem Wg(hs:St c H)(he:ER c T e a)(f:o.op= .load t x)(hl:layout P t=some (n,g))(h:trO x=some x')
 (b:bJ H e (.load n g x')=some d):mD P c a o d:=by
 simp only[bJ] at b
 split at b
 ·rename_i d1 i;simp only[aeE] at b;obtain⟨cs,j,k⟩:=b;obtain⟨v,hr,l⟩:=xh hs hl j k (wW he h i);exact⟨v,by simp[execOp,f,hr],l⟩
 ·simp at b
theorem aaM(he:ER c T e a){s:TypeId}{f:Nat}{r:Array Field}{fd:Field}(u:o.op= .fieldAddr s x f)(hu:P.underlying s=some (.struct r))(z:r[f]?=some fd)
 (hl:layout P fd.type=some (n,g)) (A:n≠0) (t:trO x=some x') (k:bJ H e (.fld fd.offset x')=some d):mD P c a o d:=by
 simp only[bJ] at k
 have i: ∀b p,a.eval x= .pointer (some ⟨b,p,none⟩)->(execOp a.eval o).run P c.w= .ok (.value (.pointer (some ⟨b,p+fd.offset,none⟩))) c.w:=by intro b p h;have B:=(kD hl c.w).2.1;simp[execOp,u,h,Instr.fieldAt,run_underlying hu,z,Instr.sureAddr,fieldPlace,B,A,DT]
 split at k
 ·rename_i n' id row C q;simp only[Option.some.injEq] at k;subst k;have l:=wW he t q;simp only[Rel,cO] at l;refine⟨_,i _ _ l.2,?_⟩;simp only[gN,lT,Rel,cO];exact⟨l.1,by simp[abH]⟩
 ·rename_i cs q;simp only[Option.some.injEq] at k;subst k;have l:=wW he t q;simp only[Rel,cO] at l;generalize D:a.eval x=v at l
  cases l with
  |fF _ b p f E hc hr=>refine⟨_,i _ _ D,?_⟩;simp only[gN,lT,Rel,cO];refine .fF _ b (p+fd.offset) (fun j=>f (fd.offset+j)) E (fun j y m=> ?_) (fun j y m=>hr _ y (by rw[ab4] at m;exact m));rw[ab4] at m;rw[abH];exact hc _ y m
 ·simp at k
theorem aaK(he:ER c T e a){i:Operand}{M:aY}(Q:o.op= .indexAddr t x i)(hu:P.underlying t=some (.slice el))
 (hl:layout P el=some (n,g)) (N:trO x=some x') (hi:trO i=some M) (h:bJ H e (.idx n x' M)=some d):mD P c a o d:=by
 simp only[bJ] at h
 have B:=(kD hl c.w).2.1
 have s: ∀b p len cap q k,a.eval x= .slice (some ⟨b,p,none⟩) len cap->a.eval i= .int q k->0<=k->k<len->
  (execOp a.eval o).run P c.w= .ok (.value (.pointer (some ⟨b,p+k.toNat*n,none⟩))) c.w:=by
  intro b p len cap q k l u R S
  simp[execOp,Q,l,u,Instr.indexAt,asIntOf,run_underlying hu,R,S,B,DT]
 split at h
 ·rename_i m id off len cap q k C D;split at h
  ·rename_i hc;obtain⟨rfl,E,z⟩:=hc;simp only[Option.some.injEq] at h;subst h;have l:=wW he N C;have u:=E7 he hi D;simp only[Rel,cO] at l;obtain⟨hle,⟨U,_⟩|⟨V,W,l⟩⟩:=l;·omega
   ·refine⟨_,s _ _ _ _ _ _ l u E z,?_⟩;simp only[gN,lT,Rel,cO];exact⟨W,by simp[ab8,abH]⟩
  ·simp at h
 ·rename_i rows q k C D;split at h
  ·rename_i E;split at h
   ·rename_i r hr;split at h
    ·rename_i F;simp only[Option.some.injEq] at h;subst h;have l:=wW he N C;have u:=E7 he hi D;simp only[Rel,cO] at l;generalize X:a.eval x=v at l
     cases l with
     |isl _ A cap n' b p f Y O G hc I=>have J:rows≠[]:=(by rintro rfl;simp at hr);obtain⟨rfl,Z⟩:=Y J;have z:k.toNat<rows.length:=(abN.1 hr).1;have K:n'=n:=(G _ r hr).symm.trans F;subst K;refine⟨_,s _ _ _ _ _ _ X u E (by omega),?_⟩;simp only[gN,lT,Rel,cO];exact .fF r b _ (fun j=>f k.toNat j) Z (fun j y L=>by rw[abH];exact hc k.toNat j r y hr L) (fun j y L=>I k.toNat j r y hr L)
    ·simp at h
   ·simp at h
  ·simp at h
 ·simp at h
theorem Xz(he:ER c T e a){i:Operand}{p:aY}{len:Nat}(r:o.op= .indexAddr t x i)(hu:P.underlying t=some (.array len el))
 (hl:layout P el=some (n,g)) (s:trO x=some x') (hi:trO i=some p) (b:bJ H e (.jc n len x' p)=some d):mD P c a o d:=by
 simp only[bJ] at b
 have f:=(kD hl c.w).2.1
 split at b
 ·rename_i m id row h q k u v;split at b
  ·rename_i hc;obtain⟨y,j⟩:=hc;simp only[Option.some.injEq] at b;subst b;have l:=wW he s u;have z:=E7 he hi v;simp only[Rel,cO] at l;refine⟨.pointer (some ⟨(c.ρ id).1,(c.ρ id).2+(row*m+h)+k.toNat*n,none⟩),?_,?_⟩;·simp[execOp,r,l.2,z,Instr.indexAt,Instr.sureAddr,asIntOf,run_underlying hu,y,j,f,DT]
   ·simp only[gN,lT,Rel,cO];exact⟨l.1,by simp[abH]⟩
  ·simp at b
 ·simp at b
theorem Wb(he:ER c T e a){op:BinOp}{g:TypeId}{f:aY}(h:o.op= .binOp op t x y g)(i:trO x=some x')(j:trO y=some f)
 (b:bJ H e (.bin op x' f)=some d):mD P c a o d:=by
 simp only[bJ] at b
 split at b
 ·rename_i u v hu k;simp only[abR] at b;obtain⟨r,hr,rfl⟩:=b;have l:=E7 he i hu;have m:=E7 he j k;refine⟨r,?_,PX (Mr hr)⟩;simp[execOp,h,l,m,Ad hr,Ma hr]
 ·simp at b
theorem Vz(he:ER c T e a){neg:Bool}{k:TypeId}{g:aY}(h:o.op= .binOp (if neg then .neq else .eql) t x y k)(hu:P.underlying t=some .bool)
 (l:trO x=some x') (m:trO y=some g) (b:bJ H e (.beq neg x' g)=some d):mD P c a o d:=by
 simp only[bJ] at b
 split at b
 ·rename_i u v f n;simp only[Option.some.injEq] at b;subst b;have i:=E7 he l f;have j:=E7 he m n
  have heq:(Op.equal t (.bool u) (.bool v)).run P c.w= .ok (u==v) c.w:=by
   have: ∀d,(Op.equalIn (d+1) t (.bool u) (.bool v)).run P c.w= .ok (u==v) c.w:=fun d=>by simp only[Op.equalIn,Sem.run_bind,run_underlying hu,Result.andThen_ok,Sem.run_pure]
   exact this 9999
  refine⟨_,?_,R1⟩;cases neg;·simp only[execOp,h,i,j,ac4,if_false,eqGuard,binOp,Sem.run_bind,Result.andThen_ok,Sem.run_pure];simp[heq]
  ·simp only[execOp,h,i,j,if_true,eqGuard,binOp,Sem.run_bind,Result.andThen_ok,Sem.run_pure];simp[heq,bne]
 ·simp at b
theorem abA(he:ER c T e a){op:UnOp}(i:o.op= .unOp op t x)(j:trO x=some x')(f:bJ H e (.un op x')=some d):mD P c a o d:=by
 simp only[bJ] at f;split at f;·rename_i b g;simp only[Option.some.injEq] at f;subst f;have h:=E7 he j g;exact⟨_,by simp[execOp,i,h,Op.unary],R1⟩
 ·rename_i k n g;simp only[Option.some.injEq] at f;subst f;have h:=E7 he j g;exact⟨_,by simp[execOp,i,h,Op.unary,Op.intArith],sL⟩
 ·simp at f
theorem Xt(he:ER c T e a){s:TypeId}{k g:IntKind}(h:o.op= .convert s t x)(f:P.underlying s=some (.int g))(hu:P.underlying t=some (.int k))(i:trO x=some x')
 (b:bJ H e (.conv k x')=some d):mD P c a o d:=by
 simp only[bJ] at b
 split at b
 ·rename_i q n j;simp only[Option.some.injEq] at b;subst b;have l:=E7 he i j;exact⟨_,by simp[execOp,h,l,convert,run_underlying f,run_underlying hu,Conv.intToInt],sL⟩
 ·simp at b
theorem Zg(he:ER c T e a){i:Nat}(j:o.op= .extract x i)(k:trO x=some x')(b:bJ H e (.ext x' i)=some d):mD P c a o d:=by
 simp only[bJ] at b;split at b
 ·rename_i xs l;simp only[abR] at b;obtain⟨y,g,rfl⟩:=b;have h:=n9 he k;rw[l] at h;obtain⟨vs,f,hl,hr⟩:=h;have hi:i<vs.length:=by rw[hl];exact(abN.1 g).1
  refine⟨vs[i],?_,hr i y _ g (abO hi)⟩;simp[execOp,j,f,Instr.extract,hi]
 ·simp at b
theorem Vy(he:ER c T e a){str:Bool}(h:o.op= .call {callee:=.builtin .len,args:=#[x],argTypes:=#[t]})
 (hu:if str then P.underlying t=some .string else ∃el,P.underlying t=some (.slice el)) (i:trO x=some x') (f:bJ H e (.len str x')=some d):mD P c a o d:=by
 simp only[bJ] at f
 split at f
 ·rename_i s g;simp only[Option.some.injEq] at f;subst f;simp only[if_true] at hu;have b:=E7 he i g;exact⟨_,by simp[execOp,h,resolve,invoke,builtin,b,Builtin.len_,run_underlying hu,goInt],sL⟩
 ·rename_i rows g;simp only[Option.some.injEq] at f;subst f;simp only[ac4,if_false] at hu;obtain⟨el,hu⟩:=hu;obtain⟨A,cap,b,_⟩:=ui (wW he i g);exact⟨_,by simp[execOp,h,resolve,invoke,builtin,b,Builtin.len_,run_underlying hu,goInt],sL⟩
 ·rename_i n id off len cap g;simp only[Option.some.injEq] at f;subst f;simp only[ac4,if_false] at hu;obtain⟨el,hu⟩:=hu;have b:=wW he i g;simp only[Rel,cO] at b;obtain⟨hle,⟨j,A,b⟩|⟨_,_,b⟩⟩:=b;·have:len=0:=(by omega);subst this;exact⟨_,by simp[execOp,h,resolve,invoke,builtin,b,Builtin.len_,run_underlying hu,goInt],sL⟩
  ·exact⟨_,by simp[execOp,h,resolve,invoke,builtin,b,Builtin.len_,run_underlying hu,goInt],sL⟩
 ·simp at f
theorem aaD(he:ER c T e a)(h:o.op= .call {callee:=.builtin .cap,args:=#[x],argTypes:=#[t]})
 (hu:P.underlying t=some (.slice el)) (i:trO x=some x') (f:bJ H e (.cap x')=some d):mD P c a o d:=by
 simp only[bJ] at f
 split at f
 ·rename_i n id off len cap j;simp only[Option.some.injEq] at f;subst f;have b:=wW he i j;simp only[Rel,cO] at b;obtain⟨hle,⟨g,A,b⟩|⟨_,_,b⟩⟩:=b;·subst g;exact⟨_,by simp[execOp,h,resolve,invoke,builtin,b,Builtin.cap_,run_underlying hu,goInt],sL⟩
  ·exact⟨_,by simp[execOp,h,resolve,invoke,builtin,b,Builtin.cap_,run_underlying hu,goInt],sL⟩
 ·simp at f
theorem aaL(he:ER c T e a){g:aY}{l:Array TypeId}{f:Bool}(h:o.op= .call {callee:=.builtin (if f then .min else .max),args:=#[x,y],argTypes:=l})
 (m:trO x=some x') (n:trO y=some g) (b:bJ H e (.mmx f x' g)=some d):mD P c a o d:=by
 simp only[bJ] at b
 split at b
 ·rename_i k u q v hu p;simp only[Option.some.injEq] at b;subst b;have i:=E7 he m hu;have j:=E7 he n p;cases f;·exact⟨_,by simp[execOp,h,resolve,invoke,builtin,i,j,Builtin.max_,Builtin.max2],sL⟩
  ·exact⟨_,by simp[execOp,h,resolve,invoke,builtin,i,j,Builtin.min_,Builtin.min2],sL⟩
 ·simp at b
theorem Wl(he:ER c T e a){i:Operand}{g:aY}(h:o.op= .index t x i)(hu:P.underlying t=some .string)
 (j:trO x=some x') (hi:trO i=some g) (f:bJ H e (.Uc x' g)=some d):mD P c a o d:=by
 simp only[bJ] at f
 split at f
 ·rename_i s q k l m;split at f;·rename_i n;simp only[abR] at f;obtain⟨b,p,rfl⟩:=f;have r:=E7 he j l;have u:=E7 he hi m;exact⟨_,by simp[execOp,h,r,u,Instr.index,asIntOf,run_underlying hu,n,p],sL⟩
  ·simp at f
 ·simp at f
theorem y8{x:Option Operand}{y:Option aY}{d k:Nat}(he:ER c T e a)(i:Q9 x=some y)(h:OU e d y=some k)(b:Nat)(j:k<=b):
 (x=none/\k=d)\/ ∃v,x.map a.eval=some v/\ ∀code,(Instr.sliceBound v b code).run P c.w= .ok k c.w:=by
 rcases vz (P:=P) he i h b j .index with f|⟨v,f,_⟩
 ·exact .inl f
 ·refine .inr ⟨v,f,fun code=> ?_⟩;rcases vz (P:=P) he i h b j code with⟨g,_⟩|⟨m,g,l⟩
  ·subst g;simp at f
  ·rw[f] at g;cases g;exact l
theorem Zx(he:ER c T e a){lo hi mx:Option Operand}{B hi' k:Option aY}(W:o.op= .slice t x lo hi mx)
 (hu:P.underlying t=some (.slice el)) (hl:layout P el=some (n,g)) (L:trO x=some x') (C:Q9 lo=some B) (p:Q9 hi=some hi') (q:Q9 mx=some k)
 (M:k≠none->hi'≠none) (f:bJ H e (.slc n x' B hi' k)=some d):mD P c a o d:=by
 have D:=(kD hl c.w).2.1
 simp only[bJ] at f
 split at f
 ·rename_i rows K;split at f
  ·rename_i l h N O;split at f
   ·rename_i hc;obtain⟨hle,hlen,E⟩:=hc;simp only[Option.some.injEq] at f;subst f;obtain⟨A,cap,r,X⟩:=ui (wW he L K);have b:=wW he L K;rw[r] at b;have F:mx=none:=(TP q).2 rfl;subst F;have s:=y8 (P:=P) he C N h hle;have u:=y8 (P:=P) he p O cap (by omega)
    have j:=TX (P:=P) (c:=c) (l:=l) (h:=h) (x:=a.eval x) (lo:=lo.map a.eval) (hi:=hi.map a.eval) (mx:=none) (m:=cap) hu D r (.inl ⟨rfl,rfl⟩)
     (by rcases u with⟨rfl,rfl⟩|u;exact .inl ⟨rfl,rfl,rfl⟩;exact .inr u) (by rcases s with⟨rfl,rfl⟩|s;exact .inl ⟨rfl,rfl⟩;exact .inr s)
    exact⟨_,by simp only[execOp,W,Option.map_none,Sem.run_bind,j,Result.andThen_ok,Sem.run_pure],Ui b hle hlen E⟩
   ·simp at f
  ·simp at f
 ·rename_i m id off len cap K;split at f
  ·rename_i l h Q N O Y;simp only[abR,wx] at f;obtain⟨d1,z,rfl⟩:=f;split at z
   ·rename_i Z;split at z
    ·rename_i hc;obtain⟨R,S,U⟩:=hc;simp only[Option.some.injEq] at z;subst z;have b:=wW he L K;simp only[Rel,cO] at b;obtain⟨aa,b⟩:=b
     have r: ∃A,a.eval x= .slice A len cap:=by
      rcases b with⟨G,A,i⟩|⟨_,_,i⟩
      ·subst G;have:len=0:=(by omega);subst this;exact⟨A,i⟩
      ·exact⟨_,i⟩
     obtain⟨A,r⟩:=r;have s:=y8 (P:=P) he C N h R;have u:=y8 (P:=P) he p O Q S;have r3:=y8 (P:=P) he q Y cap U
     have j:=TX (P:=P) (c:=c) (l:=l) (h:=h) (x:=a.eval x) (lo:=lo.map a.eval) (hi:=hi.map a.eval) (mx:=mx.map a.eval) (m:=Q) hu D r
      (by rcases r3 with⟨rfl,rfl⟩|⟨v,h4,h5⟩;exact .inl ⟨rfl,rfl⟩;exact .inr ⟨v,h4,h5 _⟩)
      (by rcases u with⟨rfl,rfl⟩|u
          ·refine .inl ⟨rfl,rfl,?_⟩
           cases mx with
           |none=>rfl
           |some y=>have V:hi'=none:=(TP p).1 rfl;exact absurd V (M (fun I=>by have:=(TP q).2 I;simp at this))
          ·exact .inr u)
      (by rcases s with⟨rfl,rfl⟩|s;exact .inl ⟨rfl,rfl⟩;exact .inr s)
     refine⟨_,by simp only[execOp,W,Sem.run_bind,j,Result.andThen_ok,Sem.run_pure];rfl,?_⟩;simp only[gN,lT,Rel,cO];refine⟨by omega,?_⟩;rcases ac3 (Q-l) with I|I;·have:h-l=0:=(by omega);rw[I,this];exact .inl ⟨rfl,_,rfl⟩
     ·rcases b with⟨G,_⟩|⟨_,hN,i⟩
      ·omega
      ·have J:m=n:=(by omega);subst J;rw[r] at i;injection i with e1 e2 e3;refine .inr ⟨I,hN,?_⟩;rw[if_neg (by omega),e1];simp[DT,ab8,abH]
    ·simp at z
   ·simp at z
  ·simp at f
 ·simp at f
theorem Zc(he:ER c T e a){lo hi:Option Operand}{f hi':Option aY}(g:o.op= .slice t x lo hi none)
 (hu:P.underlying t=some .string) (r:trO x=some x') (m:Q9 lo=some f) (n:Q9 hi=some hi') (b:bJ H e (.sub x' f hi')=some d):mD P c a o d:=by
 simp only[bJ] at b
 split at b
 ·rename_i s u;split at b
  ·rename_i l h v w;split at b
   ·rename_i hc;simp only[Option.some.injEq] at b;subst b;have i:=E7 he r u;have j:=y8 (P:=P) he m v h hc.1;have k:=y8 (P:=P) he n w s.size hc.2;refine⟨.string (s.extract l h),?_,PX rfl⟩;rcases j with⟨rfl,rfl⟩|⟨v1,p,j⟩<;>rcases k with⟨rfl,rfl⟩|⟨v2,q,k⟩
    ·simp[execOp,g,i,Instr.sliceAt,run_underlying hu,Instr.slice,Instr.sliceBounds]
    ·simp[execOp,g,i,Instr.sliceAt,run_underlying hu,Instr.slice,Instr.sliceBounds,q,k]
    ·simp[execOp,g,i,Instr.sliceAt,run_underlying hu,Instr.slice,Instr.sliceBounds,p,j]
    ·simp[execOp,g,i,Instr.sliceAt,run_underlying hu,Instr.slice,Instr.sliceBounds,p,j,q,k]
   ·simp at b
  ·simp at b
 ·simp at b
theorem Rv(he:ER c T e a){s:TypeId}{f:Nat}{q:Array Field}{fd:Field}(r:o.op= .field s x f)(hu:P.underlying s=some (.struct q))(t:q[f]?=some fd)
 (hl:layout P fd.type=some (n,g)) (z:trO x=some x') (h:bJ H e (.field fd.offset n g x')=some d):mD P c a o d:=by
 obtain⟨v,A,B⟩:=kD hl c.w
 simp only[bJ] at h
 split at h
 ·rename_i cs C;split at h
  ·rename_i hlen;have hr:=n9 he z;rw[C] at hr;obtain⟨vs,k,D,l⟩:=hr
   cases g with
   |true=>
    simp only[mkV,if_true,Option.some.injEq] at h;subst h;refine⟨.agg (vs.toArray.extract fd.offset (fd.offset+n)),?_,?_⟩;·simp[execOp,r,k,Instr.field,run_underlying hu,t,asAgg,part,v,A]
    ·refine⟨(vs.drop fd.offset).take n,by simp[List.extract_toArray,List.extract_eq_take_drop],?_,?_⟩;·simp;omega
     ·intro i y u j b;rw[acM] at j b;split at j;·rename_i hi;rw[if_pos hi] at b;rw[ab4] at j b;exact l _ y u j b
      ·simp at j
   |false=>
    have:=B rfl;subst this;simp only[mkV] at h;have E: ∃y,cs[fd.offset]?=some y:=⟨cs[fd.offset]'(by omega),abO (by omega)⟩
    obtain⟨y,j⟩:=E;have m:(cs.drop fd.offset).take 1=[y]:=(by rw[acR (by omega)];simp only[List.take_succ_cons,List.take_zero];rw[abO (by omega)] at j;simpa using j);rw[m] at h;simp at h;subst h;have b:vs[fd.offset]?=some (vs[fd.offset]'(by omega)):=abO (by omega);refine⟨vs[fd.offset]'(by omega),?_,l _ y _ j b⟩;have p:fd.offset<vs.length:=(by omega);simp[execOp,r,k,Instr.field,run_underlying hu,t,asAgg,part,v,p]
  ·simp at h
 ·simp at h
theorem zz: ∀(a:List Value) (k off:Nat) (cs:Array Value),off+k+a.length<=cs.size->
 ((a.zipIdx k).foldl (fun(cs:Array Value) (p:Value×Nat)=>cs.setIfInBounds (off+p.2) p.1) cs).toList=cs.toList.take (off+k)++a++cs.toList.drop (off+k+a.length)
 | [],k,off,cs,_=>by simp
 |x::a,k,off,cs,h=>by simp only[List.zipIdx_cons,List.foldl_cons];rw[zz a (k+1) off _ (by simp at h ⊢;omega)];have e:=list_seg_step cs.toList (off+k) x a (by simp at h ⊢;omega);simp only[List.length_cons] at*;rw[show off+(k+1)=off+k+1 from by omega];simpa [Array.toList_setIfInBounds] using e
theorem Hw{b:List D1}{us vs:List Value}{off:Nat}(e:xT c cs us)(h:xT c b vs)(hl:off+b.length<=cs.length):
 xT c (j9 cs off b) (us.take off++vs++us.drop (off+vs.length)):=by
 have l:=e.1
 have k:=h.1
 refine⟨by simp[j9];omega,fun i d u a hu=> ?_⟩
 simp only[j9,abY] at a hu
 rw[ab7] at a hu
 rw[ab7] at a hu
 simp only[ab5,acM,ab4] at a hu
 have f:min off cs.length=off:=by omega
 have g:min off us.length=off:=by omega
 rw[f] at a;rw[g] at hu
 by_cases hi:i<off
 ·rw[if_pos hi,if_pos hi] at a hu;exact e.2 i d u a hu
 ·rw[if_neg hi] at a hu;by_cases j:i-off<b.length;·rw[if_pos j] at a;rw[if_pos (by omega)] at hu;exact h.2 _ d u a hu
  ·rw[if_neg j] at a;rw[if_neg (by omega)] at hu;rw[k] at hu;exact e.2 _ d u a hu
theorem OB{d:DV}{x:Value}(h:lT c d x):xT c d.cells x.cells.toList:=by
 cases d with
 |c d=>
  simp only[lT] at h;have e:=h.sN;have hc:x.cells= #[x]:=by cases x<;>first|rfl|simp[Value.oneCell'] at e
  rw[hc];refine⟨rfl,fun i f u a b=> ?_⟩
  match i with
  |0=>simp[DV.cells] at a b;subst a;subst b;exact h
  |i+1=>simp[DV.cells] at a
 |agg cs=>obtain⟨vs,rfl,hr⟩:=h;simpa [Value.cells,DV.cells] using hr
theorem SP(he:ER c T e a)(place:Nat->Option (Nat×Nat)): ∀(j:List (Nat×Operand)) (qs:List (Nat×Nat×aY)) (cs:List D1) (us:Array Value) (rs:List D1),
 qQ place j=some qs->x9 e cs qs=some rs->xT c cs us.toList->
 ∃vs,Instr.fill place us (j.map fun p=>(p.1,a.eval p.2))=some vs/\xT c rs vs.toList
 | [],qs,cs,us,rs,f,b,hr=>by simp only[qQ,Option.some.injEq] at f;subst f;simp only[x9,Option.some.injEq] at b;subst b;exact⟨us,rfl,hr⟩
 | (i,x)::j,qs,cs,us,rs,f,b,hr=>by
   simp only[qQ] at f;split at f
   ·rename_i off n y r hp o k;simp only[Option.some.injEq] at f;subst f;simp only[x9] at b;split at b
    ·rename_i d q;split at b;·rename_i hc;have g:=n9 he o;rw[q] at g;have h:=OB g;have hlen:(a.eval x).cells.size=n:=(by have:=h.1;simp at this;omega);have l:us.size=cs.length:=(by have:=hr.1;simpa using this);have m:=Hw hr h (off:=off) (by omega);obtain⟨vs,s,t⟩:=SP he place j r (j9 cs off d.cells) (us.toList.take off++(a.eval x).cells.toList++us.toList.drop (off+(a.eval x).cells.toList.length)).toArray rs k b (by simpa using m);refine⟨vs,?_,t⟩;simp only[abZ,Instr.fill,hp];rw[if_neg (by simp[hlen,l];omega)];rw[<-s];congr 1;apply ac8;have:=zz (a.eval x).cells.toList 0 off us (by simp[hlen];omega);simp only[Nat.add_zero] at this;rw[<-this];rw[<-Array.foldl_toList];simp
     ·simp at b
    ·simp at b
   ·simp at f
theorem tA{z:List D1}(h:zeroOf P t=some z)(w:World): ∃v,(zeroValue t).run P w= .ok v w/\xT c z v.cells.toList/\z.length=v.cells.size/\(∀i,P.info? t=some i->v.cells.size=i.size)/\v.cells.toList.all Value.oneCell'=true:=by
 unfold zeroOf at h;split at h
 ·rename_i i hi;split at h
  ·rename_i v b;split at h;·rename_i hc;simp only[Option.some.injEq] at h;subst h;refine⟨v,by simp[zeroValue,typeInfo,hi,b],we hc.1,by simp,fun j a=> ?_,hc.1⟩;rw[hi] at a;cases a;exact hc.2
   ·simp at h
  ·simp at h
 ·simp at h
theorem Cm(c:Array Field)(h: ∀f∈c.toList,(P.info? f.type).isSome=true)(w:World):
 ∃pl,(c.mapM fun f=>do pure (f.offset,<-sizeOf f.type):Sem (Array (Nat×Nat))).run P w= .ok pl w/\ ∀i p,mU P c i=some p->pl[i]?=some p:=by
 have key: ∀(l:List Field),(∀f∈l,(P.info? f.type).isSome=true)->∃pl,(l.mapM fun f=>do pure (f.offset,<-sizeOf f.type):Sem (List (Nat×Nat))).run P w= .ok pl w/\
  ∀i p,mU P l.toArray i=some p->pl[i]?=some p:=by
  intro l
  induction l with
  |nil=>intro _;exact⟨[],by simp,by simp[mU]⟩
  |cons f l k=>
   intro hl;obtain⟨pl,d,e⟩:=k (fun g m=>hl g (by simp[m]));obtain⟨inf,a⟩:=aeX.1 (hl f (by simp));refine⟨(f.offset,inf.size)::pl,?_,?_⟩;·have j:(sizeOf f.type).run P w= .ok inf.size w:=(by simp[sizeOf,typeInfo,a]);simp only[List.mapM_cons,Sem.run_bind,j,Result.andThen_ok,Sem.run_pure] at d ⊢;rw[d];rfl
   ·intro i p hp
    match i with
    |0=>
     simp only[mU,adG,List.getElem?_cons_zero] at hp;split at hp;·rename_i n g b;have:=(kD b w).2.1;simp[sizeOf,typeInfo,a] at this;simp at hp;subst hp;simp[this]
     ·simp at hp
    |i+1=>have:=e i p (by simpa [mU] using hp);simpa using this
 obtain⟨l⟩:=c
 obtain⟨pl,d,e⟩:=key l (by simpa using h)
 refine⟨pl.toArray,?_,fun i p hp=>by simpa using e i p hp⟩
 simp only[List.mapM_toArray,Sem.run_map,d,Result.andThen_ok]
theorem Tj(he:ER c T e a){b:Array (Nat×Operand)}{z:List D1}{g:Array Field}{qs:List (Nat×Nat×aY)}(F:o.op= .build t b)(hu:P.underlying t=some (.struct g))
 (G:zeroOf P t=some z) (j:g.all (fun f=>(P.info? f.type).isSome)=true) (I:qQ (mU P g) b.toList=some qs) (E:bJ H e (.build z qs)=some d):mD P c a o d:=by
 simp only[bJ,abR] at E
 obtain⟨rs,m,rfl⟩:=E
 obtain⟨J,s,u,_⟩:=tA (c:=c) G c.w
 obtain⟨pl,v,A⟩:=Cm (P:=P) g (fun f m=>by simpa using (aeF.1 j) f (by simpa using m)) c.w
 have B: ∀(l:List (Nat×Operand)) (q:List (Nat×Nat×aY)),qQ (mU P g) l=some q->qQ (pl[·]?) l=some q:=by
  intro l
  induction l with
  |nil=>intro q h;exact h
  |cons p l K=>
   intro q h;obtain⟨i,x⟩:=p;simp only[qQ] at h ⊢;split at h;·rename_i off n y r C D L;simp only[Option.some.injEq] at h;subst h;simp[A i _ C,D,K r L]
   ·simp at h
 obtain⟨vs,C,D⟩:=SP he (pl[·]?) b.toList qs z J.cells rs (B _ _ I) m u
 refine⟨.agg vs,?_,⟨vs.toList,by simp,D⟩⟩
 have k:(b.map fun p=>(p.1,a.eval p.2)).toList=b.toList.map fun p=>(p.1,a.eval p.2):=by simp
 simp only[execOp,F,Instr.build,Sem.run_bind,s,Result.andThen_ok,run_underlying hu,v,k,C,Sem.run_pure]
theorem Ow(he:ER c T e a){b:Array (Nat×Operand)}{z:List D1}{len:Nat}{qs:List (Nat×Nat×aY)}(m:o.op= .build t b)(hu:P.underlying t=some (.array len el))
 (q:zeroOf P t=some z) (hl:layout P el=some (n,g)) (r:qQ (fun i=>some (i*n,n)) b.toList=some qs) (l:bJ H e (.build z qs)=some d):mD P c a o d:=by
 simp only[bJ,abR] at l
 obtain⟨rs,s,rfl⟩:=l
 obtain⟨u,h,j,_⟩:=tA (c:=c) q c.w
 obtain⟨vs,v,x⟩:=SP he _ b.toList qs z u.cells rs r s j
 refine⟨.agg vs,?_,⟨vs.toList,by simp,x⟩⟩
 have f:(b.map fun p=>(p.1,a.eval p.2)).toList=b.toList.map fun p=>(p.1,a.eval p.2):=by simp
 have k:=(kD hl c.w).2.1
 simp only[execOp,m,Instr.build,Sem.run_bind,h,Result.andThen_ok,run_underlying hu,k,f,v,Sem.run_pure]
end
end Go.AM
namespace Go.AM
open Go.RowKit
section
variable{P:Program}{c:Cf}{H:aA}
def Cf.named(c:Cf)(m:Nat)(b base:Nat)(w:World):Cf:={ρ:=fun i=>if i=m then (b,base) else c.ρ i,N:=fun i=>i=m\/c.N i,I:=c.I,w:=w}
structure yW(c:Cf)(arr:Array Value)(base:Nat)(o:bM):Prop where
 le:o.rows.length<=o.ext
 len: ∀(i:Nat) (r:List D1),o.rows[i]?=some r->r.length=o.n
 size:base+o.ext*o.n<=arr.size
 rel: ∀(i j:Nat) (r:List D1) (d:D1),o.rows[i]?=some r->r[j]?=some d->∃u,arr[base+(i*o.n+j)]?=some u/\Rel c d u
 nm: ¬(o.n=0/\o.rows=[]/\0<o.ext)
theorem bW{H:aA}{m id:Nat}{o o':bM}(h:(H.set m o) id=some o'):(id=m/\o=o')\/(id≠m/\H id=some o'):=by
 unfold aA.set at h;split at h;·rename_i he;exact .inl ⟨he,by simpa using h⟩
 ·rename_i he;exact .inr ⟨he,h⟩
theorem VK(hs:St c H){m:Nat}{o:bM}{arr:Array Value}(T:TypeId)(hm: ¬c.N m)(hr:yW c arr 0 o):
 St (c.named m c.w.heap.size 0 (c.w.alloc (.cells arr T))) (H.set m o)/\Step c H (c.named m c.w.heap.size 0 (c.w.alloc (.cells arr T))) (H.set m o):=by
 have a: ∀id,c.N id->(c.named m c.w.heap.size 0 (c.w.alloc (.cells arr T))).ρ id=c.ρ id:=by intro id A;simp only[Cf.named];rw[if_neg (by rintro rfl;exact hm A)]
 have l: ∀id o',H id=some o'->0<o'.ext->(c.ρ id).1<c.w.heap.size:=by intro id o' n p;exact(hs.blk id o' n p).lt
 have f: ∀b,b<c.w.heap.size->(c.w.alloc (.cells arr T)).heap[b]?=c.w.heap[b]?:=fun b t=>Below.heap_alloc _ _ _ t
 have q:(c.w.alloc (.cells arr T)).heap[c.w.heap.size]?=some (.cells arr T (0,0)):=by show (c.w.heap.push _)[_]?=_;simp
 have g:Step c H (c.named m c.w.heap.size 0 (c.w.alloc (.cells arr T))) (H.set m o):={
  ρ:=a
  N:=fun _ h=>.inr h
  I:=fun _ h=>h
  I':=fun _ h=>.inl h
  size:=by simp[Cf.named]
  os:=rfl
  tape:=rfl
  output:=rfl
  frame:=fun b t _=>f b t
  own:=by
   rintro b ⟨id,o',n,p,s⟩;rcases bW n with⟨rfl,rfl⟩|⟨e,n⟩
   ·right;simp[Cf.named] at s;omega
   ·left;exact⟨id,o',n,p,by rw[a id (hs.named id o' n)] at s;exact s⟩}
 refine⟨?_,g⟩
 refine {named:= ?_,wf:= ?_,blk:= ?_,cells:= ?_,sep:= ?_,imm:= ?_,old:= ?_}
 ·intro id o' h;rcases bW h with⟨rfl,rfl⟩|⟨e,h⟩
  ·exact .inl rfl
  ·exact .inr (hs.named id o' h)
 ·intro id o' h;rcases bW h with⟨rfl,rfl⟩|⟨e,h⟩
  ·exact⟨hr.le,hr.len⟩
  ·exact hs.wf id o' h
 ·intro id o' h he;rcases bW h with⟨rfl,rfl⟩|⟨e,h⟩
  ·refine FE.mk (fun hm=>hr.nm ⟨hm.1,hm.2,he⟩) ⟨arr,T,?_,?_⟩;·simp only[Cf.named,if_true];exact q
   ·simpa [Cf.named] using hr.size
  ·rw[a id (hs.named id o' h)];have:=hs.blk id o' h he;rw[<-f _ (l id o' h he)] at this;exact this
 ·intro id o' i j r d h n p;rcases bW h with⟨rfl,rfl⟩|⟨e,h⟩
  ·obtain⟨u,s,B⟩:=hr.rel i j r d n p;refine⟨u,?_,B.step g hs⟩;simp only[Cf.named,if_true,World.cell?,q];simpa using s
  ·obtain⟨u,s,B⟩:=hs.cells id o' i j r d h n p;refine⟨u,?_,B.step g hs⟩;rw[a id (hs.named id o' h)];rw[<-s];exact World.cell?_of_block (w:=c.w) (f _ (World.block_lt_of_cell? c.w _ s))
 ·intro id k v x n p C D e;rcases bW n with⟨rfl,rfl⟩|⟨E,y⟩<;>rcases bW p with⟨rfl,rfl⟩|⟨F,z⟩
  ·exact absurd rfl e
  ·rw[a k (hs.named k x z)];simp only[Cf.named,if_true];have:=l k x z D;omega
  ·rw[a id (hs.named id v y)];simp only[Cf.named,if_true];have:=l id v y C;omega
  ·rw[a id (hs.named id v y),a k (hs.named k x z)];exact hs.sep id k v x y z C D e
 ·intro id o' h he;rcases bW h with⟨rfl,rfl⟩|⟨e,h⟩
  ·simp only[Cf.named,if_true];intro G;have:=hs.old _ G;omega
  ·rw[a id (hs.named id o' h)];exact hs.imm id o' h he
 ·intro b t;have:=hs.old b t;simp[Cf.named];omega
theorem Mu{H0:aA}(hs:St c H)(t: ∀id o,H0 id=some o->H id=some o){b base:Nat}{arr arr':Array Value}{T:TypeId}{m:Nat}{o:bM}
 (B:c.w.heap[b]?=some (.cells arr T (0,0))) (y:yA c H b) (G: ¬yA c H0 b) (hm:c.N m->c.ρ m=(b,base)) (Q:H0 m=none) (hr:yW c arr' base o):
 St (c.named m b base (c.w.setRow b arr')) (H0.set m o)/\Step c H (c.named m b base (c.w.setRow b arr')) (H0.set m o):=by
 have R:b<c.w.heap.size:=(ad2.1 B).1
 have J: ¬c.I b:=fun h=>hs.oz h y
 have a:=hs.forget t
 have e: ∀id,c.N id->(c.named m b base (c.w.setRow b arr')).ρ id=c.ρ id:=by
  intro id K;simp only[Cf.named];split;·rename_i he;subst he;exact(hm K).symm
  ·rfl
 have g: ∀k,k≠b->(c.w.setRow b arr').heap[k]?=c.w.heap[k]?:=fun k M=>setRow_other _ _ _ _ M
 have v:(c.w.setRow b arr').heap[b]?=some (.cells arr' T (0,0)):=setRow_heap _ _ _ _ _ _ B
 have n: ∀id o',H0 id=some o'->0<o'.ext->(c.ρ id).1≠b:=fun id o' q x s=>G ⟨id,o',q,x,s⟩
 have l:Step c H (c.named m b base (c.w.setRow b arr')) (H0.set m o):={
  ρ:=e
  N:=fun _ h=>.inr h
  I:=fun _ h=>h
  I':=fun _ h=>.inl h
  size:=by simp[Cf.named]
  os:=rfl
  tape:=rfl
  output:=rfl
  frame:=fun k M z=>g k (by rintro rfl;exact z y)
  own:=by
   rintro k ⟨id,o',q,x,s⟩;rcases bW q with⟨rfl,rfl⟩|⟨f,q⟩
   ·left;simp[Cf.named] at s;subst s;exact y
   ·left;exact⟨id,o',t id o' q,x,by rw[e id (a.named id o' q)] at s;exact s⟩}
 refine⟨?_,l⟩
 refine {named:= ?_,wf:= ?_,blk:= ?_,cells:= ?_,sep:= ?_,imm:= ?_,old:= ?_}
 ·intro id o' h;rcases bW h with⟨rfl,rfl⟩|⟨f,h⟩
  ·exact .inl rfl
  ·exact .inr (a.named id o' h)
 ·intro id o' h;rcases bW h with⟨rfl,rfl⟩|⟨f,h⟩
  ·exact⟨hr.le,hr.len⟩
  ·exact a.wf id o' h
 ·intro id o' h he;rcases bW h with⟨rfl,rfl⟩|⟨f,h⟩
  ·refine FE.mk (fun hm=>hr.nm ⟨hm.1,hm.2,he⟩) ⟨arr',T,?_,?_⟩;·simp only[Cf.named,if_true];exact v
   ·simpa [Cf.named] using hr.size
  ·rw[e id (a.named id o' h)];have:=a.blk id o' h he;rw[<-g _ (n id o' h he)] at this;exact this
 ·intro id o' i j r d h q x;rcases bW h with⟨rfl,rfl⟩|⟨f,h⟩
  ·obtain⟨u,s,L⟩:=hr.rel i j r d q x;refine⟨u,?_,L.step l hs⟩;simp only[Cf.named,if_true,World.cell?,v];simpa using s
  ·obtain⟨u,s,L⟩:=a.cells id o' i j r d h q x;refine⟨u,?_,L.step l hs⟩;have A:0<o'.ext:=by have:=(a.wf id o' h).1;have hi:i<o'.rows.length:=(abN.1 q).1;omega
   rw[e id (a.named id o' h),<-s];exact World.cell?_of_block (w:=c.w) (g _ (n id o' h A))
 ·intro id p C D q x O P f;rcases bW q with⟨rfl,rfl⟩|⟨S,E⟩<;>rcases bW x with⟨rfl,rfl⟩|⟨U,F⟩
  ·exact absurd rfl f
  ·rw[e p (a.named p D F)];simp only[Cf.named,if_true];exact fun h=>n p D F P h.symm
  ·rw[e id (a.named id C E)];simp only[Cf.named,if_true];exact n id C E O
  ·rw[e id (a.named id C E),e p (a.named p D F)];exact a.sep id p C D E F O P f
 ·intro id o' h he;rcases bW h with⟨rfl,rfl⟩|⟨f,h⟩
  ·simp only[Cf.named,if_true];exact J
  ·rw[e id (a.named id o' h)];exact a.imm id o' h he
 ·intro b B;have:=hs.old b B;simp[Cf.named];omega
theorem yW.drew{arr:Array Value}{base:Nat}{o:bM}(h:yW c arr base o)(k:Nat):yW (c.drew k) arr base o where
 le:=h.le
 len:=h.len
 size:=h.size
 nm:=h.nm
 rel i j r d a b:=by
  obtain⟨u,l,e⟩:=h.rel i j r d a b;refine⟨u,l,?_⟩;have g: ∀d x,cO c d x->cO (c.drew k) d x:=by intro d x h;cases d<;>simp only[cO,Cf.drew] at h ⊢ <;>first|exact h.DL (fun _ h=>h) (fun _ _=>rfl)|exact h
  cases d with
  |clo f caps=>obtain⟨vs,m,hl,n⟩:=e;exact⟨vs,m,hl,fun i d u a b=>g _ _ (n i d u a b)⟩
  |_=>simp only[Rel] at e ⊢;exact g _ _ e
end
section
variable{P:Program}{c:Cf}{H:aA}{T:Nat}{e:Env}{a:Act}
def chunk:Nat->Nat->List D1->List (List D1)
 |0,_,_=>[]
 |k+1,n,l=>l.take n::chunk k n (l.drop n)
def oN(id:Nat)(e:Env):AOp->Option (D×bM)
 | .alloc z=>some (.one (.c (.ptr z.length id 0 0)),⟨z.length,1,[z]⟩)
 | .box _ x=>match x.ev e with
   | .one d=>some (.one (.c (.ptr d.cells.length id 0 0)),⟨d.cells.length,1,[d.cells]⟩)
   |_=>none
 | .aU n len z parts=>(x9 e ((List.replicate len z).flatten) parts).map fun rs=>(.one (.c (.osl n id 0 len len)),⟨n,len,chunk len n rs⟩)
 | .pU n z l k=>match l.ev e,k.ev e with
   | .one (.c (.v (.int _ x))),.one (.c (.v (.int _ y)))=>if 0<=x/\x<=y/\y<=2147483647 then some (.one (.c (.osl n id 0 x.toNat y.toNat)),⟨n,y.toNat,List.replicate y.toNat z⟩) else none
   |_,_=>none
 |_=>none
theorem T5: ∀(k n:Nat) (l:List D1) (i:Nat) (r:List D1),(chunk k n l)[i]?=some r->i<k/\r=(l.drop (i*n)).take n
 |0,n,l,i,r,h=>by simp[chunk] at h
 |k+1,n,l,0,r,h=>by simp[chunk] at h;simp[h]
 |k+1,n,l,i+1,r,h=>by simp only[chunk,List.getElem?_cons_succ] at h;obtain⟨b,a⟩:=T5 k n (l.drop n) i r h;refine⟨by omega,?_⟩;rw[a,ac5,ab8];congr 2;omega
theorem JN: ∀(k n:Nat) (l:List D1),(chunk k n l).length=k
 |0,_,_=>rfl
 |k+1,n,l=>by simp[chunk,JN k n]
variable{arr:Array Value}
theorem vu{rs:List D1}{len n:Nat}(h:xT c rs arr.toList)(hl:rs.length=len*n):yW c arr 0 ⟨n,len,chunk len n rs⟩:=by
 refine⟨by simp[JN],fun i r hr=> ?_,?_,fun i j r d f a=> ?_,fun⟨_,a,b⟩=>by have:=congrArg List.length a;simp only[JN,List.length_nil] at this b;omega⟩;·obtain⟨hi,rfl⟩:=T5 _ _ _ _ _ hr;have:(i+1)*n<=len*n:=acW _ (by omega);rw[ab8] at this;simp;omega
 ·have:=h.1;simp at this;simp;omega
 ·obtain⟨hi,rfl⟩:=T5 _ _ _ _ _ f;rw[acM] at a;split at a;·rw[ab4] at a;have e:i*n+j<rs.length:=(abN.1 a).1;have b:arr.toList[i*n+j]?=some (arr.toList[i*n+j]'(by rw[h.1];exact e)):=abO _;refine⟨_,?_,h.2 _ d _ a b⟩;simp
  ·simp at a
theorem Dp{cs:List D1}(h:xT c cs arr.toList):yW c arr 0 ⟨cs.length,1,[cs]⟩:=by
 refine⟨by simp,fun i r hr=> ?_,?_,fun i j r d b a=> ?_,fun⟨_,a,_⟩=>by cases a⟩
 ·match i with
  |0=>simp at hr;simp[hr]
  |i+1=>simp at hr
 ·have:=h.1;simp at this;simp;omega
 ·match i with
  |0=>simp at b;subst b;have e:j<cs.length:=(abN.1 a).1;have f:arr.toList[j]?=some (arr.toList[j]'(by rw[h.1];exact e)):=abO _;refine⟨_,?_,h.2 _ d _ a f⟩;simp
  |i+1=>simp at b
def V2(P:Program)(c:Cf)(H:aA)(a:Act)(o:Oper)(id:Nat)(d:D)(b:bM):Prop:=∃v c',(execOp a.eval o).run P c.w= .ok (.value v) c'.w/\St c' (H.set id b)/\Step c H c' (H.set id b)/\gN c' d v/\(∀i,c'.N i↔i=id\/c.N i)
variable{o:Oper}{t:TypeId}
theorem qt(hs:St c H){id:Nat}(d: ¬c.N id){cs:List D1}(hr:xT c cs arr.toList)
 (b:(execOp a.eval o).run P c.w= .ok (.value (.pointer (some ⟨c.w.heap.size,0,none⟩))) (c.w.alloc (.cells arr t))):
 V2 P c H a o id (.one (.c (.ptr cs.length id 0 0))) ⟨cs.length,1,[cs]⟩:=by
 obtain⟨e,f⟩:=VK hs t d (Dp hr)
 refine⟨_,c.named id c.w.heap.size 0 (c.w.alloc (.cells arr t)),b,e,f,?_,fun i=>ac6⟩
 simp only[gN,lT,Rel,cO,Cf.named,if_true]
 exact⟨.inl trivial,by simp⟩
theorem qh(hs:St c H){id n len cap ext:Nat}(f: ¬c.N id){rows:List (List D1)}(hr:yW c arr 0 ⟨n,ext,rows⟩)(d:len<=cap)
 (b:(execOp a.eval o).run P c.w= .ok (.value (.slice (some ⟨c.w.heap.size,0,none⟩) len cap)) (c.w.alloc (.cells arr t))):
 V2 P c H a o id (.one (.c (.osl n id 0 len cap))) ⟨n,ext,rows⟩:=by
 obtain⟨g,h⟩:=VK hs t f hr
 refine⟨_,c.named id c.w.heap.size 0 (c.w.alloc (.cells arr t)),b,g,h,?_,fun i=>ac6⟩
 simp only[gN,lT,Rel,cO,Cf.named,if_true]
 refine⟨d,?_⟩
 rcases ac3 cap with e|e
 ·subst e;have:len=0:=by omega
  subst this;exact .inl ⟨rfl,_,rfl⟩
 ·exact .inr ⟨e,.inl trivial,by simp⟩
variable{z:List D1}
theorem So(hs:St c H){id:Nat}{d:D}{b:bM}(g: ¬c.N id)(h:o.op= .alloc t)(i:zeroOf P t=some z)(f:oN id e (.alloc z)=some (d,b)):V2 P c H a o id d b:=by simp only[oN,Option.some.injEq,Prod.mk.injEq] at f;obtain⟨rfl,rfl⟩:=f;obtain⟨v,j,k,_⟩:=tA (c:=c) i c.w;apply qt hs (t:=t) g k;simp[execOp,h,Instr.alloc,j,newVar,newRow]
theorem aaG(hs:St c H)(he:ER c T e a){x:Operand}{x':aY}{g:Bool}{id:Nat}{d:D}{f:bM}(h: ¬c.N id)(i:o.op= .box t x)(j:trO x=some x')
 (b:oN id e (.box g x')=some (d,f)):V2 P c H a o id d f:=by
 simp only[oN] at b
 split at b
 ·rename_i l k;simp only[Option.some.injEq,Prod.mk.injEq] at b;obtain⟨rfl,rfl⟩:=b;have hr:=n9 he j;rw[k] at hr;apply qt hs (t:=t) h (OB hr);simp[execOp,i,Instr.box,newVar,newRow]
 ·simp at b
theorem rJ{el:TypeId}{n:Nat}(h:iH P t=some (el,n))(w:World):P.underlying t=some (.slice el)/\(sizeOf el).run P w= .ok n w/\ ∃g,layout P el=some (n,g):=by
 unfold iH at h;split at h
 ·rename_i e' hu;split at h;·rename_i n' g hl;simp only[Option.some.injEq,Prod.mk.injEq] at h;obtain⟨rfl,rfl⟩:=h;exact⟨hu,(kD hl w).2.1,g,hl⟩
  ·simp at h
 ·simp at h
theorem Jq{a:Array Value}(l:xT c z a.toList)(f:0<a.size)(len:Nat):
 xT c ((List.replicate len z).flatten) ((Array.range (len*a.size)).map (a[· %a.size]!)).toList:=by
 have b:z.length=a.size:=by have:=l.1;simp at this;omega
 refine⟨by simp[b],fun i d u h g=> ?_⟩
 simp only[Array.toList_map,Array.toList_range,abW,List.getElem?_range] at g
 have hi:i<len*a.size:=by have:=(abN.1 h).1;simpa [b] using this
 simp[hi] at g
 have e:i%a.size<a.size:=Nat.mod_lt _ f
 rw[getElem!_pos a _ e] at g
 have key: ∀(k i:Nat),i<k*z.length->((List.replicate k z).flatten)[i]?=z[i%z.length]?:=by
  intro k
  induction k with
  |zero=>intro i hi;simp at hi
  |succ k m=>
   intro i hi;simp only[List.replicate_succ,List.flatten_cons];rw[ab7];split;·rename_i j;rw[ad3 j]
   ·rename_i n;rw[m (i-z.length) (by rw[ab8] at hi;omega)];congr 1;exact(Nat.mod_eq_sub_mod (by omega)).symm
 rw[key len i (by rw[b];exact hi),b] at h
 apply l.2 (i%a.size) d u h
 rw[<-g]
 simp[e]
theorem Pp(hs:St c H)(he:ER c T e a){el:TypeId}{len n:Nat}{g:Array (Nat×Operand)}{qs:List (Nat×Nat×aY)}{id:Nat}{d:D}{E:bM}(J: ¬c.N id)
 (F:o.op= .buildSlice t len g) (s:iH P t=some (el,n)) (K:zeroOf P el=some z) (u:z.length=n) (L:len*n<=4096) (S:0<n) (M:qQ (fun i=>some (i*n,n)) g.toList=some qs)
 (j:oN id e (.aU n len z qs)=some (d,E)):V2 P c H a o id d E:=by
 simp only[oN,abR] at j
 obtain⟨rs,G,j⟩:=j
 simp only[Prod.mk.injEq] at j
 obtain⟨rfl,rfl⟩:=j
 obtain⟨hu,k,_⟩:=rJ s c.w
 obtain⟨I,v,y,O,_⟩:=tA (c:=c) K c.w
 have l:I.cells.size=n:=by omega
 have b:=Jq y (by omega) len
 rw[l] at b
 obtain⟨vs,A,Q⟩:=SP he (fun i=>some (i*n,n)) g.toList qs _ _ rs M G b
 have B:rs.length=len*n:=by
  have: ∀(q:List (Nat×Nat×aY)) (cs:List D1) (rs:List D1),x9 e cs q=some rs->rs.length=cs.length:=by
   intro q
   induction q with
   |nil=>intro cs rs h;simp only[x9,Option.some.injEq] at h;rw[h]
   |cons p q R=>
    obtain⟨off,m,x⟩:=p;intro cs rs h;simp only[x9] at h;split at h
    ·split at h;·rename_i hc;rw[R _ _ h];simp[j9];omega
     ·simp at h
    ·simp at h
  rw[this _ _ _ G];simp[u]
 apply qh hs (t:=el) J (vu Q B) (abG _)
 have r: ¬(16777216<len*n):=by omega
 have f:(g.map fun p=>(p.1,a.eval p.2)).toList=g.toList.map fun p=>(p.1,a.eval p.2):=by simp
 by_cases C:len*n=0
 ·have hzero:(Array.range (len*n)).map (fun i=>I.cells[i%n]!)=(Array.range (len*n)).map (fun i=>(#[]:Array Value)[i%(#[]:Array Value).size]!):=by rw[C];simp
  rw[hzero] at A;simp only[execOp,F,Instr.buildSlice,Sem.run_bind,run_underlying hu,Result.andThen_ok,k,f];simp only[Nat.reducePow,gt_iff_lt,if_neg r,if_pos C,Sem.run_bind,Sem.run_pure,Result.andThen_ok,A,newRow,run_newObj_alloc]
 ·simp only[execOp,F,Instr.buildSlice,Sem.run_bind,run_underlying hu,Result.andThen_ok,k,f];simp only[Nat.reducePow,gt_iff_lt,if_neg r,if_neg C,Sem.run_bind,v,Sem.run_pure,Result.andThen_ok,l,A,newRow,run_newObj_alloc]
theorem Kp{a:Array Value}(k:xT c z a.toList)(l:0<a.size)(len:Nat):yW c (madeCells a (len*a.size)) 0 ⟨a.size,len,List.replicate len z⟩:=by
 have f:z.length=a.size:=by have:=k.1;simp at this;omega
 refine⟨by simp,fun i r hr=> ?_,by simp[size_madeCells],fun i j r d g m=> ?_,fun⟨g,_,_⟩=>by dsimp only at g;omega⟩;·have:=abN.1 hr;obtain⟨n,b⟩:=this;simp at b;rw[<-b];exact f
 ·obtain⟨n,b⟩:=abN.1 g;simp at n b;subst b;have o:j<z.length:=(abN.1 m).1;have h:i*a.size+j<len*a.size:=by have:(i+1)*a.size<=len*a.size:=acW _ (by omega);rw[ab8] at this;omega
  have e:(i*a.size+j)%a.size=j:=by rw[ad4,aeY];exact ad3 (by omega)
  refine⟨a[j]'(by omega),?_,k.2 j d _ m (by simp)⟩;simp only[madeCells,acS,Array.getElem?_map];rw[Array.getElem?_range,if_pos h];simp only[Option.map_some,e];rw[getElem!_pos a j (by omega)]
theorem Hp(hs:St c H)(he:ER c T e a){el:TypeId}{n:Nat}{l k:Operand}{C k':aY}{i:TypeInfo}{id:Nat}{d:D}{E:bM}(F: ¬c.N id)
 (G:o.op= .makeSlice t l k) (m:iH P t=some (el,n)) (I:zeroOf P el=some z) (J:z.length=n) (W:0<n) (hi:P.info? el=some i) (X:i.bytes<=65536) (hl:trO l=some C) (K:trO k=some k')
 (g:oN id e (.pU n z C k')=some (d,E)):V2 P c H a o id d E:=by
 simp only[oN] at g
 split at g
 ·rename_i L x M y p q;split at g
  ·rename_i hc;obtain⟨O,r,Y⟩:=hc;simp only[Option.some.injEq,Prod.mk.injEq] at g;obtain⟨rfl,rfl⟩:=g;have Q:=E7 he hl p;have R:=E7 he K q;obtain⟨hu,S,_⟩:=rJ m c.w;obtain⟨s,b,u,U,v,_⟩:=tA (c:=c) I c.w;have A:s.cells.size=n:=(by omega);have h:i.size=n:=by have:=v i hi;omega
   have B:i.zero=some s:=by
    simp[zeroValue,typeInfo,hi] at b
    cases j:i.zero with
    |none=>simp[j] at b
    |some Z=>simp[j] at b;rw[b]
   have hr:=Kp u (by omega) y.toNat;rw[A] at hr;have hmul:(i.bytes:Int)*y<=281474976710656:=by have V:(i.bytes:Int)<=65536:=(by omega);have h2:(i.bytes:Int)*y<=65536*y:=Int.mul_le_mul_of_nonneg_right V (by omega);omega
   have f:=run_make (P:=P) c.w t el i s hu hi B L M x y O r hmul (by omega);apply qh hs (t:=el) F hr (by omega);rw[h] at f;simp only[execOp,G,Q,R,Sem.run_bind,f,Result.andThen_ok,Sem.run_pure]
  ·simp at g
 ·simp at g
end
end Go.AM
