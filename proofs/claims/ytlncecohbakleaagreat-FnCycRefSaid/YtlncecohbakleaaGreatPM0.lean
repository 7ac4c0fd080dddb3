/- Rules and contracts. -/
import Derived.WalkKit
set_option linter.unusedVariables false
set_option linter.unusedSimpArgs false
set_option maxRecDepth 100000
set_option maxHeartbeats 8000000
abbrev ac1:=@Nat.le_refl
abbrev ac2:=@Nat.add_assoc
abbrev ac3:=@Nat.left_eq_add
abbrev ac4:=@Nat.add_left_cancel_iff
abbrev ac5:=@Nat.add_eq_left
abbrev ac6:=@List.take_of_length_le
abbrev ac7:=@List.length_append
abbrev ac8:=@List.getElem?_eq_getElem
abbrev ac9:=@List.mem_map
abbrev adA:=@List.mem_cons
abbrev adB:=@List.getElem?_eq_some_iff
abbrev adC:=@Option.map_eq_some_iff
abbrev adD:=@List.mem_append
abbrev adE:=@List.length_map
abbrev adF:=@List.map_append
abbrev adG:=@List.map_cons
abbrev adH:=@List.append_assoc
abbrev adI:=@List.mem_of_getElem?
abbrev adJ:=@List.getElem?_map
abbrev adK:=@List.all_eq_true
abbrev adL:=@List.length_drop
abbrev adM:=@List.length_set
abbrev adN:=@List.mem_singleton
abbrev adO:=@List.getElem?_drop
abbrev adP:=@List.length_take
abbrev adQ:=@List.map_nil
abbrev adR:=@List.append_nil
abbrev adS:=@List.mem_iff_getElem
abbrev adT:=@Nat.add_mul
abbrev adU:=@List.getElem?_append
abbrev adV:=@Nat.not_lt_zero
abbrev adW:=@List.getElem?_set_self
abbrev adX:=@List.getElem?_set_ne
abbrev adY:=@Eq.symm
abbrev adZ:=@List.pairwise_iff_getElem
abbrev ad0:=@List.set_set
abbrev ad1:=@List.take_length
abbrev ad2:=@List.getElem?_take
abbrev ad3:=@Bool.and_eq_true
abbrev ad4:=@List.not_mem_nil
abbrev ad5:=@List.eq_nil_of_length_eq_zero
abbrev ad6:=@List.drop_zero
abbrev ad7:=@List.mem_cons_of_mem
abbrev ad8:=@List.mem_append_left
abbrev ad9:=@List.pairwise_cons
abbrev aeA:=@List.nodup_cons
abbrev aeB:=@Nat.le_trans
abbrev aeC:=@List.drop_eq_getElem_cons
abbrev aeD:=@Nat.mul_le_mul_right
abbrev aeE:=@List.map_congr_left
abbrev aeF:=@Nat.mul_comm
abbrev aeG:=@List.length_eq_zero_iff
abbrev aeH:=@List.map_set
abbrev aeI:=@List.map_drop
abbrev aeJ:=@Int.tmod_eq_emod_of_nonneg
abbrev aeK:=@List.drop_of_length_le
abbrev aeL:=@List.take_append_drop
abbrev aeM:=@List.nodup_append
abbrev aeN:=@List.mem_append_right
abbrev aeO:=@Nat.eq_zero_or_pos
abbrev aeP:=@List.drop_drop
abbrev aeQ:=@Iff.rfl
abbrev aeR:=@Nat.zero_add
abbrev aeS:=@List.mem_range
abbrev aeT:=@List.getElem_mem
abbrev aeU:=@List.mem_map_of_mem
abbrev aeV:=@Bool.false_eq_true
abbrev aeW:=@Array.ext'
abbrev aeX:=@Bool.not_eq_true'
abbrev aeY:=@Bool.or_eq_true
abbrev aeZ:=@Nat.sub_self
abbrev ae0:=@Nat.mul_one
abbrev ae1:=@List.getElem?_toArray
abbrev ae2:=@List.getD_eq_getElem?_getD
abbrev ae3:=@List.pairwise_append
abbrev ae4:=@List.range_succ
abbrev ae5:=@List.take_succ_eq_append_getElem
abbrev ae6:=@List.getElem?_set
abbrev ae7:=@List.map_toArray
abbrev ae8:=@Nat.one_ne_zero
abbrev ae9:=@List.getElem?_append_left
abbrev afA:=@List.perm_middle
abbrev afB:=@List.count_append
abbrev afC:=@List.size_toArray
abbrev afD:=@List.mem_flatMap
abbrev afE:=@List.getElem?_eq_none
abbrev afF:=@List.map_id
abbrev afG:=@List.map_take
abbrev afH:=@List.findIdx?_eq_some_iff_getElem
abbrev afI:=@List.getElem_take
abbrev afJ:=@List.perm_iff_count
abbrev afK:=@List.count_cons
abbrev afL:=@List.getElem?_append_right
abbrev afM:=@Nat.mul_assoc
abbrev afN:=@Array.getElem?_eq_some_iff
abbrev afO:=@Nat.mod_eq_of_lt
abbrev afP:=@Nat.add_comm
abbrev afQ:=@Array.getElem?_append
abbrev afR:=@Array.getElem?_toList
abbrev afS:=@List.flatMap_cons
abbrev afT:=@List.pairwise_map
abbrev afU:=@Nat.zero_le
abbrev afV:=@List.not_of_lt_findIdx
abbrev afW:=@List.findIdx_getElem
abbrev afX:=@Int.tmod_nonneg
abbrev afY:=@Int.tmod_lt_of_pos
abbrev afZ:=@List.take_take
abbrev af0:=@List.ext_getElem
abbrev af1:=@Nat.lt_trans
abbrev af2:=@List.filter_cons
abbrev af3:=@Option.bind_eq_some_iff
abbrev af4:=@Array.all_eq_true_iff_forall_mem
abbrev af5:=@Nat.mul_le_mul
abbrev af6:=@List.contains_iff_mem
abbrev af7:=@Bool.not_true
abbrev af8:=@Nat.pos_of_ne_zero
abbrev af9:=@Array.getElem?_setIfInBounds_ne
abbrev agA:=@Nat.succ_pos
abbrev agB:=@Nat.lt_irrefl
abbrev agC:=@Nat.lt_succ_iff_lt_or_eq
abbrev agD:=@List.drop_append_of_le_length
abbrev agE:=@List.findIdx_le_length
abbrev agF:=@List.set_append
abbrev agG:=@Nat.le_of_not_lt
abbrev agH:=@Nat.and_two_pow_sub_one_eq_mod
abbrev agI:=@List.getD_cons_succ
abbrev agJ:=@List.flatMap_append
abbrev agK:=@List.getElem_map
abbrev agL:=@List.mem_of_mem_drop
abbrev agM:=@List.take_append_of_le_length
abbrev agN:=@List.set_eq_take_append_cons_drop
abbrev agO:=@Int.tdiv_eq_ediv_of_nonneg
abbrev agP:=@Option.isSome_iff_exists
abbrev agQ:=@Nat.add_mul_mod_self_right
abbrev agR:=@Bool.and_eq_false_iff
abbrev agS:=@List.getElem?_replicate
abbrev agT:=@Array.getD_eq_getD_getElem?
abbrev agU:=@List.getElem?_singleton
abbrev agV:=@Nat.le_of_ble_eq_true
abbrev agW:=@List.findIdx?_eq_none_iff
abbrev agX:=@List.drop_sublist_drop_left
abbrev agY:=@Nat.testBit_shiftLeft
abbrev agZ:=@List.mem_of_find?_eq_some
namespace Go.AM
theorem zp: ∀{a c b d:Nat},2^a*(2*b+1)=2^c*(2*d+1)->a=c/\b=d
 |0,0,b,d,h=>⟨rfl,by simp at h;omega⟩
 |0,c+1,b,d,h=>by rw[Nat.pow_succ,Nat.pow_zero,aeF (2^c) 2,afM] at h;generalize 2^c*(2*d+1)=z at h;omega
 |a+1,0,b,d,h=>by rw[Nat.pow_succ,Nat.pow_zero,aeF (2^a) 2,afM] at h;generalize 2^a*(2*b+1)=z at h;omega
 |a+1,c+1,b,d,h=>by rw[Nat.pow_succ,Nat.pow_succ,aeF (2^a) 2,aeF (2^c) 2,afM,afM] at h;obtain⟨e,f⟩:=zp (Nat.eq_of_mul_eq_mul_left (by omega) h);exact⟨by rw[e],f⟩
def gz(a b:Nat):Nat:=2^a*(2*b+1)
theorem O2{a b c d:Nat}(h:gz a b=gz c d):a=c/\b=d:=zp h
theorem ti{a b:Nat}:0<gz a b:=Nat.mul_pos (Nat.pow_pos (by omega)) (by omega)
def SA{α:Type}(f:α->Nat):List α->Nat
 | []=>0
 |x::r=>gz (f x) (SA f r)
theorem VO{α:Type}{f:α->Nat}(c: ∀x y,f x=f y->x=y): ∀l m:List α,SA f l=SA f m->l=m
 | [],[],_=>rfl
 | [],y::m,h=>by have:=ti (a:=f y) (b:=SA f m);simp only[SA] at h;omega
 |x::l,[],h=>by have:=ti (a:=f x) (b:=SA f l);simp only[SA] at h;omega
 |x::l,y::m,h=>by simp only[SA] at h;obtain⟨d,e⟩:=O2 h;rw[c x y d,VO c l m e]
def Sr(x:Int):Nat:=if 0<=x then 2*x.toNat else 2*(-x).toNat+1
theorem Ad(x y:Int)(h:Sr x=Sr y):x=y:=by unfold Sr at h;split at h<;>split at h<;>omega
structure pZ where
 kn:Nat
 bl:Bool
 m:List (List Int×Int)
def Cx(x:pZ):Nat:=gz x.kn (gz x.bl.toNat (SA (fun p=>gz (SA Sr p.1) (Sr p.2)) x.m))
theorem Py(x y:pZ)(h:Cx x=Cx y):x=y:=by
 obtain⟨a,b,m⟩:=x;obtain⟨n,d,o⟩:=y;unfold Cx at h;obtain⟨e,f⟩:=O2 h;obtain⟨g,i⟩:=O2 f
 have j:=VO (fun p q c=>by
  obtain⟨k,l⟩:=O2 c
  exact Prod.ext (VO Ad _ _ k) (Ad _ _ l)) _ _ i
 dsimp only at*;subst j;subst e;cases b<;>cases d<;>first| (simp at g;done)|rfl
theorem wy: ∃(f:pZ->Nat) (g:Nat->pZ),∀x,g (f x)=x:=by
 classical
 refine⟨Cx,fun n=>if h: ∃x,Cx x=n then Classical.choose h else ⟨0,false,[]⟩,fun x=> ?_⟩;have h: ∃y,Cx y=Cx x:=⟨x,rfl⟩
 simp only[h,dif_pos];exact Py _ _ (Classical.choose_spec h)
noncomputable def Cb:pZ->Nat:=Classical.choose wy
noncomputable def Fo:Nat->pZ:=Classical.choose (Classical.choose_spec wy)
theorem FM(x:pZ):Fo (Cb x)=x:=Classical.choose_spec (Classical.choose_spec wy) x
def uG(kn:Nat)(l:List Int):Value:=if kn=0 then .int .i64 (l.headD 0) else .agg (l.map fun n=>Value.int .i64 n).toArray
def IK(kn:Nat):Nat:=if kn=0 then 1 else kn
def elemV(bl:Bool)(n:Int):Value:=if bl then .bool (decide (n≠0)) else .int .i64 n
def pZ.rows(x:pZ):List (Value×Value):=x.m.map fun p=>(uG x.kn p.1,elemV x.bl p.2)
def pZ.ok(x:pZ):Prop:=∀p∈x.m,p.1.length=IK x.kn
abbrev WO(ob:Option Obj)(x:pZ):Prop:=∃es clock,ob=some (Obj.map es clock)/\(es.toList.map fun e=>(e.key,e.val))=x.rows/\x.ok
inductive D1 where
 |v (x:Value)
 |isl (rows:List (List D1))
 |osl (n id off len cap:Nat)
 |ptr (n id row col:Nat)
 |dQ (cells:List D1)
 |clo (f:FuncId) (caps:List D1)
 |WE (x:pZ)
 |omap (id:Nat)
 |dead
inductive DV where
 |c (d:D1)
 |agg (cs:List D1)
inductive D where
 |one (x:DV)
 |tup (xs:List DV)
 |dead
structure bN where
 n:Nat
 ext:Nat
 rows:List (List D1)
abbrev aA:=Nat->Option bN
def aA.nil:aA:=fun _=>none
def aA.set(H:aA)(id:Nat)(o:bN):aA:=fun i=>if i=id then some o else H i
def aA.del(H:aA)(id:Nat):aA:=fun i=>if i=id then none else H i
noncomputable def DH(x:pZ):bN:=⟨0,Cb x+1,[]⟩
noncomputable def Pt(o:bN):Option pZ:=if o.n=0/\o.rows=[]/\0<o.ext then some (Fo (o.ext-1)) else none
theorem Ll{x:pZ}:Pt (DH x)=some x:=by simp[Pt,DH,FM]
noncomputable def RH(H:aA)(i:Nat):Option pZ:=(H i).bind Pt
def GS(a:Option Obj)(base:Nat)(o:bN):Prop:=
 if o.n=0/\o.rows=[] then WO a (Fo (o.ext-1))
 else ∃arr T,a=some (Obj.cells arr T (0,0))/\base+o.ext*o.n<=arr.size
variable{base:Nat}
theorem GS.ex{a:Option Obj}{o:bN}(h:GS a base o): ∃x,a=some x:=by
 unfold GS at h;split at h;·obtain⟨es,clock,h,_⟩:=h;exact⟨_,h⟩
 ·obtain⟨arr,T,h,_⟩:=h;exact⟨_,h⟩
theorem GS.lt{w:World}{b:Nat}{o:bN}(h:GS w.heap[b]? base o):b<w.heap.size:=by obtain⟨x,h⟩:=h.ex;exact(afN.1 h).1
theorem GS.mk{a:Option Obj}{o:bN}(b: ¬(o.n=0/\o.rows=[]))(h: ∃arr T,a=some (Obj.cells arr T (0,0))/\base+o.ext*o.n<=arr.size):GS a base o:=by unfold GS;rw[if_neg b];exact h
theorem GS.cells{a:Option Obj}{base:Nat}{o:bN}(h:GS a base o)(b: ¬(o.n=0/\o.rows=[])): ∃arr T,a=some (Obj.cells arr T (0,0))/\base+o.ext*o.n<=arr.size:=by unfold GS at h;rwa [if_neg b] at h
theorem GS.Yi{a:Option Obj}{o o':bN}(h:GS a base o)(c:o'.n=o.n)(d:o'.ext=o.ext)(e:o.n=0->(o'.rows=[]↔o.rows=[])):GS a base o':=by
 unfold GS at h ⊢;rw[c,d];by_cases b:o.n=0;·simp only[e b];exact h
 ·simp only[b,false_and,if_false] at h ⊢;exact h
structure Cf where
 ρ:Nat->Nat×Nat
 N:Nat->Prop
 I:Nat->Prop
 w:World
inductive Imm(I:Nat->Prop)(w:World):D1->Value->Prop where
 |v (x:Value) (h:x.oneCell'=true):Imm I w (.v x) x
 |isl (rows:List (List D1)) (a:Option Addr) (cap n b o:Nat) (f:Nat->Nat->Value)
  (ha:rows≠[]->a=some ⟨b,o,none⟩/\I b) (hcap:rows.length<=cap)
  (hn: ∀(i:Nat) (r:List D1),rows[i]?=some r->r.length=n)
  (hc: ∀(i j:Nat) (r:List D1) (d:D1),rows[i]?=some r->r[j]?=some d->w.cell? ⟨b,o+(i*n+j),none⟩=some (f i j))
  (hr: ∀(i j:Nat) (r:List D1) (d:D1),rows[i]?=some r->r[j]?=some d->Imm I w d (f i j)):Imm I w (.isl rows) (.slice a rows.length cap)
 |dQ (cells:List D1) (b o:Nat) (f:Nat->Value) (hI:I b)
  (hc: ∀(j:Nat) (d:D1),cells[j]?=some d->w.cell? ⟨b,o+j,none⟩=some (f j))
  (hr: ∀(j:Nat) (d:D1),cells[j]?=some d->Imm I w d (f j)):Imm I w (.dQ cells) (.pointer (some ⟨b,o,none⟩))
 |WE (x:pZ) (b:Nat) (hI:I b) (hw:WO w.heap[b]? x):Imm I w (.WE x) (.map (some b))
theorem Imm.EY{I I':Nat->Prop}{w q:World}{d:D1}{x:Value}(h:Imm I w d x)(k: ∀b,I b->I' b)
 (hw: ∀b,I b->q.heap[b]?=w.heap[b]?):Imm I' q d x:=by
 induction h with
 |v x h=>exact .v x h
 |isl rows a cap n b o f l c s hc hr m=>
  refine .isl rows a cap n b o f (fun h=>⟨(l h).1,k _ (l h).2⟩) c s (fun i j r d g t=> ?_) m;have p:rows≠[]:=by rintro rfl;simp at g
  rw[World.cell?_of_block (w:=w) (hw b (l p).2)];exact hc i j r d g t
 |dQ cells b o f e hc hr m=>refine .dQ cells b o f (k _ e) (fun j d g=> ?_) m;rw[World.cell?_of_block (w:=w) (hw b e)];exact hc j d g
 |WE x b e h=>exact .WE x b (k _ e) (by rw[hw b e];exact h)
def cX(c:Cf):D1->Value->Prop
 | .osl n id off len cap,x=>len<=cap/\((cap=0/\ ∃a,x= .slice a 0 0)\/(0<cap/\c.N id/\x= .slice (some ⟨(c.ρ id).1,(c.ρ id).2+off*n,none⟩) len cap))
 | .ptr n id row b,x=>c.N id/\x= .pointer (some ⟨(c.ρ id).1,(c.ρ id).2+(row*n+b),none⟩)
 | .omap id,x=>c.N id/\x= .map (some (c.ρ id).1)
 | .dead,x=>x.oneCell'=true
 |d,x=>Imm c.I c.w d x
def Rel(c:Cf):D1->Value->Prop
 | .clo f caps,x=>∃vs:List Value,x= .func (.func f) #[] vs.toArray/\vs.length=caps.length/\ ∀(i:Nat) (d:D1) (u:Value),caps[i]?=some d->vs[i]?=some u->cX c d u
 |d,x=>cX c d x
def y4(c:Cf)(cs:List D1)(vs:List Value):Prop:=vs.length=cs.length/\ ∀(i:Nat) (d:D1) (u:Value),cs[i]?=some d->vs[i]?=some u->Rel c d u
def mH(c:Cf):DV->Value->Prop
 | .c d,x=>Rel c d x
 | .agg cs,x=>∃vs:List Value,x= .agg vs.toArray/\y4 c cs vs
def iA(c:Cf):D->Value->Prop
 | .one d,x=>mH c d x
 | .tup a,x=>∃vs:List Value,x= .tuple vs.toArray/\vs.length=a.length/\ ∀(i:Nat) (d:DV) (u:Value),a[i]?=some d->vs[i]?=some u->mH c d u
 | .dead,_=>True
structure St(c:Cf)(H:aA):Prop where
 named: ∀id o,H id=some o->c.N id
 wf: ∀id o,H id=some o->o.rows.length<=o.ext/\ ∀(i:Nat) (r:List D1),o.rows[i]?=some r->r.length=o.n
 blk: ∀id o,H id=some o->0<o.ext->GS c.w.heap[(c.ρ id).1]? (c.ρ id).2 o
 cells: ∀id o (i j:Nat) (r:List D1) (d:D1),H id=some o->o.rows[i]?=some r->r[j]?=some d->
  ∃x,c.w.cell? ⟨(c.ρ id).1,(c.ρ id).2+(i*o.n+j),none⟩=some x/\Rel c d x
 sep: ∀id id' o o',H id=some o->H id'=some o'->0<o.ext->0<o'.ext->id≠id'->(c.ρ id).1≠(c.ρ id').1
 imm: ∀id o,H id=some o->0<o.ext->¬c.I (c.ρ id).1
 old: ∀b,c.I b->b<c.w.heap.size
def B0(c:Cf)(H:aA)(b:Nat):Prop:=∃id o,H id=some o/\0<o.ext/\(c.ρ id).1=b
structure Step(c:Cf)(H:aA)(c':Cf)(H':aA):Prop where
 ρ: ∀id,c.N id->c'.ρ id=c.ρ id
 N: ∀id,c.N id->c'.N id
 I: ∀b,c.I b->c'.I b
 I': ∀b,c'.I b->c.I b\/B0 c H b\/c.w.heap.size<=b
 size:c.w.heap.size<=c'.w.heap.size
 os:c'.w.os=c.w.os
 tape:c'.w.tape=c.w.tape
 output:c'.w.output=c.w.output
 frame: ∀b,b<c.w.heap.size->¬B0 c H b->c'.w.heap[b]?=c.w.heap[b]?
 own: ∀b,B0 c' H' b->B0 c H b\/c.w.heap.size<=b
theorem Step.refl(c:Cf)(H:aA):Step c H c H:=⟨fun _ _=>rfl,fun _ h=>h,fun _ h=>h,fun _ h=>.inl h,ac1 _,rfl,rfl,rfl,fun _ _ _=>rfl,fun _ h=>.inl h⟩
theorem Step.trans{c c' d:Cf}{H H' e:aA}(h:Step c H c' H')(k:Step c' H' d e):Step c H d e where
 ρ id g:=(k.ρ id (h.N id g)).trans (h.ρ id g)
 N id g:=k.N id (h.N id g)
 I b a:=k.I b (h.I b a)
 I' b a:=by
  rcases k.I' b a with a|a|a;·exact h.I' b a
  ·exact .inr (h.own b a)
  ·exact .inr (.inr (aeB h.size a))
 size:=aeB h.size k.size
 os:=k.os.trans h.os
 tape:=k.tape.trans h.tape
 output:=k.output.trans h.output
 frame b a i:=by rw[k.frame b (Nat.lt_of_lt_of_le a h.size) (fun f=>(h.own b f).elim i (fun j=>by omega)),h.frame b a i]
 own b a:=by
  rcases k.own b a with f|f;·exact h.own b f
  ·exact .inr (aeB h.size f)
variable{c:Cf}
theorem St.sq{H:aA}(hs:St c H){b:Nat}(a:c.I b): ¬B0 c H b:=by rintro⟨id,o,d,e,rfl⟩;exact hs.imm id o d e a
theorem Step.eW{c':Cf}{H H':aA}(h:Step c H c' H')(hs:St c H){b:Nat}(a:c.I b):c'.w.heap[b]?=c.w.heap[b]?:=h.frame b (hs.old b a) (hs.sq a)
theorem Imm.tY{I:Nat->Prop}{w:World}{d:D1}{x:Value}(h:Imm I w d x):x.oneCell'=true:=by cases h<;>first|assumption|rfl
theorem cX.tY{c:Cf}{d:D1}{x:Value}(h:cX c d x):x.oneCell'=true:=by
 cases d<;>simp only[cX] at h<;>first|exact h.tY|exact h|skip
 ·obtain⟨_,⟨_,a,rfl⟩|⟨_,_,rfl⟩⟩:=h<;>rfl
 ·obtain⟨_,rfl⟩:=h;rfl
 ·obtain⟨_,rfl⟩:=h;rfl
theorem Rel.tY{c:Cf}{d:D1}{x:Value}(h:Rel c d x):x.oneCell'=true:=by
 cases d with
 |clo f caps=>obtain⟨vs,rfl,_⟩:=h;rfl
 |_=>simp only[Rel] at h;exact cX.tY h
theorem cX.step{c c':Cf}{H H':aA}(h:Step c H c' H')(hs:St c H){d:D1}{x:Value}(hr:cX c d x):cX c' d x:=by
 cases d<;>simp only[cX] at hr ⊢ <;>first|exact hr.EY h.I (fun b e=>h.eW hs e)|exact hr|skip
 ·refine⟨hr.1,hr.2.imp id fun⟨f,a,g⟩=>⟨f,h.N _ a,by rw[h.ρ _ a];exact g⟩⟩
 ·exact⟨h.N _ hr.1,by rw[h.ρ _ hr.1];exact hr.2⟩
 ·exact⟨h.N _ hr.1,by rw[h.ρ _ hr.1];exact hr.2⟩
theorem Rel.step{c c':Cf}{H H':aA}(h:Step c H c' H')(hs:St c H){d:D1}{x:Value}(hr:Rel c d x):Rel c' d x:=by
 cases d with
 |clo f caps=>obtain⟨vs,a,hl,b⟩:=hr;exact⟨vs,a,hl,fun i d u e g=>(b i d u e g).step h hs⟩
 |_=>simp only[Rel] at hr ⊢;exact cX.step h hs hr
theorem y4.step{c c':Cf}{H H':aA}(h:Step c H c' H')(hs:St c H){cs:List D1}{vs:List Value}(hr:y4 c cs vs):y4 c' cs vs:=⟨hr.1,fun i d u a b=>(hr.2 i d u a b).step h hs⟩
theorem mH.step{c c':Cf}{H H':aA}(h:Step c H c' H')(hs:St c H){d:DV}{x:Value}(hr:mH c d x):mH c' d x:=by
 cases d with
 |c d=>exact Rel.step h hs hr
 |agg cs=>obtain⟨vs,a,hl⟩:=hr;exact⟨vs,a,hl.step h hs⟩
theorem iA.step{c c':Cf}{H H':aA}(h:Step c H c' H')(hs:St c H){d:D}{x:Value}(hr:iA c d x):iA c' d x:=by
 cases d with
 |one d=>exact mH.step h hs hr
 |tup g=>obtain⟨vs,a,hl,b⟩:=hr;exact⟨vs,a,hl,fun i d u e f=>(b i d u e f).step h hs⟩
 |dead=>exact trivial
theorem St.forget{H H':aA}(hs:St c H)(h: ∀id o,H' id=some o->H id=some o):St c H' where
 named id o a:=hs.named id o (h id o a)
 wf id o a:=hs.wf id o (h id o a)
 blk id o a:=hs.blk id o (h id o a)
 cells id o i j r d a:=hs.cells id o i j r d (h id o a)
 sep id b o o' a e:=hs.sep id b o o' (h id o a) (h b o' e)
 imm id o a:=hs.imm id o (h id o a)
 old:=hs.old
theorem Step.forget(c:Cf){H H':aA}(h: ∀id o,H' id=some o->H id=some o):Step c H c H':={Step.refl c H with own:=fun b ⟨id,o,a,d,e⟩=>.inl ⟨id,o,h id o a,d,e⟩}
def Cf.drew(c:Cf)(k:Nat):Cf:={c with w:={c.w with drawn:=k}}
theorem St.drew{c:Cf}{H:aA}(hs:St c H)(k:Nat):St (c.drew k) H:=by
 have g: ∀d x,Rel c d x->Rel (c.drew k) d x:=by
  intro d x h;have e: ∀d x,cX c d x->cX (c.drew k) d x:=by intro d x h;cases d<;>simp only[cX,Cf.drew] at h ⊢ <;>first|exact h.EY (fun _ h=>h) (fun _ _=>rfl)|exact h
  cases d with
  |clo f caps=>obtain⟨vs,l,hl,m⟩:=h;exact⟨vs,l,hl,fun i d u a b=>e _ _ (m i d u a b)⟩
  |_=>simp only[Rel] at h ⊢;exact e _ _ h
 exact⟨hs.named,hs.wf,hs.blk,fun id o i j r d a b n=>let ⟨x,p,q⟩:=hs.cells id o i j r d a b n;⟨x,p,g _ _ q⟩,hs.sep,hs.imm,hs.old⟩
theorem Step.drew(c:Cf)(H:aA)(k:Nat):Step c H (c.drew k) H:={Step.refl c H with own:=fun b h=>.inl h}
inductive aZ where
 |tm (t:Nat)
 |kv (x:Value)
 |fn (f:FuncId)
def D1.nil:D1:=.osl 0 0 0 0 0
def ofV:Value->D1
 | .slice none 0 0=>.nil
 |x=>.v x
abbrev Env:=Nat->D
def Env.nil:Env:=fun _=>.dead
def Env.set(e:Env)(t:Nat)(d:D):Env:=fun i=>if i=t then d else e i
def aZ.ev(e:Env):aZ->D
 | .tm t=>e t
 | .kv (.agg cs)=>.one (.agg (cs.toList.map ofV))
 | .kv x=>.one (.c (ofV x))
 | .fn f=>.one (.c (.clo f []))
def Ij:Value->Bool
 | .agg cs=>cs.toList.all Value.oneCell'
 | .tuple _=>false
 |_=>true
def trO:Operand->Option aZ
 | .tmp t=>some (.tm t)
 | .const x=>if Ij x then some (.kv x) else none
 | .func f=>some (.fn f)
 | .global _=>none
theorem Ip{x:Value}(h:x.oneCell'=true):Rel c (ofV x) x:=by
 unfold ofV;split;·simp only[D1.nil,Rel,cX];exact⟨ac1 _,.inl ⟨trivial,none,rfl⟩⟩
 ·simp only[Rel,cX];exact .v x h
def ER(c:Cf)(T:Nat)(e:Env)(a:Act):Prop:=a.tmps.size=T/\a.defers=[]/\ ∀t,iA c (e t) (a.tmps.getD t undef)
theorem Ab{cs:List Value}(h:cs.all Value.oneCell'=true):y4 c (cs.map ofV) cs:=by refine⟨by simp,fun i d u a b=> ?_⟩;simp only[adJ,b,Option.map_some,Option.some.injEq] at a;subst a;exact Ip (adK.1 h u (adI b))
theorem o8{T:Nat}{e:Env}{a:Act}(he:ER c T e a){x:Operand}{y:aZ}(h:trO x=some y):iA c (y.ev e) (a.eval x):=by
 cases x with
 |tmp t=>simp only[trO,Option.some.injEq] at h;subst h;exact he.2.2 t
 |func f=>simp only[trO,Option.some.injEq] at h;subst h;simp only[aZ.ev,iA,mH,Rel,Act.eval];exact⟨[],by simp,rfl,by simp⟩
 |global g=>simp[trO] at h
 |const x=>
  simp only[trO] at h;split at h
  ·rename_i b;simp only[Option.some.injEq] at h;subst h
   cases x<;>simp only[Ij] at b<;>first
    | (exact⟨_,by simp[Act.eval],Ab b⟩)
    | (simp at b;done)
    | (simp only[aZ.ev,iA,mH,Act.eval];exact Ip (by first|rfl|simp[Value.oneCell']))
  ·simp at h
inductive XK where
 |bad
 |DX (f:FuncId)
 |uX (neg:Bool)
 |copy (n:Nat)
 |clear (n:Nat) (z:List D1)
 |gn (n:Nat) (z:List D1)
 |bq (f:FuncId)
 |LX (kn:Nat) (bl:Bool)
 |zL
 |wL (kn:Nat) (bl ok:Bool)
 |DE (kn:Nat) (bl:Bool)
 |aeq (neg:Bool) (n:Nat)
inductive AOp where
 |move (x:aZ)
 |pick (c a b:aZ)
 |zO (x:aZ)
 |load (n:Nat) (agg:Bool) (a:aZ)
 |fld (k:Nat) (x:aZ)
 |idx (n:Nat) (x i:aZ)
 |se (n len:Nat) (x i:aZ)
 |bin (op:BinOp) (x y:aZ)
 |beq (neg:Bool) (x y:aZ)
 |un (op:UnOp) (x:aZ)
 |conv (k:IntKind) (x:aZ)
 |len (str:Bool) (x:aZ)
 |cap (x:aZ)
 |ext (x:aZ) (i:Nat)
 |slc (n:Nat) (x:aZ) (lo hi mx:Option aZ)
 |aaC (x:aZ)
 |sub (x:aZ) (lo hi:Option aZ)
 |mmx (mn:Bool) (x y:aZ)
 |field (off n:Nat) (agg:Bool) (x:aZ)
 |Tv (x i:aZ)
 |build (zero:List D1) (parts:List (Nat×Nat×aZ))
 |alloc (zero:List D1)
 |box (agg:Bool) (x:aZ)
 |aV (n len:Nat) (zero:List D1) (parts:List (Nat×Nat×aZ))
 |rO (n:Nat) (zero:List D1) (len cap:aZ)
 |store (n:Nat) (agg:Bool) (a x:aZ)
 |append (n:Nat) (s x:aZ)
 |call (f:FuncId) (args:List aZ)
 |xB (f:aZ) (args:List aZ)
 |xop (k:XK) (args:List aZ)
def rI(H:aA):D1->Nat->Option (List D1)
 | .ptr n id row a,k=>
   match H id with
   |some o=>if o.n=n then
     match o.rows[row]? with
     |some r=>if a+k<=r.length then some ((r.drop a).take k) else none
     |none=>none
    else none
   |none=>none
 | .dQ cells,k=>if k<=cells.length then some (cells.take k) else none
 |_,_=>none
def mkV(agg:Bool)(cs:List D1):Option D:=
 if agg then some (.one (.agg cs)) else
 match cs with
 | [d]=>some (.one (.c d))
 |_=>none
def gg:BinOp->Value->Value->Option Value
 | .shl,.int k a,.int _ b=>if b<0 then none else some (.int k (k.wrap (a*2^(min b.toNat k.bits))))
 | .shr,.int k a,.int _ b=>if b<0 then none else some (.int k (a.fdiv (2^(min b.toNat k.bits))))
 | .add,.int k a,.int k' b=>if k=k' then some (.int k (k.wrap (a+b))) else none
 | .sub,.int k a,.int k' b=>if k=k' then some (.int k (k.wrap (a-b))) else none
 | .mul,.int k a,.int k' b=>if k=k' then some (.int k (k.wrap (a*b))) else none
 | .quo,.int k a,.int k' b=>if k=k' then (if b=0 then none else some (.int k (k.wrap (a.tdiv b)))) else none
 | .rem,.int k a,.int k' b=>if k=k' then (if b=0 then none else some (.int k (a.tmod b))) else none
 | .and,.int k a,.int k' b=>if k=k' then some (.int k (k.wrap (BitVec.ofInt k.bits a&&& BitVec.ofInt k.bits b).toNat)) else none
 | .or,.int k a,.int k' b=>if k=k' then some (.int k (k.wrap (BitVec.ofInt k.bits a|||BitVec.ofInt k.bits b).toNat)) else none
 | .xor,.int k a,.int k' b=>if k=k' then some (.int k (k.wrap (BitVec.ofInt k.bits a^^^BitVec.ofInt k.bits b).toNat)) else none
 | .andNot,.int k a,.int k' b=>if k=k' then some (.int k (k.wrap (BitVec.ofInt k.bits a&&& ~~~ BitVec.ofInt k.bits b).toNat)) else none
 | .eql,.int k a,.int k' b=>if k=k' then some (.bool (a==b)) else none
 | .neq,.int k a,.int k' b=>if k=k' then some (.bool (a != b)) else none
 | .lss,.int k a,.int k' b=>if k=k' then some (.bool (a<b)) else none
 | .leq,.int k a,.int k' b=>if k=k' then some (.bool (a<=b)) else none
 | .gtr,.int k a,.int k' b=>if k=k' then some (.bool (a>b)) else none
 | .geq,.int k a,.int k' b=>if k=k' then some (.bool (a>=b)) else none
 | .add,.string a,.string b=>if ((a.size+b.size:Nat):Int)>IntKind.i64.max then none else some (.string (a++b))
 | .eql,.string a,.string b=>some (.bool (a.toList==b.toList))
 | .neq,.string a,.string b=>some (.bool !(a.toList==b.toList))
 |_,_,_=>none
theorem Pm{P:Program}{op:BinOp}{t:TypeId}{x y v:Value}(h:gg op x y=some v)(w:World):(binOp op t x y).run P w= .ok v w:=by
 unfold gg at h;split at h
 all_goals first
  | (split at h
     ·split at h;·simp at h
      ·simp only[Option.some.injEq] at h;subst h;rename_i a b;subst a;simp[binOp,Op.intDiv,b]
     ·simp at h)
  | (split at h
     ·simp only[Option.some.injEq] at h;subst h;rename_i a;subst a;simp[binOp,Op.intArith,Op.intBits,Op.intCmp]
     ·simp at h)
  | (split at h
     ·simp at h
     ·simp only[Option.some.injEq] at h;subst h;rename_i a;simp[binOp,Op.shift,a];done)
  | (split at h
     ·simp at h
     ·simp only[Option.some.injEq] at h;subst h;rename_i a;simp only[binOp,Op.stringOp,if_neg a];rfl)
  | (simp only[Option.some.injEq] at h;subst h;simp[binOp,Op.stringOp])
  | (simp at h;done)
def DV.cells:DV->List D1
 | .c d=>[d]
 | .agg cs=>cs
def kD(cs:List D1)(off:Nat)(a:List D1):List D1:=cs.take off++a++cs.drop (off+a.length)
def y9(e:Env):List D1->List (Nat×Nat×aZ)->Option (List D1)
 |cs,[]=>some cs
 |cs,(off,n,x)::a=>
  match x.ev e with
  | .one d=>if d.cells.length=n/\off+n<=cs.length then y9 e (kD cs off d.cells) a else none
  |_=>none
def An(t:Bool):D->D->D
 | .one (.c (.v (.bool x))),.one (.c (.v (.bool y)))=>.one (.c (.v (.bool (if t then x else y))))
 |a,b=>if t then a else b
def PN(e:Env)(d:Nat):Option aZ->Option Nat
 |none=>some d
 |some x=>
  match x.ev e with
  | .one (.c (.v (.int _ k)))=>if 0<=k then some k.toNat else none
  |_=>none
def Bt(n lo hi mx:Nat):D1->Option D1
 | .osl m id off _ cap=>if m=n\/cap=0 then (if lo<=hi/\hi<=mx/\mx<=cap then some (.osl n id (off+lo) (hi-lo) (mx-lo)) else none) else none
 |_=>none
def PA:List D->Option (List D1)
 | []=>some []
 | .one (.c (.clo _ _))::_=>none
 | .one (.c d)::r=>(PA r).map (d:: ·)
 |_::_=>none
def FD:List D1->Option (List Int)
 | []=>some []
 | .v (.int .i64 n)::r=>(FD r).map (n:: ·)
 |_=>none
def eqD(neg:Bool)(n:Nat)(xs ys:List D1):Option (List Int)->Option (List Int)->Option D
 |some a,some b=>if xs.length=n/\ys.length=n then some (.one (.c (.v (.bool (if neg then decide (¬a=b) else decide (a=b)))))) else none
 |_,_=>none
def XM(kn:Nat):D->Option (List Int)
 | .one (.agg cs)=>if kn=0 then none else FD cs
 | .one (.c (.v (.int .i64 n)))=>if kn=0 then some [n] else none
 |_=>none
def bn(bl:Bool):D->Option Int
 | .one (.c (.v (.bool b)))=>if bl then some (if b then 1 else 0) else none
 | .one (.c (.v (.int .i64 n)))=>if bl then none else some n
 |_=>none
def xq:XK->List D->Option D
 | .DX f,a=>(PA a).map fun caps=>.one (.c (.clo f caps))
 | .aeq neg n,[.one (.agg xs),.one (.agg ys)]=>eqD neg n xs ys (FD xs) (FD ys)
 |_,_=>none
def bL(H:aA)(e:Env):AOp->Option D
 | .move x=>some (x.ev e)
 | .pick c a b=>match c.ev e with
   | .one (.c (.v (.bool t)))=>some (An t (a.ev e) (b.ev e))
   |_=>none
 | .zO x=>match x.ev e with
   | .one (.c (.ptr n id row f))=>some (.one (.c (.ptr n id row f)))
   | .one (.c (.dQ cs))=>some (.one (.c (.dQ cs)))
   |_=>none
 | .load n g a=>match a.ev e with
   | .one (.c d)=>(rI H d n).bind (mkV g)
   |_=>none
 | .fld k x=>match x.ev e with
   | .one (.c (.ptr n id row f))=>some (.one (.c (.ptr n id row (f+k))))
   | .one (.c (.dQ cs))=>some (.one (.c (.dQ (cs.drop k))))
   |_=>none
 | .idx n x i=>match x.ev e,i.ev e with
   | .one (.c (.osl m id off len _)),.one (.c (.v (.int _ k)))=>if m=n/\0<=k/\k<len then some (.one (.c (.ptr n id (off+k.toNat) 0))) else none
   | .one (.c (.isl rows)),.one (.c (.v (.int _ k)))=>
     if 0<=k then
      match rows[k.toNat]? with
      |some r=>if r.length=n then some (.one (.c (.dQ r))) else none
      |none=>none
     else none
   |_,_=>none
 | .se n len x i=>match x.ev e,i.ev e with
   | .one (.c (.ptr m id row f)),.one (.c (.v (.int _ k)))=>if 0<=k/\k<len then some (.one (.c (.ptr m id row (f+k.toNat*n)))) else none
   |_,_=>none
 | .bin op x y=>match x.ev e,y.ev e with
   | .one (.c (.v a)),.one (.c (.v b))=>(gg op a b).map fun v=>.one (.c (.v v))
   |_,_=>none
 | .beq neg x y=>match x.ev e,y.ev e with
   | .one (.c (.v (.bool a))),.one (.c (.v (.bool b)))=>some (.one (.c (.v (.bool (if neg then a != b else a==b)))))
   |_,_=>none
 | .un op x=>match op,x.ev e with
   | .not,.one (.c (.v (.bool b)))=>some (.one (.c (.v (.bool !b))))
   | .neg,.one (.c (.v (.int k n)))=>some (.one (.c (.v (.int k (k.wrap (0-n))))))
   |_,_=>none
 | .conv k x=>match x.ev e with
   | .one (.c (.v (.int _ n)))=>some (.one (.c (.v (.int k (k.wrap n)))))
   |_=>none
 | .len str x=>match str,x.ev e with
   |true,.one (.c (.v (.string s)))=>some (.one (.c (.v (.int .i64 s.size))))
   |false,.one (.c (.isl rows))=>some (.one (.c (.v (.int .i64 rows.length))))
   |false,.one (.c (.osl _ _ _ len _))=>some (.one (.c (.v (.int .i64 len))))
   |_,_=>none
 | .cap x=>match x.ev e with
   | .one (.c (.osl _ _ _ _ cap))=>some (.one (.c (.v (.int .i64 cap))))
   |_=>none
 | .ext x i=>match x.ev e with
   | .tup xs=>(xs[i]?).map .one
   |_=>none
 | .slc n x lo hi mx=>match x.ev e with
   | .one (.c (.isl rows))=>
     match mx,PN e 0 lo,PN e rows.length hi with
     |none,some l,some h=>if l<=h/\h<=rows.length/\(∀r∈rows,r.length=n) then some (.one (.c (.isl ((rows.drop l).take (h-l))))) else none
     |_,_,_=>none
   | .one (.c (.osl m id off len cap))=>
     match PN e 0 lo,PN e len hi,PN e cap mx with
     |some l,some h,some j=>(Bt n l h j (.osl m id off len cap)).map fun d=>.one (.c d)
     |_,_,_=>none
   |_=>none
 | .aaC x=>match x.ev e with
   | .one (.c (.isl _))=>some (.one (.c .nil))
   | .one (.c (.osl _ _ _ _ _))=>some (.one (.c .nil))
   |_=>none
 | .sub x lo hi=>match x.ev e with
   | .one (.c (.v (.string s)))=>
     match PN e 0 lo,PN e s.size hi with
     |some l,some h=>if l<=h/\h<=s.size then some (.one (.c (.v (.string (s.extract l h))))) else none
     |_,_=>none
   |_=>none
 | .mmx o x y=>match x.ev e,y.ev e with
   | .one (.c (.v (.int k a))),.one (.c (.v (.int _ b)))=>some (.one (.c (.v (.int k (if o then (if b<a then b else a) else (if a<b then b else a))))))
   |_,_=>none
 | .field off n g x=>match x.ev e with
   | .one (.agg cs)=>if off+n<=cs.length then mkV g ((cs.drop off).take n) else none
   |_=>none
 | .Tv x i=>match x.ev e,i.ev e with
   | .one (.c (.v (.string s))),.one (.c (.v (.int _ k)))=>if 0<=k then (s[k.toNat]?).map fun b=>.one (.c (.v (.int .u8 b.toNat))) else none
   |_,_=>none
 | .build zero parts=>(y9 e zero parts).map fun cs=>.one (.agg cs)
 | .xop k args=>xq k (args.map (·.ev e))
 |_=>none
def layout(P:Program)(t:TypeId):Option (Nat×Bool):=
 match P.info? t,P.underlying t with
 |some i,some (.struct _)=>some (i.size,true)
 |some i,some (.array _ _)=>some (i.size,true)
 |some i,some _=>if i.size=1 then some (1,false) else none
 |_,_=>none
def zeroOf(P:Program)(t:TypeId):Option (List D1):=
 match P.info? t with
 |some i=>match i.zero with
  |some z=>if z.cells.toList.all Value.oneCell'/\z.cells.size=i.size then some (z.cells.toList.map ofV) else none
  |none=>none
 |none=>none
def SV:Option Operand->Option (Option aZ)
 |none=>some none
 |some x=>(trO x).map some
def rK(place:Nat->Option (Nat×Nat)):List (Nat×Operand)->Option (List (Nat×Nat×aZ))
 | []=>some []
 | (i,x)::a=>
   match place i,trO x,rK place a with
   |some (off,n),some y,some r=>some ((off,n,y)::r)
   |_,_,_=>none
def nS(P:Program)(a:Array Field)(i:Nat):Option (Nat×Nat):=
 match a[i]? with
 |some f=>match layout P f.type with
  |some (n,_)=>some (f.offset,n)
  |none=>none
 |none=>none
def fU(P:Program)(t:TypeId):Option (TypeId×Nat):=
 match P.underlying t with
 |some (.slice e)=>match layout P e with
  |some (n,_)=>some (e,n)
  |none=>none
 |_=>none
def VF(P:Program)(b:Builtin)(args:List Operand)(a:List TypeId):Option AOp:=
 match b,args,a with
 | .len,[x],[t]=>match trO x,P.underlying t with
   |some y,some .string=>some (.len true y)
   |some y,some (.slice _)=>some (.len false y)
   |_,_=>none
 | .cap,[x],[t]=>match trO x,P.underlying t with
   |some y,some (.slice _)=>some (.cap y)
   |_,_=>none
 | .min,[x,y],_=>match trO x,trO y with
   |some x,some y=>some (.mmx true x y)
   |_,_=>none
 | .max,[x,y],_=>match trO x,trO y with
   |some x,some y=>some (.mmx false x y)
   |_,_=>none
 | .append,[s,x],[t,u]=>match trO s,trO x,fU P t with
   |some s,some x,some (e,n)=>if t=u/\0<n/\(zeroOf P e).isSome/\P.bytesOf e<=65536 then some (.append n s x) else none
   |_,_,_=>none
 |_,_,_=>none
def MZ(P:Program):Op->Option AOp
 | .move x=>(trO x).map .move
 | .assign x=>(trO x).map .move
 | .pick c a b=>match trO c,trO a,trO b with
   |some c,some a,some b=>some (.pick c a b)
   |_,_,_=>none
 | .nilCheck x=>(trO x).map .zO
 | .load t a=>match layout P t,trO a with
   |some (n,g),some a=>some (.load n g a)
   |_,_=>none
 | .store t a x=>match layout P t,trO a,trO x with
   |some (n,g),some a,some x=>some (.store n g a x)
   |_,_,_=>none
 | .fieldAddr s x f=>match P.underlying s,trO x with
   |some (.struct d),some x=>match d[f]? with
    |some fd=>match layout P fd.type with
     |some (n,_)=>if n=0 then none else some (.fld fd.offset x)
     |none=>none
    |none=>none
   |_,_=>none
 | .indexAddr t x i=>match P.underlying t,trO x,trO i with
   |some (.slice e),some x,some i=>match layout P e with
    |some (n,_)=>some (.idx n x i)
    |none=>none
   |some (.array len e),some x,some i=>match layout P e with
    |some (n,_)=>some (.se n len x i)
    |none=>none
   |_,_,_=>none
 | .binOp op t x y _=>match P.underlying t,trO x,trO y with
   |some (.int _),some x,some y=>some (.bin op x y)
   |some .string,some x,some y=>some (.bin op x y)
   |some .bool,some x,some y=>match op with
    | .eql=>some (.beq false x y)
    | .neq=>some (.beq true x y)
    |_=>none
   |_,_,_=>none
 | .unOp op _ x=>(trO x).map (.un op)
 | .convert src dst x=>match P.underlying src,P.underlying dst,trO x with
   |some (.int _),some (.int k),some x=>some (.conv k x)
   |_,_,_=>none
 | .extract x i=>(trO x).map fun x=>.ext x i
 | .slice t x none (some (.const (.int _ 0))) (some (.const (.int _ 0)))=>match P.underlying t,trO x with
   |some (.slice e),some x=>match layout P e with
    |some _=>some (.aaC x)
    |none=>none
   |_,_=>none
 | .slice t x lo hi mx=>match P.underlying t,trO x,SV lo,SV hi,SV mx with
   |some (.slice e),some x,some lo,some hi,some mx=>match layout P e with
    |some (n,_)=>if mx.isSome&&hi.isNone then none else some (.slc n x lo hi mx)
    |none=>none
   |some .string,some x,some lo,some hi,some none=>some (.sub x lo hi)
   |_,_,_,_,_=>none
 | .field t x f=>match P.underlying t,trO x with
   |some (.struct d),some x=>match d[f]? with
    |some fd=>match layout P fd.type with
     |some (n,g)=>some (.field fd.offset n g x)
     |none=>none
    |none=>none
   |_,_=>none
 | .index t x i=>match P.underlying t,trO x,trO i with
   |some .string,some x,some i=>some (.Tv x i)
   |_,_,_=>none
 | .build t h=>match P.underlying t,zeroOf P t with
   |some (.struct d),some z=>if d.all (fun f=>(P.info? f.type).isSome) then (rK (nS P d) h.toList).map (.build z) else none
   |some (.array _ el),some z=>match layout P el with
    |some (n,_)=>(rK (fun i=>some (i*n,n)) h.toList).map (.build z)
    |none=>none
   |_,_=>none
 | .alloc t=>(zeroOf P t).map .alloc
 | .box t x=>match layout P t,trO x with
   |some (_,g),some x=>some (.box g x)
   |_,_=>none
 | .buildSlice t len h=>match fU P t with
   |some (e,n)=>match zeroOf P e with
    |some z=>if z.length=n/\len*n<=4096/\0<n then (rK (fun i=>some (i*n,n)) h.toList).map (.aV n len z) else none
    |none=>none
   |none=>none
 | .makeSlice t l k=>match fU P t,trO l,trO k with
   |some (e,n),some l,some k=>match zeroOf P e with
    |some z=>if z.length=n/\0<n/\P.bytesOf e<=65536 then some (.rO n z l k) else none
    |none=>none
   |_,_,_=>none
 | .call c=>match c.callee with
   | .builtin b=>VF P b c.args.toList c.argTypes.toList
   | .value (.func f)=>(c.args.toList.mapM trO).map (.call f)
   | .value x=>match trO x,c.args.toList.mapM trO with
     |some x,some l=>some (.xB x l)
     |_,_=>none
   |_=>none
 |_=>none
section
variable{P:Program}{c:Cf}{H:aA}
theorem kU{t:TypeId}{n:Nat}{g:Bool}(h:layout P t=some (n,g))(w:World):
 (isAgg t).run P w= .ok g w/\(sizeOf t).run P w= .ok n w/\(g=false->n=1):=by
 unfold layout at h
 split at h
 ·rename_i i c hi hu;simp only[Option.some.injEq,Prod.mk.injEq] at h;obtain⟨rfl,rfl⟩:=h;simp[isAgg,run_underlying hu,sizeOf,typeInfo,hi]
 ·rename_i i l e hi hu;simp only[Option.some.injEq,Prod.mk.injEq] at h;obtain⟨rfl,rfl⟩:=h;simp[isAgg,run_underlying hu,sizeOf,typeInfo,hi]
 ·rename_i i d a b hi hu;split at h
  ·rename_i f;simp only[Option.some.injEq,Prod.mk.injEq] at h;obtain⟨rfl,rfl⟩:=h;refine⟨?_,by simp[sizeOf,typeInfo,hi,f],fun _=>rfl⟩;simp only[isAgg,Sem.run_bind,run_underlying hu,Result.andThen_ok]
   cases d with
   |struct c=>exact(a _ rfl).elim
   |array l e=>exact(b _ _ rfl).elim
   |_=>rfl
  ·simp at h
 ·simp at h
end
section
variable{P:Program}{c:Cf}{H:aA}{T:Nat}{e:Env}{a:Act}
theorem AU(b o k:Nat):(⟨b,o,none⟩:Addr).add k=⟨b,o+k,none⟩:=by
 unfold Addr.add;split;·rename_i h;subst h;rfl
 ·rfl
variable{cs:List D1}
theorem R7(hs:St c H){d:D1}{k:Nat}(h:rI H d k=some cs){x:Value}(e:Rel c d x):
 ∃b o,x= .pointer (some ⟨b,o,none⟩)/\cs.length=k/\ ∀(j:Nat) (y:D1),cs[j]?=some y->∃u,c.w.cell? ⟨b,o+j,none⟩=some u/\Rel c y u:=by
 unfold rI at h
 split at h
 ·rename_i n id row g;split at h
  ·rename_i o l;split at h
   ·rename_i m;split at h
    ·rename_i r hr;split at h
     ·rename_i p;simp only[Option.some.injEq] at h;subst h;simp only[Rel,cX] at e;obtain⟨_,rfl⟩:=e;refine⟨_,_,rfl,by simp;omega,fun j y a=> ?_⟩;rw[ad2] at a;split at a;·rw[adO] at a;obtain⟨u,hu,i⟩:=hs.cells id o row (g+j) r y l hr a;refine⟨u,?_,i⟩;rw[<-hu,m];simp[ac2]
      ·simp at a
     ·simp at h
    ·simp at h
   ·simp at h
  ·simp at h
 ·rename_i cells;split at h
  ·rename_i p;simp only[Option.some.injEq] at h;subst h;simp only[Rel,cX] at e
   cases e with
   |dQ _ b o f q hc hr=>
    refine⟨b,o,rfl,by simp;omega,fun j y a=> ?_⟩;rw[ad2] at a;split at a;·refine⟨f j,hc j y a,?_⟩;have:=hr j y a;cases y<;>first|exact this| (cases this;done)
    ·simp at a
  ·simp at h
 ·simp at h
theorem Xd(f:Nat->Value)(h: ∀(j:Nat) (y:D1),cs[j]?=some y->Rel c y (f j)):y4 c cs ((List.range cs.length).map f):=by refine⟨by simp,fun i d u b a=> ?_⟩;simp only[adJ,List.getElem?_range] at a;have hi:i<cs.length:=(adB.1 b).1;simp[hi] at a;subst a;exact h i d b
variable{t:TypeId}{n:Nat}{g:Bool}
theorem Bp(hs:St c H)(hl:layout P t=some (n,g)){d:D1}{r:D}(h:rI H d n=some cs)(hm:mkV g cs=some r)
 {x:Value} (m:Rel c d x): ∃v,(Instr.loadAt t x).run P c.w= .ok v c.w/\iA c r v:=by
 obtain⟨b,o,rfl,hlen,hc⟩:=R7 hs h m
 obtain⟨l,p,q⟩:=kU hl c.w
 have a: ∀j,∃u:Value,∀y,cs[j]?=some y->c.w.cell? ⟨b,o+j,none⟩=some u/\Rel c y u:=by
  intro j
  cases e:cs[j]? with
  |none=>exact⟨undef,fun y h=>by cases h⟩
  |some y=>obtain⟨u,hu⟩:=hc j y e;exact⟨u,fun s h=>by cases h;exact hu⟩
 obtain⟨f,i⟩:=Classical.axiomOfChoice a
 cases g with
 |true=>
  simp only[mkV,if_true,Option.some.injEq] at hm;subst hm
  have k:=run_loadCells (P:=P) c.w ⟨b,o,none⟩ n f (fun j z=>by
   rw[AU]
   have: ∃y,cs[j]?=some y:=⟨cs[j]'(by omega),ac8 (by omega)⟩
   obtain⟨y,e⟩:=this
   exact(i j y e).1)
  refine⟨.agg ((List.range n).map f).toArray,?_,?_⟩;·simp[Instr.loadAt,Instr.sureAddr,loadVar,l,p,k]
  ·exact⟨_,rfl,by rw[<-hlen];exact Xd f (fun j y e=>(i j y e).2)⟩
 |false=>
  simp only[mkV] at hm;have:=q rfl;subst this
  match cs,hlen with
  | [y],_=>simp at hm;subst hm;obtain⟨hu,hr⟩:=i 0 y rfl;refine⟨f 0,?_,hr⟩;simp only[Nat.add_zero] at hu;simp[Instr.loadAt,Instr.sureAddr,loadVar,l,hu]
theorem Bx{x:Option Operand}{y:Option aZ}{d k:Nat}(he:ER c T e a)(f:SV x=some y)(h:PN e d y=some k)(b:Nat)(m:k<=b)(code:BoundsCode):
 (x=none/\k=d)\/ ∃v,x.map a.eval=some v/\(Instr.sliceBound v b code).run P c.w= .ok k c.w:=by
 cases x with
 |none=>simp only[SV,Option.some.injEq] at f;subst f;simp only[PN,Option.some.injEq] at h;exact .inl ⟨rfl,h.symm⟩
 |some x=>
  simp only[SV,adC] at f;obtain⟨z,j,rfl⟩:=f;simp only[PN] at h;split at h
  ·rename_i q i l;split at h;·rename_i hi;simp only[Option.some.injEq] at h;subst h;have hr:=o8 he j;rw[l] at hr;simp only[iA,mH,Rel,cX] at hr;cases g:a.eval x<;>rw[g] at hr<;>cases hr;refine .inr ⟨_,rfl,?_⟩;rw[g];have:i<=(b:Int):=(by omega);simp[Instr.sliceBound,asIntOf,hi,this]
   ·simp at h
  ·simp at h
theorem FT{x y:Value}(h:Rel c (.v x) y):y=x:=by simp only[Rel,cX] at h;cases h;rfl
theorem QY{x:Value}(h:x.oneCell'=true):Rel c (.v x) x:=by simp only[Rel,cX];exact .v x h
variable{x:Operand}
theorem F1{y:aZ}{v:Value}(he:ER c T e a)(b:trO x=some y)(h:y.ev e= .one (.c (.v v))):a.eval x=v:=by have:=o8 he b;rw[h] at this;exact FT this
theorem vJ{y:aZ}{d:D1}(he:ER c T e a)(b:trO x=some y)(h:y.ev e= .one (.c d)):Rel c d (a.eval x):=by have:=o8 he b;rw[h] at this;exact this
theorem Oj{op:BinOp}{x y v:Value}(h:gg op x y=some v):v.oneCell'=true:=by unfold gg at h;split at h<;>(repeat (split at h))<;>first| (simp only[Option.some.injEq] at h;subst h;rfl)|simp at h
variable{y:Operand}
theorem Bh{op:BinOp}{u v r:Value}(h:gg op u v=some r)(w:World):(eqGuard op t x y u v).run P w= .ok () w:=by unfold gg at h;split at h<;>first| (simp at h;done)|simp[eqGuard]
theorem TC{x:Option Operand}{y:Option aZ}(h:SV x=some y):(x=none↔y=none):=by
 cases x with
 |none=>simp only[SV,Option.some.injEq] at h;subst h;simp
 |some x=>simp only[SV,adC] at h;obtain⟨z,_,rfl⟩:=h;simp
theorem UU{b:Bool}:Rel c (.v (.bool b)) (.bool b):=QY rfl
theorem tQ{k:IntKind}{n:Int}:Rel c (.v (.int k n)) (.int k n):=QY rfl
theorem Nd{t:Bool}{x y:D}{u v:Value}(a:iA c x u)(b:iA c y v):iA c (An t x y) (if t then u else v):=by
 unfold An;split;·have d:=FT (c:=c) a;have e:=FT (c:=c) b;subst d;subst e;cases t<;>exact UU
 ·cases t<;>assumption
theorem vy{rows:List (List D1)}{x:Value}(e:Rel c (.isl rows) x): ∃a cap,x= .slice a rows.length cap/\rows.length<=cap:=by
 simp only[Rel,cX] at e
 cases e with
 |isl _ a cap n b o f g d h hc hr=>exact⟨a,cap,rfl,d⟩
theorem Un{rows:List (List D1)}{a:Option Addr}{cap l h:Nat}(s:Rel c (.isl rows) (.slice a rows.length cap))(hl:l<=h)(F:h<=rows.length)(A: ∀r∈rows,r.length=n):
 Rel c (.isl ((rows.drop l).take (h-l))) (.slice (if cap=l then a else a.map (·.add (l*n))) (h-l) (cap-l)):=by
 simp only[Rel,cX] at s ⊢
 generalize B:Value.slice a rows.length cap=v at s
 cases s with
 |isl _ G x n' b o f C y m hc hr=>
  injection B with p q D;subst p;subst D;have hlen:((rows.drop l).take (h-l)).length=h-l:=by simp;omega
  have e: ∀(i:Nat) (r:List D1),((rows.drop l).take (h-l))[i]?=some r->rows[l+i]?=some r:=by
   intro i r hr;rw[ad2] at hr;split at hr;·rw[adO] at hr;exact hr
   ·simp at hr
  conv=>arg 4;rw[<-hlen]
  have t: ∀(i:Nat) (r:List D1),rows[i]?=some r->n'=n:=fun i r hr=>(m i r hr).symm.trans (A r (adI hr));refine .isl _ _ _ n' b (o+l*n') (fun i j=>f (l+i) j) (fun k=> ?_) (by rw[hlen];omega) (fun i r hr=>m _ r (e i r hr)) (fun i j r d p q=> ?_) (fun i j r d p q=>hr (l+i) j r d (e i r p) q)
  ·have g:rows≠[]:=(by rintro rfl;simp at k);obtain⟨rfl,E⟩:=C g
   have z:0<h-l:=by
    rcases aeO (h-l) with u|u;·rw[u] at k;simp at k
    ·exact u
   have w:n'=n:=by
    match rows,g with
    |r::_,_=>exact t 0 r rfl
   subst w;rw[if_neg (by omega)];exact⟨by simp[AU],E⟩
  ·rw[<-hc (l+i) j r d (e i r p) q];congr 2;rw[adT];omega
variable{el:TypeId}
theorem VU{x:Value}{lo hi mx:Option Value}{A:Option Addr}{len cap l h m:Nat}(hu:P.underlying t=some (.slice el))(a:(sizeOf el).run P c.w= .ok n c.w)
 (e:x= .slice A len cap)
 (hm:(mx=none/\m=cap)\/ ∃v,mx=some v/\(Instr.sliceBound v cap .slice3Acap).run P c.w= .ok m c.w)
 (b:(hi=none/\h=len/\mx=none)\/ ∃v,hi=some v/\(∀code,(Instr.sliceBound v m code).run P c.w= .ok h c.w))
 (hl:(lo=none/\l=0)\/ ∃v,lo=some v/\(∀code,(Instr.sliceBound v h code).run P c.w= .ok l c.w)):
 (Instr.sliceAt t x lo hi mx).run P c.w= .ok (.slice (if m=l then A else A.map (·.add (l*n))) (h-l) (m-l)) c.w:=by
 subst e
 rcases hm with⟨rfl,rfl⟩|⟨i,rfl,hm⟩
 ·rcases b with⟨rfl,rfl,_⟩|⟨f,rfl,b⟩
  ·rcases hl with⟨rfl,rfl⟩|⟨d,rfl,hl⟩
   ·simp[Instr.sliceAt,Instr.slice,run_underlying hu,Instr.sliceBounds,a]
   ·simp[Instr.sliceAt,Instr.slice,run_underlying hu,Instr.sliceBounds,a,hl]
  ·rcases hl with⟨rfl,rfl⟩|⟨d,rfl,hl⟩
   ·simp[Instr.sliceAt,Instr.slice,run_underlying hu,Instr.sliceBounds,a,b]
   ·simp[Instr.sliceAt,Instr.slice,run_underlying hu,Instr.sliceBounds,a,b,hl]
 ·rcases b with⟨rfl,rfl,g⟩|⟨f,rfl,b⟩
  ·simp at g
  ·rcases hl with⟨rfl,rfl⟩|⟨d,rfl,hl⟩
   ·simp[Instr.sliceAt,Instr.slice,run_underlying hu,Instr.sliceBounds,a,hm,b]
   ·simp[Instr.sliceAt,Instr.slice,run_underlying hu,Instr.sliceBounds,a,hm,b,hl]
def nC(P:Program)(c:Cf)(a:Act)(o:Oper)(d:D):Prop:=∃v,(execOp a.eval o).run P c.w= .ok (.value v) c.w/\iA c d v
variable{o:Oper}{d:D}
theorem Qf(he:ER c T e a){y:aZ}(b:o.op= .move x\/o.op= .assign x)(g:trO x=some y)(f:bL H e (.move y)=some d):nC P c a o d:=by simp only[bL,Option.some.injEq] at f;subst f;refine⟨a.eval x,?_,o8 he g⟩;rcases b with b|b<;>simp[execOp,b]
variable{x':aZ}
theorem Ys(he:ER c T e a){z:Operand}{f g:aZ}(h:o.op= .pick x y z)(i:trO x=some x')(j:trO y=some f)(k:trO z=some g)
 (b:bL H e (.pick x' f g)=some d):nC P c a o d:=by
 simp only[bL] at b
 split at b
 ·rename_i t l;simp only[Option.some.injEq] at b;subst b;have m:=F1 he i l;refine⟨if t then a.eval y else a.eval z,?_,Nd (o8 he j) (o8 he k)⟩;simp[execOp,h,m,asBool]
 ·simp at b
theorem Oy(he:ER c T e a)(i:o.op= .nilCheck x)(h:trO x=some x')(f:bL H e (.zO x')=some d):nC P c a o d:=by
 simp only[bL] at f;have key: ∀(D:D1) (p:Addr),x'.ev e= .one (.c D)->a.eval x= .pointer (some p)->nC P c a o (.one (.c D)):=by intro D p b j;refine⟨a.eval x,?_,vJ he h b⟩;simp[execOp,i,j]
 split at f;·rename_i n id row k g;simp only[Option.some.injEq] at f;subst f;have b:=vJ he h g;simp only[Rel,cX] at b;exact key _ _ g b.2
 ·rename_i cs g;simp only[Option.some.injEq] at f;subst f;have b:=vJ he h g;simp only[Rel,cX] at b;generalize l:a.eval x=v at b;cases b;exact key _ _ g l
 ·simp at f
theorem Zv(hs:St c H)(he:ER c T e a)(f:o.op= .load t x)(hl:layout P t=some (n,g))(h:trO x=some x')
 (b:bL H e (.load n g x')=some d):nC P c a o d:=by
 simp only[bL] at b
 split at b
 ·rename_i d1 i;simp only[af3] at b;obtain⟨cs,j,k⟩:=b;obtain⟨v,hr,l⟩:=Bp hs hl j k (vJ he h i);exact⟨v,by simp[execOp,f,hr],l⟩
 ·simp at b
theorem abR(he:ER c T e a){s:TypeId}{f:Nat}{r:Array Field}{fd:Field}(u:o.op= .fieldAddr s x f)(hu:P.underlying s=some (.struct r))(z:r[f]?=some fd)
 (hl:layout P fd.type=some (n,g)) (A:n≠0) (t:trO x=some x') (k:bL H e (.fld fd.offset x')=some d):nC P c a o d:=by
 simp only[bL] at k
 have i: ∀b p,a.eval x= .pointer (some ⟨b,p,none⟩)->(execOp a.eval o).run P c.w= .ok (.value (.pointer (some ⟨b,p+fd.offset,none⟩))) c.w:=by intro b p h;have B:=(kU hl c.w).2.1;simp[execOp,u,h,Instr.fieldAt,run_underlying hu,z,Instr.sureAddr,fieldPlace,B,A,AU]
 split at k
 ·rename_i n' id row C q;simp only[Option.some.injEq] at k;subst k;have l:=vJ he t q;simp only[Rel,cX] at l;refine⟨_,i _ _ l.2,?_⟩;simp only[iA,mH,Rel,cX];exact⟨l.1,by simp[ac2]⟩
 ·rename_i cs q;simp only[Option.some.injEq] at k;subst k;have l:=vJ he t q;simp only[Rel,cX] at l;generalize D:a.eval x=v at l
  cases l with
  |dQ _ b p f E hc hr=>refine⟨_,i _ _ D,?_⟩;simp only[iA,mH,Rel,cX];refine .dQ _ b (p+fd.offset) (fun j=>f (fd.offset+j)) E (fun j y m=> ?_) (fun j y m=>hr _ y (by rw[adO] at m;exact m));rw[adO] at m;rw[ac2];exact hc _ y m
 ·simp at k
theorem abL(he:ER c T e a){i:Operand}{M:aZ}(Q:o.op= .indexAddr t x i)(hu:P.underlying t=some (.slice el))
 (hl:layout P el=some (n,g)) (N:trO x=some x') (hi:trO i=some M) (h:bL H e (.idx n x' M)=some d):nC P c a o d:=by
 simp only[bL] at h
 have B:=(kU hl c.w).2.1
 have s: ∀b p len cap q k,a.eval x= .slice (some ⟨b,p,none⟩) len cap->a.eval i= .int q k->0<=k->k<len->
  (execOp a.eval o).run P c.w= .ok (.value (.pointer (some ⟨b,p+k.toNat*n,none⟩))) c.w:=by
  intro b p len cap q k l u R S
  simp[execOp,Q,l,u,Instr.indexAt,asIntOf,run_underlying hu,R,S,B,AU]
 split at h
 ·rename_i m id off len cap q k C D;split at h
  ·rename_i hc;obtain⟨rfl,E,z⟩:=hc;simp only[Option.some.injEq] at h;subst h;have l:=vJ he N C;have u:=F1 he hi D;simp only[Rel,cX] at l;obtain⟨hle,⟨U,_⟩|⟨V,W,l⟩⟩:=l;·omega
   ·refine⟨_,s _ _ _ _ _ _ l u E z,?_⟩;simp only[iA,mH,Rel,cX];exact⟨W,by simp[adT,ac2]⟩
  ·simp at h
 ·rename_i rows q k C D;split at h
  ·rename_i E;split at h
   ·rename_i r hr;split at h
    ·rename_i F;simp only[Option.some.injEq] at h;subst h;have l:=vJ he N C;have u:=F1 he hi D;simp only[Rel,cX] at l;generalize X:a.eval x=v at l
     cases l with
     |isl _ A cap n' b p f Y O G hc I=>have J:rows≠[]:=(by rintro rfl;simp at hr);obtain⟨rfl,Z⟩:=Y J;have z:k.toNat<rows.length:=(adB.1 hr).1;have K:n'=n:=(G _ r hr).symm.trans F;subst K;refine⟨_,s _ _ _ _ _ _ X u E (by omega),?_⟩;simp only[iA,mH,Rel,cX];exact .dQ r b _ (fun j=>f k.toNat j) Z (fun j y L=>by rw[ac2];exact hc k.toNat j r y hr L) (fun j y L=>I k.toNat j r y hr L)
    ·simp at h
   ·simp at h
  ·simp at h
 ·simp at h
theorem Zh(he:ER c T e a){i:Operand}{p:aZ}{len:Nat}(r:o.op= .indexAddr t x i)(hu:P.underlying t=some (.array len el))
 (hl:layout P el=some (n,g)) (s:trO x=some x') (hi:trO i=some p) (b:bL H e (.se n len x' p)=some d):nC P c a o d:=by
 simp only[bL] at b
 have f:=(kU hl c.w).2.1
 split at b
 ·rename_i m id row h q k u v;split at b
  ·rename_i hc;obtain⟨y,j⟩:=hc;simp only[Option.some.injEq] at b;subst b;have l:=vJ he s u;have z:=F1 he hi v;simp only[Rel,cX] at l;refine⟨.pointer (some ⟨(c.ρ id).1,(c.ρ id).2+(row*m+h)+k.toNat*n,none⟩),?_,?_⟩;·simp[execOp,r,l.2,z,Instr.indexAt,Instr.sureAddr,asIntOf,run_underlying hu,y,j,f,AU]
   ·simp only[iA,mH,Rel,cX];exact⟨l.1,by simp[ac2]⟩
  ·simp at b
 ·simp at b
theorem Xz(he:ER c T e a){op:BinOp}{g:TypeId}{f:aZ}(h:o.op= .binOp op t x y g)(i:trO x=some x')(j:trO y=some f)
 (b:bL H e (.bin op x' f)=some d):nC P c a o d:=by
 simp only[bL] at b
 split at b
 ·rename_i u v hu k;simp only[adC] at b;obtain⟨r,hr,rfl⟩:=b;have l:=F1 he i hu;have m:=F1 he j k;refine⟨r,?_,QY (Oj hr)⟩;simp[execOp,h,l,m,Bh hr,Pm hr]
 ·simp at b
theorem Yf(he:ER c T e a){neg:Bool}{k:TypeId}{g:aZ}(h:o.op= .binOp (if neg then .neq else .eql) t x y k)(hu:P.underlying t=some .bool)
 (l:trO x=some x') (m:trO y=some g) (b:bL H e (.beq neg x' g)=some d):nC P c a o d:=by
 simp only[bL] at b
 split at b
 ·rename_i u v f n;simp only[Option.some.injEq] at b;subst b;have i:=F1 he l f;have j:=F1 he m n
  have heq:(Op.equal t (.bool u) (.bool v)).run P c.w= .ok (u==v) c.w:=by
   have: ∀d,(Op.equalIn (d+1) t (.bool u) (.bool v)).run P c.w= .ok (u==v) c.w:=fun d=>by simp only[Op.equalIn,Sem.run_bind,run_underlying hu,Result.andThen_ok,Sem.run_pure]
   exact this 9999
  refine⟨_,?_,UU⟩;cases neg;·simp only[execOp,h,i,j,aeV,if_false,eqGuard,binOp,Sem.run_bind,Result.andThen_ok,Sem.run_pure];simp[heq]
  ·simp only[execOp,h,i,j,if_true,eqGuard,binOp,Sem.run_bind,Result.andThen_ok,Sem.run_pure];simp[heq,bne]
 ·simp at b
theorem acU(he:ER c T e a){op:UnOp}(i:o.op= .unOp op t x)(j:trO x=some x')(f:bL H e (.un op x')=some d):nC P c a o d:=by
 simp only[bL] at f;split at f;·rename_i b g;simp only[Option.some.injEq] at f;subst f;have h:=F1 he j g;exact⟨_,by simp[execOp,i,h,Op.unary],UU⟩
 ·rename_i k n g;simp only[Option.some.injEq] at f;subst f;have h:=F1 he j g;exact⟨_,by simp[execOp,i,h,Op.unary,Op.intArith],tQ⟩
 ·simp at f
theorem Zl(he:ER c T e a){s:TypeId}{k g:IntKind}(h:o.op= .convert s t x)(f:P.underlying s=some (.int g))(hu:P.underlying t=some (.int k))(i:trO x=some x')
 (b:bL H e (.conv k x')=some d):nC P c a o d:=by
 simp only[bL] at b
 split at b
 ·rename_i q n j;simp only[Option.some.injEq] at b;subst b;have l:=F1 he i j;exact⟨_,by simp[execOp,h,l,convert,run_underlying f,run_underlying hu,Conv.intToInt],tQ⟩
 ·simp at b
theorem abM(he:ER c T e a){i:Nat}(j:o.op= .extract x i)(k:trO x=some x')(b:bL H e (.ext x' i)=some d):nC P c a o d:=by
 simp only[bL] at b;split at b
 ·rename_i xs l;simp only[adC] at b;obtain⟨y,g,rfl⟩:=b;have h:=o8 he k;rw[l] at h;obtain⟨vs,f,hl,hr⟩:=h;have hi:i<vs.length:=by rw[hl];exact(adB.1 g).1
  refine⟨vs[i],?_,hr i y _ g (ac8 hi)⟩;simp[execOp,j,f,Instr.extract,hi]
 ·simp at b
theorem Yb(he:ER c T e a){str:Bool}(h:o.op= .call {callee:=.builtin .len,args:=#[x],argTypes:=#[t]})
 (hu:if str then P.underlying t=some .string else ∃el,P.underlying t=some (.slice el)) (i:trO x=some x') (f:bL H e (.len str x')=some d):nC P c a o d:=by
 simp only[bL] at f
 split at f
 ·rename_i s g;simp only[Option.some.injEq] at f;subst f;simp only[if_true] at hu;have b:=F1 he i g;exact⟨_,by simp[execOp,h,resolve,invoke,builtin,b,Builtin.len_,run_underlying hu,goInt],tQ⟩
 ·rename_i rows g;simp only[Option.some.injEq] at f;subst f;simp only[aeV,if_false] at hu;obtain⟨el,hu⟩:=hu;obtain⟨A,cap,b,_⟩:=vy (vJ he i g);exact⟨_,by simp[execOp,h,resolve,invoke,builtin,b,Builtin.len_,run_underlying hu,goInt],tQ⟩
 ·rename_i n id off len cap g;simp only[Option.some.injEq] at f;subst f;simp only[aeV,if_false] at hu;obtain⟨el,hu⟩:=hu;have b:=vJ he i g;simp only[Rel,cX] at b;obtain⟨hle,⟨j,A,b⟩|⟨_,_,b⟩⟩:=b;·have:len=0:=(by omega);subst this;exact⟨_,by simp[execOp,h,resolve,invoke,builtin,b,Builtin.len_,run_underlying hu,goInt],tQ⟩
  ·exact⟨_,by simp[execOp,h,resolve,invoke,builtin,b,Builtin.len_,run_underlying hu,goInt],tQ⟩
 ·simp at f
theorem ab7(he:ER c T e a)(h:o.op= .call {callee:=.builtin .cap,args:=#[x],argTypes:=#[t]})
 (hu:P.underlying t=some (.slice el)) (i:trO x=some x') (f:bL H e (.cap x')=some d):nC P c a o d:=by
 simp only[bL] at f
 split at f
 ·rename_i n id off len cap j;simp only[Option.some.injEq] at f;subst f;have b:=vJ he i j;simp only[Rel,cX] at b;obtain⟨hle,⟨g,A,b⟩|⟨_,_,b⟩⟩:=b;·subst g;exact⟨_,by simp[execOp,h,resolve,invoke,builtin,b,Builtin.cap_,run_underlying hu,goInt],tQ⟩
  ·exact⟨_,by simp[execOp,h,resolve,invoke,builtin,b,Builtin.cap_,run_underlying hu,goInt],tQ⟩
 ·simp at f
theorem ab9(he:ER c T e a){g:aZ}{l:Array TypeId}{f:Bool}(h:o.op= .call {callee:=.builtin (if f then .min else .max),args:=#[x,y],argTypes:=l})
 (m:trO x=some x') (n:trO y=some g) (b:bL H e (.mmx f x' g)=some d):nC P c a o d:=by
 simp only[bL] at b
 split at b
 ·rename_i k u q v hu p;simp only[Option.some.injEq] at b;subst b;have i:=F1 he m hu;have j:=F1 he n p;cases f;·exact⟨_,by simp[execOp,h,resolve,invoke,builtin,i,j,Builtin.max_,Builtin.max2],tQ⟩
  ·exact⟨_,by simp[execOp,h,resolve,invoke,builtin,i,j,Builtin.min_,Builtin.min2],tQ⟩
 ·simp at b
theorem aaV(he:ER c T e a){i:Operand}{g:aZ}(h:o.op= .index t x i)(hu:P.underlying t=some .string)
 (j:trO x=some x') (hi:trO i=some g) (f:bL H e (.Tv x' g)=some d):nC P c a o d:=by
 simp only[bL] at f
 split at f
 ·rename_i s q k l m;split at f;·rename_i n;simp only[adC] at f;obtain⟨b,p,rfl⟩:=f;have r:=F1 he j l;have u:=F1 he hi m;exact⟨_,by simp[execOp,h,r,u,Instr.index,asIntOf,run_underlying hu,n,p],tQ⟩
  ·simp at f
 ·simp at f
theorem zP{x:Option Operand}{y:Option aZ}{d k:Nat}(he:ER c T e a)(i:SV x=some y)(h:PN e d y=some k)(b:Nat)(j:k<=b):
 (x=none/\k=d)\/ ∃v,x.map a.eval=some v/\ ∀code,(Instr.sliceBound v b code).run P c.w= .ok k c.w:=by
 rcases Bx (P:=P) he i h b j .index with f|⟨v,f,_⟩
 ·exact .inl f
 ·refine .inr ⟨v,f,fun code=> ?_⟩;rcases Bx (P:=P) he i h b j code with⟨g,_⟩|⟨m,g,l⟩
  ·subst g;simp at f
  ·rw[f] at g;cases g;exact l
theorem abY(he:ER c T e a){lo hi mx:Option Operand}{B hi' k:Option aZ}(W:o.op= .slice t x lo hi mx)
 (hu:P.underlying t=some (.slice el)) (hl:layout P el=some (n,g)) (L:trO x=some x') (C:SV lo=some B) (p:SV hi=some hi') (q:SV mx=some k)
 (M:k≠none->hi'≠none) (f:bL H e (.slc n x' B hi' k)=some d):nC P c a o d:=by
 have D:=(kU hl c.w).2.1
 simp only[bL] at f
 split at f
 ·rename_i rows K;split at f
  ·rename_i l h N O;split at f
   ·rename_i hc;obtain⟨hle,hlen,E⟩:=hc;simp only[Option.some.injEq] at f;subst f;obtain⟨A,cap,r,X⟩:=vy (vJ he L K);have b:=vJ he L K;rw[r] at b;have F:mx=none:=(TC q).2 rfl;subst F;have s:=zP (P:=P) he C N h hle;have u:=zP (P:=P) he p O cap (by omega)
    have j:=VU (P:=P) (c:=c) (l:=l) (h:=h) (x:=a.eval x) (lo:=lo.map a.eval) (hi:=hi.map a.eval) (mx:=none) (m:=cap) hu D r (.inl ⟨rfl,rfl⟩)
     (by rcases u with⟨rfl,rfl⟩|u;exact .inl ⟨rfl,rfl,rfl⟩;exact .inr u) (by rcases s with⟨rfl,rfl⟩|s;exact .inl ⟨rfl,rfl⟩;exact .inr s)
    exact⟨_,by simp only[execOp,W,Option.map_none,Sem.run_bind,j,Result.andThen_ok,Sem.run_pure],Un b hle hlen E⟩
   ·simp at f
  ·simp at f
 ·rename_i m id off len cap K;split at f
  ·rename_i l h Q N O Y;simp only[adC,Bt] at f;obtain⟨d1,z,rfl⟩:=f;split at z
   ·rename_i Z;split at z
    ·rename_i hc;obtain⟨R,S,U⟩:=hc;simp only[Option.some.injEq] at z;subst z;have b:=vJ he L K;simp only[Rel,cX] at b;obtain⟨aa,b⟩:=b
     have r: ∃A,a.eval x= .slice A len cap:=by
      rcases b with⟨G,A,i⟩|⟨_,_,i⟩
      ·subst G;have:len=0:=(by omega);subst this;exact⟨A,i⟩
      ·exact⟨_,i⟩
     obtain⟨A,r⟩:=r;have s:=zP (P:=P) he C N h R;have u:=zP (P:=P) he p O Q S;have r3:=zP (P:=P) he q Y cap U
     have j:=VU (P:=P) (c:=c) (l:=l) (h:=h) (x:=a.eval x) (lo:=lo.map a.eval) (hi:=hi.map a.eval) (mx:=mx.map a.eval) (m:=Q) hu D r
      (by rcases r3 with⟨rfl,rfl⟩|⟨v,h4,h5⟩;exact .inl ⟨rfl,rfl⟩;exact .inr ⟨v,h4,h5 _⟩)
      (by rcases u with⟨rfl,rfl⟩|u
          ·refine .inl ⟨rfl,rfl,?_⟩
           cases mx with
           |none=>rfl
           |some y=>have V:hi'=none:=(TC p).1 rfl;exact absurd V (M (fun I=>by have:=(TC q).2 I;simp at this))
          ·exact .inr u)
      (by rcases s with⟨rfl,rfl⟩|s;exact .inl ⟨rfl,rfl⟩;exact .inr s)
     refine⟨_,by simp only[execOp,W,Sem.run_bind,j,Result.andThen_ok,Sem.run_pure];rfl,?_⟩;simp only[iA,mH,Rel,cX];refine⟨by omega,?_⟩;rcases aeO (Q-l) with I|I;·have:h-l=0:=(by omega);rw[I,this];exact .inl ⟨rfl,_,rfl⟩
     ·rcases b with⟨G,_⟩|⟨_,hN,i⟩
      ·omega
      ·have J:m=n:=(by omega);subst J;rw[r] at i;injection i with e1 e2 e3;refine .inr ⟨I,hN,?_⟩;rw[if_neg (by omega),e1];simp[AU,adT,ac2]
    ·simp at z
   ·simp at z
  ·simp at f
 ·simp at f
theorem abH(he:ER c T e a){lo hi:Option Operand}{f hi':Option aZ}(g:o.op= .slice t x lo hi none)
 (hu:P.underlying t=some .string) (r:trO x=some x') (m:SV lo=some f) (n:SV hi=some hi') (b:bL H e (.sub x' f hi')=some d):nC P c a o d:=by
 simp only[bL] at b
 split at b
 ·rename_i s u;split at b
  ·rename_i l h v w;split at b
   ·rename_i hc;simp only[Option.some.injEq] at b;subst b;have i:=F1 he r u;have j:=zP (P:=P) he m v h hc.1;have k:=zP (P:=P) he n w s.size hc.2;refine⟨.string (s.extract l h),?_,QY rfl⟩;rcases j with⟨rfl,rfl⟩|⟨v1,p,j⟩<;>rcases k with⟨rfl,rfl⟩|⟨v2,q,k⟩
    ·simp[execOp,g,i,Instr.sliceAt,run_underlying hu,Instr.slice,Instr.sliceBounds]
    ·simp[execOp,g,i,Instr.sliceAt,run_underlying hu,Instr.slice,Instr.sliceBounds,q,k]
    ·simp[execOp,g,i,Instr.sliceAt,run_underlying hu,Instr.slice,Instr.sliceBounds,p,j]
    ·simp[execOp,g,i,Instr.sliceAt,run_underlying hu,Instr.slice,Instr.sliceBounds,p,j,q,k]
   ·simp at b
  ·simp at b
 ·simp at b
theorem Vu(he:ER c T e a){s:TypeId}{f:Nat}{q:Array Field}{fd:Field}(r:o.op= .field s x f)(hu:P.underlying s=some (.struct q))(t:q[f]?=some fd)
 (hl:layout P fd.type=some (n,g)) (z:trO x=some x') (h:bL H e (.field fd.offset n g x')=some d):nC P c a o d:=by
 obtain⟨v,A,B⟩:=kU hl c.w
 simp only[bL] at h
 split at h
 ·rename_i cs C;split at h
  ·rename_i hlen;have hr:=o8 he z;rw[C] at hr;obtain⟨vs,k,D,l⟩:=hr
   cases g with
   |true=>
    simp only[mkV,if_true,Option.some.injEq] at h;subst h;refine⟨.agg (vs.toArray.extract fd.offset (fd.offset+n)),?_,?_⟩;·simp[execOp,r,k,Instr.field,run_underlying hu,t,asAgg,part,v,A]
    ·refine⟨(vs.drop fd.offset).take n,by simp[List.extract_toArray,List.extract_eq_take_drop],?_,?_⟩;·simp;omega
     ·intro i y u j b;rw[ad2] at j b;split at j;·rename_i hi;rw[if_pos hi] at b;rw[adO] at j b;exact l _ y u j b
      ·simp at j
   |false=>
    have:=B rfl;subst this;simp only[mkV] at h;have E: ∃y,cs[fd.offset]?=some y:=⟨cs[fd.offset]'(by omega),ac8 (by omega)⟩
    obtain⟨y,j⟩:=E;have m:(cs.drop fd.offset).take 1=[y]:=(by rw[aeC (by omega)];simp only[List.take_succ_cons,List.take_zero];rw[ac8 (by omega)] at j;simpa using j);rw[m] at h;simp at h;subst h;have b:vs[fd.offset]?=some (vs[fd.offset]'(by omega)):=ac8 (by omega);refine⟨vs[fd.offset]'(by omega),?_,l _ y _ j b⟩;have p:fd.offset<vs.length:=(by omega);simp[execOp,r,k,Instr.field,run_underlying hu,t,asAgg,part,v,p]
  ·simp at h
 ·simp at h
theorem Bb: ∀(a:List Value) (k off:Nat) (cs:Array Value),off+k+a.length<=cs.size->
 ((a.zipIdx k).foldl (fun(cs:Array Value) (p:Value×Nat)=>cs.setIfInBounds (off+p.2) p.1) cs).toList=cs.toList.take (off+k)++a++cs.toList.drop (off+k+a.length)
 | [],k,off,cs,_=>by simp
 |x::a,k,off,cs,h=>by simp only[List.zipIdx_cons,List.foldl_cons];rw[Bb a (k+1) off _ (by simp at h ⊢;omega)];have e:=list_seg_step cs.toList (off+k) x a (by simp at h ⊢;omega);simp only[List.length_cons] at*;rw[show off+(k+1)=off+k+1 from by omega];simpa [Array.toList_setIfInBounds] using e
theorem Jo{b:List D1}{us vs:List Value}{off:Nat}(e:y4 c cs us)(h:y4 c b vs)(hl:off+b.length<=cs.length):
 y4 c (kD cs off b) (us.take off++vs++us.drop (off+vs.length)):=by
 have l:=e.1
 have k:=h.1
 refine⟨by simp[kD];omega,fun i d u a hu=> ?_⟩
 simp only[kD,adH] at a hu
 rw[adU] at a hu
 rw[adU] at a hu
 simp only[adP,ad2,adO] at a hu
 have f:min off cs.length=off:=by omega
 have g:min off us.length=off:=by omega
 rw[f] at a;rw[g] at hu
 by_cases hi:i<off
 ·rw[if_pos hi,if_pos hi] at a hu;exact e.2 i d u a hu
 ·rw[if_neg hi] at a hu;by_cases j:i-off<b.length;·rw[if_pos j] at a;rw[if_pos (by omega)] at hu;exact h.2 _ d u a hu
  ·rw[if_neg j] at a;rw[if_neg (by omega)] at hu;rw[k] at hu;exact e.2 _ d u a hu
theorem PE{d:DV}{x:Value}(h:mH c d x):y4 c d.cells x.cells.toList:=by
 cases d with
 |c d=>
  simp only[mH] at h;have e:=h.tY;have hc:x.cells= #[x]:=by cases x<;>first|rfl|simp[Value.oneCell'] at e
  rw[hc];refine⟨rfl,fun i f u a b=> ?_⟩
  match i with
  |0=>simp[DV.cells] at a b;subst a;subst b;exact h
  |i+1=>simp[DV.cells] at a
 |agg cs=>obtain⟨vs,rfl,hr⟩:=h;simpa [Value.cells,DV.cells] using hr
theorem UI(he:ER c T e a)(place:Nat->Option (Nat×Nat)): ∀(j:List (Nat×Operand)) (qs:List (Nat×Nat×aZ)) (cs:List D1) (us:Array Value) (rs:List D1),
 rK place j=some qs->y9 e cs qs=some rs->y4 c cs us.toList->
 ∃vs,Instr.fill place us (j.map fun p=>(p.1,a.eval p.2))=some vs/\y4 c rs vs.toList
 | [],qs,cs,us,rs,f,b,hr=>by simp only[rK,Option.some.injEq] at f;subst f;simp only[y9,Option.some.injEq] at b;subst b;exact⟨us,rfl,hr⟩
 | (i,x)::j,qs,cs,us,rs,f,b,hr=>by
   simp only[rK] at f;split at f
   ·rename_i off n y r hp o k;simp only[Option.some.injEq] at f;subst f;simp only[y9] at b;split at b
    ·rename_i d q;split at b;·rename_i hc;have g:=o8 he o;rw[q] at g;have h:=PE g;have hlen:(a.eval x).cells.size=n:=(by have:=h.1;simp at this;omega);have l:us.size=cs.length:=(by have:=hr.1;simpa using this);have m:=Jo hr h (off:=off) (by omega);obtain⟨vs,s,t⟩:=UI he place j r (kD cs off d.cells) (us.toList.take off++(a.eval x).cells.toList++us.toList.drop (off+(a.eval x).cells.toList.length)).toArray rs k b (by simpa using m);refine⟨vs,?_,t⟩;simp only[adG,Instr.fill,hp];rw[if_neg (by simp[hlen,l];omega)];rw[<-s];congr 1;apply aeW;have:=Bb (a.eval x).cells.toList 0 off us (by simp[hlen];omega);simp only[Nat.add_zero] at this;rw[<-this];rw[<-Array.foldl_toList];simp
     ·simp at b
    ·simp at b
   ·simp at f
theorem qJ{z:List D1}(h:zeroOf P t=some z)(w:World): ∃v,(zeroValue t).run P w= .ok v w/\y4 c z v.cells.toList/\z.length=v.cells.size/\(∀i,P.info? t=some i->v.cells.size=i.size)/\v.cells.toList.all Value.oneCell'=true:=by
 unfold zeroOf at h;split at h
 ·rename_i i hi;split at h
  ·rename_i v b;split at h;·rename_i hc;simp only[Option.some.injEq] at h;subst h;refine⟨v,by simp[zeroValue,typeInfo,hi,b],Ab hc.1,by simp,fun j a=> ?_,hc.1⟩;rw[hi] at a;cases a;exact hc.2
   ·simp at h
  ·simp at h
 ·simp at h
theorem Hg(c:Array Field)(h: ∀f∈c.toList,(P.info? f.type).isSome=true)(w:World):
 ∃pl,(c.mapM fun f=>do pure (f.offset,<-sizeOf f.type):Sem (Array (Nat×Nat))).run P w= .ok pl w/\ ∀i p,nS P c i=some p->pl[i]?=some p:=by
 have key: ∀(l:List Field),(∀f∈l,(P.info? f.type).isSome=true)->∃pl,(l.mapM fun f=>do pure (f.offset,<-sizeOf f.type):Sem (List (Nat×Nat))).run P w= .ok pl w/\
  ∀i p,nS P l.toArray i=some p->pl[i]?=some p:=by
  intro l
  induction l with
  |nil=>intro _;exact⟨[],by simp,by simp[nS]⟩
  |cons f l k=>
   intro hl;obtain⟨pl,d,e⟩:=k (fun g m=>hl g (by simp[m]));obtain⟨inf,a⟩:=agP.1 (hl f (by simp));refine⟨(f.offset,inf.size)::pl,?_,?_⟩;·have j:(sizeOf f.type).run P w= .ok inf.size w:=(by simp[sizeOf,typeInfo,a]);simp only[List.mapM_cons,Sem.run_bind,j,Result.andThen_ok,Sem.run_pure] at d ⊢;rw[d];rfl
   ·intro i p hp
    match i with
    |0=>
     simp only[nS,ae1,List.getElem?_cons_zero] at hp;split at hp;·rename_i n g b;have:=(kU b w).2.1;simp[sizeOf,typeInfo,a] at this;simp at hp;subst hp;simp[this]
     ·simp at hp
    |i+1=>have:=e i p (by simpa [nS] using hp);simpa using this
 obtain⟨l⟩:=c
 obtain⟨pl,d,e⟩:=key l (by simpa using h)
 refine⟨pl.toArray,?_,fun i p hp=>by simpa using e i p hp⟩
 simp only[List.mapM_toArray,Sem.run_map,d,Result.andThen_ok]
theorem Ux(he:ER c T e a){b:Array (Nat×Operand)}{z:List D1}{g:Array Field}{qs:List (Nat×Nat×aZ)}(F:o.op= .build t b)(hu:P.underlying t=some (.struct g))
 (G:zeroOf P t=some z) (j:g.all (fun f=>(P.info? f.type).isSome)=true) (I:rK (nS P g) b.toList=some qs) (E:bL H e (.build z qs)=some d):nC P c a o d:=by
 simp only[bL,adC] at E
 obtain⟨rs,m,rfl⟩:=E
 obtain⟨J,s,u,_⟩:=qJ (c:=c) G c.w
 obtain⟨pl,v,A⟩:=Hg (P:=P) g (fun f m=>by simpa using (af4.1 j) f (by simpa using m)) c.w
 have B: ∀(l:List (Nat×Operand)) (q:List (Nat×Nat×aZ)),rK (nS P g) l=some q->rK (pl[·]?) l=some q:=by
  intro l
  induction l with
  |nil=>intro q h;exact h
  |cons p l K=>
   intro q h;obtain⟨i,x⟩:=p;simp only[rK] at h ⊢;split at h;·rename_i off n y r C D L;simp only[Option.some.injEq] at h;subst h;simp[A i _ C,D,K r L]
   ·simp at h
 obtain⟨vs,C,D⟩:=UI he (pl[·]?) b.toList qs z J.cells rs (B _ _ I) m u
 refine⟨.agg vs,?_,⟨vs.toList,by simp,D⟩⟩
 have k:(b.map fun p=>(p.1,a.eval p.2)).toList=b.toList.map fun p=>(p.1,a.eval p.2):=by simp
 simp only[execOp,F,Instr.build,Sem.run_bind,s,Result.andThen_ok,run_underlying hu,v,k,C,Sem.run_pure]
theorem Rn(he:ER c T e a){b:Array (Nat×Operand)}{z:List D1}{len:Nat}{qs:List (Nat×Nat×aZ)}(m:o.op= .build t b)(hu:P.underlying t=some (.array len el))
 (q:zeroOf P t=some z) (hl:layout P el=some (n,g)) (r:rK (fun i=>some (i*n,n)) b.toList=some qs) (l:bL H e (.build z qs)=some d):nC P c a o d:=by
 simp only[bL,adC] at l
 obtain⟨rs,s,rfl⟩:=l
 obtain⟨u,h,j,_⟩:=qJ (c:=c) q c.w
 obtain⟨vs,v,x⟩:=UI he _ b.toList qs z u.cells rs r s j
 refine⟨.agg vs,?_,⟨vs.toList,by simp,x⟩⟩
 have f:(b.map fun p=>(p.1,a.eval p.2)).toList=b.toList.map fun p=>(p.1,a.eval p.2):=by simp
 have k:=(kU hl c.w).2.1
 simp only[execOp,m,Instr.build,Sem.run_bind,h,Result.andThen_ok,run_underlying hu,k,f,v,Sem.run_pure]
end
end Go.AM
namespace Go.AM
open Go.RowKit
section
variable{P:Program}{c:Cf}{H:aA}
def Cf.named(c:Cf)(m:Nat)(b base:Nat)(w:World):Cf:={ρ:=fun i=>if i=m then (b,base) else c.ρ i,N:=fun i=>i=m\/c.N i,I:=c.I,w:=w}
structure uK(c:Cf)(arr:Array Value)(base:Nat)(o:bN):Prop where
 le:o.rows.length<=o.ext
 len: ∀(i:Nat) (r:List D1),o.rows[i]?=some r->r.length=o.n
 size:base+o.ext*o.n<=arr.size
 rel: ∀(i j:Nat) (r:List D1) (d:D1),o.rows[i]?=some r->r[j]?=some d->∃u,arr[base+(i*o.n+j)]?=some u/\Rel c d u
 nm: ¬(o.n=0/\o.rows=[]/\0<o.ext)
theorem bY{H:aA}{m id:Nat}{o o':bN}(h:(H.set m o) id=some o'):(id=m/\o=o')\/(id≠m/\H id=some o'):=by
 unfold aA.set at h;split at h;·rename_i he;exact .inl ⟨he,by simpa using h⟩
 ·rename_i he;exact .inr ⟨he,h⟩
theorem O7(hs:St c H){m:Nat}{o:bN}{arr:Array Value}(T:TypeId)(hm: ¬c.N m)(hr:uK c arr 0 o):
 St (c.named m c.w.heap.size 0 (c.w.alloc (.cells arr T))) (H.set m o)/\Step c H (c.named m c.w.heap.size 0 (c.w.alloc (.cells arr T))) (H.set m o):=by
 have a: ∀id,c.N id->(c.named m c.w.heap.size 0 (c.w.alloc (.cells arr T))).ρ id=c.ρ id:=by intro id A;simp only[Cf.named];rw[if_neg (by rintro rfl;exact hm A)]
 have l: ∀id o',H id=some o'->0<o'.ext->(c.ρ id).1<c.w.heap.size:=by intro id o' n p;exact(hs.blk id o' n p).lt
 have f: ∀b,b<c.w.heap.size->(c.w.alloc (.cells arr T)).heap[b]?=c.w.heap[b]?:=fun b t=>Below.heap_alloc _ _ _ t
 have q:(c.w.alloc (.cells arr T)).heap[c.w.heap.size]?=some (.cells arr T (0,0)):=by show (c.w.heap.push _)[_]?=_;simp
 have g:Step c H (c.named m c.w.heap.size 0 (c.w.alloc (.cells arr T))) (H.set m o):={
  ρ:=a
  N:=fun _ h=>.inr h
  I:=fun _ h=>h
  I':=fun _ h=>.inl h
  size:=by simp[Cf.named]
  os:=rfl
  tape:=rfl
  output:=rfl
  frame:=fun b t _=>f b t
  own:=by
   rintro b ⟨id,o',n,p,s⟩;rcases bY n with⟨rfl,rfl⟩|⟨e,n⟩
   ·right;simp[Cf.named] at s;omega
   ·left;exact⟨id,o',n,p,by rw[a id (hs.named id o' n)] at s;exact s⟩}
 refine⟨?_,g⟩
 refine {named:= ?_,wf:= ?_,blk:= ?_,cells:= ?_,sep:= ?_,imm:= ?_,old:= ?_}
 ·intro id o' h;rcases bY h with⟨rfl,rfl⟩|⟨e,h⟩
  ·exact .inl rfl
  ·exact .inr (hs.named id o' h)
 ·intro id o' h;rcases bY h with⟨rfl,rfl⟩|⟨e,h⟩
  ·exact⟨hr.le,hr.len⟩
  ·exact hs.wf id o' h
 ·intro id o' h he;rcases bY h with⟨rfl,rfl⟩|⟨e,h⟩
  ·refine GS.mk (fun hm=>hr.nm ⟨hm.1,hm.2,he⟩) ⟨arr,T,?_,?_⟩;·simp only[Cf.named,if_true];exact q
   ·simpa [Cf.named] using hr.size
  ·rw[a id (hs.named id o' h)];have:=hs.blk id o' h he;rw[<-f _ (l id o' h he)] at this;exact this
 ·intro id o' i j r d h n p;rcases bY h with⟨rfl,rfl⟩|⟨e,h⟩
  ·obtain⟨u,s,B⟩:=hr.rel i j r d n p;refine⟨u,?_,B.step g hs⟩;simp only[Cf.named,if_true,World.cell?,q];simpa using s
  ·obtain⟨u,s,B⟩:=hs.cells id o' i j r d h n p;refine⟨u,?_,B.step g hs⟩;rw[a id (hs.named id o' h)];rw[<-s];exact World.cell?_of_block (w:=c.w) (f _ (World.block_lt_of_cell? c.w _ s))
 ·intro id k v x n p C D e;rcases bY n with⟨rfl,rfl⟩|⟨E,y⟩<;>rcases bY p with⟨rfl,rfl⟩|⟨F,z⟩
  ·exact absurd rfl e
  ·rw[a k (hs.named k x z)];simp only[Cf.named,if_true];have:=l k x z D;omega
  ·rw[a id (hs.named id v y)];simp only[Cf.named,if_true];have:=l id v y C;omega
  ·rw[a id (hs.named id v y),a k (hs.named k x z)];exact hs.sep id k v x y z C D e
 ·intro id o' h he;rcases bY h with⟨rfl,rfl⟩|⟨e,h⟩
  ·simp only[Cf.named,if_true];intro G;have:=hs.old _ G;omega
  ·rw[a id (hs.named id o' h)];exact hs.imm id o' h he
 ·intro b t;have:=hs.old b t;simp[Cf.named];omega
theorem Rm{H0:aA}(hs:St c H)(t: ∀id o,H0 id=some o->H id=some o){b base:Nat}{arr arr':Array Value}{T:TypeId}{m:Nat}{o:bN}
 (B:c.w.heap[b]?=some (.cells arr T (0,0))) (y:B0 c H b) (G: ¬B0 c H0 b) (hm:c.N m->c.ρ m=(b,base)) (Q:H0 m=none) (hr:uK c arr' base o):
 St (c.named m b base (c.w.setRow b arr')) (H0.set m o)/\Step c H (c.named m b base (c.w.setRow b arr')) (H0.set m o):=by
 have R:b<c.w.heap.size:=(afN.1 B).1
 have J: ¬c.I b:=fun h=>hs.sq h y
 have a:=hs.forget t
 have e: ∀id,c.N id->(c.named m b base (c.w.setRow b arr')).ρ id=c.ρ id:=by
  intro id K;simp only[Cf.named];split;·rename_i he;subst he;exact(hm K).symm
  ·rfl
 have g: ∀k,k≠b->(c.w.setRow b arr').heap[k]?=c.w.heap[k]?:=fun k M=>setRow_other _ _ _ _ M
 have v:(c.w.setRow b arr').heap[b]?=some (.cells arr' T (0,0)):=setRow_heap _ _ _ _ _ _ B
 have n: ∀id o',H0 id=some o'->0<o'.ext->(c.ρ id).1≠b:=fun id o' q x s=>G ⟨id,o',q,x,s⟩
 have l:Step c H (c.named m b base (c.w.setRow b arr')) (H0.set m o):={
  ρ:=e
  N:=fun _ h=>.inr h
  I:=fun _ h=>h
  I':=fun _ h=>.inl h
  size:=by simp[Cf.named]
  os:=rfl
  tape:=rfl
  output:=rfl
  frame:=fun k M z=>g k (by rintro rfl;exact z y)
  own:=by
   rintro k ⟨id,o',q,x,s⟩;rcases bY q with⟨rfl,rfl⟩|⟨f,q⟩
   ·left;simp[Cf.named] at s;subst s;exact y
   ·left;exact⟨id,o',t id o' q,x,by rw[e id (a.named id o' q)] at s;exact s⟩}
 refine⟨?_,l⟩
 refine {named:= ?_,wf:= ?_,blk:= ?_,cells:= ?_,sep:= ?_,imm:= ?_,old:= ?_}
 ·intro id o' h;rcases bY h with⟨rfl,rfl⟩|⟨f,h⟩
  ·exact .inl rfl
  ·exact .inr (a.named id o' h)
 ·intro id o' h;rcases bY h with⟨rfl,rfl⟩|⟨f,h⟩
  ·exact⟨hr.le,hr.len⟩
  ·exact a.wf id o' h
 ·intro id o' h he;rcases bY h with⟨rfl,rfl⟩|⟨f,h⟩
  ·refine GS.mk (fun hm=>hr.nm ⟨hm.1,hm.2,he⟩) ⟨arr',T,?_,?_⟩;·simp only[Cf.named,if_true];exact v
   ·simpa [Cf.named] using hr.size
  ·rw[e id (a.named id o' h)];have:=a.blk id o' h he;rw[<-g _ (n id o' h he)] at this;exact this
 ·intro id o' i j r d h q x;rcases bY h with⟨rfl,rfl⟩|⟨f,h⟩
  ·obtain⟨u,s,L⟩:=hr.rel i j r d q x;refine⟨u,?_,L.step l hs⟩;simp only[Cf.named,if_true,World.cell?,v];simpa using s
  ·obtain⟨u,s,L⟩:=a.cells id o' i j r d h q x;refine⟨u,?_,L.step l hs⟩;have A:0<o'.ext:=by have:=(a.wf id o' h).1;have hi:i<o'.rows.length:=(adB.1 q).1;omega
   rw[e id (a.named id o' h),<-s];exact World.cell?_of_block (w:=c.w) (g _ (n id o' h A))
 ·intro id p C D q x O P f;rcases bY q with⟨rfl,rfl⟩|⟨S,E⟩<;>rcases bY x with⟨rfl,rfl⟩|⟨U,F⟩
  ·exact absurd rfl f
  ·rw[e p (a.named p D F)];simp only[Cf.named,if_true];exact fun h=>n p D F P h.symm
  ·rw[e id (a.named id C E)];simp only[Cf.named,if_true];exact n id C E O
  ·rw[e id (a.named id C E),e p (a.named p D F)];exact a.sep id p C D E F O P f
 ·intro id o' h he;rcases bY h with⟨rfl,rfl⟩|⟨f,h⟩
  ·simp only[Cf.named,if_true];exact J
  ·rw[e id (a.named id o' h)];exact a.imm id o' h he
 ·intro b B;have:=hs.old b B;simp[Cf.named];omega
theorem uK.drew{arr:Array Value}{base:Nat}{o:bN}(h:uK c arr base o)(k:Nat):uK (c.drew k) arr base o where
 le:=h.le
 len:=h.len
 size:=h.size
 nm:=h.nm
 rel i j r d a b:=by
  obtain⟨u,l,e⟩:=h.rel i j r d a b;refine⟨u,l,?_⟩;have g: ∀d x,cX c d x->cX (c.drew k) d x:=by intro d x h;cases d<;>simp only[cX,Cf.drew] at h ⊢ <;>first|exact h.EY (fun _ h=>h) (fun _ _=>rfl)|exact h
  cases d with
  |clo f caps=>obtain⟨vs,m,hl,n⟩:=e;exact⟨vs,m,hl,fun i d u a b=>g _ _ (n i d u a b)⟩
  |_=>simp only[Rel] at e ⊢;exact g _ _ e
end
section
variable{P:Program}{c:Cf}{H:aA}{T:Nat}{e:Env}{a:Act}
def chunk:Nat->Nat->List D1->List (List D1)
 |0,_,_=>[]
 |k+1,n,l=>l.take n::chunk k n (l.drop n)
def pD(id:Nat)(e:Env):AOp->Option (D×bN)
 | .alloc z=>some (.one (.c (.ptr z.length id 0 0)),⟨z.length,1,[z]⟩)
 | .box _ x=>match x.ev e with
   | .one d=>some (.one (.c (.ptr d.cells.length id 0 0)),⟨d.cells.length,1,[d.cells]⟩)
   |_=>none
 | .aV n len z parts=>(y9 e ((List.replicate len z).flatten) parts).map fun rs=>(.one (.c (.osl n id 0 len len)),⟨n,len,chunk len n rs⟩)
 | .rO n z l k=>match l.ev e,k.ev e with
   | .one (.c (.v (.int _ x))),.one (.c (.v (.int _ y)))=>if 0<=x/\x<=y/\y<=2147483647 then some (.one (.c (.osl n id 0 x.toNat y.toNat)),⟨n,y.toNat,List.replicate y.toNat z⟩) else none
   |_,_=>none
 |_=>none
theorem VS: ∀(k n:Nat) (l:List D1) (i:Nat) (r:List D1),(chunk k n l)[i]?=some r->i<k/\r=(l.drop (i*n)).take n
 |0,n,l,i,r,h=>by simp[chunk] at h
 |k+1,n,l,0,r,h=>by simp[chunk] at h;simp[h]
 |k+1,n,l,i+1,r,h=>by simp only[chunk,List.getElem?_cons_succ] at h;obtain⟨b,a⟩:=VS k n (l.drop n) i r h;refine⟨by omega,?_⟩;rw[a,aeP,adT];congr 2;omega
theorem KW: ∀(k n:Nat) (l:List D1),(chunk k n l).length=k
 |0,_,_=>rfl
 |k+1,n,l=>by simp[chunk,KW k n]
variable{arr:Array Value}
theorem ya{rs:List D1}{len n:Nat}(h:y4 c rs arr.toList)(hl:rs.length=len*n):uK c arr 0 ⟨n,len,chunk len n rs⟩:=by
 refine⟨by simp[KW],fun i r hr=> ?_,?_,fun i j r d f a=> ?_,fun⟨_,a,b⟩=>by have:=congrArg List.length a;simp only[KW,List.length_nil] at this b;omega⟩;·obtain⟨hi,rfl⟩:=VS _ _ _ _ _ hr;have:(i+1)*n<=len*n:=aeD _ (by omega);rw[adT] at this;simp;omega
 ·have:=h.1;simp at this;simp;omega
 ·obtain⟨hi,rfl⟩:=VS _ _ _ _ _ f;rw[ad2] at a;split at a;·rw[adO] at a;have e:i*n+j<rs.length:=(adB.1 a).1;have b:arr.toList[i*n+j]?=some (arr.toList[i*n+j]'(by rw[h.1];exact e)):=ac8 _;refine⟨_,?_,h.2 _ d _ a b⟩;simp
  ·simp at a
theorem Ga{cs:List D1}(h:y4 c cs arr.toList):uK c arr 0 ⟨cs.length,1,[cs]⟩:=by
 refine⟨by simp,fun i r hr=> ?_,?_,fun i j r d b a=> ?_,fun⟨_,a,_⟩=>by cases a⟩
 ·match i with
  |0=>simp at hr;simp[hr]
  |i+1=>simp at hr
 ·have:=h.1;simp at this;simp;omega
 ·match i with
  |0=>simp at b;subst b;have e:j<cs.length:=(adB.1 a).1;have f:arr.toList[j]?=some (arr.toList[j]'(by rw[h.1];exact e)):=ac8 _;refine⟨_,?_,h.2 _ d _ a f⟩;simp
  |i+1=>simp at b
def WY(P:Program)(c:Cf)(H:aA)(a:Act)(o:Oper)(id:Nat)(d:D)(b:bN):Prop:=∃v c',(execOp a.eval o).run P c.w= .ok (.value v) c'.w/\St c' (H.set id b)/\Step c H c' (H.set id b)/\iA c' d v/\(∀i,c'.N i↔i=id\/c.N i)
variable{o:Oper}{t:TypeId}
theorem vg(hs:St c H){id:Nat}(d: ¬c.N id){cs:List D1}(hr:y4 c cs arr.toList)
 (b:(execOp a.eval o).run P c.w= .ok (.value (.pointer (some ⟨c.w.heap.size,0,none⟩))) (c.w.alloc (.cells arr t))):
 WY P c H a o id (.one (.c (.ptr cs.length id 0 0))) ⟨cs.length,1,[cs]⟩:=by
 obtain⟨e,f⟩:=O7 hs t d (Ga hr)
 refine⟨_,c.named id c.w.heap.size 0 (c.w.alloc (.cells arr t)),b,e,f,?_,fun i=>aeQ⟩
 simp only[iA,mH,Rel,cX,Cf.named,if_true]
 exact⟨.inl trivial,by simp⟩
theorem tv(hs:St c H){id n len cap ext:Nat}(f: ¬c.N id){rows:List (List D1)}(hr:uK c arr 0 ⟨n,ext,rows⟩)(d:len<=cap)
 (b:(execOp a.eval o).run P c.w= .ok (.value (.slice (some ⟨c.w.heap.size,0,none⟩) len cap)) (c.w.alloc (.cells arr t))):
 WY P c H a o id (.one (.c (.osl n id 0 len cap))) ⟨n,ext,rows⟩:=by
 obtain⟨g,h⟩:=O7 hs t f hr
 refine⟨_,c.named id c.w.heap.size 0 (c.w.alloc (.cells arr t)),b,g,h,?_,fun i=>aeQ⟩
 simp only[iA,mH,Rel,cX,Cf.named,if_true]
 refine⟨d,?_⟩
 rcases aeO cap with e|e
 ·subst e;have:len=0:=by omega
  subst this;exact .inl ⟨rfl,_,rfl⟩
 ·exact .inr ⟨e,.inl trivial,by simp⟩
variable{z:List D1}
theorem Wj(hs:St c H){id:Nat}{d:D}{b:bN}(g: ¬c.N id)(h:o.op= .alloc t)(i:zeroOf P t=some z)(f:pD id e (.alloc z)=some (d,b)):WY P c H a o id d b:=by simp only[pD,Option.some.injEq,Prod.mk.injEq] at f;obtain⟨rfl,rfl⟩:=f;obtain⟨v,j,k,_⟩:=qJ (c:=c) i c.w;apply vg hs (t:=t) g k;simp[execOp,h,Instr.alloc,j,newVar,newRow]
theorem abE(hs:St c H)(he:ER c T e a){x:Operand}{x':aZ}{g:Bool}{id:Nat}{d:D}{f:bN}(h: ¬c.N id)(i:o.op= .box t x)(j:trO x=some x')
 (b:pD id e (.box g x')=some (d,f)):WY P c H a o id d f:=by
 simp only[pD] at b
 split at b
 ·rename_i l k;simp only[Option.some.injEq,Prod.mk.injEq] at b;obtain⟨rfl,rfl⟩:=b;have hr:=o8 he j;rw[k] at hr;apply vg hs (t:=t) h (PE hr);simp[execOp,i,Instr.box,newVar,newRow]
 ·simp at b
theorem oW{el:TypeId}{n:Nat}(h:fU P t=some (el,n))(w:World):P.underlying t=some (.slice el)/\(sizeOf el).run P w= .ok n w/\ ∃g,layout P el=some (n,g):=by
 unfold fU at h;split at h
 ·rename_i e' hu;split at h;·rename_i n' g hl;simp only[Option.some.injEq,Prod.mk.injEq] at h;obtain⟨rfl,rfl⟩:=h;exact⟨hu,(kU hl w).2.1,g,hl⟩
  ·simp at h
 ·simp at h
theorem Jc{a:Array Value}(l:y4 c z a.toList)(f:0<a.size)(len:Nat):
 y4 c ((List.replicate len z).flatten) ((Array.range (len*a.size)).map (a[· %a.size]!)).toList:=by
 have b:z.length=a.size:=by have:=l.1;simp at this;omega
 refine⟨by simp[b],fun i d u h g=> ?_⟩
 simp only[Array.toList_map,Array.toList_range,adJ,List.getElem?_range] at g
 have hi:i<len*a.size:=by have:=(adB.1 h).1;simpa [b] using this
 simp[hi] at g
 have e:i%a.size<a.size:=Nat.mod_lt _ f
 rw[getElem!_pos a _ e] at g
 have key: ∀(k i:Nat),i<k*z.length->((List.replicate k z).flatten)[i]?=z[i%z.length]?:=by
  intro k
  induction k with
  |zero=>intro i hi;simp at hi
  |succ k m=>
   intro i hi;simp only[List.replicate_succ,List.flatten_cons];rw[adU];split;·rename_i j;rw[afO j]
   ·rename_i n;rw[m (i-z.length) (by rw[adT] at hi;omega)];congr 1;exact(Nat.mod_eq_sub_mod (by omega)).symm
 rw[key len i (by rw[b];exact hi),b] at h
 apply l.2 (i%a.size) d u h
 rw[<-g]
 simp[e]
theorem Sx(hs:St c H)(he:ER c T e a){el:TypeId}{len n:Nat}{g:Array (Nat×Operand)}{qs:List (Nat×Nat×aZ)}{id:Nat}{d:D}{E:bN}(J: ¬c.N id)
 (F:o.op= .buildSlice t len g) (s:fU P t=some (el,n)) (K:zeroOf P el=some z) (u:z.length=n) (L:len*n<=4096) (S:0<n) (M:rK (fun i=>some (i*n,n)) g.toList=some qs)
 (j:pD id e (.aV n len z qs)=some (d,E)):WY P c H a o id d E:=by
 simp only[pD,adC] at j
 obtain⟨rs,G,j⟩:=j
 simp only[Prod.mk.injEq] at j
 obtain⟨rfl,rfl⟩:=j
 obtain⟨hu,k,_⟩:=oW s c.w
 obtain⟨I,v,y,O,_⟩:=qJ (c:=c) K c.w
 have l:I.cells.size=n:=by omega
 have b:=Jc y (by omega) len
 rw[l] at b
 obtain⟨vs,A,Q⟩:=UI he (fun i=>some (i*n,n)) g.toList qs _ _ rs M G b
 have B:rs.length=len*n:=by
  have: ∀(q:List (Nat×Nat×aZ)) (cs:List D1) (rs:List D1),y9 e cs q=some rs->rs.length=cs.length:=by
   intro q
   induction q with
   |nil=>intro cs rs h;simp only[y9,Option.some.injEq] at h;rw[h]
   |cons p q R=>
    obtain⟨off,m,x⟩:=p;intro cs rs h;simp only[y9] at h;split at h
    ·split at h;·rename_i hc;rw[R _ _ h];simp[kD];omega
     ·simp at h
    ·simp at h
  rw[this _ _ _ G];simp[u]
 apply tv hs (t:=el) J (ya Q B) (ac1 _)
 have r: ¬(16777216<len*n):=by omega
 have f:(g.map fun p=>(p.1,a.eval p.2)).toList=g.toList.map fun p=>(p.1,a.eval p.2):=by simp
 by_cases C:len*n=0
 ·have hzero:(Array.range (len*n)).map (fun i=>I.cells[i%n]!)=(Array.range (len*n)).map (fun i=>(#[]:Array Value)[i%(#[]:Array Value).size]!):=by rw[C];simp
  rw[hzero] at A;simp only[execOp,F,Instr.buildSlice,Sem.run_bind,run_underlying hu,Result.andThen_ok,k,f];simp only[Nat.reducePow,gt_iff_lt,if_neg r,if_pos C,Sem.run_bind,Sem.run_pure,Result.andThen_ok,A,newRow,run_newObj_alloc]
 ·simp only[execOp,F,Instr.buildSlice,Sem.run_bind,run_underlying hu,Result.andThen_ok,k,f];simp only[Nat.reducePow,gt_iff_lt,if_neg r,if_neg C,Sem.run_bind,v,Sem.run_pure,Result.andThen_ok,l,A,newRow,run_newObj_alloc]
theorem Kl{a:Array Value}(k:y4 c z a.toList)(l:0<a.size)(len:Nat):uK c (madeCells a (len*a.size)) 0 ⟨a.size,len,List.replicate len z⟩:=by
 have f:z.length=a.size:=by have:=k.1;simp at this;omega
 refine⟨by simp,fun i r hr=> ?_,by simp[size_madeCells],fun i j r d g m=> ?_,fun⟨g,_,_⟩=>by dsimp only at g;omega⟩;·have:=adB.1 hr;obtain⟨n,b⟩:=this;simp at b;rw[<-b];exact f
 ·obtain⟨n,b⟩:=adB.1 g;simp at n b;subst b;have o:j<z.length:=(adB.1 m).1;have h:i*a.size+j<len*a.size:=by have:(i+1)*a.size<=len*a.size:=aeD _ (by omega);rw[adT] at this;omega
  have e:(i*a.size+j)%a.size=j:=by rw[afP,agQ];exact afO (by omega)
  refine⟨a[j]'(by omega),?_,k.2 j d _ m (by simp)⟩;simp only[madeCells,aeR,Array.getElem?_map];rw[Array.getElem?_range,if_pos h];simp only[Option.map_some,e];rw[getElem!_pos a j (by omega)]
theorem Kc(hs:St c H)(he:ER c T e a){el:TypeId}{n:Nat}{l k:Operand}{C k':aZ}{i:TypeInfo}{id:Nat}{d:D}{E:bN}(F: ¬c.N id)
 (G:o.op= .makeSlice t l k) (m:fU P t=some (el,n)) (I:zeroOf P el=some z) (J:z.length=n) (W:0<n) (hi:P.info? el=some i) (X:i.bytes<=65536) (hl:trO l=some C) (K:trO k=some k')
 (g:pD id e (.rO n z C k')=some (d,E)):WY P c H a o id d E:=by
 simp only[pD] at g
 split at g
 ·rename_i L x M y p q;split at g
  ·rename_i hc;obtain⟨O,r,Y⟩:=hc;simp only[Option.some.injEq,Prod.mk.injEq] at g;obtain⟨rfl,rfl⟩:=g;have Q:=F1 he hl p;have R:=F1 he K q;obtain⟨hu,S,_⟩:=oW m c.w;obtain⟨s,b,u,U,v,_⟩:=qJ (c:=c) I c.w;have A:s.cells.size=n:=(by omega);have h:i.size=n:=by have:=v i hi;omega
   have B:i.zero=some s:=by
    simp[zeroValue,typeInfo,hi] at b
    cases j:i.zero with
    |none=>simp[j] at b
    |some Z=>simp[j] at b;rw[b]
   have hr:=Kl u (by omega) y.toNat;rw[A] at hr;have hmul:(i.bytes:Int)*y<=281474976710656:=by have V:(i.bytes:Int)<=65536:=(by omega);have h2:(i.bytes:Int)*y<=65536*y:=Int.mul_le_mul_of_nonneg_right V (by omega);omega
   have f:=run_make (P:=P) c.w t el i s hu hi B L M x y O r hmul (by omega);apply tv hs (t:=el) F hr (by omega);rw[h] at f;simp only[execOp,G,Q,R,Sem.run_bind,f,Result.andThen_ok,Sem.run_pure]
  ·simp at g
 ·simp at g
end
end Go.AM
