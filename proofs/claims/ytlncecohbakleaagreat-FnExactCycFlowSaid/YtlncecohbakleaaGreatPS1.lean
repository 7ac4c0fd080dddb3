/- Texts laid together by a program: rules, contracts and the walk that leads to the law. -/
import Derived.Test.YtlncecohbakleaaGreatPS0
set_option linter.unusedVariables false
set_option linter.unusedSimpArgs false
set_option linter.unusedSectionVars false
set_option maxRecDepth 100000
set_option maxHeartbeats 8000000
namespace Go.AM
open Go.RowKit
section
variable{P:Program}{c:Cf}{H:aA}{T:Nat}{e:Env}{a:Act}
def PL(H:aA):D1->List D1->Option (Nat×bA)
 | .ptr n id row a,b=>
   match H id with
   |some o=>if o.n=n then
     match o.rows[row]? with
     |some r=>if a+b.length<=r.length then some (id,⟨o.n,o.ext,o.rows.set row (iA r a b)⟩) else none
     |none=>none
    else none
   |none=>none
 |_,_=>none
def LB(H:aA)(e:Env):AOp->Option (Nat×bA)
 | .store n _ a x=>match a.ev e,x.ev e with
   | .one (.c d),.one b=>if b.cells.length=n then PL H d b.cells else none
   |_,_=>none
 |_=>none
theorem B5{α:Type}(l vs:List α)(p q:Nat)(h:p+vs.length<=l.length):
 (l.take p++vs++l.drop (p+vs.length))[q]?=if p<=q/\q<p+vs.length then vs[q-p]? else l[q]?:=by
 rw[C0,o5]
 have c:(l.take p).length=p:=by simp;omega
 rw[c]
 split
 ·rename_i b;rw[if_neg (by omega),s4,if_pos b]
 ·rename_i b;rw[o5];split;·rename_i a;rw[if_pos (by omega)]
  ·rename_i a;rw[if_neg (by omega),s5];congr 1;omega
variable{n:Nat}
theorem M7{i j k:Nat}(a:j<n)(hi:i<k):i*n+j<k*n:=by have:(i+1)*n<=k*n:=t4 _ (by omega);rw[o4] at this;omega
theorem an7{i b j c:Nat}(e:j<n)(d:c<n)(h:i*n+j=b*n+c):i=b/\j=c:=by
 rcases Nat.lt_trichotomy i b with a|rfl|a;·have:=M7 e a (k:=b);omega
 ·exact⟨rfl,by omega⟩
 ·have:=M7 d a (k:=i);omega
theorem agF{b:DV}{x:Value}(h:jZ c b x): ∀v∈x.cells.toList,v.oneCell'=true:=by
 have hr:=G1 h;intro v d;obtain⟨i,hi⟩:=List.getElem?_of_mem d;have a:i<b.cells.length:=by rw[<-hr.1];exact(m3.1 hi).1
 exact(hr.2 i _ v (n1 a) hi).oQ
theorem St.abR(hs:St c H){id:Nat}{o:bA}(b:H id=some o)(he:0<o.ext)(a: ¬(o.n=0/\o.rows=[])):
 ∃arr T,c.w.heap[(c.ρ id).1]?=some (.cells arr T (0,0))/\oZ c arr (c.ρ id).2 o:=by
 obtain⟨arr,T,e,f⟩:=(hs.blk id o b he).cells a
 obtain⟨g,k9⟩:=hs.wf id o b
 refine⟨arr,T,e,g,k9,f,fun i j r d hi h=> ?_,fun hm=>a ⟨hm.1,hm.2.1⟩⟩
 obtain⟨u,l1,bOW⟩:=hs.cells id o i j r d b hi h
 refine⟨u,?_,bOW⟩
 simpa [World.cell?,e] using l1
theorem z1(hs:St c H){id:Nat}{o:bA}(e:H id=some o)(he:0<o.ext): ¬uG c (H.del id) (c.ρ id).1:=by
 rintro⟨b,o',a,f,g⟩;unfold aA.del at a;split at a;·simp at a
 ·rename_i d;exact hs.sep b id o' o a e f he d g
theorem GX{H:aA}{id:Nat}: ∀i o,(H.del id) i=some o->H i=some o:=by
 intro i o h;unfold aA.del at h;split at h;·simp at h
 ·exact h
theorem afF{H:aA}{id:Nat}{o:bA}:(H.del id).set id o=H.set id o:=by funext i;unfold aA.set aA.del;split<;>simp_all
def alN(P:Program)(c:Cf)(H:aA)(a:Act)(o:Oper)(id:Nat)(b:bA):Prop:=∃c',(execOp a.eval o).run P c.w= .ok .skip c'.w/\St c' (H.set id b)/\Step c H c' (H.set id b)/\(∀i,c'.N i↔c.N i)
theorem apR(hs:St c H)(he:ER c T e a){o:Oper}{t:TypeId}{x y:Operand}{x' W:aT}{id:Nat}{g:Bool}{X:bA}(ho:o.op= .store t x y)(hl:layout P t=some (n,g))(hx:trO x=some x')(hy:trO y=some W)
 (p:LB H e (.store n g x' W)=some (id,X)):alN P c H a o id X:=by
 simp only[LB] at p
 split at p
 ·rename_i d L M N;split at p
  ·rename_i hlen;have E:=qD he hx M;have B:=lP he hy;rw[N] at B;unfold PL at p;split at p
   ·rename_i n' b row f;split at p
    ·rename_i k v;split at p
     ·rename_i hn;subst hn;split at p
      ·rename_i r hr;split at p
       ·rename_i F;simp only[Option.some.injEq,Prod.mk.injEq] at p;obtain⟨rfl,rfl⟩:=p;simp only[Rel,bY] at E;obtain⟨G,O⟩:=E;have C:=G1 B;have Q:(a.eval y).cells.size=n:=(by have:=C.1;simp at this;omega);have Y:row<k.rows.length:=(m3.1 hr).1;have s:0<k.ext:=(by have:=(hs.wf _ _ v).1;omega);obtain⟨arr,TT,Z,l⟩:=hs.abR v s (fun hm=>by have:=congrArg List.length hm.2;simp only[List.length_nil] at this;omega);have ab:=l.len row r hr;have aa:row*k.n+f+L.cells.length<=k.ext*k.n:=(by have A:(row+1)*k.n<=k.ext*k.n:=t4 _ (by have:=l.le;omega);rw[o4] at A;omega);have R:(a.eval y).cells.toList.length=L.cells.length:=C.1;have I:=run_storeCells_at P (c.ρ b).1 ((c.ρ b).2+(row*k.n+f)) TT (a.eval y).cells.toList 0 arr c.w Z (by have:=l.size;omega) (agF B);simp only[Nat.add_zero] at I;have J:(execOp a.eval o).run P c.w= .ok .skip (c.w.setRow (c.ρ b).1 (arr.toList.take ((c.ρ b).2+(row*k.n+f))++(a.eval y).cells.toList++arr.toList.drop ((c.ρ b).2+(row*k.n+f)+(a.eval y).cells.toList.length)).toArray):=by have z:=(iK hl c.w).2.1;simp only[execOp,ho,O,Instr.storeAt,Instr.sureAddr,Sem.run_bind,Sem.run_pure,Result.andThen_ok,storeVar,z,Q,ne_eq,not_true_eq_false,if_false,I]
        have D:=amJ hs (H0:=H.del b) GX (base:=(c.ρ b).2) (m:=b) (o:=⟨k.n,k.ext,k.rows.set row (iA r f L.cells)⟩)
         (arr':=(arr.toList.take ((c.ρ b).2+(row*k.n+f))++(a.eval y).cells.toList++arr.toList.drop ((c.ρ b).2+(row*k.n+f)+(a.eval y).cells.toList.length)).toArray)
         Z ⟨b,k,v,s,rfl⟩ (z1 hs v s) (fun _=>rfl) (by simp[aA.del]) ?_
        ·rw[afF] at D;exact⟨_,J,D.1,D.2,fun i=>⟨fun h=>h.elim (fun h=>h▸G) id,.inr⟩⟩
        ·refine⟨by simpa using l.le,fun i r' u=> ?_,?_,fun i j r' S A z=> ?_,fun hm=>by have:=congrArg List.length hm.2.1;simp only[Y5,List.length_nil] at this;omega⟩
         ·rw[D0] at u;split at u;·simp only[Option.some.injEq] at u;rw[<-u];simp only[iA,t2,CG,CI];omega
          ·exact l.len i r' u
         ·have:=l.size;simp only[F0,t2,CG,CI,Array.length_toList];omega
         ·simp only[CH];rw[B5 _ _ _ _ (by have:=l.size;simp only[Array.length_toList] at*;omega),R];rw[D0] at A;split at A
          ·rename_i q;subst q;simp only[Option.some.injEq] at A;subst A;simp only[iA] at z;rw[B5 _ _ _ _ F] at z;split at z;·rename_i hj;rw[if_pos (by omega)];have U:(c.ρ b).2+(row*k.n+j)-((c.ρ b).2+(row*k.n+f))=j-f:=(by omega);rw[U];have K:j-f<(a.eval y).cells.toList.length:=(by omega);exact⟨_,n1 K,C.2 _ S _ z (n1 K)⟩
           ·rename_i hj;rw[if_neg (by omega)];have:=l.rel row j r S hr z;simpa using this
          ·rename_i q;have V:j<k.n:=by rw[<-l.len i r' A];exact(m3.1 z).1
           rw[if_neg (by
            intro hc
            have hk:(c.ρ b).2+(i*k.n+j)=(c.ρ b).2+(row*k.n+(f+((c.ρ b).2+(i*k.n+j)-((c.ρ b).2+(row*k.n+f))))):=by omega
            have:=an7 V (show f+((c.ρ b).2+(i*k.n+j)-((c.ρ b).2+(row*k.n+f)))<k.n by omega) (Nat.add_left_cancel hk)
            exact q this.1.symm)]
           have:=l.rel i j r' S A z;simpa using this
       ·simp at p
      ·simp at p
     ·simp at p
    ·simp at p
   ·simp at p
  ·simp at p
 ·simp at p
def J7(H:aA)(n:Nat):D->Option (List (List D1))
 | .one (.c (.isl rows))=>if ∀r∈rows,r.length=n then some rows else none
 | .one (.c (.osl m id off len cap))=>if m=0 then (if cap=0/\len=0 then some [] else none) else
   match H id with
   |some o=>if o.n=n/\m=n/\off+len<=o.rows.length then some ((o.rows.drop off).take len) else none
   |none=>none
 |_=>none
def VR(H:aA):Option Nat->aA
 |none=>H
 |some i=>H.del i
def amE:D->Nat
 | .one (.c (.osl _ _ _ _ cap))=>cap
 |_=>0
def IX(H:aA)(e:Env):AOp->Option (Option Nat×Nat×Nat×List (List D1))
 | .append n s x=>match s.ev e,J7 H n (x.ev e) with
   | .one (.c (.osl m id off len cap)),some new=>if m=0 then (if cap=0/\len=0 then some (none,n,new.length,new) else none) else
     match H id with
     |some o=>if o.n=n/\m=n/\off+len<=o.rows.length/\off+cap<=o.ext then some (some id,n,len+new.length,(o.rows.drop off).take len++new) else none
     |none=>none
   |_,_=>none
 |_=>none
structure y8(c:Cf)(n:Nat)(rows:List (List D1))(vs:List Value):Prop where
 len:vs.length=rows.length*n
 row: ∀(i:Nat) (r:List D1),rows[i]?=some r->r.length=n
 rel: ∀(i j:Nat) (r:List D1) (d:D1),rows[i]?=some r->r[j]?=some d->∃u,vs[i*n+j]?=some u/\Rel c d u
theorem y8.append{e g:List (List D1)}{v1 v2:List Value}(a:y8 c n e v1)(f:y8 c n g v2):y8 c n (e++g) (v1++v2):=by
 refine⟨by rw[t2,t2,a.len,f.len,o4],fun i r hr=> ?_,fun i j r d hr h=> ?_⟩
 ·rw[o5] at hr;split at hr;·exact a.row i r hr
  ·exact f.row _ r hr
 ·rw[o5] at hr;split at hr;·obtain⟨u,b,k9⟩:=a.rel i j r d hr h;refine⟨u,?_,k9⟩;rw[o5,if_pos (m3.1 b).1];exact b
  ·rename_i k;obtain⟨u,b,k9⟩:=f.rel _ j r d hr h;refine⟨u,?_,k9⟩;have hmul:e.length*n<=i*n:=t4 _ (by omega);rw[o5,if_neg (by rw[a.len];omega),a.len,<-b];congr 1;rw[Nat.sub_mul];omega
theorem y8.oQ{n:Nat}{rows:List (List D1)}{vs:List Value}(h:y8 c n rows vs)(e:0<n): ∀v∈vs,v.oneCell'=true:=by
 intro v f;obtain⟨p,hp⟩:=List.getElem?_of_mem f;have a:p<rows.length*n:=by rw[<-h.len];exact(m3.1 hp).1
 have hi:p/n<rows.length:=Nat.div_lt_of_lt_mul (by rw[w1];exact a);have hr:rows[p/n]?=some (rows[p/n]'hi):=n1 hi;have g:p%n<(rows[p/n]'hi).length:=by rw[h.row _ _ hr];exact Nat.mod_lt _ e
 obtain⟨u,d,i⟩:=h.rel _ (p%n) _ _ hr (n1 g);have b:p/n*n+p%n=p:=by rw[w1];exact Nat.div_add_mod p n
 rw[b,hp] at d;cases d;exact i.oQ
variable{rows:List (List D1)}
theorem tU{b o:Nat}(s:0<n)(a: ∀(i:Nat) (r:List D1),rows[i]?=some r->r.length=n)
 (hc: ∀(i j:Nat) (r:List D1) (d:D1),rows[i]?=some r->r[j]?=some d->∃u,c.w.cell? ⟨b,o+(i*n+j),none⟩=some u/\Rel c d u):
 ∃vs,y8 c n rows vs/\ ∀j v,vs[j]?=some v->c.w.cell? ⟨b,o+j,none⟩=some v:=by
 have g: ∀p,∃u:Value,p<rows.length*n->c.w.cell? ⟨b,o+p,none⟩=some u/\ ∀r d,rows[p/n]?=some r->r[p%n]?=some d->Rel c d u:=by
  intro p;by_cases hp:p<rows.length*n;·have hi:p/n<rows.length:=Nat.div_lt_of_lt_mul (by rw[w1];exact hp);have hr:rows[p/n]?=some (rows[p/n]'hi):=n1 hi;have e:p%n<(rows[p/n]'hi).length:=(by rw[a _ _ hr];exact Nat.mod_lt _ s);obtain⟨u,l,m⟩:=hc _ (p%n) _ _ hr (n1 e);have q:p/n*n+p%n=p:=(by rw[w1];exact Nat.div_add_mod p n);rw[q] at l;refine⟨u,fun _=>⟨l,fun r d t k9=> ?_⟩⟩;rw[hr] at t;cases t;rw[n1 e] at k9;cases k9;exact m
  ·exact⟨undef,fun h=>absurd h hp⟩
 obtain⟨f,x⟩:=Classical.axiomOfChoice g
 refine⟨(List.range (rows.length*n)).map f,⟨by simp,a,fun i j r d hr y=> ?_⟩,fun j v z=> ?_⟩
 ·have hi:i<rows.length:=(m3.1 hr).1;have e:j<n:=by rw[<-a i r hr];exact(m3.1 y).1
  have hp:i*n+j<rows.length*n:=M7 e hi;refine⟨f (i*n+j),by simp[hp],?_⟩;have hdiv:(i*n+j)/n=i:=by rw[Y3,Nat.add_mul_div_right _ _ s,Nat.div_eq_of_lt e];omega
  have k:(i*n+j)%n=j:=by rw[Y3,boH];exact C9 e
  exact(x _ hp).2 r d (by rw[hdiv];exact hr) (by rw[k];exact y)
 ·simp only[p0,m4] at z;obtain⟨p,l,rfl⟩:=z;have hp:=m3.1 l;simp at hp;obtain⟨m,rfl⟩:=hp;exact(x _ m).1
theorem abP(hs:St c H)(J:0<n){d:D}{new:List (List D1)}{x:Value}(e:J7 H n d=some new)(hr:fD c d x):
 ∃A k news,x= .slice A new.length k/\y8 c n new news/\ ∀g:World,g.heap=c.w.heap->(Builtin.firstCells n new.length x).run P g= .ok news.toArray g:=by
 have h: ∀(b o k:Nat) (news:List Value),y8 c n new news->(∀j v,news[j]?=some v->c.w.cell? ⟨b,o+j,none⟩=some v)->∀g:World,g.heap=c.w.heap->
  (Builtin.firstCells n new.length (.slice (some ⟨b,o,none⟩) new.length k)).run P g= .ok news.toArray g:=by
  intro b o k news q a g hw
  refine run_firstCells_some g n new.length ⟨b,o,none⟩ new.length k news q.len (fun j v N=> ?_)
  rw[tO,<-a j v N]
  simp[World.cell?,hw]
 unfold J7 at e
 split at e
 ·rename_i rows;split at e
  ·rename_i l;simp only[Option.some.injEq] at e;subst e;simp only[fD,jZ,Rel,bY] at hr
   cases hr with
   |isl _ A k O b o f Q K F hc G=>
    by_cases s:rows=[]
    ·subst s;refine⟨A,k,[],rfl,⟨by simp,by simp,by simp⟩,fun g hw=> ?_⟩
     cases A with
     |none=>simp[run_firstCells_none]
     |some A=>exact run_firstCells_some g n 0 A _ _ [] (by simp) (by simp)
    ·obtain⟨rfl,bOV⟩:=Q s
     have I:O=n:=by
      match rows,s with
      |r::_,_=>exact(F 0 r rfl).symm.trans (l r (by simp))
     subst I
     obtain⟨news,q,a⟩:=tU (c:=c) (b:=b) (o:=o) J (fun i r hr=>l r (s3 hr)) (fun i j r d C E=>⟨f i j,hc i j r d C E,by
      have:=G i j r d C E
      cases d<;>first|exact this| (cases this;done)⟩)
     exact⟨_,k,news,rfl,q,h b o k news q a⟩
  ·simp at e
 ·rename_i m id off len cap;simp only[fD,jZ,Rel,bY] at hr;obtain⟨R,hr⟩:=hr;split at e
  ·split at e
   ·rename_i z;simp only[Option.some.injEq] at e;subst e;obtain⟨rfl,rfl⟩:=z;rcases hr with⟨_,A,rfl⟩|⟨U,_⟩
    ·refine⟨A,0,[],rfl,⟨by simp,by simp,by simp⟩,fun g hw=> ?_⟩
     cases A with
     |none=>simp[run_firstCells_none]
     |some A=>exact run_firstCells_some g n 0 A _ _ [] (by simp) (by simp)
    ·omega
   ·simp at e
  ·split at e
   ·rename_i y B;split at e
    ·rename_i t;obtain⟨L,rfl,M⟩:=t;simp only[Option.some.injEq] at e;subst e;have hlen:((y.rows.drop off).take len).length=len:=(by simp;omega);rcases hr with⟨z,A,rfl⟩|⟨S,l2,rfl⟩
     ·have:len=0:=(by omega);subst this;refine⟨A,0,[],by simp,⟨by simp,by simp,by simp⟩,fun g hw=> ?_⟩;simp only[List.take_zero,List.length_nil]
      cases A with
      |none=>simp[run_firstCells_none]
      |some A=>exact run_firstCells_some g m 0 A _ _ [] (by simp) (by simp)
     ·have p: ∀(i:Nat) (r:List D1),((y.rows.drop off).take len)[i]?=some r->y.rows[off+i]?=some r:=by
       intro i r hr
       rw[s4] at hr
       split at hr
       ·rw[s5] at hr;exact hr
       ·simp at hr
      obtain⟨news,q,a⟩:=tU (c:=c) (b:=(c.ρ id).1) (o:=(c.ρ id).2+off*m) (rows:=(y.rows.drop off).take len) J
       (fun i r hr=>L▸(hs.wf id y B).2 _ r (p i r hr))
       (fun i j r d C E=>by
        obtain⟨u,T,k9⟩:=hs.cells id y (off+i) j r d B (p i r C) E
        refine⟨u,?_,k9⟩
        rw[<-T,L];congr 2;rw[o4];omega)
      exact⟨_,cap,news,by rw[hlen],q,by have:=h _ _ cap news q a;rw[hlen] at this ⊢;exact this⟩
    ·simp at e
   ·simp at e
 ·simp at e
theorem DK(w:World)(t ty el:TypeId)(i:TypeInfo)(e:P.underlying t=some (.slice el))(hi:P.info? el=some i)(A:Option Addr)(a c m f:Nat)(B:Option Addr)(news:List Value)
 (g:(Builtin.firstCells i.size m (.slice B m f)).run P w= .ok news.toArray w) (d:a+m<=c):
 (Builtin.append_ #[t,t] ty #[.slice A a c,.slice B m f]).run P w=
  match A with
  |none=>.ok (.slice none (a+m) c) w
  |some b=>((storeCells (b.add (a*i.size)) news).run P w).andThen fun _ h=>.ok (.slice (some b) (a+m) c) h:=by
 cases A with
 |none=>simp[Builtin.append_,run_underlying e,sizeOf,typeInfo,hi,Builtin.lenOf,d,g]
 |some b=>simp[Builtin.append_,run_underlying e,sizeOf,typeInfo,hi,Builtin.lenOf,d,g]
theorem S9(w:World)(t ty el:TypeId)(i:TypeInfo)(z:Value)(h:P.underlying t=some (.slice el))(hi:P.info? el=some i)(j:i.zero=some z)(A:Option Addr)(a b m f:Nat)(B:Option Addr)
 (c news:List Value) (hs:(Builtin.firstCells i.size a (.slice A a b)).run P w.drew= .ok c.toArray w.drew) (k:(Builtin.firstCells i.size m (.slice B m f)).run P w.drew= .ok news.toArray w.drew)
 (o:b<a+m) (l:((a+m:Nat):Int)<=9223372036854775807) (g:Builtin.nextslicecap (a+m) b*i.bytes<=281474976710656):
 (Builtin.append_ #[t,t] ty #[.slice A a b,.slice B m f]).run P w=
  .ok (.slice (some ⟨w.heap.size,0,none⟩) (a+m) (grownCap w (a+m) b el))
   (w.drew.alloc (.cells (c.toArray++news.toArray++Builtin.zeroCells z.cells (grownCap w (a+m) b el-(a+m))) el)):=by
 have n: ¬(a+m<=b):=by omega
 have d: ¬(9223372036854775807<((a:Int)+(m:Int))):=by omega
 have e: ¬(281474976710656<Builtin.nextslicecap (a+m) b*i.bytes):=by omega
 simp[Builtin.append_,run_underlying h,sizeOf,typeInfo,zeroValue,hi,j,Builtin.lenOf,n,d,e,Question.forced,hs,k,newRow,grownCap]
 congr 2
 apply x2
 simp[C0]
theorem NX(hs:St c H){id:Nat}(l2: ¬c.N id):St (c.named id 0 0 c.w) (H.set id ⟨n,0,[]⟩)/\Step c H (c.named id 0 0 c.w) (H.set id ⟨n,0,[]⟩):=by
 have a: ∀i,c.N i->(c.named id 0 0 c.w).ρ i=c.ρ i:=by intro i hi;simp only[Cf.named];rw[if_neg (by rintro rfl;exact l2 hi)]
 have f:Step c H (c.named id 0 0 c.w) (H.set id ⟨n,0,[]⟩):={
  Step.refl c H with
  ρ:=a
  N:=fun _ h=>.inr h
  own:=by
   rintro b ⟨i,o',g,l,m⟩;rcases bG g with⟨rfl,rfl⟩|⟨e,g⟩
   ·simp at l
   ·left;exact⟨i,o',g,l,by rw[a i (hs.named i o' g)] at m;exact m⟩}
 refine⟨?_,f⟩;refine {named:= ?_,wf:= ?_,blk:= ?_,cells:= ?_,sep:= ?_,imm:= ?_,old:=hs.old}
 ·intro i o' h;rcases bG h with⟨rfl,rfl⟩|⟨e,h⟩
  ·exact .inl rfl
  ·exact .inr (hs.named i o' h)
 ·intro i o' h;rcases bG h with⟨rfl,rfl⟩|⟨e,h⟩
  ·exact⟨by simp,by simp⟩
  ·exact hs.wf i o' h
 ·intro i o' h he;rcases bG h with⟨rfl,rfl⟩|⟨e,h⟩
  ·simp at he
  ·rw[a i (hs.named i o' h)];exact hs.blk i o' h he
 ·intro i o' k j r d h g l;rcases bG h with⟨rfl,rfl⟩|⟨e,h⟩
  ·simp at g
  ·obtain⟨u,m,k9⟩:=hs.cells i o' k j r d h g l;refine⟨u,?_,k9.step f hs⟩;rw[a i (hs.named i o' h)];exact m
 ·intro i o p q g l s t e;rcases bG g with⟨rfl,rfl⟩|⟨y,v⟩
  ·simp at s
  ·rcases bG l with⟨rfl,rfl⟩|⟨z,x⟩
   ·simp at t
   ·rw[a i (hs.named i p v),a o (hs.named o q x)];exact hs.sep i o p q v x s t e
 ·intro i o' h he;rcases bG h with⟨rfl,rfl⟩|⟨e,h⟩
  ·simp at he
  ·rw[a i (hs.named i o' h)];exact hs.imm i o' h he
def YF(P:Program)(c:Cf)(a:Act)(o:Oper)(H:aA)(id:Nat)(H0:aA)(n k:Nat)(rows:List (List D1))(b:Nat):Prop:=
 ∃cap v c',(k<=cap/\b<=cap)/\(execOp a.eval o).run P c.w= .ok (.value v) c'.w/\St c' (H0.set id ⟨n,cap,rows⟩)/\Step c H c' (H0.set id ⟨n,cap,rows⟩)/\
  fD c' (.one (.c (.osl n id 0 k cap))) v/\(∀i,c'.N i↔i=id\/c.N i)
theorem NY{cap:Nat}{vs:List Value}{arr:Array Value}(e:y8 c n rows vs)(hle:rows.length<=cap)(b:cap*n<=arr.size)
 (a: ∀(j:Nat) (v:Value),vs[j]?=some v->arr[j]?=some v) (f:0<n):oZ c arr 0 ⟨n,cap,rows⟩:=by
 refine⟨hle,e.row,by simpa using b,fun i j r d g h=> ?_,fun hm=>by have:=hm.1;dsimp only at this;omega⟩
 obtain⟨u,k,k9⟩:=e.rel i j r d g h
 exact⟨u,by simpa using a _ u k,k9⟩
theorem alG(hs:St c H)(he:ER c T e a){o:Oper}{t el:TypeId}{s x:Operand}{s' x':aT}{id k:Nat}{dl:Option Nat}(l2: ¬c.N id)
 (ho:o.op= .call {callee:=.builtin .append,args:=#[s,x],argTypes:=#[t,t]}) (bc:d9 P t=some (el,n)) (hn:0<n) (hz: ∃z,zeroOf P el=some z) (hb:P.bytesOf el<=65536)
 (bd:trO s=some s') (bf:trO x=some x') (hk:k<=2147483647) (M:IX H e (.append n s' x')=some (dl,n,k,rows)):YF P c a o H id (VR H dl) n k rows (amE (s'.ev e)):=by
 obtain⟨hu,bg,_⟩:=lI bc c.w
 obtain⟨z,hz⟩:=hz
 obtain⟨zv,X,bu,bw,bh,_⟩:=mF (c:=c) hz c.w
 obtain⟨i,hi⟩: ∃i,P.info? el=some i:=by
  unfold zeroOf at hz;split at hz;·rename_i i hi;exact⟨i,hi⟩
  ·simp at hz
 have bj:i.zero=some zv:=by
  simp[zeroValue,typeInfo,hi] at X
  cases ax:i.zero with
  |none=>simp[ax] at X
  |some z'=>simp[ax] at X;rw[X]
 have F:i.size=n:=by simpa [sizeOf,typeInfo,hi] using bg
 have ak:zv.cells.size=n:=by rw[bh i hi,F]
 have bk:i.bytes<=65536:=by simpa [Program.bytesOf,hi] using hb
 simp only[IX] at M
 split at M
 ·rename_i m g off len cap new ay al;obtain⟨B,cx,news,K,G,an⟩:=abP (P:=P) hs hn al (lP he bf);have Q:=qD he bd ay;have aa:amE (s'.ev e)=cap:=by rw[ay];rfl
  rw[aa];simp only[Rel,bY] at Q;obtain⟨bx,Q⟩:=Q;have ao:=G.oQ hn
  have grow: ∀(A:Option Addr) (f p:Nat) (q:List (List D1)) (C:List Value) (Hx:aA),(∀i o,Hx i=some o->H i=some o)->a.eval s= .slice A f p->y8 c n q C->q.length=f->
   (∀O:World,O.heap=c.w.heap->(Builtin.firstCells n f (.slice A f p)).run P O= .ok C.toArray O)->p<f+new.length->f+new.length<=2147483647->
   YF P c a o H id Hx n (f+new.length) (q++new) p:=by
   intro A f p q C Hx y S L R bm hg hle
   have ab:Builtin.nextslicecap (f+new.length) p*i.bytes<=281474976710656:=growslice_fits hg (by
    have:(f+new.length)*i.bytes<=2147483647*65536:=Nat.mul_le_mul hle bk
    omega)
   have D:=S9 (P:=P) c.w t o.type el i zv hu hi bj A f p new.length cx B C news (by rw[F];exact bm c.w.drew rfl)
    (by rw[F,<-K];exact an c.w.drew rfl) hg (by omega) ab
   have bn:=L.append G
   have aq:=grownCap_ge c.w (f+new.length) p el
   have U:oZ (c.drew (c.w.drawn+1)) (C.toArray++news.toArray++Builtin.zeroCells zv.cells (grownCap c.w (f+new.length) p el-(f+new.length))) 0
    ⟨n,grownCap c.w (f+new.length) p el,q++new⟩:=by
    refine oZ.drew (NY bn (by simp;omega) ?_ (fun j v hv=> ?_) hn) _
    ·simp only[Array.size_append,F0,size_zeroCells,ak,L.len,G.len,R];rw[Nat.sub_mul,<-o4];have:=t4 n aq;omega
    ·have az:=(m3.1 hv).1;rw[Y6,if_pos (by simpa using az)];simpa using hv
   have bo:=(hs.drew (c.w.drawn+1)).forget y
   obtain⟨V,Y⟩:=GY (m:=id) bo el l2 U
   refine⟨_,.slice (some ⟨c.w.heap.size,0,none⟩) (f+new.length) (grownCap c.w (f+new.length) p el),_,⟨aq,by omega⟩,?_,V,((Step.drew c H _).trans (Step.forget _ y)).trans Y,?_,fun i=>brL⟩
   ·simp only[execOp,ho,resolve,invoke,builtin,Sem.run_bind,Sem.run_pure,Result.andThen_ok,C1,n3,q0,S,K,D];rfl
   ·simp only[fD,jZ,Rel,bY,Cf.named,if_true];refine⟨aq,.inr ⟨by omega,.inl trivial,?_⟩⟩;simp[Cf.drew]
  have ad: ∀(A:Option Addr) (l k:Nat) (O:World),(Builtin.firstCells n 0 (.slice A l k)).run P O= .ok ([]:List Value).toArray O:=by
   intro A l k O
   cases A with
   |none=>simp[run_firstCells_none]
   |some A=>exact run_firstCells_some O n 0 A _ _ [] (by simp) (by simp)
  have none_: ∀(A:Option Addr) (Hx:aA),(∀i o,Hx i=some o->H i=some o)->a.eval s= .slice A 0 0->new.length=0->YF P c a o H id Hx n 0 [] 0:=by
   intro A Hx y S I;have J:new=[]:=CE I;subst J;have ae:news=[]:=CE (by rw[G.len];simp);subst ae;have D:=DK (P:=P) c.w t o.type el i hu hi A 0 0 0 cx B [] (by have:=an c.w rfl;rw[K] at this;simpa [F] using this) (by omega);have ar:(Builtin.append_ #[t,t] o.type #[.slice A 0 0,.slice B 0 cx]).run P c.w= .ok (.slice A 0 0) c.w:=by rw[D];cases A<;>simp[storeCells]
   obtain⟨V,Y⟩:=NX (hs.forget y) (n:=n) l2;refine⟨0,.slice A 0 0,c.named id 0 0 c.w,⟨m5 _,m5 _⟩,?_,V,(Step.forget _ y).trans Y,?_,fun i=>brL⟩;·simp only[List.length_nil] at K;simp only[execOp,ho,resolve,invoke,builtin,Sem.run_bind,Sem.run_pure,Result.andThen_ok,C1,n3,q0,S,K,ar];rfl
   ·simp only[fD,jZ,Rel,bY];exact⟨m5 _,.inl ⟨trivial,A,rfl⟩⟩
  split at M
  ·split at M
   ·rename_i bp au;obtain⟨rfl,rfl⟩:=au;simp only[Option.some.injEq,Prod.mk.injEq,true_and] at M;obtain⟨rfl,rfl,rfl⟩:=M;rcases Q with⟨_,A,S⟩|⟨h0,_⟩
    ·by_cases I:new.length=0;·have:=none_ A H (fun _ _ h=>h) S I;have J:new=[]:=CE I;subst J;exact this
     ·have:=grow A 0 0 [] [] H (fun _ _ h=>h) S ⟨by simp,by simp,by simp⟩ rfl (fun O _=>ad A 0 0 O) (by omega) (by omega);simpa [VR] using this
    ·omega
   ·simp at M
  ·rename_i bp;split at M
   ·rename_i Z aj;split at M
    ·rename_i af;obtain⟨e1,rfl,ab,aw⟩:=af;simp only[Option.some.injEq,Prod.mk.injEq,true_and] at M;obtain⟨rfl,rfl,rfl⟩:=M;have R:((Z.rows.drop off).take len).length=len:=by simp;omega
     have y: ∀(i:Nat) (r:List D1),((Z.rows.drop off).take len)[i]?=some r->Z.rows[off+i]?=some r:=by
      intro i r hr;rw[s4] at hr;split at hr;·rw[s5] at hr;exact hr
      ·simp at hr
     rcases CR cap with au|bq
     ·subst au;have br:len=0:=(by omega);subst br;rcases Q with⟨_,A,S⟩|⟨h0,_⟩
      ·by_cases I:new.length=0;·have:=none_ A (H.del g) GX S I;have J:new=[]:=CE I;subst J;simpa [VR] using this
       ·have:=grow A 0 0 [] [] (H.del g) GX S ⟨by simp,by simp,by simp⟩ rfl (fun O _=>ad A 0 0 O) (by omega) (by omega);simpa [VR] using this
      ·omega
     ·rcases Q with⟨h0,_⟩|⟨_,bz,S⟩
      ·omega
      ·have W:0<Z.ext:=(by omega);obtain⟨arr,TT,hb,U⟩:=hs.abR aj W (fun hm=>by have:=hm.1;omega)
       obtain⟨C,L,bs⟩:=tU (c:=c) (b:=(c.ρ g).1) (o:=(c.ρ g).2+off*m) (rows:=(Z.rows.drop off).take len) hn
        (fun i r hr=>e1▸U.len _ r (y i r hr))
        (fun i j r d V Y=>by
         obtain⟨u,h3,k9⟩:=hs.cells g Z (off+i) j r d aj (y i r V) Y
         refine⟨u,?_,k9⟩
         rw[<-h3,e1];congr 2;rw[o4];omega)
       by_cases E:len+new.length<=cap
       ·have ag:(off+cap)*m<=Z.ext*m:=t4 _ aw;have ah:(len+new.length)*m<=cap*m:=t4 _ E;have ai:=U.size;rw[e1] at ai;rw[o4] at ag ah;have ca:news.length=new.length*m:=G.len;have ba:=run_storeCells_at P (c.ρ g).1 ((c.ρ g).2+off*m+len*m) TT news 0 arr c.w hb (by omega) ao;simp only[Nat.add_zero] at ba
        have D:=DK (P:=P) c.w t o.type el i hu hi (some ⟨(c.ρ g).1,(c.ρ g).2+off*m,none⟩) len cap new.length cx B news
         (by have:=an c.w rfl;rw[K] at this;rw[F];exact this) E
        rw[F] at D;simp only[tO,ba,Result.andThen_ok] at D
        have bb:=amJ hs (H0:=H.del g) GX (base:=(c.ρ g).2+off*m) (m:=id) (o:=⟨m,cap,(Z.rows.drop off).take len++new⟩)
         (arr':=(arr.toList.take ((c.ρ g).2+off*m+len*m)++news++arr.toList.drop ((c.ρ g).2+off*m+len*m+news.length)).toArray)
         hb ⟨g,Z,aj,W,rfl⟩ (z1 hs aj W) (fun h=>absurd h l2) ?_ ?_
        ·refine⟨cap,.slice (some ⟨(c.ρ g).1,(c.ρ g).2+off*m,none⟩) (len+new.length) cap,_,⟨E,m5 _⟩,?_,bb.1,bb.2,?_,fun i=>brL⟩;·simp only[execOp,ho,resolve,invoke,builtin,Sem.run_bind,Sem.run_pure,Result.andThen_ok,C1,n3,q0,S,K,D];rfl
         ·simp only[fD,jZ,Rel,bY,Cf.named,if_true];exact⟨E,.inr ⟨bq,.inl trivial,by simp⟩⟩
        ·unfold aA.del;split;·rfl
         ·rename_i I
          cases hh:H id with
          |none=>rfl
          |some ox=>exact absurd (hs.named id ox hh) l2
        ·refine⟨by simp only[t2,R];exact E,fun i r hr=> ?_,?_,fun i j r d V Y=> ?_,fun hm=>by have:=hm.1;dsimp only at this;omega⟩;·exact(L.append G).row i r hr
         ·simp only[F0,t2,CG,CI,Array.length_toList];omega
         ·simp only[CH];rw[B5 _ _ _ _ (by simp only[Array.length_toList];omega)];have bt:j<m:=(by rw[<-(L.append G).row i r V];exact(m3.1 Y).1);rw[o5,R] at V;split at V;·rename_i hi;have hp:=M7 bt hi;rw[if_neg (by omega)];obtain⟨u,h3,k9⟩:=U.rel (off+i) j r d (y i r V) Y;refine⟨u,?_,k9⟩;rw[e1,o4] at h3;rw[<-h3];simp only[Y7];congr 1;omega
          ·rename_i hi;obtain⟨u,h3,k9⟩:=G.rel (i-len) j r d V Y;have az:=(m3.1 h3).1;have hmul:i*m=len*m+(i-len)*m:=(by rw[<-o4];congr 1;omega);rw[if_pos (by omega)];refine⟨u,?_,k9⟩;rw[<-h3];congr 1;omega
       ·exact grow _ len cap _ C (H.del g) GX S L R (fun O hw=>by
         refine run_firstCells_some O m len _ len cap C (by rw[L.len,R]) (fun j v hv=> ?_)
         rw[tO,<-bs j v hv]
         simp[World.cell?,hw]) (by omega) hk
    ·simp at M
   ·simp at M
 ·simp at M
end
def wr(rows:List (List D1))(p:Nat)(new:List (List D1)):List (List D1):=rows.take p++new++rows.drop (p+new.length)
theorem akO(rows:List (List D1))(p:Nat)(new:List (List D1))(hp:p<=rows.length)(i:Nat):
 (wr rows p new)[i]?=if i<p then rows[i]? else if i<p+new.length then new[i-p]? else rows[i]?:=by
 unfold wr
 have a:(rows.take p).length=p:=by simp;omega
 rw[C0,o5,a]
 split
 ·rename_i h;rw[s4,if_pos h]
 ·rename_i h;rw[o5];split;·rename_i b;rw[if_pos (by omega)]
  ·rename_i b;rw[if_neg (by omega),s5];congr 1;omega
theorem ajB(rows:List (List D1))(p:Nat)(new:List (List D1))(hp:p<=rows.length):(wr rows p new).length=max rows.length (p+new.length):=by simp[wr];omega
section
variable{P:Program}{c:Cf}{H:aA}
theorem SS(hs:St c H){b:Nat}{a:bA}(k:H b=some a)(g:0<a.ext){p:Nat}(hp:p<=a.rows.length){new:List (List D1)}{news:List Value}(G:0<a.n)(l:y8 c a.n new news)
 (v:p+new.length<=a.ext): ∃c',(storeCells ⟨(c.ρ b).1,(c.ρ b).2+p*a.n,none⟩ news).run P c.w= .ok () c'.w/\St c' (H.set b ⟨a.n,a.ext,wr a.rows p new⟩)/\
  Step c H c' (H.set b ⟨a.n,a.ext,wr a.rows p new⟩)/\ ∀i,c'.N i↔c.N i:=by
 obtain⟨arr,I,E,f⟩:=hs.abR k g (fun hm=>by have:=hm.1;omega)
 have A:=hs.named b a k
 have x:=l.oQ G
 have J:news.length=new.length*a.n:=l.len
 have q:(p+new.length)*a.n<=a.ext*a.n:=t4 _ v
 rw[o4] at q
 have B:=f.size
 have y:=run_storeCells_at P (c.ρ b).1 ((c.ρ b).2+p*a.n) I news 0 arr c.w E (by omega) x
 simp only[Nat.add_zero] at y
 have s:=amJ hs (H0:=H.del b) GX (base:=(c.ρ b).2) (m:=b) (o:=⟨a.n,a.ext,wr a.rows p new⟩)
  (arr':=(arr.toList.take ((c.ρ b).2+p*a.n)++news++arr.toList.drop ((c.ρ b).2+p*a.n+news.length)).toArray)
  E ⟨b,a,k,g,rfl⟩ (z1 hs k g) (fun _=>rfl) (by simp[aA.del]) ?_
 ·rw[afF] at s;exact⟨_,y,s.1,s.2,fun i=>⟨fun h=>h.elim (fun h=>h▸A) id,.inr⟩⟩
 ·have e: ∀(i:Nat) (r:List D1),(wr a.rows p new)[i]?=some r->r.length=a.n:=by
   intro i r hr
   rw[akO _ _ _ hp] at hr
   split at hr
   ·exact f.len i r hr
   ·split at hr;·exact l.row _ r hr
    ·exact f.len i r hr
  refine⟨by show (wr a.rows p new).length<=a.ext;rw[ajB _ _ _ hp];have:=f.le;omega,e,?_,fun i j r d t z=> ?_,fun hm=>by have:=hm.1;dsimp only at this;omega⟩
  ·simp only[F0,t2,CG,CI,Array.length_toList];omega
  ·simp only[CH];rw[B5 _ _ _ _ (by simp only[Array.length_toList];omega)];have C:j<a.n:=(by rw[<-e i r t];exact(m3.1 z).1);rw[akO _ _ _ hp] at t;split at t;·rename_i hi;have:=M7 C hi;rw[if_neg (by omega)];simpa using f.rel i j r d t z
   ·rename_i hi;have L:i=p+(i-p):=(by omega);have M:i*a.n=p*a.n+(i-p)*a.n:=(by rw[<-o4];congr 1);split at t;·rename_i D;obtain⟨u,F,k9⟩:=l.rel (i-p) j r d t z;have K:=(m3.1 F).1;rw[if_pos (by omega)];refine⟨u,?_,k9⟩;rw[<-F];congr 1;omega
    ·rename_i D;have l1:(p+new.length)*a.n<=i*a.n:=t4 _ (by omega);rw[o4] at l1;rw[if_neg (by omega)];simpa using f.rel i j r d t z
end
section
variable{P:Program}{c:Cf}{H:aA}{T:Nat}{e:Env}{a:Act}
inductive Kind where
 |q (reads:Bool)
 |a
 |l
def XK.kind:XK->Kind
 | .bad| .zI _| .aeq .. =>.q false
 | .qJ _| .copy _| .clear .. | .aaN _| .DS .. | .sS| .rA .. | .vM .. =>.l
def AOp.kind:AOp->Kind
 | .load .. =>.q true
 | .alloc _| .box .. | .bC .. | .kY .. =>.a
 | .store .. | .append .. | .call .. | .t5 .. =>.l
 | .xop k _=>k.kind
 |_=>.q false
theorem oL{α:Type}{l:Array α}{x:α}(h:l.toList=[x]):l= #[x]:=by apply x2;simpa using h
theorem uV{α:Type}{l:Array α}{x y:α}(h:l.toList=[x,y]):l= #[x,y]:=by apply x2;simpa using h
theorem pE{b:Builtin}{args:Array Operand}{g:Array TypeId}{e:AOp}(h:M1 P b args.toList g.toList=some e):
 (∃x t y,b= .len/\args= #[x]/\g= #[t]/\trO x=some y/\((P.underlying t=some .string/\e= .len true y)\/(∃el,P.underlying t=some (.slice el))/\e= .len false y))\/
 (∃x t y el,b= .cap/\args= #[x]/\g= #[t]/\trO x=some y/\P.underlying t=some (.slice el)/\e= .cap y)\/
 (∃x y x' f k,b=(if k then .min else .max)/\args= #[x,y]/\trO x=some x'/\trO y=some f/\e= .mmx k x' f)\/
 (∃s x t s' x' el n,b= .append/\args= #[s,x]/\g= #[t,t]/\trO s=some s'/\trO x=some x'/\d9 P t=some (el,n)/\0<n/\(∃z,zeroOf P el=some z)/\P.bytesOf el<=65536/\e= .append n s' x'):=by
 generalize a:args.toList=bOX at h
 generalize c:g.toList=bOY at h
 unfold M1 at h
 split at h
 ·rename_i x t;split at h;·rename_i y d hu;simp only[Option.some.injEq] at h;exact .inl ⟨x,t,y,rfl,oL a,oL c,d,.inl ⟨hu,h.symm⟩⟩
  ·rename_i y el d hu;simp only[Option.some.injEq] at h;exact .inl ⟨x,t,y,rfl,oL a,oL c,d,.inr ⟨⟨_,hu⟩,h.symm⟩⟩
  ·simp at h
 ·rename_i x t;split at h;·rename_i y el d hu;simp only[Option.some.injEq] at h;exact .inr (.inl ⟨x,t,y,_,rfl,oL a,oL c,d,hu,h.symm⟩)
  ·simp at h
 ·rename_i x y;split at h;·rename_i x' f i d;simp only[Option.some.injEq] at h;exact .inr (.inr (.inl ⟨x,y,x',f,true,rfl,uV a,i,d,h.symm⟩))
  ·simp at h
 ·rename_i x y;split at h;·rename_i x' f i d;simp only[Option.some.injEq] at h;exact .inr (.inr (.inl ⟨x,y,x',f,false,rfl,uV a,i,d,h.symm⟩))
  ·simp at h
 ·rename_i s x t u;split at h
  ·rename_i s' x' el n hs i j;split at h;·rename_i hc;obtain⟨rfl,l,m,o⟩:=hc;simp only[Option.some.injEq] at h;exact .inr (.inr (.inr ⟨s,x,t,s',x',el,n,rfl,uV a,uV c,hs,i,j,l,Z7.1 m,o,h.symm⟩))
   ·simp at h
  ·simp at h
 ·simp at h
theorem ai4(hs:St c H)(he:ER c T e a){o:Oper}{V:AOp}{d:D}(f:F3 P o.op=some V)(j:aU H e V=some d):kF P c a o d:=by
 generalize q:o.op=op at f;unfold F3 at f;split at f;·simp only[m4] at f;obtain⟨y,i,rfl⟩:=f;exact ajL he (.inl q) i j
 ·simp only[m4] at f;obtain⟨y,i,rfl⟩:=f;exact ajL he (.inr q) i j
 ·split at f;·rename_i I J M;simp only[Option.some.injEq] at f;subst f;exact aq3 he q I J M j
  ·simp at f
 ·simp only[m4] at f;obtain⟨y,i,rfl⟩:=f;exact aj0 he q i j
 ·split at f;·rename_i n g y hl i;simp only[Option.some.injEq] at f;subst f;exact arH hs he q hl i j
  ·simp at f
 ·split at f;·simp only[Option.some.injEq] at f;subst f;simp[aU] at j
  ·simp at f
 ·split at f
  ·rename_i W y hu i;split at f
   ·rename_i fd N;split at f
    ·rename_i n g hl;split at f;·simp at f
     ·rename_i X;simp only[Option.some.injEq] at f;subst f;exact ar2 he q hu N hl X i j
    ·simp at f
   ·simp at f
  ·simp at f
 ·split at f
  ·rename_i el y z hu i r;split at f;·rename_i n g hl;simp only[Option.some.injEq] at f;subst f;exact asH he q hu hl i r j
   ·simp at f
  ·rename_i len el y z hu i r;split at f;·rename_i n g hl;simp only[Option.some.injEq] at f;subst f;exact ar0 he q hu hl i r j
   ·simp at f
  ·simp at f
 ·split at f;·rename_i y z hu i r;simp only[Option.some.injEq] at f;subst f;exact apU he q i r j
  ·rename_i y z hu i r;simp only[Option.some.injEq] at f;subst f;exact apU he q i r j
  ·rename_i y z hu i r;split at f;·simp only[Option.some.injEq] at f;subst f;exact apV (neg:=false) he q hu i r j
   ·simp only[Option.some.injEq] at f;subst f;exact apV (neg:=true) he q hu i r j
   ·simp at f
  ·simp at f
 ·simp only[m4] at f;obtain⟨y,i,rfl⟩:=f;exact as4 he q i j
 ·split at f;·rename_i k0 k y I J M;simp only[Option.some.injEq] at f;subst f;exact aqO he q I J M j
  ·simp at f
 ·simp only[m4] at f;obtain⟨y,i,rfl⟩:=f;exact asE he q i j
 ·rename_i t x Z k2;split at f
  ·rename_i el y hu i;split at f
   ·rename_i p hl;obtain⟨n,g⟩:=p;simp only[Option.some.injEq] at f;subst f;have O:=(iK hl c.w).2.1
    have key: ∀A len cap,a.eval x= .slice A len cap->kF P c a o (.one (.c .nil)):=by
     intro A len cap u;refine⟨.slice A 0 0,?_,?_⟩
     ·have K:=L5 (P:=P) (c:=c) (l:=0) (h:=0) (m:=0) (x:=a.eval x) (lo:=none) (hi:=some (.int Z 0)) (mx:=some (.int k2 0)) hu O u
       (.inr ⟨_,rfl,by simp[Instr.sliceBound,asIntOf]⟩) (.inr ⟨_,rfl,fun code=>by simp[Instr.sliceBound,asIntOf]⟩) (.inl ⟨rfl,rfl⟩)
      have hk: ∀v,a.eval (.const v)=v:=fun _=>rfl
      simp only[execOp,q,Option.map_none,Option.map_some,hk,Sem.run_bind,K,Result.andThen_ok,Sem.run_pure]
      simp
     ·simp only[fD,jZ,Rel,bY,D1.nil];exact⟨m5 _,.inl ⟨trivial,A,rfl⟩⟩
    simp only[aU] at j;split at j;·rename_i rows Q;simp only[Option.some.injEq] at j;subst j;obtain⟨A,cap,u,_⟩:=YG (qD he i Q);exact key A _ _ u
    ·rename_i m id off len cap Q;simp only[Option.some.injEq] at j;subst j;have hr:=qD he i Q;simp only[Rel,bY] at hr;obtain⟨_,⟨_,A,u⟩|⟨_,_,u⟩⟩:=hr;·exact key _ _ _ u
     ·exact key _ _ _ u
    ·simp at j
   ·simp at f
  ·simp at f
 ·split at f
  ·rename_i el y R hi' S hu i B C E;split at f
   ·rename_i n g hl;split at f;·simp at f
    ·rename_i F;simp only[Option.some.injEq] at f;subst f;refine as3 he q hu hl i B C E (fun I J=> ?_) j;apply F;subst J
     cases S with
     |none=>exact absurd rfl I
     |some _=>rfl
   ·simp at f
  ·rename_i y R hi' hu i B C E;simp only[Option.some.injEq] at f;subst f;have:=(LG E).2 rfl;subst this;exact asZ he q hu i B C j
  ·simp at f
 ·split at f
  ·rename_i W y hu i;split at f
   ·rename_i fd N;split at f;·rename_i n g hl;simp only[Option.some.injEq] at f;subst f;exact apE he q hu N hl i j
    ·simp at f
   ·simp at f
  ·simp at f
 ·split at f;·rename_i y z hu i r;simp only[Option.some.injEq] at f;subst f;exact aqJ he q hu i r j
  ·simp at f
 ·split at f
  ·rename_i W z hu r;split at f;·rename_i L;simp only[m4] at f;obtain⟨qs,G,rfl⟩:=f;exact aoU he q hu r L G j
   ·simp at f
  ·rename_i len el z hu r;split at f;·rename_i n g hl;simp only[m4] at f;obtain⟨qs,G,rfl⟩:=f;exact ak5 he q hu r hl G j
   ·simp at f
  ·simp at f
 ·simp only[m4] at f;obtain⟨y,i,rfl⟩:=f;simp[aU] at j
 ·split at f;·simp only[Option.some.injEq] at f;subst f;simp[aU] at j
  ·simp at f
 ·split at f
  ·split at f
   ·split at f;·simp only[m4] at f;obtain⟨qs,_,rfl⟩:=f;simp[aU] at j
    ·simp at f
   ·simp at f
  ·simp at f
 ·split at f
  ·split at f
   ·split at f;·simp only[Option.some.injEq] at f;subst f;simp[aU] at j
    ·simp at f
   ·simp at f
  ·simp at f
 ·rename_i cl;obtain⟨callee,args,ts⟩:=cl;split at f
  ·rename_i b U;simp only at U;subst U;rcases pE f with⟨x,t,y,rfl,rfl,rfl,i,⟨hu,rfl⟩|⟨hu,rfl⟩⟩|⟨x,t,y,el,rfl,rfl,rfl,i,hu,rfl⟩|⟨x,y,x',y',mn,rfl,rfl,Y,i,rfl⟩|⟨s,x,t,s',x',el,n,rfl,rfl,rfl,aa,Y,ab,X,r,U,rfl⟩
   ·exact ap0 he q (by simpa using hu) i j
   ·exact ap0 he q (by simpa using hu) i j
   ·exact asC he q hu i j
   ·exact as0 he q Y i j
   ·simp[aU] at j
  ·simp only[m4] at f;obtain⟨l,_,rfl⟩:=f;simp[aU] at j
  ·split at f;·simp only[Option.some.injEq] at f;subst f;simp[aU] at j
   ·simp at f
  ·simp at f
 ·simp at f
end
def qY(P:Program)(f:FuncId):Bool:=
 match P.funcs[f]? with
 |some fn=>fn.body.isSome&& !(fn.name== "runtime.NumGoroutine")
 |none=>false
def aB(P:Program)(f:FuncId)(args:List D)(H:aA)(nx:Nat)(K:D->aA->Nat->Prop):Prop:=
 qY P f=true/\ ∀(c:Cf) (vs:List Value),St c H->(∀i,c.N i->i<nx)->vs.length=args.length->(∀(i:Nat) (d:D) (v:Value),args[i]?=some d->vs[i]?=some v->fD c d v)->
  Calls P f vs.toArray c.w fun x a=>∃v c' r H' nx',x= .returned v/\c'.w=a/\St c' H'/\Step c H c' H'/\(∀i,c'.N i->c.N i\/(nx<=i/\i<nx'))/\nx<=nx'/\fD c' r v/\K r H' nx'
theorem aB.mono{P:Program}{f:FuncId}{args:List D}{H:aA}{nx:Nat}{K a:D->aA->Nat->Prop}(h:aB P f args H nx K)(b: ∀r H' nx',nx<=nx'->K r H' nx'->a r H' nx'):aB P f args H nx a:=by refine⟨h.1,fun c vs d e g k9=> ?_⟩;refine(h.2 c vs d e g k9).mono ?_;rintro x n ⟨v,c',r,H',nx',i,j,k,l,m,bOZ,bO0,bO1⟩;exact⟨v,c',r,H',nx',i,j,k,l,m,bOZ,bO0,b r H' nx' bOZ bO1⟩
def bD(b:Bool):D:=.one (.c (.v (.bool b)))
def asG(P:Program)(f:FuncId)(args:List D)(H:aA)(nx:Nat)(K:D->aA->Nat->Prop):Prop:=
 ∀(c:Cf) (vs:List Value),St c H->vs.length=args.length->(∀(i:Nat) (d:D) (v:Value),args[i]?=some d->vs[i]?=some v->fD c d v)->
  ∃v r,(callFunc f vs.toArray).run P c.w= .ok (.value v) c.w/\fD c r v/\K r H nx
def apP:D->Option Nat
 | .one (.c (.isl rows))=>some rows.length
 | .one (.c (.osl _ _ _ len _))=>some len
 |_=>none
def WT(k:Nat):D->D
 | .one (.c (.isl rows))=>.one (.c (.isl (rows.take k)))
 | .one (.c (.osl m id off _ cap))=>.one (.c (.osl m id off k cap))
 |d=>d
def VX(H:aA)(n:Nat):D->D->Option (Nat×bA×Nat)
 | .one (.c (.osl m id off len cap)),s=>match H id,apP s with
   |some o,some ls=>match J7 H n (WT (min ls len) s) with
    |some new=>if o.n=n/\m=n/\0<n/\(0<cap/\0<o.ext\/min ls len=0)/\off<=o.rows.length/\off+min ls len<=o.ext then some (id,⟨o.n,o.ext,Go.AM.wr o.rows off new⟩,min ls len) else none
    |none=>none
   |_,_=>none
 |_,_=>none
def MN(H:aA)(n:Nat)(z:List D1):D->Option (Nat×bA)
 | .one (.c (.osl m id off len cap))=>match H id with
   |some o=>if o.n=n/\m=n/\0<n/\0<cap/\0<o.ext/\off<=o.rows.length/\off+len<=o.ext then some (id,⟨o.n,o.ext,Go.AM.wr o.rows off (List.replicate len z)⟩) else none
   |none=>none
 |_=>none
def jT(m:List (List Int×Int))(l:List Int):Option Int:=(m.find? fun p=>decide (l=p.1)).map (·.2)
def xlL(H:aA)(nx:Nat)(R:D->aA->Nat->Prop):Option mH->Prop
 |some x=>R (.one (.c (.v (.int .i64 x.m.length)))) H nx
 |none=>False
def xlG(H:aA)(nx:Nat)(R:D->aA->Nat->Prop)(kn:Nat)(bl ok:Bool):Option mH->Option (List Int)->Prop
 |some x,some l=>(x.kn=kn/\x.bl=bl/\l.length=zV kn)/\R (if ok then .tup [.c (.v (elemV bl ((jT x.m l).getD 0))),.c (.v (.bool (jT x.m l).isSome))] else .one (.c (.v (elemV bl ((jT x.m l).getD 0))))) H nx
 |_,_=>False
def vA(m:List (List Int×Int))(l:List Int)(n:Int):List (List Int×Int):=
 match m with
 | []=>[(l,n)]
 |p::r=>if l=p.1 then (l,n)::r else p::vA r l n
def xlS(H:aA)(nx:Nat)(R:D->aA->Nat->Prop)(kn:Nat)(bl:Bool)(i:Nat):Option mH->Option (List Int)->Option Int->Prop
 |some x,some l,some n=>(x.kn=kn/\x.bl=bl/\l.length=zV kn)/\R .dead (H.set i (u4 ⟨kn,bl,vA x.m l n⟩)) nx
 |_,_,_=>False
def xl(P:Program)(id:Nat)(H:aA)(nx:Nat)(R:D->aA->Nat->Prop):XK->List D->Prop
 | .qJ neg,[.one (.c (.isl rows))]=>if rows.length=0 then ∀b,R (bD b) H nx else R (bD neg) H nx
 | .qJ neg,[.one (.c (.osl _ _ _ _ cap))]=>if cap=0 then ∀b,R (bD b) H nx else R (bD neg) H nx
 | .copy n,[d,s]=>match VX H n d s with
   |some (i,a,k)=>R (.one (.c (.v (.int .i64 k)))) (H.set i a) nx
   |none=>False
 | .clear n z,[d]=>match MN H n z d with
   |some (i,a)=>R (.tup []) (H.set i a) nx
   |none=>False
 | .aaN f,e=>asG P f e H nx R
 | .DS kn bl,[]=>R (.one (.c (.omap id))) (H.set id (u4 ⟨kn,bl,[]⟩)) nx
 | .sS,[.one (.c (.omap i))]=>xlL H nx R (I7 H i)
 | .sS,[.one (.c (.MY x))]=>xlL H nx R (some x)
 | .rA kn bl ok,[.one (.c (.omap i)),k]=>xlG H nx R kn bl ok (I7 H i) (OA kn k)
 | .rA kn bl ok,[.one (.c (.MY x)),k]=>xlG H nx R kn bl ok (some x) (OA kn k)
 | .vM kn bl,[.one (.c (.omap i)),k,v]=>xlS H nx R kn bl i (I7 H i) (OA kn k) (S4 bl v)
 |_,_=>False
theorem aoV{P:Program}{id:Nat}{H:aA}{nx:Nat}{R R':D->aA->Nat->Prop}{k:XK}{e:List D}(h:xl P id H nx R k e)(a: ∀r H' nx',nx<=nx'->R r H' nx'->R' r H' nx'):xl P id H nx R' k e:=by
 unfold xl at*;split at h
 ·split at h;·rename_i d;simp only[d,if_true];exact fun b=>a _ _ _ (m5 _) (h b)
  ·rename_i d;simp only[d,if_false];exact a _ _ _ (m5 _) h
 ·split at h;·rename_i d;simp only[d,if_true];exact fun b=>a _ _ _ (m5 _) (h b)
  ·rename_i d;simp only[d,if_false];exact a _ _ _ (m5 _) h
 ·split at h;·exact a _ _ _ (m5 _) h
  ·exact h.elim
 ·split at h;·exact a _ _ _ (m5 _) h
  ·exact h.elim
 ·intro c vs f g i;obtain⟨v,r,k9,l1,bOW⟩:=h c vs f g i;exact⟨v,r,k9,l1,a _ _ _ (m5 _) bOW⟩
 ·exact a _ _ _ (m5 _) h
 ·revert h;unfold xlL;split;·exact fun h=>a _ _ _ (m5 _) h
  ·exact fun h=>h
 ·exact a _ _ _ (m5 _) h
 ·revert h;unfold xlG;split;·exact fun h=>⟨h.1,a _ _ _ (m5 _) h.2⟩
  ·exact fun h=>h
 ·revert h;unfold xlG;split;·exact fun h=>⟨h.1,a _ _ _ (m5 _) h.2⟩
  ·exact fun h=>h
 ·revert h;unfold xlS;split;·exact fun h=>⟨h.1,a _ _ _ (m5 _) h.2⟩
  ·exact fun h=>h
 ·exact h.elim
def HX(P:Program)(id:Nat)(o:AOp)(e:Env)(H:aA)(nx:Nat)(R:D->aA->Nat->Prop):Prop:=
 match o with
 | .store n g a x=>∃i b,LB H e (.store n g a x)=some (i,b)/\R .dead (H.set i b) nx
 | .append n s x=>∃dl m k rows,IX H e (.append n s x)=some (dl,m,k,rows)/\k<=2147483647/\ ∀cap,k<=cap->amE (s.ev e)<=cap->R (.one (.c (.osl m id 0 k cap))) ((VR H dl).set id ⟨m,cap,rows⟩) nx
 | .call f args=>aB P f (args.map (·.ev e)) H nx R
 | .t5 g args=>∃f caps,g.ev e= .one (.c (.clo f caps))/\aB P f (args.map (·.ev e)++caps.map fun d=>.one (.c d)) H nx R
 | .xop k args=>xl P id H nx R k (args.map (·.ev e))
 |_=>False
theorem wX{P:Program}{id:Nat}{o:AOp}{e:Env}{H:aA}{nx:Nat}{R R':D->aA->Nat->Prop}(h:HX P id o e H nx R)(a: ∀r H' nx',nx<=nx'->R r H' nx'->R' r H' nx'):HX P id o e H nx R':=by
 unfold HX at*;split at h;·obtain⟨i,g,b,c⟩:=h;exact⟨i,g,b,a _ _ _ (m5 _) c⟩
 ·obtain⟨dl,m,k,rows,b,c,j⟩:=h;exact⟨dl,m,k,rows,b,c,fun cap hc d=>a _ _ _ (m5 _) (j cap hc d)⟩
 ·exact h.mono a
 ·obtain⟨f,caps,b,c⟩:=h;exact⟨f,caps,b,c.mono a⟩
 ·exact aoV h a
 ·exact h
section
variable{P:Program}{c:Cf}{H:aA}{T:Nat}{e:Env}{a:Act}
theorem ag1(hs:St c H)(he:ER c T e a){o:Oper}{w:AOp}{d:D}{B:bA}{id:Nat}(l2: ¬c.N id)(f:F3 P o.op=some w)(q:lT id e w=some (d,B)):NT P c H a o id d B:=by
 have h: ∀r,w=r->(match r with| .alloc _| .box .. | .bC .. | .kY .. =>True|_=>False):=by rintro r rfl;unfold lT at q;split at q<;>first|trivial|simp at q
 generalize u:o.op=op at f;unfold F3 at f;split at f;case h_18 t=>simp only[m4] at f;obtain⟨z,j,rfl⟩:=f;exact apL hs l2 u j q
 case h_19 t x=>
  split at f;·rename_i m g y hl v;simp only[Option.some.injEq] at f;subst f;exact asW hs he l2 u v q
  ·simp at f
 case h_20 t len J=>
  split at f
  ·rename_i el n p;split at f
   ·rename_i z j;split at f;·rename_i hc;simp only[m4] at f;obtain⟨qs,A,rfl⟩:=f;exact amD hs he l2 u p j hc.1 hc.2.1 hc.2.2 A q
    ·simp at f
   ·simp at f
  ·simp at f
 case h_21 t l k=>
  split at f
  ·rename_i el n K k' p hl C;split at f
   ·rename_i z j;split at f
    ·rename_i hc;simp only[Option.some.injEq] at f;subst f
     obtain⟨i,hi⟩: ∃i,P.info? el=some i:=by
      unfold zeroOf at j;split at j;·rename_i i hi;exact⟨i,hi⟩
      ·simp at j
     exact ag4 hs he l2 u p j hc.1 hc.2.1 hi (by simpa [Program.bytesOf,hi] using hc.2.2) hl C q
    ·simp at f
   ·simp at f
  ·simp at f
 case h_22 E=>
  obtain⟨callee,args,L⟩:=E;split at f;·rename_i b F;rcases pE f with⟨x,t,y,rfl,rfl,rfl,v,⟨hu,rfl⟩|⟨hu,rfl⟩⟩|⟨x,t,y,el,rfl,rfl,rfl,v,hu,rfl⟩|⟨x,y,x',M,O,rfl,rfl,G,v,rfl⟩|⟨s,x,t,s',x',el,n,rfl,rfl,rfl,I,G,p,Q,j,F,rfl⟩<;>exact(h _ rfl).elim
  ·simp only[m4] at f;obtain⟨l,_,rfl⟩:=f;exact(h _ rfl).elim
  ·split at f;·simp only[Option.some.injEq] at f;subst f;exact(h _ rfl).elim
   ·simp at f
  ·simp at f
 all_goals
  (repeat' (split at f))<;>first
   | (simp at f;done)
   | (simp only[Option.some.injEq] at f;subst f;exact(h _ rfl).elim)
   | (simp only[m4] at f;obtain⟨_,_,rfl⟩:=f;exact(h _ rfl).elim)
variable{op:Op}
theorem ajO{n:Nat}{g:Bool}{x' a:aT}(h:F3 P op=some (.store n g x' a)): ∃t x y,op= .store t x y/\layout P t=some (n,g)/\trO x=some x'/\trO y=some a:=by
 unfold F3 at h;split at h
 case h_6 t x y=>
  split at h;·rename_i m p u v d e f;simp only[Option.some.injEq,AOp.store.injEq] at h;obtain⟨rfl,rfl,rfl,rfl⟩:=h;exact⟨_,_,_,rfl,d,e,f⟩
  ·simp at h
 case h_22 i=>
  obtain⟨callee,args,q⟩:=i;split at h;·rename_i b j;rcases pE h with⟨x,t,y,rfl,rfl,rfl,c,⟨hu,h⟩|⟨hu,h⟩⟩|⟨x,t,y,el,rfl,rfl,rfl,c,hu,h⟩|⟨x,y,x',a,r,rfl,rfl,k,c,h⟩|⟨s,x,t,s',x',el,n,rfl,rfl,rfl,l,k,o,w,z,j,h⟩<;>simp at h
  ·simp at h
  ·split at h<;>simp at h
  ·simp at h
 all_goals
  (repeat' (split at h))<;>simp at h
theorem ahV{n:Nat}{s' x':aT}(h:F3 P op=some (.append n s' x')): ∃t s x el,op= .call {callee:=.builtin .append,args:=#[s,x],argTypes:=#[t,t]}/\d9 P t=some (el,n)/\0<n/\
 (∃z,zeroOf P el=some z)/\P.bytesOf el<=65536/\trO s=some s'/\trO x=some x':=by
 unfold F3 at h
 split at h
 case h_22 g=>
  obtain⟨callee,args,k⟩:=g;split at h
  ·rename_i b a;simp only at a;subst a;rcases pE h with⟨x,t,y,rfl,rfl,rfl,e,⟨hu,h⟩|⟨hu,h⟩⟩|⟨x,t,y,el,rfl,rfl,rfl,e,hu,h⟩|⟨x,y,x',l,m,rfl,rfl,f,e,h⟩|⟨s,x,t,s',x',el,n,rfl,rfl,rfl,c,f,d,i,j,a,h⟩
   ·simp at h
   ·simp at h
   ·simp at h
   ·simp at h
   ·simp only[AOp.append.injEq] at h;obtain⟨rfl,rfl,rfl⟩:=h;exact⟨t,s,x,el,rfl,d,i,j,a,c,f⟩
  ·simp at h
  ·split at h<;>simp at h
  ·simp at h
 all_goals
  (repeat' (split at h))<;>simp at h
theorem apD{f:FuncId}{l:List aT}(h:F3 P op=some (.call f l)): ∃a:Call,op= .call a/\a.callee= .value (.func f)/\a.args.toList.mapM trO=some l:=by
 unfold F3 at h;split at h
 case h_22 a=>
  obtain⟨callee,args,m⟩:=a;split at h;·rename_i b e;rcases pE h with⟨x,t,y,rfl,rfl,rfl,c,⟨hu,h⟩|⟨hu,h⟩⟩|⟨x,t,y,el,rfl,rfl,rfl,c,hu,h⟩|⟨x,y,x',o,p,rfl,rfl,g,c,h⟩|⟨s,x,t,s',x',el,n,rfl,rfl,rfl,i,g,j,q,r,e,h⟩<;>simp at h
  ·rename_i u hc;simp only[m4] at h;obtain⟨v,k,d⟩:=h;simp only[AOp.call.injEq] at d;obtain⟨rfl,rfl⟩:=d;exact⟨_,rfl,hc,k⟩
  ·split at h<;>simp at h
  ·simp at h
 all_goals
  (repeat' (split at h))<;>simp at h
theorem am0{g:aT}{l:List aT}(h:F3 P op=some (.t5 g l)): ∃(a:Call) (x:Operand),op= .call a/\a.callee= .value x/\trO x=some g/\a.args.toList.mapM trO=some l:=by
 unfold F3 at h;split at h
 case h_22 a=>
  obtain⟨callee,args,m⟩:=a;split at h;·rename_i b e;rcases pE h with⟨x,t,y,rfl,rfl,rfl,c,⟨hu,h⟩|⟨hu,h⟩⟩|⟨x,t,y,el,rfl,rfl,rfl,c,hu,h⟩|⟨x,y,x',o,p,rfl,rfl,d,c,h⟩|⟨s,x,t,s',x',el,n,rfl,rfl,rfl,f,d,i,q,r,e,h⟩<;>simp at h
  ·simp at h
  ·rename_i x d hc;split at h;·rename_i y u j k;simp only[Option.some.injEq,AOp.t5.injEq] at h;obtain⟨rfl,rfl⟩:=h;exact⟨_,x,rfl,hc,j,k⟩
   ·simp at h
  ·simp at h
 all_goals
  (repeat' (split at h))<;>simp at h
theorem atO{k:XK}{l:List aT}(h:F3 P op=some (.xop k l)):False:=by
 unfold F3 at h;split at h
 case h_22 c=>
  obtain⟨callee,args,i⟩:=c;split at h;·rename_i b d;rcases pE h with⟨x,t,y,rfl,rfl,rfl,a,⟨hu,h⟩|⟨hu,h⟩⟩|⟨x,t,y,el,rfl,rfl,rfl,a,hu,h⟩|⟨x,y,x',j,m,rfl,rfl,e,a,h⟩|⟨s,x,t,s',x',el,n,rfl,rfl,rfl,f,e,g,o,p,d,h⟩<;>simp at h
  ·simp at h
  ·split at h<;>simp at h
  ·simp at h
 all_goals
  (repeat' (split at h))<;>simp at h
theorem FH(he:ER c T e a): ∀(xs:List Operand) (ys:List aT),xs.mapM trO=some ys->
 (xs.map a.eval).length=ys.length/\ ∀(i:Nat) (d:D) (v:Value),(ys.map (·.ev e))[i]?=some d->(xs.map a.eval)[i]?=some v->fD c d v
 | [],ys,h=>by simp at h;subst h;simp
 |x::xs,ys,h=>by
  simp only[List.mapM_cons,Option.bind_eq_bind,KM,Option.pure_def,Option.some.injEq] at h;obtain⟨y,g,zs,j,rfl⟩:=h;obtain⟨k,l⟩:=FH he xs zs j;refine⟨by simpa using k,fun i d v b f=> ?_⟩
  match i with
  |0=>simp at b f;subst b;subst f;exact lP he g
  |i+1=>exact l i d v (by simpa using b) (by simpa using f)
theorem QY{f:FuncId}(h:qY P f=true)(args:Array Value)(w:World):(callFunc f args).run P w= .ok (.enter f args) w:=by
 unfold qY at h;split at h
 ·rename_i fn hf;simp only[q7,CA] at h;have hb:fn.body.isNone=false:=by cases hbb:fn.body<;>simp[hbb] at h ⊢
  have hname:fn.name≠"runtime.NumGoroutine" :=by simpa using h.2
  have hbody:fn.body≠none:=by intro h0;simp[h0] at hb
  simp[callFunc,hf,hname,hbody]
 ·simp at h
theorem akS(hs:St c H)(he:ER c T e a){o:Oper}{ao:AOp}{id nx:Nat}{R:D->aA->Nat->Prop}(l2: ∀i,c.N i->i<nx)(L: ¬c.N id)(E:F3 P o.op=some ao)(h:HX P id ao e H nx R)
 {next:Act->World->Prop} {Qr:Exit->Act->World->Prop}
 (J: ∀d v c' H' nx',St c' H'->Step c H c' H'->fD c' d v->(∀i,c'.N i->c.N i\/i=id\/(nx<=i/\i<nx'))->nx<=nx'->R d H' nx'->next (a.put o.dst v) c'.w):o.wp P a c.w next Qr:=by
 unfold HX at h
 split at h
 ·obtain⟨t,x,y,q,hl,F,M⟩:=ajO E;obtain⟨i,ob,K,O⟩:=h;obtain⟨c',j,n,u,Q⟩:=apR (P:=P) hs he q hl F M K;unfold Oper.wp;rw[j];exact J .dead undef c' _ nx n u trivial (fun i hi=>.inl ((Q i).1 hi)) (m5 _) O
 ·rename_i n0 s0 x0;obtain⟨t,s,x,el,q,S,hn,hz,hb,F,M⟩:=ahV E;obtain⟨dl,m,k,rows,K,U,O⟩:=h
  have hm:m=n0:=by
   have b:=K;simp only[IX] at b;split at b
   ·split at b
    ·split at b;·simp only[Option.some.injEq,Prod.mk.injEq] at b;exact b.2.1.symm
     ·simp at b
    ·split at b
     ·split at b;·simp only[Option.some.injEq,Prod.mk.injEq] at b;exact b.2.1.symm
      ·simp at b
     ·simp at b
   ·simp at b
  subst hm;obtain⟨cap,v,c',hc,j,n,u,Q,k9⟩:=alG (P:=P) hs he L q S hn hz hb F M U K;unfold Oper.wp;rw[j];exact J _ v c' _ nx n u Q (fun i hi=>((k9 i).1 hi).elim (fun h=>.inr (.inl h)) .inl) (m5 _) (O cap hc.1 hc.2)
 ·obtain⟨p,q,z,l⟩:=apD E;rename_i f args;obtain⟨n,u⟩:=FH he _ _ l;have j:(execOp a.eval o).run P c.w= .ok (.enter f (p.args.toList.map a.eval).toArray) c.w:=by have A:(p.args.toList.map a.eval).toArray=p.args.map a.eval:=(by apply x2;simp);have hf:a.eval (.func f)= .func (.func f) #[] #[]:=rfl;simp only[execOp,q,resolve,z,hf,Deferred.ofValue,Sem.run_bind,Sem.run_pure,Result.andThen_ok,invoke,QY h.1,A];simp
  unfold Oper.wp;rw[j];refine(h.2 c _ hs l2 (by simpa using n) u).mono ?_;rintro x w' ⟨v,c',r,H',nx',rfl,rfl,V,W,X,bOZ,bO0,bO1⟩;exact J r v c' H' nx' V W bO0 (fun i hi=>(X i hi).imp (fun h=>h) .inr) bOZ bO1
 ·obtain⟨p,x,q,z,F,l⟩:=am0 E;rename_i g args;obtain⟨f,caps,hg,hA⟩:=h;obtain⟨n,u⟩:=FH he _ _ l;have Y:=qD he F hg;obtain⟨B,Z,G,aa⟩:=Y;have j:(execOp a.eval o).run P c.w= .ok (.enter f (p.args.toList.map a.eval++B).toArray) c.w:=by have A:(p.args.toList.map a.eval++B).toArray=p.args.map a.eval++B.toArray:=(by apply x2;simp);simp only[execOp,q,resolve,z,Z,Deferred.ofValue,Sem.run_bind,Sem.run_pure,Result.andThen_ok,invoke,QY hA.1,A];simp
  unfold Oper.wp;rw[j];refine(hA.2 c _ hs l2 (by simp[G] at n ⊢;exact n) (fun i d v I C=> ?_)).mono ?_
  ·rw[o5] at I C;have hl:(args.map (·.ev e)).length=(p.args.toList.map a.eval).length:=(by rw[n];simp);split at I;·rename_i hi;rw[if_pos (by omega)] at C;exact u i d v I C
   ·rename_i hi;rw[if_neg (by omega)] at C;simp only[p0,m4] at I;obtain⟨d1,ab,rfl⟩:=I;have:=aa _ d1 v ab (by rw[<-hl] at C;exact C)
    have h0: ∀d x,bY c d x->Rel c d x:=by
     intro d x h
     cases d with
     |clo f caps=>simp only[bY] at h;cases h
     |_=>simp only[Rel];exact h
    exact h0 _ _ this
  ·rintro x w' ⟨v,c',r,H',nx',rfl,rfl,V,W,X,bOZ,bO0,bO1⟩;exact J r v c' H' nx' V W bO0 (fun i hi=>(X i hi).imp (fun h=>h) .inr) bOZ bO1
 ·exact(atO E).elim
 ·exact h.elim
end
structure aY where
 ix:Nat
 dst:Option Nat
 op:AOp
 guard:Option (Nat×Bool)
 mask:List Nat
 amN:List Nat
 look:Bool
def Env.put(e:Env)(dst:Option Nat)(d:D):Env:=
 match dst with
 |some t=>e.set t d
 |none=>e
def vI(g:Option (Nat×Bool))(e:Env):Option Bool:=
 match g with
 |none=>some true
 |some (t,want)=>match e t with
  | .one (.c (.v (.bool x)))=>some (x==want)
  | .tup []=>some false
  |_=>none
def msk(b:Nat)(l:List Nat)(H:aA):aA:=fun i=>if i∈l.map (b+ ·) then none else H i
def dT(b:Nat)(l:List Nat)(H H':aA):aA:=fun i=>if i∈l.map (b+ ·) then H i else H' i
abbrev dJ:=List (Nat×(aA->Prop))
def lU(S:dJ)(l:List Nat)(H:aA):Prop:=∀p∈S,p.1∈l->p.2 H
def entry(b:Nat)(o:aY)(e:Env)(d:D):dJ:=if o.look then [(o.ix,fun H'=>aU (msk b o.mask H') e o.op=some d)] else []
def aop(P:Program)(b:Nat)(o:aY)(e:Env)(H:aA)(nx:Nat)(S:dJ)(K:D->aA->Nat->dJ->Prop):Prop:=
 match o.op.kind with
 | .q _=>∃d,aU (msk b o.mask H) e o.op=some d/\K d H nx (entry b o e d++S)
 | .a=>∃d c,lT (b+o.ix) e o.op=some (d,c)/\K d (H.set (b+o.ix) c) nx S
 | .l=>HX P (b+o.ix) o.op e (msk b o.mask H) nx fun d H' nx'=>lU S o.amN (dT b o.mask H H')/\K d (dT b o.mask H H') nx' S
def l8(P:Program)(b:Nat)(o:aY)(e:Env)(H:aA)(nx:Nat)(S:dJ)(K:D->aA->Nat->dJ->Prop):Prop:=
 match vI o.guard e with
 |some true=>aop P b o e H nx S K
 |some false=>K (.tup []) H nx S
 |none=>False
def avc(P:Program)(b:Nat)(Q:Env->aA->Nat->Prop):List aY->Env->aA->Nat->dJ->Prop
 | [],e,H,nx,_=>Q e H nx
 |o::L,e,H,nx,S=>l8 P b o e H nx S fun d H' nx' S'=>avc P b Q L (e.put o.dst d) H' nx' S'
def aT.tms:aT->List Nat
 | .tm t=>[t]
 |_=>[]
def MQ:Option aT->List Nat
 |some x=>x.tms
 |none=>[]
def AOp.tms:AOp->List Nat
 | .move x| .tF x| .load _ _ x| .fld _ x| .un _ x| .conv _ x| .len _ x| .cap x| .ext x _| .arD x| .field _ _ _ x| .box _ x=>x.tms
 | .pick x y z=>x.tms++y.tms++z.tms
 | .idx _ x y| .TL _ _ x y| .bin _ x y| .beq _ x y| .mmx _ x y| .aoO x y| .kY _ _ x y| .store _ _ x y| .append _ x y=>x.tms++y.tms
 | .slc _ x lo hi mx=>x.tms++MQ lo++MQ hi++MQ mx
 | .sub x lo hi=>x.tms++MQ lo++MQ hi
 | .build _ a| .bC _ _ _ a=>a.flatMap fun p=>p.2.2.tms
 | .alloc _=>[]
 | .call _ l=>l.flatMap aT.tms
 | .t5 x l=>x.tms++l.flatMap aT.tms
 | .xop _ l=>l.flatMap aT.tms
def aY.looks(o:aY):List Nat:=o.op.tms++(match o.guard with|some (t,_)=>[t]|none=>[])
section
variable{P:Program}{b:Nat}{e e':Env}{H:aA}{nx:Nat}
theorem fA{x:aT}(h: ∀t∈x.tms,e t=e' t):x.ev e=x.ev e':=by
 cases x with
 |tm t=>exact h t (by simp[aT.tms])
 |kv x=>cases x<;>rfl
 |fn f=>rfl
theorem xK{x:Option aT}{d:Nat}(h: ∀t∈MQ x,e t=e' t):HD e d x=HD e' d x:=by
 cases x with
 |none=>rfl
 |some x=>simp only[HD];rw[fA (e:=e) (e':=e') h]
theorem EX: ∀(a:List (Nat×Nat×aT)) (cs:List D1),(∀t∈a.flatMap fun p=>p.2.2.tms,e t=e' t)->sH e cs a=sH e' cs a
 | [],_,_=>rfl
 | (off,n,x)::a,cs,h=>by have c:x.ev e=x.ev e':=fA fun t b=>h t (by simp[b]);have d:=fun cs=>EX a cs fun t b=>h t (by simp only[br4,o3];exact .inr b);simp only[sH,c,d]
theorem rP: ∀(l:List aT),(∀t∈l.flatMap aT.tms,e t=e' t)->l.map (·.ev e)=l.map (·.ev e')
 | [],_=>rfl
 |x::l,h=>by simp only[n3];rw[fA (e:=e) (e':=e') fun t a=>h t (by simp[a]),rP l fun t a=>h t (by simp only[br4,o3];exact .inr a)]
theorem FI{o:AOp}(h: ∀t∈o.tms,e t=e' t)(H:aA):aU H e o=aU H e' o:=by
 cases o<;>simp only[AOp.tms,o3,Y8] at h<;>simp only[aU]
 all_goals first
  |rw[fA (e:=e) (e':=e') h]
  |rw[fA (e:=e) (e':=e') fun t a=>h t (.inl a),fA (e:=e) (e':=e') fun t a=>h t (.inr a)]
  |rw[fA (e:=e) (e':=e') fun t a=>h t (.inl (.inl a)),fA (e:=e) (e':=e') fun t a=>h t (.inl (.inr a)),fA (e:=e) (e':=e') fun t a=>h t (.inr a)]
  |skip
 case slc n x lo hi mx=>rw[fA (e:=e) (e':=e') fun t a=>h t (.inl (.inl (.inl a)))];have b:=fun d=>xK (e:=e) (e':=e') (x:=lo) (d:=d) fun t a=>h t (.inl (.inl (.inr a)));have c:=fun d=>xK (e:=e) (e':=e') (x:=hi) (d:=d) fun t a=>h t (.inl (.inr a));have f:=fun d=>xK (e:=e) (e':=e') (x:=mx) (d:=d) fun t a=>h t (.inr a);simp only[b,c,f]
 case sub x lo hi=>rw[fA (e:=e) (e':=e') fun t a=>h t (.inl (.inl a))];have b:=fun d=>xK (e:=e) (e':=e') (x:=lo) (d:=d) fun t a=>h t (.inl (.inr a));have c:=fun d=>xK (e:=e) (e':=e') (x:=hi) (d:=d) fun t a=>h t (.inr a);simp only[b,c]
 case build z g=>rw[EX (e:=e) (e':=e') g z fun t a=>h t (by simpa using a)]
 case xop k l=>rw[rP (e:=e) (e':=e') l fun t a=>h t (by simpa using a)]
theorem NO{o:AOp}{id:Nat}(h: ∀t∈o.tms,e t=e' t):lT id e o=lT id e' o:=by
 cases o<;>simp only[AOp.tms,o3,Y8] at h<;>simp only[lT]
 all_goals first
  |rw[fA (e:=e) (e':=e') h]
  |rw[fA (e:=e) (e':=e') fun t a=>h t (.inl a),fA (e:=e) (e':=e') fun t a=>h t (.inr a)]
  |skip
 case bC n len z b=>rw[EX (e:=e) (e':=e') b _ fun t a=>h t (by simpa using a)]
theorem aeH{o:AOp}{id:Nat}{R:D->aA->Nat->Prop}(h: ∀t∈o.tms,e t=e' t):HX P id o e H nx R=HX P id o e' H nx R:=by
 cases o<;>simp only[AOp.tms,o3,Y8] at h<;>simp only[HX]
 case store n g x y=>
  have b:LB H e (.store n g x y)=LB H e' (.store n g x y):=by simp only[LB];rw[fA (e:=e) (e':=e') fun t a=>h t (.inl a),fA (e:=e) (e':=e') fun t a=>h t (.inr a)]
  rw[b]
 case append n x y=>
  have b:IX H e (.append n x y)=IX H e' (.append n x y):=by simp only[IX];rw[fA (e:=e) (e':=e') fun t a=>h t (.inl a),fA (e:=e) (e':=e') fun t a=>h t (.inr a)]
  rw[b,fA (e:=e) (e':=e') (x:=x) fun t a=>h t (.inl a)]
 case call f l=>rw[rP (e:=e) (e':=e') l fun t a=>h t (by simpa using a)]
 case t5 x l=>rw[rP (e:=e) (e':=e') l fun t a=>h t (.inr (by simpa using a)),fA (e:=e) (e':=e') fun t a=>h t (.inl a)]
 case xop k l=>rw[rP (e:=e) (e':=e') l fun t a=>h t (by simpa using a)]
theorem Q7{o:AOp}(h:o.kind= .q false)(H H':aA):aU H e o=aU H' e o:=by cases o<;>first|rfl| (simp[AOp.kind] at h;done)
theorem Q5{g:Option (Nat×Bool)}(h: ∀t w,g=some (t,w)->e t=e' t):vI g e=vI g e':=by
 cases g with
 |none=>rfl
 |some p=>obtain⟨t,w⟩:=p;simp only[vI];rw[h t w rfl]
theorem NU{o:aY}{d:D}(h: ∀t∈o.op.tms,e t=e' t):entry b o e d=entry b o e' d:=by
 unfold entry;have:(fun H'=>aU (msk b o.mask H') e o.op=some d)=fun H'=>aU (msk b o.mask H') e' o.op=some d:=by funext H';rw[FI h]
 rw[this]
theorem JW{o:aY}{S:dJ}{K:D->aA->Nat->dJ->Prop}(h: ∀t∈o.looks,e t=e' t):l8 P b o e H nx S K=l8 P b o e' H nx S K:=by
 have a: ∀t∈o.op.tms,e t=e' t:=fun t c=>h t (by simp[aY.looks,c]);have d:vI o.guard e=vI o.guard e':=Q5 fun t w f=>h t (by simp[aY.looks,f]);unfold l8;rw[d];split
 ·unfold aop;split;·simp only[FI a,NU a]
  ·simp only[NO a]
  ·rw[aeH a]
 ·rfl
 ·rfl
theorem MH{o:aY}{S:dJ}{K g:D->aA->Nat->dJ->Prop}(h:l8 P b o e H nx S K)(c: ∀d H' nx' S',K d H' nx' S'->g d H' nx' S'):l8 P b o e H nx S g:=by
 unfold l8 at*;split at h
 ·unfold aop at*;split at h;·obtain⟨d,a,f⟩:=h;exact⟨d,a,c _ _ _ _ f⟩
  ·obtain⟨d,i,a,f⟩:=h;exact⟨d,i,a,c _ _ _ _ f⟩
  ·exact wX h fun d H' nx' _ a=>⟨a.1,c _ _ _ _ a.2⟩
 ·exact c _ _ _ _ h
 ·exact h
theorem BD{Q:Env->aA->Nat->Prop}: ∀(L:List aY) (e:Env) (H:aA) (nx:Nat) (S S':dJ),(∀p∈S',p∈S)->avc P b Q L e H nx S->avc P b Q L e H nx S'
 | [],_,_,_,_,_,_,h=>h
 |o::L,e,H,nx,S,S',hs,h=>by
  simp only[avc] at h ⊢;unfold l8 at*;split at h
  ·unfold aop at*;split at h
   ·obtain⟨d,a,c⟩:=h;refine⟨d,a,BD L _ _ _ _ _ (fun p hp=> ?_) c⟩;rcases o3.1 hp with f|f;·exact o3.2 (.inl f)
    ·exact o3.2 (.inr (hs p f))
   ·obtain⟨d,g,a,c⟩:=h;exact⟨d,g,a,BD L _ _ _ _ _ hs c⟩
   ·exact wX h fun d H' nx' _ a=>⟨fun p hp=>a.1 p (hs p hp),BD L _ _ _ _ _ hs a.2⟩
  ·exact BD L _ _ _ _ _ hs h
  ·exact h
theorem WC{e:Env}{dst:Option Nat}{d:D}{t:Nat}(h:dst≠some t):e.put dst d t=e t:=by
 cases dst with
 |none=>rfl
 |some u=>simp only[Env.put,Env.set];rw[if_neg (by rintro rfl;exact h rfl)]
theorem put_comm{e:Env}{x y:Option Nat}{d a:D}(h: ∀t,x=some t->y≠some t):(e.put x d).put y a=(e.put y a).put x d:=by
 cases x with
 |none=>rfl
 |some t=>
  cases y with
  |none=>rfl
  |some u=>have b:t≠u:=fun he=>h t rfl (he▸rfl);funext i;simp only[Env.put,Env.set];by_cases c:i=t<;>by_cases f:i=u<;>simp_all
end
def Kind.Q0:Kind->Bool
 | .l=>true
 |_=>false
def Kind.SB:Kind->Bool
 | .a=>true
 |_=>false
def Kind.xP:Kind->Bool
 | .q true=>true
 |_=>false
def comm(l o:aY):Bool:=
 !l.op.kind.Q0&&(l.dst.all fun t=> !o.looks.contains t&&o.dst != some t)&&(o.dst.all fun t=> !l.looks.contains t)&&
 (!(l.op.kind.xP&&o.op.kind.Q0)||(l.look&&o.amN.contains l.ix))&&
 (!(l.op.kind.xP&&o.op.kind.SB)||l.mask.contains o.ix)&&
 (!(l.op.kind.SB&&(o.op.kind.xP||o.op.kind.Q0))||o.mask.contains l.ix)&&l.ix != o.ix
structure Comm(l o:aY):Prop where
 quiet:l.op.kind.Q0=false
 d1: ∀t,l.dst=some t->t∉o.looks
 d2: ∀t,l.dst=some t->o.dst≠some t
 d3: ∀t,o.dst=some t->t∉l.looks
 rl:l.op.kind.xP=true->o.op.kind.Q0=true->l.look=true/\l.ix∈o.amN
 rm:l.op.kind.xP=true->o.op.kind.SB=true->o.ix∈l.mask
 mo:l.op.kind.SB=true->(o.op.kind.xP=true\/o.op.kind.Q0=true)->l.ix∈o.mask
 ne:l.ix≠o.ix
theorem agL{l o:aY}(h:comm l o=true):Comm l o:=by
 simp only[comm,q7,CB,CA,bne_iff_ne,ne_eq,Y9,Option.all_eq_true,boI] at h;obtain⟨⟨⟨⟨⟨⟨e,d⟩,f⟩,k9⟩,l1⟩,bOW⟩,bO2⟩:=h;refine⟨e,fun t c=> ?_,fun t c=> ?_,fun t c=> ?_,fun a b=> ?_,fun a b=> ?_,fun a b=> ?_,bO2⟩;·have:=(d t c).1;simpa using this
 ·exact(d t c).2
 ·have:=f t c;simpa using this
 ·rcases k9 with(h|h)|h;·rw[a] at h;cases h
  ·rw[b] at h;cases h
  ·exact h
 ·rcases l1 with(h|h)|h;·rw[a] at h;cases h
  ·rw[b] at h;cases h
  ·exact h
 ·rcases bOW with(h|h)|h;·rw[a] at h;cases h
  ·simp at h;rcases b with b|b;·rw[h.1] at b;cases b
   ·rw[h.2] at b;cases b
  ·exact h
section
variable{P:Program}{b:Nat}{e:Env}{H:aA}{nx:Nat}{Q:Env -> aA -> Nat -> Prop}
theorem NQ{b i:Nat}{l:List Nat}:b+i∈l.map (b+ ·)↔i∈l:=by simp only[CF];exact⟨fun⟨j,a,c⟩=>(show j=i by omega)▸a,fun h=>⟨i,h,rfl⟩⟩
theorem PK{l:List Nat}{i:Nat}{a:bA}(h:i∈l):msk b l (H.set (b+i) a)=msk b l H:=by
 funext j;unfold msk aA.set;split;·rfl
 ·rename_i c;rw[if_neg (by rintro rfl;exact c (NQ.2 h))]
theorem agM{l:List Nat}{i:Nat}{a:bA}{H':aA}(h:i∈l):dT b l (H.set (b+i) a) H'=(dT b l H H').set (b+i) a:=by
 funext j;unfold dT aA.set;by_cases c:j=b+i;·subst c;rw[if_pos (NQ.2 h)];simp
 ·simp only[if_neg c]
theorem set_comm{i j:Nat}{x y:bA}(h:i≠j):(H.set i x).set j y=(H.set j y).set i x:=by funext k;unfold aA.set;by_cases a:k=i<;>by_cases b:k=j<;>simp_all
theorem ahP{l o:aY}(hc:Comm l o){d:D}(hr: ∃r,l.op.kind= .q r)(i:aU (msk b l.mask H) e l.op=some d){S:dJ}{K:D->aA->Nat->dJ->Prop}
 (h:l8 P b o e H nx (entry b l e d++S) K):
 l8 P b o e H nx S fun g H2 j t=>aU (msk b l.mask H2) e l.op=some d/\ ∃n,K g H2 j n/\ ∀p∈entry b l e d++t,p∈n:=by
 obtain⟨r,hr⟩:=hr
 have a: ∀H2:aA,l.op.kind.xP=false->aU (msk b l.mask H2) e l.op=some d:=by
  intro H2 s
  have:l.op.kind= .q false:=by
   rw[hr] at s ⊢
   cases r with
   |false=>rfl
   |true=>simp[Kind.xP] at s
  rw[Q7 this _ (msk b l.mask H)];exact i
 unfold l8 at*
 split at h
 ·unfold aop at*;split at h
  ·obtain⟨g,f,k⟩:=h;refine⟨g,f,i,_,k,fun p hp=> ?_⟩;simp only[o3] at hp ⊢;rcases hp with h|h|h;·exact .inr (.inl h)
   ·exact .inl h
   ·exact .inr (.inr h)
  ·rename_i m;obtain⟨g,u,f,k⟩:=h;refine⟨g,u,f,?_,_,k,fun p hp=>hp⟩;by_cases c:l.op.kind.xP=true;·rw[PK (hc.rm c (by rw[m];rfl))];exact i
   ·exact a _ (by simpa using c)
  ·rename_i m;refine wX h fun g H' nx' _ f=>⟨fun p hp=>f.1 p (o3.2 (.inr hp)),?_,_,f.2,fun p hp=>hp⟩
   by_cases c:l.op.kind.xP=true;·obtain⟨v,w⟩:=hc.rl c (by rw[m];rfl);exact f.1 (l.ix,fun H'=>aU (msk b l.mask H') e l.op=some d) (o3.2 (.inl (by simp[entry,v]))) w
   ·exact a _ (by simpa using c)
 ·exact⟨i,_,h,fun p hp=>hp⟩
 ·exact h
theorem adX{l o:aY}(hc:Comm l o)(hm:l.op.kind= .a){f:bA}{S:dJ}(q: ∀p∈S,∀H f,p.2 (H.set (b+l.ix) f)->p.2 H){K:D->aA->Nat->dJ->Prop}
 (h:l8 P b o e (H.set (b+l.ix) f) nx S K):l8 P b o e H nx S fun d H2 k s=>K d (H2.set (b+l.ix) f) k s:=by
 have g:l.op.kind.SB=true:=by rw[hm];rfl
 unfold l8 at*
 split at h
 ·unfold aop at*;split at h
  ·rename_i r i;obtain⟨d,c,m⟩:=h;refine⟨d,?_,m⟩
   cases r with
   |true=>rw[PK (hc.mo g (.inl (by rw[i];rfl)))] at c;exact c
   |false=>rw[Q7 i _ (msk b o.mask H)] at c;exact c
  ·rename_i i;obtain⟨d,n,c,m⟩:=h;refine⟨d,n,c,?_⟩;show K _ _ _ _;rw[set_comm (by have:=hc.ne;omega)];exact m
  ·rename_i i;have j:=hc.mo g (.inr (by rw[i];rfl));rw[PK j] at h;refine wX h fun d H' nx' _ c=> ?_;rw[agM j] at c;exact⟨fun p hp t=>q p hp _ f (c.1 p hp t),c.2⟩
 ·exact h
 ·exact h
theorem amL{o:aY}{S:dJ}{K:D->aA->Nat->dJ->Prop}(h:l8 P b o e H nx S K):
 (vI o.guard e=some false/\K (.tup []) H nx S)\/(vI o.guard e=some true/\((∃r d,o.op.kind= .q r/\aU (msk b o.mask H) e o.op=some d/\K d H nx (entry b o e d++S))\/
  (∃d f,o.op.kind= .a/\lT (b+o.ix) e o.op=some (d,f)/\K d (H.set (b+o.ix) f) nx S)\/o.op.kind= .l)):=by
 unfold l8 at h
 split at h
 ·rename_i g;refine .inr ⟨g,?_⟩;unfold aop at h;split at h;·rename_i r c;obtain⟨d,i,j⟩:=h;exact .inl ⟨r,d,c,i,j⟩
  ·rename_i c;obtain⟨d,f,i,j⟩:=h;exact .inr (.inl ⟨d,f,c,i,j⟩)
  ·rename_i c;exact .inr (.inr c)
 ·rename_i g;exact .inl ⟨g,h⟩
 ·exact h.elim
theorem swap{l o:aY}(hc:Comm l o){L:List aY}{S:dJ}(B:l.op.kind= .a->∀p∈S,∀H x,p.2 (H.set (b+l.ix) x)->p.2 H)(h:avc P b Q (l::o::L) e H nx S):
 avc P b Q (o::l::L) e H nx S:=by
 have k: ∀d,∀t∈o.looks,(e.put l.dst d) t=e t:=fun d t n=>WC fun q=>hc.d1 t q n
 have s: ∀d,∀t∈l.looks,e t=(e.put o.dst d) t:=fun d t n=>(WC fun q=>hc.d3 t q n).symm
 have c: ∀d,∀t∈l.op.tms,e t=(e.put o.dst d) t:=fun d t n=>s d t (by simp[aY.looks,n])
 have y: ∀d,vI l.guard (e.put o.dst d)=vI l.guard e:=fun d=>(Q5 fun t w q=>s d t (by simp[aY.looks,q])).symm
 have m: ∀d f,(e.put l.dst d).put o.dst f=(e.put o.dst f).put l.dst d:=fun d f=>put_comm hc.d2
 simp only[avc] at h ⊢
 rcases amL h with⟨g,i⟩|⟨g,⟨r,d,j,z,i⟩|⟨d,x,j,z,i⟩|j⟩
 ·rw[JW (k _)] at i;refine MH i fun f H2 u A v=> ?_;unfold l8;rw[y,g];show avc P b Q L _ _ _ _;rw[<-m];exact v
 ·rw[JW (k d)] at i;refine MH (ahP hc ⟨r,j⟩ z i) fun f H2 u A ⟨v,C,k9,l1⟩=> ?_;unfold l8;rw[y,g];unfold aop;rw[j];refine⟨d,by rw[<-FI (c f)];exact v,?_⟩;show avc P b Q L _ _ _ _;rw[<-m,<-NU (c f)];exact BD _ _ _ _ _ _ l1 k9
 ·rw[JW (k d)] at i;refine MH (adX hc j (B j) i) fun f H2 u A v=> ?_;unfold l8;rw[y,g];unfold aop;rw[j];refine⟨d,x,by rw[<-NO (c f)];exact z,?_⟩;show avc P b Q L _ _ _ _;rw[<-m];exact v
 ·have:=hc.quiet;rw[j] at this;simp[Kind.Q0] at this
def WG(b:Nat)(S:dJ)(L:List aY):Prop:=∀l∈L,l.op.kind= .a->∀p∈S,∀H c,p.2 (H.set (b+l.ix) c)->p.2 H
def MA(q l:aY):Bool:= !(q.look&&l.op.kind.SB)||q.mask.contains l.ix
theorem QS{q l:aY}(hm:MA q l=true)(g:l.op.kind= .a){d:D}: ∀p∈entry b q e d,∀H f,p.2 (H.set (b+l.ix) f)->p.2 H:=by
 intro p hp H f h;unfold entry at hp;split at hp
 ·rename_i hl;simp only[CJ] at hp;subst hp;have c:l.ix∈q.mask:=by simp only[MA,hl,g,Kind.SB,Bool.and_self,Z1,Bool.false_or,Y9] at hm;exact hm
  simp only at h ⊢;rw[PK c] at h;exact h
 ·simp at hp
theorem pull{o:aY}{L:List aY}: ∀(pre:List aY) (e:Env) (H:aA) (nx:Nat) (S:dJ),(∀l∈pre,Comm l o)->(pre++o::L).Pairwise (fun q l=>MA q l=true)->WG b S (pre++o::L)->
 avc P b Q (pre++o::L) e H nx S->avc P b Q (o::(pre++L)) e H nx S
 | [],_,_,_,_,_,_,_,h=>h
 |l::pre,e,H,nx,S,hc,hp,n,h=>by
  have j:=G0.1 hp
  have r:avc P b Q (l::o::(pre++L)) e H nx S:=by
   simp only[List.cons_append,avc] at h ⊢
   have c: ∀d H' nx' S',(∀p∈S',p∈S\/p∈entry b l e d)->avc P b Q (pre++o::L) (e.put l.dst d) H' nx' S'->avc P b Q (o::(pre++L)) (e.put l.dst d) H' nx' S':=by
    intro d H' nx' S' hs g;refine pull pre _ _ _ _ (fun k f=>hc k (by simp[f])) j.2 (fun k f m p a=> ?_) g;rcases hs p a with i|i;·exact n k (by simp only[List.cons_append,t3];exact .inr f) m p i
    ·exact QS (j.1 k f) m p i
   unfold l8 at*;split at h
   ·unfold aop at*;split at h;·obtain⟨d,g,i⟩:=h;exact⟨d,g,c d _ _ _ (fun p a=>(o3.1 a).symm) i⟩
    ·obtain⟨d,s,g,i⟩:=h;exact⟨d,s,g,c d _ _ _ (fun p a=>.inl a) i⟩
    ·exact wX h fun d H' nx' _ g=>⟨g.1,c d _ _ _ (fun p a=>.inl a) g.2⟩
   ·exact c _ _ _ _ (fun p a=>.inl a) h
   ·exact h
  exact swap (hc l (by simp)) (fun m=>n l (by simp) m) r
end
def ab3(P:Program)(f:Field)(i:Nat):Bool:=f.name != "_" &&f.offset==i&&(match P.underlying f.type with|some (.int .i64)=>true|_=>false)
def CZ(P:Program):Nat->List Field->Bool
 |_,[]=>true
 |i,f::r=>ab3 P f i&&CZ P (i+1) r
def GI(P:Program)(t:TypeId):Option Nat:=
 match P.underlying t with
 |some (.struct a)=>if P.stoodInHeld t=false/\P.eqGuardType P.depth t=false/\CZ P 0 a.toList=true then some a.size else none
 |_=>none
def lD(l:List Int):List Value:=l.map fun n=>Value.int .i64 n
section
variable{P:Program}
theorem NP{f:Field}{i:Nat}(h:ab3 P f i=true):f.name≠"_" /\f.offset=i/\P.underlying f.type=some (.int .i64):=by
 unfold ab3 at h;simp only[q7,bne_iff_ne,ne_eq,beq_iff_eq] at h;obtain⟨⟨h1,h2⟩,h3⟩:=h;refine⟨h1,h2,?_⟩;split at h3;·assumption
 ·cases h3
variable{t:TypeId}
theorem SN(w:World)(hu:P.underlying t=some (.int .i64)){xs:Array Value}{i:Nat}{a:List Int}{x:Int}(h:xs.toList.drop i=lD (x::a)):(part t xs i).run P w= .ok (.int .i64 x) w/\xs.toList.drop (i+1)=lD a:=by
 have b:xs.toList[i]?=some (.int .i64 x):=by have:=congrArg (·[0]?) h;simpa [lD] using this
 refine⟨?_,?_⟩;·rw[Y7] at b;simp[part,isAgg,run_underlying hu,b]
 ·have:=congrArg (List.drop 1) h;rw[Y2] at this;simpa [lD] using this
theorem IB(w:World)(d:Nat)(xs ys:Array Value): ∀(c:List Field) (i:Nat) (a b:List Int),CZ P i c=true->xs.toList.drop i=lD a->ys.toList.drop i=lD b->a.length=c.length->b.length=c.length->
 (Op.eqFields (d+1) xs ys c).run P w= .ok (decide (a=b)) w
 | [],i,a,b,_,_,_,e,g=>by rw[H4.1 e,H4.1 g];simp[Op.eqFields]
 |f::c,i,[],b,_,_,_,e,_=>by simp at e
 |f::c,i,x::a,[],_,_,_,_,g=>by simp at g
 |f::c,i,x::a,y::b,j,l,m,e,g=>by
  simp only[CZ,q7] at j;obtain⟨n,o,k⟩:=NP j.1;obtain⟨p,q⟩:=SN w k l;obtain⟨r,s⟩:=SN w k m;have t:=IB w d xs ys c (i+1) a b j.2 q s (by simpa using e) (by simpa using g);simp only[Op.eqFields,n,o,ne_eq,not_false_eq_true,if_true,Sem.run_bind,p,r,Result.andThen_ok,run_equalIn_int w d f.type .i64 .i64 x y k];by_cases h:x=y;·subst h;simp[t]
  ·simp[h]
theorem CN{n:Nat}(h:GI P t=some n): ∃a:Array Field,P.underlying t=some (.struct a)/\P.fieldsOf t=a/\P.stoodInHeld t=false/\P.eqGuardType P.depth t=false/\CZ P 0 a.toList=true/\a.size=n:=by
 unfold GI at h;split at h
 ·rename_i a hu;split at h;·rename_i hc;exact⟨a,hu,by simp[Program.fieldsOf,hu],hc.1,hc.2.1,hc.2.2,by simpa using h⟩
  ·cases h
 ·cases h
theorem SW(w:World){n:Nat}(h:GI P t=some n){a b:List Int}(d:a.length=n)(e:b.length=n):(Op.equal t (.agg (lD a).toArray) (.agg (lD b).toArray)).run P w= .ok (decide (a=b)) w:=by obtain⟨f,g,c,i,_,l1,bOW⟩:=CN h;have bO2:=run_equalIn_struct w 9999 t (lD a).toArray (lD b).toArray (by rw[c];exact g) i;rw[c,IB w 9998 _ _ f.toList 0 a b l1 (by simp) (by simp) (by simpa using d.trans bOW.symm) (by simpa using e.trans bOW.symm)] at bO2;exact bO2
theorem KY(w:World)(em:Bool)(hu:P.underlying t=some (.int .i64))(d:Nat)(x:Int):(Instr.checkKey em (d+1) t (.int .i64 x)).run P w= .ok () w:=by simp[Instr.checkKey,run_underlying hu]
theorem TY(w:World)(em:Bool){n:Nat}(h:GI P t=some n){a:List Int}(ha:a.length=n):(Instr.checkKey em 10000 t (.agg (lD a).toArray)).run P w= .ok () w:=by
 obtain⟨fs,h1,_,_,_,l1,bOW⟩:=CN h
 have key: ∀(L:List Field) (i:Nat) (xs:Array Value) (b:List Int),CZ P i L=true->xs.toList.drop i=lD b->b.length=L.length->
  (forIn L PUnit.unit fun f _=>do
   if f.name≠"_" then Instr.checkKey em 9999 f.type (<-part f.type xs f.offset)
   pure (ForInStep.yield PUnit.unit):Sem PUnit).run P w= .ok PUnit.unit w:=by
  intro L
  induction L with
  |nil=>intro i xs b _ _ _;simp
  |cons f L ih=>
   intro i xs b hf hx hb
   match b,hb with
   |x::b,hb=>simp only[CZ,q7] at hf;obtain⟨g1,g2,g3⟩:=NP hf.1;obtain⟨p1,q1⟩:=SN w g3 hx;have:=ih (i+1) xs b hf.2 q1 (by simpa using hb);simp only[List.forIn_cons,Sem.run_bind,g1,g2,ne_eq,not_false_eq_true,if_true,p1,Result.andThen_ok,KY w em g3 9998 x,Sem.run_pure];exact this
 have:=key fs.toList 0 (lD a).toArray a l1 (by simp) (by simpa using ha.trans bOW.symm);rw[show (10000:Nat)=9999+1 from rfl,Instr.checkKey];simp only[Sem.run_bind,run_underlying h1,Result.andThen_ok];rw[<-Array.forIn_toList];simp at this ⊢;rw[this];rfl
def lkM:List (List Int×Int)->List Int->Nat->Option (Nat×Int)
 | [],_,_=>none
 |p::r,l,i=>if l=p.1 then some (i,p.2) else lkM r l (i+1)
def CD(kn:Nat)(bl:Bool)(p:List Int×Int):Value×Value:=(pJ kn p.1,elemV bl p.2)
def ZJ(P:Program)(t:TypeId):Option Nat:=
 match P.underlying t with
 |some (.int .i64)=>some 0
 |_=>match GI P t with
  |some n=>if n=0 then none else some n
  |none=>none
theorem V6{kn:Nat}(h:ZJ P t=some kn):(kn=0/\P.underlying t=some (.int .i64))\/(0<kn/\GI P t=some kn):=by
 unfold ZJ at h;split at h;·rename_i hu;cases h;exact .inl ⟨rfl,hu⟩
 ·split at h
  ·rename_i n a;split at h;·cases h
   ·rename_i b;cases h;exact .inr ⟨Nat.pos_of_ne_zero b,a⟩
  ·cases h
variable{l:List Int}
theorem YV(h:l.length=1):l=[l.headD 0]:=by
 match l,h with
 | [x],_=>rfl
theorem DU(w:World){t:TypeId}{kn:Nat}(k:0<kn)(h:GI P t=some kn){bl:Bool}{l:List Int}(hl:l.length=kn): ∀(es:List MapEntry) (m:List (List Int×Int)) (i:Nat),(es.map fun e=>(e.key,e.val))=m.map (CD kn bl)->(∀p∈m,p.1.length=kn)->
 (Instr.findAsking t (pJ kn l) es i).run P w= .ok ((lkM m l i).map fun q=>(q.1,elemV bl q.2)) w
 | [],[],i,_,_=>by simp[Instr.findAsking,lkM]
 | [],p::m,i,hm,_=>by simp at hm
 |e::es,[],i,hm,_=>by simp at hm
 |e::es,p::m,i,hm,g=>by
  simp only[n3,List.cons.injEq,CD,Prod.mk.injEq] at hm;obtain⟨⟨n,o⟩,r⟩:=hm;have c: ¬kn=0:=by omega
  have he:=SW w h (a:=l) (b:=p.1) hl (g p (by simp));have d:pJ kn l= .agg (lD l).toArray:=by simp[pJ,c,lD]
  have f:e.key= .agg (lD p.1).toArray:=by rw[n];simp[pJ,c,lD]
  have j:=DU w k h (bl:=bl) hl es m (i+1) r fun q s=>g q (by simp[s]);simp only[Instr.findAsking,Sem.run_bind,lkM];rw[f,d,he];rw[d] at j;by_cases heq:l=p.1;·simp[heq,o]
  ·simp[heq,j]
theorem NK{bl:Bool}{l:List Int}(hl:l.length=1): ∀(es:List MapEntry) (m:List (List Int×Int)) (i:Nat),(es.map fun e=>(e.key,e.val))=m.map (CD 0 bl)->(∀p∈m,p.1.length=1)->
 Instr.findNow (.int .i64) (pJ 0 l) es i=some ((lkM m l i).map fun q=>(q.1,elemV bl q.2))
 | [],[],i,_,_=>by simp[Instr.findNow,lkM]
 | [],p::m,i,hm,_=>by simp at hm
 |e::es,[],i,hm,_=>by simp at hm
 |e::es,p::m,i,hm,a=>by
  simp only[n3,List.cons.injEq,CD,Prod.mk.injEq] at hm;obtain⟨⟨b,c⟩,d⟩:=hm;have f:=NK (bl:=bl) hl es m (i+1) d fun q g=>a q (by simp[g]);have h:=YV hl;have j:=YV (a p (by simp));simp only[Instr.findNow,lkM];have hs:Instr.sameNow (.int .i64) (pJ 0 l) e.key=some (decide (l=p.1)):=by rw[b,h,j];simp only[pJ,if_true,Instr.sameNow,List.headD_cons,List.cons.injEq,and_true];rfl
  rw[hs];by_cases heq:l=p.1;·simp[heq,c]
  ·simp only[heq,decide_false,if_false];exact f
theorem J6(w:World){kn:Nat}(h:ZJ P t=some kn){bl:Bool}(hl:l.length=zV kn){es:List MapEntry}{m:List (List Int×Int)}(hm:(es.map fun e=>(e.key,e.val))=m.map (CD kn bl))(a: ∀p∈m,p.1.length=zV kn):
 (Instr.findKey t (pJ kn l) es).run P w= .ok ((lkM m l 0).map fun q=>(q.1,elemV bl q.2)) w:=by
 rcases V6 h with⟨rfl,hu⟩|⟨f,c⟩
 ·have:=NK (bl:=bl) (l:=l) (by simpa [zV] using hl) es m 0 hm (by simpa [zV] using a);simp only[Instr.findKey,Sem.run_bind,run_underlying hu,Result.andThen_ok,this,Sem.run_pure]
 ·have b:zV kn=kn:=by unfold zV;rw[if_neg (by omega)]
  rw[b] at hl a;have g:=DU w f c (bl:=bl) hl es m 0 hm a;obtain⟨i,d,_⟩:=CN c
  match es,m,hm with
  | [],[],_=>simp only[Instr.findKey,Sem.run_bind,run_underlying d,Result.andThen_ok,Instr.findNow,Sem.run_pure,lkM,Option.map_none]
  |e::es,m,hm=>have j:Instr.findNow (.struct i) (pJ kn l) (e::es) 0=none:=(by simp[Instr.findNow,Instr.sameNow]);simp only[Instr.findKey,Sem.run_bind,run_underlying d,Result.andThen_ok,j];exact g
theorem H6(w:World)(em:Bool){kn:Nat}(h:ZJ P t=some kn)(hl:l.length=zV kn):(Instr.checkKey em 10000 t (pJ kn l)).run P w= .ok () w:=by
 rcases V6 h with⟨rfl,hu⟩|⟨d,b⟩
 ·simp only[pJ,if_true];exact KY w em hu 9999 _
 ·have c:zV kn=kn:=by unfold zV;rw[if_neg (by omega)]
  have a:pJ kn l= .agg (lD l).toArray:=by simp[pJ,show ¬kn=0 by omega,lD]
  rw[a];exact TY w em b (by omega)
theorem XW(l:List Int):((lD l).zip (lD l)).all (fun(x,y)=>Instr.sameBits 9999 x y)=true:=by
 induction l with
 |nil=>rfl
 |cons x l a=>simp only[lD,n3,List.zip_cons_cons,List.all_cons];rw[show (Instr.sameBits 9999 (Value.int .i64 x) (Value.int .i64 x))=true by simp[Instr.sameBits]];exact a
theorem afA(w:World){kn:Nat}:(Instr.keyThatStays (pJ kn l) (pJ kn l)).run P w= .ok (pJ kn l) w:=by
 have:Instr.sameBits 10000 (pJ kn l) (pJ kn l)=true:=by
  unfold pJ;split;·simp[Instr.sameBits]
  ·have:=XW l;simp only[lD] at this;simp only[Instr.sameBits,beq_self_eq_true,Bool.true_and];exact this
 simp[Instr.keyThatStays,this]
def getM(m:List (List Int×Int))(l:List Int):Option Int:=(lkM m l 0).map (·.2)
theorem aaL: ∀(m:List (List Int×Int)) (l:List Int) (i:Nat),(lkM m l i).map (·.2)=jT m l
 | [],l,i=>rfl
 |p::m,l,i=>by
  simp only[lkM,jT,List.find?_cons];by_cases h:l=p.1;·simp[h]
  ·simp only[h,if_false,decide_false];exact aaL m l (i+1)
theorem anX(m:List (List Int×Int))(l:List Int):getM m l=jT m l:=aaL m l 0
theorem WR: ∀(m:List (List Int×Int)) (l:List Int) (n:Int) (i:Nat),lkM m l i=none->vA m l n=m++[(l,n)]
 | [],l,n,i,_=>rfl
 |p::m,l,n,i,h=>by
  simp only[lkM] at h;split at h;·cases h
  ·rename_i a;simp only[vA,a,if_false,List.cons_append];rw[WR m l n (i+1) h]
theorem WB: ∀(m:List (List Int×Int)) (l:List Int) (n:Int) (i:Nat) (q:Nat×Int),lkM m l i=some q->∃j,q.1=i+j/\j<m.length/\m[j]?=some (l,q.2)/\vA m l n=m.set j (l,n)
 | [],l,n,i,q,h=>by cases h
 |p::m,l,n,i,q,h=>by
  simp only[lkM] at h;split at h;·rename_i heq;cases h;exact⟨0,rfl,by simp,by simp[heq],by simp[vA,heq]⟩
  ·rename_i a;obtain⟨j,c,d,b,k9⟩:=WB m l n (i+1) q h;exact⟨j+1,by omega,by simp;omega,by simpa using b,by simp[vA,a,k9]⟩
theorem al3{m:List (List Int×Int)}{n:Int}{k:Nat}(h: ∀p∈m,p.1.length=k)(hl:l.length=k): ∀p∈vA m l n,p.1.length=k:=by
 induction m with
 |nil=>intro p hp;simp[vA] at hp;subst hp;exact hl
 |cons p m b=>
  intro q a;simp only[vA] at a;split at a
  ·rcases t3.1 a with rfl|a;·exact hl
   ·exact h q (by simp[a])
  ·rcases t3.1 a with rfl|a;·exact h _ (by simp)
   ·exact b (fun p hp=>h p (by simp[hp])) q a
theorem PT{x:mH}:x.rows=x.m.map (CD x.kn x.bl):=rfl
theorem adZ(w:World){a c:TypeId}{b:Nat}{x:mH}(hu:P.underlying t=some (.map a c))(d:ZJ P a=some x.kn)(e:(zeroValue c).run P w= .ok (elemV x.bl 0) w)(hm:NZ w.heap[b]? x)(hl:l.length=zV x.kn)(ok:Bool):
 (Instr.lookup t (.map (some b)) (pJ x.kn l) ok).run P w= .ok (if ok then .tuple #[elemV x.bl ((getM x.m l).getD 0),.bool (getM x.m l).isSome] else elemV x.bl ((getM x.m l).getD 0)) w:=by
 obtain⟨es,clock,f,g,h⟩:=hm
 have i:=J6 w d hl (es:=es.toList) (m:=x.m) (by rw[g];rfl) h
 have hc:=H6 w es.isEmpty d hl
 have j:(getObj b).run P w= .ok (.map es clock) w:=by simp[getObj,Sem.run,f]
 simp only[Instr.lookup,Sem.run_bind,run_underlying hu,Result.andThen_ok,j,Sem.run_pure,hc,i]
 unfold getM
 cases lkM x.m l 0 with
 |none=>cases ok<;>simp[e]
 |some q=>cases ok<;>simp
theorem acU(w:World){v E:TypeId}{b:Nat}{x:mH}(hu:P.underlying t=some (.map v E))(y:ZJ P v=some x.kn)(hm:NZ w.heap[b]? x)(hl:l.length=zV x.kn)(n:Int):
 ∃d a,(Instr.mapUpdate t (.map (some b)) (pJ x.kn l) (elemV x.bl n)).run P w= .ok () {w with heap:=w.heap.set! b (.map d a)}/\NZ (some (.map d a)) ⟨x.kn,x.bl,vA x.m l n⟩:=by
 obtain⟨es,clock,z,h,A⟩:=hm
 have B:=J6 w y hl (es:=es.toList) (m:=x.m) (by rw[h];rfl) A
 have hc:=H6 w false y hl
 have C:(getObj b).run P w= .ok (.map es clock) w:=by simp[getObj,Sem.run,z]
 have f:mH.ok ⟨x.kn,x.bl,vA x.m l n⟩:=al3 A hl
 have c: ∀o:Obj,(setObj b o).run P w= .ok () {w with heap:=w.heap.set! b o}:=fun o=>by obtain⟨p,bO3⟩:=C4.1 z;simp[setObj,Sem.run,p,bO3]
 cases k:lkM x.m l 0 with
 |none=>
  refine⟨es.push ⟨pJ x.kn l,elemV x.bl n,clock⟩,clock+1,?_,_,_,rfl,?_,f⟩;·simp only[Instr.mapUpdate,Sem.run_bind,run_underlying hu,Result.andThen_ok,C,hc,B,k,Option.map_none,c]
  ·simp only[Array.toList_push,bqX,h,PT,WR x.m l n 0 k,n3,q0,CD]
 |some q=>
  obtain⟨j,G,F,D,bO4⟩:=WB x.m l n 0 q k;have r:es[j]?.map (fun e=>(e.key,e.val))=some (pJ x.kn l,elemV x.bl q.2):=by have:=congrArg (·[j]?) h;simp only[p0,PT,D,Option.map_some,CD] at this;rw[Y7] at this;exact this
  have s:(es[j]?.map (·.key)).getD (pJ x.kn l)=pJ x.kn l:=by
   cases he:es[j]? with
   |none=>rfl
   |some e=>rw[he] at r;simp at r;simp[r.1]
  have u:q.1=j:=by omega
  refine⟨es.modify j fun e=>{e with key:=pJ x.kn l,val:=elemV x.bl n},clock,?_,_,_,rfl,?_,f⟩;·simp only[Instr.mapUpdate,Sem.run_bind,run_underlying hu,Result.andThen_ok,C,hc,B,k,Option.map_some,u,s,afA,c]
  ·simp only[Array.toList_modify,PT,bO4];apply bGR;intro i;have hi:=congrArg (·[i]?) h;simp only[p0,PT] at hi;simp only[p0,List.getElem?_modify,D0];by_cases g:j=i
   ·subst g;simp only[if_true,F]
    cases he:es.toList[j]? with
    |none=>rw[he,D] at hi;simp at hi
    |some e=>simp[CD]
   ·simp only[g,if_false]
    cases he:es.toList[i]? with
    |none=>rw[he] at hi;simpa using hi
    |some e=>rw[he] at hi;simpa using hi
end
def aq1(P:Program)(b:Builtin)(args:List Operand)(a:List TypeId):Option AOp:=
 match b,args,a with
 | .len,[x],[t]=>match P.underlying t,trO x with
   |some (.map _ _),some x=>some (.xop .sS [x])
   |_,_=>none
 | .copy,[x,y],[t,_]=>match d9 P t,trO x,trO y with
   |some (_,n),some x,some y=>some (.xop (.copy n) [x,y])
   |_,_,_=>none
 | .clear,[x],[t]=>match d9 P t,trO x with
   |some (el,n),some x=>match zeroOf P el with
    |some z=>if z.length=n then some (.xop (.clear n z) [x]) else none
    |none=>none
   |_,_=>none
 |_,_,_=>none
def ap3(P:Program)(t:TypeId):Option Bool:=
 match P.info? t with
 |some i=>match i.zero with
  |some (.bool false)=>some true
  |some (.int .i64 0)=>some false
  |_=>none
 |none=>none
def RC(P:Program)(t:TypeId):Option (Nat×Bool):=
 match P.underlying t with
 |some (.map a b)=>match ZJ P a,ap3 P b with
  |some kn,some bl=>some (kn,bl)
  |_,_=>none
 |_=>none
def trX(P:Program):Op->Option AOp
 | .makeFunc (.func f) first caps=>if first.size=0 then (caps.toList.mapM trO).map (.xop (.zI f)) else none
 | .binOp .eql t x (.const (.slice none 0 0)) _=>match P.underlying t,trO x with
   |some (.slice _),some y=>some (.xop (.qJ false) [y])
   |_,_=>none
 | .binOp .neq t x (.const (.slice none 0 0)) _=>match P.underlying t,trO x with
   |some (.slice _),some y=>some (.xop (.qJ true) [y])
   |_,_=>none
 | .binOp .eql t x y _=>match GI P t,trO x,trO y with
   |some n,some x,some y=>some (.xop (.aeq false n) [x,y])
   |_,_,_=>none
 | .binOp .neq t x y _=>match GI P t,trO x,trO y with
   |some n,some x,some y=>some (.xop (.aeq true n) [x,y])
   |_,_,_=>none
 | .makeMap t none=>(RC P t).map fun p=>.xop (.DS p.1 p.2) []
 | .lookup t x k ok=>match RC P t,trO x,trO k with
   |some p,some x,some k=>some (.xop (.rA p.1 p.2 ok) [x,k])
   |_,_,_=>none
 | .mapUpdate t x k v=>match RC P t,trO x,trO k,trO v with
   |some p,some x,some k,some v=>some (.xop (.vM p.1 p.2) [x,k,v])
   |_,_,_,_=>none
 | .call a=>match a.callee with
   | .builtin b=>aq1 P b a.args.toList a.argTypes.toList
   |_=>none
 |_=>none
def trE(P:Program):Op->Option AOp
 | .call a=>match a.callee with
   | .value (.func f)=>match P.funcs[f]? with
     |some fn=>if fn.body.isNone then (a.args.toList.mapM trO).map (.xop (.aaN f)) else none
     |none=>none
   |_=>none
 |_=>none
def LC(P:Program)(op:Op):AOp:=
 match trE P op with
 |some o=>o
 |none=>match F3 P op with
  |some o=>o
  |none=>match trX P op with
   |some o=>o
   |none=>.xop .bad []
section
variable{P:Program}{c:Cf}{H:aA}{T:Nat}{e:Env}{a:Act}
theorem KS: ∀(a:List D) (caps:List D1),G2 a=some caps->a=caps.map (fun d=>.one (.c d))/\ ∀(d:D1) (x:Value),d∈caps->Rel c d x->bY c d x
 | [],caps,h=>by simp only[G2,Option.some.injEq] at h;subst h;simp
 |d::a,caps,h=>by
  unfold G2 at h;split at h;·rename_i heq;cases heq
  ·cases h
  ·rename_i o r g heq;simp only[m4] at h;obtain⟨cs,i,rfl⟩:=h;simp only[List.cons.injEq] at heq;obtain⟨j,k⟩:=heq;subst k;obtain⟨l,m⟩:=KS a cs i;refine⟨by simp[j,l],fun d x b e=> ?_⟩;rcases t3.1 b with rfl|b
   ·cases d with
    |clo f n=>exact(g f n rfl).elim
    |_=>simpa only[Rel] using e
   ·exact m d x b e
  ·cases h
variable{o:Oper}
theorem apN(he:ER c T e a){f:FuncId}{first caps:Array Operand}{l:List aT}{d:D}(j:o.op= .makeFunc (.func f) first caps)(k:first.size=0)(hl:caps.toList.mapM trO=some l)
 (g:xq (.zI f) (l.map (·.ev e))=some d):kF P c a o d:=by
 simp only[xq,m4] at g
 obtain⟨cs,m,rfl⟩:=g
 obtain⟨n,p⟩:=FH he _ _ hl
 obtain⟨k9,l1⟩:=KS (c:=c) _ _ m
 have b:first= #[]:=by apply Array.eq_empty_of_size_eq_zero k
 refine⟨.func (.func f) #[] (caps.toList.map a.eval).toArray,?_,?_⟩
 ·have:(caps.toList.map a.eval).toArray=caps.map a.eval:=by apply x2;simp
  simp[execOp,j,b,Instr.makeFunc,this]
 ·refine⟨_,rfl,?_,fun i d u h hu=> ?_⟩;·have:=congrArg List.length k9;simp at this n ⊢;omega
  ·have:=p i (.one (.c d)) u (by rw[k9];simp[h]) hu;exact l1 d u (s3 h) this
variable{t:TypeId}{x:Operand}
theorem L2{neg:Bool}{el:TypeId}{g:TypeId}{A:Option Addr}{len cap:Nat}(b:o.op= .binOp (if neg then .neq else .eql) t x (.const (.slice none 0 0)) g)
 (hu:P.underlying t=some (.slice el)) (e:a.eval x= .slice A len cap):(execOp a.eval o).run P c.w= .ok (.value (.bool (if neg then A.isSome else A.isNone))) c.w:=by
 have heq:(Op.equal t (.slice A len cap) (.slice none 0 0)).run P c.w= .ok A.isNone c.w:=by
  have: ∀d,(Op.equalIn (d+1) t (.slice A len cap) (.slice none 0 0)).run P c.w= .ok A.isNone c.w:=fun d=>by cases A<;>simp only[Op.equalIn,Sem.run_bind,run_underlying hu,Result.andThen_ok,Sem.run_pure]<;>rfl
  exact this 9999
 have f: ∀v,a.eval (.const v)=v:=fun _=>rfl
 cases neg
 ·simp only[execOp,b,e,f,CC,if_false,eqGuard,binOp,Sem.run_bind,Result.andThen_ok,Sem.run_pure];simp[heq]
 ·simp only[execOp,b,e,f,if_true,eqGuard,binOp,Sem.run_bind,Result.andThen_ok,Sem.run_pure];cases A<;>simp[heq]
def ZH(P:Program)(c:Cf)(a:Act)(o:Oper)(H H':aA)(d:D)(id:Nat):Prop:=∃v c',(execOp a.eval o).run P c.w= .ok (.value v) c'.w/\St c' H'/\Step c H c' H'/\fD c' d v/\ ∀i,c'.N i->c.N i\/i=id
theorem alW{d:D}{k:Nat}(h:apP d=some k){x:Value}(hr:fD c d x): ∃A cap,x= .slice A k cap/\k<=cap/\ ∀j,j<=k->fD c (WT j d) (.slice A j cap):=by
 unfold apP at h;split at h
 ·rename_i rows;cases h;simp only[fD,jZ,Rel,bY] at hr
  cases hr with
  |isl _ A cap n b o f y a z hc g=>
   refine⟨A,cap,rfl,a,fun j v=> ?_⟩;simp only[WT,fD,jZ,Rel,bY];have hl:(rows.take j).length=j:=by simp;omega
   have l: ∀(i:Nat) (r:List D1),(rows.take j)[i]?=some r->rows[i]?=some r:=by
    intro i r hr;rw[s4] at hr;split at hr;·exact hr
    ·cases hr
   have key:=Imm.isl (I:=c.I) (w:=c.w) (rows.take j) A cap n b o f (fun p=>y (by rintro rfl;simp at p)) (by omega) (fun i r h=>z i r (l i r h)) (fun i k r d e q=>hc i k r d (l i r e) q) (fun i k r d e q=>g i k r d (l i r e) q);rw[hl] at key;exact key
 ·rename_i m id off len cap;simp only[Option.some.injEq] at h;subst h;simp only[fD,jZ,Rel,bY] at hr;obtain⟨s,⟨t,A,rfl⟩|⟨t,e,rfl⟩⟩:=hr;·have u:len=0:=(by omega);subst u;refine⟨A,0,rfl,m5 _,fun j v=> ?_⟩;have:j=0:=(by omega);subst this;simp only[WT,fD,jZ,Rel,bY];exact⟨by omega,.inl ⟨t,A,rfl⟩⟩
  ·refine⟨_,cap,rfl,s,fun j v=> ?_⟩;simp only[WT,fD,jZ,Rel,bY];exact⟨by omega,.inr ⟨t,e,by first|rfl|trivial⟩⟩
 ·cases h
variable{x':aT}
theorem arN(hs:St c H)(he:ER c T e a){t' el:TypeId}{y:Operand}{y':aT}{n d k id:Nat}{ob:bA}(ho:o.op= .call {callee:=.builtin .copy,args:=#[x,y],argTypes:=#[t,t']})
 (O:d9 P t=some (el,n)) (hx:trO x=some x') (hy:trO y=some y') (f:VX H n (x'.ev e) (y'.ev e)=some (d,ob,k)):ZH P c a o H (H.set d ob) (.one (.c (.v (.int .i64 k)))) id:=by
 obtain⟨hu,D,_⟩:=lI O c.w
 generalize Q:x'.ev e=dx at f
 unfold VX at f
 split at f
 ·rename_i m ad off len cap;split at f
  ·rename_i g ls E R;split at f
   ·rename_i new F;split at f
    ·rename_i hc;obtain⟨e1,e2,hn,S,G,aa⟩:=hc;cases f;obtain⟨A,cy,U,_,r⟩:=alW R (lP he hy);obtain⟨B,cx,news,I,s,V⟩:=abP (P:=P) hs hn F (r (min ls len) (Nat.min_le_left _ _));simp only[Value.slice.injEq] at I;obtain⟨rfl,j,rfl⟩:=I;have l:Nat.min ls len=min ls len:=rfl;have p:=V c.w rfl;rw[<-j] at p;have J:(Builtin.firstCells n (min ls len) (.slice A ls cy)).run P c.w= .ok news.toArray c.w:=by rw[<-p];cases A<;>rfl
     have W:news=[]->g.rows=wr g.rows off new:=fun h=>by have C:new.length*n=0:=(by rw[<-s.len,h];rfl);have K:new=[]:=CE ((Nat.mul_eq_zero.1 C).resolve_right (by omega));simp[wr,K]
     have u:=qD he hx Q;simp only[Rel,bY] at u;subst e1;subst e2
     have X: ∃c' q,a.eval x= .slice q len cap/\(match q with|some bw8=>(storeCells bw8 news).run P c.w= .ok () c'.w|none=>c'=c)/\St c' (H.set d ⟨g.n,g.ext,wr g.rows off new⟩)/\Step c H c' (H.set d ⟨g.n,g.ext,wr g.rows off new⟩)/\ ∀i,c'.N i↔c.N i:=by
      by_cases hz:min ls len=0
      ·have z:news=[]:=CE (by rw[s.len,<-j,hz,Nat.zero_mul])
       have bO5:H.set d ⟨g.n,g.ext,wr g.rows off new⟩=H:=by
        funext i;simp only[aA.set,<-W z];split;·rename_i h;rw[h];exact E.symm
        ·rfl
       rw[bO5];obtain⟨ae,⟨Y,q,b⟩|⟨_,_,b⟩⟩:=u;·refine⟨c,q,by rw[b,show len=0 by omega,Y],?_,hs,Step.refl ..,fun i=>brL⟩;subst z;cases q<;>rfl
       ·refine⟨c,_,b,?_,hs,Step.refl ..,fun i=>brL⟩;subst z;rfl
      ·obtain⟨ab,L⟩:=S.resolve_right hz;obtain⟨_,⟨h0,_⟩|⟨_,af,b⟩⟩:=u;·omega
       ·obtain⟨c',C,K,Z,k9⟩:=SS (P:=P) hs E L G hn s (by omega);exact⟨c',_,b,C,K,Z,k9⟩
     obtain⟨c',q,b,C,K,Z,k9⟩:=X;refine⟨.int .i64 (min ls len:Nat),c',?_,K,Z,oU,fun i hi=>.inl ((k9 i).1 hi)⟩
     have M:(Builtin.copy_ #[t,t'] o.type #[.slice q len cap,.slice A ls cy]).run P c.w= .ok (.int .i64 (min ls len:Nat)) c'.w:=by
      cases q with
      |none=>subst C;simp only[Builtin.copy_,CH,List.getElem?_cons_zero,List.getElem?_cons_succ,Sem.run_bind,run_underlying hu,Result.andThen_ok,Builtin.lenOf,Sem.run_pure,D,l,J];rfl
      |some bw8=>simp only[Builtin.copy_,CH,List.getElem?_cons_zero,List.getElem?_cons_succ,Sem.run_bind,run_underlying hu,Result.andThen_ok,Builtin.lenOf,Sem.run_pure,D,l,J,C];rfl
     simp only[execOp,ho,resolve,invoke,builtin,Sem.run_bind,Sem.run_pure,Result.andThen_ok,C1,n3,q0,b,U,M]
    ·cases f
   ·cases f
  ·cases f
 ·cases f
theorem F6{n k:Nat}{z:List D1}{a:Array Value}(l:rU c z a.toList)(p:0<n)(b:z.length=n):y8 c n (List.replicate k z) (Builtin.zeroCells a k).toList:=by
 have e:a.size=n:=by have:=l.1;simp at this;omega
 have f: ∀i,i<k*n->(Builtin.zeroCells a k).toList[i]?=some (a[i%n]!):=by intro i hi;simp[Builtin.zeroCells,e,hi]
 refine⟨by simp[Builtin.zeroCells,e],fun i r hr=> ?_,fun i j r d g m=> ?_⟩
 ·rw[boJ] at hr;split at hr;·cases hr;exact b
  ·cases hr
 ·rw[boJ] at g;split at g;·rename_i hi;cases g;have o:j<n:=(by rw[<-b];exact(m3.1 m).1);refine⟨_,f _ (M7 o hi),?_⟩;have hm:(i*n+j)%n=j:=(by rw[w1,Nat.mul_add_mod,C9 o]);rw[hm];have h:j<a.size:=(by omega);apply l.2 j d _ m;simp[h]
  ·cases g
theorem aoJ(hs:St c H)(he:ER c T e a){el:TypeId}{z:List D1}{n b id:Nat}{D:bA}(G:o.op= .call {callee:=.builtin .clear,args:=#[x],argTypes:=#[t]})
 (r:d9 P t=some (el,n)) (I:zeroOf P el=some z) (s:z.length=n) (J:trO x=some x') (d:MN H n z (x'.ev e)=some (b,D)):ZH P c a o H (H.set b D) (.tup []) id:=by
 obtain⟨hu,K,_⟩:=lI r c.w
 obtain⟨L,u,v,M,N,_⟩:=mF (c:=c) I c.w
 generalize y:x'.ev e=X at d
 unfold MN at d
 split at d
 ·rename_i m O off len cap;split at d
  ·rename_i Q A;split at d
   ·rename_i hc;obtain⟨R,S,E,F,f,g,h⟩:=hc;cases d;have j:=qD he J y;simp only[Rel,bY] at j;obtain⟨_,⟨Y,_⟩|⟨_,U,B⟩⟩:=j;·omega
    ·subst R;subst S;have C:=F6 (k:=len) v E s;obtain⟨c',q,V,W,k9⟩:=SS (P:=P) hs A f g E C (by simpa using h);have l:fD c' (.tup []) (.tuple #[]):=⟨[],rfl,rfl,by simp⟩
     refine⟨.tuple #[],c',?_,V,W,l,fun i hi=>.inl ((k9 i).1 hi)⟩
     have p:(Builtin.clear_ #[t] o.type #[.slice (some ⟨(c.ρ b).1,(c.ρ b).2+off*Q.n,none⟩) len cap]).run P c.w= .ok (.tuple #[]) c'.w:=by
      cases len with
      |zero=>have:Builtin.zeroCells L.cells 0= #[]:=(by simp[Builtin.zeroCells]);rw[this] at q;simp[storeCells] at q;simp[Builtin.clear_,run_underlying hu,<-q]
      |succ k=>simp only[Builtin.clear_,CH,List.getElem?_cons_zero,Sem.run_bind,run_underlying hu,Result.andThen_ok,u,q,Sem.run_pure]
     simp only[execOp,G,resolve,invoke,builtin,Sem.run_bind,Sem.run_pure,Result.andThen_ok,C1,n3,q0,B,p]
   ·cases d
  ·cases d
 ·cases d
theorem G4: ∀{cs:List D1} {l:List Int} {vs:List Value},xY cs=some l->rU c cs vs->vs=lD l/\l.length=cs.length
 | [],l,vs,h,hr=>by simp only[xY,Option.some.injEq] at h;subst h;have:=hr.1;simp only[List.length_nil,H4] at this;exact⟨this,rfl⟩
 |d::cs,l,vs,h,hr=>by
  unfold xY at h;split at h;·rename_i heq;cases heq
  ·rename_i n r heq;cases heq;simp only[m4] at h;obtain⟨l0,f,rfl⟩:=h
   match vs,hr with
   | [],hr=>simp[rU] at hr
   |v::vs,hr=>have g:=x6 (hr.2 0 _ v rfl rfl);have e:=G4 f (vs:=vs) ⟨by have:=hr.1;simpa using this,fun i d u a b=>hr.2 (i+1) d u (by simpa using a) (by simpa using b)⟩;exact⟨by rw[g,e.1];rfl,by simp[e.2]⟩
  ·cases h
theorem asT(he:ER c T e a){neg:Bool}{s:TypeId}{n:Nat}{y:Operand}{q:aT}{d:D}(u:o.op= .binOp (if neg then .neq else .eql) t x y s)(r:GI P t=some n)(v:trO x=some x')(z:trO y=some q)
 (f:xq (.aeq neg n) ([x',q].map (·.ev e))=some d):kF P c a o d:=by
 simp only[n3,q0] at f
 unfold xq at f
 split at f
 ·rename_i k;cases k
 ·rename_i F m xs ys k i;cases k;simp only[List.cons.injEq,and_true] at i;obtain⟨i,A⟩:=i;unfold eqD at f;split at f
  ·rename_i l p B C;split at f;·rename_i hc;simp only[Option.some.injEq] at f;subst f;have rx:=lP he v;have j:=lP he z;rw[i] at rx;rw[A] at j;obtain⟨vs,g,rx⟩:=rx;obtain⟨us,h,j⟩:=j;obtain⟨bO6,bO7⟩:=G4 B rx;obtain⟨bO8,bO9⟩:=G4 C j;rw[bO6] at g;rw[bO8] at h;obtain⟨G,_,_,_,E,_⟩:=CN r;have heq:=SW (P:=P) c.w r (a:=l) (b:=p) (by omega) (by omega);refine⟨.bool (if neg then decide (¬l=p) else decide (l=p)),?_,IS rfl⟩;cases neg<;>simp[execOp,u,g,h,eqGuard,E,binOp,heq,bne]
   ·cases f
  ·cases f
 ·cases f
variable{p:Nat×Bool}
theorem WO(h:RC P t=some p): ∃c d,P.underlying t=some (.map c d)/\ZJ P c=some p.1/\ ∀w:World,(zeroValue d).run P w= .ok (elemV p.2 0) w:=by
 unfold RC at h;split at h
 ·rename_i c d hu;split at h
  ·rename_i kn bl e a;cases h;refine⟨c,d,hu,e,fun w=> ?_⟩;unfold ap3 at a;split at a
   ·rename_i i hi;split at a;·rename_i b;cases a;simp[zeroValue,typeInfo,hi,b,elemV]
    ·rename_i b;cases a;simp[zeroValue,typeInfo,hi,b,elemV]
    ·cases a
   ·cases a
  ·cases h
 ·cases h
theorem SG(hs:St c H){i:Nat}{x:mH}(h:I7 H i=some x): ∃o,H i=some o/\o.n=0/\o.rows=[]/\0<o.ext/\NZ c.w.heap[(c.ρ i).1]? x:=by
 unfold I7 at h
 cases a:H i with
 |none=>rw[a] at h;cases h
 |some o=>
  rw[a] at h;simp only[Option.bind_some,anD] at h;split at h;·rename_i hc;cases h;obtain⟨d,e,f⟩:=hc;have b:=hs.blk i o a f;unfold yW at b;rw[if_pos ⟨d,e⟩] at b;exact⟨o,rfl,d,e,f,b⟩
  ·cases h
theorem aaY(hs:St c H)(he:ER c T e a){d f:TypeId}{i id:Nat}{m:mH}(g:o.op= .call {callee:=.builtin .len,args:=#[x],argTypes:=#[t]})(hu:P.underlying t=some (.map d f))(l:trO x=some x')
 (b:a.eval x= .map (some i)) (bPA:NZ c.w.heap[i]? m):ZH P c a o H H (.one (.c (.v (.int .i64 m.m.length)))) id:=by
 obtain⟨es,clock,h,j,_⟩:=bPA
 have k:Sem.run P (getObj i) c.w= .ok (.map es clock) c.w:=by simp[getObj,Sem.run,h]
 have hl:es.size=m.m.length:=by have:=congrArg List.length j;simpa [mH.rows] using this
 refine⟨.int .i64 m.m.length,c,?_,hs,Step.refl c H,IS rfl,fun i hi=>.inl hi⟩
 simp[execOp,g,resolve,invoke,builtin,b,Builtin.len_,run_underlying hu,goInt,k,hl]
theorem UY(t:TypeId)(w:World):(Instr.makeMap t none).run P w= .ok (.map (some w.heap.size)) (w.alloc (.map #[] 0)):=rfl
theorem anO(hs:St c H){id:Nat}(l2: ¬c.N id)(J:o.op= .makeMap t none)(_ht:RC P t=some p):ZH P c a o H (H.set id (u4 ⟨p.1,p.2,[]⟩)) (.one (.c (.omap id))) id:=by
 obtain⟨bPB,e⟩: ∃bPB:Cf,bPB=c.named id c.w.heap.size 0 (c.w.alloc (.map #[] 0)):=⟨_,rfl⟩
 have hold: ∀b,b<c.w.heap.size->(c.w.alloc (.map #[] 0)).heap[b]?=c.w.heap[b]?:=fun b x=>Below.heap_alloc _ _ _ x;have A:(c.w.alloc (.map #[] 0)).heap[c.w.heap.size]?=some (.map #[] 0):=by show (c.w.heap.push _)[_]?=_;simp
 have f:bPB.w=c.w.alloc (.map #[] 0):=by rw[e];rfl
 have l: ∀j,c.N j->bPB.ρ j=c.ρ j:=by intro j K;rw[e];simp only[Cf.named];rw[if_neg (by rintro rfl;exact l2 K)]
 have g:bPB.ρ id=(c.w.heap.size,0):=by rw[e];simp[Cf.named]
 have n: ∀j o',H j=some o'->0<o'.ext->(c.ρ j).1<c.w.heap.size:=fun j o' q v=>(hs.blk j o' q v).lt
 have s:Step c H bPB (H.set id (u4 ⟨p.1,p.2,[]⟩)):={
  ρ:=l
  N:=fun _ h=>by rw[e];exact .inr h
  I:=fun _ h=>by rw[e];exact h
  I':=fun _ h=>by rw[e] at h;exact .inl h
  size:=by rw[f];simp
  os:=by rw[f];rfl
  tape:=by rw[f];rfl
  output:=by rw[f];rfl
  frame:=fun b x _=>by rw[f];exact hold b x
  own:=by
   rintro b ⟨j,o',q,v,y⟩;rcases bG q with⟨rfl,rfl⟩|⟨m,q⟩
   ·right;rw[g] at y;omega
   ·left;exact⟨j,o',q,v,by rw[l j (hs.named j o' q)] at y;exact y⟩}
 refine⟨.map (some c.w.heap.size),bPB,?_,?_,s,?_,fun i hi=> ?_⟩;·rw[f];simp only[execOp,J,Option.map_none,Sem.run_bind,UY,Result.andThen_ok,Sem.run_pure]
 ·refine {named:= ?_,wf:= ?_,blk:= ?_,cells:= ?_,sep:= ?_,imm:= ?_,old:= ?_}
  ·intro j o' h;rcases bG h with⟨rfl,rfl⟩|⟨m,h⟩
   ·rw[e];exact .inl rfl
   ·rw[e];exact .inr (hs.named j o' h)
  ·intro j o' h;rcases bG h with⟨rfl,rfl⟩|⟨m,h⟩
   ·exact⟨by simp[u4],by simp[u4]⟩
   ·exact hs.wf j o' h
  ·intro j o' h he;rcases bG h with⟨rfl,rfl⟩|⟨m,h⟩
   ·rw[g,f];unfold yW;rw[if_pos ⟨rfl,rfl⟩];refine⟨#[],0,A,?_,?_⟩;·simp[u4,yH,mH.rows]
    ·simp[u4,yH,mH.ok]
   ·have:=hs.blk j o' h he;rw[<-hold _ (n j o' h he),<-l j (hs.named j o' h),<-f] at this;exact this
  ·intro j o' i k r d h q v;rcases bG h with⟨rfl,rfl⟩|⟨m,h⟩
   ·simp[u4] at q
   ·obtain⟨u,y,k9⟩:=hs.cells j o' i k r d h q v;refine⟨u,?_,k9.step s hs⟩;rw[l j (hs.named j o' h),f,<-y];exact World.cell?_of_block (w:=c.w) (hold _ (World.block_lt_of_cell? c.w _ y))
  ·intro j z B C q v F G m;rcases bG q with⟨rfl,rfl⟩|⟨L,D⟩<;>rcases bG v with⟨rfl,rfl⟩|⟨M,E⟩
   ·exact absurd rfl m
   ·rw[l z (hs.named z C E),g];have:=n z C E G;simp only;omega
   ·rw[l j (hs.named j B D),g];have:=n j B D F;simp only;omega
   ·rw[l j (hs.named j B D),l z (hs.named z C E)];exact hs.sep j z B C D E F G m
  ·intro j o' h he;rcases bG h with⟨rfl,rfl⟩|⟨m,h⟩
   ·rw[g,e];intro bOV;have:=hs.old _ bOV;simp only at this;omega
   ·rw[l j (hs.named j o' h),e];exact hs.imm j o' h he
  ·intro b x;rw[e] at x;have:=hs.old b x;rw[f];show _<(c.w.heap.push _).size;simp only[Array.size_push];omega
 ·simp only[fD,jZ,Rel,bY];rw[g];exact⟨by rw[e];exact .inl rfl,rfl⟩
 ·rw[e] at hi;rcases hi with h|h;·exact .inr h
  ·exact .inl h
theorem aaE(he:ER c T e a){k:Operand}{k':aT}{kn:Nat}{l:List Int}(f:trO k=some k')(h:OA kn (k'.ev e)=some l)(hl:l.length=zV kn):a.eval k=pJ kn l:=by
 have hr:=lP he f;unfold OA at h;split at h
 ·rename_i cs b;split at h;·cases h
  ·rename_i d;rw[b] at hr;obtain⟨vs,g,hr⟩:=hr;obtain⟨bO6,bO7⟩:=G4 h hr;rw[g,bO6];simp[pJ,d,lD]
 ·rename_i n i;split at h;·rename_i j;cases h;rw[xU he f i];simp[pJ,j]
  ·cases h
 ·cases h
theorem ah7(he:ER c T e a){v:Operand}{f:aT}{bl:Bool}{n:Int}(g:trO v=some f)(h:S4 bl (f.ev e)=some n):a.eval v=elemV bl n:=by
 unfold S4 at h;split at h
 ·rename_i b i;split at h;·rename_i d;cases h;rw[xU he g i,d];cases b<;>rfl
  ·cases h
 ·rename_i m hm;split at h;·cases h
  ·rename_i d;cases h;rw[xU he g hm];simp[elemV,d]
 ·cases h
theorem aaR(hs:St c H)(he:ER c T e a){ok:Bool}{k:Operand}{k':aT}{i id:Nat}{m:mH}{l:List Int}(A:o.op= .lookup t x k ok)(B:RC P t=some p)(E:trO x=some x')(C:trO k=some k')
 (h:a.eval x= .map (some i)) (bPA:NZ c.w.heap[i]? m) (j:m.kn=p.1) (s:m.bl=p.2) (hl:OA p.1 (k'.ev e)=some l) (y:l.length=zV p.1):
 ZH P c a o H H (if ok then .tup [.c (.v (elemV p.2 ((jT m.m l).getD 0))),.c (.v (.bool (jT m.m l).isSome))] else .one (.c (.v (elemV p.2 ((jT m.m l).getD 0))))) id:=by
 obtain⟨F,G,hu,q,D⟩:=WO B
 have b:=adZ c.w hu (x:=m) (by rw[j];exact q) (by rw[s];exact D c.w) bPA (l:=l) (by rw[j];exact y) ok
 rw[anX,j,s] at b
 have r:=aaE he C hl y
 have z: ∀n:Int,(elemV p.2 n).oneCell'=true:=fun n=>by unfold elemV;split<;>rfl
 refine⟨if ok then .tuple #[elemV p.2 ((jT m.m l).getD 0),.bool (jT m.m l).isSome] else elemV p.2 ((jT m.m l).getD 0),c,?_,hs,Step.refl c H,?_,fun i hi=>.inl hi⟩
 ·simp only[execOp,A,h,r,b,Sem.run_bind,Result.andThen_ok,Sem.run_pure]
 ·cases ok;·exact IS (z _)
  ·refine⟨[_,_],rfl,rfl,fun i d u f g=> ?_⟩
   match i with
   |0=>simp at f g;subst f;subst g;exact IS (z _)
   |1=>simp at f g;subst f;subst g;exact IS rfl
   |i+2=>simp at f
theorem ak9(hs:St c H)(he:ER c T e a){k v:Operand}{k' v':aT}{i:Nat}{m:mH}{l:List Int}{n:Int}(ho:o.op= .mapUpdate t x k v)(ht:RC P t=some p)(hx:trO x=some x')(hk:trO k=some k')(Y:trO v=some v')
 (hv:x'.ev e= .one (.c (.omap i))) (hm:I7 H i=some m) (Z:m.kn=p.1) (g2:m.bl=p.2) (hl:OA p.1 (k'.ev e)=some l) (g3:l.length=zV p.1) (hn:S4 p.2 (v'.ev e)=some n):
 alN P c H a o i (u4 ⟨p.1,p.2,vA m.m l n⟩):=by
 have hr:=qD he hx hv
 simp only[Rel,bY] at hr
 obtain⟨Q,A,_,aa,y,bPA⟩:=SG hs hm
 obtain⟨kt,et,hu,ab,hz⟩:=WO ht
 obtain⟨R,z,K,S⟩:=acU c.w hu (x:=m) (by rw[Z];exact ab) bPA (l:=l) (by rw[Z];exact g3) n
 rw[Z,g2] at K S
 have ad:=aaE he hk hl g3
 have ae:=ah7 he Y hn
 obtain⟨bPB,f⟩: ∃bPB:Cf,bPB= {c with w:={c.w with heap:=c.w.heap.set! (c.ρ i).1 (.map R z)}}:=⟨_,rfl⟩
 have af:(c.ρ i).1<c.w.heap.size:=(hs.blk i Q A y).lt
 have U:uG c H (c.ρ i).1:=⟨i,Q,A,y,rfl⟩
 have B: ∀b,b≠(c.ρ i).1->bPB.w.heap[b]?=c.w.heap[b]?:=fun b W=>by rw[f];simp only[Array.set!_eq_setIfInBounds];rw[Z2 (Ne.symm W)]
 have L:bPB.w.heap[(c.ρ i).1]?=some (.map R z):=by rw[f];simp only[Array.set!_eq_setIfInBounds];rw[Array.getElem?_setIfInBounds_self_of_lt af]
 have C:bPB.w.heap.size=c.w.heap.size:=by rw[f];simp
 have s: ∀j o',j≠i->H j=some o'->0<o'.ext->(c.ρ j).1≠(c.ρ i).1:=fun j o' g D M=>hs.sep j i o' Q D A M y g
 have E:Step c H bPB (H.set i (u4 ⟨p.1,p.2,vA m.m l n⟩)):={
  ρ:=fun _ _=>by rw[f]
  N:=fun _ h=>by rw[f];exact h
  I:=fun _ h=>by rw[f];exact h
  I':=fun _ h=>by rw[f] at h;exact .inl h
  size:=by rw[C];exact m5 _
  os:=by rw[f]
  tape:=by rw[f]
  output:=by rw[f]
  frame:=fun b _ ag=>B b (by rintro rfl;exact ag U)
  own:=by
   rintro b ⟨j,o',D,M,O⟩;left;rcases bG D with⟨rfl,rfl⟩|⟨g,D⟩
   ·exact⟨j,Q,A,y,by rw[f] at O;exact O⟩
   ·exact⟨j,o',D,M,by rw[f] at O;exact O⟩}
 refine⟨bPB,?_,?_,E,fun j=>by rw[f]⟩
 ·rw[f];simp only[execOp,ho,hr.2,ad,ae,K,Sem.run_bind,Result.andThen_ok,Sem.run_pure]
 ·refine {named:= ?_,wf:= ?_,blk:= ?_,cells:= ?_,sep:= ?_,imm:= ?_,old:= ?_}
  ·intro j o' h;rw[f];rcases bG h with⟨rfl,rfl⟩|⟨g,h⟩
   ·exact hr.1
   ·exact hs.named j o' h
  ·intro j o' h;rcases bG h with⟨rfl,rfl⟩|⟨g,h⟩
   ·exact⟨by simp[u4],by simp[u4]⟩
   ·exact hs.wf j o' h
  ·intro j o' h G;have F:bPB.ρ j=c.ρ j:=(by rw[f]);rw[F];rcases bG h with⟨rfl,rfl⟩|⟨g,h⟩
   ·rw[L];unfold yW;rw[if_pos ⟨rfl,rfl⟩];show ∃es clock,_/\_=(acE (aaX _+1-1)).rows/\(acE (aaX _+1-1)).ok;rw[Nat.add_sub_cancel,yH];obtain⟨ah,J,ai,l1,bOW⟩:=S;exact⟨ah,J,ai,l1,bOW⟩
   ·rw[B _ (s j o' g h G)];exact hs.blk j o' h G
  ·intro j o' q X r d h D M;have F:bPB.ρ j=c.ρ j:=(by rw[f]);rw[F];rcases bG h with⟨rfl,rfl⟩|⟨g,h⟩
   ·simp[u4] at D
   ·obtain⟨u,O,k9⟩:=hs.cells j o' q X r d h D M;refine⟨u,?_,k9.step E hs⟩;have V:0<o'.ext:=by have:=(hs.wf j o' h).1;have hq:q<o'.rows.length:=(m3.1 D).1;omega
    rw[<-O];exact World.cell?_of_block (w:=c.w) (B _ (s j o' g h V))
  ·intro j j' o1 o2 D M e1 e2 g;have F:bPB.ρ=c.ρ:=(by rw[f]);rw[F];rcases bG D with⟨rfl,rfl⟩|⟨aj,k1⟩<;>rcases bG M with⟨rfl,rfl⟩|⟨ak,X⟩
   ·exact absurd rfl g
   ·exact(s j' o2 ak X e2).symm
   ·exact s j o1 aj k1 e1
   ·exact hs.sep j j' o1 o2 k1 X e1 e2 g
  ·intro j o' h G;rw[f];rcases bG h with⟨rfl,rfl⟩|⟨g,h⟩
   ·exact hs.imm _ Q A y
   ·exact hs.imm j o' h G
  ·intro b W;rw[C];rw[f] at W;exact hs.old b W
inductive IsX(P:Program):Op->XK->List aT->Prop where
 |zI {f:FuncId} {first caps:Array Operand} {l:List aT} (h1:first.size=0) (h2:caps.toList.mapM trO=some l):IsX P (.makeFunc (.func f) first caps) (.zI f) l
 |qJ {neg:Bool} {t t' el:TypeId} {x:Operand} {y:aT} (h1:P.underlying t=some (.slice el)) (h2:trO x=some y):IsX P (.binOp (if neg then .neq else .eql) t x (.const (.slice none 0 0)) t') (.qJ neg) [y]
 |copy {t t' el:TypeId} {n:Nat} {x y:Operand} {x' y':aT} (h1:d9 P t=some (el,n)) (h2:trO x=some x') (h3:trO y=some y'):IsX P (.call {callee:=.builtin .copy,args:=#[x,y],argTypes:=#[t,t']}) (.copy n) [x',y']
 |clear {t el:TypeId} {n:Nat} {z:List D1} {x:Operand} {x':aT} (h1:d9 P t=some (el,n)) (h2:trO x=some x') (h3:zeroOf P el=some z) (k9:z.length=n):IsX P (.call {callee:=.builtin .clear,args:=#[x],argTypes:=#[t]}) (.clear n z) [x']
 |aaN {cl:Call} {f:FuncId} {l:List aT} (h1:cl.callee= .value (.func f)) (h2:cl.args.toList.mapM trO=some l):IsX P (.call cl) (.aaN f) l
 |DS {t:TypeId} {p:Nat×Bool} (h1:RC P t=some p):IsX P (.makeMap t none) (.DS p.1 p.2) []
 |aeq {neg:Bool} {t t':TypeId} {n:Nat} {x y:Operand} {x' y':aT} (h1:GI P t=some n) (h2:trO x=some x') (h3:trO y=some y'):IsX P (.binOp (if neg then .neq else .eql) t x y t') (.aeq neg n) [x',y']
 |rA {t:TypeId} {p:Nat×Bool} {ok:Bool} {x k:Operand} {x' k':aT} (h1:RC P t=some p) (h2:trO x=some x') (h3:trO k=some k'):IsX P (.lookup t x k ok) (.rA p.1 p.2 ok) [x',k']
 |vM {t:TypeId} {p:Nat×Bool} {x k v:Operand} {x' k' v':aT} (h1:RC P t=some p) (h2:trO x=some x') (h3:trO k=some k') (k9:trO v=some v'):IsX P (.mapUpdate t x k v) (.vM p.1 p.2) [x',k',v']
 |sS {t kt et:TypeId} {x:Operand} {x':aT} (h1:P.underlying t=some (.map kt et)) (h2:trO x=some x'):IsX P (.call {callee:=.builtin .len,args:=#[x],argTypes:=#[t]}) .sS [x']
 |bad {op:Op}:IsX P op .bad []
theorem ajI{b:Builtin}{args:Array Operand}{g:Array TypeId}{o:AOp}(h:aq1 P b args.toList g.toList=some o): ∃k l,o= .xop k l/\IsX P (.call {callee:=.builtin b,args:=args,argTypes:=g}) k l:=by
 unfold aq1 at h;split at h
 ·rename_i x t a c;split at h;·rename_i d e;cases h;rw[oL a,oL c];exact⟨_,_,rfl,.sS d e⟩
  ·cases h
 ·rename_i x y t i a c;split at h;·rename_i d e f;cases h;rw[uV a,uV c];exact⟨_,_,rfl,.copy d e f⟩
  ·cases h
 ·rename_i x t a c;split at h
  ·rename_i d e;split at h
   ·rename_i f;split at h;·rename_i k9;cases h;rw[oL a,oL c];exact⟨_,_,rfl,.clear d e f k9⟩
    ·cases h
   ·cases h
  ·cases h
 ·cases h
theorem aoZ{op:Op}{o:AOp}(h:trX P op=some o): ∃k l,o= .xop k l/\IsX P op k l:=by
 unfold trX at h;split at h
 ·split at h;·rename_i f;simp only[m4] at h;obtain⟨l,a,rfl⟩:=h;exact⟨_,_,rfl,.zI f a⟩
  ·cases h
 ·split at h;·rename_i a c;cases h;exact⟨_,_,rfl,.qJ (neg:=false) a c⟩
  ·cases h
 ·split at h;·rename_i a c;cases h;exact⟨_,_,rfl,.qJ (neg:=true) a c⟩
  ·cases h
 ·split at h;·rename_i a c d;cases h;exact⟨_,_,rfl,.aeq (neg:=false) a c d⟩
  ·cases h
 ·split at h;·rename_i a c d;cases h;exact⟨_,_,rfl,.aeq (neg:=true) a c d⟩
  ·cases h
 ·simp only[m4] at h;obtain⟨p,a,rfl⟩:=h;exact⟨_,_,rfl,.DS a⟩
 ·split at h;·rename_i a c d;cases h;exact⟨_,_,rfl,.rA a c d⟩
  ·cases h
 ·split at h;·rename_i a c d k9;cases h;exact⟨_,_,rfl,.vM a c d k9⟩
  ·cases h
 ·rename_i g;obtain⟨callee,args,i⟩:=g;split at h;·rename_i b e;simp only at e;subst e;exact ajI h
  ·cases h
 ·cases h
theorem anR{op:Op}{o:AOp}(h:trE P op=some o): ∃k l,o= .xop k l/\IsX P op k l:=by
 unfold trE at h;split at h
 ·split at h
  ·rename_i f hc;split at h
   ·split at h;·simp only[m4] at h;obtain⟨l,a,rfl⟩:=h;exact⟨_,_,rfl,.aaN hc a⟩
    ·cases h
   ·cases h
  ·cases h
 ·cases h
theorem FZ(op:Op):F3 P op=some (LC P op)\/ ∃k l,LC P op= .xop k l/\IsX P op k l:=by
 unfold LC;split;·rename_i o h;obtain⟨k,l,a,b⟩:=anR h;exact .inr ⟨k,l,a,b⟩
 ·split;·rename_i o h;exact .inl h
  ·split;·rename_i o h;obtain⟨k,l,a,b⟩:=aoZ h;exact .inr ⟨k,l,a,b⟩
   ·exact .inr ⟨_,_,rfl,.bad⟩
theorem ahT(hs:St c H)(he:ER c T e a){d:D}(b:aU H e (LC P o.op)=some d):kF P c a o d:=by
 rcases FZ (P:=P) o.op with h|⟨k,l,h,i⟩
 ·exact ai4 hs he h b
 ·rw[h] at b;simp only[aU] at b;generalize j:o.op=op at i
  cases i with
  |zI f g=>exact apN he j f g b
  |aeq f g m=>exact asT he j f g m b
  |_=>simp[xq] at b
theorem ahM(hs:St c H)(he:ER c T e a){d:D}{f:bA}{id:Nat}(l2: ¬c.N id)(b:lT id e (LC P o.op)=some (d,f)):NT P c H a o id d f:=by
 rcases FZ (P:=P) o.op with h|⟨k,l,h,g⟩
 ·exact ag1 hs he l2 h b
 ·rw[h] at b;simp[lT] at b
theorem ajX(hs:St c H)(he:ER c T e a){id nx:Nat}{R:D->aA->Nat->Prop}(l2: ∀i,c.N i->i<nx)(E: ¬c.N id)(h:HX P id (LC P o.op) e H nx R)
 {next:Act->World->Prop} {M:Exit->Act->World->Prop}
 (O: ∀d v c' H' nx',St c' H'->Step c H c' H'->fD c' d v->(∀i,c'.N i->c.N i\/i=id\/(nx<=i/\i<nx'))->nx<=nx'->R d H' nx'->next (a.put o.dst v) c'.w):o.wp P a c.w next M:=by
 rcases FZ (P:=P) o.op with Q|⟨k,l,Q,B⟩
 ·exact akS hs he l2 E Q h O
 ·rw[Q] at h;simp only[HX] at h;have j: ∀(d:D) (H':aA),ZH P c a o H H' d id->R d H' nx->o.wp P a c.w next M:=by rintro d H' ⟨v,c',g,S,U,bPC,bPD⟩ F;unfold Oper.wp;rw[g];exact O d v c' H' nx S U bPC (fun i hi=>(bPD i hi).imp (fun h=>h) .inl) (m5 _) F
  generalize z:o.op=op at B
  cases B with
  |zI u s=>simp[xl] at h
  |bad=>simp[xl] at h
  |aeq u s k9=>simp[xl] at h
  |sS u s=>
   unfold xl at h;simp only[n3,q0] at h;split at h<;>try (first| (rename_i p _;cases p;done)| (rename_i p;cases p;done))
   all_goals try (exact h.elim)
   ·rename_i i p q;simp only[List.cons.injEq,and_true] at q;have hr:=qD he s q;simp only[Rel,bY] at hr;revert h;unfold xlL;split;·rename_i x B;intro h;obtain⟨_,_,_,_,_,bPA⟩:=SG hs B;exact j _ _ (aaY hs he z u s hr.2 bPA) h
    ·exact fun h=>h.elim
   ·rename_i m p q;simp only[List.cons.injEq,and_true] at q;have hr:=qD he s q;simp only[Rel,bY] at hr;generalize C:a.eval _=v at hr
    cases hr with
    |MY _ b bOV bPA=>exact j _ _ (aaY hs he z u s C bPA) h
  |DS u=>simp only[q0,xl] at h;exact j _ _ (anO hs E z u) h
  |rA u s k9=>
   unfold xl at h;simp only[n3,q0] at h;split at h<;>try (first| (rename_i p _;cases p;done)| (rename_i p;cases p;done))
   all_goals try (exact h.elim)
   ·rename_i kn bl ok i k p q;cases p;simp only[List.cons.injEq,and_true] at q;obtain⟨q,G⟩:=q;have hr:=qD he s q;simp only[Rel,bY] at hr;revert h;unfold xlG;split;·rename_i x l B hl;rintro⟨⟨I,J,K⟩,h⟩;obtain⟨_,_,_,_,_,bPA⟩:=SG hs B;exact j _ _ (aaR hs he z u s k9 hr.2 bPA I J (by rw[G];exact hl) K) h
    ·exact fun h=>h.elim
   ·rename_i kn bl ok m k p q;cases p;simp only[List.cons.injEq,and_true] at q;obtain⟨q,G⟩:=q;have hr:=qD he s q;simp only[Rel,bY] at hr;generalize C:a.eval _=v at hr
    cases hr with
    |MY _ b bOV bPA=>
     revert h;unfold xlG;split;·rename_i x l B hl;cases B;rintro⟨⟨I,J,K⟩,h⟩;exact j _ _ (aaR hs he z u s k9 C bPA I J (by rw[G];exact hl) K) h
     ·exact fun h=>h.elim
  |vM u s k9 l1=>
   unfold xl at h;simp only[n3,q0] at h;split at h<;>try (first| (rename_i p _;cases p;done)| (rename_i p;cases p;done))
   all_goals try (exact h.elim)
   rename_i kn bl i k v p q;cases p;simp only[List.cons.injEq,and_true] at q;obtain⟨q,G,e4⟩:=q;revert h;unfold xlS;split;·rename_i x l n B hl Y;rintro⟨⟨I,J,K⟩,h⟩;obtain⟨c',g,S,U,bPC⟩:=ak9 hs he z u s k9 l1 q B I J (by rw[G];exact hl) K (by rw[e4];exact Y);unfold Oper.wp;rw[g];exact O .dead undef c' _ nx S U trivial (fun i hi=>.inl ((bPC i).1 hi)) (m5 _) h
   ·exact fun h=>h.elim
  |copy u s k9=>
   simp only[n3,q0,xl] at h;split at h;·rename_i V;exact j _ _ (arN hs he z u s k9 V) h
   ·exact h.elim
  |clear u s k9 l1=>
   simp only[n3,q0,xl] at h;split at h;·rename_i V;exact j _ _ (aoJ hs he z u k9 l1 s V) h
   ·exact h.elim
  |aaN u s=>rename_i Z f;simp only[xl] at h;obtain⟨k9,l1⟩:=FH he _ _ s;obtain⟨v,r,g,hr,F⟩:=h c _ hs (by simpa using k9) l1;refine j r H ⟨v,c,?_,hs,Step.refl c H,hr,fun i hi=>.inl hi⟩ F;have W:(Z.args.toList.map a.eval).toArray=Z.args.map a.eval:=(by apply x2;simp);have hf:a.eval (.func f)= .func (.func f) #[] #[]:=rfl;rw[W] at g;simp only[execOp,z,resolve,u,hf,Deferred.ofValue,Sem.run_bind,Sem.run_pure,Result.andThen_ok,invoke];simp[g]
  |qJ hu hy=>
   rename_i neg t t' el x y
   have fin: ∀b:Bool,(execOp a.eval o).run P c.w= .ok (.value (.bool b)) c.w->R (bD b) H nx->o.wp P a c.w next M:=fun b g F=>
    j (bD b) H ⟨.bool b,c,g,hs,Step.refl c H,KR,fun i hi=>.inl hi⟩ F
   simp only[n3,q0] at h;unfold xl at h;split at h
   ·rename_i k ng rows p q;cases p;simp only[List.cons.injEq,and_true] at q;have hr:=qD he hy q;simp only[Rel,bY] at hr;generalize C:a.eval x=v at hr
    cases hr with
    |isl _ A cap n b o' f ha aa Y hc hr=>
     have g:=L2 (P:=P) (c:=c) z hu C;split at h;·exact fin _ g (h _)
     ·rename_i L;have X:rows≠[]:=(by rintro rfl;exact L rfl);rw[(ha X).1] at g;apply fin _ g;cases neg<;>exact h
   ·rename_i k ng m ab off len cap p q;cases p;simp only[List.cons.injEq,and_true] at q;have hr:=qD he hy q;simp only[Rel,bY] at hr;obtain⟨_,⟨L,A,C⟩|⟨L,_,C⟩⟩:=hr;·rw[if_pos L] at h;exact fin _ (L2 (P:=P) (c:=c) z hu C) (h _)
    ·rw[if_neg (by omega)] at h;apply fin _ (L2 (P:=P) (c:=c) z hu C);cases neg<;>exact h
   all_goals first|exact h.elim| (rename_i p _;cases p;done)| (rename_i p;cases p;done)
end
end Go.AM
