/- Rules and contracts. -/
import Derived.Test.YtlncecohbakleaaGreatPM0
set_option linter.unusedVariables false
set_option linter.unusedSimpArgs false
set_option maxRecDepth 100000
set_option maxHeartbeats 8000000
namespace Go.AM
open Go.RowKit
section
variable{P:Program}{c:Cf}{H:aA}{T:Nat}{e:Env}{a:Act}
def YS(H:aA):D1->List D1->Option (Nat×bN)
 | .ptr n id row a,b=>
   match H id with
   |some o=>if o.n=n then
     match o.rows[row]? with
     |some r=>if a+b.length<=r.length then some (id,⟨o.n,o.ext,o.rows.set row (kD r a b)⟩) else none
     |none=>none
    else none
   |none=>none
 |_,_=>none
def TN(H:aA)(e:Env):AOp->Option (Nat×bN)
 | .store n _ a x=>match a.ev e,x.ev e with
   | .one (.c d),.one b=>if b.cells.length=n then YS H d b.cells else none
   |_,_=>none
 |_=>none
theorem JZ{α:Type}(l vs:List α)(p q:Nat)(h:p+vs.length<=l.length):
 (l.take p++vs++l.drop (p+vs.length))[q]?=if p<=q/\q<p+vs.length then vs[q-p]? else l[q]?:=by
 rw[adH,adU]
 have c:(l.take p).length=p:=by simp;omega
 rw[c]
 split
 ·rename_i b;rw[if_neg (by omega),ad2,if_pos b]
 ·rename_i b;rw[adU];split;·rename_i a;rw[if_pos (by omega)]
  ·rename_i a;rw[if_neg (by omega),adO];congr 1;omega
variable{n:Nat}
theorem V7{i j k:Nat}(a:j<n)(hi:i<k):i*n+j<k*n:=by have:(i+1)*n<=k*n:=aeD _ (by omega);rw[adT] at this;omega
theorem Wc{i b j c:Nat}(e:j<n)(d:c<n)(h:i*n+j=b*n+c):i=b/\j=c:=by
 rcases Nat.lt_trichotomy i b with a|rfl|a;·have:=V7 e a (k:=b);omega
 ·exact⟨rfl,by omega⟩
 ·have:=V7 d a (k:=i);omega
theorem Mp{b:DV}{x:Value}(h:mH c b x): ∀v∈x.cells.toList,v.oneCell'=true:=by
 have hr:=PE h;intro v d;obtain⟨i,hi⟩:=List.getElem?_of_mem d;have a:i<b.cells.length:=by rw[<-hr.1];exact(adB.1 hi).1
 exact(hr.2 i _ v (ac8 a) hi).tY
theorem St.Ea(hs:St c H){id:Nat}{o:bN}(b:H id=some o)(he:0<o.ext)(a: ¬(o.n=0/\o.rows=[])):
 ∃arr T,c.w.heap[(c.ρ id).1]?=some (.cells arr T (0,0))/\uK c arr (c.ρ id).2 o:=by
 obtain⟨arr,T,e,f⟩:=(hs.blk id o b he).cells a
 obtain⟨g,h⟩:=hs.wf id o b
 refine⟨arr,T,e,g,h,f,fun i j r d hi k=> ?_,fun hm=>a ⟨hm.1,hm.2.1⟩⟩
 obtain⟨u,l,m⟩:=hs.cells id o i j r d b hi k
 refine⟨u,?_,m⟩
 simpa [World.cell?,e] using l
theorem HW(hs:St c H){id:Nat}{o:bN}(e:H id=some o)(he:0<o.ext): ¬B0 c (H.del id) (c.ρ id).1:=by
 rintro⟨b,o',a,f,g⟩;unfold aA.del at a;split at a;·simp at a
 ·rename_i d;exact hs.sep b id o' o a e f he d g
theorem O6{H:aA}{id:Nat}: ∀i o,(H.del id) i=some o->H i=some o:=by
 intro i o h;unfold aA.del at h;split at h;·simp at h
 ·exact h
theorem Il{H:aA}{id:Nat}{o:bN}:(H.del id).set id o=H.set id o:=by funext i;unfold aA.set aA.del;split<;>simp_all
def Pz(P:Program)(c:Cf)(H:aA)(a:Act)(o:Oper)(id:Nat)(b:bN):Prop:=∃c',(execOp a.eval o).run P c.w= .ok .skip c'.w/\St c' (H.set id b)/\Step c H c' (H.set id b)/\(∀i,c'.N i↔c.N i)
theorem Uj(hs:St c H)(he:ER c T e a){o:Oper}{t:TypeId}{x y:Operand}{x' W:aZ}{id:Nat}{g:Bool}{X:bN}(ho:o.op= .store t x y)(hl:layout P t=some (n,g))(hx:trO x=some x')(hy:trO y=some W)
 (p:TN H e (.store n g x' W)=some (id,X)):Pz P c H a o id X:=by
 simp only[TN] at p
 split at p
 ·rename_i d L M N;split at p
  ·rename_i hlen;have E:=vJ he hx M;have B:=o8 he hy;rw[N] at B;unfold YS at p;split at p
   ·rename_i n' b row f;split at p
    ·rename_i k v;split at p
     ·rename_i hn;subst hn;split at p
      ·rename_i r hr;split at p
       ·rename_i F;simp only[Option.some.injEq,Prod.mk.injEq] at p;obtain⟨rfl,rfl⟩:=p;simp only[Rel,cX] at E;obtain⟨G,O⟩:=E;have C:=PE B;have Q:(a.eval y).cells.size=n:=(by have:=C.1;simp at this;omega);have Y:row<k.rows.length:=(adB.1 hr).1;have s:0<k.ext:=(by have:=(hs.wf _ _ v).1;omega);obtain⟨arr,TT,Z,l⟩:=hs.Ea v s (fun hm=>by have:=congrArg List.length hm.2;simp only[List.length_nil] at this;omega);have ab:=l.len row r hr;have aa:row*k.n+f+L.cells.length<=k.ext*k.n:=(by have A:(row+1)*k.n<=k.ext*k.n:=aeD _ (by have:=l.le;omega);rw[adT] at A;omega);have R:(a.eval y).cells.toList.length=L.cells.length:=C.1;have I:=run_storeCells_at P (c.ρ b).1 ((c.ρ b).2+(row*k.n+f)) TT (a.eval y).cells.toList 0 arr c.w Z (by have:=l.size;omega) (Mp B);simp only[Nat.add_zero] at I;have J:(execOp a.eval o).run P c.w= .ok .skip (c.w.setRow (c.ρ b).1 (arr.toList.take ((c.ρ b).2+(row*k.n+f))++(a.eval y).cells.toList++arr.toList.drop ((c.ρ b).2+(row*k.n+f)+(a.eval y).cells.toList.length)).toArray):=by have z:=(kU hl c.w).2.1;simp only[execOp,ho,O,Instr.storeAt,Instr.sureAddr,Sem.run_bind,Sem.run_pure,Result.andThen_ok,storeVar,z,Q,ne_eq,not_true_eq_false,if_false,I]
        have D:=Rm hs (H0:=H.del b) O6 (base:=(c.ρ b).2) (m:=b) (o:=⟨k.n,k.ext,k.rows.set row (kD r f L.cells)⟩)
         (arr':=(arr.toList.take ((c.ρ b).2+(row*k.n+f))++(a.eval y).cells.toList++arr.toList.drop ((c.ρ b).2+(row*k.n+f)+(a.eval y).cells.toList.length)).toArray)
         Z ⟨b,k,v,s,rfl⟩ (HW hs v s) (fun _=>rfl) (by simp[aA.del]) ?_
        ·rw[Il] at D;exact⟨_,J,D.1,D.2,fun i=>⟨fun h=>h.elim (fun h=>h▸G) id,.inr⟩⟩
        ·refine⟨by simpa using l.le,fun i r' u=> ?_,?_,fun i j r' S A z=> ?_,fun hm=>by have:=congrArg List.length hm.2.1;simp only[adM,List.length_nil] at this;omega⟩
         ·rw[ae6] at u;split at u;·simp only[Option.some.injEq] at u;rw[<-u];simp only[kD,ac7,adP,adL];omega
          ·exact l.len i r' u
         ·have:=l.size;simp only[afC,ac7,adP,adL,Array.length_toList];omega
         ·simp only[ae1];rw[JZ _ _ _ _ (by have:=l.size;simp only[Array.length_toList] at*;omega),R];rw[ae6] at A;split at A
          ·rename_i q;subst q;simp only[Option.some.injEq] at A;subst A;simp only[kD] at z;rw[JZ _ _ _ _ F] at z;split at z;·rename_i hj;rw[if_pos (by omega)];have U:(c.ρ b).2+(row*k.n+j)-((c.ρ b).2+(row*k.n+f))=j-f:=(by omega);rw[U];have K:j-f<(a.eval y).cells.toList.length:=(by omega);exact⟨_,ac8 K,C.2 _ S _ z (ac8 K)⟩
           ·rename_i hj;rw[if_neg (by omega)];have:=l.rel row j r S hr z;simpa using this
          ·rename_i q;have V:j<k.n:=by rw[<-l.len i r' A];exact(adB.1 z).1
           rw[if_neg (by
            intro hc
            have hk:(c.ρ b).2+(i*k.n+j)=(c.ρ b).2+(row*k.n+(f+((c.ρ b).2+(i*k.n+j)-((c.ρ b).2+(row*k.n+f))))):=by omega
            have:=Wc V (show f+((c.ρ b).2+(i*k.n+j)-((c.ρ b).2+(row*k.n+f)))<k.n by omega) (Nat.add_left_cancel hk)
            exact q this.1.symm)]
           have:=l.rel i j r' S A z;simpa using this
       ·simp at p
      ·simp at p
     ·simp at p
    ·simp at p
   ·simp at p
  ·simp at p
 ·simp at p
def UM(H:aA)(n:Nat):D->Option (List (List D1))
 | .one (.c (.isl rows))=>if ∀r∈rows,r.length=n then some rows else none
 | .one (.c (.osl m id off len cap))=>if m=0 then (if cap=0/\len=0 then some [] else none) else
   match H id with
   |some o=>if o.n=n/\m=n/\off+len<=o.rows.length then some ((o.rows.drop off).take len) else none
   |none=>none
 |_=>none
def lq(H:aA):Option Nat->aA
 |none=>H
 |some i=>H.del i
def Ox:D->Nat
 | .one (.c (.osl _ _ _ _ cap))=>cap
 |_=>0
def Q0(H:aA)(e:Env):AOp->Option (Option Nat×Nat×Nat×List (List D1))
 | .append n s x=>match s.ev e,UM H n (x.ev e) with
   | .one (.c (.osl m id off len cap)),some new=>if m=0 then (if cap=0/\len=0 then some (none,n,new.length,new) else none) else
     match H id with
     |some o=>if o.n=n/\m=n/\off+len<=o.rows.length/\off+cap<=o.ext then some (some id,n,len+new.length,(o.rows.drop off).take len++new) else none
     |none=>none
   |_,_=>none
 |_=>none
structure GZ(c:Cf)(n:Nat)(rows:List (List D1))(vs:List Value):Prop where
 len:vs.length=rows.length*n
 row: ∀(i:Nat) (r:List D1),rows[i]?=some r->r.length=n
 rel: ∀(i j:Nat) (r:List D1) (d:D1),rows[i]?=some r->r[j]?=some d->∃u,vs[i*n+j]?=some u/\Rel c d u
theorem GZ.append{e h:List (List D1)}{v1 v2:List Value}(a:GZ c n e v1)(f:GZ c n h v2):GZ c n (e++h) (v1++v2):=by
 refine⟨by rw[ac7,ac7,a.len,f.len,adT],fun i r hr=> ?_,fun i j r d hr k=> ?_⟩
 ·rw[adU] at hr;split at hr;·exact a.row i r hr
  ·exact f.row _ r hr
 ·rw[adU] at hr;split at hr;·obtain⟨u,b,g⟩:=a.rel i j r d hr k;refine⟨u,?_,g⟩;rw[adU,if_pos (adB.1 b).1];exact b
  ·rename_i l;obtain⟨u,b,g⟩:=f.rel _ j r d hr k;refine⟨u,?_,g⟩;have hmul:e.length*n<=i*n:=aeD _ (by omega);rw[adU,if_neg (by rw[a.len];omega),a.len,<-b];congr 1;rw[Nat.sub_mul];omega
theorem GZ.tY{n:Nat}{rows:List (List D1)}{vs:List Value}(h:GZ c n rows vs)(e:0<n): ∀v∈vs,v.oneCell'=true:=by
 intro v f;obtain⟨p,hp⟩:=List.getElem?_of_mem f;have a:p<rows.length*n:=by rw[<-h.len];exact(adB.1 hp).1
 have hi:p/n<rows.length:=Nat.div_lt_of_lt_mul (by rw[aeF];exact a);have hr:rows[p/n]?=some (rows[p/n]'hi):=ac8 hi;have g:p%n<(rows[p/n]'hi).length:=by rw[h.row _ _ hr];exact Nat.mod_lt _ e
 obtain⟨u,d,i⟩:=h.rel _ (p%n) _ _ hr (ac8 g);have b:p/n*n+p%n=p:=by rw[aeF];exact Nat.div_add_mod p n
 rw[b,hp] at d;cases d;exact i.tY
variable{rows:List (List D1)}
theorem BE{b o:Nat}(s:0<n)(a: ∀(i:Nat) (r:List D1),rows[i]?=some r->r.length=n)
 (hc: ∀(i j:Nat) (r:List D1) (d:D1),rows[i]?=some r->r[j]?=some d->∃u,c.w.cell? ⟨b,o+(i*n+j),none⟩=some u/\Rel c d u):
 ∃vs,GZ c n rows vs/\ ∀j v,vs[j]?=some v->c.w.cell? ⟨b,o+j,none⟩=some v:=by
 have g: ∀p,∃u:Value,p<rows.length*n->c.w.cell? ⟨b,o+p,none⟩=some u/\ ∀r d,rows[p/n]?=some r->r[p%n]?=some d->Rel c d u:=by
  intro p;by_cases hp:p<rows.length*n;·have hi:p/n<rows.length:=Nat.div_lt_of_lt_mul (by rw[aeF];exact hp);have hr:rows[p/n]?=some (rows[p/n]'hi):=ac8 hi;have e:p%n<(rows[p/n]'hi).length:=(by rw[a _ _ hr];exact Nat.mod_lt _ s);obtain⟨u,l,m⟩:=hc _ (p%n) _ _ hr (ac8 e);have q:p/n*n+p%n=p:=(by rw[aeF];exact Nat.div_add_mod p n);rw[q] at l;refine⟨u,fun _=>⟨l,fun r d t x=> ?_⟩⟩;rw[hr] at t;cases t;rw[ac8 e] at x;cases x;exact m
  ·exact⟨undef,fun h=>absurd h hp⟩
 obtain⟨f,y⟩:=Classical.axiomOfChoice g
 refine⟨(List.range (rows.length*n)).map f,⟨by simp,a,fun i j r d hr z=> ?_⟩,fun j v A=> ?_⟩
 ·have hi:i<rows.length:=(adB.1 hr).1;have e:j<n:=by rw[<-a i r hr];exact(adB.1 z).1
  have hp:i*n+j<rows.length*n:=V7 e hi;refine⟨f (i*n+j),by simp[hp],?_⟩;have hdiv:(i*n+j)/n=i:=by rw[afP,Nat.add_mul_div_right _ _ s,Nat.div_eq_of_lt e];omega
  have k:(i*n+j)%n=j:=by rw[afP,agQ];exact afO e
  exact(y _ hp).2 r d (by rw[hdiv];exact hr) (by rw[k];exact z)
 ·simp only[adJ,adC] at A;obtain⟨p,l,rfl⟩:=A;have hp:=adB.1 l;simp at hp;obtain⟨m,rfl⟩:=hp;exact(y _ m).1
theorem Aq(hs:St c H)(J:0<n){d:D}{new:List (List D1)}{x:Value}(e:UM H n d=some new)(hr:iA c d x):
 ∃A k news,x= .slice A new.length k/\GZ c n new news/\ ∀g:World,g.heap=c.w.heap->(Builtin.firstCells n new.length x).run P g= .ok news.toArray g:=by
 have h: ∀(b o k:Nat) (news:List Value),GZ c n new news->(∀j v,news[j]?=some v->c.w.cell? ⟨b,o+j,none⟩=some v)->∀g:World,g.heap=c.w.heap->
  (Builtin.firstCells n new.length (.slice (some ⟨b,o,none⟩) new.length k)).run P g= .ok news.toArray g:=by
  intro b o k news q a g hw
  refine run_firstCells_some g n new.length ⟨b,o,none⟩ new.length k news q.len (fun j v N=> ?_)
  rw[AU,<-a j v N]
  simp[World.cell?,hw]
 unfold UM at e
 split at e
 ·rename_i rows;split at e
  ·rename_i l;simp only[Option.some.injEq] at e;subst e;simp only[iA,mH,Rel,cX] at hr
   cases hr with
   |isl _ A k n' b o f O K F hc G=>
    by_cases s:rows=[]
    ·subst s;refine⟨A,k,[],rfl,⟨by simp,by simp,by simp⟩,fun g hw=> ?_⟩
     cases A with
     |none=>simp[run_firstCells_none]
     |some A=>exact run_firstCells_some g n 0 A _ _ [] (by simp) (by simp)
    ·obtain⟨rfl,U⟩:=O s
     have I:n'=n:=by
      match rows,s with
      |r::_,_=>exact(F 0 r rfl).symm.trans (l r (by simp))
     subst I
     obtain⟨news,q,a⟩:=BE (c:=c) (b:=b) (o:=o) J (fun i r hr=>l r (adI hr)) (fun i j r d C E=>⟨f i j,hc i j r d C E,by
      have:=G i j r d C E
      cases d<;>first|exact this| (cases this;done)⟩)
     exact⟨_,k,news,rfl,q,h b o k news q a⟩
  ·simp at e
 ·rename_i m id off len cap;simp only[iA,mH,Rel,cX] at hr;obtain⟨Q,hr⟩:=hr;split at e
  ·split at e
   ·rename_i z;simp only[Option.some.injEq] at e;subst e;obtain⟨rfl,rfl⟩:=z;rcases hr with⟨_,A,rfl⟩|⟨V,_⟩
    ·refine⟨A,0,[],rfl,⟨by simp,by simp,by simp⟩,fun g hw=> ?_⟩
     cases A with
     |none=>simp[run_firstCells_none]
     |some A=>exact run_firstCells_some g n 0 A _ _ [] (by simp) (by simp)
    ·omega
   ·simp at e
  ·split at e
   ·rename_i y B;split at e
    ·rename_i t;obtain⟨L,rfl,M⟩:=t;simp only[Option.some.injEq] at e;subst e;have hlen:((y.rows.drop off).take len).length=len:=(by simp;omega);rcases hr with⟨z,A,rfl⟩|⟨R,W,rfl⟩
     ·have:len=0:=(by omega);subst this;refine⟨A,0,[],by simp,⟨by simp,by simp,by simp⟩,fun g hw=> ?_⟩;simp only[List.take_zero,List.length_nil]
      cases A with
      |none=>simp[run_firstCells_none]
      |some A=>exact run_firstCells_some g m 0 A _ _ [] (by simp) (by simp)
     ·have p: ∀(i:Nat) (r:List D1),((y.rows.drop off).take len)[i]?=some r->y.rows[off+i]?=some r:=by
       intro i r hr
       rw[ad2] at hr
       split at hr
       ·rw[adO] at hr;exact hr
       ·simp at hr
      obtain⟨news,q,a⟩:=BE (c:=c) (b:=(c.ρ id).1) (o:=(c.ρ id).2+off*m) (rows:=(y.rows.drop off).take len) J
       (fun i r hr=>L▸(hs.wf id y B).2 _ r (p i r hr))
       (fun i j r d C E=>by
        obtain⟨u,S,T⟩:=hs.cells id y (off+i) j r d B (p i r C) E
        refine⟨u,?_,T⟩
        rw[<-S,L];congr 2;rw[adT];omega)
      exact⟨_,cap,news,by rw[hlen],q,by have:=h _ _ cap news q a;rw[hlen] at this ⊢;exact this⟩
    ·simp at e
   ·simp at e
 ·simp at e
theorem LQ(w:World)(t ty el:TypeId)(i:TypeInfo)(e:P.underlying t=some (.slice el))(hi:P.info? el=some i)(A:Option Addr)(a c m f:Nat)(B:Option Addr)(news:List Value)
 (g:(Builtin.firstCells i.size m (.slice B m f)).run P w= .ok news.toArray w) (d:a+m<=c):
 (Builtin.append_ #[t,t] ty #[.slice A a c,.slice B m f]).run P w=
  match A with
  |none=>.ok (.slice none (a+m) c) w
  |some b=>((storeCells (b.add (a*i.size)) news).run P w).andThen fun _ h=>.ok (.slice (some b) (a+m) c) h:=by
 cases A with
 |none=>simp[Builtin.append_,run_underlying e,sizeOf,typeInfo,hi,Builtin.lenOf,d,g]
 |some b=>simp[Builtin.append_,run_underlying e,sizeOf,typeInfo,hi,Builtin.lenOf,d,g]
theorem ee(w:World)(t ty el:TypeId)(i:TypeInfo)(z:Value)(h:P.underlying t=some (.slice el))(hi:P.info? el=some i)(j:i.zero=some z)(A:Option Addr)(a b m f:Nat)(B:Option Addr)
 (c news:List Value) (hs:(Builtin.firstCells i.size a (.slice A a b)).run P w.drew= .ok c.toArray w.drew) (k:(Builtin.firstCells i.size m (.slice B m f)).run P w.drew= .ok news.toArray w.drew)
 (o:b<a+m) (l:((a+m:Nat):Int)<=9223372036854775807) (g:Builtin.nextslicecap (a+m) b*i.bytes<=281474976710656):
 (Builtin.append_ #[t,t] ty #[.slice A a b,.slice B m f]).run P w=
  .ok (.slice (some ⟨w.heap.size,0,none⟩) (a+m) (grownCap w (a+m) b el))
   (w.drew.alloc (.cells (c.toArray++news.toArray++Builtin.zeroCells z.cells (grownCap w (a+m) b el-(a+m))) el)):=by
 have n: ¬(a+m<=b):=by omega
 have d: ¬(9223372036854775807<((a:Int)+(m:Int))):=by omega
 have e: ¬(281474976710656<Builtin.nextslicecap (a+m) b*i.bytes):=by omega
 simp[Builtin.append_,run_underlying h,sizeOf,typeInfo,zeroValue,hi,j,Builtin.lenOf,n,d,e,Question.forced,hs,k,newRow,grownCap]
 congr 2
 apply aeW
 simp[adH]
theorem WV(hs:St c H){id:Nat}(y: ¬c.N id):St (c.named id 0 0 c.w) (H.set id ⟨n,0,[]⟩)/\Step c H (c.named id 0 0 c.w) (H.set id ⟨n,0,[]⟩):=by
 have a: ∀i,c.N i->(c.named id 0 0 c.w).ρ i=c.ρ i:=by intro i hi;simp only[Cf.named];rw[if_neg (by rintro rfl;exact y hi)]
 have f:Step c H (c.named id 0 0 c.w) (H.set id ⟨n,0,[]⟩):={
  Step.refl c H with
  ρ:=a
  N:=fun _ h=>.inr h
  own:=by
   rintro b ⟨i,o',g,l,m⟩;rcases bY g with⟨rfl,rfl⟩|⟨e,g⟩
   ·simp at l
   ·left;exact⟨i,o',g,l,by rw[a i (hs.named i o' g)] at m;exact m⟩}
 refine⟨?_,f⟩;refine {named:= ?_,wf:= ?_,blk:= ?_,cells:= ?_,sep:= ?_,imm:= ?_,old:=hs.old}
 ·intro i o' h;rcases bY h with⟨rfl,rfl⟩|⟨e,h⟩
  ·exact .inl rfl
  ·exact .inr (hs.named i o' h)
 ·intro i o' h;rcases bY h with⟨rfl,rfl⟩|⟨e,h⟩
  ·exact⟨by simp,by simp⟩
  ·exact hs.wf i o' h
 ·intro i o' h he;rcases bY h with⟨rfl,rfl⟩|⟨e,h⟩
  ·simp at he
  ·rw[a i (hs.named i o' h)];exact hs.blk i o' h he
 ·intro i o' k j r d h g l;rcases bY h with⟨rfl,rfl⟩|⟨e,h⟩
  ·simp at g
  ·obtain⟨u,m,z⟩:=hs.cells i o' k j r d h g l;refine⟨u,?_,z.step f hs⟩;rw[a i (hs.named i o' h)];exact m
 ·intro i o p q g l s t e;rcases bY g with⟨rfl,rfl⟩|⟨A,v⟩
  ·simp at s
  ·rcases bY l with⟨rfl,rfl⟩|⟨B,x⟩
   ·simp at t
   ·rw[a i (hs.named i p v),a o (hs.named o q x)];exact hs.sep i o p q v x s t e
 ·intro i o' h he;rcases bY h with⟨rfl,rfl⟩|⟨e,h⟩
  ·simp at he
  ·rw[a i (hs.named i o' h)];exact hs.imm i o' h he
def yj(P:Program)(c:Cf)(a:Act)(o:Oper)(H:aA)(id:Nat)(H0:aA)(n k:Nat)(rows:List (List D1))(b:Nat):Prop:=
 ∃cap v c',(k<=cap/\b<=cap)/\(execOp a.eval o).run P c.w= .ok (.value v) c'.w/\St c' (H0.set id ⟨n,cap,rows⟩)/\Step c H c' (H0.set id ⟨n,cap,rows⟩)/\
  iA c' (.one (.c (.osl n id 0 k cap))) v/\(∀i,c'.N i↔i=id\/c.N i)
theorem W7{cap:Nat}{vs:List Value}{arr:Array Value}(e:GZ c n rows vs)(hle:rows.length<=cap)(b:cap*n<=arr.size)
 (a: ∀(j:Nat) (v:Value),vs[j]?=some v->arr[j]?=some v) (f:0<n):uK c arr 0 ⟨n,cap,rows⟩:=by
 refine⟨hle,e.row,by simpa using b,fun i j r d g h=> ?_,fun hm=>by have:=hm.1;dsimp only at this;omega⟩
 obtain⟨u,k,l⟩:=e.rel i j r d g h
 exact⟨u,by simpa using a _ u k,l⟩
theorem Qt(hs:St c H)(he:ER c T e a){o:Oper}{t el:TypeId}{s x:Operand}{s' x':aZ}{id k:Nat}{dl:Option Nat}(hN: ¬c.N id)
 (ho:o.op= .call {callee:=.builtin .append,args:=#[s,x],argTypes:=#[t,t]}) (cy:fU P t=some (el,n)) (hn:0<n) (hz: ∃z,zeroOf P el=some z) (hb:P.bytesOf el<=65536)
 (da:trO s=some s') (dc:trO x=some x') (hk:k<=2147483647) (M:Q0 H e (.append n s' x')=some (dl,n,k,rows)):yj P c a o H id (lq H dl) n k rows (Ox (s'.ev e)):=by
 obtain⟨hu,df,_⟩:=oW cy c.w
 obtain⟨z,hz⟩:=hz
 obtain⟨zv,X,eo,ep,dh,_⟩:=qJ (c:=c) hz c.w
 obtain⟨i,hi⟩: ∃i,P.info? el=some i:=by
  unfold zeroOf at hz;split at hz;·rename_i i hi;exact⟨i,hi⟩
  ·simp at hz
 have dm:i.zero=some zv:=by
  simp[zeroValue,typeInfo,hi] at X
  cases cq:i.zero with
  |none=>simp[cq] at X
  |some z'=>simp[cq] at X;rw[X]
 have F:i.size=n:=by simpa [sizeOf,typeInfo,hi] using df
 have br:zv.cells.size=n:=by rw[dh i hi,F]
 have ds:i.bytes<=65536:=by simpa [Program.bytesOf,hi] using hb
 simp only[Q0] at M
 split at M
 ·rename_i m g off len cap new cr ca;obtain⟨B,cx,news,K,G,cc⟩:=Aq (P:=P) hs hn ca (o8 he dc);have Q:=vJ he da cr;have aa:Ox (s'.ev e)=cap:=by rw[cr];rfl
  rw[aa];simp only[Rel,cX] at Q;obtain⟨et,Q⟩:=Q;have cd:=G.tY hn
  have grow: ∀(A:Option Addr) (f p:Nat) (q:List (List D1)) (C:List Value) (Hx:aA),(∀i o,Hx i=some o->H i=some o)->a.eval s= .slice A f p->GZ c n q C->q.length=f->
   (∀O:World,O.heap=c.w.heap->(Builtin.firstCells n f (.slice A f p)).run P O= .ok C.toArray O)->p<f+new.length->f+new.length<=2147483647->
   yj P c a o H id Hx n (f+new.length) (q++new) p:=by
   intro A f p q C Hx y S L R dv hg hle
   have ab:Builtin.nextslicecap (f+new.length) p*i.bytes<=281474976710656:=growslice_fits hg (by
    have:(f+new.length)*i.bytes<=2147483647*65536:=af5 hle ds
    omega)
   have D:=ee (P:=P) c.w t o.type el i zv hu hi dm A f p new.length cx B C news (by rw[F];exact dv c.w.drew rfl)
    (by rw[F,<-K];exact cc c.w.drew rfl) hg (by omega) ab
   have dx:=L.append G
   have cf:=grownCap_ge c.w (f+new.length) p el
   have U:uK (c.drew (c.w.drawn+1)) (C.toArray++news.toArray++Builtin.zeroCells zv.cells (grownCap c.w (f+new.length) p el-(f+new.length))) 0
    ⟨n,grownCap c.w (f+new.length) p el,q++new⟩:=by
    refine uK.drew (W7 dx (by simp;omega) ?_ (fun j v hv=> ?_) hn) _
    ·simp only[Array.size_append,afC,size_zeroCells,br,L.len,G.len,R];rw[Nat.sub_mul,<-adT];have:=aeD n cf;omega
    ·have ct:=(adB.1 hv).1;rw[afQ,if_pos (by simpa using ct)];simpa using hv
   have dy:=(hs.drew (c.w.drawn+1)).forget y
   obtain⟨V,Y⟩:=O7 (m:=id) dy el hN U
   refine⟨_,.slice (some ⟨c.w.heap.size,0,none⟩) (f+new.length) (grownCap c.w (f+new.length) p el),_,⟨cf,by omega⟩,?_,V,((Step.drew c H _).trans (Step.forget _ y)).trans Y,?_,fun i=>aeQ⟩
   ·simp only[execOp,ho,resolve,invoke,builtin,Sem.run_bind,Sem.run_pure,Result.andThen_ok,ae7,adG,adQ,S,K,D];rfl
   ·simp only[iA,mH,Rel,cX,Cf.named,if_true];refine⟨cf,.inr ⟨by omega,.inl trivial,?_⟩⟩;simp[Cf.drew]
  have ad: ∀(A:Option Addr) (l k:Nat) (O:World),(Builtin.firstCells n 0 (.slice A l k)).run P O= .ok ([]:List Value).toArray O:=by
   intro A l k O
   cases A with
   |none=>simp[run_firstCells_none]
   |some A=>exact run_firstCells_some O n 0 A _ _ [] (by simp) (by simp)
  have none_: ∀(A:Option Addr) (Hx:aA),(∀i o,Hx i=some o->H i=some o)->a.eval s= .slice A 0 0->new.length=0->yj P c a o H id Hx n 0 [] 0:=by
   intro A Hx y S I;have J:new=[]:=ad5 I;subst J;have ai:news=[]:=ad5 (by rw[G.len];simp);subst ai;have D:=LQ (P:=P) c.w t o.type el i hu hi A 0 0 0 cx B [] (by have:=cc c.w rfl;rw[K] at this;simpa [F] using this) (by omega);have ck:(Builtin.append_ #[t,t] o.type #[.slice A 0 0,.slice B 0 cx]).run P c.w= .ok (.slice A 0 0) c.w:=by rw[D];cases A<;>simp[storeCells]
   obtain⟨V,Y⟩:=WV (hs.forget y) (n:=n) hN;refine⟨0,.slice A 0 0,c.named id 0 0 c.w,⟨ac1 _,ac1 _⟩,?_,V,(Step.forget _ y).trans Y,?_,fun i=>aeQ⟩;·simp only[List.length_nil] at K;simp only[execOp,ho,resolve,invoke,builtin,Sem.run_bind,Sem.run_pure,Result.andThen_ok,ae7,adG,adQ,S,K,ck];rfl
   ·simp only[iA,mH,Rel,cX];exact⟨ac1 _,.inl ⟨trivial,A,rfl⟩⟩
  split at M
  ·split at M
   ·rename_i dz cl;obtain⟨rfl,rfl⟩:=cl;simp only[Option.some.injEq,Prod.mk.injEq,true_and] at M;obtain⟨rfl,rfl,rfl⟩:=M;rcases Q with⟨_,A,S⟩|⟨h0,_⟩
    ·by_cases I:new.length=0;·have:=none_ A H (fun _ _ h=>h) S I;have J:new=[]:=ad5 I;subst J;exact this
     ·have:=grow A 0 0 [] [] H (fun _ _ h=>h) S ⟨by simp,by simp,by simp⟩ rfl (fun O _=>ad A 0 0 O) (by omega) (by omega);simpa [lq] using this
    ·omega
   ·simp at M
  ·rename_i dz;split at M
   ·rename_i Z bp;split at M
    ·rename_i aj;obtain⟨e1,rfl,ab,cp⟩:=aj;simp only[Option.some.injEq,Prod.mk.injEq,true_and] at M;obtain⟨rfl,rfl,rfl⟩:=M;have R:((Z.rows.drop off).take len).length=len:=by simp;omega
     have y: ∀(i:Nat) (r:List D1),((Z.rows.drop off).take len)[i]?=some r->Z.rows[off+i]?=some r:=by
      intro i r hr;rw[ad2] at hr;split at hr;·rw[adO] at hr;exact hr
      ·simp at hr
     rcases aeO cap with cl|eb
     ·subst cl;have ed:len=0:=(by omega);subst ed;rcases Q with⟨_,A,S⟩|⟨h0,_⟩
      ·by_cases I:new.length=0;·have:=none_ A (H.del g) O6 S I;have J:new=[]:=ad5 I;subst J;simpa [lq] using this
       ·have:=grow A 0 0 [] [] (H.del g) O6 S ⟨by simp,by simp,by simp⟩ rfl (fun O _=>ad A 0 0 O) (by omega) (by omega);simpa [lq] using this
      ·omega
     ·rcases Q with⟨h0,_⟩|⟨_,eu,S⟩
      ·omega
      ·have W:0<Z.ext:=(by omega);obtain⟨arr,TT,hb,U⟩:=hs.Ea bp W (fun hm=>by have:=hm.1;omega)
       obtain⟨C,L,ei⟩:=BE (c:=c) (b:=(c.ρ g).1) (o:=(c.ρ g).2+off*m) (rows:=(Z.rows.drop off).take len) hn
        (fun i r hr=>e1▸U.len _ r (y i r hr))
        (fun i j r d V Y=>by
         obtain⟨u,h3,h4⟩:=hs.cells g Z (off+i) j r d bp (y i r V) Y
         refine⟨u,?_,h4⟩
         rw[<-h3,e1];congr 2;rw[adT];omega)
       by_cases E:len+new.length<=cap
       ·have ao:(off+cap)*m<=Z.ext*m:=aeD _ cp;have bb:(len+new.length)*m<=cap*m:=aeD _ E;have bk:=U.size;rw[e1] at bk;rw[adT] at ao bb;have ew:news.length=new.length*m:=G.len;have cv:=run_storeCells_at P (c.ρ g).1 ((c.ρ g).2+off*m+len*m) TT news 0 arr c.w hb (by omega) cd;simp only[Nat.add_zero] at cv
        have D:=LQ (P:=P) c.w t o.type el i hu hi (some ⟨(c.ρ g).1,(c.ρ g).2+off*m,none⟩) len cap new.length cx B news
         (by have:=cc c.w rfl;rw[K] at this;rw[F];exact this) E
        rw[F] at D;simp only[AU,cv,Result.andThen_ok] at D
        have cw:=Rm hs (H0:=H.del g) O6 (base:=(c.ρ g).2+off*m) (m:=id) (o:=⟨m,cap,(Z.rows.drop off).take len++new⟩)
         (arr':=(arr.toList.take ((c.ρ g).2+off*m+len*m)++news++arr.toList.drop ((c.ρ g).2+off*m+len*m+news.length)).toArray)
         hb ⟨g,Z,bp,W,rfl⟩ (HW hs bp W) (fun h=>absurd h hN) ?_ ?_
        ·refine⟨cap,.slice (some ⟨(c.ρ g).1,(c.ρ g).2+off*m,none⟩) (len+new.length) cap,_,⟨E,ac1 _⟩,?_,cw.1,cw.2,?_,fun i=>aeQ⟩;·simp only[execOp,ho,resolve,invoke,builtin,Sem.run_bind,Sem.run_pure,Result.andThen_ok,ae7,adG,adQ,S,K,D];rfl
         ·simp only[iA,mH,Rel,cX,Cf.named,if_true];exact⟨E,.inr ⟨eb,.inl trivial,by simp⟩⟩
        ·unfold aA.del;split;·rfl
         ·rename_i I
          cases hh:H id with
          |none=>rfl
          |some ox=>exact absurd (hs.named id ox hh) hN
        ·refine⟨by simp only[ac7,R];exact E,fun i r hr=> ?_,?_,fun i j r d V Y=> ?_,fun hm=>by have:=hm.1;dsimp only at this;omega⟩;·exact(L.append G).row i r hr
         ·simp only[afC,ac7,adP,adL,Array.length_toList];omega
         ·simp only[ae1];rw[JZ _ _ _ _ (by simp only[Array.length_toList];omega)];have ej:j<m:=(by rw[<-(L.append G).row i r V];exact(adB.1 Y).1);rw[adU,R] at V;split at V;·rename_i hi;have hp:=V7 ej hi;rw[if_neg (by omega)];obtain⟨u,h3,h4⟩:=U.rel (off+i) j r d (y i r V) Y;refine⟨u,?_,h4⟩;rw[e1,adT] at h3;rw[<-h3];simp only[afR];congr 1;omega
          ·rename_i hi;obtain⟨u,h3,h4⟩:=G.rel (i-len) j r d V Y;have ct:=(adB.1 h3).1;have hmul:i*m=len*m+(i-len)*m:=(by rw[<-adT];congr 1;omega);rw[if_pos (by omega)];refine⟨u,?_,h4⟩;rw[<-h3];congr 1;omega
       ·exact grow _ len cap _ C (H.del g) O6 S L R (fun O hw=>by
         refine run_firstCells_some O m len _ len cap C (by rw[L.len,R]) (fun j v hv=> ?_)
         rw[AU,<-ei j v hv]
         simp[World.cell?,hw]) (by omega) hk
    ·simp at M
   ·simp at M
 ·simp at M
end
def wr(rows:List (List D1))(p:Nat)(new:List (List D1)):List (List D1):=rows.take p++new++rows.drop (p+new.length)
theorem Rg(rows:List (List D1))(p:Nat)(new:List (List D1))(hp:p<=rows.length)(i:Nat):
 (wr rows p new)[i]?=if i<p then rows[i]? else if i<p+new.length then new[i-p]? else rows[i]?:=by
 unfold wr
 have a:(rows.take p).length=p:=by simp;omega
 rw[adH,adU,a]
 split
 ·rename_i h;rw[ad2,if_pos h]
 ·rename_i h;rw[adU];split;·rename_i b;rw[if_pos (by omega)]
  ·rename_i b;rw[if_neg (by omega),adO];congr 1;omega
theorem Ji(rows:List (List D1))(p:Nat)(new:List (List D1))(hp:p<=rows.length):(wr rows p new).length=max rows.length (p+new.length):=by simp[wr];omega
section
variable{P:Program}{c:Cf}{H:aA}
theorem ZV(hs:St c H){b:Nat}{a:bN}(k:H b=some a)(g:0<a.ext){p:Nat}(hp:p<=a.rows.length){new:List (List D1)}{news:List Value}(G:0<a.n)(l:GZ c a.n new news)
 (v:p+new.length<=a.ext): ∃c',(storeCells ⟨(c.ρ b).1,(c.ρ b).2+p*a.n,none⟩ news).run P c.w= .ok () c'.w/\St c' (H.set b ⟨a.n,a.ext,wr a.rows p new⟩)/\
  Step c H c' (H.set b ⟨a.n,a.ext,wr a.rows p new⟩)/\ ∀i,c'.N i↔c.N i:=by
 obtain⟨arr,I,E,f⟩:=hs.Ea k g (fun hm=>by have:=hm.1;omega)
 have A:=hs.named b a k
 have x:=l.tY G
 have J:news.length=new.length*a.n:=l.len
 have q:(p+new.length)*a.n<=a.ext*a.n:=aeD _ v
 rw[adT] at q
 have B:=f.size
 have y:=run_storeCells_at P (c.ρ b).1 ((c.ρ b).2+p*a.n) I news 0 arr c.w E (by omega) x
 simp only[Nat.add_zero] at y
 have s:=Rm hs (H0:=H.del b) O6 (base:=(c.ρ b).2) (m:=b) (o:=⟨a.n,a.ext,wr a.rows p new⟩)
  (arr':=(arr.toList.take ((c.ρ b).2+p*a.n)++news++arr.toList.drop ((c.ρ b).2+p*a.n+news.length)).toArray)
  E ⟨b,a,k,g,rfl⟩ (HW hs k g) (fun _=>rfl) (by simp[aA.del]) ?_
 ·rw[Il] at s;exact⟨_,y,s.1,s.2,fun i=>⟨fun h=>h.elim (fun h=>h▸A) id,.inr⟩⟩
 ·have e: ∀(i:Nat) (r:List D1),(wr a.rows p new)[i]?=some r->r.length=a.n:=by
   intro i r hr
   rw[Rg _ _ _ hp] at hr
   split at hr
   ·exact f.len i r hr
   ·split at hr;·exact l.row _ r hr
    ·exact f.len i r hr
  refine⟨by show (wr a.rows p new).length<=a.ext;rw[Ji _ _ _ hp];have:=f.le;omega,e,?_,fun i j r d t z=> ?_,fun hm=>by have:=hm.1;dsimp only at this;omega⟩
  ·simp only[afC,ac7,adP,adL,Array.length_toList];omega
  ·simp only[ae1];rw[JZ _ _ _ _ (by simp only[Array.length_toList];omega)];have C:j<a.n:=(by rw[<-e i r t];exact(adB.1 z).1);rw[Rg _ _ _ hp] at t;split at t;·rename_i hi;have:=V7 C hi;rw[if_neg (by omega)];simpa using f.rel i j r d t z
   ·rename_i hi;have O:i=p+(i-p):=(by omega);have Q:i*a.n=p*a.n+(i-p)*a.n:=(by rw[<-adT];congr 1);split at t;·rename_i D;obtain⟨u,F,K⟩:=l.rel (i-p) j r d t z;have L:=(adB.1 F).1;rw[if_pos (by omega)];refine⟨u,?_,K⟩;rw[<-F];congr 1;omega
    ·rename_i D;have M:(p+new.length)*a.n<=i*a.n:=aeD _ (by omega);rw[adT] at M;rw[if_neg (by omega)];simpa using f.rel i j r d t z
end
section
variable{P:Program}{c:Cf}{H:aA}{T:Nat}{e:Env}{a:Act}
inductive Kind where
 |q (reads:Bool)
 |a
 |l
def XK.kind:XK->Kind
 | .bad| .DX _| .aeq .. =>.q false
 | .uX _| .copy _| .clear .. | .gn .. | .bq _| .LX .. | .zL| .wL .. | .DE .. =>.l
def AOp.kind:AOp->Kind
 | .load .. =>.q true
 | .alloc _| .box .. | .aV .. | .rO .. =>.a
 | .store .. | .append .. | .call .. | .xB .. =>.l
 | .xop k _=>k.kind
 |_=>.q false
theorem sI{α:Type}{l:Array α}{x:α}(h:l.toList=[x]):l= #[x]:=by apply aeW;simpa using h
theorem CS{α:Type}{l:Array α}{x y:α}(h:l.toList=[x,y]):l= #[x,y]:=by apply aeW;simpa using h
theorem uC{b:Builtin}{args:Array Operand}{g:Array TypeId}{e:AOp}(h:VF P b args.toList g.toList=some e):
 (∃x t y,b= .len/\args= #[x]/\g= #[t]/\trO x=some y/\((P.underlying t=some .string/\e= .len true y)\/(∃el,P.underlying t=some (.slice el))/\e= .len false y))\/
 (∃x t y el,b= .cap/\args= #[x]/\g= #[t]/\trO x=some y/\P.underlying t=some (.slice el)/\e= .cap y)\/
 (∃x y x' f k,b=(if k then .min else .max)/\args= #[x,y]/\trO x=some x'/\trO y=some f/\e= .mmx k x' f)\/
 (∃s x t s' x' el n,b= .append/\args= #[s,x]/\g= #[t,t]/\trO s=some s'/\trO x=some x'/\fU P t=some (el,n)/\0<n/\(∃z,zeroOf P el=some z)/\P.bytesOf el<=65536/\e= .append n s' x'):=by
 generalize a:args.toList=p at h
 generalize c:g.toList=q at h
 unfold VF at h
 split at h
 ·rename_i x t;split at h;·rename_i y d hu;simp only[Option.some.injEq] at h;exact .inl ⟨x,t,y,rfl,sI a,sI c,d,.inl ⟨hu,h.symm⟩⟩
  ·rename_i y el d hu;simp only[Option.some.injEq] at h;exact .inl ⟨x,t,y,rfl,sI a,sI c,d,.inr ⟨⟨_,hu⟩,h.symm⟩⟩
  ·simp at h
 ·rename_i x t;split at h;·rename_i y el d hu;simp only[Option.some.injEq] at h;exact .inr (.inl ⟨x,t,y,_,rfl,sI a,sI c,d,hu,h.symm⟩)
  ·simp at h
 ·rename_i x y;split at h;·rename_i x' f i d;simp only[Option.some.injEq] at h;exact .inr (.inr (.inl ⟨x,y,x',f,true,rfl,CS a,i,d,h.symm⟩))
  ·simp at h
 ·rename_i x y;split at h;·rename_i x' f i d;simp only[Option.some.injEq] at h;exact .inr (.inr (.inl ⟨x,y,x',f,false,rfl,CS a,i,d,h.symm⟩))
  ·simp at h
 ·rename_i s x t u;split at h
  ·rename_i s' x' el n hs i j;split at h;·rename_i hc;obtain⟨rfl,l,m,o⟩:=hc;simp only[Option.some.injEq] at h;exact .inr (.inr (.inr ⟨s,x,t,s',x',el,n,rfl,CS a,CS c,hs,i,j,l,agP.1 m,o,h.symm⟩))
   ·simp at h
  ·simp at h
 ·simp at h
theorem Lv(hs:St c H)(he:ER c T e a){o:Oper}{V:AOp}{d:D}(f:MZ P o.op=some V)(j:bL H e V=some d):nC P c a o d:=by
 generalize q:o.op=op at f;unfold MZ at f;split at f;·simp only[adC] at f;obtain⟨y,i,rfl⟩:=f;exact Qf he (.inl q) i j
 ·simp only[adC] at f;obtain⟨y,i,rfl⟩:=f;exact Qf he (.inr q) i j
 ·split at f;·rename_i I J M;simp only[Option.some.injEq] at f;subst f;exact Ys he q I J M j
  ·simp at f
 ·simp only[adC] at f;obtain⟨y,i,rfl⟩:=f;exact Oy he q i j
 ·split at f;·rename_i n g y hl i;simp only[Option.some.injEq] at f;subst f;exact Zv hs he q hl i j
  ·simp at f
 ·split at f;·simp only[Option.some.injEq] at f;subst f;simp[bL] at j
  ·simp at f
 ·split at f
  ·rename_i W y hu i;split at f
   ·rename_i fd N;split at f
    ·rename_i n g hl;split at f;·simp at f
     ·rename_i X;simp only[Option.some.injEq] at f;subst f;exact abR he q hu N hl X i j
    ·simp at f
   ·simp at f
  ·simp at f
 ·split at f
  ·rename_i el y z hu i r;split at f;·rename_i n g hl;simp only[Option.some.injEq] at f;subst f;exact abL he q hu hl i r j
   ·simp at f
  ·rename_i len el y z hu i r;split at f;·rename_i n g hl;simp only[Option.some.injEq] at f;subst f;exact Zh he q hu hl i r j
   ·simp at f
  ·simp at f
 ·split at f;·rename_i y z hu i r;simp only[Option.some.injEq] at f;subst f;exact Xz he q i r j
  ·rename_i y z hu i r;simp only[Option.some.injEq] at f;subst f;exact Xz he q i r j
  ·rename_i y z hu i r;split at f;·simp only[Option.some.injEq] at f;subst f;exact Yf (neg:=false) he q hu i r j
   ·simp only[Option.some.injEq] at f;subst f;exact Yf (neg:=true) he q hu i r j
   ·simp at f
  ·simp at f
 ·simp only[adC] at f;obtain⟨y,i,rfl⟩:=f;exact acU he q i j
 ·split at f;·rename_i k0 k y I J M;simp only[Option.some.injEq] at f;subst f;exact Zl he q I J M j
  ·simp at f
 ·simp only[adC] at f;obtain⟨y,i,rfl⟩:=f;exact abM he q i j
 ·rename_i t x Z k2;split at f
  ·rename_i el y hu i;split at f
   ·rename_i p hl;obtain⟨n,g⟩:=p;simp only[Option.some.injEq] at f;subst f;have O:=(kU hl c.w).2.1
    have key: ∀A len cap,a.eval x= .slice A len cap->nC P c a o (.one (.c .nil)):=by
     intro A len cap u;refine⟨.slice A 0 0,?_,?_⟩
     ·have K:=VU (P:=P) (c:=c) (l:=0) (h:=0) (m:=0) (x:=a.eval x) (lo:=none) (hi:=some (.int Z 0)) (mx:=some (.int k2 0)) hu O u
       (.inr ⟨_,rfl,by simp[Instr.sliceBound,asIntOf]⟩) (.inr ⟨_,rfl,fun code=>by simp[Instr.sliceBound,asIntOf]⟩) (.inl ⟨rfl,rfl⟩)
      have hk: ∀v,a.eval (.const v)=v:=fun _=>rfl
      simp only[execOp,q,Option.map_none,Option.map_some,hk,Sem.run_bind,K,Result.andThen_ok,Sem.run_pure]
      simp
     ·simp only[iA,mH,Rel,cX,D1.nil];exact⟨ac1 _,.inl ⟨trivial,A,rfl⟩⟩
    simp only[bL] at j;split at j;·rename_i rows Q;simp only[Option.some.injEq] at j;subst j;obtain⟨A,cap,u,_⟩:=vy (vJ he i Q);exact key A _ _ u
    ·rename_i m id off len cap Q;simp only[Option.some.injEq] at j;subst j;have hr:=vJ he i Q;simp only[Rel,cX] at hr;obtain⟨_,⟨_,A,u⟩|⟨_,_,u⟩⟩:=hr;·exact key _ _ _ u
     ·exact key _ _ _ u
    ·simp at j
   ·simp at f
  ·simp at f
 ·split at f
  ·rename_i el y R hi' S hu i B C E;split at f
   ·rename_i n g hl;split at f;·simp at f
    ·rename_i F;simp only[Option.some.injEq] at f;subst f;refine abY he q hu hl i B C E (fun I J=> ?_) j;apply F;subst J
     cases S with
     |none=>exact absurd rfl I
     |some _=>rfl
   ·simp at f
  ·rename_i y R hi' hu i B C E;simp only[Option.some.injEq] at f;subst f;have:=(TC E).2 rfl;subst this;exact abH he q hu i B C j
  ·simp at f
 ·split at f
  ·rename_i W y hu i;split at f
   ·rename_i fd N;split at f;·rename_i n g hl;simp only[Option.some.injEq] at f;subst f;exact Vu he q hu N hl i j
    ·simp at f
   ·simp at f
  ·simp at f
 ·split at f;·rename_i y z hu i r;simp only[Option.some.injEq] at f;subst f;exact aaV he q hu i r j
  ·simp at f
 ·split at f
  ·rename_i W z hu r;split at f;·rename_i L;simp only[adC] at f;obtain⟨qs,G,rfl⟩:=f;exact Ux he q hu r L G j
   ·simp at f
  ·rename_i len el z hu r;split at f;·rename_i n g hl;simp only[adC] at f;obtain⟨qs,G,rfl⟩:=f;exact Rn he q hu r hl G j
   ·simp at f
  ·simp at f
 ·simp only[adC] at f;obtain⟨y,i,rfl⟩:=f;simp[bL] at j
 ·split at f;·simp only[Option.some.injEq] at f;subst f;simp[bL] at j
  ·simp at f
 ·split at f
  ·split at f
   ·split at f;·simp only[adC] at f;obtain⟨qs,_,rfl⟩:=f;simp[bL] at j
    ·simp at f
   ·simp at f
  ·simp at f
 ·split at f
  ·split at f
   ·split at f;·simp only[Option.some.injEq] at f;subst f;simp[bL] at j
    ·simp at f
   ·simp at f
  ·simp at f
 ·rename_i cl;obtain⟨callee,args,ts⟩:=cl;split at f
  ·rename_i b U;simp only at U;subst U;rcases uC f with⟨x,t,y,rfl,rfl,rfl,i,⟨hu,rfl⟩|⟨hu,rfl⟩⟩|⟨x,t,y,el,rfl,rfl,rfl,i,hu,rfl⟩|⟨x,y,x',y',mn,rfl,rfl,Y,i,rfl⟩|⟨s,x,t,s',x',el,n,rfl,rfl,rfl,aa,Y,ab,X,r,U,rfl⟩
   ·exact Yb he q (by simpa using hu) i j
   ·exact Yb he q (by simpa using hu) i j
   ·exact ab7 he q hu i j
   ·exact ab9 he q Y i j
   ·simp[bL] at j
  ·simp only[adC] at f;obtain⟨l,_,rfl⟩:=f;simp[bL] at j
  ·split at f;·simp only[Option.some.injEq] at f;subst f;simp[bL] at j
   ·simp at f
  ·simp at f
 ·simp at f
end
def vX(P:Program)(f:FuncId):Bool:=
 match P.funcs[f]? with
 |some fn=>fn.body.isSome&& !(fn.name== "runtime.NumGoroutine")
 |none=>false
def aC(P:Program)(f:FuncId)(args:List D)(H:aA)(nx:Nat)(K:D->aA->Nat->Prop):Prop:=
 vX P f=true/\ ∀(c:Cf) (vs:List Value),St c H->(∀i,c.N i->i<nx)->vs.length=args.length->(∀(i:Nat) (d:D) (v:Value),args[i]?=some d->vs[i]?=some v->iA c d v)->
  Calls P f vs.toArray c.w fun x a=>∃v c' r H' nx',x= .returned v/\c'.w=a/\St c' H'/\Step c H c' H'/\(∀i,c'.N i->c.N i\/(nx<=i/\i<nx'))/\nx<=nx'/\iA c' r v/\K r H' nx'
theorem aC.mono{P:Program}{f:FuncId}{args:List D}{H:aA}{nx:Nat}{K a:D->aA->Nat->Prop}(h:aC P f args H nx K)(d: ∀r H' nx',nx<=nx'->K r H' nx'->a r H' nx'):aC P f args H nx a:=by refine⟨h.1,fun c vs e g i j=> ?_⟩;refine(h.2 c vs e g i j).mono ?_;rintro x s ⟨v,c',r,H',nx',k,l,m,n,o,b,p,q⟩;exact⟨v,c',r,H',nx',k,l,m,n,o,b,p,d r H' nx' b q⟩
def bD(b:Bool):D:=.one (.c (.v (.bool b)))
def Vf(P:Program)(f:FuncId)(args:List D)(H:aA)(nx:Nat)(K:D->aA->Nat->Prop):Prop:=
 ∀(c:Cf) (vs:List Value),St c H->vs.length=args.length->(∀(i:Nat) (d:D) (v:Value),args[i]?=some d->vs[i]?=some v->iA c d v)->
  ∃v r,(callFunc f vs.toArray).run P c.w= .ok (.value v) c.w/\iA c r v/\K r H nx
def Vc:D->Option Nat
 | .one (.c (.isl rows))=>some rows.length
 | .one (.c (.osl _ _ _ len _))=>some len
 |_=>none
def sy(k:Nat):D->D
 | .one (.c (.isl rows))=>.one (.c (.isl (rows.take k)))
 | .one (.c (.osl m id off _ cap))=>.one (.c (.osl m id off k cap))
 |d=>d
def uy(H:aA)(n:Nat):D->D->Option (Nat×bN×Nat)
 | .one (.c (.osl m id off len cap)),s=>match H id,Vc s with
   |some o,some ls=>match UM H n (sy (min ls len) s) with
    |some new=>if o.n=n/\m=n/\0<n/\(0<cap/\0<o.ext\/min ls len=0)/\off<=o.rows.length/\off+min ls len<=o.ext then some (id,⟨o.n,o.ext,Go.AM.wr o.rows off new⟩,min ls len) else none
    |none=>none
   |_,_=>none
 |_,_=>none
def WM(H:aA)(n:Nat)(z:List D1):D->Option (Nat×bN)
 | .one (.c (.osl m id off len cap))=>match H id with
   |some o=>if o.n=n/\m=n/\0<n/\0<cap/\0<o.ext/\off<=o.rows.length/\off+len<=o.ext then some (id,⟨o.n,o.ext,Go.AM.wr o.rows off (List.replicate len z)⟩) else none
   |none=>none
 |_=>none
def sw(H:aA)(n:Nat)(z:List D1):D->D->Option (Nat×List (List D1))
 | .one (.c (.osl m id off len cap)),.one (.c (.v (.int .i64 k)))=>match H id with
   |some o=>if o.n=n/\m=n/\0<n/\off+len<=o.rows.length/\0<k/\cap<len+k.toNat/\len+k.toNat<=2147483647 then some (len+k.toNat,(o.rows.drop off).take len++List.replicate k.toNat z) else none
   |none=>none
 |_,_=>none
def j9(m:List (List Int×Int))(l:List Int):Option Int:=(m.find? fun p=>decide (l=p.1)).map (·.2)
def xlL(H:aA)(nx:Nat)(R:D->aA->Nat->Prop):Option pZ->Prop
 |some x=>R (.one (.c (.v (.int .i64 x.m.length)))) H nx
 |none=>False
def xlG(H:aA)(nx:Nat)(R:D->aA->Nat->Prop)(kn:Nat)(bl ok:Bool):Option pZ->Option (List Int)->Prop
 |some x,some l=>(x.kn=kn/\x.bl=bl/\l.length=IK kn)/\R (if ok then .tup [.c (.v (elemV bl ((j9 x.m l).getD 0))),.c (.v (.bool (j9 x.m l).isSome))] else .one (.c (.v (elemV bl ((j9 x.m l).getD 0))))) H nx
 |_,_=>False
def B1(m:List (List Int×Int))(l:List Int)(n:Int):List (List Int×Int):=
 match m with
 | []=>[(l,n)]
 |p::r=>if l=p.1 then (l,n)::r else p::B1 r l n
def xlS(H:aA)(nx:Nat)(R:D->aA->Nat->Prop)(kn:Nat)(bl:Bool)(i:Nat):Option pZ->Option (List Int)->Option Int->Prop
 |some x,some l,some n=>(x.kn=kn/\x.bl=bl/\l.length=IK kn)/\R .dead (H.set i (DH ⟨kn,bl,B1 x.m l n⟩)) nx
 |_,_,_=>False
def xl(P:Program)(id:Nat)(H:aA)(nx:Nat)(R:D->aA->Nat->Prop):XK->List D->Prop
 | .uX neg,[.one (.c (.isl rows))]=>if rows.length=0 then ∀b,R (bD b) H nx else R (bD neg) H nx
 | .uX neg,[.one (.c (.osl _ _ _ _ cap))]=>if cap=0 then ∀b,R (bD b) H nx else R (bD neg) H nx
 | .copy n,[d,s]=>match uy H n d s with
   |some (i,e,k)=>R (.one (.c (.v (.int .i64 k)))) (H.set i e) nx
   |none=>False
 | .clear n z,[d]=>match WM H n z d with
   |some (i,e)=>R (.tup []) (H.set i e) nx
   |none=>False
 | .gn n z,[d,k]=>match sw H n z d k with
   |some (a,rows)=>∀cap,a<=cap->R (.one (.c (.osl n id 0 a cap))) (H.set id ⟨n,cap,rows⟩) nx
   |none=>False
 | .bq f,g=>Vf P f g H nx R
 | .LX kn bl,[]=>R (.one (.c (.omap id))) (H.set id (DH ⟨kn,bl,[]⟩)) nx
 | .zL,[.one (.c (.omap i))]=>xlL H nx R (RH H i)
 | .zL,[.one (.c (.WE x))]=>xlL H nx R (some x)
 | .wL kn bl ok,[.one (.c (.omap i)),k]=>xlG H nx R kn bl ok (RH H i) (XM kn k)
 | .wL kn bl ok,[.one (.c (.WE x)),k]=>xlG H nx R kn bl ok (some x) (XM kn k)
 | .DE kn bl,[.one (.c (.omap i)),k,v]=>xlS H nx R kn bl i (RH H i) (XM kn k) (bn bl v)
 |_,_=>False
theorem Wk{P:Program}{id:Nat}{H:aA}{nx:Nat}{R R':D->aA->Nat->Prop}{k:XK}{e:List D}(h:xl P id H nx R k e)(a: ∀r H' nx',nx<=nx'->R r H' nx'->R' r H' nx'):xl P id H nx R' k e:=by
 unfold xl at*;split at h
 ·split at h;·rename_i d;simp only[d,if_true];exact fun b=>a _ _ _ (ac1 _) (h b)
  ·rename_i d;simp only[d,if_false];exact a _ _ _ (ac1 _) h
 ·split at h;·rename_i d;simp only[d,if_true];exact fun b=>a _ _ _ (ac1 _) (h b)
  ·rename_i d;simp only[d,if_false];exact a _ _ _ (ac1 _) h
 ·split at h;·exact a _ _ _ (ac1 _) h
  ·exact h.elim
 ·split at h;·exact a _ _ _ (ac1 _) h
  ·exact h.elim
 ·split at h;·exact fun cap hc=>a _ _ _ (ac1 _) (h cap hc)
  ·exact h.elim
 ·intro c vs f g i;obtain⟨v,r,j,l,m⟩:=h c vs f g i;exact⟨v,r,j,l,a _ _ _ (ac1 _) m⟩
 ·exact a _ _ _ (ac1 _) h
 ·revert h;unfold xlL;split;·exact fun h=>a _ _ _ (ac1 _) h
  ·exact fun h=>h
 ·exact a _ _ _ (ac1 _) h
 ·revert h;unfold xlG;split;·exact fun h=>⟨h.1,a _ _ _ (ac1 _) h.2⟩
  ·exact fun h=>h
 ·revert h;unfold xlG;split;·exact fun h=>⟨h.1,a _ _ _ (ac1 _) h.2⟩
  ·exact fun h=>h
 ·revert h;unfold xlS;split;·exact fun h=>⟨h.1,a _ _ _ (ac1 _) h.2⟩
  ·exact fun h=>h
 ·exact h.elim
def PT(P:Program)(id:Nat)(o:AOp)(e:Env)(H:aA)(nx:Nat)(R:D->aA->Nat->Prop):Prop:=
 match o with
 | .store n g a x=>∃i b,TN H e (.store n g a x)=some (i,b)/\R .dead (H.set i b) nx
 | .append n s x=>∃dl m k rows,Q0 H e (.append n s x)=some (dl,m,k,rows)/\k<=2147483647/\ ∀cap,k<=cap->Ox (s.ev e)<=cap->R (.one (.c (.osl m id 0 k cap))) ((lq H dl).set id ⟨m,cap,rows⟩) nx
 | .call f args=>aC P f (args.map (·.ev e)) H nx R
 | .xB g args=>∃f caps,g.ev e= .one (.c (.clo f caps))/\aC P f (args.map (·.ev e)++caps.map fun d=>.one (.c d)) H nx R
 | .xop k args=>xl P id H nx R k (args.map (·.ev e))
 |_=>False
theorem E9{P:Program}{id:Nat}{o:AOp}{e:Env}{H:aA}{nx:Nat}{R R':D->aA->Nat->Prop}(h:PT P id o e H nx R)(a: ∀r H' nx',nx<=nx'->R r H' nx'->R' r H' nx'):PT P id o e H nx R':=by
 unfold PT at*;split at h;·obtain⟨i,g,b,c⟩:=h;exact⟨i,g,b,a _ _ _ (ac1 _) c⟩
 ·obtain⟨dl,m,k,rows,b,c,j⟩:=h;exact⟨dl,m,k,rows,b,c,fun cap hc d=>a _ _ _ (ac1 _) (j cap hc d)⟩
 ·exact h.mono a
 ·obtain⟨f,caps,b,c⟩:=h;exact⟨f,caps,b,c.mono a⟩
 ·exact Wk h a
 ·exact h
section
variable{P:Program}{c:Cf}{H:aA}{T:Nat}{e:Env}{a:Act}
theorem Km(hs:St c H)(he:ER c T e a){o:Oper}{A:AOp}{d:D}{C:bN}{id:Nat}(u: ¬c.N id)(f:MZ P o.op=some A)(q:pD id e A=some (d,C)):WY P c H a o id d C:=by
 have h: ∀r,A=r->(match r with| .alloc _| .box .. | .aV .. | .rO .. =>True|_=>False):=by rintro r rfl;unfold pD at q;split at q<;>first|trivial|simp at q
 generalize v:o.op=op at f;unfold MZ at f;split at f;case h_18 t=>simp only[adC] at f;obtain⟨z,j,rfl⟩:=f;exact Wj hs u v j q
 case h_19 t x=>
  split at f;·rename_i m g y hl w;simp only[Option.some.injEq] at f;subst f;exact abE hs he u v w q
  ·simp at f
 case h_20 t len K=>
  split at f
  ·rename_i el n p;split at f
   ·rename_i z j;split at f;·rename_i hc;simp only[adC] at f;obtain⟨qs,B,rfl⟩:=f;exact Sx hs he u v p j hc.1 hc.2.1 hc.2.2 B q
    ·simp at f
   ·simp at f
  ·simp at f
 case h_21 t l k=>
  split at f
  ·rename_i el n L k' p hl E;split at f
   ·rename_i z j;split at f
    ·rename_i hc;simp only[Option.some.injEq] at f;subst f
     obtain⟨i,hi⟩: ∃i,P.info? el=some i:=by
      unfold zeroOf at j;split at j;·rename_i i hi;exact⟨i,hi⟩
      ·simp at j
     exact Kc hs he u v p j hc.1 hc.2.1 hi (by simpa [Program.bytesOf,hi] using hc.2.2) hl E q
    ·simp at f
   ·simp at f
  ·simp at f
 case h_22 F=>
  obtain⟨callee,args,M⟩:=F;split at f;·rename_i b G;rcases uC f with⟨x,t,y,rfl,rfl,rfl,w,⟨hu,rfl⟩|⟨hu,rfl⟩⟩|⟨x,t,y,el,rfl,rfl,rfl,w,hu,rfl⟩|⟨x,y,x',O,Q,rfl,rfl,I,w,rfl⟩|⟨s,x,t,s',x',el,n,rfl,rfl,rfl,J,I,p,R,j,G,rfl⟩<;>exact(h _ rfl).elim
  ·simp only[adC] at f;obtain⟨l,_,rfl⟩:=f;exact(h _ rfl).elim
  ·split at f;·simp only[Option.some.injEq] at f;subst f;exact(h _ rfl).elim
   ·simp at f
  ·simp at f
 all_goals
  (repeat' (split at f))<;>first
   | (simp at f;done)
   | (simp only[Option.some.injEq] at f;subst f;exact(h _ rfl).elim)
   | (simp only[adC] at f;obtain⟨_,_,rfl⟩:=f;exact(h _ rfl).elim)
variable{op:Op}
theorem Qv{n:Nat}{g:Bool}{x' a:aZ}(h:MZ P op=some (.store n g x' a)): ∃t x y,op= .store t x y/\layout P t=some (n,g)/\trO x=some x'/\trO y=some a:=by
 unfold MZ at h;split at h
 case h_6 t x y=>
  split at h;·rename_i m p u v d e f;simp only[Option.some.injEq,AOp.store.injEq] at h;obtain⟨rfl,rfl,rfl,rfl⟩:=h;exact⟨_,_,_,rfl,d,e,f⟩
  ·simp at h
 case h_22 i=>
  obtain⟨callee,args,q⟩:=i;split at h;·rename_i b j;rcases uC h with⟨x,t,y,rfl,rfl,rfl,c,⟨hu,h⟩|⟨hu,h⟩⟩|⟨x,t,y,el,rfl,rfl,rfl,c,hu,h⟩|⟨x,y,x',a,r,rfl,rfl,k,c,h⟩|⟨s,x,t,s',x',el,n,rfl,rfl,rfl,l,k,o,w,z,j,h⟩<;>simp at h
  ·simp at h
  ·split at h<;>simp at h
  ·simp at h
 all_goals
  (repeat' (split at h))<;>simp at h
theorem Kp{n:Nat}{s' x':aZ}(h:MZ P op=some (.append n s' x')): ∃t s x el,op= .call {callee:=.builtin .append,args:=#[s,x],argTypes:=#[t,t]}/\fU P t=some (el,n)/\0<n/\
 (∃z,zeroOf P el=some z)/\P.bytesOf el<=65536/\trO s=some s'/\trO x=some x':=by
 unfold MZ at h
 split at h
 case h_22 g=>
  obtain⟨callee,args,k⟩:=g;split at h
  ·rename_i b a;simp only at a;subst a;rcases uC h with⟨x,t,y,rfl,rfl,rfl,e,⟨hu,h⟩|⟨hu,h⟩⟩|⟨x,t,y,el,rfl,rfl,rfl,e,hu,h⟩|⟨x,y,x',l,m,rfl,rfl,f,e,h⟩|⟨s,x,t,s',x',el,n,rfl,rfl,rfl,c,f,d,i,j,a,h⟩
   ·simp at h
   ·simp at h
   ·simp at h
   ·simp at h
   ·simp only[AOp.append.injEq] at h;obtain⟨rfl,rfl,rfl⟩:=h;exact⟨t,s,x,el,rfl,d,i,j,a,c,f⟩
  ·simp at h
  ·split at h<;>simp at h
  ·simp at h
 all_goals
  (repeat' (split at h))<;>simp at h
theorem Ul{f:FuncId}{l:List aZ}(h:MZ P op=some (.call f l)): ∃a:Call,op= .call a/\a.callee= .value (.func f)/\a.args.toList.mapM trO=some l:=by
 unfold MZ at h;split at h
 case h_22 a=>
  obtain⟨callee,args,m⟩:=a;split at h;·rename_i b e;rcases uC h with⟨x,t,y,rfl,rfl,rfl,c,⟨hu,h⟩|⟨hu,h⟩⟩|⟨x,t,y,el,rfl,rfl,rfl,c,hu,h⟩|⟨x,y,x',o,p,rfl,rfl,g,c,h⟩|⟨s,x,t,s',x',el,n,rfl,rfl,rfl,i,g,j,q,r,e,h⟩<;>simp at h
  ·rename_i u hc;simp only[adC] at h;obtain⟨v,k,d⟩:=h;simp only[AOp.call.injEq] at d;obtain⟨rfl,rfl⟩:=d;exact⟨_,rfl,hc,k⟩
  ·split at h<;>simp at h
  ·simp at h
 all_goals
  (repeat' (split at h))<;>simp at h
theorem Rj{g:aZ}{l:List aZ}(h:MZ P op=some (.xB g l)): ∃(a:Call) (x:Operand),op= .call a/\a.callee= .value x/\trO x=some g/\a.args.toList.mapM trO=some l:=by
 unfold MZ at h;split at h
 case h_22 a=>
  obtain⟨callee,args,m⟩:=a;split at h;·rename_i b e;rcases uC h with⟨x,t,y,rfl,rfl,rfl,c,⟨hu,h⟩|⟨hu,h⟩⟩|⟨x,t,y,el,rfl,rfl,rfl,c,hu,h⟩|⟨x,y,x',o,p,rfl,rfl,d,c,h⟩|⟨s,x,t,s',x',el,n,rfl,rfl,rfl,f,d,i,q,r,e,h⟩<;>simp at h
  ·simp at h
  ·rename_i x d hc;split at h;·rename_i y u j k;simp only[Option.some.injEq,AOp.xB.injEq] at h;obtain⟨rfl,rfl⟩:=h;exact⟨_,x,rfl,hc,j,k⟩
   ·simp at h
  ·simp at h
 all_goals
  (repeat' (split at h))<;>simp at h
theorem acH{k:XK}{l:List aZ}(h:MZ P op=some (.xop k l)):False:=by
 unfold MZ at h;split at h
 case h_22 c=>
  obtain⟨callee,args,i⟩:=c;split at h;·rename_i b d;rcases uC h with⟨x,t,y,rfl,rfl,rfl,a,⟨hu,h⟩|⟨hu,h⟩⟩|⟨x,t,y,el,rfl,rfl,rfl,a,hu,h⟩|⟨x,y,x',j,m,rfl,rfl,e,a,h⟩|⟨s,x,t,s',x',el,n,rfl,rfl,rfl,f,e,g,o,p,d,h⟩<;>simp at h
  ·simp at h
  ·split at h<;>simp at h
  ·simp at h
 all_goals
  (repeat' (split at h))<;>simp at h
theorem M3(he:ER c T e a): ∀(xs:List Operand) (ys:List aZ),xs.mapM trO=some ys->
 (xs.map a.eval).length=ys.length/\ ∀(i:Nat) (d:D) (v:Value),(ys.map (·.ev e))[i]?=some d->(xs.map a.eval)[i]?=some v->iA c d v
 | [],ys,h=>by simp at h;subst h;simp
 |x::xs,ys,h=>by
  simp only[List.mapM_cons,Option.bind_eq_bind,af3,Option.pure_def,Option.some.injEq] at h;obtain⟨y,g,zs,j,rfl⟩:=h;obtain⟨k,l⟩:=M3 he xs zs j;refine⟨by simpa using k,fun i d v b f=> ?_⟩
  match i with
  |0=>simp at b f;subst b;subst f;exact o8 he g
  |i+1=>exact l i d v (by simpa using b) (by simpa using f)
theorem kh{f:FuncId}(h:vX P f=true)(args:Array Value)(w:World):(callFunc f args).run P w= .ok (.enter f args) w:=by
 unfold vX at h;split at h
 ·rename_i fn hf;simp only[ad3,aeX] at h;have hb:fn.body.isNone=false:=by cases hbb:fn.body<;>simp[hbb] at h ⊢
  have hname:fn.name≠"runtime.NumGoroutine" :=by simpa using h.2
  have hbody:fn.body≠none:=by intro h0;simp[h0] at hb
  simp[callFunc,hf,hname,hbody]
 ·simp at h
theorem Oz(hs:St c H)(he:ER c T e a){o:Oper}{ao:AOp}{id nx:Nat}{R:D->aA->Nat->Prop}(hN: ∀i,c.N i->i<nx)(L: ¬c.N id)(E:MZ P o.op=some ao)(h:PT P id ao e H nx R)
 {next:Act->World->Prop} {Qr:Exit->Act->World->Prop}
 (J: ∀d v c' H' nx',St c' H'->Step c H c' H'->iA c' d v->(∀i,c'.N i->c.N i\/i=id\/(nx<=i/\i<nx'))->nx<=nx'->R d H' nx'->next (a.put o.dst v) c'.w):o.wp P a c.w next Qr:=by
 unfold PT at h
 split at h
 ·obtain⟨t,x,y,q,hl,F,M⟩:=Qv E;obtain⟨i,ob,K,O⟩:=h;obtain⟨c',j,n,u,Q⟩:=Uj (P:=P) hs he q hl F M K;unfold Oper.wp;rw[j];exact J .dead undef c' _ nx n u trivial (fun i hi=>.inl ((Q i).1 hi)) (ac1 _) O
 ·rename_i n0 s0 x0;obtain⟨t,s,x,el,q,S,hn,hz,hb,F,M⟩:=Kp E;obtain⟨dl,m,k,rows,K,U,O⟩:=h
  have hm:m=n0:=by
   have b:=K;simp only[Q0] at b;split at b
   ·split at b
    ·split at b;·simp only[Option.some.injEq,Prod.mk.injEq] at b;exact b.2.1.symm
     ·simp at b
    ·split at b
     ·split at b;·simp only[Option.some.injEq,Prod.mk.injEq] at b;exact b.2.1.symm
      ·simp at b
     ·simp at b
   ·simp at b
  subst hm;obtain⟨cap,v,c',hc,j,n,u,Q,h4⟩:=Qt (P:=P) hs he L q S hn hz hb F M U K;unfold Oper.wp;rw[j];exact J _ v c' _ nx n u Q (fun i hi=>((h4 i).1 hi).elim (fun h=>.inr (.inl h)) .inl) (ac1 _) (O cap hc.1 hc.2)
 ·obtain⟨p,q,z,l⟩:=Ul E;rename_i f args;obtain⟨n,u⟩:=M3 he _ _ l;have j:(execOp a.eval o).run P c.w= .ok (.enter f (p.args.toList.map a.eval).toArray) c.w:=by have A:(p.args.toList.map a.eval).toArray=p.args.map a.eval:=(by apply aeW;simp);have hf:a.eval (.func f)= .func (.func f) #[] #[]:=rfl;simp only[execOp,q,resolve,z,hf,Deferred.ofValue,Sem.run_bind,Sem.run_pure,Result.andThen_ok,invoke,kh h.1,A];simp
  unfold Oper.wp;rw[j];refine(h.2 c _ hs hN (by simpa using n) u).mono ?_;rintro x w' ⟨v,c',r,H',nx',rfl,rfl,V,W,X,Y,Z,e8⟩;exact J r v c' H' nx' V W Z (fun i hi=>(X i hi).imp (fun h=>h) .inr) Y e8
 ·obtain⟨p,x,q,z,F,l⟩:=Rj E;rename_i g args;obtain⟨f,caps,hg,hA⟩:=h;obtain⟨n,u⟩:=M3 he _ _ l;have aa:=vJ he F hg;obtain⟨B,ab,G,ad⟩:=aa;have j:(execOp a.eval o).run P c.w= .ok (.enter f (p.args.toList.map a.eval++B).toArray) c.w:=by have A:(p.args.toList.map a.eval++B).toArray=p.args.map a.eval++B.toArray:=(by apply aeW;simp);simp only[execOp,q,resolve,z,ab,Deferred.ofValue,Sem.run_bind,Sem.run_pure,Result.andThen_ok,invoke,kh hA.1,A];simp
  unfold Oper.wp;rw[j];refine(hA.2 c _ hs hN (by simp[G] at n ⊢;exact n) (fun i d v I C=> ?_)).mono ?_
  ·rw[adU] at I C;have hl:(args.map (·.ev e)).length=(p.args.toList.map a.eval).length:=(by rw[n];simp);split at I;·rename_i hi;rw[if_pos (by omega)] at C;exact u i d v I C
   ·rename_i hi;rw[if_neg (by omega)] at C;simp only[adJ,adC] at I;obtain⟨d1,ai,rfl⟩:=I;have:=ad _ d1 v ai (by rw[<-hl] at C;exact C)
    have h0: ∀d x,cX c d x->Rel c d x:=by
     intro d x h
     cases d with
     |clo f caps=>simp only[cX] at h;cases h
     |_=>simp only[Rel];exact h
    exact h0 _ _ this
  ·rintro x w' ⟨v,c',r,H',nx',rfl,rfl,V,W,X,Y,Z,e8⟩;exact J r v c' H' nx' V W Z (fun i hi=>(X i hi).imp (fun h=>h) .inr) Y e8
 ·exact(acH E).elim
 ·exact h.elim
end
structure bB where
 ix:Nat
 dst:Option Nat
 op:AOp
 guard:Option (Nat×Bool)
 mask:List Nat
 La:List Nat
 look:Bool
def Env.put(e:Env)(dst:Option Nat)(d:D):Env:=
 match dst with
 |some t=>e.set t d
 |none=>e
def DB(g:Option (Nat×Bool))(e:Env):Option Bool:=
 match g with
 |none=>some true
 |some (t,want)=>match e t with
  | .one (.c (.v (.bool x)))=>some (x==want)
  | .tup []=>some false
  |_=>none
def msk(b:Nat)(l:List Nat)(H:aA):aA:=fun i=>if i∈l.map (b+ ·) then none else H i
def c8(b:Nat)(l:List Nat)(H H':aA):aA:=fun i=>if i∈l.map (b+ ·) then H i else H' i
abbrev fE:=List (Nat×(aA->Prop))
def pC(S:fE)(l:List Nat)(H:aA):Prop:=∀p∈S,p.1∈l->p.2 H
def entry(b:Nat)(o:bB)(e:Env)(d:D):fE:=if o.look then [(o.ix,fun H'=>bL (msk b o.mask H') e o.op=some d)] else []
def aop(P:Program)(b:Nat)(o:bB)(e:Env)(H:aA)(nx:Nat)(S:fE)(K:D->aA->Nat->fE->Prop):Prop:=
 match o.op.kind with
 | .q _=>∃d,bL (msk b o.mask H) e o.op=some d/\K d H nx (entry b o e d++S)
 | .a=>∃d c,pD (b+o.ix) e o.op=some (d,c)/\K d (H.set (b+o.ix) c) nx S
 | .l=>PT P (b+o.ix) o.op e (msk b o.mask H) nx fun d H' nx'=>pC S o.La (c8 b o.mask H H')/\K d (c8 b o.mask H H') nx' S
def pP(P:Program)(b:Nat)(o:bB)(e:Env)(H:aA)(nx:Nat)(S:fE)(K:D->aA->Nat->fE->Prop):Prop:=
 match DB o.guard e with
 |some true=>aop P b o e H nx S K
 |some false=>K (.tup []) H nx S
 |none=>False
def avc(P:Program)(b:Nat)(Q:Env->aA->Nat->Prop):List bB->Env->aA->Nat->fE->Prop
 | [],e,H,nx,_=>Q e H nx
 |o::L,e,H,nx,S=>pP P b o e H nx S fun d H' nx' S'=>avc P b Q L (e.put o.dst d) H' nx' S'
def aZ.tms:aZ->List Nat
 | .tm t=>[t]
 |_=>[]
def U3:Option aZ->List Nat
 |some x=>x.tms
 |none=>[]
def AOp.tms:AOp->List Nat
 | .move x| .zO x| .load _ _ x| .fld _ x| .un _ x| .conv _ x| .len _ x| .cap x| .ext x _| .aaC x| .field _ _ _ x| .box _ x=>x.tms
 | .pick x y z=>x.tms++y.tms++z.tms
 | .idx _ x y| .se _ _ x y| .bin _ x y| .beq _ x y| .mmx _ x y| .Tv x y| .rO _ _ x y| .store _ _ x y| .append _ x y=>x.tms++y.tms
 | .slc _ x lo hi mx=>x.tms++U3 lo++U3 hi++U3 mx
 | .sub x lo hi=>x.tms++U3 lo++U3 hi
 | .build _ a| .aV _ _ _ a=>a.flatMap fun p=>p.2.2.tms
 | .alloc _=>[]
 | .call _ l=>l.flatMap aZ.tms
 | .xB x l=>x.tms++l.flatMap aZ.tms
 | .xop _ l=>l.flatMap aZ.tms
def bB.looks(o:bB):List Nat:=o.op.tms++(match o.guard with|some (t,_)=>[t]|none=>[])
section
variable{P:Program}{b:Nat}{e e':Env}{H:aA}{nx:Nat}
theorem iD{x:aZ}(h: ∀t∈x.tms,e t=e' t):x.ev e=x.ev e':=by
 cases x with
 |tm t=>exact h t (by simp[aZ.tms])
 |kv x=>cases x<;>rfl
 |fn f=>rfl
theorem F3{x:Option aZ}{d:Nat}(h: ∀t∈U3 x,e t=e' t):PN e d x=PN e' d x:=by
 cases x with
 |none=>rfl
 |some x=>simp only[PN];rw[iD (e:=e) (e':=e') h]
theorem MY: ∀(a:List (Nat×Nat×aZ)) (cs:List D1),(∀t∈a.flatMap fun p=>p.2.2.tms,e t=e' t)->y9 e cs a=y9 e' cs a
 | [],_,_=>rfl
 | (off,n,x)::a,cs,h=>by have c:x.ev e=x.ev e':=iD fun t b=>h t (by simp[b]);have d:=fun cs=>MY a cs fun t b=>h t (by simp only[afS,adD];exact .inr b);simp only[y9,c,d]
theorem wI: ∀(l:List aZ),(∀t∈l.flatMap aZ.tms,e t=e' t)->l.map (·.ev e)=l.map (·.ev e')
 | [],_=>rfl
 |x::l,h=>by simp only[adG];rw[iD (e:=e) (e':=e') fun t a=>h t (by simp[a]),wI l fun t a=>h t (by simp only[afS,adD];exact .inr a)]
theorem OR{o:AOp}(h: ∀t∈o.tms,e t=e' t)(H:aA):bL H e o=bL H e' o:=by
 cases o<;>simp only[AOp.tms,adD,afD] at h<;>simp only[bL]
 all_goals first
  |rw[iD (e:=e) (e':=e') h]
  |rw[iD (e:=e) (e':=e') fun t a=>h t (.inl a),iD (e:=e) (e':=e') fun t a=>h t (.inr a)]
  |rw[iD (e:=e) (e':=e') fun t a=>h t (.inl (.inl a)),iD (e:=e) (e':=e') fun t a=>h t (.inl (.inr a)),iD (e:=e) (e':=e') fun t a=>h t (.inr a)]
  |skip
 case slc n x lo hi mx=>rw[iD (e:=e) (e':=e') fun t a=>h t (.inl (.inl (.inl a)))];have b:=fun d=>F3 (e:=e) (e':=e') (x:=lo) (d:=d) fun t a=>h t (.inl (.inl (.inr a)));have c:=fun d=>F3 (e:=e) (e':=e') (x:=hi) (d:=d) fun t a=>h t (.inl (.inr a));have f:=fun d=>F3 (e:=e) (e':=e') (x:=mx) (d:=d) fun t a=>h t (.inr a);simp only[b,c,f]
 case sub x lo hi=>rw[iD (e:=e) (e':=e') fun t a=>h t (.inl (.inl a))];have b:=fun d=>F3 (e:=e) (e':=e') (x:=lo) (d:=d) fun t a=>h t (.inl (.inr a));have c:=fun d=>F3 (e:=e) (e':=e') (x:=hi) (d:=d) fun t a=>h t (.inr a);simp only[b,c]
 case build z g=>rw[MY (e:=e) (e':=e') g z fun t a=>h t (by simpa using a)]
 case xop k l=>rw[wI (e:=e) (e':=e') l fun t a=>h t (by simpa using a)]
theorem W8{o:AOp}{id:Nat}(h: ∀t∈o.tms,e t=e' t):pD id e o=pD id e' o:=by
 cases o<;>simp only[AOp.tms,adD,afD] at h<;>simp only[pD]
 all_goals first
  |rw[iD (e:=e) (e':=e') h]
  |rw[iD (e:=e) (e':=e') fun t a=>h t (.inl a),iD (e:=e) (e':=e') fun t a=>h t (.inr a)]
  |skip
 case aV n len z b=>rw[MY (e:=e) (e':=e') b _ fun t a=>h t (by simpa using a)]
theorem Fa{o:AOp}{id:Nat}{R:D->aA->Nat->Prop}(h: ∀t∈o.tms,e t=e' t):PT P id o e H nx R=PT P id o e' H nx R:=by
 cases o<;>simp only[AOp.tms,adD,afD] at h<;>simp only[PT]
 case store n g x y=>
  have b:TN H e (.store n g x y)=TN H e' (.store n g x y):=by simp only[TN];rw[iD (e:=e) (e':=e') fun t a=>h t (.inl a),iD (e:=e) (e':=e') fun t a=>h t (.inr a)]
  rw[b]
 case append n x y=>
  have b:Q0 H e (.append n x y)=Q0 H e' (.append n x y):=by simp only[Q0];rw[iD (e:=e) (e':=e') fun t a=>h t (.inl a),iD (e:=e) (e':=e') fun t a=>h t (.inr a)]
  rw[b,iD (e:=e) (e':=e') (x:=x) fun t a=>h t (.inl a)]
 case call f l=>rw[wI (e:=e) (e':=e') l fun t a=>h t (by simpa using a)]
 case xB x l=>rw[wI (e:=e) (e':=e') l fun t a=>h t (.inr (by simpa using a)),iD (e:=e) (e':=e') fun t a=>h t (.inl a)]
 case xop k l=>rw[wI (e:=e) (e':=e') l fun t a=>h t (by simpa using a)]
theorem dk{o:AOp}(h:o.kind= .q false)(H H':aA):bL H e o=bL H' e o:=by cases o<;>first|rfl| (simp[AOp.kind] at h;done)
theorem fv{g:Option (Nat×Bool)}(h: ∀t w,g=some (t,w)->e t=e' t):DB g e=DB g e':=by
 cases g with
 |none=>rfl
 |some p=>obtain⟨t,w⟩:=p;simp only[DB];rw[h t w rfl]
theorem W1{o:bB}{d:D}(h: ∀t∈o.op.tms,e t=e' t):entry b o e d=entry b o e' d:=by
 unfold entry;have:(fun H'=>bL (msk b o.mask H') e o.op=some d)=fun H'=>bL (msk b o.mask H') e' o.op=some d:=by funext H';rw[OR h]
 rw[this]
theorem SX{o:bB}{S:fE}{K:D->aA->Nat->fE->Prop}(h: ∀t∈o.looks,e t=e' t):pP P b o e H nx S K=pP P b o e' H nx S K:=by
 have a: ∀t∈o.op.tms,e t=e' t:=fun t c=>h t (by simp[bB.looks,c]);have d:DB o.guard e=DB o.guard e':=fv fun t w f=>h t (by simp[bB.looks,f]);unfold pP;rw[d];split
 ·unfold aop;split;·simp only[OR a,W1 a]
  ·simp only[W8 a]
  ·rw[Fa a]
 ·rfl
 ·rfl
theorem WH{o:bB}{S:fE}{K g:D->aA->Nat->fE->Prop}(h:pP P b o e H nx S K)(c: ∀d H' nx' S',K d H' nx' S'->g d H' nx' S'):pP P b o e H nx S g:=by
 unfold pP at*;split at h
 ·unfold aop at*;split at h;·obtain⟨d,a,f⟩:=h;exact⟨d,a,c _ _ _ _ f⟩
  ·obtain⟨d,i,a,f⟩:=h;exact⟨d,i,a,c _ _ _ _ f⟩
  ·exact E9 h fun d H' nx' _ a=>⟨a.1,c _ _ _ _ a.2⟩
 ·exact c _ _ _ _ h
 ·exact h
theorem IX{Q:Env->aA->Nat->Prop}: ∀(L:List bB) (e:Env) (H:aA) (nx:Nat) (S S':fE),(∀p∈S',p∈S)->avc P b Q L e H nx S->avc P b Q L e H nx S'
 | [],_,_,_,_,_,_,h=>h
 |o::L,e,H,nx,S,S',hs,h=>by
  simp only[avc] at h ⊢;unfold pP at*;split at h
  ·unfold aop at*;split at h
   ·obtain⟨d,a,c⟩:=h;refine⟨d,a,IX L _ _ _ _ _ (fun p hp=> ?_) c⟩;rcases adD.1 hp with f|f;·exact adD.2 (.inl f)
    ·exact adD.2 (.inr (hs p f))
   ·obtain⟨d,g,a,c⟩:=h;exact⟨d,g,a,IX L _ _ _ _ _ hs c⟩
   ·exact E9 h fun d H' nx' _ a=>⟨fun p hp=>a.1 p (hs p hp),IX L _ _ _ _ _ hs a.2⟩
  ·exact IX L _ _ _ _ _ hs h
  ·exact h
theorem tr{e:Env}{dst:Option Nat}{d:D}{t:Nat}(h:dst≠some t):e.put dst d t=e t:=by
 cases dst with
 |none=>rfl
 |some u=>simp only[Env.put,Env.set];rw[if_neg (by rintro rfl;exact h rfl)]
theorem put_comm{e:Env}{x y:Option Nat}{d a:D}(h: ∀t,x=some t->y≠some t):(e.put x d).put y a=(e.put y a).put x d:=by
 cases x with
 |none=>rfl
 |some t=>
  cases y with
  |none=>rfl
  |some u=>have b:t≠u:=fun he=>h t rfl (he▸rfl);funext i;simp only[Env.put,Env.set];by_cases c:i=t<;>by_cases f:i=u<;>simp_all
end
def Kind.ji:Kind->Bool
 | .l=>true
 |_=>false
def Kind.kg:Kind->Bool
 | .a=>true
 |_=>false
def Kind.FI:Kind->Bool
 | .q true=>true
 |_=>false
def comm(l o:bB):Bool:=
 !l.op.kind.ji&&(l.dst.all fun t=> !o.looks.contains t&&o.dst != some t)&&(o.dst.all fun t=> !l.looks.contains t)&&
 (!(l.op.kind.FI&&o.op.kind.ji)||(l.look&&o.La.contains l.ix))&&
 (!(l.op.kind.FI&&o.op.kind.kg)||l.mask.contains o.ix)&&
 (!(l.op.kind.kg&&(o.op.kind.FI||o.op.kind.ji))||o.mask.contains l.ix)&&l.ix != o.ix
structure Comm(l o:bB):Prop where
 quiet:l.op.kind.ji=false
 d1: ∀t,l.dst=some t->t∉o.looks
 d2: ∀t,l.dst=some t->o.dst≠some t
 d3: ∀t,o.dst=some t->t∉l.looks
 rl:l.op.kind.FI=true->o.op.kind.ji=true->l.look=true/\l.ix∈o.La
 rm:l.op.kind.FI=true->o.op.kind.kg=true->o.ix∈l.mask
 mo:l.op.kind.kg=true->(o.op.kind.FI=true\/o.op.kind.ji=true)->l.ix∈o.mask
 ne:l.ix≠o.ix
theorem Jl{l o:bB}(h:comm l o=true):Comm l o:=by
 simp only[comm,ad3,aeY,aeX,bne_iff_ne,ne_eq,af6,Option.all_eq_true,agR] at h;obtain⟨⟨⟨⟨⟨⟨e,d⟩,f⟩,g⟩,i⟩,j⟩,k⟩:=h;refine⟨e,fun t c=> ?_,fun t c=> ?_,fun t c=> ?_,fun a b=> ?_,fun a b=> ?_,fun a b=> ?_,k⟩;·have:=(d t c).1;simpa using this
 ·exact(d t c).2
 ·have:=f t c;simpa using this
 ·rcases g with(h|h)|h;·rw[a] at h;cases h
  ·rw[b] at h;cases h
  ·exact h
 ·rcases i with(h|h)|h;·rw[a] at h;cases h
  ·rw[b] at h;cases h
  ·exact h
 ·rcases j with(h|h)|h;·rw[a] at h;cases h
  ·simp at h;rcases b with b|b;·rw[h.1] at b;cases b
   ·rw[h.2] at b;cases b
  ·exact h
section
variable{P:Program}{b:Nat}{e:Env}{H:aA}{nx:Nat}{Q:Env -> aA -> Nat -> Prop}
theorem WT{b i:Nat}{l:List Nat}:b+i∈l.map (b+ ·)↔i∈l:=by simp only[ac9];exact⟨fun⟨j,a,c⟩=>(show j=i by omega)▸a,fun h=>⟨i,h,rfl⟩⟩
theorem YX{l:List Nat}{i:Nat}{a:bN}(h:i∈l):msk b l (H.set (b+i) a)=msk b l H:=by
 funext j;unfold msk aA.set;split;·rfl
 ·rename_i c;rw[if_neg (by rintro rfl;exact c (WT.2 h))]
theorem Lh{l:List Nat}{i:Nat}{a:bN}{H':aA}(h:i∈l):c8 b l (H.set (b+i) a) H'=(c8 b l H H').set (b+i) a:=by
 funext j;unfold c8 aA.set;by_cases c:j=b+i;·subst c;rw[if_pos (WT.2 h)];simp
 ·simp only[if_neg c]
theorem set_comm{i j:Nat}{x y:bN}(h:i≠j):(H.set i x).set j y=(H.set j y).set i x:=by funext k;unfold aA.set;by_cases a:k=i<;>by_cases b:k=j<;>simp_all
theorem Ka{l o:bB}(hc:Comm l o){d:D}(hr: ∃r,l.op.kind= .q r)(i:bL (msk b l.mask H) e l.op=some d){S:fE}{K:D->aA->Nat->fE->Prop}
 (h:pP P b o e H nx (entry b l e d++S) K):
 pP P b o e H nx S fun g H2 j t=>bL (msk b l.mask H2) e l.op=some d/\ ∃n,K g H2 j n/\ ∀p∈entry b l e d++t,p∈n:=by
 obtain⟨r,hr⟩:=hr
 have a: ∀H2:aA,l.op.kind.FI=false->bL (msk b l.mask H2) e l.op=some d:=by
  intro H2 s
  have:l.op.kind= .q false:=by
   rw[hr] at s ⊢
   cases r with
   |false=>rfl
   |true=>simp[Kind.FI] at s
  rw[dk this _ (msk b l.mask H)];exact i
 unfold pP at*
 split at h
 ·unfold aop at*;split at h
  ·obtain⟨g,f,k⟩:=h;refine⟨g,f,i,_,k,fun p hp=> ?_⟩;simp only[adD] at hp ⊢;rcases hp with h|h|h;·exact .inr (.inl h)
   ·exact .inl h
   ·exact .inr (.inr h)
  ·rename_i m;obtain⟨g,u,f,k⟩:=h;refine⟨g,u,f,?_,_,k,fun p hp=>hp⟩;by_cases c:l.op.kind.FI=true;·rw[YX (hc.rm c (by rw[m];rfl))];exact i
   ·exact a _ (by simpa using c)
  ·rename_i m;refine E9 h fun g H' nx' _ f=>⟨fun p hp=>f.1 p (adD.2 (.inr hp)),?_,_,f.2,fun p hp=>hp⟩
   by_cases c:l.op.kind.FI=true;·obtain⟨v,w⟩:=hc.rl c (by rw[m];rfl);exact f.1 (l.ix,fun H'=>bL (msk b l.mask H') e l.op=some d) (adD.2 (.inl (by simp[entry,v]))) w
   ·exact a _ (by simpa using c)
 ·exact⟨i,_,h,fun p hp=>hp⟩
 ·exact h
theorem Fk{l o:bB}(hc:Comm l o)(hm:l.op.kind= .a){f:bN}{S:fE}(q: ∀p∈S,∀H f,p.2 (H.set (b+l.ix) f)->p.2 H){K:D->aA->Nat->fE->Prop}
 (h:pP P b o e (H.set (b+l.ix) f) nx S K):pP P b o e H nx S fun d H2 k s=>K d (H2.set (b+l.ix) f) k s:=by
 have g:l.op.kind.kg=true:=by rw[hm];rfl
 unfold pP at*
 split at h
 ·unfold aop at*;split at h
  ·rename_i r i;obtain⟨d,c,m⟩:=h;refine⟨d,?_,m⟩
   cases r with
   |true=>rw[YX (hc.mo g (.inl (by rw[i];rfl)))] at c;exact c
   |false=>rw[dk i _ (msk b o.mask H)] at c;exact c
  ·rename_i i;obtain⟨d,n,c,m⟩:=h;refine⟨d,n,c,?_⟩;show K _ _ _ _;rw[set_comm (by have:=hc.ne;omega)];exact m
  ·rename_i i;have j:=hc.mo g (.inr (by rw[i];rfl));rw[YX j] at h;refine E9 h fun d H' nx' _ c=> ?_;rw[Lh j] at c;exact⟨fun p hp t=>q p hp _ f (c.1 p hp t),c.2⟩
 ·exact h
 ·exact h
theorem Pq{o:bB}{S:fE}{K:D->aA->Nat->fE->Prop}(h:pP P b o e H nx S K):
 (DB o.guard e=some false/\K (.tup []) H nx S)\/(DB o.guard e=some true/\((∃r d,o.op.kind= .q r/\bL (msk b o.mask H) e o.op=some d/\K d H nx (entry b o e d++S))\/
  (∃d f,o.op.kind= .a/\pD (b+o.ix) e o.op=some (d,f)/\K d (H.set (b+o.ix) f) nx S)\/o.op.kind= .l)):=by
 unfold pP at h
 split at h
 ·rename_i g;refine .inr ⟨g,?_⟩;unfold aop at h;split at h;·rename_i r c;obtain⟨d,i,j⟩:=h;exact .inl ⟨r,d,c,i,j⟩
  ·rename_i c;obtain⟨d,f,i,j⟩:=h;exact .inr (.inl ⟨d,f,c,i,j⟩)
  ·rename_i c;exact .inr (.inr c)
 ·rename_i g;exact .inl ⟨g,h⟩
 ·exact h.elim
theorem swap{l o:bB}(hc:Comm l o){L:List bB}{S:fE}(B:l.op.kind= .a->∀p∈S,∀H x,p.2 (H.set (b+l.ix) x)->p.2 H)(h:avc P b Q (l::o::L) e H nx S):
 avc P b Q (o::l::L) e H nx S:=by
 have k: ∀d,∀t∈o.looks,(e.put l.dst d) t=e t:=fun d t n=>tr fun q=>hc.d1 t q n
 have s: ∀d,∀t∈l.looks,e t=(e.put o.dst d) t:=fun d t n=>(tr fun q=>hc.d3 t q n).symm
 have c: ∀d,∀t∈l.op.tms,e t=(e.put o.dst d) t:=fun d t n=>s d t (by simp[bB.looks,n])
 have y: ∀d,DB l.guard (e.put o.dst d)=DB l.guard e:=fun d=>(fv fun t w q=>s d t (by simp[bB.looks,q])).symm
 have m: ∀d f,(e.put l.dst d).put o.dst f=(e.put o.dst f).put l.dst d:=fun d f=>put_comm hc.d2
 simp only[avc] at h ⊢
 rcases Pq h with⟨g,i⟩|⟨g,⟨r,d,j,z,i⟩|⟨d,x,j,z,i⟩|j⟩
 ·rw[SX (k _)] at i;refine WH i fun f H2 u A v=> ?_;unfold pP;rw[y,g];show avc P b Q L _ _ _ _;rw[<-m];exact v
 ·rw[SX (k d)] at i;refine WH (Ka hc ⟨r,j⟩ z i) fun f H2 u A ⟨v,E,C,D⟩=> ?_;unfold pP;rw[y,g];unfold aop;rw[j];refine⟨d,by rw[<-OR (c f)];exact v,?_⟩;show avc P b Q L _ _ _ _;rw[<-m,<-W1 (c f)];exact IX _ _ _ _ _ _ D C
 ·rw[SX (k d)] at i;refine WH (Fk hc j (B j) i) fun f H2 u A v=> ?_;unfold pP;rw[y,g];unfold aop;rw[j];refine⟨d,x,by rw[<-W8 (c f)];exact z,?_⟩;show avc P b Q L _ _ _ _;rw[<-m];exact v
 ·have:=hc.quiet;rw[j] at this;simp[Kind.ji] at this
def tp(b:Nat)(S:fE)(L:List bB):Prop:=∀l∈L,l.op.kind= .a->∀p∈S,∀H c,p.2 (H.set (b+l.ix) c)->p.2 H
def WC(q l:bB):Bool:= !(q.look&&l.op.kind.kg)||q.mask.contains l.ix
theorem fy{q l:bB}(hm:WC q l=true)(g:l.op.kind= .a){d:D}: ∀p∈entry b q e d,∀H f,p.2 (H.set (b+l.ix) f)->p.2 H:=by
 intro p hp H f h;unfold entry at hp;split at hp
 ·rename_i hl;simp only[adN] at hp;subst hp;have c:l.ix∈q.mask:=by simp only[WC,hl,g,Kind.kg,Bool.and_self,af7,Bool.false_or,af6] at hm;exact hm
  simp only at h ⊢;rw[YX c] at h;exact h
 ·simp at hp
theorem pull{o:bB}{L:List bB}: ∀(pre:List bB) (e:Env) (H:aA) (nx:Nat) (S:fE),(∀l∈pre,Comm l o)->(pre++o::L).Pairwise (fun q l=>WC q l=true)->tp b S (pre++o::L)->
 avc P b Q (pre++o::L) e H nx S->avc P b Q (o::(pre++L)) e H nx S
 | [],_,_,_,_,_,_,_,h=>h
 |l::pre,e,H,nx,S,hc,hp,n,h=>by
  have j:=ad9.1 hp
  have r:avc P b Q (l::o::(pre++L)) e H nx S:=by
   simp only[List.cons_append,avc] at h ⊢
   have c: ∀d H' nx' S',(∀p∈S',p∈S\/p∈entry b l e d)->avc P b Q (pre++o::L) (e.put l.dst d) H' nx' S'->avc P b Q (o::(pre++L)) (e.put l.dst d) H' nx' S':=by
    intro d H' nx' S' hs g;refine pull pre _ _ _ _ (fun k f=>hc k (by simp[f])) j.2 (fun k f m p a=> ?_) g;rcases hs p a with i|i;·exact n k (by simp only[List.cons_append,adA];exact .inr f) m p i
    ·exact fy (j.1 k f) m p i
   unfold pP at*;split at h
   ·unfold aop at*;split at h;·obtain⟨d,g,i⟩:=h;exact⟨d,g,c d _ _ _ (fun p a=>(adD.1 a).symm) i⟩
    ·obtain⟨d,s,g,i⟩:=h;exact⟨d,s,g,c d _ _ _ (fun p a=>.inl a) i⟩
    ·exact E9 h fun d H' nx' _ g=>⟨g.1,c d _ _ _ (fun p a=>.inl a) g.2⟩
   ·exact c _ _ _ _ (fun p a=>.inl a) h
   ·exact h
  exact swap (hc l (by simp)) (fun m=>n l (by simp) m) r
end
def Dp(P:Program)(f:Field)(i:Nat):Bool:=f.name != "_" &&f.offset==i&&(match P.underlying f.type with|some (.int .i64)=>true|_=>false)
def KP(P:Program):Nat->List Field->Bool
 |_,[]=>true
 |i,f::r=>Dp P f i&&KP P (i+1) r
def OF(P:Program)(t:TypeId):Option Nat:=
 match P.underlying t with
 |some (.struct a)=>if P.stoodInHeld t=false/\P.eqGuardType P.depth t=false/\KP P 0 a.toList=true then some a.size else none
 |_=>none
def oQ(l:List Int):List Value:=l.map fun n=>Value.int .i64 n
section
variable{P:Program}
theorem W4{f:Field}{i:Nat}(h:Dp P f i=true):f.name≠"_" /\f.offset=i/\P.underlying f.type=some (.int .i64):=by
 unfold Dp at h;simp only[ad3,bne_iff_ne,ne_eq,beq_iff_eq] at h;obtain⟨⟨h1,h2⟩,h3⟩:=h;refine⟨h1,h2,?_⟩;split at h3;·assumption
 ·cases h3
variable{t:TypeId}
theorem ag(w:World)(hu:P.underlying t=some (.int .i64)){xs:Array Value}{i:Nat}{a:List Int}{x:Int}(h:xs.toList.drop i=oQ (x::a)):(part t xs i).run P w= .ok (.int .i64 x) w/\xs.toList.drop (i+1)=oQ a:=by
 have b:xs.toList[i]?=some (.int .i64 x):=by have:=congrArg (·[0]?) h;simpa [oQ] using this
 refine⟨?_,?_⟩;·rw[afR] at b;simp[part,isAgg,run_underlying hu,b]
 ·have:=congrArg (List.drop 1) h;rw[aeP] at this;simpa [oQ] using this
theorem R1(w:World)(d:Nat)(xs ys:Array Value): ∀(c:List Field) (i:Nat) (a b:List Int),KP P i c=true->xs.toList.drop i=oQ a->ys.toList.drop i=oQ b->a.length=c.length->b.length=c.length->
 (Op.eqFields (d+1) xs ys c).run P w= .ok (decide (a=b)) w
 | [],i,a,b,_,_,_,e,g=>by rw[aeG.1 e,aeG.1 g];simp[Op.eqFields]
 |f::c,i,[],b,_,_,_,e,_=>by simp at e
 |f::c,i,x::a,[],_,_,_,_,g=>by simp at g
 |f::c,i,x::a,y::b,j,l,m,e,g=>by
  simp only[KP,ad3] at j;obtain⟨n,o,k⟩:=W4 j.1;obtain⟨p,q⟩:=ag w k l;obtain⟨r,s⟩:=ag w k m;have t:=R1 w d xs ys c (i+1) a b j.2 q s (by simpa using e) (by simpa using g);simp only[Op.eqFields,n,o,ne_eq,not_false_eq_true,if_true,Sem.run_bind,p,r,Result.andThen_ok,run_equalIn_int w d f.type .i64 .i64 x y k];by_cases h:x=y;·subst h;simp[t]
  ·simp[h]
theorem J9{n:Nat}(h:OF P t=some n): ∃a:Array Field,P.underlying t=some (.struct a)/\P.fieldsOf t=a/\P.stoodInHeld t=false/\P.eqGuardType P.depth t=false/\KP P 0 a.toList=true/\a.size=n:=by
 unfold OF at h;split at h
 ·rename_i a hu;split at h;·rename_i hc;exact⟨a,hu,by simp[Program.fieldsOf,hu],hc.1,hc.2.1,hc.2.2,by simpa using h⟩
  ·cases h
 ·cases h
theorem ae(w:World){n:Nat}(h:OF P t=some n){a b:List Int}(f:a.length=n)(g:b.length=n):(Op.equal t (.agg (oQ a).toArray) (.agg (oQ b).toArray)).run P w= .ok (decide (a=b)) w:=by obtain⟨i,j,c,k,_,l,d⟩:=J9 h;have e:=run_equalIn_struct w 9999 t (oQ a).toArray (oQ b).toArray (by rw[c];exact j) k;rw[c,R1 w 9998 _ _ i.toList 0 a b l (by simp) (by simp) (by simpa using f.trans d.symm) (by simpa using g.trans d.symm)] at e;exact e
theorem UB(w:World)(em:Bool)(hu:P.underlying t=some (.int .i64))(d:Nat)(x:Int):(Instr.checkKey em (d+1) t (.int .i64 x)).run P w= .ok () w:=by simp[Instr.checkKey,run_underlying hu]
theorem qp(w:World)(em:Bool){n:Nat}(h:OF P t=some n){a:List Int}(ha:a.length=n):(Instr.checkKey em 10000 t (.agg (oQ a).toArray)).run P w= .ok () w:=by
 obtain⟨fs,h1,_,_,_,h5,h6⟩:=J9 h
 have key: ∀(L:List Field) (i:Nat) (xs:Array Value) (b:List Int),KP P i L=true->xs.toList.drop i=oQ b->b.length=L.length->
  (forIn L PUnit.unit fun f _=>do
   if f.name≠"_" then Instr.checkKey em 9999 f.type (<-part f.type xs f.offset)
   pure (ForInStep.yield PUnit.unit):Sem PUnit).run P w= .ok PUnit.unit w:=by
  intro L
  induction L with
  |nil=>intro i xs b _ _ _;simp
  |cons f L ih=>
   intro i xs b hf hx hb
   match b,hb with
   |x::b,hb=>simp only[KP,ad3] at hf;obtain⟨g1,g2,g3⟩:=W4 hf.1;obtain⟨p1,q1⟩:=ag w g3 hx;have:=ih (i+1) xs b hf.2 q1 (by simpa using hb);simp only[List.forIn_cons,Sem.run_bind,g1,g2,ne_eq,not_false_eq_true,if_true,p1,Result.andThen_ok,UB w em g3 9998 x,Sem.run_pure];exact this
 have:=key fs.toList 0 (oQ a).toArray a h5 (by simp) (by simpa using ha.trans h6.symm);rw[show (10000:Nat)=9999+1 from rfl,Instr.checkKey];simp only[Sem.run_bind,run_underlying h1,Result.andThen_ok];rw[<-Array.forIn_toList];simp at this ⊢;rw[this];rfl
def lkM:List (List Int×Int)->List Int->Nat->Option (Nat×Int)
 | [],_,_=>none
 |p::r,l,i=>if l=p.1 then some (i,p.2) else lkM r l (i+1)
def KF(kn:Nat)(bl:Bool)(p:List Int×Int):Value×Value:=(uG kn p.1,elemV bl p.2)
def Ar(P:Program)(t:TypeId):Option Nat:=
 match P.underlying t with
 |some (.int .i64)=>some 0
 |_=>match OF P t with
  |some n=>if n=0 then none else some n
  |none=>none
theorem tw{kn:Nat}(h:Ar P t=some kn):(kn=0/\P.underlying t=some (.int .i64))\/(0<kn/\OF P t=some kn):=by
 unfold Ar at h;split at h;·rename_i hu;cases h;exact .inl ⟨rfl,hu⟩
 ·split at h
  ·rename_i n a;split at h;·cases h
   ·rename_i b;cases h;exact .inr ⟨af8 b,a⟩
  ·cases h
variable{l:List Int}
theorem Bz(h:l.length=1):l=[l.headD 0]:=by
 match l,h with
 | [x],_=>rfl
theorem LU(w:World){t:TypeId}{kn:Nat}(k:0<kn)(h:OF P t=some kn){bl:Bool}{l:List Int}(hl:l.length=kn): ∀(es:List MapEntry) (m:List (List Int×Int)) (i:Nat),(es.map fun e=>(e.key,e.val))=m.map (KF kn bl)->(∀p∈m,p.1.length=kn)->
 (Instr.findAsking t (uG kn l) es i).run P w= .ok ((lkM m l i).map fun q=>(q.1,elemV bl q.2)) w
 | [],[],i,_,_=>by simp[Instr.findAsking,lkM]
 | [],p::m,i,hm,_=>by simp at hm
 |e::es,[],i,hm,_=>by simp at hm
 |e::es,p::m,i,hm,g=>by
  simp only[adG,List.cons.injEq,KF,Prod.mk.injEq] at hm;obtain⟨⟨n,o⟩,r⟩:=hm;have c: ¬kn=0:=by omega
  have he:=ae w h (a:=l) (b:=p.1) hl (g p (by simp));have d:uG kn l= .agg (oQ l).toArray:=by simp[uG,c,oQ]
  have f:e.key= .agg (oQ p.1).toArray:=by rw[n];simp[uG,c,oQ]
  have j:=LU w k h (bl:=bl) hl es m (i+1) r fun q s=>g q (by simp[s]);simp only[Instr.findAsking,Sem.run_bind,lkM];rw[f,d,he];rw[d] at j;by_cases heq:l=p.1;·simp[heq,o]
  ·simp[heq,j]
theorem W6{bl:Bool}{l:List Int}(hl:l.length=1): ∀(es:List MapEntry) (m:List (List Int×Int)) (i:Nat),(es.map fun e=>(e.key,e.val))=m.map (KF 0 bl)->(∀p∈m,p.1.length=1)->
 Instr.findNow (.int .i64) (uG 0 l) es i=some ((lkM m l i).map fun q=>(q.1,elemV bl q.2))
 | [],[],i,_,_=>by simp[Instr.findNow,lkM]
 | [],p::m,i,hm,_=>by simp at hm
 |e::es,[],i,hm,_=>by simp at hm
 |e::es,p::m,i,hm,a=>by
  simp only[adG,List.cons.injEq,KF,Prod.mk.injEq] at hm;obtain⟨⟨b,c⟩,d⟩:=hm;have f:=W6 (bl:=bl) hl es m (i+1) d fun q g=>a q (by simp[g]);have h:=Bz hl;have j:=Bz (a p (by simp));simp only[Instr.findNow,lkM];have hs:Instr.sameNow (.int .i64) (uG 0 l) e.key=some (decide (l=p.1)):=by rw[b,h,j];simp only[uG,if_true,Instr.sameNow,List.headD_cons,List.cons.injEq,and_true];rfl
  rw[hs];by_cases heq:l=p.1;·simp[heq,c]
  ·simp only[heq,decide_false,if_false];exact f
theorem S6(w:World){kn:Nat}(h:Ar P t=some kn){bl:Bool}(hl:l.length=IK kn){es:List MapEntry}{m:List (List Int×Int)}(hm:(es.map fun e=>(e.key,e.val))=m.map (KF kn bl))(a: ∀p∈m,p.1.length=IK kn):
 (Instr.findKey t (uG kn l) es).run P w= .ok ((lkM m l 0).map fun q=>(q.1,elemV bl q.2)) w:=by
 rcases tw h with⟨rfl,hu⟩|⟨f,c⟩
 ·have:=W6 (bl:=bl) (l:=l) (by simpa [IK] using hl) es m 0 hm (by simpa [IK] using a);simp only[Instr.findKey,Sem.run_bind,run_underlying hu,Result.andThen_ok,this,Sem.run_pure]
 ·have b:IK kn=kn:=by unfold IK;rw[if_neg (by omega)]
  rw[b] at hl a;have g:=LU w f c (bl:=bl) hl es m 0 hm a;obtain⟨i,d,_⟩:=J9 c
  match es,m,hm with
  | [],[],_=>simp only[Instr.findKey,Sem.run_bind,run_underlying d,Result.andThen_ok,Instr.findNow,Sem.run_pure,lkM,Option.map_none]
  |e::es,m,hm=>have j:Instr.findNow (.struct i) (uG kn l) (e::es) 0=none:=(by simp[Instr.findNow,Instr.sameNow]);simp only[Instr.findKey,Sem.run_bind,run_underlying d,Result.andThen_ok,j];exact g
theorem R3(w:World)(em:Bool){kn:Nat}(h:Ar P t=some kn)(hl:l.length=IK kn):(Instr.checkKey em 10000 t (uG kn l)).run P w= .ok () w:=by
 rcases tw h with⟨rfl,hu⟩|⟨d,b⟩
 ·simp only[uG,if_true];exact UB w em hu 9999 _
 ·have c:IK kn=kn:=by unfold IK;rw[if_neg (by omega)]
  have a:uG kn l= .agg (oQ l).toArray:=by simp[uG,show ¬kn=0 by omega,oQ]
  rw[a];exact qp w em b (by omega)
theorem vz(l:List Int):((oQ l).zip (oQ l)).all (fun(x,y)=>Instr.sameBits 9999 x y)=true:=by
 induction l with
 |nil=>rfl
 |cons x l a=>simp only[oQ,adG,List.zip_cons_cons,List.all_cons];rw[show (Instr.sameBits 9999 (Value.int .i64 x) (Value.int .i64 x))=true by simp[Instr.sameBits]];exact a
theorem Hf(w:World){kn:Nat}:(Instr.keyThatStays (uG kn l) (uG kn l)).run P w= .ok (uG kn l) w:=by
 have:Instr.sameBits 10000 (uG kn l) (uG kn l)=true:=by
  unfold uG;split;·simp[Instr.sameBits]
  ·have:=vz l;simp only[oQ] at this;simp only[Instr.sameBits,beq_self_eq_true,Bool.true_and];exact this
 simp[Instr.keyThatStays,this]
def getM(m:List (List Int×Int))(l:List Int):Option Int:=(lkM m l 0).map (·.2)
theorem Bv: ∀(m:List (List Int×Int)) (l:List Int) (i:Nat),(lkM m l i).map (·.2)=j9 m l
 | [],l,i=>rfl
 |p::m,l,i=>by
  simp only[lkM,j9,List.find?_cons];by_cases h:l=p.1;·simp[h]
  ·simp only[h,if_false,decide_false];exact Bv m l (i+1)
theorem Tt(m:List (List Int×Int))(l:List Int):getM m l=j9 m l:=Bv m l 0
theorem sv: ∀(m:List (List Int×Int)) (l:List Int) (n:Int) (i:Nat),lkM m l i=none->B1 m l n=m++[(l,n)]
 | [],l,n,i,_=>rfl
 |p::m,l,n,i,h=>by
  simp only[lkM] at h;split at h;·cases h
  ·rename_i a;simp only[B1,a,if_false,List.cons_append];rw[sv m l n (i+1) h]
theorem tx: ∀(m:List (List Int×Int)) (l:List Int) (n:Int) (i:Nat) (q:Nat×Int),lkM m l i=some q->∃j,q.1=i+j/\j<m.length/\m[j]?=some (l,q.2)/\B1 m l n=m.set j (l,n)
 | [],l,n,i,q,h=>by cases h
 |p::m,l,n,i,q,h=>by
  simp only[lkM] at h;split at h;·rename_i heq;cases h;exact⟨0,rfl,by simp,by simp[heq],by simp[B1,heq]⟩
  ·rename_i a;obtain⟨j,d,e,b,c⟩:=tx m l n (i+1) q h;exact⟨j+1,by omega,by simp;omega,by simpa using b,by simp[B1,a,c]⟩
theorem Pl{m:List (List Int×Int)}{n:Int}{k:Nat}(h: ∀p∈m,p.1.length=k)(hl:l.length=k): ∀p∈B1 m l n,p.1.length=k:=by
 induction m with
 |nil=>intro p hp;simp[B1] at hp;subst hp;exact hl
 |cons p m b=>
  intro q a;simp only[B1] at a;split at a
  ·rcases adA.1 a with rfl|a;·exact hl
   ·exact h q (by simp[a])
  ·rcases adA.1 a with rfl|a;·exact h _ (by simp)
   ·exact b (fun p hp=>h p (by simp[hp])) q a
theorem Y1{x:pZ}:x.rows=x.m.map (KF x.kn x.bl):=rfl
theorem Cj(w:World){a c:TypeId}{b:Nat}{x:pZ}(hu:P.underlying t=some (.map a c))(d:Ar P a=some x.kn)(e:(zeroValue c).run P w= .ok (elemV x.bl 0) w)(hm:WO w.heap[b]? x)(hl:l.length=IK x.kn)(ok:Bool):
 (Instr.lookup t (.map (some b)) (uG x.kn l) ok).run P w= .ok (if ok then .tuple #[elemV x.bl ((getM x.m l).getD 0),.bool (getM x.m l).isSome] else elemV x.bl ((getM x.m l).getD 0)) w:=by
 obtain⟨es,clock,f,g,h⟩:=hm
 have i:=S6 w d hl (es:=es.toList) (m:=x.m) (by rw[g];rfl) h
 have hc:=R3 w es.isEmpty d hl
 have j:(getObj b).run P w= .ok (.map es clock) w:=by simp[getObj,Sem.run,f]
 simp only[Instr.lookup,Sem.run_bind,run_underlying hu,Result.andThen_ok,j,Sem.run_pure,hc,i]
 unfold getM
 cases lkM x.m l 0 with
 |none=>cases ok<;>simp[e]
 |some q=>cases ok<;>simp
theorem Gs(w:World){v E:TypeId}{b:Nat}{x:pZ}(hu:P.underlying t=some (.map v E))(y:Ar P v=some x.kn)(hm:WO w.heap[b]? x)(hl:l.length=IK x.kn)(n:Int):
 ∃d a,(Instr.mapUpdate t (.map (some b)) (uG x.kn l) (elemV x.bl n)).run P w= .ok () {w with heap:=w.heap.set! b (.map d a)}/\WO (some (.map d a)) ⟨x.kn,x.bl,B1 x.m l n⟩:=by
 obtain⟨es,clock,z,h,A⟩:=hm
 have B:=S6 w y hl (es:=es.toList) (m:=x.m) (by rw[h];rfl) A
 have hc:=R3 w false y hl
 have C:(getObj b).run P w= .ok (.map es clock) w:=by simp[getObj,Sem.run,z]
 have f:pZ.ok ⟨x.kn,x.bl,B1 x.m l n⟩:=Pl A hl
 have c: ∀o:Obj,(setObj b o).run P w= .ok () {w with heap:=w.heap.set! b o}:=fun o=>by obtain⟨p,F⟩:=afN.1 z;simp[setObj,Sem.run,p,F]
 cases k:lkM x.m l 0 with
 |none=>
  refine⟨es.push ⟨uG x.kn l,elemV x.bl n,clock⟩,clock+1,?_,_,_,rfl,?_,f⟩;·simp only[Instr.mapUpdate,Sem.run_bind,run_underlying hu,Result.andThen_ok,C,hc,B,k,Option.map_none,c]
  ·simp only[Array.toList_push,adF,h,Y1,sv x.m l n 0 k,adG,adQ,KF]
 |some q=>
  obtain⟨j,I,G,D,H⟩:=tx x.m l n 0 q k;have r:es[j]?.map (fun e=>(e.key,e.val))=some (uG x.kn l,elemV x.bl q.2):=by have:=congrArg (·[j]?) h;simp only[adJ,Y1,D,Option.map_some,KF] at this;rw[afR] at this;exact this
  have s:(es[j]?.map (·.key)).getD (uG x.kn l)=uG x.kn l:=by
   cases he:es[j]? with
   |none=>rfl
   |some e=>rw[he] at r;simp at r;simp[r.1]
  have u:q.1=j:=by omega
  refine⟨es.modify j fun e=>{e with key:=uG x.kn l,val:=elemV x.bl n},clock,?_,_,_,rfl,?_,f⟩;·simp only[Instr.mapUpdate,Sem.run_bind,run_underlying hu,Result.andThen_ok,C,hc,B,k,Option.map_some,u,s,Hf,c]
  ·simp only[Array.toList_modify,Y1,H];apply List.ext_getElem?;intro i;have hi:=congrArg (·[i]?) h;simp only[adJ,Y1] at hi;simp only[adJ,List.getElem?_modify,ae6];by_cases g:j=i
   ·subst g;simp only[if_true,G]
    cases he:es.toList[j]? with
    |none=>rw[he,D] at hi;simp at hi
    |some e=>simp[KF]
   ·simp only[g,if_false]
    cases he:es.toList[i]? with
    |none=>rw[he] at hi;simpa using hi
    |some e=>rw[he] at hi;simpa using hi
end
def Yo(P:Program)(b:Builtin)(args:List Operand)(a:List TypeId):Option AOp:=
 match b,args,a with
 | .len,[x],[t]=>match P.underlying t,trO x with
   |some (.map _ _),some x=>some (.xop .zL [x])
   |_,_=>none
 | .copy,[x,y],[t,_]=>match fU P t,trO x,trO y with
   |some (_,n),some x,some y=>some (.xop (.copy n) [x,y])
   |_,_,_=>none
 | .clear,[x],[t]=>match fU P t,trO x with
   |some (el,n),some x=>match zeroOf P el with
    |some z=>if z.length=n then some (.xop (.clear n z) [x]) else none
    |none=>none
   |_,_=>none
 | .append,[s,x],[t,c]=>match fU P t,P.underlying c,trO s,trO x with
   |some (el,n),some (.int _),some s,some x=>match zeroOf P el with
    |some z=>if z.length=n/\P.bytesOf el<=65536 then some (.xop (.gn n z) [s,x]) else none
    |none=>none
   |_,_,_,_=>none
 |_,_,_=>none
def Xr(P:Program)(t:TypeId):Option Bool:=
 match P.info? t with
 |some i=>match i.zero with
  |some (.bool false)=>some true
  |some (.int .i64 0)=>some false
  |_=>none
 |none=>none
def kj(P:Program)(t:TypeId):Option (Nat×Bool):=
 match P.underlying t with
 |some (.map a b)=>match Ar P a,Xr P b with
  |some kn,some bl=>some (kn,bl)
  |_,_=>none
 |_=>none
def trX(P:Program):Op->Option AOp
 | .makeFunc (.func f) first caps=>if first.size=0 then (caps.toList.mapM trO).map (.xop (.DX f)) else none
 | .binOp .eql t x (.const (.slice none 0 0)) _=>match P.underlying t,trO x with
   |some (.slice _),some y=>some (.xop (.uX false) [y])
   |_,_=>none
 | .binOp .neq t x (.const (.slice none 0 0)) _=>match P.underlying t,trO x with
   |some (.slice _),some y=>some (.xop (.uX true) [y])
   |_,_=>none
 | .binOp .eql t x y _=>match OF P t,trO x,trO y with
   |some n,some x,some y=>some (.xop (.aeq false n) [x,y])
   |_,_,_=>none
 | .binOp .neq t x y _=>match OF P t,trO x,trO y with
   |some n,some x,some y=>some (.xop (.aeq true n) [x,y])
   |_,_,_=>none
 | .makeMap t none=>(kj P t).map fun p=>.xop (.LX p.1 p.2) []
 | .lookup t x k ok=>match kj P t,trO x,trO k with
   |some p,some x,some k=>some (.xop (.wL p.1 p.2 ok) [x,k])
   |_,_,_=>none
 | .mapUpdate t x k v=>match kj P t,trO x,trO k,trO v with
   |some p,some x,some k,some v=>some (.xop (.DE p.1 p.2) [x,k,v])
   |_,_,_,_=>none
 | .call a=>match a.callee with
   | .builtin b=>Yo P b a.args.toList a.argTypes.toList
   |_=>none
 |_=>none
def trE(P:Program):Op->Option AOp
 | .call a=>match a.callee with
   | .value (.func f)=>match P.funcs[f]? with
     |some fn=>if fn.body.isNone then (a.args.toList.mapM trO).map (.xop (.bq f)) else none
     |none=>none
   |_=>none
 |_=>none
def TL(P:Program)(op:Op):AOp:=
 match trE P op with
 |some o=>o
 |none=>match MZ P op with
  |some o=>o
  |none=>match trX P op with
   |some o=>o
   |none=>.xop .bad []
section
variable{P:Program}{c:Cf}{H:aA}{T:Nat}{e:Env}{a:Act}
theorem UZ: ∀(a:List D) (caps:List D1),PA a=some caps->a=caps.map (fun d=>.one (.c d))/\ ∀(d:D1) (x:Value),d∈caps->Rel c d x->cX c d x
 | [],caps,h=>by simp only[PA,Option.some.injEq] at h;subst h;simp
 |d::a,caps,h=>by
  unfold PA at h;split at h;·rename_i heq;cases heq
  ·cases h
  ·rename_i o r g heq;simp only[adC] at h;obtain⟨cs,i,rfl⟩:=h;simp only[List.cons.injEq] at heq;obtain⟨j,k⟩:=heq;subst k;obtain⟨l,m⟩:=UZ a cs i;refine⟨by simp[j,l],fun d x b e=> ?_⟩;rcases adA.1 b with rfl|b
   ·cases d with
    |clo f n=>exact(g f n rfl).elim
    |_=>simpa only[Rel] using e
   ·exact m d x b e
  ·cases h
variable{o:Oper}
theorem Ut(he:ER c T e a){f:FuncId}{first caps:Array Operand}{l:List aZ}{d:D}(k:o.op= .makeFunc (.func f) first caps)(m:first.size=0)(hl:caps.toList.mapM trO=some l)
 (g:xq (.DX f) (l.map (·.ev e))=some d):nC P c a o d:=by
 simp only[xq,adC] at g
 obtain⟨cs,n,rfl⟩:=g
 obtain⟨p,q⟩:=M3 he _ _ hl
 obtain⟨h,r⟩:=UZ (c:=c) _ _ n
 have b:first= #[]:=by apply Array.eq_empty_of_size_eq_zero m
 refine⟨.func (.func f) #[] (caps.toList.map a.eval).toArray,?_,?_⟩
 ·have:(caps.toList.map a.eval).toArray=caps.map a.eval:=by apply aeW;simp
  simp[execOp,k,b,Instr.makeFunc,this]
 ·refine⟨_,rfl,?_,fun i d u j hu=> ?_⟩;·have:=congrArg List.length h;simp at this p ⊢;omega
  ·have:=q i (.one (.c d)) u (by rw[h];simp[j]) hu;exact r d u (adI j) this
variable{t el:TypeId}{x:Operand}
theorem V4{neg:Bool}{g:TypeId}{A:Option Addr}{len cap:Nat}(b:o.op= .binOp (if neg then .neq else .eql) t x (.const (.slice none 0 0)) g)
 (hu:P.underlying t=some (.slice el)) (e:a.eval x= .slice A len cap):(execOp a.eval o).run P c.w= .ok (.value (.bool (if neg then A.isSome else A.isNone))) c.w:=by
 have heq:(Op.equal t (.slice A len cap) (.slice none 0 0)).run P c.w= .ok A.isNone c.w:=by
  have: ∀d,(Op.equalIn (d+1) t (.slice A len cap) (.slice none 0 0)).run P c.w= .ok A.isNone c.w:=fun d=>by cases A<;>simp only[Op.equalIn,Sem.run_bind,run_underlying hu,Result.andThen_ok,Sem.run_pure]<;>rfl
  exact this 9999
 have f: ∀v,a.eval (.const v)=v:=fun _=>rfl
 cases neg
 ·simp only[execOp,b,e,f,aeV,if_false,eqGuard,binOp,Sem.run_bind,Result.andThen_ok,Sem.run_pure];simp[heq]
 ·simp only[execOp,b,e,f,if_true,eqGuard,binOp,Sem.run_bind,Result.andThen_ok,Sem.run_pure];cases A<;>simp[heq]
def Bn(P:Program)(c:Cf)(a:Act)(o:Oper)(H H':aA)(d:D)(id:Nat):Prop:=∃v c',(execOp a.eval o).run P c.w= .ok (.value v) c'.w/\St c' H'/\Step c H c' H'/\iA c' d v/\ ∀i,c'.N i->c.N i\/i=id
theorem Ri{d:D}{k:Nat}(h:Vc d=some k){x:Value}(hr:iA c d x): ∃A cap,x= .slice A k cap/\k<=cap/\ ∀j,j<=k->iA c (sy j d) (.slice A j cap):=by
 unfold Vc at h;split at h
 ·rename_i rows;cases h;simp only[iA,mH,Rel,cX] at hr
  cases hr with
  |isl _ A cap n b o f y a z hc g=>
   refine⟨A,cap,rfl,a,fun j v=> ?_⟩;simp only[sy,iA,mH,Rel,cX];have hl:(rows.take j).length=j:=by simp;omega
   have l: ∀(i:Nat) (r:List D1),(rows.take j)[i]?=some r->rows[i]?=some r:=by
    intro i r hr;rw[ad2] at hr;split at hr;·exact hr
    ·cases hr
   have key:=Imm.isl (I:=c.I) (w:=c.w) (rows.take j) A cap n b o f (fun p=>y (by rintro rfl;simp at p)) (by omega) (fun i r h=>z i r (l i r h)) (fun i k r d e q=>hc i k r d (l i r e) q) (fun i k r d e q=>g i k r d (l i r e) q);rw[hl] at key;exact key
 ·rename_i m id off len cap;simp only[Option.some.injEq] at h;subst h;simp only[iA,mH,Rel,cX] at hr;obtain⟨s,⟨t,A,rfl⟩|⟨t,e,rfl⟩⟩:=hr;·have u:len=0:=(by omega);subst u;refine⟨A,0,rfl,ac1 _,fun j v=> ?_⟩;have:j=0:=(by omega);subst this;simp only[sy,iA,mH,Rel,cX];exact⟨by omega,.inl ⟨t,A,rfl⟩⟩
  ·refine⟨_,cap,rfl,s,fun j v=> ?_⟩;simp only[sy,iA,mH,Rel,cX];exact⟨by omega,.inr ⟨t,e,by first|rfl|trivial⟩⟩
 ·cases h
variable{x':aZ}
theorem Zi(hs:St c H)(he:ER c T e a){t':TypeId}{y:Operand}{y':aZ}{n d k id:Nat}{ob:bN}(ho:o.op= .call {callee:=.builtin .copy,args:=#[x,y],argTypes:=#[t,t']})
 (O:fU P t=some (el,n)) (hx:trO x=some x') (hy:trO y=some y') (f:uy H n (x'.ev e) (y'.ev e)=some (d,ob,k)):Bn P c a o H (H.set d ob) (.one (.c (.v (.int .i64 k)))) id:=by
 obtain⟨hu,D,_⟩:=oW O c.w
 generalize Q:x'.ev e=dx at f
 unfold uy at f
 split at f
 ·rename_i m ad off len cap;split at f
  ·rename_i g ls E R;split at f
   ·rename_i new F;split at f
    ·rename_i hc;obtain⟨e1,e2,hn,S,G,aa⟩:=hc;cases f;obtain⟨A,cy,U,_,r⟩:=Ri R (o8 he hy);obtain⟨B,cx,news,I,s,V⟩:=Aq (P:=P) hs hn F (r (min ls len) (Nat.min_le_left _ _));simp only[Value.slice.injEq] at I;obtain⟨rfl,j,rfl⟩:=I;have l:Nat.min ls len=min ls len:=rfl;have p:=V c.w rfl;rw[<-j] at p;have J:(Builtin.firstCells n (min ls len) (.slice A ls cy)).run P c.w= .ok news.toArray c.w:=by rw[<-p];cases A<;>rfl
     have W:news=[]->g.rows=wr g.rows off new:=fun h=>by have C:new.length*n=0:=(by rw[<-s.len,h];rfl);have K:new=[]:=ad5 ((Nat.mul_eq_zero.1 C).resolve_right (by omega));simp[wr,K]
     have u:=vJ he hx Q;simp only[Rel,cX] at u;subst e1;subst e2
     have X: ∃c' q,a.eval x= .slice q len cap/\(match q with|some A0=>(storeCells A0 news).run P c.w= .ok () c'.w|none=>c'=c)/\St c' (H.set d ⟨g.n,g.ext,wr g.rows off new⟩)/\Step c H c' (H.set d ⟨g.n,g.ext,wr g.rows off new⟩)/\ ∀i,c'.N i↔c.N i:=by
      by_cases hz:min ls len=0
      ·have z:news=[]:=ad5 (by rw[s.len,<-j,hz,Nat.zero_mul])
       have hH:H.set d ⟨g.n,g.ext,wr g.rows off new⟩=H:=by
        funext i;simp only[aA.set,<-W z];split;·rename_i h;rw[h];exact E.symm
        ·rfl
       rw[hH];obtain⟨ai,⟨Y,q,b⟩|⟨_,_,b⟩⟩:=u;·refine⟨c,q,by rw[b,show len=0 by omega,Y],?_,hs,Step.refl ..,fun i=>aeQ⟩;subst z;cases q<;>rfl
       ·refine⟨c,_,b,?_,hs,Step.refl ..,fun i=>aeQ⟩;subst z;rfl
      ·obtain⟨ab,L⟩:=S.resolve_right hz;obtain⟨_,⟨h0,_⟩|⟨_,aj,b⟩⟩:=u;·omega
       ·obtain⟨c',C,K,Z,h4⟩:=ZV (P:=P) hs E L G hn s (by omega);exact⟨c',_,b,C,K,Z,h4⟩
     obtain⟨c',q,b,C,K,Z,h4⟩:=X;refine⟨.int .i64 (min ls len:Nat),c',?_,K,Z,tQ,fun i hi=>.inl ((h4 i).1 hi)⟩
     have M:(Builtin.copy_ #[t,t'] o.type #[.slice q len cap,.slice A ls cy]).run P c.w= .ok (.int .i64 (min ls len:Nat)) c'.w:=by
      cases q with
      |none=>subst C;simp only[Builtin.copy_,ae1,List.getElem?_cons_zero,List.getElem?_cons_succ,Sem.run_bind,run_underlying hu,Result.andThen_ok,Builtin.lenOf,Sem.run_pure,D,l,J];rfl
      |some A0=>simp only[Builtin.copy_,ae1,List.getElem?_cons_zero,List.getElem?_cons_succ,Sem.run_bind,run_underlying hu,Result.andThen_ok,Builtin.lenOf,Sem.run_pure,D,l,J,C];rfl
     simp only[execOp,ho,resolve,invoke,builtin,Sem.run_bind,Sem.run_pure,Result.andThen_ok,ae7,adG,adQ,b,U,M]
    ·cases f
   ·cases f
  ·cases f
 ·cases f
theorem OC{n k:Nat}{z:List D1}{a:Array Value}(l:y4 c z a.toList)(p:0<n)(b:z.length=n):GZ c n (List.replicate k z) (Builtin.zeroCells a k).toList:=by
 have e:a.size=n:=by have:=l.1;simp at this;omega
 have f: ∀i,i<k*n->(Builtin.zeroCells a k).toList[i]?=some (a[i%n]!):=by intro i hi;simp[Builtin.zeroCells,e,hi]
 refine⟨by simp[Builtin.zeroCells,e],fun i r hr=> ?_,fun i j r d g m=> ?_⟩
 ·rw[agS] at hr;split at hr;·cases hr;exact b
  ·cases hr
 ·rw[agS] at g;split at g;·rename_i hi;cases g;have o:j<n:=(by rw[<-b];exact(adB.1 m).1);refine⟨_,f _ (V7 o hi),?_⟩;have hm:(i*n+j)%n=j:=(by rw[aeF,Nat.mul_add_mod,afO o]);rw[hm];have h:j<a.size:=(by omega);apply l.2 j d _ m;simp[h]
  ·cases g
theorem Tx(hs:St c H)(he:ER c T e a){z:List D1}{n b id:Nat}{D:bN}(G:o.op= .call {callee:=.builtin .clear,args:=#[x],argTypes:=#[t]})
 (r:fU P t=some (el,n)) (I:zeroOf P el=some z) (s:z.length=n) (J:trO x=some x') (d:WM H n z (x'.ev e)=some (b,D)):Bn P c a o H (H.set b D) (.tup []) id:=by
 obtain⟨hu,K,_⟩:=oW r c.w
 obtain⟨L,u,v,M,N,_⟩:=qJ (c:=c) I c.w
 generalize y:x'.ev e=Y at d
 unfold WM at d
 split at d
 ·rename_i m O off len cap;split at d
  ·rename_i Q A;split at d
   ·rename_i hc;obtain⟨R,S,E,F,f,g,h⟩:=hc;cases d;have j:=vJ he J y;simp only[Rel,cX] at j;obtain⟨_,⟨Z,_⟩|⟨_,U,B⟩⟩:=j;·omega
    ·subst R;subst S;have C:=OC (k:=len) v E s;obtain⟨c',q,V,W,X⟩:=ZV (P:=P) hs A f g E C (by simpa using h);have l:iA c' (.tup []) (.tuple #[]):=⟨[],rfl,rfl,by simp⟩
     refine⟨.tuple #[],c',?_,V,W,l,fun i hi=>.inl ((X i).1 hi)⟩
     have p:(Builtin.clear_ #[t] o.type #[.slice (some ⟨(c.ρ b).1,(c.ρ b).2+off*Q.n,none⟩) len cap]).run P c.w= .ok (.tuple #[]) c'.w:=by
      cases len with
      |zero=>have:Builtin.zeroCells L.cells 0= #[]:=(by simp[Builtin.zeroCells]);rw[this] at q;simp[storeCells] at q;simp[Builtin.clear_,run_underlying hu,<-q]
      |succ k=>simp only[Builtin.clear_,ae1,List.getElem?_cons_zero,Sem.run_bind,run_underlying hu,Result.andThen_ok,u,q,Sem.run_pure]
     simp only[execOp,G,resolve,invoke,builtin,Sem.run_bind,Sem.run_pure,Result.andThen_ok,ae7,adG,adQ,B,p]
   ·cases d
  ·cases d
 ·cases d
theorem VH(w:World)(t l ty el:TypeId)(i:TypeInfo)(z:Value)(kn:IntKind)(n:P.underlying t=some (.slice el))(h:P.underlying l=some (.int kn))(hi:P.info? el=some i)(o:i.zero=some z)(A:Option Addr)(a b k:Nat)
 (c:List Value) (hs:(Builtin.firstCells i.size a (.slice A a b)).run P w.drew= .ok c.toArray w.drew) (u:0<k) (p:0<i.size)
 (v:b<a+k) (hle:a+k<=2147483647) (q:i.bytes<=65536) (m:Builtin.nextslicecap (a+k) b*i.bytes<=281474976710656):
 (Builtin.append_ #[t,l] ty #[.slice A a b,.int .i64 k]).run P w=
  .ok (.slice (some ⟨w.heap.size,0,none⟩) (a+k) (grownCap w (a+k) b el))
   (w.drew.alloc (.cells (c.toArray++Builtin.zeroCells z.cells k++Builtin.zeroCells z.cells (grownCap w (a+k) b el-(a+k))) el)):=by
 have hw:IntKind.i64.wrap (k:Int)=k:=by rw[IntKind.wrap_i64];omega
 have r: ¬(a+k<=b):=by omega
 have d: ¬(9223372036854775807<((a:Int)+(k:Int))):=by omega
 have e: ¬(281474976710656<Builtin.nextslicecap (a+k) b*i.bytes):=by omega
 have s:k*i.bytes<=2147483647*65536:=af5 (by omega) q
 have f: ¬(281474976710656<(k:Int)*(i.bytes:Int)):=by rw[<-Int.natCast_mul];omega
 have g: ¬((k:Int)<0):=by omega
 have j: ¬(k*i.size=0):=Nat.mul_ne_zero (by omega) (by omega)
 simp[Builtin.append_,run_underlying n,run_underlying h,sizeOf,typeInfo,zeroValue,hi,o,asInt,asIntOf,hw,r,g,j,d,e,f,Question.forced,hs,newRow,grownCap]
theorem aa3(hs:St c H)(he:ER c T e a){Y:TypeId}{kn:IntKind}{s:Operand}{s':aZ}{z:List D1}{n l id:Nat}{rows:List (List D1)}(hN: ¬c.N id)(ho:o.op= .call {callee:=.builtin .append,args:=#[s,x],argTypes:=#[t,Y]})
 (Z:fU P t=some (el,n)) (aa:P.underlying Y=some (.int kn)) (W:zeroOf P el=some z) (ab:z.length=n) (ad:P.bytesOf el<=65536) (ai:trO s=some s') (aj:trO x=some x')
 (B:sw H n z (s'.ev e) (x'.ev e)=some (l,rows)): ∃cap,l<=cap/\Bn P c a o H (H.set id ⟨n,cap,rows⟩) (.one (.c (.osl n id 0 l cap))) id:=by
 obtain⟨hu,ao,_⟩:=oW Z c.w
 obtain⟨L,C,bb,cx,bk,_⟩:=qJ (c:=c) W c.w
 obtain⟨i,hi⟩: ∃i,P.info? el=some i:=by
  unfold zeroOf at W;split at W;·rename_i i hi;exact⟨i,hi⟩
  ·simp at W
 have bp:i.zero=some L:=by
  simp[zeroValue,typeInfo,hi] at C
  cases M:i.zero with
  |none=>simp[M] at C
  |some z'=>simp[M] at C;rw[C]
 have E:i.size=n:=by simpa [sizeOf,typeInfo,hi] using ao
 have O:L.cells.size=n:=by rw[bk i hi,E]
 have F:i.bytes<=65536:=by simpa [Program.bytesOf,hi] using ad
 generalize br:s'.ev e=ds at B
 generalize ca:x'.ev e=dx at B
 unfold sw at B
 split at B
 ·rename_i m D off len cap kk;split at B
  ·rename_i g Q;split at B
   ·rename_i hc;obtain⟨e1,e2,hn,cc,hk,p,hle⟩:=hc;cases B;obtain⟨k,rfl⟩:=Int.eq_ofNat_of_zero_le (Int.le_of_lt hk);simp only[Int.toNat_natCast] at*;have cd:0<k:=(by omega);have cf:=F1 he aj ca;have R:=vJ he ai br;subst e1;subst e2;have S:((g.rows.drop off).take len).length=len:=by simp;omega
    have G: ∀(i:Nat) (r:List D1),((g.rows.drop off).take len)[i]?=some r->g.rows[off+i]?=some r:=by
     intro i r hr;rw[ad2] at hr;split at hr;·rw[adO] at hr;exact hr
     ·simp at hr
    have fin: ∀(A:Option Addr) (f:List Value),a.eval s= .slice A len cap->GZ c g.n ((g.rows.drop off).take len) f->(∀I:World,I.heap=c.w.heap->(Builtin.firstCells g.n len (.slice A len cap)).run P I= .ok f.toArray I)->
     ∃q,len+k<=q/\Bn P c a o H (H.set id ⟨g.n,q,(g.rows.drop off).take len++List.replicate k z⟩) (.one (.c (.osl g.n id 0 (len+k) q))) id:=by
     intro A f U y ck
     have J:Builtin.nextslicecap (len+k) cap*i.bytes<=281474976710656:=growslice_fits p (by
      have:(len+k)*i.bytes<=2147483647*65536:=af5 hle F
      omega)
     have V:=VH (P:=P) c.w t Y o.type el i L kn hu aa hi bp A len cap k f (by rw[E];exact ck c.w.drew rfl) cd (by omega) p hle F J
     have cl:=OC (k:=k) bb hn ab
     have cp:=y.append cl
     have K:=grownCap_ge c.w (len+k) cap el
     have cq:uK (c.drew (c.w.drawn+1)) (f.toArray++Builtin.zeroCells L.cells k++Builtin.zeroCells L.cells (grownCap c.w (len+k) cap el-(len+k))) 0
      ⟨g.n,grownCap c.w (len+k) cap el,(g.rows.drop off).take len++List.replicate k z⟩:=by
      refine uK.drew (W7 cp (by simp;omega) ?_ (fun j v X=> ?_) hn) _
      ·simp only[Array.size_append,afC,size_zeroCells,O,y.len,S];rw[Nat.sub_mul,<-adT];have:=aeD g.n K;omega
      ·have cr:=(adB.1 X).1;rw[afQ,if_pos (by simpa using cr)];rw[<-afR];simpa using X
     have ct:=hs.drew (c.w.drawn+1)
     obtain⟨h1,h2⟩:=O7 (m:=id) ct el hN cq
     refine⟨_,K,.slice (some ⟨c.w.heap.size,0,none⟩) (len+k) (grownCap c.w (len+k) cap el),_,?_,h1,(Step.drew c H _).trans h2,?_,fun i hi=> ?_⟩
     ·simp only[execOp,ho,resolve,invoke,builtin,Sem.run_bind,Sem.run_pure,Result.andThen_ok,ae7,adG,adQ,U,cf,V];rfl
     ·simp only[iA,mH,Rel,cX,Cf.named,if_true];refine⟨K,.inr ⟨by omega,.inl trivial,?_⟩⟩;simp[Cf.drew]
     ·rcases hi with h|h;·exact .inr h
      ·exact .inl h
    simp only[Rel,cX] at R;obtain⟨cy,⟨h0,A,U⟩|⟨h0,da,U⟩⟩:=R
    ·have cv:len=0:=(by omega);subst cv;subst h0;refine fin A [] U ⟨by simp,by simp,by simp⟩ fun I _=> ?_
     cases A with
     |none=>simp[run_firstCells_none]
     |some A=>exact run_firstCells_some I g.n 0 A _ _ [] (by simp) (by simp)
    ·obtain⟨f,y,cw⟩:=BE (c:=c) (b:=(c.ρ D).1) (o:=(c.ρ D).2+off*g.n) (rows:=(g.rows.drop off).take len) hn
      (fun i r hr=>(hs.wf D g Q).2 _ r (G i r hr))
      (fun i j r d h1 h2=>by
       obtain⟨u,h3,h4⟩:=hs.cells D g (off+i) j r d Q (G i r h1) h2
       refine⟨u,?_,h4⟩
       rw[<-h3];congr 2;rw[adT];omega)
     refine fin _ f U y fun I hw=> ?_
     refine run_firstCells_some I g.n len _ len cap f (by rw[y.len,S]) (fun j v X=> ?_)
     rw[AU,<-cw j v X]
     simp[World.cell?,hw]
   ·cases B
  ·cases B
 ·cases B
theorem PC: ∀{cs:List D1} {l:List Int} {vs:List Value},FD cs=some l->y4 c cs vs->vs=oQ l/\l.length=cs.length
 | [],l,vs,h,hr=>by simp only[FD,Option.some.injEq] at h;subst h;have:=hr.1;simp only[List.length_nil,aeG] at this;exact⟨this,rfl⟩
 |d::cs,l,vs,h,hr=>by
  unfold FD at h;split at h;·rename_i heq;cases heq
  ·rename_i n r heq;cases heq;simp only[adC] at h;obtain⟨l0,f,rfl⟩:=h
   match vs,hr with
   | [],hr=>simp[y4] at hr
   |v::vs,hr=>have g:=FT (hr.2 0 _ v rfl rfl);have e:=PC f (vs:=vs) ⟨by have:=hr.1;simpa using this,fun i d u a b=>hr.2 (i+1) d u (by simpa using a) (by simpa using b)⟩;exact⟨by rw[g,e.1];rfl,by simp[e.2]⟩
  ·cases h
theorem aa8(he:ER c T e a){neg:Bool}{s:TypeId}{n:Nat}{y:Operand}{q:aZ}{d:D}(u:o.op= .binOp (if neg then .neq else .eql) t x y s)(r:OF P t=some n)(v:trO x=some x')(z:trO y=some q)
 (f:xq (.aeq neg n) ([x',q].map (·.ev e))=some d):nC P c a o d:=by
 simp only[adG,adQ] at f
 unfold xq at f
 split at f
 ·rename_i k;cases k
 ·rename_i G m xs ys k i;cases k;simp only[List.cons.injEq,and_true] at i;obtain⟨i,A⟩:=i;unfold eqD at f;split at f
  ·rename_i l p B C;split at f;·rename_i hc;simp only[Option.some.injEq] at f;subst f;have rx:=o8 he v;have j:=o8 he z;rw[i] at rx;rw[A] at j;obtain⟨vs,g,rx⟩:=rx;obtain⟨us,h,j⟩:=j;obtain⟨i1,i2⟩:=PC B rx;obtain⟨E,H⟩:=PC C j;rw[i1] at g;rw[E] at h;obtain⟨I,_,_,_,F,_⟩:=J9 r;have heq:=ae (P:=P) c.w r (a:=l) (b:=p) (by omega) (by omega);refine⟨.bool (if neg then decide (¬l=p) else decide (l=p)),?_,QY rfl⟩;cases neg<;>simp[execOp,u,g,h,eqGuard,F,binOp,heq,bne]
   ·cases f
  ·cases f
 ·cases f
variable{p:Nat×Bool}
theorem uo(h:kj P t=some p): ∃c d,P.underlying t=some (.map c d)/\Ar P c=some p.1/\ ∀w:World,(zeroValue d).run P w= .ok (elemV p.2 0) w:=by
 unfold kj at h;split at h
 ·rename_i c d hu;split at h
  ·rename_i kn bl e a;cases h;refine⟨c,d,hu,e,fun w=> ?_⟩;unfold Xr at a;split at a
   ·rename_i i hi;split at a;·rename_i b;cases a;simp[zeroValue,typeInfo,hi,b,elemV]
    ·rename_i b;cases a;simp[zeroValue,typeInfo,hi,b,elemV]
    ·cases a
   ·cases a
  ·cases h
 ·cases h
theorem ZT(hs:St c H){i:Nat}{x:pZ}(h:RH H i=some x): ∃o,H i=some o/\o.n=0/\o.rows=[]/\0<o.ext/\WO c.w.heap[(c.ρ i).1]? x:=by
 unfold RH at h
 cases a:H i with
 |none=>rw[a] at h;cases h
 |some o=>
  rw[a] at h;simp only[Option.bind_some,Pt] at h;split at h;·rename_i hc;cases h;obtain⟨d,e,f⟩:=hc;have b:=hs.blk i o a f;unfold GS at b;rw[if_pos ⟨d,e⟩] at b;exact⟨o,rfl,d,e,f,b⟩
  ·cases h
theorem zf(hs:St c H)(he:ER c T e a){d f:TypeId}{i id:Nat}{m:pZ}(g:o.op= .call {callee:=.builtin .len,args:=#[x],argTypes:=#[t]})(hu:P.underlying t=some (.map d f))(n:trO x=some x')
 (b:a.eval x= .map (some i)) (h:WO c.w.heap[i]? m):Bn P c a o H H (.one (.c (.v (.int .i64 m.m.length)))) id:=by
 obtain⟨es,clock,j,k,_⟩:=h
 have l:Sem.run P (getObj i) c.w= .ok (.map es clock) c.w:=by simp[getObj,Sem.run,j]
 have hl:es.size=m.m.length:=by have:=congrArg List.length k;simpa [pZ.rows] using this
 refine⟨.int .i64 m.m.length,c,?_,hs,Step.refl c H,QY rfl,fun i hi=>.inl hi⟩
 simp[execOp,g,resolve,invoke,builtin,b,Builtin.len_,run_underlying hu,goInt,l,hl]
theorem km(t:TypeId)(w:World):(Instr.makeMap t none).run P w= .ok (.map (some w.heap.size)) (w.alloc (.map #[] 0)):=rfl
theorem Wq(hs:St c H){id:Nat}(J: ¬c.N id)(K:o.op= .makeMap t none)(_ht:kj P t=some p):Bn P c a o H (H.set id (DH ⟨p.1,p.2,[]⟩)) (.one (.c (.omap id))) id:=by
 obtain⟨c1,e⟩: ∃c1:Cf,c1=c.named id c.w.heap.size 0 (c.w.alloc (.map #[] 0)):=⟨_,rfl⟩
 have hold: ∀b,b<c.w.heap.size->(c.w.alloc (.map #[] 0)).heap[b]?=c.w.heap[b]?:=fun b x=>Below.heap_alloc _ _ _ x;have A:(c.w.alloc (.map #[] 0)).heap[c.w.heap.size]?=some (.map #[] 0):=by show (c.w.heap.push _)[_]?=_;simp
 have f:c1.w=c.w.alloc (.map #[] 0):=by rw[e];rfl
 have l: ∀j,c.N j->c1.ρ j=c.ρ j:=by intro j L;rw[e];simp only[Cf.named];rw[if_neg (by rintro rfl;exact J L)]
 have g:c1.ρ id=(c.w.heap.size,0):=by rw[e];simp[Cf.named]
 have n: ∀j o',H j=some o'->0<o'.ext->(c.ρ j).1<c.w.heap.size:=fun j o' q v=>(hs.blk j o' q v).lt
 have s:Step c H c1 (H.set id (DH ⟨p.1,p.2,[]⟩)):={
  ρ:=l
  N:=fun _ h=>by rw[e];exact .inr h
  I:=fun _ h=>by rw[e];exact h
  I':=fun _ h=>by rw[e] at h;exact .inl h
  size:=by rw[f];simp
  os:=by rw[f];rfl
  tape:=by rw[f];rfl
  output:=by rw[f];rfl
  frame:=fun b x _=>by rw[f];exact hold b x
  own:=by
   rintro b ⟨j,o',q,v,y⟩;rcases bY q with⟨rfl,rfl⟩|⟨m,q⟩
   ·right;rw[g] at y;omega
   ·left;exact⟨j,o',q,v,by rw[l j (hs.named j o' q)] at y;exact y⟩}
 refine⟨.map (some c.w.heap.size),c1,?_,?_,s,?_,fun i hi=> ?_⟩;·rw[f];simp only[execOp,K,Option.map_none,Sem.run_bind,km,Result.andThen_ok,Sem.run_pure]
 ·refine {named:= ?_,wf:= ?_,blk:= ?_,cells:= ?_,sep:= ?_,imm:= ?_,old:= ?_}
  ·intro j o' h;rcases bY h with⟨rfl,rfl⟩|⟨m,h⟩
   ·rw[e];exact .inl rfl
   ·rw[e];exact .inr (hs.named j o' h)
  ·intro j o' h;rcases bY h with⟨rfl,rfl⟩|⟨m,h⟩
   ·exact⟨by simp[DH],by simp[DH]⟩
   ·exact hs.wf j o' h
  ·intro j o' h he;rcases bY h with⟨rfl,rfl⟩|⟨m,h⟩
   ·rw[g,f];unfold GS;rw[if_pos ⟨rfl,rfl⟩];refine⟨#[],0,A,?_,?_⟩;·simp[DH,FM,pZ.rows]
    ·simp[DH,FM,pZ.ok]
   ·have:=hs.blk j o' h he;rw[<-hold _ (n j o' h he),<-l j (hs.named j o' h),<-f] at this;exact this
  ·intro j o' i k r d h q v;rcases bY h with⟨rfl,rfl⟩|⟨m,h⟩
   ·simp[DH] at q
   ·obtain⟨u,y,M⟩:=hs.cells j o' i k r d h q v;refine⟨u,?_,M.step s hs⟩;rw[l j (hs.named j o' h),f,<-y];exact World.cell?_of_block (w:=c.w) (hold _ (World.block_lt_of_cell? c.w _ y))
  ·intro j z B C q v F G m;rcases bY q with⟨rfl,rfl⟩|⟨O,D⟩<;>rcases bY v with⟨rfl,rfl⟩|⟨Q,E⟩
   ·exact absurd rfl m
   ·rw[l z (hs.named z C E),g];have:=n z C E G;simp only;omega
   ·rw[l j (hs.named j B D),g];have:=n j B D F;simp only;omega
   ·rw[l j (hs.named j B D),l z (hs.named z C E)];exact hs.sep j z B C D E F G m
  ·intro j o' h he;rcases bY h with⟨rfl,rfl⟩|⟨m,h⟩
   ·rw[g,e];intro R;have:=hs.old _ R;simp only at this;omega
   ·rw[l j (hs.named j o' h),e];exact hs.imm j o' h he
  ·intro b x;rw[e] at x;have:=hs.old b x;rw[f];show _<(c.w.heap.push _).size;simp only[Array.size_push];omega
 ·simp only[iA,mH,Rel,cX];rw[g];exact⟨by rw[e];exact .inl rfl,rfl⟩
 ·rw[e] at hi;rcases hi with h|h;·exact .inr h
  ·exact .inl h
theorem Bq(he:ER c T e a){k:Operand}{k':aZ}{kn:Nat}{l:List Int}(f:trO k=some k')(h:XM kn (k'.ev e)=some l)(hl:l.length=IK kn):a.eval k=uG kn l:=by
 have hr:=o8 he f;unfold XM at h;split at h
 ·rename_i cs b;split at h;·cases h
  ·rename_i d;rw[b] at hr;obtain⟨vs,g,hr⟩:=hr;obtain⟨i1,i2⟩:=PC h hr;rw[g,i1];simp[uG,d,oQ]
 ·rename_i n i;split at h;·rename_i j;cases h;rw[F1 he f i];simp[uG,j]
  ·cases h
 ·cases h
theorem Jp(he:ER c T e a){v:Operand}{f:aZ}{bl:Bool}{n:Int}(g:trO v=some f)(h:bn bl (f.ev e)=some n):a.eval v=elemV bl n:=by
 unfold bn at h;split at h
 ·rename_i b i;split at h;·rename_i d;cases h;rw[F1 he g i,d];cases b<;>rfl
  ·cases h
 ·rename_i m hm;split at h;·cases h
  ·rename_i d;cases h;rw[F1 he g hm];simp[elemV,d]
 ·cases h
theorem zq(hs:St c H)(he:ER c T e a){ok:Bool}{k:Operand}{k':aZ}{i id:Nat}{m:pZ}{l:List Int}(A:o.op= .lookup t x k ok)(B:kj P t=some p)(F:trO x=some x')(C:trO k=some k')
 (h:a.eval x= .map (some i)) (D:WO c.w.heap[i]? m) (j:m.kn=p.1) (s:m.bl=p.2) (hl:XM p.1 (k'.ev e)=some l) (y:l.length=IK p.1):
 Bn P c a o H H (if ok then .tup [.c (.v (elemV p.2 ((j9 m.m l).getD 0))),.c (.v (.bool (j9 m.m l).isSome))] else .one (.c (.v (elemV p.2 ((j9 m.m l).getD 0))))) id:=by
 obtain⟨G,I,hu,q,E⟩:=uo B
 have b:=Cj c.w hu (x:=m) (by rw[j];exact q) (by rw[s];exact E c.w) D (l:=l) (by rw[j];exact y) ok
 rw[Tt,j,s] at b
 have r:=Bq he C hl y
 have z: ∀n:Int,(elemV p.2 n).oneCell'=true:=fun n=>by unfold elemV;split<;>rfl
 refine⟨if ok then .tuple #[elemV p.2 ((j9 m.m l).getD 0),.bool (j9 m.m l).isSome] else elemV p.2 ((j9 m.m l).getD 0),c,?_,hs,Step.refl c H,?_,fun i hi=>.inl hi⟩
 ·simp only[execOp,A,h,r,b,Sem.run_bind,Result.andThen_ok,Sem.run_pure]
 ·cases ok;·exact QY (z _)
  ·refine⟨[_,_],rfl,rfl,fun i d u f g=> ?_⟩
   match i with
   |0=>simp at f g;subst f;subst g;exact QY (z _)
   |1=>simp at f g;subst f;subst g;exact QY rfl
   |i+2=>simp at f
theorem Sh(hs:St c H)(he:ER c T e a){k v:Operand}{k' v':aZ}{i:Nat}{m:pZ}{l:List Int}{n:Int}(ho:o.op= .mapUpdate t x k v)(ht:kj P t=some p)(hx:trO x=some x')(hk:trO k=some k')(Y:trO v=some v')
 (hv:x'.ev e= .one (.c (.omap i))) (hm:RH H i=some m) (Z:m.kn=p.1) (g2:m.bl=p.2) (hl:XM p.1 (k'.ev e)=some l) (g3:l.length=IK p.1) (hn:bn p.2 (v'.ev e)=some n):
 Pz P c H a o i (DH ⟨p.1,p.2,B1 m.m l n⟩):=by
 have hr:=vJ he hx hv
 simp only[Rel,cX] at hr
 obtain⟨Q,A,_,aa,y,hM⟩:=ZT hs hm
 obtain⟨kt,et,hu,ab,hz⟩:=uo ht
 obtain⟨R,z,K,S⟩:=Gs c.w hu (x:=m) (by rw[Z];exact ab) hM (l:=l) (by rw[Z];exact g3) n
 rw[Z,g2] at K S
 have ad:=Bq he hk hl g3
 have ai:=Jp he Y hn
 obtain⟨c1,f⟩: ∃c1:Cf,c1= {c with w:={c.w with heap:=c.w.heap.set! (c.ρ i).1 (.map R z)}}:=⟨_,rfl⟩
 have aj:(c.ρ i).1<c.w.heap.size:=(hs.blk i Q A y).lt
 have U:B0 c H (c.ρ i).1:=⟨i,Q,A,y,rfl⟩
 have B: ∀b,b≠(c.ρ i).1->c1.w.heap[b]?=c.w.heap[b]?:=fun b W=>by rw[f];simp only[Array.set!_eq_setIfInBounds];rw[af9 (Ne.symm W)]
 have L:c1.w.heap[(c.ρ i).1]?=some (.map R z):=by rw[f];simp only[Array.set!_eq_setIfInBounds];rw[Array.getElem?_setIfInBounds_self_of_lt aj]
 have C:c1.w.heap.size=c.w.heap.size:=by rw[f];simp
 have s: ∀j o',j≠i->H j=some o'->0<o'.ext->(c.ρ j).1≠(c.ρ i).1:=fun j o' g D M=>hs.sep j i o' Q D A M y g
 have E:Step c H c1 (H.set i (DH ⟨p.1,p.2,B1 m.m l n⟩)):={
  ρ:=fun _ _=>by rw[f]
  N:=fun _ h=>by rw[f];exact h
  I:=fun _ h=>by rw[f];exact h
  I':=fun _ h=>by rw[f] at h;exact .inl h
  size:=by rw[C];exact ac1 _
  os:=by rw[f]
  tape:=by rw[f]
  output:=by rw[f]
  frame:=fun b _ ao=>B b (by rintro rfl;exact ao U)
  own:=by
   rintro b ⟨j,o',D,M,O⟩;left;rcases bY D with⟨rfl,rfl⟩|⟨g,D⟩
   ·exact⟨j,Q,A,y,by rw[f] at O;exact O⟩
   ·exact⟨j,o',D,M,by rw[f] at O;exact O⟩}
 refine⟨c1,?_,?_,E,fun j=>by rw[f]⟩
 ·rw[f];simp only[execOp,ho,hr.2,ad,ai,K,Sem.run_bind,Result.andThen_ok,Sem.run_pure]
 ·refine {named:= ?_,wf:= ?_,blk:= ?_,cells:= ?_,sep:= ?_,imm:= ?_,old:= ?_}
  ·intro j o' h;rw[f];rcases bY h with⟨rfl,rfl⟩|⟨g,h⟩
   ·exact hr.1
   ·exact hs.named j o' h
  ·intro j o' h;rcases bY h with⟨rfl,rfl⟩|⟨g,h⟩
   ·exact⟨by simp[DH],by simp[DH]⟩
   ·exact hs.wf j o' h
  ·intro j o' h G;have F:c1.ρ j=c.ρ j:=(by rw[f]);rw[F];rcases bY h with⟨rfl,rfl⟩|⟨g,h⟩
   ·rw[L];unfold GS;rw[if_pos ⟨rfl,rfl⟩];show ∃es clock,_/\_=(Fo (Cb _+1-1)).rows/\(Fo (Cb _+1-1)).ok;rw[Nat.add_sub_cancel,FM];obtain⟨bb,J,bk,h5,h6⟩:=S;exact⟨bb,J,bk,h5,h6⟩
   ·rw[B _ (s j o' g h G)];exact hs.blk j o' h G
  ·intro j o' q X r d h D M;have F:c1.ρ j=c.ρ j:=(by rw[f]);rw[F];rcases bY h with⟨rfl,rfl⟩|⟨g,h⟩
   ·simp[DH] at D
   ·obtain⟨u,O,h4⟩:=hs.cells j o' q X r d h D M;refine⟨u,?_,h4.step E hs⟩;have V:0<o'.ext:=by have:=(hs.wf j o' h).1;have hq:q<o'.rows.length:=(adB.1 D).1;omega
    rw[<-O];exact World.cell?_of_block (w:=c.w) (B _ (s j o' g h V))
  ·intro j j' o1 o2 D M e1 e2 g;have F:c1.ρ=c.ρ:=(by rw[f]);rw[F];rcases bY D with⟨rfl,rfl⟩|⟨bp,k1⟩<;>rcases bY M with⟨rfl,rfl⟩|⟨br,X⟩
   ·exact absurd rfl g
   ·exact(s j' o2 br X e2).symm
   ·exact s j o1 bp k1 e1
   ·exact hs.sep j j' o1 o2 k1 X e1 e2 g
  ·intro j o' h G;rw[f];rcases bY h with⟨rfl,rfl⟩|⟨g,h⟩
   ·exact hs.imm _ Q A y
   ·exact hs.imm j o' h G
  ·intro b W;rw[C];rw[f] at W;exact hs.old b W
inductive IsX(P:Program):Op->XK->List aZ->Prop where
 |DX {f:FuncId} {first caps:Array Operand} {l:List aZ} (h1:first.size=0) (h2:caps.toList.mapM trO=some l):IsX P (.makeFunc (.func f) first caps) (.DX f) l
 |uX {neg:Bool} {t t' el:TypeId} {x:Operand} {y:aZ} (h1:P.underlying t=some (.slice el)) (h2:trO x=some y):IsX P (.binOp (if neg then .neq else .eql) t x (.const (.slice none 0 0)) t') (.uX neg) [y]
 |copy {t t' el:TypeId} {n:Nat} {x y:Operand} {x' y':aZ} (h1:fU P t=some (el,n)) (h2:trO x=some x') (h3:trO y=some y'):IsX P (.call {callee:=.builtin .copy,args:=#[x,y],argTypes:=#[t,t']}) (.copy n) [x',y']
 |clear {t el:TypeId} {n:Nat} {z:List D1} {x:Operand} {x':aZ} (h1:fU P t=some (el,n)) (h2:trO x=some x') (h3:zeroOf P el=some z) (h4:z.length=n):IsX P (.call {callee:=.builtin .clear,args:=#[x],argTypes:=#[t]}) (.clear n z) [x']
 |gn {t tn el:TypeId} {kn:IntKind} {n:Nat} {z:List D1} {s x:Operand} {s' x':aZ} (h1:fU P t=some (el,n)) (h2:P.underlying tn=some (.int kn)) (h3:trO s=some s') (h4:trO x=some x') (h5:zeroOf P el=some z) (h6:z.length=n) (h7:P.bytesOf el<=65536):
  IsX P (.call {callee:=.builtin .append,args:=#[s,x],argTypes:=#[t,tn]}) (.gn n z) [s',x']
 |bq {cl:Call} {f:FuncId} {l:List aZ} (h1:cl.callee= .value (.func f)) (h2:cl.args.toList.mapM trO=some l):IsX P (.call cl) (.bq f) l
 |LX {t:TypeId} {p:Nat×Bool} (h1:kj P t=some p):IsX P (.makeMap t none) (.LX p.1 p.2) []
 |aeq {neg:Bool} {t t':TypeId} {n:Nat} {x y:Operand} {x' y':aZ} (h1:OF P t=some n) (h2:trO x=some x') (h3:trO y=some y'):IsX P (.binOp (if neg then .neq else .eql) t x y t') (.aeq neg n) [x',y']
 |wL {t:TypeId} {p:Nat×Bool} {ok:Bool} {x k:Operand} {x' k':aZ} (h1:kj P t=some p) (h2:trO x=some x') (h3:trO k=some k'):IsX P (.lookup t x k ok) (.wL p.1 p.2 ok) [x',k']
 |DE {t:TypeId} {p:Nat×Bool} {x k v:Operand} {x' k' v':aZ} (h1:kj P t=some p) (h2:trO x=some x') (h3:trO k=some k') (h4:trO v=some v'):IsX P (.mapUpdate t x k v) (.DE p.1 p.2) [x',k',v']
 |zL {t kt et:TypeId} {x:Operand} {x':aZ} (h1:P.underlying t=some (.map kt et)) (h2:trO x=some x'):IsX P (.call {callee:=.builtin .len,args:=#[x],argTypes:=#[t]}) .zL [x']
 |bad {op:Op}:IsX P op .bad []
theorem Rl{b:Builtin}{args:Array Operand}{i:Array TypeId}{o:AOp}(h:Yo P b args.toList i.toList=some o): ∃k l,o= .xop k l/\IsX P (.call {callee:=.builtin b,args:=args,argTypes:=i}) k l:=by
 unfold Yo at h;split at h
 ·rename_i x t a c;split at h;·rename_i d e;cases h;rw[sI a,sI c];exact⟨_,_,rfl,.zL d e⟩
  ·cases h
 ·rename_i x y t n a c;split at h;·rename_i d e f;cases h;rw[CS a,CS c];exact⟨_,_,rfl,.copy d e f⟩
  ·cases h
 ·rename_i x t a c;split at h
  ·rename_i d e;split at h
   ·rename_i f;split at h;·rename_i g;cases h;rw[sI a,sI c];exact⟨_,_,rfl,.clear d e f g⟩
    ·cases h
   ·cases h
  ·cases h
 ·rename_i s x t p a c;split at h
  ·rename_i d e f g;split at h
   ·rename_i m;split at h;·rename_i j;cases h;rw[CS a,CS c];exact⟨_,_,rfl,.gn d e f g m j.1 j.2⟩
    ·cases h
   ·cases h
  ·cases h
 ·cases h
theorem Ww{op:Op}{o:AOp}(h:trX P op=some o): ∃k l,o= .xop k l/\IsX P op k l:=by
 unfold trX at h;split at h
 ·split at h;·rename_i f;simp only[adC] at h;obtain⟨l,a,rfl⟩:=h;exact⟨_,_,rfl,.DX f a⟩
  ·cases h
 ·split at h;·rename_i a c;cases h;exact⟨_,_,rfl,.uX (neg:=false) a c⟩
  ·cases h
 ·split at h;·rename_i a c;cases h;exact⟨_,_,rfl,.uX (neg:=true) a c⟩
  ·cases h
 ·split at h;·rename_i a c d;cases h;exact⟨_,_,rfl,.aeq (neg:=false) a c d⟩
  ·cases h
 ·split at h;·rename_i a c d;cases h;exact⟨_,_,rfl,.aeq (neg:=true) a c d⟩
  ·cases h
 ·simp only[adC] at h;obtain⟨p,a,rfl⟩:=h;exact⟨_,_,rfl,.LX a⟩
 ·split at h;·rename_i a c d;cases h;exact⟨_,_,rfl,.wL a c d⟩
  ·cases h
 ·split at h;·rename_i a c d g;cases h;exact⟨_,_,rfl,.DE a c d g⟩
  ·cases h
 ·rename_i i;obtain⟨callee,args,j⟩:=i;split at h;·rename_i b e;simp only at e;subst e;exact Rl h
  ·cases h
 ·cases h
theorem Xo{op:Op}{o:AOp}(h:trE P op=some o): ∃k l,o= .xop k l/\IsX P op k l:=by
 unfold trE at h;split at h
 ·split at h
  ·rename_i f hc;split at h
   ·split at h;·simp only[adC] at h;obtain⟨l,a,rfl⟩:=h;exact⟨_,_,rfl,.bq hc a⟩
    ·cases h
   ·cases h
  ·cases h
 ·cases h
theorem OO(op:Op):MZ P op=some (TL P op)\/ ∃k l,TL P op= .xop k l/\IsX P op k l:=by
 unfold TL;split;·rename_i o h;obtain⟨k,l,a,b⟩:=Xo h;exact .inr ⟨k,l,a,b⟩
 ·split;·rename_i o h;exact .inl h
  ·split;·rename_i o h;obtain⟨k,l,a,b⟩:=Ww h;exact .inr ⟨k,l,a,b⟩
   ·exact .inr ⟨_,_,rfl,.bad⟩
theorem Nh(hs:St c H)(he:ER c T e a){d:D}(b:bL H e (TL P o.op)=some d):nC P c a o d:=by
 rcases OO (P:=P) o.op with h|⟨k,l,h,i⟩
 ·exact Lv hs he h b
 ·rw[h] at b;simp only[bL] at b;generalize j:o.op=op at i
  cases i with
  |DX f g=>exact Ut he j f g b
  |aeq f g m=>exact aa8 he j f g m b
  |_=>simp[xq] at b
theorem Lf(hs:St c H)(he:ER c T e a){d:D}{f:bN}{id:Nat}(g: ¬c.N id)(b:pD id e (TL P o.op)=some (d,f)):WY P c H a o id d f:=by
 rcases OO (P:=P) o.op with h|⟨k,l,h,i⟩
 ·exact Km hs he g h b
 ·rw[h] at b;simp[pD] at b
theorem Ru(hs:St c H)(he:ER c T e a){id nx:Nat}{R:D->aA->Nat->Prop}(hN: ∀i,c.N i->i<nx)(F: ¬c.N id)(h:PT P id (TL P o.op) e H nx R)
 {next:Act->World->Prop} {U:Exit->Act->World->Prop}
 (V: ∀d v c' H' nx',St c' H'->Step c H c' H'->iA c' d v->(∀i,c'.N i->c.N i\/i=id\/(nx<=i/\i<nx'))->nx<=nx'->R d H' nx'->next (a.put o.dst v) c'.w):o.wp P a c.w next U:=by
 rcases OO (P:=P) o.op with W|⟨k,l,W,C⟩
 ·exact Oz hs he hN F W h V
 ·rw[W] at h;simp only[PT] at h;have j: ∀(d:D) (H':aA),Bn P c a o H H' d id->R d H' nx->o.wp P a c.w next U:=by rintro d H' ⟨v,c',g,X,Y,Z,k4⟩ J;unfold Oper.wp;rw[g];exact V d v c' H' nx X Y Z (fun i hi=>(k4 i hi).imp (fun h=>h) .inl) (ac1 _) J
  generalize z:o.op=op at C
  cases C with
  |DX u s=>simp[xl] at h
  |bad=>simp[xl] at h
  |aeq u s B=>simp[xl] at h
  |zL u s=>
   unfold xl at h;simp only[adG,adQ] at h;split at h<;>try (first| (rename_i p _;cases p;done)| (rename_i p;cases p;done))
   all_goals try (exact h.elim)
   ·rename_i i p q;simp only[List.cons.injEq,and_true] at q;have hr:=vJ he s q;simp only[Rel,cX] at hr;revert h;unfold xlL;split;·rename_i x C;intro h;obtain⟨_,_,_,_,_,G⟩:=ZT hs C;exact j _ _ (zf hs he z u s hr.2 G) h
    ·exact fun h=>h.elim
   ·rename_i m p q;simp only[List.cons.injEq,and_true] at q;have hr:=vJ he s q;simp only[Rel,cX] at hr;generalize E:a.eval _=v at hr
    cases hr with
    |WE _ b hI G=>exact j _ _ (zf hs he z u s E G) h
  |LX u=>simp only[adQ,xl] at h;exact j _ _ (Wq hs F z u) h
  |wL u s B=>
   unfold xl at h;simp only[adG,adQ] at h;split at h<;>try (first| (rename_i p _;cases p;done)| (rename_i p;cases p;done))
   all_goals try (exact h.elim)
   ·rename_i kn bl ok i k p q;cases p;simp only[List.cons.injEq,and_true] at q;obtain⟨q,K⟩:=q;have hr:=vJ he s q;simp only[Rel,cX] at hr;revert h;unfold xlG;split;·rename_i x l C hl;rintro⟨⟨L,M,O⟩,h⟩;obtain⟨_,_,_,_,_,G⟩:=ZT hs C;exact j _ _ (zq hs he z u s B hr.2 G L M (by rw[K];exact hl) O) h
    ·exact fun h=>h.elim
   ·rename_i kn bl ok m k p q;cases p;simp only[List.cons.injEq,and_true] at q;obtain⟨q,K⟩:=q;have hr:=vJ he s q;simp only[Rel,cX] at hr;generalize E:a.eval _=v at hr
    cases hr with
    |WE _ b hI G=>
     revert h;unfold xlG;split;·rename_i x l C hl;cases C;rintro⟨⟨L,M,O⟩,h⟩;exact j _ _ (zq hs he z u s B E G L M (by rw[K];exact hl) O) h
     ·exact fun h=>h.elim
  |DE u s B I=>
   unfold xl at h;simp only[adG,adQ] at h;split at h<;>try (first| (rename_i p _;cases p;done)| (rename_i p;cases p;done))
   all_goals try (exact h.elim)
   rename_i kn bl i k v p q;cases p;simp only[List.cons.injEq,and_true] at q;obtain⟨q,K,e4⟩:=q;revert h;unfold xlS;split;·rename_i x l n C hl hn;rintro⟨⟨L,M,O⟩,h⟩;obtain⟨c',g,X,Y,Z⟩:=Sh hs he z u s B I q C L M (by rw[K];exact hl) O (by rw[e4];exact hn);unfold Oper.wp;rw[g];exact V .dead undef c' _ nx X Y trivial (fun i hi=>.inl ((Z i).1 hi)) (ac1 _) h
   ·exact fun h=>h.elim
  |copy u s B=>
   simp only[adG,adQ,xl] at h;split at h;·rename_i Q;exact j _ _ (Zi hs he z u s B Q) h
   ·exact h.elim
  |clear u s B I=>
   simp only[adG,adQ,xl] at h;split at h;·rename_i Q;exact j _ _ (Tx hs he z u B I s Q) h
   ·exact h.elim
  |gn u s B I h6 h7 h8=>
   simp only[adG,adQ,xl] at h;split at h;·rename_i Q;obtain⟨cap,hc,hd⟩:=aa3 (P:=P) hs he F z u s h6 h7 h8 B I Q;exact j _ _ hd (h cap hc)
   ·exact h.elim
  |bq u s=>rename_i cl f;simp only[xl] at h;obtain⟨B,I⟩:=M3 he _ _ s;obtain⟨v,r,g,hr,J⟩:=h c _ hs (by simpa using B) I;refine j r H ⟨v,c,?_,hs,Step.refl c H,hr,fun i hi=>.inl hi⟩ J;have aa:(cl.args.toList.map a.eval).toArray=cl.args.map a.eval:=(by apply aeW;simp);have hf:a.eval (.func f)= .func (.func f) #[] #[]:=rfl;rw[aa] at g;simp only[execOp,z,resolve,u,hf,Deferred.ofValue,Sem.run_bind,Sem.run_pure,Result.andThen_ok,invoke];simp[g]
  |uX hu hy=>
   rename_i neg t t' el x y
   have fin: ∀b:Bool,(execOp a.eval o).run P c.w= .ok (.value (.bool b)) c.w->R (bD b) H nx->o.wp P a c.w next U:=fun b g J=>
    j (bD b) H ⟨.bool b,c,g,hs,Step.refl c H,UU,fun i hi=>.inl hi⟩ J
   simp only[adG,adQ] at h;unfold xl at h;split at h
   ·rename_i k ng rows p q;cases p;simp only[List.cons.injEq,and_true] at q;have hr:=vJ he hy q;simp only[Rel,cX] at hr;generalize E:a.eval x=v at hr
    cases hr with
    |isl _ A cap n b o' f ha ab hn hc hr=>
     have g:=V4 (P:=P) (c:=c) z hu E;split at h;·exact fin _ g (h _)
     ·rename_i S;have ad:rows≠[]:=(by rintro rfl;exact S rfl);rw[(ha ad).1] at g;apply fin _ g;cases neg<;>exact h
   ·rename_i k ng m ai off len cap p q;cases p;simp only[List.cons.injEq,and_true] at q;have hr:=vJ he hy q;simp only[Rel,cX] at hr;obtain⟨_,⟨S,A,E⟩|⟨S,_,E⟩⟩:=hr;·rw[if_pos S] at h;exact fin _ (V4 (P:=P) (c:=c) z hu E) (h _)
    ·rw[if_neg (by omega)] at h;apply fin _ (V4 (P:=P) (c:=c) z hu E);cases neg<;>exact h
   all_goals first|exact h.elim| (rename_i p _;cases p;done)| (rename_i p;cases p;done)
end
end Go.AM
