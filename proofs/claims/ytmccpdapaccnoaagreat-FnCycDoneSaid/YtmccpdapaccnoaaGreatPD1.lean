/- Texts laid together by a program: rules, contracts and the walk that leads to the law. -/
import Derived.Test.YtmccpdapaccnoaaGreatPD0
set_option linter.unusedVariables false
set_option linter.unusedSimpArgs false
set_option linter.unusedSectionVars false
set_option maxRecDepth 100000
set_option maxHeartbeats 8000000
namespace Go.AM
open Go.RowKit
section
variable {P : Program} {c : Cf} {H : aA} {T : Nat} {e : Env} {a : Act}
def PL (H:aA):D1→List D1→Option (Nat×bA)
 | .ptr n id row col,ds=>
   match H id with
   |some o=>if o.n=n then
     match o.rows[row]? with
     |some r=>if col+ds.length≤r.length then some (id,⟨o.n,o.ext,o.rows.set row (iA r col ds)⟩) else none
     |none=>none
    else none
   |none=>none
 |_,_=>none
def LB (H:aA) (e:Env):AOp→Option (Nat×bA)
 | .store n _ a x=>match a.ev e,x.ev e with
   | .one (.c d),.one dv=>if dv.cells.length=n then PL H d dv.cells else none
   |_,_=>none
 |_=>none
theorem B5{α:Type} (l vs:List α) (p q:Nat) (h:p+vs.length≤l.length):
 (l.take p++vs++l.drop (p+vs.length))[q]?=if p≤q∧q<p+vs.length then vs[q-p]? else l[q]?:=by
 rw[C0,o5]
 have h1:(l.take p).length=p:=by simp;omega
 rw[h1]
 split
 ·rename_i hq;rw[if_neg (by omega),s4,if_pos hq]
 ·rename_i hq;rw[o5];split;·rename_i hq2;rw[if_pos (by omega)]
  ·rename_i hq2;rw[if_neg (by omega),s5];congr 1;omega
variable{n:Nat}
theorem M7{i j k:Nat} (hj:j<n) (hi:i<k):i*n+j<k*n:=by have:(i+1)*n≤k*n:=t4 _ (by omega);rw[o4] at this;omega
theorem an7{i i' j j':Nat} (hj:j<n) (hj':j'<n) (h:i*n+j=i'*n+j'):i=i'∧j=j':=by
 rcases Nat.lt_trichotomy i i' with hlt|rfl|hlt;·have:=M7 hj hlt (k:=i');omega
 ·exact⟨rfl,by omega⟩
 ·have:=M7 hj' hlt (k:=i);omega
theorem agF{dv:DV}{x:Value} (h:jZ c dv x): ∀v∈x.cells.toList,v.oneCell'=true:=by
 have hr:=G1 h;intro v hv;obtain⟨i,hi⟩:=List.getElem?_of_mem hv;have hlt:i<dv.cells.length:=by rw[←hr.1];exact(m3.1 hi).1
 exact(hr.2 i _ v (n1 hlt) hi).oQ
theorem St.abR (hs:St c H){id:Nat}{o:bA} (ho:H id=some o) (he:0<o.ext) (hnm: ¬(o.n=0∧o.rows=[])):
 ∃arr T,c.w.heap[(c.ρ id).1]?=some (.cells arr T (0,0))∧oZ c arr (c.ρ id).2 o:=by
 obtain⟨arr,T,h1,h2⟩:=(hs.blk id o ho he).cells hnm
 obtain⟨h3,h4⟩:=hs.wf id o ho
 refine⟨arr,T,h1,h3,h4,h2,fun i j r d hi hj=> ?_,fun hm=>hnm ⟨hm.1,hm.2.1⟩⟩
 obtain⟨u,h5,h6⟩:=hs.cells id o i j r d ho hi hj
 refine⟨u,?_,h6⟩
 simpa [World.cell?,h1] using h5
theorem z1 (hs:St c H){id:Nat}{o:bA} (ho:H id=some o) (he:0<o.ext): ¬uG c (H.del id) (c.ρ id).1:=by
 rintro⟨id',o',h1,h2,h3⟩;unfold aA.del at h1;split at h1;·simp at h1
 ·rename_i hne;exact hs.sep id' id o' o h1 ho h2 he hne h3
theorem GX{H:aA}{id:Nat}: ∀i o,(H.del id) i=some o→H i=some o:=by
 intro i o h;unfold aA.del at h;split at h;·simp at h
 ·exact h
theorem afF{H:aA}{id:Nat}{o:bA}:(H.del id).set id o=H.set id o:=by funext i;unfold aA.set aA.del;split<;>simp_all
def alN (P:Program) (c:Cf) (H:aA) (a:Act) (o:Oper) (id:Nat) (ob:bA):Prop:=∃c',(execOp a.eval o).run P c.w= .ok .skip c'.w∧St c' (H.set id ob)∧Step c H c' (H.set id ob)∧(∀i,c'.N i↔c.N i)
theorem apR (hs:St c H) (he:ER c T e a){o:Oper}{t:TypeId}{x y:Operand}{x' y':aT}{id:Nat}{g:Bool}{ob:bA} (ho:o.op= .store t x y) (hl:layout P t=some (n,g)) (hx:trO x=some x') (hy:trO y=some y')
 (hq:LB H e (.store n g x' y')=some (id,ob)):alN P c H a o id ob:=by
 simp only[LB] at hq
 split at hq
 ·rename_i d dv hvx hvy;split at hq
  ·rename_i hlen;have hrx:=qD he hx hvx;have hry:=lP he hy;rw[hvy] at hry;unfold PL at hq;split at hq
   ·rename_i n' id' row col;split at hq
    ·rename_i o0 ho0;split at hq
     ·rename_i hn;subst hn;split at hq
      ·rename_i r hr;split at hq
       ·rename_i hfit;simp only[Option.some.injEq,Prod.mk.injEq] at hq;obtain⟨rfl,rfl⟩:=hq;simp only[Rel,bY] at hrx;obtain⟨hNid,hax⟩:=hrx;have hcr:=G1 hry;have hsz:(a.eval y).cells.size=n:=(by have:=hcr.1;simp at this;omega);have hrow:row<o0.rows.length:=(m3.1 hr).1;have hext:0<o0.ext:=(by have:=(hs.wf _ _ ho0).1;omega);obtain⟨arr,TT,hb,hra⟩:=hs.abR ho0 hext (fun hm=>by have:=congrArg List.length hm.2;simp only[List.length_nil] at this;omega);have hrl:=hra.len row r hr;have hpos:row*o0.n+col+dv.cells.length≤o0.ext*o0.n:=(by have h1:(row+1)*o0.n≤o0.ext*o0.n:=t4 _ (by have:=hra.le;omega);rw[o4] at h1;omega);have hvl:(a.eval y).cells.toList.length=dv.cells.length:=hcr.1;have hst:=run_storeCells_at P (c.ρ id').1 ((c.ρ id').2+(row*o0.n+col)) TT (a.eval y).cells.toList 0 arr c.w hb (by have:=hra.size;omega) (agF hry);simp only[Nat.add_zero] at hst;have hrun:(execOp a.eval o).run P c.w= .ok .skip (c.w.setRow (c.ρ id').1 (arr.toList.take ((c.ρ id').2+(row*o0.n+col))++(a.eval y).cells.toList++arr.toList.drop ((c.ρ id').2+(row*o0.n+col)+(a.eval y).cells.toList.length)).toArray):=by have h2:=(iK hl c.w).2.1;simp only[execOp,ho,hax,Instr.storeAt,Instr.sureAddr,Sem.run_bind,Sem.run_pure,Result.andThen_ok,storeVar,h2,hsz,ne_eq,not_true_eq_false,if_false,hst]
        have hAd:=amJ hs (H0:=H.del id') GX (base:=(c.ρ id').2) (m:=id') (o:=⟨o0.n,o0.ext,o0.rows.set row (iA r col dv.cells)⟩)
         (arr':=(arr.toList.take ((c.ρ id').2+(row*o0.n+col))++(a.eval y).cells.toList++arr.toList.drop ((c.ρ id').2+(row*o0.n+col)+(a.eval y).cells.toList.length)).toArray)
         hb ⟨id',o0,ho0,hext,rfl⟩ (z1 hs ho0 hext) (fun _=>rfl) (by simp[aA.del]) ?_
        ·rw[afF] at hAd;exact⟨_,hrun,hAd.1,hAd.2,fun i=>⟨fun h=>h.elim (fun h=>h▸hNid) id,.inr⟩⟩
        ·refine⟨by simpa using hra.le,fun i r' hr'=> ?_,?_,fun i j r' d' h1 h2=> ?_,fun hm=>by have:=congrArg List.length hm.2.1;simp only[Y5,List.length_nil] at this;omega⟩
         ·rw[D0] at hr';split at hr';·simp only[Option.some.injEq] at hr';rw[←hr'];simp only[iA,t2,CG,CI];omega
          ·exact hra.len i r' hr'
         ·have:=hra.size;simp only[F0,t2,CG,CI,Array.length_toList];omega
         ·simp only[CH];rw[B5 _ _ _ _ (by have:=hra.size;simp only[Array.length_toList] at*;omega),hvl];rw[D0] at h1;split at h1
          ·rename_i hirow;subst hirow;simp only[Option.some.injEq] at h1;subst h1;simp only[iA] at h2;rw[B5 _ _ _ _ hfit] at h2;split at h2;·rename_i hj;rw[if_pos (by omega)];have he3:(c.ρ id').2+(row*o0.n+j)-((c.ρ id').2+(row*o0.n+col))=j-col:=(by omega);rw[he3];have hlt:j-col<(a.eval y).cells.toList.length:=(by omega);exact⟨_,n1 hlt,hcr.2 _ d' _ h2 (n1 hlt)⟩
           ·rename_i hj;rw[if_neg (by omega)];have:=hra.rel row j r d' hr h2;simpa using this
          ·rename_i hirow;have hjn:j<o0.n:=by rw[←hra.len i r' h1];exact(m3.1 h2).1
           rw[if_neg (by
            intro hc
            have hk:(c.ρ id').2+(i*o0.n+j)=(c.ρ id').2+(row*o0.n+(col+((c.ρ id').2+(i*o0.n+j)-((c.ρ id').2+(row*o0.n+col))))):=by omega
            have:=an7 hjn (show col+((c.ρ id').2+(i*o0.n+j)-((c.ρ id').2+(row*o0.n+col)))<o0.n by omega) (Nat.add_left_cancel hk)
            exact hirow this.1.symm)]
           have:=hra.rel i j r' d' h1 h2;simpa using this
       ·simp at hq
      ·simp at hq
     ·simp at hq
    ·simp at hq
   ·simp at hq
  ·simp at hq
 ·simp at hq
def J7 (H:aA) (n:Nat):D→Option (List (List D1))
 | .one (.c (.isl rows))=>if ∀r∈rows,r.length=n then some rows else none
 | .one (.c (.osl m id off len cap))=>if m=0 then (if cap=0∧len=0 then some [] else none) else
   match H id with
   |some o=>if o.n=n∧m=n∧off+len≤o.rows.length then some ((o.rows.drop off).take len) else none
   |none=>none
 |_=>none
def VR (H:aA):Option Nat→aA
 |none=>H
 |some i=>H.del i
def amE:D→Nat
 | .one (.c (.osl _ _ _ _ cap))=>cap
 |_=>0
def IX (H:aA) (e:Env):AOp→Option (Option Nat×Nat×Nat×List (List D1))
 | .append n s x=>match s.ev e,J7 H n (x.ev e) with
   | .one (.c (.osl m id off len cap)),some new=>if m=0 then (if cap=0∧len=0 then some (none,n,new.length,new) else none) else
     match H id with
     |some o=>if o.n=n∧m=n∧off+len≤o.rows.length∧off+cap≤o.ext then some (some id,n,len+new.length,(o.rows.drop off).take len++new) else none
     |none=>none
   |_,_=>none
 |_=>none
structure y8 (c:Cf) (n:Nat) (rows:List (List D1)) (vs:List Value):Prop where
 len:vs.length=rows.length*n
 row: ∀(i:Nat) (r:List D1),rows[i]?=some r→r.length=n
 rel: ∀(i j:Nat) (r:List D1) (d:D1),rows[i]?=some r→r[j]?=some d→∃u,vs[i*n+j]?=some u∧Rel c d u
theorem y8.append{r1 r2:List (List D1)}{v1 v2:List Value} (h1:y8 c n r1 v1) (h2:y8 c n r2 v2):y8 c n (r1++r2) (v1++v2):=by
 refine⟨by rw[t2,t2,h1.len,h2.len,o4],fun i r hr=> ?_,fun i j r d hr hd=> ?_⟩
 ·rw[o5] at hr;split at hr;·exact h1.row i r hr
  ·exact h2.row _ r hr
 ·rw[o5] at hr;split at hr;·obtain⟨u,h3,h4⟩:=h1.rel i j r d hr hd;refine⟨u,?_,h4⟩;rw[o5,if_pos (m3.1 h3).1];exact h3
  ·rename_i hge;obtain⟨u,h3,h4⟩:=h2.rel _ j r d hr hd;refine⟨u,?_,h4⟩;have hmul:r1.length*n≤i*n:=t4 _ (by omega);rw[o5,if_neg (by rw[h1.len];omega),h1.len,←h3];congr 1;rw[Nat.sub_mul];omega
theorem y8.oQ {n:Nat} {rows:List (List D1)} {vs:List Value} (h:y8 c n rows vs) (hn:0<n): ∀v∈vs,v.oneCell'=true:=by
 intro v hv;obtain⟨p,hp⟩:=List.getElem?_of_mem hv;have hlt:p<rows.length*n:=by rw[←h.len];exact(m3.1 hp).1
 have hi:p/n<rows.length:=Nat.div_lt_of_lt_mul (by rw[w1];exact hlt);have hr:rows[p/n]?=some (rows[p/n]'hi):=n1 hi;have hj:p%n<(rows[p/n]'hi).length:=by rw[h.row _ _ hr];exact Nat.mod_lt _ hn
 obtain⟨u,h1,h2⟩:=h.rel _ (p%n) _ _ hr (n1 hj);have hpe:p/n*n+p%n=p:=by rw[w1];exact Nat.div_add_mod p n
 rw[hpe,hp] at h1;cases h1;exact h2.oQ
variable{rows:List (List D1)}
theorem tU{b o:Nat} (hn:0<n) (hrow: ∀(i:Nat) (r:List D1),rows[i]?=some r→r.length=n)
 (hc: ∀(i j:Nat) (r:List D1) (d:D1),rows[i]?=some r→r[j]?=some d→∃u,c.w.cell? ⟨b,o+(i*n+j),none⟩=some u∧Rel c d u):
 ∃vs,y8 c n rows vs∧ ∀j v,vs[j]?=some v→c.w.cell? ⟨b,o+j,none⟩=some v:=by
 have hall: ∀p,∃u:Value,p<rows.length*n→c.w.cell? ⟨b,o+p,none⟩=some u∧ ∀r d,rows[p/n]?=some r→r[p%n]?=some d→Rel c d u:=by
  intro p;by_cases hp:p<rows.length*n;·have hi:p/n<rows.length:=Nat.div_lt_of_lt_mul (by rw[w1];exact hp);have hr:rows[p/n]?=some (rows[p/n]'hi):=n1 hi;have hj:p%n<(rows[p/n]'hi).length:=(by rw[hrow _ _ hr];exact Nat.mod_lt _ hn);obtain⟨u,h1,h2⟩:=hc _ (p%n) _ _ hr (n1 hj);have hpe:p/n*n+p%n=p:=(by rw[w1];exact Nat.div_add_mod p n);rw[hpe] at h1;refine⟨u,fun _=>⟨h1,fun r d h3 h4=> ?_⟩⟩;rw[hr] at h3;cases h3;rw[n1 hj] at h4;cases h4;exact h2
  ·exact⟨undef,fun h=>absurd h hp⟩
 obtain⟨f,hf⟩:=Classical.axiomOfChoice hall
 refine⟨(List.range (rows.length*n)).map f,⟨by simp,hrow,fun i j r d hr hd=> ?_⟩,fun j v hv=> ?_⟩
 ·have hi:i<rows.length:=(m3.1 hr).1;have hj:j<n:=by rw[←hrow i r hr];exact(m3.1 hd).1
  have hp:i*n+j<rows.length*n:=M7 hj hi;refine⟨f (i*n+j),by simp[hp],?_⟩;have hdiv:(i*n+j)/n=i:=by rw[Y3,Nat.add_mul_div_right _ _ hn,Nat.div_eq_of_lt hj];omega
  have hmod:(i*n+j)%n=j:=by rw[Y3,boH];exact C9 hj
  exact(hf _ hp).2 r d (by rw[hdiv];exact hr) (by rw[hmod];exact hd)
 ·simp only[p0,m4] at hv;obtain⟨p,h1,rfl⟩:=hv;have hp:=m3.1 h1;simp at hp;obtain⟨h2,rfl⟩:=hp;exact(hf _ h2).1
theorem abP (hs:St c H) (hn:0<n){d:D}{new:List (List D1)}{x:Value} (hq:J7 H n d=some new) (hr:fD c d x):
 ∃A cx news,x= .slice A new.length cx∧y8 c n new news∧ ∀w':World,w'.heap=c.w.heap→(Builtin.firstCells n new.length x).run P w'= .ok news.toArray w':=by
 have hfirst: ∀(b o cx:Nat) (news:List Value),y8 c n new news→(∀j v,news[j]?=some v→c.w.cell? ⟨b,o+j,none⟩=some v)→∀w':World,w'.heap=c.w.heap→
  (Builtin.firstCells n new.length (.slice (some ⟨b,o,none⟩) new.length cx)).run P w'= .ok news.toArray w':=by
  intro b o cx news hf hcells w' hw
  refine run_firstCells_some w' n new.length ⟨b,o,none⟩ new.length cx news hf.len (fun j v hv=> ?_)
  rw[tO,←hcells j v hv]
  simp[World.cell?,hw]
 unfold J7 at hq
 split at hq
 ·rename_i rows;split at hq
  ·rename_i hall;simp only[Option.some.injEq] at hq;subst hq;simp only[fD,jZ,Rel,bY] at hr
   cases hr with
   |isl _ A cx n' b o f ha hcap hn' hc hrr=>
    by_cases hne:rows=[]
    ·subst hne;refine⟨A,cx,[],rfl,⟨by simp,by simp,by simp⟩,fun w' hw=> ?_⟩
     cases A with
     |none=>simp[run_firstCells_none]
     |some A=>exact run_firstCells_some w' n 0 A _ _ [] (by simp) (by simp)
    ·obtain⟨rfl,hI⟩:=ha hne
     have hnn:n'=n:=by
      match rows,hne with
      |r::_,_=>exact(hn' 0 r rfl).symm.trans (hall r (by simp))
     subst hnn
     obtain⟨news,hf,hcells⟩:=tU (c:=c) (b:=b) (o:=o) hn (fun i r hr=>hall r (s3 hr)) (fun i j r d h1 h2=>⟨f i j,hc i j r d h1 h2,by
      have:=hrr i j r d h1 h2
      cases d<;>first|exact this| (cases this;done)⟩)
     exact⟨_,cx,news,rfl,hf,hfirst b o cx news hf hcells⟩
  ·simp at hq
 ·rename_i m id off len cap;simp only[fD,jZ,Rel,bY] at hr;obtain⟨hlc,hr⟩:=hr;split at hq
  ·split at hq
   ·rename_i hc0;simp only[Option.some.injEq] at hq;subst hq;obtain⟨rfl,rfl⟩:=hc0;rcases hr with⟨_,A,rfl⟩|⟨h0,_⟩
    ·refine⟨A,0,[],rfl,⟨by simp,by simp,by simp⟩,fun w' hw=> ?_⟩
     cases A with
     |none=>simp[run_firstCells_none]
     |some A=>exact run_firstCells_some w' n 0 A _ _ [] (by simp) (by simp)
    ·omega
   ·simp at hq
  ·split at hq
   ·rename_i o0 ho0;split at hq
    ·rename_i hcond;obtain⟨e1,rfl,hfit⟩:=hcond;simp only[Option.some.injEq] at hq;subst hq;have hlen:((o0.rows.drop off).take len).length=len:=(by simp;omega);rcases hr with⟨hc0,A,rfl⟩|⟨hcp,hN,rfl⟩
     ·have:len=0:=(by omega);subst this;refine⟨A,0,[],by simp,⟨by simp,by simp,by simp⟩,fun w' hw=> ?_⟩;simp only[List.take_zero,List.length_nil]
      cases A with
      |none=>simp[run_firstCells_none]
      |some A=>exact run_firstCells_some w' m 0 A _ _ [] (by simp) (by simp)
     ·have hsub: ∀(i:Nat) (r:List D1),((o0.rows.drop off).take len)[i]?=some r→o0.rows[off+i]?=some r:=by
       intro i r hr
       rw[s4] at hr
       split at hr
       ·rw[s5] at hr;exact hr
       ·simp at hr
      obtain⟨news,hf,hcells⟩:=tU (c:=c) (b:=(c.ρ id).1) (o:=(c.ρ id).2+off*m) (rows:=(o0.rows.drop off).take len) hn
       (fun i r hr=>e1▸(hs.wf id o0 ho0).2 _ r (hsub i r hr))
       (fun i j r d h1 h2=>by
        obtain⟨u,h3,h4⟩:=hs.cells id o0 (off+i) j r d ho0 (hsub i r h1) h2
        refine⟨u,?_,h4⟩
        rw[←h3,e1];congr 2;rw[o4];omega)
      exact⟨_,cap,news,by rw[hlen],hf,by have:=hfirst _ _ cap news hf hcells;rw[hlen] at this ⊢;exact this⟩
    ·simp at hq
   ·simp at hq
 ·simp at hq
theorem DK (w:World) (t ty el:TypeId) (i:TypeInfo) (ht:P.underlying t=some (.slice el)) (hi:P.info? el=some i) (A:Option Addr) (sLen sCap m cx:Nat) (B:Option Addr) (news:List Value)
 (hx:(Builtin.firstCells i.size m (.slice B m cx)).run P w= .ok news.toArray w) (hroom:sLen+m≤sCap):
 (Builtin.append_ #[t,t] ty #[.slice A sLen sCap,.slice B m cx]).run P w=
  match A with
  |none=>.ok (.slice none (sLen+m) sCap) w
  |some b=>((storeCells (b.add (sLen*i.size)) news).run P w).andThen fun _ w'=>.ok (.slice (some b) (sLen+m) sCap) w':=by
 cases A with
 |none=>simp[Builtin.append_,run_underlying ht,sizeOf,typeInfo,hi,Builtin.lenOf,hroom,hx]
 |some b=>simp[Builtin.append_,run_underlying ht,sizeOf,typeInfo,hi,Builtin.lenOf,hroom,hx]
theorem S9 (w:World) (t ty el:TypeId) (i:TypeInfo) (z:Value) (ht:P.underlying t=some (.slice el)) (hi:P.info? el=some i) (hz:i.zero=some z) (A:Option Addr) (sLen sCap m cx:Nat) (B:Option Addr)
 (olds news:List Value) (hs:(Builtin.firstCells i.size sLen (.slice A sLen sCap)).run P w.drew= .ok olds.toArray w.drew) (hx:(Builtin.firstCells i.size m (.slice B m cx)).run P w.drew= .ok news.toArray w.drew)
 (hg:sCap<sLen+m) (h63:((sLen+m:Nat):Int)≤9223372036854775807) (hfit:Builtin.nextslicecap (sLen+m) sCap*i.bytes≤281474976710656):
 (Builtin.append_ #[t,t] ty #[.slice A sLen sCap,.slice B m cx]).run P w=
  .ok (.slice (some ⟨w.heap.size,0,none⟩) (sLen+m) (grownCap w (sLen+m) sCap el))
   (w.drew.alloc (.cells (olds.toArray++news.toArray++Builtin.zeroCells z.cells (grownCap w (sLen+m) sCap el-(sLen+m))) el)):=by
 have hn: ¬(sLen+m≤sCap):=by omega
 have h63': ¬(9223372036854775807<((sLen:Int)+(m:Int))):=by omega
 have h48': ¬(281474976710656<Builtin.nextslicecap (sLen+m) sCap*i.bytes):=by omega
 simp[Builtin.append_,run_underlying ht,sizeOf,typeInfo,zeroValue,hi,hz,Builtin.lenOf,hn,h63',h48',Question.forced,hs,hx,newRow,grownCap]
 congr 2
 apply x2
 simp[C0]
theorem NX (hs:St c H){id:Nat} (hN: ¬c.N id):St (c.named id 0 0 c.w) (H.set id ⟨n,0,[]⟩)∧Step c H (c.named id 0 0 c.w) (H.set id ⟨n,0,[]⟩):=by
 have hρ: ∀i,c.N i→(c.named id 0 0 c.w).ρ i=c.ρ i:=by intro i hi;simp only[Cf.named];rw[if_neg (by rintro rfl;exact hN hi)]
 have hstep:Step c H (c.named id 0 0 c.w) (H.set id ⟨n,0,[]⟩):={
  Step.refl c H with
  ρ:=hρ
  N:=fun _ h=>.inr h
  own:=by
   rintro b ⟨i,o',h1,h2,h3⟩;rcases bG h1 with⟨rfl,rfl⟩|⟨hne,h1⟩
   ·simp at h2
   ·left;exact⟨i,o',h1,h2,by rw[hρ i (hs.named i o' h1)] at h3;exact h3⟩}
 refine⟨?_,hstep⟩;refine {named:= ?_,wf:= ?_,blk:= ?_,cells:= ?_,sep:= ?_,imm:= ?_,old:=hs.old}
 ·intro i o' h;rcases bG h with⟨rfl,rfl⟩|⟨hne,h⟩
  ·exact .inl rfl
  ·exact .inr (hs.named i o' h)
 ·intro i o' h;rcases bG h with⟨rfl,rfl⟩|⟨hne,h⟩
  ·exact⟨by simp,by simp⟩
  ·exact hs.wf i o' h
 ·intro i o' h he;rcases bG h with⟨rfl,rfl⟩|⟨hne,h⟩
  ·simp at he
  ·rw[hρ i (hs.named i o' h)];exact hs.blk i o' h he
 ·intro i o' k j r d h h1 h2;rcases bG h with⟨rfl,rfl⟩|⟨hne,h⟩
  ·simp at h1
  ·obtain⟨u,h3,h4⟩:=hs.cells i o' k j r d h h1 h2;refine⟨u,?_,h4.step hstep hs⟩;rw[hρ i (hs.named i o' h)];exact h3
 ·intro i i' o1 o2 h1 h2 e1 e2 hne;rcases bG h1 with⟨rfl,rfl⟩|⟨hn1,k1⟩
  ·simp at e1
  ·rcases bG h2 with⟨rfl,rfl⟩|⟨hn2,k2⟩
   ·simp at e2
   ·rw[hρ i (hs.named i o1 k1),hρ i' (hs.named i' o2 k2)];exact hs.sep i i' o1 o2 k1 k2 e1 e2 hne
 ·intro i o' h he;rcases bG h with⟨rfl,rfl⟩|⟨hne,h⟩
  ·simp at he
  ·rw[hρ i (hs.named i o' h)];exact hs.imm i o' h he
def YF (P:Program) (c:Cf) (a:Act) (o:Oper) (H:aA) (id:Nat) (H0:aA) (n k:Nat) (rows:List (List D1)) (kc:Nat):Prop:=
 ∃cap v c',(k≤cap∧kc≤cap)∧(execOp a.eval o).run P c.w= .ok (.value v) c'.w∧St c' (H0.set id ⟨n,cap,rows⟩)∧Step c H c' (H0.set id ⟨n,cap,rows⟩)∧
  fD c' (.one (.c (.osl n id 0 k cap))) v∧(∀i,c'.N i↔i=id∨c.N i)
theorem NY{cap:Nat}{vs:List Value}{arr:Array Value} (hf:y8 c n rows vs) (hle:rows.length≤cap) (hsz:cap*n≤arr.size)
 (harr: ∀(j:Nat) (v:Value),vs[j]?=some v→arr[j]?=some v) (hn0:0<n):oZ c arr 0 ⟨n,cap,rows⟩:=by
 refine⟨hle,hf.row,by simpa using hsz,fun i j r d h1 h2=> ?_,fun hm=>by have:=hm.1;dsimp only at this;omega⟩
 obtain⟨u,h3,h4⟩:=hf.rel i j r d h1 h2
 exact⟨u,by simpa using harr _ u h3,h4⟩
theorem alG (hs:St c H) (he:ER c T e a){o:Oper}{t el:TypeId}{s x:Operand}{s' x':aT}{id k:Nat}{dl:Option Nat} (hN: ¬c.N id)
 (ho:o.op= .call {callee:=.builtin .append,args:=#[s,x],argTypes:=#[t,t]}) (hse:d9 P t=some (el,n)) (hn:0<n) (hz: ∃z,zeroOf P el=some z) (hb:P.bytesOf el≤65536)
 (hxs:trO s=some s') (hxx:trO x=some x') (hk:k≤2147483647) (hq:IX H e (.append n s' x')=some (dl,n,k,rows)):YF P c a o H id (VR H dl) n k rows (amE (s'.ev e)):=by
 obtain⟨hu,hsz,_⟩:=lI hse c.w
 obtain⟨z,hz⟩:=hz
 obtain⟨zv,hz1,hz2,hz3,hz4,_⟩:=mF (c:=c) hz c.w
 obtain⟨i,hi⟩: ∃i,P.info? el=some i:=by
  unfold zeroOf at hz;split at hz;·rename_i i hi;exact⟨i,hi⟩
  ·simp at hz
 have hzi:i.zero=some zv:=by
  simp[zeroValue,typeInfo,hi] at hz1
  cases hzz:i.zero with
  |none=>simp[hzz] at hz1
  |some z'=>simp[hzz] at hz1;rw[hz1]
 have hisz:i.size=n:=by simpa [sizeOf,typeInfo,hi] using hsz
 have hzvs:zv.cells.size=n:=by rw[hz4 i hi,hisz]
 have hby:i.bytes≤65536:=by simpa [Program.bytesOf,hi] using hb
 simp only[IX] at hq
 split at hq
 ·rename_i m sid off len cap new hvs hsrc;obtain⟨B,cx,news,hxv,hfn,hfx⟩:=abP (P:=P) hs hn hsrc (lP he hxx);have hsv:=qD he hxs hvs;have hcapN:amE (s'.ev e)=cap:=by rw[hvs];rfl
  rw[hcapN];simp only[Rel,bY] at hsv;obtain⟨hlc,hsv⟩:=hsv;have hone:=hfn.oQ hn
  have grow: ∀(A:Option Addr) (sLen sCap:Nat) (oldRows:List (List D1)) (olds:List Value) (Hx:aA),(∀i o,Hx i=some o→H i=some o)→a.eval s= .slice A sLen sCap→y8 c n oldRows olds→oldRows.length=sLen→
   (∀w':World,w'.heap=c.w.heap→(Builtin.firstCells n sLen (.slice A sLen sCap)).run P w'= .ok olds.toArray w')→sCap<sLen+new.length→sLen+new.length≤2147483647→
   YF P c a o H id Hx n (sLen+new.length) (oldRows++new) sCap:=by
   intro A sLen sCap oldRows olds Hx hsub hA hfo hol hfs hg hle
   have hfit:Builtin.nextslicecap (sLen+new.length) sCap*i.bytes≤281474976710656:=growslice_fits hg (by
    have:(sLen+new.length)*i.bytes≤2147483647*65536:=Nat.mul_le_mul hle hby
    omega)
   have hrun:=S9 (P:=P) c.w t o.type el i zv hu hi hzi A sLen sCap new.length cx B olds news (by rw[hisz];exact hfs c.w.drew rfl)
    (by rw[hisz,←hxv];exact hfx c.w.drew rfl) hg (by omega) hfit
   have hfa:=hfo.append hfn
   have hge:=grownCap_ge c.w (sLen+new.length) sCap el
   have hra:oZ (c.drew (c.w.drawn+1)) (olds.toArray++news.toArray++Builtin.zeroCells zv.cells (grownCap c.w (sLen+new.length) sCap el-(sLen+new.length))) 0
    ⟨n,grownCap c.w (sLen+new.length) sCap el,oldRows++new⟩:=by
    refine oZ.drew (NY hfa (by simp;omega) ?_ (fun j v hv=> ?_) hn) _
    ·simp only[Array.size_append,F0,size_zeroCells,hzvs,hfo.len,hfn.len,hol];rw[Nat.sub_mul,←o4];have:=t4 n hge;omega
    ·have hlt:=(m3.1 hv).1;rw[Y6,if_pos (by simpa using hlt)];simpa using hv
   have hs1:=(hs.drew (c.w.drawn+1)).forget hsub
   obtain⟨h1,h2⟩:=GY (m:=id) hs1 el hN hra
   refine⟨_,.slice (some ⟨c.w.heap.size,0,none⟩) (sLen+new.length) (grownCap c.w (sLen+new.length) sCap el),_,⟨hge,by omega⟩,?_,h1,((Step.drew c H _).trans (Step.forget _ hsub)).trans h2,?_,fun i=>brL⟩
   ·simp only[execOp,ho,resolve,invoke,builtin,Sem.run_bind,Sem.run_pure,Result.andThen_ok,C1,n3,q0,hA,hxv,hrun];rfl
   ·simp only[fD,jZ,Rel,bY,Cf.named,if_true];refine⟨hge,.inr ⟨by omega,.inl trivial,?_⟩⟩;simp[Cf.drew]
  have nilF: ∀(A:Option Addr) (l k:Nat) (w':World),(Builtin.firstCells n 0 (.slice A l k)).run P w'= .ok ([]:List Value).toArray w':=by
   intro A l k w'
   cases A with
   |none=>simp[run_firstCells_none]
   |some A=>exact run_firstCells_some w' n 0 A _ _ [] (by simp) (by simp)
  have none_: ∀(A:Option Addr) (Hx:aA),(∀i o,Hx i=some o→H i=some o)→a.eval s= .slice A 0 0→new.length=0→YF P c a o H id Hx n 0 [] 0:=by
   intro A Hx hsub hA hne;have hnew:new=[]:=CE hne;subst hnew;have hnews:news=[]:=CE (by rw[hfn.len];simp);subst hnews;have hrun:=DK (P:=P) c.w t o.type el i hu hi A 0 0 0 cx B [] (by have:=hfx c.w rfl;rw[hxv] at this;simpa [hisz] using this) (by omega);have hval:(Builtin.append_ #[t,t] o.type #[.slice A 0 0,.slice B 0 cx]).run P c.w= .ok (.slice A 0 0) c.w:=by rw[hrun];cases A<;>simp[storeCells]
   obtain⟨h1,h2⟩:=NX (hs.forget hsub) (n:=n) hN;refine⟨0,.slice A 0 0,c.named id 0 0 c.w,⟨m5 _,m5 _⟩,?_,h1,(Step.forget _ hsub).trans h2,?_,fun i=>brL⟩;·simp only[List.length_nil] at hxv;simp only[execOp,ho,resolve,invoke,builtin,Sem.run_bind,Sem.run_pure,Result.andThen_ok,C1,n3,q0,hA,hxv,hval];rfl
   ·simp only[fD,jZ,Rel,bY];exact⟨m5 _,.inl ⟨trivial,A,rfl⟩⟩
  split at hq
  ·split at hq
   ·rename_i hm0 hc0;obtain⟨rfl,rfl⟩:=hc0;simp only[Option.some.injEq,Prod.mk.injEq,true_and] at hq;obtain⟨rfl,rfl,rfl⟩:=hq;rcases hsv with⟨_,A,hA⟩|⟨h0,_⟩
    ·by_cases hne:new.length=0;·have:=none_ A H (fun _ _ h=>h) hA hne;have hnew:new=[]:=CE hne;subst hnew;exact this
     ·have:=grow A 0 0 [] [] H (fun _ _ h=>h) hA ⟨by simp,by simp,by simp⟩ rfl (fun w' _=>nilF A 0 0 w') (by omega) (by omega);simpa [VR] using this
    ·omega
   ·simp at hq
  ·rename_i hm0;split at hq
   ·rename_i o0 ho0;split at hq
    ·rename_i hcond;obtain⟨e1,rfl,hfit,hcap⟩:=hcond;simp only[Option.some.injEq,Prod.mk.injEq,true_and] at hq;obtain⟨rfl,rfl,rfl⟩:=hq;have hol:((o0.rows.drop off).take len).length=len:=by simp;omega
     have hsub: ∀(i:Nat) (r:List D1),((o0.rows.drop off).take len)[i]?=some r→o0.rows[off+i]?=some r:=by
      intro i r hr;rw[s4] at hr;split at hr;·rw[s5] at hr;exact hr
      ·simp at hr
     rcases CR cap with hc0|hcp
     ·subst hc0;have hl0:len=0:=(by omega);subst hl0;rcases hsv with⟨_,A,hA⟩|⟨h0,_⟩
      ·by_cases hne:new.length=0;·have:=none_ A (H.del sid) GX hA hne;have hnew:new=[]:=CE hne;subst hnew;simpa [VR] using this
       ·have:=grow A 0 0 [] [] (H.del sid) GX hA ⟨by simp,by simp,by simp⟩ rfl (fun w' _=>nilF A 0 0 w') (by omega) (by omega);simpa [VR] using this
      ·omega
     ·rcases hsv with⟨h0,_⟩|⟨_,hNs,hA⟩
      ·omega
      ·have hext:0<o0.ext:=(by omega);obtain⟨arr,TT,hb,hra⟩:=hs.abR ho0 hext (fun hm=>by have:=hm.1;omega)
       obtain⟨olds,hfo,hco⟩:=tU (c:=c) (b:=(c.ρ sid).1) (o:=(c.ρ sid).2+off*m) (rows:=(o0.rows.drop off).take len) hn
        (fun i r hr=>e1▸hra.len _ r (hsub i r hr))
        (fun i j r d h1 h2=>by
         obtain⟨u,h3,h4⟩:=hs.cells sid o0 (off+i) j r d ho0 (hsub i r h1) h2
         refine⟨u,?_,h4⟩
         rw[←h3,e1];congr 2;rw[o4];omega)
       by_cases hroom:len+new.length≤cap
       ·have hcapn:(off+cap)*m≤o0.ext*m:=t4 _ hcap;have hlenn:(len+new.length)*m≤cap*m:=t4 _ hroom;have hsize:=hra.size;rw[e1] at hsize;rw[o4] at hcapn hlenn;have hnl:news.length=new.length*m:=hfn.len;have hst:=run_storeCells_at P (c.ρ sid).1 ((c.ρ sid).2+off*m+len*m) TT news 0 arr c.w hb (by omega) hone;simp only[Nat.add_zero] at hst
        have hrun:=DK (P:=P) c.w t o.type el i hu hi (some ⟨(c.ρ sid).1,(c.ρ sid).2+off*m,none⟩) len cap new.length cx B news
         (by have:=hfx c.w rfl;rw[hxv] at this;rw[hisz];exact this) hroom
        rw[hisz] at hrun;simp only[tO,hst,Result.andThen_ok] at hrun
        have hAd:=amJ hs (H0:=H.del sid) GX (base:=(c.ρ sid).2+off*m) (m:=id) (o:=⟨m,cap,(o0.rows.drop off).take len++new⟩)
         (arr':=(arr.toList.take ((c.ρ sid).2+off*m+len*m)++news++arr.toList.drop ((c.ρ sid).2+off*m+len*m+news.length)).toArray)
         hb ⟨sid,o0,ho0,hext,rfl⟩ (z1 hs ho0 hext) (fun h=>absurd h hN) ?_ ?_
        ·refine⟨cap,.slice (some ⟨(c.ρ sid).1,(c.ρ sid).2+off*m,none⟩) (len+new.length) cap,_,⟨hroom,m5 _⟩,?_,hAd.1,hAd.2,?_,fun i=>brL⟩;·simp only[execOp,ho,resolve,invoke,builtin,Sem.run_bind,Sem.run_pure,Result.andThen_ok,C1,n3,q0,hA,hxv,hrun];rfl
         ·simp only[fD,jZ,Rel,bY,Cf.named,if_true];exact⟨hroom,.inr ⟨hcp,.inl trivial,by simp⟩⟩
        ·unfold aA.del;split;·rfl
         ·rename_i hne
          cases hh:H id with
          |none=>rfl
          |some ox=>exact absurd (hs.named id ox hh) hN
        ·refine⟨by simp only[t2,hol];exact hroom,fun i r hr=> ?_,?_,fun i j r d h1 h2=> ?_,fun hm=>by have:=hm.1;dsimp only at this;omega⟩;·exact(hfo.append hfn).row i r hr
         ·simp only[F0,t2,CG,CI,Array.length_toList];omega
         ·simp only[CH];rw[B5 _ _ _ _ (by simp only[Array.length_toList];omega)];have hjm:j<m:=(by rw[←(hfo.append hfn).row i r h1];exact(m3.1 h2).1);rw[o5,hol] at h1;split at h1;·rename_i hi;have hp:=M7 hjm hi;rw[if_neg (by omega)];obtain⟨u,h3,h4⟩:=hra.rel (off+i) j r d (hsub i r h1) h2;refine⟨u,?_,h4⟩;rw[e1,o4] at h3;rw[←h3];simp only[Y7];congr 1;omega
          ·rename_i hi;obtain⟨u,h3,h4⟩:=hfn.rel (i-len) j r d h1 h2;have hlt:=(m3.1 h3).1;have hmul:i*m=len*m+(i-len)*m:=(by rw[←o4];congr 1;omega);rw[if_pos (by omega)];refine⟨u,?_,h4⟩;rw[←h3];congr 1;omega
       ·exact grow _ len cap _ olds (H.del sid) GX hA hfo hol (fun w' hw=>by
         refine run_firstCells_some w' m len _ len cap olds (by rw[hfo.len,hol]) (fun j v hv=> ?_)
         rw[tO,←hco j v hv]
         simp[World.cell?,hw]) (by omega) hk
    ·simp at hq
   ·simp at hq
 ·simp at hq
end
def wr (rows:List (List D1)) (p:Nat) (new:List (List D1)):List (List D1):=rows.take p++new++rows.drop (p+new.length)
theorem akO (rows:List (List D1)) (p:Nat) (new:List (List D1)) (hp:p≤rows.length) (i:Nat):
 (wr rows p new)[i]?=if i<p then rows[i]? else if i<p+new.length then new[i-p]? else rows[i]?:=by
 unfold wr
 have h1:(rows.take p).length=p:=by simp;omega
 rw[C0,o5,h1]
 split
 ·rename_i h;rw[s4,if_pos h]
 ·rename_i h;rw[o5];split;·rename_i h2;rw[if_pos (by omega)]
  ·rename_i h2;rw[if_neg (by omega),s5];congr 1;omega
theorem ajB (rows:List (List D1)) (p:Nat) (new:List (List D1)) (hp:p≤rows.length):(wr rows p new).length=max rows.length (p+new.length):=by simp[wr];omega
section
variable {P : Program} {c : Cf} {H : aA}
theorem SS (hs:St c H) {sid:Nat} {o0:bA} (ho0:H sid=some o0) (hext:0<o0.ext) {p:Nat} (hp:p≤o0.rows.length) {new:List (List D1)} {news:List Value} (hn:0<o0.n) (hfn:y8 c o0.n new news)
 (hfit:p+new.length≤o0.ext): ∃c',(storeCells ⟨(c.ρ sid).1,(c.ρ sid).2+p*o0.n,none⟩ news).run P c.w= .ok () c'.w∧St c' (H.set sid ⟨o0.n,o0.ext,wr o0.rows p new⟩)∧
  Step c H c' (H.set sid ⟨o0.n,o0.ext,wr o0.rows p new⟩)∧ ∀i,c'.N i↔c.N i:=by
 obtain⟨arr,TT,hb,hra⟩:=hs.abR ho0 hext (fun hm=>by have:=hm.1;omega)
 have hNs:=hs.named sid o0 ho0
 have hone:=hfn.oQ hn
 have hnl:news.length=new.length*o0.n:=hfn.len
 have hfitn:(p+new.length)*o0.n≤o0.ext*o0.n:=t4 _ hfit
 rw[o4] at hfitn
 have hsize:=hra.size
 have hst:=run_storeCells_at P (c.ρ sid).1 ((c.ρ sid).2+p*o0.n) TT news 0 arr c.w hb (by omega) hone
 simp only[Nat.add_zero] at hst
 have hAd:=amJ hs (H0:=H.del sid) GX (base:=(c.ρ sid).2) (m:=sid) (o:=⟨o0.n,o0.ext,wr o0.rows p new⟩)
  (arr':=(arr.toList.take ((c.ρ sid).2+p*o0.n)++news++arr.toList.drop ((c.ρ sid).2+p*o0.n+news.length)).toArray)
  hb ⟨sid,o0,ho0,hext,rfl⟩ (z1 hs ho0 hext) (fun _=>rfl) (by simp[aA.del]) ?_
 ·rw[afF] at hAd;exact⟨_,hst,hAd.1,hAd.2,fun i=>⟨fun h=>h.elim (fun h=>h▸hNs) id,.inr⟩⟩
 ·have hrowlen: ∀(i:Nat) (r:List D1),(wr o0.rows p new)[i]?=some r→r.length=o0.n:=by
   intro i r hr
   rw[akO _ _ _ hp] at hr
   split at hr
   ·exact hra.len i r hr
   ·split at hr;·exact hfn.row _ r hr
    ·exact hra.len i r hr
  refine⟨by show (wr o0.rows p new).length≤o0.ext;rw[ajB _ _ _ hp];have:=hra.le;omega,hrowlen,?_,fun i j r d h1 h2=> ?_,fun hm=>by have:=hm.1;dsimp only at this;omega⟩
  ·simp only[F0,t2,CG,CI,Array.length_toList];omega
  ·simp only[CH];rw[B5 _ _ _ _ (by simp only[Array.length_toList];omega)];have hjm:j<o0.n:=(by rw[←hrowlen i r h1];exact(m3.1 h2).1);rw[akO _ _ _ hp] at h1;split at h1;·rename_i hi;have:=M7 hjm hi;rw[if_neg (by omega)];simpa using hra.rel i j r d h1 h2
   ·rename_i hi;have e1:i=p+(i-p):=(by omega);have e2:i*o0.n=p*o0.n+(i-p)*o0.n:=(by rw[←o4];congr 1);split at h1;·rename_i hi2;obtain⟨u,h3,h4⟩:=hfn.rel (i-p) j r d h1 h2;have hlt:=(m3.1 h3).1;rw[if_pos (by omega)];refine⟨u,?_,h4⟩;rw[←h3];congr 1;omega
    ·rename_i hi2;have h5:(p+new.length)*o0.n≤i*o0.n:=t4 _ (by omega);rw[o4] at h5;rw[if_neg (by omega)];simpa using hra.rel i j r d h1 h2
end
section
variable {P : Program} {c : Cf} {H : aA} {T : Nat} {e : Env} {a : Act}
inductive Kind where
 |q (reads:Bool)
 |a
 |l
def XK.kind:XK→Kind
 | .bad| .zI _| .aeq .. =>.q false
 | .qJ _| .copy _| .clear .. | .aaN _| .DS .. | .sS| .rA .. | .vM .. =>.l
def AOp.kind:AOp→Kind
 | .load .. =>.q true
 | .alloc _| .box .. | .bC .. | .kY .. =>.a
 | .store .. | .append .. | .call .. | .t5 .. =>.l
 | .xop k _=>k.kind
 |_=>.q false
theorem oL {α:Type} {l:Array α} {x:α} (h:l.toList=[x]):l= #[x]:=by apply x2;simpa using h
theorem uV {α:Type} {l:Array α} {x y:α} (h:l.toList=[x,y]):l= #[x,y]:=by apply x2;simpa using h
theorem pE {b:Builtin} {args:Array Operand} {ts:Array TypeId} {ao:AOp} (h:M1 P b args.toList ts.toList=some ao):
 (∃x t y,b= .len∧args= #[x]∧ts= #[t]∧trO x=some y∧((P.underlying t=some .string∧ao= .len true y)∨(∃el,P.underlying t=some (.slice el))∧ao= .len false y))∨
 (∃x t y el,b= .cap∧args= #[x]∧ts= #[t]∧trO x=some y∧P.underlying t=some (.slice el)∧ao= .cap y)∨
 (∃x y x' y' mn,b=(if mn then .min else .max)∧args= #[x,y]∧trO x=some x'∧trO y=some y'∧ao= .mmx mn x' y')∨
 (∃s x t s' x' el n,b= .append∧args= #[s,x]∧ts= #[t,t]∧trO s=some s'∧trO x=some x'∧d9 P t=some (el,n)∧0<n∧(∃z,zeroOf P el=some z)∧P.bytesOf el≤65536∧ao= .append n s' x'):=by
 generalize hl1:args.toList=l1 at h
 generalize hl2:ts.toList=l2 at h
 unfold M1 at h
 split at h
 ·rename_i x t;split at h;·rename_i y hy hu;simp only[Option.some.injEq] at h;exact .inl ⟨x,t,y,rfl,oL hl1,oL hl2,hy,.inl ⟨hu,h.symm⟩⟩
  ·rename_i y el hy hu;simp only[Option.some.injEq] at h;exact .inl ⟨x,t,y,rfl,oL hl1,oL hl2,hy,.inr ⟨⟨_,hu⟩,h.symm⟩⟩
  ·simp at h
 ·rename_i x t;split at h;·rename_i y el hy hu;simp only[Option.some.injEq] at h;exact .inr (.inl ⟨x,t,y,_,rfl,oL hl1,oL hl2,hy,hu,h.symm⟩)
  ·simp at h
 ·rename_i x y;split at h;·rename_i x' y' hx hy;simp only[Option.some.injEq] at h;exact .inr (.inr (.inl ⟨x,y,x',y',true,rfl,uV hl1,hx,hy,h.symm⟩))
  ·simp at h
 ·rename_i x y;split at h;·rename_i x' y' hx hy;simp only[Option.some.injEq] at h;exact .inr (.inr (.inl ⟨x,y,x',y',false,rfl,uV hl1,hx,hy,h.symm⟩))
  ·simp at h
 ·rename_i s x t u;split at h
  ·rename_i s' x' el n hs hx hse;split at h;·rename_i hc;obtain⟨rfl,hn,hz,hb⟩:=hc;simp only[Option.some.injEq] at h;exact .inr (.inr (.inr ⟨s,x,t,s',x',el,n,rfl,uV hl1,uV hl2,hs,hx,hse,hn,Z7.1 hz,hb,h.symm⟩))
   ·simp at h
  ·simp at h
 ·simp at h
theorem ai4 (hs:St c H) (he:ER c T e a) {o:Oper} {ao:AOp} {d:D} (ht:F3 P o.op=some ao) (hq:aU H e ao=some d):kF P c a o d:=by
 generalize ho:o.op=op at ht;unfold F3 at ht;split at ht;·simp only[m4] at ht;obtain⟨y,hy,rfl⟩:=ht;exact ajL he (.inl ho) hy hq
 ·simp only[m4] at ht;obtain⟨y,hy,rfl⟩:=ht;exact ajL he (.inr ho) hy hq
 ·split at ht;·rename_i h1 h2 h3;simp only[Option.some.injEq] at ht;subst ht;exact aq3 he ho h1 h2 h3 hq
  ·simp at ht
 ·simp only[m4] at ht;obtain⟨y,hy,rfl⟩:=ht;exact aj0 he ho hy hq
 ·split at ht;·rename_i n g y hl hy;simp only[Option.some.injEq] at ht;subst ht;exact arH hs he ho hl hy hq
  ·simp at ht
 ·split at ht;·simp only[Option.some.injEq] at ht;subst ht;simp[aU] at hq
  ·simp at ht
 ·split at ht
  ·rename_i fs y hu hy;split at ht
   ·rename_i fd hf;split at ht
    ·rename_i n g hl;split at ht;·simp at ht
     ·rename_i hn;simp only[Option.some.injEq] at ht;subst ht;exact ar2 he ho hu hf hl hn hy hq
    ·simp at ht
   ·simp at ht
  ·simp at ht
 ·split at ht
  ·rename_i el y z hu hy hz;split at ht;·rename_i n g hl;simp only[Option.some.injEq] at ht;subst ht;exact asH he ho hu hl hy hz hq
   ·simp at ht
  ·rename_i len el y z hu hy hz;split at ht;·rename_i n g hl;simp only[Option.some.injEq] at ht;subst ht;exact ar0 he ho hu hl hy hz hq
   ·simp at ht
  ·simp at ht
 ·split at ht;·rename_i y z hu hy hz;simp only[Option.some.injEq] at ht;subst ht;exact apU he ho hy hz hq
  ·rename_i y z hu hy hz;simp only[Option.some.injEq] at ht;subst ht;exact apU he ho hy hz hq
  ·rename_i y z hu hy hz;split at ht;·simp only[Option.some.injEq] at ht;subst ht;exact apV (neg:=false) he ho hu hy hz hq
   ·simp only[Option.some.injEq] at ht;subst ht;exact apV (neg:=true) he ho hu hy hz hq
   ·simp at ht
  ·simp at ht
 ·simp only[m4] at ht;obtain⟨y,hy,rfl⟩:=ht;exact as4 he ho hy hq
 ·split at ht;·rename_i k0 k y h1 h2 h3;simp only[Option.some.injEq] at ht;subst ht;exact aqO he ho h1 h2 h3 hq
  ·simp at ht
 ·simp only[m4] at ht;obtain⟨y,hy,rfl⟩:=ht;exact asE he ho hy hq
 ·rename_i t x k1 k2;split at ht
  ·rename_i el y hu hy;split at ht
   ·rename_i p hl;obtain⟨n,g⟩:=p;simp only[Option.some.injEq] at ht;subst ht;have hsz:=(iK hl c.w).2.1
    have key: ∀A len cap,a.eval x= .slice A len cap→kF P c a o (.one (.c .nil)):=by
     intro A len cap hA;refine⟨.slice A 0 0,?_,?_⟩
     ·have hrun:=L5 (P:=P) (c:=c) (l:=0) (h:=0) (m:=0) (x:=a.eval x) (lo:=none) (hi:=some (.int k1 0)) (mx:=some (.int k2 0)) hu hsz hA
       (.inr ⟨_,rfl,by simp[Instr.sliceBound,asIntOf]⟩) (.inr ⟨_,rfl,fun code=>by simp[Instr.sliceBound,asIntOf]⟩) (.inl ⟨rfl,rfl⟩)
      have hk: ∀v,a.eval (.const v)=v:=fun _=>rfl
      simp only[execOp,ho,Option.map_none,Option.map_some,hk,Sem.run_bind,hrun,Result.andThen_ok,Sem.run_pure]
      simp
     ·simp only[fD,jZ,Rel,bY,D1.nil];exact⟨m5 _,.inl ⟨trivial,A,rfl⟩⟩
    simp only[aU] at hq;split at hq;·rename_i rows hv;simp only[Option.some.injEq] at hq;subst hq;obtain⟨A,cap,hA,_⟩:=YG (qD he hy hv);exact key A _ _ hA
    ·rename_i m id off len cap hv;simp only[Option.some.injEq] at hq;subst hq;have hr:=qD he hy hv;simp only[Rel,bY] at hr;obtain⟨_,⟨_,A,hA⟩|⟨_,_,hA⟩⟩:=hr;·exact key _ _ _ hA
     ·exact key _ _ _ hA
    ·simp at hq
   ·simp at ht
  ·simp at ht
 ·split at ht
  ·rename_i el y lo' hi' mx' hu hy hlo hhi hmx;split at ht
   ·rename_i n g hl;split at ht;·simp at ht
    ·rename_i hcond;simp only[Option.some.injEq] at ht;subst ht;refine as3 he ho hu hl hy hlo hhi hmx (fun h1 h2=> ?_) hq;apply hcond;subst h2
     cases mx' with
     |none=>exact absurd rfl h1
     |some _=>rfl
   ·simp at ht
  ·rename_i y lo' hi' hu hy hlo hhi hmx;simp only[Option.some.injEq] at ht;subst ht;have:=(LG hmx).2 rfl;subst this;exact asZ he ho hu hy hlo hhi hq
  ·simp at ht
 ·split at ht
  ·rename_i fs y hu hy;split at ht
   ·rename_i fd hf;split at ht;·rename_i n g hl;simp only[Option.some.injEq] at ht;subst ht;exact apE he ho hu hf hl hy hq
    ·simp at ht
   ·simp at ht
  ·simp at ht
 ·split at ht;·rename_i y z hu hy hz;simp only[Option.some.injEq] at ht;subst ht;exact aqJ he ho hu hy hz hq
  ·simp at ht
 ·split at ht
  ·rename_i fs z hu hz;split at ht;·rename_i hall;simp only[m4] at ht;obtain⟨qs,hqs,rfl⟩:=ht;exact aoU he ho hu hz hall hqs hq
   ·simp at ht
  ·rename_i len el z hu hz;split at ht;·rename_i n g hl;simp only[m4] at ht;obtain⟨qs,hqs,rfl⟩:=ht;exact ak5 he ho hu hz hl hqs hq
   ·simp at ht
  ·simp at ht
 ·simp only[m4] at ht;obtain⟨y,hy,rfl⟩:=ht;simp[aU] at hq
 ·split at ht;·simp only[Option.some.injEq] at ht;subst ht;simp[aU] at hq
  ·simp at ht
 ·split at ht
  ·split at ht
   ·split at ht;·simp only[m4] at ht;obtain⟨qs,_,rfl⟩:=ht;simp[aU] at hq
    ·simp at ht
   ·simp at ht
  ·simp at ht
 ·split at ht
  ·split at ht
   ·split at ht;·simp only[Option.some.injEq] at ht;subst ht;simp[aU] at hq
    ·simp at ht
   ·simp at ht
  ·simp at ht
 ·rename_i cl;obtain⟨callee,args,ts⟩:=cl;split at ht
  ·rename_i b hb;simp only at hb;subst hb;rcases pE ht with⟨x,t,y,rfl,rfl,rfl,hy,⟨hu,rfl⟩|⟨hu,rfl⟩⟩|⟨x,t,y,el,rfl,rfl,rfl,hy,hu,rfl⟩|⟨x,y,x',y',mn,rfl,rfl,hx,hy,rfl⟩|⟨s,x,t,s',x',el,n,rfl,rfl,rfl,hs',hx,hse,hn,hz,hb,rfl⟩
   ·exact ap0 he ho (by simpa using hu) hy hq
   ·exact ap0 he ho (by simpa using hu) hy hq
   ·exact asC he ho hu hy hq
   ·exact as0 he ho hx hy hq
   ·simp[aU] at hq
  ·simp only[m4] at ht;obtain⟨l,_,rfl⟩:=ht;simp[aU] at hq
  ·split at ht;·simp only[Option.some.injEq] at ht;subst ht;simp[aU] at hq
   ·simp at ht
  ·simp at ht
 ·simp at ht
end
def qY (P:Program) (f:FuncId):Bool:=
 match P.funcs[f]? with
 |some fn=>fn.body.isSome&& !(fn.name== "runtime.NumGoroutine")
 |none=>false
def aB (P:Program) (f:FuncId) (args:List D) (H:aA) (nx:Nat) (K:D→aA→Nat→Prop):Prop:=
 qY P f=true∧ ∀(c:Cf) (vs:List Value),St c H→(∀i,c.N i→i<nx)→vs.length=args.length→(∀(i:Nat) (d:D) (v:Value),args[i]?=some d→vs[i]?=some v→fD c d v)→
  Calls P f vs.toArray c.w fun x w'=>∃v c' r H' nx',x= .returned v∧c'.w=w'∧St c' H'∧Step c H c' H'∧(∀i,c'.N i→c.N i∨(nx≤i∧i<nx'))∧nx≤nx'∧fD c' r v∧K r H' nx'
theorem aB.mono {P:Program} {f:FuncId} {args:List D} {H:aA} {nx:Nat} {K K':D→aA→Nat→Prop} (h:aB P f args H nx K) (hk: ∀r H' nx',nx≤nx'→K r H' nx'→K' r H' nx'):aB P f args H nx K':=by refine⟨h.1,fun c vs h1 h2 h3 h4=> ?_⟩;refine(h.2 c vs h1 h2 h3 h4).mono ?_;rintro x w' ⟨v,c',r,H',nx',e1,e2,e3,e4,e5,e6,e7,e8⟩;exact⟨v,c',r,H',nx',e1,e2,e3,e4,e5,e6,e7,hk r H' nx' e6 e8⟩
def bD (b:Bool):D:=.one (.c (.v (.bool b)))
def asG (P:Program) (f:FuncId) (args:List D) (H:aA) (nx:Nat) (K:D→aA→Nat→Prop):Prop:=
 ∀(c:Cf) (vs:List Value),St c H→vs.length=args.length→(∀(i:Nat) (d:D) (v:Value),args[i]?=some d→vs[i]?=some v→fD c d v)→
  ∃v r,(callFunc f vs.toArray).run P c.w= .ok (.value v) c.w∧fD c r v∧K r H nx
def apP:D→Option Nat
 | .one (.c (.isl rows))=>some rows.length
 | .one (.c (.osl _ _ _ len _))=>some len
 |_=>none
def WT (k:Nat):D→D
 | .one (.c (.isl rows))=>.one (.c (.isl (rows.take k)))
 | .one (.c (.osl m id off _ cap))=>.one (.c (.osl m id off k cap))
 |d=>d
def VX (H:aA) (n:Nat):D→D→Option (Nat×bA×Nat)
 | .one (.c (.osl m id off len cap)),s=>match H id,apP s with
   |some o,some ls=>match J7 H n (WT (min ls len) s) with
    |some new=>if o.n=n∧m=n∧0<n∧0<cap∧0<o.ext∧off≤o.rows.length∧off+min ls len≤o.ext then some (id,⟨o.n,o.ext,Go.AM.wr o.rows off new⟩,min ls len) else none
    |none=>none
   |_,_=>none
 |_,_=>none
def MN (H:aA) (n:Nat) (z:List D1):D→Option (Nat×bA)
 | .one (.c (.osl m id off len cap))=>match H id with
   |some o=>if o.n=n∧m=n∧0<n∧0<cap∧0<o.ext∧off≤o.rows.length∧off+len≤o.ext then some (id,⟨o.n,o.ext,Go.AM.wr o.rows off (List.replicate len z)⟩) else none
   |none=>none
 |_=>none
def jT (m:List (List Int×Int)) (l:List Int):Option Int:=(m.find? fun p=>decide (l=p.1)).map (·.2)
def xlL (H:aA) (nx:Nat) (R:D→aA→Nat→Prop):Option mH→Prop
 |some x=>R (.one (.c (.v (.int .i64 x.m.length)))) H nx
 |none=>False
def xlG (H:aA) (nx:Nat) (R:D→aA→Nat→Prop) (kn:Nat) (bl ok:Bool):Option mH→Option (List Int)→Prop
 |some x,some l=>(x.kn=kn∧x.bl=bl∧l.length=zV kn)∧R (if ok then .tup [.c (.v (elemV bl ((jT x.m l).getD 0))),.c (.v (.bool (jT x.m l).isSome))] else .one (.c (.v (elemV bl ((jT x.m l).getD 0))))) H nx
 |_,_=>False
def vA (m:List (List Int×Int)) (l:List Int) (n:Int):List (List Int×Int):=
 match m with
 | []=>[(l,n)]
 |p::r=>if l=p.1 then (l,n)::r else p::vA r l n
def xlS (H:aA) (nx:Nat) (R:D→aA→Nat→Prop) (kn:Nat) (bl:Bool) (i:Nat):Option mH→Option (List Int)→Option Int→Prop
 |some x,some l,some n=>(x.kn=kn∧x.bl=bl∧l.length=zV kn)∧R .dead (H.set i (u4 ⟨kn,bl,vA x.m l n⟩)) nx
 |_,_,_=>False
def xl (P:Program) (id:Nat) (H:aA) (nx:Nat) (R:D→aA→Nat→Prop):XK→List D→Prop
 | .qJ neg,[.one (.c (.isl rows))]=>if rows.length=0 then ∀b,R (bD b) H nx else R (bD neg) H nx
 | .qJ neg,[.one (.c (.osl _ _ _ _ cap))]=>if cap=0 then ∀b,R (bD b) H nx else R (bD neg) H nx
 | .copy n,[d,s]=>match VX H n d s with
   |some (i,ob,k)=>R (.one (.c (.v (.int .i64 k)))) (H.set i ob) nx
   |none=>False
 | .clear n z,[d]=>match MN H n z d with
   |some (i,ob)=>R (.tup []) (H.set i ob) nx
   |none=>False
 | .aaN f,ds=>asG P f ds H nx R
 | .DS kn bl,[]=>R (.one (.c (.omap id))) (H.set id (u4 ⟨kn,bl,[]⟩)) nx
 | .sS,[.one (.c (.omap i))]=>xlL H nx R (I7 H i)
 | .sS,[.one (.c (.MY x))]=>xlL H nx R (some x)
 | .rA kn bl ok,[.one (.c (.omap i)),k]=>xlG H nx R kn bl ok (I7 H i) (OA kn k)
 | .rA kn bl ok,[.one (.c (.MY x)),k]=>xlG H nx R kn bl ok (some x) (OA kn k)
 | .vM kn bl,[.one (.c (.omap i)),k,v]=>xlS H nx R kn bl i (I7 H i) (OA kn k) (S4 bl v)
 |_,_=>False
theorem aoV {P:Program} {id:Nat} {H:aA} {nx:Nat} {R R':D→aA→Nat→Prop} {k:XK} {ds:List D} (h:xl P id H nx R k ds) (hk: ∀r H' nx',nx≤nx'→R r H' nx'→R' r H' nx'):xl P id H nx R' k ds:=by
 unfold xl at*;split at h
 ·split at h;·rename_i h0;simp only[h0,if_true];exact fun b=>hk _ _ _ (m5 _) (h b)
  ·rename_i h0;simp only[h0,if_false];exact hk _ _ _ (m5 _) h
 ·split at h;·rename_i h0;simp only[h0,if_true];exact fun b=>hk _ _ _ (m5 _) (h b)
  ·rename_i h0;simp only[h0,if_false];exact hk _ _ _ (m5 _) h
 ·split at h;·exact hk _ _ _ (m5 _) h
  ·exact h.elim
 ·split at h;·exact hk _ _ _ (m5 _) h
  ·exact h.elim
 ·intro c vs h1 h2 h3;obtain⟨v,r,h4,h5,h6⟩:=h c vs h1 h2 h3;exact⟨v,r,h4,h5,hk _ _ _ (m5 _) h6⟩
 ·exact hk _ _ _ (m5 _) h
 ·revert h;unfold xlL;split;·exact fun h=>hk _ _ _ (m5 _) h
  ·exact fun h=>h
 ·exact hk _ _ _ (m5 _) h
 ·revert h;unfold xlG;split;·exact fun h=>⟨h.1,hk _ _ _ (m5 _) h.2⟩
  ·exact fun h=>h
 ·revert h;unfold xlG;split;·exact fun h=>⟨h.1,hk _ _ _ (m5 _) h.2⟩
  ·exact fun h=>h
 ·revert h;unfold xlS;split;·exact fun h=>⟨h.1,hk _ _ _ (m5 _) h.2⟩
  ·exact fun h=>h
 ·exact h.elim
def HX (P:Program) (id:Nat) (o:AOp) (e:Env) (H:aA) (nx:Nat) (R:D→aA→Nat→Prop):Prop:=
 match o with
 | .store n g a x=>∃i ob,LB H e (.store n g a x)=some (i,ob)∧R .dead (H.set i ob) nx
 | .append n s x=>∃dl m k rows,IX H e (.append n s x)=some (dl,m,k,rows)∧k≤2147483647∧ ∀cap,k≤cap→amE (s.ev e)≤cap→R (.one (.c (.osl m id 0 k cap))) ((VR H dl).set id ⟨m,cap,rows⟩) nx
 | .call f args=>aB P f (args.map (·.ev e)) H nx R
 | .t5 g args=>∃f caps,g.ev e= .one (.c (.clo f caps))∧aB P f (args.map (·.ev e)++caps.map fun d=>.one (.c d)) H nx R
 | .xop k args=>xl P id H nx R k (args.map (·.ev e))
 |_=>False
theorem wX {P:Program} {id:Nat} {o:AOp} {e:Env} {H:aA} {nx:Nat} {R R':D→aA→Nat→Prop} (h:HX P id o e H nx R) (hk: ∀r H' nx',nx≤nx'→R r H' nx'→R' r H' nx'):HX P id o e H nx R':=by
 unfold HX at*;split at h;·obtain⟨i,ob,h1,h2⟩:=h;exact⟨i,ob,h1,hk _ _ _ (m5 _) h2⟩
 ·obtain⟨dl,m,k,rows,h1,h2,h3⟩:=h;exact⟨dl,m,k,rows,h1,h2,fun cap hc hc2=>hk _ _ _ (m5 _) (h3 cap hc hc2)⟩
 ·exact h.mono hk
 ·obtain⟨f,caps,h1,h2⟩:=h;exact⟨f,caps,h1,h2.mono hk⟩
 ·exact aoV h hk
 ·exact h
section
variable {P : Program} {c : Cf} {H : aA} {T : Nat} {e : Env} {a : Act}
theorem ag1 (hs:St c H) (he:ER c T e a){o:Oper}{ao:AOp}{d:D}{ob:bA}{id:Nat} (hN: ¬c.N id) (ht:F3 P o.op=some ao) (hq:lT id e ao=some (d,ob)):NT P c H a o id d ob:=by
 have hno: ∀ao',ao=ao'→(match ao' with| .alloc _| .box .. | .bC .. | .kY .. =>True|_=>False):=by rintro ao' rfl;unfold lT at hq;split at hq<;>first|trivial|simp at hq
 generalize ho:o.op=op at ht;unfold F3 at ht;split at ht;case h_18 t=>simp only[m4] at ht;obtain⟨z,hz,rfl⟩:=ht;exact apL hs hN ho hz hq
 case h_19 t x=>
  split at ht;·rename_i m g y hl hy;simp only[Option.some.injEq] at ht;subst ht;exact asW hs he hN ho hy hq
  ·simp at ht
 case h_20 t len ps=>
  split at ht
  ·rename_i el n hse;split at ht
   ·rename_i z hz;split at ht;·rename_i hc;simp only[m4] at ht;obtain⟨qs,hqs,rfl⟩:=ht;exact amD hs he hN ho hse hz hc.1 hc.2.1 hc.2.2 hqs hq
    ·simp at ht
   ·simp at ht
  ·simp at ht
 case h_21 t l k=>
  split at ht
  ·rename_i el n l' k' hse hl hk;split at ht
   ·rename_i z hz;split at ht
    ·rename_i hc;simp only[Option.some.injEq] at ht;subst ht
     obtain⟨i,hi⟩: ∃i,P.info? el=some i:=by
      unfold zeroOf at hz;split at hz;·rename_i i hi;exact⟨i,hi⟩
      ·simp at hz
     exact ag4 hs he hN ho hse hz hc.1 hc.2.1 hi (by simpa [Program.bytesOf,hi] using hc.2.2) hl hk hq
    ·simp at ht
   ·simp at ht
  ·simp at ht
 case h_22 cl=>
  obtain⟨callee,args,ts⟩:=cl;split at ht;·rename_i b hb;rcases pE ht with⟨x,t,y,rfl,rfl,rfl,hy,⟨hu,rfl⟩|⟨hu,rfl⟩⟩|⟨x,t,y,el,rfl,rfl,rfl,hy,hu,rfl⟩|⟨x,y,x',y',mn,rfl,rfl,hx,hy,rfl⟩|⟨s,x,t,s',x',el,n,rfl,rfl,rfl,hs',hx,hse,hn,hz,hb,rfl⟩<;>exact(hno _ rfl).elim
  ·simp only[m4] at ht;obtain⟨l,_,rfl⟩:=ht;exact(hno _ rfl).elim
  ·split at ht;·simp only[Option.some.injEq] at ht;subst ht;exact(hno _ rfl).elim
   ·simp at ht
  ·simp at ht
 all_goals
  (repeat' (split at ht))<;>first
   | (simp at ht;done)
   | (simp only[Option.some.injEq] at ht;subst ht;exact(hno _ rfl).elim)
   | (simp only[m4] at ht;obtain⟨_,_,rfl⟩:=ht;exact(hno _ rfl).elim)
variable{op:Op}
theorem ajO{n:Nat}{g:Bool}{x' y':aT} (h:F3 P op=some (.store n g x' y')): ∃t x y,op= .store t x y∧layout P t=some (n,g)∧trO x=some x'∧trO y=some y':=by
 unfold F3 at h;split at h
 case h_6 t x y=>
  split at h;·rename_i m g' u v h1 h2 h3;simp only[Option.some.injEq,AOp.store.injEq] at h;obtain⟨rfl,rfl,rfl,rfl⟩:=h;exact⟨_,_,_,rfl,h1,h2,h3⟩
  ·simp at h
 case h_22 cl=>
  obtain⟨callee,args,ts⟩:=cl;split at h;·rename_i b hb;rcases pE h with⟨x,t,y,rfl,rfl,rfl,hy,⟨hu,h⟩|⟨hu,h⟩⟩|⟨x,t,y,el,rfl,rfl,rfl,hy,hu,h⟩|⟨x,y,x',y',mn,rfl,rfl,hx,hy,h⟩|⟨s,x,t,s',x',el,n,rfl,rfl,rfl,hs',hx,hse,hn,hz,hb,h⟩<;>simp at h
  ·simp at h
  ·split at h<;>simp at h
  ·simp at h
 all_goals
  (repeat' (split at h))<;>simp at h
theorem ahV{n:Nat}{s' x':aT} (h:F3 P op=some (.append n s' x')): ∃t s x el,op= .call {callee:=.builtin .append,args:=#[s,x],argTypes:=#[t,t]}∧d9 P t=some (el,n)∧0<n∧
 (∃z,zeroOf P el=some z)∧P.bytesOf el≤65536∧trO s=some s'∧trO x=some x':=by
 unfold F3 at h
 split at h
 case h_22 cl=>
  obtain⟨callee,args,ts⟩:=cl;split at h
  ·rename_i b hb;simp only at hb;subst hb;rcases pE h with⟨x,t,y,rfl,rfl,rfl,hy,⟨hu,h⟩|⟨hu,h⟩⟩|⟨x,t,y,el,rfl,rfl,rfl,hy,hu,h⟩|⟨x,y,x',y',mn,rfl,rfl,hx,hy,h⟩|⟨s,x,t,s',x',el,n,rfl,rfl,rfl,hs',hx,hse,hn,hz,hb,h⟩
   ·simp at h
   ·simp at h
   ·simp at h
   ·simp at h
   ·simp only[AOp.append.injEq] at h;obtain⟨rfl,rfl,rfl⟩:=h;exact⟨t,s,x,el,rfl,hse,hn,hz,hb,hs',hx⟩
  ·simp at h
  ·split at h<;>simp at h
  ·simp at h
 all_goals
  (repeat' (split at h))<;>simp at h
theorem apD{f:FuncId}{l:List aT} (h:F3 P op=some (.call f l)): ∃cl:Call,op= .call cl∧cl.callee= .value (.func f)∧cl.args.toList.mapM trO=some l:=by
 unfold F3 at h;split at h
 case h_22 cl=>
  obtain⟨callee,args,ts⟩:=cl;split at h;·rename_i b hb;rcases pE h with⟨x,t,y,rfl,rfl,rfl,hy,⟨hu,h⟩|⟨hu,h⟩⟩|⟨x,t,y,el,rfl,rfl,rfl,hy,hu,h⟩|⟨x,y,x',y',mn,rfl,rfl,hx,hy,h⟩|⟨s,x,t,s',x',el,n,rfl,rfl,rfl,hs',hx,hse,hn,hz,hb,h⟩<;>simp at h
  ·rename_i f' hc;simp only[m4] at h;obtain⟨l',h1,h2⟩:=h;simp only[AOp.call.injEq] at h2;obtain⟨rfl,rfl⟩:=h2;exact⟨_,rfl,hc,h1⟩
  ·split at h<;>simp at h
  ·simp at h
 all_goals
  (repeat' (split at h))<;>simp at h
theorem am0{g:aT}{l:List aT} (h:F3 P op=some (.t5 g l)): ∃(cl:Call) (x:Operand),op= .call cl∧cl.callee= .value x∧trO x=some g∧cl.args.toList.mapM trO=some l:=by
 unfold F3 at h;split at h
 case h_22 cl=>
  obtain⟨callee,args,ts⟩:=cl;split at h;·rename_i b hb;rcases pE h with⟨x,t,y,rfl,rfl,rfl,hy,⟨hu,h⟩|⟨hu,h⟩⟩|⟨x,t,y,el,rfl,rfl,rfl,hy,hu,h⟩|⟨x,y,x',y',mn,rfl,rfl,hx,hy,h⟩|⟨s,x,t,s',x',el,n,rfl,rfl,rfl,hs',hx,hse,hn,hz,hb,h⟩<;>simp at h
  ·simp at h
  ·rename_i x hx hc;split at h;·rename_i y l' h1 h2;simp only[Option.some.injEq,AOp.t5.injEq] at h;obtain⟨rfl,rfl⟩:=h;exact⟨_,x,rfl,hc,h1,h2⟩
   ·simp at h
  ·simp at h
 all_goals
  (repeat' (split at h))<;>simp at h
theorem atO{k:XK}{l:List aT} (h:F3 P op=some (.xop k l)):False:=by
 unfold F3 at h;split at h
 case h_22 cl=>
  obtain⟨callee,args,ts⟩:=cl;split at h;·rename_i b hb;rcases pE h with⟨x,t,y,rfl,rfl,rfl,hy,⟨hu,h⟩|⟨hu,h⟩⟩|⟨x,t,y,el,rfl,rfl,rfl,hy,hu,h⟩|⟨x,y,x',y',mn,rfl,rfl,hx,hy,h⟩|⟨s,x,t,s',x',el,n,rfl,rfl,rfl,hs',hx,hse,hn,hz,hb,h⟩<;>simp at h
  ·simp at h
  ·split at h<;>simp at h
  ·simp at h
 all_goals
  (repeat' (split at h))<;>simp at h
theorem FH (he:ER c T e a): ∀(xs:List Operand) (ys:List aT),xs.mapM trO=some ys→
 (xs.map a.eval).length=ys.length∧ ∀(i:Nat) (d:D) (v:Value),(ys.map (·.ev e))[i]?=some d→(xs.map a.eval)[i]?=some v→fD c d v
 | [],ys,h=>by simp at h;subst h;simp
 |x::xs,ys,h=>by
  simp only[List.mapM_cons,Option.bind_eq_bind,KM,Option.pure_def,Option.some.injEq] at h;obtain⟨y,hy,zs,hz,rfl⟩:=h;obtain⟨h1,h2⟩:=FH he xs zs hz;refine⟨by simpa using h1,fun i d v hd hv=> ?_⟩
  match i with
  |0=>simp at hd hv;subst hd;subst hv;exact lP he hy
  |i+1=>exact h2 i d v (by simpa using hd) (by simpa using hv)
theorem QY{f:FuncId} (h:qY P f=true) (args:Array Value) (w:World):(callFunc f args).run P w= .ok (.enter f args) w:=by
 unfold qY at h;split at h
 ·rename_i fn hf;simp only[q7,CA] at h;have hb:fn.body.isNone=false:=by cases hbb:fn.body<;>simp[hbb] at h ⊢
  have hname:fn.name≠"runtime.NumGoroutine" :=by simpa using h.2
  have hbody:fn.body≠none:=by intro h0;simp[h0] at hb
  simp[callFunc,hf,hname,hbody]
 ·simp at h
theorem akS (hs:St c H) (he:ER c T e a){o:Oper}{ao:AOp}{id nx:Nat}{R:D→aA→Nat→Prop} (hN: ∀i,c.N i→i<nx) (hid: ¬c.N id) (ht:F3 P o.op=some ao) (h:HX P id ao e H nx R)
 {next:Act→World→Prop} {Qr:Exit→Act→World→Prop}
 (hk: ∀d v c' H' nx',St c' H'→Step c H c' H'→fD c' d v→(∀i,c'.N i→c.N i∨i=id∨(nx≤i∧i<nx'))→nx≤nx'→R d H' nx'→next (a.put o.dst v) c'.w):o.wp P a c.w next Qr:=by
 unfold HX at h
 split at h
 ·obtain⟨t,x,y,ho,hl,hx,hy⟩:=ajO ht;obtain⟨i,ob,hq,hR⟩:=h;obtain⟨c',hrun,h1,h2,h3⟩:=apR (P:=P) hs he ho hl hx hy hq;unfold Oper.wp;rw[hrun];exact hk .dead undef c' _ nx h1 h2 trivial (fun i hi=>.inl ((h3 i).1 hi)) (m5 _) hR
 ·rename_i n0 s0 x0;obtain⟨t,s,x,el,ho,hse,hn,hz,hb,hx,hy⟩:=ahV ht;obtain⟨dl,m,k,rows,hq,hk2,hR⟩:=h
  have hm:m=n0:=by
   have hq':=hq;simp only[IX] at hq';split at hq'
   ·split at hq'
    ·split at hq';·simp only[Option.some.injEq,Prod.mk.injEq] at hq';exact hq'.2.1.symm
     ·simp at hq'
    ·split at hq'
     ·split at hq';·simp only[Option.some.injEq,Prod.mk.injEq] at hq';exact hq'.2.1.symm
      ·simp at hq'
     ·simp at hq'
   ·simp at hq'
  subst hm;obtain⟨cap,v,c',hc,hrun,h1,h2,h3,h4⟩:=alG (P:=P) hs he hid ho hse hn hz hb hx hy hk2 hq;unfold Oper.wp;rw[hrun];exact hk _ v c' _ nx h1 h2 h3 (fun i hi=>((h4 i).1 hi).elim (fun h=>.inr (.inl h)) .inl) (m5 _) (hR cap hc.1 hc.2)
 ·obtain⟨cl,ho,hcl,hargs⟩:=apD ht;rename_i f args;obtain⟨h1,h2⟩:=FH he _ _ hargs;have hrun:(execOp a.eval o).run P c.w= .ok (.enter f (cl.args.toList.map a.eval).toArray) c.w:=by have he1:(cl.args.toList.map a.eval).toArray=cl.args.map a.eval:=(by apply x2;simp);have hf:a.eval (.func f)= .func (.func f) #[] #[]:=rfl;simp only[execOp,ho,resolve,hcl,hf,Deferred.ofValue,Sem.run_bind,Sem.run_pure,Result.andThen_ok,invoke,QY h.1,he1];simp
  unfold Oper.wp;rw[hrun];refine(h.2 c _ hs hN (by simpa using h1) h2).mono ?_;rintro x w' ⟨v,c',r,H',nx',rfl,rfl,e3,e4,e5,e6,e7,e8⟩;exact hk r v c' H' nx' e3 e4 e7 (fun i hi=>(e5 i hi).imp (fun h=>h) .inr) e6 e8
 ·obtain⟨cl,x,ho,hcl,hx,hargs⟩:=am0 ht;rename_i g args;obtain⟨f,caps,hg,hA⟩:=h;obtain⟨h1,h2⟩:=FH he _ _ hargs;have hgv:=qD he hx hg;obtain⟨cvs,hxv,hcl2,hcr⟩:=hgv;have hrun:(execOp a.eval o).run P c.w= .ok (.enter f (cl.args.toList.map a.eval++cvs).toArray) c.w:=by have he1:(cl.args.toList.map a.eval++cvs).toArray=cl.args.map a.eval++cvs.toArray:=(by apply x2;simp);simp only[execOp,ho,resolve,hcl,hxv,Deferred.ofValue,Sem.run_bind,Sem.run_pure,Result.andThen_ok,invoke,QY hA.1,he1];simp
  unfold Oper.wp;rw[hrun];refine(hA.2 c _ hs hN (by simp[hcl2] at h1 ⊢;exact h1) (fun i d v hd hv=> ?_)).mono ?_
  ·rw[o5] at hd hv;have hl:(args.map (·.ev e)).length=(cl.args.toList.map a.eval).length:=(by rw[h1];simp);split at hd;·rename_i hi;rw[if_pos (by omega)] at hv;exact h2 i d v hd hv
   ·rename_i hi;rw[if_neg (by omega)] at hv;simp only[p0,m4] at hd;obtain⟨d1,hd1,rfl⟩:=hd;have:=hcr _ d1 v hd1 (by rw[←hl] at hv;exact hv)
    have h0: ∀d x,bY c d x→Rel c d x:=by
     intro d x h
     cases d with
     |clo f caps=>simp only[bY] at h;cases h
     |_=>simp only[Rel];exact h
    exact h0 _ _ this
  ·rintro x w' ⟨v,c',r,H',nx',rfl,rfl,e3,e4,e5,e6,e7,e8⟩;exact hk r v c' H' nx' e3 e4 e7 (fun i hi=>(e5 i hi).imp (fun h=>h) .inr) e6 e8
 ·exact(atO ht).elim
 ·exact h.elim
end
structure aY where
 ix:Nat
 dst:Option Nat
 op:AOp
 guard:Option (Nat×Bool)
 mask:List Nat
 amN:List Nat
 look:Bool
def Env.put (e:Env) (dst:Option Nat) (d:D):Env:=
 match dst with
 |some t=>e.set t d
 |none=>e
def vI (g:Option (Nat×Bool)) (e:Env):Option Bool:=
 match g with
 |none=>some true
 |some (t,want)=>match e t with
  | .one (.c (.v (.bool x)))=>some (x==want)
  | .tup []=>some false
  |_=>none
def msk (b:Nat) (l:List Nat) (H:aA):aA:=fun i=>if i∈l.map (b+ ·) then none else H i
def dT (b:Nat) (l:List Nat) (H H':aA):aA:=fun i=>if i∈l.map (b+ ·) then H i else H' i
abbrev dJ:=List (Nat×(aA→Prop))
def lU (S:dJ) (l:List Nat) (H:aA):Prop:=∀p∈S,p.1∈l→p.2 H
def entry (b:Nat) (o:aY) (e:Env) (d:D):dJ:=if o.look then [(o.ix,fun H'=>aU (msk b o.mask H') e o.op=some d)] else []
def aop (P:Program) (b:Nat) (o:aY) (e:Env) (H:aA) (nx:Nat) (S:dJ) (K:D→aA→Nat→dJ→Prop):Prop:=
 match o.op.kind with
 | .q _=>∃d,aU (msk b o.mask H) e o.op=some d∧K d H nx (entry b o e d++S)
 | .a=>∃d ob,lT (b+o.ix) e o.op=some (d,ob)∧K d (H.set (b+o.ix) ob) nx S
 | .l=>HX P (b+o.ix) o.op e (msk b o.mask H) nx fun d H' nx'=>lU S o.amN (dT b o.mask H H')∧K d (dT b o.mask H H') nx' S
def l8 (P:Program) (b:Nat) (o:aY) (e:Env) (H:aA) (nx:Nat) (S:dJ) (K:D→aA→Nat→dJ→Prop):Prop:=
 match vI o.guard e with
 |some true=>aop P b o e H nx S K
 |some false=>K (.tup []) H nx S
 |none=>False
def avc (P:Program) (b:Nat) (Q:Env→aA→Nat→Prop):List aY→Env→aA→Nat→dJ→Prop
 | [],e,H,nx,_=>Q e H nx
 |o::L,e,H,nx,S=>l8 P b o e H nx S fun d H' nx' S'=>avc P b Q L (e.put o.dst d) H' nx' S'
def aT.tms:aT→List Nat
 | .tm t=>[t]
 |_=>[]
def MQ:Option aT→List Nat
 |some x=>x.tms
 |none=>[]
def AOp.tms:AOp→List Nat
 | .move x| .tF x| .load _ _ x| .fld _ x| .un _ x| .conv _ x| .len _ x| .cap x| .ext x _| .arD x| .field _ _ _ x| .box _ x=>x.tms
 | .pick x y z=>x.tms++y.tms++z.tms
 | .idx _ x y| .TL _ _ x y| .bin _ x y| .beq _ x y| .mmx _ x y| .aoO x y| .kY _ _ x y| .store _ _ x y| .append _ x y=>x.tms++y.tms
 | .slc _ x lo hi mx=>x.tms++MQ lo++MQ hi++MQ mx
 | .sub x lo hi=>x.tms++MQ lo++MQ hi
 | .build _ ps| .bC _ _ _ ps=>ps.flatMap fun p=>p.2.2.tms
 | .alloc _=>[]
 | .call _ l=>l.flatMap aT.tms
 | .t5 x l=>x.tms++l.flatMap aT.tms
 | .xop _ l=>l.flatMap aT.tms
def aY.looks (o:aY):List Nat:=o.op.tms++(match o.guard with|some (t,_)=>[t]|none=>[])
section
variable {P : Program} {b : Nat} {e e' : Env} {H : aA} {nx : Nat}
theorem fA {x:aT} (h: ∀t∈x.tms,e t=e' t):x.ev e=x.ev e':=by
 cases x with
 |tm t=>exact h t (by simp[aT.tms])
 |kv x=>cases x<;>rfl
 |fn f=>rfl
theorem xK {x:Option aT} {d:Nat} (h: ∀t∈MQ x,e t=e' t):HD e d x=HD e' d x:=by
 cases x with
 |none=>rfl
 |some x=>simp only[HD];rw[fA (e:=e) (e':=e') h]
theorem EX: ∀(ps:List (Nat×Nat×aT)) (cs:List D1),(∀t∈ps.flatMap fun p=>p.2.2.tms,e t=e' t)→sH e cs ps=sH e' cs ps
 | [],_,_=>rfl
 | (off,n,x)::ps,cs,h=>by have h1:x.ev e=x.ev e':=fA fun t ht=>h t (by simp[ht]);have ih:=fun cs=>EX ps cs fun t ht=>h t (by simp only[br4,o3];exact .inr ht);simp only[sH,h1,ih]
theorem rP: ∀(l:List aT),(∀t∈l.flatMap aT.tms,e t=e' t)→l.map (·.ev e)=l.map (·.ev e')
 | [],_=>rfl
 |x::l,h=>by simp only[n3];rw[fA (e:=e) (e':=e') fun t ht=>h t (by simp[ht]),rP l fun t ht=>h t (by simp only[br4,o3];exact .inr ht)]
theorem FI {o:AOp} (h: ∀t∈o.tms,e t=e' t) (H:aA):aU H e o=aU H e' o:=by
 cases o<;>simp only[AOp.tms,o3,Y8] at h<;>simp only[aU]
 all_goals first
  |rw[fA (e:=e) (e':=e') h]
  |rw[fA (e:=e) (e':=e') fun t ht=>h t (.inl ht),fA (e:=e) (e':=e') fun t ht=>h t (.inr ht)]
  |rw[fA (e:=e) (e':=e') fun t ht=>h t (.inl (.inl ht)),fA (e:=e) (e':=e') fun t ht=>h t (.inl (.inr ht)),fA (e:=e) (e':=e') fun t ht=>h t (.inr ht)]
  |skip
 case slc n x lo hi mx=>rw[fA (e:=e) (e':=e') fun t ht=>h t (.inl (.inl (.inl ht)))];have h1:=fun d=>xK (e:=e) (e':=e') (x:=lo) (d:=d) fun t ht=>h t (.inl (.inl (.inr ht)));have h2:=fun d=>xK (e:=e) (e':=e') (x:=hi) (d:=d) fun t ht=>h t (.inl (.inr ht));have h3:=fun d=>xK (e:=e) (e':=e') (x:=mx) (d:=d) fun t ht=>h t (.inr ht);simp only[h1,h2,h3]
 case sub x lo hi=>rw[fA (e:=e) (e':=e') fun t ht=>h t (.inl (.inl ht))];have h1:=fun d=>xK (e:=e) (e':=e') (x:=lo) (d:=d) fun t ht=>h t (.inl (.inr ht));have h2:=fun d=>xK (e:=e) (e':=e') (x:=hi) (d:=d) fun t ht=>h t (.inr ht);simp only[h1,h2]
 case build z ps=>rw[EX (e:=e) (e':=e') ps z fun t ht=>h t (by simpa using ht)]
 case xop k l=>rw[rP (e:=e) (e':=e') l fun t ht=>h t (by simpa using ht)]
theorem NO {o:AOp} {id:Nat} (h: ∀t∈o.tms,e t=e' t):lT id e o=lT id e' o:=by
 cases o<;>simp only[AOp.tms,o3,Y8] at h<;>simp only[lT]
 all_goals first
  |rw[fA (e:=e) (e':=e') h]
  |rw[fA (e:=e) (e':=e') fun t ht=>h t (.inl ht),fA (e:=e) (e':=e') fun t ht=>h t (.inr ht)]
  |skip
 case bC n len z ps=>rw[EX (e:=e) (e':=e') ps _ fun t ht=>h t (by simpa using ht)]
theorem aeH {o:AOp} {id:Nat} {R:D→aA→Nat→Prop} (h: ∀t∈o.tms,e t=e' t):HX P id o e H nx R=HX P id o e' H nx R:=by
 cases o<;>simp only[AOp.tms,o3,Y8] at h<;>simp only[HX]
 case store n g x y=>
  have h1:LB H e (.store n g x y)=LB H e' (.store n g x y):=by simp only[LB];rw[fA (e:=e) (e':=e') fun t ht=>h t (.inl ht),fA (e:=e) (e':=e') fun t ht=>h t (.inr ht)]
  rw[h1]
 case append n x y=>
  have h1:IX H e (.append n x y)=IX H e' (.append n x y):=by simp only[IX];rw[fA (e:=e) (e':=e') fun t ht=>h t (.inl ht),fA (e:=e) (e':=e') fun t ht=>h t (.inr ht)]
  rw[h1,fA (e:=e) (e':=e') (x:=x) fun t ht=>h t (.inl ht)]
 case call f l=>rw[rP (e:=e) (e':=e') l fun t ht=>h t (by simpa using ht)]
 case t5 x l=>rw[rP (e:=e) (e':=e') l fun t ht=>h t (.inr (by simpa using ht)),fA (e:=e) (e':=e') fun t ht=>h t (.inl ht)]
 case xop k l=>rw[rP (e:=e) (e':=e') l fun t ht=>h t (by simpa using ht)]
theorem Q7 {o:AOp} (h:o.kind= .q false) (H H':aA):aU H e o=aU H' e o:=by cases o<;>first|rfl| (simp[AOp.kind] at h;done)
theorem Q5 {g:Option (Nat×Bool)} (h: ∀t w,g=some (t,w)→e t=e' t):vI g e=vI g e':=by
 cases g with
 |none=>rfl
 |some p=>obtain⟨t,w⟩:=p;simp only[vI];rw[h t w rfl]
theorem NU {o:aY} {d:D} (h: ∀t∈o.op.tms,e t=e' t):entry b o e d=entry b o e' d:=by
 unfold entry;have:(fun H'=>aU (msk b o.mask H') e o.op=some d)=fun H'=>aU (msk b o.mask H') e' o.op=some d:=by funext H';rw[FI h]
 rw[this]
theorem JW {o:aY} {S:dJ} {K:D→aA→Nat→dJ→Prop} (h: ∀t∈o.looks,e t=e' t):l8 P b o e H nx S K=l8 P b o e' H nx S K:=by
 have h1: ∀t∈o.op.tms,e t=e' t:=fun t ht=>h t (by simp[aY.looks,ht]);have h2:vI o.guard e=vI o.guard e':=Q5 fun t w hg=>h t (by simp[aY.looks,hg]);unfold l8;rw[h2];split
 ·unfold aop;split;·simp only[FI h1,NU h1]
  ·simp only[NO h1]
  ·rw[aeH h1]
 ·rfl
 ·rfl
theorem MH {o:aY} {S:dJ} {K K':D→aA→Nat→dJ→Prop} (h:l8 P b o e H nx S K) (hk: ∀d H' nx' S',K d H' nx' S'→K' d H' nx' S'):l8 P b o e H nx S K':=by
 unfold l8 at*;split at h
 ·unfold aop at*;split at h;·obtain⟨d,h1,h2⟩:=h;exact⟨d,h1,hk _ _ _ _ h2⟩
  ·obtain⟨d,ob,h1,h2⟩:=h;exact⟨d,ob,h1,hk _ _ _ _ h2⟩
  ·exact wX h fun d H' nx' _ h1=>⟨h1.1,hk _ _ _ _ h1.2⟩
 ·exact hk _ _ _ _ h
 ·exact h
theorem BD {Q:Env→aA→Nat→Prop}: ∀(L:List aY) (e:Env) (H:aA) (nx:Nat) (S S':dJ),(∀p∈S',p∈S)→avc P b Q L e H nx S→avc P b Q L e H nx S'
 | [],_,_,_,_,_,_,h=>h
 |o::L,e,H,nx,S,S',hs,h=>by
  simp only[avc] at h ⊢;unfold l8 at*;split at h
  ·unfold aop at*;split at h
   ·obtain⟨d,h1,h2⟩:=h;refine⟨d,h1,BD L _ _ _ _ _ (fun p hp=> ?_) h2⟩;rcases o3.1 hp with h3|h3;·exact o3.2 (.inl h3)
    ·exact o3.2 (.inr (hs p h3))
   ·obtain⟨d,ob,h1,h2⟩:=h;exact⟨d,ob,h1,BD L _ _ _ _ _ hs h2⟩
   ·exact wX h fun d H' nx' _ h1=>⟨fun p hp=>h1.1 p (hs p hp),BD L _ _ _ _ _ hs h1.2⟩
  ·exact BD L _ _ _ _ _ hs h
  ·exact h
theorem WC {e:Env} {dst:Option Nat} {d:D} {t:Nat} (h:dst≠some t):e.put dst d t=e t:=by
 cases dst with
 |none=>rfl
 |some u=>simp only[Env.put,Env.set];rw[if_neg (by rintro rfl;exact h rfl)]
theorem put_comm {e:Env} {x y:Option Nat} {d d':D} (h: ∀t,x=some t→y≠some t):(e.put x d).put y d'=(e.put y d').put x d:=by
 cases x with
 |none=>rfl
 |some t=>
  cases y with
  |none=>rfl
  |some u=>have hne:t≠u:=fun he=>h t rfl (he▸rfl);funext i;simp only[Env.put,Env.set];by_cases h1:i=t<;>by_cases h2:i=u<;>simp_all
end
def Kind.Q0:Kind→Bool
 | .l=>true
 |_=>false
def Kind.SB:Kind→Bool
 | .a=>true
 |_=>false
def Kind.xP:Kind→Bool
 | .q true=>true
 |_=>false
def comm (l o:aY):Bool:=
 !l.op.kind.Q0&&(l.dst.all fun t=> !o.looks.contains t&&o.dst != some t)&&(o.dst.all fun t=> !l.looks.contains t)&&
 (!(l.op.kind.xP&&o.op.kind.Q0)||(l.look&&o.amN.contains l.ix))&&
 (!(l.op.kind.xP&&o.op.kind.SB)||l.mask.contains o.ix)&&
 (!(l.op.kind.SB&&(o.op.kind.xP||o.op.kind.Q0))||o.mask.contains l.ix)&&l.ix != o.ix
structure Comm (l o:aY):Prop where
 quiet:l.op.kind.Q0=false
 d1: ∀t,l.dst=some t→t∉o.looks
 d2: ∀t,l.dst=some t→o.dst≠some t
 d3: ∀t,o.dst=some t→t∉l.looks
 rl:l.op.kind.xP=true→o.op.kind.Q0=true→l.look=true∧l.ix∈o.amN
 rm:l.op.kind.xP=true→o.op.kind.SB=true→o.ix∈l.mask
 mo:l.op.kind.SB=true→(o.op.kind.xP=true∨o.op.kind.Q0=true)→l.ix∈o.mask
 ne:l.ix≠o.ix
theorem agL {l o:aY} (h:comm l o=true):Comm l o:=by
 simp only[comm,q7,CB,CA,bne_iff_ne,ne_eq,Y9,Option.all_eq_true,boI] at h;obtain⟨⟨⟨⟨⟨⟨h1,h2⟩,h3⟩,h4⟩,h5⟩,h6⟩,h7⟩:=h;refine⟨h1,fun t ht=> ?_,fun t ht=> ?_,fun t ht=> ?_,fun a b=> ?_,fun a b=> ?_,fun a b=> ?_,h7⟩;·have:=(h2 t ht).1;simpa using this
 ·exact(h2 t ht).2
 ·have:=h3 t ht;simpa using this
 ·rcases h4 with(h|h)|h;·rw[a] at h;cases h
  ·rw[b] at h;cases h
  ·exact h
 ·rcases h5 with(h|h)|h;·rw[a] at h;cases h
  ·rw[b] at h;cases h
  ·exact h
 ·rcases h6 with(h|h)|h;·rw[a] at h;cases h
  ·simp at h;rcases b with b|b;·rw[h.1] at b;cases b
   ·rw[h.2] at b;cases b
  ·exact h
section
variable {P : Program} {b : Nat} {e : Env} {H : aA} {nx : Nat} {Q : Env → aA → Nat → Prop}
theorem NQ {b i:Nat} {l:List Nat}:b+i∈l.map (b+ ·)↔i∈l:=by
 simp only[CF]
 exact⟨fun⟨j,h1,h2⟩=>by have:j=i:=by omega
                        exact this▸h1,fun h=>⟨i,h,rfl⟩⟩
theorem PK {l:List Nat} {i:Nat} {ob:bA} (h:i∈l):msk b l (H.set (b+i) ob)=msk b l H:=by
 funext j;unfold msk aA.set;split;·rfl
 ·rename_i hj;rw[if_neg (by rintro rfl;exact hj (NQ.2 h))]
theorem agM {l:List Nat} {i:Nat} {ob:bA} {H':aA} (h:i∈l):dT b l (H.set (b+i) ob) H'=(dT b l H H').set (b+i) ob:=by
 funext j;unfold dT aA.set;by_cases hj:j=b+i;·subst hj;rw[if_pos (NQ.2 h)];simp
 ·simp only[if_neg hj]
theorem set_comm {i j:Nat} {x y:bA} (h:i≠j):(H.set i x).set j y=(H.set j y).set i x:=by funext k;unfold aA.set;by_cases h1:k=i<;>by_cases h2:k=j<;>simp_all
theorem ahP {l o:aY} (hc:Comm l o) {d:D} (hr: ∃r,l.op.kind= .q r) (hd:aU (msk b l.mask H) e l.op=some d) {S:dJ} {K:D→aA→Nat→dJ→Prop}
 (h:l8 P b o e H nx (entry b l e d++S) K):
 l8 P b o e H nx S fun d' H2 nx2 S2=>aU (msk b l.mask H2) e l.op=some d∧ ∃S3,K d' H2 nx2 S3∧ ∀p∈entry b l e d++S2,p∈S3:=by
 obtain⟨r,hr⟩:=hr
 have hread: ∀H2:aA,l.op.kind.xP=false→aU (msk b l.mask H2) e l.op=some d:=by
  intro H2 hf
  have:l.op.kind= .q false:=by
   rw[hr] at hf ⊢
   cases r with
   |false=>rfl
   |true=>simp[Kind.xP] at hf
  rw[Q7 this _ (msk b l.mask H)];exact hd
 unfold l8 at*
 split at h
 ·unfold aop at*;split at h
  ·obtain⟨d',h1,h2⟩:=h;refine⟨d',h1,hd,_,h2,fun p hp=> ?_⟩;simp only[o3] at hp ⊢;rcases hp with h|h|h;·exact .inr (.inl h)
   ·exact .inl h
   ·exact .inr (.inr h)
  ·rename_i hk;obtain⟨d',ob,h1,h2⟩:=h;refine⟨d',ob,h1,?_,_,h2,fun p hp=>hp⟩;by_cases hrb:l.op.kind.xP=true;·rw[PK (hc.rm hrb (by rw[hk];rfl))];exact hd
   ·exact hread _ (by simpa using hrb)
  ·rename_i hk;refine wX h fun d' H' nx' _ h1=>⟨fun p hp=>h1.1 p (o3.2 (.inr hp)),?_,_,h1.2,fun p hp=>hp⟩
   by_cases hrb:l.op.kind.xP=true;·obtain⟨e1,e2⟩:=hc.rl hrb (by rw[hk];rfl);exact h1.1 (l.ix,fun H'=>aU (msk b l.mask H') e l.op=some d) (o3.2 (.inl (by simp[entry,e1]))) e2
   ·exact hread _ (by simpa using hrb)
 ·exact⟨hd,_,h,fun p hp=>hp⟩
 ·exact h
theorem adX {l o:aY} (hc:Comm l o) (hm:l.op.kind= .a) {ob:bA} {S:dJ} (hS: ∀p∈S,∀H ob,p.2 (H.set (b+l.ix) ob)→p.2 H) {K:D→aA→Nat→dJ→Prop}
 (h:l8 P b o e (H.set (b+l.ix) ob) nx S K):l8 P b o e H nx S fun d' H2 nx2 S2=>K d' (H2.set (b+l.ix) ob) nx2 S2:=by
 have hmb:l.op.kind.SB=true:=by rw[hm];rfl
 unfold l8 at*
 split at h
 ·unfold aop at*;split at h
  ·rename_i r hk;obtain⟨d',h1,h2⟩:=h;refine⟨d',?_,h2⟩
   cases r with
   |true=>rw[PK (hc.mo hmb (.inl (by rw[hk];rfl)))] at h1;exact h1
   |false=>rw[Q7 hk _ (msk b o.mask H)] at h1;exact h1
  ·rename_i hk;obtain⟨d',ob',h1,h2⟩:=h;refine⟨d',ob',h1,?_⟩;show K _ _ _ _;rw[set_comm (by have:=hc.ne;omega)];exact h2
  ·rename_i hk;have hin:=hc.mo hmb (.inr (by rw[hk];rfl));rw[PK hin] at h;refine wX h fun d' H' nx' _ h1=> ?_;rw[agM hin] at h1;exact⟨fun p hp hq=>hS p hp _ ob (h1.1 p hp hq),h1.2⟩
 ·exact h
 ·exact h
theorem amL {o:aY} {S:dJ} {K:D→aA→Nat→dJ→Prop} (h:l8 P b o e H nx S K):
 (vI o.guard e=some false∧K (.tup []) H nx S)∨(vI o.guard e=some true∧((∃r d,o.op.kind= .q r∧aU (msk b o.mask H) e o.op=some d∧K d H nx (entry b o e d++S))∨
  (∃d ob,o.op.kind= .a∧lT (b+o.ix) e o.op=some (d,ob)∧K d (H.set (b+o.ix) ob) nx S)∨o.op.kind= .l)):=by
 unfold l8 at h
 split at h
 ·rename_i hg;refine .inr ⟨hg,?_⟩;unfold aop at h;split at h;·rename_i r hk;obtain⟨d,h1,h2⟩:=h;exact .inl ⟨r,d,hk,h1,h2⟩
  ·rename_i hk;obtain⟨d,ob,h1,h2⟩:=h;exact .inr (.inl ⟨d,ob,hk,h1,h2⟩)
  ·rename_i hk;exact .inr (.inr hk)
 ·rename_i hg;exact .inl ⟨hg,h⟩
 ·exact h.elim
theorem swap {l o:aY} (hc:Comm l o) {L:List aY} {S:dJ} (hS:l.op.kind= .a→∀p∈S,∀H ob,p.2 (H.set (b+l.ix) ob)→p.2 H) (h:avc P b Q (l::o::L) e H nx S):
 avc P b Q (o::l::L) e H nx S:=by
 have hlo: ∀d,∀t∈o.looks,(e.put l.dst d) t=e t:=fun d t ht=>WC fun h1=>hc.d1 t h1 ht
 have hol: ∀d,∀t∈l.looks,e t=(e.put o.dst d) t:=fun d t ht=>(WC fun h1=>hc.d3 t h1 ht).symm
 have hol': ∀d,∀t∈l.op.tms,e t=(e.put o.dst d) t:=fun d t ht=>hol d t (by simp[aY.looks,ht])
 have hg: ∀d,vI l.guard (e.put o.dst d)=vI l.guard e:=fun d=>(Q5 fun t w h1=>hol d t (by simp[aY.looks,h1])).symm
 have hpc: ∀d d',(e.put l.dst d).put o.dst d'=(e.put o.dst d').put l.dst d:=fun d d'=>put_comm hc.d2
 simp only[avc] at h ⊢
 rcases amL h with⟨hgv,h2⟩|⟨hgv,⟨r,d,hk,hd,h2⟩|⟨d,ob,hk,hd,h2⟩|hk⟩
 ·rw[JW (hlo _)] at h2;refine MH h2 fun d' H2 nx2 S2 h3=> ?_;unfold l8;rw[hg,hgv];show avc P b Q L _ _ _ _;rw[←hpc];exact h3
 ·rw[JW (hlo d)] at h2;refine MH (ahP hc ⟨r,hk⟩ hd h2) fun d' H2 nx2 S2 ⟨h3,S3,h4,h5⟩=> ?_;unfold l8;rw[hg,hgv];unfold aop;rw[hk];refine⟨d,by rw[←FI (hol' d')];exact h3,?_⟩;show avc P b Q L _ _ _ _;rw[←hpc,←NU (hol' d')];exact BD _ _ _ _ _ _ h5 h4
 ·rw[JW (hlo d)] at h2;refine MH (adX hc hk (hS hk) h2) fun d' H2 nx2 S2 h3=> ?_;unfold l8;rw[hg,hgv];unfold aop;rw[hk];refine⟨d,ob,by rw[←NO (hol' d')];exact hd,?_⟩;show avc P b Q L _ _ _ _;rw[←hpc];exact h3
 ·have:=hc.quiet;rw[hk] at this;simp[Kind.Q0] at this
def WG (b:Nat) (S:dJ) (L:List aY):Prop:=∀l∈L,l.op.kind= .a→∀p∈S,∀H ob,p.2 (H.set (b+l.ix) ob)→p.2 H
def MA (q l:aY):Bool:= !(q.look&&l.op.kind.SB)||q.mask.contains l.ix
theorem QS {q l:aY} (hm:MA q l=true) (hk:l.op.kind= .a) {d:D}: ∀p∈entry b q e d,∀H ob,p.2 (H.set (b+l.ix) ob)→p.2 H:=by
 intro p hp H ob h;unfold entry at hp;split at hp
 ·rename_i hl;simp only[CJ] at hp;subst hp;have hin:l.ix∈q.mask:=by simp only[MA,hl,hk,Kind.SB,Bool.and_self,Z1,Bool.false_or,Y9] at hm;exact hm
  simp only at h ⊢;rw[PK hin] at h;exact h
 ·simp at hp
theorem pull {o:aY} {L:List aY}: ∀(pre:List aY) (e:Env) (H:aA) (nx:Nat) (S:dJ),(∀l∈pre,Comm l o)→(pre++o::L).Pairwise (fun q l=>MA q l=true)→WG b S (pre++o::L)→
 avc P b Q (pre++o::L) e H nx S→avc P b Q (o::(pre++L)) e H nx S
 | [],_,_,_,_,_,_,_,h=>h
 |l::pre,e,H,nx,S,hc,hp,hf,h=>by
  have hp':=G0.1 hp
  have h1:avc P b Q (l::o::(pre++L)) e H nx S:=by
   simp only[List.cons_append,avc] at h ⊢
   have hrec: ∀d H' nx' S',(∀p∈S',p∈S∨p∈entry b l e d)→avc P b Q (pre++o::L) (e.put l.dst d) H' nx' S'→avc P b Q (o::(pre++L)) (e.put l.dst d) H' nx' S':=by
    intro d H' nx' S' hs h2;refine pull pre _ _ _ _ (fun l' hl'=>hc l' (by simp[hl'])) hp'.2 (fun l' hl' hk p hpm=> ?_) h2;rcases hs p hpm with h3|h3;·exact hf l' (by simp only[List.cons_append,t3];exact .inr hl') hk p h3
    ·exact QS (hp'.1 l' hl') hk p h3
   unfold l8 at*;split at h
   ·unfold aop at*;split at h;·obtain⟨d,h2,h3⟩:=h;exact⟨d,h2,hrec d _ _ _ (fun p hpm=>(o3.1 hpm).symm) h3⟩
    ·obtain⟨d,ob,h2,h3⟩:=h;exact⟨d,ob,h2,hrec d _ _ _ (fun p hpm=>.inl hpm) h3⟩
    ·exact wX h fun d H' nx' _ h2=>⟨h2.1,hrec d _ _ _ (fun p hpm=>.inl hpm) h2.2⟩
   ·exact hrec _ _ _ _ (fun p hpm=>.inl hpm) h
   ·exact h
  exact swap (hc l (by simp)) (fun hk=>hf l (by simp) hk) h1
end
def ab3 (P:Program) (f:Field) (i:Nat):Bool:=f.name != "_" &&f.offset==i&&(match P.underlying f.type with|some (.int .i64)=>true|_=>false)
def CZ (P:Program):Nat→List Field→Bool
 |_,[]=>true
 |i,f::r=>ab3 P f i&&CZ P (i+1) r
def GI (P:Program) (t:TypeId):Option Nat:=
 match P.underlying t with
 |some (.struct fs)=>if P.stoodInHeld t=false∧P.eqGuardType P.depth t=false∧CZ P 0 fs.toList=true then some fs.size else none
 |_=>none
def lD (l:List Int):List Value:=l.map fun n=>Value.int .i64 n
section
variable {P : Program}
theorem NP{f:Field}{i:Nat} (h:ab3 P f i=true):f.name≠"_" ∧f.offset=i∧P.underlying f.type=some (.int .i64):=by
 unfold ab3 at h;simp only[q7,bne_iff_ne,ne_eq,beq_iff_eq] at h;obtain⟨⟨h1,h2⟩,h3⟩:=h;refine⟨h1,h2,?_⟩;split at h3;·assumption
 ·cases h3
variable{t:TypeId}
theorem SN (w:World) (hu:P.underlying t=some (.int .i64)){xs:Array Value}{i:Nat}{a:List Int}{x:Int} (h:xs.toList.drop i=lD (x::a)):(part t xs i).run P w= .ok (.int .i64 x) w∧xs.toList.drop (i+1)=lD a:=by
 have h1:xs.toList[i]?=some (.int .i64 x):=by have:=congrArg (·[0]?) h;simpa [lD] using this
 refine⟨?_,?_⟩;·rw[Y7] at h1;simp[part,isAgg,run_underlying hu,h1]
 ·have:=congrArg (List.drop 1) h;rw[Y2] at this;simpa [lD] using this
theorem IB (w:World) (d:Nat) (xs ys:Array Value): ∀(fs:List Field) (i:Nat) (a b:List Int),CZ P i fs=true→xs.toList.drop i=lD a→ys.toList.drop i=lD b→a.length=fs.length→b.length=fs.length→
 (Op.eqFields (d+1) xs ys fs).run P w= .ok (decide (a=b)) w
 | [],i,a,b,_,_,_,ha,hb=>by rw[H4.1 ha,H4.1 hb];simp[Op.eqFields]
 |f::fs,i,[],b,_,_,_,ha,_=>by simp at ha
 |f::fs,i,x::a,[],_,_,_,_,hb=>by simp at hb
 |f::fs,i,x::a,y::b,hf,hx,hy,ha,hb=>by
  simp only[CZ,q7] at hf;obtain⟨h1,h2,h3⟩:=NP hf.1;obtain⟨p1,q1⟩:=SN w h3 hx;obtain⟨p2,q2⟩:=SN w h3 hy;have ih:=IB w d xs ys fs (i+1) a b hf.2 q1 q2 (by simpa using ha) (by simpa using hb);simp only[Op.eqFields,h1,h2,ne_eq,not_false_eq_true,if_true,Sem.run_bind,p1,p2,Result.andThen_ok,run_equalIn_int w d f.type .i64 .i64 x y h3];by_cases hxy:x=y;·subst hxy;simp[ih]
  ·simp[hxy]
theorem CN{n:Nat} (h:GI P t=some n): ∃fs:Array Field,P.underlying t=some (.struct fs)∧P.fieldsOf t=fs∧P.stoodInHeld t=false∧P.eqGuardType P.depth t=false∧CZ P 0 fs.toList=true∧fs.size=n:=by
 unfold GI at h;split at h
 ·rename_i fs hu;split at h;·rename_i hc;exact⟨fs,hu,by simp[Program.fieldsOf,hu],hc.1,hc.2.1,hc.2.2,by simpa using h⟩
  ·cases h
 ·cases h
theorem SW (w:World){n:Nat} (h:GI P t=some n){a b:List Int} (ha:a.length=n) (hb:b.length=n):(Op.equal t (.agg (lD a).toArray) (.agg (lD b).toArray)).run P w= .ok (decide (a=b)) w:=by obtain⟨fs,h1,h2,h3,_,h5,h6⟩:=CN h;have h7:=run_equalIn_struct w 9999 t (lD a).toArray (lD b).toArray (by rw[h2];exact h1) h3;rw[h2,IB w 9998 _ _ fs.toList 0 a b h5 (by simp) (by simp) (by simpa using ha.trans h6.symm) (by simpa using hb.trans h6.symm)] at h7;exact h7
theorem KY (w:World) (em:Bool) (hu:P.underlying t=some (.int .i64)) (d:Nat) (x:Int):(Instr.checkKey em (d+1) t (.int .i64 x)).run P w= .ok () w:=by simp[Instr.checkKey,run_underlying hu]
theorem TY (w:World) (em:Bool){n:Nat} (h:GI P t=some n){a:List Int} (ha:a.length=n):(Instr.checkKey em 10000 t (.agg (lD a).toArray)).run P w= .ok () w:=by
 obtain⟨fs,h1,_,_,_,h5,h6⟩:=CN h
 have key: ∀(L:List Field) (i:Nat) (xs:Array Value) (b:List Int),CZ P i L=true→xs.toList.drop i=lD b→b.length=L.length→
  (forIn L PUnit.unit fun f _=>do
   if f.name≠"_" then Instr.checkKey em 9999 f.type (←part f.type xs f.offset)
   pure (ForInStep.yield PUnit.unit):Sem PUnit).run P w= .ok PUnit.unit w:=by
  intro L
  induction L with
  |nil=>intro i xs b _ _ _;simp
  |cons f L ih=>
   intro i xs b hf hx hb
   match b,hb with
   |x::b,hb=>simp only[CZ,q7] at hf;obtain⟨g1,g2,g3⟩:=NP hf.1;obtain⟨p1,q1⟩:=SN w g3 hx;have:=ih (i+1) xs b hf.2 q1 (by simpa using hb);simp only[List.forIn_cons,Sem.run_bind,g1,g2,ne_eq,not_false_eq_true,if_true,p1,Result.andThen_ok,KY w em g3 9998 x,Sem.run_pure];exact this
 have:=key fs.toList 0 (lD a).toArray a h5 (by simp) (by simpa using ha.trans h6.symm);rw[show (10000:Nat)=9999+1 from rfl,Instr.checkKey];simp only[Sem.run_bind,run_underlying h1,Result.andThen_ok];rw[←Array.forIn_toList];simp at this ⊢;rw[this];rfl
def lkM:List (List Int×Int)→List Int→Nat→Option (Nat×Int)
 | [],_,_=>none
 |p::r,l,i=>if l=p.1 then some (i,p.2) else lkM r l (i+1)
def CD (kn:Nat) (bl:Bool) (p:List Int×Int):Value×Value:=(pJ kn p.1,elemV bl p.2)
def ZJ (P:Program) (t:TypeId):Option Nat:=
 match P.underlying t with
 |some (.int .i64)=>some 0
 |_=>match GI P t with
  |some n=>if n=0 then none else some n
  |none=>none
theorem V6{kn:Nat} (h:ZJ P t=some kn):(kn=0∧P.underlying t=some (.int .i64))∨(0<kn∧GI P t=some kn):=by
 unfold ZJ at h;split at h;·rename_i hu;cases h;exact .inl ⟨rfl,hu⟩
 ·split at h
  ·rename_i n hn;split at h;·cases h
   ·rename_i h0;cases h;exact .inr ⟨Nat.pos_of_ne_zero h0,hn⟩
  ·cases h
variable{l:List Int}
theorem YV (h:l.length=1):l=[l.headD 0]:=by
 match l,h with
 | [x],_=>rfl
theorem DU (w:World) {t:TypeId} {kn:Nat} (hk:0<kn) (h:GI P t=some kn) {bl:Bool} {l:List Int} (hl:l.length=kn): ∀(es:List MapEntry) (m:List (List Int×Int)) (i:Nat),(es.map fun e=>(e.key,e.val))=m.map (CD kn bl)→(∀p∈m,p.1.length=kn)→
 (Instr.findAsking t (pJ kn l) es i).run P w= .ok ((lkM m l i).map fun q=>(q.1,elemV bl q.2)) w
 | [],[],i,_,_=>by simp[Instr.findAsking,lkM]
 | [],p::m,i,hm,_=>by simp at hm
 |e::es,[],i,hm,_=>by simp at hm
 |e::es,p::m,i,hm,ho=>by
  simp only[n3,List.cons.injEq,CD,Prod.mk.injEq] at hm;obtain⟨⟨h1,h2⟩,h3⟩:=hm;have hne: ¬kn=0:=by omega
  have he:=SW w h (a:=l) (b:=p.1) hl (ho p (by simp));have hke:pJ kn l= .agg (lD l).toArray:=by simp[pJ,hne,lD]
  have hkp:e.key= .agg (lD p.1).toArray:=by rw[h1];simp[pJ,hne,lD]
  have ih:=DU w hk h (bl:=bl) hl es m (i+1) h3 fun q hq=>ho q (by simp[hq]);simp only[Instr.findAsking,Sem.run_bind,lkM];rw[hkp,hke,he];rw[hke] at ih;by_cases heq:l=p.1;·simp[heq,h2]
  ·simp[heq,ih]
theorem NK {bl:Bool} {l:List Int} (hl:l.length=1): ∀(es:List MapEntry) (m:List (List Int×Int)) (i:Nat),(es.map fun e=>(e.key,e.val))=m.map (CD 0 bl)→(∀p∈m,p.1.length=1)→
 Instr.findNow (.int .i64) (pJ 0 l) es i=some ((lkM m l i).map fun q=>(q.1,elemV bl q.2))
 | [],[],i,_,_=>by simp[Instr.findNow,lkM]
 | [],p::m,i,hm,_=>by simp at hm
 |e::es,[],i,hm,_=>by simp at hm
 |e::es,p::m,i,hm,ho=>by
  simp only[n3,List.cons.injEq,CD,Prod.mk.injEq] at hm;obtain⟨⟨h1,h2⟩,h3⟩:=hm;have ih:=NK (bl:=bl) hl es m (i+1) h3 fun q hq=>ho q (by simp[hq]);have e1:=YV hl;have e2:=YV (ho p (by simp));simp only[Instr.findNow,lkM];have hs:Instr.sameNow (.int .i64) (pJ 0 l) e.key=some (decide (l=p.1)):=by rw[h1,e1,e2];simp only[pJ,if_true,Instr.sameNow,List.headD_cons,List.cons.injEq,and_true];rfl
  rw[hs];by_cases heq:l=p.1;·simp[heq,h2]
  ·simp only[heq,decide_false,if_false];exact ih
theorem J6 (w:World){kn:Nat} (h:ZJ P t=some kn){bl:Bool} (hl:l.length=zV kn){es:List MapEntry}{m:List (List Int×Int)} (hm:(es.map fun e=>(e.key,e.val))=m.map (CD kn bl)) (ho: ∀p∈m,p.1.length=zV kn):
 (Instr.findKey t (pJ kn l) es).run P w= .ok ((lkM m l 0).map fun q=>(q.1,elemV bl q.2)) w:=by
 rcases V6 h with⟨rfl,hu⟩|⟨hk,hf⟩
 ·have:=NK (bl:=bl) (l:=l) (by simpa [zV] using hl) es m 0 hm (by simpa [zV] using ho);simp only[Instr.findKey,Sem.run_bind,run_underlying hu,Result.andThen_ok,this,Sem.run_pure]
 ·have hk0:zV kn=kn:=by unfold zV;rw[if_neg (by omega)]
  rw[hk0] at hl ho;have ha:=DU w hk hf (bl:=bl) hl es m 0 hm ho;obtain⟨fs,h1,_⟩:=CN hf
  match es,m,hm with
  | [],[],_=>simp only[Instr.findKey,Sem.run_bind,run_underlying h1,Result.andThen_ok,Instr.findNow,Sem.run_pure,lkM,Option.map_none]
  |e::es,m,hm=>have hn:Instr.findNow (.struct fs) (pJ kn l) (e::es) 0=none:=(by simp[Instr.findNow,Instr.sameNow]);simp only[Instr.findKey,Sem.run_bind,run_underlying h1,Result.andThen_ok,hn];exact ha
theorem H6 (w:World) (em:Bool){kn:Nat} (h:ZJ P t=some kn) (hl:l.length=zV kn):(Instr.checkKey em 10000 t (pJ kn l)).run P w= .ok () w:=by
 rcases V6 h with⟨rfl,hu⟩|⟨hk,hf⟩
 ·simp only[pJ,if_true];exact KY w em hu 9999 _
 ·have hk0:zV kn=kn:=by unfold zV;rw[if_neg (by omega)]
  have hke:pJ kn l= .agg (lD l).toArray:=by simp[pJ,show ¬kn=0 by omega,lD]
  rw[hke];exact TY w em hf (by omega)
theorem XW (l:List Int):((lD l).zip (lD l)).all (fun(x,y)=>Instr.sameBits 9999 x y)=true:=by
 induction l with
 |nil=>rfl
 |cons x l ih=>simp only[lD,n3,List.zip_cons_cons,List.all_cons];rw[show (Instr.sameBits 9999 (Value.int .i64 x) (Value.int .i64 x))=true by simp[Instr.sameBits]];exact ih
theorem afA (w:World){kn:Nat}:(Instr.keyThatStays (pJ kn l) (pJ kn l)).run P w= .ok (pJ kn l) w:=by
 have:Instr.sameBits 10000 (pJ kn l) (pJ kn l)=true:=by
  unfold pJ;split;·simp[Instr.sameBits]
  ·have:=XW l;simp only[lD] at this;simp only[Instr.sameBits,beq_self_eq_true,btQ];exact this
 simp[Instr.keyThatStays,this]
def getM (m:List (List Int×Int)) (l:List Int):Option Int:=(lkM m l 0).map (·.2)
theorem aaL: ∀(m:List (List Int×Int)) (l:List Int) (i:Nat),(lkM m l i).map (·.2)=jT m l
 | [],l,i=>rfl
 |p::m,l,i=>by
  simp only[lkM,jT,List.find?_cons];by_cases h:l=p.1;·simp[h]
  ·simp only[h,if_false,decide_false];exact aaL m l (i+1)
theorem anX (m:List (List Int×Int)) (l:List Int):getM m l=jT m l:=aaL m l 0
theorem WR: ∀(m:List (List Int×Int)) (l:List Int) (n:Int) (i:Nat),lkM m l i=none→vA m l n=m++[(l,n)]
 | [],l,n,i,_=>rfl
 |p::m,l,n,i,h=>by
  simp only[lkM] at h;split at h;·cases h
  ·rename_i hne;simp only[vA,hne,if_false,List.cons_append];rw[WR m l n (i+1) h]
theorem WB: ∀(m:List (List Int×Int)) (l:List Int) (n:Int) (i:Nat) (q:Nat×Int),lkM m l i=some q→∃j,q.1=i+j∧j<m.length∧m[j]?=some (l,q.2)∧vA m l n=m.set j (l,n)
 | [],l,n,i,q,h=>by cases h
 |p::m,l,n,i,q,h=>by
  simp only[lkM] at h;split at h;·rename_i heq;cases h;exact⟨0,rfl,by simp,by simp[heq],by simp[vA,heq]⟩
  ·rename_i hne;obtain⟨j,h1,h2,h3,h4⟩:=WB m l n (i+1) q h;exact⟨j+1,by omega,by simp;omega,by simpa using h3,by simp[vA,hne,h4]⟩
theorem al3{m:List (List Int×Int)}{n:Int}{k:Nat} (h: ∀p∈m,p.1.length=k) (hl:l.length=k): ∀p∈vA m l n,p.1.length=k:=by
 induction m with
 |nil=>intro p hp;simp[vA] at hp;subst hp;exact hl
 |cons p m ih=>
  intro q hq;simp only[vA] at hq;split at hq
  ·rcases t3.1 hq with rfl|hq;·exact hl
   ·exact h q (by simp[hq])
  ·rcases t3.1 hq with rfl|hq;·exact h _ (by simp)
   ·exact ih (fun p hp=>h p (by simp[hp])) q hq
theorem PT{x:mH}:x.rows=x.m.map (CD x.kn x.bl):=rfl
theorem adZ (w:World){kt et:TypeId}{b:Nat}{x:mH} (hu:P.underlying t=some (.map kt et)) (hk:ZJ P kt=some x.kn) (hz:(zeroValue et).run P w= .ok (elemV x.bl 0) w) (hm:NZ w.heap[b]? x) (hl:l.length=zV x.kn) (ok:Bool):
 (Instr.lookup t (.map (some b)) (pJ x.kn l) ok).run P w= .ok (if ok then .tuple #[elemV x.bl ((getM x.m l).getD 0),.bool (getM x.m l).isSome] else elemV x.bl ((getM x.m l).getD 0)) w:=by
 obtain⟨es,clock,h1,h2,h3⟩:=hm
 have hf:=J6 w hk hl (es:=es.toList) (m:=x.m) (by rw[h2];rfl) h3
 have hc:=H6 w es.isEmpty hk hl
 have hg:(getObj b).run P w= .ok (.map es clock) w:=by simp[getObj,Sem.run,h1]
 simp only[Instr.lookup,Sem.run_bind,run_underlying hu,Result.andThen_ok,hg,Sem.run_pure,hc,hf]
 unfold getM
 cases lkM x.m l 0 with
 |none=>cases ok<;>simp[hz]
 |some q=>cases ok<;>simp
theorem acU (w:World){kt et:TypeId}{b:Nat}{x:mH} (hu:P.underlying t=some (.map kt et)) (hk:ZJ P kt=some x.kn) (hm:NZ w.heap[b]? x) (hl:l.length=zV x.kn) (n:Int):
 ∃es' clock',(Instr.mapUpdate t (.map (some b)) (pJ x.kn l) (elemV x.bl n)).run P w= .ok () {w with heap:=w.heap.set! b (.map es' clock')}∧NZ (some (.map es' clock')) ⟨x.kn,x.bl,vA x.m l n⟩:=by
 obtain⟨es,clock,h1,h2,h3⟩:=hm
 have hf:=J6 w hk hl (es:=es.toList) (m:=x.m) (by rw[h2];rfl) h3
 have hc:=H6 w false hk hl
 have hg:(getObj b).run P w= .ok (.map es clock) w:=by simp[getObj,Sem.run,h1]
 have hok:mH.ok ⟨x.kn,x.bl,vA x.m l n⟩:=al3 h3 hl
 have hset: ∀o:Obj,(setObj b o).run P w= .ok () {w with heap:=w.heap.set! b o}:=fun o=>by obtain⟨hlt,h9⟩:=C4.1 h1;simp[setObj,Sem.run,hlt,h9]
 cases hq:lkM x.m l 0 with
 |none=>
  refine⟨es.push ⟨pJ x.kn l,elemV x.bl n,clock⟩,clock+1,?_,_,_,rfl,?_,hok⟩;·simp only[Instr.mapUpdate,Sem.run_bind,run_underlying hu,Result.andThen_ok,hg,hc,hf,hq,Option.map_none,hset]
  ·simp only[Array.toList_push,bqX,h2,PT,WR x.m l n 0 hq,n3,q0,CD]
 |some q=>
  obtain⟨j,g1,g2,g3,g4⟩:=WB x.m l n 0 q hq;have hj:es[j]?.map (fun e=>(e.key,e.val))=some (pJ x.kn l,elemV x.bl q.2):=by have:=congrArg (·[j]?) h2;simp only[p0,PT,g3,Option.map_some,CD] at this;rw[Y7] at this;exact this
  have hjk:(es[j]?.map (·.key)).getD (pJ x.kn l)=pJ x.kn l:=by
   cases he:es[j]? with
   |none=>rfl
   |some e=>rw[he] at hj;simp at hj;simp[hj.1]
  have g1':q.1=j:=by omega
  refine⟨es.modify j fun e=>{e with key:=pJ x.kn l,val:=elemV x.bl n},clock,?_,_,_,rfl,?_,hok⟩;·simp only[Instr.mapUpdate,Sem.run_bind,run_underlying hu,Result.andThen_ok,hg,hc,hf,hq,Option.map_some,g1',hjk,afA,hset]
  ·simp only[Array.toList_modify,PT,g4];apply List.ext_getElem?;intro i;have hi:=congrArg (·[i]?) h2;simp only[p0,PT] at hi;simp only[p0,List.getElem?_modify,D0];by_cases hij:j=i
   ·subst hij;simp only[if_true,g2]
    cases he:es.toList[j]? with
    |none=>rw[he,g3] at hi;simp at hi
    |some e=>simp[CD]
   ·simp only[hij,if_false]
    cases he:es.toList[i]? with
    |none=>rw[he] at hi;simpa using hi
    |some e=>rw[he] at hi;simpa using hi
end
def aq1 (P:Program) (b:Builtin) (args:List Operand) (ts:List TypeId):Option AOp:=
 match b,args,ts with
 | .len,[x],[t]=>match P.underlying t,trO x with
   |some (.map _ _),some x=>some (.xop .sS [x])
   |_,_=>none
 | .copy,[x,y],[t,_]=>match d9 P t,trO x,trO y with
   |some (_,n),some x,some y=>some (.xop (.copy n) [x,y])
   |_,_,_=>none
 | .clear,[x],[t]=>match d9 P t,trO x with
   |some (el,n),some x=>match zeroOf P el with
    |some z=>if z.length=n then some (.xop (.clear n z) [x]) else none
    |none=>none
   |_,_=>none
 |_,_,_=>none
def ap3 (P:Program) (t:TypeId):Option Bool:=
 match P.info? t with
 |some i=>match i.zero with
  |some (.bool false)=>some true
  |some (.int .i64 0)=>some false
  |_=>none
 |none=>none
def RC (P:Program) (t:TypeId):Option (Nat×Bool):=
 match P.underlying t with
 |some (.map kt et)=>match ZJ P kt,ap3 P et with
  |some kn,some bl=>some (kn,bl)
  |_,_=>none
 |_=>none
def trX (P:Program):Op→Option AOp
 | .makeFunc (.func f) first caps=>if first.size=0 then (caps.toList.mapM trO).map (.xop (.zI f)) else none
 | .binOp .eql t x (.const (.slice none 0 0)) _=>match P.underlying t,trO x with
   |some (.slice _),some y=>some (.xop (.qJ false) [y])
   |_,_=>none
 | .binOp .neq t x (.const (.slice none 0 0)) _=>match P.underlying t,trO x with
   |some (.slice _),some y=>some (.xop (.qJ true) [y])
   |_,_=>none
 | .binOp .eql t x y _=>match GI P t,trO x,trO y with
   |some n,some x,some y=>some (.xop (.aeq false n) [x,y])
   |_,_,_=>none
 | .binOp .neq t x y _=>match GI P t,trO x,trO y with
   |some n,some x,some y=>some (.xop (.aeq true n) [x,y])
   |_,_,_=>none
 | .makeMap t none=>(RC P t).map fun p=>.xop (.DS p.1 p.2) []
 | .lookup t x k ok=>match RC P t,trO x,trO k with
   |some p,some x,some k=>some (.xop (.rA p.1 p.2 ok) [x,k])
   |_,_,_=>none
 | .mapUpdate t x k v=>match RC P t,trO x,trO k,trO v with
   |some p,some x,some k,some v=>some (.xop (.vM p.1 p.2) [x,k,v])
   |_,_,_,_=>none
 | .call cl=>match cl.callee with
   | .builtin b=>aq1 P b cl.args.toList cl.argTypes.toList
   |_=>none
 |_=>none
def trE (P:Program):Op→Option AOp
 | .call cl=>match cl.callee with
   | .value (.func f)=>match P.funcs[f]? with
     |some fn=>if fn.body.isNone then (cl.args.toList.mapM trO).map (.xop (.aaN f)) else none
     |none=>none
   |_=>none
 |_=>none
def LC (P:Program) (op:Op):AOp:=
 match trE P op with
 |some o=>o
 |none=>match F3 P op with
  |some o=>o
  |none=>match trX P op with
   |some o=>o
   |none=>.xop .bad []
section
variable {P : Program} {c : Cf} {H : aA} {T : Nat} {e : Env} {a : Act}
theorem KS: ∀(ds:List D) (caps:List D1),G2 ds=some caps→ds=caps.map (fun d=>.one (.c d))∧ ∀(d:D1) (x:Value),d∈caps→Rel c d x→bY c d x
 | [],caps,h=>by simp only[G2,Option.some.injEq] at h;subst h;simp
 |d::ds,caps,h=>by
  unfold G2 at h;split at h;·rename_i heq;cases heq
  ·cases h
  ·rename_i d0 r hn heq;simp only[m4] at h;obtain⟨cs,h1,rfl⟩:=h;simp only[List.cons.injEq] at heq;obtain⟨e1,e2⟩:=heq;subst e2;obtain⟨h2,h3⟩:=KS ds cs h1;refine⟨by simp[e1,h2],fun d x hd hx=> ?_⟩;rcases t3.1 hd with rfl|hd
   ·cases d with
    |clo f cc=>exact(hn f cc rfl).elim
    |_=>simpa only[Rel] using hx
   ·exact h3 d x hd hx
  ·cases h
variable{o:Oper}
theorem apN (he:ER c T e a){f:FuncId}{first caps:Array Operand}{l:List aT}{d:D} (ho:o.op= .makeFunc (.func f) first caps) (hf:first.size=0) (hl:caps.toList.mapM trO=some l)
 (hq:xq (.zI f) (l.map (·.ev e))=some d):kF P c a o d:=by
 simp only[xq,m4] at hq
 obtain⟨cs,h1,rfl⟩:=hq
 obtain⟨h2,h3⟩:=FH he _ _ hl
 obtain⟨h4,h5⟩:=KS (c:=c) _ _ h1
 have hfirst:first= #[]:=by apply Array.eq_empty_of_size_eq_zero hf
 refine⟨.func (.func f) #[] (caps.toList.map a.eval).toArray,?_,?_⟩
 ·have:(caps.toList.map a.eval).toArray=caps.map a.eval:=by apply x2;simp
  simp[execOp,ho,hfirst,Instr.makeFunc,this]
 ·refine⟨_,rfl,?_,fun i d u hd hu=> ?_⟩;·have:=congrArg List.length h4;simp at this h2 ⊢;omega
  ·have:=h3 i (.one (.c d)) u (by rw[h4];simp[hd]) hu;exact h5 d u (s3 hd) this
variable{t:TypeId}{x:Operand}
theorem L2{neg:Bool}{el:TypeId}{t':TypeId}{A:Option Addr}{len cap:Nat} (ho:o.op= .binOp (if neg then .neq else .eql) t x (.const (.slice none 0 0)) t')
 (hu:P.underlying t=some (.slice el)) (hx:a.eval x= .slice A len cap):(execOp a.eval o).run P c.w= .ok (.value (.bool (if neg then A.isSome else A.isNone))) c.w:=by
 have heq:(Op.equal t (.slice A len cap) (.slice none 0 0)).run P c.w= .ok A.isNone c.w:=by
  have: ∀d,(Op.equalIn (d+1) t (.slice A len cap) (.slice none 0 0)).run P c.w= .ok A.isNone c.w:=fun d=>by cases A<;>simp only[Op.equalIn,Sem.run_bind,run_underlying hu,Result.andThen_ok,Sem.run_pure]<;>rfl
  exact this 9999
 have hk: ∀v,a.eval (.const v)=v:=fun _=>rfl
 cases neg
 ·simp only[execOp,ho,hx,hk,CC,if_false,eqGuard,binOp,Sem.run_bind,Result.andThen_ok,Sem.run_pure];simp[heq]
 ·simp only[execOp,ho,hx,hk,if_true,eqGuard,binOp,Sem.run_bind,Result.andThen_ok,Sem.run_pure];cases A<;>simp[heq]
def ZH (P:Program) (c:Cf) (a:Act) (o:Oper) (H H':aA) (d:D) (id:Nat):Prop:=∃v c',(execOp a.eval o).run P c.w= .ok (.value v) c'.w∧St c' H'∧Step c H c' H'∧fD c' d v∧ ∀i,c'.N i→c.N i∨i=id
theorem alW{d:D}{k:Nat} (h:apP d=some k){x:Value} (hr:fD c d x): ∃A cap,x= .slice A k cap∧k≤cap∧ ∀j,j≤k→fD c (WT j d) (.slice A j cap):=by
 unfold apP at h;split at h
 ·rename_i rows;cases h;simp only[fD,jZ,Rel,bY] at hr
  cases hr with
  |isl _ A cap n b o f ha hcap hn hc hrr=>
   refine⟨A,cap,rfl,hcap,fun j hj=> ?_⟩;simp only[WT,fD,jZ,Rel,bY];have hl:(rows.take j).length=j:=by simp;omega
   have hg: ∀(i:Nat) (r:List D1),(rows.take j)[i]?=some r→rows[i]?=some r:=by
    intro i r hr;rw[s4] at hr;split at hr;·exact hr
    ·cases hr
   have key:=Imm.isl (I:=c.I) (w:=c.w) (rows.take j) A cap n b o f (fun hne=>ha (by rintro rfl;simp at hne)) (by omega) (fun i r h=>hn i r (hg i r h)) (fun i k r d h1 h2=>hc i k r d (hg i r h1) h2) (fun i k r d h1 h2=>hrr i k r d (hg i r h1) h2);rw[hl] at key;exact key
 ·rename_i m id off len cap;simp only[Option.some.injEq] at h;subst h;simp only[fD,jZ,Rel,bY] at hr;obtain⟨hlc,⟨h0,A,rfl⟩|⟨h0,h1,rfl⟩⟩:=hr;·have hl0:len=0:=(by omega);subst hl0;refine⟨A,0,rfl,m5 _,fun j hj=> ?_⟩;have:j=0:=(by omega);subst this;simp only[WT,fD,jZ,Rel,bY];exact⟨by omega,.inl ⟨h0,A,rfl⟩⟩
  ·refine⟨_,cap,rfl,hlc,fun j hj=> ?_⟩;simp only[WT,fD,jZ,Rel,bY];exact⟨by omega,.inr ⟨h0,h1,by first|rfl|trivial⟩⟩
 ·cases h
variable{x':aT}
theorem arN (hs:St c H) (he:ER c T e a){t' el:TypeId}{y:Operand}{y':aT}{n sid k id:Nat}{ob:bA} (ho:o.op= .call {callee:=.builtin .copy,args:=#[x,y],argTypes:=#[t,t']})
 (hse:d9 P t=some (el,n)) (hx:trO x=some x') (hy:trO y=some y') (hq:VX H n (x'.ev e) (y'.ev e)=some (sid,ob,k)):ZH P c a o H (H.set sid ob) (.one (.c (.v (.int .i64 k)))) id:=by
 obtain⟨hu,hsz,_⟩:=lI hse c.w
 generalize hvx:x'.ev e=dx at hq
 unfold VX at hq
 split at hq
 ·rename_i m did off len cap;split at hq
  ·rename_i o0 ls ho0 hls;split at hq
   ·rename_i new hsrc;split at hq
    ·rename_i hc;obtain⟨e1,e2,hn,hcap,hext,hoff,hfit⟩:=hc;cases hq;obtain⟨A,cy,hyv,_,htake⟩:=alW hls (lP he hy);obtain⟨B,cx,news,hxv,hfn,hfx⟩:=abP (P:=P) hs hn hsrc (htake (min ls len) (Nat.min_le_left _ _));simp only[Value.slice.injEq] at hxv;obtain⟨rfl,hnewl,rfl⟩:=hxv;have hrx:=qD he hx hvx;simp only[Rel,bY] at hrx;obtain⟨_,⟨h0,_⟩|⟨_,hNs,hax⟩⟩:=hrx;·omega
     ·subst e1;subst e2;obtain⟨c',h1,h2,h3,h4⟩:=SS (P:=P) hs ho0 hext hoff hn hfn (by omega);refine⟨.int .i64 (min ls len:Nat),c',?_,h2,h3,oU,fun i hi=>.inl ((h4 i).1 hi)⟩;have hfx':=hfx c.w rfl;rw[←hnewl] at hfx';have hmin:Nat.min ls len=min ls len:=rfl;have hfc:(Builtin.firstCells o0.n (min ls len) (.slice A ls cy)).run P c.w= .ok news.toArray c.w:=by rw[←hfx'];cases A<;>rfl
      have hrun:(Builtin.copy_ #[t,t'] o.type #[.slice (some ⟨(c.ρ sid).1,(c.ρ sid).2+off*o0.n,none⟩) len cap,.slice A ls cy]).run P c.w= .ok (.int .i64 (min ls len:Nat)) c'.w:=(by simp only[Builtin.copy_,CH,List.getElem?_cons_zero,List.getElem?_cons_succ,Sem.run_bind,run_underlying hu,Result.andThen_ok,Builtin.lenOf,Sem.run_pure,hsz,hmin,hfc,h1];rfl);simp only[execOp,ho,resolve,invoke,builtin,Sem.run_bind,Sem.run_pure,Result.andThen_ok,C1,n3,q0,hax,hyv,hrun]
    ·cases hq
   ·cases hq
  ·cases hq
 ·cases hq
theorem F6{n k:Nat}{z:List D1}{zv:Array Value} (hz:rU c z zv.toList) (hn:0<n) (hzn:z.length=n):y8 c n (List.replicate k z) (Builtin.zeroCells zv k).toList:=by
 have hzs:zv.size=n:=by have:=hz.1;simp at this;omega
 have hget: ∀i,i<k*n→(Builtin.zeroCells zv k).toList[i]?=some (zv[i%n]!):=by intro i hi;simp[Builtin.zeroCells,hzs,hi]
 refine⟨by simp[Builtin.zeroCells,hzs],fun i r hr=> ?_,fun i j r d h1 h2=> ?_⟩
 ·rw[boJ] at hr;split at hr;·cases hr;exact hzn
  ·cases hr
 ·rw[boJ] at h1;split at h1;·rename_i hi;cases h1;have hj:j<n:=(by rw[←hzn];exact(m3.1 h2).1);refine⟨_,hget _ (M7 hj hi),?_⟩;have hm:(i*n+j)%n=j:=(by rw[w1,Nat.mul_add_mod,C9 hj]);rw[hm];have hjz:j<zv.size:=(by omega);apply hz.2 j d _ h2;simp[hjz]
  ·cases h1
theorem aoJ (hs:St c H) (he:ER c T e a){el:TypeId}{z:List D1}{n sid id:Nat}{ob:bA} (ho:o.op= .call {callee:=.builtin .clear,args:=#[x],argTypes:=#[t]})
 (hse:d9 P t=some (el,n)) (hz:zeroOf P el=some z) (hzn:z.length=n) (hx:trO x=some x') (hq:MN H n z (x'.ev e)=some (sid,ob)):ZH P c a o H (H.set sid ob) (.tup []) id:=by
 obtain⟨hu,hsz,_⟩:=lI hse c.w
 obtain⟨zv,hz1,hz2,hz3,hz4,_⟩:=mF (c:=c) hz c.w
 generalize hvx:x'.ev e=dx at hq
 unfold MN at hq
 split at hq
 ·rename_i m did off len cap;split at hq
  ·rename_i o0 ho0;split at hq
   ·rename_i hc;obtain⟨e1,e2,hn,hcap,hext,hoff,hfit⟩:=hc;cases hq;have hrx:=qD he hx hvx;simp only[Rel,bY] at hrx;obtain⟨_,⟨h0,_⟩|⟨_,hNs,hax⟩⟩:=hrx;·omega
    ·subst e1;subst e2;have hfn:=F6 (k:=len) hz2 hn hzn;obtain⟨c',h1,h2,h3,h4⟩:=SS (P:=P) hs ho0 hext hoff hn hfn (by simpa using hfit);have hrel:fD c' (.tup []) (.tuple #[]):=⟨[],rfl,rfl,by simp⟩
     refine⟨.tuple #[],c',?_,h2,h3,hrel,fun i hi=>.inl ((h4 i).1 hi)⟩
     have hrun:(Builtin.clear_ #[t] o.type #[.slice (some ⟨(c.ρ sid).1,(c.ρ sid).2+off*o0.n,none⟩) len cap]).run P c.w= .ok (.tuple #[]) c'.w:=by
      cases len with
      |zero=>have:Builtin.zeroCells zv.cells 0= #[]:=(by simp[Builtin.zeroCells]);rw[this] at h1;simp[storeCells] at h1;simp[Builtin.clear_,run_underlying hu,←h1]
      |succ k=>simp only[Builtin.clear_,CH,List.getElem?_cons_zero,Sem.run_bind,run_underlying hu,Result.andThen_ok,hz1,h1,Sem.run_pure]
     simp only[execOp,ho,resolve,invoke,builtin,Sem.run_bind,Sem.run_pure,Result.andThen_ok,C1,n3,q0,hax,hrun]
   ·cases hq
  ·cases hq
 ·cases hq
theorem G4: ∀{cs:List D1} {l:List Int} {vs:List Value},xY cs=some l→rU c cs vs→vs=lD l∧l.length=cs.length
 | [],l,vs,h,hr=>by simp only[xY,Option.some.injEq] at h;subst h;have:=hr.1;simp only[List.length_nil,H4] at this;exact⟨this,rfl⟩
 |d::cs,l,vs,h,hr=>by
  unfold xY at h;split at h;·rename_i heq;cases heq
  ·rename_i n r heq;cases heq;simp only[m4] at h;obtain⟨l0,h1,rfl⟩:=h
   match vs,hr with
   | [],hr=>simp[rU] at hr
   |v::vs,hr=>have hv:=x6 (hr.2 0 _ v rfl rfl);have ih:=G4 h1 (vs:=vs) ⟨by have:=hr.1;simpa using this,fun i d u a b=>hr.2 (i+1) d u (by simpa using a) (by simpa using b)⟩;exact⟨by rw[hv,ih.1];rfl,by simp[ih.2]⟩
  ·cases h
theorem asT (he:ER c T e a){neg:Bool}{t':TypeId}{n:Nat}{y:Operand}{y':aT}{d:D} (ho:o.op= .binOp (if neg then .neq else .eql) t x y t') (h1:GI P t=some n) (hx:trO x=some x') (hy:trO y=some y')
 (hq:xq (.aeq neg n) ([x',y'].map (·.ev e))=some d):kF P c a o d:=by
 simp only[n3,q0] at hq
 unfold xq at hq
 split at hq
 ·rename_i e1;cases e1
 ·rename_i ng m xs ys e1 e2;cases e1;simp only[List.cons.injEq,and_true] at e2;obtain⟨e2,e3⟩:=e2;unfold eqD at hq;split at hq
  ·rename_i la lb ha hb;split at hq;·rename_i hc;simp only[Option.some.injEq] at hq;subst hq;have rx:=lP he hx;have ry:=lP he hy;rw[e2] at rx;rw[e3] at ry;obtain⟨vs,hvx,rx⟩:=rx;obtain⟨us,hvy,ry⟩:=ry;obtain⟨i1,i2⟩:=G4 ha rx;obtain⟨j1,j2⟩:=G4 hb ry;rw[i1] at hvx;rw[j1] at hvy;obtain⟨fs,_,_,_,hg,_⟩:=CN h1;have heq:=SW (P:=P) c.w h1 (a:=la) (b:=lb) (by omega) (by omega);refine⟨.bool (if neg then decide (¬la=lb) else decide (la=lb)),?_,IS rfl⟩;cases neg<;>simp[execOp,ho,hvx,hvy,eqGuard,hg,binOp,heq,bne]
   ·cases hq
  ·cases hq
 ·cases hq
variable{p:Nat×Bool}
theorem WO (h:RC P t=some p): ∃kt et,P.underlying t=some (.map kt et)∧ZJ P kt=some p.1∧ ∀w:World,(zeroValue et).run P w= .ok (elemV p.2 0) w:=by
 unfold RC at h;split at h
 ·rename_i kt et hu;split at h
  ·rename_i kn bl hk hz;cases h;refine⟨kt,et,hu,hk,fun w=> ?_⟩;unfold ap3 at hz;split at hz
   ·rename_i i hi;split at hz;·rename_i hzi;cases hz;simp[zeroValue,typeInfo,hi,hzi,elemV]
    ·rename_i hzi;cases hz;simp[zeroValue,typeInfo,hi,hzi,elemV]
    ·cases hz
   ·cases hz
  ·cases h
 ·cases h
theorem SG (hs:St c H){i:Nat}{x:mH} (h:I7 H i=some x): ∃o,H i=some o∧o.n=0∧o.rows=[]∧0<o.ext∧NZ c.w.heap[(c.ρ i).1]? x:=by
 unfold I7 at h
 cases ho:H i with
 |none=>rw[ho] at h;cases h
 |some o=>
  rw[ho] at h;simp only[Option.bind_some,anD] at h;split at h;·rename_i hc;cases h;obtain⟨h1,h2,h3⟩:=hc;have hb:=hs.blk i o ho h3;unfold yW at hb;rw[if_pos ⟨h1,h2⟩] at hb;exact⟨o,rfl,h1,h2,h3,hb⟩
  ·cases h
theorem aaY (hs:St c H) (he:ER c T e a){kt et:TypeId}{i id:Nat}{m:mH} (ho:o.op= .call {callee:=.builtin .len,args:=#[x],argTypes:=#[t]}) (hu:P.underlying t=some (.map kt et)) (hx:trO x=some x')
 (hev:a.eval x= .map (some i)) (hM:NZ c.w.heap[i]? m):ZH P c a o H H (.one (.c (.v (.int .i64 m.m.length)))) id:=by
 obtain⟨es,clock,h1,h2,_⟩:=hM
 have hg:Sem.run P (getObj i) c.w= .ok (.map es clock) c.w:=by simp[getObj,Sem.run,h1]
 have hl:es.size=m.m.length:=by have:=congrArg List.length h2;simpa [mH.rows] using this
 refine⟨.int .i64 m.m.length,c,?_,hs,Step.refl c H,IS rfl,fun i hi=>.inl hi⟩
 simp[execOp,ho,resolve,invoke,builtin,hev,Builtin.len_,run_underlying hu,goInt,hg,hl]
theorem UY (t:TypeId) (w:World):(Instr.makeMap t none).run P w= .ok (.map (some w.heap.size)) (w.alloc (.map #[] 0)):=rfl
theorem anO (hs:St c H){id:Nat} (hN: ¬c.N id) (ho:o.op= .makeMap t none) (_ht:RC P t=some p):ZH P c a o H (H.set id (u4 ⟨p.1,p.2,[]⟩)) (.one (.c (.omap id))) id:=by
 obtain⟨c1,hc1⟩: ∃c1:Cf,c1=c.named id c.w.heap.size 0 (c.w.alloc (.map #[] 0)):=⟨_,rfl⟩
 have hold: ∀b,b<c.w.heap.size→(c.w.alloc (.map #[] 0)).heap[b]?=c.w.heap[b]?:=fun b hb=>Below.heap_alloc _ _ _ hb;have hnew:(c.w.alloc (.map #[] 0)).heap[c.w.heap.size]?=some (.map #[] 0):=by show (c.w.heap.push _)[_]?=_;simp
 have hw1:c1.w=c.w.alloc (.map #[] 0):=by rw[hc1];rfl
 have hρ: ∀j,c.N j→c1.ρ j=c.ρ j:=by intro j hj;rw[hc1];simp only[Cf.named];rw[if_neg (by rintro rfl;exact hN hj)]
 have hρ1:c1.ρ id=(c.w.heap.size,0):=by rw[hc1];simp[Cf.named]
 have hblk: ∀j o',H j=some o'→0<o'.ext→(c.ρ j).1<c.w.heap.size:=fun j o' h1 h2=>(hs.blk j o' h1 h2).lt
 have hstep:Step c H c1 (H.set id (u4 ⟨p.1,p.2,[]⟩)):={
  ρ:=hρ
  N:=fun _ h=>by rw[hc1];exact .inr h
  I:=fun _ h=>by rw[hc1];exact h
  I':=fun _ h=>by rw[hc1] at h;exact .inl h
  size:=by rw[hw1];simp
  os:=by rw[hw1];rfl
  tape:=by rw[hw1];rfl
  output:=by rw[hw1];rfl
  frame:=fun b hb _=>by rw[hw1];exact hold b hb
  own:=by
   rintro b ⟨j,o',h1,h2,h3⟩;rcases bG h1 with⟨rfl,rfl⟩|⟨hne,h1⟩
   ·right;rw[hρ1] at h3;omega
   ·left;exact⟨j,o',h1,h2,by rw[hρ j (hs.named j o' h1)] at h3;exact h3⟩}
 refine⟨.map (some c.w.heap.size),c1,?_,?_,hstep,?_,fun i hi=> ?_⟩;·rw[hw1];simp only[execOp,ho,Option.map_none,Sem.run_bind,UY,Result.andThen_ok,Sem.run_pure]
 ·refine {named:= ?_,wf:= ?_,blk:= ?_,cells:= ?_,sep:= ?_,imm:= ?_,old:= ?_}
  ·intro j o' h;rcases bG h with⟨rfl,rfl⟩|⟨hne,h⟩
   ·rw[hc1];exact .inl rfl
   ·rw[hc1];exact .inr (hs.named j o' h)
  ·intro j o' h;rcases bG h with⟨rfl,rfl⟩|⟨hne,h⟩
   ·exact⟨by simp[u4],by simp[u4]⟩
   ·exact hs.wf j o' h
  ·intro j o' h he;rcases bG h with⟨rfl,rfl⟩|⟨hne,h⟩
   ·rw[hρ1,hw1];unfold yW;rw[if_pos ⟨rfl,rfl⟩];refine⟨#[],0,hnew,?_,?_⟩;·simp[u4,yH,mH.rows]
    ·simp[u4,yH,mH.ok]
   ·have:=hs.blk j o' h he;rw[←hold _ (hblk j o' h he),←hρ j (hs.named j o' h),←hw1] at this;exact this
  ·intro j o' i k r d h h1 h2;rcases bG h with⟨rfl,rfl⟩|⟨hne,h⟩
   ·simp[u4] at h1
   ·obtain⟨u,h3,h4⟩:=hs.cells j o' i k r d h h1 h2;refine⟨u,?_,h4.step hstep hs⟩;rw[hρ j (hs.named j o' h),hw1,←h3];exact World.cell?_of_block (w:=c.w) (hold _ (World.block_lt_of_cell? c.w _ h3))
  ·intro j j' o1 o2 h1 h2 e1 e2 hne;rcases bG h1 with⟨rfl,rfl⟩|⟨hn1,k1⟩<;>rcases bG h2 with⟨rfl,rfl⟩|⟨hn2,k2⟩
   ·exact absurd rfl hne
   ·rw[hρ j' (hs.named j' o2 k2),hρ1];have:=hblk j' o2 k2 e2;simp only;omega
   ·rw[hρ j (hs.named j o1 k1),hρ1];have:=hblk j o1 k1 e1;simp only;omega
   ·rw[hρ j (hs.named j o1 k1),hρ j' (hs.named j' o2 k2)];exact hs.sep j j' o1 o2 k1 k2 e1 e2 hne
  ·intro j o' h he;rcases bG h with⟨rfl,rfl⟩|⟨hne,h⟩
   ·rw[hρ1,hc1];intro hI;have:=hs.old _ hI;simp only at this;omega
   ·rw[hρ j (hs.named j o' h),hc1];exact hs.imm j o' h he
  ·intro b hb;rw[hc1] at hb;have:=hs.old b hb;rw[hw1];show _<(c.w.heap.push _).size;simp only[Array.size_push];omega
 ·simp only[fD,jZ,Rel,bY];rw[hρ1];exact⟨by rw[hc1];exact .inl rfl,rfl⟩
 ·rw[hc1] at hi;rcases hi with h|h;·exact .inr h
  ·exact .inl h
theorem aaE (he:ER c T e a){k:Operand}{k':aT}{kn:Nat}{l:List Int} (hk:trO k=some k') (h:OA kn (k'.ev e)=some l) (hl:l.length=zV kn):a.eval k=pJ kn l:=by
 have hr:=lP he hk;unfold OA at h;split at h
 ·rename_i cs hcs;split at h;·cases h
  ·rename_i hne;rw[hcs] at hr;obtain⟨vs,hv,hr⟩:=hr;obtain⟨i1,i2⟩:=G4 h hr;rw[hv,i1];simp[pJ,hne,lD]
 ·rename_i n hn;split at h;·rename_i h0;cases h;rw[xU he hk hn];simp[pJ,h0]
  ·cases h
 ·cases h
theorem ah7 (he:ER c T e a){v:Operand}{v':aT}{bl:Bool}{n:Int} (hv:trO v=some v') (h:S4 bl (v'.ev e)=some n):a.eval v=elemV bl n:=by
 unfold S4 at h;split at h
 ·rename_i b hb;split at h;·rename_i hbl;cases h;rw[xU he hv hb,hbl];cases b<;>rfl
  ·cases h
 ·rename_i m hm;split at h;·cases h
  ·rename_i hbl;cases h;rw[xU he hv hm];simp[elemV,hbl]
 ·cases h
theorem aaR (hs:St c H) (he:ER c T e a){ok:Bool}{k:Operand}{k':aT}{i id:Nat}{m:mH}{l:List Int} (ho:o.op= .lookup t x k ok) (ht:RC P t=some p) (hx:trO x=some x') (hk:trO k=some k')
 (hev:a.eval x= .map (some i)) (hM:NZ c.w.heap[i]? m) (g1:m.kn=p.1) (g2:m.bl=p.2) (hl:OA p.1 (k'.ev e)=some l) (g3:l.length=zV p.1):
 ZH P c a o H H (if ok then .tup [.c (.v (elemV p.2 ((jT m.m l).getD 0))),.c (.v (.bool (jT m.m l).isSome))] else .one (.c (.v (elemV p.2 ((jT m.m l).getD 0))))) id:=by
 obtain⟨kt,et,hu,hkt,hz⟩:=WO ht
 have hrun:=adZ c.w hu (x:=m) (by rw[g1];exact hkt) (by rw[g2];exact hz c.w) hM (l:=l) (by rw[g1];exact g3) ok
 rw[anX,g1,g2] at hrun
 have hkv:=aaE he hk hl g3
 have h1: ∀n:Int,(elemV p.2 n).oneCell'=true:=fun n=>by unfold elemV;split<;>rfl
 refine⟨if ok then .tuple #[elemV p.2 ((jT m.m l).getD 0),.bool (jT m.m l).isSome] else elemV p.2 ((jT m.m l).getD 0),c,?_,hs,Step.refl c H,?_,fun i hi=>.inl hi⟩
 ·simp only[execOp,ho,hev,hkv,hrun,Sem.run_bind,Result.andThen_ok,Sem.run_pure]
 ·cases ok;·exact IS (h1 _)
  ·refine⟨[_,_],rfl,rfl,fun i d u h2 h3=> ?_⟩
   match i with
   |0=>simp at h2 h3;subst h2;subst h3;exact IS (h1 _)
   |1=>simp at h2 h3;subst h2;subst h3;exact IS rfl
   |i+2=>simp at h2
theorem ak9 (hs:St c H) (he:ER c T e a){k v:Operand}{k' v':aT}{i:Nat}{m:mH}{l:List Int}{n:Int} (ho:o.op= .mapUpdate t x k v) (ht:RC P t=some p) (hx:trO x=some x') (hk:trO k=some k') (hvv:trO v=some v')
 (hv:x'.ev e= .one (.c (.omap i))) (hm:I7 H i=some m) (g1:m.kn=p.1) (g2:m.bl=p.2) (hl:OA p.1 (k'.ev e)=some l) (g3:l.length=zV p.1) (hn:S4 p.2 (v'.ev e)=some n):
 alN P c H a o i (u4 ⟨p.1,p.2,vA m.m l n⟩):=by
 have hr:=qD he hx hv
 simp only[Rel,bY] at hr
 obtain⟨o0,ho0,_,hrow,hext,hM⟩:=SG hs hm
 obtain⟨kt,et,hu,hkt,hz⟩:=WO ht
 obtain⟨es',clock',hrun,hM'⟩:=acU c.w hu (x:=m) (by rw[g1];exact hkt) hM (l:=l) (by rw[g1];exact g3) n
 rw[g1,g2] at hrun hM'
 have hkv:=aaE he hk hl g3
 have hev:=ah7 he hvv hn
 obtain⟨c1,hc1⟩: ∃c1:Cf,c1= {c with w:={c.w with heap:=c.w.heap.set! (c.ρ i).1 (.map es' clock')}}:=⟨_,rfl⟩
 have hlt:(c.ρ i).1<c.w.heap.size:=(hs.blk i o0 ho0 hext).lt
 have hown:uG c H (c.ρ i).1:=⟨i,o0,ho0,hext,rfl⟩
 have hoth: ∀b,b≠(c.ρ i).1→c1.w.heap[b]?=c.w.heap[b]?:=fun b hb=>by rw[hc1];simp only[Array.set!_eq_setIfInBounds];rw[Z2 (Ne.symm hb)]
 have hself:c1.w.heap[(c.ρ i).1]?=some (.map es' clock'):=by rw[hc1];simp only[Array.set!_eq_setIfInBounds];rw[Array.getElem?_setIfInBounds_self_of_lt hlt]
 have hsize:c1.w.heap.size=c.w.heap.size:=by rw[hc1];simp
 have hsepN: ∀j o',j≠i→H j=some o'→0<o'.ext→(c.ρ j).1≠(c.ρ i).1:=fun j o' hne h1 h2=>hs.sep j i o' o0 h1 ho0 h2 hext hne
 have hstep:Step c H c1 (H.set i (u4 ⟨p.1,p.2,vA m.m l n⟩)):={
  ρ:=fun _ _=>by rw[hc1]
  N:=fun _ h=>by rw[hc1];exact h
  I:=fun _ h=>by rw[hc1];exact h
  I':=fun _ h=>by rw[hc1] at h;exact .inl h
  size:=by rw[hsize];exact m5 _
  os:=by rw[hc1]
  tape:=by rw[hc1]
  output:=by rw[hc1]
  frame:=fun b _ hno=>hoth b (by rintro rfl;exact hno hown)
  own:=by
   rintro b ⟨j,o',h1,h2,h3⟩;left;rcases bG h1 with⟨rfl,rfl⟩|⟨hne,h1⟩
   ·exact⟨j,o0,ho0,hext,by rw[hc1] at h3;exact h3⟩
   ·exact⟨j,o',h1,h2,by rw[hc1] at h3;exact h3⟩}
 refine⟨c1,?_,?_,hstep,fun j=>by rw[hc1]⟩
 ·rw[hc1];simp only[execOp,ho,hr.2,hkv,hev,hrun,Sem.run_bind,Result.andThen_ok,Sem.run_pure]
 ·refine {named:= ?_,wf:= ?_,blk:= ?_,cells:= ?_,sep:= ?_,imm:= ?_,old:= ?_}
  ·intro j o' h;rw[hc1];rcases bG h with⟨rfl,rfl⟩|⟨hne,h⟩
   ·exact hr.1
   ·exact hs.named j o' h
  ·intro j o' h;rcases bG h with⟨rfl,rfl⟩|⟨hne,h⟩
   ·exact⟨by simp[u4],by simp[u4]⟩
   ·exact hs.wf j o' h
  ·intro j o' h he2;have hρ:c1.ρ j=c.ρ j:=(by rw[hc1]);rw[hρ];rcases bG h with⟨rfl,rfl⟩|⟨hne,h⟩
   ·rw[hself];unfold yW;rw[if_pos ⟨rfl,rfl⟩];show ∃es clock,_∧_=(acE (aaX _+1-1)).rows∧(acE (aaX _+1-1)).ok;rw[Nat.add_sub_cancel,yH];obtain⟨es2,clock2,hb2,h5,h6⟩:=hM';exact⟨es2,clock2,hb2,h5,h6⟩
   ·rw[hoth _ (hsepN j o' hne h he2)];exact hs.blk j o' h he2
  ·intro j o' q k2 r d h h1 h2;have hρ:c1.ρ j=c.ρ j:=(by rw[hc1]);rw[hρ];rcases bG h with⟨rfl,rfl⟩|⟨hne,h⟩
   ·simp[u4] at h1
   ·obtain⟨u,h3,h4⟩:=hs.cells j o' q k2 r d h h1 h2;refine⟨u,?_,h4.step hstep hs⟩;have hpos:0<o'.ext:=by have:=(hs.wf j o' h).1;have hq:q<o'.rows.length:=(m3.1 h1).1;omega
    rw[←h3];exact World.cell?_of_block (w:=c.w) (hoth _ (hsepN j o' hne h hpos))
  ·intro j j' o1 o2 h1 h2 e1 e2 hne;have hρ:c1.ρ=c.ρ:=(by rw[hc1]);rw[hρ];rcases bG h1 with⟨rfl,rfl⟩|⟨hn1,k1⟩<;>rcases bG h2 with⟨rfl,rfl⟩|⟨hn2,k2⟩
   ·exact absurd rfl hne
   ·exact(hsepN j' o2 hn2 k2 e2).symm
   ·exact hsepN j o1 hn1 k1 e1
   ·exact hs.sep j j' o1 o2 k1 k2 e1 e2 hne
  ·intro j o' h he2;rw[hc1];rcases bG h with⟨rfl,rfl⟩|⟨hne,h⟩
   ·exact hs.imm _ o0 ho0 hext
   ·exact hs.imm j o' h he2
  ·intro b hb;rw[hsize];rw[hc1] at hb;exact hs.old b hb
inductive IsX (P:Program):Op→XK→List aT→Prop where
 |zI {f:FuncId} {first caps:Array Operand} {l:List aT} (h1:first.size=0) (h2:caps.toList.mapM trO=some l):IsX P (.makeFunc (.func f) first caps) (.zI f) l
 |qJ {neg:Bool} {t t' el:TypeId} {x:Operand} {y:aT} (h1:P.underlying t=some (.slice el)) (h2:trO x=some y):IsX P (.binOp (if neg then .neq else .eql) t x (.const (.slice none 0 0)) t') (.qJ neg) [y]
 |copy {t t' el:TypeId} {n:Nat} {x y:Operand} {x' y':aT} (h1:d9 P t=some (el,n)) (h2:trO x=some x') (h3:trO y=some y'):IsX P (.call {callee:=.builtin .copy,args:=#[x,y],argTypes:=#[t,t']}) (.copy n) [x',y']
 |clear {t el:TypeId} {n:Nat} {z:List D1} {x:Operand} {x':aT} (h1:d9 P t=some (el,n)) (h2:trO x=some x') (h3:zeroOf P el=some z) (h4:z.length=n):IsX P (.call {callee:=.builtin .clear,args:=#[x],argTypes:=#[t]}) (.clear n z) [x']
 |aaN {cl:Call} {f:FuncId} {l:List aT} (h1:cl.callee= .value (.func f)) (h2:cl.args.toList.mapM trO=some l):IsX P (.call cl) (.aaN f) l
 |DS {t:TypeId} {p:Nat×Bool} (h1:RC P t=some p):IsX P (.makeMap t none) (.DS p.1 p.2) []
 |aeq {neg:Bool} {t t':TypeId} {n:Nat} {x y:Operand} {x' y':aT} (h1:GI P t=some n) (h2:trO x=some x') (h3:trO y=some y'):IsX P (.binOp (if neg then .neq else .eql) t x y t') (.aeq neg n) [x',y']
 |rA {t:TypeId} {p:Nat×Bool} {ok:Bool} {x k:Operand} {x' k':aT} (h1:RC P t=some p) (h2:trO x=some x') (h3:trO k=some k'):IsX P (.lookup t x k ok) (.rA p.1 p.2 ok) [x',k']
 |vM {t:TypeId} {p:Nat×Bool} {x k v:Operand} {x' k' v':aT} (h1:RC P t=some p) (h2:trO x=some x') (h3:trO k=some k') (h4:trO v=some v'):IsX P (.mapUpdate t x k v) (.vM p.1 p.2) [x',k',v']
 |sS {t kt et:TypeId} {x:Operand} {x':aT} (h1:P.underlying t=some (.map kt et)) (h2:trO x=some x'):IsX P (.call {callee:=.builtin .len,args:=#[x],argTypes:=#[t]}) .sS [x']
 |bad {op:Op}:IsX P op .bad []
theorem ajI{b:Builtin}{args:Array Operand}{ts:Array TypeId}{o:AOp} (h:aq1 P b args.toList ts.toList=some o): ∃k l,o= .xop k l∧IsX P (.call {callee:=.builtin b,args:=args,argTypes:=ts}) k l:=by
 unfold aq1 at h;split at h
 ·rename_i x t ha ht;split at h;·rename_i h1 h2;cases h;rw[oL ha,oL ht];exact⟨_,_,rfl,.sS h1 h2⟩
  ·cases h
 ·rename_i x y t t' ha ht;split at h;·rename_i h1 h2 h3;cases h;rw[uV ha,uV ht];exact⟨_,_,rfl,.copy h1 h2 h3⟩
  ·cases h
 ·rename_i x t ha ht;split at h
  ·rename_i h1 h2;split at h
   ·rename_i h3;split at h;·rename_i h4;cases h;rw[oL ha,oL ht];exact⟨_,_,rfl,.clear h1 h2 h3 h4⟩
    ·cases h
   ·cases h
  ·cases h
 ·cases h
theorem aoZ{op:Op}{o:AOp} (h:trX P op=some o): ∃k l,o= .xop k l∧IsX P op k l:=by
 unfold trX at h;split at h
 ·split at h;·rename_i hf;simp only[m4] at h;obtain⟨l,h1,rfl⟩:=h;exact⟨_,_,rfl,.zI hf h1⟩
  ·cases h
 ·split at h;·rename_i h1 h2;cases h;exact⟨_,_,rfl,.qJ (neg:=false) h1 h2⟩
  ·cases h
 ·split at h;·rename_i h1 h2;cases h;exact⟨_,_,rfl,.qJ (neg:=true) h1 h2⟩
  ·cases h
 ·split at h;·rename_i h1 h2 h3;cases h;exact⟨_,_,rfl,.aeq (neg:=false) h1 h2 h3⟩
  ·cases h
 ·split at h;·rename_i h1 h2 h3;cases h;exact⟨_,_,rfl,.aeq (neg:=true) h1 h2 h3⟩
  ·cases h
 ·simp only[m4] at h;obtain⟨p,h1,rfl⟩:=h;exact⟨_,_,rfl,.DS h1⟩
 ·split at h;·rename_i h1 h2 h3;cases h;exact⟨_,_,rfl,.rA h1 h2 h3⟩
  ·cases h
 ·split at h;·rename_i h1 h2 h3 h4;cases h;exact⟨_,_,rfl,.vM h1 h2 h3 h4⟩
  ·cases h
 ·rename_i cl;obtain⟨callee,args,ts⟩:=cl;split at h;·rename_i b hb;simp only at hb;subst hb;exact ajI h
  ·cases h
 ·cases h
theorem anR{op:Op}{o:AOp} (h:trE P op=some o): ∃k l,o= .xop k l∧IsX P op k l:=by
 unfold trE at h;split at h
 ·split at h
  ·rename_i f hc;split at h
   ·split at h;·simp only[m4] at h;obtain⟨l,h1,rfl⟩:=h;exact⟨_,_,rfl,.aaN hc h1⟩
    ·cases h
   ·cases h
  ·cases h
 ·cases h
theorem FZ (op:Op):F3 P op=some (LC P op)∨ ∃k l,LC P op= .xop k l∧IsX P op k l:=by
 unfold LC;split;·rename_i o h;obtain⟨k,l,h1,h2⟩:=anR h;exact .inr ⟨k,l,h1,h2⟩
 ·split;·rename_i o h;exact .inl h
  ·split;·rename_i o h;obtain⟨k,l,h1,h2⟩:=aoZ h;exact .inr ⟨k,l,h1,h2⟩
   ·exact .inr ⟨_,_,rfl,.bad⟩
theorem ahT (hs:St c H) (he:ER c T e a){d:D} (hq:aU H e (LC P o.op)=some d):kF P c a o d:=by
 rcases FZ (P:=P) o.op with h|⟨k,l,h,hx⟩
 ·exact ai4 hs he h hq
 ·rw[h] at hq;simp only[aU] at hq;generalize ho:o.op=op at hx
  cases hx with
  |zI h1 h2=>exact apN he ho h1 h2 hq
  |aeq h1 h2 h3=>exact asT he ho h1 h2 h3 hq
  |_=>simp[xq] at hq
theorem ahM (hs:St c H) (he:ER c T e a){d:D}{ob:bA}{id:Nat} (hN: ¬c.N id) (hq:lT id e (LC P o.op)=some (d,ob)):NT P c H a o id d ob:=by
 rcases FZ (P:=P) o.op with h|⟨k,l,h,hx⟩
 ·exact ag1 hs he hN h hq
 ·rw[h] at hq;simp[lT] at hq
theorem ajX (hs:St c H) (he:ER c T e a){id nx:Nat}{R:D→aA→Nat→Prop} (hN: ∀i,c.N i→i<nx) (hid: ¬c.N id) (h:HX P id (LC P o.op) e H nx R)
 {next:Act→World→Prop} {Qr:Exit→Act→World→Prop}
 (hk: ∀d v c' H' nx',St c' H'→Step c H c' H'→fD c' d v→(∀i,c'.N i→c.N i∨i=id∨(nx≤i∧i<nx'))→nx≤nx'→R d H' nx'→next (a.put o.dst v) c'.w):o.wp P a c.w next Qr:=by
 rcases FZ (P:=P) o.op with h1|⟨k,l,h1,hx⟩
 ·exact akS hs he hN hid h1 h hk
 ·rw[h1] at h;simp only[HX] at h;have does: ∀(d:D) (H':aA),ZH P c a o H H' d id→R d H' nx→o.wp P a c.w next Qr:=by rintro d H' ⟨v,c',hrun,k1,k2,k3,k4⟩ hR;unfold Oper.wp;rw[hrun];exact hk d v c' H' nx k1 k2 k3 (fun i hi=>(k4 i hi).imp (fun h=>h) .inl) (m5 _) hR
  generalize ho:o.op=op at hx
  cases hx with
  |zI h2 h3=>simp[xl] at h
  |bad=>simp[xl] at h
  |aeq h2 h3 h4=>simp[xl] at h
  |sS h2 h3=>
   unfold xl at h;simp only[n3,q0] at h;split at h<;>try (first| (rename_i e1 _;cases e1;done)| (rename_i e1;cases e1;done))
   all_goals try (exact h.elim)
   ·rename_i i e1 e2;simp only[List.cons.injEq,and_true] at e2;have hr:=qD he h3 e2;simp only[Rel,bY] at hr;revert h;unfold xlL;split;·rename_i x hx;intro h;obtain⟨_,_,_,_,_,hM⟩:=SG hs hx;exact does _ _ (aaY hs he ho h2 h3 hr.2 hM) h
    ·exact fun h=>h.elim
   ·rename_i m e1 e2;simp only[List.cons.injEq,and_true] at e2;have hr:=qD he h3 e2;simp only[Rel,bY] at hr;generalize hv:a.eval _=v at hr
    cases hr with
    |MY _ b hI hM=>exact does _ _ (aaY hs he ho h2 h3 hv hM) h
  |DS h2=>simp only[q0,xl] at h;exact does _ _ (anO hs hid ho h2) h
  |rA h2 h3 h4=>
   unfold xl at h;simp only[n3,q0] at h;split at h<;>try (first| (rename_i e1 _;cases e1;done)| (rename_i e1;cases e1;done))
   all_goals try (exact h.elim)
   ·rename_i kn bl ok i k e1 e2;cases e1;simp only[List.cons.injEq,and_true] at e2;obtain⟨e2,e3⟩:=e2;have hr:=qD he h3 e2;simp only[Rel,bY] at hr;revert h;unfold xlG;split;·rename_i x l hx hl;rintro⟨⟨g1,g2,g3⟩,h⟩;obtain⟨_,_,_,_,_,hM⟩:=SG hs hx;exact does _ _ (aaR hs he ho h2 h3 h4 hr.2 hM g1 g2 (by rw[e3];exact hl) g3) h
    ·exact fun h=>h.elim
   ·rename_i kn bl ok m k e1 e2;cases e1;simp only[List.cons.injEq,and_true] at e2;obtain⟨e2,e3⟩:=e2;have hr:=qD he h3 e2;simp only[Rel,bY] at hr;generalize hv:a.eval _=v at hr
    cases hr with
    |MY _ b hI hM=>
     revert h;unfold xlG;split;·rename_i x l hx hl;cases hx;rintro⟨⟨g1,g2,g3⟩,h⟩;exact does _ _ (aaR hs he ho h2 h3 h4 hv hM g1 g2 (by rw[e3];exact hl) g3) h
     ·exact fun h=>h.elim
  |vM h2 h3 h4 h5=>
   unfold xl at h;simp only[n3,q0] at h;split at h<;>try (first| (rename_i e1 _;cases e1;done)| (rename_i e1;cases e1;done))
   all_goals try (exact h.elim)
   rename_i kn bl i k v e1 e2;cases e1;simp only[List.cons.injEq,and_true] at e2;obtain⟨e2,e3,e4⟩:=e2;revert h;unfold xlS;split;·rename_i x l n hx hl hn;rintro⟨⟨g1,g2,g3⟩,h⟩;obtain⟨c',hrun,k1,k2,k3⟩:=ak9 hs he ho h2 h3 h4 h5 e2 hx g1 g2 (by rw[e3];exact hl) g3 (by rw[e4];exact hn);unfold Oper.wp;rw[hrun];exact hk .dead undef c' _ nx k1 k2 trivial (fun i hi=>.inl ((k3 i).1 hi)) (m5 _) h
   ·exact fun h=>h.elim
  |copy h2 h3 h4=>
   simp only[n3,q0,xl] at h;split at h;·rename_i hq;exact does _ _ (arN hs he ho h2 h3 h4 hq) h
   ·exact h.elim
  |clear h2 h3 h4 h5=>
   simp only[n3,q0,xl] at h;split at h;·rename_i hq;exact does _ _ (aoJ hs he ho h2 h4 h5 h3 hq) h
   ·exact h.elim
  |aaN h2 h3=>rename_i cl f;simp only[xl] at h;obtain⟨h4,h5⟩:=FH he _ _ h3;obtain⟨v,r,hrun,hr,hR⟩:=h c _ hs (by simpa using h4) h5;refine does r H ⟨v,c,?_,hs,Step.refl c H,hr,fun i hi=>.inl hi⟩ hR;have he1:(cl.args.toList.map a.eval).toArray=cl.args.map a.eval:=(by apply x2;simp);have hf:a.eval (.func f)= .func (.func f) #[] #[]:=rfl;rw[he1] at hrun;simp only[execOp,ho,resolve,h2,hf,Deferred.ofValue,Sem.run_bind,Sem.run_pure,Result.andThen_ok,invoke];simp[hrun]
  |qJ hu hy=>
   rename_i neg t t' el x y
   have fin: ∀b:Bool,(execOp a.eval o).run P c.w= .ok (.value (.bool b)) c.w→R (bD b) H nx→o.wp P a c.w next Qr:=fun b hrun hR=>
    does (bD b) H ⟨.bool b,c,hrun,hs,Step.refl c H,KR,fun i hi=>.inl hi⟩ hR
   simp only[n3,q0] at h;unfold xl at h;split at h
   ·rename_i k ng rows e1 e2;cases e1;simp only[List.cons.injEq,and_true] at e2;have hr:=qD he hy e2;simp only[Rel,bY] at hr;generalize hv:a.eval x=v at hr
    cases hr with
    |isl _ A cap n b o' f ha hcap hn hc hr=>
     have hrun:=L2 (P:=P) (c:=c) ho hu hv;split at h;·exact fin _ hrun (h _)
     ·rename_i h0;have hne:rows≠[]:=(by rintro rfl;exact h0 rfl);rw[(ha hne).1] at hrun;apply fin _ hrun;cases neg<;>exact h
   ·rename_i k ng m id' off len cap e1 e2;cases e1;simp only[List.cons.injEq,and_true] at e2;have hr:=qD he hy e2;simp only[Rel,bY] at hr;obtain⟨_,⟨h0,A,hv⟩|⟨h0,_,hv⟩⟩:=hr;·rw[if_pos h0] at h;exact fin _ (L2 (P:=P) (c:=c) ho hu hv) (h _)
    ·rw[if_neg (by omega)] at h;apply fin _ (L2 (P:=P) (c:=c) ho hu hv);cases neg<;>exact h
   all_goals first|exact h.elim| (rename_i e1 _;cases e1;done)| (rename_i e1;cases e1;done)
end
end Go.AM
