/- Rules and contracts. -/
import Derived.Test.YtlncecohbakleaaGreatPR6
set_option linter.unusedVariables false
set_option linter.unusedSimpArgs false
set_option maxRecDepth 100000
set_option maxHeartbeats 8000000
namespace Go.AM
def FzL(H:aA)(a b:List D1):Prop:=a.length=b.length/\ ∀(i:Nat) (x y:D1),a[i]?=some x->b[i]?=some y->Frz H (fun _=>True) x y
abbrev ZO(α:Type):=aA->List D1->α->(Nat->Prop)->Prop
def rng(n:Nat)(f:Nat->List D1):List (List D1):=(List.range n).map f
variable{f:Nat->List D1}
theorem Ta{n:Nat}:(rng n f).length=n:=by simp[rng]
theorem Sa{n i:Nat}(h:i<n):(rng n f)[i]?=some (f i):=by simp[rng,h]
def Lv(f:Nat->List D1)(i:Nat)(r:List D1):Nat->List D1:=fun j=>if j=i then r else f j
theorem qy{i:Nat}{r:List D1}:Lv f i r i=r:=if_pos rfl
theorem tp{i j:Nat}{r:List D1}(h:j≠i):Lv f i r j=f j:=if_neg h
structure vx{α:Type}(RowP:ZO α)(H:aA)(n id m:Nat)(f:Nat->List D1)(G:Nat->Nat->Prop)(l:List α)(F:Nat->Prop):Prop where
 blk:H id=some ⟨n,m,rng l.length f⟩
 self:F id
 row: ∀i x,l[i]?=some x->RowP H (f i) x (G i)
 sub: ∀i j,i<l.length->G i j->F j/\j≠id
 sep: ∀i i' j,i<l.length->i'<l.length->i'≠i->G i j->¬G i' j
def SlS{α:Type}(n:Nat)(RowP:ZO α)(H:aA)(d:D1)(l:List α)(F:Nat->Prop):Prop:=(l=[]/\ ∃n' id off,d= .osl n' id off 0 0)\/ ∃id m cap,d= .osl n id 0 l.length cap/\0<cap/\l.length<=cap/\cap<=m/\ ∃f G,vx RowP H n id m f G l F
def Frm{α:Type}(RowP:ZO α):Prop:=∀(H H':aA) (r:List D1) (x:α) (F:Nat->Prop),RowP H r x F->(∀j,F j->H' j=H j)->RowP H' r x F
def Fzb{α:Type}(n:Nat)(e:α->List D1)(RowP:ZO α):Prop:=∀(H:aA) (r:List D1) (x:α) (F:Nat->Prop),RowP H r x F->(e x).length=n/\FzL H (e x) r
section
variable{α:Type}{RowP:ZO α}{H H':aA}{n id m:Nat}{f:Nat -> List D1}{G:Nat -> Nat -> Prop}{l:List α}{F F':Nat -> Prop}{d:D1}
theorem vx.frame(c:Frm RowP)(h:vx RowP H n id m f G l F)(a: ∀j,F j->H' j=H j):vx RowP H' n id m f G l F where
 blk:=(a id h.self).trans h.blk
 self:=h.self
 row i x b:=c _ _ _ _ _ (h.row i x b) fun j d=>a j (h.sub i j (abN.1 b).1 d).1
 sub:=h.sub
 sep:=h.sep
theorem SlS.frame(a:Frm RowP)(h:SlS n RowP H d l F)(b: ∀j,F j->H' j=H j):SlS n RowP H' d l F:=by exact h.imp (fun h=>h) fun⟨id,m,cap,e,c,g,i,f,G,k⟩=>⟨id,m,cap,e,c,g,i,f,G,k.frame a b⟩
theorem SlS.frz{e:α->List D1}(q:Fzb n e RowP)(h:SlS n RowP H d l F):Frz H (fun _=>True) (.isl (l.map e)) d:=by
 rcases h with⟨rfl,n',id,off,rfl⟩|⟨id,m,cap,rfl,u,b,c,f,G,o⟩
 ·exact .nil ..
 ·have hl:(l.map e).length=l.length:=abT _;have a: ∀(i:Nat) (r':List D1),(l.map e)[i]?=some r'->i<l.length/\r'.length=n/\FzL H r' (f i):=fun i r' hr=>by rw[abW,abR] at hr;obtain⟨x,p,rfl⟩:=hr;exact⟨(abN.1 p).1,(q _ _ _ _ (o.row i x p)).1,(q _ _ _ _ (o.row i x p)).2⟩
  have key:=Frz.frz (H:=H) (F:=fun _=>True) (l.map e) n id 0 cap ⟨n,m,rng l.length f⟩ (fun i j=>((f i)[j]?).getD .dead) trivial o.blk rfl (by rw[hl];simp[Ta]) (by rw[hl];exact b) (fun i r' hr=>(a i r' hr).2.1)
   (fun i j r' r b c=>by
    obtain⟨s,t,g⟩:=a i r' b
    refine⟨f i,by rw[acS];exact Sa s,?_⟩
    have k:j<(f i).length:=g.1▸(abN.1 c).1
    rw[abO k];rfl)
   (fun i j r' r b c=>by
    obtain⟨s,t,g⟩:=a i r' b
    have k:j<(f i).length:=g.1▸(abN.1 c).1
    rw[abO k]
    exact g.2 j r _ c (abO k))
  rw[hl] at key;exact key
end
section
variable{α:Type}{sz:α -> Nat}{mk:Int -> α -> α}
end
section
variable{α:Type}{RowP:ZO α}{H H':aA}{n id m len cap:Nat}{f:Nat -> List D1}{G:Nat -> Nat -> Prop}{l:List α}{F:Nat -> Prop}
theorem SlS.get{n' off:Nat}(h:SlS n RowP H (.osl n' id off len cap) l F){i:Nat}(hi:i<l.length):(n'=n/\off=0)/\ ∃m f G,l.length<=cap/\cap<=m/\0<cap/\vx RowP H n id m f G l F:=by
 rcases h with⟨rfl,_⟩|⟨b,m,a,e,c,d,g,f,G,j⟩
 ·simp at hi
 ·cases e;exact⟨⟨rfl,rfl⟩,m,f,G,d,g,c,j⟩
theorem SlS.put(a:0<cap)(b:l.length<=cap)(c:cap<=m)(hl:len=l.length)(h:vx RowP H n id m f G l F):SlS n RowP H (.osl n id 0 len cap) l F:=
 .inr ⟨id,m,cap,by rw[hl],a,b,c,f,G,h⟩
theorem vx.upd(t:Frm RowP){i:Nat}{x p:α}{r':List D1}(h:vx RowP H n id m f G l F)(u:l[i]?=some x)(v:H' id=some ⟨n,m,rng l.length (Lv f i r')⟩)(hr:RowP H' r' p (G i))(w: ∀j,j≠id->F j->¬G i j->H' j=H j):
 vx RowP H' n id m (Lv f i r') G (l.set i p) F:=by
 have d:i<l.length:=(abN.1 u).1
 refine⟨by rw[ab0];exact v,h.self,fun j y c=> ?_,fun j e a=>h.sub j e (by rw[ab0] at a;exact a),fun j e g r s=>h.sep j e g (by rw[ab0] at r;exact r) (by rw[ab0] at s;exact s)⟩
 rw[adH] at c
 by_cases a:i=j
 ·subst a;rw[if_pos rfl,if_pos d] at c;cases c;rw[qy];exact hr
 ·rw[if_neg a] at c;have b:j<l.length:=(abN.1 c).1;rw[tp (Ne.symm a)];exact t _ _ _ _ _ (h.row j y c) fun q k=>w q (h.sub j q b k).2 (h.sub j q b k).1 fun o=>h.sep i j q d b (Ne.symm a) o k
end
section
variable{α:Type}{RowP:ZO α}{H:aA}{n id len cap nh nx:Nat}{l:List α}{F:Nat -> Prop}{σ:Nat -> Nat}
end
structure No{α:Type}(RowP:ZO α)(H:aA)(n id m:Nat)(Z:Nat->List D1)(f:Nat->List D1)(G:Nat->Nat->Prop)(l:List α)(u lo hi:Nat):Prop where
 blk:H id=some ⟨n,m,rng l.length f⟩
 row: ∀i x,i<u->l[i]?=some x->RowP H (f i) x (G i)
 zero: ∀i,u<=i->f i=Z i
 sub: ∀i j,i<u->G i j->(lo<=j/\j<hi)/\j≠id
 sep: ∀i i' j,i<u->i'<u->i'≠i->G i j->¬G i' j
section
variable{α:Type}{RowP:ZO α}{H H':aA}{n id m:Nat}{Z:Nat -> List D1}{f:Nat -> List D1}{G:Nat -> Nat -> Prop}{l:List α}{u lo hi hi':Nat}
theorem No.step(q:Frm RowP)(h:No RowP H n id m Z f G l u lo hi){x:α}{r:List D1}{k:Nat->Prop}(s:l[u]?=some x)(t:H' id=some ⟨n,m,rng l.length (Lv f u r)⟩)(hr:RowP H' r x k)(o: ∀j,k j->hi<=j/\j<hi')(v:id<hi)(w:lo<=hi)(D:hi<=hi')(z: ∀j,j<hi->j≠id->H' j=H j):
 No RowP H' n id m Z (Lv f u r) (fun i=>if i=u then k else G i) l (u+1) lo hi':=by
 refine⟨t,fun i y hi p=> ?_,fun i hi=>by rw[tp (by omega)];exact h.zero i (by omega),fun i j hi c=> ?_,fun i g j E F A e d=> ?_⟩
 ·by_cases a:i=u;·subst a;rw[s] at p;cases p;rw[qy];simp only[if_true];exact hr
  ·rw[tp a];simp only[if_neg a];exact q _ _ _ _ _ (h.row i y (by omega) p) fun j c=>z j (h.sub i j (by omega) c).1.2 (h.sub i j (by omega) c).2
 ·by_cases a:i=u;·simp only[if_pos a] at c;have:=o j c;exact⟨⟨by omega,by omega⟩,by omega⟩
  ·simp only[if_neg a] at c;have:=h.sub i j (by omega) c;exact⟨⟨by omega,by omega⟩,this.2⟩
 ·by_cases a:i=u
  ·simp only[if_pos a] at e;by_cases b:g=u;·omega
   ·simp only[if_neg b] at d;have B:=o j e;have C:=h.sub g j (by omega) d;omega
  ·simp only[if_neg a] at e;by_cases b:g=u;·simp only[if_pos b] at d;have B:=o j d;have C:=h.sub i j (by omega) e;omega
   ·simp only[if_neg b] at d;exact h.sep i g j (by omega) (by omega) A e d
theorem No.done{cap:Nat}(h:No RowP H n id m Z f G l l.length lo hi)(d:lo<=id)(e:id<hi)(hc:l.length<=cap)(hm:cap<=m)(g:l=[]->cap=0):SlS n RowP H (.osl n id 0 l.length cap) l fun j=>lo<=j/\j<hi:=by
 by_cases hl:l=[]
 ·refine .inl ⟨hl,n,id,0,?_⟩;rw[g hl,hl];rfl
 ·have hp:0<l.length:=List.length_pos_iff.2 hl;refine .inr ⟨id,m,cap,rfl,by omega,hc,hm,f,G,h.blk,⟨d,e⟩,fun i x c=>h.row i x (abN.1 c).1 c,fun i j hi k=>h.sub i j hi k,fun i o j a b=>h.sep i o j a b⟩
end
section
variable{α:Type}{RowP:ZO α}{H:aA}{n:Nat}{l:List α}{F:Nat -> Prop}{d:D1}
end
theorem SlS.cv{α:Type}{RowP:ZO α}{H:aA}{n nh:Nat}{d:D1}{l:List α}{F F':Nat->Prop}(h:SlS n RowP H d l F)(a: ∀j,F j->j<nh):Cv1 H F' _root_.id nh d d:=by
 rcases h with⟨rfl,n',id,off,rfl⟩|⟨id,m,cap,rfl,c,e,g,f,G,b⟩
 ·exact .BL ..
 ·exact vj (a _ b.self) rfl
end Go.AM
