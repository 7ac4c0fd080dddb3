/- Rules and contracts. -/
import Derived.Test.YtlncecohbakleaaGreatPM7
set_option linter.unusedVariables false
set_option linter.unusedSimpArgs false
set_option maxRecDepth 100000
set_option maxHeartbeats 8000000
namespace Go.AM
theorem rD{L:List (List D1)}(h: ∀r∈L,∃v:Int,r=[.v (.int .i64 v)]){x:Int}(c:0<=x)(d:x<L.length): ∃v:Int,L[x.toNat]?=some [.v (.int .i64 v)]:=by
 have a:x.toNat<L.length:=by omega
 obtain⟨v,b⟩:=h _ (aeT a);exact⟨v,by rw[ac8 a,b]⟩
theorem Tn{L:List (List D1)}{lo hi:Int}(h: ∀r∈L,∃v:Int,r=[.v (.int .i64 v)]/\lo<=v/\v<=hi){x:Int}(d:0<=x)(e:x<L.length): ∃v:Int,L[x.toNat]?=some [.v (.int .i64 v)]/\lo<=v/\v<=hi:=by
 have a:x.toNat<L.length:=by omega
 obtain⟨v,b,c⟩:=h _ (aeT a);exact⟨v,by rw[ac8 a,b],c⟩
end Go.AM
namespace Go.Proofs.YtlncecohbakleaaGreat
open Go Go.AM
attribute [local irreducible] aK wv aC vd wvH
section
variable{H:aA}{nx:Nat}{K:ag2}
theorem HK{c:Cfg}{s:TSt}{e:Ev}(hc:jJ c)(hp:c.cH.length=3)(hs:Xp c s){d1:D}(b:CvD H (fun _=>True) id 0 (dA (eSt s)) d1)(h:K (dI (L7 c s e)) H nx):ag1 wS [dA (bO c),d1,dA (eEv e)] H nx K:=by
 refine aC.pure (args0:=[dA (bO c),dA (eSt s),dA (eEv e)]) (R:=fun g=>g=dI (L7 c s e)) ?_ rfl (aM ⟨aE rfl,b,aE rfl,trivial⟩) (fun r hr=>hr▸h);clear h;refine aR.mk Tryz.func133 (by kernel_rfl) SO rfl fun Q f=> ?_;unfold oF;have hl:=hs.asked;by_cases a:kL c e.who e.n
 ·have i:=a.1;repeat' first| (first|apply vI|refine Y6 (fun h=> ?_) fun h=> ?_|apply GC hc hp|apply cQ|refine EO (l:=s.wait) (af1 hs.m7 (by decide)) (aE rfl) ?_|refine EO (l:=s.done) (af1 hs.pH (by decide)) (aE rfl) ?_|refine DS (l:=s.wait) (af1 hs.m7 (by decide)) hp a (fun j d _ _=>hs.wait j d) (aE rfl) ?_|refine DS (l:=s.done) (af1 hs.pH (by decide)) hp a (fun j d _ _=>hs.done j d) (aE rfl) ?_)<;>(simp only[go_sem])|apply vT (by omega)|refine iR (fun h=> ?_) fun h=> ?_|refine⟨by omega,?_⟩|fail
  all_goals
   refine aQ f _ rfl rfl (nK ?_)
   unfold L7
   grind
 ·repeat' first| (first|apply vI|apply Y4 (by omega)|apply GC hc hp)<;>(simp only[go_sem])|fail
  all_goals
   refine aQ f _ rfl rfl (nK ?_)
   unfold L7
   grind
theorem TX(l:List Int)(p:Nat)(n:Int)(hl:gD l)(f:p<2^50)(u: -2^31<n/\n<2^31):ag1 aD [dP 2 0,dI n] (hp [(0,rdO l p)]) 1
 fun r H' n'=>n'=1/\ ∃o',H'=hp [(0,o')]/\kC o'/\o'=rdO l (p+1)/\ ∃x:Int,r=dI x/\0<=x/\(x<n\/x=0):=by
 have g:=hl.len
 refine aR.mk Tryz.func178 (by kernel_rfl) SU rfl fun Q d=> ?_
 unfold n6
 simp only[rdO]
 repeat' first| (first|apply vI|refine Y6 (fun h=> ?_) fun h=> ?_)<;>(simp only[go_sem];try simp (disch:=omega) only[Iw])|refine iR (fun h=> ?_) fun h=> ?_|refine⟨by omega,?_⟩|fail
 ·exact jZ d (dI 0) _ _ rfl (aE rfl) rfl (bU l (p+1)) ⟨rfl,0,rfl,by omega,by omega⟩
 ·exact jZ d (dI 0) _ _ rfl (aE rfl) rfl (bU l (p+1)) ⟨rfl,0,rfl,by omega,by omega⟩
 ·have i:=hl.at (p+1-1:Int).toNat;rw[IntWalk.i64_in (l.getD _ _) (by omega)];exact jZ d (dI _) _ _ rfl (aE rfl) rfl (bU l (p+1)) ⟨rfl,_,rfl,afX _ (by omega),.inl (afY _ (by omega))⟩
 ·have j:(p:Int)+1-1=p:=by omega
  rw[j] at*;have c:(0:Int)<l.length:=by omega
  have k:=afX (l.length:Int) (show (0:Int)<=p by omega);have m:=afY (p:Int) c;have o:=afX (l.length:Int) (show (0:Int)<=p*7+3 by omega);have s:=afY ((p:Int)*7+3) c;refine⟨⟨k,m⟩,by omega,⟨o,s⟩,by omega,kI ?_⟩;have i:=hl.at ((p:Int).tmod l.length).toNat;have v:=hl.at ((p*7+3:Int).tmod l.length).toNat;generalize l.getD ((p:Int).tmod l.length).toNat default=e at*;generalize l.getD ((p*7+3:Int).tmod l.length).toNat default=x2 at*;have d1:0<=(p:Int).tdiv l.length:=Int.tdiv_nonneg (by omega) (by omega);have d2:(p:Int).tdiv l.length<=p:=Int.tdiv_le_self _ (by omega);generalize (p:Int).tdiv l.length=q at*;simp (disch:=omega) only[IntWalk.i64_in];have w:0<=(e:Int)*131+x2*1117+p*29+q*53/\(e:Int)*131+x2*1117+p*29+q*53<2^60:=by omega
  generalize (e:Int)*131+x2*1117+p*29+q*53=X at*;have d3:0<=X.tdiv 64:=Int.tdiv_nonneg (by omega) (by omega);have y:X.tdiv 64<=X:=Int.tdiv_le_self _ (by omega);have t:=Zu (a:=X) (b:=X.tdiv 64) (by omega) (by omega);repeat' first|apply vI<;>(simp only[go_sem];try simp (disch:=omega) only[Iw])|refine⟨by omega,?_⟩|fail
  exact jZ d (dI _) _ _ rfl (aE rfl) rfl (bU l (p+1)) ⟨rfl,_,rfl,afX _ t,.inl (afY _ (by omega))⟩
variable{l:List Int}{p i:Nat}
theorem aO{n:Int}(hl:gD l)(a:p<2^50)(b: -2^31<n/\n<2^31)(hi:i<nx)(c:H i=some (rdO l p))(h: ∀x:Int,0<=x->(x<n\/x=0)->K (dI x) (H.set i (rdO l (p+1))) nx):
 ag1 aD [dP 2 i,dI n] H nx K:=
 (TX l p n hl a b).ML i rfl (eO ⟨pL (by omega) rfl,aE rfl,trivial⟩) hi c (bU l p) fun r o' ⟨d,x,e,f,g⟩=>by subst d;subst e;exact h x f g
theorem OL(l:List Int)(p:Nat):ag1 cT [dP 2 0,dI 99999] (hp [(0,rdO l p)]) 1
 fun r H' n'=>n'=1/\ ∃o',H'=hp [(0,o')]/\kC o'/\o'=rdO l p/\r=dB false:=by
 refine G5 rfl fun Q a=> ?_
 unfold lR
 repeat' first|apply vI<;>(simp only[go_sem])|fail
 exact jZ a (dB false) _ _ rfl (aE rfl) rfl (bU l p) ⟨rfl,rfl⟩
theorem qE(hi:i<nx)(a:H i=some (rdO l p))(h:K (dB false) (H.set i (rdO l p)) nx):ag1 cT [dP 2 i,dI 99999] H nx K:=(OL l p).ML i rfl (eO ⟨pL (by omega) rfl,aE rfl,trivial⟩) hi a (bU l p) fun r o' ⟨b,c⟩=>by subst b;subst c;exact h
theorem db(l:List Int)(p:Nat)(hl:gD l)(b:p+7<2^50):ag1 qD [dP 2 0] (hp [(0,rdO l p)]) 1
 fun c H' n'=>n'=1/\ ∃o',H'=hp [(0,o')]/\kC o'/\ ∃(a:Nat) (x:Int),o'=rdO l a/\p<=a/\a<=p+7/\c=dI x/\(0<=x/\x<=63):=by
 refine aR.mk Tryz.func287 (by kernel_rfl) XQ rfl fun Q d=> ?_
 unfold tF
 repeat' first| (first|apply vI|refine aO hl (by omega) (by omega) (by omega) rfl (fun x f g=> ?_))<;>(simp only[go_sem];try simp (disch:=omega) only[Iw])|refine⟨by omega,?_⟩|fail
 have e:x=0\/x=1\/x=2\/x=3\/x=4\/x=5\/x=6\/x=7:=by omega
 rcases e with rfl|rfl|rfl|rfl|rfl|rfl|rfl|rfl
 all_goals simp only[go_sem];try simp (disch:=omega) only[Iw]
 all_goals repeat' first|apply vI<;>(simp only[go_sem])|refine⟨by omega,?_⟩|fail
 all_goals exact jZ d (dI _) _ _ rfl (aE rfl) rfl (bU _ _) ⟨_,_,rfl,by omega,by omega,rfl,by omega,by omega⟩
theorem MR(hl:gD l)(b:p+7<2^50)(hi:i<nx)(c:H i=some (rdO l p))(h: ∀(a:Nat) (x:Int),p<=a->a<=p+7->(0<=x/\x<=63)->K (dI x) (H.set i (rdO l a)) nx):
 ag1 qD [dP 2 i] H nx K:=
 (db l p hl b).ML i rfl (eO ⟨pL (by omega) rfl,trivial⟩) hi c (bU l p) fun r o' ⟨a,x,e,f,g,j,k⟩=>by subst e;subst j;exact BY (A:=fun d=>K d (H.set i (rdO l a)) nx) rfl (h a x f g k)
theorem py(l:List Int)(p:Nat)(hl:gD l)(c:p+8<2^50):ag1 mD [dP 2 0,dI 99999] (hp [(0,rdO l p)]) 1
 fun d H' n'=>n'=1/\ ∃o',H'=hp [(0,o')]/\kC o'/\ ∃(b:Nat) (m:List Rng),o'=rdO l b/\p<=b/\b<=p+8/\d=dS (m.map cY)/\(o9 m):=by
 refine M0 rfl fun Q a=> ?_
 unfold qI
 repeat' first| (first|apply vI|refine aO hl (by omega) (by omega) (by omega) rfl (fun x f g=> ?_)|refine qE (by omega) rfl ?_)<;>(simp only[go_sem];try simp (disch:=omega) only[Iw])|refine iR (fun h=> ?_) fun h=> ?_|refine⟨by omega,?_⟩|fail
 ·exact jZ a (dS ((Qz _ _).map cY)) _ _ rfl (oI (l:=Qz _ _) PB rfl rfl (by simp[Qz]) (by decide)) rfl (bU _ _) ⟨_,Qz _ _,rfl,by omega,by omega,rfl,Vx _ _ (by omega)⟩
 ·have e:x=0\/x=1\/x=2:=by omega
  rcases e with rfl|rfl|rfl;·exact jZ a (dS (((M5 false).take 1).map cY)) _ _ rfl (D3 (rows:=((M5 false).take 1).map cY) (aG PB _) rfl (by decide) rfl rfl rfl (by simp[M5])) rfl (bU _ _) ⟨_,(M5 false).take 1,rfl,by omega,by omega,rfl,YU _ 1 (by decide)⟩
  ·exact jZ a (dS (((M5 false).take 2).map cY)) _ _ rfl (D3 (rows:=((M5 false).take 2).map cY) (aG PB _) rfl (by decide) rfl rfl rfl (by simp[M5])) rfl (bU _ _) ⟨_,(M5 false).take 2,rfl,by omega,by omega,rfl,YU _ 2 (by decide)⟩
  ·exact jZ a (dS (((M5 _).take 3).map cY)) _ _ rfl (D3 (rows:=((M5 _).take 3).map cY) (aG PB _) rfl (by decide) rfl rfl rfl (by simp[M5])) rfl (bU _ _) ⟨_,(M5 _).take 3,rfl,by omega,by omega,rfl,YU _ 3 (by decide)⟩
 ·exact jZ a (dS (((M5 _).take 3).map cY)) _ _ rfl (D3 (rows:=((M5 _).take 3).map cY) (aG PB _) rfl (by decide) rfl rfl rfl (by simp[M5])) rfl (bU _ _) ⟨_,(M5 _).take 3,rfl,by omega,by omega,rfl,YU _ 3 (by decide)⟩
theorem kz(hl:gD l)(b:p+8<2^50)(hi:i<nx)(c:H i=some (rdO l p))(h: ∀(a:Nat) (m:List Rng),p<=a->a<=p+8->(o9 m)->K (dS (m.map cY)) (H.set i (rdO l a)) nx):
 ag1 mD [dP 2 i,dI 99999] H nx K:=
 (py l p hl b).ML i rfl (eO ⟨pL (by omega) rfl,aE rfl,trivial⟩) hi c (bU l p) fun r o' ⟨a,m,e,f,g,j,k⟩=>by subst e;subst j;exact BY (A:=fun d=>K d (H.set i (rdO l a)) nx) rfl (h a m f g k)
theorem SC{Q:AQ}(k: ∀ex f H2 e d nh d2 h F σ,ex=AEx.normal\/ex=AEx.ret->nP H2 f xM=some d->CvR 1 d H2 nh d2 h F σ->(nh=1/\ ∃o',h=hp [(0,o')]/\kC o'/\ ∃(a:Nat) (m:List Rng),o'=rdO l a/\p<=a/\a<=p+20/\d2=dS (m.map cY)/\(m.length<=8))->Q ex f H2 e)
 {f:Env} {H2:aA} {e b n cap ext a:Nat} {rows:List (List D1)} {m:List Rng} (o:nP H2 f xM=some (.one (.c (.osl 4 b 0 n cap)))) (q:H2 0=some (rdO l a)) (r:H2 b=some ⟨4,ext,rows⟩) (s:p<=a) (t:a<=p+20) (i:rows.take n=m.map cY) (g:m.length<=8/\n<=cap/\b≠0/\n<=rows.length):Q .ret f H2 e:=by
 obtain⟨g,w,u,v⟩:=g
 have j:n=(m.map cY).length:=by rw[<-i];simp;omega
 exact jZ k (dS (m.map cY)) _ _ o (D3 (rows:=m.map cY) (aG PB _) j u r rfl (by rw[<-j];exact i) (by omega)) q (bU _ _) ⟨a,m,rfl,s,t,rfl,g⟩
theorem T7(l:List Int)(p:Nat)(n:Int)(f:0<n/\n<9000)(hl:gD l)(c:p+1<2^50):ag1 cT [dP 2 0,dI n] (hp [(0,rdO l p)]) 1
 fun d H' n'=>n'=1/\ ∃o',H'=hp [(0,o')]/\kC o'/\ ∃(a:Nat) (b:Bool),o'=rdO l a/\p<=a/\a<=p+1/\d=dB b/\(True):=by
 refine G5 rfl fun Q e=> ?_
 unfold lR
 repeat' first| (first|apply vI|apply Y4 (by omega)|refine aO hl (by omega) (by omega) (by omega) rfl (fun x g h=> ?_))<;>(simp only[go_sem];try simp (disch:=omega) only[Iw])|fail
 exact jZ e (dB _) _ _ rfl (aE rfl) rfl (bU _ _) ⟨_,_,rfl,by omega,by omega,rfl,trivial⟩
theorem gN{n:Int}(e:0<n/\n<9000)(hl:gD l)(c:p+1<2^50)(hi:i<nx)(f:H i=some (rdO l p))(h: ∀(a:Nat) (b:Bool),p<=a->a<=p+1->(True)->K (dB b) (H.set i (rdO l a)) nx):
 ag1 cT [dP 2 i,dI n] H nx K:=
 (T7 l p n e hl c).ML i rfl (eO ⟨pL (by omega) rfl,aE rfl,trivial⟩) hi f (bU l p) fun r o' ⟨a,b,g,j,k,m,o⟩=>by subst g;subst m;exact BY (A:=fun d=>K d (H.set i (rdO l a)) nx) rfl (h a b j k o)
theorem gy(l:List Int)(p:Nat)(hl:gD l)(e:p+20<2^50):ag1 mD [dP 2 0,dI 1] (hp [(0,rdO l p)]) 1
 fun g H' n'=>n'=1/\ ∃o',H'=hp [(0,o')]/\kC o'/\ ∃(c:Nat) (m:List Rng),o'=rdO l c/\p<=c/\c<=p+20/\g=dS (m.map cY)/\(m.length<=8):=by
 refine M0 rfl fun Q a=> ?_
 unfold qI
 repeat' first| (first|apply vI|refine aO hl (by omega) (by omega) (by omega) rfl (fun x i j=> ?_))<;>(simp only[go_sem];try simp (disch:=omega) only[Iw])|refine iR (fun h=> ?_) fun h=> ?_|refine⟨by omega,?_⟩|fail
 case' refine_2.refine_1=>(have d:x=0\/x=1\/x=2:=by omega);rcases d with rfl|rfl|rfl
 all_goals (refine(fun(h: ∀b:Bool,_)=>gN (n:=1) (by omega) hl (by omega) (by omega) rfl (fun v b o q _=> ?_)) (fun _=>trivial);cases b)
 all_goals (simp only[go_sem];try apply kI)
 all_goals repeat' first|apply vI<;>(simp only[go_sem])|fail
 all_goals first
  | (refine aO hl (by omega) (by omega) (by omega) rfl (fun k r s=> ?_)
     have t:k=0\/k=1\/k=2\/k=3:=by omega
     rcases t with rfl|rfl|rfl|rfl
     all_goals first| (exfalso;omega)| (simp only[go_sem];try apply kI))
  |skip
 all_goals try repeat' first| (first|apply vI|refine aO hl (by omega) (by omega) (by omega) rfl (fun x i j=> ?_))<;>(simp only[go_sem];try simp (disch:=omega) only[Iw])|refine iR (fun h=> ?_) fun h=> ?_| (with_reducible first|refine fun(cap:Nat) (f:_<=cap)=> ?_|refine fun(u:_<=cap)=> ?_)|refine⟨by omega,?_⟩|fail
 all_goals first
  | (have d:x=0\/x=1\/x=2:=by omega
     rcases d with rfl|rfl|rfl
     all_goals first| (exfalso;omega)| (simp only[go_sem];try simp (disch:=omega) only[Iw];(refine⟨by omega,kI ?_⟩);repeat' first|apply vI<;>(simp only[go_sem])|fail)|skip)
  |skip
 all_goals try refine⟨by omega,?_⟩
 all_goals try (try apply kI;repeat' first|apply vI<;>(simp only[go_sem])|fail)
 all_goals first
  |exact SC a (m:=[⟨_,_,_,_⟩]) rfl rfl rfl (by omega) (by omega) rfl ⟨by simp,by omega,by decide,by simp⟩
  |exact SC a (m:=[⟨_,_,_,_⟩,⟨_,_,_,_⟩]) rfl rfl rfl (by omega) (by omega) rfl ⟨by simp,by omega,by decide,by simp⟩
  |exact SC a (m:=[⟨_,_,_,_⟩,⟨_,_,_,_⟩,⟨_,_,_,_⟩]) rfl rfl rfl (by omega) (by omega) rfl ⟨by simp,by omega,by decide,by simp⟩
  |exact SC a (m:=[⟨_,_,_,_⟩,⟨_,_,_,_⟩,⟨_,_,_,_⟩,⟨_,_,_,_⟩]) rfl rfl rfl (by omega) (by omega) rfl ⟨by simp,by omega,by decide,by simp⟩
  |exact SC a (m:=[⟨_,_,_,_⟩,⟨_,_,_,_⟩,⟨_,_,_,_⟩,⟨_,_,_,_⟩,⟨_,_,_,_⟩]) rfl rfl rfl (by omega) (by omega) rfl ⟨by simp,by omega,by decide,by simp⟩
  |exact SC a (m:=[⟨_,_,_,_⟩,⟨_,_,_,_⟩,⟨_,_,_,_⟩,⟨_,_,_,_⟩,⟨_,_,_,_⟩,⟨_,_,_,_⟩]) rfl rfl rfl (by omega) (by omega) rfl ⟨by simp,by omega,by decide,by simp⟩
  |exact SC a (m:=[⟨_,_,_,_⟩,⟨_,_,_,_⟩,⟨_,_,_,_⟩,⟨_,_,_,_⟩,⟨_,_,_,_⟩,⟨_,_,_,_⟩,⟨_,_,_,_⟩]) rfl rfl rfl (by omega) (by omega) rfl ⟨by simp,by omega,by decide,by simp⟩
theorem fg(hl:gD l)(b:p+20<2^50)(hi:i<nx)(c:H i=some (rdO l p))(h: ∀(a:Nat) (m:List Rng),p<=a->a<=p+20->(m.length<=8)->K (dS (m.map cY)) (H.set i (rdO l a)) nx):
 ag1 mD [dP 2 i,dI 1] H nx K:=
 (gy l p hl b).ML i rfl (eO ⟨pL (by omega) rfl,aE rfl,trivial⟩) hi c (bU l p) fun r o' ⟨a,m,e,f,g,j,k⟩=>by subst e;subst j;exact BY (A:=fun d=>K d (H.set i (rdO l a)) nx) rfl (h a m f g k)
def rq0(id kind addr many:Int)(wrap:Bool):List D1:=[cI id,cI kind,cI addr,cI many,cB wrap,.osl 0 0 0 0 0,.osl 0 0 0 0 0]
structure Rq where
 id:Int
 kind:Int
 addr:Int
 many:Int
 wrap:Bool
 p:Nat
def rqB(a b c1 c2:Nat)(q:Req):List D1:=[cI q.id,cI q.kind,cI q.addr,cI q.many,cB q.wrap,.osl 1 a 0 q.data.length c1,.osl 1 b 0 q.lanes.length c2]
theorem js{n:Int}{Q:AQ}(t: ∀ex c H2 b d nh d2 r F σ,ex=AEx.normal\/ex=AEx.ret->nP H2 c w9=some d->CvR 1 d H2 nh d2 r F σ->(nh=1/\ ∃o',r=hp [(0,o')]/\kC o'/\ ∃(a:Nat) (q:Req),o'=rdO l a/\p<=a/\a<=p+45/\d2=dA (dT q)/\((n=99999->cR q/\a<=p+40)/\q.data.length<=8/\q.lanes.length<=8))->Q ex c H2 b)
 {c:Env} {H2:aA} {b g h e f c1 c2 m1 u a:Nat} {id kind addr many:Int} {wrap:Bool} {D L:List Int} (v:nP H2 c w9=some (dA [cI id,cI kind,cI addr,cI many,cB wrap,.osl 1 g 0 e c1,.osl 1 h 0 f c2])) (w:H2 0=some (rdO l a)) (x:H2 g=some ⟨1,m1,D.map aF⟩) (y:H2 h=some ⟨1,u,L.map aF⟩)
 (s:p<=a/\a<=p+45) (z:e=D.length/\f=L.length) (i:e<=c1/\f<=c2/\g≠0/\h≠0/\e<=8/\f<=8) (j:n=99999->cR ⟨id,kind,addr,many,wrap,D,L⟩/\a<=p+40):Q .ret c H2 b:=by
 obtain⟨i,A,B,k,m,o⟩:=i
 obtain⟨rfl,rfl⟩:=z
 exact jZ t (dA (dT ⟨id,kind,addr,many,wrap,D,L⟩)) _ _ v (aH (bE rfl) (aH (bE rfl) (aH (bE rfl) (aH (bE rfl) (aH (bE rfl) (aH (cM aP x rfl i (by simpa using B)) (aH (cM aP y rfl A (by simpa using k)) cG))))))) w (bU _ _) ⟨a,_,rfl,s.1,s.2,rfl,j,m,o⟩
theorem de(l:List Int)(p:Nat)(n:Int)(hn:n=99999\/0<n/\n<9000)(hl:gD l)(aa:p+45<2^50):ag1 mE [dP 2 0,dI n] (hp [(0,rdO l p)]) 1
 fun rr H' n'=>n'=1/\ ∃o',H'=hp [(0,o')]/\kC o'/\ ∃(J:Nat) (q:Req),o'=rdO l J/\p<=J/\J<=p+45/\rr=dA (dT q)/\((n=99999->cR q/\J<=p+40)/\q.data.length<=8/\q.lanes.length<=8):=by
 refine aR.mk Tryz.func205 (by kernel_rfl) gl rfl fun Q A=> ?_
 unfold x9
 (apply vR);(simp only[go_sem];try simp (disch:=omega) only[Iw]);(apply kI)
 refine aK.join 2 (α:={u:Rq//(0<=u.id/\u.id<=1)/\(1<=u.kind/\u.kind<=4)/\(0<=u.addr/\u.addr<=63)/\(u.many=1\/u.many=2\/u.many=4)/\p<=u.p/\u.p<=p+11})
  (fun b u=>en [(5,dP 7 (b+1)),(4,dP 7 b),(1,dI n),(0,dP 2 0)]) (fun b u=>hp [(0,rdO l u.1.p),(b,⟨7,1,[rq0 0 0 0 0 false]⟩),(b+1,⟨7,1,[rq0 u.1.id u.1.kind u.1.addr u.1.many u.1.wrap]⟩)]) (fun R a=> ?_) ?_
 ·repeat' first| (first|apply vI|refine aO hl (by omega) (by omega) (by omega) rfl (fun x e B=> ?_)|refine MR hl (by omega) (by omega) rfl (fun K z aj ao bk=> ?_))<;>(simp only[go_sem];try simp (disch:=omega) only[Iw])|refine⟨by omega,?_⟩|fail
  have s:x=0\/x=1\/x=2\/x=3:=by omega
  rcases s with rfl|rfl|rfl|rfl;all_goals simp only[go_sem];try simp (disch:=omega) only[Iw]
  all_goals repeat' first| (first|apply vI|refine aO hl (by omega) (by omega) (by omega) rfl (fun x e B=> ?_))<;>(simp only[go_sem])|fail
  all_goals rename_i id ab ad kind M N _ _
  ·refine a _ _ _ ⟨⟨id,1+kind,z,1,decide (x=0),K+1+1⟩,by dsimp only;omega,by dsimp only;omega,by dsimp only;omega,by dsimp only;omega,by dsimp only;omega,by dsimp only;omega⟩ (by(refine eD [1,18,0] (by omega) (by repeat' first|exact C1|refine xqI rfl rfl ?_|refine xqP (by omega) rfl rfl ?_|fail) ⟨⟨by simp,by simp[sgL],_,rfl,cP (bU _ _)⟩,⟨by simp,by simp[sgL],_,rfl,aW (by(try unfold rq0);repeat' first|exact C1| (with_reducible first|exact C3|apply C4)| ((with_reducible apply C0);first|exact CB rfl|exact CC)|fail)⟩,⟨by simp,by simp[sgL],_,rfl,aW (by(try unfold rq0);repeat' first|exact C1| (with_reducible first|exact C3|apply C4)| ((with_reducible apply C0);first|exact CB rfl|exact CC)|fail)⟩,trivial⟩ (by simp[sgL])))
  ·refine a _ _ _ ⟨⟨id,1+kind,z,1,decide (x=0),K+1+1⟩,by dsimp only;omega,by dsimp only;omega,by dsimp only;omega,by dsimp only;omega,by dsimp only;omega,by dsimp only;omega⟩ (by(refine eD [1,18,0] (by omega) (by repeat' first|exact C1|refine xqI rfl rfl ?_|refine xqP (by omega) rfl rfl ?_|fail) ⟨⟨by simp,by simp[sgL],_,rfl,cP (bU _ _)⟩,⟨by simp,by simp[sgL],_,rfl,aW (by(try unfold rq0);repeat' first|exact C1| (with_reducible first|exact C3|apply C4)| ((with_reducible apply C0);first|exact CB rfl|exact CC)|fail)⟩,⟨by simp,by simp[sgL],_,rfl,aW (by(try unfold rq0);repeat' first|exact C1| (with_reducible first|exact C3|apply C4)| ((with_reducible apply C0);first|exact CB rfl|exact CC)|fail)⟩,trivial⟩ (by simp[sgL])))
  ·refine a _ _ _ ⟨⟨id,1+kind,z,2,decide (x=0),K+1+1⟩,by dsimp only;omega,by dsimp only;omega,by dsimp only;omega,by dsimp only;omega,by dsimp only;omega,by dsimp only;omega⟩ (by(refine eD [1,18,0] (by omega) (by repeat' first|exact C1|refine xqI rfl rfl ?_|refine xqP (by omega) rfl rfl ?_|fail) ⟨⟨by simp,by simp[sgL],_,rfl,cP (bU _ _)⟩,⟨by simp,by simp[sgL],_,rfl,aW (by(try unfold rq0);repeat' first|exact C1| (with_reducible first|exact C3|apply C4)| ((with_reducible apply C0);first|exact CB rfl|exact CC)|fail)⟩,⟨by simp,by simp[sgL],_,rfl,aW (by(try unfold rq0);repeat' first|exact C1| (with_reducible first|exact C3|apply C4)| ((with_reducible apply C0);first|exact CB rfl|exact CC)|fail)⟩,trivial⟩ (by simp[sgL])))
  ·refine a _ _ _ ⟨⟨id,1+kind,z,4,decide (x=0),K+1+1⟩,by dsimp only;omega,by dsimp only;omega,by dsimp only;omega,by dsimp only;omega,by dsimp only;omega,by dsimp only;omega⟩ (by(refine eD [1,18,0] (by omega) (by repeat' first|exact C1|refine xqI rfl rfl ?_|refine xqP (by omega) rfl rfl ?_|fail) ⟨⟨by simp,by simp[sgL],_,rfl,cP (bU _ _)⟩,⟨by simp,by simp[sgL],_,rfl,aW (by(try unfold rq0);repeat' first|exact C1| (with_reducible first|exact C3|apply C4)| ((with_reducible apply C0);first|exact CB rfl|exact CC)|fail)⟩,⟨by simp,by simp[sgL],_,rfl,aW (by(try unfold rq0);repeat' first|exact C1| (with_reducible first|exact C3|apply C4)| ((with_reducible apply C0);first|exact CB rfl|exact CC)|fail)⟩,trivial⟩ (by simp[sgL])))
 rintro⟨⟨id,kind,addr,many,wrap,q⟩,t,w,S,O,C,f6⟩
 dsimp only at t w S O C f6
 refine aK.join 2 (α:={u:Rq//((0<=u.id/\u.id<=1)/\(1<=u.kind/\u.kind<=4)/\(0<=u.addr/\u.addr<=63)/\(u.many=1\/u.many=2\/u.many=4)/\p<=u.p/\u.p<=p+12)/\(3<=u.kind->u.many=1)})
  (fun b u=>en [(5,dP 7 (b+1)),(4,dP 7 b),(1,dI n),(0,dP 2 0)]) (fun b u=>hp [(0,rdO l u.1.p),(b,⟨7,1,[rq0 0 0 0 0 false]⟩),(b+1,⟨7,1,[rq0 u.1.id u.1.kind u.1.addr u.1.many u.1.wrap]⟩)]) (fun R a=> ?_) ?_
 ·repeat' first| (first|apply vI|refine aO hl (by omega) (by omega) (by omega) rfl (fun x e B=> ?_))<;>(simp only[go_sem,rq0])|refine iR (fun h=> ?_) fun h=> ?_|refine⟨by omega,?_⟩|fail
  ·have s:x=0\/x=1\/x=2\/x=3:=(by omega);rcases s with rfl|rfl|rfl|rfl;all_goals simp only[go_sem];try simp (disch:=omega) only[Iw]
   all_goals repeat' first|apply vI<;>(simp only[go_sem])|fail
   ·refine a _ _ _ ⟨⟨id,kind,0,1,wrap,q+1⟩,by dsimp only;omega,by dsimp only;omega⟩ (by(refine eD [2,3,0] (by omega) (by repeat' first|exact C1|refine xqI rfl rfl ?_|refine xqP (by omega) rfl rfl ?_|fail) ⟨⟨by simp,by simp[sgL],_,rfl,cP (bU _ _)⟩,⟨by simp,by simp[sgL],_,rfl,aW (by(try unfold rq0);repeat' first|exact C1| (with_reducible first|exact C3|apply C4)| ((with_reducible apply C0);first|exact CB rfl|exact CC)|fail)⟩,⟨by simp,by simp[sgL],_,rfl,aW (by(try unfold rq0);repeat' first|exact C1| (with_reducible first|exact C3|apply C4)| ((with_reducible apply C0);first|exact CB rfl|exact CC)|fail)⟩,trivial⟩ (by simp[sgL])))
   ·refine a _ _ _ ⟨⟨id,kind,1,1,wrap,q+1⟩,by dsimp only;omega,by dsimp only;omega⟩ (by(refine eD [2,3,0] (by omega) (by repeat' first|exact C1|refine xqI rfl rfl ?_|refine xqP (by omega) rfl rfl ?_|fail) ⟨⟨by simp,by simp[sgL],_,rfl,cP (bU _ _)⟩,⟨by simp,by simp[sgL],_,rfl,aW (by(try unfold rq0);repeat' first|exact C1| (with_reducible first|exact C3|apply C4)| ((with_reducible apply C0);first|exact CB rfl|exact CC)|fail)⟩,⟨by simp,by simp[sgL],_,rfl,aW (by(try unfold rq0);repeat' first|exact C1| (with_reducible first|exact C3|apply C4)| ((with_reducible apply C0);first|exact CB rfl|exact CC)|fail)⟩,trivial⟩ (by simp[sgL])))
   ·refine a _ _ _ ⟨⟨id,kind,16,1,wrap,q+1⟩,by dsimp only;omega,by dsimp only;omega⟩ (by(refine eD [2,3,0] (by omega) (by repeat' first|exact C1|refine xqI rfl rfl ?_|refine xqP (by omega) rfl rfl ?_|fail) ⟨⟨by simp,by simp[sgL],_,rfl,cP (bU _ _)⟩,⟨by simp,by simp[sgL],_,rfl,aW (by(try unfold rq0);repeat' first|exact C1| (with_reducible first|exact C3|apply C4)| ((with_reducible apply C0);first|exact CB rfl|exact CC)|fail)⟩,⟨by simp,by simp[sgL],_,rfl,aW (by(try unfold rq0);repeat' first|exact C1| (with_reducible first|exact C3|apply C4)| ((with_reducible apply C0);first|exact CB rfl|exact CC)|fail)⟩,trivial⟩ (by simp[sgL])))
   ·refine a _ _ _ ⟨⟨id,kind,32,1,wrap,q+1⟩,by dsimp only;omega,by dsimp only;omega⟩ (by(refine eD [2,3,0] (by omega) (by repeat' first|exact C1|refine xqI rfl rfl ?_|refine xqP (by omega) rfl rfl ?_|fail) ⟨⟨by simp,by simp[sgL],_,rfl,cP (bU _ _)⟩,⟨by simp,by simp[sgL],_,rfl,aW (by(try unfold rq0);repeat' first|exact C1| (with_reducible first|exact C3|apply C4)| ((with_reducible apply C0);first|exact CB rfl|exact CC)|fail)⟩,⟨by simp,by simp[sgL],_,rfl,aW (by(try unfold rq0);repeat' first|exact C1| (with_reducible first|exact C3|apply C4)| ((with_reducible apply C0);first|exact CB rfl|exact CC)|fail)⟩,trivial⟩ (by simp[sgL])))
  ·refine a _ _ _ ⟨⟨id,kind,addr,many,wrap,q⟩,by dsimp only;omega,by dsimp only;omega⟩ (by(refine eD [2,3,0] (by omega) (by repeat' first|exact C1|refine xqI rfl rfl ?_|refine xqP (by omega) rfl rfl ?_|fail) ⟨⟨by simp,by simp[sgL],_,rfl,cP (bU _ _)⟩,⟨by simp,by simp[sgL],_,rfl,aW (by(try unfold rq0);repeat' first|exact C1| (with_reducible first|exact C3|apply C4)| ((with_reducible apply C0);first|exact CB rfl|exact CC)|fail)⟩,⟨by simp,by simp[sgL],_,rfl,aW (by(try unfold rq0);repeat' first|exact C1| (with_reducible first|exact C3|apply C4)| ((with_reducible apply C0);first|exact CB rfl|exact CC)|fail)⟩,trivial⟩ (by simp[sgL])))
 rintro⟨⟨id,kind,addr,many,wrap,q⟩,⟨t,w,S,O,C,f6⟩,T⟩
 dsimp only at t w S O C f6 T
 refine aK.join 2 (α:={u:Rq//((0<=u.id/\u.id<=1)/\(1<=u.kind/\u.kind<=4)/\p<=u.p/\u.p<=p+12)/\(3<=u.kind->u.many=1)/\qG u.addr u.many u.wrap})
  (fun b u=>en [(5,dP 7 (b+1)),(4,dP 7 b),(1,dI n),(0,dP 2 0)]) (fun b u=>hp [(0,rdO l u.1.p),(b,⟨7,1,[rq0 0 0 0 0 false]⟩),(b+1,⟨7,1,[rq0 u.1.id u.1.kind u.1.addr u.1.many u.1.wrap]⟩)]) (fun R a=> ?_) ?_
 ·repeat' first| (first|apply vI| (refine Y7 (fun h=> ?_) (fun h=> ?_)<;>try subst h))<;>(simp only[go_sem,rq0];try simp (disch:=omega) only[Iw])|refine iR (fun h=> ?_) fun h=> ?_|fail
  ·refine a _ _ _ ⟨⟨id,kind,63-many+1,many,wrap,q⟩,by dsimp only;omega,by dsimp only;omega,by dsimp only;exact⟨by omega,by omega,.inr (by omega)⟩⟩ (by(refine eD [4,5,0] (by omega) (by repeat' first|exact C1|refine xqI rfl rfl ?_|refine xqP (by omega) rfl rfl ?_|fail) ⟨⟨by simp,by simp[sgL],_,rfl,cP (bU _ _)⟩,⟨by simp,by simp[sgL],_,rfl,aW (by(try unfold rq0);repeat' first|exact C1| (with_reducible first|exact C3|apply C4)| ((with_reducible apply C0);first|exact CB rfl|exact CC)|fail)⟩,⟨by simp,by simp[sgL],_,rfl,aW (by(try unfold rq0);repeat' first|exact C1| (with_reducible first|exact C3|apply C4)| ((with_reducible apply C0);first|exact CB rfl|exact CC)|fail)⟩,trivial⟩ (by simp[sgL])))
  ·refine a _ _ _ ⟨⟨id,kind,addr,many,wrap,q⟩,by dsimp only;omega,by dsimp only;omega,by dsimp only;exact⟨by omega,by omega,.inr (by omega)⟩⟩ (by(refine eD [4,5,0] (by omega) (by repeat' first|exact C1|refine xqI rfl rfl ?_|refine xqP (by omega) rfl rfl ?_|fail) ⟨⟨by simp,by simp[sgL],_,rfl,cP (bU _ _)⟩,⟨by simp,by simp[sgL],_,rfl,aW (by(try unfold rq0);repeat' first|exact C1| (with_reducible first|exact C3|apply C4)| ((with_reducible apply C0);first|exact CB rfl|exact CC)|fail)⟩,⟨by simp,by simp[sgL],_,rfl,aW (by(try unfold rq0);repeat' first|exact C1| (with_reducible first|exact C3|apply C4)| ((with_reducible apply C0);first|exact CB rfl|exact CC)|fail)⟩,trivial⟩ (by simp[sgL])))
  ·refine a _ _ _ ⟨⟨id,kind,addr,many,wrap,q⟩,by dsimp only;omega,by dsimp only;omega,by dsimp only;exact⟨by omega,by omega,.inl (by simp_all)⟩⟩ (by(refine eD [4,5,0] (by omega) (by repeat' first|exact C1|refine xqI rfl rfl ?_|refine xqP (by omega) rfl rfl ?_|fail) ⟨⟨by simp,by simp[sgL],_,rfl,cP (bU _ _)⟩,⟨by simp,by simp[sgL],_,rfl,aW (by(try unfold rq0);repeat' first|exact C1| (with_reducible first|exact C3|apply C4)| ((with_reducible apply C0);first|exact CB rfl|exact CC)|fail)⟩,⟨by simp,by simp[sgL],_,rfl,aW (by(try unfold rq0);repeat' first|exact C1| (with_reducible first|exact C3|apply C4)| ((with_reducible apply C0);first|exact CB rfl|exact CC)|fail)⟩,trivial⟩ (by simp[sgL])))
 rintro⟨⟨id,kind,addr,many,wrap,q⟩,⟨t,w,C,f6⟩,T,P⟩
 dsimp only at t w C f6 T P
 have O:=P.1
 refine aK.oB 1 (aK.oB 1 ?_)
 refine aK.join 4 (α:={u:Req×Nat×Nat×Nat//(cR u.1/\u.1.data.length<=4/\u.1.lanes.length<=4/\u.1.data.length<=u.2.2.1/\u.1.lanes.length<=u.2.2.2)/\p<=u.2.1/\u.2.1<=p+40})
  (fun b u=>en [(5,dP 7 (b+1)),(4,dP 7 b),(1,dI n),(0,dP 2 0)]) (fun b u=>hp [(0,rdO l u.1.2.1),(b,⟨7,1,[rq0 0 0 0 0 false]⟩),(b+1,⟨7,1,[rqB (b+2) (b+3) u.1.2.2.1 u.1.2.2.2 u.1.1]⟩),(b+2,⟨1,u.1.2.2.1,u.1.1.data.map aF⟩),(b+3,⟨1,u.1.2.2.2,u.1.1.lanes.map aF⟩)]) (fun R a=> ?_) ?_
 ·repeat' first| (first|apply vI|refine Y6 (fun h=> ?_) fun h=> ?_)<;>(simp only[go_sem,rq0])|refine iR (fun h=> ?_) fun h=> ?_|fail
  rotate_left 2
  ·refine a _ _ _ ⟨(⟨id,kind,addr,many,wrap,[],[]⟩,q,0,0),⟨⟨t,w,P,?_,?_,?_,?_,by dsimp only;omega⟩,by simp,by simp,by simp,by simp⟩,by dsimp only;omega,by dsimp only;omega⟩ (by(refine eD [6,7,8,9,0] (by omega) (by repeat' first|exact C1|refine xqI rfl rfl ?_|refine xqP (by omega) rfl rfl ?_|fail) ⟨⟨by simp,by simp[sgL],_,rfl,cP (bU _ _)⟩,⟨by simp,by simp[sgL],_,rfl,aW (by(try unfold rq0);repeat' first|exact C1| (with_reducible first|exact C3|apply C4)| ((with_reducible apply C0);first|exact CB rfl|exact CC)|fail)⟩,⟨by simp,by simp[sgL],_,rfl,aW (by(try unfold rq0 rqB);repeat' first|exact C1| (with_reducible first|exact C3|apply C4)| ((with_reducible apply C0);first|exact CB rfl|exact CC)|apply C4|fail)⟩,⟨by simp,by simp[sgL],_,rfl,aY (aG aP _) rfl rfl⟩,⟨by simp,by simp[sgL],_,rfl,aY (aG aP _) rfl rfl⟩,trivial⟩ (by simp[sgL])));·simp only[oE];rw[if_neg (by omega)];rfl
   ·simp only[oE];rw[if_neg (by omega)];rfl
   ·intro x s;simp at s
   ·intro x s;simp at s
  all_goals
   have f:kind=2\/kind=4:=by omega
   refine aK.zE 4 (β:=(Nat×Nat)×(List Int×Nat)×(List Int×Nat))
    (fun b u=>en [(6,dI u.1.1),(5,dP 7 (b+1)),(4,dP 7 b),(1,dI n),(0,dP 2 0)])
    (fun b u=>hp [(0,rdO l u.1.2),(b,⟨7,1,[rq0 0 0 0 0 false]⟩),(b+1,⟨7,1,[[cI id,cI kind,cI addr,cI many,cB wrap,.osl 1 (b+2) 0 u.1.1 u.2.1.2,.osl 1 (b+3) 0 u.1.1 u.2.2.2]]⟩),(b+2,⟨1,u.2.1.2,u.2.1.1.map aF⟩),(b+3,⟨1,u.2.2.2,u.2.2.1.map aF⟩)])
    (fun u=>((u.1.1:Int)<=many/\u.1.2<=q+4*u.1.1/\q<=u.1.2)/\(u.2.1.1.length=u.1.1/\All u.2.1.1 0 65535/\u.1.1<=u.2.1.2)/\(u.2.2.1.length=u.1.1/\All u.2.2.1 0 3/\u.1.1<=u.2.2.2))
    (fun u=>many.toNat-u.1.1) ((0,q),([],0),([],0)) ?_ ⟨⟨by dsimp only;omega,by dsimp only;omega,by dsimp only;omega⟩,⟨rfl,by simp[All],by simp⟩,⟨rfl,by simp[All],by simp⟩⟩ ?_
   · (refine eD [6,7,8,9,0] (by omega) (by repeat' first|exact C1|refine xqI rfl rfl ?_|refine xqP (by omega) rfl rfl ?_|fail) ⟨⟨by simp,by simp[sgL],_,rfl,cP (bU _ _)⟩,⟨by simp,by simp[sgL],_,rfl,aW (by unfold rq0;repeat' first|exact C1| (with_reducible first|exact C3|apply C4)| ((with_reducible apply C0);first|exact CB rfl|exact CC)|fail)⟩,⟨by simp,by simp[sgL],_,rfl,aW (by(try unfold rq0);repeat' first|exact C1| (with_reducible first|exact C3|apply C4)| ((with_reducible apply C0);first|exact CB rfl|exact CC)|fail)⟩,⟨by simp,by simp[sgL],_,rfl,aY (aG aP _) rfl rfl⟩,⟨by simp,by simp[sgL],_,rfl,aY (aG aP _) rfl rfl⟩,trivial⟩ (by simp[sgL]))
   ·rintro⟨⟨k,q'⟩,⟨j,ca⟩,⟨m,cl⟩⟩ ⟨⟨U,V,W⟩,⟨X,E,Y⟩,⟨g7,Z,g9⟩⟩ KL ai;dsimp only at U V W X E Y g7 Z g9;have y:j.take k=j:=ac6 (by omega);have c:m.take k=m:=ac6 (by omega);by_cases bp:k<many.toNat
    ·repeat' first| (first|apply vI|refine aO hl (by omega) (by omega) (by omega) rfl (fun x e B=> ?_))<;>(simp only[go_sem,rq0];try simp (disch:=omega) only[Iw])|apply vT (by omega)|refine⟨by omega,?_⟩|fail
     rename_i z br cc xb cd cf;obtain⟨v,g,F⟩:=Tn (lo:=0) (hi:=65535) (L:=[[.v (.int .i64 (z*257))],[.v (.int .i64 xb)],[.v (.int .i64 65535)],[.v (.int .i64 0)]]) (by intro r hr;simp only[adA,ad4,or_false] at hr;rcases hr with rfl|rfl|rfl|rfl<;>exact⟨_,rfl,by omega,by omega⟩) e (by simp;omega);simp only[go_sem,g,y];repeat' first| (first|apply vI|refine aO hl (by omega) (by omega) (by omega) rfl (fun x e B=> ?_))<;>(simp only[go_sem,y,c])| (with_reducible first|refine fun(cap:Nat) (o:_<=cap)=> ?_|refine fun(G:_<=cap)=> ?_)|refine⟨by omega,?_⟩|fail
     obtain⟨u,hu,H⟩:=Tn (lo:=0) (hi:=3) (L:=[[.v (.int .i64 3)],[.v (.int .i64 3)],[.v (.int .i64 1)],[.v (.int .i64 2)],[.v (.int .i64 0)]]) (by intro r hr;simp only[adA,ad4,or_false] at hr;rcases hr with rfl|rfl|rfl|rfl|rfl<;>exact⟨_,rfl,by omega,by omega⟩) e (by simp;omega);simp only[go_sem,hu,c];repeat' first|apply vI<;>(simp only[go_sem,y,c];try simp (disch:=omega) only[Iw])| (with_reducible first|refine fun(cap:Nat) (o:_<=cap)=> ?_|refine fun(G:_<=cap)=> ?_)|refine⟨by omega,?_⟩|fail
     exact ai _ _ _ ((k+1,_),(j++[_],_),(m++[_],_)) (by omega) (by(refine eD [19,20,40,51,0] (by omega) (by repeat' first|exact C1|refine xqI rfl rfl ?_|refine xqP (by omega) rfl rfl ?_|fail) ⟨⟨by simp,by simp[sgL],_,rfl,cP (bU _ _)⟩,⟨by simp,by simp[sgL],_,rfl,aW (by unfold rq0;repeat' first|exact C1| (with_reducible first|exact C3|apply C4)| ((with_reducible apply C0);first|exact CB rfl|exact CC)|fail)⟩,⟨by simp,by simp[sgL],_,rfl,aW (by repeat' first|exact C1| (with_reducible first|exact C3|apply C4)| ((with_reducible apply C0);first|exact CB rfl|exact CQ (by omega) rfl rfl (by rfl) rfl)|fail)⟩,⟨by simp,by simp[sgL],_,rfl,aY (aG aP _) rfl rfl⟩,⟨by simp,by simp[sgL],_,rfl,aY (aG aP _) rfl rfl⟩,trivial⟩ (by simp[sgL])))
      ⟨⟨by dsimp only;omega,by dsimp only;omega,by dsimp only;omega⟩,⟨by simp;omega,jj E F.1 F.2,by dsimp only;omega⟩,⟨by simp;omega,jj Z H.1 H.2,by dsimp only;omega⟩⟩ (by dsimp only;omega)
    ·repeat' first|apply vI<;>(simp only[go_sem,rq0])|apply vF (by omega)|fail
     refine a _ _ _ ⟨(⟨id,kind,addr,many,wrap,j,m⟩,q',ca,cl),⟨⟨t,w,P,?_,?_,E,Z,by dsimp only;omega⟩,by dsimp only;omega,by dsimp only;omega,by dsimp only;omega,by dsimp only;omega⟩,by dsimp only;omega,by dsimp only;omega⟩ (by(refine eD [19,20,21,22,0] (by omega) (by repeat' first|exact C1|refine xqI rfl rfl ?_|refine xqP (by omega) rfl rfl ?_|fail) ⟨⟨by simp,by simp[sgL],_,rfl,cP (bU _ _)⟩,⟨by simp,by simp[sgL],_,rfl,aW (by(try unfold rq0);repeat' first|exact C1| (with_reducible first|exact C3|apply C4)| ((with_reducible apply C0);first|exact CB rfl|exact CC)|fail)⟩,⟨by simp,by simp[sgL],_,rfl,aW (by(try unfold rq0 rqB);repeat' first|exact C1| (with_reducible first|exact C3|apply C4)| ((with_reducible apply C0);first|exact CB rfl|exact CQ (by omega) rfl rfl (by first|rfl|omega) rfl)|apply C4|fail)⟩,⟨by simp,by simp[sgL],_,rfl,aY (aG aP _) rfl rfl⟩,⟨by simp,by simp[sgL],_,rfl,aY (aG aP _) rfl rfl⟩,trivial⟩ (by simp[sgL])));·simp only[oE];rw[if_pos f];omega
     ·simp only[oE];rw[if_pos f];omega
 rintro⟨⟨⟨id,kind,addr,many,wrap,j,m⟩,q',ca,cl⟩,⟨I,U,V,W,X⟩,E,Y⟩
 dsimp only at I U V W X E Y
 have d:j.take j.length=j:=ad1
 have c:m.take m.length=m:=ad1
 by_cases i:n=99999
 ·subst i;repeat' first| (first|apply vI|refine qE (by omega) rfl ?_)<;>(simp only[go_sem,rqB,rq0,d,c])|fail
  exact js A rfl rfl rfl rfl (by omega) ⟨rfl,rfl⟩ (by omega) (fun _=>⟨I,by omega⟩)
 repeat' first| (first|apply vI|refine gN (n:=n) (by omega) hl (by omega) (by omega) rfl (fun p1 bb ck cp _=> ?_)|refine aO hl (by omega) (by omega) (by omega) rfl (fun x e B=> ?_))<;>(simp only[go_sem,rqB,rq0,d,c])|refine iR (fun h=> ?_) fun h=> ?_| (with_reducible first|refine fun(cap:Nat) (o:_<=cap)=> ?_|refine fun(G:_<=cap)=> ?_)| ((refine CK (fun h=> ?_) (fun h=> ?_))<;>try subst h)|refine⟨by omega,?_⟩|fail
 all_goals first
  | (obtain⟨v,g⟩:=rD (L:=[[.v (.int .i64 (-1))],[.v (.int .i64 2)]]) (by simp) e (by simp;omega);simp only[g];simp only[go_sem,d,c])
  | (obtain⟨v,g⟩:=rD (L:=[[.v (.int .i64 0)],[.v (.int .i64 5)]]) (by simp) e (by simp;omega);simp only[g];simp only[go_sem,d,c])
  | (obtain⟨v,g⟩:=rD (L:=[[.v (.int .i64 (-1))],[.v (.int .i64 64)],[.v (.int .i64 63)]]) (by simp) e (by simp;omega);simp only[g];simp only[go_sem,d,c])
  | (obtain⟨v,g⟩:=rD (L:=[[.v (.int .i64 0)],[.v (.int .i64 3)],[.v (.int .i64 8)],[.v (.int .i64 4)]]) (by simp) e (by simp;omega);simp only[g];simp only[go_sem,d,c])
  | (obtain⟨v,g⟩:=rD (L:=[[.v (.int .i64 (-1))],[.v (.int .i64 65536)]]) (by simp) e (by simp;omega);simp only[g];simp only[go_sem,d,c])
  |skip
 all_goals try repeat' first|apply vI<;>(simp only[go_sem,rqB,rq0,d,c])|refine⟨by omega,?_⟩|fail
 all_goals first
  |exact js A rfl rfl rfl rfl (by omega) ⟨rfl,rfl⟩ (by omega) (fun h=>absurd h i)
  |exact js A (D:=j++[5]) rfl rfl rfl rfl (by omega) ⟨by simp,rfl⟩ (by omega) (fun h=>absurd h i)
  |exact js A (L:=m++[1]) rfl rfl rfl rfl (by omega) ⟨rfl,by simp⟩ (by omega) (fun h=>absurd h i)
  |exact js A (D:=j.set 0 _) rfl rfl rfl rfl (by omega) ⟨by simp,rfl⟩ (by omega) (fun h=>absurd h i)
theorem M4{n:Int}(c:n=99999\/0<n/\n<9000)(hl:gD l)(b:p+45<2^50)(hi:i<nx)(e:H i=some (rdO l p))(h: ∀(a:Nat) (q:Req),p<=a->a<=p+45->((n=99999->cR q/\a<=p+40)/\q.data.length<=8/\q.lanes.length<=8)->K (dA (dT q)) (H.set i (rdO l a)) nx):
 ag1 mE [dP 2 i,dI n] H nx K:=
 (de l p n c hl b).ML i rfl (eO ⟨pL (by omega) rfl,aE rfl,trivial⟩) hi e (bU l p) fun r o' ⟨a,q,f,g,j,k,m⟩=>by subst f;subst k;exact BY (A:=fun d=>K d (H.set i (rdO l a)) nx) rfl (h a q g j m)
theorem lh(hl:gD l)(a:p+45<2^50)(hi:i<nx)(d:H i=some (rdO l p))(h: ∀(b:Nat) (q:Req),p<=b->b<=p+40->cR q->K (dA (dT q)) (H.set i (rdO l b)) nx):
 ag1 mE [dP 2 i,dI 99999] H nx K:=
 M4 (n:=99999) (.inl rfl) hl a hi d fun b q e _ c=>h b q e (c.1 rfl).2 (c.1 rfl).1
theorem gu(hl:gD l)(a:p+45<2^50)(hi:i<nx)(c:H i=some (rdO l p))(h: ∀(b:Nat) (q:Req),p<=b->b<=p+45->(q.data.length<=8/\q.lanes.length<=8)->K (dA (dT q)) (H.set i (rdO l b)) nx):
 ag1 mE [dP 2 i,dI 1] H nx K:=
 M4 (n:=1) (.inr (by omega)) hl a hi c fun b q d e f=>h b q d e f.2
end
end Go.Proofs.YtlncecohbakleaaGreat
