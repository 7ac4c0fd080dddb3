/- Rules and contracts. -/
import Derived.Test.YtlncecohbakleaaGreatPM12
set_option linter.unusedVariables false
set_option linter.unusedSimpArgs false
set_option maxRecDepth 100000
set_option maxHeartbeats 8000000
namespace Go.AM
theorem Jd{l:List Job}{j:Job}(h:key j∈l.map key):j9 (Go.Proofs.YtlncecohbakleaaGreat.YI l) [j.who,j.n]=some 1:=by
 induction l with
 |nil=>simp at h
 |cons x l a=>
  unfold j9 Go.Proofs.YtlncecohbakleaaGreat.YI;rw[adG,List.find?_cons];by_cases he:[j.who,j.n]=[x.who,x.n]
  ·simp[he]
  ·have b:key j∈l.map key:=by
    rw[adG,adA] at h
    rcases h with h|h
    ·exact absurd (by simp only[key,Prod.mk.injEq] at h;rw[h.1,h.2]) he
    ·exact h
   simp only[he,decide_false]
   exact a b
theorem Ge{α:Type}[Inhabited α]{l:List α}{i:Nat}(h:i<l.length):l=l.take i++l.getD i default::l.drop (i+1):=by
 have:l.getD i default=l[i]:=by simp[List.getD,h]
 rw[this,<-aeC h,aeL]
end Go.AM
namespace Go.Proofs.YtlncecohbakleaaGreat
open Go Go.AM
attribute [local irreducible] aK wv aC vd wvH
section
variable{H:aA}{nx:Nat}{K:ag2}
theorem CP{c:Cfg}{s:TSt}(hb:bG c)(ht:Dh s)(h:K (dB (stB c s)) H nx):ag1 mX [dA (bO c),dA (eSt s)] H nx K:=by
 refine aC.pure (args0:=[dA (bO c),dA (eSt s)]) (R:=fun rr=>rr=dB (stB c s)) ?_ rfl (aM ⟨aE rfl,aE rfl,trivial⟩) (fun r hr=>hr▸h);clear h;refine aR.mk Tryz.func198 (by kernel_rfl) OG rfl fun Q P=> ?_;unfold lY;obtain⟨dh,v⟩:=eM hb;obtain⟨t1,t2,t3,t4,t5,t6,t7⟩:=ht;have hd: ∀j∈s.wait++s.done++s.told,j.rsp.data.length<2^40:=fun j p=>by have:=t7 j p;omega
 by_cases h0:pT s.words s.holds/\(s.asked.length:Int)=3/\gJ s.wait/\gJ s.done
 case neg=>
  have dm: ¬kM c s:=fun hs=>h0 ⟨jq hs.atm,by rw[hs.yI];rfl,hs.TA,hs.UP⟩;repeat' first| (first|apply vI|refine Y6 (fun h=> ?_) fun h=> ?_|refine E4 (w:=s.words) (u:=s.holds) (by omega) (by omega) (aE rfl) ?_|refine A3 (l:=s.wait) (by omega) (aE rfl) ?_|refine A3 (l:=s.done) (by omega) (aE rfl) ?_)<;>(simp only[go_sem])|refine iR (fun h=> ?_) fun h=> ?_|fail
  all_goals first|exact aQ P (dB false) rfl rfl (congrArg dB (P2 dm).symm)|exact absurd ⟨by simp_all,by omega,by simp_all,by simp_all⟩ h0
 obtain⟨S,aa,ck,cl⟩:=h0;have aa:s.asked.length=3:=by omega
 have cp:=Mq aa;repeat' first| (first|apply vI|apply Y5 (by omega)|refine E4 (w:=s.words) (u:=s.holds) (by omega) (by omega) (aE rfl) ?_|refine A3 (l:=s.wait) (by omega) (aE rfl) ?_|refine A3 (l:=s.done) (by omega) (aE rfl) ?_)<;>(simp only[go_sem,eq_true S,eq_true ck,eq_true cl])|fail
 refine aK.zE 0 (β:=Nat) (fun b k=>en [(38,dI k),(37,dI s.asked.length),(36,dS (s.asked.map aF)),(5,dI (s.asked.take k).sum),(3,.one (.c (.dQ (eSt s)))),(2,.one (.c (.dQ (bO c))))]) (fun b k=>.nil) (fun k=>k<=3/\(0<=(s.asked.take k).sum/\(s.asked.take k).sum<=12*k)/\ ∀i,i<k->0<=s.asked.getD i default/\s.asked.getD i default<=(c.cH.getD i default).length) (fun k=>3-k) 0 (bI (ac1 _) (by repeat' first|exact C1|refine xqI rfl rfl ?_| (with_reducible apply C2)| ((with_reducible apply D0);exact CI rfl (by simp) rfl rfl rfl)|fail)) ⟨by omega,by simp,fun i hi=>by omega⟩ ?_;rintro k ⟨T,⟨h1,h2⟩,hinv⟩ KL ds;by_cases A:k<3
 ·have cq:=Ss (l:=s.asked) (k:=k) (by omega);have cr:=v k;repeat' first| (first|apply vI|apply cQ)<;>(simp only[go_sem];try simp (disch:=omega) only[Iw])|apply vT (by omega)|refine iR (fun h=> ?_) fun h=> ?_|refine⟨by omega,?_⟩|fail
  ·exact aQ P (dB false) rfl rfl (congrArg dB (P2 fun hs=>by have:=hs.HV k A;omega).symm)
  ·exact ds _ _ _ (k+1) (by omega) (by rw[cq];exact bI (by omega) (by repeat' first|exact C1|refine xqI rfl rfl ?_|fail)) ⟨by omega,by rw[cq];omega,bT hinv (by omega)⟩ (by omega)
 have ab:k=3:=by omega
 subst ab;have y:Jz c s.asked:=hinv
 have dv: ∀i,0<=s.asked.getD i default/\s.asked.getD i default<=12:=fun i=>by
  by_cases hi:i<3;·have h1:=y i hi;have h2:=v i;omega
  ·have:s.asked.getD i default=0:=(by simp[List.getD,show s.asked.length<=i by omega]);omega
 repeat' first|apply vI<;>(simp only[go_sem])|apply vF (by omega)|fail
 obtain⟨d,q⟩: ∃d:List aq,d=[s.wait,s.done,s.told]:=⟨_,rfl⟩
 have ff:d.length=3:=by subst q;rfl
 have ct:[[D1.isl (s.wait.map aL)],[D1.isl (s.done.map aL)],[D1.isl (s.told.map aL)]]=d.map RQ:=by subst q;rfl
 obtain⟨seen,I⟩: ∃seen:Nat->List Job,seen=fun k=>(d.take k).flatten:=⟨_,rfl⟩
 have C:seen 0=[]:=by subst I;rfl
 have J:seen 3=s.wait++s.done++s.told:=by subst I;subst q;simp
 have e: ∀k,k<3->seen (k+1)=seen k++d.getD k default:=fun k T=>by subst I;simp only;rw[ae5 (by omega),List.flatten_append];simp[List.getD,show k<d.length by omega]
 have cv: ∀k,k<3->∃r,seen 3=seen k++d.getD k default++r:=fun k T=>by
  have:k=0\/k=1\/k=2:=by omega
  rcases this with rfl|rfl|rfl;·exact⟨d.getD 1 default++d.getD 2 default,by rw[e 2 (by omega),e 1 (by omega),e 0 (by omega),adH]⟩
  ·exact⟨d.getD 2 default,by rw[e 2 (by omega),e 1 (by omega)]⟩
  ·exact⟨[],by rw[e 2 (by omega),adR]⟩
 have ad: ∀k,k<3->∀j∈d.getD k default,j∈s.wait++s.done++s.told:=fun k T j p=>by obtain⟨r,hr⟩:=cv k T;rw[<-J,hr];exact ad8 _ (aeN _ p)
 have dx:d.getD 0 default=s.wait:=by subst q;rfl
 have U: ∀j,j∈s.done++s.told↔∃k,(k=1\/k=2)/\j∈d.getD k default:=fun j=>by
  subst q;constructor
  ·intro h;rcases adD.1 h with h|h;·exact⟨1,.inl rfl,h⟩
   ·exact⟨2,.inr rfl,h⟩
  ·rintro⟨k,rfl|rfl,h⟩;·exact ad8 _ h
   ·exact aeN _ h
 have L: ∀k,k<3->(d.getD k default).length<2^21:=fun k T=>by
  have:k=0\/k=1\/k=2:=by omega
  subst q;rcases this with rfl|rfl|rfl<;>(simp[List.getD];omega)
 have fh: ∀k,k<=3->(seen k).length<=k*2^21:=fun k T=>by
  have e1:=L 0 (by omega);have e2:=L 1 (by omega);have e3:=L 2 (by omega);have f1:(seen 1).length=(d.getD 0 default).length:=by rw[e 0 (by omega),C,List.nil_append]
  have f2:(seen 2).length=(seen 1).length+(d.getD 1 default).length:=by rw[e 1 (by omega),ac7]
  have f3:(seen 3).length=(seen 2).length+(d.getD 2 default).length:=by rw[e 2 (by omega),ac7]
  have:k=0\/k=1\/k=2\/k=3:=by omega
  rcases this with rfl|rfl|rfl|rfl;·rw[C];simp
  ·omega
  ·omega
  ·omega
 rw[ct];clear ct q I
 refine aK.zE 1 (β:=Nat) (fun b k=>en [(65,dI k),(64,dI 3),(63,dS (d.map RQ)),(8,.one (.c (.omap b))),(5,dI (s.asked.take 3).sum),(3,.one (.c (.dQ (eSt s)))),(2,.one (.c (.dQ (bO c))))]) (fun b k=>hp [(b,DH ⟨2,true,YI (seen k)⟩)])
  (fun k=>k<=3/\(∀j∈seen k,InA s.asked j)/\((seen k).map key).Nodup/\(0<k->∀j∈s.wait,j.rsp=iL)/\ ∀i,i<k->0<i->∀j∈d.getD i default,yC c j) (fun k=>3-k) 0 ?_ ⟨by omega,fun j p=>by rw[C] at p;simp at p,by rw[C];simp,fun h=>by omega,fun i hi=>by omega⟩ ?_
 ·refine eD [31] (by omega) ?_ ⟨⟨by simp,by simp[sgL],_,rfl,NT (by rw[C];rfl)⟩,trivial⟩ (by simp[sgL]);refine gH (gH (gH (gH (gH (gH (gH T2 ?_) ?_) ?_) ?_) ?_) ?_) ?_
  all_goals first
   |exact D3 (rows:=d.map RQ) (aG Rp d) (by simp;omega) (by simp) rfl rfl (ac6 (by simp)) (by simp;omega)
   |exact sn (zm (by omega) rfl)
   | (repeat' (first|exact C1| ((with_reducible apply D0);exact CA rfl)|fail);done)
 rintro k ⟨T,ai,aj,cw,ao⟩ KM dy;by_cases A:k<3
 ·have D:=e k A;have cx:=ad k A;have dz:=L k A;obtain⟨rest,E⟩:=cv k A;have bb:k=0->d.getD k default=s.wait:=fun h=>by rw[h];exact dx
  have cy:0<k->∀j∈d.getD k default,j∈s.done++s.told:=fun h j p=>(U j).2 ⟨k,by omega,p⟩;have eb: ∀i,i<k->0<i->∀j∈d.getD i default,yC c j:=ao
  have da:(∀j∈d.getD k default,yC c j)->∀i,i<k+1->0<i->∀j∈d.getD i default,yC c j:=fun h i hi h0=>by
   rcases agC.1 hi with h2|h2;·exact ao i h2 h0
   ·subst h2;exact h
  generalize bk:d.getD k default=cur at D cx dz bb cy E da;repeat' first|apply vI<;>(simp only[go_sem,bk])|apply vT (by omega)|refine⟨by omega,?_⟩|fail
  refine aK.zE 1 (β:=Nat) (fun b i=>en [(72,dI i),(71,dI cur.length),(70,dS (cur.map aL)),(65,dI k),(64,dI 3),(63,dS (d.map RQ)),(9,dI k),(8,.one (.c (.omap b))),(5,dI (s.asked.take 3).sum),(3,.one (.c (.dQ (eSt s)))),(2,.one (.c (.dQ (bO c))))]) (fun b i=>hp [(b,DH ⟨2,true,YI (seen k++cur.take i)⟩)])
   (fun i=>i<=cur.length/\(∀j∈seen k++cur.take i,InA s.asked j)/\((seen k++cur.take i).map key).Nodup/\ ∀j∈cur.take i,if k=0 then j.rsp=iL else yC c j) (fun i=>cur.length-i) 0 (by(refine eD [42] (by omega) (by repeat' first|exact C1|refine xqI rfl rfl ?_| (with_reducible apply C2)| ((with_reducible apply C0);exact CR (by omega) rfl)| ((with_reducible apply D0);apply CJ)|fail) ⟨⟨by simp,by simp[sgL],_,rfl,NT (by simp)⟩,trivial⟩ (by simp[sgL]))) ⟨by omega,by simpa using ai,by simpa using aj,by simp⟩ ?_
  rintro i ⟨hi,bp,br,M⟩ KN dc;by_cases N:i<cur.length
  ·have ca:=cC N;have df:=cx _ ca;have O:=hd _ df;have F:cur.take (i+1)=cur.take i++[cur.getD i default]:=(by rw[ae5 N];simp[List.getD,N]);have cc:s.wait++s.done++s.told=(seen k++cur.take i)++cur.getD i default::(cur.drop (i+1)++rest):=(by rw[<-J,E,adH,adH,<-List.cons_append,<-adH (cur.take i),<-Ge N]);have ed:k=0->cur.getD i default∈s.wait:=fun h=>by rw[<-bb h];exact ca
   have ei:0<k->cur.getD i default∈s.done++s.told:=fun h=>cy h _ ca;generalize B:cur.getD i default=j at*;have cd: ¬InA s.asked j->¬kM c s:=fun h hs=>h (hs.inA j df);have cf:key j∈(seen k++cur.take i).map key->¬kM c s:=fun h hs=>by have hn:=hs.nodup;unfold keys at hn;rw[cc,adF] at hn;exact(aeM.1 hn).2.2 _ h _ (by simp) rfl
   by_cases G:InA s.asked j
   case neg=>
    unfold InA at G;have ej:(s.asked.length:Int)=3:=(by omega);have eo:=dv j.who.toNat;have cr:=v j.who.toNat;repeat' first| (first|apply vI|apply Y4 (by omega)|refine Y6 (fun h=> ?_) fun h=> ?_|apply cV|apply cQ)<;>(simp only[go_sem,B];try simp (disch:=omega) only[Iw])|apply vT (by omega)|refine⟨by omega,?_⟩|fail
    all_goals first
     |exact aQ P (dB false) rfl rfl (congrArg dB (P2 (cd G)).symm)
     | (exfalso;omega)
   have m:key j∉(seen k++cur.take i).map key\/key j∈(seen k++cur.take i).map key:=(Classical.em _).symm
   have V: ∀x∈seen k++cur.take (i+1),InA s.asked x:=fun x t=>by
    rw[F,<-adH] at t;rcases adD.1 t with t|t;·exact bp x t
    ·simp at t;subst t;exact G
   have ep:kL c j.who j.n:=by obtain⟨⟨q1,q2⟩,q3,q4⟩:=G;have:=y j.who.toNat (by omega);exact⟨⟨q1,q2⟩,q3,by omega⟩
   obtain⟨⟨q1,q2⟩,q3,q4⟩:=G;have eo:=y j.who.toNat (by omega);have cr:=v j.who.toNat;rcases m with m|m
   case inr=>
    have f:=Jd m;repeat' first| (first|apply vI|apply Y5 (by omega)|apply cV|apply cQ)<;>(simp only[go_sem,B,f,Option.getD_some];try simp (disch:=omega) only[Iw])|apply vT (by omega)|refine⟨by omega,?_⟩|fail
    all_goals exact aQ P (dB false) rfl rfl (congrArg dB (P2 (cf m)).symm)
   have f:=Ny m;have z:=Rv m;have W:((seen k++cur.take (i+1)).map key).Nodup:=by rw[F,<-adH,adF];refine aeM.2 ⟨br,by simp,fun a ha b hb he=> ?_⟩;simp at hb;subst hb;subst he;exact m ha
   have X:(if k=0 then j.rsp=iL else yC c j)->∀x∈cur.take (i+1),if k=0 then x.rsp=iL else yC c x:=fun h x t=>by
    rw[F] at t;rcases adD.1 t with t|t;·exact M x t
    ·simp at t;subst t;exact h
   by_cases o:k=0
   ·by_cases g:j.rsp=iL
    ·repeat' first| (first|apply vI|apply Y4 (by omega)|apply Y5 (by omega)|apply cV|apply cQ|apply DT O)<;>(simp only[go_sem,B,f,z,Option.getD_none,eq_true g];try simp (disch:=omega) only[Iw])|apply vT (by omega)|refine⟨by omega,?_⟩|fail
     exact dc _ _ _ (i+1) (by omega) (by(refine eD [52] (by omega) (by repeat' first|exact C1|refine xqI rfl rfl ?_| (with_reducible apply C2)| ((with_reducible apply C0);exact CR (by omega) rfl)| ((with_reducible apply D0);apply CJ)|fail) ⟨⟨by simp,by simp[sgL],_,rfl,NT (by rw[F,adH])⟩,trivial⟩ (by simp[sgL]))) ⟨by omega,V,W,X (by rw[if_pos o];exact g)⟩ (by omega)
    ·repeat' first| (first|apply vI|apply Y4 (by omega)|apply Y5 (by omega)|apply cV|apply cQ|apply DT O)<;>(simp only[go_sem,B,f,z,Option.getD_none,eq_false g];try simp (disch:=omega) only[Iw])|apply vT (by omega)|refine⟨by omega,?_⟩|fail
     exact aQ P (dB false) rfl rfl (congrArg dB (P2 fun hs=>g (hs.jw j (ed o))).symm)
   ·have et:0<k:=(by omega);have Y: ¬yC c j->¬kM c s:=fun h hs=>h (hs.YF j (ei et));by_cases g:jY j.rsp
    ·repeat' first| (first|apply vI|apply Y4 (by omega)|apply Y5 (by omega)|apply cV|apply cQ|apply sX O|apply fC dh ep)<;>(simp only[go_sem,B,f,z,Option.getD_none,eq_true g];try simp (disch:=omega) only[Iw])|apply vT (by omega)|refine iR (fun h=> ?_) fun h=> ?_|refine⟨by omega,?_⟩|fail
     ·exact aQ P (dB false) rfl rfl (congrArg dB (P2 (Y fun h=>by have:=h.2;omega)).symm)
     ·exact dc _ _ _ (i+1) (by omega) (by(refine eD [52] (by omega) (by repeat' first|exact C1|refine xqI rfl rfl ?_| (with_reducible apply C2)| ((with_reducible apply C0);exact CR (by omega) rfl)| ((with_reducible apply D0);apply CJ)|fail) ⟨⟨by simp,by simp[sgL],_,rfl,NT (by rw[F,adH])⟩,trivial⟩ (by simp[sgL]))) ⟨by omega,V,W,X (by rw[if_neg o];exact⟨g,by omega⟩)⟩ (by omega)
    ·repeat' first| (first|apply vI|apply Y4 (by omega)|apply Y5 (by omega)|apply cV|apply cQ|apply sX O)<;>(simp only[go_sem,B,f,z,Option.getD_none,eq_false g];try simp (disch:=omega) only[Iw])|apply vT (by omega)|refine⟨by omega,?_⟩|fail
     exact aQ P (dB false) rfl rfl (congrArg dB (P2 (Y fun h=>g h.1)).symm)
  ·have eu:i=cur.length:=(by omega);subst eu;rw[ad1,<-D] at bp br;rw[ad1] at M;rw[ad1,<-D];repeat' first|apply vI<;>(simp only[go_sem];try simp (disch:=omega) only[Iw])|apply vF (by omega)|fail
   refine dy _ _ _ (k+1) (by omega) (by(refine eD [52] (by omega) (by repeat' first|exact C1|refine xqI rfl rfl ?_| (with_reducible apply C2)| ((with_reducible apply C0);exact CR (by omega) rfl)| ((with_reducible apply D0);apply CJ)|fail) ⟨⟨by simp,by simp[sgL],_,rfl,NT rfl⟩,trivial⟩ (by simp[sgL]))) ⟨by omega,bp,br,fun _=> ?_,?_⟩ (by omega)
   ·by_cases o:k=0;·intro j p;have:=M j (by rw[bb o];exact p);rwa [if_pos o] at this
    ·exact cw (by omega)
   ·intro i2 h1 h2;by_cases o:k=0;·omega
    ·exact da (fun j p=>by have:=M j p;rwa [if_neg o] at this) i2 h1 h2
 ·have ab:k=3:=by omega
  subst ab;rw[J] at ai aj;have ew:=congrArg List.length J;rw[ac7,ac7] at ew;repeat' first|apply vI<;>(simp only[go_sem])|apply vF (by omega)|fail
  refine aQ P (dB (decide (((YI (seen 3)).length:Int)=(s.asked.take 3).sum))) rfl rfl (congrArg dB ?_);rw[Nt];by_cases Z:((seen 3).length:Int)=(s.asked.take 3).sum;·rw[decide_eq_true Z];refine(Ry (Ic S aa y ck cl ai aj (by omega) (cw (by omega)) fun j p=> ?_)).symm;obtain⟨k,T,p⟩:=(U j).1 p;exact ao k (by omega) (by omega) j p
  ·rw[decide_eq_false Z];exact(P2 fun hs=>by have:=hs.count;omega).symm
theorem pf{c:Cfg}{s:TSt}(a:jJ c)(e:Dh s)(h:K (dB (tlB c s)) H nx):ag1 EU [dA (bO c),dA (eSt s)] H nx K:=by
 refine aC.pure (args0:=[dA (bO c),dA (eSt s)]) (R:=fun f=>f=dB (tlB c s)) ?_ rfl (aM ⟨aE rfl,aE rfl,trivial⟩) (fun r hr=>hr▸h);clear h;refine aR.mk Tryz.func131 (by kernel_rfl) sk rfl fun Q d=> ?_;unfold BA;by_cases b:bG c
 ·repeat' first| (first|apply vI|apply yJ a|apply CP b e)<;>(simp only[go_sem,eq_true b])|fail
  exact aQ d (dB (stB c s)) rfl rfl (congrArg dB (Sk b).symm)
 ·repeat' first| (first|apply vI|apply yJ a)<;>(simp only[go_sem,eq_false b])|fail
  exact aQ d (dB false) rfl rfl (congrArg dB (LW fun h=>b h.1).symm)
theorem ij(c:Cfg)(es:List Ev)(h:bG c)(v:jJ c)(a:TSt)(f:kM c a)(I: ∀{H:aA} {nx:Nat} {K:ag2},K (dB true) H nx->ag1 EU [dA (bO c),dA (eSt a)] H nx K)(hlen:es.length<=200):
 ag1 BJ [dA (bO c),dA (eSt a),dS (es.map eEv)] .nil 0 fun r _ n=>n=0/\r.imm=true/\r= .tup [.agg (eSt (runM c a (es.take (uW c a es)))),.c (cI (uW c a es))]:=by
 refine aR.mk Tryz.func50 (by kernel_rfl) il rfl fun Q hQ=> ?_
 unfold yD
 have w:=fun k (t:k<=uW c a es)=>Qd h f t
 have J:=fun k (t:k<uW c a es)=>Wz t
 have L:=so (c:=c) (s:=a) (l:=es)
 have hle:=UE (c:=c) (s:=a) (l:=es)
 generalize uW c a es=n at*
 obtain⟨y,aa⟩:=eM h
 repeat' first| (with_reducible first| (apply d _ _ _;clear d K)| (apply hB;clear i hB A B)|apply Z1|apply Z2|refine Z3 fun KB g=> ?_|apply Z5 (by omega))| (first| (with_reducible first|refine Y2 fun K d=> ?_|refine Y3 fun A B i hB=> ?_)| (apply I)| (refine n9 h f (fun m0 m1 m2 m3 m4 m5 hm=> ?_)))<;>(simp only[go_sem])|fail
 (have M:=g;clear g)
 refine aK.zE 3 (β:=Nat×(Nat×Nat×Nat)×(Nat×Nat×Nat))
  (fun b u=>en [(25,dI u.1),(24,dI es.length),(23,dS (es.map eEv)),(8,dP 6 15),(6,dP 6 2),(3,dP 3 0),(2,dS (es.map eEv))])
  (fun b u=>hp [(0,⟨3,1,[bO c]⟩),(2,⟨6,1,[[.osl 0 0 0 0 0,.osl 0 0 0 0 0,.osl 0 0 0 0 0,.osl 0 0 0 0 0,.osl 0 0 0 0 0,.osl 0 0 0 0 0]]⟩),(15,⟨6,1,[oIm 17 18 19 b (b+1) (b+2) a.words.length a.holds.length a.asked.length u.2.1.1 u.2.1.2.1 u.2.1.2.2 (runM c a (es.take u.1))]⟩),(17,⟨1,m0,(runM c a (es.take u.1)).words.map aF⟩),(18,⟨1,m1,(runM c a (es.take u.1)).holds.map aF⟩),(19,⟨1,m2,(runM c a (es.take u.1)).asked.map aF⟩),(b,⟨5,u.2.2.1,(runM c a (es.take u.1)).wait.map aL⟩),((b+1),⟨5,u.2.2.2.1,(runM c a (es.take u.1)).done.map aL⟩),((b+2),⟨5,u.2.2.2.2,(runM c a (es.take u.1)).told.map aL⟩)])
  (fun u=>u.1<=n/\((runM c a (es.take u.1)).wait.length<=u.2.1.1/\(runM c a (es.take u.1)).done.length<=u.2.1.2.1/\(runM c a (es.take u.1)).told.length<=u.2.1.2.2)/\(u.2.1.1<=u.2.2.1/\u.2.1.2.1<=u.2.2.2.1/\u.2.1.2.2<=u.2.2.2.2))
  (fun u=>es.length-u.1) (0,(a.wait.length,a.done.length,a.told.length),(m3,m4,m5))
  (by(refine eD [20,21,22,0,2,15,17,18,19] (by omega) (by repeat' first|exact C1|refine xqI rfl rfl ?_|refine xqP (by omega) rfl rfl ?_|fail) ⟨⟨by simp,by simp[sgL],_,rfl,aW (xV fun x z=>adK.1 (xv c).2 x z)⟩,⟨by simp,by simp[sgL],_,rfl,aW (by repeat' first| (with_reducible first|exact C3|apply C4)| ((with_reducible apply C0);exact CC)|fail)⟩,⟨by simp,by simp[sgL],_,rfl,aW (by unfold oIm;repeat' first|exact C1| (with_reducible first|exact C3|apply C4)| ((with_reducible apply C0);exact CQ (by omega) rfl rfl (by rfl) rfl)|fail)⟩,⟨by simp,by simp[sgL],_,rfl,aY (aG aP _) rfl rfl⟩,⟨by simp,by simp[sgL],_,rfl,aY (aG aP _) rfl rfl⟩,⟨by simp,by simp[sgL],_,rfl,aY (aG aP _) rfl rfl⟩,⟨by simp,by simp[sgL],_,rfl,aY (aG bC _) rfl rfl⟩,⟨by simp,by simp[sgL],_,rfl,aY (aG bC _) rfl rfl⟩,⟨by simp,by simp[sgL],_,rfl,aY (aG bC _) rfl rfl⟩,trivial⟩ (by simp[sgL]))) ⟨afU _,⟨ac1 _,ac1 _,ac1 _⟩,hm.2.2.2⟩ ?_
 rintro⟨k,⟨c3,c4,c5⟩,⟨m3,m4,m5⟩⟩ ⟨t,C,E⟩ KL N
 dsimp only at t C E
 have hs:=w k t
 have m:=fun o=>va (c:=c) (s:=a) (l:=es) (k:=k) o
 have O:=J k
 generalize P:runM c a (es.take k)=s at*
 have R:=hs.lens h
 have j:s.words.length<=a.words.length/\s.holds.length<=a.holds.length/\s.asked.length<=a.asked.length/\s.wait.length<=c3/\s.done.length<=c4/\s.told.length<=c5:=by rw[hs.atm.wl,f.atm.wl,hs.atm.hl,f.atm.hl,hs.yI,f.yI];exact⟨ac1 _,ac1 _,ac1 _,C⟩
 by_cases o:k<n
 ·have p:=O o;have F:=m (by omega);have q:=HD h hs p;repeat' first| (with_reducible first| (apply d _ _ _;clear d K)| (apply i;clear i hB A B)| (apply hB;clear i hB A B)|apply Z1|apply Z2|refine Z3 fun KB g=> ?_|apply Z4 (by omega))| (first| (with_reducible first|refine Y2 fun K d=> ?_|refine Y3 fun A B i hB=> ?_)| (refine HK (c:=c) (s:=s) (e:=es.getD k default) v y (hs.fit h) (iu j rfl rfl rfl rfl rfl rfl trivial trivial trivial trivial trivial trivial) ?_)| (refine NA h hs p j E (by omega) (by simp) rfl rfl rfl rfl rfl rfl rfl (fun S T U V W X q1 q2=> ?_)))<;>(simp only[go_sem,p];try simp (disch:=omega) only[Iw])| ((with_reducible apply Y0);simp only[AQ.then,AQ.blk])|refine⟨by omega,?_⟩| (with_reducible apply g _ _ _)|fail
  refine N _ _ _ (k+1,(S,T,U),(V,W,X)) (by omega) ?_ ⟨by dsimp only;omega,by dsimp only;rw[F];exact q1,q2⟩ (by dsimp only;omega);dsimp only;rw[F];have ab:(dY c s (es.getD k default)).words.length=s.words.length:=by rw[hs.atm.wl,q.atm.wl]
  have ad:(dY c s (es.getD k default)).holds.length=s.holds.length:=by rw[hs.atm.hl,q.atm.hl]
  have ai:(dY c s (es.getD k default)).asked.length=s.asked.length:=by rw[hs.yI,q.yI]
  (refine eD [44,45,46,0,2,15,17,18,19] (by omega) (by repeat' first|exact C1|refine xqI rfl rfl ?_|refine xqP (by omega) rfl rfl ?_|fail) ⟨⟨by simp,by simp[sgL],_,rfl,aW (xV fun x z=>adK.1 (xv c).2 x z)⟩,⟨by simp,by simp[sgL],_,rfl,aW (by repeat' first|exact C1| (with_reducible first|exact C3|apply C4)| ((with_reducible apply C0);exact CC)|fail)⟩,⟨by simp,by simp[sgL],_,rfl,aW (by unfold oIm;repeat' first|exact C1| (with_reducible first|exact C3|apply C4)| ((with_reducible apply C0);exact CQ (by omega) rfl rfl (by rfl) rfl)|fail)⟩,⟨by simp,by simp[sgL],_,rfl,aY (aG aP _) rfl rfl⟩,⟨by simp,by simp[sgL],_,rfl,aY (aG aP _) rfl rfl⟩,⟨by simp,by simp[sgL],_,rfl,aY (aG aP _) rfl rfl⟩,⟨by simp,by simp[sgL],_,rfl,aY (aG bC _) rfl rfl⟩,⟨by simp,by simp[sgL],_,rfl,aY (aG bC _) rfl rfl⟩,⟨by simp,by simp[sgL],_,rfl,aY (aG bC _) rfl rfl⟩,trivial⟩ (by simp[sgL]))
 have Y:k=n:=by omega
 subst Y
 by_cases Z:k=es.length
 ·repeat' first| (with_reducible first| (apply d _ _ _;clear d K)| (apply hB;clear i hB A B)|apply Z1|apply Z5 (by omega))| (with_reducible first|refine Y2 fun K d=> ?_|refine Y3 fun A B i hB=> ?_)<;>(simp only[go_sem])| ((with_reducible apply Y9);try simp only[AQ.then,AQ.blk,reduceIte,Nat.reduceEqDiff])|fail
  apply M _ _ _;refine aK.Xq 0 (en [(8,.one (.c (.dQ (eSt s)))),(6,dP 6 2),(2,dS (es.map eEv))]) (hp [(2,⟨6,1,[[.osl 0 0 0 0 0,.osl 0 0 0 0 0,.osl 0 0 0 0 0,.osl 0 0 0 0 0,.osl 0 0 0 0 0,.osl 0 0 0 0 0]]⟩)]) ?_ ?_;·refine eD [2] (by omega) (gH (gH (gH T2 (aE rfl)) (pL (by omega) rfl)) (WR (σ:=id) (nh:=0) (Di s).2 (iu j rfl rfl rfl rfl rfl rfl (by simp) (by simp) (by simp) (by simp) (by simp) (by simp)) (by simp) rfl rfl rfl)) ?_ (by simp[sgL]);exact⟨⟨by omega,by simp[sgL],_,rfl,aW (by repeat' first| (with_reducible first|exact C3|apply C4)| ((with_reducible apply C0);exact CC)|fail)⟩,trivial⟩
  subst Z;repeat' first| (with_reducible first| (apply d _ _ _;clear d K)|apply Z1)| (first| (with_reducible refine Y2 fun K d=> ?_)| (refine n9 h hs (fun n0 n1 n2 n3 n4 n5 hn=> ?_)))<;>(simp only[go_sem])| ((with_reducible apply Y8);try simp only[AQ.then,AQ.blk,reduceIte,Nat.reduceEqDiff])|fail
  exact HG hQ (.tup [.agg (eSt s),.c (cI es.length)]) _ rfl (xp (xx (iu ⟨ac1 _,ac1 _,ac1 _,ac1 _,ac1 _,ac1 _⟩ rfl rfl rfl rfl rfl rfl trivial trivial trivial trivial trivial trivial)) (Xy (bE rfl))) rfl (by rw[P])
 ·have G:=L (by omega);rw[P] at G;refine aK.Xq 0 (en [(25,dI k),(24,dI es.length),(23,dS (es.map eEv)),(8,.one (.c (.dQ (eSt s)))),(6,dP 6 2),(3,.one (.c (.dQ (bO c)))),(2,dS (es.map eEv))]) (hp [(2,⟨6,1,[[.osl 0 0 0 0 0,.osl 0 0 0 0 0,.osl 0 0 0 0 0,.osl 0 0 0 0 0,.osl 0 0 0 0 0,.osl 0 0 0 0 0]]⟩)]) ?_ ?_;·refine eD [2] (by omega) (gH (gH (gH (gH (gH (gH (gH T2 (aE rfl)) (dd (xv c).2 (by simp) rfl rfl rfl)) (pL (by omega) rfl)) (WR (σ:=id) (nh:=0) (Di s).2 (iu j rfl rfl rfl rfl rfl rfl (by simp) (by simp) (by simp) (by simp) (by simp) (by simp)) (by simp) rfl rfl rfl)) (aE rfl)) (aE rfl)) (aE rfl)) ?_ (by simp[sgL]);exact⟨⟨by omega,by simp[sgL],_,rfl,aW (by repeat' first| (with_reducible first|exact C3|apply C4)| ((with_reducible apply C0);exact CC)|fail)⟩,trivial⟩
  repeat' first| (with_reducible first| (apply d _ _ _;clear d K)| (apply i;clear i hB A B)|apply Z1|apply Z2|refine Z3 fun KB g=> ?_|apply Z4 (by omega))| (first| (with_reducible first|refine Y2 fun K d=> ?_|refine Y3 fun A B i hB=> ?_)| (refine HK (c:=c) (s:=s) (e:=es.getD k default) v y (hs.fit h) (xV fun x z=>adK.1 (Di s).2 x z) ?_)| (refine n9 h hs (fun n0 n1 n2 n3 n4 n5 hn=> ?_)))<;>(simp only[go_sem])| ((with_reducible apply Y8);try simp only[AQ.then,AQ.blk,reduceIte,Nat.reduceEqDiff])|refine⟨by omega,?_⟩|fail
  exact HG hQ (.tup [.agg (eSt s),.c (cI k)]) _ rfl (xp (xx (iu ⟨ac1 _,ac1 _,ac1 _,ac1 _,ac1 _,ac1 _⟩ rfl rfl rfl rfl rfl rfl trivial trivial trivial trivial trivial trivial)) (Xy (bE rfl))) rfl (by rw[P])
theorem ye(s:TSt)(hw:s.words.length<2^40)(h:s.holds.length<2^40)(i:s.asked.length<2^40)(k:s.wait.length<2^40)(l:s.done.length<2^40)(m:s.told.length<2^40)(g: ∀j∈s.wait++s.done++s.told,j.rsp.data.length<2^40):ag1 wQ [dA (eSt s),dA (eSt s)] .nil 0 fun n _ _=>n.plain=true/\n=dB true:=by
 refine aR.mk Tryz.func52 (by kernel_rfl) oh rfl fun Q p=> ?_;unfold BP;have c:=fun j (d:j∈s.wait)=>g j (by simp[d]);have e:=fun j (d:j∈s.done)=>g j (by simp[d]);have f:=fun j (d:j∈s.told)=>g j (by simp[d]);repeat' first| (with_reducible first| (apply o _ _ _;clear o K)|apply Z1)| (first| (with_reducible refine Y2 fun K o=> ?_)| (apply xg (a:=s.words) (b:=s.holds) (u:=s.words) (v:=s.holds) hw h hw h)| (apply BQ i i)| (apply H7 k k c c)| (apply H7 l l e e)| (apply H7 m m f f))<;>(simp only[go_sem])| ((with_reducible apply Y8);try simp only[AQ.then,AQ.blk,reduceIte,Nat.reduceEqDiff])|fail
 all_goals exact aQ p _ rfl rfl rfl
theorem yc{s:TSt}(hw:s.words.length<2^40)(a:s.holds.length<2^40)(b:s.asked.length<2^40)(c:s.wait.length<2^40)(d:s.done.length<2^40)(e:s.told.length<2^40)(f: ∀j∈s.wait++s.done++s.told,j.rsp.data.length<2^40)(h:K (dB true) H nx):ag1 wQ [dA (eSt s),dA (eSt s)] H nx K:=(ye s hw a b c d e f).pure rfl (aM ⟨aE rfl,aE rfl,trivial⟩) (fun r hr=>hr▸h)
end
end Go.Proofs.YtlncecohbakleaaGreat
