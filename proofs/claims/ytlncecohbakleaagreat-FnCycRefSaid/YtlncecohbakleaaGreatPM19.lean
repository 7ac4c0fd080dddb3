/- Rules and contracts. -/
import Derived.Test.YtlncecohbakleaaGreatPM16
import Derived.Test.YtlncecohbakleaaGreatPM17
import Derived.Test.YtlncecohbakleaaGreatPM18
set_option linter.unusedVariables false
set_option linter.unusedSimpArgs false
set_option maxRecDepth 100000
set_option maxHeartbeats 8000000
namespace Go.AM
theorem ss{H:aA}{e:Env}{t n id m i d b j:Nat}{cs a:List D1}(he:e t= .one (.c (.ptr n id 0 0)))(k:H id=some ⟨n,m,[cs]⟩)(hl:cs.length=n)(f:e i= .one (.c (.ptr d b 0 0)))(g:H b=some ⟨d,j,[a]⟩)(h:a.length=d):nP H e [.cell t n true,.cell i d true]=some (.tup [.agg cs,.agg a]):=by subst hl;subst h;simp[nP,V0,he,f,rI,k,g,mkV,aaA]
structure V5(s:CSt):Prop where
 pl:s.bJ.length=3
 sl:s.bR.length=4
 w:s.words.length<=64
 h:s.holds.length<=6
 t:s.told.length<=36
 td: ∀j∈s.told,j.rsp.data.length<2^20
 port: ∀k,k<3->(aN s k).queue.length<=2/\(aN s k).out.length<=4
 slv: ∀k,k<4->(aU s k).pipe.length<=2/\(aU s k).done.length<=2/\ ∀j∈(aU s k).done,j.rsp.data.length<2^20
variable{s:CSt}
theorem COk.base{c:Cfg}(e:bG c)(h:COk c s):V5 s:=by
 obtain⟨f,_,g,_⟩:=h.atm;have b:s.told.length<=36:=by have:=h.st.lens e;simp only[dN] at this;omega
 refine⟨h.pl,h.sl,by omega,by omega,b,fun j d=> ?_,fun k a=> ?_,fun k a=>⟨(h.slv k a).pl,(h.slv k a).dl,fun j d=> ?_⟩⟩;·have:=(h.st.YF j (aeN _ d)).1;unfold jY at this;omega
 ·have i:=(h.port k a).ql;have l:=(h.port k a).ol;omega
 ·have:=((h.slv k a).rsp j d).1;unfold jY at this;omega
structure Eh(s:CSt):Prop where
 pl:s.bJ.length=3
 sl:s.bR.length=4
 w:s.words.length<=65
 h:s.holds.length<=6
 t:s.told.length<=37
 td: ∀j∈s.told,j.rsp.data.length<2^20
 port: ∀k,k<3->(aN s k).queue.length<=3/\(aN s k).out.length<=5
 slv: ∀k,k<4->(aU s k).pipe.length<=3/\(aU s k).done.length<=3/\ ∀j∈(aU s k).done,j.rsp.data.length<2^20
 qs:(aN s 0).queue.length+(aN s 1).queue.length+(aN s 2).queue.length<=7
theorem Ms(a:s.bJ.length=3)(b:s.bR.length=4):(m7 s).length=(aN s 0).queue.length+(aN s 1).queue.length+(aN s 2).queue.length+((aU s 0).pipe.length+(aU s 1).pipe.length+(aU s 2).pipe.length+(aU s 3).pipe.length):=by unfold m7 hZ fK;rw[a,b];simp[ae4];omega
theorem Eh.fit(h:Eh s):I0 s/\zJ s:=by
 have c:I0 s:=by
  refine⟨by have:=h.w;omega,by have:=h.h;omega,by have:=h.t;omega,fun j d=>by have:=h.td j d;omega,by have:=h.pl;omega,by have:=h.sl;omega,fun k=> ?_,fun k=> ?_⟩
  ·by_cases a:k<3;·have:=h.port k a;omega
   ·have:aN s k=default:=(by unfold aN;rw[List.getD,afE (by have:=h.pl;omega)];rfl);rw[this];exact⟨by decide,by decide⟩
  ·by_cases a:k<4;·have:=h.slv k a;exact⟨by omega,by omega,fun j d=>by have:=this.2.2 j d;omega⟩
   ·have:aU s k=default:=(by unfold aU;rw[List.getD,afE (by have:=h.sl;omega)];rfl);rw[this];exact⟨by decide,by decide,fun j d=>by cases d⟩
 have e:=ek (b:=3) (s:=s) (by have:=h.sl;omega) fun k a=>(h.slv k (by have:=h.sl;omega)).2.1;have hw:=Ms h.pl h.sl;have q:=h.qs;have f:=(h.slv 0 (by omega)).1;have g:=(h.slv 1 (by omega)).1;have i:=(h.slv 2 (by omega)).1;have l:=(h.slv 3 (by omega)).1;exact⟨c,Gf c h.pl (by have:=h.sl;omega) (fun k a=>(h.port k a).1) (fun k a=>⟨(h.slv k (by have:=h.sl;omega)).1,(h.slv k (by have:=h.sl;omega)).2.1⟩) (by omega) (by omega)⟩
theorem V5.Ee(h:V5 s):Eh s:=by have b:=(h.port 0 (by omega)).1;have c:=(h.port 1 (by omega)).1;have d:=(h.port 2 (by omega)).1;exact⟨h.pl,h.sl,by have:=h.w;omega,h.h,by have:=h.t;omega,h.td,fun k a=>by have:=h.port k a;omega,fun k a=>by have:=h.slv k a;exact⟨by omega,by omega,this.2.2⟩,by omega⟩
theorem V5.aaO(h:V5 s){k:Nat}(a:k<3){p:fF}(b:p.queue.length<=3)(c:p.out.length<=5):Eh {s with bJ:=s.bJ.set k p}:=by
 have hp: ∀j,aN {s with bJ:=s.bJ.set k p} j=if j=k then p else aN s j:=cJ rfl (by rw[h.pl];exact a)
 have n:=h.Ee;refine⟨by simpa using h.pl,h.sl,n.w,n.h,n.t,n.td,fun j d=> ?_,n.slv,?_⟩
 ·rw[hp];split;·exact⟨b,c⟩
  ·exact n.port j d
 ·rw[hp,hp,hp];have e:=(h.port 0 (by omega)).1;have f:=(h.port 1 (by omega)).1;have g:=(h.port 2 (by omega)).1;split;·rw[if_neg (by omega),if_neg (by omega)];omega
  ·split;·rw[if_neg (by omega)];omega
   ·split<;>omega
theorem V5.Zd(h:V5 s){k:Nat}(a:k<4){v:uM}(hp:v.pipe.length<=3)(b:v.done.length<=3)(hr: ∀j∈v.done,j.rsp.data.length<2^20):Eh {s with bR:=s.bR.set k v}:=by
 have c: ∀j,aU {s with bR:=s.bR.set k v} j=if j=k then v else aU s j:=dE rfl (by rw[h.sl];exact a)
 have n:=h.Ee;refine⟨h.pl,by simpa using h.sl,n.w,n.h,n.t,n.td,n.port,fun j d=> ?_,n.qs⟩;rw[c];split;·exact⟨hp,b,hr⟩
 ·exact n.slv j d
theorem V5.aaT(h:V5 s){t:List Job}(a:t.length<=37)(b: ∀j∈t,j.rsp.data.length<2^20):Eh {s with told:=t}:=by have n:=h.Ee;exact⟨n.pl,n.sl,n.w,n.h,a,b,n.port,n.slv,n.qs⟩
theorem V5.acE(h:V5 s){w u:List Int}(hw:w.length<=65)(hu:u.length<=6):Eh {s with words:=w,holds:=u}:=by have n:=h.Ee;exact⟨n.pl,n.sl,hw,hu,n.t,n.td,n.port,n.slv,n.qs⟩
variable{nm:Nat->Nat}{cells:List D1}
theorem CM.aaO{G W:aA}{b:Nat->Nat}{k mp:Nat}{p:fF}{r:List D1}{rows:List (List D1)}(h:CM G nm s cells)(f:s.bJ.length=3)(x:k<3)
 (y:G (nm 2)=some ⟨4,mp,rows⟩) (z:W (nm 2)=some ⟨4,mp,rows.set k r⟩) (A:zK W (b (5+k)) (b (8+k)) p r) (c: ∀a,a<19->a≠5+k->a≠8+k->b a=nm a)
 (d: ∀a,a<19->a≠2->a≠5+k->a≠8+k->W (nm a)=G (nm a)):CM W b {s with bJ:=s.bJ.set k p} cells:=by
 have hp: ∀j,aN {s with bJ:=s.bJ.set k p} j=if j=k then p else aN s j:=cJ rfl (by rw[f];exact x)
 obtain⟨⟨wc,hc,B,vc,C,rfl,D,E,F,H,I⟩,⟨m,R,o,J,K⟩,⟨L,M,N,O,P⟩⟩:=h
 rw[y] at o
 cases o
 have q:=c 0 (by omega) (by omega) (by omega)
 have t:=c 1 (by omega) (by omega) (by omega)
 have u:=c 2 (by omega) (by omega) (by omega)
 have v:=c 3 (by omega) (by omega) (by omega)
 have w:=c 4 (by omega) (by omega) (by omega)
 refine⟨⟨wc,hc,B,vc,C,by rw[I6,I6,q,t,u,v,w],?_,?_,?_,H,I⟩,⟨mp,rows.set k r,by rw[u];exact z,by rw[adM];exact J,fun j g=> ?_⟩,⟨L,M,by rw[v,d 3 (by omega) (by omega) (by omega) (by omega)];exact N,O,fun j g=> ?_⟩⟩
 ·rw[q];exact D.frame (d 0 (by omega) (by omega) (by omega) (by omega))
 ·rw[t];exact E.frame (d 1 (by omega) (by omega) (by omega) (by omega))
 ·rw[w];exact F.frame (d 4 (by omega) (by omega) (by omega) (by omega))
 ·rw[hp];by_cases e:j=k;·subst e;exact⟨r,by rw[adW (by omega)],by rw[if_pos rfl];exact A⟩
  ·obtain⟨i,l,n⟩:=K j g;rw[if_neg e,c (5+j) (by omega) (by omega) (by omega),c (8+j) (by omega) (by omega) (by omega)];exact⟨i,by rw[adX (by omega)];exact l,n.frame (d _ (by omega) (by omega) (by omega) (by omega)) (d _ (by omega) (by omega) (by omega) (by omega))⟩
 ·obtain⟨i,l,n⟩:=P j g;rw[c (11+j) (by omega) (by omega) (by omega),c (15+j) (by omega) (by omega) (by omega)];exact⟨i,l,n.frame (d _ (by omega) (by omega) (by omega) (by omega)) (d _ (by omega) (by omega) (by omega) (by omega))⟩
theorem CM.Zd{G W:aA}{b:Nat->Nat}{k mp:Nat}{v:uM}{r:List D1}{rows:List (List D1)}(h:CM G nm s cells)(f:s.bR.length=4)(x:k<4)
 (y:G (nm 3)=some ⟨3,mp,rows⟩) (z:W (nm 3)=some ⟨3,mp,rows.set k r⟩) (A:I1 W (b (11+k)) (b (15+k)) v r) (c: ∀a,a<19->a≠11+k->a≠15+k->b a=nm a)
 (d: ∀a,a<19->a≠3->a≠11+k->a≠15+k->W (nm a)=G (nm a)):CM W b {s with bR:=s.bR.set k v} cells:=by
 have hp: ∀j,aU {s with bR:=s.bR.set k v} j=if j=k then v else aU s j:=dE rfl (by rw[f];exact x)
 obtain⟨⟨wc,hc,B,vc,C,rfl,D,E,F,H,I⟩,⟨m,R,J,K,L⟩,⟨O,P,o,M,N⟩⟩:=h
 rw[y] at o
 cases o
 have p:=c 0 (by omega) (by omega) (by omega)
 have q:=c 1 (by omega) (by omega) (by omega)
 have t:=c 2 (by omega) (by omega) (by omega)
 have u:=c 3 (by omega) (by omega) (by omega)
 have w:=c 4 (by omega) (by omega) (by omega)
 refine⟨⟨wc,hc,B,vc,C,by rw[I6,I6,p,q,t,u,w],?_,?_,?_,H,I⟩,⟨m,R,by rw[t,d 2 (by omega) (by omega) (by omega) (by omega)];exact J,K,fun j g=> ?_⟩,⟨mp,rows.set k r,by rw[u];exact z,by rw[adM];exact M,fun j g=> ?_⟩⟩
 ·rw[p];exact D.frame (d 0 (by omega) (by omega) (by omega) (by omega))
 ·rw[q];exact E.frame (d 1 (by omega) (by omega) (by omega) (by omega))
 ·rw[w];exact F.frame (d 4 (by omega) (by omega) (by omega) (by omega))
 ·obtain⟨i,l,n⟩:=L j g;rw[c (5+j) (by omega) (by omega) (by omega),c (8+j) (by omega) (by omega) (by omega)];exact⟨i,l,n.frame (d _ (by omega) (by omega) (by omega) (by omega)) (d _ (by omega) (by omega) (by omega) (by omega))⟩
 ·rw[hp];by_cases e:j=k;·subst e;exact⟨r,by rw[adW (by omega)],by rw[if_pos rfl];exact A⟩
  ·obtain⟨i,l,n⟩:=N j g;rw[if_neg e,c (11+j) (by omega) (by omega) (by omega),c (15+j) (by omega) (by omega) (by omega)];exact⟨i,by rw[adX (by omega)];exact l,n.frame (d _ (by omega) (by omega) (by omega) (by omega)) (d _ (by omega) (by omega) (by omega) (by omega))⟩
theorem CM.aaT{G W:aA}{id0 cap wc hc c vc k:Nat}{t:List Job}(h:CM G nm s [.osl 1 (nm 0) 0 s.words.length wc,.osl 1 (nm 1) 0 s.holds.length hc,.osl 4 (nm 2) 0 3 c,.osl 3 (nm 3) 0 4 vc,.osl 5 (nm 4) 0 s.told.length k])
 (l:mI W 5 id0 0 t.length cap (t.map aL)) (b: ∀a,a<19->a≠4->W (nm a)=G (nm a)):
 CM W (put nm 4 id0) {s with told:=t} [.osl 1 (nm 0) 0 s.words.length wc,.osl 1 (nm 1) 0 s.holds.length hc,.osl 4 (nm 2) 0 3 c,.osl 3 (nm 3) 0 4 vc,.osl 5 id0 0 t.length cap]:=by
 obtain⟨⟨n,o,p,q,r,e,u,v,H,w,x⟩,⟨m,R,y,z,A⟩,⟨B,C,D,E,F⟩⟩:=h
 simp only[I6,List.cons.injEq,D1.osl.injEq,true_and,and_true] at e
 obtain⟨rfl,rfl,rfl,rfl,rfl⟩:=e
 refine⟨⟨wc,hc,c,vc,cap,?_,?_,?_,?_,w,x⟩,⟨m,R,by rw[bV (by omega),b 2 (by omega) (by omega)];exact y,z,fun j d=> ?_⟩,⟨B,C,by rw[bV (by omega),b 3 (by omega) (by omega)];exact D,E,fun j d=> ?_⟩⟩
 ·rw[I6,bV (by omega),bV (by omega),bV (by omega),bV (by omega),fS]
 ·rw[bV (by omega)];exact u.frame (b 0 (by omega) (by omega))
 ·rw[bV (by omega)];exact v.frame (b 1 (by omega) (by omega))
 ·rw[fS];exact l
 ·obtain⟨f,g,i⟩:=A j d;rw[bV (by omega),bV (by omega)];exact⟨f,g,i.frame (b _ (by omega) (by omega)) (b _ (by omega) (by omega))⟩
 ·obtain⟨f,g,i⟩:=F j d;rw[bV (by omega),bV (by omega)];exact⟨f,g,i.frame (b _ (by omega) (by omega)) (b _ (by omega) (by omega))⟩
theorem CM.abJ{H:aA}{F:Nat->Prop}{c0 c1 c2 c3 c4:D1}(h:CM H nm s [c0,c1,c2,c3,c4])(b: ∀k,k<19->F (nm k))(hp:s.bJ.length=3)(hs:s.bR.length=4):
 Frz H F (.isl (s.words.map aF)) c0/\Frz H F (.isl (s.holds.map aF)) c1/\Frz H F (.isl (s.bJ.map dK)) c2/\Frz H F (.isl (s.bR.map jF)) c3/\Frz H F (.isl (s.told.map aL)) c4:=by
 have a:=h.XD b hp hs
 obtain⟨o,c,d⟩:=a.2 0 _ rfl
 obtain⟨d1,e,f⟩:=a.2 1 _ rfl
 obtain⟨d2,g,i⟩:=a.2 2 _ rfl
 obtain⟨d3,j,l⟩:=a.2 3 _ rfl
 obtain⟨p,m,n⟩:=a.2 4 _ rfl
 cases c;cases e;cases g;cases j;cases m
 exact⟨d,f,i,l,n⟩
theorem CM.Vv{H:aA}{F:Nat->Prop}{cap:Nat}(h:CM H nm s cells)(a: ∀k,k<19->F (nm k))(hs:s.bR.length=4)(hc:3<=cap):Frz H F (.isl ((s.bR.drop 1).map jF)) (.osl 3 (nm 3) 1 3 cap):=by obtain⟨j,b,d,l,e⟩:=h.bR;refine JE (a _ (by omega)) d rfl (by simp[hs]) (by dsimp only;omega) hc fun i r' hr=> ?_;rw[adJ,adC] at hr;obtain⟨p,hr,rfl⟩:=hr;rw[adO] at hr;obtain⟨f,m⟩:=getD_some hr;obtain⟨r,g,c⟩:=e (1+i) (by omega);rw[show aU s (1+i)=p from f] at c;exact⟨rfl,r,g,c.XD (a _ (by omega)) (a _ (by omega))⟩
theorem V5.drop{s:CSt}(h:V5 s):I0 {s with bR:=s.bR.drop 1}/\zJ {s with bR:=s.bR.drop 1}:=by
 have c: ∀k,aU {s with bR:=s.bR.drop 1} k=aU s (1+k):=fun k=>by unfold aU;simp only[List.getD,adO]
 have n:=h.Ee.fit.1;have b:I0 {s with bR:=s.bR.drop 1}:=by refine⟨n.w,n.h,n.t,n.td,n.pl,by rw[adL];have:=n.sl;omega,n.port,fun k=> ?_⟩;rw[c];exact n.slv (1+k)
 have f:(s.bR.drop 1).length=3:=by rw[adL,h.sl]
 have d: ∀k,k<3->(aN {s with bR:=s.bR.drop 1} k).queue.length<=2:=fun k a=>(h.port k a).1;have hp: ∀k,k<(s.bR.drop 1).length->(aU {s with bR:=s.bR.drop 1} k).pipe.length<=2:=fun k a=>by rw[c];exact(h.slv (1+k) (by omega)).1
 have e: ∀k,k<(s.bR.drop 1).length->(aU {s with bR:=s.bR.drop 1} k).done.length<=2:=fun k a=>by rw[c];exact(h.slv (1+k) (by omega)).2.1
 have g:=Al (s:={s with bR:=s.bR.drop 1}) h.pl (by dsimp only;omega) d hp;have i:=ek (s:={s with bR:=s.bR.drop 1}) (by dsimp only;omega) e;exact⟨b,Gf b h.pl (by dsimp only;omega) (fun k a=>by have:=d k a;omega) (fun k a=>⟨by have:=hp k a;omega,by have:=e k a;omega⟩) (by omega) (by omega)⟩
theorem uj{H:aA}{e:Env}{t n id m q g d s r h f u:Nat}{cs a b:List D1}(he:e t= .one (.c (.ptr n id 0 0)))(v:H id=some ⟨n,m,[cs]⟩)(hl:cs.length=n)(i:e q= .one (.c (.ptr g d 0 0)))(j:H d=some ⟨g,s,[a]⟩)(k:a.length=g)(l:e r= .one (.c (.ptr h f 0 0)))(o:H f=some ⟨h,u,[b]⟩)(p:b.length=h):nP H e [.cell t n true,.cell q g true,.cell r h true]=some (.tup [.agg cs,.agg a,.agg b]):=by subst hl;subst k;subst p;simp[nP,V0,he,i,l,rI,v,j,o,mkV,Zw]
structure WN(i:CIn):Prop where
 r:i.ready.length<2^21
 t:i.nO.length<2^21
 s:i.send.length<2^21
end Go.AM
namespace Go.Proofs.YtlncecohbakleaaGreat
open Go Go.AM
attribute [local irreducible] aK wv aC vd wvH
section
variable{H:aA}{nx:Nat}{K:ag2}
variable{l:List Int}
theorem dg{p i:Nat}(hl:gD l)(e:p+1000<2^50)(hi:i<nx)(t:H i=some (rdO l p))
 (h: ∀H' nx' f (c:Cfg),nx<=nx'->f<=p+1000->bG c->jJ c->H' i=some (rdO l f)->(∀id,id<nx->id≠i->H' id=H id)->K (dA (bO c)) H' nx'):ag1 sH [dP 2 i,dI 6] H nx K:=by
 apply aC.qC
 refine NJ hl e hi t fun H1 u f m v o Ps bl M w y mp b0 c0 N z r s O g A B C D P Q R S T U V W E G=> ?_
 obtain⟨X,I,d1,d2⟩:=B
 have hp:=ZN (F:=fun j=>j=bl\/j=w\/j=b0) D rfl C (.inr (.inl rfl)) (.inr (.inr rfl)) (show Ps.length+1<=y by omega)
 rw[show Ps.length+1=3 by omega] at hp
 have k: ∀b∈o::Ps,qU b:=fun b a=>by obtain⟨Y,J⟩:=g b a;refine⟨by omega,fun hc=> ?_⟩;obtain⟨x,n,d⟩:=dU.1 hc;exact of_decide_eq_true d (J x n)
 have hm:=r.1
 refine⟨dA (bO ⟨m,v,o::Ps⟩),without _ H1,_,CL (b9 (.same _ rfl) (b9 (F7 (σ:=id) (nh:=0) rfl (cM aP I s.1.symm (by omega) (.inl rfl))) (b9 hp xU))),kK,h _ _ f _ (by omega) z ⟨r,by dsimp only;omega,s.2,by dsimp only;rw[List.length_cons];omega,fun hc=> ?_⟩ ⟨by dsimp only;omega,by dsimp only;omega,by dsimp only;rw[List.length_cons];omega,fun b a=>by have:=(g b a).1;omega,fun b a q L=>B7.Ja ((g b a).2 q L)⟩ (by rw[dM (by omega)];exact A) fun id d1 d2=>by rw[dM (by omega)];exact G id d1 d2⟩
 obtain⟨x,n,d⟩:=dU.1 hc
 exact of_decide_eq_true d (k x n)
theorem ru{p i:Nat}(hl:gD l)(aa:p+3000<2^50)(hi:i<nx)(ho:H i=some (rdO l p))
 (h: ∀H' nx' p' (c:Cfg) (s:CSt) nm cells,nx<=nx'->p'<=p+2500->bG c->jJ c->COk c s->CM H' nm s cells->Names (fun j=>j<nx) nx' nm->H' i=some (rdO l p')->(∀id,id<nx->id≠i->H' id=H id)->K (.tup [.agg (bO c),.agg cells]) H' nx'):ag1 IP [dP 2 i] H nx K:=by
 refine bW.mk Tryz.func177 (by kernel_rfl) bd rfl fun Q hQ=> ?_
 unfold xD
 have hA:aT nx [i]:=AM.apart (by simp) (by simp;omega)
 simp only[aT,bM] at hA
 repeat' first| (first|apply vI| (refine dg (p:=p) hl (by omega) (by omega) (by rw[aA.aB (by omega),aA.aB (by omega)];exact ho) (fun H0 a pb c ca cc q L qb D=> ?_)))<;>(simp only[go_sem,nL,hA])|fail
 generalize B:aA.set _ (nx+4) _=G
 have g4:G (nx+4)=some ⟨3,1,[bO c]⟩:=by rw[<-B];exact aA.aJ
 have gi:G i=some (rdO l pb):=by rw[<-B,aA.aB (by omega)];exact qb
 have g0:G nx=some ⟨3,1,[[.osl 0 0 0 0 0,.osl 0 0 0 0 0,.osl 0 0 0 0 0]]⟩:=by rw[<-B,aA.aB (by omega),D _ (by omega) (by omega)];simp (disch:=omega) only[aA.aB,aA.aJ]
 have g1:G (nx+1)=some ⟨5,1,[[.osl 0 0 0 0 0,.osl 0 0 0 0 0,.osl 0 0 0 0 0,.osl 0 0 0 0 0,.osl 0 0 0 0 0]]⟩:=by rw[<-B,aA.aB (by omega),D _ (by omega) (by omega)];simp (disch:=omega) only[aA.aB,aA.aJ]
 have C: ∀id,id<nx->id≠i->G id=H id:=fun id d1 d2=>by rw[<-B,aA.aB (by omega),D id (by omega) d2];simp (disch:=omega) only[aA.aB]
 clear B qb D
 refine pg (X:=fun j=>j<a+3) (fun id t=>t) fun H1 R nm cells cd M r=> ?_
 have q4:H1 (nx+4)=some ⟨3,1,[bO c]⟩:=by rw[r _ (by omega)];exact g4
 have qi:H1 i=some (rdO l pb):=by rw[r _ (by omega)];exact gi
 have q0:H1 nx=some ⟨3,1,[[.osl 0 0 0 0 0,.osl 0 0 0 0 0,.osl 0 0 0 0 0]]⟩:=by rw[r _ (by omega)];exact g0
 have q1:H1 (nx+1)=some ⟨5,1,[[.osl 0 0 0 0 0,.osl 0 0 0 0 0,.osl 0 0 0 0 0,.osl 0 0 0 0 0,.osl 0 0 0 0 0]]⟩:=by rw[r _ (by omega)];exact g1
 have qf: ∀id,id<nx->id≠i->H1 id=H id:=fun id d1 d2=>by rw[r _ (by omega)];exact C id d1 d2
 clear g4 gi g0 g1 C r
 have g:=M.len
 have e:cells++List.drop cells.length [D1.osl 0 0 0 0 0,.osl 0 0 0 0 0,.osl 0 0 0 0 0,.osl 0 0 0 0 0,.osl 0 0 0 0 0]=cells:=by rw[g];simp
 have N:aT R [i,nx,nx+1,nx+4,a+1]:=AM.apart (by simp;omega) (by simp;omega)
 simp only[aT,bM] at N
 (try simp only[go_sem,nL,q4,qi,q0,q1,g,e,N,nL]);repeat' first|apply vI<;>(simp only[go_sem,nL,q4,qi,q0,q1,g,e,N,nL])|fail
 generalize B:H1.set (a+1) _=G
 have g8:G (a+1)=some ⟨5,1,[cells]⟩:=by rw[<-B];exact aA.aJ
 have C: ∀id,id≠a+1->G id=H1 id:=fun id d1=>by rw[<-B,aA.aB d1]
 clear B
 have S:kW (fun j=>j<a+3) G (R+3) nm SJ cells:=M.frame (by omega) fun id _ d2=>C id (by omega)
 refine ah (n:=40) (p:=pb) (by omega) hl (by omega) (by omega) (by rw[C _ (by omega)];exact qi) fun H2 ab p2 xs ad cf ck ai aj m=> ?_
 have T:kW (fun j=>j<a+3) H2 ab nm SJ cells:=S.frame ad fun id d1 d2=>m id d1 (by omega)
 have r8:H2 (a+1)=some ⟨5,1,[cells]⟩:=(m _ (by omega) (by omega)).trans g8
 have r4:=(m (nx+4) (by omega) (by omega)).trans ((C _ (by omega)).trans q4)
 have r0:=(m nx (by omega) (by omega)).trans ((C _ (by omega)).trans q0)
 have r1:=(m (nx+1) (by omega) (by omega)).trans ((C _ (by omega)).trans q1)
 have rf: ∀id,id<nx->id≠i->H2 id=H id:=fun id d1 d2=>(m id (by omega) d2).trans ((C id (by omega)).trans (qf id d1 d2))
 clear S M g8 C m q4 q0 q1 qi qf
 (try simp only[go_sem,nL,nL]);repeat' first|apply vI<;>(simp only[go_sem,nL,nL])|fail
 refine aK.cW (β:=Nat×CSt×(Nat->Nat)×List D1) (fun u=>en [(7,dI u.1),(6,dS (xs.map eIn)),(5,.one (.c (.ptr 5 (a+1) 0 0))),(4,.one (.c (.ptr 3 (nx+4) 0 0))),(3,.one (.c (.ptr 5 (nx+1) 0 0))),(2,.one (.c (.ptr 3 nx 0 0)))])
  (fun u U n3=>u.1<=xs.length/\COk c u.2.1/\kW (fun j=>j<a+3) U n3 u.2.2.1 u.2.1 u.2.2.2/\U (a+1)=some ⟨5,1,[u.2.2.2]⟩/\ ∀id,id<a+1->U id=H2 id)
  (fun u=>xs.length-u.1) (0,SJ,nm,cells) ⟨noF,_,by repeat' first|exact C1|refine xqI rfl rfl ?_|refine xqP (by omega) rfl rfl ?_|fail,aI,by dsimp only;omega,Xl c,T.frame (by omega) fun _ _ _=>rfl,r8,fun _ _=>rfl⟩ ?_
 clear T r8 g e
 rintro⟨k,s,O,E⟩ U ao cl ⟨v,w,y,s8,z⟩ KL bb
 dsimp only at v w y s8
 have s4:=(z (nx+4) (by omega)).trans r4
 have s0:=(z nx (by omega)).trans r0
 have s1:=(z (nx+1) (by omega)).trans r1
 have g:=y.len
 have o:aT ao [i,nx,nx+1,nx+4,a+1]:=AM.apart (by simp;omega) (by simp;omega)
 simp only[aT,bM] at o
 by_cases V:k<xs.length
 ·have W:fw (xs.getD k default):=by
   rw[List.getD,ac8 V];exact ai _ (aeT V)
  obtain⟨x,hx⟩: ∃x,x=xs.getD k default:=⟨_,rfl⟩
  have Y:xs.getD k default=x:=hx.symm
  rw[Y] at W
  repeat' first|apply vI<;>(simp only[go_sem,s4,s8,o,g,Y,nL])|apply vT (by omega)|refine⟨by omega,?_⟩|fail
  refine di q w W (y.frame (by omega) fun _ _ _=>rfl) fun H4 bk F b bp A I=> ?_
  have t8:=(I (a+1) (by show a+1<a+3;omega)).trans s8
  have f:=A.len
  have e:List.drop 5 E=[]:=by rw[<-g];simp
  (try simp only[go_sem,nL,t8,f,e,adR,o,nL]);repeat' first|apply vI<;>(simp only[go_sem,nL,t8,f,e,adR,o,nL];try simp (disch:=omega) only[Iw])|refine⟨by omega,?_⟩|fail
  refine bb _ _ _ (k+1,L4 c x s,F,b) noF _ (by omega) (by dsimp only;omega) (by repeat' first|exact C1|refine xqI rfl rfl ?_|refine xqP (by omega) rfl rfl ?_|fail) aI ⟨by dsimp only;omega,wz q w,A.frame (by omega) fun id _ d2=>aA.aB (by omega),aA.aJ,fun id t=> ?_⟩
  rw[aA.aB (by omega),I id (by show id<a+3;omega)];exact z id t
 ·repeat' first|apply vI<;>(simp only[go_sem,s4,s8,o,g,nL])|apply vF (by omega)|fail
  have P:=w.sz q;have br:=y.names.av;refine aC.Jh (args':=[dA (dX s)]) (without (fun j=>∃k,k<19/\j=O k) U) (fun j=>∃k,k<19/\j=O k) rfl (fun i d0 d h1 h2=> ?_) kK ?_
  ·match i with
   |0=>simp only[List.getElem?_cons_zero,Option.some.injEq] at h1 h2;subst h1;subst h2;exact oH (CL (y.rep.XD (fun k v=>⟨k,v,rfl⟩) P.pl P.sl))
   |i+1=>simp at h1
  refine QA P fun H4 bk F b bp A J I=> ?_;have Z: ∀id,id<a+1->H4 id=H2 id:=fun id t=>by rw[I id (by omega),dM (fun⟨k,v,he⟩=>br k v (by show O k<a+3;omega))];exact z id t
  have t4:=(Z (nx+4) (by omega)).trans r4;have t0:=(Z nx (by omega)).trans r0;have t1:=(Z (nx+1) (by omega)).trans r1;have f:b.length=5:=by obtain⟨_,_,_,_,_,rfl,_⟩:=A.ex;rfl
  have e:b++List.drop b.length [D1.osl 0 0 0 0 0,.osl 0 0 0 0 0,.osl 0 0 0 0 0,.osl 0 0 0 0 0,.osl 0 0 0 0 0]=b:=by rw[f];simp
  (try simp only[go_sem,nL,t4,t0,t1,f,e,o,nL]);repeat' first|apply vI<;>(simp only[go_sem,nL,t4,t0,t1,f,e,o,nL])|fail
  refine hQ _ _ _ _ _ (.inr rfl) (ss rfl ((aA.aB (by omega)).trans aA.aJ) rfl rfl aA.aJ f) (h _ _ p2 c s F b (by omega) (by omega) q L w (A.frame fun k v=> ?_) ⟨J.inj,fun k v=>by have:=J.rng k v;omega,fun k v hj=>by have:=J.rng k v;have hj:F k<nx:=hj;omega⟩ ?_ fun id d1 d2=> ?_);·have:=J.rng k v;rw[aA.aB (by omega),aA.aB (by omega)]
  ·rw[aA.aB (by omega),aA.aB (by omega),Z i (by omega)];exact aj
  ·rw[aA.aB (by omega),aA.aB (by omega),Z id (by omega)];exact rf id d1 d2
theorem YM{p i:Nat}{n:Int}(hn:0<n/\n<9000)(hl:gD l)(ej:p+5000<2^50)(hi:i<nx)(ho:H i=some (rdO l p))
 (h: ∀H' nx' p' (c:Cfg) (s:CSt),nx<=nx'->p'<=p+4500->jJ c->I0 s->zJ s->H' i=some (rdO l p')->(∀id,id<nx->id≠i->H' id=H id)->K (.tup [.agg (bO c),.agg (dX s)]) H' nx'):ag1 C8 [dP 2 i,dI n] H nx K:=by
 apply aC.qC
 refine bW.mk Tryz.func92 (by kernel_rfl) V9 rfl fun Q hQ=> ?_
 unfold qZ
 have hA:aT nx [i]:=AM.apart (by simp) (by simp;omega)
 simp only[aT,bM] at hA
 repeat' first| (first|apply vI| (refine ru (p:=p) hl (by omega) (by omega) (by rw[aA.aB (by omega),aA.aB (by omega)];exact ho) (fun H1 d p1 c s nm cells fh fi dv X Y dx bp eb cw=> ?_)))<;>(simp only[go_sem,nL,hA])|fail
 have cp:cells.length=5:=by obtain⟨_,_,_,_,_,rfl,_⟩:=dx.ex;rfl
 have cq:cells++List.drop cells.length [D1.osl 0 0 0 0 0,.osl 0 0 0 0 0,.osl 0 0 0 0 0,.osl 0 0 0 0 0,.osl 0 0 0 0 0]=cells:=by rw[cp];simp
 refine⟨cp,by omega,?_⟩
 rw[cq]
 try apply kI
 clear cq
 have D:=bp.lt
 have f: ∀k,k<19->nx+11<=nm k:=fun k N=>agG (bp.av k N)
 generalize hG:aA.set _ (nx+8) _=G
 have g8:G (nx+8)=some ⟨5,1,[cells]⟩:=by rw[<-hG];exact aA.aJ
 have g7:G (nx+7)=some ⟨3,1,[bO c]⟩:=by rw[<-hG,aA.aB (by omega)];exact aA.aJ
 have gi:G i=some (rdO l p1):=by rw[<-hG,aA.aB (by omega),aA.aB (by omega)];exact eb
 have g0:G nx=some ⟨3,1,[[.osl 0 0 0 0 0,.osl 0 0 0 0 0,.osl 0 0 0 0 0]]⟩:=by rw[<-hG,aA.aB (by omega),aA.aB (by omega),cw _ (by omega) (by omega),aA.aB (by omega)];exact aA.aJ
 have g1:G (nx+1)=some ⟨5,1,[[.osl 0 0 0 0 0,.osl 0 0 0 0 0,.osl 0 0 0 0 0,.osl 0 0 0 0 0,.osl 0 0 0 0 0]]⟩:=by rw[<-hG,aA.aB (by omega),aA.aB (by omega),cw _ (by omega) (by omega)];exact aA.aJ
 have gf: ∀id,id<nx->id≠i->G id=H id:=fun id d1 d2=>by rw[<-hG,aA.aB (by omega),aA.aB (by omega),cw _ (by omega) d2,aA.aB (by omega),aA.aB (by omega)]
 have hR:CM G nm s cells:=dx.frame fun k N=>by have:=f k N;rw[<-hG,aA.aB (by omega),aA.aB (by omega)]
 clear hG dx eb cw
 have cc: ∀(J:aA) (E C:Nat) (c2:Cfg) (s2:CSt) (q:List D1) (F:Nat->Prop),nx<=E->C<=p+4500->jJ c2->I0 s2->zJ s2->(∀j,F j->nx+9<=j)->ch ((J.set nx ⟨3,1,[bO c2]⟩).set (nx+1) ⟨5,1,[q]⟩) F (dX s2) q->q.length=5->J i=some (rdO l C)->(∀id,id<nx->id≠i->J id=H id)->
  ∀{e2:Env},e2 4= .one (.c (.ptr 3 nx 0 0))->e2 5= .one (.c (.ptr 5 (nx+1) 0 0))->Q .ret e2 ((J.set nx ⟨3,1,[bO c2]⟩).set (nx+1) ⟨5,1,[q]⟩) E:=fun J E C c2 s2 q F a1 a2 a3 a4 a5 a6 a7 a8 a9 cd e2 cf ck=>by
  refine hQ _ _ _ _ _ (.inr rfl) (ss cf ((aA.aB (by omega)).trans aA.aJ) rfl ck aA.aJ a8) ⟨.tup [.agg (bO c2),.agg (dX s2)],without F ((J.set nx ⟨3,1,[bO c2]⟩).set (nx+1) ⟨5,1,[q]⟩),F,xp (aH (bE rfl) (aH (bE rfl) (aH (bE rfl) cG))) (CL a7),kK,h _ E C c2 s2 a1 a2 a3 a4 a5 ?_ fun id d1 d2=> ?_⟩
  ·rw[dM (fun R=>by have:=a6 _ R;omega),aA.aB (by omega),aA.aB (by omega)];exact a9
  ·rw[dM (fun R=>by have:=a6 _ R;omega),aA.aB (by omega),aA.aB (by omega)];exact cd id d1 d2
 have ab: ∀(J:aA) (E C:Nat) (c2:Cfg) (s2:CSt) (cx:Nat->Nat) (q:List D1),nx<=E->C<=p+4500->jJ c2->I0 s2->zJ s2->s2.bR.length=4->CM J cx s2 q->(∀k,k<19->nx+9<=cx k)->J i=some (rdO l C)->(∀id,id<nx->id≠i->J id=H id)->
  ∀{e2:Env},e2 4= .one (.c (.ptr 3 nx 0 0))->e2 5= .one (.c (.ptr 5 (nx+1) 0 0))->Q .ret e2 ((J.set nx ⟨3,1,[bO c2]⟩).set (nx+1) ⟨5,1,[q]⟩) E:=fun J E C c2 s2 cx q a1 a2 a3 a4 a5 a6 a7 a8 a9 cd e2 cf ck=>by
  refine cc J E C c2 s2 q (fun j=>∃k,k<19/\j=cx k) a1 a2 a3 a4 a5 (fun j ⟨k,N,R⟩=>R▸a8 k N) ((a7.frame fun k N=> ?_).XD (fun k N=>⟨k,N,rfl⟩) a5.pl a6) ?_ a9 cd cf ck
  ·have:=a8 k N;rw[aA.aB (by omega),aA.aB (by omega)]
  ·obtain⟨_,_,_,_,_,rfl,_⟩:=a7.ex;rfl
 have hB:=Y.base dv
 have cy:I0 s/\zJ s:=hB.Ee.fit
 have cr:aT d [i,nx,nx+1,nx+7,nx+8]:=AM.apart (by simp;omega) (by simp;omega)
 simp only[aT,bM] at cr
 (try simp only[go_sem,nL,g7,g8,gi,g0,g1,cp,cr,nL]);repeat' first| (first|apply vI|refine gN (p:=p1) hn hl (by omega) (by omega) gi (fun C bb fl eo _=> ?_))<;>(simp only[go_sem,nL,g7,g8,gi,g0,g1,cp,cr,nL])| ((refine CK (fun h=> ?_) (fun h=> ?_))<;>try subst h)|fail
 case refine_2=>exact ab _ _ C c s nm cells (by omega) (by omega) X cy.1 cy.2 Y.sl (hR.frame fun k N=>aA.aB (by have:=f k N;omega)) (fun k N=>by have:=f k N;omega) aA.aJ (fun id d1 d2=>by rw[aA.aB d2];exact gf id d1 d2) rfl rfl
 refine aO (p:=C) (n:=3) hl (by omega) (by omega) (by omega) aA.aJ fun x h1 h2=> ?_
 obtain⟨k,N,rfl⟩: ∃k:Nat,k<3/\x=k:=⟨x.toNat,by omega,by omega⟩
 (try simp only[go_sem,nL,g7,g8,gi,g0,g1,cp,cr,nL]);repeat' first|apply vI<;>(simp only[go_sem,nL,g7,g8,gi,g0,g1,cp,cr,nL])|fail
 refine aO (p:=C+1) (n:=11) hl (by omega) (by omega) (by omega) aA.aJ fun y h3 h4=> ?_
 generalize br:aA.set _ i (rdO l (C+1+1))=J
 have S:J (nx+8)=some ⟨5,1,[cells]⟩:=by rw[<-br];simp (disch:=omega) only[aA.aB];exact g8
 have r7:J (nx+7)=some ⟨3,1,[bO c]⟩:=by rw[<-br];simp (disch:=omega) only[aA.aB];exact g7
 have M:J i=some (rdO l (C+2)):=by rw[<-br];exact aA.aJ
 have r0:J nx=some ⟨3,1,[[.osl 0 0 0 0 0,.osl 0 0 0 0 0,.osl 0 0 0 0 0]]⟩:=by rw[<-br];simp (disch:=omega) only[aA.aB];exact g0
 have r1:J (nx+1)=some ⟨5,1,[[.osl 0 0 0 0 0,.osl 0 0 0 0 0,.osl 0 0 0 0 0,.osl 0 0 0 0 0,.osl 0 0 0 0 0]]⟩:=by rw[<-br];simp (disch:=omega) only[aA.aB];exact g1
 have rf: ∀id,id<nx->id≠i->J id=H id:=fun id d1 d2=>by rw[<-br];simp (disch:=omega) only[aA.aB];exact gf id d1 d2
 have ca:kW (fun j=>j<nx+9) J d nm s cells:=⟨hR.frame fun k N=>by have:=f k N;rw[<-br];simp (disch:=omega) only[aA.aB],⟨bp.inj,bp.lt,fun k N R=>by have:=f k N;have R:nm k<nx+9:=R;omega⟩,fun id ct=>by have ct:id<nx+9:=ct;omega⟩
 clear br g8 g7 gi g0 g1 gf hR
 have fm:Rep (fun j=>j<nx+8) J d (nx+8) nm s:=⟨⟨cells,S,ca.rep⟩,⟨bp.inj,bp.lt,fun k N R=>by have:=f k N;have R:nm k<nx+8:=R;omega⟩,fun k N he=>by have:=f k N;omega,⟨by omega,fun R=>by have R:nx+8<nx+8:=R;omega⟩,fun id ct=>by have ct:id<nx+8:=ct;omega⟩
 obtain⟨wc,hc,pc,vc,tc,mp,rp,mv,rv,rfl,j1,j2,q0,q1,q2,fo,fp,ai,aj,aa,ad⟩:=ca.get
 have fs:=f 2 (by omega)
 have fx:=f 3 (by omega)
 have ga:=D 2 (by omega)
 have gb:=D 3 (by omega)
 have ep:nm 2≠nm 3:=fun he=>by have:=bp.inj 2 3 (by omega) (by omega) he;omega
 have B:aT d [i,nx,nx+1,nx+7,nx+8,nm 2,nm 3]:=AM.apart (by simp;omega) (by simp;omega)
 simp only[aT,bM] at B
 have mi: ∀(G:aA) (b j:Nat),msk (d+b) [j] G i=G i:=fun G b j=>mk1 (by omega)
 have m8: ∀(G:aA) (b j:Nat),msk (d+b) [j] G (nx+8)=G (nx+8):=fun G b j=>mk1 (by omega)
 have m2: ∀(G:aA) (b j:Nat),msk (d+b) [j] G (nm 2)=G (nm 2):=fun G b j=>mk1 (by omega)
 have m3: ∀(G:aA) (b j:Nat),msk (d+b) [j] G (nm 3)=G (nm 3):=fun G b j=>mk1 (by omega)
 have m: ∀a b,a<19->b<19->a≠b->nm a≠nm b:=fun a b h1 h2 h3 h4=>h3 (bp.inj a b h1 h2 h4)
 have ao: ∀(W:aA) (E p3:Nat) (p':fF) (r:List D1) (O:Nat->Nat),nx<=E->p3<=p+4500->p'.queue.length<=3->p'.out.length<=5->W (nm 2)=some ⟨4,mp,rp.set k r⟩->zK W (O (5+k)) (O (8+k)) p' r->(∀a,a<19->a≠5+k->a≠8+k->O a=nm a)->nx+9<=O (5+k)->nx+9<=O (8+k)->(∀a,a<19->a≠2->a≠5+k->a≠8+k->W (nm a)=J (nm a))->W i=some (rdO l p3)->(∀id,id<nx->id≠i->W id=H id)->∀{e2:Env},e2 4= .one (.c (.ptr 3 nx 0 0))->e2 5= .one (.c (.ptr 5 (nx+1) 0 0))->Q .ret e2 ((W.set nx ⟨3,1,[bO c]⟩).set (nx+1) ⟨5,1,[[.osl 1 (nm 0) 0 s.words.length wc,.osl 1 (nm 1) 0 s.holds.length hc,.osl 4 (nm 2) 0 3 pc,.osl 3 (nm 3) 0 4 vc,.osl 5 (nm 4) 0 s.told.length tc]]⟩) E:=fun W E p3 p' r O a1 a2 a3 a4 a5 a6 a7 a8 a9 cd cf ck e2 dy dz=>by
  have hN:=(hB.aaO N a3 a4).fit;refine ab W E p3 c {s with bJ:=s.bJ.set k p'} O _ a1 a2 X hN.1 hN.2 Y.sl (ca.rep.aaO Y.pl N j1 a5 a6 a7 cd) (fun a g=> ?_) cf ck dy dz;by_cases e1:a=5+k;·rw[e1];exact a8
  ·by_cases e2:a=8+k;·rw[e2];exact a9
   ·rw[a7 a g e1 e2];have:=f a g;omega
 have cl: ∀(W:aA) (E p3:Nat) (v':uM) (r:List D1) (O:Nat->Nat),nx<=E->p3<=p+4500->v'.pipe.length<=3->v'.done.length<=3->(∀j∈v'.done,j.rsp.data.length<2^20)->W (nm 3)=some ⟨3,mv,rv.set k r⟩->I1 W (O (11+k)) (O (15+k)) v' r->(∀a,a<19->a≠11+k->a≠15+k->O a=nm a)->nx+9<=O (11+k)->nx+9<=O (15+k)->(∀a,a<19->a≠3->a≠11+k->a≠15+k->W (nm a)=J (nm a))->W i=some (rdO l p3)->(∀id,id<nx->id≠i->W id=H id)->∀{e2:Env},e2 4= .one (.c (.ptr 3 nx 0 0))->e2 5= .one (.c (.ptr 5 (nx+1) 0 0))->Q .ret e2 ((W.set nx ⟨3,1,[bO c]⟩).set (nx+1) ⟨5,1,[[.osl 1 (nm 0) 0 s.words.length wc,.osl 1 (nm 1) 0 s.holds.length hc,.osl 4 (nm 2) 0 3 pc,.osl 3 (nm 3) 0 4 vc,.osl 5 (nm 4) 0 s.told.length tc]]⟩) E:=fun W E p3 v' r O a1 a2 a3 a4 et a5 a6 a7 a8 a9 cd cf ck e2 dy dz=>by
  have hN:=(hB.Zd (show k<4 by omega) a3 a4 et).fit;refine ab W E p3 c {s with bR:=s.bR.set k v'} O _ a1 a2 X hN.1 hN.2 (by dsimp only;rw[adM];exact Y.sl) (ca.rep.Zd Y.sl (show k<4 by omega) j2 a5 a6 a7 cd) (fun a g=> ?_) cf ck dy dz;by_cases e1:a=11+k;·rw[e1];exact a8
  ·by_cases e2:a=15+k;·rw[e2];exact a9
   ·rw[a7 a g e1 e2];have:=f a g;omega
 have hy:y=0\/y=1\/y=2\/y=3\/y=4\/y=5\/y=6\/y=7\/y=8\/y=9\/y=10:=by omega
 have gd:(0<=(k:Int)/\(k:Int)<((3:Nat):Int)):=⟨by omega,by omega⟩
 have gp:(0<=(k:Int)/\(k:Int)<((4:Nat):Int)):=⟨by omega,by omega⟩
 rcases hy with rfl|rfl|rfl|rfl|rfl|rfl|rfl|rfl|rfl|rfl|rfl
 · (try simp only[go_sem,nL,r7,S,M,r0,r1,B,nL]);repeat' first| (first|apply vI|refine ou (p:=C+2) (n:=2) (by omega) hl (by omega) (by omega) M (fun p3 w u eo gq ⟨eu,ew⟩=> ?_))<;>(simp only[go_sem,nL,r7,S,M,r0,r1,B,nL])|fail
   have hN:=(hB.acE eu ew).fit
   refine cc _ _ p3 c {s with words:=w,holds:=u} _ (fun j=>∃a,a<19/\j=nm a) (by omega) (by omega) X hN.1 hN.2 (fun j ⟨a,g,R⟩=>by have:=f a g;omega) ?_ rfl (by rw[aA.aB (by omega)];exact aA.aJ) (fun id d1 d2=>by rw[aA.aB (by omega),aA.aB d2];exact rf id d1 d2) rfl rfl
   obtain⟨_,_,f2,f3,f4⟩:=CM.abJ (F:=fun j=>∃a,a<19/\j=nm a) (ca.rep.frame (H':=aA.set (aA.set (aA.set (aA.set J i (rdO l p3)) (nx+8) ⟨5,1,[[.isl (w.map aF),.isl (u.map aF),.osl 4 (nm 2) 0 3 pc,.osl 3 (nm 3) 0 4 vc,.osl 5 (nm 4) 0 s.told.length tc]]⟩) nx ⟨3,1,[bO c]⟩) (nx+1) ⟨5,1,[[.isl (w.map aF),.isl (u.map aF),.osl 4 (nm 2) 0 3 pc,.osl 3 (nm 3) 0 4 vc,.osl 5 (nm 4) 0 s.told.length tc]]⟩) (fun a g=>by have:=f a g;rw[aA.aB (by omega),aA.aB (by omega),aA.aB (by omega),aA.aB (by omega)])) (fun a g=>⟨a,g,rfl⟩) Y.pl Y.sl
   exact b9 (.same _ rfl) (b9 (.same _ rfl) (b9 f2 (b9 f3 (b9 f4 xU))))
 ·obtain⟨qo,qc,oc,A,hq,Z⟩:=aa k N;(try simp only[go_sem,nL,r7,S,M,r0,r1,j1,ai,A,B,nL]);repeat' first| (first|apply vI|refine aO (p:=C+2) (n:=3) hl (by omega) (by omega) (by omega) M (fun z h5 h6=> ?_))<;>(simp only[go_sem,nL,r7,S,M,r0,r1,j1,ai,A,B,nL])|refine⟨by omega,?_⟩|fail
  have hb:=hB.port k N;have fr: ∀(o:bN) a,a<19->a≠2->((J.set i (rdO l (C+3))).set (nm 2) o) (nm a)=J (nm a):=fun o a g h2=>by have q1:=m a 2 g (by omega) h2;have q2:=f a g;rw[aA.aB q1,aA.aB (by omega)]
  exact ao _ _ (C+3) {aN s k with next:=IntKind.i64.wrap (IntKind.i64.wrap ((aN s k).next+z)-1)} _ nm (by omega) (by omega) (by dsimp only;omega) (by dsimp only;omega) aA.aJ ⟨qo,qc,oc,rfl,hq.frame (fr _ _ (by omega) (by omega)),Z.frame (fr _ _ (by omega) (by omega))⟩ (fun _ _ _ _=>rfl) (by have:=f (5+k) (by omega);omega) (by have:=f (8+k) (by omega);omega) (fun a g h2 _ _=>fr _ a g h2) (by rw[aA.aB (by omega)];exact aA.aJ) (fun id d1 d2=>by rw[aA.aB (by omega),aA.aB d2];exact rf id d1 d2) rfl rfl
 ·obtain⟨qo,qc,oc,A,hq,Z⟩:=aa k N;obtain⟨mq,rq0,z1,z2,z3,z4,z5,z6⟩:=hq.ex;rw[adE] at z4;have T:List.take (aN s k).queue.length (List.drop qo rq0)=(aN s k).queue.map aF:=by rw[z2,ac6 (by simp)]
  have hb:=hB.port k N;have da:=f (5+k) (by omega);have df:=D (5+k) (by omega);have dh:nm (5+k)≠nm 2:=m _ _ (by omega) (by omega) (by omega);have dm:nm (5+k)≠nm 3:=m _ _ (by omega) (by omega) (by omega);have I:aT d [i,nx,nx+1,nx+7,nx+8,nm 2,nm 3,nm (5+k)]:=AM.apart (by simp;omega) (by simp;omega);simp only[aT,bM] at I;have m5: ∀(G:aA) (b j:Nat),msk (d+b) [j] G (nm (5+k))=G (nm (5+k)):=fun G b j=>mk1 (by omega);(try simp only[go_sem,nL,r7,S,M,r0,r1,j1,ai,A,z1,T,m8,m2,m5,I,nL]);repeat' first| (first|apply vI|refine aO (p:=C+2) (n:=4) hl (by omega) (by omega) (by omega) M (fun z h5 h6=> ?_))<;>(simp only[go_sem,nL,r7,S,M,r0,r1,j1,ai,A,z1,T,m8,m2,m5,I,nL])| (with_reducible first|refine fun(cap:Nat) (U:_<=cap)=> ?_|refine fun(ds:_<=cap)=> ?_)|refine⟨by omega,?_⟩|fail
  generalize P:aA.set (aA.set _ (d+26) _) (nm 2) _=W;have w2:W (nm 2)=some ⟨4,mp,rp.set k [cI (aN s k).next,.osl 1 (d+26) 0 ((aN s k).queue.length+1) cap,.osl 3 (nm (8+k)) 0 (aN s k).out.length oc,cI (aN s k).last]⟩:=by rw[<-P];exact aA.aJ
  have bk:W (d+26)=some ⟨1,cap,((aN s k).queue++[z]).map aF⟩:=by rw[<-P,aA.aB (by omega)];exact aA.aJ
  have wf: ∀id,id<d->id≠i->id≠nm 2->id≠nm (5+k)->W id=J id:=fun id d1 d2 d3 d4=>by rw[<-P];simp (disch:=omega) only[aA.aB,aA.cL]
  have wi:W i=some (rdO l (C+3)):=by rw[<-P];simp (disch:=omega) only[aA.aB,aA.aJ]
  clear P;refine ao W _ (C+3) {aN s k with queue:=(aN s k).queue++[z]} _ (put nm (5+k) (d+26)) (by omega) (by omega) (by simp;omega) (by dsimp only;omega) w2 ⟨0,cap,oc,?_,?_,?_⟩ (fun a _ h1 _=>bV h1) (by rw[fS];omega) (by rw[bV (by omega)];have:=f (8+k) (by omega);omega) (fun a g h2 h3 _=>wf _ (D a g) (by have:=f a g;omega) (m _ _ g (by omega) h2) (m _ _ g (by omega) h3)) wi (fun id d1 d2=>(wf id (by omega) d2 (by omega) (by omega)).trans (rf id d1 d2)) rfl rfl;·rw[fS,bV (by omega)];simp[WZ]
  ·rw[fS];exact⟨cap,_,bk,rfl,by simp,by simp,by simpa using U,by omega⟩
  ·rw[bV (by omega)];exact Z.frame (wf _ (D _ (by omega)) (by have:=f (8+k) (by omega);omega) (m _ _ (by omega) (by omega) (by omega)) (m _ _ (by omega) (by omega) (by omega)))
 ·obtain⟨qo,qc,oc,A,hq,Z⟩:=aa k N;obtain⟨mq,rq0,z1,z2,z3,z4,z5,z6⟩:=Z.ex;rw[adE] at z4;have T:List.take (aN s k).out.length rq0=(aN s k).out.map eCJ:=by rw[<-ad6 (l:=rq0),z2,ac6 (by simp)]
  have hb:=hB.port k N;have da:=f (8+k) (by omega);have df:=D (8+k) (by omega);have dh:nm (8+k)≠nm 2:=m _ _ (by omega) (by omega) (by omega);have dm:nm (8+k)≠nm 3:=m _ _ (by omega) (by omega) (by omega);have I:aT d [i,nx,nx+1,nx+7,nx+8,nm 2,nm 3,nm (8+k)]:=AM.apart (by simp;omega) (by simp;omega);simp only[aT,bM] at I;have m5: ∀(G:aA) (b j:Nat),msk (d+b) [j] G (nm (8+k))=G (nm (8+k)):=fun G b j=>mk1 (by omega);(try simp only[go_sem,nL,r7,S,M,r0,r1,j1,ai,A,z1,T,m8,m2,m5,I,nL]);repeat' first| (first|apply vI|refine aO (p:=C+2) (n:=4) hl (by omega) (by omega) (by omega) M (fun z h5 h6=> ?_)|refine aO (p:=C+3) (n:=4) hl (by omega) (by omega) (by omega) aA.aJ (fun z2 h7 h8=> ?_))<;>(simp only[go_sem,nL,r7,S,M,r0,r1,j1,ai,A,z1,T,m8,m2,m5,I,nL])| (with_reducible first|refine fun(cap:Nat) (U:_<=cap)=> ?_|refine fun(ds:_<=cap)=> ?_)|refine⟨by omega,?_⟩|fail
  generalize P:aA.set (aA.set _ (d+32) _) (nm 2) _=W;have w2:W (nm 2)=some ⟨4,mp,rp.set k [cI (aN s k).next,.osl 1 (nm (5+k)) qo (aN s k).queue.length qc,.osl 3 (d+32) 0 ((aN s k).out.length+1) cap,cI (aN s k).last]⟩:=by rw[<-P];exact aA.aJ
  have bk:W (d+32)=some ⟨3,cap,((aN s k).out++[(⟨k,z,z2⟩:gX)]).map eCJ⟩:=by rw[<-P,aA.aB (by omega),aA.aJ,adF];rfl
  have wf: ∀id,id<d->id≠i->id≠nm 2->id≠nm (8+k)->W id=J id:=fun id d1 d2 d3 d4=>by rw[<-P];simp (disch:=omega) only[aA.aB,aA.cL]
  have wi:W i=some (rdO l (C+4)):=by rw[<-P];simp (disch:=omega) only[aA.aB,aA.aJ]
  clear P;refine ao W _ (C+4) {aN s k with out:=(aN s k).out++[(⟨k,z,z2⟩:gX)]} _ (put nm (8+k) (d+32)) (by omega) (by omega) (by dsimp only;omega) (by simp;omega) w2 ⟨qo,qc,cap,?_,?_,?_⟩ (fun a _ _ h1=>bV h1) (by rw[bV (by omega)];have:=f (5+k) (by omega);omega) (by rw[fS];omega) (fun a g h2 _ h3=>wf _ (D a g) (by have:=f a g;omega) (m _ _ g (by omega) h2) (m _ _ g (by omega) h3)) wi (fun id d1 d2=>(wf id (by omega) d2 (by omega) (by omega)).trans (rf id d1 d2)) rfl rfl;·rw[fS,bV (by omega)];simp[WZ]
  ·rw[bV (by omega)];exact hq.frame (wf _ (D _ (by omega)) (by have:=f (5+k) (by omega);omega) (m _ _ (by omega) (by omega) (by omega)) (m _ _ (by omega) (by omega) (by omega)))
  ·rw[fS];exact⟨cap,_,bk,rfl,by simp,by simp,by simpa using U,by omega⟩
 ·obtain⟨qo,qc,oc,A,hq,Z⟩:=aa k N;have hb:=hB.port k N;(try simp only[go_sem,nL,r7,S,M,r0,r1,j1,ai,A,m8,m2,mi,B,nL]);repeat' first|apply vI<;>(simp only[go_sem,nL,r7,S,M,r0,r1,j1,ai,A,m8,m2,mi,B,nL])|fail
  refine aO (p:=C+2) (n:=3) hl (by omega) (by omega) (by omega) (by rw[mi];exact M) fun z h5 h6=> ?_;(try simp only[go_sem,nL,S,m8,B]);repeat' first|apply vI<;>(simp only[go_sem,nL,S,m8,B])|fail
  generalize hU:c8 (d+18) [3] _ (msk (d+18) [3] J)=V;have vL:V (d+21)=some ⟨1,3,[[.v (.int .i64 (-1))],[.v (.int .i64 4)],[.v (.int .i64 2)]]⟩:=by rw[show d+21=d+18+3 from rfl,<-hU,yy];exact aA.aJ
  have vf: ∀id,id≠d+21->V id=J id:=fun id d1=>by rw[<-hU,um1 (by omega),mk1 (by omega)]
  clear hU;have v0:=(vf nx (by omega)).trans r0;have v1:=(vf (nx+1) (by omega)).trans r1;have v7:=(vf (nx+7) (by omega)).trans r7;have v8:=(vf (nx+8) (by omega)).trans S;have v2:=(vf (nm 2) (by omega)).trans j1;refine⟨fun _=>by rw[v8];rfl,by omega,?_⟩;obtain⟨v,hv⟩:=rD (L:=[[.v (.int .i64 (-1))],[.v (.int .i64 4)],[.v (.int .i64 2)]]) (by simp) h5 (by simp;omega);(try simp only[go_sem,nL,v0,v1,v7,v8,v2,vL,hv,A,ai,B,m8,m2]);repeat' first|apply vI<;>(simp only[go_sem,nL,v0,v1,v7,v8,v2,vL,hv,A,ai,B,m8,m2])|refine⟨by omega,?_⟩|fail
  have fr: ∀(o:bN) a,a<19->a≠2->((V.set i (rdO l (C+3))).set (nm 2) o) (nm a)=J (nm a):=fun o a g h2=>by have q1:=m a 2 g (by omega) h2;have q2:=f a g;have q3:=D a g;rw[aA.aB q1,aA.aB (by omega),vf _ (by omega)]
  exact ao _ _ (C+3) {aN s k with last:=v} _ nm (by omega) (by omega) (by dsimp only;omega) (by dsimp only;omega) aA.aJ ⟨qo,qc,oc,rfl,hq.frame (fr _ _ (by omega) (by omega)),Z.frame (fr _ _ (by omega) (by omega))⟩ (fun _ _ _ _=>rfl) (by have:=f (5+k) (by omega);omega) (by have:=f (8+k) (by omega);omega) (fun a g h2 _ _=>fr _ a g h2) (by rw[aA.aB (by omega)];exact aA.aJ) (fun id d1 d2=>by rw[aA.aB (by omega),aA.aB d2,vf _ (by omega)];exact rf id d1 d2) rfl rfl
 ·obtain⟨po,cv,do_,dc,A,hq,Z⟩:=ad k (by omega);have hb:=hB.slv k (by omega);(try simp only[go_sem,nL,r7,S,M,r0,r1,j2,aj,A,m8,m3,mi,B,nL]);repeat' first|apply vI<;>(simp only[go_sem,nL,r7,S,M,r0,r1,j2,aj,A,m8,m3,mi,B,nL])|fail
  refine aO (p:=C+2) (n:=3) hl (by omega) (by omega) (by omega) (by rw[mi];exact M) fun z h5 h6=> ?_;(try simp only[go_sem,nL,S,m8,B]);repeat' first|apply vI<;>(simp only[go_sem,nL,S,m8,B])|fail
  generalize hU:c8 (d+20) [3] _ (msk (d+20) [3] J)=V;have vL:V (d+23)=some ⟨1,3,[[.v (.int .i64 (-1))],[.v (.int .i64 3)],[.v (.int .i64 1)]]⟩:=by rw[show d+23=d+20+3 from rfl,<-hU,yy];exact aA.aJ
  have vf: ∀id,id≠d+23->V id=J id:=fun id d1=>by rw[<-hU,um1 (by omega),mk1 (by omega)]
  clear hU;have v0:=(vf nx (by omega)).trans r0;have v1:=(vf (nx+1) (by omega)).trans r1;have v7:=(vf (nx+7) (by omega)).trans r7;have v8:=(vf (nx+8) (by omega)).trans S;have v3:=(vf (nm 3) (by omega)).trans j2;refine⟨fun _=>by rw[v8];rfl,by omega,?_⟩;obtain⟨v,hv⟩:=rD (L:=[[.v (.int .i64 (-1))],[.v (.int .i64 3)],[.v (.int .i64 1)]]) (by simp) h5 (by simp;omega);(try simp only[go_sem,nL,v0,v1,v7,v8,v3,vL,hv,A,aj,B,m8,m3]);repeat' first|apply vI<;>(simp only[go_sem,nL,v0,v1,v7,v8,v3,vL,hv,A,aj,B,m8,m3])|refine⟨by omega,?_⟩|fail
  have fr: ∀(o:bN) a,a<19->a≠3->((V.set i (rdO l (C+3))).set (nm 3) o) (nm a)=J (nm a):=fun o a g h2=>by have q1:=m a 3 g (by omega) h2;have q2:=f a g;have q3:=D a g;rw[aA.aB q1,aA.aB (by omega),vf _ (by omega)]
  exact cl _ _ (C+3) {aU s k with last:=v} _ nm (by omega) (by omega) (by dsimp only;omega) (by dsimp only;omega) hb.2.2 aA.aJ ⟨po,cv,do_,dc,rfl,hq.frame (fr _ _ (by omega) (by omega)),Z.frame (fr _ _ (by omega) (by omega))⟩ (fun _ _ _ _=>rfl) (by have:=f (11+k) (by omega);omega) (by have:=f (15+k) (by omega);omega) (fun a g h2 _ _=>fr _ a g h2) (by rw[aA.aB (by omega)];exact aA.aJ) (fun id d1 d2=>by rw[aA.aB (by omega),aA.aB d2,vf _ (by omega)];exact rf id d1 d2) rfl rfl
 ·obtain⟨po,cv,do_,dc,A,hq,Z⟩:=ad k (by omega);obtain⟨mq,rq0,z1,z2,z3,z4,z5,z6⟩:=hq.ex;rw[adE] at z4;have T:List.take (aU s k).pipe.length (List.drop po rq0)=(aU s k).pipe.map eCJ:=by rw[z2,ac6 (by simp)]
  have hb:=hB.slv k (by omega);have da:=f (11+k) (by omega);have df:=D (11+k) (by omega);have dh:nm (11+k)≠nm 2:=m _ _ (by omega) (by omega) (by omega);have dm:nm (11+k)≠nm 3:=m _ _ (by omega) (by omega) (by omega);have I:aT d [i,nx,nx+1,nx+7,nx+8,nm 2,nm 3,nm (11+k)]:=AM.apart (by simp;omega) (by simp;omega);simp only[aT,bM] at I;have m5: ∀(G:aA) (b j:Nat),msk (d+b) [j] G (nm (11+k))=G (nm (11+k)):=fun G b j=>mk1 (by omega);(try simp only[go_sem,nL,r7,S,M,r0,r1,j2,aj,A,z1,T,m8,m3,m5,I,nL]);repeat' first| (first|apply vI|refine aO (p:=C+2) (n:=4) hl (by omega) (by omega) (by omega) M (fun z h5 h6=> ?_)|refine aO (p:=C+3) (n:=4) hl (by omega) (by omega) (by omega) aA.aJ (fun z2 h7 h8=> ?_)|refine aO (p:=C+4) (n:=3) hl (by omega) (by omega) (by omega) aA.aJ (fun z3 h9 ed=> ?_))<;>(simp only[go_sem,nL,r7,S,M,r0,r1,j2,aj,A,z1,T,m8,m3,m5,I,nL];try simp (disch:=omega) only[Iw])| (with_reducible first|refine fun(cap:Nat) (U:_<=cap)=> ?_|refine fun(ds:_<=cap)=> ?_)|refine⟨by omega,?_⟩|fail
  generalize P:aA.set (aA.set _ (d+40) _) (nm 3) _=W;have w2:W (nm 3)=some ⟨3,mv,rv.set k [.osl 3 (d+40) 0 ((aU s k).pipe.length+1) cap,.osl 5 (nm (15+k)) do_ (aU s k).done.length dc,cI (aU s k).last]⟩:=by rw[<-P];exact aA.aJ
  have bk:W (d+40)=some ⟨3,cap,((aU s k).pipe++[(⟨z-1,z2,z3⟩:gX)]).map eCJ⟩:=by rw[<-P,aA.aB (by omega),aA.aJ,adF];rfl
  have wf: ∀id,id<d->id≠i->id≠nm 3->id≠nm (11+k)->W id=J id:=fun id d1 d2 d3 d4=>by rw[<-P];simp (disch:=omega) only[aA.aB,aA.cL]
  have wi:W i=some (rdO l (C+5)):=by rw[<-P];simp (disch:=omega) only[aA.aB,aA.aJ]
  clear P;refine cl W _ (C+5) {aU s k with pipe:=(aU s k).pipe++[(⟨z-1,z2,z3⟩:gX)]} _ (put nm (11+k) (d+40)) (by omega) (by omega) (by simp;omega) (by dsimp only;omega) hb.2.2 w2 ⟨0,cap,do_,dc,?_,?_,?_⟩ (fun a _ h1 _=>bV h1) (by rw[fS];omega) (by rw[bV (by omega)];have:=f (15+k) (by omega);omega) (fun a g h2 h3 _=>wf _ (D a g) (by have:=f a g;omega) (m _ _ g (by omega) h2) (m _ _ g (by omega) h3)) wi (fun id d1 d2=>(wf id (by omega) d2 (by omega) (by omega)).trans (rf id d1 d2)) rfl rfl;·rw[fS,bV (by omega)];simp[lz]
  ·rw[fS];exact⟨cap,_,bk,rfl,by simp,by simp,by simpa using U,by omega⟩
  ·rw[bV (by omega)];exact Z.frame (wf _ (D _ (by omega)) (by have:=f (15+k) (by omega);omega) (m _ _ (by omega) (by omega) (by omega)) (m _ _ (by omega) (by omega) (by omega)))
 ·obtain⟨po,cv,do_,dc,A,hq,Z⟩:=ad k (by omega);obtain⟨mq,rq0,z1,z2,z3,z4,z5,z6⟩:=Z.ex;rw[adE] at z4;have T:List.take (aU s k).done.length (List.drop do_ rq0)=(aU s k).done.map aL:=by rw[z2,ac6 (by simp)]
  have hb:=hB.slv k (by omega);have da:=f (15+k) (by omega);have df:=D (15+k) (by omega);have dh:nm (15+k)≠nm 2:=m _ _ (by omega) (by omega) (by omega);have dm:nm (15+k)≠nm 3:=m _ _ (by omega) (by omega) (by omega);have I:aT d [i,nx,nx+1,nx+7,nx+8,nm 2,nm 3,nm (15+k)]:=AM.apart (by simp;omega) (by simp;omega);simp only[aT,bM] at I;have m5: ∀(G:aA) (b j:Nat),msk (d+b) [j] G (nm (15+k))=G (nm (15+k)):=fun G b j=>mk1 (by omega);(try simp only[go_sem,nL,r7,S,M,r0,r1,j2,aj,A,z1,T,m8,m3,m5,I,nL]);repeat' first| (first|apply vI|refine aO (p:=C+2) (n:=4) hl (by omega) (by omega) (by omega) M (fun z h5 h6=> ?_)|refine aO (p:=C+3) (n:=4) hl (by omega) (by omega) (by omega) aA.aJ (fun z2 h7 h8=> ?_)|refine QQ (p:=C+4) (n:=2) (by omega) hl (by omega) (by omega) aA.aJ (fun p3 x h9 ed ff=> ?_))<;>(simp only[go_sem,nL,r7,S,M,r0,r1,j2,aj,A,z1,T,m8,m3,m5,I,nL];try simp (disch:=omega) only[Iw])| (with_reducible first|refine fun(cap:Nat) (U:_<=cap)=> ?_|refine fun(ds:_<=cap)=> ?_)|refine⟨by omega,?_⟩|fail
  generalize P:aA.set (aA.set _ (d+42) _) (nm 3) _=W;have w2:W (nm 3)=some ⟨3,mv,rv.set k [.osl 3 (nm (11+k)) po (aU s k).pipe.length cv,.osl 5 (d+42) 0 ((aU s k).done.length+1) cap,cI (aU s k).last]⟩:=by rw[<-P];exact aA.aJ
  have bk:W (d+42)=some ⟨5,cap,((aU s k).done++[(⟨z-1,z2,x⟩:Job)]).map aL⟩:=by rw[<-P,aA.aB (by omega),aA.aJ,adF];rfl
  have wf: ∀id,id<d->id≠i->id≠nm 3->id≠nm (15+k)->W id=J id:=fun id d1 d2 d3 d4=>by rw[<-P];simp (disch:=omega) only[aA.aB,aA.cL]
  have wi:W i=some (rdO l p3):=by rw[<-P];simp (disch:=omega) only[aA.aB,aA.aJ]
  clear P;refine cl W _ p3 {aU s k with done:=(aU s k).done++[(⟨z-1,z2,x⟩:Job)]} _ (put nm (15+k) (d+42)) (by omega) (by omega) (by dsimp only;omega) (by simp;omega) (fun j R=> ?_) w2 ⟨po,cv,0,cap,?_,?_,?_⟩ (fun a _ _ h1=>bV h1) (by rw[bV (by omega)];have:=f (11+k) (by omega);omega) (by rw[fS];omega) (fun a g h2 _ h3=>wf _ (D a g) (by have:=f a g;omega) (m _ _ g (by omega) h2) (m _ _ g (by omega) h3)) wi (fun id d1 d2=>(wf id (by omega) d2 (by omega) (by omega)).trans (rf id d1 d2)) rfl rfl
  ·rcases adD.1 R with R|R;·exact hb.2.2 j R
   ·rw[adN] at R;subst R;dsimp only;omega
  ·rw[fS,bV (by omega)];simp[lz]
  ·rw[bV (by omega)];exact hq.frame (wf _ (D _ (by omega)) (by have:=f (11+k) (by omega);omega) (m _ _ (by omega) (by omega) (by omega)) (m _ _ (by omega) (by omega) (by omega)))
  ·rw[fS];exact⟨cap,_,bk,rfl,by simp,by simp,by simpa using U,by omega⟩
 ·obtain⟨mq,rq0,z1,z2,z3,z4,z5,z6⟩:=q2.ex;rw[adE] at z4;have T:List.take s.told.length rq0=s.told.map aL:=by rw[<-ad6 (l:=rq0),z2,ac6 (by simp)]
  have hb:=hB.t;have da:=f (4) (by omega);have df:=D (4) (by omega);have dh:nm (4)≠nm 2:=m _ _ (by omega) (by omega) (by omega);have dm:nm (4)≠nm 3:=m _ _ (by omega) (by omega) (by omega);have I:aT d [i,nx,nx+1,nx+7,nx+8,nm 2,nm 3,nm (4)]:=AM.apart (by simp;omega) (by simp;omega);simp only[aT,bM] at I;have m5: ∀(G:aA) (b j:Nat),msk (d+b) [j] G (nm (4))=G (nm (4)):=fun G b j=>mk1 (by omega);(try simp only[go_sem,nL,r7,S,M,r0,r1,z1,T,m8,m5,I,nL]);repeat' first| (first|apply vI|refine aO (p:=C+2) (n:=4) hl (by omega) (by omega) (by omega) M (fun z h5 h6=> ?_)|refine aO (p:=C+3) (n:=4) hl (by omega) (by omega) (by omega) aA.aJ (fun z2 h7 h8=> ?_)|refine QQ (p:=C+4) (n:=3) (by omega) hl (by omega) (by omega) aA.aJ (fun p3 x h9 ed ff=> ?_))<;>(simp only[go_sem,nL,r7,S,M,r0,r1,z1,T,m8,m5,I,nL];try simp (disch:=omega) only[Iw])| (with_reducible first|refine fun(cap:Nat) (U:_<=cap)=> ?_|refine fun(ds:_<=cap)=> ?_)|refine⟨by omega,?_⟩|fail
  generalize P:aA.set (aA.set _ (d+37) _) (nx+8) _=W;have bk:W (d+37)=some ⟨5,cap,(s.told++[(⟨z-1,z2,x⟩:Job)]).map aL⟩:=by rw[<-P,aA.aB (by omega),aA.aJ,adF];rfl
  have wf: ∀id,id<d->id≠i->id≠nx+8->id≠nm 4->W id=J id:=fun id d1 d2 d3 d4=>by rw[<-P];simp (disch:=omega) only[aA.aB,aA.cL]
  have wi:W i=some (rdO l p3):=by rw[<-P];simp (disch:=omega) only[aA.aB,aA.aJ]
  clear P
  have hN:=(hB.aaT (t:=s.told++[(⟨z-1,z2,x⟩:Job)]) (by simp;omega) (fun j R=>by
   rcases adD.1 R with R|R
   ·exact hB.td j R
   ·rw[adN] at R;subst R;dsimp only;omega)).fit
  have hT:=ca.rep.aaT (W:=W) (id0:=d+37) (cap:=cap) (t:=s.told++[(⟨z-1,z2,x⟩:Job)]) ⟨cap,_,bk,rfl,by simp,by simp,by simpa using U,by omega⟩ (fun a g h2=>wf _ (D a g) (by have:=f a g;omega) (by have:=f a g;omega) (m _ _ g (by omega) h2));rw[ac7,List.length_singleton] at hT;refine ab W _ p3 c {s with told:=s.told++[(⟨z-1,z2,x⟩:Job)]} _ _ (by omega) (by omega) X hN.1 hN.2 Y.sl hT (fun a g=> ?_) wi (fun id d1 d2=>(wf id (by omega) d2 (by omega) (by omega)).trans (rf id d1 d2)) rfl rfl;by_cases e:a=4;·rw[e,fS];omega
  ·rw[bV e];have:=f a g;omega
 · (try simp only[go_sem,nL,r7,S,M,r0,r1,B,j2,aj,nL]);repeat' first|apply vI<;>(simp only[go_sem,nL,r7,S,M,r0,r1,B,j2,aj,nL])|refine⟨by omega,?_⟩|fail
   have hN:=hB.drop
   generalize P:aA.set (aA.set _ nx _) (nx+1) _=W
   have ei:=ca.rep.frame (H':=W) (fun a g=>by have:=f a g;rw[<-P,aA.aB (by omega),aA.aB (by omega),aA.aB (by omega)])
   obtain⟨f0,f1,f2,_,f4⟩:=ei.abJ (F:=fun j=>∃a,a<19/\j=nm a) (fun a g=>⟨a,g,rfl⟩) Y.pl Y.sl
   have f3:=ei.Vv (F:=fun j=>∃a,a<19/\j=nm a) (cap:=vc-1) (fun a g=>⟨a,g,rfl⟩) Y.sl (by omega)
   subst P
   exact cc _ _ (C+2) c {s with bR:=s.bR.drop 1} _ (fun j=>∃a,a<19/\j=nm a) (by omega) (by omega) X hN.1 hN.2 (fun j ⟨a,g,R⟩=>by have:=f a g;omega) (b9 f0 (b9 f1 (b9 f2 (b9 f3 (b9 f4 xU))))) rfl (by rw[aA.aB (by omega)];exact M) (fun id d1 d2=>by rw[aA.aB (by omega)];exact rf id d1 d2) rfl rfl
 · (try simp only[go_sem,nL,r7,S,M,r0,r1,B,nL]);repeat' first| (first|apply vI|refine YC (p:=C+2) (n:=1) (by omega) hl (by omega) (by omega) M (fun H3 gr p3 c' w1 w2 w3 w4 w5 w6=> ?_))<;>(simp only[go_sem,nL,r7,S,M,r0,r1,B,nL])|fail
   have s7:=(w6 (nx+7) (by omega) (by omega)).trans r7
   have s8:=(w6 (nx+8) (by omega) (by omega)).trans S
   have s0:=(w6 nx (by omega) (by omega)).trans r0
   have s1:=(w6 (nx+1) (by omega) (by omega)).trans r1
   (try simp only[go_sem,nL,s7,s8,s0,s1,B,nL]);repeat' first|apply vI<;>(simp only[go_sem,nL,s7,s8,s0,s1,B,nL])|fail
   exact ab _ _ p3 c' s nm _ (by omega) (by omega) w2 cy.1 cy.2 Y.sl (ca.rep.frame fun a g=>by have:=f a g;have:=D a g;rw[aA.aB (by omega),w6 _ (by omega) (by omega)]) (fun a g=>by have:=f a g;omega) (by rw[aA.aB (by omega)];exact w5) (fun id d1 d2=>by rw[aA.aB (by omega),w6 _ (by omega) d2];exact rf id d1 d2) rfl rfl
theorem SL(hl:gD l)(h: ∀H' nx' c s i,nx<=nx'->jJ c->I0 s->zJ s->WN i->(∀id,id<nx->H' id=H id)->K (.tup [.agg (bO c),.agg (dX s),.agg (eIn i)]) H' nx'):ag1 uI [dS (l.map eU8)] H nx K:=by
 have j:gD (l.take 2000):=⟨by simp;omega,fun x L=>hl.byte x (List.take_subset _ _ L)⟩
 refine bW.mk Tryz.func119 (by kernel_rfl) PR rfl fun Q M=> ?_;unfold mU;repeat' first| (first|apply vI|apply B7.iz)<;>(simp only[go_sem,nL])|fail
 refine YM (p:=0) (n:=12) (by omega) j (by omega) (by omega) aA.aJ fun H1 m N c s O P w R S f d=> ?_;have t:H1 nx=some ⟨3,1,[[.osl 0 0 0 0 0,.osl 0 0 0 0 0,.osl 0 0 0 0 0]]⟩:=by rw[d _ (by omega) (by omega)];simp (disch:=omega) only[aA.aB,aA.aJ]
 have u:H1 (nx+1)=some ⟨5,1,[[.osl 0 0 0 0 0,.osl 0 0 0 0 0,.osl 0 0 0 0 0,.osl 0 0 0 0 0,.osl 0 0 0 0 0]]⟩:=by rw[d _ (by omega) (by omega)];simp (disch:=omega) only[aA.aB,aA.aJ]
 have v:H1 (nx+2)=some ⟨3,1,[[.osl 0 0 0 0 0,.osl 0 0 0 0 0,.osl 0 0 0 0 0]]⟩:=by rw[d _ (by omega) (by omega)];simp (disch:=omega) only[aA.aB,aA.aJ]
 have D: ∀id,id<nx->H1 id=H id:=fun id a=>by rw[d _ (by omega) (by omega)];simp (disch:=omega) only[aA.aB]
 clear d;have e:aT m [nx,nx+1,nx+2,nx+6,nx+12,nx+13]:=AM.apart (by simp) (by simp;omega);simp only[aT,bM] at e;(try simp only[go_sem,nL,t,u,v,f,e,nL]);repeat' first|apply vI<;>(simp only[go_sem,nL,t,u,v,f,e,nL])|fail
 refine UL (p:=N) (slow:=4) j (by omega) (by omega) (by omega) (by rw[aA.aB (by omega),aA.aB (by omega)];exact f) fun H2 z T x U V A B b=> ?_;have E:H2 nx=some ⟨3,1,[[.osl 0 0 0 0 0,.osl 0 0 0 0 0,.osl 0 0 0 0 0]]⟩:=by rw[b _ (by omega) (by omega),aA.aB (by omega),aA.aB (by omega)];exact t
 have F:H2 (nx+1)=some ⟨5,1,[[.osl 0 0 0 0 0,.osl 0 0 0 0 0,.osl 0 0 0 0 0,.osl 0 0 0 0 0,.osl 0 0 0 0 0]]⟩:=by rw[b _ (by omega) (by omega),aA.aB (by omega),aA.aB (by omega)];exact u
 have G:H2 (nx+2)=some ⟨3,1,[[.osl 0 0 0 0 0,.osl 0 0 0 0 0,.osl 0 0 0 0 0]]⟩:=by rw[b _ (by omega) (by omega),aA.aB (by omega),aA.aB (by omega)];exact v
 have o:H2 (nx+12)=some ⟨3,1,[bO c]⟩:=by rw[b _ (by omega) (by omega),aA.aB (by omega)];exact aA.aJ
 have q:H2 (nx+13)=some ⟨5,1,[dX s]⟩:=by rw[b _ (by omega) (by omega)];exact aA.aJ
 have I: ∀id,id<nx->H2 id=H id:=fun id a=>by rw[b _ (by omega) (by omega),aA.aB (by omega),aA.aB (by omega)];exact D id a
 clear b t u v D f;have k:aT z [nx,nx+1,nx+2,nx+6,nx+12,nx+13,m+2]:=AM.apart (by simp;omega) (by simp;omega);simp only[aT,bM] at k;obtain⟨o1,J,o3⟩:=A
 have g: ∀(W:aA) (C:Nat) (y:CIn),nx<=C->WN y->(∀id,id<nx->W id=H id)->∀{r:Env},r 2= .one (.c (.ptr 3 nx 0 0))->r 3= .one (.c (.ptr 5 (nx+1) 0 0))->r 4= .one (.c (.ptr 3 (nx+2) 0 0))->Q .ret r (((W.set nx ⟨3,1,[bO c]⟩).set (nx+1) ⟨5,1,[dX s]⟩).set (nx+2) ⟨3,1,[eIn y]⟩) C:=fun W C y X Y Z r h2 h3 h4=>
  M _ _ _ _ _ (.inr rfl) (uj h2 ((aA.aB (by omega)).trans ((aA.aB (by omega)).trans aA.aJ)) rfl h3 ((aA.aB (by omega)).trans aA.aJ) rfl h4 aA.aJ rfl) (h _ _ c s y X w R S Y fun id a=>by rw[aA.aB (by omega),aA.aB (by omega),aA.aB (by omega)];exact Z id a)
 (try simp only[go_sem,nL,E,F,G,o,q,e,k,adE,J,nL]);repeat' first| (first|apply vI| (refine gN (p:=T) (n:=20) (by omega) j (by omega) (by omega) (by rw[aA.aB (by omega)];exact B) (fun p3 bb aa ab _=> ?_)))<;>(simp only[go_sem,nL,E,F,G,o,q,e,k,adE,J,nL])| ((refine CK (fun h=> ?_) (fun h=> ?_))<;>try subst h)|refine⟨by omega,?_⟩|fail
 ·exact g _ _ ⟨x.ready,x.nO.drop 1,x.send⟩ (by omega) ⟨by dsimp only;omega,by simp;omega,by dsimp only;omega⟩ (fun id a=>by rw[aA.aB (by omega),aA.aB (by omega)];exact I id a) rfl rfl rfl
 ·exact g _ _ x (by omega) ⟨by omega,by omega,by omega⟩ (fun id a=>by rw[aA.aB (by omega),aA.aB (by omega)];exact I id a) rfl rfl rfl
theorem ON(hl:gD l)(h: ∀H' nx' c s i,nx<=nx'->jJ c->I0 s->zJ s->WN i->(∀id,id<nx->H' id=H id)->K (.tup [.agg (bO c),.agg (dX s),.agg (eIn i)]) H' nx'):ag1 qA [dS (l.map eU8)] H nx K:=by
 refine bW.mk Tryz.func46 (by kernel_rfl) MC rfl fun Q m=> ?_;unfold lE;repeat' first| (first|apply vI|refine SL hl (fun H1 e c s i n f o p hi a=> ?_))<;>(simp only[go_sem,nL])|fail
 have g:H1 nx=some ⟨3,1,[[.osl 0 0 0 0 0,.osl 0 0 0 0 0,.osl 0 0 0 0 0]]⟩:=by rw[a _ (by omega)];simp (disch:=omega) only[aA.aB,aA.aJ]
 have j:H1 (nx+1)=some ⟨5,1,[[.osl 0 0 0 0 0,.osl 0 0 0 0 0,.osl 0 0 0 0 0,.osl 0 0 0 0 0,.osl 0 0 0 0 0]]⟩:=by rw[a _ (by omega)];simp (disch:=omega) only[aA.aB,aA.aJ]
 have k:H1 (nx+2)=some ⟨3,1,[[.osl 0 0 0 0 0,.osl 0 0 0 0 0,.osl 0 0 0 0 0]]⟩:=by rw[a _ (by omega)];simp (disch:=omega) only[aA.aB,aA.aJ]
 have q: ∀id,id<nx->H1 id=H id:=fun id d=>by rw[a _ (by omega)];simp (disch:=omega) only[aA.aB]
 clear a;have b:aT e [nx,nx+1,nx+2]:=AM.apart (by simp) (by simp;omega);simp only[aT,bM] at b;(try simp only[go_sem,nL,g,j,k,b,nL]);repeat' first|apply vI<;>(simp only[go_sem,nL,g,j,k,b,nL])|fail
 exact m _ _ _ _ _ (.inr rfl) (uj rfl ((aA.aB (by omega)).trans ((aA.aB (by omega)).trans aA.aJ)) rfl rfl ((aA.aB (by omega)).trans aA.aJ) rfl rfl aA.aJ rfl) (h _ _ c s i (by omega) f o p hi fun id d=>by rw[aA.aB (by omega),aA.aB (by omega),aA.aB (by omega)];exact q id d)
end
end Go.Proofs.YtlncecohbakleaaGreat
