/- Rules and contracts. -/
import Derived.Test.YtlncecohbakleaaGreatPR17
import Derived.Test.YtlncecohbakleaaGreatPR16
import Derived.Test.YtlncecohbakleaaGreatPR18
set_option linter.unusedVariables false
set_option linter.unusedSimpArgs false
set_option maxRecDepth 100000
set_option maxHeartbeats 8000000
namespace Go.AM
theorem oi{H:aA}{e:Env}{t n id m i d b j:Nat}{cs a:List D1}(he:e t= .one (.c (.ptr n id 0 0)))(k:H id=some ⟨n,m,[cs]⟩)(hl:cs.length=n)(f:e i= .one (.c (.ptr d b 0 0)))(g:H b=some ⟨d,j,[a]⟩)(h:a.length=d):mT H e [.cell t n true,.cell i d true]=some (.tup [.agg cs,.agg a]):=by subst hl;subst h;simp[mT,VF,he,f,qB,k,g,mkV,Yl]
structure U4(s:CSt):Prop where
 pl:s.bC.length=3
 sl:s.bN.length=4
 w:s.words.length<=64
 h:s.holds.length<=6
 t:s.told.length<=36
 td: ∀j∈s.told,j.rsp.data.length<2^20
 port: ∀k,k<3->(aL s k).queue.length<=2/\(aL s k).out.length<=4
 slv: ∀k,k<4->(aS s k).pipe.length<=2/\(aS s k).done.length<=2/\ ∀j∈(aS s k).done,j.rsp.data.length<2^20
variable{s:CSt}
theorem COk.base{c:Cfg}(e:bH c)(h:COk c s):U4 s:=by
 obtain⟨f,_,g,_⟩:=h.atm;have b:s.told.length<=36:=by have:=h.st.lens e;simp only[dN] at this;omega
 refine⟨h.pl,h.sl,by omega,by omega,b,fun j d=> ?_,fun k a=> ?_,fun k a=>⟨(h.slv k a).pl,(h.slv k a).dl,fun j d=> ?_⟩⟩;·have:=(h.st.fv j (ac2 _ d)).1;unfold jU at this;omega
 ·have i:=(h.port k a).ql;have l:=(h.port k a).ol;omega
 ·have:=((h.slv k a).rsp j d).1;unfold jU at this;omega
structure Ci(s:CSt):Prop where
 pl:s.bC.length=3
 sl:s.bN.length=4
 w:s.words.length<=65
 h:s.holds.length<=6
 t:s.told.length<=37
 td: ∀j∈s.told,j.rsp.data.length<2^20
 port: ∀k,k<3->(aL s k).queue.length<=3/\(aL s k).out.length<=5
 slv: ∀k,k<4->(aS s k).pipe.length<=3/\(aS s k).done.length<=3/\ ∀j∈(aS s k).done,j.rsp.data.length<2^20
 qs:(aL s 0).queue.length+(aL s 1).queue.length+(aL s 2).queue.length<=7
theorem Hk(a:s.bC.length=3)(b:s.bN.length=4):(nR s).length=(aL s 0).queue.length+(aL s 1).queue.length+(aL s 2).queue.length+((aS s 0).pipe.length+(aS s 1).pipe.length+(aS s 2).pipe.length+(aS s 3).pipe.length):=by unfold nR gL fD;rw[a,b];simp[adL];omega
theorem Ci.fit(h:Ci s):BB s/\EI s:=by
 have c:BB s:=by
  refine⟨by have:=h.w;omega,by have:=h.h;omega,by have:=h.t;omega,fun j d=>by have:=h.td j d;omega,by have:=h.pl;omega,by have:=h.sl;omega,fun k=> ?_,fun k=> ?_⟩
  ·by_cases a:k<3;·have:=h.port k a;omega
   ·have:aL s k=default:=(by unfold aL;rw[List.getD,adT (by have:=h.pl;omega)];rfl);rw[this];exact⟨by decide,by decide⟩
  ·by_cases a:k<4;·have:=h.slv k a;exact⟨by omega,by omega,fun j d=>by have:=this.2.2 j d;omega⟩
   ·have:aS s k=default:=(by unfold aS;rw[List.getD,adT (by have:=h.sl;omega)];rfl);rw[this];exact⟨by decide,by decide,fun j d=>by cases d⟩
 have e:=X6 (b:=3) (s:=s) (by have:=h.sl;omega) fun k a=>(h.slv k (by have:=h.sl;omega)).2.1;have hw:=Hk h.pl h.sl;have q:=h.qs;have f:=(h.slv 0 (by omega)).1;have g:=(h.slv 1 (by omega)).1;have i:=(h.slv 2 (by omega)).1;have l:=(h.slv 3 (by omega)).1;exact⟨c,Dd c h.pl (by have:=h.sl;omega) (fun k a=>(h.port k a).1) (fun k a=>⟨(h.slv k (by have:=h.sl;omega)).1,(h.slv k (by have:=h.sl;omega)).2.1⟩) (by omega) (by omega)⟩
theorem U4.tn(h:U4 s):Ci s:=by have b:=(h.port 0 (by omega)).1;have c:=(h.port 1 (by omega)).1;have d:=(h.port 2 (by omega)).1;exact⟨h.pl,h.sl,by have:=h.w;omega,h.h,by have:=h.t;omega,h.td,fun k a=>by have:=h.port k a;omega,fun k a=>by have:=h.slv k a;exact⟨by omega,by omega,this.2.2⟩,by omega⟩
theorem U4.Wz(h:U4 s){k:Nat}(a:k<3){p:eT}(b:p.queue.length<=3)(c:p.out.length<=5):Ci {s with bC:=s.bC.set k p}:=by
 have hp: ∀j,aL {s with bC:=s.bC.set k p} j=if j=k then p else aL s j:=cH rfl (by rw[h.pl];exact a)
 have n:=h.tn;refine⟨by simpa using h.pl,h.sl,n.w,n.h,n.t,n.td,fun j d=> ?_,n.slv,?_⟩
 ·rw[hp];split;·exact⟨b,c⟩
  ·exact n.port j d
 ·rw[hp,hp,hp];have e:=(h.port 0 (by omega)).1;have f:=(h.port 1 (by omega)).1;have g:=(h.port 2 (by omega)).1;split;·rw[if_neg (by omega),if_neg (by omega)];omega
  ·split;·rw[if_neg (by omega)];omega
   ·split<;>omega
theorem U4.Xj(h:U4 s){k:Nat}(a:k<4){v:tG}(hp:v.pipe.length<=3)(b:v.done.length<=3)(hr: ∀j∈v.done,j.rsp.data.length<2^20):Ci {s with bN:=s.bN.set k v}:=by
 have c: ∀j,aS {s with bN:=s.bN.set k v} j=if j=k then v else aS s j:=cY rfl (by rw[h.sl];exact a)
 have n:=h.tn;refine⟨h.pl,by simpa using h.sl,n.w,n.h,n.t,n.td,n.port,fun j d=> ?_,n.qs⟩;rw[c];split;·exact⟨hp,b,hr⟩
 ·exact n.slv j d
theorem U4.Yc(h:U4 s){t:List Job}(a:t.length<=37)(b: ∀j∈t,j.rsp.data.length<2^20):Ci {s with told:=t}:=by have n:=h.tn;exact⟨n.pl,n.sl,n.w,n.h,a,b,n.port,n.slv,n.qs⟩
theorem U4.aa0(h:U4 s){w u:List Int}(hw:w.length<=65)(hu:u.length<=6):Ci {s with words:=w,holds:=u}:=by have n:=h.tn;exact⟨n.pl,n.sl,hw,hu,n.t,n.td,n.port,n.slv,n.qs⟩
variable{nm:Nat->Nat}{cells:List D1}
theorem BA.Wz{G W:aA}{b:Nat->Nat}{k mp:Nat}{p:eT}{r:List D1}{rows:List (List D1)}(h:BA G nm s cells)(f:s.bC.length=3)(x:k<3)
 (y:G (nm 2)=some ⟨4,mp,rows⟩) (z:W (nm 2)=some ⟨4,mp,rows.set k r⟩) (A:yQ W (b (5+k)) (b (8+k)) p r) (c: ∀a,a<19->a≠5+k->a≠8+k->b a=nm a)
 (d: ∀a,a<19->a≠2->a≠5+k->a≠8+k->W (nm a)=G (nm a)):BA W b {s with bC:=s.bC.set k p} cells:=by
 have hp: ∀j,aL {s with bC:=s.bC.set k p} j=if j=k then p else aL s j:=cH rfl (by rw[f];exact x)
 obtain⟨⟨wc,hc,B,vc,C,rfl,D,E,F,H,I⟩,⟨m,R,o,J,K⟩,⟨L,M,N,O,P⟩⟩:=h
 rw[y] at o
 cases o
 have q:=c 0 (by omega) (by omega) (by omega)
 have t:=c 1 (by omega) (by omega) (by omega)
 have u:=c 2 (by omega) (by omega) (by omega)
 have v:=c 3 (by omega) (by omega) (by omega)
 have w:=c 4 (by omega) (by omega) (by omega)
 refine⟨⟨wc,hc,B,vc,C,by rw[F3,F3,q,t,u,v,w],?_,?_,?_,H,I⟩,⟨mp,rows.set k r,by rw[u];exact z,by rw[ab0];exact J,fun j g=> ?_⟩,⟨L,M,by rw[v,d 3 (by omega) (by omega) (by omega) (by omega)];exact N,O,fun j g=> ?_⟩⟩
 ·rw[q];exact D.frame (d 0 (by omega) (by omega) (by omega) (by omega))
 ·rw[t];exact E.frame (d 1 (by omega) (by omega) (by omega) (by omega))
 ·rw[w];exact F.frame (d 4 (by omega) (by omega) (by omega) (by omega))
 ·rw[hp];by_cases e:j=k;·subst e;exact⟨r,by rw[acA (by omega)],by rw[if_pos rfl];exact A⟩
  ·obtain⟨i,l,n⟩:=K j g;rw[if_neg e,c (5+j) (by omega) (by omega) (by omega),c (8+j) (by omega) (by omega) (by omega)];exact⟨i,by rw[acB (by omega)];exact l,n.frame (d _ (by omega) (by omega) (by omega) (by omega)) (d _ (by omega) (by omega) (by omega) (by omega))⟩
 ·obtain⟨i,l,n⟩:=P j g;rw[c (11+j) (by omega) (by omega) (by omega),c (15+j) (by omega) (by omega) (by omega)];exact⟨i,l,n.frame (d _ (by omega) (by omega) (by omega) (by omega)) (d _ (by omega) (by omega) (by omega) (by omega))⟩
theorem BA.Xj{G W:aA}{b:Nat->Nat}{k mp:Nat}{v:tG}{r:List D1}{rows:List (List D1)}(h:BA G nm s cells)(f:s.bN.length=4)(x:k<4)
 (y:G (nm 3)=some ⟨3,mp,rows⟩) (z:W (nm 3)=some ⟨3,mp,rows.set k r⟩) (A:IT W (b (11+k)) (b (15+k)) v r) (c: ∀a,a<19->a≠11+k->a≠15+k->b a=nm a)
 (d: ∀a,a<19->a≠3->a≠11+k->a≠15+k->W (nm a)=G (nm a)):BA W b {s with bN:=s.bN.set k v} cells:=by
 have hp: ∀j,aS {s with bN:=s.bN.set k v} j=if j=k then v else aS s j:=cY rfl (by rw[f];exact x)
 obtain⟨⟨wc,hc,B,vc,C,rfl,D,E,F,H,I⟩,⟨m,R,J,K,L⟩,⟨O,P,o,M,N⟩⟩:=h
 rw[y] at o
 cases o
 have p:=c 0 (by omega) (by omega) (by omega)
 have q:=c 1 (by omega) (by omega) (by omega)
 have t:=c 2 (by omega) (by omega) (by omega)
 have u:=c 3 (by omega) (by omega) (by omega)
 have w:=c 4 (by omega) (by omega) (by omega)
 refine⟨⟨wc,hc,B,vc,C,by rw[F3,F3,p,q,t,u,w],?_,?_,?_,H,I⟩,⟨m,R,by rw[t,d 2 (by omega) (by omega) (by omega) (by omega)];exact J,K,fun j g=> ?_⟩,⟨mp,rows.set k r,by rw[u];exact z,by rw[ab0];exact M,fun j g=> ?_⟩⟩
 ·rw[p];exact D.frame (d 0 (by omega) (by omega) (by omega) (by omega))
 ·rw[q];exact E.frame (d 1 (by omega) (by omega) (by omega) (by omega))
 ·rw[w];exact F.frame (d 4 (by omega) (by omega) (by omega) (by omega))
 ·obtain⟨i,l,n⟩:=L j g;rw[c (5+j) (by omega) (by omega) (by omega),c (8+j) (by omega) (by omega) (by omega)];exact⟨i,l,n.frame (d _ (by omega) (by omega) (by omega) (by omega)) (d _ (by omega) (by omega) (by omega) (by omega))⟩
 ·rw[hp];by_cases e:j=k;·subst e;exact⟨r,by rw[acA (by omega)],by rw[if_pos rfl];exact A⟩
  ·obtain⟨i,l,n⟩:=N j g;rw[if_neg e,c (11+j) (by omega) (by omega) (by omega),c (15+j) (by omega) (by omega) (by omega)];exact⟨i,by rw[acB (by omega)];exact l,n.frame (d _ (by omega) (by omega) (by omega) (by omega)) (d _ (by omega) (by omega) (by omega) (by omega))⟩
theorem BA.Yc{G W:aA}{id0 cap wc hc c vc k:Nat}{t:List Job}(h:BA G nm s [.osl 1 (nm 0) 0 s.words.length wc,.osl 1 (nm 1) 0 s.holds.length hc,.osl 4 (nm 2) 0 3 c,.osl 3 (nm 3) 0 4 vc,.osl 5 (nm 4) 0 s.told.length k])
 (l:lW W 5 id0 0 t.length cap (t.map aT)) (b: ∀a,a<19->a≠4->W (nm a)=G (nm a)):
 BA W (put nm 4 id0) {s with told:=t} [.osl 1 (nm 0) 0 s.words.length wc,.osl 1 (nm 1) 0 s.holds.length hc,.osl 4 (nm 2) 0 3 c,.osl 3 (nm 3) 0 4 vc,.osl 5 id0 0 t.length cap]:=by
 obtain⟨⟨n,o,p,q,r,e,u,v,H,w,x⟩,⟨m,R,y,z,A⟩,⟨B,C,D,E,F⟩⟩:=h
 simp only[F3,List.cons.injEq,D1.osl.injEq,true_and,and_true] at e
 obtain⟨rfl,rfl,rfl,rfl,rfl⟩:=e
 refine⟨⟨wc,hc,c,vc,cap,?_,?_,?_,?_,w,x⟩,⟨m,R,by rw[bV (by omega),b 2 (by omega) (by omega)];exact y,z,fun j d=> ?_⟩,⟨B,C,by rw[bV (by omega),b 3 (by omega) (by omega)];exact D,E,fun j d=> ?_⟩⟩
 ·rw[F3,bV (by omega),bV (by omega),bV (by omega),bV (by omega),fL]
 ·rw[bV (by omega)];exact u.frame (b 0 (by omega) (by omega))
 ·rw[bV (by omega)];exact v.frame (b 1 (by omega) (by omega))
 ·rw[fL];exact l
 ·obtain⟨f,g,i⟩:=A j d;rw[bV (by omega),bV (by omega)];exact⟨f,g,i.frame (b _ (by omega) (by omega)) (b _ (by omega) (by omega))⟩
 ·obtain⟨f,g,i⟩:=F j d;rw[bV (by omega),bV (by omega)];exact⟨f,g,i.frame (b _ (by omega) (by omega)) (b _ (by omega) (by omega))⟩
theorem BA.Zs{H:aA}{F:Nat->Prop}{c0 c1 c2 b c:D1}(h:BA H nm s [c0,c1,c2,b,c])(d: ∀k,k<19->F (nm k))(hp:s.bC.length=3)(hs:s.bN.length=4):
 Frz H F (.isl (s.words.map aH)) c0/\Frz H F (.isl (s.holds.map aH)) c1/\Frz H F (.isl (s.bC.map dD)) c2/\Frz H F (.isl (s.bN.map i6)) b/\Frz H F (.isl (s.told.map aT)) c:=by
 have a:=h.OY d hp hs
 obtain⟨p,e,f⟩:=a.2 0 _ rfl
 obtain⟨d1,g,i⟩:=a.2 1 _ rfl
 obtain⟨d2,j,l⟩:=a.2 2 _ rfl
 obtain⟨d3,m,n⟩:=a.2 3 _ rfl
 obtain⟨q,o,f4⟩:=a.2 4 _ rfl
 cases e;cases g;cases j;cases m;cases o
 exact⟨f,i,l,n,f4⟩
theorem BA.Uz{H:aA}{F:Nat->Prop}{cap:Nat}(h:BA H nm s cells)(a: ∀k,k<19->F (nm k))(hs:s.bN.length=4)(hc:3<=cap):Frz H F (.isl ((s.bN.drop 1).map i6)) (.osl 3 (nm 3) 1 3 cap):=by obtain⟨j,b,d,l,e⟩:=h.bN;refine IB (a _ (by omega)) d rfl (by simp[hs]) (by dsimp only;omega) hc fun i r' hr=> ?_;rw[abW,abR] at hr;obtain⟨p,hr,rfl⟩:=hr;rw[ab4] at hr;obtain⟨f,m⟩:=getD_some hr;obtain⟨r,g,c⟩:=e (1+i) (by omega);rw[show aS s (1+i)=p from f] at c;exact⟨rfl,r,g,c.OY (a _ (by omega)) (a _ (by omega))⟩
theorem U4.drop{s:CSt}(h:U4 s):BB {s with bN:=s.bN.drop 1}/\EI {s with bN:=s.bN.drop 1}:=by
 have c: ∀k,aS {s with bN:=s.bN.drop 1} k=aS s (1+k):=fun k=>by unfold aS;simp only[List.getD,ab4]
 have n:=h.tn.fit.1;have b:BB {s with bN:=s.bN.drop 1}:=by refine⟨n.w,n.h,n.t,n.td,n.pl,by rw[ab1];have:=n.sl;omega,n.port,fun k=> ?_⟩;rw[c];exact n.slv (1+k)
 have f:(s.bN.drop 1).length=3:=by rw[ab1,h.sl]
 have d: ∀k,k<3->(aL {s with bN:=s.bN.drop 1} k).queue.length<=2:=fun k a=>(h.port k a).1;have hp: ∀k,k<(s.bN.drop 1).length->(aS {s with bN:=s.bN.drop 1} k).pipe.length<=2:=fun k a=>by rw[c];exact(h.slv (1+k) (by omega)).1
 have e: ∀k,k<(s.bN.drop 1).length->(aS {s with bN:=s.bN.drop 1} k).done.length<=2:=fun k a=>by rw[c];exact(h.slv (1+k) (by omega)).2.1
 have g:=xm (s:={s with bN:=s.bN.drop 1}) h.pl (by dsimp only;omega) d hp;have i:=X6 (s:={s with bN:=s.bN.drop 1}) (by dsimp only;omega) e;exact⟨b,Dd b h.pl (by dsimp only;omega) (fun k a=>by have:=d k a;omega) (fun k a=>⟨by have:=hp k a;omega,by have:=e k a;omega⟩) (by omega) (by omega)⟩
structure PM(i:CIn):Prop where
 r:i.ready.length<2^21
 t:i.mW.length<2^21
 s:i.send.length<2^21
end Go.AM
namespace Go.Proofs.YtlncecohbakleaaGreat
open Go Go.AM
attribute [local irreducible] aJ wv aC vd wvH
section
variable{H:aA}{nx:Nat}{K:afC}
theorem fg{l:List Int}{p i:Nat}(hl:fW l)(e:p+1000<2^50)(hi:i<nx)(t:H i=some (rdO l p))
 (h: ∀H' nx' f (c:Cfg),nx<=nx'->f<=p+1000->bH c->iN c->H' i=some (rdO l f)->(∀id,id<nx->id≠i->H' id=H id)->K (dA (bI c)) H' nx'):afB rP [dP 2 i,dI 6] H nx K:=by
 apply aC.kH
 refine NX hl e hi t fun H1 u f m v o Ps bl M w y mp b0 c0 N z r s O g A B C D P Q R S T U V W E G=> ?_
 obtain⟨X,I,d1,d2⟩:=B
 have hp:=ag (F:=fun j=>j=bl\/j=w\/j=b0) D rfl C (.inr (.inl rfl)) (.inr (.inr rfl)) (show Ps.length+1<=y by omega)
 rw[show Ps.length+1=3 by omega] at hp
 have k: ∀b∈o::Ps,pN b:=fun b a=>by obtain⟨Y,J⟩:=g b a;refine⟨by omega,fun hc=> ?_⟩;obtain⟨x,n,d⟩:=cU.1 hc;exact of_decide_eq_true d (J x n)
 have hm:=r.1
 refine⟨dA (bI ⟨m,v,o::Ps⟩),without _ H1,_,nM (bZ (.same _ rfl) (bZ (I6 (σ:=id) (nh:=0) rfl (cP aV I s.1.symm (by omega) (.inl rfl))) (bZ hp xC))),eV,h _ _ f _ (by omega) z ⟨r,by dsimp only;omega,s.2,by dsimp only;rw[List.length_cons];omega,fun hc=> ?_⟩ ⟨by dsimp only;omega,by dsimp only;omega,by dsimp only;rw[List.length_cons];omega,fun b a=>by have:=(g b a).1;omega,fun b a q L=>B7.Ht ((g b a).2 q L)⟩ (by rw[b9 (by omega)];exact A) fun id d1 d2=>by rw[b9 (by omega)];exact G id d1 d2⟩
 obtain⟨x,n,d⟩:=cU.1 hc
 exact of_decide_eq_true d (k x n)
theorem km{l:List Int}{p i:Nat}(hl:fW l)(aa:p+3000<2^50)(hi:i<nx)(ho:H i=some (rdO l p))
 (h: ∀H' nx' p' (c:Cfg) (s:CSt) nm cells,nx<=nx'->p'<=p+2500->bH c->iN c->COk c s->BA H' nm s cells->Names (fun j=>j<nx) nx' nm->H' i=some (rdO l p')->(∀id,id<nx->id≠i->H' id=H id)->K (.tup [.agg (bI c),.agg cells]) H' nx'):afB GP [dP 2 i] H nx K:=by
 refine bR.mk Tryz.func177 (by kernel_rfl) YC rfl fun Q hQ=> ?_
 unfold vE
 have hA:aO nx [i]:=AM.apart (by simp) (by simp;omega)
 simp only[aO,bG] at hA
 repeat' first| (first|apply vI| (refine fg (p:=p) hl (by omega) (by omega) (by rw[aA.aB (by omega),aA.aB (by omega)];exact ho) (fun H0 a pb c br bw q L qb D=> ?_)))<;>(simp only[go_sem,nL,hA])|fail
 generalize B:aA.set _ (nx+4) _=G
 have g4:G (nx+4)=some ⟨3,1,[bI c]⟩:=by rw[<-B];exact aA.aI
 have gi:G i=some (rdO l pb):=by rw[<-B,aA.aB (by omega)];exact qb
 have g0:G nx=some ⟨3,1,[[.osl 0 0 0 0 0,.osl 0 0 0 0 0,.osl 0 0 0 0 0]]⟩:=by rw[<-B,aA.aB (by omega),D _ (by omega) (by omega)];simp (disch:=omega) only[aA.aB,aA.aI]
 have g1:G (nx+1)=some ⟨5,1,[[.osl 0 0 0 0 0,.osl 0 0 0 0 0,.osl 0 0 0 0 0,.osl 0 0 0 0 0,.osl 0 0 0 0 0]]⟩:=by rw[<-B,aA.aB (by omega),D _ (by omega) (by omega)];simp (disch:=omega) only[aA.aB,aA.aI]
 have C: ∀id,id<nx->id≠i->G id=H id:=fun id d1 d2=>by rw[<-B,aA.aB (by omega),D id (by omega) d2];simp (disch:=omega) only[aA.aB]
 clear B qb D
 refine lq (X:=fun j=>j<a+3) (fun id t=>t) fun H1 R nm cells ca M r=> ?_
 have q4:H1 (nx+4)=some ⟨3,1,[bI c]⟩:=by rw[r _ (by omega)];exact g4
 have qi:H1 i=some (rdO l pb):=by rw[r _ (by omega)];exact gi
 have q0:H1 nx=some ⟨3,1,[[.osl 0 0 0 0 0,.osl 0 0 0 0 0,.osl 0 0 0 0 0]]⟩:=by rw[r _ (by omega)];exact g0
 have q1:H1 (nx+1)=some ⟨5,1,[[.osl 0 0 0 0 0,.osl 0 0 0 0 0,.osl 0 0 0 0 0,.osl 0 0 0 0 0,.osl 0 0 0 0 0]]⟩:=by rw[r _ (by omega)];exact g1
 have qf: ∀id,id<nx->id≠i->H1 id=H id:=fun id d1 d2=>by rw[r _ (by omega)];exact C id d1 d2
 clear g4 gi g0 g1 C r
 have g:=M.len
 have e:cells++List.drop cells.length [D1.osl 0 0 0 0 0,.osl 0 0 0 0 0,.osl 0 0 0 0 0,.osl 0 0 0 0 0,.osl 0 0 0 0 0]=cells:=by rw[g];simp
 have N:aO R [i,nx,nx+1,nx+4,a+1]:=AM.apart (by simp;omega) (by simp;omega)
 simp only[aO,bG] at N
 (try simp only[go_sem,nL,q4,qi,q0,q1,g,e,N,nL]);repeat' first|apply vI<;>(simp only[go_sem,nL,q4,qi,q0,q1,g,e,N,nL])|fail
 generalize B:H1.set (a+1) _=G
 have g8:G (a+1)=some ⟨5,1,[cells]⟩:=by rw[<-B];exact aA.aI
 have C: ∀id,id≠a+1->G id=H1 id:=fun id d1=>by rw[<-B,aA.aB d1]
 clear B
 have S:jG (fun j=>j<a+3) G (R+3) nm Q7 cells:=M.frame (by omega) fun id _ d2=>C id (by omega)
 refine YY (n:=40) (p:=pb) (by omega) hl (by omega) (by omega) (by rw[C _ (by omega)];exact qi) fun H2 ab p2 xs ad cc cd ah ao m=> ?_
 have T:jG (fun j=>j<a+3) H2 ab nm Q7 cells:=S.frame ad fun id d1 d2=>m id d1 (by omega)
 have r8:H2 (a+1)=some ⟨5,1,[cells]⟩:=(m _ (by omega) (by omega)).trans g8
 have r4:=(m (nx+4) (by omega) (by omega)).trans ((C _ (by omega)).trans q4)
 have r0:=(m nx (by omega) (by omega)).trans ((C _ (by omega)).trans q0)
 have r1:=(m (nx+1) (by omega) (by omega)).trans ((C _ (by omega)).trans q1)
 have rf: ∀id,id<nx->id≠i->H2 id=H id:=fun id d1 d2=>(m id (by omega) d2).trans ((C id (by omega)).trans (qf id d1 d2))
 clear S M g8 C m q4 q0 q1 qi qf
 (try simp only[go_sem,nL,nL]);repeat' first|apply vI<;>(simp only[go_sem,nL,nL])|fail
 refine aJ.cG (β:=Nat×CSt×(Nat->Nat)×List D1) (fun u=>en [(7,dI u.1),(6,dS (xs.map eIn)),(5,.one (.c (.ptr 5 (a+1) 0 0))),(4,.one (.c (.ptr 3 (nx+4) 0 0))),(3,.one (.c (.ptr 5 (nx+1) 0 0))),(2,.one (.c (.ptr 3 nx 0 0)))])
  (fun u U n3=>u.1<=xs.length/\COk c u.2.1/\jG (fun j=>j<a+3) U n3 u.2.2.1 u.2.1 u.2.2.2/\U (a+1)=some ⟨5,1,[u.2.2.2]⟩/\ ∀id,id<a+1->U id=H2 id)
  (fun u=>xs.length-u.1) (0,Q7,nm,cells) ⟨noF,_,by repeat' first|exact C1|refine xqI rfl rfl ?_|refine xqP (by omega) rfl rfl ?_|fail,aE,by dsimp only;omega,Ur c,T.frame (by omega) fun _ _ _=>rfl,r8,fun _ _=>rfl⟩ ?_
 clear T r8 g e
 rintro⟨k,s,O,E⟩ U aw cf ⟨v,w,y,s8,z⟩ KL bb
 dsimp only at v w y s8
 have s4:=(z (nx+4) (by omega)).trans r4
 have s0:=(z nx (by omega)).trans r0
 have s1:=(z (nx+1) (by omega)).trans r1
 have g:=y.len
 have o:aO aw [i,nx,nx+1,nx+4,a+1]:=AM.apart (by simp;omega) (by simp;omega)
 simp only[aO,bG] at o
 by_cases V:k<xs.length
 ·have W:tR (xs.getD k default):=by
   rw[List.getD,abO V];exact ah _ (adB V)
  obtain⟨x,hx⟩: ∃x,x=xs.getD k default:=⟨_,rfl⟩
  have Y:xs.getD k default=x:=hx.symm
  rw[Y] at W
  repeat' first|apply vI<;>(simp only[go_sem,s4,s8,o,g,Y,nL])|apply vT (by omega)|refine⟨by omega,?_⟩|fail
  refine EH q w W (y.frame (by omega) fun _ _ _=>rfl) fun H4 bh F b bk A I=> ?_
  have t8:=(I (a+1) (by show a+1<a+3;omega)).trans s8
  have f:=A.len
  have e:List.drop 5 E=[]:=by rw[<-g];simp
  (try simp only[go_sem,nL,t8,f,e,ab3,o,nL]);repeat' first|apply vI<;>(simp only[go_sem,nL,t8,f,e,ab3,o,nL];try simp (disch:=omega) only[Iw])|refine⟨by omega,?_⟩|fail
  refine bb _ _ _ (k+1,yR c x s,F,b) noF _ (by omega) (by dsimp only;omega) (by repeat' first|exact C1|refine xqI rfl rfl ?_|refine xqP (by omega) rfl rfl ?_|fail) aE ⟨by dsimp only;omega,vw q w,A.frame (by omega) fun id _ d2=>aA.aB (by omega),aA.aI,fun id t=> ?_⟩
  rw[aA.aB (by omega),I id (by show id<a+3;omega)];exact z id t
 ·repeat' first|apply vI<;>(simp only[go_sem,s4,s8,o,g,nL])|apply vF (by omega)|fail
  have P:=w.sz q;have bp:=y.names.av;refine aC.wj (args':=[dA (bK s)]) (without (fun j=>∃k,k<19/\j=O k) U) (fun j=>∃k,k<19/\j=O k) rfl (fun i d0 d h1 h2=> ?_) eV ?_
  ·match i with
   |0=>simp only[List.getElem?_cons_zero,Option.some.injEq] at h1 h2;subst h1;subst h2;exact iR (nM (y.rep.OY (fun k v=>⟨k,v,rfl⟩) P.pl P.sl))
   |i+1=>simp at h1
  refine rL P fun H4 bh F b bk A J I=> ?_;have Z: ∀id,id<a+1->H4 id=H2 id:=fun id t=>by rw[I id (by omega),b9 (fun⟨k,v,he⟩=>bp k v (by show O k<a+3;omega))];exact z id t
  have t4:=(Z (nx+4) (by omega)).trans r4;have t0:=(Z nx (by omega)).trans r0;have t1:=(Z (nx+1) (by omega)).trans r1;have f:b.length=5:=by obtain⟨_,_,_,_,_,rfl,_⟩:=A.ex;rfl
  have e:b++List.drop b.length [D1.osl 0 0 0 0 0,.osl 0 0 0 0 0,.osl 0 0 0 0 0,.osl 0 0 0 0 0,.osl 0 0 0 0 0]=b:=by rw[f];simp
  (try simp only[go_sem,nL,t4,t0,t1,f,e,o,nL]);repeat' first|apply vI<;>(simp only[go_sem,nL,t4,t0,t1,f,e,o,nL])|fail
  refine hQ _ _ _ _ _ (.inr rfl) (oi rfl ((aA.aB (by omega)).trans aA.aI) rfl rfl aA.aI f) (h _ _ p2 c s F b (by omega) (by omega) q L w (A.frame fun k v=> ?_) ⟨J.inj,fun k v=>by have:=J.rng k v;omega,fun k v hj=>by have:=J.rng k v;have hj:F k<nx:=hj;omega⟩ ?_ fun id d1 d2=> ?_);·have:=J.rng k v;rw[aA.aB (by omega),aA.aB (by omega)]
  ·rw[aA.aB (by omega),aA.aB (by omega),Z i (by omega)];exact ao
  ·rw[aA.aB (by omega),aA.aB (by omega),Z id (by omega)];exact rf id d1 d2
theorem WN{l:List Int}{p i:Nat}{n:Int}(hn:0<n/\n<9000)(hl:fW l)(ej:p+5000<2^50)(hi:i<nx)(ho:H i=some (rdO l p))
 (h: ∀H' nx' p' (c:Cfg) (s:CSt),nx<=nx'->p'<=p+4500->iN c->BB s->EI s->H' i=some (rdO l p')->(∀id,id<nx->id≠i->H' id=H id)->K (.tup [.agg (bI c),.agg (bK s)]) H' nx'):afB BP [dP 2 i,dI n] H nx K:=by
 apply aC.kH
 refine bR.mk Tryz.func92 (by kernel_rfl) T8 rfl fun Q hQ=> ?_
 unfold qD
 have hA:aO nx [i]:=AM.apart (by simp) (by simp;omega)
 simp only[aO,bG] at hA
 repeat' first| (first|apply vI| (refine km (p:=p) hl (by omega) (by omega) (by rw[aA.aB (by omega),aA.aB (by omega)];exact ho) (fun H1 d p1 c s nm cells fh fi dv X Y dx bk eb ct=> ?_)))<;>(simp only[go_sem,nL,hA])|fail
 have ck:cells.length=5:=by obtain⟨_,_,_,_,_,rfl,_⟩:=dx.ex;rfl
 have cl:cells++List.drop cells.length [D1.osl 0 0 0 0 0,.osl 0 0 0 0 0,.osl 0 0 0 0 0,.osl 0 0 0 0 0,.osl 0 0 0 0 0]=cells:=by rw[ck];simp
 refine⟨ck,by omega,?_⟩
 rw[cl]
 try apply kI
 clear cl
 have D:=bk.lt
 have f: ∀k,k<19->nx+11<=nm k:=fun k N=>Nat.le_of_not_lt (bk.av k N)
 generalize hG:aA.set _ (nx+8) _=G
 have g8:G (nx+8)=some ⟨5,1,[cells]⟩:=by rw[<-hG];exact aA.aI
 have g7:G (nx+7)=some ⟨3,1,[bI c]⟩:=by rw[<-hG,aA.aB (by omega)];exact aA.aI
 have gi:G i=some (rdO l p1):=by rw[<-hG,aA.aB (by omega),aA.aB (by omega)];exact eb
 have g0:G nx=some ⟨3,1,[[.osl 0 0 0 0 0,.osl 0 0 0 0 0,.osl 0 0 0 0 0]]⟩:=by rw[<-hG,aA.aB (by omega),aA.aB (by omega),ct _ (by omega) (by omega),aA.aB (by omega)];exact aA.aI
 have g1:G (nx+1)=some ⟨5,1,[[.osl 0 0 0 0 0,.osl 0 0 0 0 0,.osl 0 0 0 0 0,.osl 0 0 0 0 0,.osl 0 0 0 0 0]]⟩:=by rw[<-hG,aA.aB (by omega),aA.aB (by omega),ct _ (by omega) (by omega)];exact aA.aI
 have gf: ∀id,id<nx->id≠i->G id=H id:=fun id d1 d2=>by rw[<-hG,aA.aB (by omega),aA.aB (by omega),ct _ (by omega) d2,aA.aB (by omega),aA.aB (by omega)]
 have hR:BA G nm s cells:=dx.frame fun k N=>by have:=f k N;rw[<-hG,aA.aB (by omega),aA.aB (by omega)]
 clear hG dx eb ct
 have bw: ∀(J:aA) (E C:Nat) (c2:Cfg) (s2:CSt) (q:List D1) (F:Nat->Prop),nx<=E->C<=p+4500->iN c2->BB s2->EI s2->(∀j,F j->nx+9<=j)->XZ ((J.set nx ⟨3,1,[bI c2]⟩).set (nx+1) ⟨5,1,[q]⟩) F (bK s2) q->q.length=5->J i=some (rdO l C)->(∀id,id<nx->id≠i->J id=H id)->
  ∀{e2:Env},e2 4= .one (.c (.ptr 3 nx 0 0))->e2 5= .one (.c (.ptr 5 (nx+1) 0 0))->Q .ret e2 ((J.set nx ⟨3,1,[bI c2]⟩).set (nx+1) ⟨5,1,[q]⟩) E:=fun J E C c2 s2 q F a1 a2 a3 a4 a5 a6 a7 a8 a9 ca e2 cc cd=>by
  refine hQ _ _ _ _ _ (.inr rfl) (oi cc ((aA.aB (by omega)).trans aA.aI) rfl cd aA.aI a8) ⟨.tup [.agg (bI c2),.agg (bK s2)],without F ((J.set nx ⟨3,1,[bI c2]⟩).set (nx+1) ⟨5,1,[q]⟩),F,Qt (aG (bE rfl) (aG (bE rfl) (aG (bE rfl) cJ))) (nM a7),eV,h _ E C c2 s2 a1 a2 a3 a4 a5 ?_ fun id d1 d2=> ?_⟩
  ·rw[b9 (fun R=>by have:=a6 _ R;omega),aA.aB (by omega),aA.aB (by omega)];exact a9
  ·rw[b9 (fun R=>by have:=a6 _ R;omega),aA.aB (by omega),aA.aB (by omega)];exact ca id d1 d2
 have ab: ∀(J:aA) (E C:Nat) (c2:Cfg) (s2:CSt) (cw:Nat->Nat) (q:List D1),nx<=E->C<=p+4500->iN c2->BB s2->EI s2->s2.bN.length=4->BA J cw s2 q->(∀k,k<19->nx+9<=cw k)->J i=some (rdO l C)->(∀id,id<nx->id≠i->J id=H id)->
  ∀{e2:Env},e2 4= .one (.c (.ptr 3 nx 0 0))->e2 5= .one (.c (.ptr 5 (nx+1) 0 0))->Q .ret e2 ((J.set nx ⟨3,1,[bI c2]⟩).set (nx+1) ⟨5,1,[q]⟩) E:=fun J E C c2 s2 cw q a1 a2 a3 a4 a5 a6 a7 a8 a9 ca e2 cc cd=>by
  refine bw J E C c2 s2 q (fun j=>∃k,k<19/\j=cw k) a1 a2 a3 a4 a5 (fun j ⟨k,N,R⟩=>R▸a8 k N) ((a7.frame fun k N=> ?_).OY (fun k N=>⟨k,N,rfl⟩) a5.pl a6) ?_ a9 ca cc cd
  ·have:=a8 k N;rw[aA.aB (by omega),aA.aB (by omega)]
  ·obtain⟨_,_,_,_,_,rfl,_⟩:=a7.ex;rfl
 have hB:=Y.base dv
 have cx:BB s/\EI s:=hB.tn.fit
 have cp:aO d [i,nx,nx+1,nx+7,nx+8]:=AM.apart (by simp;omega) (by simp;omega)
 simp only[aO,bG] at cp
 (try simp only[go_sem,nL,g7,g8,gi,g0,g1,ck,cp,nL]);repeat' first| (first|apply vI|refine eX (p:=p1) hn hl (by omega) (by omega) gi (fun C bb fl eo _=> ?_))<;>(simp only[go_sem,nL,g7,g8,gi,g0,g1,ck,cp,nL])| ((refine y5 (fun h=> ?_) (fun h=> ?_))<;>try subst h)|fail
 case refine_2=>exact ab _ _ C c s nm cells (by omega) (by omega) X cx.1 cx.2 Y.sl (hR.frame fun k N=>aA.aB (by have:=f k N;omega)) (fun k N=>by have:=f k N;omega) aA.aI (fun id d1 d2=>by rw[aA.aB d2];exact gf id d1 d2) rfl rfl
 refine aM (p:=C) (n:=3) hl (by omega) (by omega) (by omega) aA.aI fun x h1 h2=> ?_
 obtain⟨k,N,rfl⟩: ∃k:Nat,k<3/\x=k:=⟨x.toNat,by omega,by omega⟩
 (try simp only[go_sem,nL,g7,g8,gi,g0,g1,ck,cp,nL]);repeat' first|apply vI<;>(simp only[go_sem,nL,g7,g8,gi,g0,g1,ck,cp,nL])|fail
 refine aM (p:=C+1) (n:=11) hl (by omega) (by omega) (by omega) aA.aI fun y h3 h4=> ?_
 generalize bp:aA.set _ i (rdO l (C+1+1))=J
 have S:J (nx+8)=some ⟨5,1,[cells]⟩:=by rw[<-bp];simp (disch:=omega) only[aA.aB];exact g8
 have r7:J (nx+7)=some ⟨3,1,[bI c]⟩:=by rw[<-bp];simp (disch:=omega) only[aA.aB];exact g7
 have M:J i=some (rdO l (C+2)):=by rw[<-bp];exact aA.aI
 have r0:J nx=some ⟨3,1,[[.osl 0 0 0 0 0,.osl 0 0 0 0 0,.osl 0 0 0 0 0]]⟩:=by rw[<-bp];simp (disch:=omega) only[aA.aB];exact g0
 have r1:J (nx+1)=some ⟨5,1,[[.osl 0 0 0 0 0,.osl 0 0 0 0 0,.osl 0 0 0 0 0,.osl 0 0 0 0 0,.osl 0 0 0 0 0]]⟩:=by rw[<-bp];simp (disch:=omega) only[aA.aB];exact g1
 have rf: ∀id,id<nx->id≠i->J id=H id:=fun id d1 d2=>by rw[<-bp];simp (disch:=omega) only[aA.aB];exact gf id d1 d2
 have br:jG (fun j=>j<nx+9) J d nm s cells:=⟨hR.frame fun k N=>by have:=f k N;rw[<-bp];simp (disch:=omega) only[aA.aB],⟨bk.inj,bk.lt,fun k N R=>by have:=f k N;have R:nm k<nx+9:=R;omega⟩,fun id cq=>by have cq:id<nx+9:=cq;omega⟩
 clear bp g8 g7 gi g0 g1 gf hR
 have fm:Rep (fun j=>j<nx+8) J d (nx+8) nm s:=⟨⟨cells,S,br.rep⟩,⟨bk.inj,bk.lt,fun k N R=>by have:=f k N;have R:nm k<nx+8:=R;omega⟩,fun k N he=>by have:=f k N;omega,⟨by omega,fun R=>by have R:nx+8<nx+8:=R;omega⟩,fun id cq=>by have cq:id<nx+8:=cq;omega⟩
 obtain⟨wc,hc,pc,vc,tc,mp,rp,mv,rv,rfl,j1,j2,q0,q1,q2,fo,fp,ah,ao,aa,ad⟩:=br.get
 have fs:=f 2 (by omega)
 have fx:=f 3 (by omega)
 have ga:=D 2 (by omega)
 have gb:=D 3 (by omega)
 have ep:nm 2≠nm 3:=fun he=>by have:=bk.inj 2 3 (by omega) (by omega) he;omega
 have B:aO d [i,nx,nx+1,nx+7,nx+8,nm 2,nm 3]:=AM.apart (by simp;omega) (by simp;omega)
 simp only[aO,bG] at B
 have mi: ∀(G:aA) (b j:Nat),msk (d+b) [j] G i=G i:=fun G b j=>mk1 (by omega)
 have m8: ∀(G:aA) (b j:Nat),msk (d+b) [j] G (nx+8)=G (nx+8):=fun G b j=>mk1 (by omega)
 have m2: ∀(G:aA) (b j:Nat),msk (d+b) [j] G (nm 2)=G (nm 2):=fun G b j=>mk1 (by omega)
 have m3: ∀(G:aA) (b j:Nat),msk (d+b) [j] G (nm 3)=G (nm 3):=fun G b j=>mk1 (by omega)
 have m: ∀a b,a<19->b<19->a≠b->nm a≠nm b:=fun a b h1 h2 h3 h4=>h3 (bk.inj a b h1 h2 h4)
 have aw: ∀(W:aA) (E p3:Nat) (p':eT) (r:List D1) (O:Nat->Nat),nx<=E->p3<=p+4500->p'.queue.length<=3->p'.out.length<=5->W (nm 2)=some ⟨4,mp,rp.set k r⟩->yQ W (O (5+k)) (O (8+k)) p' r->(∀a,a<19->a≠5+k->a≠8+k->O a=nm a)->nx+9<=O (5+k)->nx+9<=O (8+k)->(∀a,a<19->a≠2->a≠5+k->a≠8+k->W (nm a)=J (nm a))->W i=some (rdO l p3)->(∀id,id<nx->id≠i->W id=H id)->∀{e2:Env},e2 4= .one (.c (.ptr 3 nx 0 0))->e2 5= .one (.c (.ptr 5 (nx+1) 0 0))->Q .ret e2 ((W.set nx ⟨3,1,[bI c]⟩).set (nx+1) ⟨5,1,[[.osl 1 (nm 0) 0 s.words.length wc,.osl 1 (nm 1) 0 s.holds.length hc,.osl 4 (nm 2) 0 3 pc,.osl 3 (nm 3) 0 4 vc,.osl 5 (nm 4) 0 s.told.length tc]]⟩) E:=fun W E p3 p' r O a1 a2 a3 a4 a5 a6 a7 a8 a9 ca cc cd e2 dy dz=>by
  have hN:=(hB.Wz N a3 a4).fit;refine ab W E p3 c {s with bC:=s.bC.set k p'} O _ a1 a2 X hN.1 hN.2 Y.sl (br.rep.Wz Y.pl N j1 a5 a6 a7 ca) (fun a g=> ?_) cc cd dy dz;by_cases e1:a=5+k;·rw[e1];exact a8
  ·by_cases e2:a=8+k;·rw[e2];exact a9
   ·rw[a7 a g e1 e2];have:=f a g;omega
 have cf: ∀(W:aA) (E p3:Nat) (v':tG) (r:List D1) (O:Nat->Nat),nx<=E->p3<=p+4500->v'.pipe.length<=3->v'.done.length<=3->(∀j∈v'.done,j.rsp.data.length<2^20)->W (nm 3)=some ⟨3,mv,rv.set k r⟩->IT W (O (11+k)) (O (15+k)) v' r->(∀a,a<19->a≠11+k->a≠15+k->O a=nm a)->nx+9<=O (11+k)->nx+9<=O (15+k)->(∀a,a<19->a≠3->a≠11+k->a≠15+k->W (nm a)=J (nm a))->W i=some (rdO l p3)->(∀id,id<nx->id≠i->W id=H id)->∀{e2:Env},e2 4= .one (.c (.ptr 3 nx 0 0))->e2 5= .one (.c (.ptr 5 (nx+1) 0 0))->Q .ret e2 ((W.set nx ⟨3,1,[bI c]⟩).set (nx+1) ⟨5,1,[[.osl 1 (nm 0) 0 s.words.length wc,.osl 1 (nm 1) 0 s.holds.length hc,.osl 4 (nm 2) 0 3 pc,.osl 3 (nm 3) 0 4 vc,.osl 5 (nm 4) 0 s.told.length tc]]⟩) E:=fun W E p3 v' r O a1 a2 a3 a4 et a5 a6 a7 a8 a9 ca cc cd e2 dy dz=>by
  have hN:=(hB.Xj (show k<4 by omega) a3 a4 et).fit;refine ab W E p3 c {s with bN:=s.bN.set k v'} O _ a1 a2 X hN.1 hN.2 (by dsimp only;rw[ab0];exact Y.sl) (br.rep.Xj Y.sl (show k<4 by omega) j2 a5 a6 a7 ca) (fun a g=> ?_) cc cd dy dz;by_cases e1:a=11+k;·rw[e1];exact a8
  ·by_cases e2:a=15+k;·rw[e2];exact a9
   ·rw[a7 a g e1 e2];have:=f a g;omega
 have hy:y=0\/y=1\/y=2\/y=3\/y=4\/y=5\/y=6\/y=7\/y=8\/y=9\/y=10:=by omega
 have gd:(0<=(k:Int)/\(k:Int)<((3:Nat):Int)):=⟨by omega,by omega⟩
 have gp:(0<=(k:Int)/\(k:Int)<((4:Nat):Int)):=⟨by omega,by omega⟩
 rcases hy with rfl|rfl|rfl|rfl|rfl|rfl|rfl|rfl|rfl|rfl|rfl
 · (try simp only[go_sem,nL,r7,S,M,r0,r1,B,nL]);repeat' first| (first|apply vI|refine iq (p:=C+2) (n:=2) (by omega) hl (by omega) (by omega) M (fun p3 w u eo gq ⟨eu,ew⟩=> ?_))<;>(simp only[go_sem,nL,r7,S,M,r0,r1,B,nL])|fail
   have hN:=(hB.aa0 eu ew).fit
   refine bw _ _ p3 c {s with words:=w,holds:=u} _ (fun j=>∃a,a<19/\j=nm a) (by omega) (by omega) X hN.1 hN.2 (fun j ⟨a,g,R⟩=>by have:=f a g;omega) ?_ rfl (by rw[aA.aB (by omega)];exact aA.aI) (fun id d1 d2=>by rw[aA.aB (by omega),aA.aB d2];exact rf id d1 d2) rfl rfl
   obtain⟨_,_,f2,f3,f4⟩:=BA.Zs (F:=fun j=>∃a,a<19/\j=nm a) (br.rep.frame (H':=aA.set (aA.set (aA.set (aA.set J i (rdO l p3)) (nx+8) ⟨5,1,[[.isl (w.map aH),.isl (u.map aH),.osl 4 (nm 2) 0 3 pc,.osl 3 (nm 3) 0 4 vc,.osl 5 (nm 4) 0 s.told.length tc]]⟩) nx ⟨3,1,[bI c]⟩) (nx+1) ⟨5,1,[[.isl (w.map aH),.isl (u.map aH),.osl 4 (nm 2) 0 3 pc,.osl 3 (nm 3) 0 4 vc,.osl 5 (nm 4) 0 s.told.length tc]]⟩) (fun a g=>by have:=f a g;rw[aA.aB (by omega),aA.aB (by omega),aA.aB (by omega),aA.aB (by omega)])) (fun a g=>⟨a,g,rfl⟩) Y.pl Y.sl
   exact bZ (.same _ rfl) (bZ (.same _ rfl) (bZ f2 (bZ f3 (bZ f4 xC))))
 ·obtain⟨qo,qc,oc,A,hq,Z⟩:=aa k N;(try simp only[go_sem,nL,r7,S,M,r0,r1,j1,ah,A,B,nL]);repeat' first| (first|apply vI|refine aM (p:=C+2) (n:=3) hl (by omega) (by omega) (by omega) M (fun z h5 h6=> ?_))<;>(simp only[go_sem,nL,r7,S,M,r0,r1,j1,ah,A,B,nL])|refine⟨by omega,?_⟩|fail
  have hb:=hB.port k N;have fr: ∀(o:bM) a,a<19->a≠2->((J.set i (rdO l (C+3))).set (nm 2) o) (nm a)=J (nm a):=fun o a g h2=>by have q1:=m a 2 g (by omega) h2;have q2:=f a g;rw[aA.aB q1,aA.aB (by omega)]
  exact aw _ _ (C+3) {aL s k with next:=IntKind.i64.wrap (IntKind.i64.wrap ((aL s k).next+z)-1)} _ nm (by omega) (by omega) (by dsimp only;omega) (by dsimp only;omega) aA.aI ⟨qo,qc,oc,rfl,hq.frame (fr _ _ (by omega) (by omega)),Z.frame (fr _ _ (by omega) (by omega))⟩ (fun _ _ _ _=>rfl) (by have:=f (5+k) (by omega);omega) (by have:=f (8+k) (by omega);omega) (fun a g h2 _ _=>fr _ a g h2) (by rw[aA.aB (by omega)];exact aA.aI) (fun id d1 d2=>by rw[aA.aB (by omega),aA.aB d2];exact rf id d1 d2) rfl rfl
 ·obtain⟨qo,qc,oc,A,hq,Z⟩:=aa k N;obtain⟨mq,rq0,z1,z2,z3,z4,z5,z6⟩:=hq.ex;rw[abT] at z4;have T:List.take (aL s k).queue.length (List.drop qo rq0)=(aL s k).queue.map aH:=by rw[z2,abM (by simp)]
  have hb:=hB.port k N;have cy:=f (5+k) (by omega);have da:=D (5+k) (by omega);have df:nm (5+k)≠nm 2:=m _ _ (by omega) (by omega) (by omega);have dh:nm (5+k)≠nm 3:=m _ _ (by omega) (by omega) (by omega);have I:aO d [i,nx,nx+1,nx+7,nx+8,nm 2,nm 3,nm (5+k)]:=AM.apart (by simp;omega) (by simp;omega);simp only[aO,bG] at I;have m5: ∀(G:aA) (b j:Nat),msk (d+b) [j] G (nm (5+k))=G (nm (5+k)):=fun G b j=>mk1 (by omega);(try simp only[go_sem,nL,r7,S,M,r0,r1,j1,ah,A,z1,T,m8,m2,m5,I,nL]);repeat' first| (first|apply vI|refine aM (p:=C+2) (n:=4) hl (by omega) (by omega) (by omega) M (fun z h5 h6=> ?_))<;>(simp only[go_sem,nL,r7,S,M,r0,r1,j1,ah,A,z1,T,m8,m2,m5,I,nL])| (with_reducible first|refine fun(cap:Nat) (U:_<=cap)=> ?_|refine fun(ds:_<=cap)=> ?_)|refine⟨by omega,?_⟩|fail
  generalize P:aA.set (aA.set _ (d+26) _) (nm 2) _=W;have w2:W (nm 2)=some ⟨4,mp,rp.set k [cI (aL s k).next,.osl 1 (d+26) 0 ((aL s k).queue.length+1) cap,.osl 3 (nm (8+k)) 0 (aL s k).out.length oc,cI (aL s k).last]⟩:=by rw[<-P];exact aA.aI
  have bh:W (d+26)=some ⟨1,cap,((aL s k).queue++[z]).map aH⟩:=by rw[<-P,aA.aB (by omega)];exact aA.aI
  have wf: ∀id,id<d->id≠i->id≠nm 2->id≠nm (5+k)->W id=J id:=fun id d1 d2 d3 d4=>by rw[<-P];simp (disch:=omega) only[aA.aB,aA.cC]
  have wi:W i=some (rdO l (C+3)):=by rw[<-P];simp (disch:=omega) only[aA.aB,aA.aI]
  clear P;refine aw W _ (C+3) {aL s k with queue:=(aL s k).queue++[z]} _ (put nm (5+k) (d+26)) (by omega) (by omega) (by simp;omega) (by dsimp only;omega) w2 ⟨0,cap,oc,?_,?_,?_⟩ (fun a _ h1 _=>bV h1) (by rw[fL];omega) (by rw[bV (by omega)];have:=f (8+k) (by omega);omega) (fun a g h2 h3 _=>wf _ (D a g) (by have:=f a g;omega) (m _ _ g (by omega) h2) (m _ _ g (by omega) h3)) wi (fun id d1 d2=>(wf id (by omega) d2 (by omega) (by omega)).trans (rf id d1 d2)) rfl rfl;·rw[fL,bV (by omega)];simp[VV]
  ·rw[fL];exact⟨cap,_,bh,rfl,by simp,by simp,by simpa using U,by omega⟩
  ·rw[bV (by omega)];exact Z.frame (wf _ (D _ (by omega)) (by have:=f (8+k) (by omega);omega) (m _ _ (by omega) (by omega) (by omega)) (m _ _ (by omega) (by omega) (by omega)))
 ·obtain⟨qo,qc,oc,A,hq,Z⟩:=aa k N;obtain⟨mq,rq0,z1,z2,z3,z4,z5,z6⟩:=Z.ex;rw[abT] at z4;have T:List.take (aL s k).out.length rq0=(aL s k).out.map eCJ:=by rw[<-acK (l:=rq0),z2,abM (by simp)]
  have hb:=hB.port k N;have cy:=f (8+k) (by omega);have da:=D (8+k) (by omega);have df:nm (8+k)≠nm 2:=m _ _ (by omega) (by omega) (by omega);have dh:nm (8+k)≠nm 3:=m _ _ (by omega) (by omega) (by omega);have I:aO d [i,nx,nx+1,nx+7,nx+8,nm 2,nm 3,nm (8+k)]:=AM.apart (by simp;omega) (by simp;omega);simp only[aO,bG] at I;have m5: ∀(G:aA) (b j:Nat),msk (d+b) [j] G (nm (8+k))=G (nm (8+k)):=fun G b j=>mk1 (by omega);(try simp only[go_sem,nL,r7,S,M,r0,r1,j1,ah,A,z1,T,m8,m2,m5,I,nL]);repeat' first| (first|apply vI|refine aM (p:=C+2) (n:=4) hl (by omega) (by omega) (by omega) M (fun z h5 h6=> ?_)|refine aM (p:=C+3) (n:=4) hl (by omega) (by omega) (by omega) aA.aI (fun z2 h7 h8=> ?_))<;>(simp only[go_sem,nL,r7,S,M,r0,r1,j1,ah,A,z1,T,m8,m2,m5,I,nL])| (with_reducible first|refine fun(cap:Nat) (U:_<=cap)=> ?_|refine fun(ds:_<=cap)=> ?_)|refine⟨by omega,?_⟩|fail
  generalize P:aA.set (aA.set _ (d+32) _) (nm 2) _=W;have w2:W (nm 2)=some ⟨4,mp,rp.set k [cI (aL s k).next,.osl 1 (nm (5+k)) qo (aL s k).queue.length qc,.osl 3 (d+32) 0 ((aL s k).out.length+1) cap,cI (aL s k).last]⟩:=by rw[<-P];exact aA.aI
  have bh:W (d+32)=some ⟨3,cap,((aL s k).out++[(⟨k,z,z2⟩:gD)]).map eCJ⟩:=by rw[<-P,aA.aB (by omega),aA.aI,abU];rfl
  have wf: ∀id,id<d->id≠i->id≠nm 2->id≠nm (8+k)->W id=J id:=fun id d1 d2 d3 d4=>by rw[<-P];simp (disch:=omega) only[aA.aB,aA.cC]
  have wi:W i=some (rdO l (C+4)):=by rw[<-P];simp (disch:=omega) only[aA.aB,aA.aI]
  clear P;refine aw W _ (C+4) {aL s k with out:=(aL s k).out++[(⟨k,z,z2⟩:gD)]} _ (put nm (8+k) (d+32)) (by omega) (by omega) (by dsimp only;omega) (by simp;omega) w2 ⟨qo,qc,cap,?_,?_,?_⟩ (fun a _ _ h1=>bV h1) (by rw[bV (by omega)];have:=f (5+k) (by omega);omega) (by rw[fL];omega) (fun a g h2 _ h3=>wf _ (D a g) (by have:=f a g;omega) (m _ _ g (by omega) h2) (m _ _ g (by omega) h3)) wi (fun id d1 d2=>(wf id (by omega) d2 (by omega) (by omega)).trans (rf id d1 d2)) rfl rfl;·rw[fL,bV (by omega)];simp[VV]
  ·rw[bV (by omega)];exact hq.frame (wf _ (D _ (by omega)) (by have:=f (5+k) (by omega);omega) (m _ _ (by omega) (by omega) (by omega)) (m _ _ (by omega) (by omega) (by omega)))
  ·rw[fL];exact⟨cap,_,bh,rfl,by simp,by simp,by simpa using U,by omega⟩
 ·obtain⟨qo,qc,oc,A,hq,Z⟩:=aa k N;have hb:=hB.port k N;(try simp only[go_sem,nL,r7,S,M,r0,r1,j1,ah,A,m8,m2,mi,B,nL]);repeat' first|apply vI<;>(simp only[go_sem,nL,r7,S,M,r0,r1,j1,ah,A,m8,m2,mi,B,nL])|fail
  refine aM (p:=C+2) (n:=3) hl (by omega) (by omega) (by omega) (by rw[mi];exact M) fun z h5 h6=> ?_;(try simp only[go_sem,nL,S,m8,B]);repeat' first|apply vI<;>(simp only[go_sem,nL,S,m8,B])|fail
  generalize hU:dF (d+18) [3] _ (msk (d+18) [3] J)=V;have vL:V (d+21)=some ⟨1,3,[[.v (.int .i64 (-1))],[.v (.int .i64 4)],[.v (.int .i64 2)]]⟩:=by rw[show d+21=d+18+3 from rfl,<-hU,yt];exact aA.aI
  have vf: ∀id,id≠d+21->V id=J id:=fun id d1=>by rw[<-hU,um1 (by omega),mk1 (by omega)]
  clear hU;have v0:=(vf nx (by omega)).trans r0;have v1:=(vf (nx+1) (by omega)).trans r1;have v7:=(vf (nx+7) (by omega)).trans r7;have v8:=(vf (nx+8) (by omega)).trans S;have v2:=(vf (nm 2) (by omega)).trans j1;refine⟨fun _=>by rw[v8];rfl,by omega,?_⟩;obtain⟨v,hv⟩:=pY (L:=[[.v (.int .i64 (-1))],[.v (.int .i64 4)],[.v (.int .i64 2)]]) (by simp) h5 (by simp;omega);(try simp only[go_sem,nL,v0,v1,v7,v8,v2,vL,hv,A,ah,B,m8,m2]);repeat' first|apply vI<;>(simp only[go_sem,nL,v0,v1,v7,v8,v2,vL,hv,A,ah,B,m8,m2])|refine⟨by omega,?_⟩|fail
  have fr: ∀(o:bM) a,a<19->a≠2->((V.set i (rdO l (C+3))).set (nm 2) o) (nm a)=J (nm a):=fun o a g h2=>by have q1:=m a 2 g (by omega) h2;have q2:=f a g;have q3:=D a g;rw[aA.aB q1,aA.aB (by omega),vf _ (by omega)]
  exact aw _ _ (C+3) {aL s k with last:=v} _ nm (by omega) (by omega) (by dsimp only;omega) (by dsimp only;omega) aA.aI ⟨qo,qc,oc,rfl,hq.frame (fr _ _ (by omega) (by omega)),Z.frame (fr _ _ (by omega) (by omega))⟩ (fun _ _ _ _=>rfl) (by have:=f (5+k) (by omega);omega) (by have:=f (8+k) (by omega);omega) (fun a g h2 _ _=>fr _ a g h2) (by rw[aA.aB (by omega)];exact aA.aI) (fun id d1 d2=>by rw[aA.aB (by omega),aA.aB d2,vf _ (by omega)];exact rf id d1 d2) rfl rfl
 ·obtain⟨po,cr,do_,dc,A,hq,Z⟩:=ad k (by omega);have hb:=hB.slv k (by omega);(try simp only[go_sem,nL,r7,S,M,r0,r1,j2,ao,A,m8,m3,mi,B,nL]);repeat' first|apply vI<;>(simp only[go_sem,nL,r7,S,M,r0,r1,j2,ao,A,m8,m3,mi,B,nL])|fail
  refine aM (p:=C+2) (n:=3) hl (by omega) (by omega) (by omega) (by rw[mi];exact M) fun z h5 h6=> ?_;(try simp only[go_sem,nL,S,m8,B]);repeat' first|apply vI<;>(simp only[go_sem,nL,S,m8,B])|fail
  generalize hU:dF (d+20) [3] _ (msk (d+20) [3] J)=V;have vL:V (d+23)=some ⟨1,3,[[.v (.int .i64 (-1))],[.v (.int .i64 3)],[.v (.int .i64 1)]]⟩:=by rw[show d+23=d+20+3 from rfl,<-hU,yt];exact aA.aI
  have vf: ∀id,id≠d+23->V id=J id:=fun id d1=>by rw[<-hU,um1 (by omega),mk1 (by omega)]
  clear hU;have v0:=(vf nx (by omega)).trans r0;have v1:=(vf (nx+1) (by omega)).trans r1;have v7:=(vf (nx+7) (by omega)).trans r7;have v8:=(vf (nx+8) (by omega)).trans S;have v3:=(vf (nm 3) (by omega)).trans j2;refine⟨fun _=>by rw[v8];rfl,by omega,?_⟩;obtain⟨v,hv⟩:=pY (L:=[[.v (.int .i64 (-1))],[.v (.int .i64 3)],[.v (.int .i64 1)]]) (by simp) h5 (by simp;omega);(try simp only[go_sem,nL,v0,v1,v7,v8,v3,vL,hv,A,ao,B,m8,m3]);repeat' first|apply vI<;>(simp only[go_sem,nL,v0,v1,v7,v8,v3,vL,hv,A,ao,B,m8,m3])|refine⟨by omega,?_⟩|fail
  have fr: ∀(o:bM) a,a<19->a≠3->((V.set i (rdO l (C+3))).set (nm 3) o) (nm a)=J (nm a):=fun o a g h2=>by have q1:=m a 3 g (by omega) h2;have q2:=f a g;have q3:=D a g;rw[aA.aB q1,aA.aB (by omega),vf _ (by omega)]
  exact cf _ _ (C+3) {aS s k with last:=v} _ nm (by omega) (by omega) (by dsimp only;omega) (by dsimp only;omega) hb.2.2 aA.aI ⟨po,cr,do_,dc,rfl,hq.frame (fr _ _ (by omega) (by omega)),Z.frame (fr _ _ (by omega) (by omega))⟩ (fun _ _ _ _=>rfl) (by have:=f (11+k) (by omega);omega) (by have:=f (15+k) (by omega);omega) (fun a g h2 _ _=>fr _ a g h2) (by rw[aA.aB (by omega)];exact aA.aI) (fun id d1 d2=>by rw[aA.aB (by omega),aA.aB d2,vf _ (by omega)];exact rf id d1 d2) rfl rfl
 ·obtain⟨po,cr,do_,dc,A,hq,Z⟩:=ad k (by omega);obtain⟨mq,rq0,z1,z2,z3,z4,z5,z6⟩:=hq.ex;rw[abT] at z4;have T:List.take (aS s k).pipe.length (List.drop po rq0)=(aS s k).pipe.map eCJ:=by rw[z2,abM (by simp)]
  have hb:=hB.slv k (by omega);have cy:=f (11+k) (by omega);have da:=D (11+k) (by omega);have df:nm (11+k)≠nm 2:=m _ _ (by omega) (by omega) (by omega);have dh:nm (11+k)≠nm 3:=m _ _ (by omega) (by omega) (by omega);have I:aO d [i,nx,nx+1,nx+7,nx+8,nm 2,nm 3,nm (11+k)]:=AM.apart (by simp;omega) (by simp;omega);simp only[aO,bG] at I;have m5: ∀(G:aA) (b j:Nat),msk (d+b) [j] G (nm (11+k))=G (nm (11+k)):=fun G b j=>mk1 (by omega);(try simp only[go_sem,nL,r7,S,M,r0,r1,j2,ao,A,z1,T,m8,m3,m5,I,nL]);repeat' first| (first|apply vI|refine aM (p:=C+2) (n:=4) hl (by omega) (by omega) (by omega) M (fun z h5 h6=> ?_)|refine aM (p:=C+3) (n:=4) hl (by omega) (by omega) (by omega) aA.aI (fun z2 h7 h8=> ?_)|refine aM (p:=C+4) (n:=3) hl (by omega) (by omega) (by omega) aA.aI (fun z3 h9 ed=> ?_))<;>(simp only[go_sem,nL,r7,S,M,r0,r1,j2,ao,A,z1,T,m8,m3,m5,I,nL];try simp (disch:=omega) only[Iw])| (with_reducible first|refine fun(cap:Nat) (U:_<=cap)=> ?_|refine fun(ds:_<=cap)=> ?_)|refine⟨by omega,?_⟩|fail
  generalize P:aA.set (aA.set _ (d+40) _) (nm 3) _=W;have w2:W (nm 3)=some ⟨3,mv,rv.set k [.osl 3 (d+40) 0 ((aS s k).pipe.length+1) cap,.osl 5 (nm (15+k)) do_ (aS s k).done.length dc,cI (aS s k).last]⟩:=by rw[<-P];exact aA.aI
  have bh:W (d+40)=some ⟨3,cap,((aS s k).pipe++[(⟨z-1,z2,z3⟩:gD)]).map eCJ⟩:=by rw[<-P,aA.aB (by omega),aA.aI,abU];rfl
  have wf: ∀id,id<d->id≠i->id≠nm 3->id≠nm (11+k)->W id=J id:=fun id d1 d2 d3 d4=>by rw[<-P];simp (disch:=omega) only[aA.aB,aA.cC]
  have wi:W i=some (rdO l (C+5)):=by rw[<-P];simp (disch:=omega) only[aA.aB,aA.aI]
  clear P;refine cf W _ (C+5) {aS s k with pipe:=(aS s k).pipe++[(⟨z-1,z2,z3⟩:gD)]} _ (put nm (11+k) (d+40)) (by omega) (by omega) (by simp;omega) (by dsimp only;omega) hb.2.2 w2 ⟨0,cap,do_,dc,?_,?_,?_⟩ (fun a _ h1 _=>bV h1) (by rw[fL];omega) (by rw[bV (by omega)];have:=f (15+k) (by omega);omega) (fun a g h2 h3 _=>wf _ (D a g) (by have:=f a g;omega) (m _ _ g (by omega) h2) (m _ _ g (by omega) h3)) wi (fun id d1 d2=>(wf id (by omega) d2 (by omega) (by omega)).trans (rf id d1 d2)) rfl rfl;·rw[fL,bV (by omega)];simp[ja]
  ·rw[fL];exact⟨cap,_,bh,rfl,by simp,by simp,by simpa using U,by omega⟩
  ·rw[bV (by omega)];exact Z.frame (wf _ (D _ (by omega)) (by have:=f (15+k) (by omega);omega) (m _ _ (by omega) (by omega) (by omega)) (m _ _ (by omega) (by omega) (by omega)))
 ·obtain⟨po,cr,do_,dc,A,hq,Z⟩:=ad k (by omega);obtain⟨mq,rq0,z1,z2,z3,z4,z5,z6⟩:=Z.ex;rw[abT] at z4;have T:List.take (aS s k).done.length (List.drop do_ rq0)=(aS s k).done.map aT:=by rw[z2,abM (by simp)]
  have hb:=hB.slv k (by omega);have cy:=f (15+k) (by omega);have da:=D (15+k) (by omega);have df:nm (15+k)≠nm 2:=m _ _ (by omega) (by omega) (by omega);have dh:nm (15+k)≠nm 3:=m _ _ (by omega) (by omega) (by omega);have I:aO d [i,nx,nx+1,nx+7,nx+8,nm 2,nm 3,nm (15+k)]:=AM.apart (by simp;omega) (by simp;omega);simp only[aO,bG] at I;have m5: ∀(G:aA) (b j:Nat),msk (d+b) [j] G (nm (15+k))=G (nm (15+k)):=fun G b j=>mk1 (by omega);(try simp only[go_sem,nL,r7,S,M,r0,r1,j2,ao,A,z1,T,m8,m3,m5,I,nL]);repeat' first| (first|apply vI|refine aM (p:=C+2) (n:=4) hl (by omega) (by omega) (by omega) M (fun z h5 h6=> ?_)|refine aM (p:=C+3) (n:=4) hl (by omega) (by omega) (by omega) aA.aI (fun z2 h7 h8=> ?_)|refine PI (p:=C+4) (n:=2) (by omega) hl (by omega) (by omega) aA.aI (fun p3 x h9 ed ff=> ?_))<;>(simp only[go_sem,nL,r7,S,M,r0,r1,j2,ao,A,z1,T,m8,m3,m5,I,nL];try simp (disch:=omega) only[Iw])| (with_reducible first|refine fun(cap:Nat) (U:_<=cap)=> ?_|refine fun(ds:_<=cap)=> ?_)|refine⟨by omega,?_⟩|fail
  generalize P:aA.set (aA.set _ (d+42) _) (nm 3) _=W;have w2:W (nm 3)=some ⟨3,mv,rv.set k [.osl 3 (nm (11+k)) po (aS s k).pipe.length cr,.osl 5 (d+42) 0 ((aS s k).done.length+1) cap,cI (aS s k).last]⟩:=by rw[<-P];exact aA.aI
  have bh:W (d+42)=some ⟨5,cap,((aS s k).done++[(⟨z-1,z2,x⟩:Job)]).map aT⟩:=by rw[<-P,aA.aB (by omega),aA.aI,abU];rfl
  have wf: ∀id,id<d->id≠i->id≠nm 3->id≠nm (15+k)->W id=J id:=fun id d1 d2 d3 d4=>by rw[<-P];simp (disch:=omega) only[aA.aB,aA.cC]
  have wi:W i=some (rdO l p3):=by rw[<-P];simp (disch:=omega) only[aA.aB,aA.aI]
  clear P;refine cf W _ p3 {aS s k with done:=(aS s k).done++[(⟨z-1,z2,x⟩:Job)]} _ (put nm (15+k) (d+42)) (by omega) (by omega) (by dsimp only;omega) (by simp;omega) (fun j R=> ?_) w2 ⟨po,cr,0,cap,?_,?_,?_⟩ (fun a _ _ h1=>bV h1) (by rw[bV (by omega)];have:=f (11+k) (by omega);omega) (by rw[fL];omega) (fun a g h2 _ h3=>wf _ (D a g) (by have:=f a g;omega) (m _ _ g (by omega) h2) (m _ _ g (by omega) h3)) wi (fun id d1 d2=>(wf id (by omega) d2 (by omega) (by omega)).trans (rf id d1 d2)) rfl rfl
  ·rcases abS.1 R with R|R;·exact hb.2.2 j R
   ·rw[ab2] at R;subst R;dsimp only;omega
  ·rw[fL,bV (by omega)];simp[ja]
  ·rw[bV (by omega)];exact hq.frame (wf _ (D _ (by omega)) (by have:=f (11+k) (by omega);omega) (m _ _ (by omega) (by omega) (by omega)) (m _ _ (by omega) (by omega) (by omega)))
  ·rw[fL];exact⟨cap,_,bh,rfl,by simp,by simp,by simpa using U,by omega⟩
 ·obtain⟨mq,rq0,z1,z2,z3,z4,z5,z6⟩:=q2.ex;rw[abT] at z4;have T:List.take s.told.length rq0=s.told.map aT:=by rw[<-acK (l:=rq0),z2,abM (by simp)]
  have hb:=hB.t;have cy:=f (4) (by omega);have da:=D (4) (by omega);have df:nm (4)≠nm 2:=m _ _ (by omega) (by omega) (by omega);have dh:nm (4)≠nm 3:=m _ _ (by omega) (by omega) (by omega);have I:aO d [i,nx,nx+1,nx+7,nx+8,nm 2,nm 3,nm (4)]:=AM.apart (by simp;omega) (by simp;omega);simp only[aO,bG] at I;have m5: ∀(G:aA) (b j:Nat),msk (d+b) [j] G (nm (4))=G (nm (4)):=fun G b j=>mk1 (by omega);(try simp only[go_sem,nL,r7,S,M,r0,r1,z1,T,m8,m5,I,nL]);repeat' first| (first|apply vI|refine aM (p:=C+2) (n:=4) hl (by omega) (by omega) (by omega) M (fun z h5 h6=> ?_)|refine aM (p:=C+3) (n:=4) hl (by omega) (by omega) (by omega) aA.aI (fun z2 h7 h8=> ?_)|refine PI (p:=C+4) (n:=3) (by omega) hl (by omega) (by omega) aA.aI (fun p3 x h9 ed ff=> ?_))<;>(simp only[go_sem,nL,r7,S,M,r0,r1,z1,T,m8,m5,I,nL];try simp (disch:=omega) only[Iw])| (with_reducible first|refine fun(cap:Nat) (U:_<=cap)=> ?_|refine fun(ds:_<=cap)=> ?_)|refine⟨by omega,?_⟩|fail
  generalize P:aA.set (aA.set _ (d+37) _) (nx+8) _=W;have bh:W (d+37)=some ⟨5,cap,(s.told++[(⟨z-1,z2,x⟩:Job)]).map aT⟩:=by rw[<-P,aA.aB (by omega),aA.aI,abU];rfl
  have wf: ∀id,id<d->id≠i->id≠nx+8->id≠nm 4->W id=J id:=fun id d1 d2 d3 d4=>by rw[<-P];simp (disch:=omega) only[aA.aB,aA.cC]
  have wi:W i=some (rdO l p3):=by rw[<-P];simp (disch:=omega) only[aA.aB,aA.aI]
  clear P
  have hN:=(hB.Yc (t:=s.told++[(⟨z-1,z2,x⟩:Job)]) (by simp;omega) (fun j R=>by
   rcases abS.1 R with R|R
   ·exact hB.td j R
   ·rw[ab2] at R;subst R;dsimp only;omega)).fit
  have hT:=br.rep.Yc (W:=W) (id0:=d+37) (cap:=cap) (t:=s.told++[(⟨z-1,z2,x⟩:Job)]) ⟨cap,_,bh,rfl,by simp,by simp,by simpa using U,by omega⟩ (fun a g h2=>wf _ (D a g) (by have:=f a g;omega) (by have:=f a g;omega) (m _ _ g (by omega) h2));rw[abL,List.length_singleton] at hT;refine ab W _ p3 c {s with told:=s.told++[(⟨z-1,z2,x⟩:Job)]} _ _ (by omega) (by omega) X hN.1 hN.2 Y.sl hT (fun a g=> ?_) wi (fun id d1 d2=>(wf id (by omega) d2 (by omega) (by omega)).trans (rf id d1 d2)) rfl rfl;by_cases e:a=4;·rw[e,fL];omega
  ·rw[bV e];have:=f a g;omega
 · (try simp only[go_sem,nL,r7,S,M,r0,r1,B,j2,ao,nL]);repeat' first|apply vI<;>(simp only[go_sem,nL,r7,S,M,r0,r1,B,j2,ao,nL])|refine⟨by omega,?_⟩|fail
   have hN:=hB.drop
   generalize P:aA.set (aA.set _ nx _) (nx+1) _=W
   have ei:=br.rep.frame (H':=W) (fun a g=>by have:=f a g;rw[<-P,aA.aB (by omega),aA.aB (by omega),aA.aB (by omega)])
   obtain⟨f0,f1,f2,_,f4⟩:=ei.Zs (F:=fun j=>∃a,a<19/\j=nm a) (fun a g=>⟨a,g,rfl⟩) Y.pl Y.sl
   have f3:=ei.Uz (F:=fun j=>∃a,a<19/\j=nm a) (cap:=vc-1) (fun a g=>⟨a,g,rfl⟩) Y.sl (by omega)
   subst P
   exact bw _ _ (C+2) c {s with bN:=s.bN.drop 1} _ (fun j=>∃a,a<19/\j=nm a) (by omega) (by omega) X hN.1 hN.2 (fun j ⟨a,g,R⟩=>by have:=f a g;omega) (bZ f0 (bZ f1 (bZ f2 (bZ f3 (bZ f4 xC))))) rfl (by rw[aA.aB (by omega)];exact M) (fun id d1 d2=>by rw[aA.aB (by omega)];exact rf id d1 d2) rfl rfl
 · (try simp only[go_sem,nL,r7,S,M,r0,r1,B,nL]);repeat' first| (first|apply vI|refine XE (p:=C+2) (n:=1) (by omega) hl (by omega) (by omega) M (fun H3 gr p3 c' w1 w2 w3 w4 w5 w6=> ?_))<;>(simp only[go_sem,nL,r7,S,M,r0,r1,B,nL])|fail
   have s7:=(w6 (nx+7) (by omega) (by omega)).trans r7
   have s8:=(w6 (nx+8) (by omega) (by omega)).trans S
   have s0:=(w6 nx (by omega) (by omega)).trans r0
   have s1:=(w6 (nx+1) (by omega) (by omega)).trans r1
   (try simp only[go_sem,nL,s7,s8,s0,s1,B,nL]);repeat' first|apply vI<;>(simp only[go_sem,nL,s7,s8,s0,s1,B,nL])|fail
   exact ab _ _ p3 c' s nm _ (by omega) (by omega) w2 cx.1 cx.2 Y.sl (br.rep.frame fun a g=>by have:=f a g;have:=D a g;rw[aA.aB (by omega),w6 _ (by omega) (by omega)]) (fun a g=>by have:=f a g;omega) (by rw[aA.aB (by omega)];exact w5) (fun id d1 d2=>by rw[aA.aB (by omega),w6 _ (by omega) d2];exact rf id d1 d2) rfl rfl
end
end Go.Proofs.YtlncecohbakleaaGreat
