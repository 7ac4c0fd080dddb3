/- Texts laid together by a program: rules, contracts and the walk that leads to the law. -/
import Derived.Test.YtlncecohbakleaaGreatPB16
import Derived.Test.YtlncecohbakleaaGreatPB17
set_option linter.unusedVariables false
set_option linter.unusedSimpArgs false
set_option linter.unusedSectionVars false
set_option maxRecDepth 100000
set_option maxHeartbeats 8000000
namespace Go.AM
structure Za(s:CSt):Prop where
 pl:s.bE.length=3
 sl:s.bM.length=4
 w:s.words.length<=64
 h:s.holds.length<=6
 t:s.told.length<=36
 td: ∀j∈s.told,j.rsp.data.length<2^20
 port: ∀k,k<3->(aL s k).queue.length<=2/\(aL s k).out.length<=4
 slv: ∀k,k<4->(aU s k).pipe.length<=2/\(aU s k).done.length<=2/\ ∀j∈(aU s k).done,j.rsp.data.length<2^20
theorem COk.base{c:Cfg}{s:CSt}(e:bI c)(h:COk c s):Za s:=by
 obtain⟨f,_,g,_⟩:=h.atm;have b:s.told.length<=36:=by have:=h.st.lens e;simp only[dH] at this;omega
 refine⟨h.pl,h.sl,by omega,by omega,b,fun j d=> ?_,fun k a=> ?_,fun k a=>⟨(h.slv k a).pl,(h.slv k a).dl,fun j d=> ?_⟩⟩;·have:=(h.st.vq j (alT _ d)).1;unfold jZ at this;omega
 ·have i:=(h.port k a).ql;have l:=(h.port k a).ol;omega
 ·have:=((h.slv k a).rsp j d).1;unfold jZ at this;omega
structure af9(s:CSt):Prop where
 pl:s.bE.length=3
 sl:s.bM.length=4
 w:s.words.length<=65
 h:s.holds.length<=6
 t:s.told.length<=37
 td: ∀j∈s.told,j.rsp.data.length<2^20
 port: ∀k,k<3->(aL s k).queue.length<=3/\(aL s k).out.length<=5
 slv: ∀k,k<4->(aU s k).pipe.length<=3/\(aU s k).done.length<=3/\ ∀j∈(aU s k).done,j.rsp.data.length<2^20
 qs:(aL s 0).queue.length+(aL s 1).queue.length+(aL s 2).queue.length<=7
theorem Re{s:CSt}(a:s.bE.length=3)(b:s.bM.length=4):(pN s).length=(aL s 0).queue.length+(aL s 1).queue.length+(aL s 2).queue.length+((aU s 0).pipe.length+(aU s 1).pipe.length+(aU s 2).pipe.length+(aU s 3).pipe.length):=by unfold pN gI eX;rw[a,b];simp[amZ];omega
theorem af9.fit{s:CSt}(h:af9 s):zz s/\jx s:=by
 have c:zz s:=by
  refine⟨by have:=h.w;omega,by have:=h.h;omega,by have:=h.t;omega,fun j d=>by have:=h.td j d;omega,by have:=h.pl;omega,by have:=h.sl;omega,fun k=> ?_,fun k=> ?_⟩
  ·by_cases a:k<3;·have:=h.port k a;omega
   ·have:aL s k=default:=(by unfold aL;rw[List.getD,alO (by have:=h.pl;omega)];rfl);rw[this];exact⟨by decide,by decide⟩
  ·by_cases a:k<4;·have:=h.slv k a;exact⟨by omega,by omega,fun j d=>by have:=this.2.2 j d;omega⟩
   ·have:aU s k=default:=(by unfold aU;rw[List.getD,alO (by have:=h.sl;omega)];rfl);rw[this];exact⟨by decide,by decide,fun j d=>by cases d⟩
 have e:=vz (b:=3) (s:=s) (by have:=h.sl;omega) fun k a=>(h.slv k (by have:=h.sl;omega)).2.1;have hw:=Re h.pl h.sl;have q:=h.qs;have f:=(h.slv 0 (by omega)).1;have g:=(h.slv 1 (by omega)).1;have i:=(h.slv 2 (by omega)).1;have l:=(h.slv 3 (by omega)).1;exact⟨c,Ko c h.pl (by have:=h.sl;omega) (fun k a=>(h.port k a).1) (fun k a=>⟨(h.slv k (by have:=h.sl;omega)).1,(h.slv k (by have:=h.sl;omega)).2.1⟩) (by omega) (by omega)⟩
theorem Za.ajJ{s:CSt}(h:Za s):af9 s:=by have b:=(h.port 0 (by omega)).1;have c:=(h.port 1 (by omega)).1;have d:=(h.port 2 (by omega)).1;exact⟨h.pl,h.sl,by have:=h.w;omega,h.h,by have:=h.t;omega,h.td,fun k a=>by have:=h.port k a;omega,fun k a=>by have:=h.slv k a;exact⟨by omega,by omega,this.2.2⟩,by omega⟩
theorem Za.drop{s:CSt}(h:Za s):zz {s with bM:=s.bM.drop 1}/\jx {s with bM:=s.bM.drop 1}:=by
 have c: ∀k,aU {s with bM:=s.bM.drop 1} k=aU s (1+k):=fun k=>by unfold aU;simp only[List.getD,akY]
 have n:=h.ajJ.fit.1;have b:zz {s with bM:=s.bM.drop 1}:=by refine⟨n.w,n.h,n.t,n.td,n.pl,by rw[akS];have:=n.sl;omega,n.port,fun k=> ?_⟩;rw[c];exact n.slv (1+k)
 have f:(s.bM.drop 1).length=3:=by rw[akS,h.sl]
 have d: ∀k,k<3->(aL {s with bM:=s.bM.drop 1} k).queue.length<=2:=fun k a=>(h.port k a).1;have hp: ∀k,k<(s.bM.drop 1).length->(aU {s with bM:=s.bM.drop 1} k).pipe.length<=2:=fun k a=>by rw[c];exact(h.slv (1+k) (by omega)).1
 have e: ∀k,k<(s.bM.drop 1).length->(aU {s with bM:=s.bM.drop 1} k).done.length<=2:=fun k a=>by rw[c];exact(h.slv (1+k) (by omega)).2.1
 have g:=Ik (s:={s with bM:=s.bM.drop 1}) h.pl (by dsimp only;omega) d hp;have i:=vz (s:={s with bM:=s.bM.drop 1}) (by dsimp only;omega) e;exact⟨b,Ko b h.pl (by dsimp only;omega) (fun k a=>by have:=d k a;omega) (fun k a=>⟨by have:=hp k a;omega,by have:=e k a;omega⟩) (by omega) (by omega)⟩
structure aj8(i:CIn):Prop where
 r:i.ready.length<2^21
 t:i.iP.length<2^21
 s:i.send.length<2^21
end Go.AM
namespace Go.Proofs.YtlncecohbakleaaGreat
open Go Go.AM
attribute [local irreducible] aH wv aC vd wvH
section
variable{H:aA}{nx:Nat}{K:an4}
end
end Go.Proofs.YtlncecohbakleaaGreat
