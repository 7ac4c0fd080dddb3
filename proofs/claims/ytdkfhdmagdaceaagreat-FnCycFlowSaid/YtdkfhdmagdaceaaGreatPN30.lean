/- Texts laid together by a program: rules, contracts and the walk that leads to the law. -/
import Derived.Test.YtdkfhdmagdaceaaGreatPN8
import Derived.Test.YtdkfhdmagdaceaaGreatPN29
import Derived.Test.YtdkfhdmagdaceaaGreatPN24
import Derived.Test.YtdkfhdmagdaceaaGreatPN27
import Derived.Test.YtdkfhdmagdaceaaGreatPN23
import Derived.Test.YtdkfhdmagdaceaaGreatPN26
set_option linter.unusedVariables false
set_option linter.unusedSimpArgs false
set_option linter.unusedSectionVars false
set_option maxRecDepth 100000
set_option maxHeartbeats 8000000
namespace Go.AM
def bmC:CSt:=⟨[],[],[],[],[]⟩
end Go.AM
namespace Go.Proofs.YtdkfhdmagdaceaaGreat
open Go Go.AM
attribute [local irreducible] aM wv aB vd wvH
section
variable {H : aA} {nx : Nat} {K : D → aA → Nat → Prop}
end
end Go.Proofs.YtdkfhdmagdaceaaGreat
namespace Go.AM
theorem bs8:vZ pU:=⟨rfl,rfl,rfl⟩
noncomputable def bs7 (c:Cfg) (s:CSt) (n:Int):CSt:=if cyB c s=true∧n≤300 then sQ c s (List.replicate n.toNat pU) else bmC
theorem btB {c:Cfg} {s:CSt} {k:Nat}:sQ c s (List.replicate (k+1) pU)=vF c pU (sQ c s (List.replicate k pU)):=by simp only[bx2,sQ,btR,List.foldl_cons,List.foldl_nil]
theorem bs9 {H:aA} {F:Nat→Prop} {σ:Nat→Nat} {nh a b d:Nat} (c:H a=some ⟨1,3,[true,true,true].map eH⟩) (e:H b=some ⟨1,4,[false,false,false,false].map eH⟩) (f:H d=some ⟨1,3,[true,true,true].map eH⟩) (bpR:F a) (g:F b) (bpS:F d):
 CvL H F σ nh (eIn pU) [.osl 1 a 0 3 3,.osl 1 b 0 4 4,.osl 1 d 0 3 3]:=
 aH (bW mK c rfl (by decide) bpR) (aH (bW mK e rfl (by decide) g) (aH (bW mK f rfl (by decide) bpS) eP))
end Go.AM
namespace Go.Proofs.YtdkfhdmagdaceaaGreat
open Go Go.AM
attribute [local irreducible] aM wv aB vd wvH
section
variable {H : aA} {nx : Nat} {K : D → aA → Nat → Prop}
theorem bs5 (h: ∀H' nx',nx≤nx'→(∀id,id<nx→H' id=H id)→K (boR (eIn pU)) H' nx'):aB Tryz.prog CS [] H nx K:=by apply aB.tW;refine YE fun H' nx' f b c d e=>⟨boR (eIn pU),without (fun j=>j=nx+1∨j=nx+2∨j=nx+3) H',_,lY (bs9 b c d (.inl rfl) (.inr (.inl rfl)) (.inr (.inr rfl))),kS,h _ _ (by omega) fun id a=>by rw[iI (by omega)];exact e id a⟩
theorem bs4:cJ Tryz.prog bsS Tryz.f37 bsP bsV:=cJ.mk Tryz.func37 (by kernel_rfl) bs2
theorem bs3 {c:Cfg} {s:CSt} {n:Int} (A:jO c) (T:beL s)
 (h: ∀H' nx',nx≤nx'→(∀id,id<nx→H' id=H id)→K (boR (eI (bs7 c s n))) H' nx'):aB Tryz.prog bsS [boR (cU c),boR (eI s),boP n] H nx K:=by
 apply aB.tW
 refine bs4 rfl fun Q hQ=> ?_
 unfold bsP
 have m:bs7 c s n=bmC→∀{G:aA} {U:Env} {V:Nat},nx≤V→(∀id,id<nx→G id=H id)→U 6= .one (.c (.ptr 5 (nx+2) 0 0))→Q .ret U (G.set (nx+2) ⟨5,1,[[.osl 0 0 0 0 0,.osl 0 0 0 0 0,.osl 0 0 0 0 0,.osl 0 0 0 0 0,.osl 0 0 0 0 0]]⟩) V:=fun W G U V g1 X g3=>by rw[W] at h;exact hQ _ _ _ _ _ (.inr rfl) (LL g3 aA.bH rfl) ⟨boR (eI bmC),_,noF,lY (aH (.frz (.nil ..)) (aH (.frz (.nil ..)) (aH (.frz (.nil ..)) (aH (.frz (.nil ..)) (aH (.frz (.nil ..)) eP))))),aK,h _ _ g1 fun id a=>by rw[aA.aC (by omega)];exact X id a⟩
 cases B:cyB c s
 ·repeat' first| (first|apply bn1|apply bd7 A T)<;>(simp only[go_sem,B,boC])|fail
  exact m (if_neg fun R=>by rw[B] at R;exact absurd R.1 (by decide)) (by omega) (fun id a=>by simp (disch:=omega) only[aA.aC]) rfl
 by_cases hn:n≤300
 case neg=>
  repeat' first| (first|apply bn1|apply bd7 A T)<;>(simp only[go_sem,B,boC])|apply bn2 (by omega)|fail
  exact m (if_neg fun R=>hn R.2) (by omega) (fun id a=>by simp (disch:=omega) only[aA.aC]) rfl
 have W:bs7 c s n=sQ c s (List.replicate n.toNat pU):=if_pos ⟨B,hn⟩
 rw[W] at h
 clear m
 obtain⟨S,hs⟩:=bmR.1 B
 have Y:=hs.sz S
 repeat' first| (first|apply bn1|apply bd7 A T|refine bjQ Y (fun H1 Z nm cells hx hR boS r=> ?_))<;>(simp only[go_sem,B,boC])|apply bn3 (by omega)|fail
 have f:cells.length=5:=by obtain⟨_,_,_,_,_,rfl,_⟩:=hR.ex;rfl
 have b:cells++List.drop cells.length [D1.osl 0 0 0 0 0,.osl 0 0 0 0 0,.osl 0 0 0 0 0,.osl 0 0 0 0 0,.osl 0 0 0 0 0]=cells:=by rw[f];simp
 refine⟨f,by omega,?_⟩
 rw[b]
 generalize bqK:aA.set H1 (nx+13) _=G
 have C:G (nx+13)=some ⟨5,1,[cells]⟩:=by rw[←bqK];exact aA.bH
 have bqC:G nx=some ⟨3,1,[cU c]⟩:=by rw[←bqK,aA.aC (by omega),r _ (by omega)];simp (disch:=omega) only[aA.aC,aA.bH]
 have X:G (nx+2)=some ⟨5,1,[[.osl 0 0 0 0 0,.osl 0 0 0 0 0,.osl 0 0 0 0 0,.osl 0 0 0 0 0,.osl 0 0 0 0 0]]⟩:=by rw[←bqK,aA.aC (by omega),r _ (by omega)];simp (disch:=omega) only[aA.aC,aA.bH]
 have gf: ∀id,id<nx→G id=H id:=fun id a=>by rw[←bqK,aA.aC (by omega),r _ (by omega)];simp (disch:=omega) only[aA.aC]
 have D:bgJ (fun j=>j<nx+14) G Z nm s cells:=⟨hR.frame fun k e=>by have:=boS.rng k e;rw[←bqK,aA.aC (by omega)],⟨boS.inj,fun k e=>(boS.rng k e).2,fun k e hj=>by have:=(boS.rng k e).1;have hj:nm k<nx+14:=hj;omega⟩,fun id a=>by have a:id<nx+14:=a;omega⟩
 clear bqK r hR boS
 try apply bn0
 repeat' first|apply bn1<;>(simp only[go_sem])|fail
 refine aM.gP (β:=Nat×CSt×(Nat→Nat)×List D1) (fun u=>en [(8,boP u.1),(7,.one (.c (.ptr 5 (nx+13) 0 0))),(6,.one (.c (.ptr 5 (nx+2) 0 0))),(3,.one (.c (.ptr 3 nx 0 0))),(2,boP n)])
  (fun u E bqP=>u.1≤n.toNat∧u.2.1=sQ c s (List.replicate u.1 pU)∧bgJ (fun j=>j<nx+14) E bqP u.2.2.1 u.2.1 u.2.2.2∧E (nx+13)=some ⟨5,1,[u.2.2.2]⟩∧ ∀id,id<nx+13→E id=G id)
  (fun u=>n.toNat-u.1) (0,s,nm,cells) ⟨noF,_,by repeat' first|exact bo2|refine xqI rfl rfl ?_|refine xqP (by omega) rfl rfl ?_|fail,aK,by dsimp only;omega,rfl,D.frame (by omega) fun _ _ _=>rfl,C,fun _ _=>rfl⟩ ?_
 clear D C f b
 rintro⟨k,bp7,t,v⟩ E aa ai ⟨e,o,p,w,x⟩ bpQ ab
 dsimp only at e o p w
 have F:COk c bp7:=by rw[o];exact(afM S hs).1
 have s0:=(x nx (by omega)).trans bqC
 have s2:=(x (nx+2) (by omega)).trans X
 have f:=p.len
 have q:bQ aa [nx,nx+2,nx+13]:=AM.apart (by simp) (by simp;omega)
 simp only[bQ,eZ] at q
 by_cases aj:(k:Int)<n
 ·repeat' first| (first|apply bn1|apply bs5)<;>(simp only[go_sem,s0,w,q,f,boC])|apply bn2 (by omega)|fail
  intro bqL ad ae i;have I:=(i (nx+13) (by omega)).trans w;have aU0:=(i nx (by omega)).trans s0;refine⟨⟨fun _=>by rw[I];simp only[go_sem,f],fun _=>by rw[aU0];rfl⟩,?_⟩;refine bi3 S F bs8 (p.frame (by omega) fun id d1 _=>i id (by omega)) fun aZJ ak af y al J L=> ?_;have M:=(L (nx+13) (by show nx+13<nx+14;omega)).trans I;have z:=J.len;have b:List.drop 5 v=[]:=by rw[←f];simp
  (try simp only[go_sem,boC,M,z,b,bq6,q,boC]);repeat' first|apply bn1<;>(simp only[go_sem,boC,M,z,b,bq6,q,boC];try simp (disch:=omega) only[Iw])|refine⟨by omega,?_⟩|fail
  refine ab _ _ _ (k+1,vF c pU bp7,af,y) noF _ (by omega) (by dsimp only;omega) (by repeat' first|exact bo2|refine xqI rfl rfl ?_|refine xqP (by omega) rfl rfl ?_|fail) aK ⟨by dsimp only;omega,by dsimp only;rw[o,btB],by dsimp only;exact J.frame (by omega) fun id _ d2=>aA.aC (by omega),aA.bH,fun id a=> ?_⟩;rw[aA.aC (by omega),L id (by show id<nx+14;omega),i id (by omega)];exact x id a
 ·repeat' first|apply bn1<;>(simp only[go_sem,s0,s2,w,q,f,boC])|apply bn3 (by omega)|fail
  have g:=F.sz S;have N:=p.names.av;have ag:k=n.toNat:=by omega
  rw[ag] at o;rw[←o] at h;refine aB.ao4 (args':=[boR (eI bp7)]) (without (fun j=>∃k,k<19∧j=t k) E) (fun j=>∃k,k<19∧j=t k) rfl (bkE (lY (A8 (p.rep.VI (fun k e=>⟨k,e,rfl⟩) g.pl g.sl)))) kS ?_;refine bjQ g fun bqL ad ah d ae O P i=> ?_;have bqI:bqL (nx+2)=some ⟨5,1,[[.osl 0 0 0 0 0,.osl 0 0 0 0 0,.osl 0 0 0 0 0,.osl 0 0 0 0 0,.osl 0 0 0 0 0]]⟩:=by rw[i _ (by omega),iI (fun⟨k,e,he⟩=>N k e (by show t k<nx+14;omega))];exact s2
  have wf: ∀id,id<nx→bqL id=H id:=fun id a=>by rw[i _ (by omega),iI (fun⟨k,e,he⟩=>N k e (by show t k<nx+14;omega)),x id (by omega)];exact gf id a
  have l:d.length=5:=by obtain⟨_,_,_,_,_,rfl,_⟩:=O.ex;rfl
  have b:d++List.drop d.length [D1.osl 0 0 0 0 0,.osl 0 0 0 0 0,.osl 0 0 0 0 0,.osl 0 0 0 0 0,.osl 0 0 0 0 0]=d:=by rw[l];simp
  (try simp only[go_sem,boC,bqI,l,b,boC]);repeat' first|apply bn1<;>(simp only[go_sem,boC,bqI,l,b,boC])|fail
  refine hQ _ _ _ _ _ (.inr rfl) (LL rfl aA.bH l) ⟨boR (eI bp7),_,fun j=>∃k,k<19∧j=ah k,?_,kS,h _ _ (by omega) fun id a=> ?_⟩;·exact lY (A8 ((O.frame fun k e=>aA.aC (by have:=P.rng k e;omega)).VI (fun k e=>⟨k,e,rfl⟩) g.pl g.sl))
  ·rw[iI (fun⟨k,e,he⟩=>by have:=P.rng k e;omega),aA.aC (by omega)];exact wf id a
end
end Go.Proofs.YtdkfhdmagdaceaaGreat
namespace Go.AM
noncomputable def bxT (c:Cfg) (s:CSt) (l:List CIn):CSt:=if cyB c s=true then sQ c s l else bmC
end Go.AM
namespace Go.Proofs.YtdkfhdmagdaceaaGreat
open Go Go.AM
attribute [local irreducible] aM wv aB vd wvH
theorem bxD:cJ Tryz.prog eT Tryz.f112 gJ kR:=cJ.mk Tryz.func112 (by kernel_rfl) uN
section
variable {H : aA} {nx : Nat} {K : D → aA → Nat → Prop}
theorem bxJ {N:Nat} (d:N≤300) (h:K (.tup [.c (.v (.int .u64 0)),.c (.v (.int .u64 N))]) H nx):aB Tryz.prog eF [btN 1,btN N] H nx K:=by
 refine aB.pure (args0:=[btN 1,btN N]) (R:=fun f=>f= .tup [.c (.v (.int .u64 0)),.c (.v (.int .u64 N))]) ?_ rfl (aI ⟨aE rfl,aE rfl,trivial⟩) (fun r hr=>hr▸h);clear h;refine pB rfl fun Q e=> ?_;unfold iN;repeat' first|apply bn1<;>(simp only[go_sem])|fail
 refine aZ e (.tup [.c (.v (.int .u64 0)),.c (.v (.int .u64 N))]) ?_ rfl rfl;clear e;refine(fun(h: ∀{a b x y:Int},a=x→b=y→some (D.tup [.c (.v (.int .u64 a)),.c (.v (.int .u64 b))])=some (D.tup [.c (.v (.int .u64 x)),.c (.v (.int .u64 y))]))=>h ?_ ?_) (fun g i=>by rw[g,i]);·revert d;revert N;decide+kernel
 ·revert d;revert N;decide+kernel
theorem bxG {N:Nat} (a:N≤300) (h:K (.tup [.c (.v (.int .u64 0)),.c (.v (.int .u64 N))]) H nx):aB Tryz.prog cE [btN 1,btN N] H nx K:=by
 refine aB.pure (args0:=[btN 1,btN N]) (R:=fun b=>b= .tup [.c (.v (.int .u64 0)),.c (.v (.int .u64 N))]) ?_ rfl (aI ⟨aE rfl,aE rfl,trivial⟩) (fun r hr=>hr▸h);clear h;refine tM rfl fun Q d=> ?_;unfold kO;repeat' first| (first|apply bn1|apply bxJ a)<;>(simp only[go_sem])|fail
 all_goals first|with_reducible refine aZ d _ rfl rfl ?_|skip
 all_goals rfl
theorem bxS {c:Cfg} {s:CSt} {l:List CIn} (a:jO c) (j:beL s) (hl:l.length≤300) (hi: ∀i∈l,vZ i) (h:K (dB (cyB c s)) H nx):aB Tryz.prog zH [boR (cU c),boR (eI s),dS (l.map eIn)] H nx K:=by
 refine aB.pure (args0:=[boR (cU c),boR (eI s),dS (l.map eIn)]) (R:=fun m=>m=dB (cyB c s)) ?_ rfl (aI ⟨aE rfl,aE rfl,aE rfl,trivial⟩) (fun r hr=>hr▸h);clear h;refine XF rfl fun Q k=> ?_;unfold B6;have e:((l.length:Int)≤300)=True:=eq_true (by omega);have b:(0≤bK (fun _=>false) l)=False:=eq_false fun h=>by obtain⟨x,_,f⟩:=cH.1 h;simp at f
 have g:decide (0≤bK (fun _=>false) l)=false:=by simp only[b,decide_false]
 cases d:cyB c s
 ·repeat' first| (first|apply bn1|apply bd4 a j)<;>(simp only[go_sem,d])|fail
  refine aZ k _ rfl rfl (by rw[d];rfl)
 ·repeat' first| (first|apply bn1|apply bd4 a j|refine pP (l:=l) (caps:=[]) (p:=fun _=>false) (by omega) rfl (aE rfl) (kC rfl) (fun x f H nx K h=>TR (hi x f) h) ?_)<;>(simp only[go_sem,d,e,b,g])|fail
  refine aZ k _ rfl rfl (by rw[d];rfl)
theorem bx3 {c:Cfg} {s:CSt} {l:List CIn} (B: ∀{H:aA} {nx:Nat} {K:D→aA→Nat→Prop},K (dB true) H nx→aB Tryz.prog zH [boR (cU c),boR (eI s),dS (l.map eIn)] H nx K) (W:aQ c) (hs:COk c s) (hl:l.length≤300) (hi: ∀i∈l,vZ i)
 (h: ∀H' nx',nx≤nx'→(∀id,id<nx→H' id=H id)→K (boR (eI (sQ c s l))) H' nx'):aB Tryz.prog tV [boR (cU c),boR (eI s),dS (l.map eIn)] H nx K:=by
 apply aB.tW
 refine QC rfl fun Q hQ=> ?_
 unfold xR
 repeat' first| (first|apply bn1|apply B|refine fJ (hs.sz W) (fun H' nx' nm cells hx n boS o=> ?_))<;>(simp only[go_sem,boC])|fail
 have J:cells.length=5:=by obtain⟨_,_,_,_,_,rfl,_⟩:=n.ex;rfl
 have L:cells++List.drop cells.length [D1.osl 0 0 0 0 0,.osl 0 0 0 0 0,.osl 0 0 0 0 0,.osl 0 0 0 0 0,.osl 0 0 0 0 0]=cells:=by rw[J];simp
 refine⟨J,by omega,?_⟩
 rw[L]
 try apply bn0
 repeat' first|apply bn1<;>(simp only[go_sem])|fail
 refine aM.TF fun bqO t=> ?_
 have v: ∀id,id<nx+3→bqO id=H' id:=fun id f=>by rw[t,aA.aC (by omega)]
 have c0:bqO nx=some ⟨3,1,[cU c]⟩:=by rw[v _ (by omega),o _ (by omega)];simp only[aA.set,bqT,Nat.reduceEqDiff,if_false,if_true,brN,reduceIte]
 have c2:bqO (nx+2)=some ⟨5,1,[[.osl 0 0 0 0 0,.osl 0 0 0 0 0,.osl 0 0 0 0 0,.osl 0 0 0 0 0,.osl 0 0 0 0 0]]⟩:=by rw[v _ (by omega),o _ (by omega)];simp only[aA.set,bqU,Nat.reduceEqDiff,bqV,if_false,if_true,reduceIte]
 have Z: ∀id,id<nx→bqO id=H id:=fun id f=>by rw[v _ (by omega),o _ (by omega)];simp only[aA.set,show ¬id=nx by omega,show ¬id=nx+1 by omega,show ¬id=nx+2 by omega,if_false]
 have bnC:Rep (fun id=>id<nx+3) bqO nx' (nx+10) nm s:=by have w:=fun k g=>boS.rng k g;refine⟨⟨cells,by rw[t];exact aA.bH,n.frame fun k g=>by have:=w k g;rw[t,aA.aC (by omega)]⟩,⟨boS.inj,fun k g=>by have:=w k g;omega,fun k g hn=>by have:=w k g;omega⟩,fun k g=>by have:=w k g;omega,⟨by omega,by omega⟩,fun id f=>by omega⟩
 clear t n boS o v
 refine aM.gP (β:=Nat×(Nat→Nat)) (fun u=>en [(20,boP u.1),(19,boP l.length),(18,dS (l.map eIn)),(7,.one (.c (.ptr 5 (nx+10) 0 0))),(6,.one (.c (.ptr 5 (nx+2) 0 0))),(3,.one (.c (.ptr 3 nx 0 0)))])
  (fun u H1 x=>u.1≤l.length∧Rep (fun id=>id<nx+3) H1 x (nx+10) u.2 (sQ c s (l.take u.1))∧ ∀id,id<nx+3→H1 id=bqO id)
  (fun u=>l.length-u.1) (0,nm) ⟨noF,_,by repeat' first|exact bo2|refine xqI rfl rfl ?_|refine xqP (by omega) rfl rfl ?_|fail,aK,by dsimp only;omega,bnC.frame (by omega) rfl (fun _ _=>rfl) (fun id (f:id<nx+3)=>⟨by omega,by omega,fun k g he=>bnC.names.av k g (he▸f)⟩),fun _ _=>rfl⟩ ?_
 rintro⟨k,p⟩ H1 x ah ⟨g,n,y⟩ bpQ aa
 dsimp only at g n
 have bqC:=(y nx (by omega)).trans c0
 have g2:=(y (nx+2) (by omega)).trans c2
 obtain⟨S,z⟩: ∃S,S=sQ c s (l.take k):=⟨_,rfl⟩
 have I:COk c S:=by rw[z];exact(afM W hs).1
 rw[←z] at n
 have ai:=n.i0
 by_cases M:k<l.length
 ·obtain⟨i,f⟩: ∃i,i=l.getD k default:=⟨_,rfl⟩
  have ab:vZ i:=by rw[f];exact hi _ (cC M)
  have hA:bQ x [nx]:=AM.apart (by simp) (by simp;omega);simp only[bQ,eZ] at hA;repeat' first|apply bn1<;>(simp only[go_sem,t1,bqT,f.symm,bqC,hA])|apply bn2 (by omega)|refine⟨by omega,?_⟩|fail
  have N:=n.names.lt;refine tX (X:=fun id=>id<nx+3) W I ab (n.frame (by omega) (aA.aC (by omega)) (fun k g=>aA.aC (by have:=N k g;omega)) fun id O=>⟨by omega,by omega,fun k g he=>n.names.av k g (he▸O)⟩) fun H2 ad C a b d e ae P af=> ?_;have o: ∀id,id<nx+3→H2 id=bqO id:=fun id f=>by rw[af id f,aA.aC (by omega)];exact y id f
  have E:sQ c s (l.take (k+1))=vF c i S:=by rw[agA M,←z,←f]
  simp only[go_sem];repeat' first|apply bn1<;>(simp only[go_sem];try simp (disch:=omega) only[Iw])|fail
  exact aa _ _ _ (k+1,C) noF _ (by omega) (by dsimp only;omega) (by repeat' first|exact bo2|refine xqI rfl rfl ?_|refine xqP (by omega) rfl rfl ?_|fail) aK ⟨by dsimp only;omega,by dsimp only;rw[E];exact P.frame (by omega) rfl (fun _ _=>rfl) (fun id f=>⟨by omega,by omega,fun k g he=>P.names.av k g (he▸f)⟩),o⟩
 ·have E:S=sQ c s l:=by rw[z,boL (by omega)]
  obtain⟨Y,ag,R⟩:=n.st;obtain⟨wc,hc,pc,vc,tc,T,_⟩:=R.ex;have q:=ag;rw[T] at q;unfold U2 at q;repeat' first|apply bn1<;>(simp only[go_sem,q])|apply bn3 (by omega)|fail
  have aj:=n.names.lt;refine aB.ao4 (args':=[boR (eI S)]) (without (fun j=>∃k,k<19∧j=p k) H1) (fun j=>∃k,k<19∧j=p k) rfl (fun i d0 d h1 h2=> ?_) kS ?_
  ·match i with
   |0=>simp only[List.getElem?_cons_zero,Option.some.injEq] at h1 h2;subst h1;subst h2;have:=A8 (σ:=id) (nh:=x+4) (R.VI (F:=fun j=>∃k,k<19∧j=p k) (fun k g=>⟨k,g,rfl⟩) I.pl I.sl);rw[T] at this;exact lY this
   |i+1=>simp at h1
  refine fJ (I.sz W) fun H2 ad C m ae U V A=> ?_;have r:m.length=5:=by obtain⟨_,_,_,_,_,rfl,_⟩:=U.ex;rfl
  have G:m++List.drop m.length [D1.osl 0 0 0 0 0,.osl 0 0 0 0 0,.osl 0 0 0 0 0,.osl 0 0 0 0 0,.osl 0 0 0 0 0]=m:=by rw[r];simp
  have e2:H2 (nx+2)=some ⟨5,1,[[.osl 0 0 0 0 0,.osl 0 0 0 0 0,.osl 0 0 0 0 0,.osl 0 0 0 0 0,.osl 0 0 0 0 0]]⟩:=by rw[A _ (by omega),iI (fun⟨k,g,he⟩=>n.names.av k g (show p k<nx+3 by omega))];exact g2
  simp only[go_sem,e2];refine⟨r,by omega,?_⟩;rw[G];try apply bn0
  repeat' first|apply bn1<;>(simp only[go_sem])|fail
  refine hQ _ _ _ _ _ (.inr rfl) (fZ rfl aA.bH r) ⟨boR (eI (sQ c s l)),_,fun j=>∃k,k<19∧j=C k,?_,kS,h _ _ (by omega) fun id f=> ?_⟩;·rw[←E];exact lY (A8 ((U.frame fun k g=>aA.aC (by have:=V.rng k g;omega)).VI (fun k g=>⟨k,g,rfl⟩) I.pl I.sl))
  ·rw[iI (fun⟨k,g,he⟩=>by have:=V.rng k g;omega),aA.aC (by omega),A _ (by omega),iI (fun⟨k,g,he⟩=>n.names.av k g (show p k<nx+3 by omega)),y id (by omega)];exact Z id f
theorem bxF {c:Cfg} {s:CSt} {l:List CIn} (a:jO c) (d:beL s) (hl:l.length≤300) (hi: ∀i∈l,vZ i)
 (h: ∀H' nx',nx≤nx'→(∀id,id<nx→H' id=H id)→K (boR (eI (bxT c s l))) H' nx'):aB Tryz.prog tV [boR (cU c),boR (eI s),dS (l.map eIn)] H nx K:=by
 cases b:cyB c s
 ·unfold bxT at h;rw[if_neg (by rw[b];decide)] at h;apply aB.tW;refine QC rfl fun Q e=> ?_;unfold xR;repeat' first| (first|apply bn1|apply bxS a d hl hi)<;>(simp only[go_sem,b,boC])|fail
  exact e _ _ _ _ _ (.inr rfl) (LL rfl aA.bH rfl) ⟨boR (eI bmC),_,noF,lY (aH (.frz (.nil ..)) (aH (.frz (.nil ..)) (aH (.frz (.nil ..)) (aH (.frz (.nil ..)) (aH (.frz (.nil ..)) eP))))),aK,h _ _ (by omega) fun id f=>by simp (disch:=omega) only[aA.aC]⟩
 ·unfold bxT at h;rw[if_pos b] at h;obtain⟨g,hs⟩:=bmR.1 b;exact bx3 (fun h=>bxS a d hl hi (by rw[b];exact h)) g hs hl hi h
theorem bxQ {x:CIn} {i0:Nat} (m:i0<nx) (e:H i0=some ⟨3,1,[eIn x]⟩) (h: ∀H' nx',nx≤nx'→(∀id,id<nx→id≠i0→H' id=H id)→K (dS (([]:List CIn).map eIn)) H' nx'):aB Tryz.prog eT [boQ 3 i0 1 1,boP 0] H nx K:=by
 apply aB.tW;refine bxD rfl fun Q f=> ?_;unfold gJ;have bqH:IntKind.u64.wrap 1=1:=by decide
 have bk1:IntKind.u64.wrap 0=0:=by decide
 have a:((1:Nat):Int)=1:=rfl;have d:bQ nx [i0]:=AM.apart (by simp) (by simp;omega);simp only[bQ,eZ] at d;repeat' first| (first|apply bn1|apply bxG (N:=0) (by omega))<;>(simp only[go_sem,e,bqH,bk1,a,d,boC];try simp (disch:=omega) only[Iw])|apply bn3 (by omega)|refine⟨by omega,?_⟩|fail
 have m0:min 1 0=0:=rfl;have b:wr ([]:List (List D1)) 0 []=[]:=rfl;simp only[m0,List.take_zero,b,bxY,if_true,go_sem];apply bn0;repeat' first|apply bn1<;>(simp only[go_sem])|fail
 refine aM.gP (β:=Unit) (fun _=>en [(8,boP 0),(7,.one (.c (.osl 3 (nx+22) 0 0 0)))]) (fun _ H1 _=>∀id,id<nx→id≠i0→H1 id=H id) (fun _=>0) () ⟨noF,_,oF (oF K6 (apS (.VS ..))) (aE rfl),aK,fun id g _=>by simp (disch:=omega) only[aA.aC]⟩ ?_;rintro _ H1 i j k bpQ l;repeat' first|apply bn1<;>(simp only[go_sem])|apply bn3 (by omega)|fail
 exact f _ _ _ _ _ (.inr rfl) rfl ⟨dS [],_,noF,apS (.frz (.nil ..)),aK,h _ _ (by omega) k⟩
theorem bxP {c:Cfg} {s:CSt} {n:Int} (h:n≤300):bs7 c s n=bxT c s (List.replicate n.toNat pU):=by
 unfold bs7 bxT;by_cases a:cyB c s=true;·rw[if_pos ⟨a,h⟩,if_pos a]
 ·rw[if_neg (fun h=>a h.1),if_neg a]
theorem bxR {c:Cfg} {s:CSt} {n:Int} (f:jO c) (j:beL s) (k: -1≤n) (m:n≤301)
 (h: ∀H' nx',nx≤nx'→(∀id,id<nx→H' id=H id)→K (boR (eI (bs7 c s n))) H' nx'):aB Tryz.prog xN [boR (cU c),boR (eI s),boP n] H nx K:=by
 by_cases hp:1≤n∧n≤300
 ·obtain⟨N,rfl⟩: ∃N:Nat,n=N:=⟨n.toNat,by omega⟩
  rw[bxP hp.2] at h;exact O5 (N:=N) (R:=bxT c s) (by omega) (by omega) (fun h=>bxG (by omega) h) (fun k m h=>bxF f j k m h) h
 apply aB.tW
 refine OX rfl fun Q o=> ?_
 unfold u0
 by_cases p:n≤300
 case neg=>
  repeat' first|apply bn1<;>(simp only[go_sem,boC])|apply bn2 (by omega)|fail
  rw[show bs7 c s n=bmC from if_neg fun h=>p h.2] at h;exact o _ _ _ _ _ (.inr rfl) (LL rfl aA.bH rfl) ⟨boR (eI bmC),_,noF,lY (aH (.frz (.nil ..)) (aH (.frz (.nil ..)) (aH (.frz (.nil ..)) (aH (.frz (.nil ..)) (aH (.frz (.nil ..)) eP))))),aK,h _ _ (by omega) fun id d=>by simp (disch:=omega) only[aA.aC]⟩
 have g:(0<n)=False:=eq_false (by omega)
 rw[bxP p,show n.toNat=0 by omega,List.replicate_zero] at h
 repeat' first| (first|apply bn1|refine XE (fun H1 t u a=> ?_))<;>(simp only[go_sem,boC,g])|apply bn3 (by omega)|fail
 have boU:H1 nx=some ⟨3,1,[cU c]⟩:=by rw[a _ (by omega)];simp (disch:=omega) only[aA.aC,aA.bH]
 have i:H1 (nx+1)=some ⟨5,1,[eI s]⟩:=by rw[a _ (by omega)];simp (disch:=omega) only[aA.aC,aA.bH]
 have q:H1 (nx+2)=some ⟨5,1,[[.osl 0 0 0 0 0,.osl 0 0 0 0 0,.osl 0 0 0 0 0,.osl 0 0 0 0 0,.osl 0 0 0 0 0]]⟩:=by rw[a _ (by omega)];simp (disch:=omega) only[aA.aC,aA.bH]
 have r: ∀id,id<nx→H1 id=H id:=fun id d=>by rw[a _ (by omega)];simp (disch:=omega) only[aA.aC]
 have m0: ∀G:aA,msk (nx+5) [3] G nx=G nx:=fun G=>by unfold msk;rw[if_neg (by simp;omega)]
 have m1: ∀G:aA,msk (nx+5) [3] G (nx+1)=G (nx+1):=fun G=>by unfold msk;rw[if_neg (by simp)]
 refine⟨⟨fun _=>by rw[m1,i];rfl,fun _=>by rw[m0,boU];rfl⟩,?_⟩
 refine bxQ (x:=pU) (i0:=nx+8) (by omega) aA.bH fun G v w b=> ?_
 have bqC:G nx=some ⟨3,1,[cU c]⟩:=by rw[b _ (by omega) (by omega),aA.aC (by omega)];exact boU
 have y:G (nx+1)=some ⟨5,1,[eI s]⟩:=by rw[b _ (by omega) (by omega),aA.aC (by omega)];exact i
 have z:G (nx+2)=some ⟨5,1,[[.osl 0 0 0 0 0,.osl 0 0 0 0 0,.osl 0 0 0 0 0,.osl 0 0 0 0 0,.osl 0 0 0 0 0]]⟩:=by rw[b _ (by omega) (by omega),aA.aC (by omega)];exact q
 have A: ∀id,id<nx→G id=H id:=fun id d=>by rw[b _ (by omega) (by omega),aA.aC (by omega)];exact r id d
 clear a b boU i q r
 simp only[go_sem]
 refine⟨⟨fun _=>by rw[m1,y];rfl,fun _=>by rw[m0,bqC];rfl⟩,?_⟩
 refine bxF (l:=[]) f j (by simp) (by simp) fun H2 B C e=> ?_
 have D:=(e (nx+2) (by omega)).trans z
 simp only[go_sem,D]
 apply bn0
 repeat' first|apply bn1<;>(simp only[go_sem])|fail
 refine o _ _ _ _ _ (.inr rfl) (fZ rfl aA.bH rfl) ⟨boR (eI (bxT c s [])),_,noF,aE rfl,aK,h _ _ (by omega) fun id d=> ?_⟩
 rw[aA.aC (by omega),e _ (by omega)];exact A id d
theorem bmS:aB Tryz.prog C6 [boR (eI bmC),boR (eI bmC)] .nil 0 fun r _ _=>r.plain=true∧r=dB true:=by
 refine bmU rfl fun Q h=> ?_;unfold AS;have boU:eI bmC=[.isl (([]:List Int).map aJ),.isl (([]:List Int).map aJ),.isl [],.isl [],.isl (([]:List Job).map aS)]:=rfl;rw[boU];repeat' first| (first|apply bn1|apply YN (a:=[]) (b:=[]) (u:=[]) (v:=[]) (by simp) (by simp) (by simp) (by simp)|refine AL (a:=[]) (b:=[]) (by simp) (by simp) (fun j d=>by simp at d) (fun j d=>by simp at d) ?_)<;>(simp only[go_sem])|fail
 refine aM.gP (β:=Nat) (fun _=>en [(5,boP 0),(3,.one (.c (.ptr 5 1 0 0))),(2,.one (.c (.ptr 5 0 0 0)))]) (fun _ H1 _=>H1 0=some ⟨5,1,[eI bmC]⟩∧H1 1=some ⟨5,1,[eI bmC]⟩) (fun u=>u) 0 ⟨noF,_,by repeat' first|exact bo2|refine xqI rfl rfl ?_|refine xqP (by omega) rfl rfl ?_|fail,aK,rfl,rfl⟩ ?_;rintro _ H1 i e ⟨az5,az9⟩ bpQ k;rw[boU] at az5 az9;repeat' first|apply bn1<;>(simp only[go_sem,az5,az9])|apply bn3 (by omega)|fail
 refine aM.gP (β:=Nat) (fun _=>en [(8,boP 0),(3,.one (.c (.ptr 5 1 0 0))),(2,.one (.c (.ptr 5 0 0 0)))]) (fun _ H2 _=>H2 0=some ⟨5,1,[eI bmC]⟩∧H2 1=some ⟨5,1,[eI bmC]⟩) (fun u=>u) 0 ⟨noF,_,by repeat' first|exact bo2|refine xqI rfl rfl ?_|refine xqP (by omega) rfl rfl ?_|fail,aK,az5,az9⟩ ?_;rintro _ H2 l f ⟨boW,g⟩ bqG m;rw[boU] at boW g;repeat' first|apply bn1<;>(simp only[go_sem,boW,g])|apply bn3 (by omega)|fail
 exact aZ h _ rfl rfl rfl
theorem bmT (h:K (dB true) H nx):aB Tryz.prog C6 [boR (eI bmC),boR (eI bmC)] H nx K:=bmS.pure rfl (aI ⟨aE rfl,aE rfl,trivial⟩) fun r hr=>hr▸h
end
end Go.Proofs.YtdkfhdmagdaceaaGreat
