/- Texts laid together by a program: rules, contracts and the walk that leads to the law. -/
import Derived.Test.YtlncecohbakleaaGreatPB19
import Derived.Test.YtlncecohbakleaaGreatPB22
import Derived.Test.YtlncecohbakleaaGreatPB24
import Derived.Test.YtlncecohbakleaaGreatPB23
set_option linter.unusedVariables false
set_option linter.unusedSimpArgs false
set_option linter.unusedSectionVars false
set_option maxRecDepth 100000
set_option maxHeartbeats 8000000
namespace Go.AM
def u1:CSt:=⟨[],[],[],[],[]⟩
def inB(i:CIn):Bool:=decide (i.ready.length=3/\i.iP.length=4/\i.send.length=3)
variable{i:CIn}
theorem h8:inB i=true↔aiR i:=decide_eq_true_iff
noncomputable def evB(c:Cfg)(s:CSt)(i:CIn):List Ev:=if cyB c s=true/\inB i=true then qu c i s else []
variable{c:Cfg}{s:CSt}
theorem i2(a:cyB c s=true)(b:inB i=true):evB c s i=qu c i s:=if_pos ⟨a,b⟩
noncomputable def q4(c:Cfg)(s:CSt)(l:List CIn):Bool:=cyB c s&&(decide (l.length<=300)&&l.all inB)
noncomputable def u2(c:Cfg)(s:CSt)(l:List CIn):CSt:=if q4 c s l=true then kk c s l else u1
noncomputable def p1(c:Cfg)(s:CSt)(l:List CIn):List Ev:=if q4 c s l=true then uA c s l else []
theorem s5{l:List CIn}:q4 c s l=true↔cyB c s=true/\l.length<=300/\ ∀i∈l,aiR i:=by unfold q4;simp only[ak8,decide_eq_true_eq,akR,h8]
theorem t6{l:List CIn}:(p1 c s l).length<=3000:=by
 unfold p1;split;·rename_i h;have:=Ow (c:=c) (s:=s) (l:=l);have:=(s5.1 h).2.1;omega
 ·simp
structure p5(l:List CIn):Prop where
 len:l.length<2^21
 all: ∀i∈l,aj8 i
def h9(s:CSt):Option Mic->List Ev
 |none=>[]
 |some m=>JE s m
def LOE(c:Cfg)(f:CSt->Nat->Option Mic)(l:List Nat)(s:CSt)(E:List Ev)(S:CSt)(T:List Ev):Prop:=mU c s (L4 c f s l)=S/\E++jV c s (L4 c f s l)=T
theorem LOE.next{f:CSt->Nat->Option Mic}{S:CSt}{k:Nat}{l:List Nat}{E T:List Ev}(h:LOE c f (k::l) s E S T):LOE c f l (za c s (f s k)) (E++h9 s (f s k)) S T:=by
 unfold LOE at h
 cases a:f s k with
 |none=>rw[Dd a] at h;exact⟨h.1,by rw[h9,alE];exact h.2⟩
 |some m=>rw[Cm a] at h;exact⟨h.1,by rw[akO];exact h.2⟩
theorem LOE.none{c:Cfg}{f:CSt->Nat->Option Mic}{s S:CSt}{k:Nat}{l:List Nat}{E T:List Ev}(h:LOE c f (k::l) s E S T)(a:f s k=none):LOE c f l s E S T:=by have:=h.next;rw[a,h9,alE] at this;exact this
theorem LOE.nil{f:CSt->Nat->Option Mic}{S:CSt}{E T:List Ev}(h:LOE c f [] s E S T):s=S/\E=T:=⟨h.1,by rw[<-h.2];exact(alE E).symm⟩
structure EvI(c:Cfg)(nx:Nat)(G H:aA)(nx1:Nat)(nm:Nat->Nat)(cl:List D1)(s:CSt)(E:List Ev)(io cap:Nat):Prop where
 ok:COk c s
 rep:AF (fun id=>id<nx+18\/id=io) H nx1 nm s cl
 x:H (nx+17)=some ⟨5,1,[cl]⟩
 out: ∃m,H io=some ⟨3,m,E.map eEv⟩/\E.length<=cap/\cap<=m
 io:io=nx+4\/nx+18<=io
 fr: ∀id,id<nx+17->id≠nx+4->H id=G id
theorem AF.swap{H G:aA}{n n' p io b:Nat}{e:Nat->Nat}{f:List D1}(h:AF (fun id=>id<p\/id=io) H n e s f)(g: ∀id,id<n->id≠io->G id=H id)(i:n<=b)(d:b<n'):AF (fun id=>id<p\/id=b) G n' e s f:=
 ⟨h.rep.frame fun j c=>g _ (h.names.lt j c) fun he=>h.names.av j c (.inr he),⟨h.names.inj,fun j c=>by have:=h.names.lt j c;omega,fun j c d=>by
   rcases d with d|d
   ·exact h.names.av j c (.inl d)
   ·have:=h.names.lt j c;omega⟩,fun id a=>by
   rcases a with a|a
   ·have:=h.x id (.inl a);omega
   ·omega⟩
theorem AF.add{X:Nat->Prop}{H G:aA}{n n' b:Nat}{e:Nat->Nat}{f:List D1}(h:AF X H n e s f)(g: ∀id,id<n->G id=H id)(i:n<=b)(d:b<n'):AF (fun id=>X id\/id=b) G n' e s f:=
 ⟨h.rep.frame fun j c=>g _ (h.names.lt j c),⟨h.names.inj,fun j c=>by have:=h.names.lt j c;omega,fun j c d=>by
   rcases d with d|d
   ·exact h.names.av j c d
   ·have:=h.names.lt j c;omega⟩,fun id a=>by
   rcases a with a|a
   ·have:=h.x id a;omega
   ·omega⟩
def hS(c:Cfg)(i:CIn)(s:CSt)(k:Nat):List Ev:=if i.send.getD k default=true/\(aL s k).queue.length<2/\(aL s k).next<(c.b7.getD k default).length then [⟨1,k,(aL s k).next⟩] else []
theorem h7{c:Cfg}{i:CIn}{s:CSt}: ∀{l:List Nat} {x:CSt},l.Nodup->x.bE.length=3->(∀k∈l,k<3/\aL x k=aL s k)->jV c x (L4 c (xv c i) x l)=l.flatMap (hS c i s)
 | [],x,_,_,_=>rfl
 |k::l,x,d,hp,e=>by
  obtain⟨h,a⟩:=e k (by simp);rw[alG] at d;rw[am5];by_cases f:i.send.getD k default=true/\(aL s k).queue.length<2/\(aL s k).next<(c.b7.getD k default).length
  ·have g:xv c i x k=some (.ask k):=(by unfold xv;rw[a];exact if_pos f);rw[Cm g];show JE x (.ask k)++jV c (bS c x (.ask k)) (L4 c (xv c i) (bS c x (.ask k)) l)=_;rw[h7 (l:=l) d.2 (by simp[bS,hp]) fun j b=>⟨(e j (alL _ b)).1,?_⟩];·unfold hS;rw[if_pos f,JE,a]
   ·rw[cH (s:=x) rfl (by omega),if_neg (fun he=>d.1 (by rw[<-he];exact b))];exact(e j (alL _ b)).2
  ·have g:xv c i x k=none:=(by unfold xv;rw[a];exact if_neg f);rw[Dd g,h7 (l:=l) d.2 hp fun j b=>e j (alL _ b)];unfold hS;rw[if_neg f];rfl
theorem i0(h:s.bE.length=3):jV c s (yt c i s)=(List.range 3).flatMap (hS c i s):=by unfold yt;exact h7 (s:=s) (by decide) h fun k a=>⟨ud a,rfl⟩
theorem hW{k:Nat}:(List.range (k+1)).flatMap (hS c i s)=(List.range k).flatMap (hS c i s)++hS c i s k:=by rw[amZ,List.flatMap_append];simp
theorem aiR.fit(h:aiR i):aj8 i:=by obtain⟨a,b,c⟩:=h;exact⟨by omega,by omega,by omega⟩
theorem zz.len{s:CSt}(h:zz s):jE (2^21) s:=by
 refine⟨⟨h.w,h.h⟩,⟨h.pl,fun p hp=> ?_⟩,⟨h.sl,fun v b=> ?_⟩,h.t,h.td⟩;·obtain⟨k,a,rfl⟩:=List.getElem_of_mem hp;have:=h.port k;rw[show aL s k=s.bE[k] by simp[aL,List.getD,a]] at this;exact this
 ·obtain⟨k,a,rfl⟩:=List.getElem_of_mem b;have:=h.slv k;rw[show aU s k=s.bM[k] by simp[aU,List.getD,a]] at this;exact⟨this.1,this.2.1,this.2.2⟩
theorem COk.len{c:Cfg}{s:CSt}(a:bI c)(b:COk c s):jE (2^21) s:=zz.len ((b.base a).ajJ.fit).1
theorem COk.z(b:bI c)(a:COk c s):BG s<=2^50:=acP (a.len b) (by rw[a.pl];omega) (by rw[a.sl];omega)
theorem kW.fit(h:kW (2^21) i):aj8 i:=⟨h.1,h.2.1,h.2.2⟩
theorem p7{l:List CIn}(h:oM (kW (2^21)) (2^21) l):p5 l:=⟨h.1,fun i a=>(h.2 i a).fit⟩
theorem i3{H:aA}{io m:Nat}{l:List Ev}(c:H io=some ⟨3,m,l.map eEv⟩):aiS (without (fun j=>¬j=io) H):=fun j o a=>by
 unfold without at a;split at a;·cases a
 ·rename_i e;cases Classical.not_not.1 e;rw[c] at a;cases a;intro r f d b;obtain⟨x,_,rfl⟩:=akJ.1 f;unfold eEv at b;simp only[akK,alM,or_false] at b;rcases b with rfl|rfl|rfl<;>rfl
end Go.AM
namespace Go.Proofs.YtlncecohbakleaaGreat
open Go Go.AM
attribute [local irreducible] aH wv aC vd wvH
def c2:AC:= (SR [RO 3 0,RO 4 1,RV 6 kF] [2,3,4] (SR [RV 7 (ki 1048576)] [2,3,4,7] (SR [RD 17 3 3,RM 18 7,RC 19 O4 [17,18],RM 7 19] [2,3,4,7] (.seq (SR [RM 20 7,RB 21 .lss 20 (ki 0)] [2,3,4,7,21] (.cond 21 (SR [RV 6 kT] [6] .ret) .skip)) (SR [RD 22 5 4,RM 23 7,RC 24 JS [22,23],RM 7 24] [2,3,4,7] (.seq (SR [RM 25 7,RB 26 .lss 25 (ki 0)] [2,3,4,7,26] (.cond 26 (SR [RV 6 kT] [6] .ret) .skip)) (SR [RM 27 2,RM 28 7,RC 29 PK [27,28],RM 7 29] [2,3,4,7] (.seq (SR [RM 30 7,RB 31 .lss 30 (ki 0)] [2,3,4,31] (.cond 31 (SR [RV 6 kT] [6] .ret) .skip)) (.seq (.region [RD 32 3 3 0,RX 34 (.load 5 true 4) [] [] true 2,RM 36 2 4,RX 33 (.call FD [32]) [] [2] false 1,RC 35 zB [34] 3,RC 37 EL [36] 5,RC 38 Wa [33,35,37] 6,RM 8 38 7] 8 [2,3,4,8]) (SR [RD 39 3 3,RC 40 FD [39],RA 9 [OZ,OZ,OZ],WS 3 true 9 40] [2,3,4,8,9] (SR [RD 41 5 4,RC 42 zB [41],RA 10 [OZ,OZ,OZ,OZ,OZ],WS 5 true 10 42] [2,3,4,8,9,10] (SR [RM 43 2,RC 44 EL [43],RM 11 44] [2,3,4,8,9,10,11] (SR [RD 45 3 9,RD 46 5 10,RM 47 11,RC 48 qh [45,46,47],RM 12 48] [2,3,4,8,9,10,11,12] (.seq (SR [RM 49 12,RM 50 8,RC 51 oF [49,50],RU 52 51] [2,3,4,8,9,10,11,12,52] (.cond 52 (SR [RV 6 kF] [6] .ret) .skip)) (.seq (SR [RX 53 (.load 3 true 9) [] [] true,RD 54 3 3,RX 55 (.call FD [54]) [] [0] false,RC 56 E7 [53,55],RU 57 56] [2,3,4,8,9,10,11,12,57] (.cond 57 (SR [RV 6 kF] [6] .ret) .skip)) (.seq (SR [RX 58 (.load 5 true 10) [] [] true,RD 59 5 4,RX 60 (.call zB [59]) [] [0] false,RC 61 zM [58,60],RU 62 61] [2,3,4,8,9,10,11,12,62] (.cond 62 (SR [RV 6 kF] [6] .ret) .skip)) (.seq (SR [RM 63 11,RM 64 2,RC 65 EL [64],RC 66 EY [63,65],RU 67 66] [2,3,4,8,9,10,11,12,67] (.cond 67 (SR [RV 6 kF] [6] .ret) .skip)) (SR [RV 13 (ki 1)] [2,3,4,8,9,10,11,12,13] (SR [RD 68 3 9,RM 69 13,RC 70 J7 [68,69],RM 13 70] [2,3,4,8,10,11,12,13] (SR [RD 71 5 10,RM 72 13,RC 73 FT [71,72],RM 13 73] [2,3,4,8,11,12,13] (SR [RM 74 11,RM 75 13,RC 76 JK [74,75],RM 13 76] [2,3,4,8,12,13] (.seq (SR [RM 77 13,RB 78 .lss 77 (ki 0),RM 79 78,GM 80 12 79 false,GM 81 8 79 false,GQ 82 (.call oF [80,81]) 79 false,GU 83 82 79 false,RP 84 79 kT 83] [2,3,4,8,12,84] (.cond 84 (SR [RV 6 kF] [6] .ret) .skip)) (SR [RV 14 (ki 1)] [2,3,4,8,12,14] (SR [RM 85 12,RM 86 14,RC 87 DN [85,86],RM 14 87] [2,3,4,8,12,14] (SR [RV 15 (ki 1)] [2,3,4,8,12,14,15] (SR [RM 88 12,RM 89 15,RC 90 rO [88,89],RM 15 90] [2,3,4,8,12,14,15] (.seq (SR [RM 91 15,RB 92 .lss 91 (ki 0)] [2,3,4,8,12,14,15,92] (.cond 92 (SR [RV 6 kF] [6] .ret) .skip)) (.seq (SR [RM 93 15,RM 94 14,RB 95 .neq 93 94] [2,3,4,8,12,14,95] (.cond 95 (SR [RV 6 kF] [6] .ret) .skip)) (.seq (.region [RD 96 3 3 0,RX 98 (.load 5 true 4) [] [] true 2,RM 100 2 4,RX 97 (.call FD [96]) [] [2] false 1,RC 99 zB [98] 3,RC 101 EL [100] 5,RC 102 qh [97,99,101] 6,RM 16 102 7] 8 [8,12,14,16]) (.seq (SR [RM 103 16,RM 104 8,RC 105 oF [103,104],RU 106 105] [12,14,106] (.cond 106 (SR [RV 6 kF] [6] .ret) .skip)) (SR [RV 15 (ki 1)] [12,14,15] (SR [RM 107 12,RM 108 15,RC 109 rO [107,108],RM 15 109] [14,15] (.seq (SR [RM 110 15,RB 111 .lss 110 (ki 0)] [14,15,111] (.cond 111 (SR [RV 6 kF] [6] .ret) .skip)) (.seq (SR [RM 112 15,RM 113 14,RB 114 .neq 112 113] [114] (.cond 114 (SR [RV 6 kF] [6] .ret) .skip)) (SR [RV 6 kT] [6] .ret)))))))))))))))))))))))))))))))))))
def l0:List aR:=[.tm 6]
theorem p2:aK an2 Tryz.f10 (aV c2)=some (c2,l0):=by kernel_rfl
def t7:AC:= (SR [RO 3 0,RO 4 1,RA 6 [OZ,OZ,OZ,OZ,OZ]] [2,3,4,6] (.seq (SR [RD 9 3 3,RD 10 5 4,RC 11 de [9,10],RU 12 11,RM 13 12,GM 14 2 13 false,GQ 15 (.len false 14) 13 false,GB 16 .gtr 15 (ki 300) 13 false,RP 17 13 kT 16,RM 18 17,GM 19 2 18 false,GQ 20 (.call aeK [19]) 18 false,GU 21 20 18 false,RP 22 18 kT 21] [2,3,4,6,22] (.cond 22 (SR [rq 23 (.build [OZ,OZ,OZ,OZ,OZ] []),WS 5 true 6 23] [6] .ret) .skip)) (SR [RD 24 5 4,RC 25 VJ [24],RA 7 [OZ,OZ,OZ,OZ,OZ],WS 5 true 7 25] [2,3,6,7] (.seq (SR [RV 8 (ki 0)] [2,3,6,7,8] (.block 0 (.loop (.seq (SR [RM 26 8,RM 27 2,RN 28 27,RB 29 .lss 26 28] [2,3,6,7,8,29] (.cond 29 .skip (.exit 0))) (.seq (.block 1 (RG [RD 32 3 3,RD 33 5 7,RM 34 2,RM 35 8,RI 36 3 34 35,RD 37 3 36,RC 38 SD [32,33,37],WS 5 true 7 38] [2,3,6,7,8])) (RG [RM 30 8,RB 31 .add 30 (ki 1),RM 8 31] [2,3,6,7,8])))))) (SR [RD 39 5 7,RC 40 VJ [39],WS 5 true 6 40] [6] .ret)))))
def u0:List aR:=[.cell 6 5 true]
def c6:AC:= (SR [RO 1 0,RV 2 kF] [1] (SR [RF 3 0 1,RL 4 3,RN 5 4,RB 6 .eql 5 (ki 3),RM 7 6,GF 8 1 1 7 true,GL 9 8 7 true,GQ 10 (.len false 9) 7 true,GB 11 .eql 10 (ki 4) 7 true,RP 12 7 11 kF,RM 13 12,GF 14 2 1 13 true,GL 15 14 13 true,GQ 16 (.len false 15) 13 true,GB 17 .eql 16 (ki 3) 13 true,RP 18 13 17 kF,RM 2 18] [2] .ret))
def hN:List aR:=[.tm 2]
theorem h5:aK an2 Tryz.f49 (aV c6)=some (c6,hN):=by kernel_rfl
def o5:AC:= (SR [RV 2 kF] [0] (.seq (SR [RV 3 (ki 0)] [0,3] (.block 0 (.loop (.seq (SR [RM 4 3,RM 5 0,RN 6 5,RB 7 .lss 4 6] [0,3,7] (.cond 7 .skip (.exit 0))) (.seq (.block 1 (SR [RM 10 0,RM 11 3,RI 12 3 10 11,RD 13 3 12,RC 14 ae8 [13],RU 15 14] [0,3,15] (.cond 15 (SR [RV 2 kF] [2] .ret) .skip))) (RG [RM 8 3,RB 9 .add 8 (ki 1),RM 3 9] [0,3])))))) (SR [RV 2 kT] [2] .ret)))
def p6:List aR:=[.tm 2]
theorem t4:aK an2 Tryz.f74 (aV o5)=some (o5,p6):=by kernel_rfl
section
variable{H:aA}{nx:Nat}{K:an4}
theorem hK{i:CIn}(k:i.ready.length<2^21)(l:i.iP.length<2^21)(m:i.send.length<2^21)(h:K (dB (inB i)) H nx):an3 ll [dA (eIn i)] H nx K:=by
 refine aC.pure (args0:=[dA (eIn i)]) (R:=fun f=>f=dB (inB i)) ?_ rfl (aE ⟨aD rfl,trivial⟩) (fun r g=>g▸h);clear h;refine adE rfl fun Q c=> ?_;unfold NT;by_cases b:i.ready.length=3
 ·by_cases d:i.iP.length=4
  ·by_cases e:i.send.length=3
   ·have a:inB i=true:=decide_eq_true ⟨b,d,e⟩;repeat' first| (first|apply vI|apply Y4 (by omega))<;>(simp only[go_sem,b,d,e])|fail
    all_goals exact aJ c _ rfl rfl (congrArg dB a.symm)
   ·have a:inB i=false:=decide_eq_false fun h=>e h.2.2;have j:decide ((i.send.length:Int)=3)=false:=decide_eq_false (by omega);repeat' first| (first|apply vI|apply Y4 (by omega))<;>(simp only[go_sem,b,d,j])|fail
    all_goals first|exact aJ c _ rfl rfl (congrArg dB a.symm)|omega
  ·have a:inB i=false:=decide_eq_false fun h=>d h.2.1;repeat' first| (first|apply vI|apply Y4 (by omega)|apply Y5 (by omega))<;>(simp only[go_sem,b])|fail
   all_goals first|exact aJ c _ rfl rfl (congrArg dB a.symm)|omega
 ·have a:inB i=false:=decide_eq_false fun h=>b h.1;repeat' first| (first|apply vI|apply Y5 (by omega))<;>(simp only[go_sem])|fail
  all_goals first|exact aJ c _ rfl rfl (congrArg dB a.symm)|omega
theorem hH{i:CIn}(k:i.ready.length<2^21)(l:i.iP.length<2^21)(m:i.send.length<2^21)(h:K (dB (inB i)) H nx):an3 ae8 [dA (eIn i)] H nx K:=by
 refine aC.pure (args0:=[dA (eIn i)]) (R:=fun f=>f=dB (inB i)) ?_ rfl (aE ⟨aD rfl,trivial⟩) (fun r g=>g▸h);clear h;refine aM.mk Tryz.func49 (by kernel_rfl) h5 rfl fun Q c=> ?_;unfold c6;by_cases b:i.ready.length=3
 ·by_cases d:i.iP.length=4
  ·by_cases e:i.send.length=3
   ·have a:inB i=true:=decide_eq_true ⟨b,d,e⟩;repeat' first| (first|apply vI|apply Y4 (by omega))<;>(simp only[go_sem,b,d,e])|fail
    all_goals exact aJ c _ rfl rfl (congrArg dB a.symm)
   ·have a:inB i=false:=decide_eq_false fun h=>e h.2.2;have j:decide ((i.send.length:Int)=3)=false:=decide_eq_false (by omega);repeat' first| (first|apply vI|apply Y4 (by omega))<;>(simp only[go_sem,b,d,j])|fail
    all_goals first|exact aJ c _ rfl rfl (congrArg dB a.symm)|omega
  ·have a:inB i=false:=decide_eq_false fun h=>d h.2.1;repeat' first| (first|apply vI|apply Y4 (by omega)|apply Y5 (by omega))<;>(simp only[go_sem,b])|fail
   all_goals first|exact aJ c _ rfl rfl (congrArg dB a.symm)|omega
 ·have a:inB i=false:=decide_eq_false fun h=>b h.1;repeat' first| (first|apply vI|apply Y5 (by omega))<;>(simp only[go_sem])|fail
  all_goals first|exact aJ c _ rfl rfl (congrArg dB a.symm)|omega
theorem h6{τ:Nat->Nat}{n m:Nat}{l:List Ev}:bQ.rn τ ⟨n,m,l.map eEv⟩=⟨n,m,l.map eEv⟩:=by refine CS fun r a x b=> ?_;obtain⟨y,_,rfl⟩:=akJ.1 a;exact akR.1 (Ms y).2 x b
theorem p4{i:CIn}(a:aj8 i)(h:K (dB (!inB i)) H nx):an3 WB [dA (eIn i)] H nx K:=by
 refine aC.pure (args0:=[dA (eIn i)]) (R:=fun b=>b=dB (!inB i)) ?_ rfl (aE ⟨aD rfl,trivial⟩) (fun r c=>c▸h);clear h;refine Xr rfl fun Q d=> ?_;unfold HB;repeat' first| (first|apply vI|apply hK (i:=i) a.r a.t a.s)<;>(simp only[go_sem])|fail
 all_goals first|with_reducible refine aJ d _ rfl rfl ?_|skip
 all_goals first|exact rL (by omega)|exact uE (by omega)|exact j9 (by omega)|rfl
theorem q5{c:Cfg}{s:CSt}{l:List CIn}(a:OJ c)(k:zz s)(n:p5 l)(h:K (dB (q4 c s l)) H nx):an3 SV [dA (cD c),dA (dY s),dS (l.map eIn)] H nx K:=by
 refine aC.pure (args0:=[dA (cD c),dA (dY s),dS (l.map eIn)]) (R:=fun t=>t=dB (q4 c s l)) ?_ rfl (aE ⟨aD rfl,aD rfl,aD rfl,trivial⟩) (fun r u=>u▸h);clear h;refine acQ rfl fun Q m=> ?_;unfold NW;have v:=n.len;cases e:cyB c s
 ·repeat' first| (first|apply vI|apply abP a k)<;>(simp only[go_sem,e])|fail
  refine aJ m _ rfl rfl (by unfold q4;rw[e];rfl)
 by_cases q:l.length<=300
 ·have b:((l.length:Int)<=300)=True:=eq_true (by omega);have f:0<=bR (fun i=> !inB i) l↔l.all inB=false:=by rw[eA,<-Bool.not_eq_true,akR];simp
  cases j:l.all inB
  ·have d:(0<=bR (fun i=> !inB i) l)=True:=eq_true (f.2 j);have g:decide (0<=bR (fun i=> !inB i) l)=true:=decide_eq_true (f.2 j);repeat' first| (first|apply vI|apply abP a k|refine XL (l:=l) (caps:=[]) (p:=fun i=> !inB i) (by omega) rfl (aD rfl) (pO rfl) (fun x o H nx K h=>p4 (n.all x o) h) ?_)<;>(simp only[go_sem,e,b,d,g])|fail
   refine aJ m _ rfl rfl (by unfold q4;rw[e,j,Bool.and_false,Bool.and_false];rfl)
  ·have d:(0<=bR (fun i=> !inB i) l)=False:=eq_false fun h=>by rw[f.1 h] at j;cases j
   have g:decide (0<=bR (fun i=> !inB i) l)=false:=(by simp only[d,decide_false]);repeat' first| (first|apply vI|apply abP a k|refine XL (l:=l) (caps:=[]) (p:=fun i=> !inB i) (by omega) rfl (aD rfl) (pO rfl) (fun x o H nx K h=>p4 (n.all x o) h) ?_)<;>(simp only[go_sem,e,b,d,g])|fail
   refine aJ m _ rfl rfl (by unfold q4;rw[e,j,decide_eq_true q];rfl)
 ·have b:((l.length:Int)<=300)=False:=eq_false (by omega);repeat' first| (first|apply vI|apply abP a k)<;>(simp only[go_sem,e,b])|fail
  refine aJ m _ rfl rfl (by unfold q4;rw[e,decide_eq_false q];rfl)
theorem p3{c:Cfg}{s:CSt}{l:List CIn}(G:OJ c)(hf:zz s)(I:p5 l)
 (h: ∀H' nx' io m,nx<=io->io<nx'->H' io=some ⟨3,m,(p1 c s l).map eEv⟩->(p1 c s l).length<=m->(∀id,id<nx->H' id=H id)->K (dO 3 io (p1 c s l).length (p1 c s l).length) H' nx'):an3 qh [dA (cD c),dA (dY s),dS (l.map eIn)] H nx K:=by
 cases J:q4 c s l
 ·unfold p1 at h;rw[if_neg (by rw[J];decide)] at h;apply aC.VP;refine Sz rfl fun Q Y=> ?_;unfold BP;apply aH.kd 3;repeat' first| (first|apply vI|apply q5 G hf I)<;>(simp only[go_sem,J,nL])|fail
  exact Y _ _ _ _ _ (.inr rfl) rfl ⟨dO 3 nx 0 0,_,noF,lM (.Fq ..),aF,h _ _ nx 0 (akA _) (by omega) (by simp (disch:=omega) only[aA.aB,aA.aI];rfl) (akA _) fun id f=>by simp (disch:=omega) only[aA.aB]⟩
 unfold p1 at h
 rw[if_pos J] at h
 obtain⟨h2,hl,hi⟩:=s5.1 J
 obtain⟨Z,hs⟩:=ajC.1 h2
 refine Sz rfl fun Q Y=> ?_
 unfold BP
 repeat' first| (first|apply vI|apply q5 G hf I|refine Ft (hs.sz Z) (fun H' nx' nm cells hx q hP t=> ?_))<;>(simp only[go_sem,J,nL])|fail
 have L:cells.length=5:=by obtain⟨_,_,_,_,_,rfl,_⟩:=q.ex;rfl
 have M:cells++List.drop cells.length [D1.osl 0 0 0 0 0,.osl 0 0 0 0 0,.osl 0 0 0 0 0,.osl 0 0 0 0 0,.osl 0 0 0 0 0]=cells:=by rw[L];simp
 refine⟨L,by omega,?_⟩
 rw[M]
 try apply kI
 repeat' first|apply vI<;>(simp only[go_sem])|fail
 apply aH.kd 3
 refine aH.Ia fun C r=> ?_
 have N: ∀id,id<nx+2->C id=((H.set nx ⟨3,1,[cD c]⟩).set (nx+1) ⟨5,1,[dY s]⟩) id:=fun id f=>by rw[r,aA.aB (by omega),aA.aB (by omega),t id (by omega)]
 have c0:C nx=some ⟨3,1,[cD c]⟩:=by rw[N _ (by omega),aA.aB (by omega)];exact aA.aI
 have aa: ∀id,id<nx->C id=H id:=fun id f=>by rw[N _ (by omega),aA.aB (by omega),aA.aB (by omega)]
 have i4:Rep (fun id=>id<nx+2\/id=nx'+1+3) C (nx'+1+3+1) (nx+10) nm s:=by have v:=fun k g=>hP.rng k g;refine⟨⟨cells,by rw[r,aA.aB (by omega)];exact aA.aI,q.frame fun k g=>by have:=v k g;rw[r,aA.aB (by omega),aA.aB (by omega)]⟩,⟨hP.inj,fun k g=>by have:=v k g;omega,fun k g hn=>by have:=v k g;omega⟩,fun k g=>by have:=v k g;omega,⟨by omega,by omega⟩,fun id f=>by omega⟩
 have u4:C (nx'+1+3)=some ⟨3,0,[]⟩:=by rw[r];exact aA.aI
 clear r q hP t
 refine aH.cE (β:=Nat×(Nat->Nat)×Nat×Nat) (fun u=>en [(20,dI u.1),(19,dI l.length),(18,dS (l.map eIn)),(8,.one (.c (.osl 3 u.2.2.1 0 (uA c s (l.take u.1)).length u.2.2.2))),(7,.one (.c (.ptr 5 (nx+10) 0 0))),(3,.one (.c (.ptr 3 nx 0 0)))])
  (fun u H1 j=>u.1<=l.length/\nx+2<=u.2.2.1/\Rep (fun id=>id<nx+2\/id=u.2.2.1) H1 j (nx+10) u.2.1 (kk c s (l.take u.1))/\(∀id,id<nx+2->H1 id=C id)/\ ∃m,H1 u.2.2.1=some ⟨3,m,(uA c s (l.take u.1)).map eEv⟩/\(uA c s (l.take u.1)).length<=u.2.2.2/\u.2.2.2<=m)
  (fun u=>l.length-u.1) (0,nm,nx'+1+3,0) ⟨noF,_,by(repeat' first|exact C1|refine xqI rfl rfl ?_|refine xqP (by omega) rfl rfl ?_| (with_reducible apply C2)| ((with_reducible apply C0);exact CC)| ((with_reducible apply D0);apply CJ)|fail);all_goals exact .Fq ..,aF,by dsimp only;omega,by dsimp only;omega,i4,fun _ _=>rfl,0,u4,by simp[uA],akA _⟩ ?_
 rintro⟨k,cc,io,cap⟩ H1 j cd ⟨g,P,q,D,m,W,g2,g3⟩ KL ab
 dsimp only at g P q W g2 g3
 have g0:=(D nx (by omega)).trans c0
 obtain⟨O,o⟩: ∃O,O=uA c s (l.take k):=⟨_,rfl⟩
 obtain⟨S,w⟩: ∃S,S=kk c s (l.take k):=⟨_,rfl⟩
 have u5:COk c S:=by rw[w];exact(aeE Z hs).1
 rw[<-w] at q
 rw[<-o] at W g2
 have cf:=q.x io (.inr rfl)
 have ad:=q.i0
 have cl:O.length<=3000:=by have p:=Ow (c:=c) (l:=l.take k) (s:=s);rw[<-o,ak1] at p;omega
 by_cases E:k<l.length
 ·obtain⟨i,f⟩: ∃i,i=l.getD k default:=⟨_,rfl⟩
  have ao:aiR i:=by rw[f];exact hi _ (bL E)
  have hA:bH j [nx,io]:=AM.apart (by simp;omega) (by simp;omega);simp only[bH,cU] at hA;rw[<-o];repeat' first|apply vI<;>(simp only[go_sem,akB,akC,f.symm,g0,hA])|apply vT (by omega)|refine⟨by omega,?_⟩|fail
  have A:=q.names.lt;refine Ii (X:=fun id=>id<nx+2\/id=io\/(j<=id/\id<j+12)) Z u5 ao (q.frame (by omega) (aA.aB (by omega)) (fun k g=>aA.aB (by have:=A k g;omega)) fun id n=> ?_) fun H2 az bl a b d e cp y R=> ?_
  ·refine⟨by omega,fun he=> ?_,fun k g he=> ?_⟩
   ·rcases n with p|p|p;·omega
    ·exact ad.2 (.inr (he▸p))
    ·omega
   ·have:=A k g;rcases n with p|p|p;·exact q.names.av k g (.inl (he▸p))
    ·exact q.names.av k g (.inr (he▸p))
    ·omega
  have f1:H2 io=some ⟨3,m,O.map eEv⟩:=by rw[R io (.inr (.inl rfl)),aA.aB (by omega)];exact W
  have t: ∀id,id<nx+2->H2 id=C id:=fun id f=>by rw[R id (.inl f),aA.aB (by omega)];exact D id f
  have cq:=abI (c:=c) (i:=i) (s:=S);have T:bH az [nx,io,j+5,j+10]:=AM.apart (by simp;omega) (by simp;omega);simp only[bH,cU] at T;have hz:(io=j+10)=False:=eq_false (by omega);simp only[go_sem,akB,f1,hA,T,hz];have F:uA c s (l.take (k+1))=O++qu c i S:=by rw[afB E,<-o,<-w,<-f]
  have br:kk c s (l.take (k+1))=T5 c i S:=by rw[ahR E,<-w,<-f]
  refine⟨g3,by omega,fun B U ct=> ?_⟩;try apply kI
  repeat' first|apply vI<;>(simp only[go_sem];try simp (disch:=omega) only[Iw])|fail
  have z:=y.names.av;have V:=y.i0;have cw:=y.names.lt;refine ab _ _ _ (k+1,bl,j+10,B) noF _ (by omega) (by dsimp only;omega) (by dsimp only;rw[F,akG];repeat' first|exact C1|refine xqI rfl rfl ?_|refine xqP (by omega) rfl rfl ?_|refine xqO (by omega) rfl rfl (by rfl) ?_|fail) aF ⟨by dsimp only;omega,by dsimp only;omega,?_,fun id f=> ?_,B,?_,?_,akA _⟩
  ·dsimp only;rw[br];refine y.frame (by omega) ?_ (fun k g=> ?_) fun id n=> ?_;·rw[aA.aB (fun he=>V.2 (.inr (.inr ⟨by omega,by omega⟩))),aA.gK (fun he=>V.2 (.inr (.inl he)))]
   ·rw[aA.aB (fun he=>z k g (.inr (.inr ⟨by omega,by omega⟩))),aA.gK (fun he=>z k g (.inr (.inl he)))]
   ·rcases n with p|p;·exact⟨by omega,by omega,fun k g he=>z k g (.inl (he▸p))⟩
    ·exact⟨by omega,by omega,fun k g he=>z k g (.inr (.inr ⟨by omega,by omega⟩))⟩
  ·rw[aA.aB (by omega),aA.gK (by omega)];exact t id f
  ·dsimp only;rw[F,akQ];exact aA.aI
  ·dsimp only;rw[F,akG];exact U
 ·rw[<-o];have ca:O=uA c s l:=by rw[o,akM (by omega)]
  repeat' first| (first|apply vI|apply Vq (l:=O) (by omega) g2 (by omega) W)<;>(simp only[go_sem])|apply vF (by omega)|fail
  rw[<-ca] at h;exact Y _ _ _ _ _ (.inr rfl) rfl (h _ _ io m (by omega) (by omega) aA.aI (by omega) fun id f=>by rw[aA.aB (by omega),D id (by omega)];exact aa id f)
end
def k2:AC:= (SR [RO 3 0,RO 4 1,RV 6 (.kv (.slice none 0 0))] [2,3,4] (SR [rq 10 (.bY 3 0 [VZ,VZ,VZ] []),RM 7 10] [2,3,4,7] (.seq (SR [RD 11 3 3,RD 12 5 4,RC 13 de [11,12],RU 14 13,RM 15 14,GM 16 2 15 false,GQ 17 (.len false 16) 15 false,GB 18 .gtr 17 (ki 300) 15 false,RP 19 15 kT 18,RM 20 19,GM 21 2 20 false,GQ 22 (.call aeK [21]) 20 false,GU 23 22 20 false,RP 24 20 kT 23] [2,3,4,7,24] (.cond 24 (SR [RM 25 7,RM 6 25] [6] .ret) .skip)) (SR [RD 26 5 4,RC 27 VJ [26],RA 8 [OZ,OZ,OZ,OZ,OZ],WS 5 true 8 27] [2,3,7,8] (.seq (SR [RV 9 (ki 0)] [2,3,7,8,9] (.block 0 (.loop (.seq (SR [RM 28 9,RM 29 2,RN 30 29,RB 31 .lss 28 30] [2,3,7,8,9,31] (.cond 31 .skip (.exit 0))) (.seq (.block 1 (SR [RM 34 7,RD 35 3 3,RD 36 5 8,RM 37 2,RM 38 9,RI 39 3 37 38,RD 40 3 39,RC 41 Ty [35,36,40],rq 42 (.append 3 34 41),RM 7 42] [2,3,7,8,9] (RG [RD 43 3 3,RD 44 5 8,RM 45 2,RM 46 9,RI 47 3 45 46,RD 48 3 47,RC 49 SD [43,44,48],WS 5 true 8 49] [2,3,7,8,9]))) (RG [RM 32 9,RB 33 .add 32 (ki 1),RM 9 33] [2,3,7,8,9])))))) (SR [RM 50 7,RM 6 50] [6] .ret))))))
def p0:List aR:=[.tm 6]
theorem q6:aK an2 Tryz.f32 (aV k2)=some (k2,p0):=by kernel_rfl
def b5:AC:= (SR [RO 3 0,RO 4 1,RO 5 2,RV 6 (.kv (.slice none 0 0))] [3,4,5] (SR [rq 14 (.bY 3 0 [VZ,VZ,VZ] []),RM 7 14] [3,4,5,7] (.seq (SR [RD 15 3 3,RD 16 5 4,RC 17 de [15,16],RU 18 17,RM 19 18,GQ 20 (.load 3 true 5) 19 false,GQ 21 (.call ae8 [20]) 19 false,GU 22 21 19 false,RP 23 19 kT 22] [3,4,5,7,23] (.cond 23 (SR [RM 24 7,RM 6 24] [6] .ret) .skip)) (SR [RD 25 5 4,RC 26 VJ [25],RA 8 [OZ,OZ,OZ,OZ,OZ],WS 5 true 8 26] [3,5,7,8] (.seq (SR [RV 9 (ki 0)] [3,5,7,8,9] (.block 0 (.loop (.seq (SR [RM 27 9,RB 28 .lss 27 (ki 3)] [3,5,7,8,9,28] (.cond 28 .skip (.exit 0))) (.seq (.block 1 (SR [RF 31 0 5,RL 32 31,RM 33 9,RI 34 1 32 33,RL 35 34,RM 36 35,GQ 37 (.load 5 true 8) 36 true,GM 38 9 36 true,GQ 39 (.call LI [37,38]) 36 true,GB 40 .geq 39 (ki 0) 36 true,RP 41 36 40 kF] [3,5,7,8,9,41] (.cond 41 (SR [RM 42 7,RM 43 9,RF 44 3 8,RW 45 44 [14] [] true,RD 46 5 8,RM 47 9,RX 48 (.call LI [46,47]) [] [3] false,RI 49 3 45 48,RF 50 1 49,RL 51 50,RI 52 5 51 (ki 0),RF 53 1 52,RL 54 53,rq 55 (.build [VZ,VZ,VZ] [(0,1,(ki 3)),(1,1,43),(2,1,54)]),rq 56 (.bY 3 1 [VZ,VZ,VZ] [(0,3,55)]),rq 57 (.append 3 42 56),RM 7 57] [3,5,7,8,9] (RG [RD 58 5 8,RM 59 9,RC 60 K5 [58,59],WS 5 true 8 60] [3,5,7,8,9])) .skip))) (RG [RM 29 9,RB 30 .add 29 (ki 1),RM 9 30] [3,5,7,8,9])))))) (.seq (SR [RV 10 (ki 0)] [3,5,7,8,10] (.block 2 (.loop (.seq (SR [RM 61 10,RB 62 .leq 61 (ki 3)] [3,5,7,8,10,62] (.cond 62 .skip (.exit 2))) (.seq (.block 3 (.seq (SR [RF 65 1 5,RL 66 65,RM 67 10,RI 68 1 66 67,RL 69 68,RU 70 69,RM 71 70,GQ 72 (.load 5 true 8) 71 true,GM 73 10 71 true,GQ 74 (.call HK [72,73]) 71 true,RP 75 71 74 kF] [3,5,7,8,10,75] (.cond 75 (RG [RM 76 7,RF 77 3 8,RL 78 77,RM 79 10,RI 80 3 78 79,RF 81 0 80,RL 82 81,RI 83 3 82 (ki 0),RF 84 0 83,RL 85 84,RF 86 3 8,RL 87 86,RM 88 10,RI 89 3 87 88,RF 90 0 89,RL 91 90,RI 92 3 91 (ki 0),RF 93 1 92,RL 94 93,rq 95 (.build [VZ,VZ,VZ] [(0,1,(ki 2)),(1,1,85),(2,1,94)]),rq 96 (.bY 3 1 [VZ,VZ,VZ] [(0,3,95)]),rq 97 (.append 3 76 96),RM 7 97] [3,5,7,8,10]) .skip)) (SR [RF 98 1 5,RL 99 98,RM 100 10,RI 101 1 99 100,RL 102 101,RU 103 102] [3,5,7,8,10,103] (.cond 103 (RG [RD 104 3 3,RD 105 5 8,RM 106 10,RC 107 KS [104,105,106],WS 5 true 8 107] [3,5,7,8,10]) .skip)))) (RG [RM 63 10,RB 64 .add 63 (ki 1),RM 10 64] [3,5,7,8,10])))))) (SR [rq 108 (.iX 1 [(.v (.bool false))] (ki 3) (ki 3)),RM 11 108] [3,5,7,8,11] (.seq (SR [RV 12 (ki 0)] [3,5,7,8,11,12] (.block 4 (.loop (.seq (SR [RM 109 12,RB 110 .leq 109 (ki 3)] [3,5,7,8,11,12,110] (.cond 110 .skip (.exit 4))) (.seq (.block 5 (RG [RD 113 3 3,RD 114 5 8,RM 115 12,RM 116 11,RC 117 OC [113,114,115,116],WS 5 true 8 117] [3,5,7,8,11,12])) (RG [RM 111 12,RB 112 .add 111 (ki 1),RM 12 112] [3,5,7,8,11,12])))))) (.seq (SR [RV 13 (ki 0)] [3,5,7,8,13] (.block 6 (.loop (.seq (SR [RM 118 13,RB 119 .lss 118 (ki 3)] [3,5,7,8,13,119] (.cond 119 .skip (.exit 6))) (.seq (.block 7 (SR [RF 122 2 5,RL 123 122,RM 124 13,RI 125 1 123 124,RL 126 125,RM 127 126,GQ 128 (.load 3 true 3) 127 true,GQ 129 (.load 5 true 8) 127 true,GM 130 13 127 true,GQ 131 (.call IT [128,129,130]) 127 true,RP 132 127 131 kF] [3,5,7,8,13,132] (.cond 132 (RG [RM 133 7,RM 134 13,RF 135 2 8,RL 136 135,RM 137 13,RI 138 4 136 137,RF 139 0 138,RL 140 139,rq 141 (.build [VZ,VZ,VZ] [(0,1,(ki 1)),(1,1,134),(2,1,140)]),rq 142 (.bY 3 1 [VZ,VZ,VZ] [(0,3,141)]),rq 143 (.append 3 133 142),RM 7 143] [3,5,7,8,13]) .skip))) (RG [RM 120 13,RB 121 .add 120 (ki 1),RM 13 121] [3,5,7,8,13])))))) (SR [RM 144 7,RM 6 144] [6] .ret))))))))))
def e8:List aR:=[.tm 6]
theorem hI:aK an2 Tryz.f47 (aV b5)=some (b5,e8):=by kernel_rfl
section
variable{H:aA}{nx:Nat}{K:an4}
variable{c:Cfg}{s:CSt}
theorem hD{i:CIn}(dz:OJ c)(hf:zz s)(hi:aj8 i)
 (h: ∀H' nx' io cap m,nx<=io->io<nx'->H' io=some ⟨3,m,(evB c s i).map eEv⟩->(evB c s i).length<=cap->cap<=m->(∀id,id<nx->H' id=H id)->K (dO 3 io (evB c s i).length cap) H' nx'):an3 Ty [dA (cD c),dA (dY s),dA (eIn i)] H nx K:=by
 obtain⟨l1,l2,l3⟩:=hi
 refine bA.mk Tryz.func47 (by kernel_rfl) hI rfl fun Q hQ=> ?_
 unfold b5
 have hz: ¬(cyB c s=true/\inB i=true)->evB c s i=[]:=fun h=>if_neg h
 cases J:cyB c s
 ·rw[hz (fun h=>by rw[J] at h;exact absurd h.1 (by decide))] at h;repeat' first| (first|apply vI|apply abQ dz hf)<;>(simp only[go_sem,J,nL])|fail
  exact hQ _ _ _ _ _ (.inr rfl) rfl (h _ _ (nx+4) 0 0 (by omega) (by omega) (by simp (disch:=omega) only[aA.aB,aA.aI];rfl) (akA _) (akA _) fun id T=>by simp (disch:=omega) only[aA.aB])
 cases y:inB i
 ·rw[hz (fun h=>by rw[y] at h;exact absurd h.2 (by decide))] at h;repeat' first| (first|apply vI|apply abQ dz hf|apply hH (i:=i) (by omega) (by omega) (by omega))<;>(simp only[go_sem,J,y,nL])|fail
  exact hQ _ _ _ _ _ (.inr rfl) rfl (h _ _ (nx+4) 0 0 (by omega) (by omega) (by simp (disch:=omega) only[aA.aB,aA.aI];rfl) (akA _) (akA _) fun id T=>by simp (disch:=omega) only[aA.aB])
 rw[i2 J y] at h
 obtain⟨hb,hs⟩:=ajC.1 J
 have ct:=h8.1 y
 have kt:=hs.sz hb
 obtain⟨ia,ec,ed⟩:=ct
 repeat' first| (first|apply vI|apply abQ dz hf|apply hH (i:=i) (by omega) (by omega) (by omega)|refine abU kt (fun H1 la nm cells hx hR U cw=> ?_))<;>(simp only[go_sem,J,y,nL])|fail
 have ih:cells.length=5:=by obtain⟨_,_,_,_,_,rfl,_⟩:=hR.ex;rfl
 have ei:cells++List.drop cells.length [D1.osl 0 0 0 0 0,.osl 0 0 0 0 0,.osl 0 0 0 0 0,.osl 0 0 0 0 0,.osl 0 0 0 0 0]=cells:=by rw[ih];simp
 refine⟨ih,by omega,?_⟩
 rw[ei]
 try apply kI
 refine aH.ae1 fun G hG=> ?_
 have f0:G nx=some ⟨3,1,[cD c]⟩:=by rw[hG,aA.aB (by omega),cw _ (by omega)];simp (disch:=omega) only[aA.aB,aA.aI]
 have f2:G (nx+2)=some ⟨3,1,[eIn i]⟩:=by rw[hG,aA.aB (by omega),cw _ (by omega)];simp (disch:=omega) only[aA.aB,aA.aI]
 have f4:G (nx+4)=some ⟨3,0,[]⟩:=by rw[hG,aA.aB (by omega),cw _ (by omega)];exact aA.aI
 have i5:G (nx+17)=some ⟨5,1,[cells]⟩:=by rw[hG];exact aA.aI
 have ff: ∀id,id<nx->G id=H id:=fun id T=>by rw[hG,aA.aB (by omega),cw _ (by omega)];simp (disch:=omega) only[aA.aB]
 have jR:AF (fun id=>id<nx+18\/id=nx+4) G la nm s cells:=by have ej:=fun k hk=>U.rng k hk;exact⟨hR.frame fun k hk=>by have:=ej k hk;rw[hG,aA.aB (by omega)],⟨U.inj,fun k hk=>(ej k hk).2,fun k hk hn=>by have:=ej k hk;omega⟩,fun id T=>by omega⟩
 clear hG hR U cw
 repeat' first|apply vI<;>(simp only[go_sem])|fail
 refine aH.cE (β:=Nat×(Nat->Nat)×List D1×CSt×List Ev×Nat×Nat) (fun u=>en [(9,dI u.1),(8,.one (.c (.ptr 5 (nx+17) 0 0))),(7,.one (.c (.osl 3 u.2.2.2.2.2.1 0 u.2.2.2.2.1.length u.2.2.2.2.2.2))),(5,.one (.c (.ptr 3 (nx+2) 0 0))),(3,.one (.c (.ptr 3 nx 0 0)))])
  (fun u H1 n1=>u.1<=3/\u.2.2.2.2.1.length<=u.1/\EvI c nx G H1 n1 u.2.1 u.2.2.1 u.2.2.2.1 u.2.2.2.2.1 u.2.2.2.2.2.1 u.2.2.2.2.2.2/\LOE c (AB i) ([0,1,2].drop u.1) u.2.2.2.1 u.2.2.2.2.1 (QY c i s) (jV c s (V0 c i s))) (fun u=>3-u.1) (0,nm,cells,s,[],nx+4,0)
  ⟨noF,_,by repeat' first|exact C1|refine xqI rfl rfl ?_|refine xqP (by omega) rfl rfl ?_| (with_reducible apply C2)| ((with_reducible apply C0);exact CC)| ((with_reducible apply D0);apply CJ)|fail,aF,by dsimp only;omega,by simp,⟨hs,jR.frame (by omega) (fun _ _ _=>rfl),i5,⟨0,f4,akA _,akA _⟩,.inl rfl,fun _ _ _=>rfl⟩,⟨rfl,rfl⟩⟩ ?_
 rintro⟨k,ad,ql,s1,j0,io,cap⟩ H2 z lb ⟨hk,lk,hE,O⟩ KL eo
 dsimp only at hk lk hE O
 obtain⟨B,cx,p,⟨m,V,o2,o3⟩,ct,a⟩:=hE
 have L:=(a nx (by omega) (by omega)).trans f0
 have M:=(a (nx+2) (by omega) (by omega)).trans f2
 have cc:=cx.x io (.inr rfl)
 have cd:=cx.x (nx+17) (.inl (by omega))
 have hB:bH z [nx,nx+2,nx+17,io]:=AM.apart (by simp;omega) (by simp;omega)
 simp only[bH,cU] at hB
 have f:=cx.tn B.pl B.sl (G:=H2) (fun id T=>rfl)
 have g:=cx
 obtain⟨wc,hc,pc,vc,tc,mp,rp,mv,rv,D,g1,g2,g3,g4,g5,g6,g7,g8,g9,ga,gb⟩:=cx.get
 subst D
 have lt:=g.names.lt
 have n3:=lt 3 (by omega)
 have av:=g.names.av
 by_cases e:k<3
 ·rw[Pq e] at O
  cases P:i.ready.getD k default with
  |false=>
   repeat' first|apply vI<;>(simp only[go_sem,nL,L,p,M,P,ia,hB];try simp (disch:=omega) only[Iw])|apply vT (by omega)|refine⟨by omega,?_⟩|fail
   all_goals exact eo _ _ _ (k+1,ad,_,s1,j0,io,cap) noF _ (by omega) (by dsimp only;omega) (by dsimp only;repeat' first|exact C1|refine xqI rfl rfl ?_|refine xqP (by omega) rfl rfl ?_|refine xqO (by omega) rfl rfl (by rfl) ?_|fail) aF ⟨by dsimp only;omega,by dsimp only;omega,⟨B,g.frame (by omega) (fun _ _ _=>rfl),p,⟨m,V,o2,o3⟩,ct,a⟩,O.none (Cy P)⟩
  |true=>
   repeat' first| (first|apply vI|refine zq B e P f (fun r lo=> ?_))<;>(simp only[go_sem,nL,L,p,M,P,ia,hB])|apply vT (by omega)|refine⟨by omega,?_⟩|fail
   rcases lo with⟨ho,rfl⟩|⟨st,ep,ho,rfl⟩
   · (try simp only[go_sem,nL,L,p,M,hB]);repeat' first|apply vI<;>(simp only[go_sem,nL,L,p,M,hB];try simp (disch:=omega) only[Iw])|fail
     all_goals exact eo _ _ _ (k+1,ad,_,s1,j0,io,cap) noF _ (by omega) (by dsimp only;omega) (by dsimp only;repeat' first|exact C1|refine xqI rfl rfl ?_|refine xqP (by omega) rfl rfl ?_|refine xqO (by omega) rfl rfl (by rfl) ?_|fail) aF ⟨by dsimp only;omega,by dsimp only;omega,⟨B,g.frame (by omega) (fun _ _ _=>rfl),p,⟨m,V,o2,o3⟩,ct,a⟩,O.none ho⟩
   ·obtain⟨_,_,ma,qs⟩:=YU B e ho;obtain⟨po,me,do_,dc,gs,gp,gd⟩:=gb st ep;obtain⟨d,hd⟩: ∃d,(aU s1 st).done.getD 0 default=d:=⟨_,rfl⟩
    obtain⟨md,rd,d1,d2,d3,d4,d5,d6⟩:=gd.ex;have d7:rd[do_]?=some (aP d):=(by have:(rd.drop do_)[0]?=some (aP d):=(by rw[d2,akN,<-hd];simp[List.getD,ma]);rwa [akY,Nat.add_zero] at this);have k3: ∀(W:aA) (b:Nat),msk (z+b) [14] W (ad 3)=W (ad 3):=fun W b=>mk1 (by omega);have j1: ∀(W:aA) (b:Nat),msk (z+b) [14] W (nx+17)=W (nx+17):=fun W b=>mk1 (by omega);have Y:bH z [ad 3,ad (15+st)]:=AM.apart (by simp;intro he;have:=g.names.inj 3 (15+st) (by omega) (by omega) he;omega) (by simp;exact⟨n3,lt (15+st) (by omega)⟩);simp only[bH,cU] at Y;(try simp only[go_sem,nL,L,p,M,g2,gs,d1,d7,k3,j1,hB,Y]);repeat' first| (first|apply vI|refine zq B e P f (fun r2 mh=> ?_))<;>(simp only[go_sem,nL,L,p,M,g2,gs,d1,d7,k3,j1,hB,Y])|apply vT (by omega)|fail
    rcases mh with⟨h',_⟩|⟨qx,_,iv,rfl⟩
    ·rw[ho] at h';cases h'
    rw[ho] at iv;cases iv;have cf:List.take j0.length (j0.map eEv)=j0.map eEv:=akM (by simp);have cl:(j0.map eEv).length=j0.length:=akU ..;(try simp only[go_sem,nL,L,p,M,g2,gs,d1,d7,k3,j1,V,cf,cl,hB,Y]);repeat' first|apply vI<;>(simp only[go_sem,nL,L,p,M,g2,gs,d1,d7,k3,j1,V,cf,cl,hB,Y])| (with_reducible first|refine fun(cap:Nat) (cy:_<=cap)=> ?_|refine fun(iw:_<=cap)=> ?_)|refine⟨by omega,?_⟩|fail
    generalize E:aA.set _ (z+28) _=G2;have mm:G2 (z+28)=some ⟨3,cap,(j0++[(⟨3,k,d.n⟩:Ev)]).map eEv⟩:=(by rw[<-E,aA.aI,akQ];rfl);have j2: ∀id,id<z->id≠io->G2 id=H2 id:=fun id h3 h4=>by rw[<-E,aA.aB (by omega),aA.aB (by omega),aA.gK h4]
    clear E;have ao:=AF.swap (b:=z+28) (n':=z+34) g j2 (by omega) (by omega);refine Bi (X:=fun id=>id<nx+18\/id=z+28) hb B e P ao fun H' nx' az R er F t=> ?_;have I:=(t (nx+17) (.inl (by omega))).trans ((j2 (nx+17) (by omega) (by omega)).trans p);have mn:=(t (z+28) (.inr rfl)).trans mm;have cp:=Qg hb B (o:=AB i s1 k) (fun m hm=>YU B e hm);obtain⟨et,ev,ew,fh,fm,_,_,_,_,j,_⟩:=F.get;subst j;(try simp only[go_sem,nL,I]);repeat' first|apply vI<;>(simp only[go_sem,nL,I];try simp (disch:=omega) only[Iw])|fail
    have df:h9 s1 (AB i s1 k)=[⟨3,k,d.n⟩]:=(by rw[ho,<-hd];rfl);have Z:=O.next;rw[df] at Z;exact eo _ _ _ (k+1,az,_,za c s1 (AB i s1 k),j0++[⟨3,k,d.n⟩],z+28,cap) noF _ (by omega) (by dsimp only;omega) (by dsimp only;rw[akG,List.length_singleton];repeat' first|exact C1|refine xqI rfl rfl ?_|refine xqP (by omega) rfl rfl ?_|refine xqO (by omega) rfl rfl (by rfl) ?_|fail) aF ⟨by dsimp only;omega,by dsimp only;rw[akG,List.length_singleton];omega,⟨cp,F.frame (by omega) (fun id J y=>aA.aB fun he=>y (.inl (by omega))),aA.aI,⟨cap,by dsimp only;rw[aA.aB (by omega)];exact mn,by dsimp only;rw[akG,List.length_singleton];omega,akA _⟩,.inr (by dsimp only;omega),fun id J y=>by rw[aA.aB (by omega),t id (.inl (by omega)),j2 id (by omega) (by omega)];exact a id J y⟩,Z⟩
 ·have fo:k=3:=by omega
  subst fo;obtain⟨fs,mo⟩:=LOE.nil O;subst fs;repeat' first|apply vI<;>(simp only[go_sem])|apply vF (by omega)|fail
  refine aH.cE (β:=Nat×(Nat->Nat)×List D1×CSt×List Ev×Nat×Nat) (fun u=>en [(10,dI u.1),(8,.one (.c (.ptr 5 (nx+17) 0 0))),(7,.one (.c (.osl 3 u.2.2.2.2.2.1 0 u.2.2.2.2.1.length u.2.2.2.2.2.2))),(5,.one (.c (.ptr 3 (nx+2) 0 0))),(3,.one (.c (.ptr 3 nx 0 0)))])
   (fun u H1 n1=>u.1<=4/\u.2.2.2.2.1.length<=3+u.1/\EvI c nx G H1 n1 u.2.1 u.2.2.1 u.2.2.2.1 u.2.2.2.2.1 u.2.2.2.2.2.1 u.2.2.2.2.2.2/\LOE c (AA i) ([0,1,2,3].drop u.1) u.2.2.2.1 u.2.2.2.2.1 (XH c i s) (j0++jV c (QY c i s) (PL c i (QY c i s)))) (fun u=>4-u.1) (0,ad,_,QY c i s,j0,io,cap)
   ⟨noF,_,by dsimp only;repeat' first|exact C1|refine xqI rfl rfl ?_|refine xqP (by omega) rfl rfl ?_|refine xqO (by omega) rfl rfl (by rfl) ?_|fail,aF,by dsimp only;omega,by dsimp only;omega,⟨B,g.frame (by omega) (fun _ _ _=>rfl),p,⟨m,V,o2,o3⟩,ct,a⟩,⟨rfl,rfl⟩⟩ ?_
  clear g a L p M hB f g1 g2 g3 g4 g5 g6 g7 g8 g9 ga gb lt n3 av V o2 o3 B cd cc;obtain⟨j3,ix⟩: ∃j3,j3=j0++jV c (QY c i s) (PL c i (QY c i s)):=⟨_,rfl⟩
  rw[<-ix];rintro⟨k,dy,re,s2,j4,q,aa⟩ H3 l mq ⟨hk,gf,hE,O⟩ KM gg;dsimp only at hk gf hE O;obtain⟨C,ao,p,⟨m2,V,o2,o3⟩,bl,a⟩:=hE;have L:=(a nx (by omega) (by omega)).trans f0;have M:=(a (nx+2) (by omega) (by omega)).trans f2;have cc:=ao.x q (.inr rfl);have cd:=ao.x (nx+17) (.inl (by omega));have hB:bH l [nx,nx+2,nx+17,q]:=AM.apart (by simp;omega) (by simp;omega);simp only[bH,cU] at hB;have f:=ao.tn C.pl C.sl (G:=H3) (fun id T=>rfl);have g:=ao;obtain⟨wc,hc,pc,vc,tc,mp,rp,mv,rv,D,g1,g2,g3,g4,g5,g6,g7,g8,g9,ga,gb⟩:=ao.get;subst D;have lt:=g.names.lt;have n3:=lt 3 (by omega);have av:=g.names.av;by_cases e:k<4
  ·rw[Qo e] at O;have cp:=Qg hb C (o:=AA i s2 k) (fun m hm=>S7 C e hm)
   cases P:i.iP.getD k default with
   |true=>
    repeat' first|apply vI<;>(simp only[go_sem,nL,L,p,M,P,ec,hB];try simp (disch:=omega) only[Iw])|apply vT (by omega)|refine⟨by omega,?_⟩|fail
    all_goals exact gg _ _ _ (k+1,dy,_,s2,j4,q,aa) noF _ (by omega) (by dsimp only;omega) (by dsimp only;repeat' first|exact C1|refine xqI rfl rfl ?_|refine xqP (by omega) rfl rfl ?_|refine xqO (by omega) rfl rfl (by rfl) ?_|fail) aF ⟨by dsimp only;omega,by dsimp only;omega,⟨C,g.frame (by omega) (fun _ _ _=>rfl),p,⟨m2,V,o2,o3⟩,bl,a⟩,O.none (ZX (.inl P))⟩
   |false=>
    by_cases U:0<(aU s2 k).pipe.length/\(dZ s2 k).left=0/\(aU s2 k).done.length<2
    ·obtain⟨po,me,do_,dc,gs,gp,gd⟩:=gb k e;obtain⟨d,hd⟩: ∃d,(aU s2 k).pipe.getD 0 default=d:=⟨_,rfl⟩
     obtain⟨md,rd,d1,d2,d3,d4,d5,d6⟩:=gp.ex;have d7:rd[po]?=some (eCJ d):=(by have:(rd.drop po)[0]?=some (eCJ d):=(by rw[d2,akN,<-hd];simp[List.getD,U.1]);rwa [akY,Nat.add_zero] at this);have rf:=U.1;have Y:bH l [dy 3,dy (11+k)]:=AM.apart (by simp;intro he;have:=g.names.inj 3 (11+k) (by omega) (by omega) he;omega) (by simp;exact⟨n3,lt (11+k) (by omega)⟩);simp only[bH,cU] at Y;have cf:List.take j4.length (j4.map eEv)=j4.map eEv:=akM (by simp);have cl:(j4.map eEv).length=j4.length:=akU ..
     have mw:AA i s2 k=some (.work k):=by
      unfold AA
      rw[if_neg (fun h=>by
       rcases h with h|h
       ·rw[P] at h;cases h
       ·have:=U.1;omega),if_neg (by have:=U.2.1;omega),if_pos U.2.2]
     repeat' first| (first|apply vI|apply HU C e f)<;>(simp only[go_sem,nL,L,p,M,g2,gs,d1,d7,P,ec,U,V,cf,cl,hB,Y])|apply vT (by omega)| (with_reducible first|refine fun(cap:Nat) (cy:_<=cap)=> ?_|refine fun(iw:_<=cap)=> ?_)|refine⟨by omega,?_⟩|fail
     generalize E:aA.set _ (l+34) _=G2;have mx:G2 (l+34)=some ⟨3,cap,(j4++[(⟨2,d.who,d.n⟩:Ev)]).map eEv⟩:=(by rw[<-E,aA.aI,akQ];rfl);have j2: ∀id,id<l->id≠q->G2 id=H3 id:=fun id h3 h4=>by rw[<-E,aA.aB (by omega),aA.aB (by omega),aA.gK h4]
     clear E;have N:=AF.swap (b:=l+34) (n':=l+47) g j2 (by omega) (by omega);refine Br (X:=fun id=>id<nx+18\/id=l+34) hb C e P N fun H' nx' az R er F t=> ?_;have I:=(t (nx+17) (.inl (by omega))).trans ((j2 (nx+17) (by omega) (by omega)).trans p);have dh:=(t (l+34) (.inr rfl)).trans mx;obtain⟨et,ev,ew,fh,fm,_,_,_,_,j,_⟩:=F.get;subst j;(try simp only[go_sem,nL,I]);repeat' first|apply vI<;>(simp only[go_sem,nL,I];try simp (disch:=omega) only[Iw])|fail
     have df:h9 s2 (AA i s2 k)=[⟨2,d.who,d.n⟩]:=(by rw[mw,<-hd];rfl);have Z:=O.next;rw[df] at Z;exact gg _ _ _ (k+1,az,_,za c s2 (AA i s2 k),j4++[⟨2,d.who,d.n⟩],l+34,cap) noF _ (by omega) (by dsimp only;omega) (by dsimp only;rw[akG,List.length_singleton];repeat' first|exact C1|refine xqI rfl rfl ?_|refine xqP (by omega) rfl rfl ?_|refine xqO (by omega) rfl rfl (by rfl) ?_|fail) aF ⟨by dsimp only;omega,by dsimp only;rw[akG,List.length_singleton];omega,⟨cp,F.frame (by omega) (fun id J y=>aA.aB fun he=>y (.inl (by omega))),aA.aI,⟨cap,by dsimp only;rw[aA.aB (by omega)];exact dh,by dsimp only;rw[akG,List.length_singleton];omega,akA _⟩,.inr (by dsimp only;omega),fun id J y=>by rw[aA.aB (by omega),t id (.inl (by omega)),j2 id (by omega) (by omega)];exact a id J y⟩,Z⟩
    ·have df:h9 s2 (AA i s2 k)=[]:=by
      unfold AA
      split
      ·rfl
      ·split;·rfl
       ·split;·rename_i q1 q2 q3;have jh:0<(aU s2 k).pipe.length:=Nat.pos_of_ne_zero fun h0=>q1 (.inr h0);have rj:=((C.slv k e).left 0 jh).1.1;exact absurd ⟨jh,by unfold dZ at q2 ⊢;omega,q3⟩ U
        ·rfl
     repeat' first| (first|apply vI|apply HU C e f)<;>(simp only[go_sem,nL,L,p,M,P,ec,U,hB])|apply vT (by omega)|refine⟨by omega,?_⟩|fail
     refine Br (X:=fun id=>id<nx+18\/id=q) hb C e P (g.frame (nx':=l+24) (by omega) (fun _ _ _=>rfl)) fun H' nx' az R er F t=> ?_
     have I:=(t (nx+17) (.inl (by omega))).trans p
     have dh:=(t q (.inr rfl)).trans V
     obtain⟨et,ev,ew,fh,fm,_,_,_,_,j,_⟩:=F.get
     subst j
     (try simp only[go_sem,nL,I]);repeat' first|apply vI<;>(simp only[go_sem,nL,I];try simp (disch:=omega) only[Iw])|fail
     have Z:=O.next
     rw[df,alE] at Z
     exact gg _ _ _ (k+1,az,_,za c s2 (AA i s2 k),j4,q,aa) noF _ (by omega) (by dsimp only;omega) (by dsimp only;repeat' first|exact C1|refine xqI rfl rfl ?_|refine xqP (by omega) rfl rfl ?_|refine xqO (by omega) rfl rfl (by rfl) ?_|fail) aF ⟨by dsimp only;omega,by dsimp only;omega,⟨cp,F.frame (by omega) (fun id J y=>aA.aB fun he=>y (.inl (by omega))),aA.aI,⟨m2,by dsimp only;rw[aA.aB (by omega)];exact dh,o2,o3⟩,bl,fun id J y=>by rw[aA.aB (by omega),t id (.inl (by omega))];exact a id J y⟩,Z⟩
  ·have ha:k=4:=(by omega);subst ha;obtain⟨fs,nd⟩:=LOE.nil O;subst fs;repeat' first|apply vI<;>(simp only[go_sem])|apply vF (by omega)|fail
   have ng:([[D1.v (.bool false)],[D1.v (.bool false)],[D1.v (.bool false)]]:List (List D1))=[false,false,false].map d8:=rfl;rw[ng];generalize hg:aA.set H3 (l+2) _=j5;have j6:j5 (l+2)=some ⟨1,3,[false,false,false].map d8⟩:=(by rw[<-hg];exact aA.aI);have j2: ∀id,id<l->j5 id=H3 id:=fun id h3=>by rw[<-hg,aA.aB (by omega)]
   clear hg;have N:=AF.add (b:=l+2) (n':=l+5) g j2 (by omega) (by omega);have jo:=(j2 q cc).trans V;have ju:=(j2 (nx+17) cd).trans p;have kc: ∀id,id<nx+17->id≠nx+4->j5 id=G id:=fun id J y=>(j2 id (by omega)).trans (a id J y);have nh:q<l:=cc;have rl:nx+18<=l:=cd;obtain⟨ub,nn⟩: ∃ub,ub=l+2:=⟨_,rfl⟩
   rw[<-nn] at j6 N ⊢
   refine aH.cE (β:=Nat×(Nat->Nat)×List D1×CSt×List Bool) (fun u=>en [(12,dI u.1),(11,.one (.c (.osl 1 ub 0 3 3))),(8,.one (.c (.ptr 5 (nx+17) 0 0))),(7,.one (.c (.osl 3 q 0 j4.length aa))),(5,.one (.c (.ptr 3 (nx+2) 0 0))),(3,.one (.c (.ptr 3 nx 0 0)))])
    (fun u H1 n1=>u.1<=4/\COk c u.2.2.2.1/\u.2.2.2.2.length=3/\AF (fun id=>(id<nx+18\/id=q)\/id=ub) H1 n1 u.2.1 u.2.2.2.1 u.2.2.1/\H1 (nx+17)=some ⟨5,1,[u.2.2.1]⟩/\H1 ub=some ⟨1,3,u.2.2.2.2.map d8⟩/\ND c ([0,1,2,3].drop u.1) u.2.2.2.1 u.2.2.2.2 (X6 c i s)/\H1 q=some ⟨3,m2,j4.map eEv⟩/\ ∀id,id<nx+17->id≠nx+4->H1 id=G id) (fun u=>4-u.1) (0,dy,_,XH c i s,[false,false,false])
    ⟨noF,_,by dsimp only;repeat' first|exact C1|refine xqI rfl rfl ?_|refine xqP (by omega) rfl rfl ?_|refine xqO (by omega) rfl rfl (by rfl) ?_|fail,aF,by dsimp only;omega,C,rfl,N.frame (by omega) (fun _ _ _=>rfl),ju,j6,rfl,jo,kc⟩ ?_
   clear g a L p M hB f g1 g2 g3 g4 g5 g6 g7 g8 g9 ga gb lt n3 av V C cd cc N j6 j2 jo ju kc;rintro⟨k,hh,rm,s3,u3⟩ H4 kf np ⟨hk,w,hj,N,p,eu,O,hl,a⟩ KN nq;dsimp only at hk w hj N p eu O;have L:=(a nx (by omega) (by omega)).trans f0;have M:=(a (nx+2) (by omega) (by omega)).trans f2;have g:=N;obtain⟨wc,hc,pc,vc,tc,mp,rp,mv,rv,D,g1,g2,g3,g4,g5,g6,g7,g8,g9,ga,gb⟩:=N.get;subst D;have hB:bH kf [nx,nx+2,nx+17,q]:=AM.apart (by simp;omega) (by simp;omega);simp only[bH,cU] at hB;by_cases e:k<4
   ·rw[Qo e] at O;repeat' first|apply vI<;>(simp only[go_sem,nL,L,p,M,hB])|apply vT (by omega)|fail
    refine Ez (X:=fun id=>(id<nx+18\/id=q)\/id=ub) (um:=3) hb w e hj (g.frame (by omega) (fun _ _ _=>rfl)) (.inr rfl) eu (by omega) fun H' nx' az R er F ob t=> ?_;have I:=(t (nx+17) (.inl (.inl (by omega))) (by omega)).trans p;have dh:=(t q (.inl (.inr rfl)) (by omega)).trans hl;obtain⟨et,ev,ew,fh,fm,_,_,_,_,j,_⟩:=F.get;subst j;obtain⟨cp,ox⟩:=ad5 (u:=u3) hb w e hj;(try simp only[go_sem,nL,I]);repeat' first|apply vI<;>(simp only[go_sem,nL,I];try simp (disch:=omega) only[Iw])|fail
    exact nq _ _ _ (k+1,az,_,(T6 c s3 u3 k).1,(T6 c s3 u3 k).2) noF _ (by omega) (by dsimp only;omega) (by repeat' first|exact C1|refine xqI rfl rfl ?_|refine xqP (by omega) rfl rfl ?_|refine xqO (by omega) rfl rfl (by rfl) ?_|fail) aF ⟨by dsimp only;omega,cp,ox,F.frame (by omega) (fun id J y=>aA.aB fun he=>y (.inl (.inl (by omega)))),aA.aI,by rw[aA.aB (by omega)];exact ob,O.ai6,by rw[aA.aB (by omega)];exact dh,fun id J y=>by rw[aA.aB (by omega),t id (.inl (.inl (by omega))) (by omega)];exact a id J y⟩
   ·have ha:k=4:=(by omega);subst ha;have O:s3=X6 c i s:=O;subst O;repeat' first|apply vI<;>(simp only[go_sem])|apply vF (by omega)|fail
    have hq:AF (fun id=>id<nx+18\/id=q) H4 kf hh (X6 c i s) _:=g.sub fun id h=>.inl h;obtain⟨A,hA⟩: ∃A,A=X6 c i s:=⟨_,rfl⟩
    rw[<-hA] at hq w;have pn:=w.pl
    refine aH.cE (β:=Nat×List Ev×Nat×Nat) (fun u=>en [(13,dI u.1),(8,.one (.c (.ptr 5 (nx+17) 0 0))),(7,.one (.c (.osl 3 u.2.2.1 0 u.2.1.length u.2.2.2))),(5,.one (.c (.ptr 3 (nx+2) 0 0))),(3,.one (.c (.ptr 3 nx 0 0)))])
     (fun u H1 n1=>u.1<=3/\u.2.1=j4++(List.range u.1).flatMap (hS c i A)/\u.2.1.length<=7+u.1/\EvI c nx G H1 n1 hh _ A u.2.1 u.2.2.1 u.2.2.2) (fun u=>3-u.1) (0,j4,q,aa)
     ⟨noF,_,by dsimp only;repeat' first|exact C1|refine xqI rfl rfl ?_|refine xqP (by omega) rfl rfl ?_|refine xqO (by omega) rfl rfl (by rfl) ?_|fail,aF,by dsimp only;omega,by simp,by dsimp only;omega,⟨w,hq.frame (by omega) (fun _ _ _=>rfl),by rw[hA];exact p,⟨m2,hl,o2,o3⟩,bl,a⟩⟩ ?_
    clear g N p eu hl a L M hB g1 g2 g3 g4 g5 g6 g7 g8 g9 ga gb hq o2 o3;rintro⟨k,k4,cq,br⟩ H5 ab ps ⟨hk,ds,ht,hE⟩ KO hv;dsimp only at hk ds ht hE;obtain⟨_,S,p,⟨m5,V,o2,o3⟩,dv,a⟩:=hE;have L:=(a nx (by omega) (by omega)).trans f0;have M:=(a (nx+2) (by omega) (by omega)).trans f2;have cc:=S.x cq (.inr rfl);have cd:=S.x (nx+17) (.inl (by omega));have hB:bH ab [nx,nx+2,nx+17,cq]:=AM.apart (by simp;omega) (by simp;omega);simp only[bH,cU] at hB;have f:=S.tn w.pl w.sl (G:=H5) (fun id T=>rfl);obtain⟨rr,ry,ts,tt,uc,uf,vf,vh,vl,ca,g1,g2,g3,g4,g5,g6,g7,g8,g9,ga,gb⟩:=S.get;cases ca;have lt:=S.names.lt;have n2:=lt 2 (by omega);have av:=S.names.av;by_cases e:k<3
    ·cases P:i.send.getD k default with
     |false=>
      have dx:hS c i A k=[]:=(by unfold hS;rw[if_neg fun h=>by rw[P] at h;cases h.1]);repeat' first|apply vI<;>(simp only[go_sem,nL,L,p,M,P,ed,hB];try simp (disch:=omega) only[Iw])|apply vT (by omega)|refine⟨by omega,?_⟩|fail
      all_goals exact hv _ _ _ (k+1,k4,cq,br) noF _ (by omega) (by dsimp only;omega) (by dsimp only;repeat' first|exact C1|refine xqI rfl rfl ?_|refine xqP (by omega) rfl rfl ?_|refine xqO (by omega) rfl rfl (by rfl) ?_|fail) aF ⟨by dsimp only;omega,by dsimp only;rw[hW,dx,alE];exact ds,by dsimp only;omega,⟨w,S.frame (by omega) (fun _ _ _=>rfl),p,⟨m5,V,o2,o3⟩,dv,a⟩⟩
     |true=>
      by_cases U:(aL A k).queue.length<2/\(aL A k).next<(c.b7.getD k default).length
      ·have dx:hS c i A k=[⟨1,k,(aL A k).next⟩]:=(by unfold hS;rw[if_pos ⟨P,U⟩]);obtain⟨qo,qc,oc,gr,gq,go⟩:=ga k e;have kn:bH ab [hh 2]:=AM.apart (by simp) (by simp;exact n2);simp only[bH,cU] at kn;have cf:List.take k4.length (k4.map eEv)=k4.map eEv:=akM (by simp);have cl:(k4.map eEv).length=k4.length:=akU ..;repeat' first| (first|apply vI|apply SS hb w e f)<;>(simp only[go_sem,nL,L,p,M,g1,gr,P,ed,U,V,cf,cl,hB,kn];try simp (disch:=omega) only[Iw])|apply vT (by omega)| (with_reducible first|refine fun(cap:Nat) (cy:_<=cap)=> ?_|refine fun(iw:_<=cap)=> ?_)|refine⟨by omega,?_⟩|fail
       generalize E:aA.set _ (ab+23) _=G2;have qf:G2 (ab+23)=some ⟨3,cap,(k4++[(⟨1,k,(aL A k).next⟩:Ev)]).map eEv⟩:=(by rw[<-E,aA.aI,akQ];rfl);have j2: ∀id,id<ab->id≠cq->G2 id=H5 id:=fun id h3 h4=>by rw[<-E,aA.aB (by omega),aA.aB (by omega),aA.gK h4]
       clear E;have qj:=AF.swap (b:=ab+23) (n':=ab+28) S j2 (by omega) (by omega);exact hv _ _ _ (k+1,k4++[(⟨1,k,(aL A k).next⟩:Ev)],ab+23,cap) noF _ (by omega) (by dsimp only;omega) (by dsimp only;rw[akG,List.length_singleton];repeat' first|exact C1|refine xqI rfl rfl ?_|refine xqP (by omega) rfl rfl ?_|refine xqO (by omega) rfl rfl (by rfl) ?_|fail) aF ⟨by dsimp only;omega,by dsimp only;rw[hW,dx,<-akO,<-ds],by dsimp only;rw[akG,List.length_singleton];omega,⟨w,qj,(j2 (nx+17) (by omega) (by omega)).trans p,⟨cap,qf,by dsimp only;rw[akG,List.length_singleton];omega,akA _⟩,.inr (by dsimp only;omega),fun id J y=>(j2 id (by omega) (by omega)).trans (a id J y)⟩⟩
      ·have dx:hS c i A k=[]:=(by unfold hS;rw[if_neg fun h=>U h.2]);repeat' first| (first|apply vI|apply SS hb w e f)<;>(simp only[go_sem,nL,L,p,M,P,ed,U,hB];try simp (disch:=omega) only[Iw])|apply vT (by omega)|refine⟨by omega,?_⟩|fail
       all_goals exact hv _ _ _ (k+1,k4,cq,br) noF _ (by omega) (by dsimp only;omega) (by dsimp only;repeat' first|exact C1|refine xqI rfl rfl ?_|refine xqP (by omega) rfl rfl ?_|refine xqO (by omega) rfl rfl (by rfl) ?_|fail) aF ⟨by dsimp only;omega,by dsimp only;rw[hW,dx,alE];exact ds,by dsimp only;omega,⟨w,S.frame (by omega) (fun _ _ _=>rfl),p,⟨m5,V,o2,o3⟩,dv,a⟩⟩
    ·have fo:k=3:=(by omega);subst fo;have hy:k4=qu c i s:=(by rw[ds,Qm,List.nil_append,nd,ix,mo,<-hA,i0 pn]);repeat' first|apply vI<;>(simp only[go_sem])|apply vF (by omega)|fail
     rw[<-hy] at h;exact hQ _ _ _ _ _ (.inr rfl) rfl (h _ _ cq br m5 (by omega) (by omega) V o2 o3 fun id T=>by rw[a id (by omega) (by omega)];exact ff id T)
variable{l:List CIn}
theorem p8(e:p5 l)(h:K (dB (l.all inB)) H nx):an3 aeK [dS (l.map eIn)] H nx K:=by
 refine aC.pure (args0:=[dS (l.map eIn)]) (R:=fun g=>g=dB (l.all inB)) ?_ rfl (aE ⟨aD rfl,trivial⟩) (fun r j=>j▸h);clear h;refine aM.mk Tryz.func74 (by kernel_rfl) t4 rfl fun Q f=> ?_;unfold o5;have m:=e.len;repeat' first|apply vI<;>(simp only[go_sem])|fail
 (refine aH.loop (α:={k:Nat//k<=l.length/\(∀i,i<k->inB (l.getD i default)=true)}) (fun u=>en [(3,dI u.1),(0,dS (l.map eIn))]) (fun _=>.nil) _ (fun u=>l.length-u.1) ⟨0,by omega,(by intros;first|trivial|omega)⟩ (aS (akA _) (by repeat' first|exact C1|refine xqI rfl rfl ?_|fail)) ?_);(rintro⟨k,o,hinv⟩ p d);by_cases c:k<l.length
 ·have b:=e.all _ (bL c);cases a:inB (l.getD k default)
  ·repeat' first| (first|apply vI|apply hH (i:=l.getD k default) b.r b.t b.s)<;>(simp only[go_sem,a])|apply vT (by omega)|refine⟨by omega,?_⟩|fail
   exact aJ f (dB false) rfl rfl (congrArg dB (by
    cases h:l.all inB
    ·rfl
    ·rw[akR.1 h _ (bL c)] at a;cases a))
  ·repeat' first| (first|apply vI|apply hH (i:=l.getD k default) b.r b.t b.s)<;>(simp only[go_sem,a];try simp (disch:=omega) only[Iw])|apply vT (by omega)|refine⟨by omega,?_⟩|fail
   (refine d _ _ _ ⟨k+1,by omega,bT hinv a⟩ (by omega) (by(try dsimp only);omega) (aS (akA _) (by repeat' first|exact C1|refine xqI rfl rfl ?_|fail)))
 ·repeat' first|apply vI<;>(simp only[go_sem])|apply vF (by omega)|fail
  exact aJ f (dB true) rfl rfl (congrArg dB (by
   refine(akR.2 fun x n=> ?_).symm
   obtain⟨i,a,rfl⟩:=List.getElem_of_mem n
   have:=hinv i (by omega)
   rwa [show l.getD i default=l[i] by simp[List.getD,a]] at this))
theorem r4{i:CIn}(b:OJ c)(k:zz s)(l:aj8 i):an3 Ty [dA (cD c),dA (dY s),dA (eIn i)] .nil 0 fun r H' n'=>(r.free=true/\aiS H')/\ ∃io cap m,io<n'/\r=dO 3 io (evB c s i).length cap/\H' io=some ⟨3,m,(evB c s i).map eEv⟩/\(evB c s i).length<=cap/\cap<=m:=by
 apply aC.VP;refine hD b k l fun H' nx' io cap m u f g n p v=> ?_;refine⟨_,without (fun j=>¬j=io) H',_,lM (Py f rfl),JP,⟨rfl,fun j o a=> ?_⟩,io,cap,m,f,rfl,(xJ (fun h=>h rfl)).trans g,n,p⟩;unfold without at a;split at a;·cases a
 ·rename_i q;cases Classical.not_not.1 q;rw[g] at a;cases a;intro r t d e;obtain⟨x,_,rfl⟩:=akJ.1 t;unfold eEv at e;simp only[akK,alM,or_false] at e;rcases e with rfl|rfl|rfl<;>rfl
theorem r3{X:Nat->Prop}{i:CIn}{b:Nat->Nat}{cells:List D1}(a:OJ c)(d:zz s)(e:aj8 i)(hp:s.bE.length=3)(f:s.bM.length=4)(g:AF X H nx b s cells)
 (h: ∀H' nx' io cap m,nx<=io->io<nx'->H' io=some ⟨3,m,(evB c s i).map eEv⟩->(evB c s i).length<=cap->cap<=m->(∀id,id<nx->H' id=H id)->K (dO 3 io (evB c s i).length cap) H' nx'):an3 Ty [dA (cD c),dA cells,dA (eIn i)] H nx K:=by
 refine(r4 a d e).aj9 rfl (aE ⟨aD rfl,g.tn hp f (G:=H) (fun id k=>rfl),aD rfl,trivial⟩) ?_
 rintro r H' n' ⟨io,cap,m,l,rfl,n,o,p⟩
 exact h _ _ (nx+io) cap m (by omega) (by omega) (by rw[ajB l n,h6]) o p fun j q=>ai9 q
theorem q7(o:OJ c)(hf:zz s)(hl:p5 l)
 (h: ∀H' nx',nx<=nx'->(∀id,id<nx->H' id=H id)->K (dS ((p1 c s l).map eEv)) H' nx'):an3 Wa [dA (cD c),dA (dY s),dS (l.map eIn)] H nx K:=by
 have cx:=hl.len
 apply aC.VP
 refine bA.mk Tryz.func32 (by kernel_rfl) q6 rfl fun Q hQ=> ?_
 unfold k2
 have g:q4 c s l=false->∀{G:aA} {e2:Env} {n2:Nat},nx<=n2->(∀id,id<nx->G id=H id)->e2 6= .one (.c (.osl 3 (nx+3) 0 0 0))->Q .ret e2 G n2:=fun S G e2 n2 g1 g2 g3=>by unfold p1 at h;rw[if_neg (by rw[S];decide)] at h;exact hQ _ _ _ _ _ (.inr rfl) (congrArg some g3) ⟨dS (([]:List Ev).map eEv),_,noF,L7,aF,h _ _ g1 g2⟩
 have v:q4 c s l=(cyB c s&&(decide (l.length<=300)&&l.all inB)):=rfl
 cases t:cyB c s
 ·repeat' first| (first|apply vI|apply abQ o hf)<;>(simp only[go_sem,t,nL])|fail
  exact g (by rw[v,t];rfl) (by omega) (fun id a=>by simp (disch:=omega) only[aA.aB]) rfl
 by_cases hn:l.length<=300
 case neg=>
  have w:(300<(l.length:Int))=True:=eq_true (by omega);repeat' first| (first|apply vI|apply abQ o hf)<;>(simp only[go_sem,t,w,nL])|fail
  exact g (by rw[v,decide_eq_false hn,t];rfl) (by omega) (fun id a=>by simp (disch:=omega) only[aA.aB]) rfl
 have w:(300<(l.length:Int))=False:=eq_false (by omega)
 have V:decide (300<(l.length:Int))=false:=decide_eq_false (by omega)
 cases ha:l.all inB
 ·repeat' first| (first|apply vI|apply abQ o hf|apply p8 hl)<;>(simp only[go_sem,t,w,V,ha,nL])|fail
  exact g (by rw[v,ha,Bool.and_false,Bool.and_false]) (by omega) (fun id a=>by simp (disch:=omega) only[aA.aB]) rfl
 clear g
 have S:q4 c s l=true:=by rw[v,t,ha,decide_eq_true hn];rfl
 have hi:=(s5.1 S).2.2
 unfold p1 at h
 rw[if_pos S] at h
 obtain⟨W,hs⟩:=ajC.1 t
 have br:=hs.sz W
 repeat' first| (first|apply vI|apply abQ o hf|apply p8 hl|refine abU br (fun H1 ca nm cells hx hR X y=> ?_))<;>(simp only[go_sem,t,w,V,ha,nL])|fail
 have d:cells.length=5:=by obtain⟨_,_,_,_,_,rfl,_⟩:=hR.ex;rfl
 have e:cells++List.drop cells.length [D1.osl 0 0 0 0 0,.osl 0 0 0 0 0,.osl 0 0 0 0 0,.osl 0 0 0 0 0,.osl 0 0 0 0 0]=cells:=by rw[d];simp
 refine⟨d,by omega,?_⟩
 rw[e]
 generalize T:aA.set H1 (nx+21) _=G
 have Y:G (nx+21)=some ⟨5,1,[cells]⟩:=by rw[<-T];exact aA.aI
 have g0:G nx=some ⟨3,1,[cD c]⟩:=by rw[<-T,aA.aB (by omega),y _ (by omega)];simp (disch:=omega) only[aA.aB,aA.aI]
 have g3:G (nx+3)=some ⟨3,0,[]⟩:=by rw[<-T,aA.aB (by omega),y _ (by omega)];exact aA.aI
 have gf: ∀id,id<nx->G id=H id:=fun id a=>by rw[<-T,aA.aB (by omega),y _ (by omega)];simp (disch:=omega) only[aA.aB]
 have Z:AF (fun j=>j<nx+22\/j=nx+3) G ca nm s cells:=⟨hR.frame fun k F=>by have:=X.rng k F;rw[<-T,aA.aB (by omega)],⟨X.inj,fun k F=>(X.rng k F).2,fun k F hj=>by have:=(X.rng k F).1;omega⟩,fun id a=>by omega⟩
 clear T y hR X
 apply kI
 repeat' first|apply vI<;>(simp only[go_sem])|fail
 refine aH.cE (β:=Nat×CSt×(Nat->Nat)×List D1×Nat×Nat) (fun u=>en [(9,dI u.1),(8,.one (.c (.ptr 5 (nx+21) 0 0))),(7,.one (.c (.osl 3 u.2.2.2.2.1 0 (uA c s (l.take u.1)).length u.2.2.2.2.2))),(3,.one (.c (.ptr 3 nx 0 0))),(2,dS (l.map eIn))])
  (fun u U n3=>u.1<=l.length/\u.2.1=kk c s (l.take u.1)/\AF (fun j=>j<nx+22\/j=u.2.2.2.2.1) U n3 u.2.2.1 u.2.1 u.2.2.2.1/\U (nx+21)=some ⟨5,1,[u.2.2.2.1]⟩/\(u.2.2.2.2.1=nx+3\/nx+22<=u.2.2.2.2.1)/\(∃m,U u.2.2.2.2.1=some ⟨3,m,(uA c s (l.take u.1)).map eEv⟩/\(uA c s (l.take u.1)).length<=u.2.2.2.2.2/\u.2.2.2.2.2<=m)/\ ∀id,id<nx+3->U id=G id)
  (fun u=>l.length-u.1) (0,s,nm,cells,nx+3,0) ⟨noF,_,by repeat' first|exact C1|refine xqI rfl rfl ?_|refine xqP (by omega) rfl rfl ?_| (with_reducible apply C2)| ((with_reducible apply C0);exact CC)| ((with_reducible apply D0);apply CJ)|fail,aF,by dsimp only;omega,rfl,Z.frame (by omega) fun _ _ _=>rfl,Y,.inl rfl,⟨0,g3,by simp[uA],akA _⟩,fun _ _=>rfl⟩ ?_
 clear Z Y d e g3
 rintro⟨k,I,cy,z,io,cap⟩ U f dc ⟨F,A,p,B,cc,⟨m,o1,o2,o3⟩,J⟩ KL cd
 dsimp only at F A p B cc o1 o2 o3
 have q:COk c I:=by rw[A];exact(aeE W hs).1
 have s0:=(J nx (by omega)).trans g0
 have d:=p.len
 obtain⟨O,n⟩: ∃O,O=uA c s (l.take k):=⟨_,rfl⟩
 rw[<-n] at o1 o2
 have df:=p.x io (.inr rfl)
 have dh:O.length<=3000:=by have t:=Ow (c:=c) (l:=l.take k) (s:=s);rw[<-n,ak1] at t;omega
 have aa:bH f [nx,nx+21,io]:=AM.apart (by simp;omega) (by simp;omega)
 simp only[bH,cU] at aa
 by_cases L:k<l.length
 ·obtain⟨i,a⟩: ∃i,i=l.getD k default:=⟨_,rfl⟩
  have M:aiR i:=by rw[a];exact hi _ (bL L)
  have cf:evB c I i=qu c i I:=i2 (ajC.2 ⟨W,q⟩) (h8.2 M);rw[<-n];repeat' first|apply vI<;>(simp only[go_sem,s0,B,aa,d,a.symm,nL])|apply vT (by omega)|refine⟨by omega,?_⟩|fail
  refine r3 o ((q.base W).ajJ.fit).1 M.fit q.pl q.sl (p.frame (by omega) fun _ _ _=>rfl) fun H4 N u7 cl v3 b1 b2 b3 b4 v5 v7=> ?_;rw[cf] at b3 b4 ⊢;have ab:bH N [nx,nx+21,io,u7]:=AM.apart (by simp;omega) (by simp;omega);simp only[bH,cU] at ab;have f1:H4 io=some ⟨3,m,O.map eEv⟩:=(v7 io (by omega)).trans o1;have f0:=(v7 nx (by omega)).trans s0;have cp:=(v7 (nx+21) (by omega)).trans B;have ds:=abI (c:=c) (i:=i) (s:=I);have S:(io=u7)=False:=eq_false (by omega);simp only[go_sem,akB,f1,b3,S];refine⟨o3,by omega,fun r q1 q2=> ?_⟩;rw[<-akQ];have ad:uA c s (l.take (k+1))=O++qu c i I:=by rw[afB L,<-n,<-A,<-a]
  rw[<-ad];rw[show O.length+(qu c i I).length=(uA c s (l.take (k+1))).length by rw[ad,akG]] at q1 ⊢;generalize P:aA.set _ (f+12) _=v8;have v9:v8 (f+12)=some ⟨3,r,(uA c s (l.take (k+1))).map eEv⟩:=by rw[<-P];exact aA.aI
  have j2: ∀id,id<f->id≠io->v8 id=U id:=fun id h3 h4=>by rw[<-P,aA.aB (by omega),aA.gK h4,v7 id (by omega)]
  clear P ab f1 f0 cp;have ao:=(j2 (nx+21) (by omega) (by omega)).trans B;have n0:=(j2 nx (by omega) (by omega)).trans s0;have cq:=AF.swap (b:=f+12) (n':=N) p j2 (by omega) (by omega);have C:bH N [nx,nx+21,f+12]:=AM.apart (by simp;omega) (by simp;omega);simp only[bH,cU] at C;apply kI;repeat' first|apply vI<;>(simp only[go_sem,ao,n0,a.symm,C,d,nL])|refine⟨by omega,?_⟩|fail
  refine Ys W q M (cq.frame (by omega) fun _ _ _=>rfl) fun H5 dv ct D dx az R=> ?_;have bl:=(R (nx+21) (.inl (by omega))).trans ao;have E:=az.len;have e:List.drop 5 z=[]:=by rw[<-d];simp
  (try simp only[go_sem,nL,bl,d,E,e,alE,C,nL]);repeat' first|apply vI<;>(simp only[go_sem,nL,bl,d,E,e,alE,C,nL];try simp (disch:=omega) only[Iw])|fail
  refine cd _ _ _ (k+1,T5 c i I,ct,D,f+12,r) noF _ (by omega) (by dsimp only;omega) (by dsimp only;repeat' first|exact C1|refine xqI rfl rfl ?_|refine xqP (by omega) rfl rfl ?_|refine xqO (by omega) rfl rfl (by rfl) ?_|fail) aF ⟨by dsimp only;omega,by dsimp only;rw[A,ahR L,a],by dsimp only;exact az.frame (by omega) fun id _ d2=>aA.aB fun he=>d2 (.inl (by omega)),aA.aI,.inr (by dsimp only;omega),⟨r,by dsimp only;rw[aA.aB (by omega),R _ (.inr rfl)];exact v9,q1,akA _⟩,fun id a=> ?_⟩;rw[aA.aB (by omega),R id (.inl (by omega)),j2 id (by omega) (by omega)];exact J id a
 ·rw[<-n];have cw:O=uA c s l:=by rw[n,akM (by omega)]
  repeat' first|apply vI<;>(simp only[go_sem])|apply vF (by omega)|fail
  rw[<-cw] at h;exact hQ _ _ _ _ _ (.inr rfl) rfl ⟨dS (O.map eEv),_,fun j=>j=io,SW Ms o1 rfl o2 rfl,Eu,h _ _ (by omega) fun id a=>by rw[aA.gK (by omega),J id (by omega)];exact gf id a⟩
theorem r8(a:OJ c)(e:zz s)(f:p5 l):an3 qh [dA (cD c),dA (dY s),dS (l.map eIn)] .nil 0 fun r H' n'=>(r.free=true/\aiS H')/\ ∃io m,io<n'/\r=dO 3 io (p1 c s l).length (p1 c s l).length/\H' io=some ⟨3,m,(p1 c s l).map eEv⟩/\(p1 c s l).length<=m:=by apply aC.VP;refine p3 a e f fun H' nx' io m i b d g k=> ?_;exact⟨_,without (fun j=>¬j=io) H',_,lM (Py b rfl),JP,⟨rfl,i3 d⟩,io,m,b,rfl,(xJ (fun h=>h rfl)).trans d,g⟩
theorem s4{b e:List D1}{f:D1}{i k n:Nat->Prop}(a:OJ c)(o:zz s)(p:p5 l)(q:TG H b c i)(t:G6 H e s k)(u:SlS 3 E4 H f l n)
 (h: ∀H' nx' d F,nx<=nx'->SlS 3 (cY eEv) H' d (p1 c s l) F->(∀j,F j->nx<=j/\j<nx')->(∀j,j<nx->H' j=H j)->K (.one (.c d)) H' nx'):an3 qh [.one (.agg b),.one (.agg e),.one (.c f)] H nx K:=by
 refine(r8 a o p).aj9 rfl (aE (lT (su Dg q) (lT (su ml t) (lT (lM (.frz (u.frz LX))) LY)))) ?_
 rintro r H' n' ⟨io,m,v,rfl,w,x⟩
 exact h _ _ _ (fun j=>j=nx+io) (by omega) (ajE (by rw[ajB v w,h6]) x rfl) (fun j g=>by omega) fun j g=>ai9 g
theorem r5(a:OJ c)(b:zz s)(d:p5 l)(h:K (dS ((p1 c s l).map eEv)) H nx):an3 qh [dA (cD c),dA (dY s),dS (l.map eIn)] H nx K:=aC.fresh (R:=fun r=>r=dS ((p1 c s l).map eEv)) (aC.forget (p3 a b d fun _ _ io m g i e j k=>⟨dS ((p1 c s l).map eEv),SW Ms e rfl (akA _) trivial,rfl,rfl,rfl⟩)) rfl fun r f=>f▸h
end
theorem t5(c:Cfg)(s:CSt)(l:List CIn)(p:pS (2^63) c)(y:jE (2^63) s)(J:oM (kW (2^63)) (2^63) l):an3 Ga [dA (cD c),dA (dY s),dS (l.map eIn)] .nil 0 fun rr _ _=>rr.plain=true/\rr=dB true:=by
 refine bA.mk Tryz.func10 (by kernel_rfl) p2 rfl fun Q N=> ?_;unfold c2;have r0:=afZ 1048576 c (by omega);by_cases O:z8 1048576 c<0
 case pos=>
  repeat' first| (first|apply vI|apply Vz (x:=c) (a:=1048576) (by omega) p)<;>(simp only[go_sem,eq_true O])|fail
  all_goals exact N _ _ _ _ _ (.inr rfl) rfl ⟨rfl,rfl⟩
 have r1:=adY (z8 1048576 c) s (by omega);by_cases T:oW (z8 1048576 c) s<0
 case pos=>
  repeat' first| (first|apply vI|apply Vz (x:=c) (a:=1048576) (by omega) p|apply Qa (x:=s) (a:=z8 1048576 c) (by omega) y)<;>(simp only[go_sem,eq_false O,eq_true T])|fail
  all_goals exact N _ _ _ _ _ (.inr rfl) rfl ⟨rfl,rfl⟩
 have r2:=M7 Tq (oW (z8 1048576 c) s) l;by_cases n:szS nK (oW (z8 1048576 c) s) l<0
 case pos=>
  repeat' first| (first|apply vI|apply Vz (x:=c) (a:=1048576) (by omega) p|apply Qa (x:=s) (a:=z8 1048576 c) (by omega) y|apply Wb (l:=l) (a:=oW (z8 1048576 c) s) (by omega) J)<;>(simp only[go_sem,eq_false O,eq_false T,eq_true n])|fail
  all_goals exact N _ _ _ _ _ (.inr rfl) rfl ⟨rfl,rfl⟩
 have q:=ac9 1048576 c (by omega) (by omega) (by omega);have k5:=afX (a:=1048576) (x:=c) (by omega) (by omega);have r:=aaG (z8 1048576 c) s (by omega) (by omega) (by omega);have z1:=adA (a:=z8 1048576 c) (x:=s) (by omega) (by omega);have t:oM (kW (2^21)) (2^21) l:=TR Tq afD (a:=oW (z8 1048576 c) s) (by omega) (by omega);have z2:=Cj Tq ahQ (by omega) (a:=oW (z8 1048576 c) s) (l:=l) (by omega) (by omega);repeat' first| (first|apply vI|apply Vz (x:=c) (a:=1048576) (by omega) p|apply Qa (x:=s) (a:=z8 1048576 c) (by omega) y|apply Wb (l:=l) (a:=oW (z8 1048576 c) s) (by omega) J|apply Wd q|apply Qq r|apply Wc t)<;>(simp only[go_sem,eq_false O,eq_false T,eq_false n])|fail
 refine q7 q.fit r.fit (p7 t) fun H1 k az U=> ?_;obtain⟨w,hw⟩: ∃w,w=p1 c s l:=⟨_,rfl⟩
 have aa:w.length<=3000:=by rw[hw];exact t6
 have m:w.length<2^21:=by omega
 have bl:total eB w=3*w.length:=n7 fun _=>rfl;have k6:total eB w<=9000:=by omega
 rw[<-hw];have e:H1 0=some ⟨3,1,[cD c]⟩:=by rw[U 0 (by omega)];rfl
 have f:H1 1=some ⟨5,1,[dY s]⟩:=by rw[U 1 (by omega)];rfl
 clear U;have b:bH k [0,1]:=AM.apart (by simp<;>omega) (by simp<;>omega);simp only[bH,cU] at b;(try simp only[go_sem,nL,e,f,b,nL]);repeat' first| (first|apply vI|refine oy q (fun H2 i k7 F0 br k8 z V=> ?_))<;>(simp only[go_sem,nL,e,f,b,nL])|fail
 obtain⟨d1,d2,d3,ca,cc,cd,rfl,q0⟩:=id k8;refine⟨rfl,by simp,?_⟩;replace e:=(V 0 (by omega)).trans e;replace f:=(V 1 (by omega)).trans f;clear V b;have b:bH i [0,1,k+2]:=AM.apart (by simp<;>omega) (by simp<;>omega);simp only[bH,cU] at b;apply kI;repeat' first| (first|apply vI|refine bz r (fun H3 A k9 F1 cf m3 B L=> ?_))<;>(simp only[go_sem,e,f,b,nL])|fail
 obtain⟨e1,e2,e3,e4,e5,cl,cp,cq,ct,cw,rfl,q1⟩:=id m3;refine⟨rfl,by simp,?_⟩;replace e:=(L 0 (by omega)).trans ((aA.aB (by omega)).trans e);replace f:=(L 1 (by omega)).trans ((aA.aB (by omega)).trans f);have u:=(L (k+2) (by omega)).trans aA.aI;replace k8:=ae7 _ H3 _ _ _ k8 fun j d=>(L j (by have:=z j d;omega)).trans (aA.aB (by have:=z j d;omega));clear L b;have b:bH A [0,1,k+2,i+2]:=AM.apart (by simp<;>omega) (by simp<;>omega);simp only[bH,cU] at b;apply kI;repeat' first| (first|apply vI|refine pz t (fun H4 C m4 F2 cx m6 E G=> ?_))<;>(simp only[go_sem,e,f,u,b,nL])|fail
 replace e:=(G 0 (by omega)).trans ((aA.aB (by omega)).trans e);replace f:=(G 1 (by omega)).trans ((aA.aB (by omega)).trans f);replace u:=(G (k+2) (by omega)).trans ((aA.aB (by omega)).trans u);have o:=(G (i+2) (by omega)).trans aA.aI;replace k8:=ae7 _ H4 _ _ _ k8 fun j d=>(G j (by have:=z j d;omega)).trans (aA.aB (by have:=z j d;omega));replace m3:=abO _ H4 _ _ _ m3 fun j d=>(G j (by have:=B j d;omega)).trans (aA.aB (by have:=B j d;omega));clear G b;have b:bH C [0,1,k+2,i+2]:=AM.apart (by simp<;>omega) (by simp<;>omega);simp only[bH,cU] at b;(try simp only[go_sem,nL,e,f,u,o,b,nL]);repeat' first| (first|apply vI|refine s4 q.fit r.fit (p7 t) k8 m3 m6 (fun W X R F cy P g v=> ?_))<;>(simp only[go_sem,nL,e,f,u,o,b,nL])|fail
 rw[<-hw] at P;replace e:=(v 0 (by omega)).trans e;replace f:=(v 1 (by omega)).trans f;replace u:=(v (k+2) (by omega)).trans u;replace o:=(v (i+2) (by omega)).trans o;replace k8:=ae7 _ W _ _ _ k8 fun j d=>(v j (by have:=z j d;omega))
 replace m3:=abO _ W _ _ _ m3 fun j d=>(v j (by have:=B j d;omega))
 replace m6:=m6.frame (H':=W) W0 fun j d=>(v j (by have:=E j d;omega))
 clear v b;have b:bH X [0,1,k+2,i+2]:=AM.apart (by simp<;>omega) (by simp<;>omega);simp only[bH,cU] at b;(try simp only[go_sem,nL,e,f,u,o,b,nL]);repeat' first| (first|apply vI|apply abT m P|apply Wd q|apply af8 q k8|apply Qq r|apply ad8 r m3|apply Wc t|apply af7 t m6| (refine Pp (F:=F0) (fun j d=>by have:=z j d;omega) k8 q (by omega) (by omega) (fun m9 Y dc n0 I=> ?_)))<;>(simp only[go_sem,nL,e,f,u,o,b,nL])|fail
 have n4: ∀j,j<k\/i<=j->¬F0 j:=fun j h n=>by have:=z j n;omega
 replace e:=(I 0 (by omega) (n4 _ (by omega))).trans e;replace f:=(I 1 (by omega) (n4 _ (by omega))).trans f;replace o:=(I (i+2) (by omega) (n4 _ (by omega))).trans o;replace m3:=abO _ m9 _ _ _ m3 fun j d=>I j (by have:=B j d;omega) (n4 j (by have:=B j d;omega));replace m6:=m6.frame (H':=m9) W0 fun j d=>I j (by have:=E j d;omega) (n4 j (by have:=E j d;omega));replace P:=P.frame (H':=m9) aN fun j d=>I j (by have:=g j d;omega) (n4 j (by have:=g j d;omega));clear I n4 n0 k8 b;have b:bH Y [0,1,i+2]:=AM.apart (by simp<;>omega) (by simp<;>omega);simp only[bH,cU] at b;(try simp only[go_sem,nL,e,f,o,b,nL]);repeat' first| (first|apply vI| (refine Jy (F:=F1) (fun j d=>by have:=B j d;omega) m3 r (by omega) (by omega) (fun n5 Z df t1 M=> ?_)))<;>(simp only[go_sem,nL,e,f,o,b,nL])|fail
 have n4: ∀j,j<i\/A<=j->¬F1 j:=fun j h n=>by have:=B j n;omega
 replace e:=(M 0 (by omega) (n4 _ (by omega))).trans e;replace f:=(M 1 (by omega) (n4 _ (by omega))).trans f;replace m6:=m6.frame (H':=n5) W0 fun j d=>M j (by have:=E j d;omega) (n4 j (by have:=E j d;omega));replace P:=P.frame (H':=n5) aN fun j d=>M j (by have:=g j d;omega) (n4 j (by have:=g j d;omega));clear M n4 t1 m3 b;have b:bH Z [0,1]:=AM.apart (by simp<;>omega) (by simp<;>omega);simp only[bH,cU] at b;(try simp only[go_sem,nL,e,f,b,nL]);repeat' first| (first|apply vI|apply Y5 (by omega)| (refine Qp (F:=F2) (fun j d=>by have:=E j d;omega) m6 t (by omega) (by omega) (fun n8 ab dh t2 S=> ?_)))<;>(simp only[go_sem,nL,e,f,b,nL])|fail
 have n4: ∀j,j<A\/C<=j->¬F2 j:=fun j h n=>by have:=E j n;omega
 replace e:=(S 0 (by omega) (n4 _ (by omega))).trans e;replace f:=(S 1 (by omega) (n4 _ (by omega))).trans f;replace P:=P.frame (H':=n8) aN fun j d=>S j (by have:=g j d;omega) (n4 j (by have:=g j d;omega));clear S n4 t2 m6 b;have b:bH ab [0,1]:=AM.apart (by simp<;>omega) (by simp<;>omega);simp only[bH,cU] at b;(try simp only[go_sem,nL,e,f,b,nL]);repeat' first| (first|apply vI|apply abT m P| (refine Gn (F:=F) (fun j d=>by have:=g j d;omega) P m (by omega) (by omega) (fun o0 ad ds o4 f9=> ?_)))<;>(simp only[go_sem,nL,e,f,b,nL])|fail
 have n4: ∀j,j<C+0->¬F j:=fun j h n=>by have:=g j n;omega
 replace e:=(f9 0 (by omega) (n4 _ (by omega))).trans e;replace f:=(f9 1 (by omega) (n4 _ (by omega))).trans f;clear f9 n4 P b;have b:bH ad [0,1]:=AM.apart (by simp<;>omega) (by simp<;>omega);simp only[bH,cU] at b;(try simp only[go_sem,nL,e,f,b,nL]);repeat' first| (first|apply vI|apply We m (by omega) (by omega) o4)<;>(simp only[go_sem,nL,e,f,b,nL])|apply vF (by omega)|fail
 have ao: ∀{H:aA} {nx:Nat} {K:an4},K (dS (w.map eEv)) H nx->an3 qh [dA (cD c),dA (dY s),dS (l.map eIn)] H nx K:=fun h=>r5 q.fit r.fit (p7 t) (by rw[<-hw];exact h);(try simp only[go_sem,nL,e,f,b,nL]);repeat' first| (first|apply vI|apply Wd q|apply Qq r|apply Wc t|apply ao|apply Ka m|apply We m (by omega) (by omega) o4)<;>(simp only[go_sem,nL,e,f,b,nL])|apply vF (by omega)|fail
 all_goals exact N _ _ _ _ _ (.inr rfl) rfl ⟨rfl,rfl⟩
end Go.Proofs.YtlncecohbakleaaGreat
