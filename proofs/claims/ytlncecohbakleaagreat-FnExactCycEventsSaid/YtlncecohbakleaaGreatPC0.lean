/- Texts laid together by a program: rules, contracts and the walk that leads to the law. -/
import Derived.Test.YtlncecohbakleaaGreatPB19
import Derived.Test.YtlncecohbakleaaGreatPB22
import Derived.Test.YtlncecohbakleaaGreatPB24
import Derived.Test.YtlncecohbakleaaGreatPB23
set_option linter.unusedVariables false
set_option linter.unusedSimpArgs false
set_option linter.unusedSectionVars false
set_option maxRecDepth 100000
set_option maxHeartbeats 8000000
namespace Go.AM
def inB(i:CIn):Bool:=decide (i.ready.length=3/\i.iP.length=4/\i.send.length=3)
variable{i:CIn}
theorem h8:inB i=true↔aiR i:=decide_eq_true_iff
noncomputable def evB(c:Cfg)(s:CSt)(i:CIn):List Ev:=if cyB c s=true/\inB i=true then qu c i s else []
variable{c:Cfg}{s:CSt}
theorem i2(a:cyB c s=true)(b:inB i=true):evB c s i=qu c i s:=if_pos ⟨a,b⟩
theorem i1:(evB c s i).length<=10:=by
 unfold evB;split;·exact abI
 ·simp
def h9(s:CSt):Option Mic->List Ev
 |none=>[]
 |some m=>JE s m
def LOE(c:Cfg)(f:CSt->Nat->Option Mic)(l:List Nat)(s:CSt)(E:List Ev)(S:CSt)(T:List Ev):Prop:=mU c s (L4 c f s l)=S/\E++jV c s (L4 c f s l)=T
theorem LOE.next{f:CSt->Nat->Option Mic}{S:CSt}{k:Nat}{l:List Nat}{E T:List Ev}(h:LOE c f (k::l) s E S T):LOE c f l (za c s (f s k)) (E++h9 s (f s k)) S T:=by
 unfold LOE at h
 cases a:f s k with
 |none=>rw[Dd a] at h;exact⟨h.1,by rw[h9,alE];exact h.2⟩
 |some m=>rw[Cm a] at h;exact⟨h.1,by rw[akO];exact h.2⟩
theorem LOE.none{c:Cfg}{f:CSt->Nat->Option Mic}{s S:CSt}{k:Nat}{l:List Nat}{E T:List Ev}(h:LOE c f (k::l) s E S T)(a:f s k=none):LOE c f l s E S T:=by have:=h.next;rw[a,h9,alE] at this;exact this
theorem LOE.nil{f:CSt->Nat->Option Mic}{S:CSt}{E T:List Ev}(h:LOE c f [] s E S T):s=S/\E=T:=⟨h.1,by rw[<-h.2];exact(alE E).symm⟩
structure EvI(c:Cfg)(nx:Nat)(G H:aA)(nx1:Nat)(nm:Nat->Nat)(cl:List D1)(s:CSt)(E:List Ev)(io cap:Nat):Prop where
 ok:COk c s
 rep:AF (fun id=>id<nx+18\/id=io) H nx1 nm s cl
 x:H (nx+17)=some ⟨5,1,[cl]⟩
 out: ∃m,H io=some ⟨3,m,E.map eEv⟩/\E.length<=cap/\cap<=m
 io:io=nx+4\/nx+18<=io
 fr: ∀id,id<nx+17->id≠nx+4->H id=G id
theorem AF.swap{H G:aA}{n n' p io b:Nat}{e:Nat->Nat}{f:List D1}(h:AF (fun id=>id<p\/id=io) H n e s f)(g: ∀id,id<n->id≠io->G id=H id)(i:n<=b)(d:b<n'):AF (fun id=>id<p\/id=b) G n' e s f:=
 ⟨h.rep.frame fun j c=>g _ (h.names.lt j c) fun he=>h.names.av j c (.inr he),⟨h.names.inj,fun j c=>by have:=h.names.lt j c;omega,fun j c d=>by
   rcases d with d|d
   ·exact h.names.av j c (.inl d)
   ·have:=h.names.lt j c;omega⟩,fun id a=>by
   rcases a with a|a
   ·have:=h.x id (.inl a);omega
   ·omega⟩
theorem AF.add{X:Nat->Prop}{H G:aA}{n n' b:Nat}{e:Nat->Nat}{f:List D1}(h:AF X H n e s f)(g: ∀id,id<n->G id=H id)(i:n<=b)(d:b<n'):AF (fun id=>X id\/id=b) G n' e s f:=
 ⟨h.rep.frame fun j c=>g _ (h.names.lt j c),⟨h.names.inj,fun j c=>by have:=h.names.lt j c;omega,fun j c d=>by
   rcases d with d|d
   ·exact h.names.av j c d
   ·have:=h.names.lt j c;omega⟩,fun id a=>by
   rcases a with a|a
   ·have:=h.x id a;omega
   ·omega⟩
def hS(c:Cfg)(i:CIn)(s:CSt)(k:Nat):List Ev:=if i.send.getD k default=true/\(aL s k).queue.length<2/\(aL s k).next<(c.b7.getD k default).length then [⟨1,k,(aL s k).next⟩] else []
theorem h7{c:Cfg}{i:CIn}{s:CSt}: ∀{l:List Nat} {x:CSt},l.Nodup->x.bE.length=3->(∀k∈l,k<3/\aL x k=aL s k)->jV c x (L4 c (xv c i) x l)=l.flatMap (hS c i s)
 | [],x,_,_,_=>rfl
 |k::l,x,d,hp,e=>by
  obtain⟨h,a⟩:=e k (by simp);rw[alG] at d;rw[am5];by_cases f:i.send.getD k default=true/\(aL s k).queue.length<2/\(aL s k).next<(c.b7.getD k default).length
  ·have g:xv c i x k=some (.ask k):=(by unfold xv;rw[a];exact if_pos f);rw[Cm g];show JE x (.ask k)++jV c (bS c x (.ask k)) (L4 c (xv c i) (bS c x (.ask k)) l)=_;rw[h7 (l:=l) d.2 (by simp[bS,hp]) fun j b=>⟨(e j (alL _ b)).1,?_⟩];·unfold hS;rw[if_pos f,JE,a]
   ·rw[cH (s:=x) rfl (by omega),if_neg (fun he=>d.1 (by rw[<-he];exact b))];exact(e j (alL _ b)).2
  ·have g:xv c i x k=none:=(by unfold xv;rw[a];exact if_neg f);rw[Dd g,h7 (l:=l) d.2 hp fun j b=>e j (alL _ b)];unfold hS;rw[if_neg f];rfl
theorem i0(h:s.bE.length=3):jV c s (yt c i s)=(List.range 3).flatMap (hS c i s):=by unfold yt;exact h7 (s:=s) (by decide) h fun k a=>⟨ud a,rfl⟩
theorem hW{k:Nat}:(List.range (k+1)).flatMap (hS c i s)=(List.range k).flatMap (hS c i s)++hS c i s k:=by rw[amZ,List.flatMap_append];simp
theorem zz.len{s:CSt}(h:zz s):jE (2^21) s:=by
 refine⟨⟨h.w,h.h⟩,⟨h.pl,fun p hp=> ?_⟩,⟨h.sl,fun v b=> ?_⟩,h.t,h.td⟩;·obtain⟨k,a,rfl⟩:=List.getElem_of_mem hp;have:=h.port k;rw[show aL s k=s.bE[k] by simp[aL,List.getD,a]] at this;exact this
 ·obtain⟨k,a,rfl⟩:=List.getElem_of_mem b;have:=h.slv k;rw[show aU s k=s.bM[k] by simp[aU,List.getD,a]] at this;exact⟨this.1,this.2.1,this.2.2⟩
theorem COk.len{c:Cfg}{s:CSt}(a:bI c)(b:COk c s):jE (2^21) s:=zz.len ((b.base a).ajJ.fit).1
theorem COk.z(b:bI c)(a:COk c s):BG s<=2^50:=acP (a.len b) (by rw[a.pl];omega) (by rw[a.sl];omega)
theorem kW.fit(h:kW (2^21) i):aj8 i:=⟨h.1,h.2.1,h.2.2⟩
theorem i3{H:aA}{io m:Nat}{l:List Ev}(c:H io=some ⟨3,m,l.map eEv⟩):aiS (without (fun j=>¬j=io) H):=fun j o a=>by
 unfold without at a;split at a;·cases a
 ·rename_i e;cases Classical.not_not.1 e;rw[c] at a;cases a;intro r f d b;obtain⟨x,_,rfl⟩:=akJ.1 f;unfold eEv at b;simp only[akK,alM,or_false] at b;rcases b with rfl|rfl|rfl<;>rfl
end Go.AM
namespace Go.Proofs.YtlncecohbakleaaGreat
open Go Go.AM
attribute [local irreducible] aH wv aC vd wvH
def a8:AC:= (SR [RO 3 0,RO 4 1,RO 5 2,RV 6 kF] [3,4,5] (SR [RV 7 (ki 1048576)] [3,4,5,7] (SR [RD 17 3 3,RM 18 7,RC 19 O4 [17,18],RM 7 19] [3,4,5,7] (.seq (SR [RM 20 7,RB 21 .lss 20 (ki 0)] [3,4,5,7,21] (.cond 21 (SR [RV 6 kT] [6] .ret) .skip)) (SR [RD 22 5 4,RM 23 7,RC 24 JS [22,23],RM 7 24] [3,4,5,7] (.seq (SR [RM 25 7,RB 26 .lss 25 (ki 0)] [3,4,5,7,26] (.cond 26 (SR [RV 6 kT] [6] .ret) .skip)) (SR [RD 27 3 5,RM 28 7,RC 29 HW [27,28],RM 7 29] [3,4,5,7] (.seq (SR [RM 30 7,RB 31 .lss 30 (ki 0)] [3,4,5,31] (.cond 31 (SR [RV 6 kT] [6] .ret) .skip)) (.seq (.region [RD 32 3 3 0,RX 34 (.load 5 true 4) [] [] true 2,RX 36 (.load 3 true 5) [] [] true 4,RX 33 (.call FD [32]) [] [2,4] false 1,RX 35 (.call zB [34]) [] [4] false 3,RC 37 z7 [36] 5,RC 38 Ty [33,35,37] 6,RM 8 38 7] 8 [3,4,5,8]) (SR [RD 39 3 3,RC 40 FD [39],RA 9 [OZ,OZ,OZ],WS 3 true 9 40] [3,4,5,8,9] (SR [RD 41 5 4,RC 42 zB [41],RA 10 [OZ,OZ,OZ,OZ,OZ],WS 5 true 10 42] [3,4,5,8,9,10] (SR [RD 43 3 5,RC 44 z7 [43],RA 11 [OZ,OZ,OZ],WS 3 true 11 44] [3,4,5,8,9,10,11] (SR [RD 45 3 9,RD 46 5 10,RD 47 3 11,RC 48 Tp [45,46,47],RM 12 48] [3,4,5,8,9,10,11,12] (.seq (SR [RM 49 12,RM 50 8,RC 51 oF [49,50],RU 52 51] [3,4,5,8,9,10,11,12,52] (.cond 52 (SR [RV 6 kF] [6] .ret) .skip)) (.seq (SR [RX 53 (.load 3 true 9) [] [] true,RD 54 3 3,RX 55 (.call FD [54]) [] [0] false,RC 56 E7 [53,55],RU 57 56] [3,4,5,8,9,10,11,12,57] (.cond 57 (SR [RV 6 kF] [6] .ret) .skip)) (.seq (SR [RX 58 (.load 5 true 10) [] [] true,RD 59 5 4,RX 60 (.call zB [59]) [] [0] false,RC 61 zM [58,60],RU 62 61] [3,4,5,8,9,10,11,12,62] (.cond 62 (SR [RV 6 kF] [6] .ret) .skip)) (.seq (SR [RX 63 (.load 3 true 11) [] [] true,RD 64 3 5,RX 65 (.call z7 [64]) [] [0] false,RC 66 rC [63,65],RU 67 66] [3,4,5,8,9,10,11,12,67] (.cond 67 (SR [RV 6 kF] [6] .ret) .skip)) (SR [RV 13 (ki 1)] [3,4,5,8,9,10,11,12,13] (SR [RD 68 3 9,RM 69 13,RC 70 J7 [68,69],RM 13 70] [3,4,5,8,10,11,12,13] (SR [RD 71 5 10,RM 72 13,RC 73 FT [71,72],RM 13 73] [3,4,5,8,11,12,13] (SR [RD 74 3 11,RM 75 13,RC 76 M3 [74,75],RM 13 76] [3,4,5,8,12,13] (.seq (SR [RM 77 13,RB 78 .lss 77 (ki 0),RM 79 78,GM 80 12 79 false,GM 81 8 79 false,GQ 82 (.call oF [80,81]) 79 false,GU 83 82 79 false,RP 84 79 kT 83] [3,4,5,8,12,84] (.cond 84 (SR [RV 6 kF] [6] .ret) .skip)) (SR [RV 14 (ki 1)] [3,4,5,8,12,14] (SR [RM 85 12,RM 86 14,RC 87 DN [85,86],RM 14 87] [3,4,5,8,12,14] (SR [RV 15 (ki 1)] [3,4,5,8,12,14,15] (SR [RM 88 12,RM 89 15,RC 90 rO [88,89],RM 15 90] [3,4,5,8,12,14,15] (.seq (SR [RM 91 15,RB 92 .lss 91 (ki 0)] [3,4,5,8,12,14,15,92] (.cond 92 (SR [RV 6 kF] [6] .ret) .skip)) (.seq (SR [RM 93 15,RM 94 14,RB 95 .neq 93 94] [3,4,5,8,12,14,95] (.cond 95 (SR [RV 6 kF] [6] .ret) .skip)) (.seq (.region [RD 96 3 3 0,RX 98 (.load 5 true 4) [] [] true 2,RX 100 (.load 3 true 5) [] [] true 4,RX 97 (.call FD [96]) [] [2,4] false 1,RX 99 (.call zB [98]) [] [4] false 3,RC 101 z7 [100] 5,RC 102 Tp [97,99,101] 6,RM 16 102 7] 8 [8,12,14,16]) (.seq (SR [RM 103 16,RM 104 8,RC 105 oF [103,104],RU 106 105] [12,14,106] (.cond 106 (SR [RV 6 kF] [6] .ret) .skip)) (SR [RV 15 (ki 1)] [12,14,15] (SR [RM 107 12,RM 108 15,RC 109 rO [107,108],RM 15 109] [14,15] (.seq (SR [RM 110 15,RB 111 .lss 110 (ki 0)] [14,15,111] (.cond 111 (SR [RV 6 kF] [6] .ret) .skip)) (.seq (SR [RM 112 15,RM 113 14,RB 114 .neq 112 113] [114] (.cond 114 (SR [RV 6 kF] [6] .ret) .skip)) (SR [RV 6 kT] [6] .ret)))))))))))))))))))))))))))))))))))
def b8:List aR:=[.tm 6]
theorem hC:aK an2 Tryz.f7 (aV a8)=some (a8,b8):=by kernel_rfl
def b5:AC:= (SR [RO 3 0,RO 4 1,RO 5 2,RV 6 (.kv (.slice none 0 0))] [3,4,5] (SR [rq 14 (.bY 3 0 [VZ,VZ,VZ] []),RM 7 14] [3,4,5,7] (.seq (SR [RD 15 3 3,RD 16 5 4,RC 17 de [15,16],RU 18 17,RM 19 18,GQ 20 (.load 3 true 5) 19 false,GQ 21 (.call ae8 [20]) 19 false,GU 22 21 19 false,RP 23 19 kT 22] [3,4,5,7,23] (.cond 23 (SR [RM 24 7,RM 6 24] [6] .ret) .skip)) (SR [RD 25 5 4,RC 26 VJ [25],RA 8 [OZ,OZ,OZ,OZ,OZ],WS 5 true 8 26] [3,5,7,8] (.seq (SR [RV 9 (ki 0)] [3,5,7,8,9] (.block 0 (.loop (.seq (SR [RM 27 9,RB 28 .lss 27 (ki 3)] [3,5,7,8,9,28] (.cond 28 .skip (.exit 0))) (.seq (.block 1 (SR [RF 31 0 5,RL 32 31,RM 33 9,RI 34 1 32 33,RL 35 34,RM 36 35,GQ 37 (.load 5 true 8) 36 true,GM 38 9 36 true,GQ 39 (.call LI [37,38]) 36 true,GB 40 .geq 39 (ki 0) 36 true,RP 41 36 40 kF] [3,5,7,8,9,41] (.cond 41 (SR [RM 42 7,RM 43 9,RF 44 3 8,RW 45 44 [14] [] true,RD 46 5 8,RM 47 9,RX 48 (.call LI [46,47]) [] [3] false,RI 49 3 45 48,RF 50 1 49,RL 51 50,RI 52 5 51 (ki 0),RF 53 1 52,RL 54 53,rq 55 (.build [VZ,VZ,VZ] [(0,1,(ki 3)),(1,1,43),(2,1,54)]),rq 56 (.bY 3 1 [VZ,VZ,VZ] [(0,3,55)]),rq 57 (.append 3 42 56),RM 7 57] [3,5,7,8,9] (RG [RD 58 5 8,RM 59 9,RC 60 K5 [58,59],WS 5 true 8 60] [3,5,7,8,9])) .skip))) (RG [RM 29 9,RB 30 .add 29 (ki 1),RM 9 30] [3,5,7,8,9])))))) (.seq (SR [RV 10 (ki 0)] [3,5,7,8,10] (.block 2 (.loop (.seq (SR [RM 61 10,RB 62 .leq 61 (ki 3)] [3,5,7,8,10,62] (.cond 62 .skip (.exit 2))) (.seq (.block 3 (.seq (SR [RF 65 1 5,RL 66 65,RM 67 10,RI 68 1 66 67,RL 69 68,RU 70 69,RM 71 70,GQ 72 (.load 5 true 8) 71 true,GM 73 10 71 true,GQ 74 (.call HK [72,73]) 71 true,RP 75 71 74 kF] [3,5,7,8,10,75] (.cond 75 (RG [RM 76 7,RF 77 3 8,RL 78 77,RM 79 10,RI 80 3 78 79,RF 81 0 80,RL 82 81,RI 83 3 82 (ki 0),RF 84 0 83,RL 85 84,RF 86 3 8,RL 87 86,RM 88 10,RI 89 3 87 88,RF 90 0 89,RL 91 90,RI 92 3 91 (ki 0),RF 93 1 92,RL 94 93,rq 95 (.build [VZ,VZ,VZ] [(0,1,(ki 2)),(1,1,85),(2,1,94)]),rq 96 (.bY 3 1 [VZ,VZ,VZ] [(0,3,95)]),rq 97 (.append 3 76 96),RM 7 97] [3,5,7,8,10]) .skip)) (SR [RF 98 1 5,RL 99 98,RM 100 10,RI 101 1 99 100,RL 102 101,RU 103 102] [3,5,7,8,10,103] (.cond 103 (RG [RD 104 3 3,RD 105 5 8,RM 106 10,RC 107 KS [104,105,106],WS 5 true 8 107] [3,5,7,8,10]) .skip)))) (RG [RM 63 10,RB 64 .add 63 (ki 1),RM 10 64] [3,5,7,8,10])))))) (SR [rq 108 (.iX 1 [(.v (.bool false))] (ki 3) (ki 3)),RM 11 108] [3,5,7,8,11] (.seq (SR [RV 12 (ki 0)] [3,5,7,8,11,12] (.block 4 (.loop (.seq (SR [RM 109 12,RB 110 .leq 109 (ki 3)] [3,5,7,8,11,12,110] (.cond 110 .skip (.exit 4))) (.seq (.block 5 (RG [RD 113 3 3,RD 114 5 8,RM 115 12,RM 116 11,RC 117 OC [113,114,115,116],WS 5 true 8 117] [3,5,7,8,11,12])) (RG [RM 111 12,RB 112 .add 111 (ki 1),RM 12 112] [3,5,7,8,11,12])))))) (.seq (SR [RV 13 (ki 0)] [3,5,7,8,13] (.block 6 (.loop (.seq (SR [RM 118 13,RB 119 .lss 118 (ki 3)] [3,5,7,8,13,119] (.cond 119 .skip (.exit 6))) (.seq (.block 7 (SR [RF 122 2 5,RL 123 122,RM 124 13,RI 125 1 123 124,RL 126 125,RM 127 126,GQ 128 (.load 3 true 3) 127 true,GQ 129 (.load 5 true 8) 127 true,GM 130 13 127 true,GQ 131 (.call IT [128,129,130]) 127 true,RP 132 127 131 kF] [3,5,7,8,13,132] (.cond 132 (RG [RM 133 7,RM 134 13,RF 135 2 8,RL 136 135,RM 137 13,RI 138 4 136 137,RF 139 0 138,RL 140 139,rq 141 (.build [VZ,VZ,VZ] [(0,1,(ki 1)),(1,1,134),(2,1,140)]),rq 142 (.bY 3 1 [VZ,VZ,VZ] [(0,3,141)]),rq 143 (.append 3 133 142),RM 7 143] [3,5,7,8,13]) .skip))) (RG [RM 120 13,RB 121 .add 120 (ki 1),RM 13 121] [3,5,7,8,13])))))) (SR [RM 144 7,RM 6 144] [6] .ret))))))))))
def e8:List aR:=[.tm 6]
theorem hI:aK an2 Tryz.f47 (aV b5)=some (b5,e8):=by kernel_rfl
def a9:AC:= (SR [RO 3 0,RO 4 1,RO 5 2,RV 6 (.kv (.slice none 0 0))] [3,4,5] (.seq (SR [RD 8 3 3,RD 9 5 4,RC 10 GV [8,9],RU 11 10,RM 12 11,GQ 13 (.load 3 true 5) 12 false,GQ 14 (.call ll [13]) 12 false,GU 15 14 12 false,RP 16 12 kT 15] [3,4,5,16] (.cond 16 (SR [RV 6 (.kv (.slice none 0 0))] [6] .ret) .skip)) (SR [RD 17 5 4,RC 18 gX [17],RA 7 [OZ,OZ,OZ,OZ,OZ],WS 5 true 7 18] [3,5,7] (SR [RD 19 3 3,RD 20 3 5,RC 21 mC [7,19,20],rq 22 (.field 0 1 false 21),RC 23 xw [22],RM 6 23] [6] .ret))))
def e7:List aR:=[.tm 6]
theorem hM:aK an2 Tryz.f34 (aV a9)=some (a9,e7):=by kernel_rfl
def a7:AC:= (SR [RV 2 (.kv (.slice none 0 0))] [0] (SR [RM 3 0,RC 4 YQ [3],RC 5 eQ [4],RM 2 5] [2] .ret))
def b6:List aR:=[.tm 2]
theorem c9:aK an2 Tryz.f107 (aV a7)=some (a7,b6):=by kernel_rfl
def a0:AC:= (SR [RV 2 (.kv (.slice none 0 0))] [0] (.seq (SR [RM 3 0,rq 4 (.xop (.yL false) [3])] [0,4] (.cond 4 (SR [RV 2 (.kv (.slice none 0 0))] [2] .ret) .skip)) (SR [rq 5 (.bY 3 0 [VZ,VZ,VZ] []),RM 6 0,rq 7 (.append 3 5 6),RM 2 7] [2] .ret)))
def b0:List aR:=[.tm 2]
theorem c1:aK an2 Tryz.f199 (aV a0)=some (a0,b0):=by kernel_rfl
def c6:AC:= (SR [RO 1 0,RV 2 kF] [1] (SR [RF 3 0 1,RL 4 3,RN 5 4,RB 6 .eql 5 (ki 3),RM 7 6,GF 8 1 1 7 true,GL 9 8 7 true,GQ 10 (.len false 9) 7 true,GB 11 .eql 10 (ki 4) 7 true,RP 12 7 11 kF,RM 13 12,GF 14 2 1 13 true,GL 15 14 13 true,GQ 16 (.len false 15) 13 true,GB 17 .eql 16 (ki 3) 13 true,RP 18 13 17 kF,RM 2 18] [2] .ret))
def hN:List aR:=[.tm 2]
theorem h5:aK an2 Tryz.f49 (aV c6)=some (c6,hN):=by kernel_rfl
section
variable{H:aA}{nx:Nat}{K:an4}
variable{i:CIn}
theorem hK(k:i.ready.length<2^21)(l:i.iP.length<2^21)(m:i.send.length<2^21)(h:K (dB (inB i)) H nx):an3 ll [dA (eIn i)] H nx K:=by
 refine aC.pure (args0:=[dA (eIn i)]) (R:=fun f=>f=dB (inB i)) ?_ rfl (aE ⟨aD rfl,trivial⟩) (fun r g=>g▸h);clear h;refine adE rfl fun Q c=> ?_;unfold NT;by_cases b:i.ready.length=3
 ·by_cases d:i.iP.length=4
  ·by_cases e:i.send.length=3
   ·have a:inB i=true:=decide_eq_true ⟨b,d,e⟩;repeat' first| (first|apply vI|apply Y4 (by omega))<;>(simp only[go_sem,b,d,e])|fail
    all_goals exact aJ c _ rfl rfl (congrArg dB a.symm)
   ·have a:inB i=false:=decide_eq_false fun h=>e h.2.2;have j:decide ((i.send.length:Int)=3)=false:=decide_eq_false (by omega);repeat' first| (first|apply vI|apply Y4 (by omega))<;>(simp only[go_sem,b,d,j])|fail
    all_goals first|exact aJ c _ rfl rfl (congrArg dB a.symm)|omega
  ·have a:inB i=false:=decide_eq_false fun h=>d h.2.1;repeat' first| (first|apply vI|apply Y4 (by omega)|apply Y5 (by omega))<;>(simp only[go_sem,b])|fail
   all_goals first|exact aJ c _ rfl rfl (congrArg dB a.symm)|omega
 ·have a:inB i=false:=decide_eq_false fun h=>b h.1;repeat' first| (first|apply vI|apply Y5 (by omega))<;>(simp only[go_sem])|fail
  all_goals first|exact aJ c _ rfl rfl (congrArg dB a.symm)|omega
theorem hH(k:i.ready.length<2^21)(l:i.iP.length<2^21)(m:i.send.length<2^21)(h:K (dB (inB i)) H nx):an3 ae8 [dA (eIn i)] H nx K:=by
 refine aC.pure (args0:=[dA (eIn i)]) (R:=fun f=>f=dB (inB i)) ?_ rfl (aE ⟨aD rfl,trivial⟩) (fun r g=>g▸h);clear h;refine aM.mk Tryz.func49 (by kernel_rfl) h5 rfl fun Q c=> ?_;unfold c6;by_cases b:i.ready.length=3
 ·by_cases d:i.iP.length=4
  ·by_cases e:i.send.length=3
   ·have a:inB i=true:=decide_eq_true ⟨b,d,e⟩;repeat' first| (first|apply vI|apply Y4 (by omega))<;>(simp only[go_sem,b,d,e])|fail
    all_goals exact aJ c _ rfl rfl (congrArg dB a.symm)
   ·have a:inB i=false:=decide_eq_false fun h=>e h.2.2;have j:decide ((i.send.length:Int)=3)=false:=decide_eq_false (by omega);repeat' first| (first|apply vI|apply Y4 (by omega))<;>(simp only[go_sem,b,d,j])|fail
    all_goals first|exact aJ c _ rfl rfl (congrArg dB a.symm)|omega
  ·have a:inB i=false:=decide_eq_false fun h=>d h.2.1;repeat' first| (first|apply vI|apply Y4 (by omega)|apply Y5 (by omega))<;>(simp only[go_sem,b])|fail
   all_goals first|exact aJ c _ rfl rfl (congrArg dB a.symm)|omega
 ·have a:inB i=false:=decide_eq_false fun h=>b h.1;repeat' first| (first|apply vI|apply Y5 (by omega))<;>(simp only[go_sem])|fail
  all_goals first|exact aJ c _ rfl rfl (congrArg dB a.symm)|omega
theorem h6{τ:Nat->Nat}{n m:Nat}{l:List Ev}:bQ.rn τ ⟨n,m,l.map eEv⟩=⟨n,m,l.map eEv⟩:=by refine CS fun r a x b=> ?_;obtain⟨y,_,rfl⟩:=akJ.1 a;exact akR.1 (Ms y).2 x b
theorem c3(l:List Ev)(g:l.length<2^21):an3 YQ [dS (l.map eEv)] (hp []) 0
 fun r H' n'=>∃cap,l.length<=cap/\n'=1/\H'=hp [(0,⟨3,cap,l.map eEv⟩)]/\r=dO 3 0 l.length cap:=by
 refine aM.mk Tryz.func199 (by kernel_rfl) c1 rfl fun Q c=> ?_
 unfold a0
 refine aH.seq (aH.kd 3 ?_)
 repeat' first|apply vI<;>(simp only[go_sem])|refine Z7 (fun h=> ?_) fun h=> ?_| (with_reducible first|refine fun(cap:Nat) (d:_<=cap)=> ?_|refine fun(e:_<=cap)=> ?_|refine fun(b:Bool)=> ?_)| ((refine L0 (fun h=> ?_) (fun h=> ?_))<;>try subst h)|refine⟨by omega,?_⟩|fail
 all_goals first
  | (have a:=akA cap
     (refine c _ _ _ _ _ 1 (dO 3 0 l.length cap) (hp [(0,⟨3,cap,l.map eEv⟩)]) _ _ (.inr rfl) rfl (oE [6] (by omega) (by repeat' first|exact C1| ((with_reducible apply C0);exact CQ (by omega) rfl rfl (by rfl) rfl)| ((with_reducible apply D0);apply CJ)|fail) ⟨⟨by simp,by simp[sgL],_,rfl,dX (aW Ms _) rfl rfl⟩,trivial⟩ (by simp[sgL])) ?_)
     exact⟨cap,by omega,rfl,rfl,rfl⟩)
  | (have f:l=[]:=ak9 (by omega)
     subst f
     (refine c _ _ _ _ _ 1 (dO 3 0 0 0) (hp [(0,⟨3,0,([]:List Ev).map eEv⟩)]) _ _ (.inr rfl) rfl (oE [0] (by omega) (by repeat' first|exact C1| ((with_reducible apply C0);exact CC)| ((with_reducible apply D0);apply CJ)|fail) ⟨⟨by simp,by simp[sgL],_,rfl,dX (aW Ms _) rfl rfl⟩,trivial⟩ (by simp[sgL])) ?_)
     exact⟨0,akA _,rfl,rfl,rfl⟩)
theorem c4{l:List Ev}(a:l.length<2^21)(h: ∀cap,l.length<=cap->K (dO 3 nx l.length cap) (H.set nx ⟨3,cap,l.map eEv⟩) (nx+1)):an3 YQ [dS (l.map eEv)] H nx K:=by
 refine(c3 l a).YD (l0:=[]) [] rfl ⟨aD rfl,trivial⟩ trivial (by simp) (by simp) (by simp) fun r H' n' _ ⟨cap,b,c,d,e⟩=> ?_;have h:=h cap b;subst c;subst d;subst e;have f:back (tau 0 nx (nth [])) (hp [(0,⟨3,cap,l.map eEv⟩)]) 1 H=H.set nx ⟨3,cap,l.map eEv⟩:=by simp only[back,hp,aA.set,tau,alA,if_true,if_false,Nat.sub_zero,Nat.add_zero,Option.map_some,h6,aA.mF]
 rw[<-f] at h;exact h
theorem d9{l:List Ev}(b:l.length<2^21)(h: ∀H' nx' io m,nx<=io->io<nx'->H' io=some ⟨3,m,l.map eEv⟩->l.length<=m->(∀id,id<nx->H' id=H id)->K (dO 3 io l.length l.length) H' nx'):an3 xw [dS (l.map eEv)] H nx K:=by
 refine bA.mk Tryz.func107 (by kernel_rfl) c9 rfl fun Q c=> ?_;unfold a7;repeat' first| (first|apply vI|refine c4 b (fun cap a=> ?_)|apply Vq (l:=l) (by omega) a (by omega) aA.aI)<;>(simp only[go_sem])|fail
 exact c _ _ _ _ _ (.inr rfl) rfl (h _ _ (nx+1+4) cap (by omega) (by omega) aA.aI a fun id d=>by simp (disch:=omega) only[aA.aB])
theorem c5:bA an2 Tp Tryz.f34 a9 e7:=bA.mk Tryz.func34 (by kernel_rfl) hM
variable{c:Cfg}{s:CSt}
theorem e6(q:OJ c)(z:zz s)(O:aj8 i)
 (h: ∀H' nx' io m,nx<=io->io<nx'->H' io=some ⟨3,m,(evB c s i).map eEv⟩->(evB c s i).length<=m->(∀id,id<nx->H' id=H id)->K (dO 3 io (evB c s i).length (evB c s i).length) H' nx'):an3 Tp [dA (cD c),dA (dY s),dA (eIn i)] H nx K:=by
 obtain⟨l1,l2,l3⟩:=O
 have t: ¬(cyB c s=true/\inB i=true)->evB c s i=[]:=fun h=>if_neg h
 by_cases r:cyB c s=true
 ·by_cases n:inB i=true
  ·obtain⟨I,J⟩:=ajC.1 r;have A:=h8.1 n;rw[i2 r n] at h;refine c5 rfl fun Q u=> ?_;unfold a9;repeat' first| (first|apply vI|apply abP q z|apply hK (i:=i) (by omega) (by omega) (by omega)|refine Ft (J.sz I) (fun H' nx' P cells hx B C o=> ?_))<;>(simp only[go_sem,r,n,nL])|fail
   have v:cells.length=5:=(by obtain⟨_,_,_,_,_,rfl,_⟩:=B.ex;rfl);have w:cells++List.drop cells.length [D1.osl 0 0 0 0 0,.osl 0 0 0 0 0,.osl 0 0 0 0 0,.osl 0 0 0 0 0,.osl 0 0 0 0 0]=cells:=(by rw[v];simp);refine⟨v,by omega,?_⟩;rw[w];try apply kI
   refine aH.Ia fun y f=> ?_;have R:y nx=some ⟨3,1,[cD c]⟩:=(by rw[f,aA.aB (by omega),o _ (by omega)];simp (disch:=omega) only[aA.aB,aA.aI]);have S:y (nx+2)=some ⟨3,1,[eIn i]⟩:=(by rw[f,aA.aB (by omega),o _ (by omega)];simp (disch:=omega) only[aA.aB,aA.aI]);have D: ∀id,id<nx->y id=H id:=fun id g=>by rw[f,aA.aB (by omega),o _ (by omega)];simp (disch:=omega) only[aA.aB]
   have L:Rep (fun id=>id<nx+3) y nx' (nx+15) P s:=(by have p:=fun k j=>C.rng k j;refine⟨⟨cells,by rw[f];exact aA.aI,B.frame fun k j=>by have:=p k j;rw[f,aA.aB (by omega)]⟩,⟨C.inj,fun k j=>by have:=p k j;omega,fun k j hn=>by have:=p k j;omega⟩,fun k j=>by have:=p k j;omega,⟨by omega,by omega⟩,fun id g=>by omega⟩);clear f B C o;have M:bH nx' [nx,nx+2]:=AM.apart (by simp) (by simp;omega);simp only[bH,cU] at M;repeat' first|apply vI<;>(simp only[go_sem,nL,R,S,M])|fail
   refine Ii (X:=fun id=>id<nx+3) I J A (L.frame (by omega) rfl (fun _ _=>rfl) fun id x=>⟨by omega,by omega,fun k j he=>L.names.av k j (he▸x)⟩) fun H2 T U a b d e V W E=> ?_;have Y:=abI (c:=c) (i:=i) (s:=s);(try simp only[go_sem,nL,nL]);repeat' first| (first|apply vI|apply Y4 (by omega)|apply Y5 (by omega)|refine Y6 (fun h=> ?_) fun h=> ?_| (refine Y7 (fun h=> ?_) (fun h=> ?_)<;>try subst h)|refine d9 (l:=qu c i s) (by omega) (fun H3 Z io m b1 b2 b3 b4 F=> ?_))<;>(simp only[go_sem,nL,nL];try simp (disch:=omega) only[Iw])|apply vT (by omega)|apply vF (by omega)|refine iB (fun h=> ?_) fun h=> ?_|refine Z7 (fun h=> ?_) fun h=> ?_|refine bX rfl ?_| (with_reducible first|refine fun(cap:Nat) (N:_<=cap)=> ?_|refine fun(aa:_<=cap)=> ?_|refine fun(b:Bool)=> ?_)| ((refine L0 (fun h=> ?_) (fun h=> ?_))<;>try subst h)|refine⟨by omega,?_⟩| (refine⟨by(rw[ak1];omega),?_⟩)|fail
   exact u _ _ _ _ _ (.inr rfl) rfl (h _ _ io m (by omega) (by omega) b3 b4 fun id g=>by rw[F _ (by omega),E _ (by show id<nx+3;omega)];exact D id g)
  ·have n:inB i=false:=by cases G:inB i;rfl;exact absurd G n
   rw[t (fun h=>by rw[n] at h;exact absurd h.2 (by decide))] at h;apply aC.VP;refine c5 rfl fun Q u=> ?_;unfold a9;apply aH.kd 3;repeat' first| (first|apply vI|apply abP q z|apply hK (i:=i) (by omega) (by omega) (by omega))<;>(simp only[go_sem,r,n,nL])|fail
   exact u _ _ _ _ _ (.inr rfl) rfl ⟨dO 3 nx 0 0,_,noF,lM (.Fq ..),aF,h _ _ nx 0 (akA _) (by omega) (by simp (disch:=omega) only[aA.aB,aA.aI];rfl) (akA _) fun id g=>by simp (disch:=omega) only[aA.aB]⟩
 ·have n:cyB c s=false:=by cases G:cyB c s;rfl;exact absurd G r
  rw[t (fun h=>r h.1)] at h;apply aC.VP;refine c5 rfl fun Q u=> ?_;unfold a9;apply aH.kd 3;repeat' first| (first|apply vI|apply abP q z)<;>(simp only[go_sem,n,nL])|fail
  exact u _ _ _ _ _ (.inr rfl) rfl ⟨dO 3 nx 0 0,_,noF,lM (.Fq ..),aF,h _ _ nx 0 (akA _) (by omega) (by simp (disch:=omega) only[aA.aB,aA.aI];rfl) (akA _) fun id g=>by simp (disch:=omega) only[aA.aB]⟩
theorem hD(ec:OJ c)(hf:zz s)(hi:aj8 i)
 (h: ∀H' nx' io cap m,nx<=io->io<nx'->H' io=some ⟨3,m,(evB c s i).map eEv⟩->(evB c s i).length<=cap->cap<=m->(∀id,id<nx->H' id=H id)->K (dO 3 io (evB c s i).length cap) H' nx'):an3 Ty [dA (cD c),dA (dY s),dA (eIn i)] H nx K:=by
 obtain⟨l1,l2,l3⟩:=hi
 refine bA.mk Tryz.func47 (by kernel_rfl) hI rfl fun Q hQ=> ?_
 unfold b5
 have ia: ¬(cyB c s=true/\inB i=true)->evB c s i=[]:=fun h=>if_neg h
 cases J:cyB c s
 ·rw[ia (fun h=>by rw[J] at h;exact absurd h.1 (by decide))] at h;repeat' first| (first|apply vI|apply abQ ec hf)<;>(simp only[go_sem,J,nL])|fail
  exact hQ _ _ _ _ _ (.inr rfl) rfl (h _ _ (nx+4) 0 0 (by omega) (by omega) (by simp (disch:=omega) only[aA.aB,aA.aI];rfl) (akA _) (akA _) fun id T=>by simp (disch:=omega) only[aA.aB])
 cases y:inB i
 ·rw[ia (fun h=>by rw[y] at h;exact absurd h.2 (by decide))] at h;repeat' first| (first|apply vI|apply abQ ec hf|apply hH (i:=i) (by omega) (by omega) (by omega))<;>(simp only[go_sem,J,y,nL])|fail
  exact hQ _ _ _ _ _ (.inr rfl) rfl (h _ _ (nx+4) 0 0 (by omega) (by omega) (by simp (disch:=omega) only[aA.aB,aA.aI];rfl) (akA _) (akA _) fun id T=>by simp (disch:=omega) only[aA.aB])
 rw[i2 J y] at h
 obtain⟨hb,hs⟩:=ajC.1 J
 have cw:=h8.1 y
 have la:=hs.sz hb
 obtain⟨ih,ed,ei⟩:=cw
 repeat' first| (first|apply vI|apply abQ ec hf|apply hH (i:=i) (by omega) (by omega) (by omega)|refine abU la (fun H1 lb nm cells hx hR U cx=> ?_))<;>(simp only[go_sem,J,y,nL])|fail
 have iv:cells.length=5:=by obtain⟨_,_,_,_,_,rfl,_⟩:=hR.ex;rfl
 have ej:cells++List.drop cells.length [D1.osl 0 0 0 0 0,.osl 0 0 0 0 0,.osl 0 0 0 0 0,.osl 0 0 0 0 0,.osl 0 0 0 0 0]=cells:=by rw[iv];simp
 refine⟨iv,by omega,?_⟩
 rw[ej]
 try apply kI
 refine aH.ae1 fun G hG=> ?_
 have f0:G nx=some ⟨3,1,[cD c]⟩:=by rw[hG,aA.aB (by omega),cx _ (by omega)];simp (disch:=omega) only[aA.aB,aA.aI]
 have f2:G (nx+2)=some ⟨3,1,[eIn i]⟩:=by rw[hG,aA.aB (by omega),cx _ (by omega)];simp (disch:=omega) only[aA.aB,aA.aI]
 have f4:G (nx+4)=some ⟨3,0,[]⟩:=by rw[hG,aA.aB (by omega),cx _ (by omega)];exact aA.aI
 have i5:G (nx+17)=some ⟨5,1,[cells]⟩:=by rw[hG];exact aA.aI
 have ff: ∀id,id<nx->G id=H id:=fun id T=>by rw[hG,aA.aB (by omega),cx _ (by omega)];simp (disch:=omega) only[aA.aB]
 have jR:AF (fun id=>id<nx+18\/id=nx+4) G lb nm s cells:=by have eo:=fun k hk=>U.rng k hk;exact⟨hR.frame fun k hk=>by have:=eo k hk;rw[hG,aA.aB (by omega)],⟨U.inj,fun k hk=>(eo k hk).2,fun k hk hn=>by have:=eo k hk;omega⟩,fun id T=>by omega⟩
 clear hG hR U cx
 repeat' first|apply vI<;>(simp only[go_sem])|fail
 refine aH.cE (β:=Nat×(Nat->Nat)×List D1×CSt×List Ev×Nat×Nat) (fun u=>en [(9,dI u.1),(8,.one (.c (.ptr 5 (nx+17) 0 0))),(7,.one (.c (.osl 3 u.2.2.2.2.2.1 0 u.2.2.2.2.1.length u.2.2.2.2.2.2))),(5,.one (.c (.ptr 3 (nx+2) 0 0))),(3,.one (.c (.ptr 3 nx 0 0)))])
  (fun u H1 n1=>u.1<=3/\u.2.2.2.2.1.length<=u.1/\EvI c nx G H1 n1 u.2.1 u.2.2.1 u.2.2.2.1 u.2.2.2.2.1 u.2.2.2.2.2.1 u.2.2.2.2.2.2/\LOE c (AB i) ([0,1,2].drop u.1) u.2.2.2.1 u.2.2.2.2.1 (QY c i s) (jV c s (V0 c i s))) (fun u=>3-u.1) (0,nm,cells,s,[],nx+4,0)
  ⟨noF,_,by repeat' first|exact C1|refine xqI rfl rfl ?_|refine xqP (by omega) rfl rfl ?_| (with_reducible apply C2)| ((with_reducible apply C0);exact CC)| ((with_reducible apply D0);apply CJ)|fail,aF,by dsimp only;omega,by simp,⟨hs,jR.frame (by omega) (fun _ _ _=>rfl),i5,⟨0,f4,akA _,akA _⟩,.inl rfl,fun _ _ _=>rfl⟩,⟨rfl,rfl⟩⟩ ?_
 rintro⟨k,ao,qs,s1,j0,io,cap⟩ H2 z lk ⟨hk,lo,hE,O⟩ KL ep
 dsimp only at hk lo hE O
 obtain⟨B,cy,p,⟨m,V,o2,o3⟩,cw,a⟩:=hE
 have L:=(a nx (by omega) (by omega)).trans f0
 have M:=(a (nx+2) (by omega) (by omega)).trans f2
 have cd:=cy.x io (.inr rfl)
 have cf:=cy.x (nx+17) (.inl (by omega))
 have hB:bH z [nx,nx+2,nx+17,io]:=AM.apart (by simp;omega) (by simp;omega)
 simp only[bH,cU] at hB
 have f:=cy.tn B.pl B.sl (G:=H2) (fun id T=>rfl)
 have g:=cy
 obtain⟨wc,hc,pc,vc,tc,mp,rp,mv,rv,D,g1,g2,g3,g4,g5,g6,g7,g8,g9,ga,gb⟩:=cy.get
 subst D
 have lt:=g.names.lt
 have n3:=lt 3 (by omega)
 have av:=g.names.av
 by_cases e:k<3
 ·rw[Pq e] at O
  cases P:i.ready.getD k default with
  |false=>
   repeat' first|apply vI<;>(simp only[go_sem,nL,L,p,M,P,ih,hB];try simp (disch:=omega) only[Iw])|apply vT (by omega)|refine⟨by omega,?_⟩|fail
   all_goals exact ep _ _ _ (k+1,ao,_,s1,j0,io,cap) noF _ (by omega) (by dsimp only;omega) (by dsimp only;repeat' first|exact C1|refine xqI rfl rfl ?_|refine xqP (by omega) rfl rfl ?_|refine xqO (by omega) rfl rfl (by rfl) ?_|fail) aF ⟨by dsimp only;omega,by dsimp only;omega,⟨B,g.frame (by omega) (fun _ _ _=>rfl),p,⟨m,V,o2,o3⟩,cw,a⟩,O.none (Cy P)⟩
  |true=>
   repeat' first| (first|apply vI|refine zq B e P f (fun r ma=> ?_))<;>(simp only[go_sem,nL,L,p,M,P,ih,hB])|apply vT (by omega)|refine⟨by omega,?_⟩|fail
   rcases ma with⟨ho,rfl⟩|⟨st,er,ho,rfl⟩
   · (try simp only[go_sem,nL,L,p,M,hB]);repeat' first|apply vI<;>(simp only[go_sem,nL,L,p,M,hB];try simp (disch:=omega) only[Iw])|fail
     all_goals exact ep _ _ _ (k+1,ao,_,s1,j0,io,cap) noF _ (by omega) (by dsimp only;omega) (by dsimp only;repeat' first|exact C1|refine xqI rfl rfl ?_|refine xqP (by omega) rfl rfl ?_|refine xqO (by omega) rfl rfl (by rfl) ?_|fail) aF ⟨by dsimp only;omega,by dsimp only;omega,⟨B,g.frame (by omega) (fun _ _ _=>rfl),p,⟨m,V,o2,o3⟩,cw,a⟩,O.none ho⟩
   ·obtain⟨_,_,me,qx⟩:=YU B e ho;obtain⟨po,mh,do_,dc,gs,gp,gd⟩:=gb st er;obtain⟨d,hd⟩: ∃d,(aU s1 st).done.getD 0 default=d:=⟨_,rfl⟩
    obtain⟨md,rd,d1,d2,d3,d4,d5,d6⟩:=gd.ex;have d7:rd[do_]?=some (aP d):=(by have:(rd.drop do_)[0]?=some (aP d):=(by rw[d2,akN,<-hd];simp[List.getD,me]);rwa [akY,Nat.add_zero] at this);have k3: ∀(W:aA) (b:Nat),msk (z+b) [14] W (ao 3)=W (ao 3):=fun W b=>mk1 (by omega);have j1: ∀(W:aA) (b:Nat),msk (z+b) [14] W (nx+17)=W (nx+17):=fun W b=>mk1 (by omega);have Y:bH z [ao 3,ao (15+st)]:=AM.apart (by simp;intro he;have:=g.names.inj 3 (15+st) (by omega) (by omega) he;omega) (by simp;exact⟨n3,lt (15+st) (by omega)⟩);simp only[bH,cU] at Y;(try simp only[go_sem,nL,L,p,M,g2,gs,d1,d7,k3,j1,hB,Y]);repeat' first| (first|apply vI|refine zq B e P f (fun r2 mm=> ?_))<;>(simp only[go_sem,nL,L,p,M,g2,gs,d1,d7,k3,j1,hB,Y])|apply vT (by omega)|fail
    rcases mm with⟨h',_⟩|⟨re,_,iw,rfl⟩
    ·rw[ho] at h';cases h'
    rw[ho] at iw;cases iw;have cl:List.take j0.length (j0.map eEv)=j0.map eEv:=akM (by simp);have cp:(j0.map eEv).length=j0.length:=akU ..;(try simp only[go_sem,nL,L,p,M,g2,gs,d1,d7,k3,j1,V,cl,cp,hB,Y]);repeat' first|apply vI<;>(simp only[go_sem,nL,L,p,M,g2,gs,d1,d7,k3,j1,V,cl,cp,hB,Y])| (with_reducible first|refine fun(cap:Nat) (df:_<=cap)=> ?_|refine fun(ix:_<=cap)=> ?_)|refine⟨by omega,?_⟩|fail
    generalize E:aA.set _ (z+28) _=G2;have mn:G2 (z+28)=some ⟨3,cap,(j0++[(⟨3,k,d.n⟩:Ev)]).map eEv⟩:=(by rw[<-E,aA.aI,akQ];rfl);have Z: ∀id,id<z->id≠io->G2 id=H2 id:=fun id h3 h4=>by rw[<-E,aA.aB (by omega),aA.aB (by omega),aA.gK h4]
    clear E;have az:=AF.swap (b:=z+28) (n':=z+34) g Z (by omega) (by omega);refine Bi (X:=fun id=>id<nx+18\/id=z+28) hb B e P az fun H' nx' bl R et F t=> ?_;have I:=(t (nx+17) (.inl (by omega))).trans ((Z (nx+17) (by omega) (by omega)).trans p);have mo:=(t (z+28) (.inr rfl)).trans mn;have cq:=Qg hb B (o:=AB i s1 k) (fun m hm=>YU B e hm);obtain⟨ev,ew,fh,fm,fo,_,_,_,_,j,_⟩:=F.get;subst j;(try simp only[go_sem,nL,I]);repeat' first|apply vI<;>(simp only[go_sem,nL,I];try simp (disch:=omega) only[Iw])|fail
    have dh:h9 s1 (AB i s1 k)=[⟨3,k,d.n⟩]:=(by rw[ho,<-hd];rfl);have ab:=O.next;rw[dh] at ab;exact ep _ _ _ (k+1,bl,_,za c s1 (AB i s1 k),j0++[⟨3,k,d.n⟩],z+28,cap) noF _ (by omega) (by dsimp only;omega) (by dsimp only;rw[akG,List.length_singleton];repeat' first|exact C1|refine xqI rfl rfl ?_|refine xqP (by omega) rfl rfl ?_|refine xqO (by omega) rfl rfl (by rfl) ?_|fail) aF ⟨by dsimp only;omega,by dsimp only;rw[akG,List.length_singleton];omega,⟨cq,F.frame (by omega) (fun id J y=>aA.aB fun he=>y (.inl (by omega))),aA.aI,⟨cap,by dsimp only;rw[aA.aB (by omega)];exact mo,by dsimp only;rw[akG,List.length_singleton];omega,akA _⟩,.inr (by dsimp only;omega),fun id J y=>by rw[aA.aB (by omega),t id (.inl (by omega)),Z id (by omega) (by omega)];exact a id J y⟩,ab⟩
 ·have fs:k=3:=by omega
  subst fs;obtain⟨gf,mq⟩:=LOE.nil O;subst gf;repeat' first|apply vI<;>(simp only[go_sem])|apply vF (by omega)|fail
  refine aH.cE (β:=Nat×(Nat->Nat)×List D1×CSt×List Ev×Nat×Nat) (fun u=>en [(10,dI u.1),(8,.one (.c (.ptr 5 (nx+17) 0 0))),(7,.one (.c (.osl 3 u.2.2.2.2.2.1 0 u.2.2.2.2.1.length u.2.2.2.2.2.2))),(5,.one (.c (.ptr 3 (nx+2) 0 0))),(3,.one (.c (.ptr 3 nx 0 0)))])
   (fun u H1 n1=>u.1<=4/\u.2.2.2.2.1.length<=3+u.1/\EvI c nx G H1 n1 u.2.1 u.2.2.1 u.2.2.2.1 u.2.2.2.2.1 u.2.2.2.2.2.1 u.2.2.2.2.2.2/\LOE c (AA i) ([0,1,2,3].drop u.1) u.2.2.2.1 u.2.2.2.2.1 (XH c i s) (j0++jV c (QY c i s) (PL c i (QY c i s)))) (fun u=>4-u.1) (0,ao,_,QY c i s,j0,io,cap)
   ⟨noF,_,by dsimp only;repeat' first|exact C1|refine xqI rfl rfl ?_|refine xqP (by omega) rfl rfl ?_|refine xqO (by omega) rfl rfl (by rfl) ?_|fail,aF,by dsimp only;omega,by dsimp only;omega,⟨B,g.frame (by omega) (fun _ _ _=>rfl),p,⟨m,V,o2,o3⟩,cw,a⟩,⟨rfl,rfl⟩⟩ ?_
  clear g a L p M hB f g1 g2 g3 g4 g5 g6 g7 g8 g9 ga gb lt n3 av V o2 o3 B cf cd;obtain⟨j3,jh⟩: ∃j3,j3=j0++jV c (QY c i s) (PL c i (QY c i s)):=⟨_,rfl⟩
  rw[<-jh];rintro⟨k,dz,rf,s2,j4,q,aa⟩ H3 l mw ⟨hk,gg,hE,O⟩ KM ha;dsimp only at hk gg hE O;obtain⟨C,az,p,⟨m2,V,o2,o3⟩,br,a⟩:=hE;have L:=(a nx (by omega) (by omega)).trans f0;have M:=(a (nx+2) (by omega) (by omega)).trans f2;have cd:=az.x q (.inr rfl);have cf:=az.x (nx+17) (.inl (by omega));have hB:bH l [nx,nx+2,nx+17,q]:=AM.apart (by simp;omega) (by simp;omega);simp only[bH,cU] at hB;have f:=az.tn C.pl C.sl (G:=H3) (fun id T=>rfl);have g:=az;obtain⟨wc,hc,pc,vc,tc,mp,rp,mv,rv,D,g1,g2,g3,g4,g5,g6,g7,g8,g9,ga,gb⟩:=az.get;subst D;have lt:=g.names.lt;have n3:=lt 3 (by omega);have av:=g.names.av;by_cases e:k<4
  ·rw[Qo e] at O;have cq:=Qg hb C (o:=AA i s2 k) (fun m hm=>S7 C e hm)
   cases P:i.iP.getD k default with
   |true=>
    repeat' first|apply vI<;>(simp only[go_sem,nL,L,p,M,P,ed,hB];try simp (disch:=omega) only[Iw])|apply vT (by omega)|refine⟨by omega,?_⟩|fail
    all_goals exact ha _ _ _ (k+1,dz,_,s2,j4,q,aa) noF _ (by omega) (by dsimp only;omega) (by dsimp only;repeat' first|exact C1|refine xqI rfl rfl ?_|refine xqP (by omega) rfl rfl ?_|refine xqO (by omega) rfl rfl (by rfl) ?_|fail) aF ⟨by dsimp only;omega,by dsimp only;omega,⟨C,g.frame (by omega) (fun _ _ _=>rfl),p,⟨m2,V,o2,o3⟩,br,a⟩,O.none (ZX (.inl P))⟩
   |false=>
    by_cases U:0<(aU s2 k).pipe.length/\(dZ s2 k).left=0/\(aU s2 k).done.length<2
    ·obtain⟨po,mh,do_,dc,gs,gp,gd⟩:=gb k e;obtain⟨d,hd⟩: ∃d,(aU s2 k).pipe.getD 0 default=d:=⟨_,rfl⟩
     obtain⟨md,rd,d1,d2,d3,d4,d5,d6⟩:=gp.ex;have d7:rd[po]?=some (eCJ d):=(by have:(rd.drop po)[0]?=some (eCJ d):=(by rw[d2,akN,<-hd];simp[List.getD,U.1]);rwa [akY,Nat.add_zero] at this);have rj:=U.1;have Y:bH l [dz 3,dz (11+k)]:=AM.apart (by simp;intro he;have:=g.names.inj 3 (11+k) (by omega) (by omega) he;omega) (by simp;exact⟨n3,lt (11+k) (by omega)⟩);simp only[bH,cU] at Y;have cl:List.take j4.length (j4.map eEv)=j4.map eEv:=akM (by simp);have cp:(j4.map eEv).length=j4.length:=akU ..
     have mx:AA i s2 k=some (.work k):=by
      unfold AA
      rw[if_neg (fun h=>by
       rcases h with h|h
       ·rw[P] at h;cases h
       ·have:=U.1;omega),if_neg (by have:=U.2.1;omega),if_pos U.2.2]
     repeat' first| (first|apply vI|apply HU C e f)<;>(simp only[go_sem,nL,L,p,M,g2,gs,d1,d7,P,ed,U,V,cl,cp,hB,Y])|apply vT (by omega)| (with_reducible first|refine fun(cap:Nat) (df:_<=cap)=> ?_|refine fun(ix:_<=cap)=> ?_)|refine⟨by omega,?_⟩|fail
     generalize E:aA.set _ (l+34) _=G2;have nd:G2 (l+34)=some ⟨3,cap,(j4++[(⟨2,d.who,d.n⟩:Ev)]).map eEv⟩:=(by rw[<-E,aA.aI,akQ];rfl);have Z: ∀id,id<l->id≠q->G2 id=H3 id:=fun id h3 h4=>by rw[<-E,aA.aB (by omega),aA.aB (by omega),aA.gK h4]
     clear E;have N:=AF.swap (b:=l+34) (n':=l+47) g Z (by omega) (by omega);refine Br (X:=fun id=>id<nx+18\/id=l+34) hb C e P N fun H' nx' bl R et F t=> ?_;have I:=(t (nx+17) (.inl (by omega))).trans ((Z (nx+17) (by omega) (by omega)).trans p);have ds:=(t (l+34) (.inr rfl)).trans nd;obtain⟨ev,ew,fh,fm,fo,_,_,_,_,j,_⟩:=F.get;subst j;(try simp only[go_sem,nL,I]);repeat' first|apply vI<;>(simp only[go_sem,nL,I];try simp (disch:=omega) only[Iw])|fail
     have dh:h9 s2 (AA i s2 k)=[⟨2,d.who,d.n⟩]:=(by rw[mx,<-hd];rfl);have ab:=O.next;rw[dh] at ab;exact ha _ _ _ (k+1,bl,_,za c s2 (AA i s2 k),j4++[⟨2,d.who,d.n⟩],l+34,cap) noF _ (by omega) (by dsimp only;omega) (by dsimp only;rw[akG,List.length_singleton];repeat' first|exact C1|refine xqI rfl rfl ?_|refine xqP (by omega) rfl rfl ?_|refine xqO (by omega) rfl rfl (by rfl) ?_|fail) aF ⟨by dsimp only;omega,by dsimp only;rw[akG,List.length_singleton];omega,⟨cq,F.frame (by omega) (fun id J y=>aA.aB fun he=>y (.inl (by omega))),aA.aI,⟨cap,by dsimp only;rw[aA.aB (by omega)];exact ds,by dsimp only;rw[akG,List.length_singleton];omega,akA _⟩,.inr (by dsimp only;omega),fun id J y=>by rw[aA.aB (by omega),t id (.inl (by omega)),Z id (by omega) (by omega)];exact a id J y⟩,ab⟩
    ·have dh:h9 s2 (AA i s2 k)=[]:=by
      unfold AA
      split
      ·rfl
      ·split;·rfl
       ·split;·rename_i q1 q2 q3;have jo:0<(aU s2 k).pipe.length:=Nat.pos_of_ne_zero fun h0=>q1 (.inr h0);have rl:=((C.slv k e).left 0 jo).1.1;exact absurd ⟨jo,by unfold dZ at q2 ⊢;omega,q3⟩ U
        ·rfl
     repeat' first| (first|apply vI|apply HU C e f)<;>(simp only[go_sem,nL,L,p,M,P,ed,U,hB])|apply vT (by omega)|refine⟨by omega,?_⟩|fail
     refine Br (X:=fun id=>id<nx+18\/id=q) hb C e P (g.frame (nx':=l+24) (by omega) (fun _ _ _=>rfl)) fun H' nx' bl R et F t=> ?_
     have I:=(t (nx+17) (.inl (by omega))).trans p
     have ds:=(t q (.inr rfl)).trans V
     obtain⟨ev,ew,fh,fm,fo,_,_,_,_,j,_⟩:=F.get
     subst j
     (try simp only[go_sem,nL,I]);repeat' first|apply vI<;>(simp only[go_sem,nL,I];try simp (disch:=omega) only[Iw])|fail
     have ab:=O.next
     rw[dh,alE] at ab
     exact ha _ _ _ (k+1,bl,_,za c s2 (AA i s2 k),j4,q,aa) noF _ (by omega) (by dsimp only;omega) (by dsimp only;repeat' first|exact C1|refine xqI rfl rfl ?_|refine xqP (by omega) rfl rfl ?_|refine xqO (by omega) rfl rfl (by rfl) ?_|fail) aF ⟨by dsimp only;omega,by dsimp only;omega,⟨cq,F.frame (by omega) (fun id J y=>aA.aB fun he=>y (.inl (by omega))),aA.aI,⟨m2,by dsimp only;rw[aA.aB (by omega)];exact ds,o2,o3⟩,br,fun id J y=>by rw[aA.aB (by omega),t id (.inl (by omega))];exact a id J y⟩,ab⟩
  ·have hg:k=4:=(by omega);subst hg;obtain⟨gf,ng⟩:=LOE.nil O;subst gf;repeat' first|apply vI<;>(simp only[go_sem])|apply vF (by omega)|fail
   have nh:([[D1.v (.bool false)],[D1.v (.bool false)],[D1.v (.bool false)]]:List (List D1))=[false,false,false].map d8:=rfl;rw[nh];generalize hh:aA.set H3 (l+2) _=j5;have j6:j5 (l+2)=some ⟨1,3,[false,false,false].map d8⟩:=(by rw[<-hh];exact aA.aI);have Z: ∀id,id<l->j5 id=H3 id:=fun id h3=>by rw[<-hh,aA.aB (by omega)]
   clear hh;have N:=AF.add (b:=l+2) (n':=l+5) g Z (by omega) (by omega);have ju:=(Z q cd).trans V;have kc:=(Z (nx+17) cf).trans p;have kf: ∀id,id<nx+17->id≠nx+4->j5 id=G id:=fun id J y=>(Z id (by omega)).trans (a id J y);have nn:q<l:=cd;have rm:nx+18<=l:=cf;obtain⟨ub,np⟩: ∃ub,ub=l+2:=⟨_,rfl⟩
   rw[<-np] at j6 N ⊢
   refine aH.cE (β:=Nat×(Nat->Nat)×List D1×CSt×List Bool) (fun u=>en [(12,dI u.1),(11,.one (.c (.osl 1 ub 0 3 3))),(8,.one (.c (.ptr 5 (nx+17) 0 0))),(7,.one (.c (.osl 3 q 0 j4.length aa))),(5,.one (.c (.ptr 3 (nx+2) 0 0))),(3,.one (.c (.ptr 3 nx 0 0)))])
    (fun u H1 n1=>u.1<=4/\COk c u.2.2.2.1/\u.2.2.2.2.length=3/\AF (fun id=>(id<nx+18\/id=q)\/id=ub) H1 n1 u.2.1 u.2.2.2.1 u.2.2.1/\H1 (nx+17)=some ⟨5,1,[u.2.2.1]⟩/\H1 ub=some ⟨1,3,u.2.2.2.2.map d8⟩/\ND c ([0,1,2,3].drop u.1) u.2.2.2.1 u.2.2.2.2 (X6 c i s)/\H1 q=some ⟨3,m2,j4.map eEv⟩/\ ∀id,id<nx+17->id≠nx+4->H1 id=G id) (fun u=>4-u.1) (0,dz,_,XH c i s,[false,false,false])
    ⟨noF,_,by dsimp only;repeat' first|exact C1|refine xqI rfl rfl ?_|refine xqP (by omega) rfl rfl ?_|refine xqO (by omega) rfl rfl (by rfl) ?_|fail,aF,by dsimp only;omega,C,rfl,N.frame (by omega) (fun _ _ _=>rfl),kc,j6,rfl,ju,kf⟩ ?_
   clear g a L p M hB f g1 g2 g3 g4 g5 g6 g7 g8 g9 ga gb lt n3 av V C cf cd N j6 Z ju kc kf;rintro⟨k,hj,rr,s3,u3⟩ H4 kn nq ⟨hk,w,hl,N,p,eu,O,hq,a⟩ KN ob;dsimp only at hk w hl N p eu O;have L:=(a nx (by omega) (by omega)).trans f0;have M:=(a (nx+2) (by omega) (by omega)).trans f2;have g:=N;obtain⟨wc,hc,pc,vc,tc,mp,rp,mv,rv,D,g1,g2,g3,g4,g5,g6,g7,g8,g9,ga,gb⟩:=N.get;subst D;have hB:bH kn [nx,nx+2,nx+17,q]:=AM.apart (by simp;omega) (by simp;omega);simp only[bH,cU] at hB;by_cases e:k<4
   ·rw[Qo e] at O;repeat' first|apply vI<;>(simp only[go_sem,nL,L,p,M,hB])|apply vT (by omega)|fail
    refine Ez (X:=fun id=>(id<nx+18\/id=q)\/id=ub) (um:=3) hb w e hl (g.frame (by omega) (fun _ _ _=>rfl)) (.inr rfl) eu (by omega) fun H' nx' bl R et F ox t=> ?_;have I:=(t (nx+17) (.inl (.inl (by omega))) (by omega)).trans p;have ds:=(t q (.inl (.inr rfl)) (by omega)).trans hq;obtain⟨ev,ew,fh,fm,fo,_,_,_,_,j,_⟩:=F.get;subst j;obtain⟨cq,pn⟩:=ad5 (u:=u3) hb w e hl;(try simp only[go_sem,nL,I]);repeat' first|apply vI<;>(simp only[go_sem,nL,I];try simp (disch:=omega) only[Iw])|fail
    exact ob _ _ _ (k+1,bl,_,(T6 c s3 u3 k).1,(T6 c s3 u3 k).2) noF _ (by omega) (by dsimp only;omega) (by repeat' first|exact C1|refine xqI rfl rfl ?_|refine xqP (by omega) rfl rfl ?_|refine xqO (by omega) rfl rfl (by rfl) ?_|fail) aF ⟨by dsimp only;omega,cq,pn,F.frame (by omega) (fun id J y=>aA.aB fun he=>y (.inl (.inl (by omega)))),aA.aI,by rw[aA.aB (by omega)];exact ox,O.ai6,by rw[aA.aB (by omega)];exact ds,fun id J y=>by rw[aA.aB (by omega),t id (.inl (.inl (by omega))) (by omega)];exact a id J y⟩
   ·have hg:k=4:=(by omega);subst hg;have O:s3=X6 c i s:=O;subst O;repeat' first|apply vI<;>(simp only[go_sem])|apply vF (by omega)|fail
    have ht:AF (fun id=>id<nx+18\/id=q) H4 kn hj (X6 c i s) _:=g.sub fun id h=>.inl h;obtain⟨A,hA⟩: ∃A,A=X6 c i s:=⟨_,rfl⟩
    rw[<-hA] at ht w;have ps:=w.pl
    refine aH.cE (β:=Nat×List Ev×Nat×Nat) (fun u=>en [(13,dI u.1),(8,.one (.c (.ptr 5 (nx+17) 0 0))),(7,.one (.c (.osl 3 u.2.2.1 0 u.2.1.length u.2.2.2))),(5,.one (.c (.ptr 3 (nx+2) 0 0))),(3,.one (.c (.ptr 3 nx 0 0)))])
     (fun u H1 n1=>u.1<=3/\u.2.1=j4++(List.range u.1).flatMap (hS c i A)/\u.2.1.length<=7+u.1/\EvI c nx G H1 n1 hj _ A u.2.1 u.2.2.1 u.2.2.2) (fun u=>3-u.1) (0,j4,q,aa)
     ⟨noF,_,by dsimp only;repeat' first|exact C1|refine xqI rfl rfl ?_|refine xqP (by omega) rfl rfl ?_|refine xqO (by omega) rfl rfl (by rfl) ?_|fail,aF,by dsimp only;omega,by simp,by dsimp only;omega,⟨w,ht.frame (by omega) (fun _ _ _=>rfl),by rw[hA];exact p,⟨m2,hq,o2,o3⟩,br,a⟩⟩ ?_
    clear g N p eu hq a L M hB g1 g2 g3 g4 g5 g6 g7 g8 g9 ga gb ht o2 o3;rintro⟨k,k4,ct,ca⟩ H5 ad qf ⟨hk,dv,hv,hE⟩ KO hy;dsimp only at hk dv hv hE;obtain⟨_,S,p,⟨m5,V,o2,o3⟩,dx,a⟩:=hE;have L:=(a nx (by omega) (by omega)).trans f0;have M:=(a (nx+2) (by omega) (by omega)).trans f2;have cd:=S.x ct (.inr rfl);have cf:=S.x (nx+17) (.inl (by omega));have hB:bH ad [nx,nx+2,nx+17,ct]:=AM.apart (by simp;omega) (by simp;omega);simp only[bH,cU] at hB;have f:=S.tn w.pl w.sl (G:=H5) (fun id T=>rfl);obtain⟨ry,ts,tt,uc,uf,vf,vh,vl,vm,cc,g1,g2,g3,g4,g5,g6,g7,g8,g9,ga,gb⟩:=S.get;cases cc;have lt:=S.names.lt;have n2:=lt 2 (by omega);have av:=S.names.av;by_cases e:k<3
    ·cases P:i.send.getD k default with
     |false=>
      have dy:hS c i A k=[]:=(by unfold hS;rw[if_neg fun h=>by rw[P] at h;cases h.1]);repeat' first|apply vI<;>(simp only[go_sem,nL,L,p,M,P,ei,hB];try simp (disch:=omega) only[Iw])|apply vT (by omega)|refine⟨by omega,?_⟩|fail
      all_goals exact hy _ _ _ (k+1,k4,ct,ca) noF _ (by omega) (by dsimp only;omega) (by dsimp only;repeat' first|exact C1|refine xqI rfl rfl ?_|refine xqP (by omega) rfl rfl ?_|refine xqO (by omega) rfl rfl (by rfl) ?_|fail) aF ⟨by dsimp only;omega,by dsimp only;rw[hW,dy,alE];exact dv,by dsimp only;omega,⟨w,S.frame (by omega) (fun _ _ _=>rfl),p,⟨m5,V,o2,o3⟩,dx,a⟩⟩
     |true=>
      by_cases U:(aL A k).queue.length<2/\(aL A k).next<(c.b7.getD k default).length
      ·have dy:hS c i A k=[⟨1,k,(aL A k).next⟩]:=(by unfold hS;rw[if_pos ⟨P,U⟩]);obtain⟨qo,qc,oc,gr,gq,go⟩:=ga k e;have kt:bH ad [hj 2]:=AM.apart (by simp) (by simp;exact n2);simp only[bH,cU] at kt;have cl:List.take k4.length (k4.map eEv)=k4.map eEv:=akM (by simp);have cp:(k4.map eEv).length=k4.length:=akU ..;repeat' first| (first|apply vI|apply SS hb w e f)<;>(simp only[go_sem,nL,L,p,M,g1,gr,P,ei,U,V,cl,cp,hB,kt];try simp (disch:=omega) only[Iw])|apply vT (by omega)| (with_reducible first|refine fun(cap:Nat) (df:_<=cap)=> ?_|refine fun(ix:_<=cap)=> ?_)|refine⟨by omega,?_⟩|fail
       generalize E:aA.set _ (ad+23) _=G2;have qj:G2 (ad+23)=some ⟨3,cap,(k4++[(⟨1,k,(aL A k).next⟩:Ev)]).map eEv⟩:=(by rw[<-E,aA.aI,akQ];rfl);have Z: ∀id,id<ad->id≠ct->G2 id=H5 id:=fun id h3 h4=>by rw[<-E,aA.aB (by omega),aA.aB (by omega),aA.gK h4]
       clear E;have ql:=AF.swap (b:=ad+23) (n':=ad+28) S Z (by omega) (by omega);exact hy _ _ _ (k+1,k4++[(⟨1,k,(aL A k).next⟩:Ev)],ad+23,cap) noF _ (by omega) (by dsimp only;omega) (by dsimp only;rw[akG,List.length_singleton];repeat' first|exact C1|refine xqI rfl rfl ?_|refine xqP (by omega) rfl rfl ?_|refine xqO (by omega) rfl rfl (by rfl) ?_|fail) aF ⟨by dsimp only;omega,by dsimp only;rw[hW,dy,<-akO,<-dv],by dsimp only;rw[akG,List.length_singleton];omega,⟨w,ql,(Z (nx+17) (by omega) (by omega)).trans p,⟨cap,qj,by dsimp only;rw[akG,List.length_singleton];omega,akA _⟩,.inr (by dsimp only;omega),fun id J y=>(Z id (by omega) (by omega)).trans (a id J y)⟩⟩
      ·have dy:hS c i A k=[]:=(by unfold hS;rw[if_neg fun h=>U h.2]);repeat' first| (first|apply vI|apply SS hb w e f)<;>(simp only[go_sem,nL,L,p,M,P,ei,U,hB];try simp (disch:=omega) only[Iw])|apply vT (by omega)|refine⟨by omega,?_⟩|fail
       all_goals exact hy _ _ _ (k+1,k4,ct,ca) noF _ (by omega) (by dsimp only;omega) (by dsimp only;repeat' first|exact C1|refine xqI rfl rfl ?_|refine xqP (by omega) rfl rfl ?_|refine xqO (by omega) rfl rfl (by rfl) ?_|fail) aF ⟨by dsimp only;omega,by dsimp only;rw[hW,dy,alE];exact dv,by dsimp only;omega,⟨w,S.frame (by omega) (fun _ _ _=>rfl),p,⟨m5,V,o2,o3⟩,dx,a⟩⟩
    ·have fs:k=3:=(by omega);subst fs;have hz:k4=qu c i s:=(by rw[dv,Qm,List.nil_append,ng,jh,mq,<-hA,i0 ps]);repeat' first|apply vI<;>(simp only[go_sem])|apply vF (by omega)|fail
     rw[<-hz] at h;exact hQ _ _ _ _ _ (.inr rfl) rfl (h _ _ ct ca m5 (by omega) (by omega) V o2 o3 fun id T=>by rw[a id (by omega) (by omega)];exact ff id T)
theorem hJ(a:OJ c)(d:zz s)(e:aj8 i)
 (h: ∀H' nx',nx<=nx'->(∀id,id<nx->H' id=H id)->K (dS ((evB c s i).map eEv)) H' nx'):an3 Ty [dA (cD c),dA (dY s),dA (eIn i)] H nx K:=
 aC.VP (hD a d e fun H' nx' io cap m l n f g o k=>⟨dS ((evB c s i).map eEv),_,fun j=>j=io,SW Ms f rfl g rfl,Eu,h _ _ (by omega) fun id b=>by rw[aA.gK (by omega)];exact k id b⟩)
theorem hT(a:OJ c)(e:zz s)(f:aj8 i):an3 Tp [dA (cD c),dA (dY s),dA (eIn i)] .nil 0 fun r H' n'=>(r.free=true/\aiS H')/\ ∃io m,io<n'/\r=dO 3 io (evB c s i).length (evB c s i).length/\H' io=some ⟨3,m,(evB c s i).map eEv⟩/\(evB c s i).length<=m:=by apply aC.VP;refine e6 a e f fun H' nx' io m k b d g l=> ?_;exact⟨_,without (fun j=>¬j=io) H',_,lM (Py b rfl),JP,⟨rfl,i3 d⟩,io,m,b,rfl,(xJ (fun h=>h rfl)).trans d,g⟩
theorem hU{b e f:List D1}{k l n:Nat->Prop}(a:OJ c)(o:zz s)(p:aj8 i)(q:TG H b c k)(t:G6 H e s l)(u:E4 H f i n)
 (h: ∀H' nx' d F,nx<=nx'->SlS 3 (cY eEv) H' d (evB c s i) F->(∀j,F j->nx<=j/\j<nx')->(∀j,j<nx->H' j=H j)->K (.one (.c d)) H' nx'):an3 Tp [.one (.agg b),.one (.agg e),.one (.agg f)] H nx K:=by
 refine(hT a o p).aj9 rfl (aE (lT (su Dg q) (lT (su ml t) (lT (su LX u) LY)))) ?_
 rintro r H' n' ⟨io,m,v,rfl,w,x⟩
 exact h _ _ _ (fun j=>j=nx+io) (by omega) (ajE (by rw[ajB v w,h6]) x rfl) (fun j g=>by omega) fun j g=>ai9 g
theorem hV(a:OJ c)(b:zz s)(d:aj8 i)(h:K (dS ((evB c s i).map eEv)) H nx):an3 Tp [dA (cD c),dA (dY s),dA (eIn i)] H nx K:=aC.fresh (R:=fun r=>r=dS ((evB c s i).map eEv)) (aC.forget (e6 a b d fun _ _ io m g j e k l=>⟨dS ((evB c s i).map eEv),SW Ms e rfl (akA _) trivial,rfl,rfl,rfl⟩)) rfl fun r f=>f▸h
end
theorem hX(c:Cfg)(s:CSt)(i:CIn)(z:pS (2^63) c)(O:jE (2^63) s)(U:kW (2^63) i):an3 Ca [dA (cD c),dA (dY s),dA (eIn i)] .nil 0 fun rr _ _=>rr.plain=true/\rr=dB true:=by
 refine bA.mk Tryz.func7 (by kernel_rfl) hC rfl fun Q Y=> ?_;unfold a8;have r0:=afZ 1048576 c (by omega);by_cases Z:z8 1048576 c<0
 case pos=>
  repeat' first| (first|apply vI|apply Vz (x:=c) (a:=1048576) (by omega) z)<;>(simp only[go_sem,eq_true Z])|fail
  all_goals exact Y _ _ _ _ _ (.inr rfl) rfl ⟨rfl,rfl⟩
 have r1:=adY (z8 1048576 c) s (by omega);by_cases h1:oW (z8 1048576 c) s<0
 case pos=>
  repeat' first| (first|apply vI|apply Vz (x:=c) (a:=1048576) (by omega) z|apply Qa (x:=s) (a:=z8 1048576 c) (by omega) O)<;>(simp only[go_sem,eq_false Z,eq_true h1])|fail
  all_goals exact Y _ _ _ _ _ (.inr rfl) rfl ⟨rfl,rfl⟩
 have r2:=Tq (oW (z8 1048576 c) s) i (by omega);by_cases u:nK (oW (z8 1048576 c) s) i<0
 case pos=>
  repeat' first| (first|apply vI|apply Vz (x:=c) (a:=1048576) (by omega) z|apply Qa (x:=s) (a:=z8 1048576 c) (by omega) O|apply ya (x:=i) (a:=oW (z8 1048576 c) s) (by omega) U)<;>(simp only[go_sem,eq_false Z,eq_false h1,eq_true u])|fail
  all_goals exact Y _ _ _ _ _ (.inr rfl) rfl ⟨rfl,rfl⟩
 have A:=ac9 1048576 c (by omega) (by omega) (by omega);have k5:=afX (a:=1048576) (x:=c) (by omega) (by omega);have B:=aaG (z8 1048576 c) s (by omega) (by omega) (by omega);have z1:=adA (a:=z8 1048576 c) (x:=s) (by omega) (by omega);have C:=afD (oW (z8 1048576 c) s) i (by omega) (by omega) (by omega);have z2:=ahQ (oW (z8 1048576 c) s) i (by omega) (by omega);repeat' first| (first|apply vI|apply Vz (x:=c) (a:=1048576) (by omega) z|apply Qa (x:=s) (a:=z8 1048576 c) (by omega) O|apply ya (x:=i) (a:=oW (z8 1048576 c) s) (by omega) U|apply Wd A|apply Qq B|apply Zd C)<;>(simp only[go_sem,eq_false Z,eq_false h1,eq_false u])|fail
 refine hJ A.fit B.fit C.fit fun H1 o ca V=> ?_;obtain⟨w,hw⟩: ∃w,w=evB c s i:=⟨_,rfl⟩
 have aa:w.length<=3000:=by rw[hw];exact alJ i1 (by omega)
 have p:w.length<2^21:=by omega
 have cc:total eB w=3*w.length:=n7 fun _=>rfl;have k6:total eB w<=9000:=by omega
 rw[<-hw];have e:H1 0=some ⟨3,1,[cD c]⟩:=by rw[V 0 (by omega)];rfl
 have f:H1 1=some ⟨5,1,[dY s]⟩:=by rw[V 1 (by omega)];rfl
 have k:H1 2=some ⟨3,1,[eIn i]⟩:=by rw[V 2 (by omega)];rfl
 clear V;have d:bH o [0,1,2]:=AM.apart (by simp<;>omega) (by simp<;>omega);simp only[bH,cU] at d;(try simp only[go_sem,nL,e,f,k,d,nL]);repeat' first| (first|apply vI|refine oy A (fun H2 m k7 F0 cd q E W=> ?_))<;>(simp only[go_sem,nL,e,f,k,d,nL])|fail
 obtain⟨d1,d2,d3,cf,cl,cp,rfl,q0⟩:=id q;refine⟨rfl,by simp,?_⟩;replace e:=(W 0 (by omega)).trans e;replace f:=(W 1 (by omega)).trans f;replace k:=(W 2 (by omega)).trans k;clear W d;have d:bH m [0,1,2,o+2]:=AM.apart (by simp<;>omega) (by simp<;>omega);simp only[bH,cU] at d;apply kI;repeat' first| (first|apply vI|refine bz B (fun H3 n k9 F1 cq r G S=> ?_))<;>(simp only[go_sem,e,f,k,d,nL])|fail
 obtain⟨e1,e2,e3,e4,e5,ct,cw,cx,cy,dc,rfl,q1⟩:=id r;refine⟨rfl,by simp,?_⟩;replace e:=(S 0 (by omega)).trans ((aA.aB (by omega)).trans e);replace f:=(S 1 (by omega)).trans ((aA.aB (by omega)).trans f);replace k:=(S 2 (by omega)).trans ((aA.aB (by omega)).trans k);have M:=(S (o+2) (by omega)).trans aA.aI;replace q:=ae7 _ H3 _ _ _ q fun j b=>(S j (by have:=E j b;omega)).trans (aA.aB (by have:=E j b;omega));clear S d;have d:bH n [0,1,2,o+2,m+2]:=AM.apart (by simp<;>omega) (by simp<;>omega);simp only[bH,cU] at d;apply kI;repeat' first| (first|apply vI|refine SO C (fun H4 T m4 F2 df t I N=> ?_))<;>(simp only[go_sem,e,f,k,M,d,nL])|fail
 obtain⟨V,W,S,dh,ds,dv,rfl,q2⟩:=id t;refine⟨rfl,by simp,?_⟩;replace e:=(N 0 (by omega)).trans ((aA.aB (by omega)).trans e);replace f:=(N 1 (by omega)).trans ((aA.aB (by omega)).trans f);replace k:=(N 2 (by omega)).trans ((aA.aB (by omega)).trans k);replace M:=(N (o+2) (by omega)).trans ((aA.aB (by omega)).trans M);have J:=(N (m+2) (by omega)).trans aA.aI;replace q:=ae7 _ H4 _ _ _ q fun j b=>(N j (by have:=E j b;omega)).trans (aA.aB (by have:=E j b;omega));replace r:=abO _ H4 _ _ _ r fun j b=>(N j (by have:=G j b;omega)).trans (aA.aB (by have:=G j b;omega));clear N d;have d:bH T [0,1,2,o+2,m+2,n+2]:=AM.apart (by simp<;>omega) (by simp<;>omega);simp only[bH,cU] at d;apply kI;repeat' first| (first|apply vI| (refine hU A.fit B.fit C.fit (by refine ae7 _ _ _ _ _ q fun j b=> ?_;have:=E j b;rw[aA.aB (by omega)]) (by refine abO _ _ _ _ _ r fun j b=> ?_;have:=G j b;rw[aA.aB (by omega)]) (by refine W0 _ _ _ _ _ t fun j b=> ?_;have:=I j b;rw[aA.aB (by omega)]) (fun H5 ab R F dx P g v=> ?_)))<;>(simp only[go_sem,e,f,k,M,J,d,nL])|fail
 rw[<-hw] at P;replace e:=(v 0 (by omega)).trans ((aA.aB (by omega)).trans e);replace f:=(v 1 (by omega)).trans ((aA.aB (by omega)).trans f);replace k:=(v 2 (by omega)).trans ((aA.aB (by omega)).trans k);replace M:=(v (o+2) (by omega)).trans ((aA.aB (by omega)).trans M);replace J:=(v (m+2) (by omega)).trans ((aA.aB (by omega)).trans J);have y:=(v (n+2) (by omega)).trans aA.aI;replace q:=ae7 _ H5 _ _ _ q fun j b=>(v j (by have:=E j b;omega)).trans (aA.aB (by have:=E j b;omega));replace r:=abO _ H5 _ _ _ r fun j b=>(v j (by have:=G j b;omega)).trans (aA.aB (by have:=G j b;omega));replace t:=W0 _ H5 _ _ _ t fun j b=>(v j (by have:=I j b;omega)).trans (aA.aB (by have:=I j b;omega));clear v d;have d:bH ab [0,1,2,o+2,m+2,n+2]:=AM.apart (by simp<;>omega) (by simp<;>omega);simp only[bH,cU] at d;(try simp only[go_sem,nL,e,f,k,M,J,y,d,nL]);repeat' first| (first|apply vI|apply abT p P|apply Wd A|apply af8 A q|apply Qq B|apply ad8 B r|apply Zd C|apply ahO C t| (refine Pp (F:=F0) (fun j b=>by have:=E j b;omega) q A (by omega) (by omega) (fun m9 ad dy n0 L=> ?_)))<;>(simp only[go_sem,nL,e,f,k,M,J,y,d,nL])|fail
 have l: ∀j,j<o\/m<=j->¬F0 j:=fun j h u=>by have:=E j u;omega
 replace e:=(L 0 (by omega) (l _ (by omega))).trans e;replace f:=(L 1 (by omega) (l _ (by omega))).trans f;replace k:=(L 2 (by omega) (l _ (by omega))).trans k;replace J:=(L (m+2) (by omega) (l _ (by omega))).trans J;replace y:=(L (n+2) (by omega) (l _ (by omega))).trans y;replace r:=abO _ m9 _ _ _ r fun j b=>L j (by have:=G j b;omega) (l j (by have:=G j b;omega));replace t:=W0 _ m9 _ _ _ t fun j b=>L j (by have:=I j b;omega) (l j (by have:=I j b;omega));replace P:=P.frame (H':=m9) aN fun j b=>L j (by have:=g j b;omega) (l j (by have:=g j b;omega));clear L l n0 q d;have d:bH ad [0,1,2,m+2,n+2]:=AM.apart (by simp<;>omega) (by simp<;>omega);simp only[bH,cU] at d;(try simp only[go_sem,nL,e,f,k,J,y,d,nL]);repeat' first| (first|apply vI| (refine Jy (F:=F1) (fun j b=>by have:=G j b;omega) r B (by omega) (by omega) (fun n5 ao dz t1 f7=> ?_)))<;>(simp only[go_sem,nL,e,f,k,J,y,d,nL])|fail
 have l: ∀j,j<m\/n<=j->¬F1 j:=fun j h u=>by have:=G j u;omega
 replace e:=(f7 0 (by omega) (l _ (by omega))).trans e;replace f:=(f7 1 (by omega) (l _ (by omega))).trans f;replace k:=(f7 2 (by omega) (l _ (by omega))).trans k;replace y:=(f7 (n+2) (by omega) (l _ (by omega))).trans y;replace t:=W0 _ n5 _ _ _ t fun j b=>f7 j (by have:=I j b;omega) (l j (by have:=I j b;omega));replace P:=P.frame (H':=n5) aN fun j b=>f7 j (by have:=g j b;omega) (l j (by have:=g j b;omega));clear f7 l t1 r d;have d:bH ao [0,1,2,n+2]:=AM.apart (by simp<;>omega) (by simp<;>omega);simp only[bH,cU] at d;(try simp only[go_sem,nL,e,f,k,y,d,nL]);repeat' first| (first|apply vI|apply Y5 (by omega)| (refine Su (F:=F2) (fun j b=>by have:=I j b;omega) t C (by omega) (by omega) (fun n8 az ec t2 X=> ?_)))<;>(simp only[go_sem,nL,e,f,k,y,d,nL])|fail
 have l: ∀j,j<n\/T<=j->¬F2 j:=fun j h u=>by have:=I j u;omega
 replace e:=(X 0 (by omega) (l _ (by omega))).trans e;replace f:=(X 1 (by omega) (l _ (by omega))).trans f;replace k:=(X 2 (by omega) (l _ (by omega))).trans k;replace P:=P.frame (H':=n8) aN fun j b=>X j (by have:=g j b;omega) (l j (by have:=g j b;omega));clear X l t2 t d;have d:bH az [0,1,2]:=AM.apart (by simp<;>omega) (by simp<;>omega);simp only[bH,cU] at d;(try simp only[go_sem,nL,e,f,k,d,nL]);repeat' first| (first|apply vI|apply abT p P| (refine Gn (F:=F) (fun j b=>by have:=g j b;omega) P p (by omega) (by omega) (fun o0 bl ed o4 f9=> ?_)))<;>(simp only[go_sem,nL,e,f,k,d,nL])|fail
 have l: ∀j,j<T+0->¬F j:=fun j h u=>by have:=g j u;omega
 replace e:=(f9 0 (by omega) (l _ (by omega))).trans e;replace f:=(f9 1 (by omega) (l _ (by omega))).trans f;replace k:=(f9 2 (by omega) (l _ (by omega))).trans k;clear f9 l P d;have d:bH bl [0,1,2]:=AM.apart (by simp<;>omega) (by simp<;>omega);simp only[bH,cU] at d;(try simp only[go_sem,nL,e,f,k,d,nL]);repeat' first| (first|apply vI|apply We p (by omega) (by omega) o4)<;>(simp only[go_sem,nL,e,f,k,d,nL])|apply vF (by omega)|fail
 have br: ∀{H:aA} {nx:Nat} {K:an4},K (dS (w.map eEv)) H nx->an3 Tp [dA (cD c),dA (dY s),dA (eIn i)] H nx K:=fun h=>hV A.fit B.fit C.fit (by rw[<-hw];exact h);(try simp only[go_sem,nL,e,f,k,d,nL]);repeat' first| (first|apply vI|apply Wd A|apply Qq B|apply Zd C|apply br|apply Ka p|apply We p (by omega) (by omega) o4)<;>(simp only[go_sem,nL,e,f,k,d,nL])|apply vF (by omega)|fail
 all_goals exact Y _ _ _ _ _ (.inr rfl) rfl ⟨rfl,rfl⟩
end Go.Proofs.YtlncecohbakleaaGreat
