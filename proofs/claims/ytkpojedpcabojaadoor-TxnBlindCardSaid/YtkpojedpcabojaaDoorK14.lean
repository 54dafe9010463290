/- Lemmas -/
import Derived.Test.YtkpojedpcabojaaDoorV25
set_option linter.unusedVariables false
set_option linter.unusedSimpArgs false
set_option maxRecDepth 100000
set_option maxHeartbeats 40000000
namespace Go.Ab
open Go.Proofs
theorem Aky{m:Nat}{s:Cn}(hI:Akb m s)(hm:m≤80000)(hC:Atm s)(n:Az)(ifs:List Cm)(th el:List Act)(hsl:s.sp.length≤1000)(hl:ifs.length+th.length+el.length≤1000):
 Fn Tryd.prog F4 [sP s,.v (.str n),.v (.list (ifs.map Cm.Bx)),.v (.list (th.map Act.Bx)),.v (.list (el.map Act.Bx))] (Is (s.runM n ifs th el).sv [sP s,.no,.no,.no,.no]):=by
 cases hf:s.fi n with
 |none=>
  rw[show s.runM n ifs th el=⟨false,[],[],16⟩by unfold Cn.runM;rw[hf];rfl]
  exact Arw s n ifs th el hI.nd hsl hf
 |some i=>
  have hfs:(s.fi n).isSome=true:=by rw[hf];rfl
  cases hr:Cu ifs th el with
  |false=>
   rw[show s.runM n ifs th el=⟨false,[],[],1⟩by unfold Cn.runM;rw[hf,hr];rfl]
   exact Ar7 s n ifs th el hI.nd hsl hfs hl hr
  |true=>
   refine Arv hI hm hC n ifs th el hsl hfs hl hr _ rfl _ rfl _ rfl _ ?_;unfold Cn.runM;rw[hf,hr];simp
def aw6:Cn:=⟨[([116],⟨1,0,2,1,1⟩)],[⟨[1,116,97],[⟨1,1,[49],false⟩]⟩]⟩
theorem Aq6:aw1.Acg [116] [⟨[97],[49],false⟩]=(aw6,1,0):=by
 have h1:aw1.fi [116]=some 0:=by rfl
 have h2:K6 [⟨[97],[49],false⟩] []=some [⟨[97],[49],false⟩]:=by rfl
 have h3:Dc (([⟨[97],[49],false⟩]:List Ef).map Ef.key)=[[97]]:=by simp[Dc]
 unfold Cn.Acg;simp only[h1,h2,h3];rfl
theorem Biy:Akb 2 aw6∧Atm aw6:=by
 have h1:=inv1.write [116] [⟨[97],[49],false⟩];have h2:=Atm.write inv1 Aqs.c [116] [⟨[97],[49],false⟩];rw[Aq6]at h1 h2;exact⟨h1,h2⟩
def awI:List Cm:=[⟨[97],1,0,[49]⟩]
def awT:List Act:=[⟨2,⟨[],[]⟩,[98],[50],0,0⟩,⟨3,⟨[],[]⟩,[],[],0,0⟩]
theorem Ar9:aw6.runM [116] awI awT []=⟨true,[⟨[],false,0⟩,⟨[],false,1⟩],[⟨[98],[50],false⟩,⟨[97],[],true⟩],0⟩:=by
 have hk:=An5 Biy.1 (n:=[116]) (k:=[97]) (i:=0) (by rfl) (by decide)
 have hl:Q1 aw6.l (B7 [116] [97])=⟨1,1,[49],false⟩:=by rfl
 rw[hl]at hk;have hv:Lh [116] (aw6.Zp [116]).rev aw6.l=[([97],⟨1,1,[49],false⟩)]:=by rfl
 have hx:aw6.Avs [116] ⟨[],[]⟩=[[97]]:=by
  unfold Cn.Avs Cn.inX;rw[hv];rfl
 have hh:aw6.Aqu [116] awI=true:=by
  unfold awI Cn.Aqu Cn.Be4;dsimp only;rw[hk];rfl
 unfold Cn.runM;rw[if_neg (by simp[show aw6.fi [116]=some 0 from rfl]),if_neg (by decide),hh,if_pos rfl]
 unfold awT;simp[Cn.Auc,Cn.A0c,Cn.A0d,Cn.Ayo,hx]
theorem Ase:Fn Tryd.prog Da [sP aw1,.v (.str [116]),.v (.list [(Ef.mk [97] [49] false).Bx])] (Is (.tup [.i (ti 1),.i (ti 0)]) [sP aw6,.no,.no]):=by
 have hw:=Air inv1 (by omega) [116] [⟨[97],[49],false⟩] (by decide) (by decide)
 rw[Aq6]at hw;exact hw
theorem Asd:Fn Tryd.prog F4 [sP aw6,.v (.str [116]),.v (.list [.agg [.str [97],ti 1,ti 0,.str [49]]]),.v (.list [.agg [ti 2,.agg [.str [],.str []],.str [98],.str [50],ti 0,ti 0],.agg [ti 3,.agg [.str [],.str []],.str [],.str [],ti 0,ti 0]]),.v (.list [])]
 (Is (.tup [.i (.bool true),.i (.list [.agg [.list [],.bool false,ti 0],.agg [.list [],.bool false,ti 1]]),.i (.list [.agg [.str [98],.str [50],.bool false],.agg [.str [97],.str [],.bool true]]),.i (ti 0)]) [sP aw6,.no,.no,.no,.no]):=by
 have h:=Aky Biy.1 (by omega) Biy.2 [116] awI awT [] (by decide) (by decide)
 rw[Ar9]at h;exact h
theorem B0:Fn Tryd.prog Kb [] (Is (.v (.bool true)) []):=by
 refine Hv ?_ (by simp)
 repeat'((conv=>whnf);((with_reducible refine Ac ?_ ?_);focus (and_intros<;>decide)))
 all_goals(try(conv=>whnf))
 generalize hKK:F7 Tryd.prog _ _=KK;as_aux_lemma=>
  repeat'((conv=>whnf);first|((with_reducible refine Ac ?_ ?_);focus (and_intros<;>first|omega|(intro _ hh;cases hh;done)))|((with_reducible refine Ct.mk ?_);refine⟨_,Adg,?_⟩;rintro _ _ ⟨rfl,rfl⟩))
  all_goals(try(conv=>whnf))
  rw[←hKK];clear hKK;as_aux_lemma=>
   repeat'((conv=>whnf);((with_reducible refine Ac ?_ ?_);focus (and_intros<;>first|kernel_rfl|(simp;done)|decide)))
   all_goals(try(conv=>whnf))
   generalize hKK:F7 Tryd.prog _ _=KK;as_aux_lemma=>
    repeat'((conv=>whnf);first|((with_reducible refine Ac ?_ ?_);focus (and_intros<;>first|(intro _ hh;cases hh;done)|(simp;done)))|((with_reducible refine Ct.mk ?_);refine⟨_,Ae1,?_⟩;rintro _ _ ⟨rfl,rfl⟩))
    all_goals(try(conv=>whnf))
    rw[←hKK];clear hKK;as_aux_lemma=>
     repeat'((conv=>whnf);((with_reducible refine Ac ?_ ?_);focus (and_intros<;>first|kernel_rfl|exact Ah (by rfl)|(simp;done)|decide)))
     all_goals(try(conv=>whnf))
     generalize hKK:F7 Tryd.prog _ _=KK;as_aux_lemma=>
      repeat'((conv=>whnf);first|((with_reducible refine Ac ?_ ?_);focus (and_intros<;>first|(intro _ hh;cases hh;done)|(simp;done)))|((with_reducible refine Ct.mk ?_);refine⟨_,Ase,?_⟩;rintro _ _ ⟨rfl,rfl⟩))
      all_goals(try(conv=>whnf))
      rw[←hKK];clear hKK;as_aux_lemma=>
       repeat'((conv=>whnf);((with_reducible refine Ac ?_ ?_);focus (and_intros<;>first|kernel_rfl|exact Ah (by rfl)|(simp;done)|decide)))
       all_goals(try(conv=>whnf))
       generalize hKK:F7 Tryd.prog _ _=KK;as_aux_lemma=>
        repeat'((conv=>whnf);first|((with_reducible refine Ac ?_ ?_);focus (and_intros<;>first|omega|(intro _ hh;cases hh;done)|(simp;done)))|((with_reducible refine Ct.mk ?_);refine⟨_,Asd,?_⟩;rintro _ _ ⟨rfl,rfl⟩))
        all_goals(try(conv=>whnf))
        rw[←hKK];clear hKK;as_aux_lemma=>
         repeat'((conv=>whnf);first|((with_reducible refine Ax (by first|((with_reducible refine decide_eq_true ?_);omega)|(with_reducible rfl)) (fun hb=>?_));(try rw[hb]);(try simp only[Aa]at hb))|((with_reducible refine A5 (fun hb=>?_) (fun hb=>?_))<;>first|(exact absurd hb (by decide))|((try rw[hb]);(try simp only[Aa]at hb)))|((with_reducible refine Ac ?_ ?_);focus (and_intros<;>first|omega|(with_reducible rfl)|kernel_rfl))|(with_reducible intro Cq))
         all_goals(try(conv=>whnf))
         (apply dKq<;>kernel_rfl)

open Go.Proofs
def A04:Stm:=(sO [gA 4 (.c .Aw9),gA 5 (.c .Aw9),gA 6 cF] (sO [gC 13 19 [],O1 (.A0g 14 [(.vec 50 4 [])] []),O1 (.A6b 15 14),O1 (.Aru 7 13),O1 (.Aru 8 15)] (sO [gM 16 7,gC 17 20 [(true,16),nL (cS [116])]] (sO [gM 18 8,gC 19 25 [(true,18),nL (cS [116])]] (.seq (sO [gM 20 0,gN 21 20,gB 22 .gtr 21 (cI 40)] (cR 22 [O1 (.Aru 23 7),O1 (.Aru 24 8),O1 (.Aru 4 23),O1 (.Aru 5 24),gA 6 cF])) (.seq (sO [gM 25 0,gN 26 25,gM 27 (cI 0)] (.block 0 (.loop (kr [4,5,6,10,12,20] 28 34) (sO [gB 28 .lss 27 26] (.seq (.cond 28 .skip (.exit 0)) (.seq (.block 1 (sO [gI 29 1 25 27,gL 30 29,gA 10 30] (.seq (sO [gM 31 10,gN 32 31,gB 33 .gtr 32 (cI 100)] (cR 33 [O1 (.Aru 34 7),O1 (.Aru 35 8),O1 (.Aru 4 34),O1 (.Aru 5 35),gA 6 cF])) (.seq (sO [gM 36 10,gN 37 36,gM 38 (cI 0)] (.block 2 (.loop [4,5,6,12,20,31,39,40,41,42,43,44,45,46,47,48,49,50,51,52,53,54,56,59] (sO [gB 39 .lss 38 37] (.seq (.cond 39 .skip (.exit 2)) (.seq (.block 3 (sO [gI 40 3 36 38,gU 41 3 40,O1 (.alloc 12 (.one (.i (.agg [(.str []),(.str []),(.bool false)])))),gS 3 12 41] (sO [gF 42 12 0,gL 43 42,O1 (.len 44 true 43),gB 45 .gtr 44 (cI 1000),gM 46 45,qf 46 (iG 47 12 1 1),qf 46 (iL 48 47),qf 46 (.len 49 true 48),qf 46 (iB 50 .gtr 49 (cI 1000)),gP 51 46 cT 50] (cR 51 [O1 (.Aru 52 7),O1 (.Aru 53 8),O1 (.Aru 4 52),O1 (.Aru 5 53),gA 6 cF])))) (.ops [gB 54 .add 38 (cI 1),gM 38 54]))))))) (sO [gM 55 7,gM 56 10,gC 57 24 [(true,55),nL (cS [116]),nL 56]] (.ops [gM 58 8,gM 59 10,gC 60 26 [(true,58),nL (cS [116]),nL 59]])))))) (.ops [gB 61 .add 27 (cI 1),gM 27 61]))))))) (sO [gM 62 7,gM 63 1,gC 64 48 [(true,62),nL (cS [116]),nL 63]] (sO [gM 65 8,gM 66 1,gC 67 82 [(true,65),nL (cS [116]),nL 66]] (sO [O1 (.Aru 68 7),O1 (.Aru 69 8),O1 (.Aru 4 68),O1 (.Aru 5 69),gA 6 cT] .ret)))))))))
theorem Av7:OFD 59 70 A04 [.t 4,.t 5,.t 6]:=oFD Tryd.func59 rfl Tryd.ntmps59 (by kernel_rfl) (by kernel_rfl)
def Ay9:Stm:=(sO [O1 (.box 4 1),O1 (.box 5 2),gA 6 cF] (.seq (sO [gC 24 50 [],gT 25 24] (cR 25 [gA 6 cF])) (sO [gM 27 0,gC 28 59 [nL 27,nL (cI 0)],gA 26 28,gE 29 26 0,gE 30 26 1,gE 31 26 2,O1 (.Aru 7 29),O1 (.Aru 8 30),gA 9 31] (.seq (sO [gM 32 9,gT 33 32,gM 34 33,qf 34 (iU 35 3 4),.call (some (34,false)) (some 36) 51 [nL 35],gP 37 34 cT 36,gM 38 37,qf 38 (iG 39 5 0 0),qf 38 (iL 40 39),qf 38 (.len 41 true 40),qf 38 (iB 42 .gtr 41 (cI 1000)),gP 43 38 cT 42,gM 44 43,qf 44 (iG 45 5 1 1),qf 44 (iL 46 45),qf 44 (.len 47 true 46),qf 44 (iB 48 .gtr 47 (cI 1000)),gP 49 44 cT 48] (cR 49 [gA 6 cT])) (.seq (.seq (.drw [0,1,0,4,0,16,63,0,128,0,512,2047,4095,8191,0] [gF 50 4 0,gL 51 50,gF 52 4 1,gL 53 52,gF 54 4 2,gL 55 54,gC 56 55 [nL 51,nL 53,nL 55],gF 57 4 1,gL 58 57,gF 59 4 2,gL 60 59,gC 61 57 [nL 58,nL 60],O1 (.app 62 54 2 32 56 61),gN 63 62,gM 64 (cI 0)]) (.block 0 (.loop [6,11,27,65,66,67,68,69,70,71,72,83,138,139,143,144] (sO [gB 65 .lss 64 63] (.seq (.cond 65 .skip (.exit 0)) (.seq (.block 1 (sO [gI 66 2 62 64,gU 67 2 66,O1 (.alloc 11 (.one (.i (.agg [(.str []),(.str [])])))),gS 2 11 67] (sO [gU 68 2 11,gF 69 5 0,gL 70 69,gC 71 62 [nL 68,nL 70]] (cR 71 [gA 6 cT])))) (.ops [gB 72 .add 64 (cI 1),gM 64 72]))))))) (.seq (sO [gF 73 4 1,gL 74 73,gF 75 4 2,gL 76 75,O1 (.bsl 77 85 1 (.list []) 2 [(0,74),(1,76)]),gN 78 77,gM 79 (cI 0)] (.block 2 (.loop [6,13,15,27,80,81,82,83,84,85,86,87,88,89,90,91,92,93,94,95,96,97,98,138,139,143,144] (sO [gB 80 .lss 79 78] (.seq (.cond 80 .skip (.exit 2)) (.seq (.block 3 (sO [gI 81 1 77 79,gL 82 81,gA 13 82] (sO [gM 83 13,gN 84 83,gM 85 (cI 0)] (.block 4 (.loop [6,15,27,86,87,88,89,90,91,92,93,94,95,96,97,138,139,143,144] (sO [gB 86 .lss 85 84] (.seq (.cond 86 .skip (.exit 4)) (.seq (.block 5 (sO [gI 87 7 83 85,gU 88 7 87,O1 (.alloc 15 (.one (.i (.agg [(.int .i64 0),(.agg [(.str []),(.str [])]),(.str []),(.str []),(.int .i64 0),(.int .i64 0)])))),gS 7 15 88] (sO [gF 89 15 0,gL 90 89,gB 91 .eql 90 (cI 1),gM 92 91,qt 92 (iG 93 15 4 5),qt 92 (iL 94 93),qt 92 (iB 95 .neq 94 (cI 0)),gP 96 92 95 cF] (cR 96 [gA 6 cT])))) (.ops [gB 97 .add 85 (cI 1),gM 85 97]))))))))) (.ops [gB 98 .add 79 (cI 1),gM 79 98]))))))) (sO [gM 100 7,gF 101 4 0,gL 102 101,gF 103 4 1,gL 104 103,gF 105 4 2,gL 106 105,gC 107 60 [(true,100),nL (cS [116]),nL 102,nL 104,nL 106],gA 99 107,gE 108 99 0,gE 109 99 1,gE 110 99 2,gE 111 99 3,gA 16 108,gA 17 109,gA 18 110,gA 19 111] (sO [gM 112 7,gU 113 3 5,O1 (.bsl 114 38 3 (.agg [(.str []),(.str []),(.bool false)]) 1 [(0,113)]),gC 115 24 [(true,112),nL (cS [116]),nL 114]] (sO [gM 117 7,gF 118 4 0,gL 119 118,gF 120 4 1,gL 121 120,gF 122 4 2,gL 123 122,gC 124 60 [(true,117),nL (cS [116]),nL 119,nL 121,nL 123],gA 116 124,gE 125 116 0,gE 126 116 1,gE 127 116 2,gE 128 116 3,gA 20 125,gA 21 126,gA 22 127,gA 23 128] (sO [gM 129 16,gM 130 20,O1 (.eqs 131 false .bool 129 130),gM 132 131,qt 132 (iM 133 19),qt 132 (iM 134 23),qt 132 (iB 135 .eql 133 134),gP 136 132 135 cF,gM 137 136,qt 137 (iM 138 17),qt 137 (iM 139 21),.call (some (137,true)) (some 140) 63 [nL 138,nL 139],gP 141 137 140 cF,gM 142 141,qt 142 (iM 143 18),qt 142 (iM 144 22),.call (some (142,true)) (some 145) 64 [nL 143,nL 144],gP 146 142 145 cF,gA 6 146] .ret))))))))))
theorem Ava:OF 16 147 Ay9 [.t 6]:=oF Tryd.func16 rfl Tryd.ntmps16 (by kernel_rfl) (by kernel_rfl)

open Go.Proofs
abbrev Axm(x:Cn × Bool):SV:=.Ati [.ptr x.1.toD,.ptr (.st [.vec 50 4 ((x.1.ref.map Spc.Bx).map D.it)]),.it (.bool x.2)]
theorem Bd2(w:List (List Ef))(fl:Int)(h:40<w.length):
 Fn Tryd.prog Auw [.v (.list (w.map fun l=>I.list (l.map Ef.Bx))),.v (ti fl)] (Is (Axm (aw1,false)) [.no,.no]):=by
 refine Av7 ?_ (by simp)
 have hwl:(w.map fun l=>I.list (l.map Ef.Bx)).length=w.length:=Bh _
 have g40:¬decide ((40:Int)<(w.length:Int))=false:=by simp;omega
 have hR:aw1.ref=[aw1.Ann tQ]:=Aqs.ref;have hoR:=Baf;rw[hR]at hoR;unfold Axm;dsimp only;rw[hR];repeat'((conv=>whnf);((with_reducible refine Ac ?_ ?_);focus (and_intros<;>decide)))
 all_goals(try(conv=>whnf))
 generalize hKK:F7 Tryd.prog _ _=KK;as_aux_lemma=>
  repeat'((conv=>whnf);first|((with_reducible refine Ac ?_ ?_);focus (and_intros<;>((intro _ hh;cases hh;done))))|((with_reducible refine Ct.mk ?_);refine⟨_,Adg,?_⟩;rintro _ _ ⟨rfl,rfl⟩))
  all_goals(try(conv=>whnf))
  rw[←hKK];clear hKK;as_aux_lemma=>
   repeat'((conv=>whnf);((with_reducible refine Ac ?_ ?_);focus (and_intros<;>first|kernel_rfl|(simp;done)|decide)))
   all_goals(try(conv=>whnf))
   generalize hKK:F7 Tryd.prog _ _=KK;as_aux_lemma=>
    repeat'((conv=>whnf);first|((with_reducible refine Ac ?_ ?_);focus (and_intros<;>first|(intro _ hh;cases hh;done)|(simp;done)))|((with_reducible refine Ct.mk ?_);refine⟨_,Ae1,?_⟩;rintro _ _ ⟨rfl,rfl⟩))
    all_goals(try(conv=>whnf))
    rw[←hKK];clear hKK;as_aux_lemma=>
     repeat'((conv=>whnf);((with_reducible refine Ac ?_ ?_);focus (and_intros<;>first|kernel_rfl|(simp;done)|decide)))
     all_goals(try(conv=>whnf))
     generalize hKK:F7 Tryd.prog _ _=KK;as_aux_lemma=>
      repeat'((conv=>whnf);first|((with_reducible refine Ac ?_ ?_);focus (and_intros<;>first|(intro _ hh;cases hh;done)|(simp;done)))|((with_reducible refine Ct.mk ?_);refine⟨_,hoR,?_⟩;rintro _ _ ⟨rfl,rfl⟩))
      all_goals(try(conv=>whnf))
      rw[←hKK];clear hKK;as_aux_lemma=>
       repeat'((conv=>whnf);first|((with_reducible refine Ax (by first|(with_reducible exact Ai (by assumption))|((with_reducible refine decide_eq_true ?_);omega)) (fun hb=>?_));(try rw[hb]);(try simp only[Aa]at hb))|((with_reducible refine Ac ?_ ?_);focus (and_intros<;>(with_reducible rfl)))|(with_reducible intro Cq)|(skip;rw[hwl]))
       all_goals(try(conv=>whnf))
       (apply dKq<;>kernel_rfl)
theorem Bfv(w:List (List Ef))(fl:Int)(h:w.length≤40)(RES:Cn × Bool)(Ajz:Awq w aw1=RES)(OUT:Cn × Bool)(A4m:(if RES.2=true then((RES.1.Anu tQ fl).1,true)else(RES.1,false))=OUT):
 Fn Tryd.prog Auw [.v (.list (w.map fun l=>I.list (l.map Ef.Bx))),.v (ti fl)] (Is (Axm OUT) [.no,.no]):=by
 refine Av7 ?_ (by simp)
 have hwl:(w.map fun l=>I.list (l.map Ef.Bx)).length=w.length:=Bh _
 have g40:¬decide ((40:Int)<(w.length:Int))=true:=by simp;omega
 repeat'((conv=>whnf);((with_reducible refine Ac ?_ ?_);focus (and_intros<;>decide)))
 all_goals(try(conv=>whnf))
 generalize hKK:F7 Tryd.prog _ _=KK;as_aux_lemma=>
  repeat'((conv=>whnf);first|((with_reducible refine Ac ?_ ?_);focus (and_intros<;>((intro _ hh;cases hh;done))))|((with_reducible refine Ct.mk ?_);refine⟨_,Adg,?_⟩;rintro _ _ ⟨rfl,rfl⟩))
  all_goals(try(conv=>whnf))
  rw[←hKK];clear hKK;as_aux_lemma=>
   repeat'((conv=>whnf);((with_reducible refine Ac ?_ ?_);focus (and_intros<;>first|kernel_rfl|(simp;done)|decide)))
   all_goals(try(conv=>whnf))
   generalize hKK:F7 Tryd.prog _ _=KK;as_aux_lemma=>
    repeat'((conv=>whnf);first|((with_reducible refine Ac ?_ ?_);focus (and_intros<;>first|(intro _ hh;cases hh;done)|(simp;done)))|((with_reducible refine Ct.mk ?_);refine⟨_,Ae1,?_⟩;rintro _ _ ⟨rfl,rfl⟩))
    all_goals(try(conv=>whnf))
    rw[←hKK];clear hKK;as_aux_lemma=>
     repeat'((conv=>whnf);((with_reducible refine Ac ?_ ?_);focus (and_intros<;>first|kernel_rfl|(simp;done)|decide)))
     all_goals(try(conv=>whnf))
     generalize hKK:F7 Tryd.prog _ _=KK;as_aux_lemma=>
      repeat'((conv=>whnf);first|((with_reducible refine Ac ?_ ?_);focus (and_intros<;>first|(intro _ hh;cases hh;done)|(simp;done)))|((with_reducible refine Ct.mk ?_);refine⟨_,Baf,?_⟩;rintro _ _ ⟨rfl,rfl⟩))
      all_goals(try(conv=>whnf))
      rw[←hKK];clear hKK;as_aux_lemma=>
       repeat'((conv=>whnf);first|((with_reducible refine Aw (by first|(with_reducible exact Ak (by assumption))|((with_reducible refine decide_eq_false ?_);omega)) (fun hb=>?_));(try rw[hb]);(try simp only[Aa]at hb))|((with_reducible refine Ac ?_ ?_);focus (and_intros<;>(with_reducible rfl)))|(with_reducible intro Cq)|((try dsimp only);rw[hwl]))
       all_goals(try(conv=>whnf))
       refine Afm.by (X:=Nat × Cn) (fun y=>[(27,.v (ti (y.1:Int))),(7,sP y.2),(8,rT y.2.ref)]) (fun y=>y.1≤w.length∧A0b y.1 y.2∧Awq (w.drop y.1) y.2=RES) (fun y=>w.length - y.1) (0,aw1) (by kernel_rfl) ⟨Cr _,Bd1,Ajz⟩ ?_
       clear Ajz;rintro⟨j,s⟩ ⟨hj,hI,hR⟩
       (try dsimp only at hj hI hR ⊢)
       have hw:IntKind.i64.wrap ((j:Int)+1)=((j+1:Nat):Int):=(Bf (by omega)).trans (by omega)
       have h8:=hI.len;by_cases hjl:j<w.length
       case neg=>
        have h3:¬decide ((j:Int)<(w.length:Int))=true:=by simp;omega
        rw[Db (by omega)]at hR
        have hR:(s,true)=RES:=hR;subst hR;rw[if_pos rfl]at A4m;subst A4m;have hc1:=Bfi hI.inv (by omega) tQ fl
        have hc2:=Bqo hI.inv (by omega) (by omega) hI.c tQ fl
        unfold Axm;dsimp only at hc1 hc2 ⊢;generalize s.Anu tQ fl=Z at*;obtain⟨s',e⟩:=Z;dsimp only at hc1 hc2 ⊢;generalize s.ref=R at*;generalize s'.ref=R' at*;repeat'((conv=>whnf);first|((with_reducible refine Aw (by(with_reducible exact Ak (by assumption))) (fun hb=>?_));(try rw[hb]);(try simp only[Aa]at hb))|((with_reducible refine Ac ?_ ?_);focus (and_intros<;>first|kernel_rfl|(intro _ hh;cases hh;done)|(simp;done)|decide))|((with_reducible refine Ct.mk ?_);refine⟨_,hc1,?_⟩;rintro _ _ ⟨rfl,rfl⟩))
        all_goals(try(conv=>whnf))
        generalize hKK:F7 Tryd.prog _ _=KK;as_aux_lemma=>
         repeat'((conv=>whnf);first|((with_reducible refine Ac ?_ ?_);focus (and_intros<;>first|(intro _ hh;cases hh;done)|(simp;done)))|((with_reducible refine Ct.mk ?_);refine⟨_,hc2,?_⟩;rintro _ _ ⟨rfl,rfl⟩))
         all_goals(try(conv=>whnf))
         rw[←hKK];clear hKK;as_aux_lemma=>
          (skip)
          all_goals(try(conv=>whnf))
          (apply dKq<;>kernel_rfl)
       obtain⟨l,hl⟩:∃x,w[j]?=some x:=⟨_,Ae hjl⟩;have h3:¬decide ((j:Int)<(w.length:Int))=false:=by simp;omega
       have hdr:w.drop j=l::w.drop (j+1):=by rw[Cc hjl];rw[Ae hjl]at hl;cases hl;rfl
       rw[hdr]at hR;unfold Awq at hR;have hcl:(l.map Ef.Bx).length=l.length:=Bh _;by_cases hd:100<l.length
       ·rw[if_pos hd]at hR;subst hR;have A4m:(s,false)=OUT:=by rw[←A4m];rfl
        subst A4m;have Bsz:¬decide ((100:Int)<(l.length:Int))=false:=by simp;omega
        unfold Axm;dsimp only;generalize s.ref=R at*;repeat'((conv=>whnf);first|((with_reducible refine Ax (by first|(with_reducible exact Ai (by assumption))|((with_reducible refine decide_eq_true ?_);omega)) (fun hb=>?_));(try rw[hb]);(try simp only[Aa]at hb))|((with_reducible refine Ac ?_ ?_);focus (and_intros<;>first|omega|(with_reducible rfl)|kernel_rfl))|(with_reducible intro Cq)|((try dsimp only);(rw[B6 hl]))|(skip;rw[hcl]))
        all_goals(try(conv=>whnf))
        (apply dKq<;>kernel_rfl)
       rw[if_neg hd]at hR;have Bsz:¬decide ((100:Int)<(l.length:Int))=true:=by simp;omega
       have hwt:=Air hI.inv (by omega) tQ l (by decide) (by omega)
       have hwr:=Bqq hI.inv (by omega) (by omega) hI.c tQ l (by omega)
       have hI2:=hI.write (cs:=l) (by omega)
       generalize hZ:s.Acg tQ l=Z at*;obtain⟨s',r1,r2⟩:=Z;dsimp only at hwt hwr hI2 hR;generalize hNX:Awq (w.drop (j+1)) s'=NX at hR;generalize hSR:s.ref=R at*;repeat'((conv=>whnf);first|((with_reducible refine Ax (by(with_reducible exact Ai (by assumption))) (fun hb=>?_));(try rw[hb]);(try simp only[Aa]at hb))|((with_reducible refine Aw (by first|(with_reducible exact Ak (by assumption))|((with_reducible refine decide_eq_false ?_);omega)) (fun hb=>?_));(try rw[hb]);(try simp only[Aa]at hb))|((with_reducible refine Ac ?_ ?_);focus (and_intros<;>first|omega|(with_reducible rfl)|kernel_rfl))|(with_reducible intro Cq)|((try dsimp only);(rw[B6 hl]))|((try dsimp only);rw[hcl]))
       all_goals(try(conv=>whnf))
       refine Afm.by (X:=Nat) (fun q=>[(38,.v (ti (q:Int)))]) (fun q=>q≤l.length∧(if cGo (l.drop q)=true then(s,false)else NX)=RES) (fun q=>l.length - q) 0 (by kernel_rfl) ⟨Cr _,hR⟩ ?_
       clear hR;rintro q ⟨hq,hQ⟩
       (try dsimp only at hq hQ ⊢)
       have hw2:IntKind.i64.wrap ((q:Int)+1)=((q+1:Nat):Int):=(Bf (by omega)).trans (by omega)
       by_cases hql:q<l.length
       case neg=>
        have h6:¬decide ((q:Int)<(l.length:Int))=true:=by simp;omega
        rw[Db (by omega)]at hQ
        have hQ:NX=RES:=hQ;repeat'((conv=>whnf);first|((with_reducible refine Aw (by(with_reducible exact Ak (by assumption))) (fun hb=>?_));(try rw[hb]);(try simp only[Aa]at hb))|((with_reducible refine Ac ?_ ?_);focus (and_intros<;>first|kernel_rfl|(simp;done)|decide)))
        all_goals(try(conv=>whnf))
        generalize hKK:F7 Tryd.prog _ _=KK;as_aux_lemma=>
         repeat'((conv=>whnf);first|((with_reducible refine Ac ?_ ?_);focus (and_intros<;>first|(intro _ hh;cases hh;done)|(simp;done)))|((with_reducible refine Ct.mk ?_);refine⟨_,hwt,?_⟩;rintro _ _ ⟨rfl,rfl⟩))
         all_goals(try(conv=>whnf))
         rw[←hKK];clear hKK;as_aux_lemma=>
          repeat'((conv=>whnf);((with_reducible refine Ac ?_ ?_);focus (and_intros<;>first|kernel_rfl|(simp;done)|decide)))
          all_goals(try(conv=>whnf))
          generalize hKK:F7 Tryd.prog _ _=KK;as_aux_lemma=>
           repeat'((conv=>whnf);first|((with_reducible refine Ac ?_ ?_);focus (and_intros<;>first|(intro _ hh;cases hh;done)|(simp;done)))|((with_reducible refine Ct.mk ?_);refine⟨_,hwr,?_⟩;rintro _ _ ⟨rfl,rfl⟩))
           all_goals(try(conv=>whnf))
           rw[←hKK];clear hKK;as_aux_lemma=>
            repeat'((conv=>whnf);(skip;rw[hw]))
            all_goals(try(conv=>whnf))
            refine Round.by (j+1,s') ?_ ⟨by omega,hI2,hNX.trans hQ⟩ (by dsimp only;omega)
            try dsimp only
            show norm _ _=upd _ _
            kernel_rfl
       obtain⟨c,hc⟩:∃x,l[q]?=some x:=⟨_,Ae hql⟩;have h6:¬decide ((q:Int)<(l.length:Int))=false:=by simp;omega
       have hdq:l.drop q=c::l.drop (q+1):=by rw[Cc hql];rw[Ae hql]at hc;cases hc;rfl
       rw[hdq]at hQ;unfold cGo at hQ;obtain⟨ck,cv,cg⟩:=c;by_cases hb:(Ef.mk ck cv cg).big
       ·rw[if_pos hb]at hQ;have hQ:(s,false)=RES:=hQ;subst hQ;have A4m:(s,false)=OUT:=by rw[←A4m];rfl
        subst A4m;unfold Ef.big at hb
        (try dsimp only at hb)
        unfold Axm;dsimp only;rw[hSR];repeat'((conv=>whnf);first|((with_reducible refine Ax (by first|(with_reducible exact Ai (by assumption))|(with_reducible rfl)) (fun hb=>?_));(try rw[hb]);(try simp only[Aa]at hb))|((with_reducible refine Aw (by first|(with_reducible exact Ak (by assumption))|(with_reducible rfl)) (fun hb=>?_));(try rw[hb]);(try simp only[Aa]at hb))|((with_reducible refine A5 (fun hb=>?_) (fun hb=>?_))<;>first|(exfalso;((simp only[An]at hb<;>omega)))|((try rw[hb]);(try simp only[Aa]at hb)))|((with_reducible refine Ac ?_ ?_);focus (and_intros<;>first|omega|(with_reducible rfl)|kernel_rfl|(simp;done)))|(with_reducible intro Cq)|((try dsimp only);(rw[B6 hc])))
        all_goals(try(conv=>whnf))
        all_goals first
         |(exfalso;omega)
         |(apply dKq<;>kernel_rfl)
       ·rw[if_neg hb]at hQ;unfold Ef.big at hb
        (try dsimp only at hb)
        repeat'((conv=>whnf);first|((with_reducible refine Ax (by(with_reducible exact Ai (by assumption))) (fun hb=>?_));(try rw[hb]);(try simp only[Aa]at hb))|((with_reducible refine Aw (by first|(with_reducible exact Ak (by assumption))|(with_reducible rfl)) (fun hb=>?_));(try rw[hb]);(try simp only[Aa]at hb))|((with_reducible refine A5 (fun hb=>?_) (fun hb=>?_))<;>first|(exfalso;((simp only[An]at hb<;>omega)))|((try rw[hb]);(try simp only[Aa]at hb)))|((with_reducible refine Ac ?_ ?_);focus (and_intros<;>first|omega|(with_reducible rfl)|kernel_rfl|(simp;done)))|(with_reducible intro Cq)|((try dsimp only);(rw[B6 hc]))|((try dsimp only);rw[hw2]))
        all_goals(try(conv=>whnf))
        refine Round.by (q+1) ?_ ⟨by omega,hQ⟩ (by omega)
        try dsimp only
        show norm _ _=upd _ _
        kernel_rfl
theorem A9i(w:List (List Ef))(fl:Int):
 Fn Tryd.prog Auw [.v (.list (w.map fun l=>I.list (l.map Ef.Bx))),.v (ti fl)] (Is (Axm (Az0 w fl)) [.no,.no]):=by
 unfold Az0;by_cases h:40<w.length
 ·rw[if_pos h];exact Bd2 w fl h
 ·rw[if_neg h];exact Bfv w fl (by omega) _ rfl _ rfl

open Go.Proofs
theorem Dm(t:Txn)(hbd:t.ifs.length+t.th.length+t.el.length≤1000000000000000000):Fn Tryd.prog Gt [.v t.Bx] (Is (.v (.bool t.Axo)) [.no]):=by
 refine Gn ?_ (by simp)
 obtain⟨ifs,th,el⟩:=t;unfold Txn.Axo;dsimp only at hbd ⊢;have hl1:(ifs.map Cm.Bx).length=ifs.length:=Bh _;have hl2:(th.map Act.Bx).length=th.length:=Bh _;have hl3:(el.map Act.Bx).length=el.length:=Bh _;have hs1:IntKind.i64.wrap ((ifs.length:Int)+(th.length:Int))=(ifs.length:Int)+(th.length:Int):=Bf (by omega)
 have hs2:IntKind.i64.wrap ((ifs.length:Int)+(th.length:Int)+(el.length:Int))=((ifs.length+th.length+el.length:Nat):Int):=(Bf (by omega)).trans (by omega)
 by_cases h60:60<ifs.length+th.length+el.length
 ·rw[if_pos h60];have g60:¬decide ((60:Int)<IntKind.i64.wrap (IntKind.i64.wrap ((ifs.length:Int)+(th.length:Int))+(el.length:Int)))=false:=by rw[hs1,hs2];simp;omega
  repeat'((conv=>whnf);first|((with_reducible refine A5 (fun hb=>?_) (fun hb=>?_))<;>(((try rw[hb]);(try simp only[Aa]at hb))))|((with_reducible refine Ac ?_ ?_);focus (and_intros<;>first|omega|(with_reducible rfl)|kernel_rfl|(simp;done)))|(with_reducible intro Cq)|((try dsimp only);rw[hl1])|(skip;rw[hl2])|(skip;rw[hl3])|(skip;rw[hs1])|(skip;rw[hs2]))
  all_goals(try(conv=>whnf))
  all_goals first
   |(exfalso;rw[hs1,hs2]at hb;omega)
   |(apply dKq<;>kernel_rfl)
 rw[if_neg h60];have g60:¬decide ((60:Int)<IntKind.i64.wrap (IntKind.i64.wrap ((ifs.length:Int)+(th.length:Int))+(el.length:Int)))=true:=by rw[hs1,hs2];simp;omega
 obtain⟨RES,Ajz⟩:∃R,(if Ajk ifs=true then true else if A6 th=true then true else A6 el)=R:=⟨_,rfl⟩
 rw[Ajz];repeat'((conv=>whnf);first|((with_reducible refine A5 (fun hb=>?_) (fun hb=>?_))<;>(((try rw[hb]);(try simp only[Aa]at hb))))|((with_reducible refine Ac ?_ ?_);focus (and_intros<;>first|omega|(with_reducible rfl)|kernel_rfl|(simp;done)))|(with_reducible intro Cq)|((try dsimp only);rw[hl1])|(skip;rw[hl2])|(skip;rw[hl3])|(skip;rw[hs1])|(skip;rw[hs2]))
 all_goals(try(conv=>whnf))
 all_goals(try(exfalso;rw[hs1,hs2]at hb;omega))
 refine Afm.by (X:=Nat) (fun j=>[(26,.v (ti (j:Int)))]) (fun j=>j≤ifs.length∧(if Ajk (ifs.drop j)=true then true else if A6 th=true then true else A6 el)=RES) (fun j=>ifs.length - j) 0 (by kernel_rfl) ⟨Cr _,Ajz⟩ ?_
 rintro j ⟨hj,hR⟩
 (try dsimp only at hj hR ⊢)
 have hw:IntKind.i64.wrap ((j:Int)+1)=((j+1:Nat):Int):=(Bf (by omega)).trans (by omega)
 by_cases hjl:j<ifs.length
 ·obtain⟨c,hc⟩:∃x,ifs[j]?=some x:=⟨_,Ae hjl⟩;have h3:¬decide ((j:Int)<(ifs.length:Int))=false:=by simp;omega
  have hdr:ifs.drop j=c::ifs.drop (j+1):=by rw[Cc hjl];rw[Ae hjl]at hc;cases hc;rfl
  rw[hdr]at hR;unfold Ajk at hR;obtain⟨ck,cw,cr,cv⟩:=c;by_cases hb:(Cm.mk ck cw cr cv).big
  ·rw[if_pos hb]at hR;have hR:true=RES:=hR;subst hR;unfold Cm.big at hb
   (try dsimp only at hb)
   repeat'((conv=>whnf);first|((with_reducible refine Ax (by first|(with_reducible assumption)|(with_reducible exact Ai (by assumption))|(with_reducible rfl)) (fun hb=>?_));(try rw[hb]);(try simp only[Aa]at hb))|((with_reducible refine Aw (by first|(with_reducible exact Ak (by assumption))|(with_reducible rfl)) (fun hb=>?_));(try rw[hb]);(try simp only[Aa]at hb))|((with_reducible refine A5 (fun hb=>?_) (fun hb=>?_))<;>first|(exfalso;((simp only[An]at hb<;>omega)))|((try rw[hb]);(try simp only[Aa]at hb)))|((with_reducible refine Ac ?_ ?_);focus (and_intros<;>first|omega|(with_reducible rfl)|kernel_rfl|(simp;done)))|(with_reducible intro Cq)|((try dsimp only);(rw[B6 hc])))
   all_goals(try(conv=>whnf))
   all_goals first
    |(exfalso;omega)
    |(apply dKq<;>kernel_rfl)
  ·rw[if_neg hb]at hR;unfold Cm.big at hb
   (try dsimp only at hb)
   repeat'((conv=>whnf);first|((with_reducible refine Ax (by(with_reducible exact Ai (by assumption))) (fun hb=>?_));(try rw[hb]);(try simp only[Aa]at hb))|((with_reducible refine Aw (by first|(with_reducible exact Ak (by assumption))|(with_reducible rfl)) (fun hb=>?_));(try rw[hb]);(try simp only[Aa]at hb))|((with_reducible refine A5 (fun hb=>?_) (fun hb=>?_))<;>first|(exfalso;((simp only[An]at hb<;>omega)))|((try rw[hb]);(try simp only[Aa]at hb)))|((with_reducible refine Ac ?_ ?_);focus (and_intros<;>first|omega|(with_reducible rfl)|kernel_rfl|(simp;done)))|(with_reducible intro Cq)|((try dsimp only);(rw[B6 hc]))|((try dsimp only);rw[hw]))
   all_goals(try(conv=>whnf))
   refine Round.by (j+1) ?_ ⟨by omega,hR⟩ (by omega)
   try dsimp only
   show norm _ _=upd _ _
   kernel_rfl
 have h3:¬decide ((j:Int)<(ifs.length:Int))=true:=by simp;omega
 rw[Db (by omega)]at hR
 replace hR:(if A6 th=true then true else A6 el)=RES:=hR
 repeat'((conv=>whnf);first|((with_reducible refine Aw (by(with_reducible exact Ak (by assumption))) (fun hb=>?_));(try rw[hb]);(try simp only[Aa]at hb))|((with_reducible refine Ac ?_ ?_);focus (and_intros<;>first|omega|(with_reducible rfl)|kernel_rfl|exact Ah (by rfl)|(simp;done)))|(with_reducible intro Cq))
 all_goals(try(conv=>whnf))
 refine Afm.by (X:=Nat) (fun y=>[(47,.v (ti (y:Int)))]) (fun y=>y≤2∧(if y=0 then(if A6 th=true then true else A6 el)else if y=1 then A6 el else false)=RES) (fun y=>2 - y) 0 (by kernel_rfl) ⟨Cr _,hR⟩ ?_
 clear hR;rintro y ⟨hy,hR⟩
 (try dsimp only at hy hR ⊢)
 match y,hy,hR with
 |0,_,hR=>
  replace hR:(if A6 th=true then true else A6 el)=RES:=hR
  have hLm:(th.map Act.Bx).length=th.length:=Bh _;repeat'((conv=>whnf);first|((with_reducible refine A5 (fun hb=>?_) (fun hb=>?_))<;>first|(exfalso;((simp only[An]at hb<;>omega)))|((try rw[hb]);(try simp only[Aa]at hb)))|((with_reducible refine Ac ?_ ?_);focus (and_intros<;>first|omega|(with_reducible rfl)|kernel_rfl|(simp;done)))|(with_reducible intro Cq)|((try dsimp only);rw[hLm]))
  all_goals(try(conv=>whnf))
  refine Afm.by (X:=Nat) (fun q=>[(53,.v (ti (q:Int)))]) (fun q=>q≤th.length∧(if A6 (th.drop q)=true then true else(A6 el))=RES) (fun q=>th.length - q) 0 (by kernel_rfl) ⟨Cr _,hR⟩ ?_
  rintro q ⟨hq,hQ⟩
  (try dsimp only at hq hQ ⊢)
  have hw2:IntKind.i64.wrap ((q:Int)+1)=((q+1:Nat):Int):=(Bf (by omega)).trans (by omega)
  by_cases hql:q<th.length
  case neg=>
   have h6:¬decide ((q:Int)<(th.length:Int))=true:=by simp;omega
   rw[Db (by omega)]at hQ
   have hQ:(if(1:Nat)=0 then(if A6 th=true then true else A6 el)else if(1:Nat)=1 then A6 el else false)=RES:=hQ
   repeat'((conv=>whnf);((with_reducible refine Aw (by(with_reducible exact Ak (by assumption))) (fun hb=>?_));(try rw[hb]);(try simp only[Aa]at hb)))
   all_goals(try(conv=>whnf))
   refine Round.by 1 ?_ ⟨by omega,hQ⟩ (by omega)
   try dsimp only
   show norm _ _=upd _ _
   kernel_rfl
  obtain⟨d,hd⟩:∃x,th[q]?=some x:=⟨_,Ae hql⟩;have h6:¬decide ((q:Int)<(th.length:Int))=false:=by simp;omega
  have hab:A6 (d::th.drop (q+1))=(if d.big then true else A6 (th.drop (q+1))):=rfl
  have hdq:th.drop q=d::th.drop (q+1):=by rw[Cc hql];rw[Ae hql]at hd;cases hd;rfl
  rw[hdq,hab]at hQ;obtain⟨dk,⟨xf,xt⟩,Awk,dv,dr,dm⟩:=d;by_cases hb:(Act.mk dk ⟨xf,xt⟩ Awk dv dr dm).big
  ·rw[if_pos hb]at hQ;have hQ:true=RES:=hQ;subst hQ;unfold Act.big at hb
   (try dsimp only at hb)
   repeat'((conv=>whnf);first|((with_reducible refine Ax (by first|(with_reducible assumption)|(with_reducible exact Ai (by assumption))|(with_reducible rfl)) (fun hb=>?_));(try rw[hb]);(try simp only[Aa]at hb))|((with_reducible refine Aw (by first|(with_reducible exact Ak (by assumption))|(with_reducible rfl)) (fun hb=>?_));(try rw[hb]);(try simp only[Aa]at hb))|((with_reducible refine A5 (fun hb=>?_) (fun hb=>?_))<;>first|(exfalso;((simp only[An]at hb<;>omega)))|((try rw[hb]);(try simp only[Aa]at hb)))|((with_reducible refine Ac ?_ ?_);focus (and_intros<;>first|omega|(with_reducible rfl)|kernel_rfl|(simp;done)))|(with_reducible intro Cq)|((try dsimp only);(rw[B6 hd])))
   all_goals(try(conv=>whnf))
   all_goals first
    |(exfalso;omega)
    |(apply dKq<;>kernel_rfl)
  ·rw[if_neg hb]at hQ;unfold Act.big at hb
   (try dsimp only at hb)
   repeat'((conv=>whnf);first|((with_reducible refine Ax (by(with_reducible exact Ai (by assumption))) (fun hb=>?_));(try rw[hb]);(try simp only[Aa]at hb))|((with_reducible refine Aw (by first|(with_reducible exact Ak (by assumption))|(with_reducible rfl)) (fun hb=>?_));(try rw[hb]);(try simp only[Aa]at hb))|((with_reducible refine A5 (fun hb=>?_) (fun hb=>?_))<;>first|(exfalso;((simp only[An]at hb<;>omega)))|((try rw[hb]);(try simp only[Aa]at hb)))|((with_reducible refine Ac ?_ ?_);focus (and_intros<;>first|omega|(with_reducible rfl)|kernel_rfl|(simp;done)))|(with_reducible intro Cq)|((try dsimp only);(rw[B6 hd]))|((try dsimp only);rw[hw2]))
   all_goals(try(conv=>whnf))
   refine Round.by (q+1) ?_ ⟨by omega,hQ⟩ (by omega)
   try dsimp only
   show norm _ _=upd _ _
   kernel_rfl
 |1,_,hR=>
  replace hR:(if A6 el=true then true else false)=RES:=by rw[←hR];cases A6 el<;>rfl
  have hLm:(el.map Act.Bx).length=el.length:=Bh _;repeat'((conv=>whnf);first|((with_reducible refine A5 (fun hb=>?_) (fun hb=>?_))<;>first|(exfalso;((simp only[An]at hb<;>omega)))|((try rw[hb]);(try simp only[Aa]at hb)))|((with_reducible refine Ac ?_ ?_);focus (and_intros<;>first|omega|(with_reducible rfl)|kernel_rfl|(simp;done)))|(with_reducible intro Cq)|((try dsimp only);rw[hLm]))
  all_goals(try(conv=>whnf))
  refine Afm.by (X:=Nat) (fun q=>[(53,.v (ti (q:Int)))]) (fun q=>q≤el.length∧(if A6 (el.drop q)=true then true else false)=RES) (fun q=>el.length - q) 0 (by kernel_rfl) ⟨Cr _,hR⟩ ?_
  rintro q ⟨hq,hQ⟩
  (try dsimp only at hq hQ ⊢)
  have hw2:IntKind.i64.wrap ((q:Int)+1)=((q+1:Nat):Int):=(Bf (by omega)).trans (by omega)
  by_cases hql:q<el.length
  case neg=>
   have h6:¬decide ((q:Int)<(el.length:Int))=true:=by simp;omega
   rw[Db (by omega)]at hQ
   have hQ:(if(2:Nat)=0 then(if A6 th=true then true else A6 el)else if(2:Nat)=1 then A6 el else false)=RES:=hQ
   repeat'((conv=>whnf);((with_reducible refine Aw (by(with_reducible exact Ak (by assumption))) (fun hb=>?_));(try rw[hb]);(try simp only[Aa]at hb)))
   all_goals(try(conv=>whnf))
   refine Round.by 2 ?_ ⟨by omega,hQ⟩ (by omega)
   try dsimp only
   show norm _ _=upd _ _
   kernel_rfl
  obtain⟨d,hd⟩:∃x,el[q]?=some x:=⟨_,Ae hql⟩;have h6:¬decide ((q:Int)<(el.length:Int))=false:=by simp;omega
  have hab:A6 (d::el.drop (q+1))=(if d.big then true else A6 (el.drop (q+1))):=rfl
  have hdq:el.drop q=d::el.drop (q+1):=by rw[Cc hql];rw[Ae hql]at hd;cases hd;rfl
  rw[hdq,hab]at hQ;obtain⟨dk,⟨xf,xt⟩,Awk,dv,dr,dm⟩:=d;by_cases hb:(Act.mk dk ⟨xf,xt⟩ Awk dv dr dm).big
  ·rw[if_pos hb]at hQ;have hQ:true=RES:=hQ;subst hQ;unfold Act.big at hb
   (try dsimp only at hb)
   repeat'((conv=>whnf);first|((with_reducible refine Ax (by first|(with_reducible assumption)|(with_reducible exact Ai (by assumption))|(with_reducible rfl)) (fun hb=>?_));(try rw[hb]);(try simp only[Aa]at hb))|((with_reducible refine Aw (by first|(with_reducible exact Ak (by assumption))|(with_reducible rfl)) (fun hb=>?_));(try rw[hb]);(try simp only[Aa]at hb))|((with_reducible refine A5 (fun hb=>?_) (fun hb=>?_))<;>first|(exfalso;((simp only[An]at hb<;>omega)))|((try rw[hb]);(try simp only[Aa]at hb)))|((with_reducible refine Ac ?_ ?_);focus (and_intros<;>first|omega|(with_reducible rfl)|kernel_rfl|(simp;done)))|(with_reducible intro Cq)|((try dsimp only);(rw[B6 hd])))
   all_goals(try(conv=>whnf))
   all_goals first
    |(exfalso;omega)
    |(apply dKq<;>kernel_rfl)
  ·rw[if_neg hb]at hQ;unfold Act.big at hb
   (try dsimp only at hb)
   repeat'((conv=>whnf);first|((with_reducible refine Ax (by(with_reducible exact Ai (by assumption))) (fun hb=>?_));(try rw[hb]);(try simp only[Aa]at hb))|((with_reducible refine Aw (by first|(with_reducible exact Ak (by assumption))|(with_reducible rfl)) (fun hb=>?_));(try rw[hb]);(try simp only[Aa]at hb))|((with_reducible refine A5 (fun hb=>?_) (fun hb=>?_))<;>first|(exfalso;((simp only[An]at hb<;>omega)))|((try rw[hb]);(try simp only[Aa]at hb)))|((with_reducible refine Ac ?_ ?_);focus (and_intros<;>first|omega|(with_reducible rfl)|kernel_rfl|(simp;done)))|(with_reducible intro Cq)|((try dsimp only);(rw[B6 hd]))|((try dsimp only);rw[hw2]))
   all_goals(try(conv=>whnf))
   refine Round.by (q+1) ?_ ⟨by omega,hQ⟩ (by omega)
   try dsimp only
   show norm _ _=upd _ _
   kernel_rfl
 |2,_,hR=>
  have hR:false=RES:=hR;subst hR;repeat'((conv=>whnf);((with_reducible refine A5 (fun hb=>?_) (fun hb=>?_))<;>first|(exfalso;((simp only[An]at hb<;>omega)))|((try rw[hb]);(try simp only[Aa]at hb))))
  all_goals(try(conv=>whnf))
  (apply dKq<;>kernel_rfl)
 |y+3,hy,_=>omega

open Go.Proofs
theorem Asg{e:TypeId}{sz:Nat}{l:List I}{n:Nat}{u:I}{r:List Nat}(h:l[n]?=some u):(SV.vec e sz l).hit 0 (n::r)=A4u (n*sz) (u.sub r):=by
 show(match l[n]? with|some y=>A4u (n*sz) (y.sub r)|none=>none)=_
 rw[h]

open Go.Proofs
theorem Aqv{ifs:List Cm}{th el:List Act}:(C3 ifs th el).length≤ifs.length+th.length+el.length:=by
 unfold C3;have:=Anb Ana (th++el);rw[Hq]at this ⊢;rw[Bh];omega
theorem Ap4{th el:List Act}:(B9 th el).length≤th.length+el.length:=by
 unfold B9;have:=Anb Aiy (th++el);rw[Hq]at this;omega

open Go.Proofs
theorem Bg9{m:Nat}{s:Cn}(hI:Akb m s)(n:Az)(x:Sp):(s.Avs n x).length≤m:=by
 unfold Cn.Avs Cn.inX Lh;rw[Bh];exact Kq (List.length_filter_le _ _) (Kq (Anb _ _) hI.lb.len)
theorem Bht{m:Nat}{s:Cn}(hI:Akb m s)(n:Az)(d:Act):(s.Ayo n d).length≤m+1:=by
 unfold Cn.Ayo;split
 ·simp
 ·split
  ·rw[Bh];have:=Bg9 hI n d.x;omega
  ·simp
theorem Bas{α:Type}{b:Nat}:∀{l:List (List α)},(∀x∈l,x.length≤b)→l.flatten.length≤l.length*b
 | [],_=>by simp
 |x::r,h=>by
  have h1:=h x (B2 ..);have h2:=Bas (l:=r) fun y hy=>h y (B4 _ hy)
  rw[List.flatten_cons,Hq,Ho,Aj7];omega
theorem Bk4{m:Nat}{s:Cn}(hI:Akb m s){n:Az}{ifs:List Cm}{th el:List Act}:(s.runM n ifs th el).chs.length≤8*(m+1):=by
 by_cases he:(s.runM n ifs th el).e=0
 ·obtain⟨_,_,acts,_,h8,_,h2,_⟩:=Bhg he;rw[h2];have:=Bas (b:=m+1) (l:=acts.map (s.Ayo n)) fun x hx=>by obtain⟨d,_,rfl⟩:=X4.1 hx;exact Bht hI n d
  rw[Bh]at this;exact Kq this (Jh _ h8)
 ·rw[(Bdr he).2];simp

open Go.Proofs
def A8g(k:Az):List Sp→Bool
 | []=>false
 |x::r=>if Bw x k then true else A8g k r
end Go.Ab
