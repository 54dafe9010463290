/- Lemmas -/
import Derived.Test.YtkpojedpcabojaaDoorV25
set_option linter.unusedVariables false
set_option linter.unusedSimpArgs false
set_option maxRecDepth 100000
set_option maxHeartbeats 40000000
namespace Go.Ab
open Go.Proofs
theorem Aky{m:Nat}{s:Cn}(hI:Akb m s)(hm:m≤80000)(hC:Atm s)(n:Az)(ifs:List Cm)(th el:List Act)(hsl:s.sp.length≤1000)(hl:ifs.length+th.length+el.length≤1000):
 Fn Tryd.prog F4 [sP s,.v (.str n),.v (.list (ifs.map Cm.Bx)),.v (.list (th.map Act.Bx)),.v (.list (el.map Act.Bx))] (Is (s.runM n ifs th el).sv [sP s,.no,.no,.no,.no]):=by
 cases hf:s.fi n with
 |none=>
  rw[show s.runM n ifs th el=⟨false,[],[],16⟩by unfold Cn.runM;rw[hf];rfl]
  exact Arw s n ifs th el hI.nd hsl hf
 |some i=>
  have hfs:(s.fi n).isSome=true:=by rw[hf];rfl
  cases hr:Cu ifs th el with
  |false=>
   rw[show s.runM n ifs th el=⟨false,[],[],1⟩by unfold Cn.runM;rw[hf,hr];rfl]
   exact Ar7 s n ifs th el hI.nd hsl hfs hl hr
  |true=>
   refine Arv hI hm hC n ifs th el hsl hfs hl hr _ rfl _ rfl _ rfl _ ?_;unfold Cn.runM;rw[hf,hr];simp
def aw6:Cn:=⟨[([116],⟨1,0,2,1,1⟩)],[⟨[1,116,97],[⟨1,1,[49],false⟩]⟩]⟩
theorem Aq6:aw1.Acg [116] [⟨[97],[49],false⟩]=(aw6,1,0):=by
 have h1:aw1.fi [116]=some 0:=by rfl
 have h2:K6 [⟨[97],[49],false⟩] []=some [⟨[97],[49],false⟩]:=by rfl
 have h3:Dc (([⟨[97],[49],false⟩]:List Ef).map Ef.key)=[[97]]:=by simp[Dc]
 unfold Cn.Acg;simp only[h1,h2,h3];rfl
theorem Biy:Akb 2 aw6∧Atm aw6:=by
 have h1:=inv1.write [116] [⟨[97],[49],false⟩];have h2:=Atm.write inv1 Aqs.c [116] [⟨[97],[49],false⟩];rw[Aq6]at h1 h2;exact⟨h1,h2⟩
def awI:List Cm:=[⟨[97],1,0,[49]⟩]
def awT:List Act:=[⟨2,⟨[],[]⟩,[98],[50],0,0⟩,⟨3,⟨[],[]⟩,[],[],0,0⟩]
theorem Ar9:aw6.runM [116] awI awT []=⟨true,[⟨[],false,0⟩,⟨[],false,1⟩],[⟨[98],[50],false⟩,⟨[97],[],true⟩],0⟩:=by
 have hk:=An5 Biy.1 (n:=[116]) (k:=[97]) (i:=0) (by rfl) (by decide)
 have hl:Q1 aw6.l (B7 [116] [97])=⟨1,1,[49],false⟩:=by rfl
 rw[hl]at hk;have hv:Lh [116] (aw6.Zp [116]).rev aw6.l=[([97],⟨1,1,[49],false⟩)]:=by rfl
 have hx:aw6.Avs [116] ⟨[],[]⟩=[[97]]:=by
  unfold Cn.Avs Cn.inX;rw[hv];rfl
 have hh:aw6.Aqu [116] awI=true:=by
  unfold awI Cn.Aqu Cn.Be4;dsimp only;rw[hk];rfl
 unfold Cn.runM;rw[if_neg (by simp[show aw6.fi [116]=some 0 from rfl]),if_neg (by decide),hh,if_pos rfl]
 unfold awT;simp[Cn.Auc,Cn.A0c,Cn.A0d,Cn.Ayo,hx]
theorem Ase:Fn Tryd.prog Da [sP aw1,.v (.str [116]),.v (.list [(Ef.mk [97] [49] false).Bx])] (Is (.tup [.i (ti 1),.i (ti 0)]) [sP aw6,.no,.no]):=by
 have hw:=Air inv1 (by omega) [116] [⟨[97],[49],false⟩] (by decide) (by decide)
 rw[Aq6]at hw;exact hw
theorem Asd:Fn Tryd.prog F4 [sP aw6,.v (.str [116]),.v (.list [.agg [.str [97],ti 1,ti 0,.str [49]]]),.v (.list [.agg [ti 2,.agg [.str [],.str []],.str [98],.str [50],ti 0,ti 0],.agg [ti 3,.agg [.str [],.str []],.str [],.str [],ti 0,ti 0]]),.v (.list [])]
 (Is (.tup [.i (.bool true),.i (.list [.agg [.list [],.bool false,ti 0],.agg [.list [],.bool false,ti 1]]),.i (.list [.agg [.str [98],.str [50],.bool false],.agg [.str [97],.str [],.bool true]]),.i (ti 0)]) [sP aw6,.no,.no,.no,.no]):=by
 have h:=Aky Biy.1 (by omega) Biy.2 [116] awI awT [] (by decide) (by decide)
 rw[Ar9]at h;exact h
theorem B0:Fn Tryd.prog Kb [] (Is (.v (.bool true)) []):=by
 refine Hv ?_ (by simp)
 repeat'((conv=>whnf);((with_reducible refine Ac ?_ ?_);focus (and_intros<;>decide)))
 all_goals(try(conv=>whnf))
 generalize hKK:F7 Tryd.prog _ _=KK;as_aux_lemma=>
  repeat'((conv=>whnf);first|((with_reducible refine Ac ?_ ?_);focus (and_intros<;>first|omega|(intro _ hh;cases hh;done)))|((with_reducible refine Ct.mk ?_);refine⟨_,Adg,?_⟩;rintro _ _ ⟨rfl,rfl⟩))
  all_goals(try(conv=>whnf))
  rw[←hKK];clear hKK;as_aux_lemma=>
   repeat'((conv=>whnf);((with_reducible refine Ac ?_ ?_);focus (and_intros<;>first|kernel_rfl|(simp;done)|decide)))
   all_goals(try(conv=>whnf))
   generalize hKK:F7 Tryd.prog _ _=KK;as_aux_lemma=>
    repeat'((conv=>whnf);first|((with_reducible refine Ac ?_ ?_);focus (and_intros<;>first|(intro _ hh;cases hh;done)|(simp;done)))|((with_reducible refine Ct.mk ?_);refine⟨_,Ae1,?_⟩;rintro _ _ ⟨rfl,rfl⟩))
    all_goals(try(conv=>whnf))
    rw[←hKK];clear hKK;as_aux_lemma=>
     repeat'((conv=>whnf);((with_reducible refine Ac ?_ ?_);focus (and_intros<;>first|kernel_rfl|exact Ah (by rfl)|(simp;done)|decide)))
     all_goals(try(conv=>whnf))
     generalize hKK:F7 Tryd.prog _ _=KK;as_aux_lemma=>
      repeat'((conv=>whnf);first|((with_reducible refine Ac ?_ ?_);focus (and_intros<;>first|(intro _ hh;cases hh;done)|(simp;done)))|((with_reducible refine Ct.mk ?_);refine⟨_,Ase,?_⟩;rintro _ _ ⟨rfl,rfl⟩))
      all_goals(try(conv=>whnf))
      rw[←hKK];clear hKK;as_aux_lemma=>
       repeat'((conv=>whnf);((with_reducible refine Ac ?_ ?_);focus (and_intros<;>first|kernel_rfl|exact Ah (by rfl)|(simp;done)|decide)))
       all_goals(try(conv=>whnf))
       generalize hKK:F7 Tryd.prog _ _=KK;as_aux_lemma=>
        repeat'((conv=>whnf);first|((with_reducible refine Ac ?_ ?_);focus (and_intros<;>first|omega|(intro _ hh;cases hh;done)|(simp;done)))|((with_reducible refine Ct.mk ?_);refine⟨_,Asd,?_⟩;rintro _ _ ⟨rfl,rfl⟩))
        all_goals(try(conv=>whnf))
        rw[←hKK];clear hKK;as_aux_lemma=>
         repeat'((conv=>whnf);first|((with_reducible refine Ax (by first|((with_reducible refine decide_eq_true ?_);omega)|(with_reducible rfl)) (fun hb=>?_));(try rw[hb]);(try simp only[Aa]at hb))|((with_reducible refine A5 (fun hb=>?_) (fun hb=>?_))<;>first|(exact absurd hb (by decide))|((try rw[hb]);(try simp only[Aa]at hb)))|((with_reducible refine Ac ?_ ?_);focus (and_intros<;>first|omega|(with_reducible rfl)|kernel_rfl))|(with_reducible intro Cq))
         all_goals(try(conv=>whnf))
         (apply dKq<;>kernel_rfl)
end Go.Ab
