/- Lemmas -/
import Derived.Test.YtkpojedpcabojaaDoorK15
import Derived.Test.YtkpojedpcabojaaDoorTT0
import Derived.Test.YtkpojedpcabojaaDoorCards
import Derived.Test.YtkpojedpcabojaaDoorTie
import Derived.Test.YtkpojedpcabojaaDoorChecked
import Derived.JoinedCond
import Derived.Lay
import Derived.SevenTiedAt
set_option linter.unusedVariables false
set_option linter.unusedSimpArgs false
namespace Go.Ab
open Go.Proofs Go.Proofs.YtkpojedpcabojaaDoor
open Go.ChangeShapes Go.WideShapes Go.ChangeAt Go.RowKit
set_option maxRecDepth 100000
theorem txnDone_own:ownKnob Tryd.prog.godebug=none:=by kernel_rfl
theorem txnDone_contract(H:Type)(enc:TypeId × Value→H)(W:World)(base:Nat)(args:Array Value)(ds gs:List (DataW H))(before:List MemPlace)
 (Art:∀(j:Nat) t v,Tryd.f14.params[j]?=some t→args[j]?=some v→Value.okWide Tryd.prog W .any base t v)
 (hW:DataW.Whole enc Tryd.prog Tryd.f14.params.toList Rows.txnDoneSpec.vars false W args.toList ds gs before) (Hr:(DataW.weightsEach Tryd.prog (Tryd.f14.params.toList++Rows.txnDoneSpec.plain.varTypes Tryd.prog) (ds++gs)).all (· ≤reachBytes)=true) (hL:laidMetH Tryd.prog F8 W):
 Calls Tryd.prog 14 args W fun e W'=>∃v,e= .returned v∧Rows.txnDoneSpec.post enc Tryd.prog Tryd.f14 false true false false W args v W':=by
 have hW0:=hW;obtain⟨p,q,hA,_⟩:=hW;have ho:A3e Tryd.prog Tryd.f14.params.toList [.sl 1 (.sl 3 A3o),Hf]=true:=by kernel_rfl
 obtain⟨xs,h1,h2,h3⟩:=Me ho hA fun j t v a b=>Art j t v (by simpa using a) (by simpa using b)
 obtain⟨x,_,rfl,hx,y,_,rfl,hy,rfl⟩:=h1;obtain⟨a,rfl⟩:=Bk5 hx;obtain⟨t,rfl⟩:=Ajn hy;obtain⟨v0,hv0⟩:∃v,args.toList[1]?=some v:=⟨_,Ae (by rw[←h2];simp)⟩
 obtain⟨x0,y0,z0,p0,q0,r0,hcs⟩:=Jb (a:=t.ifs.map Cm.Bx) (b:=t.th.map Act.Bx) (c:=t.el.map Act.Bx) (h3 1 _ _ rfl hv0);have b1:=Bu (j:=1) (i:=0) hA Hr (t:=87) rfl Tryd.underlying87 rfl Tryd.underlying84 (by kernel_rfl) hv0 (by rw[hcs];rfl)
 have b2:=Bu (j:=1) (i:=1) hA Hr (t:=87) rfl Tryd.underlying87 rfl Tryd.underlying85 (by kernel_rfl) hv0 (by rw[hcs];rfl)
 have b3:=Bu (j:=1) (i:=2) hA Hr (t:=87) rfl Tryd.underlying87 rfl Tryd.underlying85 (by kernel_rfl) hv0 (by rw[hcs];rfl)
 rw[Bh]at b1 b2 b3;have hb2:=Jv b1 b2 b3 (by decide+kernel) (by decide+kernel)
 refine(Ad2 h2 h3 (law_done a t hb2) (Adk hL)).mono ?_;rintro e W' ⟨rfl,hk,hos,Azk,_⟩;refine⟨_,rfl,Ad4 (shs:=[.sl 1 (.sl 3 A3o),Hf]) (tb:=4) rfl ?_ rfl Tryd.underlying4 ho hW0 hk hos Azk⟩;intro ds hds
 match ds,hds with
 | [d0,d1],_=>rfl
theorem txnDone_lifted(os:Os)(started:os.Started)(H:Type)(enc:TypeId × Value→H):
 ReturnsInHanded {} Tryd.checked os 14 .any (fun w args=>(Rows.txnDoneSpec.pre enc Tryd.prog Tryd.f14 [] false w args∧laidMetH Tryd.prog F8 w)∧sizedMet enc Tryd.prog Tryd.f14 (OpenSpec.ofChange Rows.txnDoneSpec) false w args)
  (Rows.txnDoneSpec.post enc Tryd.prog Tryd.f14 false true false false):=by
 refine returnsInHanded_of_change_and (C:=Tryd.checked) (X:=fun w _=>laidMetH Tryd.prog F8 w) (fun _ _ _ hh h=>h.of_heap hh) txnDone_own started (by kernel_rfl) Tryd.func14
  (ChangeSpec.witness_shaped (enc:=enc) (C:=Tryd.checked) (os:=os) (X:=fun w _=>laidMetH Tryd.prog F8 w) false (World.laidAll Tryd.prog os F8) #[.slice none 0 0,.agg #[.slice none 0 0,.slice none 0 0,.slice none 0 0]] 8 (World.laidAll_os _ _ _)
    (World.shaped_of_ZipB (by kernel_rfl) (by kernel_rfl)) (by kernel_rfl) (by kernel_rfl) (by kernel_rfl)
    (by rw[MakeChecks.laidMetH_plain _ _ _ (by kernel_rfl)];exact laidMet_laidAll _ (by kernel_rfl) (by kernel_rfl))) ?_
 intro W base args ds gs before Bqh hW _ Hr hL _;exact txnDone_contract H enc W base args ds gs before Bqh hW Hr hL
theorem txnDone_over:Rows.TxnDoneSaid:=
 OpenClaim.holds_of_wide 14 Tryd.f14 rfl rfl rfl rfl rfl rfl rfl ⟨rfl,rfl,rfl,rfl,rfl⟩ rfl rfl rfl rfl rfl (by kernel_rfl) Tryd.func14 (by kernel_rfl)
  (of_decide_eq_true (by kernel_rfl)) (by unfold Func.isWrapper;first|(rw[if_pos (by decide+kernel)];kernel_rfl)|(rw[if_neg (by decide+kernel)];exact⟨rfl,rfl⟩))
  (fun os started H enc _=>txnDone_lifted os started H enc)
end Go.Ab
