/- The law RollRights returns true for every roll and request, as the tied card says: any roll is right just if the document says so, and one that is goes on as it says. Conditions: those of the given card alone. -/
import Derived.Test.YtgcccllpegilnaaGreatDoorAb24b
import Derived.Test.YtgcccllpegilnaaGreatDoorRows
import Derived.Lib.LaidU8T
import Derived.PinnedBridge
import Derived.LaidOnce
import Derived.LaidMore
import Derived.Test.YtgcccllpegilnaaGreatDoorCards
import Derived.Test.YtgcccllpegilnaaGreatDoorTie
import Derived.Test.YtgcccllpegilnaaGreatDoorChecked
import Derived.JoinedCond
import Derived.Lay
import Derived.SevenTiedAt
set_option linter.unusedVariables false
set_option linter.unusedSimpArgs false
set_option maxRecDepth 100000
set_option maxHeartbeats 4000000
namespace Go.Ab
open Go.Proofs Go.Lib
abbrev Bey:Sh:=.st [.str,.str]
abbrev A7x:Sh:=.st [Bey,.bool,.bool]
abbrev Bmb:Sh:=.st [.str,.int .i64,.int .i64,.str]
abbrev Bj5:Sh:=.st [.int .i64,Bey,.str,.str,.int .i64,.int .i64]
abbrev A7w:Sh:=.st [.int .i64,.int .i64,.str,.int .i64,.str,.str,.str,.str,.int .i64,.int .i64,A7x,.int .i64,.sl 4 Bmb,.sl 7 Bj5,.sl 7 Bj5]
theorem Bgw{x:I}(h:Fits Bey x):∃s:Sp,x=s.Ae:=by
 obtain⟨_,rfl,a,_,rfl,⟨f,rfl⟩,b,_,rfl,⟨t,rfl⟩,rfl⟩:=h;exact⟨⟨f,t⟩,rfl⟩
theorem Uu{α:Type}{sh:Sh}{sz:Nat}{f:α→I}(hf:∀x,Fits sh x→∃a,x=f a):∀xs:List I,(∀y∈xs,Fits sh y∧y.size=sz)→∃l:List α,xs=l.map f
 | [],_=>⟨[],rfl⟩
 |y::ys,h=>by
  obtain⟨l,rfl⟩:=Uu hf ys fun z hz=>h z (List.mem_cons_of_mem _ hz)
  obtain⟨s,rfl⟩:=hf y (h y (List.mem_cons_self ..)).1;exact⟨s::l,rfl⟩
theorem Ax7{x:I}(h:Fits A7x x):∃g:Dg,x=g.Ae:=by
 obtain⟨_,rfl,a,_,rfl,h1,b,_,rfl,⟨r,rfl⟩,c,_,rfl,⟨w,rfl⟩,rfl⟩:=h;obtain⟨s,rfl⟩:=Bgw h1;exact⟨⟨s,r,w⟩,rfl⟩
theorem Bdh{x:I}(h:Fits A7w x):∃c:Ds,x=c.Ae:=by
 obtain⟨_,rfl,x1,_,rfl,⟨v1,rfl,_⟩,x2,_,rfl,⟨v2,rfl,_⟩,x3,_,rfl,⟨v3,rfl⟩,x4,_,rfl,⟨v4,rfl,_⟩,x5,_,rfl,⟨v5,rfl⟩,x6,_,rfl,⟨v6,rfl⟩,x7,_,rfl,⟨v7,rfl⟩,x8,_,rfl,⟨v8,rfl⟩,
  x9,_,rfl,⟨v9,rfl,_⟩,x10,_,rfl,⟨v10,rfl,_⟩,x11,_,rfl,h11,x12,_,rfl,⟨v12,rfl,_⟩,x13,_,rfl,⟨v13,rfl,_⟩,x14,_,rfl,⟨v14,rfl,_⟩,x15,_,rfl,⟨v15,rfl,_⟩,rfl⟩:=h
 obtain⟨g,rfl⟩:=Ax7 h11;exact⟨⟨v1,v2,v3,v4,v5,v6,v7,v8,v9,v10,g,v12,v13,v14,v15⟩,rfl⟩
theorem Ar5{W w:World}(hw:∀b o,K5 W b=some o→w.heap[b]?=some o){a:Addr}{v:Value}(h:W.cell? a=some v):w.cell? a=some v:=by
 unfold World.cell? at h ⊢;cases hb:W.heap[a.block]? with
 |none=>rw[hb]at h;cases h
 |some o=>rw[hw a.block o hb, ←hb];exact h
theorem A69:Go.Proofs.YtgcccllpegilnaaGreatDoor.Rows.laid_unicode_utf8_first=firstData:=Pinned.utf8First_eq
theorem A27:(Go.Proofs.YtgcccllpegilnaaGreatDoor.Rows.laid_unicode_utf8_acceptRanges:DataW Unit)=acceptData:=by kernel_rfl
abbrev U2:List (String × DataW Unit):=[("unicode/utf8.acceptRanges",Go.Proofs.YtgcccllpegilnaaGreatDoor.Rows.laid_unicode_utf8_acceptRanges),("unicode/utf8.first",Go.Proofs.YtgcccllpegilnaaGreatDoor.Rows.laid_unicode_utf8_first)]
theorem Bc5{W:World}(hL:laidMetH Tryz.prog U2 W):Amb.p (K5 W):=by
 rw[MakeChecks.laidMetH_plain _ _ _ (by kernel_rfl)]at hL
 have hT:Lib.Utf8Tabs 0 1 W:=utf8Tabs_of_readsT {t5:=Axy.t5,t119:=Axy.t119,t138:=Axy.t138,t139:=Axy.t139} ⟨by kernel_rfl,by kernel_rfl,by kernel_rfl,by kernel_rfl,by kernel_rfl,by kernel_rfl,by kernel_rfl⟩
  (A69 ▸ Lib.laidMet.reads hL (.tail _ (.head _))) (A27 ▸ Lib.laidMet.reads hL (.head _))
 exact fun w hw=>⟨fun c hc=>Ar5 hw (hT.1 c hc),fun i hi=>⟨Ar5 hw (hT.2 i hi).1,Ar5 hw (hT.2 i hi).2⟩⟩

open Go.Proofs Go.Lib
abbrev Bgg:Sh:=.st [.str,.int .i64,.int .i64]
abbrev Bgh:Sh:=.st [.str,.str,.str,.str,.sl 1 .str]
abbrev Bgf:Sh:=.st [.str,.str,.sl 4 A7x]
abbrev A1b:Sh:=.st [.int .i64,.sl 3 Bgg,.sl 5 Bgh,.sl 3 Bgf]
theorem Bdj{x:I}(h:Fits Bgg x):∃t:B7,x=t.Ae:=by
 obtain⟨_,rfl,x1,_,rfl,⟨v1,rfl⟩,x2,_,rfl,⟨v2,rfl,_⟩,x3,_,rfl,⟨v3,rfl,_⟩,rfl⟩:=h;exact⟨⟨v1,v2,v3⟩,rfl⟩
theorem Bdk{x:I}(h:Fits Bgh x):∃t:Bc,x=t.Ae:=by
 obtain⟨_,rfl,x1,_,rfl,⟨v1,rfl⟩,x2,_,rfl,⟨v2,rfl⟩,x3,_,rfl,⟨v3,rfl⟩,x4,_,rfl,⟨v4,rfl⟩,x5,_,rfl,⟨xs,rfl,h5⟩,rfl⟩:=h;obtain⟨l,rfl⟩:=Uu (sh:=.str) (f:=I.str) (fun x hx=>hx) xs h5
 exact⟨⟨v1,v2,v3,v4,l⟩,rfl⟩
theorem Bdi{x:I}(h:Fits Bgf x):∃t:Bh,x=t.Ae:=by
 obtain⟨_,rfl,x1,_,rfl,⟨v1,rfl⟩,x2,_,rfl,⟨v2,rfl⟩,x5,_,rfl,⟨xs,rfl,h5⟩,rfl⟩:=h;obtain⟨l,rfl⟩:=Uu (f:=Dg.Ae) (fun x hx=>Ax7 hx) xs h5
 exact⟨⟨v1,v2,l⟩,rfl⟩
theorem A9o{x:I}(h:Fits A1b x):∃r:A8, -9223372036854775808≤r.rev∧x=r.Ae:=by
 obtain⟨_,rfl,x1,_,rfl,⟨v1,rfl,hw⟩,x2,_,rfl,⟨xs,rfl,h2⟩,x3,_,rfl,⟨ys,rfl,h3⟩,x4,_,rfl,⟨zs,rfl,h4⟩,rfl⟩:=h;obtain⟨l2,rfl⟩:=Uu (f:=B7.Ae) (fun x hx=>Bdj hx) xs h2
 obtain⟨l3,rfl⟩:=Uu (f:=Bc.Ae) (fun x hx=>Bdk hx) ys h3
 obtain⟨l4,rfl⟩:=Uu (f:=Bh.Ae) (fun x hx=>Bdi hx) zs h4
 refine⟨⟨v1,l2,l3,l4⟩,?_,rfl⟩;simp[Lit.wf]at hw;rw[show IntKind.i64.min= -9223372036854775808 from rfl]at hw;exact hw.1

open Go.Proofs Go.Proofs.YtgcccllpegilnaaGreatDoor
open Go.ChangeShapes Go.WideShapes Go.ChangeAt Go.RowKit
theorem rollRights_own:ownKnob Tryz.prog.godebug=none:=by kernel_rfl
theorem rollRights_contract (H:Type) (enc:TypeId × Value→H) (W:World) (base:Nat) (args:Array Value) (ds gs:List (DataW H)) (before:List MemPlace)
 (Uy:∀(j:Nat) t v,Tryz.f6.params[j]?=some t→args[j]?=some v→Value.okWide Tryz.prog W .any base t v)
 (hW:DataW.Whole enc Tryz.prog Tryz.f6.params.toList Rows.rollRightsSpec.vars false W args.toList ds gs before) (hL:laidMetH Tryz.prog U2 W):
 Calls Tryz.prog 6 args W fun e W'=>∃v,e= .returned v∧Rows.rollRightsSpec.post enc Tryz.prog Tryz.f6 false true false false W args v W':=by
 have hW0:=hW
 obtain⟨p,q,hA,_⟩:=hW
 have ho:Ag7 Tryz.prog Tryz.f6.params.toList [A1b,A7w]=true:=by kernel_rfl
 obtain⟨xs,h1,h2,h3⟩:=Aik ho hA fun j t v a b=>Uy j t v (by simpa using a) (by simpa using b)
 obtain⟨x,_,rfl,hx,y,_,rfl,hy,rfl⟩:=h1
 obtain⟨r,hr,rfl⟩:=A9o hx
 obtain⟨c,rfl⟩:=Bdh hy
 refine(Bef h2 h3 (Arb r c hr) (Bc5 hL)).mono ?_
 rintro e W' ⟨rfl,hk,hos,Tj,_⟩
 refine⟨_,rfl,Beg (shs:=[A1b,A7w]) (tb:=4) rfl ?_ rfl Tryz.underlying4 ho hW0 hk hos Tj⟩
 intro ds hds
 match ds,hds with
 | [d0,d1],_=>rfl
theorem rollRights_lifted (os:Os) (started:os.Started) (H:Type) (enc:TypeId × Value→H):
 ReturnsInHanded {} Tryz.checked os 6 .any (fun w args=>(Rows.rollRightsSpec.pre enc Tryz.prog Tryz.f6 [] false w args∧laidMetH Tryz.prog U2 w)∧sizedMet enc Tryz.prog Tryz.f6 (OpenSpec.ofChange Rows.rollRightsSpec) false w args)
  (Rows.rollRightsSpec.post enc Tryz.prog Tryz.f6 false true false false):=by
 refine returnsInHanded_of_change_and (C:=Tryz.checked) (X:=fun w _=>laidMetH Tryz.prog U2 w) (fun _ _ _ hh h=>h.of_heap hh) rollRights_own started (by kernel_rfl) Tryz.func6
  (ChangeSpec.witness_shaped (enc:=enc) (C:=Tryz.checked) (os:=os) (X:=fun w _=>laidMetH Tryz.prog U2 w) false (World.laidAll Tryz.prog os U2) #[.agg #[.int .i64 0,.slice none 0 0,.slice none 0 0,.slice none 0 0],.agg #[.int .i64 0,.int .i64 0,.string .empty,.int .i64 0,.string .empty,.string .empty,.string .empty,.string .empty,.int .i64 0,.int .i64 0,.string .empty,.string .empty,.bool false,.bool false,.int .i64 0,.slice none 0 0,.slice none 0 0,.slice none 0 0]] 8 (World.laidAll_os _ _ _)
    (World.shaped_of_ZipB (by kernel_rfl) (by kernel_rfl)) (by kernel_rfl) (by kernel_rfl) (by kernel_rfl)
    (by rw[MakeChecks.laidMetH_plain _ _ _ (by kernel_rfl)];exact laidMet_laidAll _ (by kernel_rfl) (by kernel_rfl))) ?_
 intro W base args ds gs before Bk2 hW _ Bk hL _
 exact rollRights_contract H enc W base args ds gs before Bk2 hW hL
theorem rollRights_over:Rows.RollRightsSaid:=
 OpenClaim.holds_of_wide 6 Tryz.f6 rfl rfl rfl rfl rfl rfl rfl ⟨rfl,rfl,rfl,rfl,rfl⟩ rfl rfl rfl rfl rfl (by kernel_rfl) Tryz.func6 (by kernel_rfl)
  (of_decide_eq_true (by kernel_rfl)) (by unfold Func.isWrapper;first|(rw[if_pos (by decide+kernel)];kernel_rfl)|(rw[if_neg (by decide+kernel)];exact⟨rfl,rfl⟩))
  (fun os started H enc _=>rollRights_lifted os started H enc)
theorem rollRights_card:Rows.RollRightsCardSaid:=
 Claim7.holds_tied_plain_at .later [] [.data,.pinned] true (true, "82cb678b3ad9d72f9d391f7f2f2e26c6c8e093bfd1a01d69efcc491eb36817c7") false rollRights_over (fun _ h=>by cases h) (by kernel_rfl) (fun _ h=>by cases h) rollRights_row_tie rfl ⟨rfl,rfl⟩ (by kernel_rfl) rfl
  (fun f fn hf Pm=>by
    obtain rfl:f=6:=Option.some.inj ((show Tryz.prog.funcNamed "exchequer/exchequerlaw15.RollRights" =some 6 by kernel_rfl).symm.trans hf) |>.symm
    obtain rfl:fn=Tryz.f6:=(Option.some.inj (Tryz.func6.symm.trans Pm)).symm
    exact⟨by kernel_rfl,fun j t ht=>by
     rw[Tryz.params6]at ht
     have hm:t∈[29,40]:=by simpa using Array.mem_of_getElem? ht
     have G8:([29,40].all fun u=> !Tryz.prog.wantsStandIn u)=true:=by kernel_rfl
     exact(show Tryz.prog.wantsStandIn t=false by simpa using List.all_eq_true.1 G8 t hm)⟩)
  (by kernel_rfl)
end Go.Ab
namespace Go.Proofs.YtgcccllpegilnaaGreatDoor
theorem rollRights_holds:Rows.RollRightsCardSaid:=Go.Ab.rollRights_card
end Go.Proofs.YtgcccllpegilnaaGreatDoor
