/- The law RollStays returns true for every two lists of requests, as the tied card says: what Do makes of a roll changes nothing of that, nor do later ones. Conditions: those of the given card alone. -/
import Derived.Test.YtgcccllpegilnaaGreatDoorAb24b
import Derived.Test.YtgcccllpegilnaaGreatDoorRows
import Derived.Lib.LaidU8T
import Derived.PinnedBridge
import Derived.LaidOnce
import Derived.LaidMore
import Derived.Test.YtgcccllpegilnaaGreatDoorCards
import Derived.Test.YtgcccllpegilnaaGreatDoorTie
import Derived.Test.YtgcccllpegilnaaGreatDoorChecked
import Derived.JoinedCond
import Derived.Lay
import Derived.SevenTiedAt
set_option linter.unusedVariables false
set_option linter.unusedSimpArgs false
set_option maxRecDepth 100000
set_option maxHeartbeats 4000000
namespace Go.Ab
open Go.Proofs Go.Lib
abbrev shSp:Sh:=.st [.str,.str]
abbrev A7x:Sh:=.st [shSp,.bool,.bool]
abbrev Bmb:Sh:=.st [.str,.int .i64,.int .i64,.str]
abbrev shDo:Sh:=.st [.int .i64,shSp,.str,.str,.int .i64,.int .i64]
abbrev A7w:Sh:=.st [.int .i64,.int .i64,.str,.int .i64,.str,.str,.str,.str,.int .i64,.int .i64,A7x,.int .i64,.sl 4 Bmb,.sl 7 shDo,.sl 7 shDo]
abbrev Ay:Sh:=.sl 18 A7w
theorem Bgw {x:I} (h:Fits shSp x):∃s:Sp,x=s.toI:=by
 obtain⟨_,rfl,a,_,rfl,⟨f,rfl⟩,b,_,rfl,⟨t,rfl⟩,rfl⟩:=h
 exact⟨⟨f,t⟩,rfl⟩
theorem Uu {α:Type} {sh:Sh} {sz:Nat} {f:α→I} (hf:∀x,Fits sh x→∃a,x=f a):∀xs:List I,(∀y∈xs,Fits sh y∧y.size=sz)→∃l:List α,xs=l.map f
 | [],_=>⟨[],rfl⟩
 |y::ys,h=>by
  obtain⟨l,rfl⟩:=Uu hf ys fun z hz=>h z (List.mem_cons_of_mem _ hz)
  obtain⟨s,rfl⟩:=hf y (h y (List.mem_cons_self ..)).1
  exact⟨s::l,rfl⟩
theorem Ax7 {x:I} (h:Fits A7x x):∃g:Gra,x=g.toI:=by
 obtain⟨_,rfl,a,_,rfl,h1,b,_,rfl,⟨r,rfl⟩,c,_,rfl,⟨w,rfl⟩,rfl⟩:=h
 obtain⟨s,rfl⟩:=Bgw h1
 exact⟨⟨s,r,w⟩,rfl⟩
theorem Bdh {x:I} (h:Fits A7w x):∃c:Cmd,x=c.toI:=by
 obtain⟨_,rfl,x1,_,rfl,⟨v1,rfl,_⟩,x2,_,rfl,⟨v2,rfl,_⟩,x3,_,rfl,⟨v3,rfl⟩,x4,_,rfl,⟨v4,rfl,_⟩,x5,_,rfl,⟨v5,rfl⟩,x6,_,rfl,⟨v6,rfl⟩,x7,_,rfl,⟨v7,rfl⟩,x8,_,rfl,⟨v8,rfl⟩,
  x9,_,rfl,⟨v9,rfl,_⟩,x10,_,rfl,⟨v10,rfl,_⟩,x11,_,rfl,h11,x12,_,rfl,⟨v12,rfl,_⟩,x13,_,rfl,⟨v13,rfl,_⟩,x14,_,rfl,⟨v14,rfl,_⟩,x15,_,rfl,⟨v15,rfl,_⟩,rfl⟩:=h
 obtain⟨g,rfl⟩:=Ax7 h11
 exact⟨⟨v1,v2,v3,v4,v5,v6,v7,v8,v9,v10,g,v12,v13,v14,v15⟩,rfl⟩
theorem A4 {x:I} (h:Fits Ay x):∃l:List Cmd,x= .list (l.map Cmd.toI):=by
 obtain⟨xs,rfl,h⟩:=h
 obtain⟨l,rfl⟩:=Uu (f:=Cmd.toI) (fun x hx=>Bdh hx) xs h
 exact⟨l,rfl⟩
theorem A5 {G:Mem} {l:List I} {v:Value} (h:RepV G (.list l) v):l.length≤maxLen:=by
 unfold RepV at h
 rw[if_neg (by simp[I.isAgg])]at h
 simp only[RepI]at h
 obtain⟨a,cap,_,h2,h3,_⟩:=h
 omega
theorem Ar5 {W w:World} (hw:∀b o,K5 W b=some o→w.heap[b]?=some o) {a:Addr} {v:Value} (h:W.cell? a=some v):w.cell? a=some v:=by
 unfold World.cell? at h ⊢
 cases hb:W.heap[a.block]? with
 |none=>rw[hb]at h;cases h
 |some o=>rw[hw a.block o hb, ←hb];exact h
theorem A69:Go.Proofs.YtgcccllpegilnaaGreatDoor.Rows.laid_unicode_utf8_first=firstData:=Pinned.utf8First_eq
theorem A27:(Go.Proofs.YtgcccllpegilnaaGreatDoor.Rows.laid_unicode_utf8_acceptRanges:DataW Unit)=acceptData:=by kernel_rfl
abbrev U2:List (String × DataW Unit):=[("unicode/utf8.acceptRanges",Go.Proofs.YtgcccllpegilnaaGreatDoor.Rows.laid_unicode_utf8_acceptRanges),("unicode/utf8.first",Go.Proofs.YtgcccllpegilnaaGreatDoor.Rows.laid_unicode_utf8_first)]
theorem Bc5 {W:World} (hL:laidMetH Tryz.prog U2 W):Amb.p (K5 W):=by
 rw[MakeChecks.laidMetH_plain _ _ _ (by kernel_rfl)]at hL
 have hT:Lib.Utf8Tabs 0 1 W:=utf8Tabs_of_readsT {t5:=decL.t5,t119:=decL.t119,t138:=decL.t138,t139:=decL.t139} ⟨by kernel_rfl,by kernel_rfl,by kernel_rfl,by kernel_rfl,by kernel_rfl,by kernel_rfl,by kernel_rfl⟩
  (A69 ▸ Lib.laidMet.reads hL (.tail _ (.head _))) (A27 ▸ Lib.laidMet.reads hL (.head _))
 exact fun w hw=>⟨fun c hc=>Ar5 hw (hT.1 c hc),fun i hi=>⟨Ar5 hw (hT.2 i hi).1,Ar5 hw (hT.2 i hi).2⟩⟩

open Go.Proofs Go.Proofs.YtgcccllpegilnaaGreatDoor
open Go.ChangeShapes Go.WideShapes Go.ChangeAt Go.RowKit
theorem rollStays_own:ownKnob Tryz.prog.godebug=none:=by kernel_rfl
theorem rollStays_contract (H:Type) (enc:TypeId × Value→H) (W:World) (base:Nat) (args:Array Value) (ds gs:List (DataW H)) (before:List MemPlace)
 (hval:∀(j:Nat) t v,Tryz.f4.params[j]?=some t→args[j]?=some v→Value.okWide Tryz.prog W .any base t v)
 (hW:DataW.Whole enc Tryz.prog Tryz.f4.params.toList Rows.rollStaysSpec.vars false W args.toList ds gs before) (hL:laidMetH Tryz.prog U2 W):
 Calls Tryz.prog 4 args W fun e W'=>∃v,e= .returned v∧Rows.rollStaysSpec.post enc Tryz.prog Tryz.f4 false true false false W args v W':=by
 have hW0:=hW
 obtain⟨p,q,hA,_⟩:=hW
 have ho:oksT Tryz.prog Tryz.f4.params.toList [Ay,Ay]=true:=by kernel_rfl
 obtain⟨xs,h1,h2,h3⟩:=Aik ho hA fun j t v a b=>hval j t v (by simpa using a) (by simpa using b)
 obtain⟨x,_,rfl,hx,y,_,rfl,hy,rfl⟩:=h1
 obtain⟨l,rfl⟩:=A4 hx
 obtain⟨m,rfl⟩:=A4 hy
 obtain⟨v0,hv0⟩:∃v,args.toList[0]?=some v:=⟨_,List.getElem?_eq_getElem (by rw[←h2];simp)⟩
 have hb0:=A5 (h3 0 _ _ rfl hv0)
 rw[List.length_map]at hb0
 obtain⟨v1,hv1⟩:∃v,args.toList[1]?=some v:=⟨_,List.getElem?_eq_getElem (by rw[←h2];simp)⟩
 have hb1:=A5 (h3 1 _ _ rfl hv1)
 rw[List.length_map]at hb1
 refine(Bef h2 h3 (A3 l m hb0 hb1) (Bc5 hL)).mono ?_
 rintro e W' ⟨rfl,hk,hos,hout,_⟩
 refine⟨_,rfl,Beg (shs:=[Ay,Ay]) (tb:=4) rfl ?_ rfl Tryz.underlying4 ho hW0 hk hos hout⟩
 intro ds hds
 match ds,hds with
 | [d0,d1],_=>rfl
theorem rollStays_lifted (os:Os) (started:os.Started) (H:Type) (enc:TypeId × Value→H):
 ReturnsInHanded {} Tryz.checked os 4 .any (fun w args=>(Rows.rollStaysSpec.pre enc Tryz.prog Tryz.f4 [] false w args∧laidMetH Tryz.prog U2 w)∧sizedMet enc Tryz.prog Tryz.f4 (OpenSpec.ofChange Rows.rollStaysSpec) false w args)
  (Rows.rollStaysSpec.post enc Tryz.prog Tryz.f4 false true false false):=by
 refine returnsInHanded_of_change_and (C:=Tryz.checked) (X:=fun w _=>laidMetH Tryz.prog U2 w) (fun _ _ _ hh h=>h.of_heap hh) rollStays_own started (by kernel_rfl) Tryz.func4
  (ChangeSpec.witness_shaped (enc:=enc) (C:=Tryz.checked) (os:=os) (X:=fun w _=>laidMetH Tryz.prog U2 w) false (World.laidAll Tryz.prog os U2) #[.slice none 0 0,.slice none 0 0] 8 (World.laidAll_os _ _ _)
    (World.shaped_of_ZipB (by kernel_rfl) (by kernel_rfl)) (by kernel_rfl) (by kernel_rfl) (by kernel_rfl)
    (by rw[MakeChecks.laidMetH_plain _ _ _ (by kernel_rfl)];exact laidMet_laidAll _ (by kernel_rfl) (by kernel_rfl))) ?_
 intro W base args ds gs before hval0 hW _ hsz hL _
 exact rollStays_contract H enc W base args ds gs before hval0 hW hL
theorem rollStays_over:Rows.RollStaysSaid:=
 OpenClaim.holds_of_wide 4 Tryz.f4 rfl rfl rfl rfl rfl rfl rfl ⟨rfl,rfl,rfl,rfl,rfl⟩ rfl rfl rfl rfl rfl (by kernel_rfl) Tryz.func4 (by kernel_rfl)
  (of_decide_eq_true (by kernel_rfl)) (by unfold Func.isWrapper;first|(rw[if_pos (by decide+kernel)];kernel_rfl)|(rw[if_neg (by decide+kernel)];exact⟨rfl,rfl⟩))
  (fun os started H enc _=>rollStays_lifted os started H enc)
theorem rollStays_card:Rows.RollStaysCardSaid:=
 Claim7.holds_tied_plain_at .later [] [.data,.pinned] true (true, "82cb678b3ad9d72f9d391f7f2f2e26c6c8e093bfd1a01d69efcc491eb36817c7") false rollStays_over (fun _ h=>by cases h) (by kernel_rfl) (fun _ h=>by cases h) rollStays_row_tie rfl ⟨rfl,rfl⟩ (by kernel_rfl) rfl
  (fun f fn hf hfn=>by
    obtain rfl:f=4:=Option.some.inj ((show Tryz.prog.funcNamed "exchequer/exchequerlaw15.RollStays" =some 4 by kernel_rfl).symm.trans hf) |>.symm
    obtain rfl:fn=Tryz.f4:=(Option.some.inj (Tryz.func4.symm.trans hfn)).symm
    exact⟨by kernel_rfl,fun j t ht=>by
     rw[Tryz.params4]at ht
     have hm:t∈[22,22]:=by simpa using Array.mem_of_getElem? ht
     have hall:([22,22].all fun u=> !Tryz.prog.wantsStandIn u)=true:=by kernel_rfl
     exact(show Tryz.prog.wantsStandIn t=false by simpa using List.all_eq_true.1 hall t hm)⟩)
  (by kernel_rfl)
end Go.Ab
namespace Go.Proofs.YtgcccllpegilnaaGreatDoor
theorem rollStays_holds:Rows.RollStaysCardSaid:=Go.Ab.rollStays_card
end Go.Proofs.YtgcccllpegilnaaGreatDoor
