/- Lemmas -/
import Derived.Test.YtkpojedpcabojaaDoorAb24
import Derived.SizedLaws
import Derived.Test.YtkpojedpcabojaaDoorRows
import Derived.Lib.LaidU8T
import Derived.PinnedBridge
import Derived.LaidOnce
import Derived.LaidMore
import Derived.Test.YtkpojedpcabojaaDoorCards
import Derived.Test.YtkpojedpcabojaaDoorTie
import Derived.Test.YtkpojedpcabojaaDoorChecked
import Derived.JoinedCond
import Derived.Lay
import Derived.SevenTiedAt
set_option linter.unusedVariables false
set_option linter.unusedSimpArgs false
namespace Go.Ab
open Go.ChangeShapes Go.Deep Go.WideShapes Go.ChangeAt Go.RowKit
section
variable{H:Type}{enc:TypeId × Value → H}{P:Program}{W:World}
theorem mapM_length{α β:Type}{f:α→Option β}:∀{l:List α} {xs:List β},l.mapM f=some xs→xs.length=l.length
 | [],xs,h=>by simp at h;subst h;rfl
 |a::l,xs,h=>by
  rw[List.mapM_cons]at h;cases hf:f a with
  |none=>simp[hf]at h
  |some y=>
   cases hl:l.mapM f with
   |none=>simp[hf,hl]at h
   |some ys=>
    simp[hf,hl]at h;subst h;simp[mapM_length hl]
theorem Zc{b:Nat}{sp:Nat→Bool}{held:Bool}{fuel:Nat}{t e:TypeId}{a:Option Addr}{len cap:Nat}{x:DataW H × List MemPlace}(hu:P.underlying t=some (.slice e))
 (h:DataW.trod enc P W b sp held fuel t [.slice a len cap]=some x):len=0∨∃n∈x.1.weights P t,len*P.bytesOf e≤n:=by
 cases fuel with
 |zero=>simp[DataW.trod]at h
 |succ fuel=>
  cases a with
  |none=>
   cases len with
   |zero=>exact .inl rfl
   |succ n=>simp[DataW.trod,hu]at h
  |some a=>
   right;simp only[DataW.trod,hu]at h;split at h
   ·simp only[Option.bind_eq_some_iff,Option.map_eq_some_iff]at h;obtain⟨es,h1,rest,h2,rfl⟩:=h;refine⟨(es.length+rest.length)*P.bytesOf e,by simp[DataW.weights,hu],Nat.mul_le_mul_right _ ?_⟩
    have:=mapM_length h1;simp at this;omega
   ·cases h
theorem Tq{sp:Nat→Bool}{G:Mem}{e:TypeId}{l:List I}:∀{j:Nat} {ts more:List TypeId} {vs:List Value} {ds gs:List (DataW H)} {p:List MemPlace} {t:TypeId} {v:Value},
 DataW.TrodAll enc P W 0 sp true ts vs ds p→(DataW.weightsEach P (ts++more) (ds++gs)).all (· ≤reachBytes)=true→ts[j]?=some t→P.underlying t=some (.slice e)→vs[j]?=some v→RepV G (.list l) v→
 l.length*P.bytesOf e≤reachBytes
 |j,[],more,vs,ds,gs,p,t,v,hA,hw,ht,hu,hv,hr=>by simp at ht
 |j,t0::ts,more,[],ds,gs,p,t,v,hA,hw,ht,hu,hv,hr=>by simp at hv
 |j,t0::ts,more,v0::vs,[],gs,p,t,v,hA,hw,ht,hu,hv,hr=>by simp[DataW.TrodAll]at hA
 |0,t0::ts,more,v0::vs,d::ds,gs,p,t,v,hA,hw,ht,hu,hv,hr=>by
  simp only[List.getElem?_cons_zero,Option.some.injEq]at ht hv;subst ht hv;obtain⟨q1,q2,⟨fuel,hd⟩,_,_⟩:=hA;obtain⟨ad,cap,rfl,_⟩:=RepV.list.1 hr;rcases Zc hu hd with h0|⟨n,hn,hle⟩
  ·rw[h0,Nat.zero_mul];exact Nat.zero_le _
  ·simp only[List.cons_append,DataW.weightsEach,List.all_append,Bool.and_eq_true,List.all_eq_true,decide_eq_true_eq]at hw;exact Nat.le_trans hle (hw.1 n hn)
 |j+1,t0::ts,more,v0::vs,d::ds,gs,p,t,v,hA,hw,ht,hu,hv,hr=>by
  simp only[List.getElem?_cons_succ]at ht hv;obtain⟨q1,q2,_,hA',_⟩:=hA;simp only[List.cons_append,DataW.weightsEach,List.all_append,Bool.and_eq_true]at hw;exact Tq hA' hw.2 ht hu hv hr
end
set_option maxRecDepth 100000
set_option maxHeartbeats 4000000

open Go.Proofs Go.Lib
abbrev Ajp:Sh:=.st [.str,.str,.bool]
theorem Ahq{α:Type}{sh:Sh}{sz:Nat}{f:α→I}(hf:∀x,Fits sh x→∃a,x=f a):∀xs:List I,(∀y∈xs,Fits sh y∧y.size=sz)→∃l:List α,xs=l.map f
 | [],_=>⟨[],rfl⟩
 |y::ys,h=>by
  obtain⟨l,rfl⟩:=Ahq hf ys fun z hz=>h z (List.mem_cons_of_mem _ hz)
  obtain⟨s,rfl⟩:=hf y (h y (List.mem_cons_self ..)).1;exact⟨s::l,rfl⟩
theorem R8{W w:World}(hw:∀b o,De W b=some o→w.heap[b]?=some o){a:Addr}{v:Value}(h:W.cell? a=some v):w.cell? a=some v:=by
 unfold World.cell? at h ⊢;cases hb:W.heap[a.block]? with
 |none=>rw[hb]at h;cases h
 |some o=>rw[hw a.block o hb, ←hb];exact h
theorem Zt:Go.Proofs.YtkpojedpcabojaaDoor.Rows.laid_unicode_utf8_first=firstData:=Pinned.utf8First_eq
theorem Xk:(Go.Proofs.YtkpojedpcabojaaDoor.Rows.laid_unicode_utf8_acceptRanges:DataW Unit)=acceptData:=by kernel_rfl
abbrev F8:List (String × DataW Unit):=[("unicode/utf8.acceptRanges",Go.Proofs.YtkpojedpcabojaaDoor.Rows.laid_unicode_utf8_acceptRanges),("unicode/utf8.first",Go.Proofs.YtkpojedpcabojaaDoor.Rows.laid_unicode_utf8_first)]
theorem Adk{W:World}(hL:laidMetH Tryd.prog F8 W):Amb.p (De W):=by
 rw[MakeChecks.laidMetH_plain _ _ _ (by kernel_rfl)]at hL
 have hT:Lib.Utf8Tabs 0 1 W:=utf8Tabs_of_readsT {t5:=decL.t5,t119:=decL.t119,t138:=decL.t138,t139:=decL.t139} ⟨by kernel_rfl,by kernel_rfl,by kernel_rfl,by kernel_rfl,by kernel_rfl,by kernel_rfl,by kernel_rfl⟩
  (Zt ▸ Lib.laidMet.reads hL (.tail _ (.head _))) (Xk ▸ Lib.laidMet.reads hL (.head _))
 exact fun w hw=>⟨fun c hc=>R8 hw (hT.1 c hc),fun i hi=>⟨R8 hw (hT.2 i hi).1,R8 hw (hT.2 i hi).2⟩⟩

theorem Ajj{x:I}(h:Fits Ajp x):∃c:Chg,x=c.toI:=by
 obtain⟨_,rfl,a,_,rfl,⟨k,rfl⟩,b,_,rfl,⟨v,rfl⟩,c,_,rfl,⟨g,rfl⟩,rfl⟩:=h;exact⟨⟨k,v,g⟩,rfl⟩

theorem Wi{x:I}(h:Fits (.sl 3 Ajp) x):∃l:List Chg,x= .list (l.map Chg.toI):=by
 obtain⟨xs,rfl,hxs⟩:=h;obtain⟨l,rfl⟩:=Ahq (fun x hx=>Ajj hx) xs hxs
 exact⟨l,rfl⟩
theorem Ym{x:I}(h:Fits (.sl 1 (.sl 3 Ajp)) x):∃w:List (List Chg),x= .list (w.map fun l=>I.list (l.map Chg.toI)):=by
 obtain⟨xs,rfl,hxs⟩:=h;obtain⟨l,rfl⟩:=Ahq (f:=fun l:List Chg=>I.list (l.map Chg.toI)) (fun x hx=>Wi hx) xs hxs
 exact⟨l,rfl⟩
abbrev Vx:Sh:=.st [.str,.int .i64,.int .i64]
theorem Xv{x:I}(h:Fits Vx x):∃(n:Az) (b k:Int),x= .agg [.str n,ti b,ti k]:=by
 obtain⟨_,rfl,a,_,rfl,⟨f,rfl⟩,b,_,rfl,⟨t,rfl,_⟩,c,_,rfl,⟨u,rfl,_⟩,rfl⟩:=h;exact⟨f,t,u,rfl⟩

open Go.Proofs Go.Proofs.YtkpojedpcabojaaDoor
open Go.ChangeShapes Go.WideShapes Go.ChangeAt Go.RowKit
theorem Aix:ownKnob Tryd.prog.godebug=none:=by kernel_rfl
theorem Agr(H:Type)(enc:TypeId × Value→H)(W:World)(base:Nat)(args:Array Value)(ds gs:List (DataW H))(before:List MemPlace)
 (hval:∀(j:Nat) t v,Tryd.f9.params[j]?=some t→args[j]?=some v→Value.okWide Tryd.prog W .any base t v)
 (hW:DataW.Whole enc Tryd.prog Tryd.f9.params.toList Rows.quotaFitsSpec.vars false W args.toList ds gs before) (hsz:(DataW.weightsEach Tryd.prog (Tryd.f9.params.toList++Rows.quotaFitsSpec.plain.varTypes Tryd.prog) (ds++gs)).all (· ≤reachBytes)=true) (hL:laidMetH Tryd.prog F8 W):
 Calls Tryd.prog 9 args W fun e W'=>∃v,e= .returned v∧Rows.quotaFitsSpec.post enc Tryd.prog Tryd.f9 false true false false W args v W':=by
 have hW0:=hW;obtain⟨p,q,hA,_⟩:=hW;have ho:oksT Tryd.prog Tryd.f9.params.toList [.sl 1 (.sl 3 Ajp),.sl 3 Ajp,Vx]=true:=by kernel_rfl
 obtain⟨xs,h1,h2,h3⟩:=Me ho hA fun j t v a b=>hval j t v (by simpa using a) (by simpa using b)
 obtain⟨x,_,rfl,hx,y,_,rfl,hy,z,_,rfl,hz,rfl⟩:=h1;obtain⟨a,rfl⟩:=Ym hx;obtain⟨l,rfl⟩:=Wi hy;obtain⟨n,b,k,rfl⟩:=Xv hz;obtain⟨v0,hv0⟩:∃v,args.toList[0]?=some v:=⟨_,List.getElem?_eq_getElem (by rw[←h2];simp)⟩
 have hb:=Tq (j:=0) hA hsz (t:=22) rfl Tryd.underlying22 hv0 (h3 0 _ _ rfl hv0);rw[List.length_map,show Tryd.prog.bytesOf 31=24 by kernel_rfl]at hb
 have hb2:a.length*24≤140737488351232:=by unfold reachBytes at hb;omega
 refine(Ad2 h2 h3 (Amv a l n b k hb2) (Adk hL)).mono ?_;rintro e W' ⟨rfl,hk,hos,hout,_⟩;refine⟨_,rfl,Ad4 (shs:=[.sl 1 (.sl 3 Ajp),.sl 3 Ajp,Vx]) (tb:=4) rfl ?_ rfl Tryd.underlying4 ho hW0 hk hos hout⟩;intro ds hds
 match ds,hds with
 | [d0,d1,d2],_=>rfl
theorem Ahs(os:Os)(started:os.Started)(H:Type)(enc:TypeId × Value→H):
 ReturnsInHanded {} Tryd.checked os 9 .any (fun w args=>(Rows.quotaFitsSpec.pre enc Tryd.prog Tryd.f9 [] false w args∧laidMetH Tryd.prog F8 w)∧sizedMet enc Tryd.prog Tryd.f9 (OpenSpec.ofChange Rows.quotaFitsSpec) false w args)
  (Rows.quotaFitsSpec.post enc Tryd.prog Tryd.f9 false true false false):=by
 refine returnsInHanded_of_change_and (C:=Tryd.checked) (X:=fun w _=>laidMetH Tryd.prog F8 w) (fun _ _ _ hh h=>h.of_heap hh) Aix started (by kernel_rfl) Tryd.func9
  (ChangeSpec.witness_shaped (enc:=enc) (C:=Tryd.checked) (os:=os) (X:=fun w _=>laidMetH Tryd.prog F8 w) false (World.laidAll Tryd.prog os F8) #[.slice none 0 0,.slice none 0 0,.agg #[.string ⟨#[]⟩,.int .i64 0,.int .i64 0]] 8 (World.laidAll_os _ _ _)
    (World.shaped_of_ZipB (by kernel_rfl) (by kernel_rfl)) (by kernel_rfl) (by kernel_rfl) (by kernel_rfl)
    (by rw[MakeChecks.laidMetH_plain _ _ _ (by kernel_rfl)];exact laidMet_laidAll _ (by kernel_rfl) (by kernel_rfl))) ?_
 intro W base args ds gs before hval0 hW _ hsz hL _;exact Agr H enc W base args ds gs before hval0 hW hsz hL
theorem Aih:Rows.QuotaFitsSaid:=
 OpenClaim.holds_of_wide 9 Tryd.f9 rfl rfl rfl rfl rfl rfl rfl ⟨rfl,rfl,rfl,rfl,rfl⟩ rfl rfl rfl rfl rfl (by kernel_rfl) Tryd.func9 (by kernel_rfl)
  (of_decide_eq_true (by kernel_rfl)) (by unfold Func.isWrapper;first|(rw[if_pos (by decide+kernel)];kernel_rfl)|(rw[if_neg (by decide+kernel)];exact⟨rfl,rfl⟩))
  (fun os started H enc _=>Ahs os started H enc)
end Go.Ab
