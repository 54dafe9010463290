/- Lemmas -/
import Derived.Test.YtgcccllpegilnaaGreatDoorNF
import Derived.Test.YtgcccllpegilnaaGreatDoorN1
import Derived.Shelf.Unicode.DecodeAny
set_option linter.unusedVariables false
set_option linter.unusedSimpArgs false
set_option maxRecDepth 100000
namespace Go.Ab
open Go.Proofs Go.Shelf
def Tr:Ren:=⟨fun n=>if n=22 then 112 else if n=29 then 130 else if n=30 then 131 else n,fun n=>if n=9 then 52 else if n=24 then 25 else n,fun n=>n⟩
theorem A65:Aiw Tryz.prog Tr Tryz.t52 (Tryz.t52.zero.getD undef) where
 mixed:=by kernel_rfl
 f22:=⟨Tryz.f112.name,by kernel_rfl,by kernel_rfl⟩
 f29:=fun a w v h=>by
  rw[run_callFunc_extern (P:=Tryz.prog) (f:=Tr.f 29) (fn:=Tryz.f130) (e:=Extern.SlicesOverlaps.overlaps #[Tr.t 24,Tr.t 24] #[Tr.t 4]) (by kernel_rfl) (by kernel_rfl) (by kernel_rfl) (by kernel_rfl) (by kernel_rfl) a w,h]
  rfl
 t0:=by kernel_rfl
 a0:=fun _=>by kernel_rfl
 z0:=fun _=>by kernel_rfl
 v0:=fun _=>by kernel_rfl
 t3:=by kernel_rfl
 a3:=fun _=>by kernel_rfl
 z3:=fun _=>by kernel_rfl
 v3:=fun _=>by kernel_rfl
 t4:=by kernel_rfl
 a4:=fun _=>by kernel_rfl
 z4:=fun _=>by kernel_rfl
 v4:=fun _=>by kernel_rfl
 t24:=by kernel_rfl
 a24:=fun _=>by kernel_rfl
 z24:=fun _=>by kernel_rfl
 v24:=fun _=>by kernel_rfl
 z9:=fun _=>by kernel_rfl
 i9:=by kernel_rfl
 iz:=by kernel_rfl
 W6:=by kernel_rfl
 Ts:=by decide
 ib:=by decide
theorem Ati(l:List D)(x:D)(i:Nat)(hi:i≤l.length)(hl:l.length≤100000):Fn Tryz.prog Mt [.own [] (.vec Cc 3 l),.v (.int .i64 i),.own [] (.vec Cc 3 [x])] (Is (.own [] (.vec Cc 3 (l.take i++x::l.drop i))) [.no,.no,.no]):=
 Aqe A65 (by decide) l x i hi hl
def Zd:Ren:=⟨fun n=>if n=22 then 115 else if n=29 then 132 else if n=30 then 133 else n,fun n=>if n=9 then 43 else if n=24 then 26 else n,fun n=>n⟩
theorem Bea:Aiw Tryz.prog Zd Tryz.t43 (Tryz.t43.zero.getD undef) where
 mixed:=by kernel_rfl
 f22:=⟨Tryz.f115.name,by kernel_rfl,by kernel_rfl⟩
 f29:=fun a w v h=>by
  rw[run_callFunc_extern (P:=Tryz.prog) (f:=Zd.f 29) (fn:=Tryz.f132) (e:=Extern.SlicesOverlaps.overlaps #[Zd.t 24,Zd.t 24] #[Zd.t 4]) (by kernel_rfl) (by kernel_rfl) (by kernel_rfl) (by kernel_rfl) (by kernel_rfl) a w,h]
  rfl
 t0:=by kernel_rfl
 a0:=fun _=>by kernel_rfl
 z0:=fun _=>by kernel_rfl
 v0:=fun _=>by kernel_rfl
 t3:=by kernel_rfl
 a3:=fun _=>by kernel_rfl
 z3:=fun _=>by kernel_rfl
 v3:=fun _=>by kernel_rfl
 t4:=by kernel_rfl
 a4:=fun _=>by kernel_rfl
 z4:=fun _=>by kernel_rfl
 v4:=fun _=>by kernel_rfl
 t24:=by kernel_rfl
 a24:=fun _=>by kernel_rfl
 z24:=fun _=>by kernel_rfl
 v24:=fun _=>by kernel_rfl
 z9:=fun _=>by kernel_rfl
 i9:=by kernel_rfl
 iz:=by kernel_rfl
 W6:=by kernel_rfl
 Ts:=by decide
 ib:=by decide
theorem A16(l:List D)(x:D)(i:Nat)(hi:i≤l.length)(hl:l.length≤100000):Fn Tryz.prog Qn [.own [] (.vec B3 5 l),.v (.int .i64 i),.own [] (.vec B3 5 [x])] (Is (.own [] (.vec B3 5 (l.take i++x::l.drop i))) [.no,.no,.no]):=
 Aqe Bea (by decide) l x i hi hl
def Bdd:Ren:=⟨fun n=>if n=24 then 87 else n,fun n=>if n=9 then 43 else if n=24 then 26 else n,fun n=>n⟩
theorem Bdb:Axh Tryz.prog Bdd Tryz.t43 (Tryz.t43.zero.getD undef) where
 mixed:=by kernel_rfl
 f24:=⟨Tryz.f87.name,by kernel_rfl,by kernel_rfl⟩
 t0:=by kernel_rfl
 a0:=fun _=>by kernel_rfl
 z0:=fun _=>by kernel_rfl
 v0:=fun _=>by kernel_rfl
 t3:=by kernel_rfl
 a3:=fun _=>by kernel_rfl
 z3:=fun _=>by kernel_rfl
 v3:=fun _=>by kernel_rfl
 t4:=by kernel_rfl
 a4:=fun _=>by kernel_rfl
 z4:=fun _=>by kernel_rfl
 v4:=fun _=>by kernel_rfl
 t24:=by kernel_rfl
 a24:=fun _=>by kernel_rfl
 z24:=fun _=>by kernel_rfl
 v24:=fun _=>by kernel_rfl
 z9:=fun _=>by kernel_rfl
 v9:=fun _=>by kernel_rfl
 i9:=by kernel_rfl
 iz:=by kernel_rfl
 W6:=by kernel_rfl
 iz1:=by decide
 Ts:=by decide
theorem A1v(l:List D)(i:Nat)(hi:i<l.length)(hl:l.length≤100000):Fn Tryz.prog Qk [.own [] (.vec B3 5 l),.v (.int .i64 i),.v (.int .i64 ((i+1:Nat):Int))] (Is (.own [] (.vec B3 5 (l.take i++l.drop (i+1)))) [.no,.no,.no]):=
 Axz Bdb (by decide) l i hi hl
def Zc:Ren:=⟨fun n=>if n=22 then 122 else if n=29 then 135 else if n=30 then 136 else n,fun n=>if n=9 then 48 else if n=24 then 27 else n,fun n=>n⟩
theorem Bd9:Aiw Tryz.prog Zc Tryz.t48 (Tryz.t48.zero.getD undef) where
 mixed:=by kernel_rfl
 f22:=⟨Tryz.f122.name,by kernel_rfl,by kernel_rfl⟩
 f29:=fun a w v h=>by
  rw[run_callFunc_extern (P:=Tryz.prog) (f:=Zc.f 29) (fn:=Tryz.f135) (e:=Extern.SlicesOverlaps.overlaps #[Zc.t 24,Zc.t 24] #[Zc.t 4]) (by kernel_rfl) (by kernel_rfl) (by kernel_rfl) (by kernel_rfl) (by kernel_rfl) a w,h]
  rfl
 t0:=by kernel_rfl
 a0:=fun _=>by kernel_rfl
 z0:=fun _=>by kernel_rfl
 v0:=fun _=>by kernel_rfl
 t3:=by kernel_rfl
 a3:=fun _=>by kernel_rfl
 z3:=fun _=>by kernel_rfl
 v3:=fun _=>by kernel_rfl
 t4:=by kernel_rfl
 a4:=fun _=>by kernel_rfl
 z4:=fun _=>by kernel_rfl
 v4:=fun _=>by kernel_rfl
 t24:=by kernel_rfl
 a24:=fun _=>by kernel_rfl
 z24:=fun _=>by kernel_rfl
 v24:=fun _=>by kernel_rfl
 z9:=fun _=>by kernel_rfl
 i9:=by kernel_rfl
 iz:=by kernel_rfl
 W6:=by kernel_rfl
 Ts:=by decide
 ib:=by decide
theorem A15(l:List D)(x:D)(i:Nat)(hi:i≤l.length)(hl:l.length≤100000):Fn Tryz.prog Qm [.own [] (.vec B2 3 l),.v (.int .i64 i),.own [] (.vec B2 3 [x])] (Is (.own [] (.vec B2 3 (l.take i++x::l.drop i))) [.no,.no,.no]):=
 Aqe Bd9 (by decide) l x i hi hl
def Bdc:Ren:=⟨fun n=>if n=24 then 94 else n,fun n=>if n=9 then 48 else if n=24 then 27 else n,fun n=>n⟩
theorem Bda:Axh Tryz.prog Bdc Tryz.t48 (Tryz.t48.zero.getD undef) where
 mixed:=by kernel_rfl
 f24:=⟨Tryz.f94.name,by kernel_rfl,by kernel_rfl⟩
 t0:=by kernel_rfl
 a0:=fun _=>by kernel_rfl
 z0:=fun _=>by kernel_rfl
 v0:=fun _=>by kernel_rfl
 t3:=by kernel_rfl
 a3:=fun _=>by kernel_rfl
 z3:=fun _=>by kernel_rfl
 v3:=fun _=>by kernel_rfl
 t4:=by kernel_rfl
 a4:=fun _=>by kernel_rfl
 z4:=fun _=>by kernel_rfl
 v4:=fun _=>by kernel_rfl
 t24:=by kernel_rfl
 a24:=fun _=>by kernel_rfl
 z24:=fun _=>by kernel_rfl
 v24:=fun _=>by kernel_rfl
 z9:=fun _=>by kernel_rfl
 v9:=fun _=>by kernel_rfl
 i9:=by kernel_rfl
 iz:=by kernel_rfl
 W6:=by kernel_rfl
 iz1:=by decide
 Ts:=by decide
theorem A1u(l:List D)(i:Nat)(hi:i<l.length)(hl:l.length≤100000):Fn Tryz.prog Qj [.own [] (.vec B2 3 l),.v (.int .i64 i),.v (.int .i64 ((i+1:Nat):Int))] (Is (.own [] (.vec B2 3 (l.take i++l.drop (i+1)))) [.no,.no,.no]):=
 Axz Bda (by decide) l i hi hl
def Ae1:Ren:=⟨fun n=>if n=22 then 90 else if n=29 then 118 else if n=30 then 119 else n,fun n=>if n=9 then 9 else if n=24 then 41 else n,fun n=>n⟩
theorem Bhc:Aiw Tryz.prog Ae1 Tryz.t9 (Tryz.t9.zero.getD undef) where
 mixed:=by kernel_rfl
 f22:=⟨Tryz.f90.name,by kernel_rfl,by kernel_rfl⟩
 f29:=fun a w v h=>by
  rw[run_callFunc_extern (P:=Tryz.prog) (f:=Ae1.f 29) (fn:=Tryz.f118) (e:=Extern.SlicesOverlaps.overlaps #[Ae1.t 24,Ae1.t 24] #[Ae1.t 4]) (by kernel_rfl) (by kernel_rfl) (by kernel_rfl) (by kernel_rfl) (by kernel_rfl) a w,h]
  rfl
 t0:=by kernel_rfl
 a0:=fun _=>by kernel_rfl
 z0:=fun _=>by kernel_rfl
 v0:=fun _=>by kernel_rfl
 t3:=by kernel_rfl
 a3:=fun _=>by kernel_rfl
 z3:=fun _=>by kernel_rfl
 v3:=fun _=>by kernel_rfl
 t4:=by kernel_rfl
 a4:=fun _=>by kernel_rfl
 z4:=fun _=>by kernel_rfl
 v4:=fun _=>by kernel_rfl
 t24:=by kernel_rfl
 a24:=fun _=>by kernel_rfl
 z24:=fun _=>by kernel_rfl
 v24:=fun _=>by kernel_rfl
 z9:=fun _=>by kernel_rfl
 i9:=by kernel_rfl
 iz:=by kernel_rfl
 W6:=by kernel_rfl
 Ts:=by decide
 ib:=by decide
theorem A33(l:List D)(x:D)(i:Nat)(hi:i≤l.length)(hl:l.length≤100000):Fn Tryz.prog S4 [.own [] (.vec Em 1 l),.v (.int .i64 i),.own [] (.vec Em 1 [x])] (Is (.own [] (.vec Em 1 (l.take i++x::l.drop i))) [.no,.no,.no]):=
 Aqe Bhc (by decide) l x i hi hl
def Bgr:Ren:=⟨fun n=>if n=24 then 89 else n,fun n=>if n=9 then 9 else if n=24 then 41 else n,fun n=>n⟩
theorem Bgq:Axh Tryz.prog Bgr Tryz.t9 (Tryz.t9.zero.getD undef) where
 mixed:=by kernel_rfl
 f24:=⟨Tryz.f89.name,by kernel_rfl,by kernel_rfl⟩
 t0:=by kernel_rfl
 a0:=fun _=>by kernel_rfl
 z0:=fun _=>by kernel_rfl
 v0:=fun _=>by kernel_rfl
 t3:=by kernel_rfl
 a3:=fun _=>by kernel_rfl
 z3:=fun _=>by kernel_rfl
 v3:=fun _=>by kernel_rfl
 t4:=by kernel_rfl
 a4:=fun _=>by kernel_rfl
 z4:=fun _=>by kernel_rfl
 v4:=fun _=>by kernel_rfl
 t24:=by kernel_rfl
 a24:=fun _=>by kernel_rfl
 z24:=fun _=>by kernel_rfl
 v24:=fun _=>by kernel_rfl
 z9:=fun _=>by kernel_rfl
 v9:=fun _=>by kernel_rfl
 i9:=by kernel_rfl
 iz:=by kernel_rfl
 W6:=by kernel_rfl
 iz1:=by decide
 Ts:=by decide
theorem A3v(l:List D)(i:Nat)(hi:i<l.length)(hl:l.length≤100000):Fn Tryz.prog S3 [.own [] (.vec Em 1 l),.v (.int .i64 i),.v (.int .i64 ((i+1:Nat):Int))] (Is (.own [] (.vec Em 1 (l.take i++l.drop (i+1)))) [.no,.no,.no]):=
 Axz Bgq (by decide) l i hi hl
set_option maxHeartbeats 40000000

open Go.Proofs
def Ln{α:Type}(d:α→D)(i:α→I)(l:List α)(k:Nat):List D:=(l.take k).map d++(l.drop k).map fun x=>.it (i x)
theorem Aqu{α:Type}(d:α→D)(i:α→I)(l:List α):Ln d i l 0=(l.map i).map D.it:=by simp[Ln]
theorem Auj{α:Type}(d:α→D)(i:α→I)(l:List α):Ln d i l l.length=l.map d:=by simp[Ln]
theorem Aj8{α:Type}(d:α→D)(i:α→I)(l:List α)(k:Nat):(Ln d i l k).length=l.length:=by simp[Ln];omega
theorem Auk{α:Type}{d:α→D}{i:α→I}{l:List α}{k:Nat}{x:α}(h:l[k]?=some x):(Ln d i l k)[k]?=some (.it (i x)):=by
 have hk:=(List.getElem?_eq_some_iff.1 h).1;have:k - min k l.length=0:=by omega
 rw[Ln,List.getElem?_append_right (by simp;omega)]
 simp[h,this]
theorem Aum{α:Type}{d:α→D}{i:α→I}{l:List α}{k:Nat}{x:α}(h:l[k]?=some x):(Ln d i l k).set k (d x)=Ln d i l (k+1):=by
 have hk:=(List.getElem?_eq_some_iff.1 h).1;have hx:=(List.getElem?_eq_some_iff.1 h).2;have h0:k - min k l.length=0:=by omega
 rw[Ln,Ln,List.set_append_right _ _ (by simp;omega),List.take_add_one,h,List.drop_eq_getElem_cons hk,hx]
 simp[h0]
theorem A1t(r:A8)(hs:r.Small):Fn Tryz.prog Axc [.v r.Ae] (Is (.own [] r.A6) [.no]):=by
 refine Asz ?_ (by simp)
 obtain⟨b1,b2,b3,b4,b5⟩:=hs;repeat'((conv=>whnf);first|(refine eI ?_ ?_;focus (and_intros<;>first|omega|exact rfl|(intro _ hh;cases hh;done)|(simp;done)|decide))|(intro Aa)|(refine Ac.mk ⟨_,(Aok _ (size_map (fun _=>rfl)) (by simp;omega)),?_⟩;rintro _ _ ⟨rfl,rfl⟩)|(refine Ac.mk ⟨_,(Ate _ (size_map (fun _=>rfl)) (by simp;omega)),?_⟩;rintro _ _ ⟨rfl,rfl⟩))
 all_goals(try(conv=>whnf))
 refine Bq.by (X:=Nat) (fun k=>[(1,.own [] (.ptr (.st [.it (.int .i64 r.rev),.vec Cc 3 ((r.Be.map B7.Ae).map D.it),.vec B3 5 (Ln Bc.A6 Bc.Ae r.Ag k),.it (.list (r.Am.map Bh.Ae))]))),(16,.v (.int .i64 k))]) (fun k=>k≤r.Ag.length) (fun k=>r.Ag.length - k)
  0 (by rw[Aqu];kernel_rfl) (by omega) ?_
 intro k hk;by_cases Ce:k<r.Ag.length
 case pos=>
  obtain⟨u,hu⟩:∃u,r.Ag[k]?=some u:=⟨_,List.getElem?_eq_getElem Ce⟩;have hpg:=Auk (d:=Bc.A6) (i:=Bc.Ae) hu;have W3:=Aum (d:=Bc.A6) (i:=Bc.Ae) hu;have Hz:=Aj8 Bc.A6 Bc.Ae r.Ag k;obtain⟨L,hL⟩:∃L,L=Ln Bc.A6 Bc.Ae r.Ag k:=⟨_,rfl⟩;rw[←hL]at hpg W3 Hz ⊢;have Bb:¬decide ((k:Int)<((List.map D.it (List.map Bc.Ae r.Ag)).length:Int))=false:=by simp[Ce]
  repeat'((conv=>whnf);first|(apply aI<;>intro hb<;>first|exact absurd hb (by assumption)|((try rw[hb]);(try simp only[Ad]at hb)))|(refine eI ?_ ?_;focus (and_intros<;>first|omega|exact rfl|(intro _ hh;cases hh;done)|(simp;done)|decide))|((with_reducible apply A5.B5);(focus kernel_rfl);intro Aa;(try simp only[dRS]at Aa))|(refine Aj.mk ⟨_,_,Aif u.A2 (by have:=b4 u (List.mem_of_getElem? hu);omega),?_⟩)|((first|with_reducible apply Lr|((with_reducible apply D9);(focus rfl)));(focus (simp only[D.at,D.put,D.Dj,D.Db,List.cons_append,List.nil_append,List.append,List.getElem?_cons_zero,List.getElem?_cons_succ,Int.toNat_natCast,List.getElem?_set_self',Option.map_eq_map,Option.map_some,List.set_cons_zero,List.set_cons_succ,List.set_set,Function.const_apply,List.map_cons,List.map_nil,Cu,Cn,D.Ae,Bx,Bn,List.getElem?_map,List.length_map,List.length_set,hpg]<;>exact rfl));(try(focus exact rfl))))
  all_goals(try(conv=>whnf))
  refine Round.by (k+1) ?_ (by omega) (by omega)
  rw[Ak Ce (by simp only[maxLen];omega), ←W3]
  show norm _ _=Bt _ _
  kernel_rfl
 have Bb:¬decide ((k:Int)<((List.map D.it (List.map Bc.Ae r.Ag)).length:Int))=true:=by simp;omega
 obtain rfl:k=r.Ag.length:=by omega
 rw[Auj];clear Bb hk Ce;have hcr:=Atd (r.Am.map Bh.Ae) (size_map (fun _=>rfl)) (by simp;omega)
 repeat'((conv=>whnf);first|(apply aI<;>intro hb<;>first|(exfalso;simp only[Az]at hb<;>omega)|((try rw[hb]);(try simp only[Ad]at hb)))|(refine eI ?_ ?_;focus (and_intros<;>first|omega|exact rfl|(intro _ hh;cases hh;done)|(simp;done)|decide))|(intro Aa)|(refine Ac.mk ⟨_,hcr,?_⟩;rintro _ _ ⟨rfl,rfl⟩))
 all_goals(try(conv=>whnf))
 refine Bq.by (X:=Nat) (fun k=>[(1,.own [] (.ptr (.st [.it (.int .i64 r.rev),.vec Cc 3 ((r.Be.map B7.Ae).map D.it),.vec B3 5 (r.Ag.map Bc.A6),.vec B2 3 (Ln Bh.A6 Bh.Ae r.Am k)]))),(39,.v (.int .i64 k))]) (fun k=>k≤r.Am.length) (fun k=>r.Am.length - k)
  0 (by rw[Aqu];kernel_rfl) (by omega) ?_
 intro k hk;by_cases Ce:k<r.Am.length
 case pos=>
  obtain⟨u,hu⟩:∃u,r.Am[k]?=some u:=⟨_,List.getElem?_eq_getElem Ce⟩;have hpg:=Auk (d:=Bh.A6) (i:=Bh.Ae) hu;have W3:=Aum (d:=Bh.A6) (i:=Bh.Ae) hu;have Hz:=Aj8 Bh.A6 Bh.Ae r.Am k;obtain⟨L,hL⟩:∃L,L=Ln Bh.A6 Bh.Ae r.Am k:=⟨_,rfl⟩;rw[←hL]at hpg W3 Hz ⊢;have Bb:¬decide ((k:Int)<((List.map D.it (List.map Bh.Ae r.Am)).length:Int))=false:=by simp[Ce]
  repeat'((conv=>whnf);first|(apply aI<;>intro hb<;>first|exact absurd hb (by assumption)|((try rw[hb]);(try simp only[Ad]at hb)))|(refine eI ?_ ?_;focus (and_intros<;>first|omega|exact rfl|(intro _ hh;cases hh;done)|(simp;done)|decide))|((with_reducible apply A5.B5);(focus kernel_rfl);intro Aa;(try simp only[dRS]at Aa))|(refine Aj.mk ⟨_,_,Aie u.A4 (by have:=b5 u (List.mem_of_getElem? hu);omega),?_⟩)|((first|with_reducible apply Lr|((with_reducible apply D9);(focus rfl)));(focus (simp only[D.at,D.put,D.Dj,D.Db,List.cons_append,List.nil_append,List.append,List.getElem?_cons_zero,List.getElem?_cons_succ,Int.toNat_natCast,List.getElem?_set_self',Option.map_eq_map,Option.map_some,List.set_cons_zero,List.set_cons_succ,List.set_set,Function.const_apply,List.map_cons,List.map_nil,Cu,Cn,D.Ae,Bx,Bn,List.getElem?_map,List.length_map,List.length_set,hpg]<;>exact rfl));(try(focus exact rfl))))
  all_goals(try(conv=>whnf))
  refine Round.by (k+1) ?_ (by omega) (by omega)
  rw[Ak Ce (by simp only[maxLen];omega), ←W3]
  show norm _ _=Bt _ _
  kernel_rfl
 have Bb:¬decide ((k:Int)<((List.map D.it (List.map Bh.Ae r.Am)).length:Int))=true:=by simp;omega
 obtain rfl:k=r.Am.length:=by omega
 rw[Auj];repeat'((conv=>whnf);first|(apply aI<;>intro hb<;>first|exact absurd hb (by assumption)|((try rw[hb]);(try simp only[Ad]at hb)))|(refine eI ?_ ?_;focus (and_intros<;>first|omega|exact rfl)))
 all_goals(try(conv=>whnf))
 (apply dK<;>kernel_rfl)
set_option maxHeartbeats 4000000

open Go.Proofs Go.Shelf
theorem Axy:Lays.n197 Tryz.prog ⟨fun n=>if n=197 then 126 else if n=260 then 142 else n,fun n=>if n=46 then 145 else if n=105 then 167 else if n=119 then 186 else if n=138 then 188 else if n=139 then 189 else n,fun n=>if n=3 then 0 else 1⟩ where
 mixed:=by kernel_rfl
 f197:=by kernel_rfl
 f260:=by kernel_rfl
 t0:=by kernel_rfl
 a0:=fun _=>by kernel_rfl
 z0:=fun _=>by kernel_rfl
 v0:=fun _=>by kernel_rfl
 t3:=by kernel_rfl
 a3:=fun _=>by kernel_rfl
 z3:=fun _=>by kernel_rfl
 v3:=fun _=>by kernel_rfl
 t4:=by kernel_rfl
 a4:=fun _=>by kernel_rfl
 z4:=fun _=>by kernel_rfl
 v4:=fun _=>by kernel_rfl
 t5:=by kernel_rfl
 a5:=fun _=>by kernel_rfl
 z5:=fun _=>by kernel_rfl
 v5:=fun _=>by kernel_rfl
 t9:=by kernel_rfl
 a9:=fun _=>by kernel_rfl
 z9:=fun _=>by kernel_rfl
 v9:=fun _=>by kernel_rfl
 t21:=by kernel_rfl
 a21:=fun _=>by kernel_rfl
 z21:=fun _=>by kernel_rfl
 v21:=fun _=>by kernel_rfl
 t46:=by kernel_rfl
 a46:=fun _=>by kernel_rfl
 z46:=fun _=>by kernel_rfl
 v46:=fun _=>by kernel_rfl
 t105:=by kernel_rfl
 a105:=fun _=>by kernel_rfl
 z105:=fun _=>by kernel_rfl
 v105:=fun _=>by kernel_rfl
 t119:=by kernel_rfl
 a119:=fun _=>by kernel_rfl
 z119:=fun _=>by kernel_rfl
 t138:=by kernel_rfl
 a138:=fun _=>by kernel_rfl
 z138:=fun _=>by kernel_rfl
 v138:=fun _=>by kernel_rfl
 t139:=by kernel_rfl
 a139:=fun _=>by kernel_rfl
 z139:=fun _=>by kernel_rfl
 v139:=fun _=>by kernel_rfl
 g3:=by kernel_rfl
 g4:=by kernel_rfl
theorem A3u(s:Ai):Fn Tryz.prog Rq [.v (.str s)] (Is (.Dv [.i (.int .i32 (Lib.decodeGo ⟨⟨s⟩⟩).1),.i (.int .i64 (Lib.decodeGo ⟨⟨s⟩⟩).2)]) [.no]):=by
 intro G σ Fr w B6 Bu C4 E6;have W0:Aq G (.str s) (B6.getD 0 undef):=(E6 0 _ rfl).2;obtain⟨W0,_⟩:=Aq.str.1 W0;have Rv:B6= #[.string ⟨⟨s⟩⟩]:=by
  rw[←W0];apply Array.ext
  ·simpa using C4
  ·intro j h1 h2;have:j=0:=by simp at h2;omega
   subst this;simp[Array.getD,h1]
 have Abc:=Any.utf8_DecodeRuneInString Axy ⟨⟨s⟩⟩ w (Bu.Jd w Bu.fixed);rw[Rv];refine Calls.mono Abc ?_;rintro e w' ⟨rfl,hb⟩;have keep:∀(M:Mem),(∀b o,M b=some o→w.heap[b]?=some o)→∀b o,M b=some o→w'.heap[b]?=some o:=by
  intro M hM b o hm;have h1:=hM b o hm;rw[hb.block b (Array.getElem?_eq_some_iff.1 h1).1];exact h1
 refine⟨_,_,_,G,fun _=>none,rfl,⟨rfl,rfl⟩,Mem.le.refl G,⟨keep G Bu.fixed,fun b Bg h=>by(cases h),fun b b' Bg h=>by(cases h),keep Fr Bu.frame,hb.os,hb.tape,hb.output,hb.size,Bu.apart,Bu.Jd⟩,rfl,⟨_,rfl,?_⟩,rfl,?_⟩
 ·exact⟨_,_,rfl,Aq.int.2 rfl,_,_,rfl,Aq.int.2 rfl,rfl⟩
 intro i sv hi;have:sv= .no:=by
  have:=List.mem_of_getElem? hi;simpa using this
 subst this;exact⟨rfl,trivial⟩

open Go
theorem Sn(l:Ai)(k:Nat):(⟨⟨l⟩⟩:ByteArray).get! k=(l[k]?).getD 0:=by
 show(l.toArray)[k]! =_;rw[List.getElem!_toArray,List.getElem!_eq_getElem?_getD];rfl
theorem Vr(s:Ai)(p:Nat):Gq s p=Gq (s.drop p) 0:=by
 have hg:∀k,(⟨⟨s⟩⟩:ByteArray).get! (p+k)=(⟨⟨s.drop p⟩⟩:ByteArray).get! (0+k):=fun k=>by
  rw[Sn,Sn,List.getElem?_drop,Nat.zero_add]
 have hs:∀k,decide (p+k<(⟨⟨s⟩⟩:ByteArray).size)=decide (0+k<(⟨⟨s.drop p⟩⟩:ByteArray).size):=fun k=>by
  show decide (p+k<s.length)=decide (0+k<(s.drop p).length);rw[List.length_drop]
  congr 1
  rw[eq_iff_iff];omega
 unfold Gq Utf8.decode;simp only[hg,hs]
set_option maxHeartbeats 40000000

open Go.Proofs
def Wk(n:Nat)(b0 b1 b2 b3:Nat):Nat × Nat:=
 if b0<128 then(b0,1)
 else if b0 / 32=6∧1<n∧b1 / 64=2 then
  if b0 % 32*64+b1 % 64≥128 then(b0 % 32*64+b1 % 64,2)else(65533,1)
 else if b0 / 16=14∧1<n∧b1 / 64=2∧2<n∧b2 / 64=2 then
  if b0 % 16*4096+b1 % 64*64+b2 % 64≥2048∧Utf8.valid ((b0 % 16*4096+b1 % 64*64+b2 % 64:Nat):Int)=true then(b0 % 16*4096+b1 % 64*64+b2 % 64,3)else(65533,1)
 else if b0 / 8=30∧1<n∧b1 / 64=2∧2<n∧b2 / 64=2∧3<n∧b3 / 64=2 then
  if b0 % 8*262144+b1 % 64*4096+b2 % 64*64+b3 % 64≥65536∧Utf8.valid ((b0 % 8*262144+b1 % 64*4096+b2 % 64*64+b3 % 64:Nat):Int)=true then(b0 % 8*262144+b1 % 64*4096+b2 % 64*64+b3 % 64,4)else(65533,1)
 else(65533,1)
def Gu(l:Ai)(k:Nat):Nat:=((l[k]?).getD 0).toNat
theorem Bev(l:Ai):Gq l 0=Wk l.length (Gu l 0) (Gu l 1) (Gu l 2) (Gu l 3):=by
 have hs:(⟨⟨l⟩⟩:ByteArray).size=l.length:=rfl;have h0:((⟨⟨l⟩⟩:ByteArray).get! 0).toNat=Gu l 0:=by rw[Sn];rfl
 have h1:((⟨⟨l⟩⟩:ByteArray).get! 1).toNat=Gu l 1:=by rw[Sn];rfl
 have h2:((⟨⟨l⟩⟩:ByteArray).get! 2).toNat=Gu l 2:=by rw[Sn];rfl
 have h3:((⟨⟨l⟩⟩:ByteArray).get! 3).toNat=Gu l 3:=by rw[Sn];rfl
 unfold Gq Utf8.decode;simp only[Nat.zero_add,hs,h0,h1,h2,h3];generalize Gu l 0=b0;generalize Gu l 1=b1;generalize Gu l 2=b2;generalize Gu l 3=b3;generalize l.length=n;unfold Wk;simp only[Bool.and_eq_true,decide_eq_true_eq,beq_iff_eq,and_assoc,ge_iff_le,Utf8.runeError]
def szN(n:Nat)(b0 b1 b2 b3:Nat):Nat:=
 if b0≤127 then 1
 else if(194≤b0∧b0≤223)∧1<n∧128≤b1∧b1≤191 then 2
 else if(1<n∧128≤b1∧b1≤191∧2<n∧128≤b2∧b2≤191)∧((b0=224∧160≤b1)∨(225≤b0∧b0≤236)∨(b0=237∧b1≤159)∨(238≤b0∧b0≤239))then 3
 else if(1<n∧128≤b1∧b1≤191∧2<n∧128≤b2∧b2≤191∧3<n∧128≤b3∧b3≤191)∧((b0=240∧144≤b1)∨(241≤b0∧b0≤243)∨(b0=244∧b1≤143))then 4
 else 0
theorem Ec(l:Ai)(k:Nat)(lo hi:Nat):Cz l (k:Int) (lo:Int) (hi:Int)=decide (k<l.length∧lo≤Gu l k∧Gu l k≤hi):=by
 unfold Cz Gu;rw[Int.toNat_natCast];cases h:l[k]? with
 |none=>
  have:=List.getElem?_eq_none_iff.1 h;symm;simp only[decide_eq_false_iff_not];omega
 |some c=>
  have:=(List.getElem?_eq_some_iff.1 h).1;simp only[Option.getD_some]
  congr 1
  rw[eq_iff_iff];omega
theorem Be9(l:Ai):Ld l 1 1=decide (1<l.length∧128≤Gu l 1∧Gu l 1≤191):=by
 have h1:=Ec l 1 128 191;simp only[Ld,List.range_succ,List.range_zero,List.nil_append,List.all_cons,List.all_nil,Bool.and_true];exact h1
theorem Bfa(l:Ai):Ld l 1 2=decide (1<l.length∧128≤Gu l 1∧Gu l 1≤191∧2<l.length∧128≤Gu l 2∧Gu l 2≤191):=by
 have h1:=Ec l 1 128 191;have h2:=Ec l 2 128 191;have:Ld l 1 2=(Cz l ((1:Nat):Int) ((128:Nat):Int) ((191:Nat):Int)&&Cz l ((2:Nat):Int) ((128:Nat):Int) ((191:Nat):Int)):=by simp[Ld,List.range_succ]
 rw[this,h1,h2, ←Bool.decide_and]
 congr 1
 rw[eq_iff_iff];omega
theorem Bfb(l:Ai):Ld l 1 3=decide (1<l.length∧128≤Gu l 1∧Gu l 1≤191∧2<l.length∧128≤Gu l 2∧Gu l 2≤191∧3<l.length∧128≤Gu l 3∧Gu l 3≤191):=by
 have h1:=Ec l 1 128 191;have h2:=Ec l 2 128 191;have h3:=Ec l 3 128 191;have:Ld l 1 3=(Cz l ((1:Nat):Int) ((128:Nat):Int) ((191:Nat):Int)&&(Cz l ((2:Nat):Int) ((128:Nat):Int) ((191:Nat):Int)&&Cz l ((3:Nat):Int) ((128:Nat):Int) ((191:Nat):Int))):=by simp[Ld,List.range_succ]
 rw[this,h1,h2,h3, ←Bool.decide_and, ←Bool.decide_and]
 congr 1
 rw[eq_iff_iff];omega
theorem Bhj(l:Ai)(hl:0<l.length):Lq l=(szN l.length (Gu l 0) (Gu l 1) (Gu l 2) (Gu l 3):Nat):=by
 have e1:Cz l 0 0 127=_:=Ec l 0 0 127;have e2:Cz l 0 194 223=_:=Ec l 0 194 223;have e3:Cz l 0 224 224=_:=Ec l 0 224 224;have e4:Cz l 1 160 191=_:=Ec l 1 160 191;have e5:Cz l 0 225 236=_:=Ec l 0 225 236;have e6:Cz l 0 237 237=_:=Ec l 0 237 237;have e7:Cz l 1 128 159=_:=Ec l 1 128 159;have e8:Cz l 0 238 239=_:=Ec l 0 238 239;have e9:Cz l 0 240 240=_:=Ec l 0 240 240;have e10:Cz l 1 144 191=_:=Ec l 1 144 191;have e11:Cz l 0 241 243=_:=Ec l 0 241 243;have e12:Cz l 0 244 244=_:=Ec l 0 244 244;have e13:Cz l 1 128 143=_:=Ec l 1 128 143;unfold Lq szN;rw[Be9,Bfa,Bfb,e1,e2,e3,e4,e5,e6,e7,e8,e9,e10,e11,e12,e13];generalize Gu l 0=b0;generalize Gu l 1=b1;generalize Gu l 2=b2;generalize Gu l 3=b3;generalize l.length=n at hl ⊢;simp only[Bool.and_eq_true,Bool.or_eq_true,decide_eq_true_eq];repeat' split
 all_goals first|rfl|(exfalso;omega)
theorem Bhx(l:Ai)(k:Nat):Gu l k<256:=UInt8.toNat_lt _
theorem Bcp(n b0 b1 b2 b3:Nat)(h0:b0<256)(hn:0<n):
 (szN n b0 b1 b2 b3=0∧Wk n b0 b1 b2 b3=(65533,1))∨
 (szN n b0 b1 b2 b3=1∧Wk n b0 b1 b2 b3=(b0,1)∧b0<128)∨
 (szN n b0 b1 b2 b3=2∧2≤n∧∃r,Wk n b0 b1 b2 b3=(r,2)∧128≤r∧r≤1114111∧(161≤r↔(b0=194→161≤b1)))∨
 (szN n b0 b1 b2 b3=3∧3≤n∧∃r,Wk n b0 b1 b2 b3=(r,3)∧161≤r∧r≤1114111)∨
 (szN n b0 b1 b2 b3=4∧4≤n∧∃r,Wk n b0 b1 b2 b3=(r,4)∧161≤r∧r≤1114111):=by
 unfold szN;split
 ·rename_i hb;refine .inr (.inl ⟨rfl,?_,by omega⟩)
  unfold Wk;rw[if_pos (show b0<128 by omega)]
 split
 ·refine .inr (.inr (.inl ⟨rfl,by omega,b0 % 32*64+b1 % 64,?_,by omega,by omega,by omega⟩))
  unfold Wk;rw[if_neg (by omega),if_pos (by omega),if_pos (by omega)]
 split
 ·refine .inr (.inr (.inr (.inl ⟨rfl,by omega,b0 % 16*4096+b1 % 64*64+b2 % 64,?_,by omega,by omega⟩)))
  unfold Wk;rw[if_neg (by omega),if_neg (by omega),if_pos (by omega),if_pos ⟨by omega,by simp only[Utf8.valid,Bool.or_eq_true,Bool.and_eq_true,decide_eq_true_eq];omega⟩]
 split
 ·refine .inr (.inr (.inr (.inr ⟨rfl,by omega,b0 % 8*262144+b1 % 64*4096+b2 % 64*64+b3 % 64,?_,by omega,by omega⟩)))
  unfold Wk;rw[if_neg (by omega),if_neg (by omega),if_neg (by omega),if_pos (by omega),if_pos ⟨by omega,by simp only[Utf8.valid,Bool.or_eq_true,Bool.and_eq_true,decide_eq_true_eq];omega⟩]
 ·refine .inl ⟨rfl,?_⟩;unfold Wk;rw[if_neg (by omega)]
  split
  ·rw[if_neg (by omega)]
  split
  ·rw[if_neg];rintro⟨hv1,hv2⟩;simp only[Utf8.valid,Bool.or_eq_true,Bool.and_eq_true,decide_eq_true_eq]at hv2;omega
  split
  ·rw[if_neg];rintro⟨hv1,hv2⟩;simp only[Utf8.valid,Bool.or_eq_true,Bool.and_eq_true,decide_eq_true_eq]at hv2;omega
  rfl
theorem Bhe(c d:UInt8):Ko [c,d]=decide (c.toNat=194→161≤d.toNat):=by
 simp only[Ko];split
 ·congr 1
  rw[eq_iff_iff];omega
 ·symm;simp only[decide_eq_true_eq];omega
theorem A49(c d e:UInt8)(r:Ai):Ko (c::d::e::r)=true:=rfl
theorem A7o(l:Ai)(hl:0<l.length):
 (Lq l=0∧Gq l 0=(65533,1))∨
 (∃c r,l=c::r∧Lq l=1∧Gq l 0=(c.toNat,1)∧c.toNat<128)∨
 (∃k r:Nat,2≤k∧Lq l=(k:Int)∧k≤l.length∧Gq l 0=(r,k)∧128≤r∧r≤1114111∧Ko (l.take k)=decide (161≤r)):=by
 rw[Bhj l hl,Bev];rcases Bcp l.length (Gu l 0) (Gu l 1) (Gu l 2) (Gu l 3) (Bhx l 0) hl with⟨h1,h2⟩|⟨h1,h2,h3⟩|⟨h1,h2,r,h3,h4,h5,h6⟩|⟨h1,h2,r,h3,h4,h5⟩|⟨h1,h2,r,h3,h4,h5⟩
 ·rw[h1,h2];exact .inl ⟨rfl,rfl⟩
 ·rw[h1,h2];cases l with
  |nil=>simp at hl
  |cons c r=>exact .inr (.inl ⟨c,r,rfl,rfl,rfl,h3⟩)
 ·rw[h1,h3];rcases l with _|⟨c,_|⟨d,t⟩⟩
  ·simp at hl
  ·simp at h2
  ·refine .inr (.inr ⟨2,r,by omega,rfl,h2,rfl,h4,h5,?_⟩)
   show Ko [c,d]=_;rw[Bhe]
   congr 1
   rw[eq_iff_iff];exact h6.symm
 ·rw[h1,h3];rcases l with _|⟨c,_|⟨d,_|⟨e,t⟩⟩⟩
  ·simp at hl
  ·simp at h2
  ·simp at h2
  ·exact .inr (.inr ⟨3,r,by omega,rfl,h2,rfl,by omega,h5,by show Ko [c,d,e]=_;rw[A49];simp[h4]⟩)
 ·rw[h1,h3];rcases l with _|⟨c,_|⟨d,_|⟨e,_|⟨f,t⟩⟩⟩⟩
  ·simp at hl
  ·simp at h2
  ·simp at h2
  ·simp at h2
  ·exact .inr (.inr ⟨4,r,by omega,rfl,h2,rfl,by omega,h5,by show Ko [c,d,e,f]=_;rw[A49];simp[h4]⟩)

open Go.Proofs
theorem Fn.Bj8{P:Program}{f:FuncId}{s:Ai}{rest:List SV}{Cq:SV→List SV→Prop}(h:s.length≤maxLen→Fn P f (.v (.str s)::rest) Cq):Fn P f (.v (.str s)::rest) Cq:=by
 intro G σ Fr w B6 Bu Bk E6;have h0:=(E6 0 _ rfl).2;exact h (Aq.str.1 h0).2 G σ Fr w B6 Bu Bk E6
theorem Avp(s:Ai)(p:Nat)(hp:p<s.length):Lib.decodeGo ⟨⟨s.drop p⟩⟩=Gq s p:=by
 rw[Vr s p];unfold Lib.decodeGo;rw[if_neg]
 ·rfl
 ·show ¬(s.drop p).length=0;rw[List.length_drop];omega
theorem Ahk(s:Ai)(p:Nat)(hp:p<s.length)(r:Int):Fn Tryz.prog Aw9 [.v (.str s),.v (.int .i64 p),.v (.int .i32 r)] (Is (.v (.bool (decide (r=65533)&&decide ((Gq s p).2=1)))) [.no,.no,.no]):=by
 refine Av6 ?_ (by simp)
 have hd:=A3u (s.drop p);rw[Avp s p hp]at hd;by_cases hr:r=65533
 ·have Y0:¬(!decide (r=65533))=true:=by simp[hr]
  repeat'((conv=>whnf);first|(apply aI<;>intro hb<;>first|exact absurd hb (by assumption)|((try rw[hb]);(try simp only[Ad]at hb);(try subst hb)))|(refine eI ?_ ?_;focus (and_intros<;>first|omega|exact rfl|(intro _ hh;cases hh;done)|(simp;done)|decide))|((simp only[List.headD,Int.toNat_natCast,List.take_length]))|(refine Ac.mk ⟨_,hd,?_⟩;rintro _ _ ⟨rfl,rfl⟩))
  all_goals(try(conv=>whnf))
  refine Bd.mk ⟨SV.Co ?_,by kernel_rfl⟩ (by kernel_rfl)
  rw[eq_comm,Bool.eq_iff_iff];simp;omega
 ·repeat'((conv=>whnf);(apply aI<;>intro hb<;>first|(exfalso;simp only[Az]at hb<;>omega)|((try rw[hb]);(try simp only[Ad]at hb))))
  all_goals(try(conv=>whnf))
  all_goals first|contradiction|skip
  refine Bd.mk ⟨SV.Co (by simp[hr]),by kernel_rfl⟩ (by kernel_rfl)
theorem Avb(r:Int):Fn Tryz.prog A2t [.v (.int .i32 r)] (Is (.v (.bool (decide (161≤r)))) [.no]):=by
 refine Az5 ?_ (by simp)
 (conv=>whnf)
 all_goals(try(conv=>whnf))
 exact Bd.mk ⟨SV.Co (by simp),by kernel_rfl⟩ (by kernel_rfl)
theorem Adc{f:Nat}{s:Ai}{p n:Nat}{c:UInt8}(hc:s[p]?=some c){k:Nat}(hk:Lq (s.drop p)=(k:Int)):
 L5 (f+1) s p n=(if k=0 then false else if Yi k c.toNat p ((s.drop p).take k)=true then false else if 24<n+1 then false else L5 f s (p+k) (n+1)):=by
 rw[L5,hc];dsimp only;rw[hk,Int.toNat_natCast]
theorem Aug{f:Nat}{s:Ai}{p n:Nat}{c:UInt8}(hc:s[p]?=some c){k:Nat}(hk:Lq (s.drop p)=(k:Int))(hk0:0<k)(Nq:k≤s.length - p)(hp:p<s.length)
 (hb:Yi k c.toNat p ((s.drop p).take k)=false) (h2:s.length<f+1+p) (h3:n≤p) (h4:n≤24→L5 (f+1) s p n=D2 s) (h5:24<n→D2 s=false):
 p+k≤s.length∧s.length<f+(p+k)∧n+1≤p+k∧(n+1≤24→L5 f s (p+k) (n+1)=D2 s)∧(24<n+1→D2 s=false):=by
 refine⟨by omega,by omega,by omega,fun h=>?_,fun h=>?_⟩
 ·rw[←h4 (by omega),Adc hc hk,if_neg (by omega),hb,if_neg (by simp),if_neg (by omega)]
 ·by_cases h24:24<n
  ·exact h5 h24
  ·rw[←h4 (by omega),Adc hc hk,if_neg (by omega),hb,if_neg (by simp),if_pos h]
theorem Aoa{f:Nat}{s:Ai}{p n:Nat}{c:UInt8}(hc:s[p]?=some c){k:Nat}(hk:Lq (s.drop p)=(k:Int))
 (hb:k=0∨Yi k c.toNat p ((s.drop p).take k)=true) (h4:n≤24→L5 (f+1) s p n=D2 s) (h5:24<n→D2 s=false):D2 s=false:=by
 by_cases h24:24<n
 ·exact h5 h24
 ·rw[←h4 (by omega),Adc hc hk]
  rcases hb with hb|hb
  ·rw[if_pos hb]
  ·rw[hb];split<;>simp
theorem X0(s:Ai):Fn Tryz.prog Aw8 [.v (.str s)] (Is (.v (.bool (D2 s))) [.no]):=Fn.Bj8 fun hl=>by
 refine Av5 ?_ (by simp)
 (conv=>whnf)
 all_goals(try(conv=>whnf))
 refine Bq.by (X:=Nat × Nat × Nat) (fun x=>[(3,.v (.int .i64 x.2.2)),(7,.W8 s x.2.1)]) (fun x=>x.2.1≤s.length∧s.length<x.1+x.2.1∧x.2.2≤x.2.1∧(x.2.2≤24→L5 x.1 s x.2.1 x.2.2=D2 s)∧(24<x.2.2→D2 s=false)) (fun x=>s.length - x.2.1)
  (s.length+1,0,0) (by kernel_rfl) ⟨Nat.zero_le _,by dsimp only;omega,Nat.le_refl _,fun _=>rfl,fun h=>by simp at h⟩ ?_
 rintro⟨f,p,n⟩ ⟨h1,h2,h3,h4,h5⟩;dsimp only at h1 h2 h3 h4 h5 ⊢;obtain⟨f,rfl⟩:∃g,f=g+1:=⟨f - 1,by omega⟩
 by_cases hp:p<s.length
 case neg=>
  have Bb:¬decide (p<s.length)=true:=by simp;omega
  have hv:D2 s=(decide (0<n)&&decide (n≤24)):=by
   by_cases h24:n≤24
   ·rw[←h4 h24,L5,List.getElem?_eq_none (by omega)]
    simp[h24]
   ·rw[h5 (by omega)]
    simp[h24]
  rw[hv];repeat'((conv=>whnf);(apply aI<;>intro hb<;>first|exact absurd hb (by first|assumption|decide)|((try rw[hb]);(try simp only[Ad]at hb))))
  all_goals(try(conv=>whnf))
  all_goals refine Bd.mk ⟨SV.Co ?_,by kernel_rfl⟩ (by kernel_rfl)
  all_goals(rw[Bool.eq_iff_iff];simp;omega)
 have Bb:¬decide (p<s.length)=false:=by simp[hp]
 obtain⟨c,hc⟩:∃c,s[p]?=some c:=⟨_,List.getElem?_eq_getElem hp⟩;have Rw:(s.drop p).length=s.length - p:=List.length_drop ..;have hwn:IntKind.i64.wrap ((n:Int)+1)=((n+1:Nat):Int):=Ak (n:=maxLen) (by omega) (Nat.le_refl _)
 rcases A7o (s.drop p) (by omega)with⟨hk,hr⟩|⟨c',t,hd,hk,hr,hc8⟩|⟨k,r,Ce,hk,Nq,hr,E2,F2,hit⟩
 ·rw[←Vr]at hr;have hw:=Ahk s p hp (65533:Nat);rw[hr]at hw;rw[Aoa hc hk (.inl rfl) h4 h5];repeat'((conv=>whnf);first|(apply aI<;>intro hb<;>first|exact absurd hb (by first|assumption|decide)|((try rw[hb]);(try simp only[Ad]at hb)))|(refine eI ?_ ?_;focus (and_intros<;>first|(intro _ hh;cases hh;done)|(simp;done)|decide))|((simp only[hr]))|(refine Ac.mk ⟨_,hw,?_⟩;rintro _ _ ⟨rfl,rfl⟩))
  all_goals(try(conv=>whnf))
  (apply dK<;>kernel_rfl)
 ·rw[←Vr]at hr;obtain rfl:c=c':=by
   have:=congrArg (fun q=>q[0]?) hd
   simp only[List.getElem?_drop,Nat.add_zero,List.getElem?_cons_zero]at this;rw[hc]at this;exact Option.some.inj this
  have hw:=Ahk s p hp (c.toNat:Nat);rw[hr,show(decide (((c.toNat:Nat):Int)=65533)&&decide (((c.toNat,1):Nat × Nat).2=1))=false by simp;omega]at hw
  have hh:=Avb (c.toNat:Nat);rw[show decide (161≤((c.toNat:Nat):Int))=false by simp;omega]at hh
  have hlen:1≤s.length - p:=by omega
  have Apr:=fun hb=>Aug hc (k:=1) hk (by omega) hlen hp hb h2 h3 h4 h5
  have Aym:=fun hb=>Aoa (k:=1) hc hk (.inr hb) h4 h5
  rw[hd]at Apr Aym;generalize hm:D2 s=m at*;have hB:∀q,Yi 1 (c.toNat:Nat) p q=true↔¬((97≤c.toNat∧c.toNat≤122)∨(48≤c.toNat∧c.toNat≤57)∨c.toNat=95∨(c.toNat=45∧0<p)):=fun q=>by
   simp only[Yi];simp;omega
  have hB':∀q,Yi 1 (c.toNat:Nat) p q=false↔((97≤c.toNat∧c.toNat≤122)∨(48≤c.toNat∧c.toNat≤57)∨c.toNat=95∨(c.toNat=45∧0<p)):=fun q=>by
   have:=hB q;cases hx:Yi 1 (c.toNat:Nat) p q
   ·rw[hx]at this;simp at this;simp;omega
   ·rw[hx]at this;simp at this;simp;omega
  repeat'((conv=>whnf);first|(apply aI<;>intro hb<;>first|exact absurd hb (by first|assumption|decide)|(exfalso;simp only[Az]at hb<;>omega)|((try rw[hb]);(try simp only[Ad]at hb)))|(refine eI ?_ ?_;focus (and_intros<;>first|(intro _ hh;cases hh;done)|(simp;done)|decide))|((simp only[hr]))|(refine Ac.mk ⟨_,hw,?_⟩;rintro _ _ ⟨rfl,rfl⟩)|(refine Ac.mk ⟨_,hh,?_⟩;rintro _ _ ⟨rfl,rfl⟩))
  all_goals(try(conv=>whnf))
  all_goals first
   |(refine Bd.mk ⟨congrArg (fun b=>SV.v (.bool b)) (Aym ((hB _).2 (by omega))).symm,by kernel_rfl⟩ (by kernel_rfl);done)
   |(refine Round.by (f,p+1,n+1) ?_ (Apr ((hB' _).2 (by omega))) (by dsimp only;omega)
     rw[hwn];show norm _ _=Bt _ _
     kernel_rfl)
 ·rw[←Vr]at hr;have hw:=Ahk s p hp (r:Nat);rw[hr,show(decide (((r:Nat):Int)=65533)&&decide (((r,k):Nat × Nat).2=1))=false by simp;omega]at hw
  have hh:=Avb (r:Nat);have Apr:=fun hb=>Aug hc (k:=k) hk (by omega) (by omega) hp hb h2 h3 h4 h5
  have Aym:=fun hb=>Aoa (k:=k) hc hk (.inr hb) h4 h5
  have hB:Yi k c.toNat p ((s.drop p).take k)= !decide (161≤r):=by
   simp only[Yi,hit];rw[show decide (k=1)=false by simp;omega,show decide (1<k)=true by simp;omega]
   simp
  rw[hB]at Apr Aym;generalize hm:D2 s=m at*;by_cases Bh8:161≤r
  ·rw[show decide (161≤((r:Nat):Int))=true by simp;omega]at hh
   repeat'((conv=>whnf);first|(apply aI<;>intro hb<;>first|exact absurd hb (by first|assumption|decide)|(exfalso;simp only[Az]at hb<;>omega)|((try rw[hb]);(try simp only[Ad]at hb)))|(refine eI ?_ ?_;focus (and_intros<;>first|(intro _ hh;cases hh;done)|(simp;done)|decide))|((simp only[hr]))|(refine Ac.mk ⟨_,hw,?_⟩;rintro _ _ ⟨rfl,rfl⟩)|(refine Ac.mk ⟨_,hh,?_⟩;rintro _ _ ⟨rfl,rfl⟩))
   all_goals(try(conv=>whnf))
   refine Round.by (f,p+k,n+1) ?_ (Apr (by simp[Bh8])) (by dsimp only;omega)
   rw[hwn];show norm _ _=Bt _ _
   kernel_rfl
  ·rw[show decide (161≤((r:Nat):Int))=false by simp;omega]at hh
   repeat'((conv=>whnf);first|(apply aI<;>intro hb<;>first|exact absurd hb (by first|assumption|decide)|(exfalso;simp only[Az]at hb<;>omega)|((try rw[hb]);(try simp only[Ad]at hb)))|(refine eI ?_ ?_;focus (and_intros<;>first|(intro _ hh;cases hh;done)|(simp;done)|decide))|((simp only[hr]))|(refine Ac.mk ⟨_,hw,?_⟩;rintro _ _ ⟨rfl,rfl⟩)|(refine Ac.mk ⟨_,hh,?_⟩;rintro _ _ ⟨rfl,rfl⟩))
   all_goals(try(conv=>whnf))
   exact Bd.mk ⟨congrArg (fun b=>SV.v (.bool b)) (Aym (by simp[Bh8])).symm,by kernel_rfl⟩ (by kernel_rfl)

open Go.Proofs
def Hk{α:Type}(i:Nat)(x:α)(l:List α):List α:=l.take i++x::l.drop i
theorem Aqc{α β γ:Type}(g:β→γ)(f:α→β)(i:Nat)(x:α)(l:List α):((l.map f).map g).take i++g (f x)::((l.map f).map g).drop i=((Hk i x l).map f).map g:=by simp[Hk,List.map_take,List.map_drop]
def H6{α:Type}(i:Nat)(l:List α):List α:=l.take i++l.drop (i+1)
theorem Xz(n:Int):Fn Tryz.prog Axd [.v (.int .i64 n)] (Is (.v (.bool (Dq n))) [.no]):=by
 refine Av9 ?_ (by simp)
 repeat'((conv=>whnf);(apply aI<;>intro hb<;>first|exact absurd hb (by decide)|((try rw[hb]);(try simp only[Ad]at hb))))
 all_goals(try(conv=>whnf))
 all_goals refine Bd.mk ⟨SV.Co ?_,by kernel_rfl⟩ (by kernel_rfl)
 all_goals simp[Dq, *]
theorem Ja(s:Ai):Fn Tryz.prog Avm [.v (.str s)] (Is (.v (.bool (decide (s.length≤64)))) [.no]):=by
 refine Asu ?_ (by simp)
 repeat'((conv=>whnf);first|(refine eI ?_ ?_;focus (and_intros<;>exact rfl))|(intro Aa))
 all_goals(try(conv=>whnf))
 refine Bd.mk ⟨SV.Co ?_,by kernel_rfl⟩ (by kernel_rfl)
 by_cases h:s.length≤64<;>simp[h]<;>omega
def M5(r:A8)(c:Ds):A8 × Int:=
 if c.kind=4∧D2 c.name=false then(r,5)
 else if Dq c.bytes=false∨Dq c.keys=false then(r,1)
 else if c.kind=4∧Et B7.name r.Be c.name=true then(r,15)
 else if c.kind=4∧8≤(r.Be.length:Int)then(r,17)
 else if c.kind=4 then({r with Be:=Hk (Ch B7.name r.Be c.name) ⟨c.name,c.bytes,c.keys⟩ r.Be},0)
 else if Et B7.name r.Be c.name=false then(r,16)
 else({r with Be:=r.Be.set (Ch B7.name r.Be c.name) ⟨c.name,c.bytes,c.keys⟩},0)
theorem Arf(r:A8):D.Ae (.vec Cc 3 ((r.Be.map B7.Ae).map D.it))=some (.list (r.Be.map B7.Ae)):=by simp[D.Ae,Bn, -List.map_map]
theorem A2c(r:A8)(hs:r.Small)(c:Ds):Fn Tryz.prog Avo [.own [] (.ptr r.A6),.v c.Ae] (Is (.v (.int .i64 (M5 r c).2)) [.own [] (.ptr (M5 r c).1.A6),.no]):=by
 refine Asx ?_ (by simp)
 obtain⟨b1,b2,b3,b4,b5⟩:=hs;have hf:=A12 r.Be c.name (by omega)
 have hn:=X0 c.name;have n1:=Xz c.bytes;have n2:=Xz c.keys;repeat'((conv=>whnf);first|(apply aI<;>intro hb<;>first|exact absurd hb (by decide)|((try rw[hb]);(try simp only[Ad]at hb)))|(refine eI ?_ ?_;focus (and_intros<;>first|omega|exact rfl|(intro _ hh;cases hh;done)|(simp;done)|decide))|(intro Aa)|((with_reducible apply A5.B5);(focus kernel_rfl);intro Aa;(try simp only[dRS]at Aa))|((simp only[show D.at (0::[].append [1]) (D.ptr r.A6)=some (D.vec Cc 3 ((r.Be.map B7.Ae).map D.it))from rfl,Arf]))|(refine Aj.mk ⟨_,_,hf,?_⟩)|(refine Ac.mk ⟨_,hn,?_⟩;rintro _ _ ⟨rfl,rfl⟩)|(refine Ac.mk ⟨_,n1,?_⟩;rintro _ _ ⟨rfl,rfl⟩)|(refine Ac.mk ⟨_,n2,?_⟩;rintro _ _ ⟨rfl,rfl⟩))
 all_goals(try(conv=>whnf))
 all_goals(generalize hX:M5 r c=X;simp[M5, *]at hX;subst hX)
 all_goals try(apply dK<;>kernel_rfl)
 ·skip
  have hle:=S9 B7.name r.Be c.name;have Rj:=Ati ((r.Be.map B7.Ae).map D.it) (.it (B7.Ae ⟨c.name,c.bytes,c.keys⟩)) (Ch B7.name r.Be c.name) (by simp;omega) (by simp;omega)
  rw[Aqc D.it B7.Ae]at Rj;have htn:=Nw ⟨c.name,c.bytes,c.keys⟩;refine Acv ?_ (by decide)
  repeat'((conv=>whnf);first|(refine eI ?_ ?_;focus (and_intros<;>first|omega|exact rfl|(intro _ hh;cases hh;done)|exact F5 rfl|(simp;done)|decide))|((with_reducible apply A5.B5);(focus kernel_rfl);intro Aa;(try simp only[dRS]at Aa))|((simp only[show D.at (0::[].append [1]) (D.ptr r.A6)=some (D.vec Cc 3 ((r.Be.map B7.Ae).map D.it))from rfl,Arf]))|(refine Aj.mk ⟨_,_,hf,?_⟩)|(refine Aj.mk ⟨_,_,htn,?_⟩)|(refine Aj.mk ⟨_,_,Rj,?_⟩))
  all_goals(try(conv=>whnf))
  (apply dK<;>kernel_rfl)
 ·skip
  obtain⟨x,hx, -⟩:=Lv (by assumption)
  have Ry:((r.Be.map B7.Ae).map D.it)[Ch B7.name r.Be c.name]?=some (.it x.Ae):=by simp[hx]
  have Cs:((r.Be.map B7.Ae).map D.it).set (Ch B7.name r.Be c.name) (.it (B7.Ae ⟨c.name,c.bytes,c.keys⟩))=((r.Be.set (Ch B7.name r.Be c.name) ⟨c.name,c.bytes,c.keys⟩).map B7.Ae).map D.it:=by simp[List.map_set]
  have Bb:Ch B7.name r.Be c.name<r.Be.length:=(List.getElem?_eq_some_iff.1 hx).1;repeat'((conv=>whnf);first|(refine eI ?_ ?_;focus (and_intros<;>first|omega|exact rfl|(simp only[Az];omega)|(simp;done)))|((with_reducible apply A5.B5);(focus kernel_rfl);intro Aa;(try simp only[dRS]at Aa))|((with_reducible apply Lr);(focus (simp only[D.at,D.put,D.Dj,D.Db,List.cons_append,List.nil_append,List.append,List.getElem?_cons_zero,List.getElem?_cons_succ,Int.toNat_natCast,List.getElem?_set_self',Option.map_eq_map,Option.map_some,List.set_cons_zero,List.set_cons_succ,List.set_set,Function.const_apply,List.map_cons,List.map_nil,Cu,Cn,D.Ae,Bx,Bn,List.getElem?_map,List.length_map,List.length_set,Ry]<;>exact rfl))))
  all_goals(try(conv=>whnf))
  have hD:A8.A6 {r with Be:=r.Be.set (Ch B7.name r.Be c.name) ⟨c.name,c.bytes,c.keys⟩}= .st [.it (.int .i64 r.rev),.vec Cc 3 (((r.Be.map B7.Ae).map D.it).set (Ch B7.name r.Be c.name) (.it (B7.Ae ⟨c.name,c.bytes,c.keys⟩))),.vec B3 5 (r.Ag.map Bc.A6),.vec B2 3 (r.Am.map Bh.A6)]:=by rw[Cs]
  refine Bd.mk ⟨by kernel_rfl,?_⟩ (by kernel_rfl)
  dsimp only;rw[hD]
  kernel_rfl
set_option maxHeartbeats 8000000

open Go.Proofs
def A7n(k:Int):Int:=D1 .and .u64 (IntKind.u64.wrap k) 31
def Bet(x k:Int):Int:=D1 .or .u32 (Akd .u32 x (A7n k)) (L9 .u32 x (IntKind.u64.wrap (32 - A7n k)))
theorem Arm(n:Int):0≤IntKind.u64.wrap n:=by rw[wrap_u64];omega
theorem A3d(k:Int):0≤D1 .and .u64 (IntKind.u64.wrap k) 31:=by unfold D1;exact Arm _
theorem Be3(x k:Int):Fn Tryz.prog N5 [.v (.int .u32 x),.v (.int .i64 k)] (Is (.v (.int .u32 (Bet x k))) [.no,.no]):=by
 refine Xs ?_ (by simp)
 have h1:=A3d k;have h2:=Arm (32 - D1 .and .u64 (IntKind.u64.wrap k) 31);repeat'((conv=>whnf);(refine eI ?_ ?_;focus (and_intros<;>first|omega|exact rfl)))
 all_goals(try(conv=>whnf))
 exact Bd.mk ⟨rfl,by kernel_rfl⟩ (by kernel_rfl)
theorem Beu{x k j:Int}(h1:A7n k=32 - j)(h2:0≤j∧j≤32):Bet x k=Nx x j:=by
 unfold Bet Nx;rw[h1,show 32 - (32 - j)=j by omega,Bba,wrap_u64,wrap_u64,Int.emod_eq_of_lt (by omega) (by omega),Int.emod_eq_of_lt (by omega) (by omega)]
theorem Fj(x k j:Int)(h1:A7n k=32 - j:=by decide)(h2:0≤j∧j≤32:=by decide):Fn Tryz.prog N5 [.v (.int .u32 x),.v (.int .i64 k)] (Is (.v (.int .u32 (Nx x j))) [.no,.no]):=by
 rw[←Beu h1 h2];exact Be3 x k
theorem Akg:Fn Tryz.prog Avj [] (Is (.v (Ng L2)) []):=by
 refine Ass ?_ (by simp)
 repeat'((conv=>whnf);(refine eI ?_ ?_;focus (and_intros<;>first|omega|exact rfl|exact B8 (by rfl))))
 all_goals(try(conv=>whnf))
 (apply dK<;>kernel_rfl)
theorem A30:Fn Tryz.prog Aw7 [] (Is (.v (Ng H0.l)) []):=by
 refine Av4 ?_ (by simp)
 repeat'((conv=>whnf);(refine eI ?_ ?_;focus (and_intros<;>first|omega|exact rfl|exact B8 (by rfl))))
 all_goals(try(conv=>whnf))
 (apply dK<;>kernel_rfl)
structure Hs where
 (w:H8) (e:TypeId) (rest:Ai) (size:Int)
abbrev Hs.A6(s:Hs):D:=.ptr (.st [.it (Ng s.w.l),.vec s.e 1 ((s.rest.map Cr).map D.it),.it (.int .u64 s.size)])
theorem Bcf:Fn Tryz.prog Aov [] (Is (.own [] (Hs.A6 ⟨H0,Bgk,[],0⟩)) []):=by
 refine A0b ?_ (by simp)
 repeat'((conv=>whnf);first|(refine eI ?_ ?_;focus (and_intros<;>first|exact rfl|(intro _ hh;cases hh;done)|decide))|(refine Ac.mk ⟨_,A30,?_⟩;rintro _ _ ⟨rfl,rfl⟩))
 all_goals(try(conv=>whnf))
 (apply dK<;>kernel_rfl)
end Go.Ab
