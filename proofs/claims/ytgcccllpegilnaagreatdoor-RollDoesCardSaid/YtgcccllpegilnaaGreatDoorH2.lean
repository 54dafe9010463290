/- Lemmas for the last text. -/
import Derived.Test.YtgcccllpegilnaaGreatDoorNX
set_option linter.unusedVariables false
set_option linter.unusedSimpArgs false
set_option maxRecDepth 100000
set_option maxHeartbeats 40000000
namespace Go.Ab
open Go.Proofs
theorem Fn.strLen {P:Program} {f:FuncId} {s:Ad} {rest:List SV} {Post:SV→List SV→Prop} (h:s.length≤maxLen→Fn P f (.v (.str s)::rest) Post):Fn P f (.v (.str s)::rest) Post:=by
 intro G σ Fr w cargs hok hsz hargs
 have h0:=(hargs 0 _ rfl).2
 exact h (RepV.str.1 h0).2 G σ Fr w cargs hok hsz hargs
theorem Acn (s:Ad) (p:Nat) (hp:p<s.length):Lib.decodeGo ⟨⟨s.drop p⟩⟩=Cm s p:=by
 rw[Kh s p]
 unfold Lib.decodeGo
 rw[if_neg]
 ·rfl
 ·show ¬(s.drop p).length=0
  rw[List.length_drop]
  omega
theorem T7 (s:Ad) (p:Nat) (hp:p<s.length) (r:Int):Fn Tryz.prog Adw [.v (.str s),.v (.int .i64 p),.v (.int .i32 r)] (Is (.v (.bool (decide (r=65533)&&decide ((Cm s p).2=1)))) [.no,.no,.no]):=by
 refine Ac4 ?_ (by simp)
 have hd:=Aie (s.drop p)
 rw[Acn s p hp]at hd
 by_cases hr:r=65533
 ·have hb0:¬(!decide (r=65533))=true:=by simp[hr]
  repeat'((conv=>whnf);first|(apply aI<;>intro hb<;>first|exact absurd hb (by assumption)|((try rw[hb]);(try simp only[Aa]at hb);(try subst hb)))|(refine eI ?_ ?_;focus (and_intros<;>first|omega|exact rfl|(intro _ hh;cases hh;done)|(simp;done)|decide))|((simp only[List.headD,Int.toNat_natCast,List.take_length]))|(refine CallWp.mk ⟨_,hd,?_⟩;rintro _ _ ⟨rfl,rfl⟩))
  all_goals(try(conv=>whnf))
  refine Done.mk ⟨SV.bool_congr ?_,by kernel_rfl⟩ (by kernel_rfl)
  rw[eq_comm,Bool.eq_iff_iff]
  simp
  omega
 ·repeat'((conv=>whnf);(apply aI<;>intro hb<;>first|(exfalso;simp only[Ag]at hb<;>omega)|((try rw[hb]);(try simp only[Aa]at hb))))
  all_goals(try(conv=>whnf))
  all_goals first|contradiction|skip
  refine Done.mk ⟨SV.bool_congr (by simp[hr]),by kernel_rfl⟩ (by kernel_rfl)
theorem Acb (r:Int):Fn Tryz.prog Ahe [.v (.int .i32 r)] (Is (.v (.bool (decide (161≤r)))) [.no]):=by
 refine Ae2 ?_ (by simp)
 (conv=>whnf)
 all_goals(try(conv=>whnf))
 exact Done.mk ⟨SV.bool_congr (by simp),by kernel_rfl⟩ (by kernel_rfl)
theorem Qr {f:Nat} {s:Ad} {p n:Nat} {c:UInt8} (hc:s[p]?=some c) {k:Nat} (hk:En (s.drop p)=(k:Int)):
 Er (f+1) s p n=(if k=0 then false else if badR k c.toNat p ((s.drop p).take k)=true then false else if 24<n+1 then false else Er f s (p+k) (n+1)):=by
 rw[Er,hc]
 dsimp only
 rw[hk,Int.toNat_natCast]
theorem Abi {f:Nat} {s:Ad} {p n:Nat} {c:UInt8} (hc:s[p]?=some c) {k:Nat} (hk:En (s.drop p)=(k:Int)) (hk0:0<k) (hkl:k≤s.length - p) (hp:p<s.length)
 (hb:badR k c.toNat p ((s.drop p).take k)=false) (h2:s.length<f+1+p) (h3:n≤p) (h4:n≤24→Er (f+1) s p n=Co s) (h5:24<n→Co s=false):
 p+k≤s.length∧s.length<f+(p+k)∧n+1≤p+k∧(n+1≤24→Er f s (p+k) (n+1)=Co s)∧(24<n+1→Co s=false):=by
 refine⟨by omega,by omega,by omega,fun h=>?_,fun h=>?_⟩
 ·rw[←h4 (by omega),Qr hc hk,if_neg (by omega),hb,if_neg (by simp),if_neg (by omega)]
 ·by_cases h24:24<n
  ·exact h5 h24
  ·rw[←h4 (by omega),Qr hc hk,if_neg (by omega),hb,if_neg (by simp),if_pos h]
theorem Xh {f:Nat} {s:Ad} {p n:Nat} {c:UInt8} (hc:s[p]?=some c) {k:Nat} (hk:En (s.drop p)=(k:Int))
 (hb:k=0∨badR k c.toNat p ((s.drop p).take k)=true) (h4:n≤24→Er (f+1) s p n=Co s) (h5:24<n→Co s=false):Co s=false:=by
 by_cases h24:24<n
 ·exact h5 h24
 ·rw[←h4 (by omega),Qr hc hk]
  rcases hb with hb|hb
  ·rw[if_pos hb]
  ·rw[hb];split<;>simp
theorem T4 (s:Ad):Fn Tryz.prog Adv [.v (.str s)] (Is (.v (.bool (Co s))) [.no]):=Fn.strLen fun hl=>by
 refine Ac3 ?_ (by simp)
 (conv=>whnf)
 all_goals(try(conv=>whnf))
 refine LoopWq.by (X:=Nat × Nat × Nat) (fun x=>[(3,.v (.int .i64 x.2.2)),(7,.sit s x.2.1)]) (fun x=>x.2.1≤s.length∧s.length<x.1+x.2.1∧x.2.2≤x.2.1∧(x.2.2≤24→Er x.1 s x.2.1 x.2.2=Co s)∧(24<x.2.2→Co s=false)) (fun x=>s.length - x.2.1)
  (s.length+1,0,0) (by kernel_rfl) ⟨Nat.zero_le _,by dsimp only;omega,Nat.le_refl _,fun _=>rfl,fun h=>by simp at h⟩ ?_
 rintro⟨f,p,n⟩ ⟨h1,h2,h3,h4,h5⟩
 dsimp only at h1 h2 h3 h4 h5 ⊢
 obtain⟨f,rfl⟩:∃g,f=g+1:=⟨f - 1,by omega⟩
 by_cases hp:p<s.length
 case neg=>
  have hlt:¬decide (p<s.length)=true:=by simp;omega
  have hv:Co s=(decide (0<n)&&decide (n≤24)):=by
   by_cases h24:n≤24
   ·rw[←h4 h24,Er,List.getElem?_eq_none (by omega)]
    simp[h24]
   ·rw[h5 (by omega)]
    simp[h24]
  rw[hv]
  repeat'((conv=>whnf);(apply aI<;>intro hb<;>first|exact absurd hb (by first|assumption|decide)|((try rw[hb]);(try simp only[Aa]at hb))))
  all_goals(try(conv=>whnf))
  all_goals refine Done.mk ⟨SV.bool_congr ?_,by kernel_rfl⟩ (by kernel_rfl)
  all_goals(rw[Bool.eq_iff_iff];simp;omega)
 have hlt:¬decide (p<s.length)=false:=by simp[hp]
 obtain⟨c,hc⟩:∃c,s[p]?=some c:=⟨_,List.getElem?_eq_getElem hp⟩
 have hdl:(s.drop p).length=s.length - p:=List.length_drop ..
 have hwn:IntKind.i64.wrap ((n:Int)+1)=((n+1:Nat):Int):=Ae (n:=maxLen) (by omega) (Nat.le_refl _)
 rcases Aki (s.drop p) (by omega)with⟨hk,hr⟩|⟨c',t,hd,hk,hr,hc8⟩|⟨k,r,hk2,hk,hkl,hr,hr1,hr2,hit⟩
 ·rw[←Kh]at hr
  have hw:=T7 s p hp (65533:Nat)
  rw[hr]at hw
  rw[Xh hc hk (.inl rfl) h4 h5]
  repeat'((conv=>whnf);first|(apply aI<;>intro hb<;>first|exact absurd hb (by first|assumption|decide)|((try rw[hb]);(try simp only[Aa]at hb)))|(refine eI ?_ ?_;focus (and_intros<;>first|(intro _ hh;cases hh;done)|(simp;done)|decide))|((simp only[hr]))|(refine CallWp.mk ⟨_,hw,?_⟩;rintro _ _ ⟨rfl,rfl⟩))
  all_goals(try(conv=>whnf))
  exact Done.mk ⟨by kernel_rfl,by kernel_rfl⟩ (by kernel_rfl)
 ·rw[←Kh]at hr
  obtain rfl:c=c':=by
   have:=congrArg (fun q=>q[0]?) hd
   simp only[List.getElem?_drop,Nat.add_zero,List.getElem?_cons_zero]at this
   rw[hc]at this
   exact Option.some.inj this
  have hw:=T7 s p hp (c.toNat:Nat)
  rw[hr,show(decide (((c.toNat:Nat):Int)=65533)&&decide (((c.toNat,1):Nat × Nat).2=1))=false by simp;omega]at hw
  have hh:=Acb (c.toNat:Nat)
  rw[show decide (161≤((c.toNat:Nat):Int))=false by simp;omega]at hh
  have hlen:1≤s.length - p:=by omega
  have hgood:=fun hb=>Abi hc (k:=1) hk (by omega) hlen hp hb h2 h3 h4 h5
  have hbad:=fun hb=>Xh (k:=1) hc hk (.inr hb) h4 h5
  rw[hd]at hgood hbad
  generalize hm:Co s=m at*
  have hB:∀q,badR 1 (c.toNat:Nat) p q=true↔¬((97≤c.toNat∧c.toNat≤122)∨(48≤c.toNat∧c.toNat≤57)∨c.toNat=95∨(c.toNat=45∧0<p)):=fun q=>by
   simp only[badR]
   simp
   omega
  have hB':∀q,badR 1 (c.toNat:Nat) p q=false↔((97≤c.toNat∧c.toNat≤122)∨(48≤c.toNat∧c.toNat≤57)∨c.toNat=95∨(c.toNat=45∧0<p)):=fun q=>by
   have:=hB q
   cases hx:badR 1 (c.toNat:Nat) p q
   ·rw[hx]at this
    simp at this
    simp
    omega
   ·rw[hx]at this
    simp at this
    simp
    omega
  repeat'((conv=>whnf);first|(apply aI<;>intro hb<;>first|exact absurd hb (by first|assumption|decide)|(exfalso;simp only[Ag]at hb<;>omega)|((try rw[hb]);(try simp only[Aa]at hb)))|(refine eI ?_ ?_;focus (and_intros<;>first|(intro _ hh;cases hh;done)|(simp;done)|decide))|((simp only[hr]))|(refine CallWp.mk ⟨_,hw,?_⟩;rintro _ _ ⟨rfl,rfl⟩)|(refine CallWp.mk ⟨_,hh,?_⟩;rintro _ _ ⟨rfl,rfl⟩))
  all_goals(try(conv=>whnf))
  all_goals first
   |(refine Done.mk ⟨congrArg (fun b=>SV.v (.bool b)) (hbad ((hB _).2 (by omega))).symm,by kernel_rfl⟩ (by kernel_rfl);done)
   |(refine Round.by (f,p+1,n+1) ?_ (hgood ((hB' _).2 (by omega))) (by dsimp only;omega)
     rw[hwn]
     show norm _ _=upd _ _
     kernel_rfl)
 ·rw[←Kh]at hr
  have hw:=T7 s p hp (r:Nat)
  rw[hr,show(decide (((r:Nat):Int)=65533)&&decide (((r,k):Nat × Nat).2=1))=false by simp;omega]at hw
  have hh:=Acb (r:Nat)
  have hgood:=fun hb=>Abi hc (k:=k) hk (by omega) (by omega) hp hb h2 h3 h4 h5
  have hbad:=fun hb=>Xh (k:=k) hc hk (.inr hb) h4 h5
  have hB:badR k c.toNat p ((s.drop p).take k)= !decide (161≤r):=by
   simp only[badR,hit]
   rw[show decide (k=1)=false by simp;omega,show decide (1<k)=true by simp;omega]
   simp
  rw[hB]at hgood hbad
  generalize hm:Co s=m at*
  by_cases h161:161≤r
  ·rw[show decide (161≤((r:Nat):Int))=true by simp;omega]at hh
   repeat'((conv=>whnf);first|(apply aI<;>intro hb<;>first|exact absurd hb (by first|assumption|decide)|(exfalso;simp only[Ag]at hb<;>omega)|((try rw[hb]);(try simp only[Aa]at hb)))|(refine eI ?_ ?_;focus (and_intros<;>first|(intro _ hh;cases hh;done)|(simp;done)|decide))|((simp only[hr]))|(refine CallWp.mk ⟨_,hw,?_⟩;rintro _ _ ⟨rfl,rfl⟩)|(refine CallWp.mk ⟨_,hh,?_⟩;rintro _ _ ⟨rfl,rfl⟩))
   all_goals(try(conv=>whnf))
   refine Round.by (f,p+k,n+1) ?_ (hgood (by simp[h161])) (by dsimp only;omega)
   rw[hwn]
   show norm _ _=upd _ _
   kernel_rfl
  ·rw[show decide (161≤((r:Nat):Int))=false by simp;omega]at hh
   repeat'((conv=>whnf);first|(apply aI<;>intro hb<;>first|exact absurd hb (by first|assumption|decide)|(exfalso;simp only[Ag]at hb<;>omega)|((try rw[hb]);(try simp only[Aa]at hb)))|(refine eI ?_ ?_;focus (and_intros<;>first|(intro _ hh;cases hh;done)|(simp;done)|decide))|((simp only[hr]))|(refine CallWp.mk ⟨_,hw,?_⟩;rintro _ _ ⟨rfl,rfl⟩)|(refine CallWp.mk ⟨_,hh,?_⟩;rintro _ _ ⟨rfl,rfl⟩))
   all_goals(try(conv=>whnf))
   exact Done.mk ⟨congrArg (fun b=>SV.v (.bool b)) (hbad (by simp[h161])).symm,by kernel_rfl⟩ (by kernel_rfl)

open Go.Proofs
def C2 {α:Type} (i:Nat) (x:α) (l:List α):List α:=l.take i++x::l.drop i
theorem Yk {α β γ:Type} (g:β→γ) (f:α→β) (i:Nat) (x:α) (l:List α):((l.map f).map g).take i++g (f x)::((l.map f).map g).drop i=((C2 i x l).map f).map g:=by simp[C2,List.map_take,List.map_drop]
def Da {α:Type} (i:Nat) (l:List α):List α:=l.take i++l.drop (i+1)
theorem Zf (n:Int):Fn Tryz.prog Adz [.v (.int .i64 n)] (Is (.v (.bool (Ej n))) [.no]):=by
 refine Ac6 ?_ (by simp)
 repeat'((conv=>whnf);(apply aI<;>intro hb<;>first|exact absurd hb (by decide)|((try rw[hb]);(try simp only[Aa]at hb))))
 all_goals(try(conv=>whnf))
 all_goals refine Done.mk ⟨SV.bool_congr ?_,by kernel_rfl⟩ (by kernel_rfl)
 all_goals simp[Ej, *]
theorem D1 (s:Ad):Fn Tryz.prog Ack [.v (.str s)] (Is (.v (.bool (decide (s.length≤64)))) [.no]):=by
 refine Aag ?_ (by simp)
 repeat'((conv=>whnf);first|(refine eI ?_ ?_;focus (and_intros<;>exact rfl))|(intro hfact))
 all_goals(try(conv=>whnf))
 refine Done.mk ⟨SV.bool_congr ?_,by kernel_rfl⟩ (by kernel_rfl)
 by_cases h:s.length≤64<;>simp[h]<;>omega
def Ff (r:Roll) (c:Cmd):Roll × Int:=
 if c.kind=4∧Co c.name=false then(r,5)
 else if Ej c.bytes=false∨Ej c.keys=false then(r,1)
 else if c.kind=4∧Bv Ten.name r.tens c.name=true then(r,15)
 else if c.kind=4∧8≤(r.tens.length:Int)then(r,17)
 else if c.kind=4 then({r with tens:=C2 (Az Ten.name r.tens c.name) ⟨c.name,c.bytes,c.keys⟩ r.tens},0)
 else if Bv Ten.name r.tens c.name=false then(r,16)
 else({r with tens:=r.tens.set (Az Ten.name r.tens c.name) ⟨c.name,c.bytes,c.keys⟩},0)
theorem Zn (r:Roll):D.toI (.vec Ax 3 ((r.tens.map Ten.toI).map D.it))=some (.list (r.tens.map Ten.toI)):=by simp[D.toI,Aj, -List.map_map]
theorem Ag3 (r:Roll) (hs:r.Small) (c:Cmd):Fn Tryz.prog Acm [.own [] (.ptr r.toD),.v c.toI] (Is (.v (.int .i64 (Ff r c).2)) [.own [] (.ptr (Ff r c).1.toD),.no]):=by
 refine Aai ?_ (by simp)
 obtain⟨b1,b2,b3,b4,b5⟩:=hs
 have hf:=Ags r.tens c.name (by omega)
 have hn:=T4 c.name
 have n1:=Zf c.bytes
 have n2:=Zf c.keys
 repeat'((conv=>whnf);first|(apply aI<;>intro hb<;>first|exact absurd hb (by decide)|((try rw[hb]);(try simp only[Aa]at hb)))|(refine eI ?_ ?_;focus (and_intros<;>first|omega|exact rfl|(intro _ hh;cases hh;done)|(simp;done)|decide))|(intro hfact)|((with_reducible apply Drawn.by0);(focus kernel_rfl);intro hfact;(try simp only[dRS]at hfact))|((simp only[show D.at (0::[].append [1]) (D.ptr r.toD)=some (D.vec Ax 3 ((r.tens.map Ten.toI).map D.it))from rfl,Zn]))|(refine CallIs.mk ⟨_,_,hf,?_⟩)|(refine CallWp.mk ⟨_,hn,?_⟩;rintro _ _ ⟨rfl,rfl⟩)|(refine CallWp.mk ⟨_,n1,?_⟩;rintro _ _ ⟨rfl,rfl⟩)|(refine CallWp.mk ⟨_,n2,?_⟩;rintro _ _ ⟨rfl,rfl⟩))
 all_goals(try(conv=>whnf))
 all_goals(generalize hX:Ff r c=X;simp[Ff, *]at hX;subst hX)
 all_goals try exact Done.mk ⟨by kernel_rfl,by kernel_rfl⟩ (by kernel_rfl)
 ·skip
  have hle:=H5 Ten.name r.tens c.name
  have hins:=Aaz ((r.tens.map Ten.toI).map D.it) (.it (Ten.toI ⟨c.name,c.bytes,c.keys⟩)) (Az Ten.name r.tens c.name) (by simp;omega) (by simp;omega)
  rw[Yk D.it Ten.toI]at hins
  have htn:=Jk ⟨c.name,c.bytes,c.keys⟩
  refine Qa ?_ (by decide)
  repeat'((conv=>whnf);first|(refine eI ?_ ?_;focus (and_intros<;>first|omega|exact rfl|(intro _ hh;cases hh;done)|exact B5 rfl|(simp;done)|decide))|((with_reducible apply Drawn.by0);(focus kernel_rfl);intro hfact;(try simp only[dRS]at hfact))|((simp only[show D.at (0::[].append [1]) (D.ptr r.toD)=some (D.vec Ax 3 ((r.tens.map Ten.toI).map D.it))from rfl,Zn]))|(refine CallIs.mk ⟨_,_,hf,?_⟩)|(refine CallIs.mk ⟨_,_,htn,?_⟩)|(refine CallIs.mk ⟨_,_,hins,?_⟩))
  all_goals(try(conv=>whnf))
  exact Done.mk ⟨by kernel_rfl,by kernel_rfl⟩ (by kernel_rfl)
 ·skip
  obtain⟨x,hx, -⟩:=Ep (by assumption)
  have hxd:((r.tens.map Ten.toI).map D.it)[Az Ten.name r.tens c.name]?=some (.it x.toI):=by simp[hx]
  have hset:((r.tens.map Ten.toI).map D.it).set (Az Ten.name r.tens c.name) (.it (Ten.toI ⟨c.name,c.bytes,c.keys⟩))=((r.tens.set (Az Ten.name r.tens c.name) ⟨c.name,c.bytes,c.keys⟩).map Ten.toI).map D.it:=by simp[List.map_set]
  have hlt:Az Ten.name r.tens c.name<r.tens.length:=(List.getElem?_eq_some_iff.1 hx).1
  repeat'((conv=>whnf);first|(refine eI ?_ ?_;focus (and_intros<;>first|omega|exact rfl|(simp only[Ag];omega)|(simp;done)))|((with_reducible apply Drawn.by0);(focus kernel_rfl);intro hfact;(try simp only[dRS]at hfact))|((with_reducible apply Eo);(focus (simp only[D.at,D.put,D.kid,D.setKid,List.cons_append,List.nil_append,List.append,List.getElem?_cons_zero,List.getElem?_cons_succ,Int.toNat_natCast,List.getElem?_set_self',Option.map_eq_map,Option.map_some,List.set_cons_zero,List.set_cons_succ,List.set_set,Function.const_apply,List.map_cons,List.map_nil,mkSt,A1,D.toI,toIs,Aj,List.getElem?_map,List.length_map,List.length_set,hxd]<;>exact rfl))))
  all_goals(try(conv=>whnf))
  have hD:Roll.toD {r with tens:=r.tens.set (Az Ten.name r.tens c.name) ⟨c.name,c.bytes,c.keys⟩}= .st [.it (.int .i64 r.rev),.vec Ax 3 (((r.tens.map Ten.toI).map D.it).set (Az Ten.name r.tens c.name) (.it (Ten.toI ⟨c.name,c.bytes,c.keys⟩))),.vec Ar 5 (r.usrs.map Usr.toD),.vec Aq 3 (r.rols.map Rol.toD)]:=by rw[hset]
  refine Done.mk ⟨by kernel_rfl,?_⟩ (by kernel_rfl)
  dsimp only
  rw[hD]
  kernel_rfl
set_option maxHeartbeats 4000000

open Go.Op
theorem wrap_u8 (n:Int):IntKind.u8.wrap n=n % 256:=by simp[IntKind.wrap,IntKind.bits,IntKind.signed]
theorem wrap_u32 (n:Int):IntKind.u32.wrap n=n % 4294967296:=by simp[IntKind.wrap,IntKind.bits,IntKind.signed]
theorem wrap_u64 (n:Int):IntKind.u64.wrap n=n % 18446744073709551616:=by simp[IntKind.wrap,IntKind.bits,IntKind.signed]
def Bq (n:Nat):Nat→Ad
 |0=>[]
 |k+1=>Bq (n / 256) k++[UInt8.ofNat (n % 256)]
theorem Bh:∀(n k:Nat),(Bq n k).length=k
 |_,0=>rfl
 |n,k+1=>by simp[Bq,Bh (n / 256) k]
def Fq (x n:Int):Int:=Bg .or .u32 (shrI .u32 x n) (shlI .u32 x (IntKind.u64.wrap (32 - n)))
def kays:List Int:=[1116352408,1899447441,3049323471,3921009573,961987163,1508970993,2453635748,2870763221,3624381080,310598401,607225278,1426881987,1925078388,2162078206,2614888103,3248222580,3835390401,4022224774,264347078,604807628,770255983,1249150122,1555081692,1996064986,2554220882,2821834349,2952996808,3210313671,3336571891,3584528711,113926993,338241895,666307205,773529912,1294757372,1396182291,1695183700,1986661051,2177026350,2456956037,2730485921,2820302411,3259730800,3345764771,3516065817,3600352804,4094571909,275423344,430227734,506948616,659060556,883997877,958139571,1322822218,1537002063,1747873779,1955562222,2024104815,2227730452,2361852424,2428436474,2756734187,3204031479,3329325298]
abbrev B4 (n:Int):Int:=IntKind.u32.wrap n
def Cf (m:Ad) (p:Nat):Int:=((m.getD p 0).toNat:Int)
def Hh (m:Ad) (p:Nat):Nat→Int
 |0=>0
 |i+1=>B4 (B4 (Hh m p i*256)+B4 (Cf m (p+i)))
def Cs (w:List Int) (t:Nat):Int:=w.getD t 0
def sig1 (x:Int):Int:=Bg .xor .u32 (Bg .xor .u32 (Fq x 17) (Fq x 19)) (shrI .u32 x 10)
def sig0 (x:Int):Int:=Bg .xor .u32 (Bg .xor .u32 (Fq x 7) (Fq x 18)) (shrI .u32 x 3)
def extI (w:List Int) (t:Nat):Int:=B4 (B4 (B4 (sig1 (Cs w (t - 2))+Cs w (t - 7))+sig0 (Cs w (t - 15)))+Cs w (t - 16))
def sched (m:Ad) (p:Nat):Nat→List Int
 |0=>[]
 |t+1=>sched m p t++[if t<16 then Hh m (p+4*t) 4 else extI (sched m p t) t]
theorem B7 (m:Ad) (p:Nat):∀t,(sched m p t).length=t
 |0=>rfl
 |t+1=>by simp[sched,B7 m p t]
structure H8 where
 (a b c d e f g i:Int)
def H8.l (h:H8):List Int:=[h.a,h.b,h.c,h.d,h.e,h.f,h.g,h.i]
def rnd1 (h:H8) (k w:Int):Int:=
 B4 (B4 (B4 (B4 (h.i+Bg .xor .u32 (Bg .xor .u32 (Fq h.e 6) (Fq h.e 11)) (Fq h.e 25))+Bg .xor .u32 (Bg .and .u32 h.e h.f) (Bg .and .u32 (Bg .xor .u32 4294967295 h.e) h.g))+k)+w)
def rnd2 (h:H8):Int:=B4 (Bg .xor .u32 (Bg .xor .u32 (Fq h.a 2) (Fq h.a 13)) (Fq h.a 22)+Bg .xor .u32 (Bg .xor .u32 (Bg .and .u32 h.a h.b) (Bg .and .u32 h.a h.c)) (Bg .and .u32 h.b h.c))
def rnd (h:H8) (k w:Int):H8:=⟨B4 (rnd1 h k w+rnd2 h),h.a,h.b,h.c,B4 (h.d+rnd1 h k w),h.e,h.f,h.g⟩
def rnds (w:List Int) (h:H8):Nat→H8
 |0=>h
 |t+1=>rnd (rnds w h t) (Cs kays t) (Cs w t)
def addH (x y:H8):H8:=⟨B4 (x.a+y.a),B4 (x.b+y.b),B4 (x.c+y.c),B4 (x.d+y.d),B4 (x.e+y.e),B4 (x.f+y.f),B4 (x.g+y.g),B4 (x.i+y.i)⟩
def H4 (m:Ad) (p:Nat) (h:H8):H8:=addH h (rnds (sched m p 64) h 64)
def H0:H8:=⟨0x6a09e667,0xbb67ae85,0x3c6ef372,0xa54ff53a,0x510e527f,0x9b05688c,0x1f83d9ab,0x5be0cd19⟩
def blocks (m:Ad):Nat→H8
 |0=>H0
 |n+1=>H4 m (64*n) (blocks m n)
def zeros (n:Nat):Nat:=(119 - n % 64) % 64
def padB (s:Ad):Ad:=s++[128]++List.replicate (zeros s.length) 0++Bq (8*s.length) 8
def outB (h:H8) (t:Nat):Ad:=(h.l.take t).flatMap fun x=>Bq x.toNat 4
def sumB (s:Ad):Ad:=outB (blocks (padB s) ((padB s).length / 64)) 8
theorem X2 (n:Int):0≤B4 n∧B4 n<4294967296:=by unfold B4;rw[wrap_u32];omega
theorem Wu (s:Ad):(padB s).length=64*((padB s).length / 64):=by
 simp only[padB,List.length_append,List.length_replicate,Bh,zeros,List.length_singleton]
 omega
def Bo (l:List Ad):Ad:=l.flatMap fun s=>Bq s.length 8++s
def A4 (h:H8) (m:Ad):Nat→H8
 |0=>h
 |n+1=>H4 m (64*n) (A4 h m n)

open Go.Op
theorem Aq5 (op:BinOp) (x y:Nat) (hx:x<4294967296) (hy:y<4294967296):Bg .or .u32 (x:Int) (y:Int)=((x ||| y:Nat):Int):=by
 have h1:(BitVec.ofInt 32 (x:Int)).toNat=x:=by rw[BitVec.ofInt_natCast,BitVec.toNat_ofNat];exact Nat.mod_eq_of_lt hx
 have h2:(BitVec.ofInt 32 (y:Int)).toNat=y:=by rw[BitVec.ofInt_natCast,BitVec.toNat_ofNat];exact Nat.mod_eq_of_lt hy
 show IntKind.u32.wrap (((BitVec.ofInt 32 (x:Int)) ||| (BitVec.ofInt 32 (y:Int))).toNat:Int)=_
 rw[BitVec.toNat_or,h1,h2,wrap_u32]
 have:x ||| y<2^32:=Nat.or_lt_two_pow (by omega) (by omega)
 omega
theorem Aak (a y s:Nat) (hy:y<2^s) (hl:a*2^s+y<4294967296):Bg .or .u32 ((a*2^s:Nat):Int) (y:Int)=((a*2^s+y:Nat):Int):=by
 rw[Aq5 .or _ _ (by omega) (by omega), ←Nat.shiftLeft_eq, ←Nat.shiftLeft_add_eq_or_of_lt hy]
theorem An2 (x y:Int):Bg .or .u32 x y=Bg .or .u32 y x:=by
 unfold Bg
 simp only[BitVec.or_comm]
def Zw (m:Ad) (p:Nat):Int:=Bg .or .u32 (Bg .or .u32 (Bg .or .u32 (shlI .u32 (B4 (Cf m p)) 24) (shlI .u32 (B4 (Cf m (p+1))) 16)) (shlI .u32 (B4 (Cf m (p+2))) 8)) (B4 (Cf m (p+3)))
theorem Ph (m:Ad) (p:Nat):∃b:Nat,Cf m p=(b:Int)∧b<256:=⟨_,rfl,(m.getD p 0).toNat_lt⟩
theorem Ag7 (m:Ad) (p:Nat):Zw m p=Hh m p 4:=by
 obtain⟨b0,e0,h0⟩:=Ph m p
 obtain⟨b1,e1,h1⟩:=Ph m (p+1)
 obtain⟨b2,e2,h2⟩:=Ph m (p+2)
 obtain⟨b3,e3,h3⟩:=Ph m (p+3)
 have hw:∀b:Nat,b<4294967296→B4 (b:Int)=(b:Int):=fun b h=>by unfold B4;rw[wrap_u32];omega
 have hs:∀b k:Nat,b*2^k<4294967296→k≤32→shlI .u32 (b:Int) (k:Int)=((b*2^k:Nat):Int):=fun b k h hk=>by
  show B4 ((b:Int)*2^(min (Int.toNat (k:Int)) 32))=_
  rw[Int.toNat_natCast,Nat.min_eq_left hk]
  have:(b:Int)*2^k=((b*2^k:Nat):Int):=by push_cast;rfl
  rw[this]
  exact hw _ h
 have c1:=Aak b0 (b1*65536) 24 (by omega) (by omega)
 have c2:=Aak (b0*256+b1) (b2*256) 16 (by omega) (by omega)
 have c3:=Aak (b0*65536+b1*256+b2) b3 8 (by omega) (by omega)
 have s0:=hs b0 24 (by omega) (by omega)
 have s1:=hs b1 16 (by omega) (by omega)
 have s2:=hs b2 8 (by omega) (by omega)
 have l:Zw m p=((b0*16777216+b1*65536+b2*256+b3:Nat):Int):=by
  unfold Zw
  rw[e0,e1,e2,e3,hw b0 (by omega),hw b1 (by omega),hw b2 (by omega),hw b3 (by omega)]
  rw[show((24:Int))=((24:Nat):Int)from rfl,s0,show((16:Int))=((16:Nat):Int)from rfl,s1,show((8:Int))=((8:Nat):Int)from rfl,s2]
  rw[show b1*2^16=b1*65536 from rfl,c1,show b0*2^24+b1*65536=(b0*256+b1)*2^16 by omega,show b2*2^8=b2*256 from rfl,c2,
   show(b0*256+b1)*2^16+b2*256=(b0*65536+b1*256+b2)*2^8 by omega,c3]
 rw[l]
 simp only[Hh,Nat.add_zero,e0,e1,e2,e3,B4,wrap_u32]
 omega
def padW (l:List Int):List Int:=l++List.replicate (64 - l.length) 0
theorem Ke {l:List Int} (h:l.length≤64):(padW l).length=64:=by simp[padW];omega
theorem Gf {l:List Int} {k:Nat} {x:Int} (h:l[k]?=some x):(padW l)[k]?=some x:=by
 rw[padW,List.getElem?_append_left (by rw[List.getElem?_eq_some_iff]at h;exact h.1)]
 exact h
theorem Tu {l:List Int} {x:Int} (h:l.length<64):(padW l).set l.length x=padW (l++[x]):=by
 obtain⟨k,hk⟩:∃k,64 - l.length=k+1:=⟨63 - l.length,by omega⟩
 have hk':64 - (l++[x]).length=k:=by simp;omega
 rw[padW,padW,hk,hk',List.set_append_right _ _ (Nat.le_refl _),Nat.sub_self,List.replicate_succ,List.set_cons_zero,List.append_assoc]
 rfl
theorem Ai1 (w:List Int) (t:Nat):B4 (B4 (B4 (Cs w (t - 16)+sig0 (Cs w (t - 15)))+Cs w (t - 7))+sig1 (Cs w (t - 2)))=extI w t:=by
 unfold extI B4
 simp only[wrap_u32]
 omega
abbrev u32s (l:List Int):I:=.arr 1 (l.map (I.int .u32))
theorem Dm {l:List Int} {k:Nat} {x:Int} (h:l[k]?=some x):(SV.box (T.one (F.i (u32s l)))).hit 0 ([]++[Int.toNat (k:Int)])=some (k*1,.item (.int .u32 x)):=by
 show hitI 0 ((u32s l).sub [Int.toNat (k:Int)])=_
 rw[Int.toNat_natCast]
 simp[I.sub,hitI,h]
theorem V2 {l:List Int} {k:Nat} {x:Int} (h:l[k]?=some x) (y:Int):(u32s l).put ([]++[Int.toNat (k:Int)]) (.int .u32 y)=u32s (l.set k y):=by
 rw[Int.toNat_natCast]
 simp[I.put,h]
set_option maxHeartbeats 8000000

open Go.Proofs
def rotS (k:Int):Int:=Bg .and .u64 (IntKind.u64.wrap k) 31
def rotI (x k:Int):Int:=Bg .or .u32 (shlI .u32 x (rotS k)) (shrI .u32 x (IntKind.u64.wrap (32 - rotS k)))
theorem Zr (n:Int):0≤IntKind.u64.wrap n:=by rw[wrap_u64];omega
theorem Ahy (k:Int):0≤Bg .and .u64 (IntKind.u64.wrap k) 31:=by unfold Bg;exact Zr _
theorem Aqi (x k:Int):Fn Tryz.prog Fx [.v (.int .u32 x),.v (.int .i64 k)] (Is (.v (.int .u32 (rotI x k))) [.no,.no]):=by
 refine Lx ?_ (by simp)
 have h1:=Ahy k
 have h2:=Zr (32 - Bg .and .u64 (IntKind.u64.wrap k) 31)
 repeat'((conv=>whnf);(refine eI ?_ ?_;focus (and_intros<;>first|omega|exact rfl)))
 all_goals(try(conv=>whnf))
 exact Done.mk ⟨rfl,by kernel_rfl⟩ (by kernel_rfl)
theorem Ap9 {x k j:Int} (h1:rotS k=32 - j) (h2:0≤j∧j≤32):rotI x k=Fq x j:=by
 unfold rotI Fq
 rw[h1,show 32 - (32 - j)=j by omega,An2,wrap_u64,wrap_u64,Int.emod_eq_of_lt (by omega) (by omega),Int.emod_eq_of_lt (by omega) (by omega)]
theorem B1 (x k j:Int) (h1:rotS k=32 - j:=by decide) (h2:0≤j∧j≤32:=by decide):Fn Tryz.prog Fx [.v (.int .u32 x),.v (.int .i64 k)] (Is (.v (.int .u32 (Fq x j))) [.no,.no]):=by
 rw[←Ap9 h1 h2]
 exact Aqi x k
theorem Vp:Fn Tryz.prog Aci [] (Is (.v (u32s kays)) []):=by
 refine Aae ?_ (by simp)
 repeat'((conv=>whnf);(refine eI ?_ ?_;focus (and_intros<;>first|omega|exact rfl|exact A0 (by rfl))))
 all_goals(try(conv=>whnf))
 exact Done.mk ⟨by kernel_rfl,by kernel_rfl⟩ (by kernel_rfl)
theorem Aik:Fn Tryz.prog Adu [] (Is (.v (u32s H0.l)) []):=by
 refine Ac2 ?_ (by simp)
 repeat'((conv=>whnf);(refine eI ?_ ?_;focus (and_intros<;>first|omega|exact rfl|exact A0 (by rfl))))
 all_goals(try(conv=>whnf))
 exact Done.mk ⟨by kernel_rfl,by kernel_rfl⟩ (by kernel_rfl)
structure Strm where
 (w:H8) (e:TypeId) (rest:Ad) (size:Int)
abbrev Strm.toD (s:Strm):D:=.ptr (.st [.it (u32s s.w.l),.vec s.e 1 ((s.rest.map A2).map D.it),.it (.int .u64 s.size)])
theorem Ao3:Fn Tryz.prog X0 [] (Is (.own [] (Strm.toD ⟨H0,Aq2,[],0⟩)) []):=by
 refine Ae8 ?_ (by simp)
 repeat'((conv=>whnf);first|(refine eI ?_ ?_;focus (and_intros<;>first|exact rfl|(intro _ hh;cases hh;done)|decide))|(refine CallWp.mk ⟨_,Aik,?_⟩;rintro _ _ ⟨rfl,rfl⟩))
 all_goals(try(conv=>whnf))
 exact Done.mk ⟨by kernel_rfl,by kernel_rfl⟩ (by kernel_rfl)

open Go.Proofs
abbrev byD (l:Ad):List D:=(l.map A2).map D.it
def ee (e n:Nat):Nat:=if n=0 then e else if e<1000000 then e+1000000 else e
theorem Ai0 (e n:Nat):(if ee e n<1000000 then ee e n+1000000 else ee e n)=ee e (n+1):=by
 unfold ee;by_cases h:n=0<;>by_cases g:e<1000000<;>simp[h,g]<;>omega
def addN (x y:H8) (j:Nat):H8:=⟨if 0<j then B4 (x.a+y.a)else x.a,if 1<j then B4 (x.b+y.b)else x.b,if 2<j then B4 (x.c+y.c)else x.c,if 3<j then B4 (x.d+y.d)else x.d,
 if 4<j then B4 (x.e+y.e)else x.e,if 5<j then B4 (x.f+y.f)else x.f,if 6<j then B4 (x.g+y.g)else x.g,if 7<j then B4 (x.i+y.i)else x.i⟩
def Strm.write (s:Strm) (t:Ad):Strm:=
 let n:=(s.rest++t).length / 64
 ⟨A4 s.w (s.rest++t) n,ee s.e n,(s.rest++t).drop (64*n),IntKind.u64.wrap (s.size+IntKind.u64.wrap (t.length:Int))⟩
set_option pp.maxSteps 100000 in
set_option pp.deepTerms true in
theorem Amt (s:Strm) (tx:Ad) (he:s.e<1000000→s.e=5) (hl:s.rest.length+tx.length≤100000000):
 Fn Tryz.prog Jn [.own [] (Strm.toD s),.v (.str tx)] (Is (resD []) [.own [] (s.write tx).toD,.no]):=by
 refine Sm ?_ (by simp)
 unfold Strm.write
 obtain⟨w,e,rest,size⟩:=s
 simp only at he hl ⊢
 have e1:((rest.map A2).length+(tx.map A2).length)*1≤140737488355328:=by simp only[List.length_map];omega
 have e2:(rest.map A2).length+(tx.map A2).length≤maxLen:=by simp only[List.length_map,maxLen];omega
 repeat'((conv=>whnf);first|(apply aI<;>intro hb<;>first|exact absurd hb (by decide)|((try rw[hb]);(try simp only[Aa]at hb)))|(refine eI ?_ ?_;focus (and_intros<;>first|omega|exact rfl|exact size_map (fun _=>rfl)|(simp;done)))|(intro hfact)|((try dsimp only);rw[F1]))
 all_goals(try(conv=>whnf))
 have hBl:(rest++tx).length=rest.length+tx.length:=List.length_append
 rw[←hBl]at hl
 rw[show List.map A2 rest++List.map A2 tx=List.map A2 (rest++tx)from List.map_append.symm]
 obtain⟨B,hB⟩:∃B,B=rest++tx:=⟨_,rfl⟩
 rw[←hB]at hBl hl ⊢
 obtain⟨z,hz⟩:∃z,z=IntKind.u64.wrap (size+IntKind.u64.wrap (tx.length:Int)):=⟨_,rfl⟩
 rw[←hz]
 clear e1 e2 hB hz
 refine LoopWq.by (X:=Nat) (fun n=>[(48,.own [] (Strm.toD ⟨A4 w B n,ee e n,B.drop (64*n),z⟩))]) (fun n=>64*n≤B.length) (fun n=>B.length - 64*n)
  0 (by kernel_rfl) (by omega) ?_
 intro n hn
 obtain⟨R,hR⟩:∃R,R=B.drop (64*n):=⟨_,rfl⟩
 have hRl:R.length=B.length - 64*n:=by rw[hR,List.length_drop]
 rw[←hR]
 by_cases hnN:64≤R.length
 case neg=>
  have hlt:¬decide ((64:Int)≤((R.map A2).length:Int))=true:=by simp;omega
  repeat'((conv=>whnf);first|(apply aI<;>intro hb<;>first|(exfalso;simp only[Ag]at hb<;>omega)|((try rw[hb]);(try simp only[Aa]at hb)))|(refine eI ?_ ?_;focus (and_intros<;>first|omega|exact rfl|(simp;done)))|(intro hfact))
  all_goals(try(conv=>whnf))
  have hn':n=B.length / 64:=by omega
  subst hn'
  rw[←hR]
  exact Done.mk ⟨by kernel_rfl,by kernel_rfl⟩ (by kernel_rfl)
 have hlt:¬decide ((64:Int)≤((R.map A2).length:Int))=false:=by simp;omega
 repeat'((conv=>whnf);first|(apply aI<;>intro hb<;>first|(exfalso;simp only[Ag]at hb<;>omega)|((try rw[hb]);(try simp only[Aa]at hb)))|(refine eI ?_ ?_;focus (and_intros<;>first|omega|exact rfl|(simp only[Ag];omega)|(simp;done)))|(intro hfact)|((with_reducible apply Drawn.by0);(focus kernel_rfl);intro hfact;(try simp only[dRS]at hfact)))
 all_goals(try(conv=>whnf))
 refine Jo ?_ (by decide)
 (conv=>whnf)
 all_goals(try(conv=>whnf))
 refine LoopWq.by (X:=Nat) (fun i=>[(4,.box (.one (.i (u32s (padW (sched B (64*n) i)))))),(17,.v (.int .i64 i))]) (fun i=>i≤16) (fun i=>16 - i)
  0 (by kernel_rfl) (by omega) ?_
 intro i hi
 by_cases hi16:i<16
 case pos=>
  have hlt1:¬decide ((i:Int)<16)=false:=by simp;omega
  have w0:IntKind.i64.wrap (4*(i:Int))=((4*i:Nat):Int):=by
   rw[show 4*(i:Int)=((4*i:Nat):Int)by omega];exact A5 (by omega)
  have w1:IntKind.i64.wrap (((4*i:Nat):Int)+1)=((4*i+1:Nat):Int):=by
   rw[show((4*i:Nat):Int)+1=((4*i+1:Nat):Int)by omega];exact A5 (by omega)
  have w2:IntKind.i64.wrap (((4*i:Nat):Int)+2)=((4*i+2:Nat):Int):=by
   rw[show((4*i:Nat):Int)+2=((4*i+2:Nat):Int)by omega];exact A5 (by omega)
  have w3:IntKind.i64.wrap (((4*i:Nat):Int)+3)=((4*i+3:Nat):Int):=by
   rw[show((4*i:Nat):Int)+3=((4*i+3:Nat):Int)by omega];exact A5 (by omega)
  have g:∀k:Nat,k<64→(List.map D.it (List.map A2 R))[Int.toNat 0+Int.toNat (k:Int)]?=some (.it (.int .u8 (Cf B (64*n+k)))):=fun k hk=>by
   obtain⟨b,hb⟩:∃b,R[k]?=some b:=⟨_,List.getElem?_eq_getElem (by omega)⟩
   have hb':B[64*n+k]?=some b:=by rw[←hb,hR,List.getElem?_drop]
   rw[Int.toNat_natCast,show Int.toNat 0+k=k by simp,List.getElem?_map,List.getElem?_map,hb,Cf,List.getD_eq_getElem?_getD,hb']
   rfl
  have gD:∀(k:Nat) (_:k<64) (h8:H8) (e':Nat),D.at [0,1,Int.toNat 0+Int.toNat (k:Int)] (Strm.toD ⟨h8,e',R,z⟩)=some (.it (.int .u8 (Cf B (64*n+k)))):=fun k hk h8 e'=>by
   show(match(List.map D.it (List.map A2 R))[Int.toNat 0+Int.toNat (k:Int)]? with|some y=>D.at [] y|none=>none)=_
   rw[g k hk]
   rfl
  have hsl:=B7 B (64*n) i
  obtain⟨v0,hv0⟩:∃v0,(padW (sched B (64*n) i))[i]?=some v0:=⟨_,List.getElem?_eq_getElem (by rw[Ke (by omega)];omega)⟩
  have hh:=Dm hv0
  have hp:=V2 hv0
  repeat'((conv=>whnf);first|(apply aI<;>intro hb<;>first|exact absurd hb (by assumption)|((try rw[hb]);(try simp only[Aa]at hb)))|(refine eI ?_ ?_;focus (and_intros<;>first|omega|exact rfl|(simp;done)))|((with_reducible apply Drawn.by0);(focus kernel_rfl);intro hfact;(try simp only[dRS]at hfact))|((try dsimp only);rw[w0])|((try dsimp only);rw[w1])|((try dsimp only);rw[w2])|((try dsimp only);rw[w3])|(refine Bm rfl (gD _ (by omega) _ _) rfl ?_)|((try dsimp only);rw[hh]))
  all_goals(try(conv=>whnf))
  have hset:padW (sched B (64*n) (i+1))=(padW (sched B (64*n) i)).set i (Zw B (64*n+4*i)):=by
   rw[sched,if_pos hi16, ←Ag7, ←Tu (by rw[hsl];omega),hsl]
  refine Round.by (i+1) ?_ (by omega) (by omega)
  rw[Ae hi16 (by simp only[maxLen];omega),hset,hp]
  show norm _ _=upd _ _
  kernel_rfl
 have hlt1:¬decide ((i:Int)<16)=true:=by simp;omega
 have hi':i=16:=by omega
 subst hi'
 clear hlt1 hi hi16
 repeat'((conv=>whnf);(apply aI<;>intro hb<;>first|exact absurd hb (by decide)|((try rw[hb]);(try simp only[Aa]at hb))))
 all_goals(try(conv=>whnf))
 refine LoopWq.by (X:=Nat) (fun t=>[(4,.box (.one (.i (u32s (padW (sched B (64*n) t)))))),(6,.v (.int .i64 t))]) (fun t=>16≤t∧t≤64) (fun t=>64 - t)
  16 (by kernel_rfl) (by omega) ?_
 rintro t ⟨ht1,ht2⟩
 by_cases ht64:t<64
 case pos=>
  have hlt1:¬decide ((t:Int)<64)=false:=by simp;omega
  have hsl:=B7 B (64*n) t
  have hset:padW (sched B (64*n) (t+1))=(padW (sched B (64*n) t)).set t (extI (sched B (64*n) t) t):=by
   rw[sched,if_neg (by omega), ←Tu (by rw[hsl];omega),hsl]
  rw[←Ai1]at hset
  obtain⟨w,hw⟩:∃w,w=sched B (64*n) t:=⟨_,rfl⟩
  rw[←hw]at hsl hset ⊢
  have g:∀j,j<t→w[j]?=some (Cs w j):=fun j hj=>by
   rw[Cs,List.getD_eq_getElem?_getD,List.getElem?_eq_getElem (by omega)];rfl
  have hwr:∀j:Nat,j≤t→IntKind.i64.wrap ((t:Int) - (j:Int))=((t - j:Nat):Int):=fun j hj=>by
   rw[show(t:Int) - (j:Int)=((t - j:Nat):Int)by omega];exact A5 (by omega)
  have w2:IntKind.i64.wrap ((t:Int) - 2)=((t - 2:Nat):Int):=hwr 2 (by omega)
  have w7:IntKind.i64.wrap ((t:Int) - 7)=((t - 7:Nat):Int):=hwr 7 (by omega)
  have w15:IntKind.i64.wrap ((t:Int) - 15)=((t - 15:Nat):Int):=hwr 15 (by omega)
  have w16:IntKind.i64.wrap ((t:Int) - 16)=((t - 16:Nat):Int):=hwr 16 (by omega)
  have h2:=Dm (Gf (g (t - 2) (by omega)))
  have h7:=Dm (Gf (g (t - 7) (by omega)))
  have h15:=Dm (Gf (g (t - 15) (by omega)))
  have h16:=Dm (Gf (g (t - 16) (by omega)))
  obtain⟨v0,hv0⟩:∃v0,(padW w)[t]?=some v0:=⟨_,List.getElem?_eq_getElem (by rw[Ke (by omega)];omega)⟩
  have hh:=Dm hv0
  have hp:=V2 hv0
  repeat'((conv=>whnf);first|(apply aI<;>intro hb<;>first|exact absurd hb (by assumption)|((try rw[hb]);(try simp only[Aa]at hb)))|(refine eI ?_ ?_;focus (and_intros<;>first|omega|exact rfl|(intro _ hh;cases hh;done)|(simp;done)|decide))|((with_reducible apply Drawn.by0);(focus kernel_rfl);intro hfact;(try simp only[dRS]at hfact))|((try dsimp only);rw[w2])|((try dsimp only);rw[w7])|((try dsimp only);rw[w15])|((try dsimp only);rw[w16])|((try dsimp only);rw[h2])|((try dsimp only);rw[h7])|((try dsimp only);rw[h15])|((try dsimp only);rw[h16])|((try dsimp only);rw[hh])|(refine CallWp.mk ⟨_,B1 _ (-7) 7,?_⟩;rintro _ _ ⟨rfl,rfl⟩)|(refine CallWp.mk ⟨_,B1 _ (-18) 18,?_⟩;rintro _ _ ⟨rfl,rfl⟩)|(refine CallWp.mk ⟨_,B1 _ (-17) 17,?_⟩;rintro _ _ ⟨rfl,rfl⟩)|(refine CallWp.mk ⟨_,B1 _ (-19) 19,?_⟩;rintro _ _ ⟨rfl,rfl⟩))
  all_goals(try(conv=>whnf))
  refine Round.by (t+1) ?_ ⟨by omega,ht64⟩ (by omega)
  rw[Ae ht64 (by simp only[maxLen];omega),hset,hp]
  show norm _ _=upd _ _
  kernel_rfl
 have hlt1:¬decide ((t:Int)<64)=true:=by simp;omega
 have ht':t=64:=by omega
 subst ht'
 have hsl:=B7 B (64*n) 64
 have hpd:padW (sched B (64*n) 64)=sched B (64*n) 64:=by rw[padW,hsl];exact List.append_nil _
 rw[hpd]
 have hnext:A4 w B (n+1)=addH (A4 w B n) (rnds (sched B (64*n) 64) (A4 w B n) 64):=rfl
 obtain⟨W,hW⟩:∃W,W=sched B (64*n) 64:=⟨_,rfl⟩
 rw[←hW]at hsl hnext ⊢
 obtain⟨H,hH⟩:∃H,H=A4 w B n:=⟨_,rfl⟩
 rw[←hH]at hnext ⊢
 clear hpd hlt1 ht1 ht2 ht64
 repeat'((conv=>whnf);first|(apply aI<;>intro hb<;>first|exact absurd hb (by decide)|((try rw[hb]);(try simp only[Aa]at hb)))|(refine eI ?_ ?_;focus (and_intros<;>first|omega|exact rfl|(intro _ hh;cases hh;done)|(simp;done)|decide))|(refine CallWp.mk ⟨_,Vp,?_⟩;rintro _ _ ⟨rfl,rfl⟩))
 all_goals(try(conv=>whnf))
 refine LoopWq.by (X:=Nat) (fun t=>[(9,.box (.one (.i (u32s (rnds W H t).l)))),(103,.v (.int .i64 t))]) (fun t=>t≤64) (fun t=>64 - t)
  0 (by kernel_rfl) (by omega) ?_
 intro t ht
 by_cases ht64:t<64
 case pos=>
  have hlt1:¬decide ((t:Int)<64)=false:=by simp;omega
  have hgk:kays[t]?=some (Cs kays t):=by
   rw[Cs,List.getD_eq_getElem?_getD,List.getElem?_eq_getElem (show t<kays.length from ht64)];rfl
  have hgw:W[t]?=some (Cs W t):=by
   rw[Cs,List.getD_eq_getElem?_getD,List.getElem?_eq_getElem (by omega)];rfl
  have hh:=Dm hgw
  have hr:rnds W H (t+1)=rnd (rnds W H t) (Cs kays t) (Cs W t):=rfl
  obtain⟨Q,hQ⟩:∃R,R=rnds W H t:=⟨_,rfl⟩
  rw[←hQ]at hr ⊢
  obtain⟨kt,hkt⟩:∃k,k=Cs kays t:=⟨_,rfl⟩
  rw[←hkt]at hr hgk
  obtain⟨wt,hwt⟩:∃k,k=Cs W t:=⟨_,rfl⟩
  rw[←hwt]at hr hh
  clear hQ hkt hwt
  repeat'((conv=>whnf);first|(apply aI<;>intro hb<;>first|exact absurd hb (by assumption)|((try rw[hb]);(try simp only[Aa]at hb)))|(refine eI ?_ ?_;focus (and_intros<;>first|omega|exact rfl|(intro _ hh;cases hh;done)|exact A0 (by rfl)|(simp;done)|decide))|((with_reducible apply Drawn.by0);(focus kernel_rfl);intro hfact;(try simp only[dRS]at hfact))|((try dsimp only);first|rw[Au hgk]|rw[Am hgk]|rw[An hgk])|((try dsimp only);rw[hh])|(refine CallIs.mk ⟨_,_,B1 _ (-6) 6,?_⟩)|(refine CallIs.mk ⟨_,_,B1 _ (-11) 11,?_⟩)|(refine CallIs.mk ⟨_,_,B1 _ (-25) 25,?_⟩)|(refine CallIs.mk ⟨_,_,B1 _ (-2) 2,?_⟩)|(refine CallIs.mk ⟨_,_,B1 _ (-13) 13,?_⟩)|(refine CallIs.mk ⟨_,_,B1 _ (-22) 22,?_⟩))
  all_goals(try(conv=>whnf))
  refine Round.by (t+1) ?_ (by omega) (by omega)
  rw[Ae ht64 (by simp only[maxLen];omega),hr]
  show norm _ _=upd _ _
  kernel_rfl
 have hlt1:¬decide ((t:Int)<64)=true:=by simp;omega
 have ht':t=64:=by omega
 subst ht'
 clear hlt1 ht ht64
 obtain⟨Q,hQ⟩:∃R,R=rnds W H 64:=⟨_,rfl⟩
 rw[←hQ]at hnext ⊢
 repeat'((conv=>whnf);(apply aI<;>intro hb<;>first|exact absurd hb (by decide)|((try rw[hb]);(try simp only[Aa]at hb))))
 all_goals(try(conv=>whnf))
 refine LoopWq.by (X:=Nat) (fun j=>[(245,.own [] (Strm.toD ⟨addN H Q j,ee e n,R,z⟩)),(182,.v (.int .i64 j))]) (fun j=>j≤8) (fun j=>8 - j)
  0 (by kernel_rfl) (by omega) ?_
 intro j hj
 by_cases hj8:j<8
 case pos=>
  have hj':j=0∨j=1∨j=2∨j=3∨j=4∨j=5∨j=6∨j=7:=by omega
  clear hj hj8
  rcases hj' with rfl|rfl|rfl|rfl|rfl|rfl|rfl|rfl
  ·repeat'((conv=>whnf);first|(apply aI<;>intro hb<;>first|exact absurd hb (by decide)|((try rw[hb]);(try simp only[Aa]at hb)))|(refine eI ?_ ?_;focus (and_intros<;>first|omega|exact rfl|(simp;done)))|((with_reducible apply Drawn.by0);(focus kernel_rfl);intro hfact;(try simp only[dRS]at hfact))|((refine Exists.intro ⟨by omega,by omega,(show(_:Nat)<8 from by omega),rfl,by simp⟩ ?_)))
   all_goals(try(conv=>whnf))
   refine Round.by 1 ?_ (by omega) (by omega)
   show norm _ _=upd _ _
   kernel_rfl
  ·repeat'((conv=>whnf);first|(apply aI<;>intro hb<;>first|exact absurd hb (by decide)|((try rw[hb]);(try simp only[Aa]at hb)))|(refine eI ?_ ?_;focus (and_intros<;>first|omega|exact rfl|(simp;done)))|((with_reducible apply Drawn.by0);(focus kernel_rfl);intro hfact;(try simp only[dRS]at hfact))|((refine Exists.intro ⟨by omega,by omega,(show(_:Nat)<8 from by omega),rfl,by simp⟩ ?_)))
   all_goals(try(conv=>whnf))
   refine Round.by 2 ?_ (by omega) (by omega)
   show norm _ _=upd _ _
   kernel_rfl
  ·repeat'((conv=>whnf);first|(apply aI<;>intro hb<;>first|exact absurd hb (by decide)|((try rw[hb]);(try simp only[Aa]at hb)))|(refine eI ?_ ?_;focus (and_intros<;>first|omega|exact rfl|(simp;done)))|((with_reducible apply Drawn.by0);(focus kernel_rfl);intro hfact;(try simp only[dRS]at hfact))|((refine Exists.intro ⟨by omega,by omega,(show(_:Nat)<8 from by omega),rfl,by simp⟩ ?_)))
   all_goals(try(conv=>whnf))
   refine Round.by 3 ?_ (by omega) (by omega)
   show norm _ _=upd _ _
   kernel_rfl
  ·repeat'((conv=>whnf);first|(apply aI<;>intro hb<;>first|exact absurd hb (by decide)|((try rw[hb]);(try simp only[Aa]at hb)))|(refine eI ?_ ?_;focus (and_intros<;>first|omega|exact rfl|(simp;done)))|((with_reducible apply Drawn.by0);(focus kernel_rfl);intro hfact;(try simp only[dRS]at hfact))|((refine Exists.intro ⟨by omega,by omega,(show(_:Nat)<8 from by omega),rfl,by simp⟩ ?_)))
   all_goals(try(conv=>whnf))
   refine Round.by 4 ?_ (by omega) (by omega)
   show norm _ _=upd _ _
   kernel_rfl
  ·repeat'((conv=>whnf);first|(apply aI<;>intro hb<;>first|exact absurd hb (by decide)|((try rw[hb]);(try simp only[Aa]at hb)))|(refine eI ?_ ?_;focus (and_intros<;>first|omega|exact rfl|(simp;done)))|((with_reducible apply Drawn.by0);(focus kernel_rfl);intro hfact;(try simp only[dRS]at hfact))|((refine Exists.intro ⟨by omega,by omega,(show(_:Nat)<8 from by omega),rfl,by simp⟩ ?_)))
   all_goals(try(conv=>whnf))
   refine Round.by 5 ?_ (by omega) (by omega)
   show norm _ _=upd _ _
   kernel_rfl
  ·repeat'((conv=>whnf);first|(apply aI<;>intro hb<;>first|exact absurd hb (by decide)|((try rw[hb]);(try simp only[Aa]at hb)))|(refine eI ?_ ?_;focus (and_intros<;>first|omega|exact rfl|(simp;done)))|((with_reducible apply Drawn.by0);(focus kernel_rfl);intro hfact;(try simp only[dRS]at hfact))|((refine Exists.intro ⟨by omega,by omega,(show(_:Nat)<8 from by omega),rfl,by simp⟩ ?_)))
   all_goals(try(conv=>whnf))
   refine Round.by 6 ?_ (by omega) (by omega)
   show norm _ _=upd _ _
   kernel_rfl
  ·repeat'((conv=>whnf);first|(apply aI<;>intro hb<;>first|exact absurd hb (by decide)|((try rw[hb]);(try simp only[Aa]at hb)))|(refine eI ?_ ?_;focus (and_intros<;>first|omega|exact rfl|(simp;done)))|((with_reducible apply Drawn.by0);(focus kernel_rfl);intro hfact;(try simp only[dRS]at hfact))|((refine Exists.intro ⟨by omega,by omega,(show(_:Nat)<8 from by omega),rfl,by simp⟩ ?_)))
   all_goals(try(conv=>whnf))
   refine Round.by 7 ?_ (by omega) (by omega)
   show norm _ _=upd _ _
   kernel_rfl
  ·repeat'((conv=>whnf);first|(apply aI<;>intro hb<;>first|exact absurd hb (by decide)|((try rw[hb]);(try simp only[Aa]at hb)))|(refine eI ?_ ?_;focus (and_intros<;>first|omega|exact rfl|(simp;done)))|((with_reducible apply Drawn.by0);(focus kernel_rfl);intro hfact;(try simp only[dRS]at hfact))|((refine Exists.intro ⟨by omega,by omega,(show(_:Nat)<8 from by omega),rfl,by simp⟩ ?_)))
   all_goals(try(conv=>whnf))
   refine Round.by 8 ?_ (by omega) (by omega)
   show norm _ _=upd _ _
   kernel_rfl
 have hj':j=8:=by omega
 subst hj'
 clear hj hj8
 have hlt1:¬decide ((8:Int)<8)=true:=by simp
 have hadd:addN H Q 8=addH H Q:=rfl
 rw[hadd, ←hnext]
 have hee:(if ee e n<1000000 then ee e n+1000000 else ee e n)=ee e (n+1):=Ai0 e n
 have hdr:List.drop (Int.toNat 64) (List.map A2 R)=List.map A2 (B.drop (64*(n+1))):=by
  rw[←List.map_drop,hR,List.drop_drop]
  congr 2
 repeat'((conv=>whnf);first|(apply aI<;>intro hb<;>first|exact absurd hb (by assumption)|((try rw[hb]);(try simp only[Aa]at hb)))|(refine eI ?_ ?_;focus (and_intros<;>first|omega|exact rfl|(simp only[Ag];omega)|(simp;done)))|((try dsimp only);rw[F1])|((try dsimp only);rw[hee])|((try dsimp only);rw[hdr]))
 all_goals(try(conv=>whnf))
 refine Round.by (n+1) ?_ (by omega) (by omega)
 show norm _ _=upd _ _
 kernel_rfl
end Go.Ab
