/- Lemmas -/
import Derived.Test.YtkpojedpcabojaaDoorNX
set_option linter.unusedVariables false
set_option linter.unusedSimpArgs false
set_option maxRecDepth 100000
set_option maxHeartbeats 40000000
namespace Go.Ab
open Go.Proofs
theorem Fn.strLen{P:Program}{f:FuncId}{s:Az}{rest:List SV}{Post:SV→List SV→Prop}(h:s.length≤maxLen→Fn P f (.v (.str s)::rest) Post):Fn P f (.v (.str s)::rest) Post:=by
 intro G σ Fr w cargs hok hsz hargs;have h0:=(hargs 0 _ rfl).2;exact h (RepV.str.1 h0).2 G σ Fr w cargs hok hsz hargs
theorem Tz(s:Az)(p:Nat)(hp:p<s.length):Lib.decodeGo ⟨⟨s.drop p⟩⟩=Cd s p:=by
 rw[Gp s p];unfold Lib.decodeGo;rw[if_neg]
 ·rfl
 ·show ¬(s.drop p).length=0;rw[List.length_drop];omega
theorem L3(s:Az)(p:Nat)(hp:p<s.length)(r:Int):Fn Tryd.prog Ur [.v (.str s),.v (.int .i64 p),.v (.int .i32 r)] (Is (.v (.bool (decide (r=65533)&&decide ((Cd s p).2=1)))) [.no,.no,.no]):=by
 refine T6 ?_ (by simp)
 have hd:=X6 (s.drop p);rw[Tz s p hp]at hd;by_cases hr:r=65533
 ·have hb0:¬(!decide (r=65533))=true:=by simp[hr]
  repeat'((conv=>whnf);first|(refine aI (fun hb=>?_) (fun hb=>?_)<;>first|(exact absurd hb (by assumption))|((try rw[hb]);(try simp only[Aa]at hb);(try subst hb)))|(refine eI ?_ ?_;focus (and_intros<;>first|omega|exact rfl|(intro _ hh;cases hh;done)|(simp;done)|decide))|((simp only[List.headD,Int.toNat_natCast,List.take_length]))|(refine CallWp.mk ⟨_,hd,?_⟩;rintro _ _ ⟨rfl,rfl⟩))
  all_goals(try(conv=>whnf))
  refine Done.mk ⟨SV.bool_congr ?_,by kernel_rfl⟩ (by kernel_rfl)
  rw[eq_comm,Bool.eq_iff_iff];simp;omega
 ·repeat'((conv=>whnf);(refine aI (fun hb=>?_) (fun hb=>?_)<;>first|(exfalso;((simp only[Bu]at hb<;>omega)))|((try rw[hb]);(try simp only[Aa]at hb))))
  all_goals(try(conv=>whnf))
  all_goals first|contradiction|skip
  refine Done.mk ⟨SV.bool_congr (by simp[hr]),by kernel_rfl⟩ (by kernel_rfl)
theorem Tt(r:Int):Fn Tryd.prog W7 [.v (.int .i32 r)] (Is (.v (.bool (decide (161≤r)))) [.no]):=by
 refine Vj ?_ (by simp)
 (skip)
 all_goals(try(conv=>whnf))
 exact Done.mk ⟨SV.bool_congr (by simp),by kernel_rfl⟩ (by kernel_rfl)
theorem J5{f:Nat}{s:Az}{p n:Nat}{c:UInt8}(hc:s[p]?=some c){k:Nat}(hk:G9 (s.drop p)=(k:Int)):
 Ey (f+1) s p n=(if k=0 then false else if badR k c.toNat p ((s.drop p).take k)=true then false else if 24<n+1 then false else Ey f s (p+k) (n+1)):=by
 rw[Ey,hc];dsimp only;rw[hk,Int.toNat_natCast]
theorem S1{f:Nat}{s:Az}{p n:Nat}{c:UInt8}(hc:s[p]?=some c){k:Nat}(hk:G9 (s.drop p)=(k:Int))(hk0:0<k)(hkl:k≤s.length - p)(hp:p<s.length)
 (hb:badR k c.toNat p ((s.drop p).take k)=false) (h2:s.length<f+1+p) (h3:n≤p) (h4:n≤24→Ey (f+1) s p n=D9 s) (h5:24<n→D9 s=false):
 p+k≤s.length∧s.length<f+(p+k)∧n+1≤p+k∧(n+1≤24→Ey f s (p+k) (n+1)=D9 s)∧(24<n+1→D9 s=false):=by
 refine⟨by omega,by omega,by omega,fun h=>?_,fun h=>?_⟩
 ·rw[←h4 (by omega),J5 hc hk,if_neg (by omega),hb,if_neg (by simp),if_neg (by omega)]
 ·by_cases h24:24<n
  ·exact h5 h24
  ·rw[←h4 (by omega),J5 hc hk,if_neg (by omega),hb,if_neg (by simp),if_pos h]
theorem P9{f:Nat}{s:Az}{p n:Nat}{c:UInt8}(hc:s[p]?=some c){k:Nat}(hk:G9 (s.drop p)=(k:Int))
 (hb:k=0∨badR k c.toNat p ((s.drop p).take k)=true) (h4:n≤24→Ey (f+1) s p n=D9 s) (h5:24<n→D9 s=false):D9 s=false:=by
 by_cases h24:24<n
 ·exact h5 h24
 ·rw[←h4 (by omega),J5 hc hk]
  rcases hb with hb|hb
  ·rw[if_pos hb]
  ·rw[hb];split<;>simp
theorem Aa1(s:Az):Fn Tryd.prog Mr [.v (.str s)] (Is (.v (.bool (D9 s))) [.no]):=Fn.strLen fun hl=>by
 refine T5 ?_ (by simp)
 (skip)
 all_goals(try(conv=>whnf))
 refine LoopWq.by (X:=Nat × Nat × Nat) (fun x=>[(3,.v (.int .i64 x.2.2)),(7,.sit s x.2.1)]) (fun x=>x.2.1≤s.length∧s.length<x.1+x.2.1∧x.2.2≤x.2.1∧(x.2.2≤24→Ey x.1 s x.2.1 x.2.2=D9 s)∧(24<x.2.2→D9 s=false)) (fun x=>s.length - x.2.1)
  (s.length+1,0,0) (by kernel_rfl) ⟨Nat.zero_le _,by dsimp only;omega,Nat.le_refl _,fun _=>rfl,fun h=>by simp at h⟩ ?_
 rintro⟨f,p,n⟩ ⟨h1,h2,h3,h4,h5⟩;dsimp only at h1 h2 h3 h4 h5 ⊢;obtain⟨f,rfl⟩:∃g,f=g+1:=⟨f - 1,by omega⟩
 by_cases hp:p<s.length
 case neg=>
  have hlt:¬decide (p<s.length)=true:=by simp;omega
  have hv:D9 s=(decide (0<n)&&decide (n≤24)):=by
   by_cases h24:n≤24
   ·rw[←h4 h24,Ey,List.getElem?_eq_none (by omega)]
    simp[h24]
   ·rw[h5 (by omega)]
    simp[h24]
  rw[hv];repeat'((conv=>whnf);(refine aI (fun hb=>?_) (fun hb=>?_)<;>first|(exact absurd hb (by first|assumption|decide))|((try rw[hb]);(try simp only[Aa]at hb))))
  all_goals(try(conv=>whnf))
  all_goals refine Done.mk ⟨SV.bool_congr ?_,by kernel_rfl⟩ (by kernel_rfl)
  all_goals(rw[Bool.eq_iff_iff];simp;omega)
 have hlt:¬decide (p<s.length)=false:=by simp[hp]
 obtain⟨c,hc⟩:∃c,s[p]?=some c:=⟨_,List.getElem?_eq_getElem hp⟩;have hdl:(s.drop p).length=s.length - p:=List.length_drop ..;have hwn:IntKind.i64.wrap ((n:Int)+1)=((n+1:Nat):Int):=Dk (n:=maxLen) (by omega) (Nat.le_refl _)
 rcases Z1 (s.drop p) (by omega)with⟨hk,hr⟩|⟨c',t,hd,hk,hr,hc8⟩|⟨k,r,hk2,hk,hkl,hr,hr1,hr2,hit⟩
 ·rw[←Gp]at hr;have hw:=L3 s p hp (65533:Nat);rw[hr]at hw;rw[P9 hc hk (.inl rfl) h4 h5];repeat'((conv=>whnf);first|(refine aI (fun hb=>?_) (fun hb=>?_)<;>first|(exact absurd hb (by first|assumption|decide))|((try rw[hb]);(try simp only[Aa]at hb)))|(refine eI ?_ ?_;focus (and_intros<;>first|(intro _ hh;cases hh;done)|(simp;done)|decide))|((simp only[hr]))|(refine CallWp.mk ⟨_,hw,?_⟩;rintro _ _ ⟨rfl,rfl⟩))
  all_goals(try(conv=>whnf))
  (apply dKq<;>kernel_rfl)
 ·rw[←Gp]at hr;obtain rfl:c=c':=by
   have:=congrArg (fun q=>q[0]?) hd
   simp only[List.getElem?_drop,Nat.add_zero,List.getElem?_cons_zero]at this;rw[hc]at this;exact Option.some.inj this
  have hw:=L3 s p hp (c.toNat:Nat);rw[hr,show(decide (((c.toNat:Nat):Int)=65533)&&decide (((c.toNat,1):Nat × Nat).2=1))=false by simp;omega]at hw
  have hh:=Tt (c.toNat:Nat);rw[show decide (161≤((c.toNat:Nat):Int))=false by simp;omega]at hh
  have hlen:1≤s.length - p:=by omega
  have hgood:=fun hb=>S1 hc (k:=1) hk (by omega) hlen hp hb h2 h3 h4 h5
  have hbad:=fun hb=>P9 (k:=1) hc hk (.inr hb) h4 h5
  rw[hd]at hgood hbad;generalize hm:D9 s=m at*;have hB:∀q,badR 1 (c.toNat:Nat) p q=true↔¬((97≤c.toNat∧c.toNat≤122)∨(48≤c.toNat∧c.toNat≤57)∨c.toNat=95∨(c.toNat=45∧0<p)):=fun q=>by
   simp only[badR];simp;omega
  have hB':∀q,badR 1 (c.toNat:Nat) p q=false↔((97≤c.toNat∧c.toNat≤122)∨(48≤c.toNat∧c.toNat≤57)∨c.toNat=95∨(c.toNat=45∧0<p)):=fun q=>by
   have:=hB q;cases hx:badR 1 (c.toNat:Nat) p q
   ·rw[hx]at this;simp at this;simp;omega
   ·rw[hx]at this;simp at this;simp;omega
  repeat'((conv=>whnf);first|(refine aI (fun hb=>?_) (fun hb=>?_)<;>first|(exact absurd hb (by first|assumption|decide))|(exfalso;((simp only[Bu]at hb<;>omega)))|((try rw[hb]);(try simp only[Aa]at hb)))|(refine eI ?_ ?_;focus (and_intros<;>first|(intro _ hh;cases hh;done)|(simp;done)|decide))|((simp only[hr]))|(refine CallWp.mk ⟨_,hw,?_⟩;rintro _ _ ⟨rfl,rfl⟩)|(refine CallWp.mk ⟨_,hh,?_⟩;rintro _ _ ⟨rfl,rfl⟩))
  all_goals(try(conv=>whnf))
  all_goals first
   |(refine Done.mk ⟨congrArg (fun b=>SV.v (.bool b)) (hbad ((hB _).2 (by omega))).symm,by kernel_rfl⟩ (by kernel_rfl);done)
   |(refine Round.by (f,p+1,n+1) ?_ (hgood ((hB' _).2 (by omega))) (by dsimp only;omega)
     rw[hwn];show norm _ _=upd _ _
     kernel_rfl)
 ·rw[←Gp]at hr;have hw:=L3 s p hp (r:Nat);rw[hr,show(decide (((r:Nat):Int)=65533)&&decide (((r,k):Nat × Nat).2=1))=false by simp;omega]at hw
  have hh:=Tt (r:Nat);have hgood:=fun hb=>S1 hc (k:=k) hk (by omega) (by omega) hp hb h2 h3 h4 h5
  have hbad:=fun hb=>P9 (k:=k) hc hk (.inr hb) h4 h5
  have hB:badR k c.toNat p ((s.drop p).take k)= !decide (161≤r):=by
   simp only[badR,hit];rw[show decide (k=1)=false by simp;omega,show decide (1<k)=true by simp;omega]
   simp
  rw[hB]at hgood hbad;generalize hm:D9 s=m at*;by_cases h161:161≤r
  ·rw[show decide (161≤((r:Nat):Int))=true by simp;omega]at hh
   repeat'((conv=>whnf);first|(refine aI (fun hb=>?_) (fun hb=>?_)<;>first|(exact absurd hb (by first|assumption|decide))|(exfalso;((simp only[Bu]at hb<;>omega)))|((try rw[hb]);(try simp only[Aa]at hb)))|(refine eI ?_ ?_;focus (and_intros<;>first|(intro _ hh;cases hh;done)|(simp;done)|decide))|((simp only[hr]))|(refine CallWp.mk ⟨_,hw,?_⟩;rintro _ _ ⟨rfl,rfl⟩)|(refine CallWp.mk ⟨_,hh,?_⟩;rintro _ _ ⟨rfl,rfl⟩))
   all_goals(try(conv=>whnf))
   refine Round.by (f,p+k,n+1) ?_ (hgood (by simp[h161])) (by dsimp only;omega)
   rw[hwn];show norm _ _=upd _ _
   kernel_rfl
  ·rw[show decide (161≤((r:Nat):Int))=false by simp;omega]at hh
   repeat'((conv=>whnf);first|(refine aI (fun hb=>?_) (fun hb=>?_)<;>first|(exact absurd hb (by first|assumption|decide))|(exfalso;((simp only[Bu]at hb<;>omega)))|((try rw[hb]);(try simp only[Aa]at hb)))|(refine eI ?_ ?_;focus (and_intros<;>first|(intro _ hh;cases hh;done)|(simp;done)|decide))|((simp only[hr]))|(refine CallWp.mk ⟨_,hw,?_⟩;rintro _ _ ⟨rfl,rfl⟩)|(refine CallWp.mk ⟨_,hh,?_⟩;rintro _ _ ⟨rfl,rfl⟩))
   all_goals(try(conv=>whnf))
   exact Done.mk ⟨congrArg (fun b=>SV.v (.bool b)) (hbad (by simp[h161])).symm,by kernel_rfl⟩ (by kernel_rfl)

open Go.Proofs
abbrev Mg:FuncId:=11
def Vw:Stm:=(sO [gA 2 cF] (.seq (sO [gC 9 30 [],gT 10 9] (cR 10 [gA 2 cF])) (.seq (sO [gM 11 0,gC 12 31 [nL 11]] (cR 12 [gA 2 cT])) (sO [gC 13 19 [],O1 (.buildD 14 [(.vec 50 4 [])] []),O1 (.boxD 15 14),gA 3 13,O1 (.movD 4 15)] (.seq (sO [gM 16 0,gN 17 16,gM 18 (cI 0)] (.block 0 (.loop [2,6,11,19,20,21,22,23,24,25,26,27,28,29,30,31,32,33,34,35,38,56,61,77] (sO [gB 19 .lss 18 17] (.seq (.cond 19 .skip (.exit 0)) (.seq (.block 1 (sO [gI 20 7 16 18,gU 21 7 20,O1 (.allocD 6 (.st [(.it (.int .i64 0)),(.it (.str [])),(.vec 38 3 []),(.it (.agg [(.str []),(.str [])])),(.it (.int .i64 0)),(.it (.int .i64 0))])),gS 7 6 21] (sO [gM 22 3,gM 23 4,gU 24 7 6,gC 25 35 [(true,22),(true,23),nL 24],gT 26 25,gM 27 26,qf 27 (iM 28 3),qf 27 (iM 29 4),qf 27 (iG 30 6 1 1),qf 27 (iL 31 30),.call (some (27,false)) (some 32) 46 [(true,28),(true,29),nL 31],qf 27 (iT 33 32),gP 34 27 cT 33] (cR 34 [gA 2 cF])))) (.ops [gB 35 .add 18 (cI 1),gM 18 35]))))))) (sO [gM 36 3,gC 37 47 [(true,36)],gA 7 37] (.seq (.seq (.drw [0,1,0,4,12,28,60,127,255,511,1023,511,2559,6655,14847,32767,65535,131071] [gM 38 7,gN 39 38,gM 40 4,O1 (.nchk 41 40),gF 42 41 0,gL 43 42,gN 44 43,gB 45 .neq 39 44,gM 46 45,qf 46 (iM 47 3),.call (some (46,false)) (some 48) 44 [(true,47)],qf 46 (iM 49 4),qf 46 (.nchk 50 49),qf 46 (iG 51 50 0 0),qf 46 (iL 52 51),.call (some (46,false)) (some 53) 43 [nL 48,nL 52],qf 46 (iT 54 53),gP 55 46 cT 54]) (cR 55 [gA 2 cF])) (.seq (sO [gM 56 7,gN 57 56,gM 58 (cI 0)] (.block 2 (.loop (kr [2,8,11,16,38,56] 59 26) (sO [gB 59 .lss 58 57] (.seq (.cond 59 .skip (.exit 2)) (.seq (.block 3 (sO [gM 60 58,gA 8 60] (.seq (.drw [0,0,3,7,0,16,48,112,0,496,1008,2032,4095,8191,16383,16383,16383,16383,212991,475135,1048575,2097151,4194303] [gM 61 7,gM 62 8,gI 63 1 61 62,gL 64 63,gM 65 4,O1 (.nchk 66 65),gF 67 66 0,gL 68 67,gM 69 8,gI 70 4 68 69,gF 71 70 0,gL 72 71,gB 73 .neq 64 72,gM 74 73,qf 74 (iM 75 3),qf 74 (iM 76 4),qf 74 (iM 77 7),qf 74 (iM 78 8),qf 74 (iI 79 1 77 78),qf 74 (iL 80 79),.call (some (74,false)) (some 81) 46 [(true,75),(true,76),nL 80],qf 74 (iT 82 81),gP 83 74 cT 82]) (cR 83 [gA 2 cF])))) (.ops [gB 84 .add 58 (cI 1),gM 58 84]))))))) (sO [gA 2 cT] .ret)))))))))
theorem Vx:OF 11 85 Vw [.t 2]:=oF Tryd.func11 rfl Tryd.ntmps11 (by kernel_rfl) (by kernel_rfl)
abbrev Jt:FuncId:=30
def Jg:Stm:=(sO [gA 0 cF] (sO [gC 9 19 [],gA 1 9] (.seq (sO [gM 10 1,gC 11 20 [(true,10),nL (cS [116])],gB 12 .neq 11 (cI 0)] (cR 12 [gA 0 cF])) (sO [gM 14 1,O1 (.build 15 [(.str []),(.str []),(.bool false)] [(0,(cS [97])),(1,(cS [49]))]),O1 (.build 16 [(.str []),(.str []),(.bool false)] [(0,(cS [98])),(1,(cS [50]))]),O1 (.bsl 17 38 3 (.agg [(.str []),(.str []),(.bool false)]) 2 [(0,15),(1,16)]),gC 18 24 [(true,14),nL (cS [116]),nL 17],gA 13 18,gE 19 13 0,gE 20 13 1,gA 2 19,gA 3 20] (sO [gM 22 1,O1 (.build 23 [(.str []),(.str []),(.bool false)] [(0,(cS [97])),(2,cT)]),O1 (.bsl 24 38 3 (.agg [(.str []),(.str []),(.bool false)]) 1 [(0,23)]),gC 25 24 [(true,22),nL (cS [116]),nL 24],gA 21 25,gE 26 21 0,gE 27 21 1,gA 4 26,gA 5 27] (sO [gM 29 1,O1 (.build 30 [(.str []),(.str [])] []),gC 31 33 [(true,29),nL (cS [116]),nL 30,nL (cI 1),nL (cI 9)],gA 28 31,gE 32 28 0,gE 33 28 1,gE 34 28 2,gA 6 32,gA 7 33,gA 8 34] (sO [gM 35 2,gB 36 .eql 35 (cI 1),gM 37 36,qt 37 (iM 38 4),qt 37 (iB 39 .eql 38 (cI 2)),gP 40 37 39 cF,gM 41 40,qt 41 (iM 42 3),qt 41 (iB 43 .eql 42 (cI 0)),gP 44 41 43 cF,gM 45 44,qt 45 (iM 46 5),qt 45 (iB 47 .eql 46 (cI 0)),gP 48 45 47 cF,gM 49 48,qt 49 (iM 50 8),qt 49 (iB 51 .eql 50 (cI 0)),gP 52 49 51 cF,gM 53 52,qt 53 (iM 54 6),qt 53 (iN 55 54),qt 53 (iB 56 .eql 55 (cI 2)),gP 57 53 56 cF,gM 58 57,qt 58 (iM 59 6),qt 58 (iI 60 4 59 (cI 0)),qt 58 (iU 61 4 60),qt 58 (.build 62 [(.str []),(.str []),(.int .i64 0),(.int .i64 0)] [(0,(cS [97])),(1,(cS [49])),(2,(cI 1)),(3,(cI 1))]),qt 58 (.eqs 63 false (.st [.str,.str,(.int .i64),(.int .i64)]) 61 62),gP 64 58 63 cF,gM 65 64,qt 65 (iM 66 1),.call (some (65,true)) (some 67) 48 [(true,66),nL (cS [116]),nL (cI 2)],qt 65 (iB 68 .eql 67 (cI 0)),gP 69 65 68 cF,gM 70 69,qt 70 (iM 71 1),.call (some (70,true)) (some 72) 49 [(true,71),nL (cS [116])],qt 70 (iB 73 .eql 72 (cI 1)),gP 74 70 73 cF,gA 0 74] .ret)))))))
theorem Jj:OF 30 75 Jg [.t 0]:=oF Tryd.func30 rfl Tryd.ntmps30 (by kernel_rfl) (by kernel_rfl)
abbrev Agk:FuncId:=31
def Agf:Stm:=(sO [gA 2 cF] (.seq (sO [gM 7 0,gN 8 7,gM 9 (cI 0)] (.block 0 (.loop (kr [2,3,4,6,7] 10 53) (sO [gB 10 .lss 9 8] (.seq (.cond 10 .skip (.exit 0)) (.seq (.block 1 (sO [gM 11 9,gA 3 11] (sO [gM 12 0,gM 13 3,gI 14 7 12 13,gU 15 7 14,O1 (.alloc 4 (.one (.i (.agg [(.int .i64 0),(.str []),(.list []),(.agg [(.str []),(.str [])]),(.int .i64 0),(.int .i64 0)])))),gS 7 4 15] (.seq (sO [gM 16 3,gB 17 .geq 16 (cI 100),gM 18 17,qf 18 (iG 19 4 2 2),qf 18 (iL 20 19),qf 18 (iN 21 20),qf 18 (iB 22 .gtr 21 (cI 40)),gP 23 18 cT 22,gM 24 23,qf 24 (iG 25 4 1 1),qf 24 (iL 26 25),qf 24 (.len 27 true 26),qf 24 (iB 28 .gtr 27 (cI 1000)),gP 29 24 cT 28,gM 30 29,qf 30 (iG 31 4 3 3),qf 30 (iG 32 31 0 0),qf 30 (iL 33 32),qf 30 (.len 34 true 33),qf 30 (iB 35 .gtr 34 (cI 1000)),gP 36 30 cT 35,gM 37 36,qf 37 (iG 38 4 3 3),qf 37 (iG 39 38 1 1),qf 37 (iL 40 39),qf 37 (.len 41 true 40),qf 37 (iB 42 .gtr 41 (cI 1000)),gP 43 37 cT 42] (cR 43 [gA 2 cT])) (sO [gF 44 4 2,gL 45 44,gN 46 45,gM 47 (cI 0)] (.block 2 (.loop (kr [2,6,7,12] 48 14) (sO [gB 48 .lss 47 46] (.seq (.cond 48 .skip (.exit 2)) (.seq (.block 3 (sO [gI 49 3 45 47,gU 50 3 49,O1 (.alloc 6 (.one (.i (.agg [(.str []),(.str []),(.bool false)])))),gS 3 6 50] (sO [gF 51 6 0,gL 52 51,O1 (.len 53 true 52),gB 54 .gtr 53 (cI 1000),gM 55 54,qf 55 (iG 56 6 1 1),qf 55 (iL 57 56),qf 55 (.len 58 true 57),qf 55 (iB 59 .gtr 58 (cI 1000)),gP 60 55 cT 59] (cR 60 [gA 2 cT])))) (.ops [gB 61 .add 47 (cI 1),gM 47 61]))))))))))) (.ops [gB 62 .add 9 (cI 1),gM 9 62]))))))) (sO [gA 2 cF] .ret)))
theorem Agh:OF 31 63 Agf [.t 2]:=oF Tryd.func31 rfl Tryd.ntmps31 (by kernel_rfl) (by kernel_rfl)
abbrev Agu:FuncId:=35
def Agn:Stm:=(sO [O1 (.box 5 2),gA 6 cF] (.seq (sO [gF 17 5 0,gL 18 17] (.block 0 (sO [gB 20 .eql 18 (cI 0),gA 19 20] (.cond 19 (sO [gM 22 0,gF 23 5 1,gL 24 23,gF 25 5 2,gL 26 25,gC 27 24 [(true,22),nL 24,nL 26],gA 21 27,gE 28 21 0,gE 29 21 1,gA 7 28,gA 8 29] (sO [gM 31 1,gF 32 5 1,gL 33 32,gF 34 5 2,gL 35 34,gC 36 26 [(true,31),nL 33,nL 35],gA 30 36,gE 37 30 0,gE 38 30 1,gA 9 37,gA 10 38] (sO [gM 39 7,gM 40 9,gB 41 .eql 39 40,gM 42 41,qt 42 (iM 43 8),qt 42 (iM 44 10),qt 42 (iB 45 .eql 43 44),gP 46 42 45 cF,gA 6 46] .ret))) (sO [gB 48 .eql 18 (cI 1),gA 47 48] (.cond 47 (sO [gM 50 0,gF 51 5 1,gL 52 51,gF 53 5 3,gU 54 2 53,gG 55 5 4 5,gL 56 55,gG 57 5 5 6,gL 58 57,gC 59 33 [(true,50),nL 52,nL 54,nL 56,nL 58],gA 49 59,gE 60 49 0,gE 61 49 1,gE 62 49 2,gA 11 60,gA 12 61,gA 13 62] (sO [gM 64 1,gF 65 5 1,gL 66 65,gF 67 5 3,gU 68 2 67,gG 69 5 4 5,gL 70 69,gG 71 5 5 6,gL 72 71,gC 73 81 [(true,64),nL 66,nL 68,nL 70,nL 72],gA 63 73,gE 74 63 0,gE 75 63 1,gE 76 63 2,gA 14 74,gA 15 75,gA 16 76] (sO [gM 77 11,gM 78 14,gC 79 37 [nL 77,nL 78],gM 80 79,qt 80 (iM 81 12),qt 80 (iM 82 15),qt 80 (.eqs 83 false .bool 81 82),gP 84 80 83 cF,gM 85 84,qt 85 (iM 86 13),qt 85 (iM 87 16),qt 85 (iB 88 .eql 86 87),gP 89 85 88 cF,gA 6 89] .ret))) (sO [gB 91 .eql 18 (cI 2),gA 90 91] (.cond 90 (.seq (.drw [0,0,2,0,8,31,0,0,128,0,512,2047,4095,8191] [gM 92 0,gF 93 5 1,gL 94 93,gG 95 5 4 5,gL 96 95,gC 97 48 [(true,92),nL 94,nL 96],gM 98 1,gF 99 5 1,gL 100 99,gG 101 5 4 5,gL 102 101,gC 103 82 [(true,98),nL 100,nL 102],gB 104 .eql 97 103,gA 6 104]) .ret) (sO [gB 106 .eql 18 (cI 3),gA 105 106] (.cond 105 (.seq (.drw [0,0,2,7,0,0,32,127,255,511] [gM 107 0,gF 108 5 1,gL 109 108,gC 110 20 [(true,107),nL 109],gM 111 1,gF 112 5 1,gL 113 112,gC 114 25 [(true,111),nL 113],gB 115 .eql 110 114,gA 6 115]) .ret) .skip)))))))))) (sO [gA 6 cT] .ret)))
theorem Agq:OF 35 116 Agn [.t 6]:=oF Tryd.func35 rfl Tryd.ntmps35 (by kernel_rfl) (by kernel_rfl)
abbrev Ko:FuncId:=46
def Xu:Stm:=(sO [gA 6 cF] (sO [gM 11 1,gM 12 2,gC 13 74 [(true,11),nL 12],gA 7 13] (.seq (sO [gM 14 7,gB 15 .lss 14 (cI 0)] (.cond 15 (sO [gM 16 0,gM 17 2,gC 18 29 [(true,16),nL 17],gB 19 .eql 18 (cI 0),gM 20 19,qt 20 (iM 21 0),qt 20 (iM 22 2),.call (some (20,true)) (some 23) 36 [(true,21),nL 22],qt 20 (iB 24 .eql 23 (cI 0)),gP 25 20 24 cF,gM 26 25,qt 26 (iM 27 0),qt 26 (iM 28 2),.call (some (26,true)) (some 29) 22 [(true,27),nL 28],qt 26 (iB 30 .eql 29 (cI 0)),gP 31 26 30 cF,gM 32 31,qt 32 (iM 33 0),qt 32 (iM 34 2),.call (some (32,true)) (some 35) 23 [(true,33),nL 34],qt 32 (iB 36 .eql 35 (cI 0)),gP 37 32 36 cF,gM 38 37,qt 38 (iM 39 0),qt 38 (iM 40 2),.call (some (38,true)) (some 41) 49 [(true,39),nL 40],qt 38 (iB 42 .eql 41 (cI 0)),gP 43 38 42 cF,gA 6 43] .ret) .skip)) (sO [gM 45 1,O1 (.nchk 46 45),gF 47 46 0,gL 48 47,gM 49 7,gI 50 4 48 49,gU 51 4 50,gC 52 84 [nL 51],gA 44 52,gE 53 44 0,gE 54 44 1,gE 55 44 2,gA 8 53,gA 9 54,gA 10 55] (.seq (.drw [0,0,3,0,8,24,56,0,248,504,1016,2047,4095,8191,8191,32767,8191,73727,204799,466943,8191,2039807,4136959,8331263,16777215,33554431,67108863,134217727,134217727,536870911,134217727,2147483647,4294967295,8589934591,17179869183,17179869183,68719476735,17179869183,274877906943,549755813887,1099511627775,2199023255551,2199023255551,8796093022207,2199023255551,35184372088831,70368744177663,140737488355327] [gM 56 0,gM 57 2,gC 58 29 [(true,56),nL 57],gM 59 1,O1 (.nchk 60 59),gF 61 60 0,gL 62 61,gM 63 7,gI 64 4 62 63,gF 65 64 1,gL 66 65,gB 67 .eql 58 66,gM 68 67,qt 68 (iM 69 0),qt 68 (iM 70 2),.call (some (68,true)) (some 71) 36 [(true,69),nL 70],qt 68 (iM 72 1),qt 68 (.nchk 73 72),qt 68 (iG 74 73 0 0),qt 68 (iL 75 74),qt 68 (iM 76 7),qt 68 (iI 77 4 75 76),qt 68 (iG 78 77 2 2),qt 68 (iL 79 78),qt 68 (iB 80 .eql 71 79),gP 81 68 80 cF,gM 82 81,qt 82 (iM 83 0),qt 82 (iM 84 2),.call (some (82,true)) (some 85) 22 [(true,83),nL 84],qt 82 (iM 86 9),qt 82 (iB 87 .eql 85 86),gP 88 82 87 cF,gM 89 88,qt 89 (iM 90 0),qt 89 (iM 91 2),.call (some (89,true)) (some 92) 23 [(true,90),nL 91],qt 89 (iM 93 8),qt 89 (iB 94 .eql 92 93),gP 95 89 94 cF,gM 96 95,qt 96 (iM 97 0),qt 96 (iM 98 2),.call (some (96,true)) (some 99) 49 [(true,97),nL 98],qt 96 (iM 100 10),qt 96 (iB 101 .eql 99 100),gP 102 96 101 cF,gA 6 102]) .ret)))))
theorem Qk:OF 46 103 Xu [.t 6]:=oF Tryd.func46 rfl Tryd.ntmps46 (by kernel_rfl) (by kernel_rfl)

open Go.Proofs
theorem awB1:LBd 80000 aw1.l:=⟨by decide,by intro h hh;cases hh⟩
theorem awB2:LBd 80000 aw2.l:=⟨by decide,by intro h hh;simp[aw2]at hh;rcases hh with rfl|rfl<;>simp⟩
theorem awB3:LBd 80000 aw3.l:=⟨by decide,by intro h hh;simp[aw3]at hh;rcases hh with rfl|rfl<;>simp⟩
theorem Ae1:Fn Tryd.prog Ec [sP ⟨[],[]⟩,.v (.str [116])] (Is (.v (ti 0)) [sP aw1,.no]):=by
 have h:=Aa1 [116];rw[show D9 [116]=true by rfl]at h
 exact Aa2 ⟨[],[]⟩ [116] true h
theorem Aba:Fn Tryd.prog Da [sP aw1,.v (.str [116]),.v (.list [(Chg.mk [97] [49] false).toI,(Chg.mk [98] [50] false).toI])] (Is (.tup [.i (ti 1),.i (ti 0)]) [sP aw2,.no,.no]):=
 R4 Aep Aex aw1 [116] awF1 0 (by rfl) (by decide) (by decide) awB1 ⟨by decide,by decide,by decide⟩ (by decide) awF1 (some awF1) rfl Aez ⟨⟨0,0,4,2,2⟩,aw2.l,true⟩ (by rw[Adn];exact Afn)
theorem Abb:Fn Tryd.prog Da [sP aw2,.v (.str [116]),.v (.list [(Chg.mk [97] [] true).toI])] (Is (.tup [.i (ti 2),.i (ti 0)]) [sP aw3,.no,.no]):=
 R4 Aep Aex aw2 [116] awF2 0 (by rfl) (by decide) (by decide) awB2 ⟨by decide,by decide,by decide⟩ (by decide) awF2 (some awF2) rfl Ae0 ⟨⟨1,0,2,1,3⟩,aw3.l,true⟩ (by rw[Ado];exact Afo)
theorem Adm:Fn Tryd.prog C9 [sP aw3,.v (.str [116]),.v (⟨[],[]⟩:Sp).toI,.v (ti 1),.v (ti 9)] (Is (.tup [.i (.list [(Pr.mk [97] [49] 1 1).toI,(Pr.mk [98] [50] 1 1).toI]),.i (.bool false),.i (ti 0)]) [sP aw3,.no,.no,.no,.no]):=
 Ab6 ofC aw3 ⟨by decide,by intro h hh;simp[aw3]at hh;rcases hh with rfl|rfl<;>simp⟩ [116] (by decide) ⟨[],[]⟩ 1 9 0 (by rfl) (by decide) (by decide) (by decide) ([⟨[97],[49],1,1⟩,⟨[98],[50],1,1⟩],false) (by rfl)
theorem Zc:Fn Tryd.prog Mq [sP aw3,.v (.str [116]),.v (ti 2)] (Is (.v (ti 0)) [sP aw4,.no,.no]):=
 Uz aw3 [116] 2 0 (by rfl) awB3 (by decide) ⟨aw4.l,1⟩ Aey
theorem Ae2:Fn Tryd.prog Dn [sP aw4,.v (.str [116])] (Is (.v (ti 1)) [sP aw4,.no]):=Ub aw4 [116]
theorem Wv:Fn Tryd.prog Jt [] (Is (.v (.bool true)) []):=by
 refine Jj ?_ (by simp)
 repeat'((conv=>whnf);first|((with_reducible refine Ax (by first|(with_reducible assumption)|((with_reducible refine decide_eq_true ?_);omega)|(with_reducible rfl)) (fun hb=>?_));(try rw[hb]);(try simp only[Aa]at hb))|((with_reducible refine And.intro (fun hb=>?_) (fun hb=>?_))<;>first|(exact absurd hb (by decide))|((try rw[hb]);(try simp only[Aa]at hb)))|((with_reducible refine Exists.intro ?_ ?_);focus (and_intros<;>first|omega|(with_reducible rfl)|kernel_rfl|(intro _ hh;cases hh;done)|exact Ah (by rfl)|(simp;done)|decide))|(with_reducible intro hfact)|((with_reducible refine CallWp.mk ?_);refine⟨_,Adg,?_⟩;rintro _ _ ⟨rfl,rfl⟩)|((with_reducible refine CallWp.mk ?_);refine⟨_,Ae1,?_⟩;rintro _ _ ⟨rfl,rfl⟩)|((with_reducible refine CallWp.mk ?_);refine⟨_,Aba,?_⟩;rintro _ _ ⟨rfl,rfl⟩)|((with_reducible refine CallWp.mk ?_);refine⟨_,Abb,?_⟩;rintro _ _ ⟨rfl,rfl⟩)|((with_reducible refine CallWp.mk ?_);refine⟨_,Adm,?_⟩;rintro _ _ ⟨rfl,rfl⟩)|((with_reducible refine CallWp.mk ?_);refine⟨_,Zc,?_⟩;rintro _ _ ⟨rfl,rfl⟩)|((with_reducible refine CallWp.mk ?_);refine⟨_,Ae2,?_⟩;rintro _ _ ⟨rfl,rfl⟩))
 all_goals(try(conv=>whnf))
 (apply dKq<;>kernel_rfl)

open Go.Proofs
theorem Air{m:Nat}{s:Sto}(h:SInv m s)(hm:m≤80000)(n:Az)(cs:List Chg)(hn:n.length≤1000)(hcs:cs.length≤1000):
 Fn Tryd.prog Da [sP s,.v (.str n),.v (.list (cs.map Chg.toI))] (Is (.tup [.i (ti (s.writeM n cs).2.1),.i (ti (s.writeM n cs).2.2)]) [sP (s.writeM n cs).1,.no,.no]):=by
 unfold Sto.writeM;cases hf:s.fi n with
 |none=>exact Ai8 s n cs hf
 |some i=>
  dsimp only;cases hF:K6 cs []with
  |none=>exact Aji s n cs i hf hcs none rfl hF
  |some F=>
   have hrv:=h.rv n;exact R4 Aep Aex s n cs i hf hn hcs (h.lb.mono hm) ((h.tb n).mono hm) (by omega) F (some F) rfl hF _ rfl
theorem Ai3{m:Nat}{s:Sto}(h:SInv m s)(hm:m≤80000)(n:Az)(rev:Int):
 Fn Tryd.prog Kc [sP s,.v (.str n),.v (ti rev)] (Is (.v (ti (s.compM n rev).2)) [sP (s.compM n rev).1,.no,.no]):=by
 unfold Sto.compM;cases hf:s.fi n with
 |none=>exact Aic s n rev hf
 |some i=>
  dsimp only;by_cases he:s.compE n rev=0
  ·rw[if_pos he];obtain⟨e1,e2,e3⟩:=Aht he;have hrv:=h.rv n;exact Uz s n rev i hf (h.lb.mono hm) ⟨e1,e2,e3,by omega⟩ _ rfl
  ·rw[if_neg he];exact Ain s n rev i hf he
theorem Aff{m:Nat}{s:Sto}(h:SInv m s)(hm:m≤80000)(n:Az)(hn:n.length≤1000)(x:Sp)(rev most:Int):
 Fn Tryd.prog C9 [sP s,.v (.str n),.v x.toI,.v (ti rev),.v (ti most)] (Is (.tup [.i (.list ((s.rangeM n x rev most).1.map Pr.toI)),.i (.bool (s.rangeM n x rev most).2.1),.i (ti (s.rangeM n x rev most).2.2)]) [sP s,.no,.no,.no,.no]):=by
 have hrv:=h.rv n;exact Ai5 ofC s (h.bd hm) n (by omega) x rev most (by omega)
theorem Ag4(s:Sto)(n:Az):Fn Tryd.prog Ec [sP s,.v (.str n)] (Is (.v (ti (s.openM (D9 n) n).2)) [sP (s.openM (D9 n) n).1,.no]):=
 Aa2 s n (D9 n) (Aa1 n)

open Go.Proofs
def Opn.hd(j:Nat)(o:Opn):Prop:=100≤j∨40<o.l.length∨1000<o.n.length∨1000<o.x.f.length∨1000<o.x.t.length
instance(j:Nat)(o:Opn):Decidable (o.hd j):=by unfold Opn.hd;infer_instance
def Chg.big(c:Chg):Prop:=1000<c.key.length∨1000<c.val.length
instance(c:Chg):Decidable c.big:=by unfold Chg.big;infer_instance
def cGo:List Chg→Bool
 | []=>false
 |c::r=>if c.big then true else cGo r
def F9:Nat→List Opn→Bool
 |_,[]=>false
 |j,o::r=>if o.hd j then true else if cGo o.l=true then true else F9 (j+1) r
theorem Ahr:∀{l:List Opn} {j:Nat},F9 j l=false→j≤100→j+l.length≤100∧∀o∈l,o.l.length≤40∧o.n.length≤1000
 | [],j,_,hj=>⟨by simpa using hj,by simp⟩
 |o::r,j,h,hj=>by
  unfold F9 at h;split at h
  ·cases h
  ·rename_i h1;split at h
   ·cases h
   ·unfold Opn.hd at h1;obtain⟨a,b⟩:=Ahr h (by omega)
    refine⟨by rw[List.length_cons];omega,fun x hx=>?_⟩
    rcases List.mem_cons.1 hx with rfl|hx
    ·exact⟨by omega,by omega⟩
    ·exact b x hx
theorem Ls(l:List Opn):Fn Tryd.prog Agk [.v (.list (l.map Opn.toI))] (Is (.v (.bool (F9 0 l))) [.no]):=by
 refine Agh ?_ (by simp)
 obtain⟨RES,hRES⟩:∃R,F9 0 l=R:=⟨_,rfl⟩;rw[hRES];repeat'((conv=>whnf);first|((with_reducible refine Exists.intro ?_ ?_);focus (and_intros<;>(with_reducible rfl)))|(with_reducible intro hfact))
 all_goals(try(conv=>whnf))
 have hl:l.length≤9223372036854775807:=by simpa[maxLen]using hfact
 refine LoopWq.by (X:=Nat) (fun j=>[(9,.v (ti (j:Int)))]) (fun j=>j≤l.length∧F9 j (l.drop j)=RES) (fun j=>l.length - j) 0 (by kernel_rfl) ⟨Nat.zero_le _,hRES⟩ ?_
 rintro j ⟨hj,hR⟩
 (try dsimp only at hj hR ⊢)
 by_cases hjl:j<l.length
 case neg=>
  have h3:¬decide ((j:Int)<((l.map Opn.toI).length:Int))=true:=by simp;omega
  have h4:¬decide ((j:Int)<(l.length:Int))=true:=by simp;omega
  rw[List.drop_eq_nil_of_le (by omega)]at hR
  have hR:false=RES:=hR;subst hR;repeat'((conv=>whnf);((with_reducible refine Aw (by first|(with_reducible assumption)|(with_reducible exact Bool.of_not_eq_true (by assumption))) (fun hb=>?_));(try rw[hb]);(try simp only[Aa]at hb)))
  all_goals(try(conv=>whnf))
  (apply dKq<;>kernel_rfl)
 have hw:IntKind.i64.wrap ((j:Int)+1)=((j+1:Nat):Int):=(Bf (by omega)).trans (by omega)
 obtain⟨o,ho⟩:∃x,l[j]?=some x:=⟨_,List.getElem?_eq_getElem hjl⟩;have h3:¬decide ((j:Int)<((l.map Opn.toI).length:Int))=false:=by simp;omega
 have h4:¬decide ((j:Int)<(l.length:Int))=false:=by simp;omega
 have hdr:l.drop j=o::l.drop (j+1):=by rw[List.drop_eq_getElem_cons hjl];rw[List.getElem?_eq_getElem hjl]at ho;cases ho;rfl
 rw[hdr]at hR;unfold F9 at hR;by_cases hd:o.hd j
 ·rw[if_pos hd]at hR;subst hR;obtain⟨k,n,cl,⟨xf,xt⟩,rev,most⟩:=o;unfold Opn.hd at hd
  (try dsimp only at hd)
  have g1:(decide ((100:Int)≤(j:Int)))=decide (100≤j):=by simp;omega
  have hcl:(cl.map Chg.toI).length=cl.length:=List.length_map _;repeat'((conv=>whnf);first|((with_reducible refine Ax (by first|(with_reducible assumption)|(with_reducible exact Bool.of_not_eq_false (by assumption))|(with_reducible rfl)) (fun hb=>?_));(try rw[hb]);(try simp only[Aa]at hb))|((with_reducible refine Aw (by(with_reducible rfl)) (fun hb=>?_));(try rw[hb]);(try simp only[Aa]at hb))|((with_reducible refine And.intro (fun hb=>?_) (fun hb=>?_))<;>first|(exfalso;((simp only[Bu]at hb<;>omega)))|((try rw[hb]);(try simp only[Aa]at hb)))|((with_reducible refine Exists.intro ?_ ?_);focus (and_intros<;>first|omega|(with_reducible rfl)|kernel_rfl|(simp;done)))|(with_reducible intro hfact)|((try dsimp only);(rw[B6 ho]))|((try dsimp only);rw[hcl]))
  all_goals(try(conv=>whnf))
  all_goals((apply dKq<;>kernel_rfl))
 rw[if_neg hd]at hR;obtain⟨k,n,cl,⟨xf,xt⟩,rev,most⟩:=o;unfold Opn.hd at hd
 (try dsimp only at hd hR)
 have hcl:(cl.map Chg.toI).length=cl.length:=List.length_map _;have hclm:cl.length≤40:=by omega
 repeat'((conv=>whnf);first|((with_reducible refine Ax (by(with_reducible exact Bool.of_not_eq_false (by assumption))) (fun hb=>?_));(try rw[hb]);(try simp only[Aa]at hb))|((with_reducible refine Aw (by first|((with_reducible refine decide_eq_false ?_);omega)|(with_reducible rfl)) (fun hb=>?_));(try rw[hb]);(try simp only[Aa]at hb))|((with_reducible refine And.intro (fun hb=>?_) (fun hb=>?_))<;>first|(exfalso;((simp only[Bu]at hb<;>omega)))|((try rw[hb]);(try simp only[Aa]at hb)))|((with_reducible refine Exists.intro ?_ ?_);focus (and_intros<;>first|omega|(with_reducible rfl)|kernel_rfl|(simp;done)))|(with_reducible intro hfact)|((try dsimp only);(rw[B6 ho]))|((try dsimp only);rw[hcl]))
 all_goals(try(conv=>whnf))
 refine LoopWq.by (X:=Nat) (fun q=>[(47,.v (ti (q:Int)))]) (fun q=>q≤cl.length∧(if cGo (cl.drop q)=true then true else F9 (j+1) (l.drop (j+1)))=RES) (fun q=>cl.length - q) 0 (by kernel_rfl) ⟨Nat.zero_le _,hR⟩ ?_
 rintro q ⟨hq,hQ⟩
 (try dsimp only at hq hQ ⊢)
 have hw2:IntKind.i64.wrap ((q:Int)+1)=((q+1:Nat):Int):=(Bf (by omega)).trans (by omega)
 by_cases hql:q<cl.length
 case neg=>
  have h5:¬decide ((q:Int)<((cl.map Chg.toI).length:Int))=true:=by simp;omega
  have h6:¬decide ((q:Int)<(cl.length:Int))=true:=by simp;omega
  rw[List.drop_eq_nil_of_le (by omega)]at hQ
  have hQ:F9 (j+1) (l.drop (j+1))=RES:=hQ;repeat'((conv=>whnf);first|((with_reducible refine Aw (by(with_reducible exact Bool.of_not_eq_true (by assumption))) (fun hb=>?_));(try rw[hb]);(try simp only[Aa]at hb))|(skip;rw[hw]))
  all_goals(try(conv=>whnf))
  refine Round.by (j+1) ?_ ⟨by omega,hQ⟩ (by omega)
  try dsimp only
  show norm _ _=upd _ _
  kernel_rfl
 obtain⟨c,hc⟩:∃x,cl[q]?=some x:=⟨_,List.getElem?_eq_getElem hql⟩;have h5:¬decide ((q:Int)<((cl.map Chg.toI).length:Int))=false:=by simp;omega
 have h6:¬decide ((q:Int)<(cl.length:Int))=false:=by simp;omega
 have hdq:cl.drop q=c::cl.drop (q+1):=by rw[List.drop_eq_getElem_cons hql];rw[List.getElem?_eq_getElem hql]at hc;cases hc;rfl
 rw[hdq]at hQ;unfold cGo at hQ;obtain⟨ck,cv,cg⟩:=c;by_cases hb:(Chg.mk ck cv cg).big
 ·rw[if_pos hb]at hQ;have hQ:true=RES:=hQ;subst hQ;unfold Chg.big at hb
  (try dsimp only at hb)
  repeat'((conv=>whnf);first|((with_reducible refine Ax (by first|(with_reducible assumption)|(with_reducible exact Bool.of_not_eq_false (by assumption))|(with_reducible rfl)) (fun hb=>?_));(try rw[hb]);(try simp only[Aa]at hb))|((with_reducible refine Aw (by(with_reducible rfl)) (fun hb=>?_));(try rw[hb]);(try simp only[Aa]at hb))|((with_reducible refine And.intro (fun hb=>?_) (fun hb=>?_))<;>first|(exfalso;((simp only[Bu]at hb<;>omega)))|((try rw[hb]);(try simp only[Aa]at hb)))|((with_reducible refine Exists.intro ?_ ?_);focus (and_intros<;>first|omega|(with_reducible rfl)|kernel_rfl|(simp;done)))|(with_reducible intro hfact)|((try dsimp only);(rw[B6 hc])))
  all_goals(try(conv=>whnf))
  all_goals((apply dKq<;>kernel_rfl))
 ·rw[if_neg hb]at hQ;unfold Chg.big at hb
  (try dsimp only at hb)
  repeat'((conv=>whnf);first|((with_reducible refine Ax (by(with_reducible exact Bool.of_not_eq_false (by assumption))) (fun hb=>?_));(try rw[hb]);(try simp only[Aa]at hb))|((with_reducible refine Aw (by(with_reducible rfl)) (fun hb=>?_));(try rw[hb]);(try simp only[Aa]at hb))|((with_reducible refine And.intro (fun hb=>?_) (fun hb=>?_))<;>first|(exfalso;((simp only[Bu]at hb<;>omega)))|((try rw[hb]);(try simp only[Aa]at hb)))|((with_reducible refine Exists.intro ?_ ?_);focus (and_intros<;>first|omega|(with_reducible rfl)|kernel_rfl|(simp;done)))|(with_reducible intro hfact)|((try dsimp only);(rw[B6 hc]))|((try dsimp only);rw[hw2]))
  all_goals(try(conv=>whnf))
  refine Round.by (q+1) ?_ ⟨by omega,hQ⟩ (by omega)
  try dsimp only
  show norm _ _=upd _ _
  kernel_rfl

open Go.Proofs
def sto2:Sto:=⟨[([116],tal0),([117],tal0)],[]⟩
theorem Ai9:(Sto.mk [] []).openM (D9 [116]) [116]=(⟨[([116],tal0)],[]⟩,0):=by
 rw[show D9 [116]=true by rfl];rfl
theorem Aja:(Sto.mk [([116],tal0)] []).openM (D9 [117]) [117]=(sto2,0):=by
 rw[show D9 [117]=true by rfl];rfl
theorem inv2:SInv 0 sto2:=by
 have h1:=Ajr.open (nm:=D9 [116]) [116] Aha;rw[Ai9]at h1;have h2:=h1.open (nm:=D9 [117]) [117] Aha;rw[Aja]at h2;exact h2

open Go.Proofs
abbrev F_kT:FuncId:=Ms
abbrev Anj:FuncId:=L6
theorem Anu:KeysC Tryd.prog F_kT Anj 109:=KeysC.of Ank
open Go.RowKit Go.Maps Go.Sort Go.Shelf in
theorem Am0:∀args w,(callFunc 111 args).run Tryd.prog w= .ok (.enter 111 args) w:=enters_of Tryd.func111 (by kernel_rfl) rfl
set_option maxHeartbeats 4000000 in
theorem Anv:SortedC Tryd.prog Ju Anj 9:=by
 have h:=SortedC.of Afh Ank Afi Adx Am0;exact h
def Sto.names(s:Sto):List Az:=Dc (s.sp.map (·.1))
theorem Amf(s:Sto)(hnd:(s.sp.map (·.1)).Nodup)(hl:s.sp.length≤1000):Fn Tryd.prog N2 [sP s] (Is (.v (.list (s.names.map I.str))) [sP s]):=by
 refine Aco ?_ (by simp)
 obtain⟨KS,hKS⟩:∃K,K=s.sp.map fun x=>I.str x.1:=⟨_,rfl⟩
 have hks1:∀x∈KS,∃s,x=I.str s:=fun x hx=>by rw[hKS]at hx;obtain⟨c,_,rfl⟩:=List.mem_map.1 hx;exact⟨_,rfl⟩
 have hks2:KS.length≤1000000:=by rw[hKS,List.length_map];omega
 have hks3:(KS.map strV).Nodup:=by rw[hKS,List.map_map];exact hnd
 have hSI:Gq KS=s.names.map I.str:=by
  unfold Sto.names;rw[←Acr,hKS,List.map_map];rfl
 rw[←hSI];obtain⟨VS,hVS⟩:∃V,V=s.sp.map fun x=>D.ptr (.it x.2.toI):=⟨_,rfl⟩
 obtain⟨L,hL⟩:∃V,V=s.l.map Hld.toD:=⟨_,rfl⟩;have hs:sP s= .own [] (.ptr (stD KS VS L)):=by rw[hKS,hVS,hL];rfl
 rw[hs];repeat'((conv=>whnf);first|((with_reducible refine Aw (by(with_reducible rfl)) (fun hb=>?_));(try rw[hb]);(try simp only[Aa]at hb))|((with_reducible refine Exists.intro ?_ ?_);focus (and_intros<;>first|(exact hks1)|(exact hks2)|(exact hks3)|omega|(with_reducible rfl)|kernel_rfl|(simp;done)))|((refine Ad0 Anu ?_))|((refine Zo Anv ?_)))
 all_goals(try(conv=>whnf))
 (apply dKq<;>kernel_rfl)

open Go.Proofs
def Ac8:Stm:=(sO [O1 (.box 1 0),gA 2 (.nils 50 4)] (sO [gA 3 (.nils 50 4)] (.seq (sO [gL 10 1,gC 11 47 [(true,10)],gN 12 11,gM 13 (cI 0)] (.block 0 (.loop [0,4,5,6,7,10,14,15,16,17,18,19,20,21,22,23,24,25,26,27,28,29,30,31,32,33,34,35,54,55,56,57,58,59] (sO [gB 14 .lss 13 12] (.seq (.cond 14 .skip (.exit 0)) (.seq (.block 1 (sO [gI 15 1 11 13,gL 16 15,gA 5 16] (sO [gL 17 1,O1 (.nchk 18 17),gF 19 18 0,gL 20 19,gM 21 5,O1 (.mget 22 .nilp false 20 21),gA 6 22] (.seq (.drw [0,0,2,6,14,0,32,96,224,511,0,2047] [gM 23 5,gM 24 6,O1 (.nchk 25 24),gF 26 25 0,gL 27 26,gM 28 6,O1 (.nchk 29 28),gF 30 29 1,gL 31 30,O1 (.buildD 32 [(.it (.str [])),(.it (.int .i64 0)),(.it (.int .i64 0)),(.vec 130 2 [])] [(0,23),(1,27),(2,31)]),O1 (.allocD 7 (.st [(.it (.str [])),(.it (.int .i64 0)),(.it (.int .i64 0)),(.vec 130 2 [])])),gS 4 7 32]) (.seq (sO [gL 33 1,gM 34 5,.inl none (some 35) 60 79 [33,34]] (.block 2 (.rngF 35 105 50 60 [36,37] Fy (sO [gA 8 36] (.ops [gA 9 37])) (.block 3 (.drw [0,1,0,0,8,24,56,0,248,504,1016,2040,4092,8188,16383,32767,65535] [gF 38 7 3,gL 39 38,gM 40 9,gL 41 1,O1 (.nchk 42 41),gF 43 42 1,gL 44 43,gM 45 8,gI 46 2 44 45,gF 47 46 1,gL 48 47,.peek none (some 49) 83 [nL 48],O1 (.buildD 50 [(.it (.str [])),(.vec 125 4 [])] [(0,40),(1,49)]),O1 (.bslD 51 130 2 (.agg [(.str []),(.list [])]) 1 [(0,50)]),O1 (.app 52 130 2 40 39 51),gF 53 7 3,gS 1 53 52]))))) (.ops [gM 54 3,O1 (.loadF 55 true 4 7),O1 (.bsl 56 50 4 (.agg [(.str []),(.int .i64 0),(.int .i64 0),(.list [])]) 1 [(0,55)]),O1 (.app 57 50 4 56 54 56),gA 3 57])))))) (.ops [gB 58 .add 13 (cI 1),gM 13 58]))))))) (sO [gM 59 3,O1 (.mov 2 50 4 59)] .ret))))
theorem Adf:OF 44 60 Ac8 [.t 2]:=oF Tryd.func44 rfl Tryd.ntmps44 (by kernel_rfl) (by kernel_rfl)
end Go.Ab
