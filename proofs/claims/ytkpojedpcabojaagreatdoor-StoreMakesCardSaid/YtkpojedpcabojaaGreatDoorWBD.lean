/- Lemmas -/
import Derived.Test.YtkpojedpcabojaaGreatDoorNX
set_option linter.unusedVariables false
set_option linter.unusedSimpArgs false
set_option maxRecDepth 100000
set_option maxHeartbeats 40000000
namespace Go.Ab
open Go.Proofs
theorem Fn.Bsv{P:Program}{f:FuncId}{s:A1}{rest:List SV}{D8:SV→List SV→Prop}(h:s.length≤maxLen→Fn P f (.v (.str s)::rest) D8):Fn P f (.v (.str s)::rest) D8:=by
 intro G σ Fr w Fj Dj Cq Ms;have h0:=(Ms 0 _ rfl).2;exact h (Bb.str.1 h0).2 G σ Fr w Fj Dj Cq Ms
theorem Azh(s:A1)(p:Nat)(hp:p<s.length):Lib.decodeGo ⟨⟨s.drop p⟩⟩=Lw s p:=by
 rw[Zg s p];unfold Lib.decodeGo;rw[if_neg]
 ·rfl
 ·show ¬(s.drop p).length=0;rw[Br];omega
theorem Ajn(s:A1)(p:Nat)(hp:p<s.length)(r:Int):Fn Tryz.prog A0q [.v (.str s),.v (.int .i64 p),.v (.int .i32 r)] (Is (.v (.bool (decide (r=65533)&&decide ((Lw s p).2=1)))) [.no,.no,.no]):=by
 refine Azp ?_ (by simp)
 have hd:=A6w (s.drop p);rw[Azh s p hp]at hd;by_cases hr:r=65533
 ·have hb0:¬(!decide (r=65533))=true:=by simp[hr]
  repeat'((conv=>whnf);first|(refine Ai (fun hb=>?_) (fun hb=>?_)<;>first|exact absurd hb (by assumption)|(try rw[hb]);(try simp only[Am]at hb);try subst hb)|refine Aa ?_ ?_;focus (and_intros<;>first|omega|exact rfl|intro _ hh;cases hh;done|simp;done|decide)|simp only[List.headD,Hq,Hb]|refine A5.mk ⟨_,hd,?_⟩;rintro _ _ ⟨rfl,rfl⟩)
  all_goals(try(conv=>whnf))
  refine Gg.mk ⟨SV.E1 ?_,by kernel_rfl⟩ (by kernel_rfl)
  rw[eq_comm,Bool.eq_iff_iff];simp;omega
 ·repeat'((conv=>whnf);(refine Ai (fun hb=>?_) (fun hb=>?_)<;>first|(exfalso;((simp only[Eu]at hb<;>omega)))|((try rw[hb]);(try simp only[Am]at hb))))
  all_goals(try(conv=>whnf))
  all_goals first|contradiction|skip
  refine Gg.mk ⟨SV.E1 (by simp[hr]),by kernel_rfl⟩ (by kernel_rfl)
theorem Ay0(r:Int):Fn Tryz.prog A5r [.v (.int .i32 r)] (Is (.v (.bool (decide (161≤r)))) [.no]):=by
 refine A3n ?_ (by simp)
 (skip)
 all_goals(try(conv=>whnf))
 exact Gg.mk ⟨SV.E1 (by simp),by kernel_rfl⟩ (by kernel_rfl)
theorem Afn{f:Nat}{s:A1}{p n:Nat}{c:UInt8}(hc:s[p]?=some c){k:Nat}(hk:Pp (s.drop p)=(k:Int)):
 Pk (f+1) s p n=(if k=0 then false else if Ab0 k c.toNat p ((s.drop p).take k)=true then false else if 24<n+1 then false else Pk f s (p+k) (n+1)):=by
 rw[Pk,hc];dsimp only;rw[hk,Hq]
theorem Ax1{f:Nat}{s:A1}{p n:Nat}{c:UInt8}(hc:s[p]?=some c){k:Nat}(hk:Pp (s.drop p)=(k:Int))(Ts:0<k)(L8:k≤s.length - p)(hp:p<s.length)
 (hb:Ab0 k c.toNat p ((s.drop p).take k)=false) (h2:s.length<f+1+p) (h3:n≤p) (h4:n≤24→Pk (f+1) s p n=Hp s) (h5:24<n→Hp s=false):
 p+k≤s.length∧s.length<f+(p+k)∧n+1≤p+k∧(n+1≤24→Pk f s (p+k) (n+1)=Hp s)∧(24<n+1→Hp s=false):=by
 refine⟨by omega,by omega,by omega,fun h=>?_,fun h=>?_⟩
 ·rw[←h4 (by omega),Afn hc hk,if_neg (by omega),hb,if_neg (by simp),if_neg (by omega)]
 ·by_cases h24:24<n
  ·exact h5 h24
  ·rw[←h4 (by omega),Afn hc hk,if_neg (by omega),hb,if_neg (by simp),if_pos h]
theorem Arq{f:Nat}{s:A1}{p n:Nat}{c:UInt8}(hc:s[p]?=some c){k:Nat}(hk:Pp (s.drop p)=(k:Int))
 (hb:k=0∨Ab0 k c.toNat p ((s.drop p).take k)=true) (h4:n≤24→Pk (f+1) s p n=Hp s) (h5:24<n→Hp s=false):Hp s=false:=by
 by_cases h24:24<n
 ·exact h5 h24
 ·rw[←h4 (by omega),Afn hc hk]
  rcases hb with hb|hb
  ·rw[if_pos hb]
  ·rw[hb];split<;>simp
theorem Ajm(s:A1):Fn Tryz.prog Ak5 [.v (.str s)] (Is (.v (.bool (Hp s))) [.no]):=Fn.Bsv fun hl=>by
 refine Azo ?_ (by simp)
 (skip)
 all_goals(try(conv=>whnf))
 refine Ep.by (X:=Nat × Nat × Nat) (fun x=>[(3,.v (.int .i64 x.2.2)),(7,.sit s x.2.1)]) (fun x=>x.2.1≤s.length∧s.length<x.1+x.2.1∧x.2.2≤x.2.1∧(x.2.2≤24→Pk x.1 s x.2.1 x.2.2=Hp s)∧(24<x.2.2→Hp s=false)) (fun x=>s.length - x.2.1)
  (s.length+1,0,0) (by kernel_rfl) ⟨A3 _,by dsimp only;omega,Ay _,fun _=>rfl,fun h=>by simp at h⟩ ?_
 rintro⟨f,p,n⟩ ⟨h1,h2,h3,h4,h5⟩;dsimp only at h1 h2 h3 h4 h5 ⊢;obtain⟨f,rfl⟩:∃g,f=g+1:=⟨f - 1,by omega⟩
 by_cases hp:p<s.length
 case neg=>
  have Di:¬decide (p<s.length)=true:=by simp;omega
  have hv:Hp s=(decide (0<n)&&decide (n≤24)):=by
   by_cases h24:n≤24
   ·rw[←h4 h24,Pk,D9 (by omega)]
    simp[h24]
   ·rw[h5 (by omega)]
    simp[h24]
  rw[hv];repeat'((conv=>whnf);(refine Ai (fun hb=>?_) (fun hb=>?_)<;>first|(exact absurd hb (by first|assumption|decide))|((try rw[hb]);(try simp only[Am]at hb))))
  all_goals(try(conv=>whnf))
  all_goals refine Gg.mk ⟨SV.E1 ?_,by kernel_rfl⟩ (by kernel_rfl)
  all_goals(rw[Bool.eq_iff_iff];simp;omega)
 have Di:¬decide (p<s.length)=false:=by simp[hp]
 obtain⟨c,hc⟩:∃c,s[p]?=some c:=⟨_,Ac hp⟩;have hdl:(s.drop p).length=s.length - p:=Br ..;have Qf:IntKind.i64.wrap ((n:Int)+1)=((n+1:Nat):Int):=Mj (n:=maxLen) (by omega) (Ay _)
 rcases Bbi (s.drop p) (by omega)with⟨hk,hr⟩|⟨c',t,hd,hk,hr,hc8⟩|⟨k,r,Vc,hk,L8,hr,Hr,Kn,hit⟩
 ·rw[←Zg]at hr;have hw:=Ajn s p hp (65533:Nat);rw[hr]at hw;rw[Arq hc hk (.inl rfl) h4 h5];repeat'((conv=>whnf);first|(refine Ai (fun hb=>?_) (fun hb=>?_)<;>first|exact absurd hb (by first|assumption|decide)|(try rw[hb]);try simp only[Am]at hb)|refine Aa ?_ ?_;focus (and_intros<;>first|intro _ hh;cases hh;done|simp;done|decide)|simp only[hr]|refine A5.mk ⟨_,hw,?_⟩;rintro _ _ ⟨rfl,rfl⟩)
  all_goals(try(conv=>whnf))
  (apply D6<;>kernel_rfl)
 ·rw[←Zg]at hr;obtain rfl:c=c':=by
   have:=congrArg (fun q=>q[0]?) hd
   simp only[Ei,Gk,B9]at this;rw[hc]at this;exact Cy this
  have hw:=Ajn s p hp (c.toNat:Nat);rw[hr,show(decide (((c.toNat:Nat):Int)=65533)&&decide (((c.toNat,1):Nat × Nat).2=1))=false by simp;omega]at hw
  have hh:=Ay0 (c.toNat:Nat);rw[show decide (161≤((c.toNat:Nat):Int))=false by simp;omega]at hh
  have hlen:1≤s.length - p:=by omega
  have Ati:=fun hb=>Ax1 hc (k:=1) hk (by omega) hlen hp hb h2 h3 h4 h5
  have A1z:=fun hb=>Arq (k:=1) hc hk (.inr hb) h4 h5
  rw[hd]at Ati A1z;generalize hm:Hp s=m at*;have hB:∀q,Ab0 1 (c.toNat:Nat) p q=true↔¬((97≤c.toNat∧c.toNat≤122)∨(48≤c.toNat∧c.toNat≤57)∨c.toNat=95∨(c.toNat=45∧0<p)):=fun q=>by
   simp only[Ab0];simp;omega
  have hB':∀q,Ab0 1 (c.toNat:Nat) p q=false↔((97≤c.toNat∧c.toNat≤122)∨(48≤c.toNat∧c.toNat≤57)∨c.toNat=95∨(c.toNat=45∧0<p)):=fun q=>by
   have:=hB q;cases hx:Ab0 1 (c.toNat:Nat) p q
   ·rw[hx]at this;simp at this;simp;omega
   ·rw[hx]at this;simp at this;simp;omega
  repeat'((conv=>whnf);first|(refine Ai (fun hb=>?_) (fun hb=>?_)<;>first|exact absurd hb (by first|assumption|decide)|exfalso;((simp only[Eu]at hb<;>omega))|(try rw[hb]);try simp only[Am]at hb)|refine Aa ?_ ?_;focus (and_intros<;>first|intro _ hh;cases hh;done|simp;done|decide)|simp only[hr]|refine A5.mk ⟨_,hw,?_⟩;rintro _ _ ⟨rfl,rfl⟩|refine A5.mk ⟨_,hh,?_⟩;rintro _ _ ⟨rfl,rfl⟩)
  all_goals(try(conv=>whnf))
  all_goals first
   |(refine Gg.mk ⟨congrArg (fun b=>SV.v (.bool b)) (A1z ((hB _).2 (by omega))).symm,by kernel_rfl⟩ (by kernel_rfl);done)
   |(refine Round.by (f,p+1,n+1) ?_ (Ati ((hB' _).2 (by omega))) (by dsimp only;omega)
     rw[Qf];show norm _ _=Dy _ _
     kernel_rfl)
 ·rw[←Zg]at hr;have hw:=Ajn s p hp (r:Nat);rw[hr,show(decide (((r:Nat):Int)=65533)&&decide (((r,k):Nat × Nat).2=1))=false by simp;omega]at hw
  have hh:=Ay0 (r:Nat);have Ati:=fun hb=>Ax1 hc (k:=k) hk (by omega) (by omega) hp hb h2 h3 h4 h5
  have A1z:=fun hb=>Arq (k:=k) hc hk (.inr hb) h4 h5
  have hB:Ab0 k c.toNat p ((s.drop p).take k)= !decide (161≤r):=by
   simp only[Ab0,hit];rw[show decide (k=1)=false by simp;omega,show decide (1<k)=true by simp;omega]
   simp
  rw[hB]at Ati A1z;generalize hm:Hp s=m at*;by_cases Bpj:161≤r
  ·rw[show decide (161≤((r:Nat):Int))=true by simp;omega]at hh
   repeat'((conv=>whnf);first|(refine Ai (fun hb=>?_) (fun hb=>?_)<;>first|exact absurd hb (by first|assumption|decide)|exfalso;((simp only[Eu]at hb<;>omega))|(try rw[hb]);try simp only[Am]at hb)|refine Aa ?_ ?_;focus (and_intros<;>first|intro _ hh;cases hh;done|simp;done|decide)|simp only[hr]|refine A5.mk ⟨_,hw,?_⟩;rintro _ _ ⟨rfl,rfl⟩|refine A5.mk ⟨_,hh,?_⟩;rintro _ _ ⟨rfl,rfl⟩)
   all_goals(try(conv=>whnf))
   refine Round.by (f,p+k,n+1) ?_ (Ati (by simp[Bpj])) (by dsimp only;omega)
   rw[Qf];show norm _ _=Dy _ _
   kernel_rfl
  ·rw[show decide (161≤((r:Nat):Int))=false by simp;omega]at hh
   repeat'((conv=>whnf);first|(refine Ai (fun hb=>?_) (fun hb=>?_)<;>first|exact absurd hb (by first|assumption|decide)|exfalso;((simp only[Eu]at hb<;>omega))|(try rw[hb]);try simp only[Am]at hb)|refine Aa ?_ ?_;focus (and_intros<;>first|intro _ hh;cases hh;done|simp;done|decide)|simp only[hr]|refine A5.mk ⟨_,hw,?_⟩;rintro _ _ ⟨rfl,rfl⟩|refine A5.mk ⟨_,hh,?_⟩;rintro _ _ ⟨rfl,rfl⟩)
   all_goals(try(conv=>whnf))
   exact Gg.mk ⟨congrArg (fun b=>SV.v (.bool b)) (A1z (by simp[Bpj])).symm,by kernel_rfl⟩ (by kernel_rfl)

open Go.Proofs
abbrev Ae2:FuncId:=16
def Adm:Ee:=(sO [gA 0 cF] (sO [gC 9 23 [],gA 1 9] (.seq (sO [gM 10 1,gC 11 24 [(true,10),nL (cS [116])],gB 12 .neq 11 (cI 0)] (cR 12 [gA 0 cF])) (sO [gM 14 1,O1 (.build 15 [(.str []),(.str []),(.bool false)] [(0,(cS [97])),(1,(cS [49]))]),O1 (.build 16 [(.str []),(.str []),(.bool false)] [(0,(cS [98])),(1,(cS [50]))]),O1 (.Td 17 73 3 (.agg [(.str []),(.str []),(.bool false)]) 2 [(0,15),(1,16)]),gC 18 25 [(true,14),nL (cS [116]),nL 17],gA 13 18,gE 19 13 0,gE 20 13 1,gA 2 19,gA 3 20] (sO [gM 22 1,O1 (.build 23 [(.str []),(.str []),(.bool false)] [(0,(cS [97])),(2,cT)]),O1 (.Td 24 73 3 (.agg [(.str []),(.str []),(.bool false)]) 1 [(0,23)]),gC 25 25 [(true,22),nL (cS [116]),nL 24],gA 21 25,gE 26 21 0,gE 27 21 1,gA 4 26,gA 5 27] (sO [gM 29 1,O1 (.build 30 [(.str []),(.str [])] []),gC 31 33 [(true,29),nL (cS [116]),nL 30,nL (cI 1),nL (cI 9)],gA 28 31,gE 32 28 0,gE 33 28 1,gE 34 28 2,gA 6 32,gA 7 33,gA 8 34] (sO [gM 35 2,gB 36 .eql 35 (cI 1),gM 37 36,qt 37 (iM 38 4),qt 37 (iB 39 .eql 38 (cI 2)),gP 40 37 39 cF,gM 41 40,qt 41 (iM 42 3),qt 41 (iB 43 .eql 42 (cI 0)),gP 44 41 43 cF,gM 45 44,qt 45 (iM 46 5),qt 45 (iB 47 .eql 46 (cI 0)),gP 48 45 47 cF,gM 49 48,qt 49 (iM 50 8),qt 49 (iB 51 .eql 50 (cI 0)),gP 52 49 51 cF,gM 53 52,qt 53 (iM 54 6),qt 53 (iN 55 54),qt 53 (iB 56 .eql 55 (cI 2)),gP 57 53 56 cF,gM 58 57,qt 58 (iM 59 6),qt 58 (iI 60 4 59 (cI 0)),qt 58 (iU 61 4 60),qt 58 (.build 62 [(.str []),(.str []),(.int .i64 0),(.int .i64 0)] [(0,(cS [97])),(1,(cS [49])),(2,(cI 1)),(3,(cI 1))]),qt 58 (.eqs 63 false (.st [.str,.str,(.int .i64),(.int .i64)]) 61 62),gP 64 58 63 cF,gM 65 64,qt 65 (iM 66 1),.call (some (65,true)) (some 67) 28 [(true,66),nL (cS [116]),nL (cI 2)],qt 65 (iB 68 .eql 67 (cI 0)),gP 69 65 68 cF,gM 70 69,qt 70 (iM 71 1),.call (some (70,true)) (some 72) 44 [(true,71),nL (cS [116])],qt 70 (iB 73 .eql 72 (cI 1)),gP 74 70 73 cF,gA 0 74] .ret)))))))
theorem Adt:OF 16 75 Adm [.t 0]:=oF Tryz.func16 rfl Tryz.ntmps16
abbrev Ae3:FuncId:=17
def Adn:Ee:=(sO [gA 2 cF] (.seq (sO [gM 7 0,gN 8 7,gM 9 (cI 0)] (.block 0 (.loop (kr [2,3,4,6,7] 10 53) (sO [gB 10 .lss 9 8] (.seq (.cond 10 .skip (.exit 0)) (.seq (.block 1 (sO [gM 11 9,gA 3 11] (sO [gM 12 0,gM 13 3,gI 14 7 12 13,gU 15 7 14,O1 (.alloc 4 (.one (.i (.agg [(.int .i64 0),(.str []),(.list []),(.agg [(.str []),(.str [])]),(.int .i64 0),(.int .i64 0)])))),gS 7 4 15] (.seq (sO [gM 16 3,gB 17 .geq 16 (cI 100),gM 18 17,qf 18 (iG 19 4 2 2),qf 18 (iL 20 19),qf 18 (iN 21 20),qf 18 (iB 22 .gtr 21 (cI 40)),gP 23 18 cT 22,gM 24 23,qf 24 (iG 25 4 1 1),qf 24 (iL 26 25),qf 24 (.len 27 true 26),qf 24 (iB 28 .gtr 27 (cI 1000)),gP 29 24 cT 28,gM 30 29,qf 30 (iG 31 4 3 3),qf 30 (iG 32 31 0 0),qf 30 (iL 33 32),qf 30 (.len 34 true 33),qf 30 (iB 35 .gtr 34 (cI 1000)),gP 36 30 cT 35,gM 37 36,qf 37 (iG 38 4 3 3),qf 37 (iG 39 38 1 1),qf 37 (iL 40 39),qf 37 (.len 41 true 40),qf 37 (iB 42 .gtr 41 (cI 1000)),gP 43 37 cT 42] (cR 43 [gA 2 cT])) (sO [gF 44 4 2,gL 45 44,gN 46 45,gM 47 (cI 0)] (.block 2 (.loop (kr [2,6,7,12] 48 14) (sO [gB 48 .lss 47 46] (.seq (.cond 48 .skip (.exit 2)) (.seq (.block 3 (sO [gI 49 3 45 47,gU 50 3 49,O1 (.alloc 6 (.one (.i (.agg [(.str []),(.str []),(.bool false)])))),gS 3 6 50] (sO [gF 51 6 0,gL 52 51,O1 (.len 53 true 52),gB 54 .gtr 53 (cI 1000),gM 55 54,qf 55 (iG 56 6 1 1),qf 55 (iL 57 56),qf 55 (.len 58 true 57),qf 55 (iB 59 .gtr 58 (cI 1000)),gP 60 55 cT 59] (cR 60 [gA 2 cT])))) (.ops [gB 61 .add 47 (cI 1),gM 47 61]))))))))))) (.ops [gB 62 .add 9 (cI 1),gM 9 62]))))))) (sO [gA 2 cF] .ret)))
theorem Adu:OF 17 63 Adn [.t 2]:=oF Tryz.func17 rfl Tryz.ntmps17
abbrev Jp:FuncId:=21
def Aff:Ee:=(sO [O1 (.box 5 2),gA 6 cF] (.seq (sO [gF 17 5 0,gL 18 17] (.block 0 (sO [gB 20 .eql 18 (cI 0),gA 19 20] (.cond 19 (sO [gM 22 0,gF 23 5 1,gL 24 23,gF 25 5 2,gL 26 25,gC 27 25 [(true,22),nL 24,nL 26],gA 21 27,gE 28 21 0,gE 29 21 1,gA 7 28,gA 8 29] (sO [gM 31 1,gF 32 5 1,gL 33 32,gF 34 5 2,gL 35 34,gC 36 27 [(true,31),nL 33,nL 35],gA 30 36,gE 37 30 0,gE 38 30 1,gA 9 37,gA 10 38] (sO [gM 39 7,gM 40 9,gB 41 .eql 39 40,gM 42 41,qt 42 (iM 43 8),qt 42 (iM 44 10),qt 42 (iB 45 .eql 43 44),gP 46 42 45 cF,gA 6 46] .ret))) (sO [gB 48 .eql 18 (cI 1),gA 47 48] (.cond 47 (sO [gM 50 0,gF 51 5 1,gL 52 51,gF 53 5 3,gU 54 2 53,gG 55 5 4 5,gL 56 55,gG 57 5 5 6,gL 58 57,gC 59 33 [(true,50),nL 52,nL 54,nL 56,nL 58],gA 49 59,gE 60 49 0,gE 61 49 1,gE 62 49 2,gA 11 60,gA 12 61,gA 13 62] (sO [gM 64 1,gF 65 5 1,gL 66 65,gF 67 5 3,gU 68 2 67,gG 69 5 4 5,gL 70 69,gG 71 5 5 6,gL 72 71,gC 73 37 [(true,64),nL 66,nL 68,nL 70,nL 72],gA 63 73,gE 74 63 0,gE 75 63 1,gE 76 63 2,gA 14 74,gA 15 75,gA 16 76] (sO [gM 77 11,gM 78 14,gC 79 39 [nL 77,nL 78],gM 80 79,qt 80 (iM 81 12),qt 80 (iM 82 15),qt 80 (.eqs 83 false .bool 81 82),gP 84 80 83 cF,gM 85 84,qt 85 (iM 86 13),qt 85 (iM 87 16),qt 85 (iB 88 .eql 86 87),gP 89 85 88 cF,gA 6 89] .ret))) (sO [gB 91 .eql 18 (cI 2),gA 90 91] (.cond 90 (.seq (.Kf [0,0,2,0,8,31,0,0,128,0,512,2047,4095,8191] [gM 92 0,gF 93 5 1,gL 94 93,gG 95 5 4 5,gL 96 95,gC 97 28 [(true,92),nL 94,nL 96],gM 98 1,gF 99 5 1,gL 100 99,gG 101 5 4 5,gL 102 101,gC 103 29 [(true,98),nL 100,nL 102],gB 104 .eql 97 103,gA 6 104]) .ret) (sO [gB 106 .eql 18 (cI 3),gA 105 106] (.cond 105 (.seq (.Kf [0,0,2,7,0,0,32,127,255,511] [gM 107 0,gF 108 5 1,gL 109 108,gC 110 24 [(true,107),nL 109],gM 111 1,gF 112 5 1,gL 113 112,gC 114 26 [(true,111),nL 113],gB 115 .eql 110 114,gA 6 115]) .ret) .skip)))))))))) (sO [gA 6 cT] .ret)))
theorem Lf:OF 21 116 Aff [.t 6]:=oF Tryz.func21 rfl Tryz.ntmps21
abbrev Mr:FuncId:=22
def Acp:Ee:=(sO [gA 6 cF] (sO [gM 11 1,gM 12 2,gC 13 35 [(true,11),nL 12],gA 7 13] (.seq (sO [gM 14 7,gB 15 .lss 14 (cI 0)] (.cond 15 (sO [gM 16 0,gM 17 2,gC 18 54 [(true,16),nL 17],gB 19 .eql 18 (cI 0),gM 20 19,qt 20 (iM 21 0),qt 20 (iM 22 2),.call (some (20,true)) (some 23) 55 [(true,21),nL 22],qt 20 (iB 24 .eql 23 (cI 0)),gP 25 20 24 cF,gM 26 25,qt 26 (iM 27 0),qt 26 (iM 28 2),.call (some (26,true)) (some 29) 56 [(true,27),nL 28],qt 26 (iB 30 .eql 29 (cI 0)),gP 31 26 30 cF,gM 32 31,qt 32 (iM 33 0),qt 32 (iM 34 2),.call (some (32,true)) (some 35) 57 [(true,33),nL 34],qt 32 (iB 36 .eql 35 (cI 0)),gP 37 32 36 cF,gM 38 37,qt 38 (iM 39 0),qt 38 (iM 40 2),.call (some (38,true)) (some 41) 44 [(true,39),nL 40],qt 38 (iB 42 .eql 41 (cI 0)),gP 43 38 42 cF,gA 6 43] .ret) .skip)) (sO [gM 45 1,O1 (.Es 46 45),gF 47 46 0,gL 48 47,gM 49 7,gI 50 4 48 49,gU 51 4 50,gC 52 58 [nL 51],gA 44 52,gE 53 44 0,gE 54 44 1,gE 55 44 2,gA 8 53,gA 9 54,gA 10 55] (.seq (.Kf [0,0,3,0,8,24,56,0,248,504,1016,2047,4095,8191,8191,32767,8191,73727,204799,466943,8191,2039807,4136959,8331263,16777215,33554431,67108863,134217727,134217727,536870911,134217727,2147483647,4294967295,8589934591,17179869183,17179869183,68719476735,17179869183,274877906943,549755813887,1099511627775,2199023255551,2199023255551,8796093022207,2199023255551,35184372088831,70368744177663,140737488355327] [gM 56 0,gM 57 2,gC 58 54 [(true,56),nL 57],gM 59 1,O1 (.Es 60 59),gF 61 60 0,gL 62 61,gM 63 7,gI 64 4 62 63,gF 65 64 1,gL 66 65,gB 67 .eql 58 66,gM 68 67,qt 68 (iM 69 0),qt 68 (iM 70 2),.call (some (68,true)) (some 71) 55 [(true,69),nL 70],qt 68 (iM 72 1),qt 68 (.Es 73 72),qt 68 (iG 74 73 0 0),qt 68 (iL 75 74),qt 68 (iM 76 7),qt 68 (iI 77 4 75 76),qt 68 (iG 78 77 2 2),qt 68 (iL 79 78),qt 68 (iB 80 .eql 71 79),gP 81 68 80 cF,gM 82 81,qt 82 (iM 83 0),qt 82 (iM 84 2),.call (some (82,true)) (some 85) 56 [(true,83),nL 84],qt 82 (iM 86 9),qt 82 (iB 87 .eql 85 86),gP 88 82 87 cF,gM 89 88,qt 89 (iM 90 0),qt 89 (iM 91 2),.call (some (89,true)) (some 92) 57 [(true,90),nL 91],qt 89 (iM 93 8),qt 89 (iB 94 .eql 92 93),gP 95 89 94 cF,gM 96 95,qt 96 (iM 97 0),qt 96 (iM 98 2),.call (some (96,true)) (some 99) 44 [(true,97),nL 98],qt 96 (iM 100 10),qt 96 (iB 101 .eql 99 100),gP 102 96 101 cF,gA 6 102]) .ret)))))
theorem Tz:OF 22 103 Acp [.t 6]:=oF Tryz.func22 rfl Tryz.ntmps22

open Go.Proofs
theorem Bvt:U3 80000 aw1.l:=⟨by decide,by intro h hh;cases hh⟩
theorem Bvu:U3 80000 aw2.l:=⟨by decide,by intro h hh;simp[aw2]at hh;rcases hh with rfl|rfl<;>simp⟩
theorem Bvv:U3 80000 aw3.l:=⟨by decide,by intro h hh;simp[aw3]at hh;rcases hh with rfl|rfl<;>simp⟩
theorem Bny:Fn Tryz.prog Qq [sP ⟨[],[]⟩,.v (.str [116])] (Is (.v (ti 0)) [sP aw1,.no]):=by
 have h:=Ajm [116];rw[show Hp [116]=true by rfl]at h
 exact Au9 ⟨[],[]⟩ [116] true h
theorem Bda:Fn Tryz.prog Hn [sP aw1,.v (.str [116]),.v (.list [(Ce.mk [97] [49] false).Ap,(Ce.mk [98] [50] false).Ap])] (Is (.F4 [.i (ti 1),.i (ti 0)]) [sP aw2,.no,.no]):=
 Ajy Bat Bbs aw1 [116] Amc 0 (by rfl) (by decide) (by decide) Bvt ⟨by decide,by decide,by decide⟩ (by decide) Amc (some Amc) rfl Bnw ⟨⟨0,0,4,2,2⟩,aw2.l,true⟩ (by rw[Bhi];exact Boz)
theorem Bdb:Fn Tryz.prog Hn [sP aw2,.v (.str [116]),.v (.list [(Ce.mk [97] [] true).Ap])] (Is (.F4 [.i (ti 2),.i (ti 0)]) [sP aw3,.no,.no]):=
 Ajy Bat Bbs aw2 [116] Amd 0 (by rfl) (by decide) (by decide) Bvu ⟨by decide,by decide,by decide⟩ (by decide) Amd (some Amd) rfl Bnx ⟨⟨1,0,2,1,3⟩,aw3.l,true⟩ (by rw[Bhj];exact Bo0)
theorem Bhh:Fn Tryz.prog G4 [sP aw3,.v (.str [116]),.v (⟨[],[]⟩:Sp).Ap,.v (ti 1),.v (ti 9)] (Is (.F4 [.i (.list [(Pr.mk [97] [49] 1 1).Ap,(Pr.mk [98] [50] 1 1).Ap]),.i (.bool false),.i (ti 0)]) [sP aw3,.no,.no,.no,.no]):=
 Aya ofC aw3 ⟨by decide,by intro h hh;simp[aw3]at hh;rcases hh with rfl|rfl<;>simp⟩ [116] (by decide) ⟨[],[]⟩ 1 9 0 (by rfl) (by decide) (by decide) (by decide) ([⟨[97],[49],1,1⟩,⟨[98],[50],1,1⟩],false) (by rfl)
theorem A9g:Fn Tryz.prog Ad1 [sP aw3,.v (.str [116]),.v (ti 2)] (Is (.v (ti 0)) [sP aw4,.no,.no]):=
 Ami aw3 [116] 2 0 (by rfl) Bvv (by decide) ⟨aw4.l,1⟩ Bnv
theorem Bnz:Fn Tryz.prog U0 [sP aw4,.v (.str [116])] (Is (.v (ti 1)) [sP aw4,.no]):=Aak aw4 [116]
theorem Aoa:Fn Tryz.prog Ae2 [] (Is (.v (.bool true)) []):=by
 refine Adt ?_ (by simp)
 repeat'((conv=>whnf);first|(with_reducible refine Bv (by first|assumption|refine decide_eq_true ?_;omega|rfl) fun hb=>?_);(try rw[hb]);try simp only[Am]at hb|((with_reducible refine Ai (fun hb=>?_) fun hb=>?_)<;>first|exact absurd hb (by decide)|(try rw[hb]);try simp only[Am]at hb)|(with_reducible refine Aa ?_ ?_);focus (and_intros<;>first|omega|with_reducible rfl|kernel_rfl|intro _ hh;cases hh;done|exact F0 (by rfl)|simp;done|decide)|with_reducible intro Av|(with_reducible refine A5.mk ?_);(first|refine⟨_,Aoc,?_⟩|refine⟨_,Bny,?_⟩|refine⟨_,Bda,?_⟩|refine⟨_,Bdb,?_⟩|refine⟨_,Bhh,?_⟩|refine⟨_,A9g,?_⟩|refine⟨_,Bnz,?_⟩);rintro _ _ ⟨rfl,rfl⟩)
 all_goals(try(conv=>whnf))
 (apply D6<;>kernel_rfl)

open Go.Proofs
theorem A63{m:Nat}{s:A6}(h:G6 m s)(hm:m≤80000)(n:A1)(cs:List Ce)(hn:n.length≤1000)(Kr:cs.length≤1000):
 Fn Tryz.prog Hn [sP s,.v (.str n),.v (.list (cs.map Ce.Ap))] (Is (.F4 [.i (ti (s.Ja n cs).2.1),.i (ti (s.Ja n cs).2.2)]) [sP (s.Ja n cs).1,.no,.no]):=by
 unfold A6.Ja;cases hf:s.fi n with
 |none=>exact Bcy s n cs hf
 |some i=>
  dsimp only;cases hF:L6 cs []with
  |none=>exact Bha s n cs i hf Kr none rfl hF
  |some F=>
   have Ti:=h.rv n;exact Ajy Bat Bbs s n cs i hf hn Kr (h.lb.mono hm) ((h.tb n).mono hm) (by omega) F (some F) rfl hF _ rfl
theorem Bch{m:Nat}{s:A6}(h:G6 m s)(hm:m≤80000)(n:A1)(rev:Int):
 Fn Tryz.prog Rp [sP s,.v (.str n),.v (ti rev)] (Is (.v (ti (s.J9 n rev).2)) [sP (s.J9 n rev).1,.no,.no]):=by
 unfold A6.J9;cases hf:s.fi n with
 |none=>exact A05 s n rev hf
 |some i=>
  dsimp only;by_cases he:s.Vo n rev=0
  ·rw[if_pos he];obtain⟨e1,e2,e3⟩:=Ahy he;have Ti:=h.rv n;exact Ami s n rev i hf (h.lb.mono hm) ⟨e1,e2,e3,by omega⟩ _ rfl
  ·rw[if_neg he];exact A5w s n rev i hf he
theorem A61{m:Nat}{s:A6}(h:G6 m s)(hm:m≤80000)(n:A1)(hn:n.length≤1000)(x:Sp)(rev most:Int):
 Fn Tryz.prog G4 [sP s,.v (.str n),.v x.Ap,.v (ti rev),.v (ti most)] (Is (.F4 [.i (.list ((s.Nw n x rev most).1.map Pr.Ap)),.i (.bool (s.Nw n x rev most).2.1),.i (ti (s.Nw n x rev most).2.2)]) [sP s,.no,.no,.no,.no]):=by
 have Ti:=h.rv n;exact Bcm ofC s (h.bd hm) n (by omega) x rev most (by omega)
theorem Bcj(s:A6)(n:A1):Fn Tryz.prog Qq [sP s,.v (.str n)] (Is (.v (ti (s.J4 (Hp n) n).2)) [sP (s.J4 (Hp n) n).1,.no]):=
 Au9 s n (Hp n) (Ajm n)

open Go.Proofs
def K6.hd(j:Nat)(o:K6):Prop:=100≤j∨40<o.l.length∨1000<o.n.length∨1000<o.x.f.length∨1000<o.x.t.length
instance(j:Nat)(o:K6):Decidable (o.hd j):=by unfold K6.hd;infer_instance
def Ce.big(c:Ce):Prop:=1000<c.key.length∨1000<c.val.length
instance(c:Ce):Decidable c.big:=by unfold Ce.big;infer_instance
def cGo:List Ce→Bool
 | []=>false
 |c::r=>if c.big then true else cGo r
def Ru:Nat→List K6→Bool
 |_,[]=>false
 |j,o::r=>if o.hd j then true else if cGo o.l=true then true else Ru (j+1) r
theorem A1q:∀{l:List K6} {j:Nat},Ru j l=false→j≤100→j+l.length≤100∧∀o∈l,o.l.length≤40∧o.n.length≤1000
 | [],j,_,hj=>⟨by simpa using hj,by simp⟩
 |o::r,j,h,hj=>by
  unfold Ru at h;split at h
  ·cases h
  ·rename_i h1;split at h
   ·cases h
   ·unfold K6.hd at h1;obtain⟨a,b⟩:=A1q h (by omega)
    refine⟨by rw[Cg];omega,fun x hx=>?_⟩
    rcases Ah.1 hx with rfl|hx
    ·exact⟨by omega,by omega⟩
    ·exact b x hx
theorem Aob(l:List K6):Fn Tryz.prog Ae3 [.v (.list (l.map K6.Ap))] (Is (.v (.bool (Ru 0 l))) [.no]):=by
 refine Adu ?_ (by simp)
 obtain⟨E3,Hj⟩:∃R,Ru 0 l=R:=⟨_,rfl⟩;rw[Hj];repeat'((conv=>whnf);first|(with_reducible refine Aa ?_ ?_);focus (and_intros<;>(with_reducible rfl))|with_reducible intro Av)
 all_goals(try(conv=>whnf))
 have hl:l.length≤9223372036854775807:=by simpa[maxLen]using Av
 refine Ep.by (X:=Nat) (fun j=>[(9,.v (ti (j:Int)))]) (fun j=>j≤l.length∧Ru j (l.drop j)=E3) (fun j=>l.length - j) 0 (by kernel_rfl) ⟨A3 _,Hj⟩ ?_
 rintro j ⟨hj,hR⟩
 (try dsimp only at hj hR ⊢)
 by_cases E6:j<l.length
 case neg=>
  have h3:¬decide ((j:Int)<((l.map K6.Ap).length:Int))=true:=by simp;omega
  have h4:¬decide ((j:Int)<(l.length:Int))=true:=by simp;omega
  rw[Bo (by omega)]at hR
  have hR:false=E3:=hR;subst hR;repeat'((conv=>whnf);((with_reducible refine Bq (by first|(with_reducible assumption)|(with_reducible exact Ag (by assumption))) fun hb=>?_);(try rw[hb]);(try simp only[Am]at hb)))
  all_goals(try(conv=>whnf))
  (apply D6<;>kernel_rfl)
 have hw:=zwj (j:=j) (by omega)
 obtain⟨o,ho⟩:∃x,l[j]?=some x:=⟨_,Ac E6⟩;have h3:¬decide ((j:Int)<((l.map K6.Ap).length:Int))=false:=by simp;omega
 have h4:¬decide ((j:Int)<(l.length:Int))=false:=by simp;omega
 have K9:l.drop j=o::l.drop (j+1):=by rw[A7 E6];rw[Ac E6]at ho;cases ho;rfl
 rw[K9]at hR;unfold Ru at hR;by_cases hd:o.hd j
 ·rw[if_pos hd]at hR;subst hR;obtain⟨k,n,cl,⟨xf,xt⟩,rev,most⟩:=o;unfold K6.hd at hd
  (try dsimp only at hd)
  have g1:(decide ((100:Int)≤(j:Int)))=decide (100≤j):=by simp;omega
  have Eh:(cl.map Ce.Ap).length=cl.length:=An _;repeat'((conv=>whnf);first|(with_reducible first|refine Bv (by first|assumption|exact Ae (by assumption)|rfl) fun hb=>?_|refine Bq (by rfl) fun hb=>?_);(try rw[hb]);try simp only[Am]at hb|((with_reducible refine Ai (fun hb=>?_) fun hb=>?_)<;>first|exfalso;((simp only[Eu]at hb<;>omega))|(try rw[hb]);try simp only[Am]at hb)|(with_reducible refine Aa ?_ ?_);focus (and_intros<;>first|omega|with_reducible rfl|kernel_rfl|simp;done)|with_reducible intro Av|(try dsimp only);(first|rw[Be ho]|rw[Eh]))
  all_goals(try(conv=>whnf))
  all_goals((apply D6<;>kernel_rfl))
 rw[if_neg hd]at hR;obtain⟨k,n,cl,⟨xf,xt⟩,rev,most⟩:=o;unfold K6.hd at hd
 (try dsimp only at hd hR)
 have Eh:(cl.map Ce.Ap).length=cl.length:=An _;have B16:cl.length≤40:=by omega
 repeat'((conv=>whnf);first|(with_reducible first|refine Bv (by exact Ae (by assumption)) fun hb=>?_|refine Bq (by first|refine decide_eq_false ?_;omega|rfl) fun hb=>?_);(try rw[hb]);try simp only[Am]at hb|((with_reducible refine Ai (fun hb=>?_) fun hb=>?_)<;>first|exfalso;((simp only[Eu]at hb<;>omega))|(try rw[hb]);try simp only[Am]at hb)|(with_reducible refine Aa ?_ ?_);focus (and_intros<;>first|omega|with_reducible rfl|kernel_rfl|simp;done)|with_reducible intro Av|(try dsimp only);(first|rw[Be ho]|rw[Eh]))
 all_goals(try(conv=>whnf))
 refine Ep.by (X:=Nat) (fun q=>[(47,.v (ti (q:Int)))]) (fun q=>q≤cl.length∧(if cGo (cl.drop q)=true then true else Ru (j+1) (l.drop (j+1)))=E3) (fun q=>cl.length - q) 0 (by kernel_rfl) ⟨A3 _,hR⟩ ?_
 rintro q ⟨hq,hQ⟩
 (try dsimp only at hq hQ ⊢)
 have Sb:=zwj (j:=q) (by omega)
 by_cases Sv:q<cl.length
 case neg=>
  have h5:¬decide ((q:Int)<((cl.map Ce.Ap).length:Int))=true:=by simp;omega
  have h6:¬decide ((q:Int)<(cl.length:Int))=true:=by simp;omega
  rw[Bo (by omega)]at hQ
  have hQ:Ru (j+1) (l.drop (j+1))=E3:=hQ;repeat'((conv=>whnf);first|(with_reducible refine Bq (by exact Ag (by assumption)) fun hb=>?_);(try rw[hb]);try simp only[Am]at hb|skip;rw[hw])
  all_goals(try(conv=>whnf))
  refine Round.by (j+1) ?_ ⟨by omega,hQ⟩ (by omega)
  try dsimp only
  show norm _ _=Dy _ _
  kernel_rfl
 obtain⟨c,hc⟩:∃x,cl[q]?=some x:=⟨_,Ac Sv⟩;have h5:¬decide ((q:Int)<((cl.map Ce.Ap).length:Int))=false:=by simp;omega
 have h6:¬decide ((q:Int)<(cl.length:Int))=false:=by simp;omega
 have hdq:cl.drop q=c::cl.drop (q+1):=by rw[A7 Sv];rw[Ac Sv]at hc;cases hc;rfl
 rw[hdq]at hQ;unfold cGo at hQ;obtain⟨ck,cv,cg⟩:=c;by_cases hb:(Ce.mk ck cv cg).big
 ·rw[if_pos hb]at hQ;have hQ:true=E3:=hQ;subst hQ;unfold Ce.big at hb
  (try dsimp only at hb)
  repeat'((conv=>whnf);first|(with_reducible first|refine Bv (by first|assumption|exact Ae (by assumption)|rfl) fun hb=>?_|refine Bq (by rfl) fun hb=>?_);(try rw[hb]);try simp only[Am]at hb|((with_reducible refine Ai (fun hb=>?_) fun hb=>?_)<;>first|exfalso;((simp only[Eu]at hb<;>omega))|(try rw[hb]);try simp only[Am]at hb)|(with_reducible refine Aa ?_ ?_);focus (and_intros<;>first|omega|with_reducible rfl|kernel_rfl|simp;done)|with_reducible intro Av|(try dsimp only);rw[Be hc])
  all_goals(try(conv=>whnf))
  all_goals((apply D6<;>kernel_rfl))
 ·rw[if_neg hb]at hQ;unfold Ce.big at hb
  (try dsimp only at hb)
  repeat'((conv=>whnf);first|(with_reducible first|refine Bv (by exact Ae (by assumption)) fun hb=>?_|refine Bq (by rfl) fun hb=>?_);(try rw[hb]);try simp only[Am]at hb|((with_reducible refine Ai (fun hb=>?_) fun hb=>?_)<;>first|exfalso;((simp only[Eu]at hb<;>omega))|(try rw[hb]);try simp only[Am]at hb)|(with_reducible refine Aa ?_ ?_);focus (and_intros<;>first|omega|with_reducible rfl|kernel_rfl|simp;done)|with_reducible intro Av|(try dsimp only);(first|rw[Be hc]|rw[Sb]))
  all_goals(try(conv=>whnf))
  refine Round.by (q+1) ?_ ⟨by omega,hQ⟩ (by omega)
  try dsimp only
  show norm _ _=Dy _ _
  kernel_rfl

open Go.Proofs
def Bsu:A6:=⟨[([116],Ny),([117],Ny)],[]⟩
theorem Bsh:(A6.mk [] []).J4 (Hp [116]) [116]=(⟨[([116],Ny)],[]⟩,0):=by
 rw[show Hp [116]=true by rfl];rfl
theorem Bsi:(A6.mk [([116],Ny)] []).J4 (Hp [117]) [117]=(Bsu,0):=by
 rw[show Hp [117]=true by rfl];rfl
theorem inv2:G6 0 Bsu:=by
 have h1:=Bof.open (nm:=Hp [116]) [116] Zx;rw[Bsh]at h1;have h2:=h1.open (nm:=Hp [117]) [117] Zx;rw[Bsi]at h2;exact h2

open Go.Proofs
abbrev Bvs:FuncId:=Nz
abbrev Bkr:FuncId:=Nb
theorem Br7:Aht Tryz.prog Bvs Bkr 106:=Aht.of Bne
open Go.RowKit Go.Maps Go.Sort Go.Shelf in
theorem Bdr:∀args w,(callFunc 95 args).run Tryz.prog w= .ok (.enter 95 args) w:=enters_of Tryz.func95 (by kernel_rfl) rfl
set_option maxHeartbeats 4000000 in
theorem Bss:Yg Tryz.prog Uz Bkr 9:=by
 have h:=Yg.of A8y Bne A8z A1e Bdr;exact h
def A6.names(s:A6):List A1:=Fz (s.sp.map (·.1))
theorem A62(s:A6)(F5:(s.sp.map (·.1)).Nodup)(hl:s.sp.length≤1000):Fn Tryz.prog Wn [sP s] (Is (.v (.list (s.names.map I.str))) [sP s]):=by
 refine Ag4 ?_ (by simp)
 obtain⟨KS,hKS⟩:∃K,K=s.sp.map fun x=>I.str x.1:=⟨_,rfl⟩
 have Bir:∀x∈KS,∃s,x=I.str s:=fun x hx=>by rw[hKS]at hx;obtain⟨c,_,rfl⟩:=Cs.1 hx;exact⟨_,rfl⟩
 have Bis:KS.length≤1000000:=by rw[hKS,An];omega
 have Bit:(KS.map Aam).Nodup:=by rw[hKS,List.map_map];exact F5
 have hSI:Xr KS=s.names.map I.str:=by
  unfold A6.names;rw[←Ayu,hKS,List.map_map];rfl
 rw[←hSI];obtain⟨VS,hVS⟩:∃V,V=s.sp.map fun x=>D.ptr (.it x.2.Ap):=⟨_,rfl⟩
 obtain⟨L,hL⟩:∃V,V=s.l.map C0.Dp:=⟨_,rfl⟩;have hs:sP s= .own [] (.ptr (stD KS VS L)):=by rw[hKS,hVS,hL];rfl
 rw[hs];repeat'((conv=>whnf);first|(with_reducible refine Bq (by rfl) fun hb=>?_);(try rw[hb]);try simp only[Am]at hb|(with_reducible refine Aa ?_ ?_);focus (and_intros<;>first|exact Bir|exact Bis|exact Bit|omega|with_reducible rfl|kernel_rfl|simp;done)|refine A21 Br7 ?_|refine At3 Bss ?_)
 all_goals(try(conv=>whnf))
 (apply D6<;>kernel_rfl)

open Go.Proofs
def Ain:Ee:=(sO [O1 (.box 1 0),gA 2 (.Fo 52 4)] (sO [gA 3 (.Fo 52 4)] (.seq (sO [gL 10 1,gC 11 31 [(true,10)],gN 12 11,gM 13 (cI 0)] (.block 0 (.loop [0,4,5,6,7,10,14,15,16,17,18,19,20,21,22,23,24,25,26,27,28,29,30,31,32,33,34,35,54,55,56,57,58,59] (sO [gB 14 .lss 13 12] (.seq (.cond 14 .skip (.exit 0)) (.seq (.block 1 (sO [gI 15 1 11 13,gL 16 15,gA 5 16] (sO [gL 17 1,O1 (.Es 18 17),gF 19 18 0,gL 20 19,gM 21 5,O1 (.Awn 22 .Ra false 20 21),gA 6 22] (.seq (.Kf [0,0,2,6,14,0,32,96,224,511,0,2047] [gM 23 5,gM 24 6,O1 (.Es 25 24),gF 26 25 0,gL 27 26,gM 28 6,O1 (.Es 29 28),gF 30 29 1,gL 31 30,O1 (.U7 32 [(.it (.str [])),(.it (.int .i64 0)),(.it (.int .i64 0)),(.vec 55 2 [])] [(0,23),(1,27),(2,31)]),O1 (.Zn 7 (.st [(.it (.str [])),(.it (.int .i64 0)),(.it (.int .i64 0)),(.vec 55 2 [])])),gS 4 7 32]) (.seq (sO [gL 33 1,gM 34 5,.inl none (some 35) 60 42 [33,34]] (.block 2 (.Ajh 35 82 50 60 [36,37] Yb (sO [gA 8 36] (.ops [gA 9 37])) (.block 3 (.Kf [0,1,0,0,8,24,56,0,248,504,1016,2040,4092,8188,16383,32767,65535] [gF 38 7 3,gL 39 38,gM 40 9,gL 41 1,O1 (.Es 42 41),gF 43 42 1,gL 44 43,gM 45 8,gI 46 2 44 45,gF 47 46 1,gL 48 47,.Ac1 none (some 49) 43 [nL 48],O1 (.U7 50 [(.it (.str [])),(.vec 104 4 [])] [(0,40),(1,49)]),O1 (.Aqy 51 55 2 (.agg [(.str []),(.list [])]) 1 [(0,50)]),O1 (.app 52 55 2 40 39 51),gF 53 7 3,gS 1 53 52]))))) (.ops [gM 54 3,O1 (.At8 55 true 4 7),O1 (.Td 56 52 4 (.agg [(.str []),(.int .i64 0),(.int .i64 0),(.list [])]) 1 [(0,55)]),O1 (.app 57 52 4 56 54 56),gA 3 57])))))) (.ops [gB 58 .add 13 (cI 1),gM 13 58]))))))) (sO [gM 59 3,O1 (.mov 2 52 4 59)] .ret))))
theorem Ai1:OF 15 60 Ain [.t 2]:=oF Tryz.func15 rfl Tryz.ntmps15
end Go.Ab
