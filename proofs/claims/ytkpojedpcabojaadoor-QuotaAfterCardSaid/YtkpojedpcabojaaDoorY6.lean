/- Lemmas -/
import Derived.Test.YtkpojedpcabojaaDoorNW
set_option linter.unusedVariables false
set_option linter.unusedSimpArgs false
set_option maxRecDepth 100000
namespace Go.Ab
open Go.Proofs
abbrev Hr:FuncId:=5
abbrev Kx:FuncId:=17
def Jw:Stm:=(sO [gA 0 cF] (sO [gC 3 19 [],gA 1 3] (sO [gM 4 1,gC 5 20 [(true,4),nL (cS [116])]] (sO [gM 6 1,O1 (.build 7 [(.str []),(.str []),(.bool false)] [(0,(cS [97])),(1,(cS [49,50,51,52,53,54,55,56,57]))]),O1 (.bsl 8 38 3 (.agg [(.str []),(.str []),(.bool false)]) 1 [(0,7)]),gC 9 24 [(true,6),nL (cS [116]),nL 8]] (sO [O1 (.build 10 [(.str []),(.int .i64 0),(.int .i64 0)] [(0,(cS [116])),(1,(cI 8)),(2,(cI 2))]),O1 (.alloc 2 (.one (.i (.agg [(.str []),(.int .i64 0),(.int .i64 0)])))),gS 3 2 10] (sO [gM 11 1,gU 12 3 2,O1 (.build 13 [(.str []),(.str []),(.bool false)] [(0,(cS [97])),(1,(cS [49,50,51,52,53,54,55,56]))]),O1 (.bsl 14 38 3 (.agg [(.str []),(.str []),(.bool false)]) 1 [(0,13)]),gC 15 21 [(true,11),nL 12,nL 14],gM 16 15,qt 16 (iM 17 1),qt 16 (iU 18 3 2),qt 16 (.build 19 [(.str []),(.str []),(.bool false)] [(0,(cS [98])),(1,(cS []))]),qt 16 (.bsl 20 38 3 (.agg [(.str []),(.str []),(.bool false)]) 1 [(0,19)]),.call (some (16,true)) (some 21) 21 [(true,17),nL 18,nL 20],qt 16 (iT 22 21),gP 23 16 22 cF,gA 0 23] .ret))))))
theorem Kc:OF 17 24 Jw [.t 0]:=oF Tryd.func17 rfl Tryd.ntmps17 (by kernel_rfl) (by kernel_rfl)
abbrev Lf:FuncId:=18
def J3:Stm:=(sO [gA 2 cF] (.seq (sO [gM 7 0,gN 8 7,gB 9 .gtr 8 (cI 60)] (cR 9 [gA 2 cT])) (.seq (sO [gM 10 0,gN 11 10,gM 12 (cI 0)] (.block 0 (.loop (kr [2,4,6,7] 13 24) (sO [gB 13 .lss 12 11] (.seq (.cond 13 .skip (.exit 0)) (.seq (.block 1 (sO [gI 14 1 10 12,gL 15 14,gA 4 15] (.seq (sO [gM 16 4,gN 17 16,gB 18 .gtr 17 (cI 100)] (cR 18 [gA 2 cT])) (sO [gM 19 4,gN 20 19,gM 21 (cI 0)] (.block 2 (.loop (kr [2,6,7,16] 22 14) (sO [gB 22 .lss 21 20] (.seq (.cond 22 .skip (.exit 2)) (.seq (.block 3 (sO [gI 23 3 19 21,gU 24 3 23,O1 (.alloc 6 (.one (.i (.agg [(.str []),(.str []),(.bool false)])))),gS 3 6 24] (sO [gF 25 6 0,gL 26 25,O1 (.len 27 true 26),gB 28 .gtr 27 (cI 1000),gM 29 28,qf 29 (iG 30 6 1 1),qf 29 (iL 31 30),qf 29 (.len 32 true 31),qf 29 (iB 33 .gtr 32 (cI 1000)),gP 34 29 cT 33] (cR 34 [gA 2 cT])))) (.ops [gB 35 .add 21 (cI 1),gM 21 35])))))))))) (.ops [gB 36 .add 12 (cI 1),gM 12 36]))))))) (sO [gA 2 cF] .ret))))
theorem Ko:OF 18 37 J3 [.t 2]:=oF Tryd.func18 rfl Tryd.ntmps18 (by kernel_rfl) (by kernel_rfl)
abbrev Jj:FuncId:=21
def Rv:Stm:=(sO [O1 (.box 4 1),gA 6 cF] (sO [gM 10 0,gF 11 4 0,gL 12 11,gM 13 2,gC 14 27 [(true,10),nL 12,nL 13],gA 9 14,gE 15 9 0,gE 16 9 1,gA 7 15,gA 8 16] (.seq (.drw [0,0,2,0,0,16,56,126,255,511,1023,1023,3071,1023,1023,17407,58367,130047,262143,524287,1048575] [gM 17 7,gF 18 4 1,gL 19 18,gM 20 0,gF 21 4 0,gL 22 21,gC 23 22 [(true,20),nL 22],O1 (.mm 24 true 19 23),gB 25 .leq 17 24,gM 26 25,qt 26 (iM 27 8),qt 26 (iG 28 4 2 2),qt 26 (iL 29 28),qt 26 (iM 30 0),qt 26 (iG 31 4 0 0),qt 26 (iL 32 31),.call (some (26,true)) (some 33) 23 [(true,30),nL 32],qt 26 (.mm 34 true 29 33),qt 26 (iB 35 .leq 27 34),gP 36 26 35 cF,gA 6 36]) .ret)))
theorem Sk:OF 21 37 Rv [.t 6]:=oF Tryd.func21 rfl Tryd.ntmps21 (by kernel_rfl) (by kernel_rfl)
abbrev Ez:FuncId:=27
def Nf:Stm:=(sO [gA 6 (cI 0),gA 7 (cI 0)] (sO [gM 20 0,gM 21 1,gC 22 22 [(true,20),nL 21],gM 23 0,gM 24 1,gC 25 23 [(true,23),nL 24],gA 8 22,gA 9 25] (sO [gM 26 8,gM 27 9,gA 10 26,gA 11 27] (sO [O1 (.mkmap 28),gA 12 28] (.seq (sO [gM 29 2,gN 30 29,gM 31 (cI 0)] (.block 0 (.loop [6,7,14,32,33,34,35,36,37,38,39,40,41,42,43,44,45,46,47,48,49,50,51,52,53,54,55,56,57,58,59,60,61,62,83,91] (sO [gB 32 .lss 31 30] (.seq (.cond 32 .skip (.exit 0)) (.seq (.block 1 (sO [gI 33 3 29 31,gU 34 3 33,O1 (.alloc 14 (.one (.i (.agg [(.str []),(.str []),(.bool false)])))),gS 3 14 34] (.seq (sO [gF 35 14 0,gL 36 35,O1 (.len 37 true 36),gB 38 .lss 37 (cI 1),gM 39 38,qf 39 (iG 40 14 0 0),qf 39 (iL 41 40),qf 39 (.len 42 true 41),qf 39 (iB 43 .gtr 42 (cI 64)),gP 44 39 cT 43,gM 45 44,qf 45 (iG 46 14 2 2),qf 45 (iL 47 46),qf 45 (iT 48 47),qf 45 (iM 49 48),qt 49 (iG 50 14 1 1),qt 49 (iL 51 50),qt 49 (.len 52 true 51),qt 49 (iB 53 .gtr 52 (cI 256)),qf 45 (iP 54 49 53 cF),gP 55 45 cT 54] (cR 55 [gM 56 10,gM 57 11,gA 6 56,gA 7 57])) (.ops [gM 58 12,gF 59 14 0,gL 60 59,gU 61 3 14,O1 (.mupd 58 60 61)])))) (.ops [gB 62 .add 31 (cI 1),gM 31 62]))))))) (.seq (sO [O1 (.movD 63 12),O1 (.rngM 64 63)] (.block 2 (.loop (kr [6,7,15,16,17,18,19,29] 65 46) (sO [O1 (.nextM 65 64),gE 66 65 0] (.seq (.cond 66 .skip (.exit 2)) (.block 3 (sO [O1 (.entM 67 64),gE 68 67 0,gE 69 67 1,O1 (.alloc 16 (.one (.i (.agg [(.str []),(.str []),(.bool false)])))),gA 15 68,gS 3 16 69] (sO [gM 71 0,gM 72 1,gM 73 15,gC 74 77 [nL 73],gC 75 33 [(true,71),nL 72,nL 74,nL (cI 0),nL (cI 1)],gA 70 75,gE 76 70 0,gE 77 70 1,gE 78 70 2,gA 17 76,gA 18 77,gA 19 78] (.seq (sO [gM 79 19,gB 80 .neq 79 (cI 0)] (cR 80 [gM 81 10,gM 82 11,gA 6 81,gA 7 82])) (.seq (sO [gM 83 17,gN 84 83,gB 85 .gtr 84 (cI 0)] (.cond 85 (sO [gM 86 9,gB 87 .sub 86 (cI 1),gA 9 87] (.ops [gM 88 8,gM 89 15,O1 (.len 90 true 89),gM 91 17,gI 92 4 91 (cI 0),gF 93 92 1,gL 94 93,O1 (.len 95 true 94),gB 96 .add 90 95,gB 97 .sub 88 96,gA 8 97])) .skip)) (sO [gF 98 16 2,gL 99 98,gT 100 99] (.cond 100 (sO [gM 101 9,gB 102 .add 101 (cI 1),gA 9 102] (.ops [gM 103 8,gM 104 15,O1 (.len 105 true 104),gF 106 16 1,gL 107 106,O1 (.len 108 true 107),gB 109 .add 105 108,gB 110 .add 103 109,gA 8 110])) .skip)))))))))))) (sO [gM 111 8,gM 112 9,gA 6 111,gA 7 112] .ret)))))))
theorem Jh:OF 27 113 Nf [.t 6,.t 7]:=oF Tryd.func27 rfl Tryd.ntmps27 (by kernel_rfl) (by kernel_rfl)
set_option maxHeartbeats 40000000

open Go.Proofs
theorem Ae1:Fn Tryd.prog Ec [sP ⟨[],[]⟩,.v (.str [116])] (Is (.v (ti 0)) [sP aw1,.no]):=by
 have h:=Aa1 [116];rw[show D9 [116]=true by rfl]at h
 exact Aa2 ⟨[],[]⟩ [116] true h

open Go.Proofs
theorem Air{m:Nat}{s:Sto}(h:SInv m s)(hm:m≤80000)(n:Az)(cs:List Chg)(hn:n.length≤1000)(hcs:cs.length≤1000):
 Fn Tryd.prog Da [sP s,.v (.str n),.v (.list (cs.map Chg.toI))] (Is (.tup [.i (ti (s.writeM n cs).2.1),.i (ti (s.writeM n cs).2.2)]) [sP (s.writeM n cs).1,.no,.no]):=by
 unfold Sto.writeM;cases hf:s.fi n with
 |none=>exact Ai8 s n cs hf
 |some i=>
  dsimp only;cases hF:K6 cs []with
  |none=>exact Aji s n cs i hf hcs none rfl hF
  |some F=>
   have hrv:=h.rv n;exact R4 Aep Aex s n cs i hf hn hcs (h.lb.mono hm) ((h.tb n).mono hm) (by omega) F (some F) rfl hF _ rfl
theorem Aff{m:Nat}{s:Sto}(h:SInv m s)(hm:m≤80000)(n:Az)(hn:n.length≤1000)(x:Sp)(rev most:Int):
 Fn Tryd.prog C9 [sP s,.v (.str n),.v x.toI,.v (ti rev),.v (ti most)] (Is (.tup [.i (.list ((s.rangeM n x rev most).1.map Pr.toI)),.i (.bool (s.rangeM n x rev most).2.1),.i (ti (s.rangeM n x rev most).2.2)]) [sP s,.no,.no,.no,.no]):=by
 have hrv:=h.rv n;exact Ai5 ofC s (h.bd hm) n (by omega) x rev most (by omega)

open Go.Proofs
def Opn.hd(j:Nat)(o:Opn):Prop:=100≤j∨40<o.l.length∨1000<o.n.length∨1000<o.x.f.length∨1000<o.x.t.length
instance(j:Nat)(o:Opn):Decidable (o.hd j):=by unfold Opn.hd;infer_instance
def Chg.big(c:Chg):Prop:=1000<c.key.length∨1000<c.val.length
instance(c:Chg):Decidable c.big:=by unfold Chg.big;infer_instance
def cGo:List Chg→Bool
 | []=>false
 |c::r=>if c.big then true else cGo r

open Go.Proofs
def sto2:Sto:=⟨[([116],tal0),([117],tal0)],[]⟩
theorem Ai9:(Sto.mk [] []).openM (D9 [116]) [116]=(⟨[([116],tal0)],[]⟩,0):=by
 rw[show D9 [116]=true by rfl];rfl
theorem Aja:(Sto.mk [([116],tal0)] []).openM (D9 [117]) [117]=(sto2,0):=by
 rw[show D9 [117]=true by rfl];rfl
theorem inv2:SInv 0 sto2:=by
 have h1:=Ajr.open (nm:=D9 [116]) [116] Aha;rw[Ai9]at h1;have h2:=h1.open (nm:=D9 [117]) [117] Aha;rw[Aja]at h2;exact h2

open Go.Proofs
def Sto.names(s:Sto):List Az:=Dc (s.sp.map (·.1))

open Go.Proofs
def Kv.toD(h:Kv):D:=.st [.it (.str h.key),.vec Bb 4 ((h.vs.map Ver.toI).map D.it)]
theorem Kv.toD_I(h:Kv):h.toD.toI=some h.toI:=by
 simp only[Kv.toD,Kv.toI,D.toI,toIs,Ak]

open Go.Proofs
def Bx(rev:Int):List Ver→Ver→Ver
 | [],v=>v
 |w::r,v=>Bx rev r (if w.rev≤rev then w else v)
theorem Ak0(vs:List Ver)(rev:Int)(hl:vs.length≤100000):Fn Tryd.prog Agm [.v (.list (vs.map Ver.toI)),.v (ti rev)] (Is (.tup [.i (Bx rev vs Aj).toI,.i (.bool (!(Bx rev vs Aj).gone))]) [.no,.no]):=by
 refine Agg ?_ (by simp)
 obtain⟨RES,hRES⟩:∃R,Bx rev vs Aj=R:=⟨_,rfl⟩;rw[hRES];repeat'((conv=>whnf);((with_reducible refine Exists.intro ?_ ?_);focus (and_intros<;>first|omega|kernel_rfl)))
 all_goals(try(conv=>whnf))
 refine LoopWq.by (X:=Nat × Ver) (fun y=>[(7,.v (ti (y.1:Int))),(6,.box (T.one (F.i y.2.toI)))]) (fun y=>y.1≤vs.length∧Bx rev (vs.drop y.1) y.2=RES) (fun y=>vs.length - y.1) (0,Aj) (by kernel_rfl) ⟨Nat.zero_le _,hRES⟩ ?_
 rintro⟨j,v⟩ ⟨hj,hR⟩;dsimp only at hj hR ⊢;have hw:IntKind.i64.wrap ((j:Int)+1)=((j+1:Nat):Int):=(Bf (by omega)).trans (by omega)
 by_cases hjl:j<vs.length
 case neg=>
  have h3:¬decide ((j:Int)<((vs.map Ver.toI).length:Int))=true:=by simp;omega
  have h4:¬decide ((j:Int)<(vs.length:Int))=true:=by simp;omega
  rw[List.drop_eq_nil_of_le (by omega)]at hR
  have hR:v=RES:=hR;subst hR;obtain⟨vr,vm,vv,vg⟩:=v;repeat'((conv=>whnf);first|((with_reducible refine Aw (by(with_reducible exact Bool.of_not_eq_true (by assumption))) (fun hb=>?_));(try rw[hb]);(try simp only[Aa]at hb))|((with_reducible refine Exists.intro ?_ ?_);focus (and_intros<;>first|omega|(with_reducible rfl)|kernel_rfl|(simp;done)))|(with_reducible intro hfact)|((with_reducible refine Drawn.mkV ?_ ?_ ?_ (fun hfact=>?_));(focus (as_aux_lemma=>kernel_rfl));(focus (as_aux_lemma=>kernel_rfl));(focus (as_aux_lemma=>kernel_rfl));(try simp only[dRS]at hfact)))
  all_goals(try(conv=>whnf))
  (apply dKq<;>kernel_rfl)
 obtain⟨w,hwv⟩:∃x,vs[j]?=some x:=⟨_,List.getElem?_eq_getElem hjl⟩;have h3:¬decide ((j:Int)<((vs.map Ver.toI).length:Int))=false:=by simp;omega
 have h4:¬decide ((j:Int)<(vs.length:Int))=false:=by simp;omega
 have hdr:vs.drop j=w::vs.drop (j+1):=by rw[List.drop_eq_getElem_cons hjl];rw[List.getElem?_eq_getElem hjl]at hwv;cases hwv;rfl
 rw[hdr]at hR;simp only[Bx]at hR;by_cases hle:w.rev≤rev
 ·rw[if_pos hle]at hR;have hb:¬decide (w.rev≤rev)=false:=by simpa using hle
  repeat'((conv=>whnf);first|((with_reducible refine Ax (by(with_reducible exact Bool.of_not_eq_false (by assumption))) (fun hb=>?_));(try rw[hb]);(try simp only[Aa]at hb))|((with_reducible refine Exists.intro ?_ ?_);focus (and_intros<;>first|omega|(with_reducible rfl)|kernel_rfl))|(with_reducible intro hfact)|((try dsimp only);(rw[B6 hwv]))|(skip;rw[hw]))
  all_goals(try(conv=>whnf))
  refine Round.by (j+1,w) ?_ ⟨by omega,hR⟩ (by dsimp only;omega)
  try dsimp only
  show norm _ _=upd _ _
  kernel_rfl
 ·rw[if_neg hle]at hR;have hb:¬decide (w.rev≤rev)=true:=by simpa using hle
  repeat'((conv=>whnf);first|((with_reducible refine Ax (by(with_reducible exact Bool.of_not_eq_false (by assumption))) (fun hb=>?_));(try rw[hb]);(try simp only[Aa]at hb))|((with_reducible refine Aw (by(with_reducible exact Bool.of_not_eq_true (by assumption))) (fun hb=>?_));(try rw[hb]);(try simp only[Aa]at hb))|((with_reducible refine Exists.intro ?_ ?_);focus (and_intros<;>first|omega|(with_reducible rfl)|kernel_rfl))|(with_reducible intro hfact)|((try dsimp only);(rw[B6 hwv]))|(skip;rw[hw]))
  all_goals(try(conv=>whnf))
  refine Round.by (j+1,v) ?_ ⟨by omega,hR⟩ (by dsimp only;omega)
  try dsimp only
  show norm _ _=upd _ _
  kernel_rfl
def Ls(x:Sp)(rev:Int):List Kv→List Pr→List Pr
 | [],out=>out
 |h::r,out=>if(Bx rev h.vs Aj).gone=false∧SpH x h.key then Ls x rev r (out++[⟨h.key,(Bx rev h.vs Aj).val,(Bx rev h.vs Aj).made,(Bx rev h.vs Aj).rev⟩])else Ls x rev r out
theorem Am0(p:Spc)(x:Sp)(rev:Int)(hl:p.keys.length≤100000)(hv:∀h∈p.keys,h.vs.length≤100000):Fn Tryd.prog Agc [.v p.toI,.v x.toI,.v (ti rev)] (Is (.v (.list ((Ls x rev p.keys []).map Pr.toI))) [.no,.no,.no]):=by
 refine Af4 ?_ (by simp)
 obtain⟨RES,hRES⟩:∃R,Ls x rev p.keys []=R:=⟨_,rfl⟩;rw[hRES];obtain⟨pn,prv,pfl,ks⟩:=p;dsimp only at hl hv hRES;repeat'((conv=>whnf);((with_reducible refine Exists.intro ?_ ?_);focus (and_intros<;>omega)))
 all_goals(try(conv=>whnf))
 refine LoopWq.by (X:=Nat × List Pr) (fun y=>[(8,.v (ti (y.1:Int))),(7,.vec 67 4 (y.2.map Pr.toI))]) (fun y=>y.1≤ks.length∧y.2.length≤y.1∧Ls x rev (ks.drop y.1) y.2=RES) (fun y=>ks.length - y.1) (0,[]) (by kernel_rfl) ⟨Nat.zero_le _,Nat.zero_le _,hRES⟩ ?_
 rintro⟨j,out⟩ ⟨hj,hol,hR⟩;dsimp only at hj hol hR ⊢;have hw:IntKind.i64.wrap ((j:Int)+1)=((j+1:Nat):Int):=(Bf (by omega)).trans (by omega)
 have hol2:(out.map Pr.toI).length≤100000:=by rw[List.length_map];omega
 have hks:(ks.map Kv.toI).length=ks.length:=List.length_map _;by_cases hjl:j<ks.length
 case neg=>
  have h3:¬decide ((j:Int)<((ks.map Kv.toI).length:Int))=true:=by simp;omega
  have h4:¬decide ((j:Int)<(ks.length:Int))=true:=by simp;omega
  rw[List.drop_eq_nil_of_le (by omega)]at hR
  have hR:out=RES:=hR;subst hR;repeat'((conv=>whnf);first|((with_reducible refine Aw (by(with_reducible exact Bool.of_not_eq_true (by assumption))) (fun hb=>?_));(try rw[hb]);(try simp only[Aa]at hb))|((with_reducible refine Exists.intro ?_ ?_);focus (and_intros<;>first|omega|(with_reducible rfl)|kernel_rfl|(simp;done)))|(with_reducible intro hfact))
  all_goals(try(conv=>whnf))
  (apply dKq<;>kernel_rfl)
 obtain⟨h,he⟩:∃x,ks[j]?=some x:=⟨_,List.getElem?_eq_getElem hjl⟩;have h3:¬decide ((j:Int)<((ks.map Kv.toI).length:Int))=false:=by simp;omega
 have h4:¬decide ((j:Int)<(ks.length:Int))=false:=by simp;omega
 have hdr:ks.drop j=h::ks.drop (j+1):=by rw[List.drop_eq_getElem_cons hjl];rw[List.getElem?_eq_getElem hjl]at he;cases he;rfl
 rw[hdr]at hR;simp only[Ls]at hR;have hat:=Ak0 h.vs rev (hv h (List.mem_of_getElem? he));have hsh:=Ak7 x h.key;generalize Bx rev h.vs Aj=v at hat hR;obtain⟨vr,vm,vv,vg⟩:=v;obtain⟨hk,hvs⟩:=h;dsimp only at hat hsh hR;by_cases hx:SpH x hk
 ·rw[decide_eq_true hx]at hsh;cases vg with
  |false=>
   rw[if_pos ⟨rfl,hx⟩]at hR;repeat'((conv=>whnf);first|((with_reducible refine Ax (by first|(with_reducible exact Bool.of_not_eq_false (by assumption))|(with_reducible rfl)) (fun hb=>?_));(try rw[hb]);(try simp only[Aa]at hb))|((with_reducible refine And.intro (fun hb=>?_) (fun hb=>?_))<;>first|(exact absurd hb (by decide))|((try rw[hb]);(try simp only[Aa]at hb)))|((with_reducible refine Exists.intro ?_ ?_);focus (and_intros<;>first|omega|(with_reducible rfl)|kernel_rfl|(intro _ hh;cases hh;done)|exact Ah (by rfl)|(simp only[Bu];omega)|(simp;done)|decide))|(with_reducible intro hfact)|((with_reducible refine Drawn.mkV ?_ ?_ ?_ (fun hfact=>?_));(focus (as_aux_lemma=>kernel_rfl));(focus (as_aux_lemma=>kernel_rfl));(focus (as_aux_lemma=>kernel_rfl));(try simp only[dRS]at hfact))|((try dsimp only);(rw[B6 he]))|((with_reducible refine CallWp.mk ?_);refine⟨_,hat,?_⟩;rintro _ _ ⟨rfl,rfl⟩)|((with_reducible refine CallIs.mk ?_);refine⟨_,_,hsh,?_⟩)|((try dsimp only);rw[hw]))
   all_goals(try(conv=>whnf))
   refine Round.by (j+1,out++[⟨hk,vv,vm,vr⟩]) ?_ ⟨by omega,by simp;omega,hR⟩ (by dsimp only;omega)
   try dsimp only
   simp only[List.map_append,List.map_cons,List.map_nil];show norm _ _=upd _ _
   kernel_rfl
  |true=>
   rw[if_neg (fun c=>by cases c.1)]at hR
   repeat'((conv=>whnf);first|((with_reducible refine Ax (by(with_reducible exact Bool.of_not_eq_false (by assumption))) (fun hb=>?_));(try rw[hb]);(try simp only[Aa]at hb))|((with_reducible refine Aw (by(with_reducible rfl)) (fun hb=>?_));(try rw[hb]);(try simp only[Aa]at hb))|((with_reducible refine And.intro (fun hb=>?_) (fun hb=>?_))<;>first|(exact absurd hb (by decide))|((try rw[hb]);(try simp only[Aa]at hb)))|((with_reducible refine Exists.intro ?_ ?_);focus (and_intros<;>first|omega|(with_reducible rfl)|kernel_rfl|(intro _ hh;cases hh;done)|(simp;done)|decide))|(with_reducible intro hfact)|((with_reducible refine Drawn.mkV ?_ ?_ ?_ (fun hfact=>?_));(focus (as_aux_lemma=>kernel_rfl));(focus (as_aux_lemma=>kernel_rfl));(focus (as_aux_lemma=>kernel_rfl));(try simp only[dRS]at hfact))|((try dsimp only);(rw[B6 he]))|((with_reducible refine CallWp.mk ?_);refine⟨_,hat,?_⟩;rintro _ _ ⟨rfl,rfl⟩)|((try dsimp only);rw[hw]))
   all_goals(try(conv=>whnf))
   refine Round.by (j+1,out) ?_ ⟨by omega,by dsimp only;omega,hR⟩ (by dsimp only;omega)
   try dsimp only
   show norm _ _=upd _ _
   kernel_rfl
 ·rw[decide_eq_false hx]at hsh;rw[if_neg (fun c=>hx c.2)]at hR
  cases vg with
  |false=>
   repeat'((conv=>whnf);first|((with_reducible refine Ax (by first|(with_reducible exact Bool.of_not_eq_false (by assumption))|(with_reducible rfl)) (fun hb=>?_));(try rw[hb]);(try simp only[Aa]at hb))|((with_reducible refine Aw (by(with_reducible rfl)) (fun hb=>?_));(try rw[hb]);(try simp only[Aa]at hb))|((with_reducible refine And.intro (fun hb=>?_) (fun hb=>?_))<;>first|(exact absurd hb (by decide))|((try rw[hb]);(try simp only[Aa]at hb)))|((with_reducible refine Exists.intro ?_ ?_);focus (and_intros<;>first|omega|(with_reducible rfl)|kernel_rfl|(intro _ hh;cases hh;done)|(simp;done)|decide))|(with_reducible intro hfact)|((with_reducible refine Drawn.mkV ?_ ?_ ?_ (fun hfact=>?_));(focus (as_aux_lemma=>kernel_rfl));(focus (as_aux_lemma=>kernel_rfl));(focus (as_aux_lemma=>kernel_rfl));(try simp only[dRS]at hfact))|((try dsimp only);(rw[B6 he]))|((with_reducible refine CallWp.mk ?_);refine⟨_,hat,?_⟩;rintro _ _ ⟨rfl,rfl⟩)|((with_reducible refine CallIs.mk ?_);refine⟨_,_,hsh,?_⟩)|((try dsimp only);rw[hw]))
   all_goals(try(conv=>whnf))
   refine Round.by (j+1,out) ?_ ⟨by omega,by dsimp only;omega,hR⟩ (by dsimp only;omega)
   try dsimp only
   show norm _ _=upd _ _
   kernel_rfl
  |true=>
   repeat'((conv=>whnf);first|((with_reducible refine Ax (by(with_reducible exact Bool.of_not_eq_false (by assumption))) (fun hb=>?_));(try rw[hb]);(try simp only[Aa]at hb))|((with_reducible refine Aw (by(with_reducible rfl)) (fun hb=>?_));(try rw[hb]);(try simp only[Aa]at hb))|((with_reducible refine And.intro (fun hb=>?_) (fun hb=>?_))<;>first|(exact absurd hb (by decide))|((try rw[hb]);(try simp only[Aa]at hb)))|((with_reducible refine Exists.intro ?_ ?_);focus (and_intros<;>first|omega|(with_reducible rfl)|kernel_rfl|(intro _ hh;cases hh;done)|(simp;done)|decide))|(with_reducible intro hfact)|((with_reducible refine Drawn.mkV ?_ ?_ ?_ (fun hfact=>?_));(focus (as_aux_lemma=>kernel_rfl));(focus (as_aux_lemma=>kernel_rfl));(focus (as_aux_lemma=>kernel_rfl));(try simp only[dRS]at hfact))|((try dsimp only);(rw[B6 he]))|((with_reducible refine CallWp.mk ?_);refine⟨_,hat,?_⟩;rintro _ _ ⟨rfl,rfl⟩)|((try dsimp only);rw[hw]))
   all_goals(try(conv=>whnf))
   refine Round.by (j+1,out) ?_ ⟨by omega,by dsimp only;omega,hR⟩ (by dsimp only;omega)
   try dsimp only
   show norm _ _=upd _ _
   kernel_rfl

open Go.Proofs
def prsB:List Pr→Int→Int
 | [],a=>a
 |p::r,a=>prsB r (a+(p.key.length:Int)+(p.val.length:Int))
def Ag4:List Kv→Int→Int
 | [],a=>a
 |h::r,a=>Ag4 r (a+(h.vs.length:Int))
def KvBd(ks:List Kv):Prop:=ks.length≤100000∧∀h∈ks,h.key.length≤1000∧h.vs.length≤100000∧∀v∈h.vs,v.val.length≤1000
theorem Ahr{rev:Int}:∀{vs:List Ver} {v:Ver},Bx rev vs v=v∨Bx rev vs v∈vs
 | [],v=>.inl rfl
 |w::r,v=>by
  unfold Bx;split
  ·rcases Ahr (rev:=rev) (vs:=r) (v:=w)with h|h
   ·rw[h];exact .inr (List.mem_cons_self ..)
   ·exact .inr (List.mem_cons_of_mem _ h)
  ·rcases Ahr (rev:=rev) (vs:=r) (v:=v)with h|h
   ·exact .inl h
   ·exact .inr (List.mem_cons_of_mem _ h)
theorem Ahk{x:Sp}{rev:Int}:∀{ks:List Kv} {out:List Pr},(∀h∈ks,h.key.length≤1000∧h.vs.length≤100000∧∀v∈h.vs,v.val.length≤1000)→(∀p∈out,p.key.length≤1000∧p.val.length≤1000)→
 (∀p∈Ls x rev ks out,p.key.length≤1000∧p.val.length≤1000)∧(Ls x rev ks out).length≤out.length+ks.length
 | [],out,_,h=>⟨h,by simp[Ls]⟩
 |h::r,out,hk,ho=>by
  obtain⟨a1,a2,a3⟩:=hk h (List.mem_cons_self ..);have hk':=fun x hx=>hk x (List.mem_cons_of_mem _ hx)
  unfold Ls;split
  ·rename_i hc;obtain⟨i1,i2⟩:=Ahk (x:=x) (rev:=rev) (ks:=r) (out:=out++[⟨h.key,(Bx rev h.vs Aj).val,(Bx rev h.vs Aj).made,(Bx rev h.vs Aj).rev⟩]) hk' (fun p hp=>by
    rcases List.mem_append.1 hp with hp|hp
    ·exact ho p hp
    ·simp only[List.mem_singleton]at hp;subst hp;refine⟨a1,?_⟩;rcases Ahr (rev:=rev) (vs:=h.vs) (v:=Aj)with e|e
     ·dsimp only;rw[e];simp[Aj]
     ·exact a3 _ e)
   refine⟨i1,?_⟩;simp only[List.length_append,List.length_cons,List.length_nil]at i2 ⊢;omega
  ·obtain⟨i1,i2⟩:=Ahk (x:=x) (rev:=rev) (ks:=r) (out:=out) hk' ho;refine⟨i1,?_⟩;simp only[List.length_cons];omega
theorem Akp(p:Spc)(hb:KvBd p.keys):Fn Tryd.prog Adm [.v p.toI] (Is (.tup [.i (ti ((Ls ⟨[],[]⟩ p.rev p.keys []).length:Int)),.i (ti (prsB (Ls ⟨[],[]⟩ p.rev p.keys []) 0)),.i (ti (Ag4 p.keys 0))]) [.no]):=by
 refine Ac7 ?_ (by simp)
 have hal:=Am0 p ⟨[],[]⟩ p.rev hb.1 fun h hh=>(hb.2 h hh).2.1
 obtain⟨q1,q2⟩:=Ahk (x:=⟨[],[]⟩) (rev:=p.rev) (ks:=p.keys) (out:=[]) hb.2 (by intro p hp;cases hp)
 obtain⟨hk1,hk2⟩:=hb;simp only[List.length_nil,Nat.zero_add]at q2;generalize Ls ⟨[],[]⟩ p.rev p.keys []=l at*;obtain⟨pn,prv,pfl,ks⟩:=p;dsimp only at hk1 hk2 q2 hal ⊢;obtain⟨R1,hR1⟩:∃R,prsB l 0=R:=⟨_,rfl⟩;obtain⟨R2,hR2⟩:∃R,Ag4 ks 0=R:=⟨_,rfl⟩;rw[hR1,hR2];have hll:(l.map Pr.toI).length=l.length:=List.length_map _;have hkk:(ks.map Kv.toI).length=ks.length:=List.length_map _;repeat'((conv=>whnf);first|((with_reducible refine Exists.intro ?_ ?_);focus (and_intros<;>first|omega|kernel_rfl|(intro _ hh;cases hh;done)|(simp;done)|decide))|((with_reducible refine CallWp.mk ?_);refine⟨_,hal,?_⟩;rintro _ _ ⟨rfl,rfl⟩))
 all_goals(try(conv=>whnf))
 refine LoopWq.by (X:=Nat × Int) (fun y=>[(8,.v (ti (y.1:Int))),(6,.v (ti y.2))]) (fun y=>y.1≤l.length∧(0≤y.2∧y.2≤3000*(y.1:Int))∧prsB (l.drop y.1) y.2=R1) (fun y=>l.length - y.1) (0,0) (by kernel_rfl) ⟨Nat.zero_le _,⟨by decide,by decide⟩,hR1⟩ ?_
 rintro⟨j,a⟩ ⟨hj,ha,hR⟩;dsimp only at hj ha hR ⊢;have hw:IntKind.i64.wrap ((j:Int)+1)=((j+1:Nat):Int):=(Bf (by omega)).trans (by omega)
 by_cases hjl:j<l.length
 ·obtain⟨e,he⟩:∃x,l[j]?=some x:=⟨_,List.getElem?_eq_getElem hjl⟩;have h3:¬decide ((j:Int)<((l.map Pr.toI).length:Int))=false:=by simp;omega
  have h4:¬decide ((j:Int)<(l.length:Int))=false:=by simp;omega
  have hdr:l.drop j=e::l.drop (j+1):=by rw[List.drop_eq_getElem_cons hjl];rw[List.getElem?_eq_getElem hjl]at he;cases he;rfl
  rw[hdr]at hR;simp only[prsB]at hR;obtain⟨b1,b2⟩:=q1 e (List.mem_of_getElem? he);obtain⟨pk,pv,pm,pr⟩:=e;dsimp only at b1 b2 hR;have hwb1:IntKind.i64.wrap (a+(pk.length:Int))=a+(pk.length:Int):=Bf (by omega)
  have hwb2:IntKind.i64.wrap (a+(pk.length:Int)+(pv.length:Int))=a+(pk.length:Int)+(pv.length:Int):=Bf (by omega)
  repeat'((conv=>whnf);first|((with_reducible refine Ax (by(with_reducible exact Bool.of_not_eq_false (by assumption))) (fun hb=>?_));(try rw[hb]);(try simp only[Aa]at hb))|((with_reducible refine Exists.intro ?_ ?_);focus (and_intros<;>first|omega|(with_reducible rfl)|kernel_rfl))|(with_reducible intro hfact)|((with_reducible refine Drawn.mkV ?_ ?_ ?_ (fun hfact=>?_));(focus (as_aux_lemma=>kernel_rfl));(focus (as_aux_lemma=>kernel_rfl));(focus (as_aux_lemma=>kernel_rfl));(try simp only[dRS]at hfact))|((try dsimp only);(rw[B6 he]))|((try dsimp only);rw[hwb1])|(skip;rw[hwb2])|(skip;rw[hw]))
  all_goals(try(conv=>whnf))
  refine Round.by (j+1,a+(pk.length:Int)+(pv.length:Int)) ?_ ⟨by omega,⟨by dsimp only;omega,by dsimp only;omega⟩,hR⟩ (by dsimp only;omega)
  try dsimp only
  show norm _ _=upd _ _
  kernel_rfl
 have h3:¬decide ((j:Int)<((l.map Pr.toI).length:Int))=true:=by simp;omega
 have h4:¬decide ((j:Int)<(l.length:Int))=true:=by simp;omega
 rw[List.drop_eq_nil_of_le (by omega)]at hR
 have hR:a=R1:=hR;subst hR;repeat'((conv=>whnf);first|((with_reducible refine Aw (by(with_reducible exact Bool.of_not_eq_true (by assumption))) (fun hb=>?_));(try rw[hb]);(try simp only[Aa]at hb))|((with_reducible refine Exists.intro ?_ ?_);focus (and_intros<;>(with_reducible rfl)))|(with_reducible intro hfact))
 all_goals(try(conv=>whnf))
 refine LoopWq.by (X:=Nat × Int) (fun y=>[(9,.v (ti (y.1:Int))),(7,.v (ti y.2))]) (fun y=>y.1≤ks.length∧(0≤y.2∧y.2≤100000*(y.1:Int))∧Ag4 (ks.drop y.1) y.2=R2) (fun y=>ks.length - y.1) (0,0) (by kernel_rfl) ⟨Nat.zero_le _,⟨by decide,by decide⟩,hR2⟩ ?_
 rintro⟨q,c⟩ ⟨hq,hc,hQ⟩;dsimp only at hq hc hQ ⊢;have hw2:IntKind.i64.wrap ((q:Int)+1)=((q+1:Nat):Int):=(Bf (by omega)).trans (by omega)
 by_cases hql:q<ks.length
 ·obtain⟨h,he⟩:∃x,ks[q]?=some x:=⟨_,List.getElem?_eq_getElem hql⟩;have h5:¬decide ((q:Int)<((ks.map Kv.toI).length:Int))=false:=by simp;omega
  have h6:¬decide ((q:Int)<(ks.length:Int))=false:=by simp;omega
  have hdq:ks.drop q=h::ks.drop (q+1):=by rw[List.drop_eq_getElem_cons hql];rw[List.getElem?_eq_getElem hql]at he;cases he;rfl
  rw[hdq]at hQ;simp only[Ag4]at hQ;obtain⟨_,b2,_⟩:=hk2 h (List.mem_of_getElem? he);obtain⟨hk,hvs⟩:=h;dsimp only at b2 hQ;have hvl:(hvs.map Ver.toI).length=hvs.length:=List.length_map _;have hwc:IntKind.i64.wrap (c+(((hvs.map Ver.toI).length:Nat):Int))=c+(hvs.length:Int):=by rw[hvl];exact Bf (by omega)
  have hwc2:IntKind.i64.wrap (c+(hvs.length:Int))=c+(hvs.length:Int):=Bf (by omega)
  repeat'((conv=>whnf);first|((with_reducible refine Ax (by(with_reducible exact Bool.of_not_eq_false (by assumption))) (fun hb=>?_));(try rw[hb]);(try simp only[Aa]at hb))|((with_reducible refine Exists.intro ?_ ?_);focus (and_intros<;>first|omega|(with_reducible rfl)|kernel_rfl|(simp;done)))|(with_reducible intro hfact)|((try dsimp only);(rw[B6 he]))|((try dsimp only);rw[hwc])|(skip;rw[hw2]))
  all_goals(try(conv=>whnf))
  refine Round.by (q+1,c+(hvs.length:Int)) ?_ ⟨by omega,⟨by dsimp only;omega,by dsimp only;omega⟩,hQ⟩ (by dsimp only;omega)
  try dsimp only
  show norm _ _=upd _ _
  kernel_rfl
 have h5:¬decide ((q:Int)<((ks.map Kv.toI).length:Int))=true:=by simp;omega
 have h6:¬decide ((q:Int)<(ks.length:Int))=true:=by simp;omega
 rw[List.drop_eq_nil_of_le (by omega)]at hQ
 have hQ:c=R2:=hQ;subst hQ;repeat'((conv=>whnf);first|((with_reducible refine Aw (by(with_reducible exact Bool.of_not_eq_true (by assumption))) (fun hb=>?_));(try rw[hb]);(try simp only[Aa]at hb))|((with_reducible refine Exists.intro ?_ ?_);focus (and_intros<;>first|omega|(with_reducible rfl)|kernel_rfl|(simp;done)))|(with_reducible intro hfact))
 all_goals(try(conv=>whnf))
 exact Done.mk ⟨by rw[←hll];kernel_rfl,by kernel_rfl⟩ (by kernel_rfl)

open Go.Proofs
def N2(key:Az)(v:Ver):List Kv→List Kv→Bool→List Kv
 | [],out,d=>if d=true then out else out++[⟨key,[v]⟩]
 |h::r,out,d=>
  if h.key=key then N2 key v r ((if d=false∧key<h.key then out++[⟨key,[v]⟩]else out)++[⟨h.key,h.vs++[v]⟩]) true
  else N2 key v r ((if d=false∧key<h.key then out++[⟨key,[v]⟩]else out)++[h]) (if d=false∧key<h.key then true else d)
theorem Kv.one_I(key:Az)(v:Ver):Kv.toI ⟨key,[v]⟩= .agg [.str key,.list [v.toI]]:=rfl
theorem Kv.snoc_I(key:Az)(vs:List Ver)(v:Ver):Kv.toI ⟨key,vs++[v]⟩= .agg [.str key,.list (vs.map Ver.toI++[v.toI])]:=by simp[Kv.toI]
theorem Ak4(p:Spc)(key:Az)(v:Ver)(hl:p.keys.length≤100000)(hv:∀h∈p.keys,h.vs.length≤100000):
 Fn Tryd.prog Agd [.v p.toI,.v (.str key),.v v.toI] (Is (.v (⟨p.name,p.rev,p.floor,N2 key v p.keys [] false⟩:Spc).toI) [.no,.no,.no]):=by
 refine Af6 ?_ (by simp)
 obtain⟨pn,prv,pfl,ks⟩:=p;dsimp only at hl hv ⊢;obtain⟨RES,hRES⟩:∃R,N2 key v ks [] false=R:=⟨_,rfl⟩;rw[hRES];have hks:(ks.map Kv.toI).length=ks.length:=List.length_map _;repeat'((conv=>whnf);((with_reducible refine Exists.intro ?_ ?_);focus (and_intros<;>omega)))
 all_goals(try(conv=>whnf))
 refine LoopWq.by (X:=Nat × List Kv × Bool) (fun y=>[(9,.v (ti (y.1:Int))),(7,.vec 130 2 (y.2.1.map Kv.toI)),(8,.v (.bool y.2.2))]) (fun y=>y.1≤ks.length∧y.2.1.length≤2*y.1∧N2 key v (ks.drop y.1) y.2.1 y.2.2=RES) (fun y=>ks.length - y.1) (0,[],false) (by kernel_rfl) ⟨Nat.zero_le _,Nat.zero_le _,hRES⟩ ?_
 rintro⟨j,out,d⟩ ⟨hj,hol,hR⟩;dsimp only at hj hol hR ⊢;have hw:IntKind.i64.wrap ((j:Int)+1)=((j+1:Nat):Int):=(Bf (by omega)).trans (by omega)
 have hol2:(out.map Kv.toI).length≤200000:=by rw[List.length_map];omega
 by_cases hjl:j<ks.length
 case neg=>
  have h3:¬decide ((j:Int)<((ks.map Kv.toI).length:Int))=true:=by simp;omega
  have h4:¬decide ((j:Int)<(ks.length:Int))=true:=by simp;omega
  rw[List.drop_eq_nil_of_le (by omega)]at hR
  cases d with
  |true=>
   have hR:out=RES:=hR;subst hR;repeat'((conv=>whnf);first|((with_reducible refine Aw (by(with_reducible exact Bool.of_not_eq_true (by assumption))) (fun hb=>?_));(try rw[hb]);(try simp only[Aa]at hb))|((with_reducible refine And.intro (fun hb=>?_) (fun hb=>?_))<;>first|(exact absurd hb (by decide))|((try rw[hb]);(try simp only[Aa]at hb)))|((with_reducible refine Exists.intro ?_ ?_);focus (and_intros<;>first|omega|(with_reducible rfl)|kernel_rfl|(simp;done)))|(with_reducible intro hfact))
   all_goals(try(conv=>whnf))
   (apply dKq<;>kernel_rfl)
  |false=>
   have hR:out++[⟨key,[v]⟩]=RES:=hR;subst hR;repeat'((conv=>whnf);first|((with_reducible refine Aw (by(with_reducible exact Bool.of_not_eq_true (by assumption))) (fun hb=>?_));(try rw[hb]);(try simp only[Aa]at hb))|((with_reducible refine And.intro (fun hb=>?_) (fun hb=>?_))<;>first|(exact absurd hb (by decide))|((try rw[hb]);(try simp only[Aa]at hb)))|((with_reducible refine Exists.intro ?_ ?_);focus (and_intros<;>first|omega|(with_reducible rfl)|kernel_rfl|exact Ah (by rfl)|(simp only[Bu];omega)|(simp;done)))|(with_reducible intro hfact))
   all_goals(try(conv=>whnf))
   refine Done.mk ⟨?_,by kernel_rfl⟩ (by kernel_rfl)
   simp only[Spc.toI,List.map_append,List.map_cons,List.map_nil,Kv.one_I]
   kernel_rfl
 obtain⟨h,he⟩:∃x,ks[j]?=some x:=⟨_,List.getElem?_eq_getElem hjl⟩;have h3:¬decide ((j:Int)<((ks.map Kv.toI).length:Int))=false:=by simp;omega
 have h4:¬decide ((j:Int)<(ks.length:Int))=false:=by simp;omega
 have hdr:ks.drop j=h::ks.drop (j+1):=by rw[List.drop_eq_getElem_cons hjl];rw[List.getElem?_eq_getElem hjl]at he;cases he;rfl
 rw[hdr]at hR;simp only[N2]at hR;have hvl:=hv h (List.mem_of_getElem? he);obtain⟨hk,hvs⟩:=h;dsimp only at hR hvl;have hvl2:(hvs.map Ver.toI).length≤100000:=by rw[List.length_map];exact hvl
 by_cases heq:hk=key
 ·rw[if_pos heq]at hR;have hnl:¬key<hk:=by rw[heq];exact List.lt_irrefl _
  rw[if_neg (fun c=>hnl c.2)]at hR
  have e1:¬decide (hk=key)=false:=by simpa using heq
  have c1:¬Op.bytesLess key hk=true:=by rw[Kz];simpa using hnl
  cases d with
  |true=>
   repeat'((conv=>whnf);first|((with_reducible refine Ax (by(with_reducible exact Bool.of_not_eq_false (by assumption))) (fun hb=>?_));(try rw[hb]);(try simp only[Aa]at hb);(try subst hb))|((with_reducible refine Aw (by first|(with_reducible exact Bool.of_not_eq_true (by assumption))|(with_reducible rfl)) (fun hb=>?_));(try rw[hb]);(try simp only[Aa]at hb))|((with_reducible refine And.intro (fun hb=>?_) (fun hb=>?_))<;>first|(exact absurd hb (by decide))|((try rw[hb]);(try simp only[Aa]at hb)))|((with_reducible refine Exists.intro ?_ ?_);focus (and_intros<;>first|omega|(with_reducible rfl)|kernel_rfl|exact Ah (by rfl)|exact size_map (fun _=>rfl)|(simp only[Bu];omega)|(simp;done)))|(with_reducible intro hfact)|((with_reducible refine Drawn.mkV ?_ ?_ ?_ (fun hfact=>?_));(focus (as_aux_lemma=>kernel_rfl));(focus (as_aux_lemma=>kernel_rfl));(focus (as_aux_lemma=>kernel_rfl));(try simp only[dRS]at hfact))|((try dsimp only);(rw[B6 he]))|((try dsimp only);rw[hw]))
   all_goals(try(conv=>whnf))
   refine Round.by (j+1,out++[⟨hk,hvs++[v]⟩],true) ?_ ⟨by omega,by simp;omega,hR⟩ (by dsimp only;omega)
   try dsimp only
   simp only[List.map_append,List.map_cons,List.map_nil,Kv.one_I,Kv.snoc_I];show norm _ _=upd _ _
   kernel_rfl
  |false=>
   repeat'((conv=>whnf);first|((with_reducible refine Ax (by first|(with_reducible exact Bool.of_not_eq_false (by assumption))|(with_reducible rfl)) (fun hb=>?_));(try rw[hb]);(try simp only[Aa]at hb);(try subst hb))|((with_reducible refine Aw (by(with_reducible exact Bool.of_not_eq_true (by assumption))) (fun hb=>?_));(try rw[hb]);(try simp only[Aa]at hb))|((with_reducible refine And.intro (fun hb=>?_) (fun hb=>?_))<;>first|(exact absurd hb (by decide))|((try rw[hb]);(try simp only[Aa]at hb)))|((with_reducible refine Exists.intro ?_ ?_);focus (and_intros<;>first|omega|(with_reducible rfl)|kernel_rfl|exact Ah (by rfl)|exact size_map (fun _=>rfl)|(simp only[Bu];omega)|(simp;done)))|(with_reducible intro hfact)|((with_reducible refine Drawn.mkV ?_ ?_ ?_ (fun hfact=>?_));(focus (as_aux_lemma=>kernel_rfl));(focus (as_aux_lemma=>kernel_rfl));(focus (as_aux_lemma=>kernel_rfl));(try simp only[dRS]at hfact))|((try dsimp only);(rw[B6 he]))|((try dsimp only);rw[hw]))
   all_goals(try(conv=>whnf))
   refine Round.by (j+1,out++[⟨hk,hvs++[v]⟩],true) ?_ ⟨by omega,by simp;omega,hR⟩ (by dsimp only;omega)
   try dsimp only
   simp only[List.map_append,List.map_cons,List.map_nil,Kv.one_I,Kv.snoc_I];show norm _ _=upd _ _
   kernel_rfl
 ·rw[if_neg heq]at hR;have e1:¬decide (hk=key)=true:=by simpa using heq
  by_cases hlt:key<hk
  ·have c1:¬Op.bytesLess key hk=false:=by rw[Kz];simpa using hlt
   cases d with
   |true=>
    rw[if_neg (fun c=>by cases c.1),if_neg (fun c=>by cases c.1)]at hR
    repeat'((conv=>whnf);first|((with_reducible refine Ax (by(with_reducible exact Bool.of_not_eq_false (by assumption))) (fun hb=>?_));(try rw[hb]);(try simp only[Aa]at hb))|((with_reducible refine Aw (by first|(with_reducible exact Bool.of_not_eq_true (by assumption))|(with_reducible rfl)) (fun hb=>?_));(try rw[hb]);(try simp only[Aa]at hb))|((with_reducible refine And.intro (fun hb=>?_) (fun hb=>?_))<;>first|(exact absurd hb (by decide))|((try rw[hb]);(try simp only[Aa]at hb)))|((with_reducible refine Exists.intro ?_ ?_);focus (and_intros<;>first|omega|(with_reducible rfl)|kernel_rfl|exact Ah (by rfl)|(simp only[Bu];omega)|(simp;done)))|(with_reducible intro hfact)|((try dsimp only);(rw[B6 he]))|((try dsimp only);rw[hw]))
    all_goals(try(conv=>whnf))
    refine Round.by (j+1,out++[⟨hk,hvs⟩],true) ?_ ⟨by omega,by simp;omega,hR⟩ (by dsimp only;omega)
    try dsimp only
    simp only[List.map_append,List.map_cons,List.map_nil,Kv.one_I,Kv.snoc_I];show norm _ _=upd _ _
    kernel_rfl
   |false=>
    rw[if_pos ⟨rfl,hlt⟩,if_pos ⟨rfl,hlt⟩]at hR;repeat'((conv=>whnf);first|((with_reducible refine Ax (by first|(with_reducible exact Bool.of_not_eq_false (by assumption))|(with_reducible rfl)) (fun hb=>?_));(try rw[hb]);(try simp only[Aa]at hb))|((with_reducible refine Aw (by(with_reducible exact Bool.of_not_eq_true (by assumption))) (fun hb=>?_));(try rw[hb]);(try simp only[Aa]at hb))|((with_reducible refine And.intro (fun hb=>?_) (fun hb=>?_))<;>first|(exact absurd hb (by decide))|((try rw[hb]);(try simp only[Aa]at hb)))|((with_reducible refine Exists.intro ?_ ?_);focus (and_intros<;>first|omega|(with_reducible rfl)|kernel_rfl|exact Ah (by rfl)|(simp only[Bu];omega)|(simp;done)))|(with_reducible intro hfact)|((try dsimp only);(rw[B6 he]))|((try dsimp only);rw[hw]))
    all_goals(try(conv=>whnf))
    refine Round.by (j+1,out++[⟨key,[v]⟩]++[⟨hk,hvs⟩],true) ?_ ⟨by omega,by simp;omega,hR⟩ (by dsimp only;omega)
    try dsimp only
    simp only[List.map_append,List.map_cons,List.map_nil,Kv.one_I,Kv.snoc_I];show norm _ _=upd _ _
    kernel_rfl
  ·have c1:¬Op.bytesLess key hk=true:=by rw[Kz];simpa using hlt
   rw[if_neg (fun c=>hlt c.2),if_neg (fun c=>hlt c.2)]at hR
   cases d with
   |true=>
    repeat'((conv=>whnf);first|((with_reducible refine Ax (by(with_reducible exact Bool.of_not_eq_false (by assumption))) (fun hb=>?_));(try rw[hb]);(try simp only[Aa]at hb))|((with_reducible refine Aw (by first|(with_reducible exact Bool.of_not_eq_true (by assumption))|(with_reducible rfl)) (fun hb=>?_));(try rw[hb]);(try simp only[Aa]at hb))|((with_reducible refine And.intro (fun hb=>?_) (fun hb=>?_))<;>first|(exact absurd hb (by decide))|((try rw[hb]);(try simp only[Aa]at hb)))|((with_reducible refine Exists.intro ?_ ?_);focus (and_intros<;>first|omega|(with_reducible rfl)|kernel_rfl|exact Ah (by rfl)|(simp only[Bu];omega)|(simp;done)))|(with_reducible intro hfact)|((try dsimp only);(rw[B6 he]))|((try dsimp only);rw[hw]))
    all_goals(try(conv=>whnf))
    refine Round.by (j+1,out++[⟨hk,hvs⟩],true) ?_ ⟨by omega,by simp;omega,hR⟩ (by dsimp only;omega)
    try dsimp only
    simp only[List.map_append,List.map_cons,List.map_nil,Kv.one_I,Kv.snoc_I];show norm _ _=upd _ _
    kernel_rfl
   |false=>
    repeat'((conv=>whnf);first|((with_reducible refine Ax (by first|(with_reducible exact Bool.of_not_eq_false (by assumption))|(with_reducible rfl)) (fun hb=>?_));(try rw[hb]);(try simp only[Aa]at hb))|((with_reducible refine Aw (by(with_reducible exact Bool.of_not_eq_true (by assumption))) (fun hb=>?_));(try rw[hb]);(try simp only[Aa]at hb))|((with_reducible refine And.intro (fun hb=>?_) (fun hb=>?_))<;>first|(exact absurd hb (by decide))|((try rw[hb]);(try simp only[Aa]at hb)))|((with_reducible refine Exists.intro ?_ ?_);focus (and_intros<;>first|omega|(with_reducible rfl)|kernel_rfl|exact Ah (by rfl)|(simp only[Bu];omega)|(simp;done)))|(with_reducible intro hfact)|((try dsimp only);(rw[B6 he]))|((try dsimp only);rw[hw]))
    all_goals(try(conv=>whnf))
    refine Round.by (j+1,out++[⟨hk,hvs⟩],false) ?_ ⟨by omega,by simp;omega,hR⟩ (by dsimp only;omega)
    try dsimp only
    simp only[List.map_append,List.map_cons,List.map_nil,Kv.one_I,Kv.snoc_I];show norm _ _=upd _ _
    kernel_rfl

open Go.Proofs
abbrev rT(R:List Spc):SV:=.own [] (.ptr (.st [.vec 50 4 ((R.map Spc.toI).map D.it)]))
def Ev(n:Az):List Spc→Nat→Int
 | [],_=> -1
 |p::r,i=>if p.name=n then(i:Int)else Ev n r (i+1)
theorem Z3(R:List Spc)(n:Az)(hl:R.length≤100000):Fn Tryd.prog Ach [rT R,.v (.str n)] (Is (.v (ti (Ev n R 0))) [rT R,.no]):=by
 refine Acg ?_ (by simp)
 obtain⟨RES,hRES⟩:∃X,Ev n R 0=X:=⟨_,rfl⟩;rw[hRES];have hlm:((R.map Spc.toI).map D.it).length=R.length:=by simp
 (skip)
 all_goals(try(conv=>whnf))
 refine LoopWq.by (X:=Nat) (fun j=>[(5,.v (ti (j:Int)))]) (fun j=>j≤R.length∧Ev n (R.drop j) j=RES) (fun j=>R.length - j) 0 (by kernel_rfl) ⟨Nat.zero_le _,hRES⟩ ?_
 rintro j ⟨hj,hR⟩
 (try dsimp only at hj hR ⊢)
 have hw:IntKind.i64.wrap ((j:Int)+1)=((j+1:Nat):Int):=(Bf (by omega)).trans (by omega)
 by_cases hjl:j<R.length
 case neg=>
  have h4:¬decide ((j:Int)<(R.length:Int))=true:=by simp;omega
  have h3:¬decide ((j:Int)<((((R.map Spc.toI).map D.it).length:Nat):Int))=true:=by rw[hlm];exact h4
  rw[List.drop_eq_nil_of_le (by omega)]at hR
  have hR:(-1:Int)=RES:=hR;subst hR;repeat'((conv=>whnf);first|((with_reducible refine Aw (by(with_reducible exact Bool.of_not_eq_true (by assumption))) (fun hb=>?_));(try rw[hb]);(try simp only[Aa]at hb))|((with_reducible refine Exists.intro ?_ ?_);focus (and_intros<;>first|omega|(with_reducible rfl)|kernel_rfl|(simp;done)))|(with_reducible intro hfact))
  all_goals(try(conv=>whnf))
  (apply dKq<;>kernel_rfl)
 obtain⟨p,he⟩:∃x,R[j]?=some x:=⟨_,List.getElem?_eq_getElem hjl⟩;have h4:¬decide ((j:Int)<(R.length:Int))=false:=by simp;omega
 have h3:¬decide ((j:Int)<((((R.map Spc.toI).map D.it).length:Nat):Int))=false:=by rw[hlm];exact h4
 have hdr:R.drop j=p::R.drop (j+1):=by rw[List.drop_eq_getElem_cons hjl];rw[List.getElem?_eq_getElem hjl]at he;cases he;rfl
 rw[hdr]at hR;simp only[Ev]at hR;obtain⟨pn,pr,pf,pk⟩:=p;dsimp only at hR;by_cases hn:pn=n
 ·rw[if_pos hn]at hR;subst hR;have e1:¬decide (pn=n)=false:=by simpa using hn
  repeat'((conv=>whnf);first|((with_reducible refine Ax (by(with_reducible exact Bool.of_not_eq_false (by assumption))) (fun hb=>?_));(try rw[hb]);(try simp only[Aa]at hb);(try subst hb))|((with_reducible refine Exists.intro ?_ ?_);focus (and_intros<;>first|omega|(with_reducible rfl)|kernel_rfl|(simp;done)))|(with_reducible intro hfact)|(((with_reducible apply A3));(focus rfl);(focus (simp only[D.at,D.put,D.kid,D.setKid,mkSt,Ap,D.toI,toIs,Ak,Af,he,hlm]<;>exact rfl));(try(focus exact rfl))))
  all_goals(try(conv=>whnf))
  (apply dKq<;>kernel_rfl)
 ·rw[if_neg hn]at hR;have e1:¬decide (pn=n)=true:=by simpa using hn
  repeat'((conv=>whnf);first|((with_reducible refine Ax (by(with_reducible exact Bool.of_not_eq_false (by assumption))) (fun hb=>?_));(try rw[hb]);(try simp only[Aa]at hb))|((with_reducible refine Aw (by(with_reducible exact Bool.of_not_eq_true (by assumption))) (fun hb=>?_));(try rw[hb]);(try simp only[Aa]at hb))|((with_reducible refine Exists.intro ?_ ?_);focus (and_intros<;>first|omega|(with_reducible rfl)|kernel_rfl|(simp;done)))|(with_reducible intro hfact)|((try dsimp only);rw[hw])|(((with_reducible apply A3));(focus rfl);(focus (simp only[D.at,D.put,D.kid,D.setKid,mkSt,Ap,D.toI,toIs,Ak,Af,he,hlm]<;>exact rfl));(try(focus exact rfl))))
  all_goals(try(conv=>whnf))
  refine Round.by (j+1) ?_ ⟨by omega,hR⟩ (by omega)
  try dsimp only
  show norm _ _=upd _ _
  kernel_rfl
end Go.Ab

