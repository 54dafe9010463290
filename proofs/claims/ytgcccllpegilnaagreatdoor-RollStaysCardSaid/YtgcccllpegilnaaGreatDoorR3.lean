/- Lemmas -/
import Derived.Test.YtgcccllpegilnaaGreatDoorH2
import Derived.Test.YtgcccllpegilnaaGreatDoorA11
import Derived.Shelf.SlSortCmp.WholeK
import Derived.Laws.Cover1
set_option linter.unusedVariables false
set_option linter.unusedSimpArgs false
set_option maxRecDepth 100000
set_option maxHeartbeats 8000000
namespace Go.Ab
open Go.Proofs
def Strm.tail (s:Strm):Ai:=s.rest++[128]++List.replicate (zeros s.rest.length) 0++numB (8*s.size.toNat) 8
abbrev Strm.toDF (s:Strm):D:=.ptr (.it (.agg [u32s s.w.l,.list (s.rest.map Cr),.int .u64 s.size]))
def Strm.digest (s:Strm):Ai:=outB (Ct s.w s.tail (s.tail.length / 64)) 8
theorem Aob:∀(k n j:Nat),j<k→(numB n k)[j]?=some (UInt8.ofNat (n / 256^(k - 1 - j) % 256))
 |0,_,_,h=>by omega
 |k+1,n,j,h=>by
  rw[numB]
  by_cases hj:j<k
  ·rw[List.getElem?_append_left (by rw[D4];exact hj),Aob k (n / 256) j hj,Nat.div_div_eq_div_mul,show k+1 - 1 - j=(k - 1 - j)+1 by omega,Nat.pow_succ,Nat.mul_comm]
  ·obtain rfl:j=k:=by omega
   rw[List.getElem?_append_right (by rw[D4];exact Nat.le_refl _),D4]
   simp
theorem A5c (h:H8) (t:Nat):(outB h t).length≤4*t:=by
 unfold outB
 induction t with
 |zero=>simp
 |succ t ih=>
  rw[List.take_add_one,List.flatMap_append,List.length_append]
  cases hx:h.l[t]? with
  |none=>simp only[Option.toList_none,List.flatMap_nil,List.length_nil];omega
  |some x=>simp only[Option.toList_some,List.flatMap_cons,List.flatMap_nil,List.append_nil,D4];omega
theorem Bbb {h:H8} {t:Nat} {x:Int} (hx:h.l[t]?=some x):outB h (t+1)=outB h t++numB x.toNat 4:=by
 unfold outB
 rw[List.take_add_one,List.flatMap_append,hx]
 simp
theorem Bk9 (x:Int) (h:0≤x∧x<4294967296):(numB x.toNat 4).map Cr=[I.int .u8 (IntKind.u8.wrap (shrI .u32 x 24)),I.int .u8 (IntKind.u8.wrap (shrI .u32 x 16)),I.int .u8 (IntKind.u8.wrap (shrI .u32 x 8)),I.int .u8 (IntKind.u8.wrap x)]:=by
 obtain⟨m,rfl⟩:∃m:Nat,x=m:=⟨x.toNat,by omega⟩
 rw[Int.toNat_natCast]
 have hs:∀k:Nat,k≤32→shrI .u32 (m:Int) (k:Int)=((m / 2^k:Nat):Int):=fun k hk=>by
  show Int.fdiv (m:Int) (2^(min (Int.toNat (k:Int)) 32))=_
  rw[Int.toNat_natCast,Nat.min_eq_left hk]
  exact(show Int.fdiv (m:Int) ((2^k:Nat):Int)=_ from(Int.ofNat_fdiv _ _).symm)
 have s24:=hs 24 (by omega)
 have s16:=hs 16 (by omega)
 have s8:=hs 8 (by omega)
 rw[show((24:Nat):Int)=24 from rfl]at s24
 rw[show((16:Nat):Int)=16 from rfl]at s16
 rw[show((8:Nat):Int)=8 from rfl]at s8
 rw[s24,s16,s8]
 have hb:∀k:Nat,Cr (UInt8.ofNat (k % 256))=I.int .u8 (IntKind.u8.wrap (k:Int)):=fun k=>by
  unfold Cr
  rw[wrap_u8,UInt8.toNat_ofNat']
  congr 1
  omega
 simp only[numB,List.nil_append,List.map_append,List.map_cons,List.map_nil,List.cons_append,hb]
 simp only[Nat.div_div_eq_div_mul]
theorem Wi:∀s:Ai,bytesOf (s.map Cr)=some s
 | []=>rfl
 |b::s=>by simp[Cr,bytesOf,Wi s]
theorem Bcg (s:Strm) (hl:s.rest.length≤100000) (hz:0≤s.size∧s.size≤1000000000):
 Fn Tryz.prog Ww [.own [] s.toD] (Is (.v (.str s.digest)) [.own [] s.toDF]):=by
 refine Aj4 ?_ (by simp)
 obtain⟨w,e,rest,size⟩:=s
 simp only at hl hz ⊢
 repeat'((conv=>whnf);first|(apply aI<;>intro hb<;>first|exact absurd hb (by decide)|((try rw[hb]);(try simp only[Ad]at hb)))|(refine eI ?_ ?_;focus (and_intros<;>first|omega|exact rfl|exact B8 (by rfl)|exact size_map (fun _=>rfl)|(simp only[Az];omega)|(simp;done)))|((simp only[show D.at (0::[].append [1]) (Strm.toD ⟨w,e,rest,size⟩)=some (D.vec e 1 ((rest.map Cr).map D.it))from rfl,D.toI,Bn])))
 all_goals(try(conv=>whnf))
 have hE:([]++List.map Cr rest++(List.replicate 1 (I.int IntKind.u8 0)).set 0 (I.int IntKind.u8 128))=List.map Cr (rest++[128]):=by simp[Cr]
 rw[hE]
 obtain⟨n,hn⟩:∃n,n=rest.length:=⟨_,rfl⟩
 have hzl:zeros n<64:=by unfold zeros;omega
 refine LoopWq.by (X:=Nat) (fun k=>[(3,.own [] (.vec 5 1 (byD (rest++[128]++List.replicate k 0))))]) (fun k=>k≤zeros n) (fun k=>zeros n - k)
  0 (by rw[List.replicate_zero,List.append_nil];kernel_rfl) (by omega) ?_
 intro k hk
 obtain⟨E,hE2⟩:∃E,E=rest++[128]++List.replicate k 0:=⟨_,rfl⟩
 have hlen:E.length=n+1+k:=by rw[hE2];simp[hn];omega
 have hm:((byD E).length:Int).tmod 64=((n+1+k) % 64:Nat):=by
  rw[show((byD E).length:Int)=((n+1+k:Nat):Int)by simp[hlen]]
  rfl
 rw[←hE2]
 by_cases hk2:k<zeros n
 case pos=>
  have hlt:¬(!decide (((byD E).length:Int).tmod 64=56))=false:=by
   rw[hm];unfold zeros at hk2 hk;simp;omega
  have e1:((E.map Cr).length+1)*1≤140737488355328:=by simp[hlen];omega
  have e2:(E.map Cr).length+1≤maxLen:=by simp[hlen,maxLen];omega
  repeat'((conv=>whnf);first|(apply aI<;>intro hb<;>first|exact absurd hb (by assumption)|((try rw[hb]);(try simp only[Ad]at hb)))|(refine eI ?_ ?_;focus (and_intros<;>first|omega|exact rfl|assumption|exact B8 (by rfl)|(simp;done)))|(intro hfact)|((try dsimp only);rw[Pe]))
  all_goals(try(conv=>whnf))
  have hE3:List.map Cr (rest++[128]++List.replicate (k+1) 0)=List.map Cr E++(List.replicate 1 (I.int IntKind.u8 0)).set 0 (I.int IntKind.u8 0):=by
   rw[hE2,List.replicate_succ'];simp[Cr]
  refine Round.by (k+1) ?_ (by omega) (by omega)
  rw[show byD (rest++[128]++List.replicate (k+1) 0)=List.map D.it _ from congrArg (List.map D.it) hE3]
  show norm _ _=upd _ _
  kernel_rfl
 have hlt:¬(!decide (((byD E).length:Int).tmod 64=56))=true:=by
  rw[hm];unfold zeros at hk2 hk;simp;omega
 obtain rfl:k=zeros n:=by omega
 repeat'((conv=>whnf);first|(apply aI<;>intro hb<;>first|exact absurd hb (by assumption)|((try rw[hb]);(try simp only[Ad]at hb)))|(refine eI ?_ ?_;focus (and_intros<;>first|omega|exact rfl|(simp;done)))|(intro hfact))
 all_goals(try(conv=>whnf))
 obtain⟨M,hM⟩:∃M,M=8*size.toNat:=⟨_,rfl⟩
 have hMs:IntKind.u64.wrap (size*8)=(M:Int):=by rw[wrap_u64];omega
 have hbt:∀j:Nat,j<8→IntKind.u8.wrap (shrI .u64 (IntKind.u64.wrap (size*8)) (56 - 8*(j:Int)))=((UInt8.ofNat (M / 256^(7 - j) % 256)).toNat:Int):=fun j hj=>by
  rw[hMs]
  have h1:(56 - 8*(j:Int)).toNat=8*(7 - j):=by omega
  have h2:shrI .u64 (M:Int) (56 - 8*(j:Int))=((M / 256^(7 - j):Nat):Int):=by
   unfold shrI
   rw[h1,Nat.min_eq_left (by show _≤64;omega),show(2:Int)^(8*(7 - j))=((256^(7 - j):Nat):Int)by rw[show(256:Nat)=2^8 from rfl, ←Nat.pow_mul];push_cast;rfl]
   exact(Int.ofNat_fdiv _ _).symm
  rw[h2,wrap_u8]
  have h3:(UInt8.ofNat (M / 256^(7 - j) % 256)).toNat=M / 256^(7 - j) % 256:=by
   rw[UInt8.toNat_ofNat'];omega
  rw[h3]
  omega
 refine LoopWq.by (X:=Nat) (fun j=>[(3,.own [] (.vec 5 1 (byD (E++(numB M 8).take j)))),(4,.v (.int .i64 (56 - 8*(j:Int))))]) (fun j=>j≤8) (fun j=>8 - j)
  0 (by rw[List.take_zero,List.append_nil];kernel_rfl) (by omega) ?_
 intro j hj
 obtain⟨F,hF⟩:∃F,F=E++(numB M 8).take j:=⟨_,rfl⟩
 have hFl:F.length=n+1+zeros n+j:=by rw[hF];simp[hlen,D4];omega
 rw[←hF]
 by_cases hj8:j<8
 case pos=>
  have e1:((F.map Cr).length+1)*1≤140737488355328:=by simp[hFl];omega
  have e2:(F.map Cr).length+1≤maxLen:=by simp[hFl,maxLen];omega
  have hge:¬decide (56 - 8*(j:Int)≥0)=false:=by simp;omega
  have hge':¬decide ((0:Int)≤56 - 8*(j:Int))=false:=by simp;omega
  have h0j:(0:Int)≤56 - 8*(j:Int):=by omega
  repeat'((conv=>whnf);first|(apply aI<;>intro hb<;>first|exact absurd hb (by assumption)|((try rw[hb]);(try simp only[Ad]at hb)))|(refine eI ?_ ?_;focus (and_intros<;>first|omega|exact rfl|assumption|exact B8 (by rfl)|(simp;done)))|((try dsimp only);rw[Pe]))
  all_goals(try(conv=>whnf))
  have hF3:List.map Cr (E++(numB M 8).take (j+1))=List.map Cr F++(List.replicate 1 (I.int IntKind.u8 0)).set 0 (I.int IntKind.u8 (IntKind.u8.wrap (shrI .u64 (IntKind.u64.wrap (size*8)) (56 - 8*(j:Int))))):=by
   rw[hbt j hj8,List.take_add_one,Aob 8 M j hj8, ←List.append_assoc, ←hF,List.map_append]
   rfl
  have hs4:IntKind.i64.wrap (56 - 8*(j:Int) - 8)=56 - 8*((j+1:Nat):Int):=by rw[IntKind.wrap_i64];omega
  refine Round.by (j+1) ?_ (by omega) (by omega)
  rw[hs4,show byD (E++(numB M 8).take (j+1))=List.map D.it _ from congrArg (List.map D.it) hF3]
  show norm _ _=upd _ _
  kernel_rfl
 have hge:¬decide (56 - 8*(j:Int)≥0)=true:=by simp;omega
 have hge':¬decide ((0:Int)≤56 - 8*(j:Int))=true:=by simp;omega
 obtain rfl:j=8:=by omega
 repeat'((conv=>whnf);first|(apply aI<;>intro hb<;>first|exact absurd hb (by assumption)|((try rw[hb]);(try simp only[Ad]at hb)))|(refine eI ?_ ?_;focus (and_intros<;>first|omega|exact rfl|(simp;done))))
 all_goals(try(conv=>whnf))
 obtain⟨B,hB⟩:∃B,B=F:=⟨_,rfl⟩
 have hBF:B=Strm.tail ⟨w,e,rest,size⟩:=by
  rw[hB,hF,hE2,hM,hn]
  simp only[Strm.tail]
  rw[List.take_of_length_le (by rw[D4];exact Nat.le_refl _)]
 have hBl:B.length=64*(B.length / 64):=by rw[hB,hFl];unfold zeros;omega
 have hB64:64≤B.length:=by rw[hB,hFl];unfold zeros;omega
 rw[←hB]
 unfold Strm.digest
 rw[←hBF]
 simp only
 clear hF hFl hB hE hn hzl hlt hk hE2 hlen hm hk2 hM hMs hbt hj hj8 hge hge' hz hl
 rw[show(I.arr 1 (List.replicate 8 (I.int IntKind.u32 0))).put [] (u32s w.l)=u32s w.l from rfl]
 obtain⟨ww,hw0⟩:∃ww,ww=w:=⟨_,rfl⟩
 rw[←hw0]
 refine LoopWq.by (X:=Nat) (fun n=>[(3,.own [] (.vec (ee 5 n) 1 (byD (B.drop (64*n))))),(5,.box (.one (.i (u32s (Ct ww B n).l))))]) (fun n=>64*n≤B.length) (fun n=>B.length - 64*n)
  0 (by kernel_rfl) (by omega) ?_
 intro n hn
 obtain⟨R,hR⟩:∃R,R=B.drop (64*n):=⟨_,rfl⟩
 have hRl:R.length=B.length - 64*n:=by rw[hR,List.length_drop]
 rw[←hR]
 by_cases hnN:0<R.length
 case neg=>
  have hRb:((byD R).length:Int)=(R.length:Int):=by simp
  have hlt:¬decide ((0:Int)<((byD R).length:Int))=true:=by rw[hRb,decide_eq_true_eq];omega
  have hlt':¬decide (((byD R).length:Int)>0)=true:=by rw[hRb,decide_eq_true_eq];omega
  repeat'((conv=>whnf);first|(apply aI<;>intro hb<;>first|exact absurd hb (by assumption)|((try rw[hb]);(try simp only[Ad]at hb)))|(refine eI ?_ ?_;focus (and_intros<;>first|omega|exact rfl|(simp;done)))|(intro hfact))
  all_goals(try(conv=>whnf))
  have hn':n=B.length / 64:=by omega
  have hn0:∃m,n=m+1:=⟨n - 1,by rw[hn'];have:=hB64;omega⟩
  obtain⟨H,hH⟩:∃H,H=Ct ww B n:=⟨_,rfl⟩
  rw[←hn', ←hH]
  have hb8:∀x∈H.l,0≤x∧x<4294967296:=by
   obtain⟨m,rfl⟩:=hn0
   rw[hH,Ct,S8,addH,H8.l]
   intro x hx
   simp only[List.mem_cons,List.not_mem_nil,or_false]at hx
   rcases hx with rfl|rfl|rfl|rfl|rfl|rfl|rfl|rfl<;>exact Aoy _
  clear hH
  refine LoopWq.by (X:=Nat) (fun t=>[(6,.vec 5 1 ((outB H t).map Cr)),(54,.v (.int .i64 t))]) (fun t=>t≤8) (fun t=>8 - t)
   0 (by kernel_rfl) (by omega) ?_
  intro t ht
  by_cases ht8:t<8
  case pos=>
   obtain⟨x,hx⟩:∃x,H.l[t]?=some x:=⟨_,List.getElem?_eq_getElem ht8⟩
   have hxi:(H.l.map (I.int .u32))[Int.toNat (t:Int)]?=some (.int .u32 x):=by rw[Int.toNat_natCast,List.getElem?_map,hx];rfl
   have hol:=A5c H t
   have e1:((List.map Cr (outB H t)).length+4)*1≤140737488355328:=by simp;omega
   have e2:(List.map Cr (outB H t)).length+4≤maxLen:=by simp[maxLen];omega
   have hlt1:¬decide ((t:Int)<8)=false:=by simp;omega
   repeat'((conv=>whnf);first|(apply aI<;>intro hb<;>first|exact absurd hb (by assumption)|((try rw[hb]);(try simp only[Ad]at hb)))|(refine eI ?_ ?_;focus (and_intros<;>first|omega|exact rfl|assumption|exact B8 (by rfl)|(simp;done)))|((try dsimp only);rw[hxi]))
   all_goals(try(conv=>whnf))
   refine Round.by (t+1) ?_ (by omega) (by omega)
   rw[Ak ht8 (by simp only[maxLen];omega),Bbb hx,List.map_append,Bk9 x (hb8 x (List.mem_of_getElem? hx))]
   show norm _ _=upd _ _
   kernel_rfl
  have hlt1:¬decide ((t:Int)<8)=true:=by simp;omega
  obtain rfl:t=8:=by omega
  have hol:=A5c H 8
  obtain⟨O,hO⟩:∃O,O=outB H 8:=⟨_,rfl⟩
  rw[←hO]at hol ⊢
  have hom:O.length≤maxLen:=by simp[maxLen];omega
  repeat'((conv=>whnf);first|(apply aI<;>intro hb<;>first|exact absurd hb (by assumption)|((try rw[hb]);(try simp only[Ad]at hb)))|(refine eI ?_ ?_;focus (and_intros<;>first|omega|(simp;done)))|((simp only[SV.vecAt,Wi])))
  all_goals(try(conv=>whnf))
  (apply dK<;>kernel_rfl)
 have hRb:((byD R).length:Int)=(R.length:Int):=by simp
 have hlt:¬decide ((0:Int)<((byD R).length:Int))=false:=by rw[hRb,decide_eq_false_iff_not];omega
 have hlt':¬decide (((byD R).length:Int)>0)=false:=by rw[hRb,decide_eq_false_iff_not];omega
 have hnN64:64≤R.length:=by omega
 repeat'((conv=>whnf);first|(apply aI<;>intro hb<;>first|exact absurd hb (by assumption)|((try rw[hb]);(try simp only[Ad]at hb)))|(refine eI ?_ ?_;focus (and_intros<;>first|omega|exact rfl|(simp;done)))|(intro hfact))
 all_goals(try(conv=>whnf))
 refine Uf ?_ (by decide)
 (conv=>whnf)
 all_goals(try(conv=>whnf))
 refine LoopWq.by (X:=Nat) (fun i=>[(4,.box (.one (.i (u32s (padW (sched B (64*n) i)))))),(17,.v (.int .i64 i))]) (fun i=>i≤16) (fun i=>16 - i)
  0 (by kernel_rfl) (by omega) ?_
 intro i hi
 by_cases hi16:i<16
 case pos=>
  have hlt1:¬decide ((i:Int)<16)=false:=by simp;omega
  have w0:IntKind.i64.wrap (4*(i:Int))=((4*i:Nat):Int):=by
   rw[show 4*(i:Int)=((4*i:Nat):Int)by omega];exact Cf (by omega)
  have w1:IntKind.i64.wrap (((4*i:Nat):Int)+1)=((4*i+1:Nat):Int):=by
   rw[show((4*i:Nat):Int)+1=((4*i+1:Nat):Int)by omega];exact Cf (by omega)
  have w2:IntKind.i64.wrap (((4*i:Nat):Int)+2)=((4*i+2:Nat):Int):=by
   rw[show((4*i:Nat):Int)+2=((4*i+2:Nat):Int)by omega];exact Cf (by omega)
  have w3:IntKind.i64.wrap (((4*i:Nat):Int)+3)=((4*i+3:Nat):Int):=by
   rw[show((4*i:Nat):Int)+3=((4*i+3:Nat):Int)by omega];exact Cf (by omega)
  have g:∀k:Nat,k<64→(List.map D.it (List.map Cr R))[Int.toNat 0+Int.toNat (k:Int)]?=some (.it (.int .u8 (F9 B (64*n+k)))):=fun k hk=>by
   obtain⟨b,hb⟩:∃b,R[k]?=some b:=⟨_,List.getElem?_eq_getElem (by omega)⟩
   have hb':B[64*n+k]?=some b:=by rw[←hb,hR,List.getElem?_drop]
   rw[Int.toNat_natCast,show Int.toNat 0+k=k by simp,List.getElem?_map,List.getElem?_map,hb,F9,List.getD_eq_getElem?_getD,hb']
   rfl
  have gD:∀(k:Nat) (_:k<64) (e':Nat),D.at [Int.toNat 0+Int.toNat (k:Int)] (D.vec e' 1 (byD R))=some (.it (.int .u8 (F9 B (64*n+k)))):=fun k hk e'=>by
   show(match(List.map D.it (List.map Cr R))[Int.toNat 0+Int.toNat (k:Int)]? with|some y=>D.at [] y|none=>none)=_
   rw[g k hk]
   rfl
  have hsl:=Fo B (64*n) i
  obtain⟨v0,hv0⟩:∃v0,(padW (sched B (64*n) i))[i]?=some v0:=⟨_,List.getElem?_eq_getElem (by rw[Vp (by omega)];omega)⟩
  have hh:=Jt hv0
  have hp:=Aku hv0
  repeat'((conv=>whnf);first|(apply aI<;>intro hb<;>first|exact absurd hb (by assumption)|((try rw[hb]);(try simp only[Ad]at hb)))|(refine eI ?_ ?_;focus (and_intros<;>first|omega|exact rfl|(simp;done)))|((with_reducible apply Drawn.by0);(focus kernel_rfl);intro hfact;(try simp only[dRS]at hfact))|((try dsimp only);rw[w0])|((try dsimp only);rw[w1])|((try dsimp only);rw[w2])|((try dsimp only);rw[w3])|(refine D9 rfl (gD _ (by omega) _) rfl ?_)|((try dsimp only);rw[hh]))
  all_goals(try(conv=>whnf))
  have hset:padW (sched B (64*n) (i+1))=(padW (sched B (64*n) i)).set i (Arr B (64*n+4*i)):=by
   rw[sched,if_pos hi16, ←A2j, ←Ag9 (by rw[hsl];omega),hsl]
  refine Round.by (i+1) ?_ (by omega) (by omega)
  rw[Ak hi16 (by simp only[maxLen];omega),hset,hp]
  show norm _ _=upd _ _
  kernel_rfl
 have hlt1:¬decide ((i:Int)<16)=true:=by simp;omega
 have hi':i=16:=by omega
 subst hi'
 clear hlt1 hi hi16
 repeat'((conv=>whnf);(apply aI<;>intro hb<;>first|exact absurd hb (by decide)|((try rw[hb]);(try simp only[Ad]at hb))))
 all_goals(try(conv=>whnf))
 refine LoopWq.by (X:=Nat) (fun t=>[(4,.box (.one (.i (u32s (padW (sched B (64*n) t)))))),(6,.v (.int .i64 t))]) (fun t=>16≤t∧t≤64) (fun t=>64 - t)
  16 (by kernel_rfl) (by omega) ?_
 rintro t ⟨ht1,ht2⟩
 by_cases ht64:t<64
 case pos=>
  have hlt1:¬decide ((t:Int)<64)=false:=by simp;omega
  have hsl:=Fo B (64*n) t
  have hset:padW (sched B (64*n) (t+1))=(padW (sched B (64*n) t)).set t (extI (sched B (64*n) t) t):=by
   rw[sched,if_neg (by omega), ←Ag9 (by rw[hsl];omega),hsl]
  rw[←A4k]at hset
  obtain⟨w,hw⟩:∃w,w=sched B (64*n) t:=⟨_,rfl⟩
  rw[←hw]at hsl hset ⊢
  have g:∀j,j<t→w[j]?=some (wAt w j):=fun j hj=>by
   rw[wAt,List.getD_eq_getElem?_getD,List.getElem?_eq_getElem (by omega)];rfl
  have hwr:∀j:Nat,j≤t→IntKind.i64.wrap ((t:Int) - (j:Int))=((t - j:Nat):Int):=fun j hj=>by
   rw[show(t:Int) - (j:Int)=((t - j:Nat):Int)by omega];exact Cf (by omega)
  have w2:IntKind.i64.wrap ((t:Int) - 2)=((t - 2:Nat):Int):=hwr 2 (by omega)
  have w7:IntKind.i64.wrap ((t:Int) - 7)=((t - 7:Nat):Int):=hwr 7 (by omega)
  have w15:IntKind.i64.wrap ((t:Int) - 15)=((t - 15:Nat):Int):=hwr 15 (by omega)
  have w16:IntKind.i64.wrap ((t:Int) - 16)=((t - 16:Nat):Int):=hwr 16 (by omega)
  have h2:=Jt (P9 (g (t - 2) (by omega)))
  have h7:=Jt (P9 (g (t - 7) (by omega)))
  have h15:=Jt (P9 (g (t - 15) (by omega)))
  have h16:=Jt (P9 (g (t - 16) (by omega)))
  obtain⟨v0,hv0⟩:∃v0,(padW w)[t]?=some v0:=⟨_,List.getElem?_eq_getElem (by rw[Vp (by omega)];omega)⟩
  have hh:=Jt hv0
  have hp:=Aku hv0
  repeat'((conv=>whnf);first|(apply aI<;>intro hb<;>first|exact absurd hb (by assumption)|((try rw[hb]);(try simp only[Ad]at hb)))|(refine eI ?_ ?_;focus (and_intros<;>first|omega|exact rfl|(intro _ hh;cases hh;done)|(simp;done)|decide))|((with_reducible apply Drawn.by0);(focus kernel_rfl);intro hfact;(try simp only[dRS]at hfact))|((try dsimp only);rw[w2])|((try dsimp only);rw[w7])|((try dsimp only);rw[w15])|((try dsimp only);rw[w16])|((try dsimp only);rw[h2])|((try dsimp only);rw[h7])|((try dsimp only);rw[h15])|((try dsimp only);rw[h16])|((try dsimp only);rw[hh])|(refine CallWp.mk ⟨_,Fj _ (-7) 7,?_⟩;rintro _ _ ⟨rfl,rfl⟩)|(refine CallWp.mk ⟨_,Fj _ (-18) 18,?_⟩;rintro _ _ ⟨rfl,rfl⟩)|(refine CallWp.mk ⟨_,Fj _ (-17) 17,?_⟩;rintro _ _ ⟨rfl,rfl⟩)|(refine CallWp.mk ⟨_,Fj _ (-19) 19,?_⟩;rintro _ _ ⟨rfl,rfl⟩))
  all_goals(try(conv=>whnf))
  refine Round.by (t+1) ?_ ⟨by omega,ht64⟩ (by omega)
  rw[Ak ht64 (by simp only[maxLen];omega),hset,hp]
  show norm _ _=upd _ _
  kernel_rfl
 have hlt1:¬decide ((t:Int)<64)=true:=by simp;omega
 have ht':t=64:=by omega
 subst ht'
 have hsl:=Fo B (64*n) 64
 have hpd:padW (sched B (64*n) 64)=sched B (64*n) 64:=by rw[padW,hsl];exact List.append_nil _
 rw[hpd]
 have hnext:Ct ww B (n+1)=addH (Ct ww B n) (rnds (sched B (64*n) 64) (Ct ww B n) 64):=rfl
 obtain⟨W,hW⟩:∃W,W=sched B (64*n) 64:=⟨_,rfl⟩
 rw[←hW]at hsl hnext ⊢
 obtain⟨H,hH⟩:∃H,H=Ct ww B n:=⟨_,rfl⟩
 rw[←hH]at hnext ⊢
 clear hpd hlt1 ht1 ht2 ht64
 repeat'((conv=>whnf);first|(apply aI<;>intro hb<;>first|exact absurd hb (by decide)|((try rw[hb]);(try simp only[Ad]at hb)))|(refine eI ?_ ?_;focus (and_intros<;>first|omega|exact rfl|(intro _ hh;cases hh;done)|(simp;done)|decide))|(refine CallWp.mk ⟨_,Akg,?_⟩;rintro _ _ ⟨rfl,rfl⟩))
 all_goals(try(conv=>whnf))
 refine LoopWq.by (X:=Nat) (fun t=>[(9,.box (.one (.i (u32s (rnds W H t).l)))),(103,.v (.int .i64 t))]) (fun t=>t≤64) (fun t=>64 - t)
  0 (by kernel_rfl) (by omega) ?_
 intro t ht
 by_cases ht64:t<64
 case pos=>
  have hlt1:¬decide ((t:Int)<64)=false:=by simp;omega
  have hgk:kays[t]?=some (wAt kays t):=by
   rw[wAt,List.getD_eq_getElem?_getD,List.getElem?_eq_getElem (show t<kays.length from ht64)];rfl
  have hgw:W[t]?=some (wAt W t):=by
   rw[wAt,List.getD_eq_getElem?_getD,List.getElem?_eq_getElem (by omega)];rfl
  have hh:=Jt hgw
  have hr:rnds W H (t+1)=rnd (rnds W H t) (wAt kays t) (wAt W t):=rfl
  obtain⟨Q,hQ⟩:∃R,R=rnds W H t:=⟨_,rfl⟩
  rw[←hQ]at hr ⊢
  obtain⟨kt,hkt⟩:∃k,k=wAt kays t:=⟨_,rfl⟩
  rw[←hkt]at hr hgk
  obtain⟨wt,hwt⟩:∃k,k=wAt W t:=⟨_,rfl⟩
  rw[←hwt]at hr hh
  clear hQ hkt hwt
  repeat'((conv=>whnf);first|(apply aI<;>intro hb<;>first|exact absurd hb (by assumption)|((try rw[hb]);(try simp only[Ad]at hb)))|(refine eI ?_ ?_;focus (and_intros<;>first|omega|exact rfl|(intro _ hh;cases hh;done)|exact B8 (by rfl)|(simp;done)|decide))|((with_reducible apply Drawn.by0);(focus kernel_rfl);intro hfact;(try simp only[dRS]at hfact))|((try dsimp only);first|rw[Av hgk]|rw[An hgk]|rw[Ap hgk])|((try dsimp only);rw[hh])|(refine CallIs.mk ⟨_,_,Fj _ (-6) 6,?_⟩)|(refine CallIs.mk ⟨_,_,Fj _ (-11) 11,?_⟩)|(refine CallIs.mk ⟨_,_,Fj _ (-25) 25,?_⟩)|(refine CallIs.mk ⟨_,_,Fj _ (-2) 2,?_⟩)|(refine CallIs.mk ⟨_,_,Fj _ (-13) 13,?_⟩)|(refine CallIs.mk ⟨_,_,Fj _ (-22) 22,?_⟩))
  all_goals(try(conv=>whnf))
  refine Round.by (t+1) ?_ (by omega) (by omega)
  rw[Ak ht64 (by simp only[maxLen];omega),hr]
  show norm _ _=upd _ _
  kernel_rfl
 have hlt1:¬decide ((t:Int)<64)=true:=by simp;omega
 have ht':t=64:=by omega
 subst ht'
 clear hlt1 ht ht64
 obtain⟨Q,hQ⟩:∃R,R=rnds W H 64:=⟨_,rfl⟩
 rw[←hQ]at hnext ⊢
 repeat'((conv=>whnf);(apply aI<;>intro hb<;>first|exact absurd hb (by decide)|((try rw[hb]);(try simp only[Ad]at hb))))
 all_goals(try(conv=>whnf))
 refine LoopWq.by (X:=Nat) (fun j=>[(202,.box (.one (.i (u32s (addN H Q j).l)))),(182,.v (.int .i64 j))]) (fun j=>j≤8) (fun j=>8 - j)
  0 (by kernel_rfl) (by omega) ?_
 intro j hj
 by_cases hj8:j<8
 case pos=>
  have hj':j=0∨j=1∨j=2∨j=3∨j=4∨j=5∨j=6∨j=7:=by omega
  clear hj hj8
  rcases hj' with rfl|rfl|rfl|rfl|rfl|rfl|rfl|rfl
  ·repeat'((conv=>whnf);first|(apply aI<;>intro hb<;>first|exact absurd hb (by decide)|((try rw[hb]);(try simp only[Ad]at hb)))|(refine eI ?_ ?_;focus (and_intros<;>first|omega|exact rfl|(simp;done)))|((with_reducible apply Drawn.by0);(focus kernel_rfl);intro hfact;(try simp only[dRS]at hfact)))
   all_goals(try(conv=>whnf))
   refine Round.by 1 ?_ (by omega) (by omega)
   show norm _ _=upd _ _
   kernel_rfl
  ·repeat'((conv=>whnf);first|(apply aI<;>intro hb<;>first|exact absurd hb (by decide)|((try rw[hb]);(try simp only[Ad]at hb)))|(refine eI ?_ ?_;focus (and_intros<;>first|omega|exact rfl|(simp;done)))|((with_reducible apply Drawn.by0);(focus kernel_rfl);intro hfact;(try simp only[dRS]at hfact)))
   all_goals(try(conv=>whnf))
   refine Round.by 2 ?_ (by omega) (by omega)
   show norm _ _=upd _ _
   kernel_rfl
  ·repeat'((conv=>whnf);first|(apply aI<;>intro hb<;>first|exact absurd hb (by decide)|((try rw[hb]);(try simp only[Ad]at hb)))|(refine eI ?_ ?_;focus (and_intros<;>first|omega|exact rfl|(simp;done)))|((with_reducible apply Drawn.by0);(focus kernel_rfl);intro hfact;(try simp only[dRS]at hfact)))
   all_goals(try(conv=>whnf))
   refine Round.by 3 ?_ (by omega) (by omega)
   show norm _ _=upd _ _
   kernel_rfl
  ·repeat'((conv=>whnf);first|(apply aI<;>intro hb<;>first|exact absurd hb (by decide)|((try rw[hb]);(try simp only[Ad]at hb)))|(refine eI ?_ ?_;focus (and_intros<;>first|omega|exact rfl|(simp;done)))|((with_reducible apply Drawn.by0);(focus kernel_rfl);intro hfact;(try simp only[dRS]at hfact)))
   all_goals(try(conv=>whnf))
   refine Round.by 4 ?_ (by omega) (by omega)
   show norm _ _=upd _ _
   kernel_rfl
  ·repeat'((conv=>whnf);first|(apply aI<;>intro hb<;>first|exact absurd hb (by decide)|((try rw[hb]);(try simp only[Ad]at hb)))|(refine eI ?_ ?_;focus (and_intros<;>first|omega|exact rfl|(simp;done)))|((with_reducible apply Drawn.by0);(focus kernel_rfl);intro hfact;(try simp only[dRS]at hfact)))
   all_goals(try(conv=>whnf))
   refine Round.by 5 ?_ (by omega) (by omega)
   show norm _ _=upd _ _
   kernel_rfl
  ·repeat'((conv=>whnf);first|(apply aI<;>intro hb<;>first|exact absurd hb (by decide)|((try rw[hb]);(try simp only[Ad]at hb)))|(refine eI ?_ ?_;focus (and_intros<;>first|omega|exact rfl|(simp;done)))|((with_reducible apply Drawn.by0);(focus kernel_rfl);intro hfact;(try simp only[dRS]at hfact)))
   all_goals(try(conv=>whnf))
   refine Round.by 6 ?_ (by omega) (by omega)
   show norm _ _=upd _ _
   kernel_rfl
  ·repeat'((conv=>whnf);first|(apply aI<;>intro hb<;>first|exact absurd hb (by decide)|((try rw[hb]);(try simp only[Ad]at hb)))|(refine eI ?_ ?_;focus (and_intros<;>first|omega|exact rfl|(simp;done)))|((with_reducible apply Drawn.by0);(focus kernel_rfl);intro hfact;(try simp only[dRS]at hfact)))
   all_goals(try(conv=>whnf))
   refine Round.by 7 ?_ (by omega) (by omega)
   show norm _ _=upd _ _
   kernel_rfl
  ·repeat'((conv=>whnf);first|(apply aI<;>intro hb<;>first|exact absurd hb (by decide)|((try rw[hb]);(try simp only[Ad]at hb)))|(refine eI ?_ ?_;focus (and_intros<;>first|omega|exact rfl|(simp;done)))|((with_reducible apply Drawn.by0);(focus kernel_rfl);intro hfact;(try simp only[dRS]at hfact)))
   all_goals(try(conv=>whnf))
   refine Round.by 8 ?_ (by omega) (by omega)
   show norm _ _=upd _ _
   kernel_rfl
 have hj':j=8:=by omega
 subst hj'
 clear hj hj8
 have hlt1:¬decide ((8:Int)<8)=true:=by simp
 have hadd:addN H Q 8=addH H Q:=rfl
 rw[hadd, ←hnext]
 have hee:(if ee 5 n<1000000 then ee 5 n+1000000 else ee 5 n)=ee 5 (n+1):=A4i 5 n
 have hdr:List.drop (Int.toNat 64) (List.map Cr R)=List.map Cr (B.drop (64*(n+1))):=by
  rw[←List.map_drop,hR,List.drop_drop]
  congr 2
 repeat'((conv=>whnf);first|(apply aI<;>intro hb<;>first|exact absurd hb (by assumption)|((try rw[hb]);(try simp only[Ad]at hb)))|(refine eI ?_ ?_;focus (and_intros<;>first|omega|(simp only[Az];omega)))|((try dsimp only);rw[Pe])|((try dsimp only);rw[hee])|((try dsimp only);rw[hdr]))
 all_goals(try(conv=>whnf))
 refine Round.by (n+1) ?_ (by omega) (by omega)
 show norm _ _=upd _ _
 kernel_rfl

open Go.Proofs
theorem A2z (m:Ai) (q p:Nat):F9 (m.drop q) p=F9 m (q+p):=by
 simp[F9,List.getD_eq_getElem?_getD,List.getElem?_drop]
theorem A6a {m:Ai} {p:Nat} (h:p<m.length) (t:Ai):F9 (m++t) p=F9 m p:=by
 simp[F9,List.getD_eq_getElem?_getD,List.getElem?_append_left h]
def Like (m m':Ai) (p p':Nat):Prop:=∀k,k<64→F9 m (p+k)=F9 m' (p'+k)
theorem Arq {m m':Ai} {p p':Nat} (h:Like m m' p p') (q:Nat):∀i,q+i≤64→R9 m (p+q) i=R9 m' (p'+q) i
 |0,_=>rfl
 |i+1,hi=>by
  simp only[R9]
  rw[Arq h q i (by omega),Nat.add_assoc,Nat.add_assoc,h (q+i) (by omega)]
theorem Aqy {m m':Ai} {p p':Nat} (h:Like m m' p p'):∀t,sched m p t=sched m' p' t
 |0=>rfl
 |t+1=>by
  simp only[sched]
  rw[Aqy h t]
  split
  ·rw[Arq h (4*t) 4 (by omega)]
  ·rfl
theorem Amo {m m':Ai} {p p':Nat} (h:Like m m' p p') (x:H8):S8 m p x=S8 m' p' x:=by
 unfold S8
 rw[Aqy h]
theorem Uo (h:H8) (m:Ai) (a:Nat):∀b,Ct h m (a+b)=Ct (Ct h m a) (m.drop (64*a)) b
 |0=>rfl
 |b+1=>by
  rw[←Nat.add_assoc,Ct,Ct,Uo h m a b]
  exact Amo (fun k _=>by rw[A2z];congr 1;omega) _
theorem Up (h:H8) (m t:Ai):∀n,64*n≤m.length→Ct h (m++t) n=Ct h m n
 |0,_=>rfl
 |n+1,hn=>by
  rw[Ct,Ct,Up h m t n (by omega)]
  exact Amo (fun k hk=>A6a (by omega) t) _
theorem Amp (m:Ai):∀n,blocks m n=Ct H0 m n
 |0=>rfl
 |n+1=>by rw[blocks,Ct,Amp m n]
def Gd (T:Ai):Strm:=⟨Ct H0 T (T.length / 64),if T.length<64 then 5 else 1000005,T.drop (64*(T.length / 64)),(T.length:Int)⟩
theorem Be8 (T:Ai):(Gd T).e<1000000→(Gd T).e=5:=by
 unfold Gd
 dsimp only
 split
 ·intro _;rfl
 ·intro h;exact absurd h (by decide)
theorem Ad0 (T:Ai):(Gd T).rest.length=T.length % 64:=by
 show(T.drop _).length=_
 rw[List.length_drop]
 omega
theorem A2o (T t:Ai) (h:T.length+t.length≤1000000000):(Gd T).write t=Gd (T++t):=by
 have hd:T.drop (64*(T.length / 64))++t=(T++t).drop (64*(T.length / 64)):=(List.drop_append_of_le_length (by omega)).symm
 have hl:((T++t).drop (64*(T.length / 64))).length / 64=(T++t).length / 64 - T.length / 64:=by
  rw[List.length_drop,List.length_append];omega
 have hle:T.length / 64≤(T++t).length / 64:=by rw[List.length_append];omega
 unfold Gd Strm.write
 simp only[hd,hl]
 congr 1
 ·rw[←Up H0 T t (T.length / 64) (by omega), ←Uo]
  congr 1
  omega
 ·rw[List.length_append]at hle ⊢
  by_cases h1:T.length<64
  ·by_cases h2:T.length+t.length<64
   ·rw[if_pos h1,if_pos h2,show(T.length+t.length) / 64 - T.length / 64=0 by omega];rfl
   ·rw[if_pos h1,if_neg h2,ee,if_neg (by omega)];rfl
  ·rw[if_neg h1,if_neg (by omega),ee]
   split
   ·rfl
   ·rfl
 ·rw[List.drop_drop]
  congr 1
  omega
 ·rw[List.length_append,wrap_u64,wrap_u64];omega
theorem Avq (T:Ai) (h:T.length≤1000000000):(Gd T).digest=sumB T:=by
 have hz:zeros (Gd T).rest.length=zeros T.length:=by rw[Ad0];unfold zeros;omega
 have ht:(Gd T).tail=(padB T).drop (64*(T.length / 64)):=by
  unfold Strm.tail
  rw[hz]
  unfold padB Gd
  dsimp only
  rw[List.append_assoc,List.append_assoc,List.append_assoc,List.append_assoc,List.drop_append_of_le_length (by omega),Int.toNat_natCast]
 unfold Strm.digest sumB
 congr 1
 have hp:=Am3 T
 have hpl:T.length / 64≤(padB T).length / 64:=by
  have:T.length≤(padB T).length:=by unfold padB;simp only[List.length_append];omega
  exact Nat.div_le_div_right this
 have hl:(Gd T).tail.length / 64=(padB T).length / 64 - T.length / 64:=by rw[ht,List.length_drop];omega
 rw[hl,ht,Amp]
 have e1:(Gd T).w=Ct H0 (padB T) (T.length / 64):=by
  show Ct H0 T (T.length / 64)=_
  unfold padB
  rw[List.append_assoc,List.append_assoc,Up H0 T _ _ (by omega)]
 rw[e1, ←Uo]
 congr 1
 omega
theorem Am4 (T t:Ai) (h:T.length+t.length≤90000000):Fn Tryz.prog T8 [.own [] (Gd T).toD,.v (.str t)] (Is (resD []) [.own [] (Gd (T++t)).toD,.no]):=by
 have:=A81 (Gd T) t (Be8 T) (by rw[Ad0];omega)
 rwa [A2o T t (by omega)]at this
theorem A14 (T:Ai) (h:T.length≤90000000):Fn Tryz.prog Ww [.own [] (Gd T).toD] (Is (.v (.str (sumB T))) [.own [] (Gd T).toDF]):=by
 have:=Bcg (Gd T) (by rw[Ad0];omega) (by show 0≤(T.length:Int)∧(T.length:Int)≤1000000000;omega)
 rwa [Avq T (by omega)]at this
theorem A8s:Fn Tryz.prog Aov [] (Is (.own [] (Gd []).toD) []):=Bcf
theorem A25 {l:List Ai} {k:Nat} {s:Ai} (h:l[k]?=some s):Eb (l.take (k+1))=Eb (l.take k)++numB s.length 8++s:=by
 unfold Eb
 rw[List.take_add_one,h,List.flatMap_append]
 simp
theorem Asp (l:List Ai) (k:Nat):(Eb (l.take k)).length≤(Eb l).length:=by
 have:Eb l=Eb (l.take k)++Eb (l.drop k):=by
  unfold Eb
  rw[←List.flatMap_append,List.take_append_drop]
 rw[this,List.length_append]
 omega
theorem Bez (M j:Nat) (hj:j<8):IntKind.u8.wrap (shrI .u64 (M:Int) (56 - 8*(j:Int)))=((UInt8.ofNat (M / 256^(7 - j) % 256)).toNat:Int):=by
 have h1:(56 - 8*(j:Int)).toNat=8*(7 - j):=by omega
 have h2:shrI .u64 (M:Int) (56 - 8*(j:Int))=((M / 256^(7 - j):Nat):Int):=by
  unfold shrI
  rw[h1,Nat.min_eq_left (by show _≤64;omega),show(2:Int)^(8*(7 - j))=((256^(7 - j):Nat):Int)by rw[show(256:Nat)=2^8 from rfl, ←Nat.pow_mul];push_cast;rfl]
  exact(Int.ofNat_fdiv _ _).symm
 rw[h2,wrap_u8]
 have h3:(UInt8.ofNat (M / 256^(7 - j) % 256)).toNat=M / 256^(7 - j) % 256:=by
  rw[UInt8.toNat_ofNat'];omega
 rw[h3]
 omega
theorem Aq9 (l:List Ai) (hn:l.length≤1000) (hl:(Eb l).length≤90000000):Fn Tryz.prog Aw6 [.v (.list (strs l))] (Is (.v (.str (sumB (Eb l)))) [.no]):=by
 refine Av3 ?_ (by simp)
 repeat'((conv=>whnf);first|(refine eI ?_ ?_;focus (and_intros<;>first|exact rfl|(intro _ hh;cases hh;done)|decide))|(intro hfact)|(refine CallWp.mk ⟨_,A8s,?_⟩;rintro _ _ ⟨rfl,rfl⟩))
 all_goals(try(conv=>whnf))
 refine LoopWq.by (X:=Nat) (fun k=>[(3,.own [] (Gd (Eb (l.take k))).toD),(11,.v (.int .i64 k))]) (fun k=>k≤l.length) (fun k=>l.length - k)
  0 (by rw[List.take_zero];kernel_rfl) (by omega) ?_
 intro k hk
 have hlt0:((strs l).length:Int)=(l.length:Int):=by simp
 by_cases hk2:k<l.length
 case neg=>
  have hlt:¬decide ((k:Int)<((strs l).length:Int))=true:=by rw[hlt0,decide_eq_true_eq];omega
  obtain rfl:k=l.length:=by omega
  rw[List.take_length]
  repeat'((conv=>whnf);first|(apply aI<;>intro hb<;>first|exact absurd hb (by assumption)|((try rw[hb]);(try simp only[Ad]at hb)))|(refine eI ?_ ?_;focus (and_intros<;>first|exact rfl|(intro _ hh;cases hh;done)|(simp;done)|decide))|(refine CallWp.mk ⟨_,(A14 (Eb l) hl),?_⟩;rintro _ _ ⟨rfl,rfl⟩))
  all_goals(try(conv=>whnf))
  (apply dK<;>kernel_rfl)
 have hlt:¬decide ((k:Int)<((strs l).length:Int))=false:=by rw[hlt0,decide_eq_false_iff_not];omega
 obtain⟨s,hs⟩:∃s,l[k]?=some s:=⟨_,List.getElem?_eq_getElem hk2⟩
 have hg:(strs l)[Int.toNat (k:Int)]?=some (.str s):=Z1 hs
 have hkl:Int.toNat (k:Int)<(strs l).length:=by simp[hk2]
 have hj1:=A25 hs
 have hj2:=Asp l (k+1)
 rw[hj1]at hj2
 obtain⟨T,hT⟩:∃T,T=Eb (l.take k):=⟨_,rfl⟩
 rw[←hT]at hj1 hj2 ⊢
 simp only[List.length_append,D4]at hj2
 repeat'((conv=>whnf);first|(apply aI<;>intro hb<;>first|exact absurd hb (by assumption)|((try rw[hb]);(try simp only[Ad]at hb)))|(refine eI ?_ ?_;focus (and_intros<;>first|omega|exact rfl))|((try dsimp only);rw[hg]))
 all_goals(try(conv=>whnf))
 obtain⟨M,hM⟩:∃M,M=s.length:=⟨_,rfl⟩
 have hMs:IntKind.u64.wrap (s.length:Int)=(M:Int):=by rw[wrap_u64];omega
 refine LoopWq.by (X:=Nat) (fun j=>[(6,.vec 5 1 (((numB M 8).take j).map Cr)),(7,.v (.int .i64 (56 - 8*(j:Int))))]) (fun j=>j≤8) (fun j=>8 - j)
  0 (by rw[List.take_zero];kernel_rfl) (by omega) ?_
 intro j hj
 obtain⟨F,hF⟩:∃F,F=(numB M 8).take j:=⟨_,rfl⟩
 have hFl:F.length=j:=by rw[hF,List.length_take,D4];omega
 rw[←hF]
 by_cases hj8:j<8
 case pos=>
  have e1:((F.map Cr).length+1)*1≤140737488355328:=by simp[hFl];omega
  have e2:(F.map Cr).length+1≤maxLen:=by simp[hFl,maxLen];omega
  have hge:¬decide (56 - 8*(j:Int)≥0)=false:=by simp;omega
  have hge':¬decide ((0:Int)≤56 - 8*(j:Int))=false:=by simp;omega
  have h0j:(0:Int)≤56 - 8*(j:Int):=by omega
  repeat'((conv=>whnf);first|(apply aI<;>intro hb<;>first|exact absurd hb (by assumption)|((try rw[hb]);(try simp only[Ad]at hb)))|(refine eI ?_ ?_;focus (and_intros<;>first|omega|exact rfl|assumption|exact B8 (by rfl)|(simp;done)))|(intro hfact))
  all_goals(try(conv=>whnf))
  have hF3:List.map Cr ((numB M 8).take (j+1))=List.map Cr F++(List.replicate 1 (I.int IntKind.u8 0)).set 0 (I.int IntKind.u8 (IntKind.u8.wrap (shrI .u64 (IntKind.u64.wrap (s.length:Int)) (56 - 8*(j:Int))))):=by
   rw[hMs,Bez M j hj8,List.take_add_one,Aob 8 M j hj8, ←hF,List.map_append]
   rfl
  have hs4:IntKind.i64.wrap (56 - 8*(j:Int) - 8)=56 - 8*((j+1:Nat):Int):=by rw[IntKind.wrap_i64];omega
  refine Round.by (j+1) ?_ (by omega) (by omega)
  rw[hs4,hF3]
  show norm _ _=upd _ _
  kernel_rfl
 have hge:¬decide (56 - 8*(j:Int)≥0)=true:=by simp;omega
 have hge':¬decide ((0:Int)≤56 - 8*(j:Int))=true:=by simp;omega
 obtain rfl:j=8:=by omega
 have hF8:F=numB s.length 8:=by rw[hF,hM];exact List.take_of_length_le (by rw[D4];exact Nat.le_refl _)
 have hFm:F.length≤maxLen:=by rw[hFl];simp[maxLen]
 have w1:=Am4 T F (by omega)
 have w2:=Am4 (T++F) s (by rw[List.length_append];omega)
 repeat'((conv=>whnf);first|(apply aI<;>intro hb<;>first|exact absurd hb (by assumption)|((try rw[hb]);(try simp only[Ad]at hb)))|(refine eI ?_ ?_;focus (and_intros<;>first|omega|exact rfl|(intro _ hh;cases hh;done)|(simp;done)|decide))|((simp only[SV.vecAt,Wi]))|(refine CallWp.mk ⟨_,w1,?_⟩;rintro _ _ ⟨rfl,rfl⟩)|(refine CallWp.mk ⟨_,w2,?_⟩;rintro _ _ ⟨rfl,rfl⟩))
 all_goals(try(conv=>whnf))
 refine Round.by (k+1) ?_ (by omega) (by omega)
 rw[Ak hk2 (by simp only[maxLen];omega),hj1, ←hF8]
 show norm _ _=upd _ _
 kernel_rfl

open Go.Proofs Go.Shelf
def Atb:Ren:=⟨fun n=>if n=6 then 140 else if n=14 then 148 else if n=15 then 149 else if n=20 then 153 else if n=21 then 154 else if n=22 then 155 else if n=23 then 156 else if n=24 then 157 else if n=25 then 158 else if n=26 then 159 else if n=27 then 160 else if n=28 then 161 else if n=29 then 162 else if n=46 then 163 else if n=47 then 164 else if n=48 then 165 else if n=49 then 166 else if n=50 then 167 else if n=57 then 168 else n,fun n=>if n=0 then 0 else if n=3 then 3 else if n=4 then 4 else if n=5 then 5 else if n=9 then 9 else if n=22 then 97 else if n=24 then 34 else if n=25 then 181 else if n=39 then 145 else if n=45 then 194 else if n=46 then 195 else if n=50 then 117 else if n=53 then 141 else if n=55 then 114 else if n=66 then 202 else if n=70 then 206 else if n=76 then 208 else if n=77 then 209 else n,fun n=>n⟩
theorem Bgi:SlLaysF0.n6 Tryz.prog Atb where
 mixed:=by kernel_rfl
 f6:=⟨Tryz.f140.name,by kernel_rfl,by kernel_rfl⟩
 f14:=⟨Tryz.f148.name,by kernel_rfl,by kernel_rfl⟩
 f15:=by kernel_rfl
 f20:=⟨Tryz.f153.name,by kernel_rfl,by kernel_rfl⟩
 f21:=⟨Tryz.f154.name,by kernel_rfl,by kernel_rfl⟩
 f22:=⟨Tryz.f155.name,by kernel_rfl,by kernel_rfl⟩
 f23:=⟨Tryz.f156.name,by kernel_rfl,by kernel_rfl⟩
 f24:=⟨Tryz.f157.name,by kernel_rfl,by kernel_rfl⟩
 f25:=⟨Tryz.f158.name,by kernel_rfl,by kernel_rfl⟩
 f26:=⟨Tryz.f159.name,by kernel_rfl,by kernel_rfl⟩
 f27:=⟨Tryz.f160.name,by kernel_rfl,by kernel_rfl⟩
 f28:=by kernel_rfl
 f29:=by kernel_rfl
 f46:=⟨Tryz.f163.name,by kernel_rfl,by kernel_rfl⟩
 f47:=by kernel_rfl
 f48:=by kernel_rfl
 f49:=⟨Tryz.f166.name,by kernel_rfl,by kernel_rfl⟩
 f50:=⟨Tryz.f167.name,by kernel_rfl,by kernel_rfl⟩
 f57:=⟨Tryz.f168.name,by kernel_rfl,by kernel_rfl⟩
 t0:=by kernel_rfl
 a0:=fun _=>by kernel_rfl
 z0:=fun _=>by kernel_rfl
 v0:=fun _=>by kernel_rfl
 t3:=by kernel_rfl
 a3:=fun _=>by kernel_rfl
 z3:=fun _=>by kernel_rfl
 v3:=fun _=>by kernel_rfl
 t4:=by kernel_rfl
 a4:=fun _=>by kernel_rfl
 z4:=fun _=>by kernel_rfl
 v4:=fun _=>by kernel_rfl
 t5:=by kernel_rfl
 a5:=fun _=>by kernel_rfl
 z5:=fun _=>by kernel_rfl
 v5:=fun _=>by kernel_rfl
 t9:=by kernel_rfl
 a9:=fun _=>by kernel_rfl
 z9:=fun _=>by kernel_rfl
 v9:=fun _=>by kernel_rfl
 t22:=by kernel_rfl
 a22:=fun _=>by kernel_rfl
 z22:=fun _=>by kernel_rfl
 v22:=fun _=>by kernel_rfl
 t25:=by kernel_rfl
 a25:=fun _=>by kernel_rfl
 z25:=fun _=>by kernel_rfl
 v25:=fun _=>by kernel_rfl
 t39:=by kernel_rfl
 a39:=fun _=>by kernel_rfl
 z39:=fun _=>by kernel_rfl
 v39:=fun _=>by kernel_rfl
 t45:=by kernel_rfl
 a45:=fun _=>by kernel_rfl
 z45:=fun _=>by kernel_rfl
 v45:=fun _=>by kernel_rfl
 t46:=by kernel_rfl
 a46:=fun _=>by kernel_rfl
 z46:=fun _=>by kernel_rfl
 v46:=fun _=>by kernel_rfl
 t50:=by kernel_rfl
 a50:=fun _=>by kernel_rfl
 z50:=fun _=>by kernel_rfl
 v50:=fun _=>by kernel_rfl
 t53:=by kernel_rfl
 a53:=fun _=>by kernel_rfl
 z53:=fun _=>by kernel_rfl
 v53:=fun _=>by kernel_rfl
 t55:=by kernel_rfl
 a55:=fun _=>by kernel_rfl
 z55:=fun _=>by kernel_rfl
 v55:=fun _=>by kernel_rfl
 t66:=by kernel_rfl
 a66:=fun _=>by kernel_rfl
 z66:=fun _=>by kernel_rfl
 v66:=fun _=>by kernel_rfl
 t70:=by kernel_rfl
 a70:=fun _=>by kernel_rfl
 z70:=fun _=>by kernel_rfl
 v70:=fun _=>by kernel_rfl
 t76:=by kernel_rfl
 a76:=fun _=>by kernel_rfl
 z76:=fun _=>by kernel_rfl
 v76:=fun _=>by kernel_rfl
 t77:=by kernel_rfl
 a77:=fun _=>by kernel_rfl
 z77:=fun _=>by kernel_rfl
 v77:=fun _=>by kernel_rfl

open Go.Proofs Go.Shelf Go.RowKit Go.Lib Go.Sort
set_option maxHeartbeats 1000000 in
theorem Baz (x:ByteArray) (w:World):Calls Tryz.prog 129 #[.string x] w fun e w'=>e= .returned (.bool false)∧w'=w:=by
 go_enter Tryz.func129,Tryz.ntmps129
 go_wp2
 go_ret
 exact⟨by simp,rfl⟩
set_option maxHeartbeats 1000000 in
theorem A26 (x y:Ai) (w:World):Calls Tryz.prog 111 #[.string ⟨⟨x⟩⟩,.string ⟨⟨y⟩⟩] w fun e w'=>e= .returned (.int .i64 (cmpS x y))∧w'=w:=by
 go_enter Tryz.func111,Tryz.ntmps111
 go_wp2_with (go_at_call 129;refine(Baz _ _).mono ?_;rintro e w' ⟨rfl,hw⟩;rw[hw])
 all_goals(go_ret;refine⟨?_,rfl⟩)
 all_goals(refine congrArg (fun n=>Ending.returned (Value.int .i64 n)) ?_)
 all_goals(simp[cmpS,G5]at*)
 all_goals grind
def Ej (s:Sp):List Value:=[.string ⟨⟨s.f⟩⟩,.string ⟨⟨s.t⟩⟩]
set_option maxHeartbeats 1000000 in
theorem Bjs (x y:Sp) (w:World):Calls Tryz.prog 141 #[.agg (Ej x).toArray,.agg (Ej y).toArray] w fun e w'=>e= .returned (.int .i64 (cmpS x.f y.f))∧∃q os',w'=grow (w.drewN q) os':=by
 have hcon:=fun W'=>A26 x.f y.f W'
 generalize cmpS x.f y.f=r at hcon ⊢
 unfold Ej
 go_enter Tryz.func141,Tryz.ntmps141
 go_wp2_with (go_at_call 111;refine(hcon _).mono ?_;rintro e w' ⟨rfl,rfl⟩)
 go_ret
 exact⟨rfl,0,_,by rw[alloc_eq_grow,alloc_eq_grow,grow_grow];rfl⟩
instance:Inhabited Sp:=⟨⟨[],[]⟩⟩
theorem Bee (blk off size:Nat) (w:World):CmpLays Tryz.prog 141 #[] Ej 2 (fun x y=>cmpS x.f y.f) blk off size w:=
 fun _ _ _ _ x y=>Bjs x y _
theorem ltF (x y:Sp):ltOf (fun x y:Sp=>cmpS x.f y.f) x y=decide (x.f<y.f):=by
 unfold ltOf cmpS
 by_cases h:x.f<y.f
 ·simp[h]
 ·by_cases h2:y.f<x.f<;>simp[h,h2]
theorem swoF:SWO (ltOf fun x y:Sp=>cmpS x.f y.f) where
 irrefl x:=by rw[ltF];simp
 trans x y z h1 h2:=by rw[ltF]at*;simp at*;grind
 ntrans x y z h1 h2:=by rw[ltF]at*;simp at*;grind
set_option maxHeartbeats 1000000

open Go.Proofs
theorem A0j {l:List I} {n:Nat} {y u:I} (h:l[n]?=some y):putV l [n] u=l.set n u:=by
 have:y.put [] u=u:=by cases y<;>rfl
 simp[putV,h,this]
def Ju (s:Sp):Bool:=decide (Dk s)
theorem Aua:∀{l:List Sp} {k:Nat},idxF badB k l= -1→l.filter Ju=l
 | [],_,_=>rfl
 |s::r,k,h=>by
  unfold idxF at h
  split at h
  ·omega
  ·rename_i hs
   have hg:Ju s=true:=by simpa[badB,Ju]using hs
   rw[List.filter_cons,if_pos hg,Aua h]
theorem Aub:∀{l:List Sp} {k:Nat},idxF badB k l≠ -1→∃i:Nat,idxF badB k l=k+i∧i<l.length∧(l.take i).filter Ju=l.take i∧∃s,l[i]?=some s∧badB s=true
 | [],k,h=>by simp[idxF]at h
 |s::r,k,h=>by
  unfold idxF at h ⊢
  split
  ·rename_i hs
   exact⟨0,by simp,by simp,rfl,s,rfl,hs⟩
  ·rename_i hs
   rw[if_neg hs]at h
   obtain⟨i,h1,h2,h3,h4⟩:=Aub h
   have hg:Ju s=true:=by simpa[badB,Ju]using hs
   refine⟨i+1,by rw[h1];simp;omega,by simpa using h2,?_,by simpa using h4⟩
   rw[List.take_succ_cons,List.filter_cons,if_pos hg,h3]
theorem A3w (l:List Sp) (hl:l.length≤1000000):Fn Tryz.prog Ms [.vec 34 2 (sps l),.v (.fn 139)] (Is (.vec 34 2 (sps (l.filter Ju))) [.no,.no]):=by
 refine Md ?_ (by simp)
 have hidx:=A8t l hl
 by_cases hn:idxF badB 0 l= -1
 ·rw[hn]at hidx
  repeat'((conv=>whnf);first|(apply aI<;>intro hb<;>first|exact absurd hb (by decide)|((try rw[hb]);(try simp only[Ad]at hb)))|(refine eI ?_ ?_;focus (and_intros<;>first|omega|exact rfl|(simp;done)))|(refine CallWp.mk ⟨_,hidx,?_⟩;rintro _ _ ⟨rfl,rfl⟩))
  all_goals(try(conv=>whnf))
  exact Done.mk ⟨by rw[Aua hn],by kernel_rfl⟩ (by kernel_rfl)
 obtain⟨i0,hi0,hlt0,hf0,b0,hb0,hbad0⟩:=Aub hn
 rw[hi0,show((0:Nat):Int)+(i0:Int)=(i0:Int)from by omega]at hidx
 have n1:¬decide ((i0:Int)= -1)=true:=by simp
 have hw0:IntKind.i64.wrap ((i0:Int)+1)=((i0+1:Nat):Int):=(Cf (by omega)).trans (by omega)
 repeat'((conv=>whnf);first|(apply aI<;>intro hb<;>first|exact absurd hb (by assumption)|((try rw[hb]);(try simp only[Ad]at hb)))|(refine eI ?_ ?_;focus (and_intros<;>first|omega|(simp;done)))|(refine CallWp.mk ⟨_,hidx,?_⟩;rintro _ _ ⟨rfl,rfl⟩)|((try dsimp only);rw[hw0]))
 all_goals(try(conv=>whnf))
 have hmax:l.length≤maxLen:=by simp only[maxLen];omega
 refine LoopWq.by (X:=Nat × Nat × List Sp) (fun x=>[(42,.vec 34 2 (sps x.2.2)),(5,.v (.int .i64 x.2.1)),(6,.v (.int .i64 x.1))])
  (fun x=>x.2.1<x.1∧x.1≤l.length∧x.2.2.length=l.length∧x.2.2.drop x.1=l.drop x.1∧x.2.2.take x.2.1=(l.take x.1).filter Ju) (fun x=>l.length - x.1)
  (i0+1,i0,l) (by kernel_rfl) ⟨Nat.lt_succ_self _,hlt0,rfl,rfl,by
    have hbg:¬Ju b0=true:=by simpa[badB,Ju]using hbad0
    rw[List.take_add_one,hb0,List.filter_append,hf0]
    simp[hbg]⟩ ?_
 rintro⟨j,i,c⟩ ⟨h1,h2,h3,h4,h5⟩
 dsimp only at h1 h2 h3 h4 h5 ⊢
 by_cases hj:j<l.length
 case neg=>
  have hlt:¬decide ((j:Int)<((sps c).length:Int))=true:=by simp;omega
  have hle:(i:Int)≤((sps c).length:Int):=by simp;omega
  have hle0:Int.toNat (i:Int)≤(sps c).length:=by simp;omega
  rw[show l.take j=l from List.take_of_length_le (by omega)]at h5
  have hle2:(i:Int)≤(((sps c).take (i:Int).toNat++List.replicate ((sps c).length - (i:Int).toNat) (I.agg [I.str [],I.str []])).length:Int):=by
   simp only[List.length_append,List.length_take,List.length_replicate,List.length_map];omega
  repeat'((conv=>whnf);first|(apply aI<;>intro hb<;>first|exact absurd hb (by assumption)|((try rw[hb]);(try simp only[Ad]at hb)))|(refine eI ?_ ?_;focus (and_intros<;>first|omega|exact rfl|(simp;done)))|(intro hfact))
  all_goals(try(conv=>whnf))
  refine Done.mk ⟨congrArg (fun l=>SV.vec 34 2 l) ?_,by kernel_rfl⟩ (by kernel_rfl)
  rw[←h5,Int.toNat_natCast,List.take_append_of_le_length (by simp;omega),List.take_take,Nat.min_self]
  simp[sps]
 obtain⟨e,he⟩:∃e,l[j]?=some e:=⟨_,List.getElem?_eq_getElem hj⟩
 have hce:c[j]?=some e:=by
  have:=congrArg (fun q=>q[0]?) h4
  simp only[List.getElem?_drop,Nat.add_zero]at this
  rw[this,he]
 have hlt:¬decide ((j:Int)<((sps c).length:Int))=false:=by simp;omega
 have hgc:(sps c)[Int.toNat (j:Int)]?=some e.toI:=Vg hce
 have hh:=V1 (e:=34) (sz:=2) hgc
 have hkl:Int.toNat (j:Int)<(sps c).length:=by simp;omega
 have hki:Int.toNat (i:Int)<(sps c).length:=by simp;omega
 obtain⟨y,hy⟩:∃y,c[i]?=some y:=⟨_,List.getElem?_eq_getElem (by omega)⟩
 have hgi:(sps c)[Int.toNat (i:Int)]?=some y.toI:=Vg hy
 have hhi:=V1 (e:=34) (sz:=2) hgi
 have hround:l.length - (j+1)<l.length - j:=by omega
 have hwj:IntKind.i64.wrap ((j:Int)+1)=((j+1:Nat):Int):=(Cf (by omega)).trans (by omega)
 have hwi:IntKind.i64.wrap ((i:Int)+1)=((i+1:Nat):Int):=(Cf (by omega)).trans (by omega)
 have htk:(l.take (j+1)).filter Ju=(l.take j).filter Ju++[e].filter Ju:=by rw[List.take_add_one,he,List.filter_append];rfl
 by_cases hr:Dk e
 ·have n2:¬(!(!decide (Dk e)))=false:=by simp[hr]
  have hg2:Ju e=true:=by simp[Ju,hr]
  repeat'((conv=>whnf);first|(apply aI<;>intro hb<;>first|exact absurd hb (by assumption)|((try rw[hb]);(try simp only[Ad]at hb)))|(refine eI ?_ ?_;focus (and_intros<;>first|omega|exact rfl|(intro _ hh;cases hh;done)|(simp;done)|decide))|(intro hfact)|((try dsimp only);rw[hh])|((try dsimp only);rw[hhi])|(refine CallWp.mk ⟨_,Atj _,?_⟩;rintro _ _ ⟨rfl,rfl⟩))
  all_goals(try(conv=>whnf))
  refine Round.by (j+1,i+1,c.set i e) ?_ ⟨by dsimp only;omega,hj,by simp[h3],?_,?_⟩ hround
  ·have hput:sps (c.set i e)=putV (sps c) [Int.toNat (i:Int)] ((I.agg [I.str [],I.str []]).put [] e.toI):=by
    rw[A0j hgi,Int.toNat_natCast]
    simp only[sps,List.map_set]
    rfl
   dsimp only
   rw[hwj,hwi,hput]
   show norm _ _=upd _ _
   kernel_rfl
  ·dsimp only
   have:=congrArg (List.drop 1) h4
   rw[List.drop_set_of_lt (by omega)]
   simpa[List.drop_drop]using this
  ·dsimp only
   rw[htk, ←h5,List.take_add_one,List.getElem?_set_self (by omega),List.take_set_of_le (by omega)]
   simp[hg2]
 ·have n2:¬(!(!decide (Dk e)))=true:=by simp[hr]
  have hg2:¬Ju e=true:=by simp[Ju,hr]
  repeat'((conv=>whnf);first|(apply aI<;>intro hb<;>first|exact absurd hb (by assumption)|((try rw[hb]);(try simp only[Ad]at hb)))|(refine eI ?_ ?_;focus (and_intros<;>first|omega|exact rfl|(intro _ hh;cases hh;done)|(simp;done)|decide))|(intro hfact)|((try dsimp only);rw[hh])|(refine CallWp.mk ⟨_,Atj _,?_⟩;rintro _ _ ⟨rfl,rfl⟩))
  all_goals(try(conv=>whnf))
  refine Round.by (j+1,i,c) ?_ ⟨by dsimp only;omega,hj,h3,?_,?_⟩ hround
  ·rw[hwj]
   show norm _ _=upd _ _
   kernel_rfl
  ·have:=congrArg (List.drop 1) h4
   simpa[List.drop_drop]using this
  ·rw[htk,h5]
   simp[hg2]
end Go.Ab
