/- Lemmas -/
import Derived.Test.YtkpojedpcabojaaGreatDoorK11
set_option linter.unusedVariables false
set_option linter.unusedSimpArgs false
set_option maxRecDepth 100000
set_option maxHeartbeats 40000000
namespace Go.Ab
open Go.Proofs
theorem Bkr(R:List Spc)(n k:Az)(hl:R.length≤100000)(hf:Aqo n R 0= -1):
 Fn Tryz.prog Auq [rT R,.v (.str n),.v (.str k)] (Is (.tup [.i (.agg [.str [],.str [],ti 0,ti 0]),.i (.bool false)]) [rT R,.no,.no]):=by
 refine Awp ?_ (by simp)
 have hfi:=Auo R n hl;rw[hf]at hfi;repeat'((conv=>whnf);first|(with_reducible refine Ax (by first|refine decide_eq_true ?_;omega|rfl) fun hb=>?_);(try rw[hb]);try simp only[Aa]at hb|(with_reducible refine Ac ?_ ?_);focus (and_intros<;>first|omega|kernel_rfl|intro _ hh;cases hh;done|simp;done|decide)|(with_reducible refine Ct.mk ?_);refine⟨_,hfi,?_⟩;rintro _ _ ⟨rfl,rfl⟩)
 all_goals(try(conv=>whnf))
 (apply Dj<;>kernel_rfl)
theorem Bks(R:List Spc)(n k:Az)(hl:R.length≤100000)(hk:k.length≤100000)(i:Nat)(p:Spc)(hf:Aqo n R 0=(i:Int))(he:R[i]?=some p)(hb:p.keys.length≤100000)(hv:∀h∈p.keys,h.vs.length≤100000):
 Fn Tryz.prog Auq [rT R,.v (.str n),.v (.str k)] (Is (.tup [.i ((Ara (Arf k) p.rev p.keys []).head?.getD ⟨[],[],0,0⟩).Bx,.i (.bool (decide (Ara (Arf k) p.rev p.keys []≠[])))]) [rT R,.no,.no]):=by
 refine Awp ?_ (by simp)
 have hfi:=Auo R n hl;rw[hf]at hfi;have hil:=(A7.1 he).1;have hlm:((R.map Spc.Bx).map D.it).length=R.length:=by simp
 have A0o:=Bga k hk;have hal:Fn Tryz.prog Aws [.v p.Bx,.v (.agg [.str k,.str (k++[0])]),.v (ti p.rev)] (Is (.v (.list ((Ara (Arf k) p.rev p.keys []).map Pr.Bx))) [.no,.no,.no]):=A82 p (Arf k) p.rev hb hv;obtain⟨pn,prv,pfl,pk⟩:=p;dsimp only at hb hv hal ⊢;generalize hKx:k++[(0:UInt8)]=k0 at A0o hal;generalize Ara (Arf k) prv pk []=l at hal ⊢;rcases l with _|⟨⟨qk,qv,qm,qr⟩,l⟩
 ·repeat'((conv=>whnf);first|(with_reducible refine Aw (by first|refine decide_eq_false ?_;omega|rfl) fun hb=>?_);(try rw[hb]);try simp only[Aa]at hb|((with_reducible refine A5 (fun hb=>?_) fun hb=>?_)<;>first|exact absurd hb (by decide)|(try rw[hb]);try simp only[Aa]at hb)|(with_reducible refine Ac ?_ ?_);focus (and_intros<;>first|omega|with_reducible rfl|kernel_rfl|intro _ hh;cases hh;done|simp;done|decide)|with_reducible intro Cq|(with_reducible refine Ai2.mkV ?_ ?_ ?_ fun Cq=>?_);(iterate 3 focus (as_aux_lemma=>kernel_rfl));try simp only[zRL]at Cq|(with_reducible refine Ct.mk ?_);refine⟨_,hfi,?_⟩;rintro _ _ ⟨rfl,rfl⟩|(with_reducible refine Aq3.mk ?_);refine⟨_,_,A0o,?_⟩|(with_reducible refine Aq3.mk ?_);refine⟨_,_,hal,?_⟩|(with_reducible apply A3);(focus rfl);(focus (simp only[D.at,D.put,D.Xw,D.Fh,Mg,Jo,D.Bx,Js,Ad,Af,he,hlm]<;>exact rfl));(try(focus exact rfl)))
  all_goals(try(conv=>whnf))
  (apply Dj<;>kernel_rfl)
 ·have h1:¬decide (((l.length+1:Nat):Int)=0)=true:=by simp;omega
  have h2:¬decide (((l.length:Int)+1)=0)=true:=by simp;omega
  have h3:¬decide (((⟨qk,qv,qm,qr⟩::l:List Pr).map Pr.Bx).length=(0:Int))=true:=by simp;omega
  repeat'((conv=>whnf);first|(with_reducible refine Aw (by first|exact Ak (by assumption)|refine decide_eq_false ?_;omega) fun hb=>?_);(try rw[hb]);try simp only[Aa]at hb|(with_reducible refine Ac ?_ ?_);focus (and_intros<;>first|omega|with_reducible rfl|kernel_rfl|intro _ hh;cases hh;done|simp;done|decide)|with_reducible intro Cq|(with_reducible refine Ai2.mkV ?_ ?_ ?_ fun Cq=>?_);(iterate 3 focus (as_aux_lemma=>kernel_rfl));try simp only[zRL]at Cq|(with_reducible refine Ct.mk ?_);refine⟨_,hfi,?_⟩;rintro _ _ ⟨rfl,rfl⟩|(with_reducible refine Aq3.mk ?_);refine⟨_,_,A0o,?_⟩|(with_reducible refine Aq3.mk ?_);refine⟨_,_,hal,?_⟩|(with_reducible apply A3);(focus rfl);(focus (simp only[D.at,D.put,D.Xw,D.Fh,Mg,Jo,D.Bx,Js,Ad,Af,he,hlm]<;>exact rfl));(try(focus exact rfl)))
  all_goals(try(conv=>whnf))
  (apply Dj<;>kernel_rfl)

theorem Bhg{s:Cn}{n:Az}{ifs:List Cm}{th el:List Act}(h:(s.runM n ifs th el).e=0):(s.fi n).isSome=true∧Cu ifs th el=true∧∃acts:List Act,(∀d∈acts,d∈th++el)∧acts.length≤8∧(s.runM n ifs th el).outs=acts.map (s.A0d n)∧(s.runM n ifs th el).chs=(acts.map (s.Ayo n)).flatten∧∀d∈acts,s.A0c n d=0:=by
 unfold Cn.runM at h ⊢;split at h
 ·cases h
 ·rename_i h1;rw[if_neg h1];split at h
  ·cases h
  ·rename_i h2;rw[if_neg h2];have hin:∀d∈(if s.Aqu n ifs=true then th else el),d∈th++el:=fun d hd=>by
    split at hd
    ·exact Aau _ hd
    ·exact Ac6 _ hd
   have hle:(if s.Aqu n ifs=true then th else el).length≤max th.length el.length:=by split<;>omega
   generalize (if s.Aqu n ifs=true then th else el)=L at h hin hle ⊢
   split at h
   ·rename_i h3;rw[if_pos h3];obtain⟨a1,a2,a3⟩:=Bae h3;have h2:Cu ifs th el=true:=by simpa using h2
    obtain⟨b1,_⟩:=Akt h2;refine⟨by cases hf:s.fi n with|none=>rw[hf]at h1;exact absurd rfl h1|some i=>rfl,h2,L,hin,by omega,?_,?_,a3⟩
    ·dsimp only;rw[a1];rfl
    ·dsimp only;rw[a2];rfl
   ·rename_i h3;exact absurd h h3
theorem Bdr{s:Cn}{n:Az}{ifs:List Cm}{th el:List Act}(h:(s.runM n ifs th el).e≠0):(s.runM n ifs th el).outs=[]∧(s.runM n ifs th el).chs=[]:=by
 unfold Cn.runM at h ⊢;split
 ·exact⟨rfl,rfl⟩
 ·rename_i h1;rw[if_neg h1]at h;split
  ·exact⟨rfl,rfl⟩
  ·rename_i h2;rw[if_neg h2]at h;generalize (if s.Aqu n ifs=true then th else el)=L at h ⊢
   split
   ·rename_i h3;rw[if_pos h3]at h;exact absurd rfl h
   ·exact⟨rfl,rfl⟩
def K1(s:Cn):Prop:=∀h∈s.l,1≤(C1 h.at_).2.1.length
theorem Aro{FF:List Ef}(h:∀c∈FF,c.ok){k:Az}(hk:k∈Dc (FF.map Ef.key)):1≤k.length:=by
 obtain⟨q,_,h2,h3⟩:=Adz (Aje.1 hk);have h4:=h _ (Cb h2);rw[←h3];exact h4.1.1
theorem Anf{n:Az}{F:List Ef}(hn:n.length<256):∀{KK:List Az} {x:WSt},(∀k∈KK,1≤k.length)→(∀h∈x.l,1≤(C1 h.at_).2.1.length)→∀h∈(Ge n F KK x).l,1≤(C1 h.at_).2.1.length
 | [],x,_,h=>h
 |k::KK,x,hk,h=>by
  unfold Ge;refine Anf hn (fun y hy=>hk y (B4 _ hy)) ?_
  rcases Q7 n k (Anv F k) x with e|⟨v,_,e,_⟩
  ·rw[e];exact h
  ·rw[e];intro y hy;rcases Ajm hy with h1|rfl|⟨e,_,_,rfl⟩
   ·exact h y h1
   ·dsimp only;rw[Mt hn];exact hk k (B2 ..)
   ·dsimp only;rw[Mt hn];exact hk k (B2 ..)
theorem K1.write{m:Nat}{s:Cn}(h:Akb m s)(hk:K1 s)(n:Az)(cs:List Ef):K1 (s.Acg n cs).1:=by
 unfold Cn.Acg;split
 ·exact hk
 ·rename_i i hi;split
  ·exact hk
  ·rename_i F hF;obtain⟨_,f2,_⟩:=Agz hF (by simp) (by simp)
   exact Anf (h.name hi) (fun k hk=>Aro f2 hk) hk
theorem K1.comp{s:Cn}(hk:K1 s)(n:Az)(rev:Int):K1 (s.Anu n rev).1:=by
 unfold Cn.Anu;split
 ·exact hk
 ·split
  ·obtain⟨c1,_⟩:=Ahp (n:=n) (rev:=rev) (l:=s.l) (x:=⟨[],0⟩);rw[H4]at c1;intro x hx;dsimp only at hx;rw[c1]at hx;obtain⟨y,hy,e⟩:=Ajj.1 hx;rw[(Agy e).1];exact hk y hy
  ·exact hk

theorem A3m{m:Nat}{s:Cn}(hI:Akb m s){n:Az}(hf:(s.fi n).isSome=true){x:Sp}(hx:SpR x){most:Int}(hm:1≤most∧most≤16):
 s.An4 n x 0 most=(((s.inX n x).map Ayx).take most.toNat,decide (most.toNat<(s.inX n x).length),0):=by
 have hr:=hI.rv n;rw[Aqt hI hf hx ⟨by omega,by omega,.inl rfl⟩ hm,if_pos rfl]
 have:=Ajx (x:=x) (m:=most.toNat) (V:=Lh n (s.Zp n).rev s.l) (out:=[]) (by simp)
 rw[show((most.toNat:Nat):Int)=most by omega]at this
 rw[this];unfold Cn.inX;simp

theorem Bau{m:Nat}{s:Cn}(hI:Akb m s)(n:Az)(x:Sp):Ara x (s.Ann n).rev (s.Ann n).keys []=(s.inX n x).map Ayx:=by
 have h:=Ape (n:=n) (x:=x) (rev:=(s.Zp n).rev) (l:=s.l) fun y hy=>(hI.wi.2 y hy).2.1
 rw[A09,H4];unfold Cn.inX;rw[h];rfl
theorem Bom{m:Nat}{s:Cn}(hI:Akb m s){n k:Az}{i:Nat}(hi:s.fi n=some i)(hk:k.length≤64):Ara (Arf k) (s.Ann n).rev (s.Ann n).keys []=s.Be4 n k:=by
 have hf:(s.fi n).isSome=true:=by rw[hi];rfl
 have h1:=An5 hI hi hk;have h2:=A3m hI hf (Aqy hk) (most:=1) (by omega)
 rw[Bau hI];unfold Cn.Be4;have hks:=Di (n:=n) hI.wi.1 fun y hy=>(hI.wi.2 y hy).1
 have hs:=Aqc (k:=k) (rev:=(s.Zp n).rev) hks;have hv:=Ape (n:=n) (x:=Arf k) (rev:=(s.Zp n).rev) (l:=s.l) fun y hy=>(hI.wi.2 y hy).2.1
 have hl:((s.inX n (Arf k)).map Ayx).length≤1:=by
  unfold Cn.inX;rw[hv,hs];split<;>simp
 rw[h2];dsimp only;rw[Am2 (by simpa using hl)]
theorem Bmg{s:Cn}(n:Az)(x:Sp):((s.inX n x).map Ayx).map (fun p=>(⟨p.key,[],true⟩:Ef))=(s.Avs n x).map fun k=>(⟨k,[],true⟩:Ef):=by
 unfold Cn.Avs;rw[List.map_map,List.map_map];rfl
theorem Bfs{s:Cn}(n:Az)(x:Sp):((s.inX n x).map Ayx).length=(s.Avs n x).length:=by
 unfold Cn.Avs;rw[Bh,Bh]

theorem Bk0{m:Nat}{s:Cn}(hI:Akb m s)(hC:Atm s){n k:Az}{i:Nat}(hi:s.fi n=some i):Ara (Arf k) (s.Ann n).rev (s.Ann n).keys []=s.Be4 n k:=by
 by_cases hk:k.length≤64
 ·exact Bom hI hi hk
 ·rw[Bau hI];have h1:s.inX n (Arf k)=[]:=by
   unfold Cn.inX;refine List.filter_eq_nil_iff.2 fun p hp=>?_
   have h2:=(Am7 hI hC n).k64 p hp;simp only[decide_eq_true_eq,Aj6];intro e;rw[e]at h2;exact hk h2
  rw[h1];unfold Cn.Be4;rw[Bcm hI (by rw[hi];rfl)]
  unfold rrP;rw[if_pos]
  ·rfl
  ·intro c;have h3:=c.1.2.1;simp[Arf]at h3;exact hk (by omega)
theorem Bon{s:Cn}{n k:Az}(h:s.fi n=none):s.Be4 n k=[]:=by
 unfold Cn.Be4 Cn.An4;rw[if_pos (by rw[h];rfl)]

open Go.Proofs
theorem A5x(ifs:List Cm)(th el:List Act)(hl:ifs.length+th.length+el.length≤1000):
 Fn Tryz.prog A2d [.v (.list (ifs.map Cm.Bx)),.v (.list (th.map Act.Bx)),.v (.list (el.map Act.Bx))] (Is (.v (.bool (Cu ifs th el))) [.no,.no,.no]):=by
 refine A0u ?_ (by simp)
 unfold Cu;have hl1:(ifs.map Cm.Bx).length=ifs.length:=Bh _;have hl2:(th.map Act.Bx).length=th.length:=Bh _;have hl3:(el.map Act.Bx).length=el.length:=Bh _;by_cases hb:4<ifs.length∨8<th.length∨8<el.length
 ·rw[if_pos hb];repeat'((conv=>whnf);first|(with_reducible first|refine Ax (by first|refine decide_eq_true ?_;omega|rfl) fun hb=>?_|refine Aw (by rfl) fun hb=>?_);(try rw[hb]);try simp only[Aa]at hb|(with_reducible refine A5 (fun hb=>?_) fun hb=>?_)<;>(((try rw[hb]);(try simp only[Aa]at hb)))|(with_reducible refine Ac ?_ ?_);focus (and_intros<;>(with_reducible rfl))|with_reducible intro Cq|skip;rw[hl1]|skip;rw[hl2]|skip;rw[hl3])
  all_goals(try(conv=>whnf))
  all_goals first
   |(exfalso;omega)
   |(apply Dj<;>kernel_rfl)
 rw[if_neg hb];obtain⟨C4,Ajz⟩:∃R,(if A4i ifs=true then(if Bc th=true then(if Bc el=true then true else false)else false)else false)=R:=⟨_,rfl⟩
 rw[show(if A4i ifs=true then Bc (th++el)else false)=C4 by rw[←Ajz,A85];cases Bc th<;>cases Bc el<;>rfl]
 repeat'((conv=>whnf);first|(with_reducible refine Aw (by first|refine decide_eq_false ?_;omega|rfl) fun hb=>?_);(try rw[hb]);try simp only[Aa]at hb|(with_reducible refine Ac ?_ ?_);focus (and_intros<;>(with_reducible rfl))|with_reducible intro Cq|(try dsimp only);rw[hl1]|skip;rw[hl2]|skip;rw[hl3])
 all_goals(try(conv=>whnf))
 refine Afm.by (X:=Nat) (fun j=>[(7,.v (ti (j:Int)))]) (fun j=>j≤ifs.length∧(if A4i (ifs.drop j)=true then(if Bc th=true then(if Bc el=true then true else false)else false)else false)=C4) (fun j=>ifs.length - j) 0 (by kernel_rfl) ⟨Cr _,Ajz⟩ ?_
 clear Ajz;rintro j ⟨hj,hR⟩
 (try dsimp only at hj hR ⊢)
 have hw:=zwj (j:=j) (by omega)
 by_cases hjl:j<ifs.length
 ·obtain⟨c,hc⟩:∃x,ifs[j]?=some x:=⟨_,Ae hjl⟩;have h3:¬decide ((j:Int)<(ifs.length:Int))=false:=by simp;omega
  have hdr:ifs.drop j=c::ifs.drop (j+1):=by rw[Cc hjl];rw[Ae hjl]at hc;cases hc;rfl
  rw[hdr]at hR;unfold A4i at hR;obtain⟨ck,cw,cr,cv⟩:=c;have hk:=A8z ck;by_cases H2:(Cm.mk ck cw cr cv).ok
  ·rw[if_pos H2]at hR;unfold Cm.ok at H2;dsimp only at H2;rw[decide_eq_true H2.1]at hk;repeat'((conv=>whnf);first|(with_reducible first|refine Ax (by first|exact Ai (by assumption)|refine decide_eq_true ?_;omega) fun hb=>?_|refine Aw (by rfl) fun hb=>?_);(try rw[hb]);try simp only[Aa]at hb|((with_reducible refine A5 (fun hb=>?_) fun hb=>?_)<;>first|exact absurd hb (by decide)|exfalso;((simp only[An]at hb<;>omega))|(try rw[hb]);try simp only[Aa]at hb)|(with_reducible refine Ac ?_ ?_);focus (and_intros<;>first|omega|with_reducible rfl|kernel_rfl|intro _ hh;cases hh;done|simp;done|decide)|with_reducible intro Cq|(try dsimp only);(first|rw[B6 hc]|rw[hl1])|(with_reducible refine Ct.mk ?_);refine⟨_,hk,?_⟩;rintro _ _ ⟨rfl,rfl⟩|(try dsimp only);rw[hw])
   all_goals(try(conv=>whnf))
   all_goals first
    |(exfalso;omega)
    |(exact absurd trivial (by assumption))
    |(refine Round.by (j+1) ?_ ⟨by omega,hR⟩ (by omega)
      try dsimp only
      show norm _ _=Cx _ _
      kernel_rfl)
  ·rw[if_neg H2]at hR;have hR:false=C4:=hR;subst hR;unfold Cm.ok at H2;dsimp only at H2;cases h1:decide (1≤ck.length∧ck.length≤64)<;>rw[h1]at hk<;>simp only[decide_eq_true_eq,decide_eq_false_iff_not]at h1;all_goals skip
   all_goals(
    repeat'((conv=>whnf);first|(with_reducible first|refine Ax (by first|exact Ai (by assumption)|refine decide_eq_true ?_;omega|rfl) fun hb=>?_|refine Aw (by first|assumption|rfl) fun hb=>?_);(try rw[hb]);try simp only[Aa]at hb|((with_reducible refine A5 (fun hb=>?_) fun hb=>?_)<;>first|exact absurd hb (by decide)|exfalso;((simp only[An]at hb<;>omega))|(try rw[hb]);try simp only[Aa]at hb)|(with_reducible refine Ac ?_ ?_);focus (and_intros<;>first|omega|with_reducible rfl|kernel_rfl|intro _ hh;cases hh;done|simp;done|decide)|with_reducible intro Cq|(try dsimp only);(first|rw[B6 hc]|rw[hl1])|(with_reducible refine Ct.mk ?_);refine⟨_,hk,?_⟩;rintro _ _ ⟨rfl,rfl⟩)
    all_goals(try(conv=>whnf)))
   all_goals first
    |(exfalso;omega)
    |(exact absurd trivial (by assumption))
    |(apply Dj<;>kernel_rfl)
 have h3:¬decide ((j:Int)<(ifs.length:Int))=true:=by simp;omega
 rw[Db (by omega),show A4i []=true from rfl,if_pos rfl]at hR
 repeat'((conv=>whnf);first|(with_reducible refine Aw (by first|exact Ak (by assumption)|refine decide_eq_false ?_;omega) fun hb=>?_);(try rw[hb]);try simp only[Aa]at hb|(with_reducible refine Ac ?_ ?_);focus (and_intros<;>(with_reducible rfl))|with_reducible intro Cq|(try dsimp only);rw[hl1])
 all_goals(try(conv=>whnf))
 refine Afm.by (X:=Nat) (fun j=>[(9,.v (ti (j:Int)))]) (fun j=>j≤th.length∧(if Bc (th.drop j)=true then(if Bc el=true then true else false)else false)=C4) (fun j=>th.length - j) 0 (by kernel_rfl) ⟨Cr _,hR⟩ ?_
 clear hR;rintro q ⟨hq,hQ⟩
 (try dsimp only at hq hQ ⊢)
 have hwq:=zwj (j:=q) (by omega)
 by_cases hql:q<th.length
 ·obtain⟨d,hd⟩:∃x,th[q]?=some x:=⟨_,Ae hql⟩;have h5:¬decide ((q:Int)<(th.length:Int))=false:=by simp;omega
  have hdr:th.drop q=d::th.drop (q+1):=by rw[Cc hql];rw[Ae hql]at hd;cases hd;rfl
  have hab:Bc (d::th.drop (q+1))=(if d.ok then Bc (th.drop (q+1))else false):=rfl
  rw[hdr,hab]at hQ;have ha:=A8y d;by_cases H2:d.ok
  ·rw[if_pos H2]at hQ;rw[decide_eq_true H2]at ha;repeat'((conv=>whnf);first|(with_reducible refine Ax (by first|exact Ai (by assumption)|refine decide_eq_true ?_;omega) fun hb=>?_);(try rw[hb]);try simp only[Aa]at hb|((with_reducible refine A5 (fun hb=>?_) fun hb=>?_)<;>first|exact absurd hb (by decide)|(try rw[hb]);try simp only[Aa]at hb)|(with_reducible refine Ac ?_ ?_);focus (and_intros<;>first|omega|with_reducible rfl|kernel_rfl|intro _ hh;cases hh;done|simp;done|decide)|with_reducible intro Cq|(try dsimp only);(first|rw[B6 hd]|rw[hl2])|(with_reducible refine Ct.mk ?_);refine⟨_,ha,?_⟩;rintro _ _ ⟨rfl,rfl⟩|skip;rw[hwq])
   all_goals(try(conv=>whnf))
   refine Round.by (q+1) ?_ ⟨by omega,hQ⟩ (by omega)
   try dsimp only
   show norm _ _=Cx _ _
   kernel_rfl
  ·rw[if_neg H2]at hQ;have hQ:false=C4:=hQ;subst hQ;rw[decide_eq_false H2]at ha;repeat'((conv=>whnf);first|(with_reducible refine Ax (by first|exact Ai (by assumption)|refine decide_eq_true ?_;omega) fun hb=>?_);(try rw[hb]);try simp only[Aa]at hb|((with_reducible refine A5 (fun hb=>?_) fun hb=>?_)<;>first|exact absurd hb (by decide)|(try rw[hb]);try simp only[Aa]at hb)|(with_reducible refine Ac ?_ ?_);focus (and_intros<;>first|omega|with_reducible rfl|kernel_rfl|intro _ hh;cases hh;done|simp;done|decide)|with_reducible intro Cq|(try dsimp only);(first|rw[B6 hd]|rw[hl2])|(with_reducible refine Ct.mk ?_);refine⟨_,ha,?_⟩;rintro _ _ ⟨rfl,rfl⟩)
   all_goals(try(conv=>whnf))
   (apply Dj<;>kernel_rfl)
 have h5:¬decide ((q:Int)<(th.length:Int))=true:=by simp;omega
 rw[Db (by omega),show Bc []=true from rfl,if_pos rfl]at hQ
 replace hR:=hQ
 clear hQ;repeat'((conv=>whnf);first|(with_reducible refine Aw (by first|exact Ak (by assumption)|refine decide_eq_false ?_;omega) fun hb=>?_);(try rw[hb]);try simp only[Aa]at hb|(with_reducible refine Ac ?_ ?_);focus (and_intros<;>(with_reducible rfl))|with_reducible intro Cq|(try dsimp only);rw[hl2])
 all_goals(try(conv=>whnf))
 refine Afm.by (X:=Nat) (fun j=>[(10,.v (ti (j:Int)))]) (fun j=>j≤el.length∧(if Bc (el.drop j)=true then true else false)=C4) (fun j=>el.length - j) 0 (by kernel_rfl) ⟨Cr _,hR⟩ ?_
 clear hR;rintro q2 ⟨hq2,hQ⟩
 (try dsimp only at hq2 hQ ⊢)
 have Bwd:=zwj (j:=q2) (by omega)
 by_cases Bme:q2<el.length
 ·obtain⟨d2,hd2⟩:∃x,el[q2]?=some x:=⟨_,Ae Bme⟩;have h52:¬decide ((q2:Int)<(el.length:Int))=false:=by simp;omega
  have hdr:el.drop q2=d2::el.drop (q2+1):=by rw[Cc Bme];rw[Ae Bme]at hd2;cases hd2;rfl
  have hab:Bc (d2::el.drop (q2+1))=(if d2.ok then Bc (el.drop (q2+1))else false):=rfl
  rw[hdr,hab]at hQ;have ha:=A8y d2;by_cases H2:d2.ok
  ·rw[if_pos H2]at hQ;rw[decide_eq_true H2]at ha;repeat'((conv=>whnf);first|(with_reducible refine Ax (by first|exact Ai (by assumption)|refine decide_eq_true ?_;omega) fun hb=>?_);(try rw[hb]);try simp only[Aa]at hb|((with_reducible refine A5 (fun hb=>?_) fun hb=>?_)<;>first|exact absurd hb (by decide)|(try rw[hb]);try simp only[Aa]at hb)|(with_reducible refine Ac ?_ ?_);focus (and_intros<;>first|omega|with_reducible rfl|kernel_rfl|intro _ hh;cases hh;done|simp;done|decide)|with_reducible intro Cq|(try dsimp only);(first|rw[B6 hd2]|rw[hl3])|(with_reducible refine Ct.mk ?_);refine⟨_,ha,?_⟩;rintro _ _ ⟨rfl,rfl⟩|skip;rw[Bwd])
   all_goals(try(conv=>whnf))
   refine Round.by (q2+1) ?_ ⟨by omega,hQ⟩ (by omega)
   try dsimp only
   show norm _ _=Cx _ _
   kernel_rfl
  ·rw[if_neg H2]at hQ;have hQ:false=C4:=hQ;subst hQ;rw[decide_eq_false H2]at ha;repeat'((conv=>whnf);first|(with_reducible refine Ax (by first|exact Ai (by assumption)|refine decide_eq_true ?_;omega) fun hb=>?_);(try rw[hb]);try simp only[Aa]at hb|((with_reducible refine A5 (fun hb=>?_) fun hb=>?_)<;>first|exact absurd hb (by decide)|(try rw[hb]);try simp only[Aa]at hb)|(with_reducible refine Ac ?_ ?_);focus (and_intros<;>first|omega|with_reducible rfl|kernel_rfl|intro _ hh;cases hh;done|simp;done|decide)|with_reducible intro Cq|(try dsimp only);(first|rw[B6 hd2]|rw[hl3])|(with_reducible refine Ct.mk ?_);refine⟨_,ha,?_⟩;rintro _ _ ⟨rfl,rfl⟩)
   all_goals(try(conv=>whnf))
   (apply Dj<;>kernel_rfl)
 have h52:¬decide ((q2:Int)<(el.length:Int))=true:=by simp;omega
 rw[Db (by omega),show Bc []=true from rfl,if_pos rfl]at hQ
 have hQ:true=C4:=hQ;subst hQ;repeat'((conv=>whnf);first|(with_reducible refine Aw (by first|exact Ak (by assumption)|refine decide_eq_false ?_;omega) fun hb=>?_);(try rw[hb]);try simp only[Aa]at hb|(with_reducible refine Ac ?_ ?_);focus (and_intros<;>(with_reducible rfl))|with_reducible intro Cq|skip;rw[hl3])
 all_goals(try(conv=>whnf))
 (apply Dj<;>kernel_rfl)

open Go.Proofs
theorem Bop{m:Nat}{s:Cn}(hI:Akb m s)(hm:m≤80000)(h8:s.sp.length≤8)(hC:Atm s)(n k:Az)(hk:k.length≤100000):
 Fn Tryz.prog Auq [rT s.ref,.v (.str n),.v (.str k)] (Is (.tup [.i ((s.Be4 n k).head?.getD ⟨[],[],0,0⟩).Bx,.i (.bool (decide (s.Be4 n k≠[])))]) [rT s.ref,.no,.no]):=by
 have hl2:=A8j s;cases hf:s.fi n with
 |none=>
  rw[Bon hf];exact Bkr s.ref n k (by omega) (Bb7 hf)
 |some j=>
  obtain⟨i,h1,h2,h3⟩:=A2q (s:=s) (n:=n) (by rw[hf];rfl)
  have hb:=(Bdm hI hm hC n).2;rw[←Bk0 hI hC hf];exact Bks s.ref n k (by omega) hk i (s.Ann n) h1 h2 (Kq hb.1 (by omega)) fun y hy=>Kq (hb.2 y hy) (by omega)
theorem A2g{m:Nat}{s:Cn}(hI:Akb m s)(hm:m≤80000)(h8:s.sp.length≤8)(hC:Atm s)(n:Az)(ifs:List Cm)(hl:ifs.length≤1000)(hk:∀c∈ifs,c.key.length≤1000):
 Fn Tryz.prog A2c [rT s.ref,.v (.str n),.v (.list (ifs.map Cm.Bx))] (Is (.v (.bool (s.Aqu n ifs))) [rT s.ref,.no,.no]):=by
 refine A0t ?_ (by simp)
 have hl1:(ifs.map Cm.Bx).length=ifs.length:=Bh _;have Bt5:=fun k hk=>Bop hI hm h8 hC n k hk
 generalize s.ref=R at*;obtain⟨C4,Ajz⟩:∃R,s.Aqu n ifs=R:=⟨_,rfl⟩;rw[Ajz]
 (skip)
 all_goals(try(conv=>whnf))
 refine Afm.by (X:=Nat) (fun j=>[(7,.v (ti (j:Int)))]) (fun j=>j≤ifs.length∧s.Aqu n (ifs.drop j)=C4) (fun j=>ifs.length - j) 0 (by kernel_rfl) ⟨Cr _,Ajz⟩ ?_
 rintro j ⟨hj,hR⟩
 (try dsimp only at hj hR ⊢)
 have hw:=zwj (j:=j) (by omega)
 by_cases hjl:j<ifs.length
 case neg=>
  have h3:¬decide ((j:Int)<(ifs.length:Int))=true:=by simp;omega
  rw[Db (by omega)]at hR
  have hR:true=C4:=hR;subst hR;repeat'((conv=>whnf);first|(with_reducible refine Aw (by first|exact Ak (by assumption)|refine decide_eq_false ?_;omega) fun hb=>?_);(try rw[hb]);try simp only[Aa]at hb|(with_reducible refine Ac ?_ ?_);focus (and_intros<;>(with_reducible rfl))|with_reducible intro Cq|skip;rw[hl1])
  all_goals(try(conv=>whnf))
  (apply Dj<;>kernel_rfl)
 obtain⟨c,hc⟩:∃x,ifs[j]?=some x:=⟨_,Ae hjl⟩;have h3:¬decide ((j:Int)<(ifs.length:Int))=false:=by simp;omega
 have hdr:ifs.drop j=c::ifs.drop (j+1):=by rw[Cc hjl];rw[Ae hjl]at hc;cases hc;rfl
 have hkc:=hk c (Cb hc);rw[hdr]at hR;unfold Cn.Aqu at hR;have hn:=Bt5 c.key (by omega)
 clear Bt5;generalize s.Be4 n c.key=P at*;obtain⟨ck,cw,cr,cv⟩:=c;dsimp only at hR hn hkc;generalize hX:s.Aqu n (ifs.drop (j+1))=NX at hR;rcases P with _|⟨⟨pk,pv,pm,pr⟩,P3⟩
 all_goals dsimp only[List.head?,Option.getD]at hn
 ·rw[show decide (([]:List Pr)≠[])=false from rfl]at hn;by_cases hcr:cr=0
  ·subst hcr;have g0:¬decide ((0:Int)=0)=false:=by decide
   all_goals(
    repeat'((conv=>whnf);first|(with_reducible first|refine Ax (by first|exact Ai (by assumption)|refine decide_eq_true ?_;omega|rfl) fun hb=>?_|refine Aw (by rfl) fun hb=>?_);(try rw[hb]);try simp only[Aa]at hb|((with_reducible refine A5 (fun hb=>?_) fun hb=>?_)<;>first|exact absurd hb (by decide)|exfalso;((simp only[An]at hb<;>omega))|(try rw[hb]);(try simp only[Aa]at hb);try subst hb)|(with_reducible refine Ac ?_ ?_);focus (and_intros<;>first|omega|with_reducible rfl|kernel_rfl|intro _ hh;cases hh;done|simp;done|decide)|with_reducible intro Cq|(try dsimp only);(first|rw[B6 hc]|rw[hl1])|(with_reducible refine Ct.mk ?_);refine⟨_,hn,?_⟩;rintro _ _ ⟨rfl,rfl⟩|(try dsimp only);rw[hw])
    all_goals(try(conv=>whnf)))
   all_goals(simp[Ed, *]at hR)
   all_goals first
    |(refine Round.by (j+1) ?_ ⟨by omega,hX.trans hR⟩ (by omega)
      try dsimp only
      show norm _ _=Cx _ _
      kernel_rfl)
    |(subst hR
      (apply Dj<;>kernel_rfl))
  ·have g0:¬decide ((0:Int)=cr)=true:=by simpa using fun e=>hcr e.symm
   all_goals(
    repeat'((conv=>whnf);first|(with_reducible first|refine Ax (by first|exact Ai (by assumption)|refine decide_eq_true ?_;omega|rfl) fun hb=>?_|refine Aw (by first|exact Ak (by assumption)|rfl) fun hb=>?_);(try rw[hb]);try simp only[Aa]at hb|((with_reducible refine A5 (fun hb=>?_) fun hb=>?_)<;>first|exact absurd hb (by decide)|exfalso;((simp only[An]at hb<;>omega))|(try rw[hb]);(try simp only[Aa]at hb);try subst hb)|(with_reducible refine Ac ?_ ?_);focus (and_intros<;>first|omega|with_reducible rfl|kernel_rfl|intro _ hh;cases hh;done|simp;done|decide)|with_reducible intro Cq|(try dsimp only);(first|rw[B6 hc]|rw[hl1])|(with_reducible refine Ct.mk ?_);refine⟨_,hn,?_⟩;rintro _ _ ⟨rfl,rfl⟩|(try dsimp only);rw[hw])
    all_goals(try(conv=>whnf)))
   all_goals(simp[Ed, *]at hR)
   all_goals first
    |(refine Round.by (j+1) ?_ ⟨by omega,hX.trans hR⟩ (by omega)
      try dsimp only
      show norm _ _=Cx _ _
      kernel_rfl)
    |(subst hR
      (apply Dj<;>kernel_rfl))
 ·rw[show decide ((⟨pk,pv,pm,pr⟩::P3:List Pr)≠[])=true from rfl]at hn;all_goals(
   repeat'((conv=>whnf);first|(with_reducible first|refine Ax (by first|exact Ai (by assumption)|refine decide_eq_true ?_;omega|rfl) fun hb=>?_|refine Aw (by rfl) fun hb=>?_);(try rw[hb]);try simp only[Aa]at hb|((with_reducible refine A5 (fun hb=>?_) fun hb=>?_)<;>first|exact absurd hb (by decide)|exfalso;((simp only[An]at hb<;>omega))|(try rw[hb]);(try simp only[Aa]at hb);try subst hb)|(with_reducible refine Ac ?_ ?_);focus (and_intros<;>first|omega|with_reducible rfl|kernel_rfl|intro _ hh;cases hh;done|simp;done|decide)|with_reducible intro Cq|(try dsimp only);(first|rw[B6 hc]|rw[hl1])|(with_reducible refine Ct.mk ?_);refine⟨_,hn,?_⟩;rintro _ _ ⟨rfl,rfl⟩|(try dsimp only);rw[hw])
   all_goals(try(conv=>whnf)))
  all_goals(simp[Ed, *]at hR)
  all_goals first
   |(refine Round.by (j+1) ?_ ⟨by omega,hX.trans hR⟩ (by omega)
     try dsimp only
     show norm _ _=Cx _ _
     kernel_rfl)
   |(subst hR
     (apply Dj<;>kernel_rfl))
end Go.Ab
