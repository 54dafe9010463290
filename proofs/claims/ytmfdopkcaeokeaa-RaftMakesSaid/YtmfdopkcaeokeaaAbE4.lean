/- Lemmas -/
import Derived.Test.YtmfdopkcaeokeaaAb14z
import Derived.Laws.IdiomStrings
import Derived.Laws.BytesString
set_option linter.unusedVariables false
set_option linter.unusedSimpArgs false
namespace Go.Ab
def He (b:UInt8):I:=.int .u8 b.toNat
def Z6 (d:Nat) (e:TypeId) (x:Opd):M:=Bk x fun u=>match u with
 | .str s=>Av d (.vec e 1 (s.map He))
 |_=>.fail
def Xt (P:Program) (src dst:TypeId) (e:TypeId):Bool:=decide (1000000≤e)&&match P.underlying src,P.underlying dst with
 |some .string,some (.slice e')=>match P.underlying e' with
  |some (.int .u8)=>true
  |_=>false
 |_,_=>false
def bytesOf:List I→Option (List UInt8)
 | []=>some []
 | .int .u8 n::l=>match bytesOf l with
   |some r=>some (UInt8.ofNat n.toNat::r)
   |none=>none
 |_::_=>none
def T7 (d:Nat) (x:Opd):M:=match x with
 | .t n=>.get n fun _ sv=>match sv with
   | .vec _ sz l=>match bytesOf l with
     |some r=>.need (sz=1∧r.length≤maxLen) fun _=>Av d (.v (.str r))
     |none=>.fail
   | .bor s k v=>.get s fun cur sv'=>.need (v=cur) fun _=>match sv'.vecAt k with
     |some (_,sz,l)=>match bytesOf l with
      |some r=>.need (sz=1∧r.length≤maxLen) fun _=>Av d (.v (.str r))
      |none=>.fail
     |none=>.fail
   |_=>.fail
 |_=>.fail
def W9 (P:Program) (src dst:TypeId):Bool:=match P.underlying src,P.underlying dst with
 |some (.slice e),some .string=>match P.underlying e with
  |some (.int .u8)=>true
  |_=>false
 |_,_=>false
section
variable{P:Program}{N:Nat}{G:Mem}{σ:Lab}{Fr:Mem}{w0:Base}{w:World}{st:St}{a:Act}
theorem Fp {G:Mem}:∀(s:List UInt8),RepIs G (s.map He) (s.map fun b=>Value.int .u8 b.toNat)
 | []=>by simp[RepIs]
 |b::s=>by
  simp only[List.map_cons,RepIs]
  exact⟨[.int .u8 b.toNat],_,rfl,by simp[He,RepI],Fp s⟩
theorem Ki {G:Mem}:∀{l:List I} {cs:List Value} {r:List UInt8},bytesOf l=some r→RepIs G l cs→r.length=l.length∧∃ns:List Int,cs=ns.map (Value.int .u8)∧r=ns.map fun n=>UInt8.ofNat n.toNat
 | [],cs,r,h,hr=>by
   cases h
   simp only[RepIs]at hr
   exact⟨rfl,[],by simp[hr],rfl⟩
 | .int .u8 n::l,cs,r,h,hr=>by
   simp only[bytesOf]at h
   cases hb:bytesOf l with
   |none=>simp[hb]at h
   |some r'=>
    simp only[hb,Option.some.injEq]at h
    subst h
    simp only[RepIs]at hr
    obtain⟨c,d,rfl,h1,h2⟩:=hr
    simp only[RepI]at h1
    subst h1
    obtain⟨hl,ns,rfl,rfl⟩:=Ki hb h2
    exact⟨by simp[hl],n::ns,by simp,by simp⟩
theorem Tv:∀(ns:List Int) (s:ByteArray),(ns.foldl (fun r n=>r.push (UInt8.ofNat n.toNat)) s)=⟨⟨s.data.toList++ns.map fun n=>UInt8.ofNat n.toNat⟩⟩
 | [],s=>by simp
 |n::ns,s=>by
  rw[List.foldl_cons,Tv ns]
  simp[ByteArray.push]
theorem Aau {o:Oper} {d:Nat} {src dst e:TypeId} {x:Operand} {x':Opd} (hd:o.dst=some d) (ho:o.op= .convert src dst x) (hx:Ac N x x'=true) (ht:Xt P src dst e=true):
 Sound P N o (Z6 d e x'):=by
 intro G σ Fr w0 st a w Q next E hN hr hw hn hdst
 subst hN
 obtain⟨u,h1,hv⟩:=Az hr hx hw
 clear hw
 unfold Xt at ht
 simp only[Bool.and_eq_true,decide_eq_true_eq]at ht
 obtain⟨hbig,ht⟩:=ht
 split at ht
 case h_2=>cases ht
 rename_i e' hsrc hdt
 split at ht
 case h_2=>cases ht
 rename_i he
 split at h1
 ·rename_i s
  obtain⟨hc,hlen⟩:=RepV.str.1 hv
  have hrun:=run_bytes_of_string (P:=P) w src dst e' ⟨⟨s⟩⟩ hsrc hdt he
  have hge:=grownCap_ge w s.length 0 e'
  have hle:=grownCap_le_maxLen w s.length 0 e' hlen
  have hsz:(⟨⟨s⟩⟩:ByteArray).size=s.length:=rfl
  rw[hsz]at hrun
  obtain⟨cap,hcap⟩:∃cap,cap=grownCap w s.length 0 e':=⟨_,rfl⟩
  rw[←hcap]at hrun hge hle
  have hrow:(bytesRow ⟨⟨s⟩⟩ cap).toList=(s.map fun b=>Value.int .u8 b.toNat)++List.replicate (cap - s.length) (.int .u8 0):=by
   simp[bytesRow,hsz]
  have hrsz:(bytesRow ⟨⟨s⟩⟩ cap).size=cap:=by
   have:(bytesRow ⟨⟨s⟩⟩ cap).size=(bytesRow ⟨⟨s⟩⟩ cap).toList.length:=by simp
   rw[this,hrow]
   simp
   omega
  obtain⟨σ'',st'',r1,r2⟩:=hr.drew.newBlock (hdst d hd) (sv:=.vec e 1 (s.map He)) (o:=.cells (bytesRow ⟨⟨s⟩⟩ cap) e' ((bytesRow ⟨⟨s⟩⟩ cap).size,(bytesRow ⟨⟨s⟩⟩ cap).size+1)) (c:=.slice (some ⟨w.heap.size,0,none⟩) s.length cap) rfl (by intro _ e;cases e)
   (fun σ1 _ hb=>⟨s.map fun b=>Value.int .u8 b.toNat,⟨by simp,.inr ⟨w.heap.size,cap,bytesRow ⟨⟨s⟩⟩ cap,by rw[List.length_map],Nat.zero_le _,⟨e',_,heap_alloc_new w.drew _,.inr (Nat.le_refl _),fun h=>absurd h (Nat.not_lt.2 hbig)⟩,by rw[List.length_map];exact hge,hle,by rw[hrsz,Nat.mul_one],by
     rw[hrow,Nat.mul_one,List.length_map]
     conv=>lhs;rw[←List.length_map (as:=s) (f:=fun b=>Value.int .u8 b.toNat)]
     exact List.take_left⟩⟩,Fp s,by
      intro u hu
      obtain⟨b,_,rfl⟩:=List.mem_map.1 hu
      rfl,fun b hb'=>by cases hb';exact hb⟩) h1
  refine Am (w':=w.drew.alloc _) ?_ (by rw[hd];exact hn G σ'' st'' _ _ (Mem.le.refl G) r1 r2)
  simp[execOp,ho,hc,hrun]
 ·exact h1.elim
theorem Aac {o:Oper} {d:Nat} {src dst:TypeId} {x:Operand} {x':Opd} (hd:o.dst=some d) (ho:o.op= .convert src dst x) (hx:Ac N x x'=true) (ht:W9 P src dst=true):
 Sound P N o (T7 d x'):=by
 intro G σ Fr w0 st a w Q next E hN hr hw hn hdst
 subst hN
 unfold W9 at ht
 split at ht
 case h_2=>cases ht
 rename_i e hsrc hdt
 split at ht
 case h_2=>cases ht
 rename_i he
 have run:∀{c:Value} {s:List UInt8},a.eval x=c→(Conv.bytesToString c).run P w= .ok (.string ⟨⟨s⟩⟩) w→(∃ad l cap,c= .slice ad l cap)→(execOp a.eval o).run P w= .ok (.value (.string ⟨⟨s⟩⟩)) w:=by
  rintro c s hc hrun ⟨ad,l,cap,rfl⟩
  have:=run_convert_bytes_string (P:=P) w src dst e ad l cap hsrc he hdt
  rw[hrun]at this
  simp[execOp,ho,hc,this]
 have row:∀{b off cap n:Nat} {bl:Array Value} {ty:TypeId} {fz:Nat × Nat} {l:List I} {cs:List Value} {r:List UInt8},w.heap[b]?=some (.cells bl ty fz)→cs=(bl.toList.drop off).take n→n=l.length→RepIs G l cs→bytesOf l=some r→
  (Conv.bytesToString (.slice (some ⟨b,off,none⟩) n cap)).run P w= .ok (.string ⟨⟨r⟩⟩) w:=by
  intro b off cap n bl ty fz l cs r hb hcs hn hrep hr
  obtain⟨hl,ns,hns,hrs⟩:=Ki hr hrep
  have hcl:cs.length=n:=by rw[hns,List.length_map,hn, ←hl,hrs,List.length_map]
  have hload:=run_loadCells_list (P:=P) w ⟨b,off,none⟩ cs (fun j v hj=>by
   rw[add_lit,cell_of_row w b (off+j) bl ty fz hb]
   have:bl[off+j]?=bl.toList[off+j]?:=by simp
   rw[this, ←List.getElem?_drop]
   rw[hcs,List.getElem?_take]at hj
   split at hj
   ·exact hj
   ·cases hj)
  rw[hcl]at hload
  have:=run_bytesToString (P:=P) w ⟨b,off,none⟩ n cap ns (by rw[hload,hns])
  rw[this,Tv]
  simp[hrs]
 cases x' with
 |t n=>
  obtain⟨rfl,hnlt⟩:=A1 hx
  simp only[T7,M.wp]at hw
  cases hs:st[n]? with
  |none=>simp[hs]at hw
  |some cur0=>
   obtain⟨ver,sv⟩:=cur0
   simp only[hs]at hw
   have hrep:=hr.slot hnlt hs
   have fin:∀{lab:Nat × Nat} {e':TypeId} {sz':Nat} {l:List I} {r:List UInt8},VecAt G σ w lab e' sz' l (a.eval (.tmp n))→bytesOf l=some r→sz'=1∧r.length≤maxLen→(Av d (.v (.str r))).wp P Q st→o.wp P a w next E:=by
    rintro lab e' sz' l r ⟨xs,h1,h2,h3,h4⟩ hr' ⟨rfl,hmax⟩ hw
    have hrun:(Conv.bytesToString (a.eval (.tmp n))).run P w= .ok (.string ⟨⟨r⟩⟩) w∧∃ad l cap,a.eval (.tmp n)= .slice ad l cap:=by
     rcases h1.2 with⟨hc,h0⟩|⟨g,cap,cur',hc,_,⟨ty,fz,hg,_⟩,hn',hm,hsz,htk⟩
     ·have hl0:l=[]:=List.eq_nil_of_length_eq_zero h0
      subst hl0
      cases hr'
      rw[hc]
      exact⟨by simp[Conv.bytesToString];rfl,_,_,_,rfl⟩
     ·rw[hc]
      refine⟨row (l:=l) (cs:=xs) hg ?_ rfl h2 hr',_,_,_,rfl⟩
      rw[List.drop_zero, ←htk,Nat.mul_one]
    obtain⟨σ',st',r1,r2⟩:=hr.setNV (hdst d hd) (RepV.str.2 ⟨rfl,hmax⟩) hw
    exact Am (run rfl hrun.1 hrun.2) (by rw[hd];exact hn G σ' st' _ w (Mem.le.refl G) r1 r2)
   split at hw
   ·split at hw
    ·rename_i r hr'
     obtain⟨hm,hw⟩:=hw
     exact fin hrep hr' hm hw
    ·exact hw.elim
   ·rename_i s k v
    obtain⟨cur,g1,g2,g3⟩:=hrep
    simp only[M.wp,g1]at hw
    obtain⟨hv,hw⟩:=hw
    obtain⟨e',sz',l,g4,g5⟩:=g3 hv
    simp only[g4]at hw
    split at hw
    ·rename_i r hr'
     obtain⟨hm,hw⟩:=hw
     exact fin g5 hr' hm hw
    ·exact hw.elim
   ·exact hw.elim
 |_=>exact hw.elim
end

def Ga:List Opd→(List I→M)→M
 | [],k=>k []
 | .t n::r,k=>.get n fun ver sv=>match sv with
   | .box (.one (.i x))=>.set n (ver+1) (.rp x) (Ga r fun xs=>k (x::xs))
   | .rp x=>Ga r fun xs=>k (x::xs)
   |_=>.fail
 |_::_,_=>.fail
def Z1 (d:Nat) (f:FuncId) (caps:List Opd):M:=Ga caps fun xs=>Av d (.v (.clo f xs))
def Jf (N:Nat):List Operand→List Opd→Bool
 | [],[]=>true
 |x::l,y::m=>Ac N x y&&Jf N l m
 |_,_=>false
section
variable{P:Program}{N:Nat}{G:Mem}{σ:Lab}{Fr:Mem}{w0:Base}{w:World}{st:St}{a:Act}
theorem Rel.freezeBox {s ver ver':Nat} {x:I} (h:Rel G σ Fr w0 st a w) (hs:st[s]?=some (ver,.box (.one (.i x)))) (hlt:ver<ver'):
 ∃G' σ',G.le G'∧Rel G' σ' Fr w0 (st.set s (ver',.rp x)) a w∧RepRp G' x (val a w0 s):=by
 have hG:=Mem.fix_le h.wok (s,0)
 have hold:RepOwn G σ w s (.box (.one (.i x))) (val a w0 s):=h.slots s ver _ hs
 have hrp:RepRp (G.fix σ w (s,0)) x (val a w0 s):=by
  obtain⟨b,cells,ty,h1,h2,h3,h4⟩:=hold
  exact⟨b,0,cells,ty,(0,0),[],cells.toList,[],h1,by rw[Mem.fix_here h2];exact h3,by simp,rfl,RepI.mono hG x _ h4⟩
 refine⟨G.fix σ w (s,0),σ.lose (s,0),hG,?_,hrp⟩
 have hok:WOk (G.fix σ w (s,0)) (σ.lose (s,0)) Fr w0 w:=by
  refine⟨?_,?_,?_,h.wok.frame,h.wok.os,h.wok.tape,h.wok.output,h.wok.size,?_,Amb.mono hG h.wok.amb⟩
  rotate_right
  ·intro b o hb
   unfold Mem.fix
   rw[if_neg (by intro e;have:=(h.wok.own b _ e).2.1;rw[hb]at this;cases this)]
   exact h.wok.apart b o hb
  ·intro b o hb
   unfold Mem.fix at hb
   split at hb
   ·exact hb
   ·exact h.wok.fixed b o hb
  ·intro b lab hb
   obtain⟨h1,h2⟩:=Lab.lose_some.1 hb
   obtain⟨h3,h4,h5⟩:=h.wok.own b lab h2
   refine⟨?_,h4,h5⟩
   unfold Mem.fix
   rw[if_neg (by rw[h2];intro e;cases e;exact h1 rfl)]
   exact h3
  ·intro b b' lab hb hb'
   exact h.wok.inj b b' lab (Lab.lose_some.1 hb).2 (Lab.lose_some.1 hb').2
 exact Rel.self (new:=.rp x) (ver:=ver') h hok hG hs hlt (fun s' hs' b k' hb=>⟨Lab.lose_some.2 ⟨fun e=>hs' (by cases e;rfl),hb⟩,rfl⟩) hrp
theorem RepPs.cons {G:Mem} {x:I} {p:Value} {l:List I} {r:List Value} (h:RepRp G x p) (hl:RepPs G l r):RepPs G (x::l) (p::r):=by
 obtain⟨b,off,bl,ty,fz,pre,cs,post,h1,h2,h3,h4,h5⟩:=h
 simp only[RepPs]
 exact⟨p,r,b,off,bl,ty,fz,pre,cs,post,rfl,h1,h2,h3,h4,h5,hl⟩
theorem Gb {Q:St→Prop}:∀{xs:List Operand} {ys:List Opd} {k:List I→M} {G:Mem} {σ:Lab} {st:St},Rel G σ Fr w0 st a w→Jf w0.n xs ys=true→(Ga ys k).wp P Q st→
 ∃us G' σ' st',G.le G'∧Rel G' σ' Fr w0 st' a w∧(k us).wp P Q st'∧RepPs G' us (xs.map a.eval)
 | [],[],k,G,σ,st,hr,_,hq=>⟨[],G,σ,st,Mem.le.refl G,hr,hq,by simp[RepPs]⟩
 |x::xs,y::ys,k,G,σ,st,hr,ho,hq=>by
  simp only[Jf,Bool.and_eq_true]at ho
  cases y with
  |t n=>
   obtain⟨rfl,hnlt⟩:=A1 ho.1
   simp only[Ga,M.wp]at hq
   cases hs:st[n]? with
   |none=>simp[hs]at hq
   |some cur=>
    obtain⟨ver,sv⟩:=cur
    simp only[hs]at hq
    have hval:val a w0 n=a.eval (.tmp n):=A2 (by rw[hr.n];exact hnlt)
    split at hq
    ·rename_i u
     obtain⟨G1,σ1,h1,h2,h3⟩:=hr.freezeBox hs (Nat.lt_succ_self ver)
     obtain⟨us,G2,σ2,st2,g1,g2,g3,g4⟩:=Gb h2 ho.2 hq
     rw[hval]at h3
     exact⟨u::us,G2,σ2,st2,h1.trans g1,g2,g3,RepPs.cons (RepRp.mono g1 h3) g4⟩
    ·rename_i u
     have h3:RepRp G u (a.eval (.tmp n)):=hr.slot hnlt hs
     obtain⟨us,G2,σ2,st2,g1,g2,g3,g4⟩:=Gb hr ho.2 hq
     exact⟨u::us,G2,σ2,st2,g1,g2,g3,RepPs.cons (RepRp.mono g1 h3) g4⟩
    ·exact hq.elim
  |c _=>exact hq.elim
  |nils _ _=>exact hq.elim
 | [],_::_,_,_,_,_,_,ho,_=>by cases ho
 |_::_,[],_,_,_,_,_,ho,_=>by simp[Jf]at ho
theorem Aao {o:Oper} {d:Nat} {f:FuncId} {captured:Array Operand} {caps:List Opd} (hd:o.dst=some d) (ho:o.op= .makeFunc (.func f) #[] captured) (hc:Jf N captured.toList caps=true):
 Sound P N o (Z1 d f caps):=by
 intro G σ Fr w0 st a w Q next E hN hr hw hn hdst
 subst hN
 obtain⟨us,G1,σ1,st1,h1,h2,h3,h4⟩:=Gb hr hc hw
 have hv:RepV G1 (.clo f us) (.func (.func f) #[] (captured.map a.eval)):=by
  unfold RepV
  rw[if_neg (by simp[I.isAgg])]
  simp only[RepI]
  refine⟨captured.toList.map a.eval,?_,h4⟩
  congr 2
  apply Array.ext'
  simp
 obtain⟨σ',st',r1,r2⟩:=h2.setNV (hdst d hd) hv h3
 refine Am (v:=.func (.func f) #[] (captured.map a.eval)) (w':=w) ?_ (by rw[hd];exact hn G1 σ' st' _ w h1 r1 r2)
 simp[execOp,ho,Instr.makeFunc]
end

section
variable{P:Program}{N:Nat}{G:Mem}{σ:Lab}{Fr:Mem}{w0:Base}{w:World}{st:St}{a:Act}
theorem WOk.room (h:WOk G σ Fr w0 w) (s:Nat):∃K,∀b k,σ b=some (s,k)→k<K:=by
 have aux:∀n,∃K,∀b,b<n→∀k,σ b=some (s,k)→k<K:=by
  intro n
  induction n with
  |zero=>exact⟨0,fun b hb=>by omega⟩
  |succ n ih=>
   obtain⟨K,hK⟩:=ih
   cases hn:σ n with
   |none=>exact⟨K,fun b hb k hk=>by
    rcases Nat.lt_succ_iff_lt_or_eq.1 hb with h|rfl
    ·exact hK b h k hk
    ·rw[hn]at hk;cases hk⟩
   |some p=>exact⟨max K (p.2+1),fun b hb k hk=>by
    rcases Nat.lt_succ_iff_lt_or_eq.1 hb with h|rfl
    ·have:=hK b h k hk;omega
    ·rw[hn]at hk;cases hk;simp only;omega⟩
 obtain⟨K,hK⟩:=aux w.heap.size
 exact⟨K,fun b k hb=>hK b (h.own b _ hb).2.2 k hb⟩
def Lab.adopt (σ:Lab) (s K:Nat) (bs:List Nat):Lab:=fun b=>if b∈bs then some (s,K+bs.idxOf b)else σ b
theorem Lab.adopt_new {s K:Nat} {bs:List Nat} {b:Nat} (h:b∈bs):σ.adopt s K bs b=some (s,K+bs.idxOf b):=by simp[Lab.adopt,h]
theorem Lab.adopt_old {s K:Nat} {bs:List Nat} {b:Nat} (h:b ∉ bs):σ.adopt s K bs b=σ b:=by simp[Lab.adopt,h]
theorem Zb {bs:List Nat} {b b':Nat} (h:b∈bs) (h':b'∈bs) (e:bs.idxOf b=bs.idxOf b'):b=b':=by
 have h1:=List.getElem_idxOf (List.idxOf_lt_length_of_mem h)
 have h2:=List.getElem_idxOf (List.idxOf_lt_length_of_mem h')
 rw[←h1, ←h2]
 simp only[e]
theorem WOk.adopt {s K:Nat} {bs:List Nat} (h:WOk G σ Fr w0 w) (hK:∀b k,σ b=some (s,k)→k<K) (hf:∀b∈bs,G b=none∧Fr b=none∧b<w.heap.size):WOk G (σ.adopt s K bs) Fr w0 w:=by
 refine⟨h.fixed,?_,?_,h.frame,h.os,h.tape,h.output,h.size,h.apart,h.amb⟩
 ·intro b lab hb
  by_cases hm:b∈bs
  ·exact hf b hm
  ·rw[Lab.adopt_old hm]at hb
   exact h.own b lab hb
 ·intro b b' lab hb hb'
  by_cases hm:b∈bs<;>by_cases hm':b'∈bs
  ·rw[Lab.adopt_new hm]at hb
   rw[Lab.adopt_new hm']at hb'
   rw[←hb']at hb
   simp only[Option.some.injEq,Prod.mk.injEq,true_and]at hb
   exact Zb hm hm' (by omega)
  ·rw[Lab.adopt_new hm]at hb
   rw[Lab.adopt_old hm', ←hb]at hb'
   have:=hK _ _ hb'
   omega
  ·rw[Lab.adopt_old hm]at hb
   rw[Lab.adopt_new hm']at hb'
   obtain rfl:=Option.some.inj hb'
   have:=hK _ _ hb
   omega
  ·rw[Lab.adopt_old hm]at hb
   rw[Lab.adopt_old hm']at hb'
   exact h.inj b b' lab hb hb'
def FreeD (G:Mem) (σ:Lab) (Fr:Mem) (w:World) (u:D) (c:Value):Prop:=
 ∃bs,RepD G w u c.cells.toList bs∧valOf u.isAgg c=true∧bs.Nodup∧∀b∈bs,G b=none∧Fr b=none∧σ b=none∧b<w.heap.size
theorem FreeD.item {u:I} {c:Value} (h:RepV G u c):FreeD G σ Fr w (.it u) c:=by
 refine⟨[],?_,?_,List.nodup_nil,by simp⟩
 ·simp only[RepD,and_true]
  exact h.cells
 ·unfold RepV at h
  simp only[D.isAgg]
  split at h
  ·rename_i hx
   obtain⟨cs,rfl,_⟩:=h
   rw[hx];rfl
  ·rename_i hx
   rw[show u.isAgg=false by simpa using hx]
   have:=RepI.one _ _ h c (by simp)
   cases c<;>first|rfl|(simp[Value.oneCell']at this)
end

section
variable{P:Program}{N:Nat}{G:Mem}{σ:Lab}{Fr:Mem}{w0:Base}{w:World}{st:St}{a:Act}
theorem Le {fz:Nat × Nat} {t:TypeId} {agg:Bool} {b off:Nat} {bl:Array Value} {ty:TypeId} {pre cs post:List Value} {v:Value} (h:tyOk P t agg cs.length=true)
 (hh:w.heap[b]?=some (.cells bl ty fz)) (hfz:fz=(0,0)∨bl.size≤fz.1) (hs:bl.toList=pre++cs++post) (hp:pre.length=off) (h1:∀c∈v.cells.toList,c.oneCell'=true) (hlen:v.cells.toList.length=cs.length):
 (storeVar t ⟨b,off,none⟩ v).run P w= .ok () (w.setRow b (pre++v.cells.toList++post).toArray):=by
 obtain⟨_,h2⟩:=Dd h w
 have hblen:bl.size=pre.length+cs.length+post.length:=by
  have:bl.size=bl.toList.length:=by simp
  rw[this,hs]
  simp
  omega
 have hst:=B5 P b off ty fz v.cells.toList 0 bl w hh hfz (by rw[hlen,hblen,hp];omega) h1
 have e1:bl.toList.take (off+0)=pre:=by rw[hs,List.append_assoc,Nat.add_zero, ←hp,List.take_left]
 have e2:bl.toList.drop (off+0+v.cells.toList.length)=post:=by
  rw[hs,hlen,Nat.add_zero, ←hp, ←List.length_append,List.drop_left]
 rw[e1,e2]at hst
 have hsz:v.cells.size=cs.length:=by rw[←hlen];simp
 simp[storeVar,h2,hsz,hst]
theorem Rel.setPlace {s cur:Nat} {inv:Inv} {p:List Nat} {t t' u u':D} {tt:TypeId} {agg:Bool} {c cv:Value} (h:Rel G σ Fr w0 st a w) (hs:st[s]?=some (cur,.own inv t)) (hat:t.at p=some u) (hput:t.put p u'=some t')
 (hfree:FreeD G σ Fr w u' cv) (hag:u'.isAgg=u.isAgg) (hsz:u'.size=u.size) (hpt:PtD w t (val a w0 s) p c) (ht:tyOk P tt agg u.size=true):
 ∃b o w' σ',c= .pointer (some ⟨b,o,none⟩)∧(storeVar tt ⟨b,o,none⟩ cv).run P w= .ok () w'∧
  Rel G σ' Fr w0 (st.set s (cur+1,.own (if u.leaf then inv else bump inv p (cur+1)) t')) a w':=by
 obtain⟨bs,hrep,hva,hnd,hlab⟩:=show OwnD G σ w s t (val a w0 s)from h.slots s cur _ hs
 obtain⟨m,s',ubs,f1,f2,f3,f4,f5,f6⟩:=focus (here:=none) hrep hnd hat
 obtain⟨u0,b,o,cs,p1,p2,rfl⟩:=hpt
 rw[f1]at p2
 obtain rfl:=Option.some.inj p2
 have hp0:p≠[]:=by
  rintro rfl
  simp only[spot,Option.some.injEq,Prod.mk.injEq]at f1
  cases f1.1
 obtain⟨ubs',g1,g2,g3,g4⟩:=hfree
 have hcl:cs.length=u.size:=RepD.length f2
 have hvl:cv.cells.toList.length=cs.length:=by rw[RepD.length g1,hsz,hcl]
 cases m with
 |inl pre post=>obtain⟨_,e⟩:=f5;cases e
 |val=>cases f5
 |blk g pre post ty fz=>
  obtain⟨q1,q2,⟨row,q3,q4,q5⟩,q6⟩:=f5
  simp only[Option.some.injEq,Prod.mk.injEq]at q6
  obtain⟨rfl,rfl⟩:=q6
  simp only at q5
  have hrun:=Le (P:=P) (cs:=cs) (v:=cv) (t:=tt) (agg:=agg) (by rw[hcl];exact ht) q3 q4 q5 rfl (RepD.one g1) hvl
  obtain⟨kb,hkb⟩:=hlab b q1
  have hbu:b ∉ ubs':=fun hb=>by
   have:=(g4 b hb).2.2.1
   rw[hkb]at this
   cases this
  have hub:∀x∈ubs',x ∉ bs:=fun x hx hb=>by
   obtain⟨k,hk⟩:=hlab x hb
   have:=(g4 x hx).2.2.1
   rw[hk]at this
   cases this
  have hset:(w.setRow b (pre++cv.cells.toList++post).toArray).heap[b]?=some (.cells (pre++cv.cells.toList++post).toArray ty fz):=setRow_heap w b row _ ty fz q3
  have hoth:∀x,x≠b→(w.setRow b (pre++cv.cells.toList++post).toArray).heap[x]?=w.heap[x]?:=fun x hx=>setRow_other w b x _ hx
  obtain⟨bs',r1,r2,r3,r4,r5⟩:=f6 G (w.setRow b (pre++cv.cells.toList++post).toArray) u' cv.cells.toList ubs' t' (Mem.le.refl G) hvl hag
   (g1.tr (Mem.le.refl G) fun x hx=>hoth x fun e=>hbu (e ▸ hx)) g3 (fun x hx=>.inr (hub x hx)) ⟨hset,fun x _ _ hxb=>hoth x hxb⟩ hput
  rw[if_neg hp0]at r4
  obtain⟨K,hK⟩:=h.wok.room s
  have hold:∀x k,σ x=some k→σ.adopt s K ubs' x=some k:=fun x k hx=>by
   rw[Lab.adopt_old]
   ·exact hx
   ·intro hm
    have:=(g4 x hm).2.2.1
    rw[hx]at this
    cases this
  refine⟨b,pre.length,_,σ.adopt s K ubs',rfl,hrun,?_⟩
  have hwok:=(h.wok.setRow hkb (pre++cv.cells.toList++post).toArray).adopt (s:=s) (K:=K) (bs:=ubs') hK fun x hx=>by
   obtain⟨k1,k2,_,k4⟩:=g4 x hx
   exact⟨k1,k2,by simpa[World.setRow]using k4⟩
  obtain⟨hpd,hbd⟩:=Focus.refs (G:=G) (inv:=inv) (cur:=cur) r5
  refine h.tree hwok (Mem.le.refl G) hs (Nat.lt_succ_self _) ?_ (fun _ x k hx=>hold x _ hx) ?_ hpd hbd
  ·intro s1 hs1 x k hx
   exact⟨hold x _ hx,hoth x fun e=>by rw[e,hkb]at hx;cases hx;exact hs1 rfl⟩
  ·refine⟨bs',r1,by rw[r4];exact hva,r2,fun x hx=>?_⟩
   rcases(r3 x).1 hx with⟨h1,_⟩|h1
   ·obtain⟨k,hk⟩:=hlab x h1
    exact⟨k,hold x _ hk⟩
   ·exact⟨_,Lab.adopt_new h1⟩
end

def rdD (x:Opd) (k:(s cur:Nat)→(inv:Inv)→D→List Nat→M):M:=match x with
 | .t n=>.get n fun ver sv=>match sv with
   | .own inv t=>match t with
     | .ptr t=>k n ver inv (.ptr t) [0]
     |_=>.fail
   | .pd s v p=>.get s fun cur sv'=>match sv' with
     | .own inv t=>.need (p≠[]∧alive v inv p=true) fun _=>k s cur inv t p
     |_=>.fail
   | .par h=>.get h fun cur sv'=>match sv' with
     | .own inv t=>match t with
       | .ptr t=>k h cur inv (.ptr t) [0]
       |_=>.fail
     |_=>.fail
   |_=>.fail
 |_=>.fail
def rdH (x:Opd) (k:(s cur:Nat)→(inv:Inv)→D→List Nat→M):M:=match x with
 | .t n=>.get n fun ver sv=>match sv with
   | .own inv t=>.need (t.head=true) fun _=>k n ver inv t []
   | .bd s v p=>.get s fun cur sv'=>match sv' with
     | .own inv t=>.need (A5 v inv p=true) fun _=>k s cur inv t p
     |_=>.fail
   | .par h=>.get h fun cur sv'=>match sv' with
     | .own inv t=>.need (t.head=true) fun _=>k h cur inv t []
     |_=>.fail
   |_=>.fail
 |_=>.fail
section
variable{P:Program}{N:Nat}{G:Mem}{σ:Lab}{Fr:Mem}{w0:Base}{w:World}{st:St}{a:Act}
theorem Jg {x:Operand} {y:Opd} {k:(s cur:Nat)→(inv:Inv)→D→List Nat→M} {Q:St→Prop} (h:Rel G σ Fr w0 st a w) (ho:Ac w0.n x y=true) (hq:(rdD y k).wp P Q st):
 ∃s cur inv t p,(k s cur inv t p).wp P Q st∧st[s]?=some (cur,.own inv t)∧p≠[]∧PtD w t (val a w0 s) p (a.eval x):=by
 cases y with
 |c _=>exact hq.elim
 |nils _ _=>exact hq.elim
 |t n=>
  obtain⟨rfl,hnlt⟩:=A1 ho
  simp only[rdD,M.wp]at hq
  cases hs:st[n]? with
  |none=>simp[hs]at hq
  |some cur=>
   obtain⟨ver,sv⟩:=cur
   simp only[hs]at hq
   have hrep:=h.slot hnlt hs
   have hv:val a w0 n=a.eval (.tmp n):=A2 (by rw[h.n];exact hnlt)
   cases sv with
   |own inv t=>
    cases t with
    |ptr t=>exact⟨n,ver,inv,_,[0],hq,hs,by simp,by rw[hv];exact OwnD.pt hrep⟩
    |_=>exact hq.elim
   |pd s v p=>
    obtain⟨cur,h1,h2,h3⟩:=hrep
    simp only[M.wp,h1]at hq
    obtain⟨cv,csv⟩:=cur
    cases csv with
    |own inv t=>
     obtain⟨⟨hp,ha⟩,hq⟩:=hq
     exact⟨s,cv,inv,t,p,hq,h1,hp,h3 inv t rfl hp ha⟩
    |_=>exact hq.elim
   |par hh=>
    obtain⟨hv',hle⟩:=h.pars n ver hh hs
    rw[hv]at hv'
    simp only[M.wp]at hq
    cases h1:st[hh]? with
    |none=>simp[h1]at hq
    |some cur=>
     obtain⟨cv,csv⟩:=cur
     simp only[h1]at hq
     have hrep':=h.slots hh cv csv h1
     cases csv with
     |own inv t=>
      cases t with
      |ptr t=>exact⟨hh,cv,inv,_,[0],hq,h1,by simp,by rw[hv'];exact OwnD.pt hrep'⟩
      |_=>exact hq.elim
     |_=>exact hq.elim
   |_=>exact hq.elim
theorem Lz {x:Operand} {y:Opd} {k:(s cur:Nat)→(inv:Inv)→D→List Nat→M} {Q:St→Prop} (h:Rel G σ Fr w0 st a w) (ho:Ac w0.n x y=true) (hq:(rdH y k).wp P Q st):
 ∃s cur inv t p,(k s cur inv t p).wp P Q st∧st[s]?=some (cur,.own inv t)∧HdD w t (val a w0 s) p (a.eval x):=by
 cases y with
 |c _=>exact hq.elim
 |nils _ _=>exact hq.elim
 |t n=>
  obtain⟨rfl,hnlt⟩:=A1 ho
  simp only[rdH,M.wp]at hq
  cases hs:st[n]? with
  |none=>simp[hs]at hq
  |some cur=>
   obtain⟨ver,sv⟩:=cur
   simp only[hs]at hq
   have hrep:=h.slot hnlt hs
   have hv:val a w0 n=a.eval (.tmp n):=A2 (by rw[h.n];exact hnlt)
   cases sv with
   |own inv t=>
    obtain⟨hh,hq⟩:=hq
    exact⟨n,ver,inv,_,[],hq,hs,by rw[hv];exact OwnD.hd hrep hh⟩
   |bd s v p=>
    obtain⟨cur,h1,h2,h3⟩:=hrep
    simp only[M.wp,h1]at hq
    obtain⟨cv,csv⟩:=cur
    cases csv with
    |own inv t=>
     obtain⟨ha,hq⟩:=hq
     exact⟨s,cv,inv,t,p,hq,h1,h3 inv t rfl ha⟩
    |_=>exact hq.elim
   |par hh=>
    obtain⟨hv',hle⟩:=h.pars n ver hh hs
    rw[hv]at hv'
    simp only[M.wp]at hq
    cases h1:st[hh]? with
    |none=>simp[h1]at hq
    |some cur=>
     obtain⟨cv,csv⟩:=cur
     simp only[h1]at hq
     have hrep':=h.slots hh cv csv h1
     cases csv with
     |own inv t=>
      obtain⟨hh',hq⟩:=hq
      exact⟨hh,cv,inv,_,[],hq,h1,by rw[hv'];exact OwnD.hd hrep' hh'⟩
     |_=>exact hq.elim
   |_=>exact hq.elim
theorem PtD.block {s:Nat} {t u:D} {cr c:Value} {p:List Nat} (ho:OwnD G σ w s t cr) (hat:t.at p=some u) (h:PtD w t cr p c):
 ∃b off bl ty fz pre cs post ubs,c= .pointer (some ⟨b,off,none⟩)∧w.heap[b]?=some (.cells bl ty fz)∧bl.toList=pre++cs++post∧pre.length=off∧RepD G w u cs ubs∧ubs.Nodup∧
  spot w p t (none,cr.cells.toList)=some (some (b,off),cs):=by
 obtain⟨bs,hrep,hva,hnd,hlab⟩:=ho
 obtain⟨m,s',ubs,f1,f2,f3,f4,f5,f6⟩:=focus (here:=none) hrep hnd hat
 obtain⟨u0,b,o,cs,p1,p2,rfl⟩:=h
 have p2':=p2
 rw[f1]at p2
 obtain rfl:=Option.some.inj p2
 cases m with
 |inl pre post=>obtain⟨_,e⟩:=f5;cases e
 |val=>cases f5
 |blk g pre post ty fz=>
  obtain⟨q1,q2,⟨row,q3,q4,q5⟩,q6⟩:=f5
  simp only[Option.some.injEq,Prod.mk.injEq]at q6
  obtain⟨rfl,rfl⟩:=q6
  exact⟨b,_,row,ty,fz,pre,cs,post,ubs,rfl,q3,q5,rfl,f2,f3,p2'⟩
theorem HdD.read {s:Nat} {t u:D} {cr c:Value} {p:List Nat} (ho:OwnD G σ w s t cr) (hat:t.at p=some u) (h:HdD w t cr p c):∃hh ubs,RepD G w u [c] ubs∧ubs.Nodup∧spot w p t (none,cr.cells.toList)=some (hh,[c]):=by
 obtain⟨bs,hrep,hva,hnd,hlab⟩:=ho
 obtain⟨m,s',ubs,f1,f2,f3,f4,f5,f6⟩:=focus (here:=none) hrep hnd hat
 obtain⟨u0,hh,p1,p0,p2⟩:=h
 have p2':=p2
 rw[f1]at p2
 obtain rfl:=Option.some.inj p2
 exact⟨hh,ubs,f2,f3,p2'⟩
theorem Dg:∀{p:List Nat} {t u:D} {i:Nat},t.at p=some u→t.at (p++[i])=u.kid i
 | [],t,u,i,h=>by
   simp only[D.at,Option.some.injEq]at h
   subst h
   simp only[List.nil_append,D.at]
   cases t.kid i<;>rfl
 |j::p,t,u,i,h=>by
  simp only[D.at]at h
  simp only[List.cons_append,D.at]
  cases hk:t.kid j with
  |none=>simp[hk]at h
  |some y=>simp only[hk]at h;exact Dg h
theorem Ck:∀{p:List Nat} {t u y:D} {i:Nat} {z z':Spot},t.at p=some u→spot w p t z=some z'→u.kid i=some y→spot w (p++[i]) t z=Au w u z' i
 | [],t,u,y,i,z,z',h,hz,hy=>by
   simp only[D.at,Option.some.injEq]at h
   simp only[spot,Option.some.injEq]at hz
   subst h hz
   simp only[List.nil_append,spot,hy]
   cases Au w t z i<;>rfl
 |j::p,t,u,y,i,z,z',h,hz,hy=>by
  simp only[D.at]at h
  simp only[spot]at hz
  simp only[List.cons_append,spot]
  cases hk:t.kid j with
  |none=>simp[hk]at h
  |some y0=>
   simp only[hk]at h hz ⊢
   cases hks:Au w t z j with
   |none=>simp[hks]at hz
   |some z0=>
    simp only[hks]at hz ⊢
    exact Ck h hz hy
end

open Go.Op
def D.husk:D→D
 | .st l=>.it (.agg (List.replicate (dsizes l) .und))
 |_=>.it .und
theorem R5:∀n,sizes (List.replicate n I.und)=n
 |0=>rfl
 |n+1=>by simp[List.replicate_succ,sizes,I.size,R5 n];omega
theorem W3 {G:Mem}:∀{cs:List Value} {n:Nat},cs.length=n→(∀c∈cs,c.oneCell'=true)→RepIs G (List.replicate n .und) cs
 | [],n,h,_=>by subst h;simp[RepIs]
 |c::cs,n,h,h1=>by
  subst h
  simp only[List.length_cons,List.replicate_succ,RepIs]
  exact⟨[c],cs,rfl,by simp only[RepI];exact⟨c,rfl,h1 c (by simp)⟩,W3 rfl fun x hx=>h1 x (by simp[hx])⟩
def D.whole:D→Bool
 | .it _=>false
 |_=>true
theorem Ph {u:D} (h:u.whole=true):u.husk.isAgg=u.isAgg∧u.husk.size=u.size∧u.leaf=false:=by
 cases u with
 |it x=>cases h
 |st l=>exact⟨rfl,R5 _,rfl⟩
 |_=>exact⟨rfl,rfl,rfl⟩
theorem Tg {G:Mem} {w:World} {u:D} {cs:List Value} {bs:List Nat} (hw:u.whole=true) (h:RepD G w u cs bs) (G':Mem) (w':World):RepD G' w' u.husk cs []:=by
 have hl:=RepD.length h
 have h1:=RepD.one h
 cases u with
 |it x=>cases hw
 |st l=>simp only[D.husk,RepD,RepI,and_true];exact W3 hl h1
 |_=>
  simp only[D.husk,RepD,RepI,and_true]
  simp only[D.size]at hl
  obtain⟨c,rfl⟩:=List.length_eq_one_iff.1 hl
  exact⟨c,rfl,h1 c (by simp)⟩
def Dc:D→Nat→Option Nat
 | .it x,i=>match x with
   | .agg l=>match l[i]? with
     |some _=>some (sizes (l.take i))
     |none=>none
   |_=>none
 | .st l,i=>match l[i]? with
   |some _=>some (dsizes (l.take i))
   |none=>none
 |_,_=>none
def Qd (d:Option Nat) (s cur:Nat) (inv:Inv) (t:D) (p:List Nat) (u:D):M:=match D.put p t u.husk with
 |some t'=>.set s (cur+1) (.own (bump inv p (cur+1)) t') (match d with
  |some d=>.need (d≠s) fun _=>Av d (.own [] u)
  |none=>.done)
 |none=>.fail
def Ug (d:Option Nat) (agg:Bool) (sz:Nat) (x:Opd):M:=rdD x fun s cur inv t p=>match D.at p t with
 |some u=>match u with
  | .it y=>.need (y.isAgg=agg∧y.size=sz) fun _=>setD d (.v y) .done
  | .vec _ _ _=>.need (agg=false∧sz=1∧d≠some s) fun _=>setD d (.bd s cur p) .done
  | .map _ _=>.need (agg=false∧sz=1∧d≠some s) fun _=>setD d (.bd s cur p) .done
  | .ptr _=>.need (agg=false∧sz=1∧d≠some s) fun _=>setD d (.pd s cur (p++[0])) .done
  | .st l=>.need (agg=true∧dsizes l=sz) fun _=>Qd d s cur inv t p (.st l)
 |none=>.fail
def Uh (d:Option Nat) (agg:Bool) (sz:Nat) (x:Opd):M:=rdD x fun s cur inv t p=>match D.at p t with
 |some u=>match u.toI with
  |some y=>match D.put p t (.it y)with
   |some t'=>.need (u.leaf=false∧y.isAgg=agg∧y.size=sz∧d≠some s) fun _=>.set s (cur+1) (.own (bump inv p (cur+1)) t') (setD d (.v y) .done)
   |none=>.fail
  |none=>.fail
 |none=>.fail
def Rs (d:Option Nat) (sz len:Nat) (x i:Opd):M:=Bk i fun n=>match n with
 | .int _ n=>rdD x fun s cur inv t p=>match D.at p t with
   |some u=>match u with
    | .it y=>match y with
      | .arr sz' l=>.need (0≤n∧n.toNat<len∧n.toNat<l.length∧sz'=sz∧d≠some s) fun _=>setD d (.pd s cur (p++[n.toNat])) .done
      |_=>.fail
    |_=>.fail
   |none=>.fail
 |_=>.fail
def C9 (x:Opd) (k:D→M):M:=match x with
 | .c x=>k (.it x)
 | .nils e sz=>k (.vec e sz [])
 | .t n=>.get n fun ver sv=>match sv with
   | .vec e sz l=>.set n (ver+1) .no (k (.vec e sz (l.map D.it)))
   | .own _ t=>.set n (ver+1) .no (k t)
   | .bd s v p=>.get s fun cur sv'=>match sv' with
     | .own inv t=>.need (A5 v inv p=true) fun _=>match D.at p t with
       |some u=>match D.put p t u.husk with
        |some t'=>.need (u.whole=true) fun _=>.set s (cur+1) (.own (bump inv p (cur+1)) t') (k u)
        |none=>.fail
       |none=>.fail
     |_=>.fail
   | .par h=>.get h fun cur sv'=>match sv' with
     | .own _ t=>.set h (cur+1) .no (k t)
     |_=>.fail
   |_=>B9 (.t n) fun u=>k (.it u)
def R0 (sz:Nat) (ax vx:Opd):M:=C9 vx fun u=>rdD ax fun s cur inv t p=>match D.at p t with
 |some u0=>match D.put p t u with
  |some t'=>.need (u.isAgg=u0.isAgg∧u.size=u0.size∧u.size=sz) fun _=>match u0.leaf with
   |true=>.set s (cur+1) (.own inv t') .done
   |false=>.set s (cur+1) (.own (bump inv p (cur+1)) t') .done
  |none=>.fail
 |none=>.fail
section
variable{P:Program}{N:Nat}{G:Mem}{σ:Lab}{Fr:Mem}{w0:Base}{w:World}{st:St}{a:Act}
theorem Rel.moveOut {s cur:Nat} {inv:Inv} {p:List Nat} {t t' u:D} {cs:List Value} {hh:Option (Nat × Nat)} (h:Rel G σ Fr w0 st a w) (hs:st[s]?=some (cur,.own inv t)) (hat:t.at p=some u) (hw:u.whole=true) (hput:t.put p u.husk=some t')
 (hsp:spot w p t (none,(val a w0 s).cells.toList)=some (hh,cs)):
 ∃σ' ubs,Rel G σ' Fr w0 (st.set s (cur+1,.own (bump inv p (cur+1)) t')) a w∧RepD G w u cs ubs∧ubs.Nodup∧(∀b∈ubs,G b=none∧Fr b=none∧σ' b=none∧b<w.heap.size)∧(∀b∈ubs,σ b≠none)∧∀b,σ b=none→σ' b=none:=by
 obtain⟨bs,hrep,hva,hnd,hlab⟩:=show OwnD G σ w s t (val a w0 s)from h.slots s cur _ hs
 obtain⟨m,s',ubs,f1,f2,f3,f4,f5,f6⟩:=focus (here:=none) hrep hnd hat
 rw[f1]at hsp
 obtain rfl:=Option.some.inj hsp
 obtain⟨hag,hsz,hul⟩:=Ph hw
 obtain⟨hnew,hcell⟩:=Lie.same f5
 obtain⟨bs',r1,r2,r3,r4,r5⟩:=f6 G w u.husk cs [] t' (Mem.le.refl G) rfl hag (Tg hw f2 G w) List.nodup_nil (by simp) hnew hput
 simp only at hcell r1 r5
 rw[hcell]at r1 r5
 refine⟨σ.shed ubs,ubs,?_,f2,f3,fun b hb=>?_,fun b hb hn=>?_,fun b hb=>by unfold Lab.shed;split<;>first|rfl|exact hb⟩
 rotate_left 2
 ·obtain⟨k,hk⟩:=hlab b (f4 b hb)
  rw[hn]at hk;cases hk
 ·obtain⟨hpd,hbd⟩:=Focus.refs (G:=G) (inv:=inv) (cur:=cur) r5
  rw[hul]at hpd hbd
  refine h.tree h.wok.shed (Mem.le.refl G) hs (Nat.lt_succ_self _) ?_ (fun e=>by omega) ?_ hpd hbd
  ·intro s1 hs1 x k hx
   refine⟨Lab.shed_some.2 ⟨fun hm=>?_,hx⟩,rfl⟩
   obtain⟨k',hk'⟩:=hlab x (f4 x hm)
   rw[hx]at hk'
   cases hk'
   exact hs1 rfl
  ·refine⟨bs',r1,?_,r2,fun x hx=>?_⟩
   ·rw[r4]
    split
    ·rename_i hp
     subst hp
     simp only[D.at,Option.some.injEq]at hat
     subst hat
     rw[hag]
     exact hva
    ·exact hva
   ·rcases(r3 x).1 hx with⟨h1,h2⟩|h1
    ·obtain⟨k,hk⟩:=hlab x h1
     exact⟨k,Lab.shed_some.2 ⟨h2,hk⟩⟩
    ·cases h1
 ·obtain⟨k,hk⟩:=hlab b (f4 b hb)
  obtain⟨k1,k2,k3⟩:=h.wok.own b _ hk
  exact⟨k1,k2,by simp[Lab.shed,hb],k3⟩
theorem Rel.adopt {Q:St→Prop} {d:Nat} {u:D} {c:Value} (h:Rel G σ Fr w0 st a w) (hdn:d<w0.n) (hf:FreeD G σ Fr w u c) (hq:(Av d (.own [] u)).wp P Q st):
 ∃σ' st',Rel G σ' Fr w0 st' (a.put (some d) c) w∧Q st':=by
 obtain⟨bs,g1,g2,g3,g4⟩:=hf
 simp only[Av,M.wp]at hq
 cases hd:st[d]? with
 |none=>simp[hd]at hq
 |some cur=>
  simp only[hd]at hq
  have hK:∀b k,σ.drop d b=some (d,k)→k<0:=fun b k hb=>absurd rfl (Lab.drop_some.1 hb).1
  have hok:WOk G ((σ.drop d).adopt d 0 bs) Fr w0 w:=(h.wok.drop d).adopt hK fun b hb=>⟨(g4 b hb).1,(g4 b hb).2.1,(g4 b hb).2.2.2⟩
  refine⟨_,_,h.put hdn hok (Mem.le.refl G) hd (Nat.lt_succ_self _) ?_ ?_ (fun h e=>by cases e) Ee,hq⟩
  ·intro s' hs' b k hb
   refine⟨?_,rfl⟩
   rw[Lab.adopt_old]
   ·exact Lab.drop_some.2 ⟨hs',hb⟩
   ·intro hm
    rw[(g4 b hm).2.2.1]at hb
    cases hb
  ·exact⟨bs,g1,g2,g3,fun b hb=>⟨_,Lab.adopt_new hb⟩⟩
theorem VecAt.freeD {lab:Nat × Nat} {e:TypeId} {sz:Nat} {l:List I} {c:Value} (h:VecAt G σ w lab e sz l c) (hok:WOk G σ Fr w0 w) {σ':Lab} (hσ:∀b,σ b=some lab→σ' b=none):FreeD G σ' Fr w (.vec e sz (l.map D.it)) c:=by
 obtain⟨xs,⟨hl,h1⟩,h2,h3,h4⟩:=h
 rcases h1 with⟨rfl,h0⟩|⟨g,cap,cur,rfl,_,hg,hn,hm,hs,ht⟩
 ·obtain rfl:=List.eq_nil_of_length_eq_zero h0
  exact⟨[],by simp[RepD,Value.cells],rfl,List.nodup_nil,by simp⟩
 ·refine⟨[g],?_,rfl,by simp,?_⟩
  ·simp only[RepD,Value.cells]
   refine .inr ⟨g,0,cap,cur,xs,[],by simp,hg,fun _=>⟨rfl,hs⟩,by simpa using hn,hm,by rw[Nat.zero_add,hs];exact Nat.le_refl _,by simpa using ht,RepDs.its.2 ⟨h2,rfl⟩,?_,rfl⟩
   intro x hx
   obtain⟨y,hy,rfl⟩:=List.mem_map.1 hx
   exact h3 y hy
  ·intro b hb
   obtain rfl:=List.mem_singleton.1 hb
   have hlab:=h4 b rfl
   obtain⟨k1,k2,k3⟩:=hok.own b _ hlab
   exact⟨k1,k2,hσ b hlab,k3⟩
def FreeB (G:Mem) (σ:Lab) (Fr:Mem) (w:World) (u:D) (c:Value) (bs:List Nat):Prop:=
 RepD G w u c.cells.toList bs∧valOf u.isAgg c=true∧bs.Nodup∧∀b∈bs,G b=none∧Fr b=none∧σ b=none∧b<w.heap.size
theorem FreeB.free {u:D} {c:Value} {bs:List Nat} (h:FreeB G σ Fr w u c bs):FreeD G σ Fr w u c:=⟨bs,h⟩
theorem FreeB.item {u:I} {c:Value} (h:RepV G u c):FreeB G σ Fr w (.it u) c []:=by
 obtain⟨bs,h1,h2,h3,h4⟩:=FreeD.item (σ:=σ) (Fr:=Fr) (w:=w) h
 have:bs=[]:=by simp only[RepD]at h1;exact h1.2
 subst this
 exact⟨h1,h2,h3,h4⟩
theorem FreeB.later {G':Mem} {σ':Lab} {u:D} {c:Value} {bs:List Nat} (h:FreeB G σ Fr w u c bs) (hG:G.le G') (hk:∀b,σ b=none→G b=none→σ' b=none∧G' b=none):FreeB G' σ' Fr w u c bs:=by
 obtain⟨h1,h2,h3,h4⟩:=h
 refine⟨h1.tr hG fun _ _=>rfl,h2,h3,fun b hb=>?_⟩
 obtain⟨k1,k2,k3,k4⟩:=h4 b hb
 obtain⟨q1,q2⟩:=hk b k3 k1
 exact⟨q2,k2,q1,k4⟩
theorem B2 {x:Operand} {y:Opd} {k:D→M} {Q:St→Prop} (h:Rel G σ Fr w0 st a w) (ho:Ac w0.n x y=true) (hq:(C9 y k).wp P Q st):
 ∃u bs G' σ' st',G.le G'∧Rel G' σ' Fr w0 st' a w∧(k u).wp P Q st'∧FreeB G' σ' Fr w u (a.eval x) bs∧(∀b∈bs,σ b≠none)∧∀b,σ b=none→G b=none→σ' b=none∧G' b=none:=by
 cases y with
 |c i=>exact⟨_,[],G,σ,st,Mem.le.refl G,h,hq,FreeB.item (D5 ho G),by simp,fun _ h1 h2=>⟨h1,h2⟩⟩
 |nils e sz=>
  refine⟨_,[],G,σ,st,Mem.le.refl G,h,hq,?_,by simp,fun _ h1 h2=>⟨h1,h2⟩⟩
  rw[B1 ho]
  exact⟨by simp[RepD,Value.cells],rfl,List.nodup_nil,by simp⟩
 |t n=>
  obtain⟨rfl,hnlt⟩:=A1 ho
  have hv:val a w0 n=a.eval (.tmp n):=A2 (by rw[h.n];exact hnlt)
  simp only[C9,M.wp]at hq
  cases hs:st[n]? with
  |none=>simp[hs]at hq
  |some cur=>
   obtain⟨ver,sv⟩:=cur
   simp only[hs]at hq
   have hrep:=h.slot hnlt hs
   have viaV:(B9 (.t n) fun u=>k (.it u)).wp P Q st→∃u bs G' σ' st',G.le G'∧Rel G' σ' Fr w0 st' a w∧(k u).wp P Q st'∧FreeB G' σ' Fr w u (a.eval (.tmp n)) bs∧(∀b∈bs,σ b≠none)∧∀b,σ b=none→G b=none→σ' b=none∧G' b=none:=by
    intro hq
    obtain⟨i,G',σ',st',h1,h2,h3,h4,h5⟩:=Qp h ho hq
    exact⟨_,[],G',σ',st',h1,h2,h3,FreeB.item h4,by simp,h5⟩
   cases sv with
   |vec e sz l=>
    have hdrop:∀b,σ b=some (n,0)→σ.drop n b=none:=fun b hb=>by simp[Lab.drop,hb]
    obtain⟨bs,hf⟩:=VecAt.freeD hrep h.wok hdrop
    refine⟨_,bs,G,σ.drop n,_,Mem.le.refl G,h.drop hs (Nat.lt_succ_self _),hq,hf,fun b hb hn=>?_,fun b h1 h2=>⟨by simp[Lab.drop,h1],h2⟩⟩
    obtain⟨xs,h1,_,_,h4⟩:=hrep
    have hrd:=hf.1
    simp only[RepD]at hrd
    rcases hrd with⟨_,_,rfl⟩|⟨g,off,cap,cur,xs',bs',e1,_,_,_,_,_,_,e2,_,rfl⟩
    ·cases hb
    ·obtain⟨_,rfl⟩:=RepDs.its.1 e2
     obtain rfl:=List.mem_singleton.1 hb
     rcases h1.2 with⟨h0,_⟩|⟨g',cap',cur',h0,_⟩
     ·rw[h0]at e1;simp[Value.cells]at e1
     ·have:=h4 g' (by rw[h0];rfl)
      rw[h0]at e1
      simp[Value.cells]at e1
      rw[e1.1.1]at this
      rw[hn]at this
      cases this
   |own inv t=>
    obtain⟨bs,g1,g2,g3,g4⟩:=hrep
    refine⟨_,bs,G,σ.drop n,_,Mem.le.refl G,h.drop hs (Nat.lt_succ_self _),hq,⟨g1,g2,g3,fun b hb=>?_⟩,fun b hb hn=>?_,fun b h1 h2=>⟨by simp[Lab.drop,h1],h2⟩⟩
    rotate_left 1
    ·obtain⟨kk,hk⟩:=g4 b hb
     rw[hn]at hk;cases hk
    obtain⟨kk,hk⟩:=g4 b hb
    obtain⟨k1,k2,k3⟩:=h.wok.own b _ hk
    refine⟨k1,k2,?_,k3⟩
    simp[Lab.drop,hk]
   |bd s v p=>
    obtain⟨cur,h1,h2,h3⟩:=hrep
    simp only[M.wp,h1]at hq
    obtain⟨cv,csv⟩:=cur
    cases csv with
    |own inv t=>
     obtain⟨ha,hq⟩:=hq
     split at hq
     ·rename_i u hat
      split at hq
      ·rename_i t' hput
       obtain⟨hw,hq⟩:=hq
       have hhd:=h3 inv t rfl ha
       obtain⟨hh,ubs0,_,_,hsp⟩:=HdD.read (h.slots s cv _ h1) hat hhd
       obtain⟨u1,_,e1,e0,_⟩:=hhd
       rw[hat]at e1
       obtain rfl:=Option.some.inj e1
       obtain⟨σ',ubs,r1,r2,r3,r4,r5,r6⟩:=h.moveOut h1 hat hw hput hsp
       refine⟨u,ubs,G,σ',_,Mem.le.refl G,r1,hq,⟨?_,?_,r3,r4⟩,r5,fun b h1 h2=>⟨r6 b h1,h2⟩⟩
       ·have hc1:=RepD.one r2 (a.eval (.tmp n)) (by simp)
        have:(a.eval (.tmp n)).cells.toList=[a.eval (.tmp n)]:=by
         generalize a.eval (.tmp n)=c at hc1 ⊢
         cases c<;>first|rfl|(simp[Value.oneCell']at hc1)
        rw[this]
        exact r2
       ·have:u.isAgg=false:=by cases u<;>first|rfl|cases e0
        rw[this]
        have hc1:=RepD.one r2 (a.eval (.tmp n)) (by simp)
        generalize a.eval (.tmp n)=c at hc1 ⊢
        cases c<;>first|rfl|(simp[Value.oneCell']at hc1)
      ·exact hq.elim
     ·exact hq.elim
    |_=>exact hq.elim
   |par hh=>
    obtain⟨hv',hle⟩:=h.pars n ver hh hs
    rw[hv]at hv'
    simp only[M.wp]at hq
    cases h1:st[hh]? with
    |none=>simp[h1]at hq
    |some cur=>
     obtain⟨cv,csv⟩:=cur
     simp only[h1]at hq
     cases csv with
     |own inv t=>
      obtain⟨bs,g1,g2,g3,g4⟩:=show OwnD G σ w hh t (val a w0 hh)from h.slots hh cv _ h1
      rw[←hv']at g1 g2
      refine⟨_,bs,G,σ.drop hh,_,Mem.le.refl G,h.drop h1 (Nat.lt_succ_self _),hq,⟨g1,g2,g3,fun b hb=>?_⟩,fun b hb hn=>?_,fun b h1 h2=>⟨by simp[Lab.drop,h1],h2⟩⟩
      rotate_left 1
      ·obtain⟨kk,hk⟩:=g4 b hb
       rw[hn]at hk;cases hk
      obtain⟨kk,hk⟩:=g4 b hb
      obtain⟨k1,k2,k3⟩:=h.wok.own b _ hk
      refine⟨k1,k2,?_,k3⟩
      simp[Lab.drop,hk]
     |_=>exact hq.elim
   |_=>exact viaV hq
theorem Lo {x:Operand} {y:Opd} {k:D→M} {Q:St→Prop} (h:Rel G σ Fr w0 st a w) (ho:Ac w0.n x y=true) (hq:(C9 y k).wp P Q st):
 ∃u G' σ' st',G.le G'∧Rel G' σ' Fr w0 st' a w∧(k u).wp P Q st'∧FreeD G' σ' Fr w u (a.eval x):=by
 obtain⟨u,bs,G',σ',st',h1,h2,h3,h4,_⟩:=B2 h ho hq
 exact⟨u,G',σ',st',h1,h2,h3,h4.free⟩
theorem L5 {o:Oper} {Q:St→Prop} {next:Act→World→Prop} {E:Exit→Act→World→Prop} {s cur:Nat} {inv:Inv} {t:D} {q:List Nat} {c:Value} (hr:Rel G σ Fr w0 st a w) (hdst:∀d,o.dst=some d→d<w0.n) (hs:st[s]?=some (cur,.own inv t))
 (hn:∀G' σ' st' a' w',G.le G'→Rel G' σ' Fr w0 st' a' w'→Q st'→next a' w') (hne:o.dst≠some s) (hp:PtD w t (val a w0 s) q c) (hrun:(execOp a.eval o).run P w= .ok (.value c) w)
 (hq:(setD o.dst (.pd s cur q) .done).wp P Q st):o.wp P a w next E:=by
 obtain⟨σ',st',r1,r2⟩:=hr.setD hdst (sv:=.pd s cur q) (c:=c) (fun d' hd ver _=>by
  refine⟨_,by rw[List.getElem?_set_ne (by rintro rfl;exact hne hd)];exact hs,Nat.le_refl _,fun inv' t' e _ _=>?_⟩
  cases e
  rw[An (by rintro rfl;exact hne hd)]
  exact hp) hq
 exact Am hrun (hn G σ' st' _ w (Mem.le.refl G) r1 r2)
theorem L4 {o:Oper} {Q:St→Prop} {next:Act→World→Prop} {E:Exit→Act→World→Prop} {s cur:Nat} {inv:Inv} {t:D} {q:List Nat} {c:Value} (hr:Rel G σ Fr w0 st a w) (hdst:∀d,o.dst=some d→d<w0.n) (hs:st[s]?=some (cur,.own inv t))
 (hn:∀G' σ' st' a' w',G.le G'→Rel G' σ' Fr w0 st' a' w'→Q st'→next a' w') (hne:o.dst≠some s) (hp:HdD w t (val a w0 s) q c) (hrun:(execOp a.eval o).run P w= .ok (.value c) w)
 (hq:(setD o.dst (.bd s cur q) .done).wp P Q st):o.wp P a w next E:=by
 obtain⟨σ',st',r1,r2⟩:=hr.setD hdst (sv:=.bd s cur q) (c:=c) (fun d' hd ver _=>by
  refine⟨_,by rw[List.getElem?_set_ne (by rintro rfl;exact hne hd)];exact hs,Nat.le_refl _,fun inv' t' e _=>?_⟩
  cases e
  rw[An (by rintro rfl;exact hne hd)]
  exact hp) hq
 exact Am hrun (hn G σ' st' _ w (Mem.le.refl G) r1 r2)
theorem J2 {t:TypeId} {agg:Bool} {b off:Nat} {bl:Array Value} {ty:TypeId} {fz:Nat × Nat} {pre cs post:List Value} (h:tyOk P t agg cs.length=true) (hc:agg=false→cs.length=1)
 (hh:w.heap[b]?=some (.cells bl ty fz)) (hs:bl.toList=pre++cs++post) (hp:pre.length=off) (h1:∀c∈cs,c.oneCell'=true):
 ∃v,(loadVar t ⟨b,off,none⟩).run P w= .ok v w∧v.cells.toList=cs∧valOf agg v=true:=by
 obtain⟨k1,k2⟩:=Bb (P:=P) h hh hs hp
 cases agg with
 |true=>exact⟨_,k1 rfl,rfl,rfl⟩
 |false=>
  obtain⟨c,rfl⟩:=List.length_eq_one_iff.1 (hc rfl)
  refine⟨c,k2 c rfl rfl,?_,?_⟩
  all_goals
   have:=h1 c (by simp)
   cases c<;>first|rfl|(simp[Value.oneCell']at this)
theorem Vw {o:Oper} {t:TypeId} {x:Operand} {x':Opd} {agg:Bool} {sz:Nat} (ho:o.op= .load t x) (hx:Ac N x x'=true) (ht:tyOk P t agg sz=true):Sound P N o (Ug o.dst agg sz x'):=by
 intro G σ Fr w0 st a w Q next E hN hr hw hn hdst
 subst hN
 have run:∀{b off:Nat} {v:Value},a.eval x= .pointer (some ⟨b,off,none⟩)→(loadVar t ⟨b,off,none⟩).run P w= .ok v w→(execOp a.eval o).run P w= .ok (.value v) w:=by
  intro b off v hp hl
  simp[execOp,ho,hp,Instr.loadAt,Instr.sureAddr,hl]
 obtain⟨s,cur,inv,tr,p,h1,hs,hp0,hpt⟩:=Jg hr hx hw
 have hown:=hr.slots s cur _ hs
 split at h1
 ·rename_i u hat
  obtain⟨b,off,bl,ty,fz,pre,cs,post,ubs,e1,e2,e3,e4,e5,e6,e7⟩:=PtD.block hown hat hpt
  have hone:=RepD.one e5
  have hlen:=RepD.length e5
  cases u with
  |it y=>
   obtain⟨⟨rfl,rfl⟩,h1⟩:=h1
   simp only[RepD]at e5
   obtain⟨v,hl,hv⟩:=D4 (P:=P) ht e2 e3 e4 e5.1
   exact Ay hr hn hdst hv h1 (run e1 hl)
  |vec e sz' l=>
   obtain⟨⟨rfl,rfl,hne⟩,h1⟩:=h1
   obtain⟨c,rfl⟩:=List.length_eq_one_iff.1 hlen
   have hl:=(Bb (P:=P) (cs:=[c]) ht e2 e3 e4).2 c rfl rfl
   exact L4 hr hdst hs hn hne ⟨_,_,hat,rfl,e7⟩ (run e1 hl) h1
  |map ks vs=>
   obtain⟨⟨rfl,rfl,hne⟩,h1⟩:=h1
   obtain⟨c,rfl⟩:=List.length_eq_one_iff.1 hlen
   have hl:=(Bb (P:=P) (cs:=[c]) ht e2 e3 e4).2 c rfl rfl
   exact L4 hr hdst hs hn hne ⟨_,_,hat,rfl,e7⟩ (run e1 hl) h1
  |ptr d=>
   obtain⟨⟨rfl,rfl,hne⟩,h1⟩:=h1
   obtain⟨c,rfl⟩:=List.length_eq_one_iff.1 hlen
   have hl:=(Bb (P:=P) (cs:=[c]) ht e2 e3 e4).2 c rfl rfl
   simp only[RepD]at e5
   obtain⟨g,cells,ty',bs',q1,q2,_⟩:=e5
   injection q1 with q1
   subst q1
   refine L5 hr hdst hs hn hne ⟨d,g,0,cells.toList,by rw[Dg hat];rfl,?_,rfl⟩ (run e1 hl) h1
   rw[Ck hat e7 (y:=d) rfl]
   simp[Au,q2]
  |st l=>
   obtain⟨⟨rfl,hsz⟩,h1⟩:=h1
   unfold Qd at h1
   split at h1
   ·rename_i t' hput
    obtain⟨v,hl,hvc,hva⟩:=J2 (P:=P) (cs:=cs) (agg:=true) (by rw[hlen];show tyOk P t true (dsizes l)=true;rw[hsz];exact ht) (by intro e;cases e) e2 e3 e4 hone
    obtain⟨σ',ubs',r1,r2,r3,r4,_⟩:=hr.moveOut hs hat rfl hput e7
    simp only[M.wp]at h1
    cases hd:o.dst with
    |none=>
     rw[hd]at h1
     exact Am (run e1 hl) (by rw[hd];exact hn G σ' _ _ w (Mem.le.refl G) r1 h1)
    |some d=>
     rw[hd]at h1
     obtain⟨hne,h1⟩:=h1
     obtain⟨σ2,st2,k1,k2⟩:=r1.adopt (hdst d hd) (u:=.st l) (c:=v) ⟨ubs',by rw[hvc];exact r2,hva,r3,r4⟩ h1
     exact Am (run e1 hl) (by rw[hd];exact hn G σ2 st2 _ w (Mem.le.refl G) k1 k2)
   ·exact h1.elim
 ·exact h1.elim
theorem Vx {o:Oper} {t:TypeId} {x:Operand} {x':Opd} {agg:Bool} {sz:Nat} (ho:o.op= .load t x) (hx:Ac N x x'=true) (ht:tyOk P t agg sz=true):Sound P N o (Uh o.dst agg sz x'):=by
 intro G σ Fr w0 st a w Q next E hN hr hw hn hdst
 subst hN
 obtain⟨s,cur,inv,tr,p,h1,hs,hp0,hpt⟩:=Jg hr hx hw
 have hown:=hr.slots s cur _ hs
 split at h1
 ·rename_i u hat
  split at h1
  ·rename_i y hy
   split at h1
   ·rename_i t' hput
    obtain⟨⟨hul,rfl,rfl,hne⟩,h1⟩:=h1
    obtain⟨b,off,bl,ty,fz,pre,cs,post,ubs,e1,e2,e3,e4,e5,e6,e7⟩:=PtD.block hown hat hpt
    obtain⟨G',σ',hG,r1,r2,_⟩:=hr.frzPlace hs hat hul hy hput
    have hI:=r2 _ _ e7
    obtain⟨v,hl,hv⟩:=D4 (P:=P) (w:=w) ht e2 e3 e4 hI
    obtain⟨σ2,st2,k1,k2⟩:=r1.setV hdst hv h1
    refine Am (w':=w) ?_ (hn G' σ2 st2 _ w hG k1 k2)
    simp[execOp,ho,e1,Instr.loadAt,Instr.sureAddr,hl]
   ·exact h1.elim
  ·exact h1.elim
 ·exact h1.elim
theorem Mt {u:D} {i off:Nat} {b o:Nat} {cs:List Value} (h:Dc u i=some off):∃y cs',u.kid i=some y∧Au w u (some (b,o),cs) i=some (some (b,o+off),cs'):=by
 cases u with
 |it x=>
  cases x with
  |agg l=>
   simp only[Dc]at h
   split at h
   ·rename_i y hy
    cases h
    exact⟨_,_,by simp only[D.kid,hy];rfl,by simp only[Au,hy,hop];rfl⟩
   ·cases h
  |_=>cases h
 |st l=>
  simp only[Dc]at h
  split at h
  ·rename_i y hy
   cases h
   exact⟨_,_,hy,by simp only[Au,hy,hop];rfl⟩
  ·cases h
 |_=>cases h
theorem Ur {o:Oper} {t:TypeId} {x i:Operand} {x' i':Opd} {sz len:Nat} (ho:o.op= .indexAddr t x i) (hx:Ac N x x'=true) (hi:Ac N i i'=true) (ht:N8 P t sz len=true):
 Sound P N o (Rs o.dst sz len x' i'):=by
 intro G σ Fr w0 st a w Q next E hN hr hw hn hdst
 subst hN
 obtain⟨n,h1,hnv⟩:=Az hr hi hw
 clear hw
 split at h1
 ·rename_i k n
  rw[RepV.int]at hnv
  obtain⟨s,cur,inv,tr,p,h1,hs,hp0,hpt⟩:=Jg hr hx h1
  have hown:=hr.slots s cur _ hs
  split at h1
  ·rename_i u hat
   split at h1
   ·rename_i y
    split at h1
    ·rename_i sz' l
     obtain⟨⟨h0,hlt,hl2,rfl,hne⟩,h1⟩:=h1
     obtain⟨b,off,bl,ty,fz,pre,cs,post,ubs,e1,e2,e3,e4,e5,e6,e7⟩:=PtD.block hown hat hpt
     have hk:(D.it (.arr sz' l)).kid n.toNat=some (.it l[n.toNat]):=by simp[D.kid,List.getElem?_eq_getElem hl2]
     refine L5 hr hdst hs hn hne ⟨_,b,off+n.toNat*sz',_,by rw[Dg hat];exact hk,by rw[Ck hat e7 hk];simp only[Au,List.getElem?_eq_getElem hl2,hop];rfl,rfl⟩ ?_ h1
     simp[execOp,ho,e1,hnv,Hr ht w h0 hlt]
    ·exact h1.elim
   ·exact h1.elim
  ·exact h1.elim
 ·exact h1.elim
theorem U2 {o:Oper} {t:TypeId} {x y:Operand} {x' y':Opd} {agg:Bool} {sz:Nat} (hd:o.dst=none) (ho:o.op= .store t x y) (hx:Ac N x x'=true) (hy:Ac N y y'=true) (ht:tyOk P t agg sz=true):
 Sound P N o (R0 sz x' y'):=by
 intro G σ Fr w0 st a w Q next E hN hr hw hn hdst
 subst hN
 obtain⟨u,G',σ',st',hG,hr',h1,hf⟩:=Lo hr hy hw
 obtain⟨s,cur,inv,tr,p,h1,hs,hp0,hpt⟩:=Jg hr' hx h1
 split at h1
 ·rename_i u0 hat
  split at h1
  ·rename_i t' hput
   obtain⟨⟨hag,hsz,hsz2⟩,h1⟩:=h1
   obtain⟨b,of,w',σ2,e1,e2,e3⟩:=hr'.setPlace (P:=P) (tt:=t) (agg:=agg) hs hat hput hf hag hsz hpt (by rw[←hsz,hsz2];exact ht)
   refine Kg (w':=w') ?_ ?_
   ·simp[execOp,ho,e1,Instr.storeAt,Instr.sureAddr,e2]
   ·rw[hd]
    refine hn G' σ2 _ _ w' hG e3 ?_
    cases hl:u0.leaf<;>rw[hl]at h1<;>simp only[M.wp]at h1<;>simpa using h1
  ·exact h1.elim
 ·exact h1.elim
end
end Go.Ab
