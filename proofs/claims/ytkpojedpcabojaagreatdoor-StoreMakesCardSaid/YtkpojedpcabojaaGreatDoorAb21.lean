/- Lemmas -/
import Derived.Test.YtkpojedpcabojaaGreatDoorAb18e
import Derived.IntWalk
set_option linter.unusedVariables false
set_option linter.unusedSimpArgs false
namespace Go.Ab
inductive Rr where
 |t (n:Nat)
 |cell (n:Nat) (agg:Bool) (sz:Nat)
 deriving Inhabited
def Ams(n:Nat):List F→Nat→M→M
 | [],_,k=>k
 | .i _::fs,j,k=>Ams n fs (j+1) k
 | .vec _ _ _::fs,j,k=>.get n fun ver sv=>match sv.Fu (j+1)with
   |some _=>.set n (ver+1) (sv.Ad8 (j+1)) (Ams n fs (j+1) k)
   |none=>.fail
def Afy:List Rr→(List I→M)→M
 | [],k=>k []
 | .t n::r,k=>Q5 (.t n) fun u=>Afy r fun us=>k (u::us)
 | .cell n agg sz::r,k=>.get n fun _ sv=>match sv with
   | .box (.st fs)=>Ams n fs 0 (.get n fun _ sv=>match sv with
     | .box t=>match(SV.box t).hit 0 []with
       |some (0,.item u)=>.Co (u.isAgg=agg∧u.size=sz) fun _=>Afy r fun us=>k (u::us)
       |_=>.fail
     |_=>.fail)
   | .box (.one f)=>match(SV.box (.one f)).hit 0 []with
     |some (0,.item u)=>.Co (u.isAgg=agg∧u.size=sz) fun _=>Afy r fun us=>k (u::us)
     |_=>.fail
   |_=>.fail
def Aba:List I→SV
 | [u]=>.v u
 |us=>.F4 (us.map .i)
def A8d(N:Nat)(i:Nat):SV→SV
 | .v x=>.v x
 | .rp x=>.rp x
 | .box _| .vec _ _ _| .own _ _=>.par (N+i)
 |_=>.no
def Btc:SV→SV
 | .box t=>.box t
 | .vec e sz l=>.vec e sz l
 | .own _ t=>.own [] t
 |_=>.no
def Ma(N:Nat):Nat→List SV→St
 |_,[]=>[]
 |i,sv::r=>(0,A8d N i sv)::Ma N (i+1) r
def entry(N:Nat)(args:List SV):St:=Ma N 0 args++List.replicate (N - args.length) (0,.no)++args.map fun sv=>(0,Btc sv)
def SV.clean:SV→SV
 | .own _ t=>.own [] t
 |sv=>sv
theorem Ahx{sv:SV}:sv.clean.root=sv.root:=by cases sv<;>rfl
theorem Amh{G:Mem}{σ:Lab}{w:World}{s:Nat}{sv:SV}{c:Value}:Dx G σ w s sv.clean c=Dx G σ w s sv c:=by cases sv<;>rfl
def Hz(N:Nat)(st:St):Nat→List SV→List SV
 |_,[]=>[]
 |i,sv::r=>(if sv.Zb then(match st[N+i]? with
  |some cur=>cur.2.clean
  |none=>.no)else .no)::Hz N st (i+1) r
def Anv:List SV→Bool
 | []=>true
 |sv::r=>match sv.root with
  |none=>Anv r
  |some _=>false
theorem Ze:∀{l:List SV},Anv l=true→∀sv∈l,sv.root=none
 | [],_,_,h=>by cases h
 |x::r,h,sv,hm=>by
  unfold Anv at h;split at h
  ·rename_i hx;rcases List.mem_cons.mp hm with rfl|hm
   ·exact hx
   ·exact Ze h sv hm
  ·cases h
structure Gg(R:Prop)(outs:List SV):Prop where
 post:R
 own:Anv outs=true
def Fin(P:Program)(N:Nat)(rs:List Rr)(args:List SV)(R:SV→List SV→Prop)(st:St):Prop:=
 (Afy rs fun us=>.K8 fun st'=>Gg (R (Aba us) (Hz N st' 0 args)) (Hz N st' 0 args)).wp P (fun _=>False) st
def Pe(_:Nat)(_:St):Prop:=False
def wpF(P:Program)(N:Nat)(s:Ee)(rs:List Rr)(args:List SV)(R:SV→List SV→Prop):Prop:=
 wpS P s Lu ⟨Fin P N rs args R,Pe,Fin P N rs args R⟩ (entry N args)
def K3(P:Program)(N:Nat):List ResultVar→List Rr→Bool
 | [],[]=>true
 | .tmp t::l,.t n::r=>t==n&&n<N&&K3 P N l r
 | .cell a t::l,.cell n agg sz::r=>a==n&&n<N&&Mq P t agg sz&&K3 P N l r
 |_,_=>false
def Xm(tmps:Array Value):ResultVar→Sem Value
 | .tmp t=>pure (tmps.getD t undef)
 | .cell p t=>do loadVar t (←asAddr (tmps.getD p undef))
theorem Xn(fn:Func)(tmps:Array Value):results fn tmps=(do let vs ←fn.results.mapM (Xm tmps);pure (if h:vs.size=1 then vs[0]else .tuple vs)):=by
 unfold results
 congr 1
section
variable{P:Program}{N:Nat}{G:Mem}{σ:Lab}{Fr:Mem}{w0:Base}{w:World}{st:St}{a:Act}
theorem Aib{Q:St→Prop}{n:Nat}{k:M}:∀{fs:List F} {j:Nat} {G:Mem} {σ:Lab} {st:St},Rel G σ Fr w0 st a w→(Ams n fs j k).wp P Q st→
 ∃G' σ' st',G.le G'∧Rel G' σ' Fr w0 st' a w∧k.wp P Q st'
 | [],_,G,σ,st,hr,hq=>⟨G,σ,st,Mem.le.refl G,hr,hq⟩
 | .i _::fs,j,G,σ,st,hr,hq=>Aib (fs:=fs) hr hq
 | .vec _ _ _::fs,j,G,σ,st,hr,hq=>by
   simp only[Ams,M.wp]at hq;cases hs:st[n]? with
   |none=>simp[hs]at hq
   |some cur=>
    obtain⟨ver,sv⟩:=cur;simp only[hs]at hq;split at hq
    ·rename_i p hp;obtain⟨e,sz,l⟩:=p;obtain⟨G',σ',h1,h2,_⟩:=hr.freeze hs hp (Bk ver);obtain⟨X5,Qj,Nx,h3,h4,h5⟩:=Aib (fs:=fs) h2 hq;exact⟨X5,Qj,Nx,h1.trans h3,h4,h5⟩
    ·exact hq.elim
theorem Bhn{n:Nat}{sv:SV}{ver:Nat}{u:I}{t:TypeId}(hr:Rel G σ Fr w0 st a w)(hn:n<w0.n)(hs:st[n]?=some (ver,sv))(hb:∃t,sv= .box t)(hh:sv.hit 0 []=some (0,.item u))(ht:Mq P t u.isAgg u.size=true):
 ∃v,(do loadVar t (←asAddr (a.tmps.getD n undef)):Sem Value).run P w= .ok v w∧Bb G u v:=by
 obtain⟨tt,rfl⟩:=hb;have Ba:=hr.slot hn hs;obtain⟨b,cells,ty,h1,h2,h3,h4⟩:=Ba;obtain⟨bl,ty',fz,pre,cs,post,g1,_,g2,g3,g4,_⟩:=Ach hr.Bz (show Dx G σ w n (.box tt) (a.eval (.tmp n))from hr.slot hn hs) hh h2;obtain⟨v,hl,hv⟩:=Wf (P:=P) ht g1 g2 g3 g4;have he:a.tmps.getD n undef= .pointer (some ⟨b,0,none⟩):=h1;exact⟨v,by rw[he];simp[asAddr,hl],hv⟩
theorem Ajg{Q:St→Prop}:∀{rs:List Rr} {rv:List ResultVar} {k:List I→M} {G:Mem} {σ:Lab} {st:St},Rel G σ Fr w0 st a w→K3 P w0.n rv rs=true→(Afy rs k).wp P Q st→
 ∃us cs G' σ' st',G.le G'∧Rel G' σ' Fr w0 st' a w∧(k us).wp P Q st'∧
  (rv.mapM (Xm a.tmps)).run P w= .ok cs w∧F3 G' σ' w 0 0 (us.map F.i) cs
 | [],[],k,G,σ,st,hr,_,hq=>⟨[],[],G,σ,st,Mem.le.refl G,hr,hq,by simp,rfl⟩
 | .t n::rs,.tmp m::rv,k,G,σ,st,hr,ho,hq=>by
   simp only[K3,Ad,beq_iff_eq,decide_eq_true_eq]at ho;obtain⟨⟨rfl,h1⟩,h2⟩:=ho;obtain⟨u,G1,σ1,st1,g1,g2,g3,g4⟩:=Se (x:=.tmp m) hr (by simp[Bu,h1]) hq
   obtain⟨us,cs,G2,σ2,st2,q1,q2,q3,q4,q5⟩:=Ajg g2 h2 g3;refine⟨u::us,a.tmps.getD m undef::cs,G2,σ2,st2,g1.trans q1,q2,q3,?_,?_⟩
   ·simp only[List.mapM_cons,Xm,Sem.run_bind,Sem.run_pure,Result.andThen,q4]
   ·exact⟨_,cs,rfl,g4.mono q1,by
     have aux:∀(l:List I) (j j':Nat) (cs:List Value),F3 G2 σ2 w 0 j (l.map F.i) cs→F3 G2 σ2 w 0 j' (l.map F.i) cs:=by
      intro l;induction l with
      |nil=>intro j j' cs h;exact h
      |cons x l ih=>intro j j' cs h;obtain⟨c,d,e,h1,h2⟩:=h;exact⟨c,d,e,h1,ih _ _ _ h2⟩
     exact aux us 0 1 cs q5⟩
 | .cell n agg sz::rs,.cell m t::rv,k,G,σ,st,hr,ho,hq=>by
   simp only[K3,Ad,beq_iff_eq,decide_eq_true_eq]at ho;obtain⟨⟨⟨rfl,h1⟩,ht⟩,h2⟩:=ho;have aux:∀(G2:Mem) (σ2:Lab) (l:List I) (j j':Nat) (cs:List Value),F3 G2 σ2 w 0 j (l.map F.i) cs→F3 G2 σ2 w 0 j' (l.map F.i) cs:=by
    intro G2 σ2 l;induction l with
    |nil=>intro j j' cs h;exact h
    |cons x l ih=>intro j j' cs h;obtain⟨c,d,e,h1,h2⟩:=h;exact⟨c,d,e,h1,ih _ _ _ h2⟩
   have fin:∀{G1:Mem} {σ1:Lab} {st1:St} {ver:Nat} {sv:SV},G.le G1→Rel G1 σ1 Fr w0 st1 a w→st1[m]?=some (ver,sv)→
    (match sv.hit 0 []with
      |some (0,.item u)=>M.Co (u.isAgg=agg∧u.size=sz) fun _=>Afy rs fun us=>k (u::us)
      |_=>.fail).wp P Q st1→(∃t,sv= .box t)→∃us cs G' σ' st',G.le G'∧Rel G' σ' Fr w0 st' a w∧(k us).wp P Q st'∧
    ((ResultVar.cell m t::rv).mapM (Xm a.tmps)).run P w= .ok cs w∧F3 G' σ' w 0 0 (us.map F.i) cs:=by
    intro G1 σ1 st1 ver sv hG1 Hr hs hq1 Bwi;split at hq1
    ·rename_i u hh;obtain⟨⟨rfl,rfl⟩,hq1⟩:=hq1;obtain⟨v,hl,hv⟩:=Bhn (P:=P) Hr h1 hs Bwi hh ht;obtain⟨us,cs,G2,σ2,st2,q1,q2,q3,q4,q5⟩:=Ajg Hr h2 hq1;refine⟨u::us,v::cs,G2,σ2,st2,hG1.trans q1,q2,q3,?_,⟨v,cs,rfl,hv.mono q1,aux _ _ us 0 1 cs q5⟩⟩;have Ve:(Xm a.tmps (.cell m t)).run P w= .ok v w:=hl;rw[List.mapM_cons,Sem.run_bind,Ve];simp only[Result.andThen,Sem.run_bind,Sem.run_pure,q4]
    ·exact hq1.elim
   simp only[Afy,M.wp]at hq;cases hs:st[m]? with
   |none=>simp[hs]at hq
   |some cur=>
    obtain⟨ver,sv⟩:=cur;simp only[hs]at hq;split at hq
    ·obtain⟨G1,σ1,st1,g1,g2,g3⟩:=Aib hr hq;simp only[M.wp]at g3;cases hs1:st1[m]? with
     |none=>simp[hs1]at g3
     |some Bo9=>
      obtain⟨B2m,sv1⟩:=Bo9;simp only[hs1]at g3;split at g3
      ·exact fin g1 g2 hs1 g3 ⟨_,rfl⟩
      ·exact g3.elim
    ·exact fin (Mem.le.refl G) hr hs hq ⟨_,rfl⟩
    ·exact hq.elim
 | [],r::_,_,_,_,_,_,ho,_=>by cases r<;>simp[K3]at ho
 | .t _::_,[],_,_,_,_,_,ho,_=>by simp[K3]at ho
 | .cell _ _ _::_,[],_,_,_,_,_,ho,_=>by simp[K3]at ho
 | .t _::_,.cell _ _::_,_,_,_,_,_,ho,_=>by simp[K3]at ho
 | .cell _ _ _::_,.tmp _::_,_,_,_,_,_,ho,_=>by simp[K3]at ho
theorem Yx{N:Nat}:∀(args:List SV) (i j:Nat),(Ma N i args)[j]?=(args[j]?).map fun sv=>(0,A8d N (i+j) sv)
 | [],i,j=>by simp[Ma]
 |sv::r,i,0=>by simp[Ma]
 |sv::r,i,j+1=>by
  simp only[Ma,Bn];rw[Yx r (i+1) j,show i+(j+1)=i+1+j by omega]
theorem Aaz{N:Nat}:∀(args:List SV) (i:Nat),(Ma N i args).length=args.length
 | [],_=>rfl
 |_::r,i=>by simp[Ma,Aaz r]
theorem P9{N:Nat}{st:St}:∀(args:List SV) (i j:Nat),(Hz N st i args)[j]?=(args[j]?).map fun sv=>if sv.Zb then(match st[N+(i+j)]? with|some cur=>cur.2.clean|none=>.no)else .no
 | [],i,j=>by simp[Hz]
 |sv::r,i,0=>by simp[Hz]
 |sv::r,i,j+1=>by
  simp only[Hz,Bn];rw[P9 r (i+1) j,show i+(j+1)=i+1+j by omega]
theorem Tk{N:Nat}{st:St}:∀(args:List SV) (i:Nat),(Hz N st i args).length=args.length
 | [],_=>rfl
 |_::r,i=>by simp[Hz,Tk r]
theorem F3.one{s:Nat}:∀{us:List I} {j:Nat} {cs:List Value},F3 G σ w s j (us.map F.i) cs→cs.length=us.length
 | [],_,_,h=>by simp[show _=[]from h]
 |u::us,j,cs,h=>by
  obtain⟨c,d,rfl,_,h2⟩:=h;simp[F3.one h2]
def Ends(P:Program)(fn:Func)(args:List SV)(D8:SV→List SV→Prop)(E:St→Prop):Prop:=
 ∀{G:Mem} {Fr:Mem} {w:World} {Fj:Array Value} {a:Act} {w':World} {G':Mem} {σ':Lab} {st:St},Fj.size=args.length→args.length≤fn.ntmps→G.le G'→Rel G' σ' Fr ⟨w,fn.ntmps,Fj⟩ st a w'→E st→
  ∃v,(results fn a.tmps).run P w'= .ok v w'∧∃r az c X5 Qj,Ending.returned v= .returned c∧D8 r az∧G.le X5∧Gc X5 Qj Fr ⟨w,0, #[]⟩ w'∧r.root=none∧Dx X5 Qj w' args.length r c∧az.length=args.length∧
   ∀i sv,az[i]?=some sv→sv.root=none∧Dx X5 Qj w' i sv (Fj.getD i undef)
theorem Fn.Abs{f:FuncId}{fn:Func}{c:Code}{s:Ee}{args:List SV}{D8:SV→List SV→Prop}{E:St→Prop}(hf:P.funcs[f]?=some fn)(hb:fn.body=some c)
 (hc:Gy P fn.ntmps c s=true) (hn:args.length≤fn.ntmps) (hE:Ends P fn args D8 E) (h:wpS P s Lu ⟨E,Pe,E⟩ (entry fn.ntmps args)):Fn P f args D8:=by
 intro G σ Fr w Fj Dj hlen Ms;refine(Ahw (ro:=none) (n:=0)).1 (callsIn_of_wp_marks hf hb trivial ?_)
 let B:Base:=⟨w,fn.ntmps,Fj⟩
 let a0:Act:={tmps:=Fj++Array.replicate (fn.ntmps - Fj.size) undef,defers:=[]}
 have Cq:a0.tmps.size=fn.ntmps:=by simp[a0,hlen];omega
 have A5d:∀i,i<Fj.size→val a0 B i=Fj.getD i undef:=by
  intro i hi;unfold val;have:i<a0.tmps.size:=by rw[Cq];omega
  rw[Aq,D4 this,Aq];simp only[a0];rw[D4 hi]
 have Re:∀i,val a0 B (fn.ntmps+i)=Fj.getD i undef:=by
  intro i;unfold val;rw[Aq,Dm (by rw[Cq];omega),Cq,Nat.add_sub_cancel_left,Aq]
 have A2p:∀{b s k},σ.shift fn.ntmps b=some (s,k)→∃i,s=i+fn.ntmps∧σ b=some (i,k):=by
  intro b s k hb;unfold Lab.shift at hb;cases hσ:σ b with
  |none=>simp[hσ]at hb
  |some p=>
   obtain⟨i,k'⟩:=p;simp only[hσ,Bx,Af,B6]at hb;exact⟨i,hb.1.symm,by rw[hb.2]⟩
 have Vz:Rel G (σ.shift fn.ntmps) Fr B (entry fn.ntmps args) a0 w:=by
  have e1:(Ma fn.ntmps 0 args).length=args.length:=Aaz args 0;refine⟨⟨Dj.fixed,?_,?_,Dj.frame,rfl,rfl,rfl,Ay _,Dj.apart,Dj.Mv⟩,Marks.nil _ _,Cq,?_,?_,?_⟩
  ·rintro b ⟨s,k⟩ hb;obtain⟨i,_,h1⟩:=A2p hb;exact Dj.own b _ h1
  ·rintro b b' ⟨s,k⟩ hb Dc;obtain⟨i,h1,h2⟩:=A2p hb;obtain⟨i',h3,h4⟩:=A2p Dc;obtain rfl:i=i':=by omega
   exact Dj.inj b b' _ h2 h4
  ·rw[Cq];simp[entry,e1,B,hlen];omega
  ·intro s ver sv hs;unfold entry at hs;by_cases h1:s<args.length
   ·rw[A8,B0 (by rw[e1];exact h1),Yx,Ac h1]at hs
    simp only[Bx,Af,B6,Bm]at hs;obtain⟨rfl,rfl⟩:=hs;rw[A5d s (by omega)]
    obtain⟨_,h2⟩:=Ms s _ (Ac h1);cases Nr:args[s]with
    |v x=>rw[Nr]at h2;exact h2
    |rp x=>rw[Nr]at h2;exact h2
    |_=>trivial
   ·by_cases h2:s<fn.ntmps
    ·rw[A8,Cf (by rw[e1];omega),e1,B0 (by simp;omega),Gs,if_pos (by omega)]at hs
     simp only[Af,B6]at hs;obtain⟨rfl,rfl⟩:=hs;trivial
    ·rw[Cf (by simp[e1];omega)]at hs
     have e2:s - (Ma fn.ntmps 0 args++List.replicate (fn.ntmps - args.length) (0,SV.no)).length=s - fn.ntmps:=by simp[e1];omega
     rw[e2,B2]at hs;cases hi:args[s - fn.ntmps]? with
     |none=>simp[hi]at hs
     |some Vi=>
      simp only[hi,Bx,Af,B6]at hs;obtain⟨rfl,rfl⟩:=hs;have hv:=Re (s - fn.ntmps);rw[show fn.ntmps+(s - fn.ntmps)=s by omega]at hv
      rw[hv];obtain⟨_,h3⟩:=Ms _ _ hi;have tr:∀b k,σ b=some (s - fn.ntmps,k)→σ.shift fn.ntmps b=some (s,k)∧w.heap[b]?=w.heap[b]?:=by
       intro b k hb;refine⟨?_,rfl⟩;unfold Lab.shift;rw[hb];simp;omega
      cases Vi with
      |box t=>exact Dx.tr h3 (Mem.le.refl G) tr
      |vec e sz l=>exact Dx.tr h3 (Mem.le.refl G) tr
      |own inv t=>exact Dx.tr h3 (Mem.le.refl G) tr
      |_=>trivial
  ·intro s ver hh hs;unfold entry at hs;by_cases h1:s<args.length
   ·rw[A8,B0 (by rw[e1];exact h1),Yx,Ac h1]at hs
    simp only[Bx,Af,B6,Bm]at hs;obtain⟨rfl,hs⟩:=hs;have:hh=fn.ntmps+s:=by
     cases Nr:args[s]with
     |box t=>rw[Nr]at hs;cases hs;rfl
     |vec e sz l=>rw[Nr]at hs;cases hs;rfl
     |own inv t=>rw[Nr]at hs;cases hs;rfl
     |_=>rw[Nr]at hs;cases hs
    subst this;exact⟨by rw[A5d s (by omega),Re],Nat.le_add_right _ _⟩
   ·by_cases h2:s<fn.ntmps
    ·rw[A8,Cf (by rw[e1];omega),e1,B0 (by simp;omega),Gs,if_pos (by omega)]at hs
     cases hs
    ·rw[Cf (by simp[e1];omega)]at hs
     have e2:s - (Ma fn.ntmps 0 args++List.replicate (fn.ntmps - args.length) (0,SV.no)).length=s - fn.ntmps:=by simp[e1];omega
     rw[e2,B2]at hs;cases hi:args[s - fn.ntmps]? with
     |none=>simp[hi]at hs
     |some Vi=>
      simp only[hi,Bx,Af,B6]at hs;obtain⟨_,hs⟩:=hs;cases Vi<;>cases hs
 refine wpIn_mono (Ast (w0:=B) (.inl rfl) Wm hc Vz h) ?_;rintro e a' w' ⟨G',σ',H2,st',hG,hF,D2,hq⟩;have fin:E st'→LeavesInM (Wd none) 0 P fn a'.tmps (fun e w'=>∃(r:SV) (az:List SV) (c:Value) (G':Mem) (σ':Lab),e= .returned c∧D8 r az∧G.le G'∧Gc G' σ' Fr ⟨w,0, #[]⟩ w'∧
  r.root=none∧Dx G' σ' w' args.length r c∧az.length=args.length∧∀i sv,az[i]?=some sv→sv.root=none∧Dx G' σ' w' i sv (Fj.getD i undef)) a'.defers .returning w':=by
  intro hq;refine D2.leave (by simp) hF (fun b o hb=>Vw Vz hb) fun w2 r2=>?_
  obtain⟨v,h2,r,az,c',X5,Qj,h3,h4,h5⟩:=hE hlen hn hG r2 hq;exact⟨v,h2,r,az,c',X5,Qj,h3,h4,h5⟩
 cases e with
 |normal=>exact fin hq
 |ret=>exact fin hq
 |_=>exact hq.elim
theorem Bhv{fn:Func}{rs:List Rr}{args:List SV}{D8:SV→List SV→Prop}(hr:K3 P fn.ntmps fn.results.toList rs=true):Ends P fn args D8 (Fin P fn.ntmps rs args D8):=by
 intro G Fr w Fj a w' G' σ' st hlen hn hG D2 hq
 let B:Base:=⟨w,fn.ntmps,Fj⟩
 obtain⟨us,cs,G2,σ2,st2,q1,q2,⟨q3,q3'⟩,q4,q5⟩:=Ajg D2 hr hq;have q3':=Ze q3';have Biu:=F3.one q5;have Aig:(fn.results.mapM (Xm a.tmps)).run P w'= .ok cs.toArray w':=by
  rw[Gd,Sem.run_map,q4];rfl
 have Xa:∀{b s k},σ2.Gr fn.ntmps b=some (s,k)→σ2 b=some (fn.ntmps+s,k):=by
  intro b s k hb;unfold Lab.Gr at hb;split at hb
  ·rename_i s' k' h1;split at hb
   ·rename_i hle;simp only[Af,B6]at hb;obtain⟨rfl,rfl⟩:=hb;rw[h1,show fn.ntmps+(s' - fn.ntmps)=s' by omega]
   ·cases hb
  ·cases hb
 have Rx:Gc G2 (σ2.Gr fn.ntmps) Fr ⟨w,0, #[]⟩ w':=by
  refine⟨q2.Bz.fixed,?_,?_,q2.Bz.frame,q2.Bz.os,q2.Bz.tape,q2.Bz.output,q2.Bz.size,q2.Bz.apart,q2.Bz.Mv⟩
  ·rintro b ⟨s,k⟩ hb;exact q2.Bz.own b _ (Xa hb)
  ·rintro b b' ⟨s,k⟩ hb Dc;exact q2.Bz.inj b b' _ (Xa hb) (Xa Dc)
 have Att:∃v,(results fn a.tmps).run P w'= .ok v w'∧Dx G2 (σ2.Gr fn.ntmps) w' args.length (Aba us) v:=by
  rw[Xn,Sem.run_bind,Aig]
  match us,cs,q5,Biu with
  | [],[],_,_=>exact⟨.tuple #[],by simp[Result.andThen], #[],rfl,rfl⟩
  | [u],[v],h5,_=>
    obtain⟨c',d',e',h6,_⟩:=h5;cases e';exact⟨v,by simp[Result.andThen],h6⟩
  |u::u'::us,v::v'::cs,h5,_=>
   refine⟨.tuple (v::v'::cs).toArray,by simp[Result.andThen],_,rfl,?_⟩
   have aux:∀(l:List I) (j:Nat) (cs:List Value),F3 G2 σ2 w' 0 j (l.map F.i) cs→F3 G2 (σ2.Gr fn.ntmps) w' args.length j (l.map F.i) cs:=by
    intro l;induction l with
    |nil=>intro j cs h;exact h
    |cons x l ih=>intro j cs h;obtain⟨c,d,e,h1,h2⟩:=h;exact⟨c,d,e,h1,ih _ _ h2⟩
   exact aux (u::u'::us) 0 _ h5
 obtain⟨v,Mi,hv2⟩:=Att;refine⟨v,Mi,Aba us,Hz fn.ntmps st2 0 args,v,G2,_,rfl,q3,hG.trans q1,Rx,?_,hv2,Tk args 0,?_⟩
 ·unfold Aba;split<;>rfl
 ·intro i sv hi;refine⟨q3' sv (Aw hi),?_⟩;rw[P9]at hi;cases Yq:args[i]? with
  |none=>simp[Yq]at hi
  |some Vi=>
   simp only[Yq,Bx,Af,Bm]at hi;split at hi
   ·cases Ga:st2[fn.ntmps+i]? with
    |none=>simp only[Ga]at hi;subst hi;trivial
    |some cur=>
     obtain⟨ver,sv1⟩:=cur;simp only[Ga]at hi;subst hi;have Ba:=q2.Bj _ _ _ Ga;have Ly:=q3' sv1.clean (by
      apply Aw (i:=i);rw[P9,Yq];simp only[Bx,Bm,Ga];rename_i hl;rw[if_pos hl])
     rw[Ahx]at Ly;rw[Fa.own Ly]at Ba;have L2:val a B (fn.ntmps+i)=Fj.getD i undef:=by
      unfold val;rw[Aq,Dm (by rw[q2.n];exact Nat.le_add_right _ _),q2.n,Aq]
      simp[B]
     rw[L2]at Ba;rw[Amh];refine Dx.tr Ba (Mem.le.refl G2) fun b k hb=>⟨?_,rfl⟩
     unfold Lab.Gr;rw[hb];simp
   ·subst hi;trivial
theorem Fn.Agy{f:FuncId}{fn:Func}{c:Code}{s:Ee}{rs:List Rr}{args:List SV}{D8:SV→List SV→Prop}(hf:P.funcs[f]?=some fn)(hb:fn.body=some c)
 (hc:Gy P fn.ntmps c s=true) (hr:K3 P fn.ntmps fn.results.toList rs=true) (hn:args.length≤fn.ntmps) (h:wpF P fn.ntmps s rs args D8):Fn P f args D8:=
 Fn.Abs hf hb hc hn (Bhv hr) h
theorem Fn.Bju{f:FuncId}{fn:Func}{c:Code}{s:Ee}{rs:List Rr}{args:List SV}{D8:SV→List SV→Prop}{N:Nat}(hf:P.funcs[f]?=some fn)(hb:fn.body=some c)(hN:fn.ntmps=N)
 (hc:Gy P N c s=true) (hr:K3 P N fn.results.toList rs=true) (hn:args.length≤N) (h:wpF P N s rs args D8):Fn P f args D8:=by
 subst hN;exact Fn.Agy hf hb hc hr hn h
def Avu(P:Program)(N n:Nat)(args:List SV)(R:SV→List SV→Prop)(st:St):Prop:=
 (M.get n fun _ sv=>match sv with
   | .vec e sz l=>.K8 fun st'=>Gg (R (.vec e sz l) (Hz N st' 0 args)) (Hz N st' 0 args)
   |_=>.fail).wp P (fun _=>False) st
def Lab.A3p(σ:Lab)(N n m:Nat):Lab:=fun b=>match σ b with
 |some (s,k)=>if s=n∧k=0 then some (m,0)else if N≤s∧s<N+m then some (s - N,k)else none
 |none=>none
theorem Bhw{fn:Func}{n:Nat}{args:List SV}{D8:SV→List SV→Prop}(hr:fn.results= #[.tmp n])(Kb:n<fn.ntmps):Ends P fn args D8 (Avu P fn.ntmps n args D8):=by
 intro G Fr w Fj a w' G' σ' st hlen hn hG D2 hq;simp only[Avu,M.wp]at hq;cases hs:st[n]? with
 |none=>simp[hs]at hq
 |some cur=>
  obtain⟨ver,sv⟩:=cur;simp only[hs]at hq;split at hq
  ·rename_i e sz l;obtain⟨q3,q3'⟩:=hq;have q3':=Ze q3';have Ba:Fg G' σ' w' (n,0) e sz l (a.eval (.tmp n)):=D2.slot Kb hs;have Aig:(fn.results.mapM (Xm a.tmps)).run P w'= .ok #[a.tmps.getD n undef] w':=by
    rw[hr,Gd,Sem.run_map];simp[Xm,Result.andThen]
   have Xa:∀{b s k},σ'.A3p fn.ntmps n args.length b=some (s,k)→(s=args.length∧k=0∧σ' b=some (n,0))∨(s<args.length∧σ' b=some (fn.ntmps+s,k)):=by
    intro b s k hb;unfold Lab.A3p at hb;split at hb
    ·rename_i s' k' h1;split at hb
     ·rename_i hc;obtain⟨rfl,rfl⟩:=hc;simp only[Af,B6]at hb;exact .inl ⟨hb.1.symm,hb.2.symm,h1⟩
     ·split at hb
      ·rename_i hle;simp only[Af,B6]at hb;obtain⟨rfl,rfl⟩:=hb;exact .inr ⟨by omega,by rw[h1,show fn.ntmps+(s' - fn.ntmps)=s' by omega]⟩
      ·cases hb
    ·cases hb
   have Rx:Gc G' (σ'.A3p fn.ntmps n args.length) Fr ⟨w,0, #[]⟩ w':=by
    refine⟨D2.Bz.fixed,?_,?_,D2.Bz.frame,D2.Bz.os,D2.Bz.tape,D2.Bz.output,D2.Bz.size,D2.Bz.apart,D2.Bz.Mv⟩
    ·rintro b ⟨s,k⟩ hb;rcases Xa hb with⟨_,_,h⟩|⟨_,h⟩
     ·exact D2.Bz.own b _ h
     ·exact D2.Bz.own b _ h
    ·rintro b b' ⟨s,k⟩ hb Dc;rcases Xa hb with⟨h1,h2,h⟩|⟨h1,h⟩<;>rcases Xa Dc with⟨h3,h4,h'⟩|⟨h3,h'⟩
     ·exact D2.Bz.inj b b' _ h h'
     ·omega
     ·omega
     ·exact D2.Bz.inj b b' _ h h'
   refine⟨a.tmps.getD n undef,?_,.vec e sz l,Hz fn.ntmps st 0 args,_,G',_,rfl,q3,hG,Rx,rfl,?_,Tk args 0,?_⟩
   ·rw[Xn,Sem.run_bind,Aig];simp[Result.andThen]
   ·refine Fg.tr Ba (Mem.le.refl G') fun b hb=>⟨?_,rfl⟩
    unfold Lab.A3p;rw[hb];simp
   ·intro i sv hi;refine⟨q3' sv (Aw hi),?_⟩;rw[P9]at hi;cases Yq:args[i]? with
    |none=>simp[Yq]at hi
    |some Vi=>
     have Pv:i<args.length:=(Ak.1 Yq).1;simp only[Yq,Bx,Af,Bm]at hi;split at hi
     ·cases Ga:st[fn.ntmps+i]? with
      |none=>simp only[Ga]at hi;subst hi;trivial
      |some cur=>
       obtain⟨ver,sv1⟩:=cur;simp only[Ga]at hi;subst hi;have Ba:=D2.Bj _ _ _ Ga;have Ly:=q3' sv1.clean (by
        apply Aw (i:=i);rw[P9,Yq];simp only[Bx,Bm,Ga];rename_i hl;rw[if_pos hl])
       rw[Ahx]at Ly;rw[Fa.own Ly]at Ba;have L2:val a ⟨w,fn.ntmps,Fj⟩ (fn.ntmps+i)=Fj.getD i undef:=by
        unfold val;rw[Aq,Dm (by rw[D2.n];exact Nat.le_add_right _ _),D2.n,Aq]
        simp
       rw[L2]at Ba;rw[Amh];refine Dx.tr Ba (Mem.le.refl G') fun b k hb=>⟨?_,rfl⟩
       unfold Lab.A3p;rw[hb];simp only;rw[if_neg (by omega),if_pos (by omega)]
       simp
     ·subst hi;trivial
  ·exact hq.elim
def Bsz(P:Program)(N:Nat)(s:Ee)(n:Nat)(args:List SV)(R:SV→List SV→Prop):Prop:=
 wpS P s Lu ⟨Avu P N n args R,Pe,Avu P N n args R⟩ (entry N args)
theorem Fn.Bse{f:FuncId}{fn:Func}{c:Code}{s:Ee}{n:Nat}{args:List SV}{D8:SV→List SV→Prop}{N:Nat}(hf:P.funcs[f]?=some fn)(hb:fn.body=some c)(hN:fn.ntmps=N)
 (hc:Gy P N c s=true) (hr:fn.results= #[.tmp n]) (Kb:n<N) (hn:args.length≤N) (h:Bsz P N s n args D8):Fn P f args D8:=by
 subst hN;exact Fn.Abs hf hb hc hn (Bhw hr Kb) h
end

def look:St→Nat→(Nat→SV→Prop)→Prop
 | [],_,_=>False
 |cur::_,0,K=>match cur with
  |(v,sv)=>K v sv
 |_::r,n+1,K=>look r n K
def upK:St→Nat→Nat→SV→(St→Prop)→Prop
 | [],_,_,_,K=>K []
 |_::r,0,v,sv,K=>K ((v,sv)::r)
 |x::r,n+1,v,sv,K=>upK r n v sv fun r'=>K (x::r')
def spK:List Nat→(List Nat→Prop)→Prop
 | [],K=>K []
 |x::r,K=>spK r fun r'=>K (x::r')
def ivK:Inv→(Inv→Prop)→Prop
 | [],K=>K []
 |e::r,K=>match e with
  |(p,v)=>spK p fun p'=>ivK r fun r'=>K ((p',v)::r')
def lK(f:D→(D→Prop)→Prop):List D→(List D→Prop)→Prop
 | [],K=>K []
 |x::r,K=>f x fun x'=>lK f r fun r'=>K (x'::r')
def dK:Nat→D→(D→Prop)→Prop
 |0,d,K=>K d
 |n+1,d,K=>match d with
  | .st l=>lK (dK n) l fun l'=>K (.st l')
  | .ptr d=>dK n d fun d'=>K (.ptr d')
  | .it x=>K (.it x)
  | .vec e sz l=>K (.vec e sz l)
  | .map ks vs=>K (.map ks vs)
theorem Abw:∀{p:List Nat} {K:List Nat→Prop},spK p K↔K p
 | [],_=>Iff.rfl
 |x::r,K=>Abw (p:=r) (K:=fun r'=>K (x::r'))
theorem A76:∀{p:Inv} {K:Inv→Prop},ivK p K↔K p
 | [],_=>Iff.rfl
 |(p,v)::r,K=>(Abw (p:=p)).trans (A76 (p:=r) (K:=fun r'=>K ((p,v)::r')))
theorem A3f{f:D→(D→Prop)→Prop}(hf:∀d K,f d K↔K d):∀{l:List D} {K:List D→Prop},lK f l K↔K l
 | [],_=>Iff.rfl
 |x::r,K=>(hf x _).trans (A3f hf (l:=r) (K:=fun r'=>K (x::r')))
theorem Asu:∀{n:Nat} {d:D} {K:D→Prop},dK n d K↔K d
 |0,_,_=>Iff.rfl
 |n+1,d,K=>by
  cases d with
  |st l=>exact A3f (fun d K=>Asu (n:=n)) (K:=fun l'=>K (.st l'))
  |ptr d=>exact Asu (n:=n) (K:=fun d'=>K (.ptr d'))
  |it x=>exact Iff.rfl
  |vec e sz l=>exact Iff.rfl
  |map ks vs=>exact Iff.rfl
def svK(sv:SV)(K:SV→Prop):Prop:=match sv with
 | .no=>K .no
 | .v x=>K (.v x)
 | .vec e sz l=>K (.vec e sz l)
 | .box t=>K (.box t)
 | .st fs=>K (.st fs)
 | .F4 fs=>K (.F4 fs)
 | .Km s k ver=>K (.Km s k ver)
 | .sub s k ver n=>K (.sub s k ver n)
 | .Q2 s k ver n=>K (.Q2 s k ver n)
 | .bs s ver p lo n=>K (.bs s ver p lo n)
 | .pt s k ver off r=>K (.pt s k ver off r)
 | .rp x=>K (.rp x)
 | .par h=>K (.par h)
 | .own inv t=>ivK inv fun Kj=>dK 8 t fun t'=>K (.own Kj t')
 | .pd s ver p=>spK p fun p'=>K (.pd s ver p')
 | .Lv s ver p b=>spK p fun p'=>K (.Lv s ver p' b)
 | .bd s ver p=>spK p fun p'=>K (.bd s ver p')
 | .Mp l=>lK (dK 8) l fun l'=>K (.Mp l')
 | .sit str pos=>K (.sit str pos)
 | .mit ks vs left cur=>K (.mit ks vs left cur)
 | .yl y=>K (.yl y)
 | .cl f fs cs=>K (.cl f fs cs)
 | .Qg f s ver p=>K (.Qg f s ver p)
 | .Px f x s ver p=>K (.Px f x s ver p)
 | .bp s ver p=>spK p fun p'=>K (.bp s ver p')
 | .al s ver=>K (.al s ver)
theorem Lt{K:Nat→SV→Prop}:∀{st:St} {n:Nat},look st n K→∃cur,st[n]?=some cur∧K cur.1 cur.2
 | [],_,h=>h.elim
 |(v,sv)::_,0,h=>⟨(v,sv),rfl,h⟩
 |_::r,n+1,h=>Lt (st:=r) (n:=n) h
theorem V3{v:Nat}{sv:SV}:∀{st:St} {n:Nat} {K:St→Prop},upK st n v sv K→K (st.set n (v,sv))
 | [],_,_,h=>h
 |_::_,0,_,h=>h
 |_::r,n+1,K,h=>V3 (st:=r) (n:=n) (K:=fun r'=>K (_::r')) h
theorem Bon{sv:SV}{K:SV→Prop}:svK sv K↔K sv:=by
 cases sv with
 |own inv t=>exact(A76 (p:=inv)).trans (Asu (n:=8) (d:=t) (K:=fun t'=>K (.own inv t')))
 |pd s ver p=>exact Abw (p:=p) (K:=fun p'=>K (.pd s ver p'))
 |bd s ver p=>exact Abw (p:=p) (K:=fun p'=>K (.bd s ver p'))
 |Lv s ver p b=>exact Abw (p:=p) (K:=fun p'=>K (.Lv s ver p' b))
 |bp s ver p=>exact Abw (p:=p) (K:=fun p'=>K (.bp s ver p'))
 |Mp l=>exact A3f (fun d K=>Asu (n:=8)) (K:=fun l'=>K (.Mp l'))
 |_=>exact Iff.rfl
theorem Ar4{sv:SV}{K:SV→Prop}(h:svK sv K):K sv:=Bon.1 h
def A3j(n:Nat)(K:Nat→Prop):Prop:=match n with
 |0=>K 0
 |m+1=>K (m+1)
theorem Bfz{n:Nat}{K:Nat→Prop}(h:A3j n K):K n:=by cases n<;>exact h
def A38:List SV→(SV→Prop)→Prop
 | [],_=>False
 | [.no],K=>K .no
 | [.v x],K=>K (.v x)
 | [.vec e sz l],K=>K (.vec e sz l)
 | [.box t],K=>K (.box t)
 | [.st fs],K=>K (.st fs)
 | [.F4 fs],K=>K (.F4 fs)
 | [.Km s k ver],K=>K (.Km s k ver)
 | [.sub s k ver n],K=>K (.sub s k ver n)
 | [.Q2 s k ver n],K=>K (.Q2 s k ver n)
 | [.bs s ver p lo n],K=>K (.bs s ver p lo n)
 | [.pt s k ver off r],K=>K (.pt s k ver off r)
 | [.rp x],K=>K (.rp x)
 | [.par h],K=>K (.par h)
 | [.own inv t],K=>K (.own inv t)
 | [.pd s ver p],K=>K (.pd s ver p)
 | [.Lv s ver p b],K=>K (.Lv s ver p b)
 | [.bd s ver p],K=>K (.bd s ver p)
 | [.Mp l],K=>K (.Mp l)
 | [.sit str pos],K=>K (.sit str pos)
 | [.mit ks vs left cur],K=>K (.mit ks vs left cur)
 | [.yl y],K=>K (.yl y)
 | [.cl f fs cs],K=>K (.cl f fs cs)
 | [.Qg f s ver p],K=>K (.Qg f s ver p)
 | [.Px f x s ver p],K=>K (.Px f x s ver p)
 | [.bp s ver p],K=>K (.bp s ver p)
 | [.al s ver],K=>K (.al s ver)
 |_::y::r,K=>A38 (y::r) K
theorem Bge{sv:SV}{K:SV→Prop}(h:A38 [sv] K):K sv:=by cases sv<;>exact h
def Auo(x:Nat × SV)(K:Nat→SV→Prop):Prop:=A38 [x.2] fun b=>A3j x.1 fun a=>K a b
theorem Aup{x:Nat × SV}{K:Nat→SV→Prop}(h:Auo x K):K x.1 x.2:=
 Bfz (K:=fun a=>K a x.2) (Bge (K:=fun b=>A3j x.1 fun a=>K a b) h)
def M.wq(P:Program):M→(St→Prop)→St→Prop
 | .get i k,Q,st=>look st i fun v sv=>(k v sv).wq P Q st
 | .Pd i f k,Q,st=>look st i fun v sv=>Auo (f v sv) fun a b=>(k a b).wq P Q st
 | .set i ver sv k,Q,st=>svK sv fun sv=>upK st i ver sv fun st=>k.wq P Q st
 | .done,Q,st=>Q st
 | .K8 p,_,st=>p st
 | .fail,_,_=>False
 | .Co p k,Q,st=>∃h:p,(k h).wq P Q st
 | .all p k,Q,st=>∀b,p b→(k b).wq P Q st
 | .any l k,Q,st=>Bkn l fun i=>(k i).wq P Q st
 | .fact p k,Q,st=>p→k.wq P Q st
 | .ite b x y,Q,st=>(b=true→x.wq P Q st)∧(b=false→y.wq P Q st)
 | .call f args k,Q,st=>A5 P f args fun r az=>(k r az).wq P Q st
theorem M.Ps{P:Program}{Q:St→Prop}:∀{m:M} {st:St},m.wq P Q st→m.wp P Q st:=by
 intro m;induction m with
 |get i k ih=>
  intro st h;obtain⟨cur,h1,h2⟩:=Lt h;simp only[M.wp,h1];exact ih _ _ h2
 |Pd i f k ih=>
  intro st h;obtain⟨cur,h1,h2⟩:=Lt h;simp only[M.wp,h1];exact ih _ _ (Aup h2)
 |set i ver sv k ih=>
  intro st h;simp only[M.wq]at h;simp only[M.wp];exact ih (V3 (Ar4 (K:=fun sv=>upK st i ver sv fun st=>k.wq P Q st) h))
 |done=>intro st h;exact h
 |K8 p=>intro st h;exact h
 |fail=>intro st h;exact h
 |Co p k ih=>intro st ⟨h1,h2⟩;exact⟨h1,ih _ h2⟩
 |all p k ih=>intro st h b hb;exact ih _ (h b hb)
 |any l k ih=>intro st h;exact⟨fun i hi=>ih _ (h.out i hi)⟩
 |fact p k ih=>intro st h hp;exact ih (h hp)
 |ite b x y ihx ihy=>intro st h;exact⟨fun hb=>ihx (h.1 hb),fun hb=>ihy (h.2 hb)⟩
 |call f args k ih=>intro st ⟨D8,h1,h2⟩;exact⟨D8,h1,fun r az hp=>ih _ _ (h2 r az hp)⟩
def Bno(y:Nat)(K:Nat→St→Prop)(st:St):Prop:=look st y fun _ sv=>match sv with
 | .al s v=>look st s fun v' _=>v=v'∧K s st
 |_=>K y st
theorem Bbg{y:Nat}{K K':Nat→St→Prop}{st:St}(hK:∀y,K y st→K' y st)(h:Bno y K st):A0j y K' st:=by
 obtain⟨⟨v,sv⟩,h1,h2⟩:=Lt h;unfold A0j;rw[h1];cases sv with
 |al s v'=>
  obtain⟨⟨v2,sv2⟩,h3,h4,h5⟩:=Lt h2;simp only[h3];exact⟨h4,hK _ h5⟩
 |_=>exact hK _ h2
def Ao.go(P:Program)(Y:Hd):Ao→(St→Prop)→St→Prop
 | .op g i,Q,st=>(guarded g i.dst i.sem).wq P Q st
 | .call g d f az,Q,st=>(guarded g d (Au0 d f az)).wq P Q st
 | .Ac1 g d f az,Q,st=>(guarded g d (Apf d f az)).wq P Q st
 | .dyn g d fs x az,Q,st=>(guarded g d (Aux d fs x az)).wq P Q st
 | .inv g d tab _ x,Q,st=>(guarded g d (Auy d tab x)).wq P Q st
 | .inl g d N f az,Q,st=>(guarded g d (.K8 fun st=>Ky P f N az st fun r st'=>(Aew d r).wq P Q st')).wq P Q st
 | .inc g d N x f cs az,Q,st=>(guarded g d (.K8 fun st=>clB st x f cs=true∧Ky P f N (az++cs.map Bh.t) st fun r st'=>(Aew d r).wq P Q st')).wq P Q st
 | .yld g d y az,Q,st=>(guarded g d (.K8 (Bno y fun y'=>Y y' d az Q))).wq P Q st
def YLe(Y Y':Hd):Prop:=∀y d az (Q Q':St→Prop) st,(∀st,Q st→Q' st)→Y y d az Q st→Y' y d az Q' st
theorem Xw:YLe Lu Lu:=fun _ _ _ _ _ _ _ h=>h.elim
theorem Afd{P:Program}{g:Option (Nat × Bool)}{d:Option Nat}{p p':St→Prop}{Q Q':St→Prop}{st:St}(hp:∀st,p st→p' st)(hQ:∀st,Q st→Q' st)(h:(guarded g d (.K8 p)).wp P Q st):(guarded g d (.K8 p')).wp P Q' st:=by
 have sk:∀st,(Ci d (.F4 []) .done).wp P Q st→(Ci d (.F4 []) .done).wp P Q' st:=fun st=>M.wp_mono hQ _ _
 cases g with
 |none=>exact hp _ h
 |some tb=>
  obtain⟨t,b⟩:=tb;simp only[guarded,M.wp]at h ⊢;cases hs:st[t]? with
  |none=>simp[hs]at h
  |some cur=>
   simp only[hs]at h ⊢;split at h
   ·cases b with
    |true=>exact⟨fun hb=>hp _ (h.1 hb),fun hb=>sk _ (h.2 hb)⟩
    |false=>exact⟨fun hb=>sk _ (h.1 hb),fun hb=>hp _ (h.2 hb)⟩
   ·exact sk _ h
   ·exact h
theorem Ao.Bdz{P:Program}{Y Y':Hd}{i:Ao}{Q Q':St→Prop}{st:St}(hY:YLe Y Y')(hQ:∀st,Q st→Q' st)(h:i.go P Y Q st):i.run P Y' Q' st:=by
 cases i with
 |inl g d N f az=>exact Afd (fun st h=>Ky.mono h fun r st' h=>M.wp_mono hQ _ _ (M.Ps h)) hQ (M.Ps h)
 |inc g d N x f cs az=>exact Afd (fun st h=>⟨h.1,Ky.mono h.2 fun r st' h=>M.wp_mono hQ _ _ (M.Ps h)⟩) hQ (M.Ps h)
 |yld g d y az=>exact Afd (fun st h=>Bbg (fun y h=>hY _ _ _ _ _ _ hQ h) h) hQ (M.Ps h)
 |_=>exact M.wp_mono hQ _ _ (M.Ps h)
def Bcv(P:Program)(Y:Hd):List Ao→(St→Prop)→St→Prop
 | [],Q,st=>Q st
 |i::l,Q,st=>i.go P Y (Bcv P Y l Q) st
theorem A5g{P:Program}{Y Y':Hd}(hY:YLe Y Y'){Q Q':St→Prop}(hQ:∀st,Q st→Q' st):∀{l:List Ao} {st:St},Bcv P Y l Q st→A0m P Y' l Q' st
 | [],st,h=>hQ st h
 |i::l,st,h=>Ao.Bdz hY (fun _ h=>A5g hY (l:=l) hQ h) h
def M.wz(P:Program):M→(St→List Rd→Log→List Prop→Prop)→St→List Rd→Log→List Prop→Prop
 | .get i k,K,st,R,L,F=>look st i fun v sv=>(k v sv).wz P K st (.all i::R) L F
 | .Pd i f k,K,st,R,L,F=>look st i fun v sv=>Auo (f v sv) fun a b=>(k a b).wz P K st ((match(Bj L).contains i with|true=>.all i|false=>.Qa i f (a,b))::R) L F
 | .set i ver sv k,K,st,R,L,F=>svK sv fun sv=>upK st i ver sv fun st=>k.wz P K st R ((i,(ver,sv))::L) F
 | .done,K,st,R,L,F=>K st R L F
 | .K8 _,_,_,_,_,_=>False
 | .fail,_,_,_,_,_=>False
 | .Co p k,K,st,R,L,F=>∃h:p,(k h).wz P K st R L F
 | .all _ _,_,_,_,_,_=>False
 | .any _ _,_,_,_,_,_=>False
 | .fact p k,K,st,R,L,F=>k.wz P K st R L (p::F)
 | .ite b x y,K,st,R,L,F=>(b=true→x.wz P K st R L F)∧(b=false→y.wz P K st R L F)
 | .call f args k,K,st,R,L,F=>Fv P f args fun r az=>(k r az).wz P K st R L F
theorem M.Bt1{P:Program}{K K':St→List Rd→Log→List Prop→Prop}(hK:∀st R L F,K st R L F→K' st R L F):∀{m:M} {st:St} {R:List Rd} {L:Log} {F:List Prop},m.wz P K st R L F→m.wr P K' st R L F:=by
 intro m;induction m with
 |get i k ih=>
  intro st R L F h;obtain⟨cur,h1,h2⟩:=Lt h;refine⟨by rw[h1];simp,fun Gu h3=>?_⟩
  rw[h1]at h3;cases h3;exact ih _ _ h2
 |Pd i f k ih=>
  intro st R L F h;obtain⟨cur,h1,h2⟩:=Lt h;refine⟨by rw[h1];simp,fun Gu h3=>?_⟩
  rw[h1]at h3;cases h3;exact ih _ _ (Aup h2)
 |set i ver sv k ih=>
  intro st R L F h;simp only[M.wz]at h;simp only[M.wr];have h1:=Ar4 (K:=fun sv=>upK st i ver sv fun st=>k.wz P K st R ((i,(ver,sv))::L) F) h
  exact ih (V3 (K:=fun st=>k.wz P K st R ((i,(ver,sv))::L) F) h1)
 |done=>intro st R L F h;exact hK _ _ _ _ h
 |K8 p=>intro st R L F h;exact h
 |fail=>intro st R L F h;exact h
 |Co p k ih=>intro st R L F ⟨h1,h2⟩;exact⟨h1,ih _ h2⟩
 |all p k ih=>intro st R L F h;exact h.elim
 |any l k ih=>intro st R L F h;exact h.elim
 |fact p k ih=>intro st R L F h;exact ih (F:=p::F) h
 |ite b x y ihx ihy=>intro st R L F h;exact⟨fun hb=>ihx (h.1 hb),fun hb=>ihy (h.2 hb)⟩
 |call f args k ih=>intro st R L F ⟨r0,as0,h1,h2⟩;exact⟨r0,as0,h1,ih _ _ h2⟩
def A0n(P:Program):List Ao→(List Rec→St→Prop)→List Rec→St→Prop
 | [],K,ds,st=>K ds st
 |i::l,K,ds,st=>i.sem.wz P (fun st' R L F=>A0n P l K (ds++[⟨R,L,F⟩]) st') st [] [] []
theorem Asb{P:Program}{K K':List Rec→St→Prop}(hK:∀ds st,K ds st→K' ds st):∀{l:List Ao} {ds:List Rec} {st:St},A0n P l K ds st→Abk P l K' ds st
 | [],ds,st,h=>hK ds st h
 |i::l,ds,st,h=>M.Bt1 (fun _ _ _ _ h=>Asb (l:=l) hK h) h
def M5:St→(St→Prop)→Prop
 | [],K=>K []
 |x::r,K=>M5 r fun r'=>match x with
  |(v,sv)=>svK sv fun sv=>K ((v,sv)::r')
theorem Jo:∀{st:St} {K:St→Prop},M5 st K→K st
 | [],_,h=>h
 |(v,sv)::r,K,h=>by
  have:=Jo (st:=r) (K:=fun r'=>svK sv fun sv=>K ((v,sv)::r')) h
  exact Ar4 (K:=fun sv=>K ((v,sv)::r)) this
structure Round{X:Type}(ks:List Nat)(J:X→St)(R:X→Prop)(μ:X→Nat)(x:X)(st:St):Prop where
 out:∃x',norm ks st=J x'∧R x'∧μ x'<μ x
structure Ep(ks:List Nat)(body:(St→Prop)→St→Prop)(st:St):Prop where
 out:∃(X:Type) (J:X→St) (R:X→Prop) (μ:X→Nat),(∃x,norm ks st=J x∧R x)∧∀x,R x→M5 (J x) (body (Round ks J R μ x))
def Dy:St→List (Nat × SV)→St
 |st,[]=>st
 |st,(n,sv)::r=>Dy (st.set n (0,sv)) r
theorem Ep.by{X:Type}{ks:List Nat}{body:(St→Prop)→St→Prop}{st:St}(Aan:X→List (Nat × SV))(R:X→Prop)(μ:X→Nat)(x0:X)
 (h0:norm ks st=Dy (norm ks st) (Aan x0)) (hR:R x0) (h:∀x,R x→M5 (Dy (norm ks st) (Aan x)) (body (Round ks (fun x=>Dy (norm ks st) (Aan x)) R μ x))):Ep ks body st:=
 ⟨X,fun x=>Dy (norm ks st) (Aan x),R,μ,⟨x0,h0,hR⟩,h⟩
theorem Round.by{X:Type}{ks:List Nat}{J:X→St}{R:X→Prop}{μ:X→Nat}{x:X}{st:St}(x':X)(h1:norm ks st=J x')(h2:R x')(h3:μ x'<μ x):Round ks J R μ x st:=⟨x',h1,h2,h3⟩
structure Asd{X:Type}(ks:List Nat)(J:X→St)(R:X→Prop)(st:St):Prop where
 out:∃x,norm ks st=J x∧R x
theorem Asd.by{X:Type}{ks:List Nat}{J:X→St}{R:X→Prop}{st:St}(x:X)(h1:norm ks st=J x)(h2:R x):Asd ks J R st:=⟨x,h1,h2⟩
structure A9d(ks:List Nat)(fa:(St→Prop)→St→Prop)(fb:St→Prop)(st:St):Prop where
 out:∃(X:Type) (J:X→St) (R:X→Prop),(∀x,R x→M5 (J x) fb)∧fa (Asd ks J R) st
theorem A9d.by{X:Type}{ks:List Nat}{fa:(St→Prop)→St→Prop}{fb:St→Prop}{st:St}(Aan:X→List (Nat × SV))(R:X→Prop)
 (ha:fa (Asd ks (fun x=>Dy (norm ks st) (Aan x)) R) st) (hb:∀x,R x→M5 (Dy (norm ks st) (Aan x)) fb):A9d ks fa fb st:=
 ⟨X,_,R,hb,ha⟩
def P3(P:Program)(n nc y l:Nat)(rec:Loop)(d:Option Nat)(K:St→Prop)(j:Option (Option Nat))(st:St):Prop:=
 M5 (H8 nc n (st.drop nc)) fun st4=>look st4 y fun v _=>upK st4 y (v+1) (.yl (Bc0 l rec j)) fun st5=>(Ci d (.v (.bool j.isNone)) .done).wq P K st5
theorem Ac8{P:Program}{n nc y l:Nat}{rec:Loop}{d:Option Nat}{K K':St→Prop}{j:Option (Option Nat)}{st:St}(hK:∀st,K st→K' st)(h:P3 P n nc y l rec d K j st):Ac7 P n nc y l rec d K' j st:=by
 have h1:=Jo (K:=fun st4=>look st4 y fun v _=>upK st4 y (v+1) (.yl (Bc0 l rec j)) fun st5=>(Ci d (.v (.bool j.isNone)) .done).wq P K st5) h
 obtain⟨cur,h2,h3⟩:=Lt h1;unfold Ac7;rw[h2];exact M.wp_mono hK _ _ (M.Ps (V3 (K:=fun st5=>(Ci d (.v (.bool j.isNone)) .done).wq P K st5) h3))
def Auv(P:Program)(fa fb:D8→St→Prop)(n nc off:Nat)(ps:List Nat)(l:Nat)(rec:Loop):Hd:=fun y d xs K st=>
 look st y fun v sv=>match sv with
  | .yl z=>match z with
    | .ready l' J7=>l'=l∧J7=rec∧xs.length=ps.length∧upK st y (v+1) .no fun st1=>M5 (Yz nc off ps xs st1)
      (fa ⟨fb ⟨P3 P n nc y l rec d K none,fun id=>P3 P n nc y l rec d K (some (some id)),P3 P n nc y l rec d K (some none)⟩,fun _ _=>False,fun _=>False⟩)
    |_=>False
  |_=>False
theorem A34{P:Program}{fa fb fa' fb':D8→St→Prop}{n nc off:Nat}{ps:List Nat}{l:Nat}{rec:Loop}
 (ha:∀{Q Q':D8} {st:St},(∀st,Q.Sx st→Q'.Sx st)→(∀i st,Q.ex i st→Q'.ex i st)→(∀st,Q.ret st→Q'.ret st)→fa Q st→fa' Q' st)
 (hb:∀{Q Q':D8} {st:St},(∀st,Q.Sx st→Q'.Sx st)→(∀i st,Q.ex i st→Q'.ex i st)→(∀st,Q.ret st→Q'.ret st)→fb Q st→fb' Q' st):
 YLe (Auv P fa fb n nc off ps l rec) (An2 P fa' fb' n nc off ps l rec):=by
 intro y d xs K K' st hK h;obtain⟨cur,h1,h2⟩:=Lt h;obtain⟨v,sv⟩:=cur;unfold An2;rw[h1];cases sv with
 |yl z=>
  cases z with
  |ready l' J7=>
   obtain⟨k1,k2,k3,k4⟩:=h2;refine⟨k1,k2,k3,?_⟩;have k5:=V3 (K:=fun st1=>M5 (Yz nc off ps xs st1)
    (fa ⟨fb ⟨P3 P n nc y l rec d K none,fun id=>P3 P n nc y l rec d K (some (some id)),P3 P n nc y l rec d K (some none)⟩,fun _ _=>False,fun _=>False⟩)) k4
   have k6:=Jo k5;refine ha (Q:=⟨fb ⟨P3 P n nc y l rec d K none,fun id=>P3 P n nc y l rec d K (some (some id)),P3 P n nc y l rec d K (some none)⟩,fun _ _=>False,fun _=>False⟩) (fun st h=>?_) (fun _ _ h=>h) (fun _ h=>h) k6
   exact hb (Q:=⟨P3 P n nc y l rec d K none,fun id=>P3 P n nc y l rec d K (some (some id)),P3 P n nc y l rec d K (some none)⟩) (fun st h=>Ac8 hK h) (fun i st h=>Ac8 hK h) (fun st h=>Ac8 hK h) h
  |jump l' J7 j=>exact h2.elim
 |_=>exact h2.elim
def Ry(n N y l:Nat)(rec:Loop)(Q:D8)(st:St):Prop:=look st y fun _ sv=>match sv with
 | .yl z=>match z with
   | .ready l' J7=>l'=l∧J7=rec∧M5 (H8 n N (st.drop n)) Q.Sx
   | .jump l' _ j=>l'=l∧match j with
     |none=>M5 (H8 n N (st.drop n)) Q.ret
     |some id=>M5 (H8 n N (st.drop n)) (Q.ex id)
 |_=>False
theorem Y9{n N y l:Nat}{rec:Loop}{Q Q':D8}{st:St}(h1:∀st,Q.Sx st→Q'.Sx st)(h2:∀i st,Q.ex i st→Q'.ex i st)(h3:∀st,Q.ret st→Q'.ret st)(h:Ry n N y l rec Q st):Y8 n N y l rec Q' st:=by
 obtain⟨cur,k1,k2⟩:=Lt h;obtain⟨v,sv⟩:=cur;unfold Y8;rw[k1];cases sv with
 |yl z=>
  cases z with
  |ready l' J7=>exact⟨k2.1,k2.2.1,h1 _ (Jo k2.2.2)⟩
  |jump l' J7 j=>
   cases j with
   |none=>exact⟨k2.1,h3 _ (Jo k2.2)⟩
   |some id=>exact⟨k2.1,h2 _ _ (Jo k2.2)⟩
 |_=>exact k2.elim
def Bs6(st:St)(g:Nat)(f:FuncId)(K:List (Nat × Nat)→List (Nat × Nat)→Prop)(K':Nat→I→Nat→Nat→List Nat→Prop):Prop:=look st g fun v sv=>match sv with
 | .cl f' fs cs=>f'=f∧K fs cs
 | .Px f' x s ver p=>f'=f∧K' v x s ver p
 |_=>False
def Mc(P:Program):Ee→Hd→D8→St→Prop
 | .skip,_,Q,st=>Q.Sx st
 | .ops l,Y,Q,st=>Bcv P Y l Q.Sx st
 | .Kf ms l,_,Q,st=>A0n P l (Dw st ms Q.Sx) [] st
 | .A1a ms l x,Y,Q,st=>A0n P l (Dw st ms (x.go P Y Q.Sx)) [] st
 | .seq a b,Y,Q,st=>Mc P a Y ⟨Mc P b Y Q,Q.ex,Q.ret⟩ st
 | .Aww ks a b,Y,Q,st=>A9d ks (fun K=>Mc P a Y ⟨K,Q.ex,Q.ret⟩) (Mc P b Y Q) st
 | .cond c a b,Y,Q,st=>(Bj1 c fun t=>.ite t (.K8 (Mc P a Y Q)) (.K8 (Mc P b Y Q))).wq P (fun _=>False) st
 | .block id a,Y,Q,st=>Mc P a Y ⟨Q.Sx,brk id Q,Q.ret⟩ st
 | .loop ks a,Y,Q,st=>Ep ks (fun K=>Mc P a Y ⟨K,Q.ex,Q.ret⟩) st
 | .exit id,_,Q,st=>Q.ex id st
 | .ret,_,Q,st=>Q.ret st
 | .Ajh g f n nc ps it sa sb,_,Q,st=>Bs6 st g f (fun fs cs=>fs.length+1+cs.length≤n∧∀(l:Nat) (rec:Loop),M5 (Agx n st fs cs l rec)
  (Mc P it (Auv P (Mc P sa Lu) (Mc P sb Lu) n nc n ps l rec) ⟨Ry n nc fs.length l rec Q,fun _ _=>False,Ry n nc fs.length l rec Q⟩))
  fun v x s ver p=>(3≤n∧s≠g)∧∀(l:Nat) (rec:Loop),M5 (Acu n g v x s ver p st l rec)
  (Mc P it (Auv P (Mc P sa Lu) (Mc P sb Lu) n nc n ps l rec) ⟨Ry n nc 0 l rec Q,fun _ _=>False,Ry n nc 0 l rec Q⟩)
theorem Aor{P:Program}:∀{s:Ee} {Y Y':Hd} {Q Q':D8} {st:St},YLe Y Y'→(∀st,Q.Sx st→Q'.Sx st)→(∀i st,Q.ex i st→Q'.ex i st)→(∀st,Q.ret st→Q'.ret st)→Mc P s Y Q st→wpS P s Y' Q' st:=by
 intro s;induction s with
 |skip=>intro Y Y' Q Q' st hY h1 h2 h3 h;exact h1 _ h
 |ops l=>intro Y Y' Q Q' st hY h1 h2 h3 h;exact A5g hY h1 h
 |Kf es l=>intro Y Y' Q Q' st hY h1 h2 h3 h;exact Asb (fun _ _ h=>⟨h.ok,h.fits,h.base,fun hf=>h1 _ (h.go hf)⟩) h
 |A1a ms l x=>intro Y Y' Q Q' st hY h1 h2 h3 h;exact Asb (fun _ _ h=>⟨h.ok,h.fits,h.base,fun hf=>Ao.Bdz hY h1 (h.go hf)⟩) h
 |seq a b iha ihb=>intro Y Y' Q Q' st hY h1 h2 h3 h;exact iha (Q:=⟨Mc P b Y Q,Q.ex,Q.ret⟩) (Q':=⟨wpS P b Y' Q',Q'.ex,Q'.ret⟩) hY (fun st h=>ihb hY h1 h2 h3 h) h2 h3 h
 |Aww ks a b iha ihb=>
  intro Y Y' Q Q' st hY h1 h2 h3 ⟨X,J,R,hb,ha⟩;exact⟨X,J,R,fun x hx=>ihb hY h1 h2 h3 (Jo (K:=Mc P b Y Q) (hb x hx)),iha (Q:=⟨Asd ks J R,Q.ex,Q.ret⟩) (Q':=⟨fun st'=>∃x,norm ks st'=J x∧R x,Q'.ex,Q'.ret⟩) hY (fun _ h=>h.out) h2 h3 ha⟩
 |cond c a b iha ihb=>
  intro Y Y' Q Q' st hY h1 h2 h3 h;have h:=M.Ps h;unfold wpS;have aux:∀(t:Bool),(M.ite t (.K8 (Mc P a Y Q)) (.K8 (Mc P b Y Q))).wp P (fun _=>False) st→(M.ite t (.K8 (wpS P a Y' Q')) (.K8 (wpS P b Y' Q'))).wp P (fun _=>False) st:=by
   intro t ⟨g1,g2⟩;exact⟨fun hb=>iha hY h1 h2 h3 (g1 hb),fun hb=>ihb hY h1 h2 h3 (g2 hb)⟩
  unfold Bj1 at h ⊢;obtain⟨i,g1,g2⟩:=A31 h;have g3:(match i with| .bool t=>M.ite t (.K8 (wpS P a Y' Q')) (.K8 (wpS P b Y' Q'))|_=>.fail).wp P (fun _=>False) st:=by
   split at g1
   ·exact aux _ g1
   ·exact g1.elim
  rcases g2 with⟨n,ver,rfl,hn⟩|rfl|⟨e,sz,rfl,rfl⟩
  ·simp only[Qi,M.wp,hn];exact g3
  ·exact g3
  ·exact g3
 |block id a ih=>
  intro Y Y' Q Q' st hY h1 h2 h3 h;refine ih (Q:=⟨Q.Sx,brk id Q,Q.ret⟩) (Q':=⟨Q'.Sx,brk id Q',Q'.ret⟩) hY h1 ?_ h3 h;intro i st h;simp only[brk]at h ⊢;split
  ·rename_i hi;rw[if_pos hi]at h;exact h1 _ h
  ·rename_i hi;rw[if_neg hi]at h;exact h2 _ _ h
 |loop ks a ih=>
  intro Y Y' Q Q' st hY h1 h2 h3 ⟨X,J,R,μ,h4,h5⟩;exact⟨X,J,R,μ,h4,fun x hx=>ih (Q:=⟨Round ks J R μ x,Q.ex,Q.ret⟩) (Q':=⟨A68 ks J R μ x,Q'.ex,Q'.ret⟩) hY (fun _ h=>h.out) h2 h3 (Jo (K:=Mc P a Y ⟨Round ks J R μ x,Q.ex,Q.ret⟩) (h5 x hx))⟩
 |exit id=>intro Y Y' Q Q' st hY h1 h2 h3 h;exact h2 _ _ h
 |ret=>intro Y Y' Q Q' st hY h1 h2 h3 h;exact h3 _ h
 |Ajh g f n nc ps it sa sb ihI ihA ihB=>
  intro Y Y' Q Q' st hY h1 h2 h3 h;obtain⟨cur,g1,g2⟩:=Lt h;obtain⟨v,sv⟩:=cur;unfold wpS Bho;rw[g1];cases sv with
  |cl f' fs cs=>
   obtain⟨k1,k2,k3⟩:=g2;refine⟨k1,k2,fun l rec=>?_⟩
   exact ihI (Q:=⟨Ry n nc fs.length l rec Q,fun _ _=>False,Ry n nc fs.length l rec Q⟩) (A34 (fun h1 h2 h3 h=>ihA Xw h1 h2 h3 h) (fun h1 h2 h3 h=>ihB Xw h1 h2 h3 h)) (fun st h=>Y9 h1 h2 h3 h) (fun _ _ h=>h) (fun st h=>Y9 h1 h2 h3 h)
    (Jo (K:=Mc P it (Auv P (Mc P sa Lu) (Mc P sb Lu) n nc n ps l rec) ⟨Ry n nc fs.length l rec Q,fun _ _=>False,Ry n nc fs.length l rec Q⟩) (k3 l rec))
  |Px f' x s ver p=>
   obtain⟨k1,k2,k3⟩:=g2;refine⟨k1,k2,fun l rec=>?_⟩
   exact ihI (Q:=⟨Ry n nc 0 l rec Q,fun _ _=>False,Ry n nc 0 l rec Q⟩) (A34 (fun h1 h2 h3 h=>ihA Xw h1 h2 h3 h) (fun h1 h2 h3 h=>ihB Xw h1 h2 h3 h)) (fun st h=>Y9 h1 h2 h3 h) (fun _ _ h=>h) (fun st h=>Y9 h1 h2 h3 h)
    (Jo (K:=Mc P it (Auv P (Mc P sa Lu) (Mc P sb Lu) n nc n ps l rec) ⟨Ry n nc 0 l rec Q,fun _ _=>False,Ry n nc 0 l rec Q⟩) (k3 l rec))
  |_=>exact g2.elim
def Avt(P:Program)(N:Nat)(rs:List Rr)(args:List SV)(R:SV→List SV→Prop)(st:St):Prop:=
 (Afy rs fun us=>.K8 fun st'=>Gg (R (Aba us) (Hz N st' 0 args)) (Hz N st' 0 args)).wq P (fun _=>False) st
def wqF(P:Program)(N:Nat)(s:Ee)(rs:List Rr)(args:List SV)(R:SV→List SV→Prop):Prop:=
 M5 (entry N args) fun st=>Mc P s Lu ⟨Avt P N rs args R,Pe,Avt P N rs args R⟩ st
theorem Bs2{P:Program}{N:Nat}{s:Ee}{rs:List Rr}{args:List SV}{R:SV→List SV→Prop}(h:wqF P N s rs args R):wpF P N s rs args R:=
 Aor (Q:=⟨Avt P N rs args R,Pe,Avt P N rs args R⟩) (Q':=⟨Fin P N rs args R,Pe,Fin P N rs args R⟩) Xw (fun _ h=>M.Ps h) (fun _ _ h=>h) (fun _ h=>M.Ps h)
  (Jo (K:=fun st=>Mc P s Lu ⟨Avt P N rs args R,Pe,Avt P N rs args R⟩ st) h)
def Aov(P:Program)(N n:Nat)(args:List SV)(R:SV→List SV→Prop)(st:St):Prop:=
 (M.get n fun _ sv=>match sv with
   | .vec e sz l=>.K8 fun st'=>Gg (R (.vec e sz l) (Hz N st' 0 args)) (Hz N st' 0 args)
   |_=>.fail).wq P (fun _=>False) st
def Bs1(P:Program)(N:Nat)(s:Ee)(n:Nat)(args:List SV)(R:SV→List SV→Prop):Prop:=
 M5 (entry N args) fun st=>Mc P s Lu ⟨Aov P N n args R,Pe,Aov P N n args R⟩ st
theorem Boq{P:Program}{N:Nat}{s:Ee}{n:Nat}{args:List SV}{R:SV→List SV→Prop}(h:Bs1 P N s n args R):Bsz P N s n args R:=
 Aor (Q:=⟨Aov P N n args R,Pe,Aov P N n args R⟩) (Q':=⟨Avu P N n args R,Pe,Avu P N n args R⟩) Xw (fun _ h=>M.Ps h) (fun _ _ h=>h) (fun _ h=>M.Ps h)
  (Jo (K:=fun st=>Mc P s Lu ⟨Aov P N n args R,Pe,Aov P N n args R⟩ st) h)

theorem Cd{n:Int}(h: -9223372036854775808≤n∧n≤9223372036854775807):IntKind.i64.wrap n=n:=by rw[IntKind.wrap_i64];omega
theorem zwj{j:Nat}(h:j<9223372036854775807):IntKind.i64.wrap ((j:Int)+1)=((j+1:Nat):Int):=(Cd (by omega)).trans (by omega)
theorem Mj{k n:Nat}(h:k<n)(hn:n≤maxLen):IntKind.i64.wrap ((k:Int)+1)=((k+1:Nat):Int):=by
 simp only[maxLen]at hn;rw[Cd (by omega)]
 rfl
theorem SV.E1{a b:Bool}(h:a=b):SV.v (.bool a)=SV.v (.bool b):=congrArg (fun b=>SV.v (.bool b)) h
theorem F0{l:List I}{sz:Nat}(h:(l.all fun u=>u.size==sz)=true):∀u∈l,u.size=sz:=by
 intro u hu;simpa using Ew.1 h u hu
end Go.Ab
