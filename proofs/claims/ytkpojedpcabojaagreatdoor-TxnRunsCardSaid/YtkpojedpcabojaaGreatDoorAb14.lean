/- Lemmas -/
import Derived.Test.YtkpojedpcabojaaGreatDoorAb10
set_option linter.unusedVariables false
set_option linter.unusedSimpArgs false
namespace Go.Ab
def R0(d:Nat)(x:D6):M:=match x with
 | .c x=>Jz d (.v x)
 | .Ahc e sz=>Jz d (.vec e sz [])
 | .t n=>.get n fun ver sv=>match sv with
   | .v x=>Jz d (.v x)
   | .vec e sz l=>.Hh (n≠d) fun _=>.set n (ver+1) .no (Jz d (.vec e sz l))
   | .tup fs=>.Hh (n≠d) fun _=>.set n (ver+1) .no (Jz d (.tup fs))
   | .Ati l=>.Hh (n≠d) fun _=>.set n (ver+1) .no (Jz d (.Ati l))
   | .st fs=>.Hh (n≠d) fun _=>.set n (ver+1) .no (Jz d (.st fs))
   | .rp x=>Jz d (.rp x)
   | .no=>Jz d .no
   | .pt s k ver off r=>.Hh (d≠s) fun _=>Jz d (.pt s k ver off r)
   | .sub s k v m=>.get s fun cur sv'=>.Hh (v=cur) fun _=>match k,sv' with
     |0,.vec e sz l=>if s=d then .set d (cur+1) (.vec e sz (l.take m)) .done else Lw x fun u=>Jz d (.v u)
     |_,_=>Lw x fun u=>Jz d (.v u)
   | .suf _ _ _ _=>.fail
   | .sit _ _=>.fail
   | .mit _ _ _ _=>.fail
   | .yl _=>.fail
   | .al _ _=>.fail
   | .cl _ _ _=>.fail
   | .kcl _ _ _ _=>.fail
   | .bp _ _ _=>.fail
   | .ocl _ _ _ _ _=>.fail
   | .bs _ _ _ _ _=>.fail
   | .bor _ _ _=>Lw x fun u=>Jz d (.v u)
   | .box _=>.Hh (n≠d) fun _=>Jz d (.pt n 0 ver 0 [])
   | .par h=>.get h fun ver sv=>.Hh (d≠h) fun _=>match sv with
     | .box _=>Jz d (.pt h 0 ver 0 [])
     | .vec _ _ _=>Lw (.t n) fun u=>Jz d (.v u)
     | .own _ t=>match t with
       | .ptr _=>Jz d (.pd h ver [0])
       | .vec _ _ _=>Jz d (.bd h ver [])
       | .map _ _=>Jz d (.bd h ver [])
       |_=>.fail
     |_=>.fail
   | .own _ t=>.Hh (n≠d) fun _=>match t with
     | .ptr _=>Jz d (.pd n ver [0])
     |t=>.set n (ver+1) .no (Jz d (.own [] t))
   | .pd s ver p=>.Hh (d≠s) fun _=>Jz d (.pd s ver p)
   | .pdt s ver p b=>.Hh (d≠s) fun _=>Jz d (.pdt s ver p b)
   | .bd s ver p=>.Hh (d≠s) fun _=>Jz d (.bd s ver p)
section
variable{P:Program}{N:Nat}{G:Mem}{σ:Lab}{Fr:Mem}{w0:Base}{w:World}{st:St}{a:Act}
theorem M1{d:Nat}{sv:SV}{Q:St→Prop}(h:(Jz d sv).wp P Q st)(hf:∀v,sv.fresh v=sv:=by intro _;rfl):(Gj (some d) sv .done).wp P Q st:=by
 unfold Jz at h;unfold Gj;simpa only[hf]using h
theorem Rel.Ax2{Q:St→Prop}{d:Nat}{x:I}{c:Value}(h:Rel G σ Fr w0 st a w)(hdn:d<w0.n)(hc:C7 G x c)(hq:(Jz d (.v x)).wp P Q st):
 ∃σ' st',Rel G σ' Fr w0 st' (a.put (some d) c) w∧Q st':=h.A8n (by rintro _ ⟨⟩;exact hdn) hc (M1 hq)
theorem Rel.A7u{Q:St→Prop}{n d ver:Nat}{sv:SV}{c:Value}(h:Rel G σ Fr w0 st a w)(hdn:d<w0.n)(hs:st[n]?=some (ver,sv))(Cf:n≠d)(hr:sv.root=none)(hc:Ab1 G σ w n sv c)(hnp:∀h,sv≠ .par h)
 (hq:(M.set n (ver+1) .no (Jz d sv)).wp P Q st):∃σ' st',Rel G σ' Fr w0 st' (a.put (some d) c) w∧Q st':=by
 simp only[M.wp,Jz]at hq;cases hd:st[d]? with
 |none=>
  have:(st.set n (ver+1,SV.no))[d]?=none:=by rw[B3 Cf];exact hd
  simp[this]at hq
 |some cur=>
  have:(st.set n (ver+1,SV.no))[d]?=some cur:=by rw[B3 Cf];exact hd
  simp only[this]at hq;exact⟨_,_,h.move hdn hs hd (Ne.symm Cf) (Ej _) (Ej _) hr hc hnp,hq⟩
theorem Tc{o:Oper}{x:Operand}(ho:o.op= .move x∨o.op= .assign x):(execOp a.eval o).run P w= .ok (.value (a.eval x)) w:=by
 rcases ho with ho|ho<;>simp[execOp,ho]
theorem Tm{o:Oper}{d:Nat}{x:Operand}{x':D6}(hd:o.dst=some d)(ho:o.op= .move x∨o.op= .assign x)(hx:Jj N x x'=true):Sound P N o (R0 d x'):=by
 intro G σ Fr w0 st a w Q next E hN hr hw hn C2
 subst hN;have hdd:∀d',some d=some d'→d'<w0.n:=by rintro _ ⟨⟩;exact C2 d hd
 have fin:∀{G' σ' st'},G.le G'→Rel G' σ' Fr w0 st' (a.put (some d) (a.eval x)) w→Q st'→o.wp P a w next E:=fun hG h1 h2=>
  Jt (Tc ho) (by rw[hd];exact hn _ _ _ _ _ hG h1 h2)
 have A5p:∀{n:Nat},x'= .t n→(Lw (.t n) fun u=>Jz d (.v u)).wp P Q st→o.wp P a w next E:=by
  intro n hx' hq;subst hx';obtain⟨u,G',σ',st',hG,Hm,h1,hv⟩:=L6 hr hx hq;obtain⟨σ'',As9,r1,r2⟩:=Hm.Ax2 (C2 d hd) hv h1;exact fin hG r1 r2
 cases x' with
 |c i=>
  obtain⟨σ',st',r1,r2⟩:=hr.Ax2 (C2 d hd) (Nn hx G) hw;exact fin (Mem.le.refl G) r1 r2
 |Ahc e sz=>
  obtain⟨σ',st',r1,r2⟩:=hr.Gj hdd (d:=some d) (sv:=.vec e sz []) (c:=a.eval x) (fun _ _ _ _=>by
   rw[Le hx];exact⟨[],Arr.nil w e sz,rfl,by simp,by simp[Value.ownBlock]⟩) hw
  exact fin (Mem.le.refl G) r1 r2
 |t n=>
  obtain⟨rfl,Agv⟩:=J0 hx;have hw0:=hw;simp only[R0,M.wp]at hw;cases hs:st[n]? with
  |none=>simp[hs]at hw
  |some cur=>
   obtain⟨ver,sv⟩:=cur;simp only[hs]at hw;have Dh:=hr.slot Agv hs;cases sv with
   |v y=>
    obtain⟨σ',st',r1,r2⟩:=hr.Ax2 (C2 d hd) Dh hw;exact fin (Mem.le.refl G) r1 r2
   |no=>
    obtain⟨σ',st',r1,r2⟩:=hr.Gj hdd (d:=some d) (sv:=.no) (c:=a.eval (.tmp n)) (fun _ _ _ _=>trivial) hw
    exact fin (Mem.le.refl G) r1 r2
   |rp y=>
    obtain⟨σ',st',r1,r2⟩:=hr.Gj hdd (d:=some d) (sv:=.rp y) (c:=a.eval (.tmp n)) (fun _ _ _ _=>Dh) hw
    exact fin (Mem.le.refl G) r1 r2
   |vec e sz l=>
    obtain⟨Cf,hw⟩:=hw;obtain⟨σ',st',r1,r2⟩:=hr.A7u (C2 d hd) hs Cf rfl Dh (by intro _ e;cases e) hw
    exact fin (Mem.le.refl G) r1 r2
   |tup fs=>
    obtain⟨Cf,hw⟩:=hw;obtain⟨σ',st',r1,r2⟩:=hr.A7u (C2 d hd) hs Cf rfl Dh (by intro _ e;cases e) hw
    exact fin (Mem.le.refl G) r1 r2
   |Ati fs=>
    obtain⟨Cf,hw⟩:=hw;obtain⟨σ',st',r1,r2⟩:=hr.A7u (C2 d hd) hs Cf rfl Dh (by intro _ e;cases e) hw
    exact fin (Mem.le.refl G) r1 r2
   |st fs=>
    obtain⟨Cf,hw⟩:=hw;obtain⟨σ',st',r1,r2⟩:=hr.A7u (C2 d hd) hs Cf rfl Dh (by intro _ e;cases e) hw
    exact fin (Mem.le.refl G) r1 r2
   |box t=>
    obtain⟨Cf,hw⟩:=hw;obtain⟨b,cells,ty,h1,h2,_⟩:=Dh
    replace hw:=M1 hw
    obtain⟨σ',st',r1,r2⟩:=hr.A7v (d:=some d) hdd hs (by simpa using Ne.symm Cf) rfl h2 hw
    rw[←h1]at r1;exact fin (Mem.le.refl G) r1 r2
   |pt s k Gu off r=>
    obtain⟨Cf,hw⟩:=hw;obtain⟨cur,h1,h2,h3⟩:=Dh;obtain⟨σ',st',r1,r2⟩:=hr.Gj hdd (d:=some d) (sv:=.pt s k Gu off r) (c:=a.eval (.tmp n)) (fun d' hd' ver _=>by
     refine⟨cur,?_,h2,fun e=>?_⟩
     ·rw[B3 (by rintro rfl;cases hd';exact Cf rfl)];exact h1
     ·obtain⟨b,h4,h5⟩:=h3 e;exact⟨b,Lab.Ade.2 ⟨by rintro rfl;cases hd';exact Cf rfl,h4⟩,h5⟩) hw
    exact fin (Mem.le.refl G) r1 r2
   |bor s k v=>exact A5p rfl hw
   |own inv t=>
    obtain⟨Cf,hw⟩:=hw;have hv:val a w0 n=a.eval (.tmp n):=J2 (by rw[hr.n];exact Agv)
    have Akd:Ac5 G σ w n t (val a w0 n):=by rw[hv];exact Dh
    split at hw
    ·replace hw:=M1 hw
     obtain⟨σ',st',r1,r2⟩:=hr.Gj hdd (d:=some d) (c:=a.eval (.tmp n)) (fun d' hd' ver _=>by
      cases hd';refine⟨_,by rw[B3 (Ne.symm Cf)];exact hs,Bz _,fun Ap9 t' e _ _=>?_⟩
      cases e;rw[Jr Cf, ←hv];exact Akd.pt) hw
     exact fin (Mem.le.refl G) r1 r2
    ·obtain⟨σ',st',r1,r2⟩:=hr.A7u (C2 d hd) hs Cf rfl Dh (by intro _ e;cases e) hw
     exact fin (Mem.le.refl G) r1 r2
   |pdt s Gu p b=>
    obtain⟨Cf,hw⟩:=hw;obtain⟨c0,hc0,Dh⟩:=Dh;obtain⟨cur,h1,h2,h3⟩:=Dh
    replace hw:=M1 hw
    obtain⟨σ',st',r1,r2⟩:=hr.Gj hdd (d:=some d) (sv:=.pdt s Gu p b) (c:=a.eval (.tmp n)) (fun d' hd' ver _=>by
     cases hd';refine⟨c0,hc0,cur,by rw[B3 Cf];exact h1,h2,fun inv t e hp ha=>?_⟩
     rw[Jr (Ne.symm Cf)];exact h3 inv t e hp ha) hw
    exact fin (Mem.le.refl G) r1 r2
   |pd s Gu p=>
    obtain⟨Cf,hw⟩:=hw;obtain⟨cur,h1,h2,h3⟩:=Dh
    replace hw:=M1 hw
    obtain⟨σ',st',r1,r2⟩:=hr.Gj hdd (d:=some d) (sv:=.pd s Gu p) (c:=a.eval (.tmp n)) (fun d' hd' ver _=>by
     cases hd';refine⟨cur,by rw[B3 Cf];exact h1,h2,fun inv t e hp ha=>?_⟩
     rw[Jr (Ne.symm Cf)];exact h3 inv t e hp ha) hw
    exact fin (Mem.le.refl G) r1 r2
   |bd s Gu p=>
    obtain⟨Cf,hw⟩:=hw;obtain⟨cur,h1,h2,h3⟩:=Dh
    replace hw:=M1 hw
    obtain⟨σ',st',r1,r2⟩:=hr.Gj hdd (d:=some d) (sv:=.bd s Gu p) (c:=a.eval (.tmp n)) (fun d' hd' ver _=>by
     cases hd';refine⟨cur,by rw[B3 Cf];exact h1,h2,fun inv t e ha=>?_⟩
     rw[Jr (Ne.symm Cf)];exact h3 inv t e ha) hw
    exact fin (Mem.le.refl G) r1 r2
   |par h=>
    obtain⟨hv,hle⟩:=hr.As8 n ver h hs;rw[J2 (by rw[hr.n];exact Agv)]at hv
    simp only[M.wp]at hw;cases hh:st[h]? with
    |none=>simp[hh]at hw
    |some cur=>
     obtain⟨Gu,sv'⟩:=cur;simp only[hh]at hw;obtain⟨Cf,hw⟩:=hw;have Ak4:=hr.Eb h Gu sv' hh;rw[←hv]at Ak4;split at hw
     ·obtain⟨b,cells,ty,h1,h2,_⟩:=Ak4
      replace hw:=M1 hw
      obtain⟨σ',st',r1,r2⟩:=hr.A7v (d:=some d) hdd hh (by simpa using Cf) rfl h2 hw
      rw[←h1]at r1;exact fin (Mem.le.refl G) r1 r2
     ·exact A5p rfl hw
     ·rename_i inv t;have Akd:Ac5 G σ w h t (val a w0 h):=by rw[←hv];exact Ak4
      have pt:∀{sv:SV},(∀v,sv.fresh v=sv)→(∀h,sv≠ .par h)→(∀inv t,sv≠ .own inv t)→(∀vv:Nat→Value,vv h=val a w0 h→∀σ' st',st'[h]?=some (Gu,.own inv t)→Ait G σ' w st' vv d sv (a.eval (.tmp n)))→(Jz d sv).wp P Q st→o.wp P a w next E:=by
       intro sv hf hp hno hsv hw;obtain⟨σ',st',r1,r2⟩:=hr.Gj hdd (d:=some d) (c:=a.eval (.tmp n)) (fun d' hd' ver _=>by
        cases hd';exact hsv _ (Jr (Ne.symm Cf)) _ _ (by rw[B3 Cf];exact hh)) (M1 hw hf) (fun _ e=>absurd e (hp _)) hno
       exact fin (Mem.le.refl G) r1 r2
      split at hw
      ·refine pt (sv:=.pd h Gu [0]) (by intro _;rfl) (by intro _ e;cases e) (by intro _ _ e;cases e) (fun vv hvv σ' st' hst=>⟨_,hst,Bz _,fun Ap9 t' e _ _=>?_⟩) hw
       cases e;rw[hvv,hv];exact Akd.pt
      ·refine pt (sv:=.bd h Gu []) (by intro _;rfl) (by intro _ e;cases e) (by intro _ _ e;cases e) (fun vv hvv σ' st' hst=>⟨_,hst,Bz _,fun Ap9 t' e _=>?_⟩) hw
       cases e;rw[hvv,hv];exact Akd.hd rfl
      ·refine pt (sv:=.bd h Gu []) (by intro _;rfl) (by intro _ e;cases e) (by intro _ _ e;cases e) (fun vv hvv σ' st' hst=>⟨_,hst,Bz _,fun Ap9 t' e _=>?_⟩) hw
       cases e;rw[hvv,hv];exact Akd.hd rfl
      ·exact hw.elim
     ·exact hw.elim
   |suf s k v m=>exact hw.elim
   |sit _ _=>exact hw.elim
   |mit _ _ _ _=>exact hw.elim
   |yl _=>exact hw.elim
   |al _ _=>exact hw.elim
   |cl _ _ _=>exact hw.elim
   |kcl _ _ _ _=>exact hw.elim
   |bp _ _ _=>exact hw.elim
   |ocl _ _ _ _ _=>exact hw.elim
   |bs s v p lo m=>exact hw.elim
   |sub s k v m=>
    obtain⟨cur,h1,h2,h3⟩:=Dh;simp only[M.wp,h1]at hw;obtain⟨hv,hw⟩:=hw;split at hw
    ·rename_i e sz l hsv;split at hw
     ·rename_i hsd;subst hsd;obtain⟨e',sz',l',h4,h5⟩:=h3 hv;obtain⟨cv,csv⟩:=cur;simp only at hsv;subst hsv;cases h4;have Hm:=hr.put (d:=s) (ver:=cv+1) (C2 s hd) (new:=.vec e sz (l.take m)) (c:=a.eval (.tmp n)) hr.Fc (Mem.le.refl G) h1 (Ej _) (fun s' _=>Kept.refl σ w s') h5
      exact fin (Mem.le.refl G) Hm hw
     ·exact A5p rfl hw
    ·exact A5p rfl hw
def Zi(d:Nat)(e:TypeId)(sz:Nat)(x:D6):M:=match x with
 | .t n=>.get n fun _ sv=>match sv with
   | .bor _ _ _=>R3 e sz (.t n) fun l=>Jz d (.vec e sz l)
   | .sub _ _ _ _=>R3 e sz (.t n) fun l=>Jz d (.vec e sz l)
   |_=>R0 d (.t n)
 |x=>R0 d x
theorem Xu{o:Oper}{d:Nat}{e:TypeId}{sz:Nat}{x:Operand}{x':D6}(hd:o.dst=some d)(ho:o.op= .move x∨o.op= .assign x)(hx:Jj N x x'=true):Sound P N o (Zi d e sz x'):=by
 intro G σ Fr w0 st a w Q next E hN hr hw hn C2
 subst hN;have asg:(R0 d x').wp P Q st→o.wp P a w next E:=fun hq=>Tm hd ho hx G σ Fr w0 st a w Q next E rfl hr hq hn C2
 cases x' with
 |c y=>exact asg hw
 |Ahc e sz=>exact asg hw
 |t n=>
  simp only[Zi,M.wp]at hw;cases hs:st[n]? with
  |none=>simp[hs]at hw
  |some cur=>
   simp only[hs]at hw;split at hw
   ·obtain⟨l,σ1,st1,hr1,h1,Atb⟩:=Rx hr hx hw;obtain⟨σ',st',r1,r2⟩:=hr1.A3i (w':=w) (row:=none) (C2 d hd) ⟨rfl,rfl,rfl,Bz _,fun _ _ _=>rfl⟩ (fun b hb=>by cases hb) Atb h1
    exact Jt (Tc ho) (by rw[hd];exact hn _ _ _ _ _ (Mem.le.refl G) r1 r2)
   ·obtain⟨l,σ1,st1,hr1,h1,Atb⟩:=Rx hr hx hw;obtain⟨σ',st',r1,r2⟩:=hr1.A3i (w':=w) (row:=none) (C2 d hd) ⟨rfl,rfl,rfl,Bz _,fun _ _ _=>rfl⟩ (fun b hb=>by cases hb) Atb h1
    exact Jt (Tc ho) (by rw[hd];exact hn _ _ _ _ _ (Mem.le.refl G) r1 r2)
   ·exact asg hw
def V8(d:Option Nat)(str:Bool)(x:D6):M:=match x with
 | .t n=>.get n fun _ sv=>match sv with
   | .v (.list l)=>.Hh (str=false) fun _=>.fact (l.length≤maxLen) (Gj d (.v (.int .i64 l.length)) .done)
   | .v (.str s)=>.Hh (str=true) fun _=>.fact (s.length≤maxLen) (Gj d (.v (.int .i64 s.length)) .done)
   | .vec _ _ l=>.Hh (str=false) fun _=>.fact (l.length≤maxLen) (Gj d (.v (.int .i64 l.length)) .done)
   | .bor s k v=>.get s fun cur sv'=>.Hh (v=cur∧str=false) fun _=>match sv'.Aka k with
     |some (_,_,l)=>.fact (l.length≤maxLen) (Gj d (.v (.int .i64 l.length)) .done)
     |none=>.fail
   | .sub s k v m=>.get s fun cur sv'=>.Hh (v=cur∧str=false) fun _=>match sv'.Aka k with
     |some (_,_,l)=>.fact ((l.take m).length≤maxLen) (Gj d (.v (.int .i64 (l.take m).length)) .done)
     |none=>.fail
   |_=>.fail
 | .c (.str s)=>.Hh (str=true) fun _=>Gj d (.v (.int .i64 s.length)) .done
 |_=>.fail
def Q9(P:Program)(t:TypeId)(str:Bool):Bool:=match P.underlying t with
 |some .string=>str
 |some (.slice _)=> !str
 |_=>false
theorem Aiu.len{Gf:Nat × Nat}{e:TypeId}{sz:Nat}{l:List I}{c:Value}(h:Aiu G σ w Gf e sz l c):∃ad cap,c= .slice ad l.length cap∧l.length≤maxLen:=by
 obtain⟨xs,h1,_⟩:=h;rcases h1.2 with⟨rfl,h0⟩|⟨g,cap,cur,rfl,_,_,h3,h4,_⟩
 ·exact⟨none,0,by rw[h0],by rw[h0];exact Cr _⟩
 ·exact⟨_,cap,rfl,Kq h3 h4⟩
theorem Agn{o:Oper}{t:TypeId}{x:Operand}{x':D6}{str:Bool}(ho:o.op= .call {callee:=.builtin .len,args:= #[x],argTypes:= #[t]})(hx:Jj N x x'=true)(ht:Q9 P t str=true):
 Sound P N o (V8 o.dst str x'):=by
 intro G σ Fr w0 st a w Q next E hN hr hw hn C2
 subst hN;have hsl:str=false→∃e,P.underlying t=some (.slice e):=by
  rintro rfl;unfold Q9 at ht;split at ht
  ·cases ht
  ·rename_i e h;exact⟨e,h⟩
  ·cases ht
 have hst:str=true→P.underlying t=some .string:=by
  rintro rfl;unfold Q9 at ht;split at ht
  ·assumption
  ·cases ht
  ·cases ht
 have sl:∀{ad:Option Addr} {n cap:Nat},str=false→a.eval x= .slice ad n cap→(execOp a.eval o).run P w= .ok (.value (.int .i64 n)) w:=by
  intro ad n cap hs he;obtain⟨e,hu⟩:=hsl hs;simp[execOp,ho,resolve,invoke,builtin,Builtin.len_,run_underlying hu,he,goInt]
 have ss:∀{s:List UInt8},str=true→a.eval x= .string ⟨⟨s⟩⟩→(execOp a.eval o).run P w= .ok (.value (.int .i64 s.length)) w:=by
  intro s hs he;have hu:=hst hs;simp[execOp,ho,resolve,invoke,builtin,Builtin.len_,run_underlying hu,he,goInt];rfl
 cases x' with
 |c i=>
  cases i with
  |str s=>
   obtain⟨h1,h2⟩:=hw;have:=C7.str.1 (Nn (a:=a) hx G);exact J1 hr hn C2 (C7.int.2 rfl) h2 (ss h1 this.1)
  |_=>exact hw.elim
 |Ahc e sz=>exact hw.elim
 |t n=>
  obtain⟨rfl,Agv⟩:=J0 hx;simp only[V8,M.wp]at hw;cases hs:st[n]? with
  |none=>simp[hs]at hw
  |some cur=>
   obtain⟨ver,sv⟩:=cur;simp only[hs]at hw;have Dh:=hr.slot Agv hs;split at hw
   ·rename_i l;obtain⟨h1,h2⟩:=hw;have Ak4:C7 G (.list l) (a.eval (.tmp n)):=Dh;obtain⟨ad,cap,hc,hl,hm,_⟩:=C7.list.1 Ak4;exact J1 hr hn C2 (C7.int.2 rfl) (h2 (Kq hl hm)) (sl h1 hc)
   ·rename_i s;obtain⟨h1,h2⟩:=hw;have Ak4:C7 G (.str s) (a.eval (.tmp n)):=Dh;exact J1 hr hn C2 (C7.int.2 rfl) (h2 (C7.str.1 Ak4).2) (ss h1 (C7.str.1 Ak4).1)
   ·obtain⟨h1,h2⟩:=hw;obtain⟨ad,cap,hc,hm⟩:=Aiu.len Dh;exact J1 hr hn C2 (C7.int.2 rfl) (h2 hm) (sl h1 hc)
   ·rename_i s k v;obtain⟨cur,g1,g2,g3⟩:=Dh;simp only[M.wp,g1]at hw;obtain⟨⟨hv,h1⟩,h2⟩:=hw;obtain⟨e,sz,l,g4,g5⟩:=g3 hv;simp only[g4]at h2;obtain⟨ad,cap,hc,hm⟩:=Aiu.len g5;exact J1 hr hn C2 (C7.int.2 rfl) (h2 hm) (sl h1 hc)
   ·rename_i s k v m;obtain⟨cur,g1,g2,g3⟩:=Dh;simp only[M.wp,g1]at hw;obtain⟨⟨hv,h1⟩,h2⟩:=hw;obtain⟨e,sz,l,g4,g5⟩:=g3 hv;simp only[g4]at h2;obtain⟨ad,cap,hc,hm⟩:=Aiu.len g5;exact J1 hr hn C2 (C7.int.2 rfl) (h2 hm) (sl h1 hc)
   ·exact hw.elim
end

def rdB(x:Option D6)(Bam:Int)(k:Int→M):M:=match x with
 |none=>k Bam
 |some x=>rdI x fun i=>match i with
  | .int _ n=>k n
  |_=>.fail
def oOk(N:Nat):Option Operand→Option D6→Bool
 |none,none=>true
 |some x,some y=>Jj N x y
 |_,_=>false
def Vd(d:Option Nat)(str:Bool)(sz:Nat)(x:D6)(lo hi:Option D6):M:=match x with
 | .t n=>.get n fun ver sv=>match sv with
   | .v (.list l)=>rdB lo 0 fun i=>rdB hi l.length fun j=>.Hh (str=false∧0≤i∧i≤j∧j≤l.length∧∀u∈l,u.size=sz) fun _=>Gj d (.v (.list ((l.take j.toNat).drop i.toNat))) .done
   | .v (.str s)=>rdB lo 0 fun i=>rdB hi s.length fun j=>.Hh (str=true∧0≤i∧i≤j∧j≤s.length) fun _=>Gj d (.v (.str ((s.take j.toNat).drop i.toNat))) .done
   | .vec _ sz' l=>rdB lo 0 fun i=>rdB hi l.length fun j=>.Hh (str=false∧sz'=sz∧i=0∧0≤j∧j≤l.length∧d≠some n) fun _=>Gj d (.sub n 0 ver j.toNat) .done
   | .bor s k v=>.get s fun cur sv'=>.Hh (v=cur) fun _=>match sv'.Aka k with
     |some (_,sz',l)=>rdB lo 0 fun i=>rdB hi l.length fun j=>.Hh (str=false∧sz'=sz∧i=0∧0≤j∧j≤l.length∧d≠some s) fun _=>Gj d (.sub s k v j.toNat) .done
     |none=>.fail
   |_=>.fail
 |_=>.fail
def Agx(d:Option Nat)(x i:D6):M:=rdI x fun u=>rdI i fun n=>match u,n with
 | .str s,.int _ n=>match s[n.toNat]? with
   |some b=>.Hh (0≤n) fun _=>Gj d (.v (.int .u8 b.toNat)) .done
   |none=>.fail
 |_,_=>.fail
section
variable{P:Program}{N:Nat}{G:Mem}{σ:Lab}{Fr:Mem}{w0:Base}{w:World}{st:St}{a:Act}
theorem Mb{x:Option Operand}{y:Option D6}{Bam:Int}{k:Int→M}{Q:St→Prop}(h:Rel G σ Fr w0 st a w)
 (ho:oOk w0.n x y=true) (hq:(rdB y Bam k).wp P Q st):
 ∃i,(k i).wp P Q st∧((x=none∧i=Bam)∨∃x' kd,x=some x'∧a.eval x'= .int kd i):=by
 cases y with
 |none=>
  cases x with
  |none=>exact⟨Bam,hq,.inl ⟨rfl,rfl⟩⟩
  |some x=>cases ho
 |some y=>
  cases x with
  |none=>cases ho
  |some x=>
   obtain⟨i,h1,h2⟩:=J8 h ho hq;cases i with
   |int kd n=>exact⟨n,h1,.inr ⟨x,kd,rfl,C7.int.1 h2⟩⟩
   |_=>exact h1.elim
theorem Lg{isSlice:Bool}{len cap:Nat}{lo hi:Option Operand}{i j:Int}(w:World)
 (hlo:(lo=none∧i=0)∨∃x kd,lo=some x∧a.eval x= .int kd i) (hhi:(hi=none∧j=len)∨∃x kd,hi=some x∧a.eval x= .int kd j)
 (h0:0≤i) (h1:i≤j) (h2:j≤len) (hc:len≤cap):(Instr.sliceBounds isSlice len cap (lo.map a.eval) (hi.map a.eval) none).run P w= .ok (i.toNat,j.toNat,cap) w:=by
 have b1:∀(kd:IntKind) (code:BoundsCode),(Instr.sliceBound (.int kd j) cap code).run P w= .ok j.toNat w:=fun kd code=>
  run_sliceBound (P:=P) (w:=w) kd j cap code (by omega) (by omega)
 have b2:∀(kd:IntKind) (code:BoundsCode),(Instr.sliceBound (.int kd i) j.toNat code).run P w= .ok i.toNat w:=fun kd code=>
  run_sliceBound (P:=P) (w:=w) kd i j.toNat code (by omega) (by omega)
 have b3:∀(kd:IntKind) (code:BoundsCode),j=len→(Instr.sliceBound (.int kd i) len code).run P w= .ok i.toNat w:=fun kd code e=>by
  have:=b2 kd code;rw[e]at this;simpa using this
 rcases hlo with⟨rfl,rfl⟩|⟨x,kd,rfl,hx⟩<;>rcases hhi with⟨rfl,rfl⟩|⟨y,kd',rfl,hy⟩
 ·simp[Instr.sliceBounds]
 ·simp[Instr.sliceBounds,hy,b1]
 ·simp[Instr.sliceBounds,hx,b3]
 ·simp[Instr.sliceBounds,hx,hy,b1,b2]
theorem F9.slice{G:Mem}{l:List I}{cs:List Value}{sz i j:Nat}(h:F9 G l cs)(Hr:∀x∈l,x.size=sz)(hij:i≤j)(hj:j≤l.length):
 F9 G ((l.take j).drop i) ((cs.take (j*sz)).drop (i*sz)):=by
 have e1:l=(l.take j)++l.drop j:=(Fj j l).symm;rw[e1]at h;obtain⟨c,d,rfl,h1,_⟩:=F9.split h;have hl1:c.length=j*sz:=by
  rw[F9.length _ _ h1,J3 (sz:=sz) fun x hx=>Hr x (P2 hx),Hg,U6 hj]
 have e2:l.take j=(l.take j).take i++(l.take j).drop i:=(Fj i _).symm;rw[e2]at h1;obtain⟨c1,c2,rfl,h3,h4⟩:=F9.split h1;have hl2:c1.length=i*sz:=by
  rw[F9.length _ _ h3,J3 (sz:=sz) fun x hx=>Hr x (P2 (P2 hx)),Hg,Hg]
  rw[U6 (by omega)]
 rw[←hl1,Amq, ←hl2,Aog];exact h4
theorem C7.sliced{l:List I}{ad:Option Addr}{cap i j sz:Nat}(h:C7 G (.list l) (.slice ad l.length cap))(hij:i≤j)(hj:j≤l.length)(Hr:l≠[]→∀x∈l,x.size=sz):
 C7 G (.list ((l.take j).drop i)) (.slice (if cap=i then ad else ad.map (·.add (i*sz))) (j - i) (cap - i)):=by
 obtain⟨a',Azd,he,h1,h2,h3⟩:=C7.list.1 h;cases he;have hlen:((l.take j).drop i).length=j - i:=by simp[U6 hj]
 refine C7.list.2 ⟨_,_,by rw[hlen],by rw[hlen];omega,by omega,?_⟩
 rcases h3 with rfl|⟨b,off,bl,ty,fz,sz',rfl,hg,hs,hle,hr⟩
 ·exact .inl (by simp)
 ·by_cases Btv:i=j
  ·subst Btv;exact .inl (Aby (by rw[hlen];omega))
  ·have Cf:l≠[]:=by rintro rfl;simp at hj;omega
   have Bbr:sz'=sz:=by
    cases l with
    |nil=>exact absurd rfl Cf
    |cons x l=>rw[←hs x (by simp),Hr Cf x (by simp)]
   subst Bbr;have hci:cap≠i:=by omega
   rw[if_neg hci];refine .inr ⟨b,off+i*sz',bl,ty,fz,sz',by simp[add_lit],hg,fun x hx=>hs x (P2 (Agw hx)),?_,?_⟩
   ·rw[hlen,Nat.sub_mul];have h4:i*sz'≤j*sz':=Jh _ hij;have h5:j*sz'≤l.length*sz':=Jh _ hj;omega
   ·have:=F9.slice hr hs hij hj;rw[hlen];have h5:j*sz'≤l.length*sz':=Jh _ hj;have e:(((bl.toList.drop off).take (l.length*sz')).take (j*sz')).drop (i*sz')=(bl.toList.drop (off+i*sz')).take ((j - i)*sz'):=by
     rw[List.take_take,U6 h5,List.drop_take,List.drop_drop,Nat.sub_mul]
    rwa [e]at this
def Um(P:Program)(t:TypeId)(str:Bool)(sz:Nat):Bool:=match P.underlying t with
 |some .string=>str
 |some (.slice e)=> !str&&match P.info? e with
  |some i=>i.size==sz
  |none=>false
 |_=>false
theorem extract_data(s:List UInt8)(i j:Nat):(⟨⟨s⟩⟩:ByteArray).extract i j=⟨⟨(s.take j).drop i⟩⟩:=by
 apply ByteArray.ext;apply Array.ext';simp[List.extract_eq_take_drop,List.drop_take]
theorem Aiu.take{Gf:Nat × Nat}{e:TypeId}{sz:Nat}{l:List I}{ad:Option Addr}{n cap j:Nat}(h:Aiu G σ w Gf e sz l (.slice ad n cap))(hj:j≤l.length):
 Aiu G σ w Gf e sz (l.take j) (.slice ad j cap):=by
 obtain⟨xs,h1,h2,h3,h4⟩:=h;have hl:(l.take j).length=j:=by rw[Hg,U6 hj]
 have e1:l=l.take j++l.drop j:=(Fj j l).symm;rw[e1]at h2;obtain⟨c,d,rfl,h5,_⟩:=F9.split h2;have hc:c.length=j*sz:=by rw[F9.length _ _ h5,J3 (sz:=sz) fun x hx=>h3 x (P2 hx),hl]
 refine⟨c,⟨by rw[hl,hc],?_⟩,h5,fun x hx=>h3 x (P2 hx),fun b hb=>h4 b (by cases ad with|none=>simp[Value.ownBlock]at hb|some _=>simpa[Value.ownBlock]using hb)⟩
 rcases h1.2 with⟨e2,e3⟩|⟨g,Azd,cur,e2,k1,k2,k3,k4,k5,k6⟩
 ·cases e2;exact .inl ⟨by congr 1;omega,by rw[hl];omega⟩
 ·cases e2;refine .inr ⟨g,cap,cur,by rw[hl],k1,k2,by rw[hl];omega,k4,k5,?_⟩
  rw[hl, ←hc];have h7:(cur.toList.take (l.length*sz)).take c.length=c:=by rw[k6,Amq]
  rw[List.take_take,U6]at h7
  ·exact h7
  ·rw[hc];exact Jh _ hj
theorem Aa3{o:Oper}{t:TypeId}{x:Operand}{lo hi:Option Operand}{x':D6}{lo' hi':Option D6}{str:Bool}{sz:Nat}(ho:o.op= .slice t x lo hi none)(hx:Jj N x x'=true)
 (hlo:oOk N lo lo'=true) (hhi:oOk N hi hi'=true) (ht:Um P t str sz=true):Sound P N o (Vd o.dst str sz x' lo' hi'):=by
 intro G σ Fr w0 st a w Q next E hN hr hw hn C2
 subst hN;have hsl:str=false→∃e i,P.underlying t=some (.slice e)∧P.info? e=some i∧i.size=sz:=by
  rintro rfl;unfold Um at ht;split at ht
  ·cases ht
  ·rename_i e h;split at ht
   ·rename_i i hi;exact⟨e,i,h,hi,by simpa using ht⟩
   ·cases ht
  ·cases ht
 have hst:str=true→P.underlying t=some .string:=by
  rintro rfl;unfold Um at ht;split at ht
  ·assumption
  ·simp at ht
  ·cases ht
 cases x' with
 |c _=>exact hw.elim
 |Ahc _ _=>exact hw.elim
 |t n=>
  obtain⟨rfl,Agv⟩:=J0 hx;simp only[Vd,M.wp]at hw;cases hs:st[n]? with
  |none=>simp[hs]at hw
  |some cur=>
   obtain⟨ver,sv⟩:=cur;simp only[hs]at hw;have Dh:=hr.slot Agv hs;split at hw
   ·rename_i l;obtain⟨i,h1,hi1⟩:=Mb hr hlo hw;obtain⟨j,h2,hj1⟩:=Mb hr hhi h1;obtain⟨⟨k1,k2,k3,k4,k5⟩,h3⟩:=h2;obtain⟨e,i0,hu,hi0,Hr⟩:=hsl k1;have Ak4:C7 G (.list l) (a.eval (.tmp n)):=Dh;obtain⟨ad,cap,hc,hlc,_⟩:=C7.list.1 Ak4;have hb:=Lg (P:=P) (isSlice:=true) (len:=l.length) (cap:=cap) w hi1 hj1 k2 k3 k4 hlc;rw[hc]at Ak4;have hv:=C7.sliced (i:=i.toNat) (j:=j.toNat) (sz:=sz) Ak4 (by omega) (by omega) fun _=>k5
    refine J1 hr hn C2 hv h3 ?_;simp[execOp,ho,Instr.sliceAt,Instr.slice,run_underlying hu,hc,hb,sizeOf,typeInfo,hi0,Hr]
   ·rename_i s;obtain⟨i,h1,hi1⟩:=Mb hr hlo hw;obtain⟨j,h2,hj1⟩:=Mb hr hhi h1;obtain⟨⟨k1,k2,k3,k4⟩,h3⟩:=h2;have hu:=hst k1;have Ak4:C7 G (.str s) (a.eval (.tmp n)):=Dh;obtain⟨hc,A1r⟩:=C7.str.1 Ak4;have hb:=Lg (P:=P) (isSlice:=false) (len:=s.length) (cap:=s.length) w hi1 hj1 k2 k3 k4 (Bz _);refine J1 hr hn C2 (v:=.string ⟨⟨(s.take j.toNat).drop i.toNat⟩⟩) (C7.str.2 ⟨rfl,by simp;omega⟩) h3 ?_
    have Bqg:(⟨⟨s⟩⟩:ByteArray).size=s.length:=rfl;simp[execOp,ho,Instr.sliceAt,Instr.slice,run_underlying hu,hc,Bqg,hb,extract_data]
   ·rename_i e' sz' l;obtain⟨i,h1,hi1⟩:=Mb hr hlo hw;obtain⟨j,h2,hj1⟩:=Mb hr hhi h1;obtain⟨⟨k1,rfl,rfl,k3,k4,Cf⟩,h3⟩:=h2;obtain⟨e,i0,hu,hi0,Hr⟩:=hsl k1;have Ak4:Aiu G σ w (n,0) e' sz' l (a.eval (.tmp n)):=Dh;obtain⟨ad,cap,hc,_⟩:=Ak4.len;have hlc:l.length≤cap:=by
     obtain⟨xs,q1,_⟩:=Ak4;rcases q1.2 with⟨q2,q3⟩|⟨g,Azd,cur,q2,_,_,q3,_⟩
     ·omega
     ·rw[hc]at q2;cases q2;exact q3
    have hb:=Lg (P:=P) (isSlice:=true) (len:=l.length) (cap:=cap) w hi1 hj1 (Ata 0) k3 k4 hlc;rw[hc]at Ak4;have hv:=Ak4.take (j:=j.toNat) (by omega)
    obtain⟨σ',st',r1,r2⟩:=hr.Gj C2 (sv:=.sub n 0 ver j.toNat) (c:=.slice ad j.toNat cap) (fun d' hd Gu _=>by
     refine⟨_,by rw[B3 (by rintro rfl;exact Cf hd)];exact hs,Bz _,fun _=>⟨e',sz',l,rfl,?_⟩⟩
     exact hv.tr (Mem.le.refl G) fun b hb=>⟨Lab.Ade.2 ⟨by rintro rfl;exact Cf hd,hb⟩,rfl⟩) h3
    refine Jt (w':=w) ?_ (hn G σ' st' _ w (Mem.le.refl G) r1 r2);have had:Option.map (fun x:Addr=>x.add 0) ad=ad:=by cases ad<;>simp[Addr.add]
    simp[execOp,ho,Instr.sliceAt,Instr.slice,run_underlying hu,hc,hb,sizeOf,typeInfo,hi0,Hr,had]
   ·rename_i s k v;obtain⟨cur,g1,g2,g3⟩:=Dh;simp only[M.wp,g1]at hw;obtain⟨hv,hw⟩:=hw;obtain⟨e',sz',l,g4,g5⟩:=g3 hv;simp only[g4]at hw;obtain⟨i,h1,hi1⟩:=Mb hr hlo hw;obtain⟨j,h2,hj1⟩:=Mb hr hhi h1;obtain⟨⟨k1,rfl,rfl,k3,k4,Cf⟩,h3⟩:=h2;obtain⟨e,i0,hu,hi0,Hr⟩:=hsl k1;obtain⟨ad,cap,hc,_⟩:=g5.len;have hlc:l.length≤cap:=by
     obtain⟨xs,q1,_⟩:=g5;rcases q1.2 with⟨q2,q3⟩|⟨g,Azd,cur,q2,_,_,q3,_⟩
     ·omega
     ·rw[hc]at q2;cases q2;exact q3
    have hb:=Lg (P:=P) (isSlice:=true) (len:=l.length) (cap:=cap) w hi1 hj1 (Ata 0) k3 k4 hlc;rw[hc]at g5;have hvv:=g5.take (j:=j.toNat) (by omega)
    obtain⟨σ',st',r1,r2⟩:=hr.Gj C2 (sv:=.sub s k v j.toNat) (c:=.slice ad j.toNat cap) (fun d' hd Gu _=>by
     refine⟨cur,by rw[B3 (by rintro rfl;exact Cf hd)];exact g1,g2,fun _=>⟨e',sz',l,g4,?_⟩⟩
     exact hvv.tr (Mem.le.refl G) fun b hb=>⟨Lab.Ade.2 ⟨by rintro rfl;exact Cf hd,hb⟩,rfl⟩) h3
    refine Jt (w':=w) ?_ (hn G σ' st' _ w (Mem.le.refl G) r1 r2);have had:Option.map (fun x:Addr=>x.add 0) ad=ad:=by cases ad<;>simp[Addr.add]
    simp[execOp,ho,Instr.sliceAt,Instr.slice,run_underlying hu,hc,hb,sizeOf,typeInfo,hi0,Hr,had]
   ·exact hw.elim
end

def Rh:List (Nat × D6)→List I→(List I→M)→M
 | [],zs,k=>k zs
 |(i,x)::ps,zs,k=>Lw x fun u=>match zs[i]? with
  |some z=>.Hh (u.size=z.size) fun _=>Rh ps (zs.set i u) k
  |none=>.fail
def La(N:Nat):List (Nat × Operand)→List (Nat × D6)→Bool
 | [],[]=>true
 |(i,x)::l,(j,y)::m=>i==j&&Jj N x y&&La N l m
 |_,_=>false
section
variable{P:Program}{N:Nat}{G:Mem}{σ:Lab}{Fr:Mem}{w0:Base}{w:World}{st:St}{a:Act}
theorem Ws:∀(vs pre old post:List Value) (n:Nat) (cells:Array Value),cells.toList=pre++old++post→old.length=vs.length→
 ((vs.zipIdx n).foldl (fun(cs:Array Value) (p:Value × Nat)=>cs.setIfInBounds (pre.length - n+p.2) p.1) cells).toList=pre++vs++post∨pre.length<n
 | [],pre,old,post,n,cells,h,hl=>by
   left;have:old=[]:=Aby hl;subst this;simpa using h
 |v::vs,pre,old,post,n,cells,h,hl=>by
  by_cases hn:pre.length<n
  ·exact .inr hn
  ·left;cases old with
   |nil=>simp at hl
   |cons o old=>
    have h1:(cells.setIfInBounds (pre.length - n+n) v).toList=(pre++[v])++old++post:=by
     rw[Array.toList_setIfInBounds,h,Nat.sub_add_cancel (by omega)]
     simp
    have:=Ws vs (pre++[v]) old post (n+1) _ h1 (by simpa using hl)
    rcases this with h2|h2
    ·have e:(pre++[v]).length - (n+1)=pre.length - n:=by simp
     rw[e]at h2;simp only[List.zipIdx_cons,List.foldl_cons];simpa using h2
    ·simp at h2;omega
theorem Yp{cells:Array Value}{v:Value}{pre old post:List Value}{off:Nat}(h:cells.toList=pre++old++post)(hp:pre.length=off)(ho:old.length=v.cells.size):
 (v.cells.zipIdx.foldl (fun(cs:Array Value) (p:Value × Nat)=>cs.setIfInBounds (off+p.2) p.1) cells).toList=pre++v.cells.toList++post:=by
 have:=Ws v.cells.toList pre old post 0 cells h (by rw[ho];simp)
 rcases this with h1|h1
 ·rw[←Array.foldl_toList,Array.toList_zipIdx];rw[Nat.sub_zero,hp]at h1;exact h1
 ·omega
theorem Si{place:Nat→Option (Nat × Nat)}{Q:St→Prop}:∀{ps:List (Nat × Operand)} {ps':List (Nat × D6)} {zs:List I} {cells:Array Value} {k:List I→M} {G:Mem} {σ:Lab} {st:St},
 Rel G σ Fr w0 st a w→La w0.n ps ps'=true→(Rh ps' zs k).wp P Q st→F9 G zs cells.toList→
 (∀i z,zs[i]?=some z→place i=some (sizes (zs.take i),z.size))→
 ∃zs' Aud G' σ' st',G.le G'∧Rel G' σ' Fr w0 st' a w∧(k zs').wp P Q st'∧F9 G' zs' Aud.toList∧Instr.fill place cells (ps.map fun p=>(p.1,a.eval p.2))=some Aud
 | [],[],zs,cells,k,G,σ,st,hr,_,hq,hz,_=>⟨zs,cells,G,σ,st,Mem.le.refl G,hr,hq,hz,rfl⟩
 |(i,x)::ps,(j,y)::ps',zs,cells,k,G,σ,st,hr,ho,hq,hz,hpl=>by
  simp only[La,Ap,beq_iff_eq]at ho;obtain⟨⟨rfl,ho⟩,hos⟩:=ho;obtain⟨u,G',σ',st',hG,Hm,h1,hv⟩:=L6 hr ho hq;cases hzi:zs[i]? with
  |none=>simp only[hzi]at h1;exact h1.elim
  |some z=>
   simp only[hzi]at h1;obtain⟨Hr,h1⟩:=h1;obtain⟨c1,c,c2,e1,e2,e3,Akv⟩:=F9.nth i (F9.mono hG _ _ hz) hzi;have hvc:=hv.cells;have hcl:c.length=(a.eval x).cells.size:=by
    rw[D8.length _ _ e3, ←Hr, ←D8.length _ _ hvc];simp
   have Bef:=Yp (v:=a.eval x) (off:=sizes (zs.take i)) e1 e2 hcl;have Axs:=hpl i z hzi;obtain⟨zs',Aud,G'',σ'',As9,hG',Bbj,h2,h3,h4⟩:=Si (place:=place) Hm hos h1 (cells:=(a.eval x).cells.zipIdx.foldl (fun(cs:Array Value) (p:Value × Nat)=>cs.setIfInBounds (sizes (zs.take i)+p.2) p.1) cells)
    (by rw[Bef];exact Akv u _ hvc) (by
      intro i' z' hz';have hi:i<zs.length:=(A7.1 hzi).1;by_cases hii:i'=i
      ·subst hii;rw[Aiq hi]at hz';cases hz';rw[Axs,Hr,List.take_set_of_le (Bz _)]
      ·rw[B3 (Ne.symm hii)]at hz';rw[hpl i' z' hz']
       congr 2
       rw[List.take_set];by_cases Ze:i<i'
       ·have:(zs.take i')[i]?=some z:=by rw[Am5,if_pos Ze];exact hzi
        exact(Xr this Hr).symm
       ·rw[List.set_eq_of_length_le (by rw[Hg];omega)])
   refine⟨zs',Aud,G'',σ'',As9,hG.trans hG',Bbj,h2,h3,?_⟩;simp only[Cy,Instr.fill,Axs];have Bis:(a.eval x).cells.size=z.size:=by rw[←hcl,D8.length _ _ e3]
   have hle:¬(sizes (zs.take i)+(a.eval x).cells.size>cells.size):=by
    have:cells.size=cells.toList.length:=by simp
    rw[this,e1, ←e2, ←hcl];simp
   rw[if_neg (by simp[Bis]at hle ⊢;omega)]
   exact h4
 | [],_::_,_,_,_,_,_,_,_,ho,_,_,_=>by cases ho
 |_::_,[],_,_,_,_,_,_,_,ho,_,_,_=>by simp[La]at ho
def Y5(d:Option Nat)(zs:List I)(ps:List (Nat × D6)):M:=Rh ps zs fun l=>Gj d (.v (.agg l)) .done
def Wk(P:Program)(t:TypeId)(zs:List I):Bool:=match P.underlying t,P.info? t with
 |some (.struct fs),some i=>(match i.zero with
  |some z=>match zIs zs z.cells.toList with
   |some []=>true
   |_=>false
  |none=>false)&&
  fs.size==zs.length&&(List.range zs.length).all fun j=>match fs[j]?,zs[j]? with
   |some f,some z=>f.offset==sizes (zs.take j)&&match P.info? f.type with
    |some i=>i.size==z.size
    |none=>false
   |_,_=>false
 |_,_=>false
theorem Ux{fs:List Field}{sz:Field→Nat}(h:∀f∈fs,(sizeOf f.type).run P w= .ok (sz f) w):
 (fs.mapM fun f=>(do pure (f.offset, ←sizeOf f.type):Sem (Nat × Nat))).run P w= .ok (fs.map fun f=>(f.offset,sz f)) w:=by
 induction fs with
 |nil=>simp
 |cons f fs ih=>
  have h1:=h f (by simp)
  have h2:=ih fun g hg=>h g (by simp[hg])
  simp only[List.mapM_cons,Sem.run_bind,h1,Result.andThen,Sem.run_pure,h2,Cy]
theorem Aao{o:Oper}{t:TypeId}{ps:Array (Nat × Operand)}{zs:List I}{ps':List (Nat × D6)}(ho:o.op= .build t ps)(hp:La N ps.toList ps'=true)(ht:Wk P t zs=true):
 Sound P N o (Y5 o.dst zs ps'):=by
 intro G σ Fr w0 st a w Q next E hN hr hw hn C2
 subst hN;unfold Wk at ht;split at ht
 ·rename_i fs i hu hi;simp only[Ap,beq_iff_eq]at ht;obtain⟨⟨hz,hlen⟩,Anw⟩:=ht;cases hzv:i.zero with
  |none=>simp[hzv]at hz
  |some z=>
   simp only[hzv]at hz;have hz':∃c,z.cells.toList=c++[]∧F9 G zs c:=by
    split at hz
    ·rename_i h;exact A3q G zs _ _ h
    ·cases hz
   obtain⟨c,hc,hz'⟩:=hz';rw[R2]at hc;subst hc;have A4r:∀j f zz,fs[j]?=some f→zs[j]?=some zz→f.offset=sizes (zs.take j)∧(sizeOf f.type).run P w= .ok zz.size w:=by
    intro j f zz hf hzz;have hj:j<zs.length:=(A7.1 hzz).1;have:=Aia.1 Anw j (Agu.2 hj);simp only[hf,hzz,Ap,beq_iff_eq]at this;obtain⟨h1,h2⟩:=this;refine⟨h1,?_⟩;cases hfi:P.info? f.type with
    |none=>simp[hfi]at h2
    |some jn=>
     simp only[hfi,beq_iff_eq]at h2;simp[sizeOf,typeInfo,hfi,h2]
   let szf:Field→Nat:=fun f=>((P.info? f.type).map (·.size)).getD 0
   have Bbq:∀f∈fs.toList,(sizeOf f.type).run P w= .ok (szf f) w:=by
    intro f hf;obtain⟨j,hj⟩:=List.mem_iff_getElem?.1 hf;have hj':j<zs.length:=by
     have:=(A7.1 hj).1;simp at this;omega
    have h2:=(A4r j f zs[j] (by simpa using hj) (Ae hj')).2
    cases hfi:P.info? f.type with
    |none=>simp[sizeOf,typeInfo,hfi]at h2
    |some jn=>simp[sizeOf,typeInfo,hfi,szf]
   have A8d:∀j zz,zs[j]?=some zz→(fs.toList.map fun f=>(f.offset,szf f)).toArray[j]?=some (sizes (zs.take j),zz.size):=by
    intro j zz hzz;have hj:j<zs.length:=(A7.1 hzz).1;have hjf:fs[j]?=some (fs[j]'(by omega)):=E6 (by omega)
    obtain⟨h1,h2⟩:=A4r j _ zz hjf hzz;have h3:=Bbq _ (by simp:fs[j]'(by omega)∈fs.toList)
    rw[h2]at h3;have h4:zz.size=szf (fs[j]'(by omega)):=by injection h3
    simp[hjf,h1,h4]
   obtain⟨zs',Aud,G',σ',st',hG,Hm,h2,h3,h4⟩:=Si (place:=fun j=>(fs.toList.map fun f=>(f.offset,szf f)).toArray[j]?) hr hp hw hz' A8d
   have hv:C7 G' (.agg zs') (.agg Aud):=by
    unfold C7;rw[if_pos (show(I.agg zs').isAgg=true from rfl)];exact⟨Aud,rfl,h3⟩
   refine J1 Hm (fun G'' σ'' As9 a' w' Bh0=>hn G'' σ'' As9 a' w' (hG.trans Bh0)) C2 hv h2 ?_
   have hm:=Ux (P:=P) (w:=w) Bbq;have A0q:(ps.map fun(p:Nat × Operand)=>(p.1,a.eval p.2)).toList=ps.toList.map fun p=>(p.1,a.eval p.2):=by simp
   have hm':(fs.mapM fun f=>(do pure (f.offset, ←sizeOf f.type):Sem (Nat × Nat))).run P w= .ok (fs.toList.map fun f=>(f.offset,szf f)).toArray w:=by
    rw[Ak1,Sem.run_map,hm];rfl
   have hzero:(zeroValue t).run P w= .ok z w:=by simp[zeroValue,typeInfo,hi,hzv]
   simp only[execOp,ho,Instr.build,Sem.run_bind,hzero,Result.andThen,run_underlying hu,hm',A0q,h4,Sem.run_pure]
 ·cases ht
end

def Xb(d:Nat)(e:TypeId)(sz:Nat)(z:I)(n:Nat)(ps:List (Nat × D6)):M:=Rh ps (List.replicate n z) fun l=>.Hh (l.length=n∧∀u∈l,u.size=sz) fun _=>Jz d (.vec e sz l)
def N6(P:Program)(t e:TypeId)(sz:Nat)(z:I)(n:Nat):Bool:=match P.underlying t with
 |some (.slice e')=>e'==e&&n≤4096&&n != 0&&match P.info? e with
  |some i=>i.size==sz&&sz != 0&&sz≤4096&&z.size==sz&&match i.zero with
   |some v=>v.cells.size==sz&&match zI z v.cells.toList with
    |some []=>true
    |_=>false
   |none=>false
  |none=>false
 |_=>false
def Ti(d:Nat)(x:D6)(i:Nat):M:=match x with
 | .t n=>.get n fun ver sv=>match sv with
   | .tup fs=>match fs[i]? with
     |some (.i y)=>Jz d (.v y)
     |some (.vec e sz l)=>.Hh (n≠d) fun _=>.set n (ver+1) (.tup (fs.set i (.i .und))) (Jz d (.vec e sz l))
     |none=>.fail
   |_=>.fail
 |_=>.fail
section
variable{P:Program}{N:Nat}{G:Mem}{σ:Lab}{Fr:Mem}{w0:Base}{w:World}{st:St}{a:Act}
theorem Aki.nth{s:Nat}:∀{fs:List F} {j i:Nat} {cs:List Value} {f:F},Aki G σ w s j fs cs→fs[i]?=some f→
 ∃c,cs[i]?=some c∧(match f with| .i x=>C7 G x c| .vec e sz l=>Aiu G σ w (s,j+i+1) e sz l c)
 | [],_,i,_,_,_,h=>by simp at h
 | .i x::fs,j,0,cs,f,h,hi=>by
   simp only[Fa,A0]at hi;subst hi;obtain⟨c,d,rfl,h1,_⟩:=h;exact⟨c,rfl,h1⟩
 | .vec e sz l::fs,j,0,cs,f,h,hi=>by
   simp only[Fa,A0]at hi;subst hi;obtain⟨c,d,rfl,h1,_⟩:=h;exact⟨c,rfl,h1⟩
 | .i x::fs,j,i+1,cs,f,h,hi=>by
   simp only[Du]at hi;obtain⟨c,d,rfl,_,h2⟩:=h;obtain⟨c',h3,h4⟩:=Aki.nth h2 hi;refine⟨c',by simpa using h3,?_⟩
   rwa [show j+(i+1)+1=j+1+i+1 by omega]
 | .vec _ _ _::fs,j,i+1,cs,f,h,hi=>by
   simp only[Du]at hi;obtain⟨c,d,rfl,_,h2⟩:=h;obtain⟨c',h3,h4⟩:=Aki.nth h2 hi;refine⟨c',by simpa using h3,?_⟩
   rwa [show j+(i+1)+1=j+1+i+1 by omega]
theorem Aki.Ave{s:Nat}:∀{fs:List F} {j i:Nat} {cs:List Value} {e:TypeId} {sz:Nat} {l:List I},Aki G σ w s j fs cs→fs[i]?=some (.vec e sz l)→
 Aki G (σ.Ave (s,j+i+1)) w s j (fs.set i (.i .und)) cs
 | [],_,i,_,_,_,_,_,h=>by simp at h
 | .i x::fs,j,0,cs,e,sz,l,h,hi=>by simp at hi
 | .vec e' sz' l'::fs,j,0,cs,e,sz,l,h,hi=>by
   obtain⟨c,d,rfl,h1,h2⟩:=h;simp only[Akm];refine⟨c,d,rfl,?_,Aki.tr (Mem.le.refl G) h2 fun b k hj hb=>⟨Lab.Aom.2 ⟨by simp;omega,hb⟩,rfl⟩⟩
   unfold C7;rw[if_neg (by simp[I.isAgg])]
   exact⟨c,rfl,h1.one⟩
 | .i x::fs,j,i+1,cs,e,sz,l,h,hi=>by
   simp only[Du]at hi;obtain⟨c,d,rfl,h1,h2⟩:=h;simp only[Ais];rw[show j+(i+1)+1=j+1+i+1 by omega]
   exact⟨c,d,rfl,h1,Aki.Ave h2 hi⟩
 | .vec _ _ _::fs,j,i+1,cs,e,sz,l,h,hi=>by
   simp only[Du]at hi;obtain⟨c,d,rfl,h1,h2⟩:=h;simp only[Ais];rw[show j+(i+1)+1=j+1+i+1 by omega]
   exact⟨c,d,rfl,h1.tr (Mem.le.refl G) fun b hb=>⟨Lab.Aom.2 ⟨by simp;omega,hb⟩,rfl⟩,Aki.Ave h2 hi⟩
theorem Agk{o:Oper}{d i:Nat}{x:Operand}{x':D6}(hd:o.dst=some d)(ho:o.op= .extract x i)(hx:Jj N x x'=true):Sound P N o (Ti d x' i):=by
 intro G σ Fr w0 st a w Q next E hN hr hw hn C2
 subst hN;cases x' with
 |c _=>exact hw.elim
 |Ahc _ _=>exact hw.elim
 |t n=>
  obtain⟨rfl,Agv⟩:=J0 hx;simp only[Ti,M.wp]at hw;cases hs:st[n]? with
  |none=>simp[hs]at hw
  |some cur=>
   obtain⟨ver,sv⟩:=cur;simp only[hs]at hw;have Dh:=hr.slot Agv hs;split at hw
   ·rename_i fs;obtain⟨arr,hc,Dh⟩:=Dh;have run:∀{c:Value},arr.toList[i]?=some c→(execOp a.eval o).run P w= .ok (.value c) w:=by
     intro c hci;have:arr[i]?=some c:=by simpa using hci
     simp[execOp,ho,hc,Instr.extract,this]
    split at hw
    ·rename_i y hy;obtain⟨c,h1,h2⟩:=Aki.nth Dh hy;obtain⟨σ',st',r1,r2⟩:=hr.Ax2 (C2 d hd) h2 hw;exact Jt (run h1) (by rw[hd];exact hn G σ' st' _ w (Mem.le.refl G) r1 r2)
    ·rename_i e sz l hy;obtain⟨Cf,hw⟩:=hw;obtain⟨c,h1,h2⟩:=Aki.nth Dh hy;rw[E3]at h2;have hr2:=Rel.self (new:=.tup (fs.set i (.i .und))) (ver:=ver+1) hr (hr.Fc.Ave (n,i+1)) (Mem.le.refl G) hs (Ej _)
      (fun s' hs' b k' hb=>⟨Lab.Aom.2 ⟨fun e=>hs' (by cases e;rfl),hb⟩,rfl⟩) (by
        refine⟨arr,?_,?_⟩
        ·rw[←hc,J2 (by rw[hr.n];exact Agv)]
        ·have:=Aki.Ave Dh hy;rwa [E3]at this)
     have Atb:=Aiu.free h2 hr.Fc (σ':=σ.Ave (n,i+1)) fun b hb=>by simp[Lab.Ave,hb]
     obtain⟨σ',st',r1,r2⟩:=hr2.A3i (C2 d hd) (row:=none) ⟨rfl,rfl,rfl,Bz _,fun _ _ _=>rfl⟩ (fun b hb=>by cases hb) Atb hw
     exact Jt (run h1) (by rw[hd];exact hn G σ' st' _ w (Mem.le.refl G) r1 r2)
    ·exact hw.elim
   ·exact hw.elim
theorem Po{z:I}{c:List Value}(h:D8 G z c):∀n,F9 G (List.replicate n z) (List.replicate n c).flatten
 |0=>rfl
 |n+1=>⟨c,_,by simp[List.replicate_succ],h,Po h n⟩
theorem Wj{z:Array Value}{sz:Nat}(hz:z.size=sz)(n:Nat):((Array.range (n*sz)).map (fun j=>z[j % z.size]!)).toList=(List.replicate n z.toList).flatten:=by
 induction n with
 |zero=>simp
 |succ n ih=>
  rw[List.replicate_succ',List.flatten_append, ←ih,Aj7,Nat.one_mul];simp only[Array.toList_map,Array.toList_range,List.range_add,F5,List.map_map]
  congr 1
  apply List.ext_getElem
  ·simp[hz]
  ·intro j h1 h2;simp at h1;simp[hz,Nat.mul_add_mod_of_lt h1,h1]
theorem Zu{o:Oper}{d:Nat}{t e:TypeId}{sz n:Nat}{z:I}{ps:Array (Nat × Operand)}{ps':List (Nat × D6)}(hd:o.dst=some d)(ho:o.op= .buildSlice t n ps)(hp:La N ps.toList ps'=true)(ht:N6 P t e sz z n=true):
 Sound P N o (Xb d e sz z n ps'):=by
 intro G σ Fr w0 st a w Q next E hN hr hw hn C2
 subst hN;unfold N6 at ht;split at ht
 ·rename_i e' hu;simp only[Ap,beq_iff_eq,bne_iff_ne,ne_eq,decide_eq_true_eq]at ht;obtain⟨⟨⟨rfl,hn4⟩,hn0⟩,ht⟩:=ht;split at ht
  ·rename_i i hi;simp only[Ap,beq_iff_eq,bne_iff_ne,ne_eq,decide_eq_true_eq]at ht;obtain⟨⟨⟨⟨rfl,h0⟩,hs4⟩,Bbu⟩,ht⟩:=ht;split at ht
   ·rename_i v hv;simp only[Ap,beq_iff_eq]at ht;obtain⟨hvs,hz⟩:=ht;have hz':∃c,v.cells.toList=c++[]∧D8 G z c:=by
     split at hz
     ·rename_i h;exact A0a G z _ _ h
     ·cases hz
    obtain⟨c,hc,hz'⟩:=hz';rw[R2]at hc;subst hc
    let Bmn:Array Value:=(Array.range (n*i.size)).map (fun j=>v.cells[j % v.cells.size]!)
    have A8a:F9 G (List.replicate n z) Bmn.toList:=by
     rw[Wj hvs];exact Po hz' n
    have Axs:∀(j:Nat) (zz:I),(List.replicate n z)[j]?=some zz→(fun j:Nat=>some (j*i.size,i.size)) j=some (sizes ((List.replicate n z).take j),zz.size):=by
     intro j zz hzz;have hj:j<n:=by have:=(A7.1 hzz).1;simpa using this
     have Biv:zz=z:=by rw[Amo,if_pos hj]at hzz;cases hzz;rfl
     subst Biv;rw[List.take_replicate,J3 (sz:=i.size) (by intro x hx;rw[List.eq_of_mem_replicate hx,Bbu]),An1,U6 (Nat.le_of_lt hj),Bbu]
    obtain⟨l,cells,G',σ',st',hG,Hm,h2,h3,h4⟩:=Si (place:=fun j=>some (j*i.size,i.size)) hr hp hw A8a Axs
    obtain⟨⟨hl,Hr⟩,h2⟩:=h2;have Az2:cells.size=n*i.size:=by
     have:=F9.length _ _ h3;rw[J3 Hr,hl]at this;simpa using this
    have hnm:n≤maxLen:=by simp only[maxLen];omega
    obtain⟨σ'',As9,r1,r2⟩:=Hm.Ayv (C2 d hd) (sv:=.vec e' i.size l) (o:=.cells cells e') (c:=.slice (some ⟨w.heap.size,0,none⟩) n n) rfl (by intro _ e;cases e)
     (fun σ1 _ hb=>⟨cells.toList,⟨by rw[hl];simpa using Az2,.inr ⟨w.heap.size,n,cells,by rw[hl],Cr _,Row.of (heap_alloc_new w _),by rw[hl];exact Bz _,hnm,Az2,by
       rw[hl, ←Az2];have:cells.size=cells.toList.length:=by simp
       rw[this,List.take_length]⟩⟩,h3,Hr,fun b Sy=>by cases Sy;exact hb⟩) h2
    have Avd:¬(n*i.size>2^24):=by
     have:n*i.size≤4096*4096:=Nat.mul_le_mul hn4 hs4;omega
    have A0q:(ps.map fun(p:Nat × Operand)=>(p.1,a.eval p.2)).toList=ps.toList.map fun p=>(p.1,a.eval p.2):=by simp
    have hzero:(zeroValue e').run P w= .ok v w:=by simp[zeroValue,typeInfo,hi,hv]
    have A8e:(sizeOf e').run P w= .ok i.size w:=by simp[sizeOf,typeInfo,hi]
    refine Jt (w':=w.alloc (.cells cells e')) ?_ (by rw[hd];exact hn G' σ'' As9 _ _ hG r1 r2)
    have Cf:n*i.size≠0:=Nat.mul_ne_zero hn0 h0;have h4':Instr.fill (fun j=>some (j*i.size,i.size)) ((Array.range (n*i.size)).map (fun j=>v.cells[j % v.cells.size]!)) (ps.toList.map fun p=>(p.1,a.eval p.2))=some cells:=h4
    simp only[execOp,ho,Instr.buildSlice,Sem.run_bind,run_underlying hu,Result.andThen,A8e];rw[if_neg Avd,if_neg Cf];simp only[Sem.run_bind,hzero,Result.andThen,Sem.run_pure,A0q,h4'];simp[newRow]
   ·cases ht
  ·cases ht
 ·cases ht
def Y7(d:Nat)(e:TypeId)(sz:Nat):M:=Jz d (.vec e sz [])
theorem Aap{o:Oper}{d:Nat}{t e:TypeId}{sz:Nat}(hd:o.dst=some d)(ho:o.op= .buildSlice t 0 #[])(ht:(P.underlying t=some (.slice e))∧(P.info? e).isSome=true):Sound P N o (Y7 d e sz):=by
 intro G σ Fr w0 st a w Q next E hN hr hw hn C2
 subst hN;obtain⟨hu,hi⟩:=ht;cases hi':P.info? e with
 |none=>simp[hi']at hi
 |some i=>
  obtain⟨σ'',As9,r1,r2⟩:=hr.Ayv (C2 d hd) (sv:=.vec e sz []) (o:=.cells #[] e) (c:=.slice (some ⟨w.heap.size,0,none⟩) 0 0) rfl (by intro _ e;cases e)
   (fun σ1 _ hb=>⟨[],⟨by simp,.inr ⟨w.heap.size,0, #[],rfl,Cr _,Row.of (heap_alloc_new w _),Bz _,by simp[maxLen],by simp,by simp⟩⟩,rfl,by simp,fun b Sy=>by cases Sy;exact hb⟩) hw
  refine Jt (w':=w.alloc (.cells #[] e)) ?_ (by rw[hd];exact hn G σ'' As9 _ _ (Mem.le.refl G) r1 r2)
  have h0:Array.range 0= #[]:=rfl;simp[execOp,ho,Instr.buildSlice,run_underlying hu,sizeOf,typeInfo,hi',newRow,Instr.fill,h0]
end
end Go.Ab
