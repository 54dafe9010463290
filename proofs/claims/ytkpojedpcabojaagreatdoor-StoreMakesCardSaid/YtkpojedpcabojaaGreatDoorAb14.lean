/- Lemmas -/
import Derived.Test.YtkpojedpcabojaaGreatDoorAb10
set_option linter.unusedVariables false
set_option linter.unusedSimpArgs false
namespace Go.Ab
def Ag9(d:Nat)(x:Bh):M:=match x with
 | .c x=>Eo d (.v x)
 | .Fo e sz=>Eo d (.vec e sz [])
 | .t n=>.get n fun ver sv=>match sv with
   | .v x=>Eo d (.v x)
   | .vec e sz l=>.Co (n≠d) fun _=>.set n (ver+1) .no (Eo d (.vec e sz l))
   | .F4 fs=>.Co (n≠d) fun _=>.set n (ver+1) .no (Eo d (.F4 fs))
   | .Mp l=>.Co (n≠d) fun _=>.set n (ver+1) .no (Eo d (.Mp l))
   | .st fs=>.Co (n≠d) fun _=>.set n (ver+1) .no (Eo d (.st fs))
   | .rp x=>Eo d (.rp x)
   | .no=>Eo d .no
   | .pt s k ver off r=>.Co (d≠s) fun _=>Eo d (.pt s k ver off r)
   | .sub s k v m=>.get s fun cur Ek=>.Co (v=cur) fun _=>match k,Ek with
     |0,.vec e sz l=>if s=d then .set d (cur+1) (.vec e sz (l.take m)) .done else Q5 x fun u=>Eo d (.v u)
     |_,_=>Q5 x fun u=>Eo d (.v u)
   | .Q2 _ _ _ _=>.fail
   | .sit _ _=>.fail
   | .mit _ _ _ _=>.fail
   | .yl _=>.fail
   | .al _ _=>.fail
   | .cl _ _ _=>.fail
   | .Qg _ _ _ _=>.fail
   | .bp _ _ _=>.fail
   | .Px _ _ _ _ _=>.fail
   | .bs _ _ _ _ _=>.fail
   | .Km _ _ _=>Q5 x fun u=>Eo d (.v u)
   | .box _=>.Co (n≠d) fun _=>Eo d (.pt n 0 ver 0 [])
   | .par h=>.get h fun ver sv=>.Co (d≠h) fun _=>match sv with
     | .box _=>Eo d (.pt h 0 ver 0 [])
     | .vec _ _ _=>Q5 (.t n) fun u=>Eo d (.v u)
     | .own _ t=>match t with
       | .ptr _=>Eo d (.pd h ver [0])
       | .vec _ _ _=>Eo d (.bd h ver [])
       | .map _ _=>Eo d (.bd h ver [])
       |_=>.fail
     |_=>.fail
   | .own _ t=>.Co (n≠d) fun _=>match t with
     | .ptr _=>Eo d (.pd n ver [0])
     |t=>.set n (ver+1) .no (Eo d (.own [] t))
   | .pd s ver p=>.Co (d≠s) fun _=>Eo d (.pd s ver p)
   | .Lv s ver p b=>.Co (d≠s) fun _=>Eo d (.Lv s ver p b)
   | .bd s ver p=>.Co (d≠s) fun _=>Eo d (.bd s ver p)
section
variable{P:Program}{N:Nat}{G:Mem}{σ:Lab}{Fr:Mem}{w0:Base}{w:World}{st:St}{a:Act}
theorem Ui{d:Nat}{sv:SV}{Q:St→Prop}(h:(Eo d sv).wp P Q st)(hf:∀v,sv.fresh v=sv:=by intro _;rfl):(Ci (some d) sv .done).wp P Q st:=by
 unfold Eo at h;unfold Ci;simpa only[hf]using h
theorem Rel.Xo{Q:St→Prop}{d:Nat}{x:I}{c:Value}(h:Rel G σ Fr w0 st a w)(Up:d<w0.n)(hc:Bb G x c)(hq:(Eo d (.v x)).wp P Q st):
 ∃σ' st',Rel G σ' Fr w0 st' (a.put (some d) c) w∧Q st':=h.Awx (by rintro _ ⟨⟩;exact Up) hc (Ui hq)
theorem Rel.Auc{Q:St→Prop}{n d ver:Nat}{sv:SV}{c:Value}(h:Rel G σ Fr w0 st a w)(Up:d<w0.n)(hs:st[n]?=some (ver,sv))(A2:n≠d)(hr:sv.root=none)(hc:Dx G σ w n sv c)(hnp:∀h,sv≠ .par h)
 (hq:(M.set n (ver+1) .no (Eo d sv)).wp P Q st):∃σ' st',Rel G σ' Fr w0 st' (a.put (some d) c) w∧Q st':=by
 simp only[M.wp,Eo]at hq;cases hd:st[d]? with
 |none=>
  have:(st.set n (ver+1,SV.no))[d]?=none:=by rw[Az A2];exact hd
  simp[this]at hq
 |some cur=>
  have:(st.set n (ver+1,SV.no))[d]?=some cur:=by rw[Az A2];exact hd
  simp only[this]at hq;exact⟨_,_,h.move Up hs hd (Ne.symm A2) (Bk _) (Bk _) hr hc hnp,hq⟩
theorem Amk{o:Oper}{x:Operand}(ho:o.op= .move x∨o.op= .assign x):(execOp a.eval o).run P w= .ok (.value (a.eval x)) w:=by
 rcases ho with ho|ho<;>simp[execOp,ho]
theorem An9{o:Oper}{d:Nat}{x:Operand}{x':Bh}(hd:o.dst=some d)(ho:o.op= .move x∨o.op= .assign x)(hx:Bu N x x'=true):Sound P N o (Ag9 d x'):=by
 intro G σ Fr w0 st a w Q next E hN hr hw hn A9
 subst hN;have W6:∀d',some d=some d'→d'<w0.n:=by rintro _ ⟨⟩;exact A9 d hd
 have fin:∀{G' σ' st'},G.le G'→Rel G' σ' Fr w0 st' (a.put (some d) (a.eval x)) w→Q st'→o.wp P a w next E:=fun hG h1 h2=>
  Df (Amk ho) (by rw[hd];exact hn _ _ _ _ _ hG h1 h2)
 have Apj:∀{n:Nat},x'= .t n→(Q5 (.t n) fun u=>Eo d (.v u)).wp P Q st→o.wp P a w next E:=by
  intro n hx' hq;subst hx';obtain⟨u,G',σ',st',hG,D2,h1,hv⟩:=Se hr hx hq;obtain⟨Qj,Nx,r1,r2⟩:=D2.Xo (A9 d hd) hv h1;exact fin hG r1 r2
 cases x' with
 |c i=>
  obtain⟨σ',st',r1,r2⟩:=hr.Xo (A9 d hd) (Ud hx G) hw;exact fin (Mem.le.refl G) r1 r2
 |Fo e sz=>
  obtain⟨σ',st',r1,r2⟩:=hr.Ci W6 (d:=some d) (sv:=.vec e sz []) (c:=a.eval x) (fun _ _ _ _=>by
   rw[Nj hx];exact⟨[],Lx.nil w e sz,rfl,by simp,by simp[Value.ownBlock]⟩) hw
  exact fin (Mem.le.refl G) r1 r2
 |t n=>
  obtain⟨rfl,Ej⟩:=Gb hx;have hw0:=hw;simp only[Ag9,M.wp]at hw;cases hs:st[n]? with
  |none=>simp[hs]at hw
  |some cur=>
   obtain⟨ver,sv⟩:=cur;simp only[hs]at hw;have Ba:=hr.slot Ej hs;cases sv with
   |v y=>
    obtain⟨σ',st',r1,r2⟩:=hr.Xo (A9 d hd) Ba hw;exact fin (Mem.le.refl G) r1 r2
   |no=>
    obtain⟨σ',st',r1,r2⟩:=hr.Ci W6 (d:=some d) (sv:=.no) (c:=a.eval (.tmp n)) (fun _ _ _ _=>trivial) hw
    exact fin (Mem.le.refl G) r1 r2
   |rp y=>
    obtain⟨σ',st',r1,r2⟩:=hr.Ci W6 (d:=some d) (sv:=.rp y) (c:=a.eval (.tmp n)) (fun _ _ _ _=>Ba) hw
    exact fin (Mem.le.refl G) r1 r2
   |vec e sz l=>
    obtain⟨A2,hw⟩:=hw;obtain⟨σ',st',r1,r2⟩:=hr.Auc (A9 d hd) hs A2 rfl Ba (by intro _ e;cases e) hw
    exact fin (Mem.le.refl G) r1 r2
   |F4 fs=>
    obtain⟨A2,hw⟩:=hw;obtain⟨σ',st',r1,r2⟩:=hr.Auc (A9 d hd) hs A2 rfl Ba (by intro _ e;cases e) hw
    exact fin (Mem.le.refl G) r1 r2
   |Mp fs=>
    obtain⟨A2,hw⟩:=hw;obtain⟨σ',st',r1,r2⟩:=hr.Auc (A9 d hd) hs A2 rfl Ba (by intro _ e;cases e) hw
    exact fin (Mem.le.refl G) r1 r2
   |st fs=>
    obtain⟨A2,hw⟩:=hw;obtain⟨σ',st',r1,r2⟩:=hr.Auc (A9 d hd) hs A2 rfl Ba (by intro _ e;cases e) hw
    exact fin (Mem.le.refl G) r1 r2
   |box t=>
    obtain⟨A2,hw⟩:=hw;obtain⟨b,cells,ty,h1,h2,_⟩:=Ba
    replace hw:=Ui hw
    obtain⟨σ',st',r1,r2⟩:=hr.Au1 (d:=some d) W6 hs (by simpa using Ne.symm A2) rfl h2 hw
    rw[←h1]at r1;exact fin (Mem.le.refl G) r1 r2
   |pt s k Cn off r=>
    obtain⟨A2,hw⟩:=hw;obtain⟨cur,h1,h2,h3⟩:=Ba;obtain⟨σ',st',r1,r2⟩:=hr.Ci W6 (d:=some d) (sv:=.pt s k Cn off r) (c:=a.eval (.tmp n)) (fun d' Pu ver _=>by
     refine⟨cur,?_,h2,fun e=>?_⟩
     ·rw[Az (by rintro rfl;cases Pu;exact A2 rfl)];exact h1
     ·obtain⟨b,h4,h5⟩:=h3 e;exact⟨b,Lab.D1.2 ⟨by rintro rfl;cases Pu;exact A2 rfl,h4⟩,h5⟩) hw
    exact fin (Mem.le.refl G) r1 r2
   |Km s k v=>exact Apj rfl hw
   |own inv t=>
    obtain⟨A2,hw⟩:=hw;have hv:val a w0 n=a.eval (.tmp n):=G9 (by rw[hr.n];exact Ej)
    have Fm:Dr G σ w n t (val a w0 n):=by rw[hv];exact Ba
    split at hw
    ·replace hw:=Ui hw
     obtain⟨σ',st',r1,r2⟩:=hr.Ci W6 (d:=some d) (c:=a.eval (.tmp n)) (fun d' Pu ver _=>by
      cases Pu;refine⟨_,by rw[Az (Ne.symm A2)];exact hs,Ay _,fun Kj t' e _ _=>?_⟩
      cases e;rw[Db A2, ←hv];exact Fm.pt) hw
     exact fin (Mem.le.refl G) r1 r2
    ·obtain⟨σ',st',r1,r2⟩:=hr.Auc (A9 d hd) hs A2 rfl Ba (by intro _ e;cases e) hw
     exact fin (Mem.le.refl G) r1 r2
   |Lv s Cn p b=>
    obtain⟨A2,hw⟩:=hw;obtain⟨c0,Gq,Ba⟩:=Ba;obtain⟨cur,h1,h2,h3⟩:=Ba
    replace hw:=Ui hw
    obtain⟨σ',st',r1,r2⟩:=hr.Ci W6 (d:=some d) (sv:=.Lv s Cn p b) (c:=a.eval (.tmp n)) (fun d' Pu ver _=>by
     cases Pu;refine⟨c0,Gq,cur,by rw[Az A2];exact h1,h2,fun inv t e hp ha=>?_⟩
     rw[Db (Ne.symm A2)];exact h3 inv t e hp ha) hw
    exact fin (Mem.le.refl G) r1 r2
   |pd s Cn p=>
    obtain⟨A2,hw⟩:=hw;obtain⟨cur,h1,h2,h3⟩:=Ba
    replace hw:=Ui hw
    obtain⟨σ',st',r1,r2⟩:=hr.Ci W6 (d:=some d) (sv:=.pd s Cn p) (c:=a.eval (.tmp n)) (fun d' Pu ver _=>by
     cases Pu;refine⟨cur,by rw[Az A2];exact h1,h2,fun inv t e hp ha=>?_⟩
     rw[Db (Ne.symm A2)];exact h3 inv t e hp ha) hw
    exact fin (Mem.le.refl G) r1 r2
   |bd s Cn p=>
    obtain⟨A2,hw⟩:=hw;obtain⟨cur,h1,h2,h3⟩:=Ba
    replace hw:=Ui hw
    obtain⟨σ',st',r1,r2⟩:=hr.Ci W6 (d:=some d) (sv:=.bd s Cn p) (c:=a.eval (.tmp n)) (fun d' Pu ver _=>by
     cases Pu;refine⟨cur,by rw[Az A2];exact h1,h2,fun inv t e ha=>?_⟩
     rw[Db (Ne.symm A2)];exact h3 inv t e ha) hw
    exact fin (Mem.le.refl G) r1 r2
   |par h=>
    obtain⟨hv,hle⟩:=hr.Nv n ver h hs;rw[G9 (by rw[hr.n];exact Ej)]at hv
    simp only[M.wp]at hw;cases hh:st[h]? with
    |none=>simp[hh]at hw
    |some cur=>
     obtain⟨Cn,Ek⟩:=cur;simp only[hh]at hw;obtain⟨A2,hw⟩:=hw;have Fy:=hr.Bj h Cn Ek hh;rw[←hv]at Fy;split at hw
     ·obtain⟨b,cells,ty,h1,h2,_⟩:=Fy
      replace hw:=Ui hw
      obtain⟨σ',st',r1,r2⟩:=hr.Au1 (d:=some d) W6 hh (by simpa using A2) rfl h2 hw
      rw[←h1]at r1;exact fin (Mem.le.refl G) r1 r2
     ·exact Apj rfl hw
     ·rename_i inv t;have Fm:Dr G σ w h t (val a w0 h):=by rw[←hv];exact Fy
      have pt:∀{sv:SV},(∀v,sv.fresh v=sv)→(∀h,sv≠ .par h)→(∀inv t,sv≠ .own inv t)→(∀vv:Nat→Value,vv h=val a w0 h→∀σ' st',st'[h]?=some (Cn,.own inv t)→Fa G σ' w st' vv d sv (a.eval (.tmp n)))→(Eo d sv).wp P Q st→o.wp P a w next E:=by
       intro sv hf hp X9 Nr hw;obtain⟨σ',st',r1,r2⟩:=hr.Ci W6 (d:=some d) (c:=a.eval (.tmp n)) (fun d' Pu ver _=>by
        cases Pu;exact Nr _ (Db (Ne.symm A2)) _ _ (by rw[Az A2];exact hh)) (Ui hw hf) (fun _ e=>absurd e (hp _)) X9
       exact fin (Mem.le.refl G) r1 r2
      split at hw
      ·refine pt (sv:=.pd h Cn [0]) (by intro _;rfl) (by intro _ e;cases e) (by intro _ _ e;cases e) (fun vv Tw σ' st' Ga=>⟨_,Ga,Ay _,fun Kj t' e _ _=>?_⟩) hw
       cases e;rw[Tw,hv];exact Fm.pt
      ·refine pt (sv:=.bd h Cn []) (by intro _;rfl) (by intro _ e;cases e) (by intro _ _ e;cases e) (fun vv Tw σ' st' Ga=>⟨_,Ga,Ay _,fun Kj t' e _=>?_⟩) hw
       cases e;rw[Tw,hv];exact Fm.hd rfl
      ·refine pt (sv:=.bd h Cn []) (by intro _;rfl) (by intro _ e;cases e) (by intro _ _ e;cases e) (fun vv Tw σ' st' Ga=>⟨_,Ga,Ay _,fun Kj t' e _=>?_⟩) hw
       cases e;rw[Tw,hv];exact Fm.hd rfl
      ·exact hw.elim
     ·exact hw.elim
   |Q2 s k v m=>exact hw.elim
   |sit _ _=>exact hw.elim
   |mit _ _ _ _=>exact hw.elim
   |yl _=>exact hw.elim
   |al _ _=>exact hw.elim
   |cl _ _ _=>exact hw.elim
   |Qg _ _ _ _=>exact hw.elim
   |bp _ _ _=>exact hw.elim
   |Px _ _ _ _ _=>exact hw.elim
   |bs s v p lo m=>exact hw.elim
   |sub s k v m=>
    obtain⟨cur,h1,h2,h3⟩:=Ba;simp only[M.wp,h1]at hw;obtain⟨hv,hw⟩:=hw;split at hw
    ·rename_i e sz l Nr;split at hw
     ·rename_i Rf;subst Rf;obtain⟨e',Ex,l',h4,h5⟩:=h3 hv;obtain⟨cv,Hh⟩:=cur;simp only at Nr;subst Nr;cases h4;have D2:=hr.put (d:=s) (ver:=cv+1) (A9 s hd) (new:=.vec e sz (l.take m)) (c:=a.eval (.tmp n)) hr.Bz (Mem.le.refl G) h1 (Bk _) (fun s' _=>Kept.refl σ w s') h5
      exact fin (Mem.le.refl G) D2 hw
     ·exact Apj rfl hw
    ·exact Apj rfl hw
def A4m(d:Nat)(e:TypeId)(sz:Nat)(x:Bh):M:=match x with
 | .t n=>.get n fun _ sv=>match sv with
   | .Km _ _ _=>Ahe e sz (.t n) fun l=>Eo d (.vec e sz l)
   | .sub _ _ _ _=>Ahe e sz (.t n) fun l=>Eo d (.vec e sz l)
   |_=>Ag9 d (.t n)
 |x=>Ag9 d x
theorem Ayw{o:Oper}{d:Nat}{e:TypeId}{sz:Nat}{x:Operand}{x':Bh}(hd:o.dst=some d)(ho:o.op= .move x∨o.op= .assign x)(hx:Bu N x x'=true):Sound P N o (A4m d e sz x'):=by
 intro G σ Fr w0 st a w Q next E hN hr hw hn A9
 subst hN;have asg:(Ag9 d x').wp P Q st→o.wp P a w next E:=fun hq=>An9 hd ho hx G σ Fr w0 st a w Q next E rfl hr hq hn A9
 cases x' with
 |c y=>exact asg hw
 |Fo e sz=>exact asg hw
 |t n=>
  simp only[A4m,M.wp]at hw;cases hs:st[n]? with
  |none=>simp[hs]at hw
  |some cur=>
   simp only[hs]at hw;split at hw
   ·obtain⟨l,σ1,st1,Hr,h1,N2⟩:=Af2 hr hx hw;obtain⟨σ',st',r1,r2⟩:=Hr.Ajb (w':=w) (row:=none) (A9 d hd) ⟨rfl,rfl,rfl,Ay _,fun _ _ _=>rfl⟩ (fun b hb=>by cases hb) N2 h1
    exact Df (Amk ho) (by rw[hd];exact hn _ _ _ _ _ (Mem.le.refl G) r1 r2)
   ·obtain⟨l,σ1,st1,Hr,h1,N2⟩:=Af2 hr hx hw;obtain⟨σ',st',r1,r2⟩:=Hr.Ajb (w':=w) (row:=none) (A9 d hd) ⟨rfl,rfl,rfl,Ay _,fun _ _ _=>rfl⟩ (fun b hb=>by cases hb) N2 h1
    exact Df (Amk ho) (by rw[hd];exact hn _ _ _ _ _ (Mem.le.refl G) r1 r2)
   ·exact asg hw
def Auz(d:Option Nat)(str:Bool)(x:Bh):M:=match x with
 | .t n=>.get n fun _ sv=>match sv with
   | .v (.list l)=>.Co (str=false) fun _=>.fact (l.length≤maxLen) (Ci d (.v (.int .i64 l.length)) .done)
   | .v (.str s)=>.Co (str=true) fun _=>.fact (s.length≤maxLen) (Ci d (.v (.int .i64 s.length)) .done)
   | .vec _ _ l=>.Co (str=false) fun _=>.fact (l.length≤maxLen) (Ci d (.v (.int .i64 l.length)) .done)
   | .Km s k v=>.get s fun cur Ek=>.Co (v=cur∧str=false) fun _=>match Ek.Fu k with
     |some (_,_,l)=>.fact (l.length≤maxLen) (Ci d (.v (.int .i64 l.length)) .done)
     |none=>.fail
   | .sub s k v m=>.get s fun cur Ek=>.Co (v=cur∧str=false) fun _=>match Ek.Fu k with
     |some (_,_,l)=>.fact ((l.take m).length≤maxLen) (Ci d (.v (.int .i64 (l.take m).length)) .done)
     |none=>.fail
   |_=>.fail
 | .c (.str s)=>.Co (str=true) fun _=>Ci d (.v (.int .i64 s.length)) .done
 |_=>.fail
def Aen(P:Program)(t:TypeId)(str:Bool):Bool:=match P.underlying t with
 |some .string=>str
 |some (.slice _)=> !str
 |_=>false
theorem Fg.len{Ca:Nat × Nat}{e:TypeId}{sz:Nat}{l:List I}{c:Value}(h:Fg G σ w Ca e sz l c):∃ad cap,c= .slice ad l.length cap∧l.length≤maxLen:=by
 obtain⟨xs,h1,_⟩:=h;rcases h1.2 with⟨rfl,h0⟩|⟨g,cap,cur,rfl,_,_,h3,h4,_⟩
 ·exact⟨none,0,by rw[h0],by rw[h0];exact A3 _⟩
 ·exact⟨_,cap,rfl,C2 h3 h4⟩
theorem Bgx{o:Oper}{t:TypeId}{x:Operand}{x':Bh}{str:Bool}(ho:o.op= .call {callee:=.builtin .len,args:= #[x],argTypes:= #[t]})(hx:Bu N x x'=true)(ht:Aen P t str=true):
 Sound P N o (Auz o.dst str x'):=by
 intro G σ Fr w0 st a w Q next E hN hr hw hn A9
 subst hN;have hsl:str=false→∃e,P.underlying t=some (.slice e):=by
  rintro rfl;unfold Aen at ht;split at ht
  ·cases ht
  ·rename_i e h;exact⟨e,h⟩
  ·cases ht
 have Ga:str=true→P.underlying t=some .string:=by
  rintro rfl;unfold Aen at ht;split at ht
  ·assumption
  ·cases ht
  ·cases ht
 have sl:∀{ad:Option Addr} {n cap:Nat},str=false→a.eval x= .slice ad n cap→(execOp a.eval o).run P w= .ok (.value (.int .i64 n)) w:=by
  intro ad n cap hs he;obtain⟨e,hu⟩:=hsl hs;simp[execOp,ho,resolve,invoke,builtin,Builtin.len_,run_underlying hu,he,goInt]
 have ss:∀{s:List UInt8},str=true→a.eval x= .string ⟨⟨s⟩⟩→(execOp a.eval o).run P w= .ok (.value (.int .i64 s.length)) w:=by
  intro s hs he;have hu:=Ga hs;simp[execOp,ho,resolve,invoke,builtin,Builtin.len_,run_underlying hu,he,goInt];rfl
 cases x' with
 |c i=>
  cases i with
  |str s=>
   obtain⟨h1,h2⟩:=hw;have:=Bb.str.1 (Ud (a:=a) hx G);exact Gn hr hn A9 (Bb.int.2 rfl) h2 (ss h1 this.1)
  |_=>exact hw.elim
 |Fo e sz=>exact hw.elim
 |t n=>
  obtain⟨rfl,Ej⟩:=Gb hx;simp only[Auz,M.wp]at hw;cases hs:st[n]? with
  |none=>simp[hs]at hw
  |some cur=>
   obtain⟨ver,sv⟩:=cur;simp only[hs]at hw;have Ba:=hr.slot Ej hs;split at hw
   ·rename_i l;obtain⟨h1,h2⟩:=hw;have Fy:Bb G (.list l) (a.eval (.tmp n)):=Ba;obtain⟨ad,cap,hc,hl,hm,_⟩:=Bb.list.1 Fy;exact Gn hr hn A9 (Bb.int.2 rfl) (h2 (C2 hl hm)) (sl h1 hc)
   ·rename_i s;obtain⟨h1,h2⟩:=hw;have Fy:Bb G (.str s) (a.eval (.tmp n)):=Ba;exact Gn hr hn A9 (Bb.int.2 rfl) (h2 (Bb.str.1 Fy).2) (ss h1 (Bb.str.1 Fy).1)
   ·obtain⟨h1,h2⟩:=hw;obtain⟨ad,cap,hc,hm⟩:=Fg.len Ba;exact Gn hr hn A9 (Bb.int.2 rfl) (h2 hm) (sl h1 hc)
   ·rename_i s k v;obtain⟨cur,g1,g2,g3⟩:=Ba;simp only[M.wp,g1]at hw;obtain⟨⟨hv,h1⟩,h2⟩:=hw;obtain⟨e,sz,l,g4,g5⟩:=g3 hv;simp only[g4]at h2;obtain⟨ad,cap,hc,hm⟩:=Fg.len g5;exact Gn hr hn A9 (Bb.int.2 rfl) (h2 hm) (sl h1 hc)
   ·rename_i s k v m;obtain⟨cur,g1,g2,g3⟩:=Ba;simp only[M.wp,g1]at hw;obtain⟨⟨hv,h1⟩,h2⟩:=hw;obtain⟨e,sz,l,g4,g5⟩:=g3 hv;simp only[g4]at h2;obtain⟨ad,cap,hc,hm⟩:=Fg.len g5;exact Gn hr hn A9 (Bb.int.2 rfl) (h2 hm) (sl h1 hc)
   ·exact hw.elim
end

def rdB(x:Option Bh)(A09:Int)(k:Int→M):M:=match x with
 |none=>k A09
 |some x=>Qi x fun i=>match i with
  | .int _ n=>k n
  |_=>.fail
def oOk(N:Nat):Option Operand→Option Bh→Bool
 |none,none=>true
 |some x,some y=>Bu N x y
 |_,_=>false
def Ar3(d:Option Nat)(str:Bool)(sz:Nat)(x:Bh)(lo hi:Option Bh):M:=match x with
 | .t n=>.get n fun ver sv=>match sv with
   | .v (.list l)=>rdB lo 0 fun i=>rdB hi l.length fun j=>.Co (str=false∧0≤i∧i≤j∧j≤l.length∧∀u∈l,u.size=sz) fun _=>Ci d (.v (.list ((l.take j.toNat).drop i.toNat))) .done
   | .v (.str s)=>rdB lo 0 fun i=>rdB hi s.length fun j=>.Co (str=true∧0≤i∧i≤j∧j≤s.length) fun _=>Ci d (.v (.str ((s.take j.toNat).drop i.toNat))) .done
   | .vec _ Ex l=>rdB lo 0 fun i=>rdB hi l.length fun j=>.Co (str=false∧Ex=sz∧i=0∧0≤j∧j≤l.length∧d≠some n) fun _=>Ci d (.sub n 0 ver j.toNat) .done
   | .Km s k v=>.get s fun cur Ek=>.Co (v=cur) fun _=>match Ek.Fu k with
     |some (_,Ex,l)=>rdB lo 0 fun i=>rdB hi l.length fun j=>.Co (str=false∧Ex=sz∧i=0∧0≤j∧j≤l.length∧d≠some s) fun _=>Ci d (.sub s k v j.toNat) .done
     |none=>.fail
   |_=>.fail
 |_=>.fail
def Bg4(d:Option Nat)(x i:Bh):M:=Qi x fun u=>Qi i fun n=>match u,n with
 | .str s,.int _ n=>match s[n.toNat]? with
   |some b=>.Co (0≤n) fun _=>Ci d (.v (.int .u8 b.toNat)) .done
   |none=>.fail
 |_,_=>.fail
section
variable{P:Program}{N:Nat}{G:Mem}{σ:Lab}{Fr:Mem}{w0:Base}{w:World}{st:St}{a:Act}
theorem S3{x:Option Operand}{y:Option Bh}{A09:Int}{k:Int→M}{Q:St→Prop}(h:Rel G σ Fr w0 st a w)
 (ho:oOk w0.n x y=true) (hq:(rdB y A09 k).wp P Q st):
 ∃i,(k i).wp P Q st∧((x=none∧i=A09)∨∃x' kd,x=some x'∧a.eval x'= .int kd i):=by
 cases y with
 |none=>
  cases x with
  |none=>exact⟨A09,hq,.inl ⟨rfl,rfl⟩⟩
  |some x=>cases ho
 |some y=>
  cases x with
  |none=>cases ho
  |some x=>
   obtain⟨i,h1,h2⟩:=Hs h ho hq;cases i with
   |int kd n=>exact⟨n,h1,.inr ⟨x,kd,rfl,Bb.int.1 h2⟩⟩
   |_=>exact h1.elim
theorem N7{isSlice:Bool}{len cap:Nat}{lo hi:Option Operand}{i j:Int}(w:World)
 (hlo:(lo=none∧i=0)∨∃x kd,lo=some x∧a.eval x= .int kd i) (hhi:(hi=none∧j=len)∨∃x kd,hi=some x∧a.eval x= .int kd j)
 (h0:0≤i) (h1:i≤j) (h2:j≤len) (hc:len≤cap):(Instr.sliceBounds isSlice len cap (lo.map a.eval) (hi.map a.eval) none).run P w= .ok (i.toNat,j.toNat,cap) w:=by
 have b1:∀(kd:IntKind) (code:BoundsCode),(Instr.sliceBound (.int kd j) cap code).run P w= .ok j.toNat w:=fun kd code=>
  run_sliceBound (P:=P) (w:=w) kd j cap code (by omega) (by omega)
 have b2:∀(kd:IntKind) (code:BoundsCode),(Instr.sliceBound (.int kd i) j.toNat code).run P w= .ok i.toNat w:=fun kd code=>
  run_sliceBound (P:=P) (w:=w) kd i j.toNat code (by omega) (by omega)
 have b3:∀(kd:IntKind) (code:BoundsCode),j=len→(Instr.sliceBound (.int kd i) len code).run P w= .ok i.toNat w:=fun kd code e=>by
  have:=b2 kd code;rw[e]at this;simpa using this
 rcases hlo with⟨rfl,rfl⟩|⟨x,kd,rfl,hx⟩<;>rcases hhi with⟨rfl,rfl⟩|⟨y,kd',rfl,hy⟩
 ·simp[Instr.sliceBounds]
 ·simp[Instr.sliceBounds,hy,b1]
 ·simp[Instr.sliceBounds,hx,b3]
 ·simp[Instr.sliceBounds,hx,hy,b1,b2]
theorem B4.slice{G:Mem}{l:List I}{cs:List Value}{sz i j:Nat}(h:B4 G l cs)(Cq:∀x∈l,x.size=sz)(L7:i≤j)(hj:j≤l.length):
 B4 G ((l.take j).drop i) ((cs.take (j*sz)).drop (i*sz)):=by
 have e1:l=(l.take j)++l.drop j:=(B3 j l).symm;rw[e1]at h;obtain⟨c,d,rfl,h1,_⟩:=B4.split h;have hl1:c.length=j*sz:=by
  rw[B4.length _ _ h1,Ht (sz:=sz) fun x hx=>Cq x (C6 hx),Ck,Da hj]
 have e2:l.take j=(l.take j).take i++(l.take j).drop i:=(B3 i _).symm;rw[e2]at h1;obtain⟨c1,c2,rfl,h3,h4⟩:=B4.split h1;have Tf:c1.length=i*sz:=by
  rw[B4.length _ _ h3,Ht (sz:=sz) fun x hx=>Cq x (C6 (C6 hx)),Ck,Ck]
  rw[Da (by omega)]
 rw[←hl1,Gt, ←Tf,Jy];exact h4
theorem Bb.sliced{l:List I}{ad:Option Addr}{cap i j sz:Nat}(h:Bb G (.list l) (.slice ad l.length cap))(L7:i≤j)(hj:j≤l.length)(Cq:l≠[]→∀x∈l,x.size=sz):
 Bb G (.list ((l.take j).drop i)) (.slice (if cap=i then ad else ad.map (·.add (i*sz))) (j - i) (cap - i)):=by
 obtain⟨a',Z7,he,h1,h2,h3⟩:=Bb.list.1 h;cases he;have hlen:((l.take j).drop i).length=j - i:=by simp[Da hj]
 refine Bb.list.2 ⟨_,_,by rw[hlen],by rw[hlen];omega,by omega,?_⟩
 rcases h3 with rfl|⟨b,off,bl,ty,fz,Ex,rfl,hg,hs,hle,hr⟩
 ·exact .inl (by simp)
 ·by_cases Bw0:i=j
  ·subst Bw0;exact .inl (Dg (by rw[hlen];omega))
  ·have A2:l≠[]:=by rintro rfl;simp at hj;omega
   have A2t:Ex=sz:=by
    cases l with
    |nil=>exact absurd rfl A2
    |cons x l=>rw[←hs x (by simp),Cq A2 x (by simp)]
   subst A2t;have hci:cap≠i:=by omega
   rw[if_neg hci];refine .inr ⟨b,off+i*Ex,bl,ty,fz,Ex,by simp[add_lit],hg,fun x hx=>hs x (C6 (Er hx)),?_,?_⟩
   ·rw[hlen,Nat.sub_mul];have h4:i*Ex≤j*Ex:=C7 _ L7;have h5:j*Ex≤l.length*Ex:=C7 _ hj;omega
   ·have:=B4.slice hr hs L7 hj;rw[hlen];have h5:j*Ex≤l.length*Ex:=C7 _ hj;have e:(((bl.toList.drop off).take (l.length*Ex)).take (j*Ex)).drop (i*Ex)=(bl.toList.drop (off+i*Ex)).take ((j - i)*Ex):=by
     rw[List.take_take,Da h5,List.drop_take,List.drop_drop,Nat.sub_mul]
    rwa [e]at this
def Apg(P:Program)(t:TypeId)(str:Bool)(sz:Nat):Bool:=match P.underlying t with
 |some .string=>str
 |some (.slice e)=> !str&&match P.info? e with
  |some i=>i.size==sz
  |none=>false
 |_=>false
theorem extract_data(s:List UInt8)(i j:Nat):(⟨⟨s⟩⟩:ByteArray).extract i j=⟨⟨(s.take j).drop i⟩⟩:=by
 apply ByteArray.ext;apply Array.ext';simp[List.extract_eq_take_drop,List.drop_take]
theorem Fg.take{Ca:Nat × Nat}{e:TypeId}{sz:Nat}{l:List I}{ad:Option Addr}{n cap j:Nat}(h:Fg G σ w Ca e sz l (.slice ad n cap))(hj:j≤l.length):
 Fg G σ w Ca e sz (l.take j) (.slice ad j cap):=by
 obtain⟨xs,h1,h2,h3,h4⟩:=h;have hl:(l.take j).length=j:=by rw[Ck,Da hj]
 have e1:l=l.take j++l.drop j:=(B3 j l).symm;rw[e1]at h2;obtain⟨c,d,rfl,h5,_⟩:=B4.split h2;have hc:c.length=j*sz:=by rw[B4.length _ _ h5,Ht (sz:=sz) fun x hx=>h3 x (C6 hx),hl]
 refine⟨c,⟨by rw[hl,hc],?_⟩,h5,fun x hx=>h3 x (C6 hx),fun b hb=>h4 b (by cases ad with|none=>simp[Value.ownBlock]at hb|some _=>simpa[Value.ownBlock]using hb)⟩
 rcases h1.2 with⟨e2,e3⟩|⟨g,Z7,cur,e2,k1,k2,k3,k4,k5,k6⟩
 ·cases e2;exact .inl ⟨by congr 1;omega,by rw[hl];omega⟩
 ·cases e2;refine .inr ⟨g,cap,cur,by rw[hl],k1,k2,by rw[hl];omega,k4,k5,?_⟩
  rw[hl, ←hc];have h7:(cur.toList.take (l.length*sz)).take c.length=c:=by rw[k6,Gt]
  rw[List.take_take,Da]at h7
  ·exact h7
  ·rw[hc];exact C7 _ hj
theorem A6t{o:Oper}{t:TypeId}{x:Operand}{lo hi:Option Operand}{x':Bh}{lo' hi':Option Bh}{str:Bool}{sz:Nat}(ho:o.op= .slice t x lo hi none)(hx:Bu N x x'=true)
 (hlo:oOk N lo lo'=true) (hhi:oOk N hi hi'=true) (ht:Apg P t str sz=true):Sound P N o (Ar3 o.dst str sz x' lo' hi'):=by
 intro G σ Fr w0 st a w Q next E hN hr hw hn A9
 subst hN;have hsl:str=false→∃e i,P.underlying t=some (.slice e)∧P.info? e=some i∧i.size=sz:=by
  rintro rfl;unfold Apg at ht;split at ht
  ·cases ht
  ·rename_i e h;split at ht
   ·rename_i i hi;exact⟨e,i,h,hi,by simpa using ht⟩
   ·cases ht
  ·cases ht
 have Ga:str=true→P.underlying t=some .string:=by
  rintro rfl;unfold Apg at ht;split at ht
  ·assumption
  ·simp at ht
  ·cases ht
 cases x' with
 |c _=>exact hw.elim
 |Fo _ _=>exact hw.elim
 |t n=>
  obtain⟨rfl,Ej⟩:=Gb hx;simp only[Ar3,M.wp]at hw;cases hs:st[n]? with
  |none=>simp[hs]at hw
  |some cur=>
   obtain⟨ver,sv⟩:=cur;simp only[hs]at hw;have Ba:=hr.slot Ej hs;split at hw
   ·rename_i l;obtain⟨i,h1,hi1⟩:=S3 hr hlo hw;obtain⟨j,h2,hj1⟩:=S3 hr hhi h1;obtain⟨⟨k1,k2,k3,k4,k5⟩,h3⟩:=h2;obtain⟨e,i0,hu,hi0,Cq⟩:=hsl k1;have Fy:Bb G (.list l) (a.eval (.tmp n)):=Ba;obtain⟨ad,cap,hc,Tg,_⟩:=Bb.list.1 Fy;have hb:=N7 (P:=P) (isSlice:=true) (len:=l.length) (cap:=cap) w hi1 hj1 k2 k3 k4 Tg;rw[hc]at Fy;have hv:=Bb.sliced (i:=i.toNat) (j:=j.toNat) (sz:=sz) Fy (by omega) (by omega) fun _=>k5
    refine Gn hr hn A9 hv h3 ?_;simp[execOp,ho,Instr.sliceAt,Instr.slice,run_underlying hu,hc,hb,sizeOf,typeInfo,hi0,Cq]
   ·rename_i s;obtain⟨i,h1,hi1⟩:=S3 hr hlo hw;obtain⟨j,h2,hj1⟩:=S3 hr hhi h1;obtain⟨⟨k1,k2,k3,k4⟩,h3⟩:=h2;have hu:=Ga k1;have Fy:Bb G (.str s) (a.eval (.tmp n)):=Ba;obtain⟨hc,Awe⟩:=Bb.str.1 Fy;have hb:=N7 (P:=P) (isSlice:=false) (len:=s.length) (cap:=s.length) w hi1 hj1 k2 k3 k4 (Ay _);refine Gn hr hn A9 (v:=.string ⟨⟨(s.take j.toNat).drop i.toNat⟩⟩) (Bb.str.2 ⟨rfl,by simp;omega⟩) h3 ?_
    have Btn:(⟨⟨s⟩⟩:ByteArray).size=s.length:=rfl;simp[execOp,ho,Instr.sliceAt,Instr.slice,run_underlying hu,hc,Btn,hb,extract_data]
   ·rename_i e' Ex l;obtain⟨i,h1,hi1⟩:=S3 hr hlo hw;obtain⟨j,h2,hj1⟩:=S3 hr hhi h1;obtain⟨⟨k1,rfl,rfl,k3,k4,A2⟩,h3⟩:=h2;obtain⟨e,i0,hu,hi0,Cq⟩:=hsl k1;have Fy:Fg G σ w (n,0) e' Ex l (a.eval (.tmp n)):=Ba;obtain⟨ad,cap,hc,_⟩:=Fy.len;have Tg:l.length≤cap:=by
     obtain⟨xs,q1,_⟩:=Fy;rcases q1.2 with⟨q2,q3⟩|⟨g,Z7,cur,q2,_,_,q3,_⟩
     ·omega
     ·rw[hc]at q2;cases q2;exact q3
    have hb:=N7 (P:=P) (isSlice:=true) (len:=l.length) (cap:=cap) w hi1 hj1 (Qr 0) k3 k4 Tg;rw[hc]at Fy;have hv:=Fy.take (j:=j.toNat) (by omega)
    obtain⟨σ',st',r1,r2⟩:=hr.Ci A9 (sv:=.sub n 0 ver j.toNat) (c:=.slice ad j.toNat cap) (fun d' hd Cn _=>by
     refine⟨_,by rw[Az (by rintro rfl;exact A2 hd)];exact hs,Ay _,fun _=>⟨e',Ex,l,rfl,?_⟩⟩
     exact hv.tr (Mem.le.refl G) fun b hb=>⟨Lab.D1.2 ⟨by rintro rfl;exact A2 hd,hb⟩,rfl⟩) h3
    refine Df (w':=w) ?_ (hn G σ' st' _ w (Mem.le.refl G) r1 r2);have had:Option.map (fun x:Addr=>x.add 0) ad=ad:=by cases ad<;>simp[Addr.add]
    simp[execOp,ho,Instr.sliceAt,Instr.slice,run_underlying hu,hc,hb,sizeOf,typeInfo,hi0,Cq,had]
   ·rename_i s k v;obtain⟨cur,g1,g2,g3⟩:=Ba;simp only[M.wp,g1]at hw;obtain⟨hv,hw⟩:=hw;obtain⟨e',Ex,l,g4,g5⟩:=g3 hv;simp only[g4]at hw;obtain⟨i,h1,hi1⟩:=S3 hr hlo hw;obtain⟨j,h2,hj1⟩:=S3 hr hhi h1;obtain⟨⟨k1,rfl,rfl,k3,k4,A2⟩,h3⟩:=h2;obtain⟨e,i0,hu,hi0,Cq⟩:=hsl k1;obtain⟨ad,cap,hc,_⟩:=g5.len;have Tg:l.length≤cap:=by
     obtain⟨xs,q1,_⟩:=g5;rcases q1.2 with⟨q2,q3⟩|⟨g,Z7,cur,q2,_,_,q3,_⟩
     ·omega
     ·rw[hc]at q2;cases q2;exact q3
    have hb:=N7 (P:=P) (isSlice:=true) (len:=l.length) (cap:=cap) w hi1 hj1 (Qr 0) k3 k4 Tg;rw[hc]at g5;have Tw:=g5.take (j:=j.toNat) (by omega)
    obtain⟨σ',st',r1,r2⟩:=hr.Ci A9 (sv:=.sub s k v j.toNat) (c:=.slice ad j.toNat cap) (fun d' hd Cn _=>by
     refine⟨cur,by rw[Az (by rintro rfl;exact A2 hd)];exact g1,g2,fun _=>⟨e',Ex,l,g4,?_⟩⟩
     exact Tw.tr (Mem.le.refl G) fun b hb=>⟨Lab.D1.2 ⟨by rintro rfl;exact A2 hd,hb⟩,rfl⟩) h3
    refine Df (w':=w) ?_ (hn G σ' st' _ w (Mem.le.refl G) r1 r2);have had:Option.map (fun x:Addr=>x.add 0) ad=ad:=by cases ad<;>simp[Addr.add]
    simp[execOp,ho,Instr.sliceAt,Instr.slice,run_underlying hu,hc,hb,sizeOf,typeInfo,hi0,Cq,had]
   ·exact hw.elim
end

def Aez:List (Nat × Bh)→List I→(List I→M)→M
 | [],zs,k=>k zs
 |(i,x)::ps,zs,k=>Q5 x fun u=>match zs[i]? with
  |some z=>.Co (u.size=z.size) fun _=>Aez ps (zs.set i u) k
  |none=>.fail
def M8(N:Nat):List (Nat × Operand)→List (Nat × Bh)→Bool
 | [],[]=>true
 |(i,x)::l,(j,y)::m=>i==j&&Bu N x y&&M8 N l m
 |_,_=>false
section
variable{P:Program}{N:Nat}{G:Mem}{σ:Lab}{Fr:Mem}{w0:Base}{w:World}{st:St}{a:Act}
theorem Axe:∀(vs pre old post:List Value) (n:Nat) (cells:Array Value),cells.toList=pre++old++post→old.length=vs.length→
 ((vs.zipIdx n).foldl (fun(cs:Array Value) (p:Value × Nat)=>cs.setIfInBounds (pre.length - n+p.2) p.1) cells).toList=pre++vs++post∨pre.length<n
 | [],pre,old,post,n,cells,h,hl=>by
   left;have:old=[]:=Dg hl;subst this;simpa using h
 |v::vs,pre,old,post,n,cells,h,hl=>by
  by_cases hn:pre.length<n
  ·exact .inr hn
  ·left;cases old with
   |nil=>simp at hl
   |cons o old=>
    have h1:(cells.setIfInBounds (pre.length - n+n) v).toList=(pre++[v])++old++post:=by
     rw[Array.toList_setIfInBounds,h,Nat.sub_add_cancel (by omega)]
     simp
    have:=Axe vs (pre++[v]) old post (n+1) _ h1 (by simpa using hl)
    rcases this with h2|h2
    ·have e:(pre++[v]).length - (n+1)=pre.length - n:=by simp
     rw[e]at h2;simp only[List.zipIdx_cons,List.foldl_cons];simpa using h2
    ·simp at h2;omega
theorem A1j{cells:Array Value}{v:Value}{pre old post:List Value}{off:Nat}(h:cells.toList=pre++old++post)(hp:pre.length=off)(ho:old.length=v.cells.size):
 (v.cells.zipIdx.foldl (fun(cs:Array Value) (p:Value × Nat)=>cs.setIfInBounds (off+p.2) p.1) cells).toList=pre++v.cells.toList++post:=by
 have:=Axe v.cells.toList pre old post 0 cells h (by rw[ho];simp)
 rcases this with h1|h1
 ·rw[←Array.foldl_toList,Array.toList_zipIdx];rw[Nat.sub_zero,hp]at h1;exact h1
 ·omega
theorem Ah3{place:Nat→Option (Nat × Nat)}{Q:St→Prop}:∀{ps:List (Nat × Operand)} {Qh:List (Nat × Bh)} {zs:List I} {cells:Array Value} {k:List I→M} {G:Mem} {σ:Lab} {st:St},
 Rel G σ Fr w0 st a w→M8 w0.n ps Qh=true→(Aez Qh zs k).wp P Q st→B4 G zs cells.toList→
 (∀i z,zs[i]?=some z→place i=some (sizes (zs.take i),z.size))→
 ∃zs' Qs G' σ' st',G.le G'∧Rel G' σ' Fr w0 st' a w∧(k zs').wp P Q st'∧B4 G' zs' Qs.toList∧Instr.fill place cells (ps.map fun p=>(p.1,a.eval p.2))=some Qs
 | [],[],zs,cells,k,G,σ,st,hr,_,hq,hz,_=>⟨zs,cells,G,σ,st,Mem.le.refl G,hr,hq,hz,rfl⟩
 |(i,x)::ps,(j,y)::Qh,zs,cells,k,G,σ,st,hr,ho,hq,hz,Ju=>by
  simp only[M8,Ad,beq_iff_eq]at ho;obtain⟨⟨rfl,ho⟩,hos⟩:=ho;obtain⟨u,G',σ',st',hG,D2,h1,hv⟩:=Se hr ho hq;cases hzi:zs[i]? with
  |none=>simp only[hzi]at h1;exact h1.elim
  |some z=>
   simp only[hzi]at h1;obtain⟨Cq,h1⟩:=h1;obtain⟨c1,c,c2,e1,e2,e3,Fq⟩:=B4.nth i (B4.mono hG _ _ hz) hzi;have hvc:=hv.cells;have Eh:c.length=(a.eval x).cells.size:=by
    rw[Bi.length _ _ e3, ←Cq, ←Bi.length _ _ hvc];simp
   have A96:=A1j (v:=a.eval x) (off:=sizes (zs.take i)) e1 e2 Eh;have W9:=Ju i z hzi;obtain⟨zs',Qs,X5,Qj,Nx,Wa,A2m,h2,h3,h4⟩:=Ah3 (place:=place) D2 hos h1 (cells:=(a.eval x).cells.zipIdx.foldl (fun(cs:Array Value) (p:Value × Nat)=>cs.setIfInBounds (sizes (zs.take i)+p.2) p.1) cells)
    (by rw[A96];exact Fq u _ hvc) (by
      intro i' z' P8;have hi:i<zs.length:=(Ak.1 hzi).1;by_cases hii:i'=i
      ·subst hii;rw[E7 hi]at P8;cases P8;rw[W9,Cq,List.take_set_of_le (Ay _)]
      ·rw[Az (Ne.symm hii)]at P8;rw[Ju i' z' P8]
       congr 2
       rw[List.take_set];by_cases Di:i<i'
       ·have:(zs.take i')[i]?=some z:=by rw[Jc,if_pos Di];exact hzi
        exact(Ays this Cq).symm
       ·rw[List.set_eq_of_length_le (by rw[Ck];omega)])
   refine⟨zs',Qs,X5,Qj,Nx,hG.trans Wa,A2m,h2,h3,?_⟩;simp only[A0,Instr.fill,W9];have Bi6:(a.eval x).cells.size=z.size:=by rw[←Eh,Bi.length _ _ e3]
   have hle:¬(sizes (zs.take i)+(a.eval x).cells.size>cells.size):=by
    have:cells.size=cells.toList.length:=by simp
    rw[this,e1, ←e2, ←Eh];simp
   rw[if_neg (by simp[Bi6]at hle ⊢;omega)]
   exact h4
 | [],_::_,_,_,_,_,_,_,_,ho,_,_,_=>by cases ho
 |_::_,[],_,_,_,_,_,_,_,ho,_,_,_=>by simp[M8]at ho
def A4b(d:Option Nat)(zs:List I)(ps:List (Nat × Bh)):M:=Aez ps zs fun l=>Ci d (.v (.agg l)) .done
def Avx(P:Program)(t:TypeId)(zs:List I):Bool:=match P.underlying t,P.info? t with
 |some (.struct fs),some i=>(match i.zero with
  |some z=>match zIs zs z.cells.toList with
   |some []=>true
   |_=>false
  |none=>false)&&
  fs.size==zs.length&&(List.range zs.length).all fun j=>match fs[j]?,zs[j]? with
   |some f,some z=>f.offset==sizes (zs.take j)&&match P.info? f.type with
    |some i=>i.size==z.size
    |none=>false
   |_,_=>false
 |_,_=>false
theorem Ap9{fs:List Field}{sz:Field→Nat}(h:∀f∈fs,(sizeOf f.type).run P w= .ok (sz f) w):
 (fs.mapM fun f=>(do pure (f.offset, ←sizeOf f.type):Sem (Nat × Nat))).run P w= .ok (fs.map fun f=>(f.offset,sz f)) w:=by
 induction fs with
 |nil=>simp
 |cons f fs ih=>
  have h1:=h f (by simp)
  have h2:=ih fun g hg=>h g (by simp[hg])
  simp only[List.mapM_cons,Sem.run_bind,h1,Result.andThen,Sem.run_pure,h2,A0]
theorem A6h{o:Oper}{t:TypeId}{ps:Array (Nat × Operand)}{zs:List I}{Qh:List (Nat × Bh)}(ho:o.op= .build t ps)(hp:M8 N ps.toList Qh=true)(ht:Avx P t zs=true):
 Sound P N o (A4b o.dst zs Qh):=by
 intro G σ Fr w0 st a w Q next E hN hr hw hn A9
 subst hN;unfold Avx at ht;split at ht
 ·rename_i fs i hu hi;simp only[Ad,beq_iff_eq]at ht;obtain⟨⟨hz,hlen⟩,Jd⟩:=ht;cases hzv:i.zero with
  |none=>simp[hzv]at hz
  |some z=>
   simp only[hzv]at hz;have P8:∃c,z.cells.toList=c++[]∧B4 G zs c:=by
    split at hz
    ·rename_i h;exact Ajz G zs _ _ h
    ·cases hz
   obtain⟨c,hc,P8⟩:=P8;rw[Dk]at hc;subst hc;have Amx:∀j f zz,fs[j]?=some f→zs[j]?=some zz→f.offset=sizes (zs.take j)∧(sizeOf f.type).run P w= .ok zz.size w:=by
    intro j f zz hf hzz;have hj:j<zs.length:=(Ak.1 hzz).1;have:=Ew.1 Jd j (Eb.2 hj);simp only[hf,hzz,Ad,beq_iff_eq]at this;obtain⟨h1,h2⟩:=this;refine⟨h1,?_⟩;cases H6:P.info? f.type with
    |none=>simp[H6]at h2
    |some jn=>
     simp only[H6,beq_iff_eq]at h2;simp[sizeOf,typeInfo,H6,h2]
   let szf:Field→Nat:=fun f=>((P.info? f.type).map (·.size)).getD 0
   have A2s:∀f∈fs.toList,(sizeOf f.type).run P w= .ok (szf f) w:=by
    intro f hf;obtain⟨j,hj⟩:=List.mem_iff_getElem?.1 hf;have hj':j<zs.length:=by
     have:=(Ak.1 hj).1;simp at this;omega
    have h2:=(Amx j f zs[j] (by simpa using hj) (Ac hj')).2
    cases H6:P.info? f.type with
    |none=>simp[sizeOf,typeInfo,H6]at h2
    |some jn=>simp[sizeOf,typeInfo,H6,szf]
   have Awf:∀j zz,zs[j]?=some zz→(fs.toList.map fun f=>(f.offset,szf f)).toArray[j]?=some (sizes (zs.take j),zz.size):=by
    intro j zz hzz;have hj:j<zs.length:=(Ak.1 hzz).1;have hjf:fs[j]?=some (fs[j]'(by omega)):=Bg (by omega)
    obtain⟨h1,h2⟩:=Amx j _ zz hjf hzz;have h3:=A2s _ (by simp:fs[j]'(by omega)∈fs.toList)
    rw[h2]at h3;have h4:zz.size=szf (fs[j]'(by omega)):=by injection h3
    simp[hjf,h1,h4]
   obtain⟨zs',Qs,G',σ',st',hG,D2,h2,h3,h4⟩:=Ah3 (place:=fun j=>(fs.toList.map fun f=>(f.offset,szf f)).toArray[j]?) hr hp hw P8 Awf
   have hv:Bb G' (.agg zs') (.agg Qs):=by
    unfold Bb;rw[if_pos (show(I.agg zs').isAgg=true from rfl)];exact⟨Qs,rfl,h3⟩
   refine Gn D2 (fun X5 Qj Nx a' w' Bh8=>hn X5 Qj Nx a' w' (hG.trans Bh8)) A9 hv h2 ?_
   have hm:=Ap9 (P:=P) (w:=w) A2s;have Acm:(ps.map fun(p:Nat × Operand)=>(p.1,a.eval p.2)).toList=ps.toList.map fun p=>(p.1,a.eval p.2):=by simp
   have hm':(fs.mapM fun f=>(do pure (f.offset, ←sizeOf f.type):Sem (Nat × Nat))).run P w= .ok (fs.toList.map fun f=>(f.offset,szf f)).toArray w:=by
    rw[Gd,Sem.run_map,hm];rfl
   have hzero:(zeroValue t).run P w= .ok z w:=by simp[zeroValue,typeInfo,hi,hzv]
   simp only[execOp,ho,Instr.build,Sem.run_bind,hzero,Result.andThen,run_underlying hu,hm',Acm,h4,Sem.run_pure]
 ·cases ht
end

def Ayi(d:Nat)(e:TypeId)(sz:Nat)(z:I)(n:Nat)(ps:List (Nat × Bh)):M:=Aez ps (List.replicate n z) fun l=>.Co (l.length=n∧∀u∈l,u.size=sz) fun _=>Eo d (.vec e sz l)
def Yk(P:Program)(t e:TypeId)(sz:Nat)(z:I)(n:Nat):Bool:=match P.underlying t with
 |some (.slice e')=>e'==e&&n≤4096&&n != 0&&match P.info? e with
  |some i=>i.size==sz&&sz != 0&&sz≤4096&&z.size==sz&&match i.zero with
   |some v=>v.cells.size==sz&&match zI z v.cells.toList with
    |some []=>true
    |_=>false
   |none=>false
  |none=>false
 |_=>false
def An6(d:Nat)(x:Bh)(i:Nat):M:=match x with
 | .t n=>.get n fun ver sv=>match sv with
   | .F4 fs=>match fs[i]? with
     |some (.i y)=>Eo d (.v y)
     |some (.vec e sz l)=>.Co (n≠d) fun _=>.set n (ver+1) (.F4 (fs.set i (.i .Ln))) (Eo d (.vec e sz l))
     |none=>.fail
   |_=>.fail
 |_=>.fail
section
variable{P:Program}{N:Nat}{G:Mem}{σ:Lab}{Fr:Mem}{w0:Base}{w:World}{st:St}{a:Act}
theorem F3.nth{s:Nat}:∀{fs:List F} {j i:Nat} {cs:List Value} {f:F},F3 G σ w s j fs cs→fs[i]?=some f→
 ∃c,cs[i]?=some c∧(match f with| .i x=>Bb G x c| .vec e sz l=>Fg G σ w (s,j+i+1) e sz l c)
 | [],_,i,_,_,_,h=>by simp at h
 | .i x::fs,j,0,cs,f,h,hi=>by
   simp only[B9,Af]at hi;subst hi;obtain⟨c,d,rfl,h1,_⟩:=h;exact⟨c,rfl,h1⟩
 | .vec e sz l::fs,j,0,cs,f,h,hi=>by
   simp only[B9,Af]at hi;subst hi;obtain⟨c,d,rfl,h1,_⟩:=h;exact⟨c,rfl,h1⟩
 | .i x::fs,j,i+1,cs,f,h,hi=>by
   simp only[Bn]at hi;obtain⟨c,d,rfl,_,h2⟩:=h;obtain⟨c',h3,h4⟩:=F3.nth h2 hi;refine⟨c',by simpa using h3,?_⟩
   rwa [show j+(i+1)+1=j+1+i+1 by omega]
 | .vec _ _ _::fs,j,i+1,cs,f,h,hi=>by
   simp only[Bn]at hi;obtain⟨c,d,rfl,_,h2⟩:=h;obtain⟨c',h3,h4⟩:=F3.nth h2 hi;refine⟨c',by simpa using h3,?_⟩
   rwa [show j+(i+1)+1=j+1+i+1 by omega]
theorem F3.Sk{s:Nat}:∀{fs:List F} {j i:Nat} {cs:List Value} {e:TypeId} {sz:Nat} {l:List I},F3 G σ w s j fs cs→fs[i]?=some (.vec e sz l)→
 F3 G (σ.Sk (s,j+i+1)) w s j (fs.set i (.i .Ln)) cs
 | [],_,i,_,_,_,_,_,h=>by simp at h
 | .i x::fs,j,0,cs,e,sz,l,h,hi=>by simp at hi
 | .vec e' Ex l'::fs,j,0,cs,e,sz,l,h,hi=>by
   obtain⟨c,d,rfl,h1,h2⟩:=h;simp only[F7];refine⟨c,d,rfl,?_,F3.tr (Mem.le.refl G) h2 fun b k hj hb=>⟨Lab.J0.2 ⟨by simp;omega,hb⟩,rfl⟩⟩
   unfold Bb;rw[if_neg (by simp[I.isAgg])]
   exact⟨c,rfl,h1.one⟩
 | .i x::fs,j,i+1,cs,e,sz,l,h,hi=>by
   simp only[Bn]at hi;obtain⟨c,d,rfl,h1,h2⟩:=h;simp only[E9];rw[show j+(i+1)+1=j+1+i+1 by omega]
   exact⟨c,d,rfl,h1,F3.Sk h2 hi⟩
 | .vec _ _ _::fs,j,i+1,cs,e,sz,l,h,hi=>by
   simp only[Bn]at hi;obtain⟨c,d,rfl,h1,h2⟩:=h;simp only[E9];rw[show j+(i+1)+1=j+1+i+1 by omega]
   exact⟨c,d,rfl,h1.tr (Mem.le.refl G) fun b hb=>⟨Lab.J0.2 ⟨by simp;omega,hb⟩,rfl⟩,F3.Sk h2 hi⟩
theorem Bgv{o:Oper}{d i:Nat}{x:Operand}{x':Bh}(hd:o.dst=some d)(ho:o.op= .extract x i)(hx:Bu N x x'=true):Sound P N o (An6 d x' i):=by
 intro G σ Fr w0 st a w Q next E hN hr hw hn A9
 subst hN;cases x' with
 |c _=>exact hw.elim
 |Fo _ _=>exact hw.elim
 |t n=>
  obtain⟨rfl,Ej⟩:=Gb hx;simp only[An6,M.wp]at hw;cases hs:st[n]? with
  |none=>simp[hs]at hw
  |some cur=>
   obtain⟨ver,sv⟩:=cur;simp only[hs]at hw;have Ba:=hr.slot Ej hs;split at hw
   ·rename_i fs;obtain⟨arr,hc,Ba⟩:=Ba;have run:∀{c:Value},arr.toList[i]?=some c→(execOp a.eval o).run P w= .ok (.value c) w:=by
     intro c hci;have:arr[i]?=some c:=by simpa using hci
     simp[execOp,ho,hc,Instr.extract,this]
    split at hw
    ·rename_i y hy;obtain⟨c,h1,h2⟩:=F3.nth Ba hy;obtain⟨σ',st',r1,r2⟩:=hr.Xo (A9 d hd) h2 hw;exact Df (run h1) (by rw[hd];exact hn G σ' st' _ w (Mem.le.refl G) r1 r2)
    ·rename_i e sz l hy;obtain⟨A2,hw⟩:=hw;obtain⟨c,h1,h2⟩:=F3.nth Ba hy;rw[Bm]at h2;have Kn:=Rel.self (new:=.F4 (fs.set i (.i .Ln))) (ver:=ver+1) hr (hr.Bz.Sk (n,i+1)) (Mem.le.refl G) hs (Bk _)
      (fun s' Hf b k' hb=>⟨Lab.J0.2 ⟨fun e=>Hf (by cases e;rfl),hb⟩,rfl⟩) (by
        refine⟨arr,?_,?_⟩
        ·rw[←hc,G9 (by rw[hr.n];exact Ej)]
        ·have:=F3.Sk Ba hy;rwa [Bm]at this)
     have N2:=Fg.free h2 hr.Bz (σ':=σ.Sk (n,i+1)) fun b hb=>by simp[Lab.Sk,hb]
     obtain⟨σ',st',r1,r2⟩:=Kn.Ajb (A9 d hd) (row:=none) ⟨rfl,rfl,rfl,Ay _,fun _ _ _=>rfl⟩ (fun b hb=>by cases hb) N2 hw
     exact Df (run h1) (by rw[hd];exact hn G σ' st' _ w (Mem.le.refl G) r1 r2)
    ·exact hw.elim
   ·exact hw.elim
theorem Aai{z:I}{c:List Value}(h:Bi G z c):∀n,B4 G (List.replicate n z) (List.replicate n c).flatten
 |0=>rfl
 |n+1=>⟨c,_,by simp[List.replicate_succ],h,Aai h n⟩
theorem Avr{z:Array Value}{sz:Nat}(hz:z.size=sz)(n:Nat):((Array.range (n*sz)).map (fun j=>z[j % z.size]!)).toList=(List.replicate n z.toList).flatten:=by
 induction n with
 |zero=>simp
 |succ n ih=>
  rw[List.replicate_succ',List.flatten_append, ←ih,F9,Nat.one_mul];simp only[Array.toList_map,Array.toList_range,List.range_add,B5,List.map_map]
  congr 1
  apply List.ext_getElem
  ·simp[hz]
  ·intro j h1 h2;simp at h1;simp[hz,Nat.mul_add_mod_of_lt h1,h1]
theorem A4u{o:Oper}{d:Nat}{t e:TypeId}{sz n:Nat}{z:I}{ps:Array (Nat × Operand)}{Qh:List (Nat × Bh)}(hd:o.dst=some d)(ho:o.op= .buildSlice t n ps)(hp:M8 N ps.toList Qh=true)(ht:Yk P t e sz z n=true):
 Sound P N o (Ayi d e sz z n Qh):=by
 intro G σ Fr w0 st a w Q next E hN hr hw hn A9
 subst hN;unfold Yk at ht;split at ht
 ·rename_i e' hu;simp only[Ad,beq_iff_eq,bne_iff_ne,ne_eq,decide_eq_true_eq]at ht;obtain⟨⟨⟨rfl,hn4⟩,hn0⟩,ht⟩:=ht;split at ht
  ·rename_i i hi;simp only[Ad,beq_iff_eq,bne_iff_ne,ne_eq,decide_eq_true_eq]at ht;obtain⟨⟨⟨⟨rfl,h0⟩,hs4⟩,A20⟩,ht⟩:=ht;split at ht
   ·rename_i v hv;simp only[Ad,beq_iff_eq]at ht;obtain⟨Ko,hz⟩:=ht;have P8:∃c,v.cells.toList=c++[]∧Bi G z c:=by
     split at hz
     ·rename_i h;exact Abx G z _ _ h
     ·cases hz
    obtain⟨c,hc,P8⟩:=P8;rw[Dk]at hc;subst hc
    let Bo6:Array Value:=(Array.range (n*i.size)).map (fun j=>v.cells[j % v.cells.size]!)
    have Av7:B4 G (List.replicate n z) Bo6.toList:=by
     rw[Avr Ko];exact Aai P8 n
    have W9:∀(j:Nat) (zz:I),(List.replicate n z)[j]?=some zz→(fun j:Nat=>some (j*i.size,i.size)) j=some (sizes ((List.replicate n z).take j),zz.size):=by
     intro j zz hzz;have hj:j<n:=by have:=(Ak.1 hzz).1;simpa using this
     have Bjc:zz=z:=by rw[Gs,if_pos hj]at hzz;cases hzz;rfl
     subst Bjc;rw[List.take_replicate,Ht (sz:=i.size) (by intro x hx;rw[List.eq_of_mem_replicate hx,A20]),Je,Da (Nat.le_of_lt hj),A20]
    obtain⟨l,cells,G',σ',st',hG,D2,h2,h3,h4⟩:=Ah3 (place:=fun j=>some (j*i.size,i.size)) hr hp hw Av7 W9
    obtain⟨⟨hl,Cq⟩,h2⟩:=h2;have Aa4:cells.size=n*i.size:=by
     have:=B4.length _ _ h3;rw[Ht Cq,hl]at this;simpa using this
    have Qe:n≤maxLen:=by simp only[maxLen];omega
    obtain⟨Qj,Nx,r1,r2⟩:=D2.Yu (A9 d hd) (sv:=.vec e' i.size l) (o:=.cells cells e') (c:=.slice (some ⟨w.heap.size,0,none⟩) n n) rfl (by intro _ e;cases e)
     (fun σ1 _ hb=>⟨cells.toList,⟨by rw[hl];simpa using Aa4,.inr ⟨w.heap.size,n,cells,by rw[hl],A3 _,Row.of (heap_alloc_new w _),by rw[hl];exact Ay _,Qe,Aa4,by
       rw[hl, ←Aa4];have:cells.size=cells.toList.length:=by simp
       rw[this,Hb]⟩⟩,h3,Cq,fun b Dc=>by cases Dc;exact hb⟩) h2
    have Tq:¬(n*i.size>2^24):=by
     have:n*i.size≤4096*4096:=Nat.mul_le_mul hn4 hs4;omega
    have Acm:(ps.map fun(p:Nat × Operand)=>(p.1,a.eval p.2)).toList=ps.toList.map fun p=>(p.1,a.eval p.2):=by simp
    have hzero:(zeroValue e').run P w= .ok v w:=by simp[zeroValue,typeInfo,hi,hv]
    have Awg:(sizeOf e').run P w= .ok i.size w:=by simp[sizeOf,typeInfo,hi]
    refine Df (w':=w.alloc (.cells cells e')) ?_ (by rw[hd];exact hn G' Qj Nx _ _ hG r1 r2)
    have A2:n*i.size≠0:=Nat.mul_ne_zero hn0 h0;have h4':Instr.fill (fun j=>some (j*i.size,i.size)) ((Array.range (n*i.size)).map (fun j=>v.cells[j % v.cells.size]!)) (ps.toList.map fun p=>(p.1,a.eval p.2))=some cells:=h4
    simp only[execOp,ho,Instr.buildSlice,Sem.run_bind,run_underlying hu,Result.andThen,Awg];rw[if_neg Tq,if_neg A2];simp only[Sem.run_bind,hzero,Result.andThen,Sem.run_pure,Acm,h4'];simp[newRow]
   ·cases ht
  ·cases ht
 ·cases ht
def A4d(d:Nat)(e:TypeId)(sz:Nat):M:=Eo d (.vec e sz [])
theorem A6i{o:Oper}{d:Nat}{t e:TypeId}{sz:Nat}(hd:o.dst=some d)(ho:o.op= .buildSlice t 0 #[])(ht:(P.underlying t=some (.slice e))∧(P.info? e).isSome=true):Sound P N o (A4d d e sz):=by
 intro G σ Fr w0 st a w Q next E hN hr hw hn A9
 subst hN;obtain⟨hu,hi⟩:=ht;cases hi':P.info? e with
 |none=>simp[hi']at hi
 |some i=>
  obtain⟨Qj,Nx,r1,r2⟩:=hr.Yu (A9 d hd) (sv:=.vec e sz []) (o:=.cells #[] e) (c:=.slice (some ⟨w.heap.size,0,none⟩) 0 0) rfl (by intro _ e;cases e)
   (fun σ1 _ hb=>⟨[],⟨by simp,.inr ⟨w.heap.size,0, #[],rfl,A3 _,Row.of (heap_alloc_new w _),Ay _,by simp[maxLen],by simp,by simp⟩⟩,rfl,by simp,fun b Dc=>by cases Dc;exact hb⟩) hw
  refine Df (w':=w.alloc (.cells #[] e)) ?_ (by rw[hd];exact hn G Qj Nx _ _ (Mem.le.refl G) r1 r2)
  have h0:Array.range 0= #[]:=rfl;simp[execOp,ho,Instr.buildSlice,run_underlying hu,sizeOf,typeInfo,hi',newRow,Instr.fill,h0]
end
end Go.Ab
