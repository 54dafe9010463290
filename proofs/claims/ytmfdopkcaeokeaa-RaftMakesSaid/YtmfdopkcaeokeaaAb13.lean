/- Lemmas -/
import Derived.Test.YtmfdopkcaeokeaaAb10
set_option linter.unusedVariables false
set_option linter.unusedSimpArgs false
namespace Go.Ab
def Ji (d:Nat) (x:Opd):M:=match x with
 | .c x=>Av d (.v x)
 | .nils e sz=>Av d (.vec e sz [])
 | .t n=>.get n fun ver sv=>match sv with
   | .v x=>Av d (.v x)
   | .vec e sz l=>.need (n≠d) fun _=>.set n (ver+1) .no (Av d (.vec e sz l))
   | .tup fs=>.need (n≠d) fun _=>.set n (ver+1) .no (Av d (.tup fs))
   | .tupd l=>.need (n≠d) fun _=>.set n (ver+1) .no (Av d (.tupd l))
   | .st fs=>.need (n≠d) fun _=>.set n (ver+1) .no (Av d (.st fs))
   | .rp x=>Av d (.rp x)
   | .no=>Av d .no
   | .pt s k ver off r=>.need (d≠s) fun _=>Av d (.pt s k ver off r)
   | .sub s k v m=>.get s fun cur sv'=>.need (v=cur) fun _=>match k,sv' with
     |0,.vec e sz l=>if s=d then .set d (cur+1) (.vec e sz (l.take m)) .done else B9 x fun u=>Av d (.v u)
     |_,_=>B9 x fun u=>Av d (.v u)
   | .suf _ _ _ _=>.fail
   | .sit _ _=>.fail
   | .yl _=>.fail
   | .al _ _=>.fail
   | .cl _ _ _=>.fail
   | .kcl _ _ _ _=>.fail
   | .bp _ _ _=>.fail
   | .ocl _ _ _ _ _=>.fail
   | .bs _ _ _ _ _=>.fail
   | .bor _ _ _=>B9 x fun u=>Av d (.v u)
   | .box _=>.need (n≠d) fun _=>Av d (.pt n 0 ver 0 [])
   | .par h=>.get h fun ver sv=>.need (d≠h) fun _=>match sv with
     | .box _=>Av d (.pt h 0 ver 0 [])
     | .vec _ _ _=>B9 (.t n) fun u=>Av d (.v u)
     | .own _ t=>match t with
       | .ptr _=>Av d (.pd h ver [0])
       | .vec _ _ _=>Av d (.bd h ver [])
       | .map _ _=>Av d (.bd h ver [])
       |_=>.fail
     |_=>.fail
   | .own _ t=>.need (n≠d) fun _=>match t with
     | .ptr _=>Av d (.pd n ver [0])
     |t=>.set n (ver+1) .no (Av d (.own [] t))
   | .pd s ver p=>.need (d≠s) fun _=>Av d (.pd s ver p)
   | .pdt s ver p b=>.need (d≠s) fun _=>Av d (.pdt s ver p b)
   | .bd s ver p=>.need (d≠s) fun _=>Av d (.bd s ver p)
section
variable{P:Program}{N:Nat}{G:Mem}{σ:Lab}{Fr:Mem}{w0:Base}{w:World}{st:St}{a:Act}
theorem Dm {d:Nat} {sv:SV} {Q:St→Prop} (h:(Av d sv).wp P Q st) (hf:∀v,sv.fresh v=sv:=by intro _;rfl):(setD (some d) sv .done).wp P Q st:=by
 unfold Av at h
 unfold setD
 simpa only[hf]using h
theorem Rel.setNV {Q:St→Prop} {d:Nat} {x:I} {c:Value} (h:Rel G σ Fr w0 st a w) (hdn:d<w0.n) (hc:RepV G x c) (hq:(Av d (.v x)).wp P Q st):
 ∃σ' st',Rel G σ' Fr w0 st' (a.put (some d) c) w∧Q st':=h.setV (by rintro _ ⟨⟩;exact hdn) hc (Dm hq)
theorem Rel.moveM {Q:St→Prop} {n d ver:Nat} {sv:SV} {c:Value} (h:Rel G σ Fr w0 st a w) (hdn:d<w0.n) (hs:st[n]?=some (ver,sv)) (hne:n≠d) (hr:sv.root=none) (hc:RepOwn G σ w n sv c) (hnp:∀h,sv≠ .par h)
 (hq:(M.set n (ver+1) .no (Av d sv)).wp P Q st):∃σ' st',Rel G σ' Fr w0 st' (a.put (some d) c) w∧Q st':=by
 simp only[M.wp,Av]at hq
 cases hd:st[d]? with
 |none=>
  have:(st.set n (ver+1,SV.no))[d]?=none:=by rw[List.getElem?_set_ne hne];exact hd
  simp[this]at hq
 |some cur=>
  have:(st.set n (ver+1,SV.no))[d]?=some cur:=by rw[List.getElem?_set_ne hne];exact hd
  simp only[this]at hq
  exact⟨_,_,h.move hdn hs hd (Ne.symm hne) (Nat.lt_succ_self _) (Nat.lt_succ_self _) hr hc hnp,hq⟩
theorem Ky {o:Oper} {x:Operand} (ho:o.op= .move x∨o.op= .assign x):(execOp a.eval o).run P w= .ok (.value (a.eval x)) w:=by
 rcases ho with ho|ho<;>simp[execOp,ho]
theorem Li {o:Oper} {d:Nat} {x:Operand} {x':Opd} (hd:o.dst=some d) (ho:o.op= .move x∨o.op= .assign x) (hx:Ac N x x'=true):Sound P N o (Ji d x'):=by
 intro G σ Fr w0 st a w Q next E hN hr hw hn hdst
 subst hN
 have hdd:∀d',some d=some d'→d'<w0.n:=by rintro _ ⟨⟩;exact hdst d hd
 have fin:∀{G' σ' st'},G.le G'→Rel G' σ' Fr w0 st' (a.put (some d) (a.eval x)) w→Q st'→o.wp P a w next E:=fun hG h1 h2=>
  Am (Ky ho) (by rw[hd];exact hn _ _ _ _ _ hG h1 h2)
 have viaTake:∀{n:Nat},x'= .t n→(B9 (.t n) fun u=>Av d (.v u)).wp P Q st→o.wp P a w next E:=by
  intro n hx' hq
  subst hx'
  obtain⟨u,G',σ',st',hG,hr',h1,hv⟩:=Cb hr hx hq
  obtain⟨σ'',st'',r1,r2⟩:=hr'.setNV (hdst d hd) hv h1
  exact fin hG r1 r2
 cases x' with
 |c i=>
  obtain⟨σ',st',r1,r2⟩:=hr.setNV (hdst d hd) (D5 hx G) hw
  exact fin (Mem.le.refl G) r1 r2
 |nils e sz=>
  obtain⟨σ',st',r1,r2⟩:=hr.setD hdd (d:=some d) (sv:=.vec e sz []) (c:=a.eval x) (fun _ _ _ _=>by
   rw[B1 hx]
   exact⟨[],OwnsR.nil w e sz,rfl,by simp,by simp[Value.ownBlock]⟩) hw
  exact fin (Mem.le.refl G) r1 r2
 |t n=>
  obtain⟨rfl,hnlt⟩:=A1 hx
  have hw0:=hw
  simp only[Ji,M.wp]at hw
  cases hs:st[n]? with
  |none=>simp[hs]at hw
  |some cur=>
   obtain⟨ver,sv⟩:=cur
   simp only[hs]at hw
   have hrep:=hr.slot hnlt hs
   cases sv with
   |v y=>
    obtain⟨σ',st',r1,r2⟩:=hr.setNV (hdst d hd) hrep hw
    exact fin (Mem.le.refl G) r1 r2
   |no=>
    obtain⟨σ',st',r1,r2⟩:=hr.setD hdd (d:=some d) (sv:=.no) (c:=a.eval (.tmp n)) (fun _ _ _ _=>trivial) hw
    exact fin (Mem.le.refl G) r1 r2
   |rp y=>
    obtain⟨σ',st',r1,r2⟩:=hr.setD hdd (d:=some d) (sv:=.rp y) (c:=a.eval (.tmp n)) (fun _ _ _ _=>hrep) hw
    exact fin (Mem.le.refl G) r1 r2
   |vec e sz l=>
    obtain⟨hne,hw⟩:=hw
    obtain⟨σ',st',r1,r2⟩:=hr.moveM (hdst d hd) hs hne rfl hrep (by intro _ e;cases e) hw
    exact fin (Mem.le.refl G) r1 r2
   |tup fs=>
    obtain⟨hne,hw⟩:=hw
    obtain⟨σ',st',r1,r2⟩:=hr.moveM (hdst d hd) hs hne rfl hrep (by intro _ e;cases e) hw
    exact fin (Mem.le.refl G) r1 r2
   |tupd fs=>
    obtain⟨hne,hw⟩:=hw
    obtain⟨σ',st',r1,r2⟩:=hr.moveM (hdst d hd) hs hne rfl hrep (by intro _ e;cases e) hw
    exact fin (Mem.le.refl G) r1 r2
   |st fs=>
    obtain⟨hne,hw⟩:=hw
    obtain⟨σ',st',r1,r2⟩:=hr.moveM (hdst d hd) hs hne rfl hrep (by intro _ e;cases e) hw
    exact fin (Mem.le.refl G) r1 r2
   |box t=>
    obtain⟨hne,hw⟩:=hw
    obtain⟨b,cells,ty,h1,h2,_⟩:=hrep
    replace hw:=Dm hw
    obtain⟨σ',st',r1,r2⟩:=hr.setPt (d:=some d) hdd hs (by simpa using Ne.symm hne) rfl h2 hw
    rw[←h1]at r1
    exact fin (Mem.le.refl G) r1 r2
   |pt s k ver' off r=>
    obtain⟨hne,hw⟩:=hw
    obtain⟨cur,h1,h2,h3⟩:=hrep
    obtain⟨σ',st',r1,r2⟩:=hr.setD hdd (d:=some d) (sv:=.pt s k ver' off r) (c:=a.eval (.tmp n)) (fun d' hd' ver _=>by
     refine⟨cur,?_,h2,fun e=>?_⟩
     ·rw[List.getElem?_set_ne (by rintro rfl;cases hd';exact hne rfl)];exact h1
     ·obtain⟨b,h4,h5⟩:=h3 e
      exact⟨b,Lab.drop_some.2 ⟨by rintro rfl;cases hd';exact hne rfl,h4⟩,h5⟩) hw
    exact fin (Mem.le.refl G) r1 r2
   |bor s k v=>exact viaTake rfl hw
   |own inv t=>
    obtain⟨hne,hw⟩:=hw
    have hv:val a w0 n=a.eval (.tmp n):=A2 (by rw[hr.n];exact hnlt)
    have hown:OwnD G σ w n t (val a w0 n):=by rw[hv];exact hrep
    split at hw
    ·replace hw:=Dm hw
     obtain⟨σ',st',r1,r2⟩:=hr.setD hdd (d:=some d) (c:=a.eval (.tmp n)) (fun d' hd' ver _=>by
      cases hd'
      refine⟨_,by rw[List.getElem?_set_ne (Ne.symm hne)];exact hs,Nat.le_refl _,fun inv' t' e _ _=>?_⟩
      cases e
      rw[An hne, ←hv]
      exact hown.pt) hw
     exact fin (Mem.le.refl G) r1 r2
    ·obtain⟨σ',st',r1,r2⟩:=hr.moveM (hdst d hd) hs hne rfl hrep (by intro _ e;cases e) hw
     exact fin (Mem.le.refl G) r1 r2
   |pdt s ver' p b=>
    obtain⟨hne,hw⟩:=hw
    obtain⟨c0,hc0,hrep⟩:=hrep
    obtain⟨cur,h1,h2,h3⟩:=hrep
    replace hw:=Dm hw
    obtain⟨σ',st',r1,r2⟩:=hr.setD hdd (d:=some d) (sv:=.pdt s ver' p b) (c:=a.eval (.tmp n)) (fun d' hd' ver _=>by
     cases hd'
     refine⟨c0,hc0,cur,by rw[List.getElem?_set_ne hne];exact h1,h2,fun inv t e hp ha=>?_⟩
     rw[An (Ne.symm hne)]
     exact h3 inv t e hp ha) hw
    exact fin (Mem.le.refl G) r1 r2
   |pd s ver' p=>
    obtain⟨hne,hw⟩:=hw
    obtain⟨cur,h1,h2,h3⟩:=hrep
    replace hw:=Dm hw
    obtain⟨σ',st',r1,r2⟩:=hr.setD hdd (d:=some d) (sv:=.pd s ver' p) (c:=a.eval (.tmp n)) (fun d' hd' ver _=>by
     cases hd'
     refine⟨cur,by rw[List.getElem?_set_ne hne];exact h1,h2,fun inv t e hp ha=>?_⟩
     rw[An (Ne.symm hne)]
     exact h3 inv t e hp ha) hw
    exact fin (Mem.le.refl G) r1 r2
   |bd s ver' p=>
    obtain⟨hne,hw⟩:=hw
    obtain⟨cur,h1,h2,h3⟩:=hrep
    replace hw:=Dm hw
    obtain⟨σ',st',r1,r2⟩:=hr.setD hdd (d:=some d) (sv:=.bd s ver' p) (c:=a.eval (.tmp n)) (fun d' hd' ver _=>by
     cases hd'
     refine⟨cur,by rw[List.getElem?_set_ne hne];exact h1,h2,fun inv t e ha=>?_⟩
     rw[An (Ne.symm hne)]
     exact h3 inv t e ha) hw
    exact fin (Mem.le.refl G) r1 r2
   |par h=>
    obtain⟨hv,hle⟩:=hr.pars n ver h hs
    rw[A2 (by rw[hr.n];exact hnlt)]at hv
    simp only[M.wp]at hw
    cases hh:st[h]? with
    |none=>simp[hh]at hw
    |some cur=>
     obtain⟨ver',sv'⟩:=cur
     simp only[hh]at hw
     obtain⟨hne,hw⟩:=hw
     have hrep':=hr.slots h ver' sv' hh
     rw[←hv]at hrep'
     split at hw
     ·obtain⟨b,cells,ty,h1,h2,_⟩:=hrep'
      replace hw:=Dm hw
      obtain⟨σ',st',r1,r2⟩:=hr.setPt (d:=some d) hdd hh (by simpa using hne) rfl h2 hw
      rw[←h1]at r1
      exact fin (Mem.le.refl G) r1 r2
     ·exact viaTake rfl hw
     ·rename_i inv t
      have hown:OwnD G σ w h t (val a w0 h):=by rw[←hv];exact hrep'
      have pt:∀{sv:SV},(∀v,sv.fresh v=sv)→(∀h,sv≠ .par h)→(∀inv t,sv≠ .own inv t)→(∀vv:Nat→Value,vv h=val a w0 h→∀σ' st',st'[h]?=some (ver',.own inv t)→RepSV G σ' w st' vv d sv (a.eval (.tmp n)))→(Av d sv).wp P Q st→o.wp P a w next E:=by
       intro sv hf hp hno hsv hw
       obtain⟨σ',st',r1,r2⟩:=hr.setD hdd (d:=some d) (c:=a.eval (.tmp n)) (fun d' hd' ver _=>by
        cases hd'
        exact hsv _ (An (Ne.symm hne)) _ _ (by rw[List.getElem?_set_ne hne];exact hh)) (Dm hw hf) (fun _ e=>absurd e (hp _)) hno
       exact fin (Mem.le.refl G) r1 r2
      split at hw
      ·refine pt (sv:=.pd h ver' [0]) (by intro _;rfl) (by intro _ e;cases e) (by intro _ _ e;cases e) (fun vv hvv σ' st' hst=>⟨_,hst,Nat.le_refl _,fun inv' t' e _ _=>?_⟩) hw
       cases e
       rw[hvv,hv]
       exact hown.pt
      ·refine pt (sv:=.bd h ver' []) (by intro _;rfl) (by intro _ e;cases e) (by intro _ _ e;cases e) (fun vv hvv σ' st' hst=>⟨_,hst,Nat.le_refl _,fun inv' t' e _=>?_⟩) hw
       cases e
       rw[hvv,hv]
       exact hown.hd rfl
      ·refine pt (sv:=.bd h ver' []) (by intro _;rfl) (by intro _ e;cases e) (by intro _ _ e;cases e) (fun vv hvv σ' st' hst=>⟨_,hst,Nat.le_refl _,fun inv' t' e _=>?_⟩) hw
       cases e
       rw[hvv,hv]
       exact hown.hd rfl
      ·exact hw.elim
     ·exact hw.elim
   |suf s k v m=>exact hw.elim
   |sit _ _=>exact hw.elim
   |yl _=>exact hw.elim
   |al _ _=>exact hw.elim
   |cl _ _ _=>exact hw.elim
   |kcl _ _ _ _=>exact hw.elim
   |bp _ _ _=>exact hw.elim
   |ocl _ _ _ _ _=>exact hw.elim
   |bs s v p lo m=>exact hw.elim
   |sub s k v m=>
    obtain⟨cur,h1,h2,h3⟩:=hrep
    simp only[M.wp,h1]at hw
    obtain⟨hv,hw⟩:=hw
    split at hw
    ·rename_i e sz l hsv
     split at hw
     ·rename_i hsd
      subst hsd
      obtain⟨e',sz',l',h4,h5⟩:=h3 hv
      obtain⟨cv,csv⟩:=cur
      simp only at hsv
      subst hsv
      cases h4
      have hr':=hr.put (d:=s) (ver:=cv+1) (hdst s hd) (new:=.vec e sz (l.take m)) (c:=a.eval (.tmp n)) hr.wok (Mem.le.refl G) h1 (Nat.lt_succ_self _) (fun s' _=>Kept.refl σ w s') h5
      exact fin (Mem.le.refl G) hr' hw
     ·exact viaTake rfl hw
    ·exact viaTake rfl hw
def Uk (d:Nat) (e:TypeId) (sz:Nat) (x:Opd):M:=match x with
 | .t n=>.get n fun _ sv=>match sv with
   | .bor _ _ _=>C4 e sz (.t n) fun l=>Av d (.vec e sz l)
   | .sub _ _ _ _=>C4 e sz (.t n) fun l=>Av d (.vec e sz l)
   |_=>Ji d (.t n)
 |x=>Ji d x
theorem R7 {o:Oper} {d:Nat} {e:TypeId} {sz:Nat} {x:Operand} {x':Opd} (hd:o.dst=some d) (ho:o.op= .move x∨o.op= .assign x) (hx:Ac N x x'=true):Sound P N o (Uk d e sz x'):=by
 intro G σ Fr w0 st a w Q next E hN hr hw hn hdst
 subst hN
 have asg:(Ji d x').wp P Q st→o.wp P a w next E:=fun hq=>Li hd ho hx G σ Fr w0 st a w Q next E rfl hr hq hn hdst
 cases x' with
 |c y=>exact asg hw
 |nils e sz=>exact asg hw
 |t n=>
  simp only[Uk,M.wp]at hw
  cases hs:st[n]? with
  |none=>simp[hs]at hw
  |some cur=>
   simp only[hs]at hw
   split at hw
   ·obtain⟨l,σ1,st1,hr1,h1,hfree⟩:=Fe hr hx hw
    obtain⟨σ',st',r1,r2⟩:=hr1.putOwned (w':=w) (row:=none) (hdst d hd) ⟨rfl,rfl,rfl,Nat.le_refl _,fun _ _ _=>rfl⟩ (fun b hb=>by cases hb) hfree h1
    exact Am (Ky ho) (by rw[hd];exact hn _ _ _ _ _ (Mem.le.refl G) r1 r2)
   ·obtain⟨l,σ1,st1,hr1,h1,hfree⟩:=Fe hr hx hw
    obtain⟨σ',st',r1,r2⟩:=hr1.putOwned (w':=w) (row:=none) (hdst d hd) ⟨rfl,rfl,rfl,Nat.le_refl _,fun _ _ _=>rfl⟩ (fun b hb=>by cases hb) hfree h1
    exact Am (Ky ho) (by rw[hd];exact hn _ _ _ _ _ (Mem.le.refl G) r1 r2)
   ·exact asg hw
def Qc (d:Option Nat) (str:Bool) (x:Opd):M:=match x with
 | .t n=>.get n fun _ sv=>match sv with
   | .v (.list l)=>.need (str=false) fun _=>.fact (l.length≤maxLen) (setD d (.v (.int .i64 l.length)) .done)
   | .v (.str s)=>.need (str=true) fun _=>.fact (s.length≤maxLen) (setD d (.v (.int .i64 s.length)) .done)
   | .vec _ _ l=>.need (str=false) fun _=>.fact (l.length≤maxLen) (setD d (.v (.int .i64 l.length)) .done)
   | .bor s k v=>.get s fun cur sv'=>.need (v=cur∧str=false) fun _=>match sv'.vecAt k with
     |some (_,_,l)=>.fact (l.length≤maxLen) (setD d (.v (.int .i64 l.length)) .done)
     |none=>.fail
   | .sub s k v m=>.get s fun cur sv'=>.need (v=cur∧str=false) fun _=>match sv'.vecAt k with
     |some (_,_,l)=>.fact ((l.take m).length≤maxLen) (setD d (.v (.int .i64 (l.take m).length)) .done)
     |none=>.fail
   |_=>.fail
 | .c (.str s)=>.need (str=true) fun _=>setD d (.v (.int .i64 s.length)) .done
 |_=>.fail
def Hh (P:Program) (t:TypeId) (str:Bool):Bool:=match P.underlying t with
 |some .string=>str
 |some (.slice _)=> !str
 |_=>false
theorem VecAt.len {lab:Nat × Nat} {e:TypeId} {sz:Nat} {l:List I} {c:Value} (h:VecAt G σ w lab e sz l c):∃ad cap,c= .slice ad l.length cap∧l.length≤maxLen:=by
 obtain⟨xs,h1,_⟩:=h
 rcases h1.2 with⟨rfl,h0⟩|⟨g,cap,cur,rfl,_,_,h3,h4,_⟩
 ·exact⟨none,0,by rw[h0],by rw[h0];exact Nat.zero_le _⟩
 ·exact⟨_,cap,rfl,Nat.le_trans h3 h4⟩
theorem Aam {o:Oper} {t:TypeId} {x:Operand} {x':Opd} {str:Bool} (ho:o.op= .call {callee:=.builtin .len,args:= #[x],argTypes:= #[t]}) (hx:Ac N x x'=true) (ht:Hh P t str=true):
 Sound P N o (Qc o.dst str x'):=by
 intro G σ Fr w0 st a w Q next E hN hr hw hn hdst
 subst hN
 have hsl:str=false→∃e,P.underlying t=some (.slice e):=by
  rintro rfl
  unfold Hh at ht
  split at ht
  ·cases ht
  ·rename_i e h;exact⟨e,h⟩
  ·cases ht
 have hst:str=true→P.underlying t=some .string:=by
  rintro rfl
  unfold Hh at ht
  split at ht
  ·assumption
  ·cases ht
  ·cases ht
 have sl:∀{ad:Option Addr} {n cap:Nat},str=false→a.eval x= .slice ad n cap→(execOp a.eval o).run P w= .ok (.value (.int .i64 n)) w:=by
  intro ad n cap hs he
  obtain⟨e,hu⟩:=hsl hs
  simp[execOp,ho,resolve,invoke,builtin,Builtin.len_,run_underlying hu,he,goInt]
 have ss:∀{s:List UInt8},str=true→a.eval x= .string ⟨⟨s⟩⟩→(execOp a.eval o).run P w= .ok (.value (.int .i64 s.length)) w:=by
  intro s hs he
  have hu:=hst hs
  simp[execOp,ho,resolve,invoke,builtin,Builtin.len_,run_underlying hu,he,goInt]
  rfl
 cases x' with
 |c i=>
  cases i with
  |str s=>
   obtain⟨h1,h2⟩:=hw
   have:=RepV.str.1 (D5 (a:=a) hx G)
   exact Ay hr hn hdst (RepV.int.2 rfl) h2 (ss h1 this.1)
  |_=>exact hw.elim
 |nils e sz=>exact hw.elim
 |t n=>
  obtain⟨rfl,hnlt⟩:=A1 hx
  simp only[Qc,M.wp]at hw
  cases hs:st[n]? with
  |none=>simp[hs]at hw
  |some cur=>
   obtain⟨ver,sv⟩:=cur
   simp only[hs]at hw
   have hrep:=hr.slot hnlt hs
   split at hw
   ·rename_i l
    obtain⟨h1,h2⟩:=hw
    have hrep':RepV G (.list l) (a.eval (.tmp n)):=hrep
    obtain⟨ad,cap,hc,hl,hm,_⟩:=RepV.list.1 hrep'
    exact Ay hr hn hdst (RepV.int.2 rfl) (h2 (Nat.le_trans hl hm)) (sl h1 hc)
   ·rename_i s
    obtain⟨h1,h2⟩:=hw
    have hrep':RepV G (.str s) (a.eval (.tmp n)):=hrep
    exact Ay hr hn hdst (RepV.int.2 rfl) (h2 (RepV.str.1 hrep').2) (ss h1 (RepV.str.1 hrep').1)
   ·obtain⟨h1,h2⟩:=hw
    obtain⟨ad,cap,hc,hm⟩:=VecAt.len hrep
    exact Ay hr hn hdst (RepV.int.2 rfl) (h2 hm) (sl h1 hc)
   ·rename_i s k v
    obtain⟨cur,g1,g2,g3⟩:=hrep
    simp only[M.wp,g1]at hw
    obtain⟨⟨hv,h1⟩,h2⟩:=hw
    obtain⟨e,sz,l,g4,g5⟩:=g3 hv
    simp only[g4]at h2
    obtain⟨ad,cap,hc,hm⟩:=VecAt.len g5
    exact Ay hr hn hdst (RepV.int.2 rfl) (h2 hm) (sl h1 hc)
   ·rename_i s k v m
    obtain⟨cur,g1,g2,g3⟩:=hrep
    simp only[M.wp,g1]at hw
    obtain⟨⟨hv,h1⟩,h2⟩:=hw
    obtain⟨e,sz,l,g4,g5⟩:=g3 hv
    simp only[g4]at h2
    obtain⟨ad,cap,hc,hm⟩:=VecAt.len g5
    exact Ay hr hn hdst (RepV.int.2 rfl) (h2 hm) (sl h1 hc)
   ·exact hw.elim
end

def rdB (x:Option Opd) (dflt:Int) (k:Int→M):M:=match x with
 |none=>k dflt
 |some x=>Bk x fun i=>match i with
  | .int _ n=>k n
  |_=>.fail
def oOk (N:Nat):Option Operand→Option Opd→Bool
 |none,none=>true
 |some x,some y=>Ac N x y
 |_,_=>false
def Nu (d:Option Nat) (str:Bool) (sz:Nat) (x:Opd) (lo hi:Option Opd):M:=match x with
 | .t n=>.get n fun ver sv=>match sv with
   | .v (.list l)=>rdB lo 0 fun i=>rdB hi l.length fun j=>.need (str=false∧0≤i∧i≤j∧j≤l.length∧∀u∈l,u.size=sz) fun _=>setD d (.v (.list ((l.take j.toNat).drop i.toNat))) .done
   | .v (.str s)=>rdB lo 0 fun i=>rdB hi s.length fun j=>.need (str=true∧0≤i∧i≤j∧j≤s.length) fun _=>setD d (.v (.str ((s.take j.toNat).drop i.toNat))) .done
   | .vec _ sz' l=>rdB lo 0 fun i=>rdB hi l.length fun j=>.need (str=false∧sz'=sz∧i=0∧0≤j∧j≤l.length∧d≠some n) fun _=>setD d (.sub n 0 ver j.toNat) .done
   | .bor s k v=>.get s fun cur sv'=>.need (v=cur) fun _=>match sv'.vecAt k with
     |some (_,sz',l)=>rdB lo 0 fun i=>rdB hi l.length fun j=>.need (str=false∧sz'=sz∧i=0∧0≤j∧j≤l.length∧d≠some s) fun _=>setD d (.sub s k v j.toNat) .done
     |none=>.fail
   |_=>.fail
 |_=>.fail
def Aa1 (d:Option Nat) (x i:Opd):M:=Bk x fun u=>Bk i fun n=>match u,n with
 | .str s,.int _ n=>match s[n.toNat]? with
   |some b=>.need (0≤n) fun _=>setD d (.v (.int .u8 b.toNat)) .done
   |none=>.fail
 |_,_=>.fail
section
variable{P:Program}{N:Nat}{G:Mem}{σ:Lab}{Fr:Mem}{w0:Base}{w:World}{st:St}{a:Act}
theorem Cg {x:Option Operand} {y:Option Opd} {dflt:Int} {k:Int→M} {Q:St→Prop} (h:Rel G σ Fr w0 st a w)
 (ho:oOk w0.n x y=true) (hq:(rdB y dflt k).wp P Q st):
 ∃i,(k i).wp P Q st∧((x=none∧i=dflt)∨∃x' kd,x=some x'∧a.eval x'= .int kd i):=by
 cases y with
 |none=>
  cases x with
  |none=>exact⟨dflt,hq,.inl ⟨rfl,rfl⟩⟩
  |some x=>cases ho
 |some y=>
  cases x with
  |none=>cases ho
  |some x=>
   obtain⟨i,h1,h2⟩:=Az h ho hq
   cases i with
   |int kd n=>exact⟨n,h1,.inr ⟨x,kd,rfl,RepV.int.1 h2⟩⟩
   |_=>exact h1.elim
theorem Bm {isSlice:Bool} {len cap:Nat} {lo hi:Option Operand} {i j:Int} (w:World)
 (hlo:(lo=none∧i=0)∨∃x kd,lo=some x∧a.eval x= .int kd i) (hhi:(hi=none∧j=len)∨∃x kd,hi=some x∧a.eval x= .int kd j)
 (h0:0≤i) (h1:i≤j) (h2:j≤len) (hc:len≤cap):(Instr.sliceBounds isSlice len cap (lo.map a.eval) (hi.map a.eval) none).run P w= .ok (i.toNat,j.toNat,cap) w:=by
 have b1:∀(kd:IntKind) (code:BoundsCode),(Instr.sliceBound (.int kd j) cap code).run P w= .ok j.toNat w:=fun kd code=>
  run_sliceBound (P:=P) (w:=w) kd j cap code (by omega) (by omega)
 have b2:∀(kd:IntKind) (code:BoundsCode),(Instr.sliceBound (.int kd i) j.toNat code).run P w= .ok i.toNat w:=fun kd code=>
  run_sliceBound (P:=P) (w:=w) kd i j.toNat code (by omega) (by omega)
 have b3:∀(kd:IntKind) (code:BoundsCode),j=len→(Instr.sliceBound (.int kd i) len code).run P w= .ok i.toNat w:=fun kd code e=>by
  have:=b2 kd code
  rw[e]at this
  simpa using this
 rcases hlo with⟨rfl,rfl⟩|⟨x,kd,rfl,hx⟩<;>rcases hhi with⟨rfl,rfl⟩|⟨y,kd',rfl,hy⟩
 ·simp[Instr.sliceBounds]
 ·simp[Instr.sliceBounds,hy,b1]
 ·simp[Instr.sliceBounds,hx,b3]
 ·simp[Instr.sliceBounds,hx,hy,b1,b2]
theorem RepIs.slice {G:Mem} {l:List I} {cs:List Value} {sz i j:Nat} (h:RepIs G l cs) (hsz:∀x∈l,x.size=sz) (hij:i≤j) (hj:j≤l.length):
 RepIs G ((l.take j).drop i) ((cs.take (j*sz)).drop (i*sz)):=by
 have e1:l=(l.take j)++l.drop j:=(List.take_append_drop j l).symm
 rw[e1]at h
 obtain⟨c,d,rfl,h1,_⟩:=RepIs.split h
 have hl1:c.length=j*sz:=by
  rw[RepIs.length _ _ h1,A0 (sz:=sz) fun x hx=>hsz x (List.mem_of_mem_take hx),List.length_take,Nat.min_eq_left hj]
 have e2:l.take j=(l.take j).take i++(l.take j).drop i:=(List.take_append_drop i _).symm
 rw[e2]at h1
 obtain⟨c1,c2,rfl,h3,h4⟩:=RepIs.split h1
 have hl2:c1.length=i*sz:=by
  rw[RepIs.length _ _ h3,A0 (sz:=sz) fun x hx=>hsz x (List.mem_of_mem_take (List.mem_of_mem_take hx)),List.length_take,List.length_take]
  rw[Nat.min_eq_left (by omega)]
 rw[←hl1,List.take_left, ←hl2,List.drop_left]
 exact h4
theorem RepV.sliced {l:List I} {ad:Option Addr} {cap i j sz:Nat} (h:RepV G (.list l) (.slice ad l.length cap)) (hij:i≤j) (hj:j≤l.length) (hsz:l≠[]→∀x∈l,x.size=sz):
 RepV G (.list ((l.take j).drop i)) (.slice (if cap=i then ad else ad.map (·.add (i*sz))) (j - i) (cap - i)):=by
 obtain⟨a',cap',he,h1,h2,h3⟩:=RepV.list.1 h
 cases he
 have hlen:((l.take j).drop i).length=j - i:=by simp[Nat.min_eq_left hj]
 refine RepV.list.2 ⟨_,_,by rw[hlen],by rw[hlen];omega,by omega,?_⟩
 rcases h3 with rfl|⟨b,off,bl,ty,fz,sz',rfl,hg,hs,hle,hr⟩
 ·exact .inl (by simp)
 ·by_cases hij':i=j
  ·subst hij'
   exact .inl (List.eq_nil_of_length_eq_zero (by rw[hlen];omega))
  ·have hne:l≠[]:=by rintro rfl;simp at hj;omega
   have hszz:sz'=sz:=by
    cases l with
    |nil=>exact absurd rfl hne
    |cons x l=>rw[←hs x (by simp),hsz hne x (by simp)]
   subst hszz
   have hci:cap≠i:=by omega
   rw[if_neg hci]
   refine .inr ⟨b,off+i*sz',bl,ty,fz,sz',by simp[add_lit],hg,fun x hx=>hs x (List.mem_of_mem_take (List.mem_of_mem_drop hx)),?_,?_⟩
   ·rw[hlen,Nat.sub_mul]
    have h4:i*sz'≤j*sz':=Nat.mul_le_mul_right _ hij
    have h5:j*sz'≤l.length*sz':=Nat.mul_le_mul_right _ hj
    omega
   ·have:=RepIs.slice hr hs hij hj
    rw[hlen]
    have h5:j*sz'≤l.length*sz':=Nat.mul_le_mul_right _ hj
    have e:(((bl.toList.drop off).take (l.length*sz')).take (j*sz')).drop (i*sz')=(bl.toList.drop (off+i*sz')).take ((j - i)*sz'):=by
     rw[List.take_take,Nat.min_eq_left h5,List.drop_take,List.drop_drop,Nat.sub_mul]
    rwa [e]at this
def L6 (P:Program) (t:TypeId) (str:Bool) (sz:Nat):Bool:=match P.underlying t with
 |some .string=>str
 |some (.slice e)=> !str&&match P.info? e with
  |some i=>i.size==sz
  |none=>false
 |_=>false
theorem extract_data (s:List UInt8) (i j:Nat):(⟨⟨s⟩⟩:ByteArray).extract i j=⟨⟨(s.take j).drop i⟩⟩:=by
 apply ByteArray.ext
 apply Array.ext'
 simp[List.extract_eq_take_drop,List.drop_take]
theorem VecAt.take {lab:Nat × Nat} {e:TypeId} {sz:Nat} {l:List I} {ad:Option Addr} {n cap j:Nat} (h:VecAt G σ w lab e sz l (.slice ad n cap)) (hj:j≤l.length):
 VecAt G σ w lab e sz (l.take j) (.slice ad j cap):=by
 obtain⟨xs,h1,h2,h3,h4⟩:=h
 have hl:(l.take j).length=j:=by rw[List.length_take,Nat.min_eq_left hj]
 have e1:l=l.take j++l.drop j:=(List.take_append_drop j l).symm
 rw[e1]at h2
 obtain⟨c,d,rfl,h5,_⟩:=RepIs.split h2
 have hc:c.length=j*sz:=by rw[RepIs.length _ _ h5,A0 (sz:=sz) fun x hx=>h3 x (List.mem_of_mem_take hx),hl]
 refine⟨c,⟨by rw[hl,hc],?_⟩,h5,fun x hx=>h3 x (List.mem_of_mem_take hx),fun b hb=>h4 b (by cases ad with|none=>simp[Value.ownBlock]at hb|some _=>simpa[Value.ownBlock]using hb)⟩
 rcases h1.2 with⟨e2,e3⟩|⟨g,cap',cur,e2,k1,k2,k3,k4,k5,k6⟩
 ·cases e2
  exact .inl ⟨by congr 1;omega,by rw[hl];omega⟩
 ·cases e2
  refine .inr ⟨g,cap,cur,by rw[hl],k1,k2,by rw[hl];omega,k4,k5,?_⟩
  rw[hl, ←hc]
  have h7:(cur.toList.take (l.length*sz)).take c.length=c:=by rw[k6,List.take_left]
  rw[List.take_take,Nat.min_eq_left]at h7
  ·exact h7
  ·rw[hc];exact Nat.mul_le_mul_right _ hj
theorem V1 {o:Oper} {t:TypeId} {x:Operand} {lo hi:Option Operand} {x':Opd} {lo' hi':Option Opd} {str:Bool} {sz:Nat} (ho:o.op= .slice t x lo hi none) (hx:Ac N x x'=true)
 (hlo:oOk N lo lo'=true) (hhi:oOk N hi hi'=true) (ht:L6 P t str sz=true):Sound P N o (Nu o.dst str sz x' lo' hi'):=by
 intro G σ Fr w0 st a w Q next E hN hr hw hn hdst
 subst hN
 have hsl:str=false→∃e i,P.underlying t=some (.slice e)∧P.info? e=some i∧i.size=sz:=by
  rintro rfl
  unfold L6 at ht
  split at ht
  ·cases ht
  ·rename_i e h
   split at ht
   ·rename_i i hi;exact⟨e,i,h,hi,by simpa using ht⟩
   ·cases ht
  ·cases ht
 have hst:str=true→P.underlying t=some .string:=by
  rintro rfl
  unfold L6 at ht
  split at ht
  ·assumption
  ·simp at ht
  ·cases ht
 cases x' with
 |c _=>exact hw.elim
 |nils _ _=>exact hw.elim
 |t n=>
  obtain⟨rfl,hnlt⟩:=A1 hx
  simp only[Nu,M.wp]at hw
  cases hs:st[n]? with
  |none=>simp[hs]at hw
  |some cur=>
   obtain⟨ver,sv⟩:=cur
   simp only[hs]at hw
   have hrep:=hr.slot hnlt hs
   split at hw
   ·rename_i l
    obtain⟨i,h1,hi1⟩:=Cg hr hlo hw
    obtain⟨j,h2,hj1⟩:=Cg hr hhi h1
    obtain⟨⟨k1,k2,k3,k4,k5⟩,h3⟩:=h2
    obtain⟨e,i0,hu,hi0,hsz⟩:=hsl k1
    have hrep':RepV G (.list l) (a.eval (.tmp n)):=hrep
    obtain⟨ad,cap,hc,hlc,_⟩:=RepV.list.1 hrep'
    have hb:=Bm (P:=P) (isSlice:=true) (len:=l.length) (cap:=cap) w hi1 hj1 k2 k3 k4 hlc
    rw[hc]at hrep'
    have hv:=RepV.sliced (i:=i.toNat) (j:=j.toNat) (sz:=sz) hrep' (by omega) (by omega) fun _=>k5
    refine Ay hr hn hdst hv h3 ?_
    simp[execOp,ho,Instr.sliceAt,Instr.slice,run_underlying hu,hc,hb,sizeOf,typeInfo,hi0,hsz]
   ·rename_i s
    obtain⟨i,h1,hi1⟩:=Cg hr hlo hw
    obtain⟨j,h2,hj1⟩:=Cg hr hhi h1
    obtain⟨⟨k1,k2,k3,k4⟩,h3⟩:=h2
    have hu:=hst k1
    have hrep':RepV G (.str s) (a.eval (.tmp n)):=hrep
    obtain⟨hc,hmax⟩:=RepV.str.1 hrep'
    have hb:=Bm (P:=P) (isSlice:=false) (len:=s.length) (cap:=s.length) w hi1 hj1 k2 k3 k4 (Nat.le_refl _)
    refine Ay hr hn hdst (v:=.string ⟨⟨(s.take j.toNat).drop i.toNat⟩⟩) (RepV.str.2 ⟨rfl,by simp;omega⟩) h3 ?_
    have hsize:(⟨⟨s⟩⟩:ByteArray).size=s.length:=rfl
    simp[execOp,ho,Instr.sliceAt,Instr.slice,run_underlying hu,hc,hsize,hb,extract_data]
   ·rename_i e' sz' l
    obtain⟨i,h1,hi1⟩:=Cg hr hlo hw
    obtain⟨j,h2,hj1⟩:=Cg hr hhi h1
    obtain⟨⟨k1,rfl,rfl,k3,k4,hne⟩,h3⟩:=h2
    obtain⟨e,i0,hu,hi0,hsz⟩:=hsl k1
    have hrep':VecAt G σ w (n,0) e' sz' l (a.eval (.tmp n)):=hrep
    obtain⟨ad,cap,hc,_⟩:=hrep'.len
    have hlc:l.length≤cap:=by
     obtain⟨xs,q1,_⟩:=hrep'
     rcases q1.2 with⟨q2,q3⟩|⟨g,cap',cur,q2,_,_,q3,_⟩
     ·omega
     ·rw[hc]at q2;cases q2;exact q3
    have hb:=Bm (P:=P) (isSlice:=true) (len:=l.length) (cap:=cap) w hi1 hj1 (Int.le_refl 0) k3 k4 hlc
    rw[hc]at hrep'
    have hv:=hrep'.take (j:=j.toNat) (by omega)
    obtain⟨σ',st',r1,r2⟩:=hr.setD hdst (sv:=.sub n 0 ver j.toNat) (c:=.slice ad j.toNat cap) (fun d' hd ver' _=>by
     refine⟨_,by rw[List.getElem?_set_ne (by rintro rfl;exact hne hd)];exact hs,Nat.le_refl _,fun _=>⟨e',sz',l,rfl,?_⟩⟩
     exact hv.tr (Mem.le.refl G) fun b hb=>⟨Lab.drop_some.2 ⟨by rintro rfl;exact hne hd,hb⟩,rfl⟩) h3
    refine Am (w':=w) ?_ (hn G σ' st' _ w (Mem.le.refl G) r1 r2)
    have had:Option.map (fun x:Addr=>x.add 0) ad=ad:=by cases ad<;>simp[Addr.add]
    simp[execOp,ho,Instr.sliceAt,Instr.slice,run_underlying hu,hc,hb,sizeOf,typeInfo,hi0,hsz,had]
   ·rename_i s k v
    obtain⟨cur,g1,g2,g3⟩:=hrep
    simp only[M.wp,g1]at hw
    obtain⟨hv,hw⟩:=hw
    obtain⟨e',sz',l,g4,g5⟩:=g3 hv
    simp only[g4]at hw
    obtain⟨i,h1,hi1⟩:=Cg hr hlo hw
    obtain⟨j,h2,hj1⟩:=Cg hr hhi h1
    obtain⟨⟨k1,rfl,rfl,k3,k4,hne⟩,h3⟩:=h2
    obtain⟨e,i0,hu,hi0,hsz⟩:=hsl k1
    obtain⟨ad,cap,hc,_⟩:=g5.len
    have hlc:l.length≤cap:=by
     obtain⟨xs,q1,_⟩:=g5
     rcases q1.2 with⟨q2,q3⟩|⟨g,cap',cur,q2,_,_,q3,_⟩
     ·omega
     ·rw[hc]at q2;cases q2;exact q3
    have hb:=Bm (P:=P) (isSlice:=true) (len:=l.length) (cap:=cap) w hi1 hj1 (Int.le_refl 0) k3 k4 hlc
    rw[hc]at g5
    have hvv:=g5.take (j:=j.toNat) (by omega)
    obtain⟨σ',st',r1,r2⟩:=hr.setD hdst (sv:=.sub s k v j.toNat) (c:=.slice ad j.toNat cap) (fun d' hd ver' _=>by
     refine⟨cur,by rw[List.getElem?_set_ne (by rintro rfl;exact hne hd)];exact g1,g2,fun _=>⟨e',sz',l,g4,?_⟩⟩
     exact hvv.tr (Mem.le.refl G) fun b hb=>⟨Lab.drop_some.2 ⟨by rintro rfl;exact hne hd,hb⟩,rfl⟩) h3
    refine Am (w':=w) ?_ (hn G σ' st' _ w (Mem.le.refl G) r1 r2)
    have had:Option.map (fun x:Addr=>x.add 0) ad=ad:=by cases ad<;>simp[Addr.add]
    simp[execOp,ho,Instr.sliceAt,Instr.slice,run_underlying hu,hc,hb,sizeOf,typeInfo,hi0,hsz,had]
   ·exact hw.elim
end

def Fj:List (Nat × Opd)→List I→(List I→M)→M
 | [],zs,k=>k zs
 |(i,x)::ps,zs,k=>B9 x fun u=>match zs[i]? with
  |some z=>.need (u.size=z.size) fun _=>Fj ps (zs.set i u) k
  |none=>.fail
def Bo (N:Nat):List (Nat × Operand)→List (Nat × Opd)→Bool
 | [],[]=>true
 |(i,x)::l,(j,y)::m=>i==j&&Ac N x y&&Bo N l m
 |_,_=>false
section
variable{P:Program}{N:Nat}{G:Mem}{σ:Lab}{Fr:Mem}{w0:Base}{w:World}{st:St}{a:Act}
theorem Rb:∀(vs pre old post:List Value) (n:Nat) (cells:Array Value),cells.toList=pre++old++post→old.length=vs.length→
 ((vs.zipIdx n).foldl (fun(cs:Array Value) (p:Value × Nat)=>cs.setIfInBounds (pre.length - n+p.2) p.1) cells).toList=pre++vs++post∨pre.length<n
 | [],pre,old,post,n,cells,h,hl=>by
   left
   have:old=[]:=List.eq_nil_of_length_eq_zero hl
   subst this
   simpa using h
 |v::vs,pre,old,post,n,cells,h,hl=>by
  by_cases hn:pre.length<n
  ·exact .inr hn
  ·left
   cases old with
   |nil=>simp at hl
   |cons o old=>
    have h1:(cells.setIfInBounds (pre.length - n+n) v).toList=(pre++[v])++old++post:=by
     rw[Array.toList_setIfInBounds,h,Nat.sub_add_cancel (by omega)]
     simp
    have:=Rb vs (pre++[v]) old post (n+1) _ h1 (by simpa using hl)
    rcases this with h2|h2
    ·have e:(pre++[v]).length - (n+1)=pre.length - n:=by simp
     rw[e]at h2
     simp only[List.zipIdx_cons,List.foldl_cons]
     simpa using h2
    ·simp at h2;omega
theorem Tc {cells:Array Value} {v:Value} {pre old post:List Value} {off:Nat} (h:cells.toList=pre++old++post) (hp:pre.length=off) (ho:old.length=v.cells.size):
 (v.cells.zipIdx.foldl (fun(cs:Array Value) (p:Value × Nat)=>cs.setIfInBounds (off+p.2) p.1) cells).toList=pre++v.cells.toList++post:=by
 have:=Rb v.cells.toList pre old post 0 cells h (by rw[ho];simp)
 rcases this with h1|h1
 ·rw[←Array.foldl_toList,Array.toList_zipIdx]
  rw[Nat.sub_zero,hp]at h1
  exact h1
 ·omega
theorem Fq {place:Nat→Option (Nat × Nat)} {Q:St→Prop}:∀{ps:List (Nat × Operand)} {ps':List (Nat × Opd)} {zs:List I} {cells:Array Value} {k:List I→M} {G:Mem} {σ:Lab} {st:St},
 Rel G σ Fr w0 st a w→Bo w0.n ps ps'=true→(Fj ps' zs k).wp P Q st→RepIs G zs cells.toList→
 (∀i z,zs[i]?=some z→place i=some (sizes (zs.take i),z.size))→
 ∃zs' cells' G' σ' st',G.le G'∧Rel G' σ' Fr w0 st' a w∧(k zs').wp P Q st'∧RepIs G' zs' cells'.toList∧Instr.fill place cells (ps.map fun p=>(p.1,a.eval p.2))=some cells'
 | [],[],zs,cells,k,G,σ,st,hr,_,hq,hz,_=>⟨zs,cells,G,σ,st,Mem.le.refl G,hr,hq,hz,rfl⟩
 |(i,x)::ps,(j,y)::ps',zs,cells,k,G,σ,st,hr,ho,hq,hz,hpl=>by
  simp only[Bo,Bool.and_eq_true,beq_iff_eq]at ho
  obtain⟨⟨rfl,ho⟩,hos⟩:=ho
  obtain⟨u,G',σ',st',hG,hr',h1,hv⟩:=Cb hr ho hq
  cases hzi:zs[i]? with
  |none=>simp only[hzi]at h1;exact h1.elim
  |some z=>
   simp only[hzi]at h1
   obtain⟨hsz,h1⟩:=h1
   obtain⟨c1,c,c2,e1,e2,e3,hset⟩:=RepIs.nth i (RepIs.mono hG _ _ hz) hzi
   have hvc:=hv.cells
   have hcl:c.length=(a.eval x).cells.size:=by
    rw[RepI.length _ _ e3, ←hsz, ←RepI.length _ _ hvc]
    simp
   have hfold:=Tc (v:=a.eval x) (off:=sizes (zs.take i)) e1 e2 hcl
   have hplace:=hpl i z hzi
   obtain⟨zs',cells',G'',σ'',st'',hG',hr'',h2,h3,h4⟩:=Fq (place:=place) hr' hos h1 (cells:=(a.eval x).cells.zipIdx.foldl (fun(cs:Array Value) (p:Value × Nat)=>cs.setIfInBounds (sizes (zs.take i)+p.2) p.1) cells)
    (by rw[hfold];exact hset u _ hvc) (by
      intro i' z' hz'
      have hi:i<zs.length:=(List.getElem?_eq_some_iff.1 hzi).1
      by_cases hii:i'=i
      ·subst hii
       rw[List.getElem?_set_self hi]at hz'
       cases hz'
       rw[hplace,hsz,List.take_set_of_le (Nat.le_refl _)]
      ·rw[List.getElem?_set_ne (Ne.symm hii)]at hz'
       rw[hpl i' z' hz']
       congr 2
       rw[List.take_set]
       by_cases hlt:i<i'
       ·have:(zs.take i')[i]?=some z:=by rw[List.getElem?_take,if_pos hlt];exact hzi
        exact(R4 this hsz).symm
       ·rw[List.set_eq_of_length_le (by rw[List.length_take];omega)])
   refine⟨zs',cells',G'',σ'',st'',hG.trans hG',hr'',h2,h3,?_⟩
   simp only[List.map_cons,Instr.fill,hplace]
   have hszc:(a.eval x).cells.size=z.size:=by rw[←hcl,RepI.length _ _ e3]
   have hle:¬(sizes (zs.take i)+(a.eval x).cells.size>cells.size):=by
    have:cells.size=cells.toList.length:=by simp
    rw[this,e1, ←e2, ←hcl]
    simp
   rw[if_neg (by simp[hszc]at hle ⊢;omega)]
   exact h4
 | [],_::_,_,_,_,_,_,_,_,ho,_,_,_=>by cases ho
 |_::_,[],_,_,_,_,_,_,_,ho,_,_,_=>by simp[Bo]at ho
def T8 (d:Option Nat) (zs:List I) (ps:List (Nat × Opd)):M:=Fj ps zs fun l=>setD d (.v (.agg l)) .done
def Qw (P:Program) (t:TypeId) (zs:List I):Bool:=match P.underlying t,P.info? t with
 |some (.struct fs),some i=>(match i.zero with
  |some z=>match zIs zs z.cells.toList with
   |some []=>true
   |_=>false
  |none=>false)&&
  fs.size==zs.length&&(List.range zs.length).all fun j=>match fs[j]?,zs[j]? with
   |some f,some z=>f.offset==sizes (zs.take j)&&match P.info? f.type with
    |some i=>i.size==z.size
    |none=>false
   |_,_=>false
 |_,_=>false
theorem Mv {fs:List Field} {sz:Field→Nat} (h:∀f∈fs,(sizeOf f.type).run P w= .ok (sz f) w):
 (fs.mapM fun f=>(do pure (f.offset, ←sizeOf f.type):Sem (Nat × Nat))).run P w= .ok (fs.map fun f=>(f.offset,sz f)) w:=by
 induction fs with
 |nil=>simp
 |cons f fs ih=>
  have h1:=h f (by simp)
  have h2:=ih fun g hg=>h g (by simp[hg])
  simp only[List.mapM_cons,Sem.run_bind,h1,Result.andThen,Sem.run_pure,h2,List.map_cons]
theorem Vq {o:Oper} {t:TypeId} {ps:Array (Nat × Operand)} {zs:List I} {ps':List (Nat × Opd)} (ho:o.op= .build t ps) (hp:Bo N ps.toList ps'=true) (ht:Qw P t zs=true):
 Sound P N o (T8 o.dst zs ps'):=by
 intro G σ Fr w0 st a w Q next E hN hr hw hn hdst
 subst hN
 unfold Qw at ht
 split at ht
 ·rename_i fs i hu hi
  simp only[Bool.and_eq_true,beq_iff_eq]at ht
  obtain⟨⟨hz,hlen⟩,hall⟩:=ht
  cases hzv:i.zero with
  |none=>simp[hzv]at hz
  |some z=>
   simp only[hzv]at hz
   have hz':∃c,z.cells.toList=c++[]∧RepIs G zs c:=by
    split at hz
    ·rename_i h;exact zIs_spec G zs _ _ h
    ·cases hz
   obtain⟨c,hc,hz'⟩:=hz'
   rw[List.append_nil]at hc
   subst hc
   have hfield:∀j f zz,fs[j]?=some f→zs[j]?=some zz→f.offset=sizes (zs.take j)∧(sizeOf f.type).run P w= .ok zz.size w:=by
    intro j f zz hf hzz
    have hj:j<zs.length:=(List.getElem?_eq_some_iff.1 hzz).1
    have:=List.all_eq_true.1 hall j (List.mem_range.2 hj)
    simp only[hf,hzz,Bool.and_eq_true,beq_iff_eq]at this
    obtain⟨h1,h2⟩:=this
    refine⟨h1,?_⟩
    cases hfi:P.info? f.type with
    |none=>simp[hfi]at h2
    |some jn=>
     simp only[hfi,beq_iff_eq]at h2
     simp[sizeOf,typeInfo,hfi,h2]
   let szf:Field→Nat:=fun f=>((P.info? f.type).map (·.size)).getD 0
   have hszf:∀f∈fs.toList,(sizeOf f.type).run P w= .ok (szf f) w:=by
    intro f hf
    obtain⟨j,hj⟩:=List.mem_iff_getElem?.1 hf
    have hj':j<zs.length:=by
     have:=(List.getElem?_eq_some_iff.1 hj).1
     simp at this;omega
    have h2:=(hfield j f zs[j] (by simpa using hj) (List.getElem?_eq_getElem hj')).2
    cases hfi:P.info? f.type with
    |none=>simp[sizeOf,typeInfo,hfi]at h2
    |some jn=>simp[sizeOf,typeInfo,hfi,szf]
   have hplaces:∀j zz,zs[j]?=some zz→(fs.toList.map fun f=>(f.offset,szf f)).toArray[j]?=some (sizes (zs.take j),zz.size):=by
    intro j zz hzz
    have hj:j<zs.length:=(List.getElem?_eq_some_iff.1 hzz).1
    have hjf:fs[j]?=some (fs[j]'(by omega)):=Array.getElem?_eq_getElem (by omega)
    obtain⟨h1,h2⟩:=hfield j _ zz hjf hzz
    have h3:=hszf _ (by simp:fs[j]'(by omega)∈fs.toList)
    rw[h2]at h3
    have h4:zz.size=szf (fs[j]'(by omega)):=by injection h3
    simp[hjf,h1,h4]
   obtain⟨zs',cells',G',σ',st',hG,hr',h2,h3,h4⟩:=Fq (place:=fun j=>(fs.toList.map fun f=>(f.offset,szf f)).toArray[j]?) hr hp hw hz' hplaces
   have hv:RepV G' (.agg zs') (.agg cells'):=by
    unfold RepV
    rw[if_pos (show(I.agg zs').isAgg=true from rfl)]
    exact⟨cells',rfl,h3⟩
   refine Ay hr' (fun G'' σ'' st'' a' w' hG''=>hn G'' σ'' st'' a' w' (hG.trans hG'')) hdst hv h2 ?_
   have hm:=Mv (P:=P) (w:=w) hszf
   have hparts:(ps.map fun(p:Nat × Operand)=>(p.1,a.eval p.2)).toList=ps.toList.map fun p=>(p.1,a.eval p.2):=by simp
   have hm':(fs.mapM fun f=>(do pure (f.offset, ←sizeOf f.type):Sem (Nat × Nat))).run P w= .ok (fs.toList.map fun f=>(f.offset,szf f)).toArray w:=by
    rw[Array.mapM_eq_mapM_toList,Sem.run_map,hm]
    rfl
   have hzero:(zeroValue t).run P w= .ok z w:=by simp[zeroValue,typeInfo,hi,hzv]
   simp only[execOp,ho,Instr.build,Sem.run_bind,hzero,Result.andThen,run_underlying hu,hm',hparts,h4,Sem.run_pure]
 ·cases ht
end
end Go.Ab
