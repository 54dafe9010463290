/- Lemmas -/
import Derived.Test.YtkpojedpcabojaaDoorAbW
set_option linter.unusedVariables false
set_option linter.unusedSimpArgs false
namespace Go.Ab
inductive Ao where
 |op (g:Option (Nat × Bool)) (i:IOp)
 |call (g:Option (Nat × Bool)) (d:Option Nat) (f:FuncId) (az:List (Bool × Opd))
 |peek (g:Option (Nat × Bool)) (d:Option Nat) (f:FuncId) (az:List (Bool × Opd))
 |dyn (g:Option (Nat × Bool)) (d:Option Nat) (fs:List FuncId) (x:Opd) (az:List (Bool × Opd))
 |inl (g:Option (Nat × Bool)) (d:Option Nat) (N:Nat) (f:FuncId) (az:List Opd)
 |yld (g:Option (Nat × Bool)) (d:Option Nat) (y:Nat) (az:List Opd)
 |inv (g:Option (Nat × Bool)) (d:Option Nat) (tab:List (TypeId × FuncId)) (name:String) (x:Opd)
 deriving Inhabited
abbrev Hd:=Nat→Option Nat→List Opd→(St→Prop)→St→Prop
def noY:Hd:=fun _ _ _ _ _=>False
def guarded(g:Option (Nat × Bool))(d:Option Nat)(m:M):M:=match g with
 |none=>m
 |some (t,want)=>.get t fun _ sv=>match sv with
  | .v (.bool b)=>match want with
    |true=>.ite b m (setD d (.tup []) .done)
    |false=>.ite b (setD d (.tup []) .done) m
  | .tup []=>setD d (.tup []) .done
  |_=>.fail
def IOp.dst:IOp→Option Nat
 | .mv d _| .asg d _| .mov d _ _ _| .bin d _ _ _| .not d _| .pick d _ _ _| .load d _ _ _| .alloc d _| .box d _| .faddr d _ _ _| .iaddr d _ _ _| .len d _ _| .slc d _ _ _ _ _| .b2s d _| .build d _ _
 | .mkmap d| .mget d _ _ _ _| .mlen d _| .nchk d _| .movD d _| .rngS d _| .nextS d _| .rngM d _| .nextM d _| .entM d _| .pnil d _ _| .bsl d _ _ _ _ _| .bslD d _ _ _ _ _| .buildD d _ _| .boxD d _| .allocD d _| .loadF d _ _ _| .loadB d _ _ _| .bits d _ _ _| .conv d _ _| .empty d _ _| .ext d _ _| .mm d _ _ _| .app d _ _ _ _ _| .eqs d _ _ _ _| .isnil d _ _| .sidx d _ _=>some d
 | .store _ _ _=>none
 | .mupd _ _ _=>none
 | .dead d=>d
def Ao.sem:Ao→M
 | .op g i=>guarded g i.dst i.sem
 | .call g d f az=>guarded g d (Rt d f az)
 | .peek g d f az=>guarded g d (N8 d f az)
 | .dyn g d fs x az=>guarded g d (Rq d fs x az)
 | .inv g d tab _ x=>guarded g d (Rr d tab x)
 | .inl _ _ _ _ _=>.fail
 | .yld _ _ _ _=>.fail
def Um(y:Nat)(K:Nat→St→Prop)(st:St):Prop:=match st[y]? with
 |some (_,.al s v)=>match st[s]? with
  |some cur=>v=cur.1∧K s st
  |none=>False
 |_=>K y st
def Ao.run(P:Program)(Y:Hd):Ao→(St→Prop)→St→Prop
 | .op g i,Q,st=>(guarded g i.dst i.sem).wp P Q st
 | .call g d f az,Q,st=>(guarded g d (Rt d f az)).wp P Q st
 | .peek g d f az,Q,st=>(guarded g d (N8 d f az)).wp P Q st
 | .dyn g d fs x az,Q,st=>(guarded g d (Rq d fs x az)).wp P Q st
 | .inv g d tab _ x,Q,st=>(guarded g d (Rr d tab x)).wp P Q st
 | .inl g d N f az,Q,st=>(guarded g d (.chk fun st=>InlWp P f N az st fun r st'=>(Ru d r).wp P Q st')).wp P Q st
 | .yld g d y az,Q,st=>(guarded g d (.chk (Um y fun y'=>Y y' d az Q))).wp P Q st
theorem Ao.run_of{P:Program}{Y:Hd}{i:Ao}{Q:St→Prop}{st:St}(h:i.sem.wp P Q st):i.run P Y Q st:=by
 cases i with
 |inl=>exact h.elim
 |yld=>exact h.elim
 |_=>exact h
def gOk(N:Nat)(ops:Array Oper):Option (Nat × Bool)→Option (Nat × Bool)→Bool
 |none,none=>true
 |some (j,b),some (t,b')=>b==b'&&Ar ((ops[j]?).bind (·.dst)) t&&t<N
 |_,_=>false
def dOk(N:Nat)(d:Option Nat):Bool:=match d with
 |none=>true
 |some d=>d<N
def Fi(P:Program)(N:Nat)(ops:Array Oper)(o:Oper):Ao→Bool
 | .op g i=>gOk N ops o.guard g&&dOk N o.dst&&decide (o.dst=i.dst)&&chk P N o i
 | .call g d f az=>gOk N ops o.guard g&&dOk N o.dst&&decide (o.dst=d)&&match o.op with
   | .call {callee:=.value (.func f'),args,.. }=>f'==f&&B2 P f&&Bw N args.toList az
   |_=>false
 | .peek g d f az=>gOk N ops o.guard g&&dOk N o.dst&&decide (o.dst=d)&&match o.op with
   | .call {callee:=.value (.func f'),args,.. }=>f'==f&&B2 P f&&Bw N args.toList az
   |_=>false
 | .dyn g d fs x az=>gOk N ops o.guard g&&dOk N o.dst&&decide (o.dst=d)&&match o.op with
   | .call {callee:=.value x',args,.. }=>Ac N x' x&&fs.all (B2 P)&&Bw N args.toList az
   |_=>false
 | .inv g d tab name x=>gOk N ops o.guard g&&dOk N o.dst&&decide (o.dst=d)&&match o.op with
   | .call {callee:=.invoke x' name',args,.. }=>Ac N x' x&&name'==name&&args.isEmpty&&tab.all (Q5 P name)
   |_=>false
 | .inl g d N' f az=>gOk N ops o.guard g&&dOk N o.dst&&decide (o.dst=d)&&N'==N&&match o.op with
   | .call {callee:=.value (.func f'),args,.. }=>f'==f&&B2 P f&&inOk N args.toList az
   |_=>false
 | .yld g d y az=>gOk N ops o.guard g&&dOk N o.dst&&decide (o.dst=d)&&match o.op with
   | .call {callee:=.value (.tmp y'),args,.. }=>y'==y&&decide (y<N)&&inOk N args.toList az
   |_=>false
def chkL(P:Program)(N:Nat)(ops:Array Oper):List Oper→List Ao→Bool
 | [],[]=>true
 |o::l,i::m=>Fi P N ops o i&&chkL P N ops l m
 |_,_=>false
def Uo(P:Program)(Y:Hd):List Ao→(St→Prop)→St→Prop
 | [],Q,st=>Q st
 |i::l,Q,st=>i.run P Y (Uo P Y l Q) st
theorem Xb{P:Program}{N:Nat}{o:Oper}{i:IOp}{Q:St→Prop}{st:St}(h:chk P N o i=true)(hq:i.sem.wp P Q st)(c:Call):o.op≠ .defer c:=by
 intro e;unfold chk at h;rw[e]at h;cases i<;>first|exact(show False from hq).elim|(cases h;done)
def YSound(P:Program)(Y:Hd)(Fr:Mem)(w0:Base):Prop:=
 ∀{ro:Option Nat} {o:Oper} {y y':Nat} {args:Array Operand} {ts:Array TypeId} {az:List Opd} {G:Mem} {σ:Lab} {Fr':Mem} {st:St} {a:Act} {w:World} {Q:St→Prop} {next:Act→World→Prop} {E:Exit→Act→World→Prop},
  o.op= .call {callee:=.value (.tmp y'),args,argTypes:=ts}→a.eval (.tmp y')=val a w0 y→inOk w0.n args.toList az=true→Fr.le Fr'→Rel G σ Fr' w0 st a w→Y y o.dst az Q st→
  (∀G' σ' st' a' w',G.le G'→Rel G' σ' Fr' w0 st' a' w'→Q st'→next a' w')→(∀d,o.dst=some d→d<w0.n)→o.wpIn (Wd ro) 0 P a w next E
theorem Fc{P:Program}{Fr:Mem}{w0:Base}:YSound P noY Fr w0:=fun _ _ _ _ _ h=>h.elim
theorem YSound.le{P:Program}{Y:Hd}{Fr Fr':Mem}{w0:Base}(h:YSound P Y Fr w0)(hle:Fr.le Fr'):YSound P Y Fr' w0:=fun h1 h2 h3 h4=>h h1 h2 h3 (hle.trans h4)
section
variable{P:Program}{N:Nat}{G:Mem}{σ:Lab}{Fr:Mem}{w0:Base}{w:World}{st:St}{a:Act}
theorem H3{ops:Array Oper}{o:Oper}{g:Option (Nat × Bool)}{m:M}{Q:St→Prop}{next:Act→World→Prop}(hr:Rel G σ Fr w0 st a w)(hg:gOk w0.n ops o.guard g=true)(hd:dOk w0.n o.dst=true)
 (hq:(guarded g o.dst m).wp P Q st) (hn:∀G' σ' st' a' w',G.le G'→Rel G' σ' Fr w0 st' a' w'→Q st'→next a' w'):
 (Region.wanted o (yielded ops a.tmps)=true∧m.wp P Q st)∨(Region.wanted o (yielded ops a.tmps)=false∧next (a.put o.dst undef) w):=by
 unfold gOk at hg;split at hg
 ·rename_i hog;exact .inl ⟨by simp[Region.wanted,hog],hq⟩
 ·rename_i j b t b' hog;simp only[Bool.and_eq_true,beq_iff_eq,decide_eq_true_eq]at hg;obtain⟨⟨rfl,h1⟩,h2⟩:=hg;have h1:=Am h1;simp only[guarded,M.wp]at hq;cases hs:st[t]? with
  |none=>simp[hs]at hq
  |some cur=>
   simp only[hs]at hq;have skip:(setD o.dst (.tup []) .done).wp P Q st→next (a.put o.dst undef) w:=by
    intro hq;obtain⟨σ',st',r1,r2⟩:=hr.setD (sv:=.tup []) (c:=undef) (fun d' hd'=>by
     unfold dOk at hd;rw[hd']at hd;simpa using hd) (fun _ _ _ _=>⟨#[],rfl,rfl⟩) hq
    exact hn _ _ _ _ _ (Mem.le.refl G) r1 r2
   have ht:t<a.tmps.size:=by rw[hr.n];exact h2
   split at hq
   ·rename_i bb hcur;obtain⟨cv,csv⟩:=cur;simp only at hcur;subst hcur;have hrep:RepV G (.bool bb) (a.eval (.tmp t)):=hr.slot h2 hs;rw[RepV.bool]at hrep;have hy:yielded ops a.tmps j=some bb:=by
     unfold yielded;rw[h1];have:a.tmps[t]?=some (.bool bb):=by
      rw[Array.getElem?_eq_getElem ht];simp[Act.eval,Array.getElem?_eq_getElem ht]at hrep;rw[hrep]
     simp[this]
    have hw:Region.wanted o (yielded ops a.tmps)=(bb==b):=by
     unfold Region.wanted;rw[hog];simp[hy]
    rw[hw];cases b<;>cases bb
    ·exact .inl ⟨rfl,hq.2 rfl⟩
    ·exact .inr ⟨rfl,skip (hq.1 rfl)⟩
    ·exact .inr ⟨rfl,skip (hq.2 rfl)⟩
    ·exact .inl ⟨rfl,hq.1 rfl⟩
   ·rename_i hcur;obtain⟨cv,csv⟩:=cur;simp only at hcur;subst hcur;obtain⟨ta,ht1,ht2⟩:=(show RepOwn G σ w t (.tup []) (a.eval (.tmp t))from hr.slot h2 hs);have ht2:ta.toList=[]:=ht2;have hta:ta= #[]:=by simpa using ht2
    have hrep:a.eval (.tmp t)=undef:=by rw[ht1,hta];rfl
    have hy:yielded ops a.tmps j=none:=by
     unfold yielded;rw[h1];have:a.tmps[t]?=some undef:=by
      rw[Array.getElem?_eq_getElem ht];simp[Act.eval,Array.getElem?_eq_getElem ht]at hrep;rw[hrep]
     simp[this,undef]
    have hw:Region.wanted o (yielded ops a.tmps)=false:=by
     unfold Region.wanted;rw[hog];simp[hy]
    exact .inr ⟨hw,skip hq⟩
   ·exact hq.elim
 ·cases hg
theorem Yd{Y:Hd}{ro:Option Nat}{ops:Array Oper}{o:Oper}{i:Ao}{Q:St→Prop}{next:Act→World→Prop}{E:Exit→Act→World→Prop}(hY:YSound P Y Fr w0)(h1:Fi P w0.n ops o i=true)(hr:Rel G σ Fr w0 st a w)(hq:i.run P Y Q st)
 (hn:∀G' σ' st' a' w',G.le G'→Rel G' σ' Fr w0 st' a' w'→Q st'→next a' w'):
 if Region.wanted o (yielded ops a.tmps)then o.wpIn (Wd ro) 0 P a w next E else next (a.put o.dst undef) w:=by
 have hdst:dOk w0.n o.dst=true→∀d,o.dst=some d→d<w0.n:=by
  intro h d hd;unfold dOk at h;rw[hd]at h;simpa using h
 have fin:∀{g:Option (Nat × Bool)} {mm:M},gOk w0.n ops o.guard g=true→dOk w0.n o.dst=true→(guarded g o.dst mm).wp P Q st→(mm.wp P Q st→∀c,o.op≠ .defer c)→Sound P w0.n o mm→
  if Region.wanted o (yielded ops a.tmps)then o.wpIn (Wd ro) 0 P a w next E else next (a.put o.dst undef) w:=by
  intro g mm hg hd hq' hnd hs;rcases H3 hr hg hd hq' hn with⟨k1,k2⟩|⟨k1,k2⟩
  ·rw[if_pos k1];exact R3 (hnd k2) (hs G σ Fr w0 st a w _ _ _ rfl hr k2 hn (hdst hd))
  ·rw[if_neg (by rw[k1];decide)]
   exact k2
 cases i with
 |op g i=>
  simp only[Fi,Bool.and_eq_true,decide_eq_true_eq]at h1;obtain⟨⟨⟨h3,h4⟩,h5⟩,h6⟩:=h1;simp only[Ao.run]at hq;rw[←h5]at hq;exact fin h3 h4 hq (Xb h6) (Abc h6)
 |call g d f az=>
  simp only[Fi,Bool.and_eq_true,decide_eq_true_eq]at h1;obtain⟨⟨⟨h3,h4⟩,h5⟩,h6⟩:=h1;simp only[Ao.run]at hq;rw[←h5]at hq;split at h6
  ·rename_i ho;simp only[Bool.and_eq_true,beq_iff_eq]at h6;obtain⟨⟨rfl,h7⟩,h8⟩:=h6;exact fin h3 h4 hq (by rw[ho];intro _ c e;cases e) (Ada ho h7 h8)
  ·cases h6
 |peek g d f az=>
  simp only[Fi,Bool.and_eq_true,decide_eq_true_eq]at h1;obtain⟨⟨⟨h3,h4⟩,h5⟩,h6⟩:=h1;simp only[Ao.run]at hq;rw[←h5]at hq;split at h6
  ·rename_i ho;simp only[Bool.and_eq_true,beq_iff_eq]at h6;obtain⟨⟨rfl,h7⟩,h8⟩:=h6;exact fin h3 h4 hq (by rw[ho];intro _ c e;cases e) (Aar ho h7 h8)
  ·cases h6
 |dyn g d fs x az=>
  simp only[Fi,Bool.and_eq_true,decide_eq_true_eq]at h1;obtain⟨⟨⟨h3,h4⟩,h5⟩,h6⟩:=h1;simp only[Ao.run]at hq;rw[←h5]at hq;split at h6
  ·rename_i ho;simp only[Bool.and_eq_true]at h6;obtain⟨⟨h7,h8⟩,h9⟩:=h6;exact fin h3 h4 hq (by rw[ho];intro _ c e;cases e) (Ac0 ho h7 h8 h9)
  ·cases h6
 |inv g d tab name x=>
  simp only[Fi,Bool.and_eq_true,decide_eq_true_eq]at h1;obtain⟨⟨⟨h3,h4⟩,h5⟩,h6⟩:=h1;simp only[Ao.run]at hq;rw[←h5]at hq;split at h6
  ·rename_i ho;simp only[Bool.and_eq_true,beq_iff_eq]at h6;obtain⟨⟨⟨h7,rfl⟩,h9⟩,h8⟩:=h6;obtain rfl:=Array.isEmpty_iff.1 h9;exact fin h3 h4 hq (by rw[ho];intro _ c e;cases e) (Ac3 ho h7 h8)
  ·cases h6
 |inl g d N' f az=>
  simp only[Fi,Bool.and_eq_true,decide_eq_true_eq,beq_iff_eq]at h1;obtain⟨⟨⟨⟨h3,h4⟩,h5⟩,rfl⟩,h6⟩:=h1;simp only[Ao.run]at hq;rw[←h5]at hq;split at h6
  ·rename_i ho;simp only[Bool.and_eq_true,beq_iff_eq]at h6;obtain⟨⟨rfl,h7⟩,h8⟩:=h6;rcases H3 hr h3 h4 hq hn with⟨k1,k2⟩|⟨k1,k2⟩
   ·rw[if_pos k1];exact R3 (by rw[ho];intro c e;cases e) (Abp ho h7 h8 hr k2 hn (hdst h4))
   ·rw[if_neg (by rw[k1];decide)]
    exact k2
  ·cases h6
 |yld g d y az=>
  simp only[Fi,Bool.and_eq_true,decide_eq_true_eq]at h1;obtain⟨⟨⟨h3,h4⟩,h5⟩,h6⟩:=h1;simp only[Ao.run]at hq;rw[←h5]at hq;split at h6
  ·rename_i ho;simp only[Bool.and_eq_true,beq_iff_eq,decide_eq_true_eq]at h6;obtain⟨⟨rfl,h7⟩,h8⟩:=h6;rcases H3 hr h3 h4 hq hn with⟨k1,k2⟩|⟨k1,k2⟩
   ·rw[if_pos k1];have k3:=k2;simp only[M.wp]at k3;unfold Um at k3;split at k3
    ·rename_i v0 s v hsy;split at k3
     ·rename_i cur0 hss;obtain⟨cur,q1,_,q2⟩:=(show ∃cur,st[s]?=some cur∧v≤cur.1∧(v=cur.1→a.eval (.tmp _)=val a w0 s)from hr.slot h7 hsy);rw[hss]at q1;cases q1;exact hY ho (q2 k3.1) h8 (Mem.le.refl _) hr k3.2 hn (hdst h4)
     ·exact k3.elim
    ·exact hY ho (Bc (by rw[hr.n];exact h7)).symm h8 (Mem.le.refl _) hr k3 hn (hdst h4)
   ·rw[if_neg (by rw[k1];decide)]
    exact k2
  ·cases h6
theorem Zp{Y:Hd}{ro:Option Nat}{ops:Array Oper}{i:Nat}{o:Oper}{x:Ao}{Q:St→Prop}{next:Act→World→Prop}{E:Exit→Act→World→Prop}(hY:YSound P Y Fr w0)(hi:ops[i]?=some o)(h1:Fi P w0.n ops o x=true)(hr:Rel G σ Fr w0 st a w)(hq:x.run P Y Q st)
 (hn:∀G' σ' st' a' w',G.le G'→Rel G' σ' Fr w0 st' a' w'→Q st'→next a' w'):wpOpIn (Wd ro) 0 P ops E i next a w:=by
 have:=Yd (ro:=ro) (E:=E) hY h1 hr hq hn;unfold wpOpIn;rw[hi];dsimp only;split at this
 ·rename_i hw;rw[if_pos hw];exact this
 ·rename_i hw;rw[if_neg hw];exact⟨fun _ _=>trivial,this⟩
theorem S5{Y:Hd}{ro:Option Nat}{ops:Array Oper}{Qx:Exit→Act→World→Prop}(hY:YSound P Y Fr w0):∀{l:List Oper} {m:List Ao} {Q:St→Prop} {G:Mem} {σ:Lab} {st:St} {a:Act} {w:World},
 chkL P w0.n ops l m=true→Rel G σ Fr w0 st a w→Uo P Y m Q st→(∀G' σ' st' a' w',G.le G'→Rel G' σ' Fr w0 st' a' w'→Q st'→Qx .normal a' w')→wpListIn (Wd ro) 0 P ops Qx l a w
 | [],[],Q,G,σ,st,a,w,_,hr,hq,hn=>hn G σ st a w (Mem.le.refl G) hr hq
 |o::l,i::m,Q,G,σ,st,a,w,hc,hr,hq,hn=>by
  simp only[chkL,Bool.and_eq_true]at hc;obtain⟨h1,h2⟩:=hc;have:=Yd (ro:=ro) (E:=Qx) hY h1 hr hq fun G' σ' st' a' w' hG hr' hq'=>S5 (ro:=ro) hY h2 hr' hq' fun G'' σ'' st'' a'' w'' hG'=>hn G'' σ'' st'' a'' w'' (hG.trans hG')
  unfold wpListIn;split at this
  ·rename_i hw;rw[if_pos hw];exact this
  ·rename_i hw;rw[if_neg hw];exact⟨fun _ _=>trivial,this⟩
 | [],_::_,_,_,_,_,_,_,hc,_,_,_=>by cases hc
 |_::_,[],_,_,_,_,_,_,hc,_,_,_=>by simp[chkL]at hc
end
end Go.Ab
