/- Lemmas -/
import Derived.Test.YtkpojedpcabojaaGreatDoorV27
set_option linter.unusedVariables false
set_option linter.unusedSimpArgs false
namespace Go.Ab
def Pc(o:Option A1)(k:A1):Bool:=match o with|none=>true|some j=>decide (j<k)
def Rm(rv fl:Int)(f:Bool)(was v:Bt):Bool:=
 if v.rev≤was.rev∨rv<v.rev then false else if f=false∧v.rev≤fl then false else
 if v.gone=true then !was.gone&&(decide (v.made=0)&&decide (v.val=[]))else if ¬v.val.length≤256 then false else
 if f=true then decide (1≤v.made)&&(decide (v.made≤v.rev)&&(decide (v.rev≤fl)||decide (v.made=v.rev)))else if was.gone=true then decide (v.made=v.rev)else decide (v.made=was.made)
def R4(rv fl:Int):Bool→Bt→List Bt→Bool
 |_,_,[]=>true
 |f,was,v::r=>if Rm rv fl f was v=true then R4 rv fl false v r else false
def Ae1:Bt:=⟨0,0,[],true⟩
def Aa7(rv fl:Int)(h:Kv):Bool:=decide (1≤h.key.length)&&(decide (h.key.length≤64)&&(decide (h.vs≠[])&&R4 rv fl true Ae1 h.vs))
def Rz(rv fl:Int):Option A1→List Kv→Bool
 |_,[]=>true
 |o,h::r=>if Aa7 rv fl h=true∧Pc o h.key=true then Rz rv fl (some h.key) r else false
def Av8(p:Cv):Bool:=Hp p.name&&(decide (0≤p.floor)&&(decide (p.floor≤p.rev)&&decide (p.rev≤1099511627776)))
def Vg:Option A1→List Cv→Bool
 |_,[]=>true
 |o,p::r=>if(Av8 p=true∧Pc o p.name=true)∧Rz p.rev p.floor none p.keys=true then Vg (some p.name) r else false
def Sz(l:List Cv):Bool:=if 8<l.length then false else Vg none l
theorem Bki{rv fl:Int}{f:Bool}{was v:Bt}(h:Rm rv fl f was v=true)(hw0:0≤was.rev)(hw:was.gone=false→1≤was.made∧was.made≤was.rev):was.rev<v.rev∧v.rev≤rv∧v.val.length≤256∧(v.gone=false→1≤v.made∧v.made≤v.rev):=by
 unfold Rm at h;split at h
 ·cases h
 rename_i h1;split at h
 ·cases h
 split at h
 ·rename_i hg;simp only[Ad,decide_eq_true_eq]at h;exact⟨by omega,by omega,by rw[h.2.2];simp,fun c=>by rw[hg]at c;cases c⟩
 split at h
 ·cases h
 rename_i hg hv;split at h
 ·simp only[Ad,C1,decide_eq_true_eq]at h;exact⟨by omega,by omega,by omega,fun _=>⟨h.1,h.2.1⟩⟩
 split at h
 ·simp only[decide_eq_true_eq]at h;exact⟨by omega,by omega,by omega,fun _=>by omega⟩
 ·rename_i hwg;simp only[decide_eq_true_eq]at h;have:=hw (by simpa using hwg)
  exact⟨by omega,by omega,by omega,fun _=>by omega⟩
theorem Azb{rv fl:Int}:∀{vs:List Bt} {f:Bool} {was:Bt},R4 rv fl f was vs=true→0≤was.rev→(was.gone=false→1≤was.made∧was.made≤was.rev)→U4 vs∧∀v∈vs,was.rev<v.rev∧v.rev≤rv∧v.val.length≤256∧(v.gone=false→1≤v.made∧v.made≤v.rev)
 | [],_,_,_,_,_=>⟨List.Pairwise.nil,by simp⟩
 |v::r,f,was,h,h0,hw=>by
  unfold R4 at h;split at h
  ·rename_i hv;have h1:=Bki hv h0 hw;obtain⟨a1,a2⟩:=Azb h (by omega) h1.2.2.2
   refine⟨B1.2 ⟨fun x hx=>(a2 x hx).1,a1⟩,fun x hx=>?_⟩
   rcases Ah.1 hx with rfl|hx
   ·exact h1
   ·obtain⟨b1,b2⟩:=a2 x hx;exact⟨by omega,b2⟩
  ·cases h
theorem Bjf{rv fl:Int}{h:Kv}(hk:Aa7 rv fl h=true):(1≤h.key.length∧h.key.length≤64)∧h.vs≠[]∧U4 h.vs∧∀v∈h.vs,1≤v.rev∧v.rev≤rv∧v.val.length≤256∧(v.gone=false→1≤v.made∧v.made≤v.rev):=by
 unfold Aa7 at hk;simp only[Ad,decide_eq_true_eq]at hk;obtain⟨a,b,c,d⟩:=hk;obtain⟨e,g⟩:=Azb d (by decide) (by decide)
 exact⟨⟨a,b⟩,c,e,fun v hv=>by
  obtain⟨g1,g2⟩:=g v hv;have:(0:Int)<v.rev:=g1;exact⟨by omega,g2⟩⟩
theorem Asn{o:Option A1}{a b:A1}(h1:Pc o a=true)(h2:a<b):Pc o b=true:=by
 unfold Pc at h1 ⊢;cases o with
 |none=>rfl
 |some j=>simp only[decide_eq_true_eq]at h1 ⊢;exact E2 h1 h2
theorem Anj{rv fl:Int}:∀{ks:List Kv} {o:Option A1},Rz rv fl o ks=true→V6 ks∧∀h∈ks,Aa7 rv fl h=true∧Pc o h.key=true
 | [],_,_=>⟨List.Pairwise.nil,by simp⟩
 |h::r,o,hk=>by
  unfold Rz at hk;split at hk
  ·rename_i hc;obtain⟨a1,a2⟩:=Anj hk;have a3:∀x∈r,h.key<x.key:=fun x hx=>by have:=(a2 x hx).2;simpa[Pc]using this
   refine⟨B1.2 ⟨a3,a1⟩,fun x hx=>?_⟩
   rcases Ah.1 hx with rfl|hx
   ·exact hc
   ·exact⟨(a2 x hx).1,Asn hc.2 (a3 x hx)⟩
  ·cases hk
theorem Ayz:∀{l:List Cv} {o:Option A1},Vg o l=true→(l.Pairwise fun a b=>a.name<b.name)∧∀p∈l,Av8 p=true∧Pc o p.name=true∧Rz p.rev p.floor none p.keys=true
 | [],_,_=>⟨List.Pairwise.nil,by simp⟩
 |p::r,o,hk=>by
  unfold Vg at hk;split at hk
  ·rename_i hc;obtain⟨a1,a2⟩:=Ayz hk;have a3:∀x∈r,p.name<x.name:=fun x hx=>by have:=(a2 x hx).2.1;simpa[Pc]using this
   refine⟨B1.2 ⟨a3,a1⟩,fun x hx=>?_⟩
   rcases Ah.1 hx with rfl|hx
   ·exact⟨hc.1.1,hc.1.2,hc.2⟩
   ·exact⟨(a2 x hx).1,Asn hc.1.2 (a3 x hx),(a2 x hx).2.2⟩
  ·cases hk
def Nf(p:Cv):List C0:=p.keys.map fun h=>⟨Cp p.name h.key,h.vs⟩
def Kg:List Cv→List C0
 | []=>[]
 |p::r=>Nf p++Kg r
def Ut:List Kv→Int
 | []=>0
 |h::r=>(if(Hw h.vs).gone=false then 1 else 0)+Ut r
def Us:List Kv→Int
 | []=>0
 |h::r=>(if(Hw h.vs).gone=false then(h.key.length:Int)+((Hw h.vs).val.length:Int)else 0)+Us r
def Uu:List Kv→Int
 | []=>0
 |h::r=>(h.vs.length:Int)+Uu r
def Un(p:Cv):Ef:=⟨p.rev,p.floor,Us p.keys,Ut p.keys,Uu p.keys⟩
def Wh(l:List Cv)(d:List C0):A6:=⟨l.map fun p=>(p.name,Un p),d⟩
theorem A3b{p:Cv}(hn:p.name.length<256)(n:A1):keysOf n (Nf p)=if p.name=n then p.keys else[]:=by
 unfold keysOf Nf;rw[List.filterMap_map];by_cases e:p.name=n
 ·rw[if_pos e];have:(G3 n ∘ fun h:Kv=>(⟨Cp p.name h.key,h.vs⟩:C0))=some:=by
   funext h;simp[←e,G3,D3 hn]
  rw[this,List.filterMap_some]
 ·rw[if_neg e];refine List.filterMap_eq_nil_iff.2 fun h _=>?_
  simp[G3,D3 hn,e]
theorem Acd{n:A1}{α:Type}(G:List C0→α)(add:α→α→α)(z:α)(c:List Kv→α)(h0:G []=z)(ha:∀a b,G (a++b)=add (G a) (G b))(hz1:∀a,add a z=a)(hz2:∀a,add z a=a)
 (hy:∀p:Cv,p.name.length<256→G (Nf p)=if p.name=n then c p.keys else z):∀{l:List Cv},(∀p∈l,p.name.length<256)→(l.map Cv.name).Nodup→
 G (Kg l)=match l.find? (fun q=>decide (q.name=n))with|some p=>c p.keys|none=>z
 | [],_,_=>h0
 |q::r,hl,hn=>by
  rw[A0,Bs]at hn;have ih:=Acd G add z c h0 ha hz1 hz2 hy (l:=r) (fun p hp=>hl p (Au _ hp)) hn.2
  show G (Nf q++Kg r)=_;rw[ha,hy q (hl q (Ar ..)),ih,F2];by_cases e:q.name=n
  ·have X9:r.find? (fun q=>decide (q.name=n))=none:=by
    refine List.find?_eq_none.2 fun x hx=>?_
    intro c;have c:x.name=n:=by simpa using c
    exact hn.1 (by rw[e, ←c];exact List.mem_map_of_mem hx)
   rw[if_pos e,X9,decide_eq_true e];exact hz1 _
  ·rw[if_neg e,decide_eq_false e];exact hz2 _
theorem A58{n:A1}{l:List Cv}(hl:∀p∈l,p.name.length<256)(hn:(l.map Cv.name).Nodup):keysOf n (Kg l)=match l.find? (fun q=>decide (q.name=n))with|some p=>p.keys|none=>[]:=
 Acd (keysOf n) (· ++ ·) [] id rfl (fun a b=>by unfold keysOf;rw[Fh]) (fun a=>Dk a) (fun a=>rfl) (fun p hp=>A3b hp n) hl hn
theorem A65{n:A1}{p:Cv}(hp:p.name.length<256):Gv (fK n) (Nf p)=if p.name=n then Ut p.keys else 0:=by
 unfold Nf;induction p.keys with
 |nil=>simp[Gv,Ut]
 |cons h r ih=>
  rw[A0];simp only[Gv,Ut,ih,fK,D3 hp];by_cases e:p.name=n<;>simp[e]
theorem A64{n:A1}{p:Cv}(hp:p.name.length<256):Gv (fB n) (Nf p)=if p.name=n then Us p.keys else 0:=by
 unfold Nf;induction p.keys with
 |nil=>simp[Gv,Us]
 |cons h r ih=>
  rw[A0];simp only[Gv,Us,ih,fB,D3 hp];by_cases e:p.name=n<;>simp[e]
theorem Bcq{n:A1}{p:Cv}(hp:p.name.length<256):Jv n (Nf p)=if p.name=n then Uu p.keys else 0:=by
 unfold Nf;induction p.keys with
 |nil=>simp[Jv,Uu]
 |cons h r ih=>
  rw[A0];simp only[Jv,Uu,ih,D3 hp];by_cases e:p.name=n<;>simp[e]
theorem Ay5{f:A1→Bt→Int}{a b:List C0}(h:a.Perm b):Gv f a=Gv f b:=by
 induction h with
 |nil=>rfl
 |cons x _ ih=>simp only[Gv,ih]
 |swap x y l=>simp only[Gv];omega
 |trans _ _ h1 h2=>exact h1.trans h2
theorem Bg6{n:A1}{a b:List C0}(h:a.Perm b):Jv n a=Jv n b:=by
 induction h with
 |nil=>rfl
 |cons x _ ih=>simp only[Jv,ih]
 |swap x y l=>simp only[Jv];omega
 |trans _ _ h1 h2=>exact h1.trans h2
theorem Abr{l:List Cv}{d:List C0}{n:A1}:(Wh l d).De n=match l.find? (fun q=>decide (q.name=n))with|some p=>Un p|none=>Ny:=by
 unfold Wh A6.De;dsimp only;rw[List.find?_map];show(((l.find? fun q=>decide (q.name=n)).map fun p=>(p.name,Un p)).map (·.2)).getD Ny=_
 cases l.find? fun q=>decide (q.name=n)<;>rfl
theorem Amm:∀{l:List Cv},(l.map Cv.name).Nodup→∀{p:Cv},p∈l→l.find? (fun q=>decide (q.name=p.name))=some p
 |q::r,F5,p,hp=>by
  rw[A0,Bs]at F5;rw[F2];rcases Ah.1 hp with rfl|hp
  ·simp
  ·have A2:q.name≠p.name:=fun e=>F5.1 (by rw[e];exact List.mem_map_of_mem hp)
   rw[decide_eq_false A2];exact Amm F5.2 hp
theorem Anm{x:C0}:∀{l:List Cv},x∈Kg l→∃p∈l,∃h∈p.keys,x=⟨Cp p.name h.key,h.vs⟩
 | [],h=>by cases h
 |p::r,h=>by
  rcases Aj.1 h with h|h
  ·obtain⟨k,hk,rfl⟩:=Cs.1 h;exact⟨p,Ar ..,k,hk,rfl⟩
  ·obtain⟨q,hq,a⟩:=Anm h;exact⟨q,Au _ hq,a⟩
def Rk:List Cv→Nat
 | []=>0
 |p::r=>p.keys.length+(p.keys.map fun h=>h.vs.length).sum+Rk r
theorem Ad7:∀{l:List Cv},(Kg l).length≤Rk l
 | []=>Ay _
 |p::r=>by
  have:=Ad7 (l:=r);show(Nf p++Kg r).length≤p.keys.length+_+Rk r;rw[Cw,Nf,An];omega
theorem Ahc{f:Kv→Nat}:∀{ks:List Kv} {h:Kv},h∈ks→f h≤(ks.map f).sum
 |k::r,h,hh=>by
  rw[A0,List.sum_cons];rcases Ah.1 hh with rfl|hh
  ·omega
  ·have:=Ahc (f:=f) hh;omega
theorem Wj:∀{l:List Cv} {p:Cv},p∈l→p.keys.length+(p.keys.map fun h=>h.vs.length).sum≤Rk l
 |q::r,p,h=>by
  unfold Rk;rcases Ah.1 h with rfl|h
  ·omega
  ·have:=Wj h;omega
theorem Bdg:∀{ks:List Kv},(∀h∈ks,h.key.length≤64∧∀v∈h.vs,v.val.length≤256)→(0≤Ut ks∧Ut ks≤ks.length)∧(0≤Us ks∧Us ks≤320*ks.length)∧0≤Uu ks∧Uu ks=(ks.map fun h=>h.vs.length).sum
 | [],_=>by simp[Ut,Us,Uu]
 |h::r,hb=>by
  obtain⟨a,b,c⟩:=Bdg (ks:=r) fun x hx=>hb x (Au _ hx)
  obtain⟨d,e⟩:=hb h (Ar ..);have hl:(Hw h.vs).val.length≤256:=by
   unfold Hw;cases hg:h.vs.getLast? with
   |none=>decide
   |some v=>exact e v (List.mem_of_getLast? hg)
  simp only[Ut,Us,Uu,A0,List.sum_cons,Cg];refine⟨?_,?_,?_⟩
  ·split<;>omega
  ·split<;>omega
  ·omega
set_option maxRecDepth 100000
set_option maxHeartbeats 40000000

open Go.Proofs
theorem A47(v was:Bt)(f:Bool)(p:Cv):Fn Tryz.prog Asg [.v v.Ap,.v was.Ap,.v (.bool f),.v p.Ap] (Is (.v (.bool (Rm p.rev p.floor f was v))) [.no,.no,.no,.no]):=by
 refine Art ?_ (by simp)
 obtain⟨E3,hR⟩:∃R,Rm p.rev p.floor f was v=R:=⟨_,rfl⟩;rw[hR];unfold Rm at hR;obtain⟨vr,vm,vv,vg⟩:=v;obtain⟨wr,wm,wv,wg⟩:=was;obtain⟨pn,Lm,L4,pk⟩:=p;have hiv:=Adb vv;dsimp only at hR;cases f;all_goals cases vg
 all_goals cases wg
 all_goals
  all_goals(
   repeat'((conv=>whnf);first|(with_reducible first|refine Bv (by rfl) fun hb=>?_|refine Bq (by rfl) fun hb=>?_);(try rw[hb]);try simp only[Am]at hb|((with_reducible refine Ai (fun hb=>?_) fun hb=>?_)<;>first|exact absurd hb (by decide)|(try rw[hb]);(try simp only[Am]at hb);try subst hb)|(with_reducible refine Aa ?_ ?_);focus (and_intros<;>first|omega|kernel_rfl|intro _ hh;cases hh;done|simp;done|decide)|(with_reducible refine A5.mk ?_);refine⟨_,hiv,?_⟩;rintro _ _ ⟨rfl,rfl⟩)
   all_goals(try(conv=>whnf)))
  all_goals(simp[*]at hR)
  all_goals first
   |(subst hR;(apply D6<;>kernel_rfl))

open Go.Proofs
theorem dcf{p:Prop}[Decidable p](h:p):¬decide p=false:=by simp[h]
theorem dct{p:Prop}[Decidable p](h:¬p):¬decide p=true:=by simp[h]
theorem Bop{rv fl r m wr wm:Int}{v wv:A1}{g wg:Bool}:Rm rv fl true ⟨wr,wm,wv,wg⟩ ⟨r,m,v,g⟩=true↔wr<r∧r≤rv∧((g=true∧wg=false∧m=0∧v=[])∨(g=false∧v.length≤256∧1≤m∧m≤r∧(r≤fl∨m=r))):=by
 unfold Rm;dsimp only;by_cases h1:r≤wr∨rv<r
 ·rw[if_pos h1];exact⟨fun h=>(by cases h),fun h=>(by omega)⟩
 rw[if_neg h1,if_neg (fun h=>by cases h.1)]
 cases g with
 |true=>
  rw[if_pos rfl];refine⟨fun h=>?_,fun h=>?_⟩
  ·simp only[Ad,decide_eq_true_eq,Ds]at h;exact⟨by omega,by omega,.inl ⟨rfl,h⟩⟩
  ·simp only[Ad,decide_eq_true_eq,Ds];exact h.2.2.elim (fun h=>h.2) fun h=>by cases h.1
 |false=>
  rw[if_neg (fun h=>by cases h)]
  by_cases h2:v.length≤256
  ·rw[if_neg (fun h=>h h2),if_pos rfl]
   refine⟨fun h=>?_,fun h=>?_⟩
   ·simp only[Ad,C1,decide_eq_true_eq]at h;exact⟨by omega,by omega,.inr ⟨rfl,h2,h⟩⟩
   ·simp only[Ad,C1,decide_eq_true_eq];exact h.2.2.elim (fun h=>by cases h.1) fun h=>h.2.2
  ·rw[if_pos h2];exact⟨fun h=>(by cases h),fun h=>h.2.2.elim (fun h=>by cases h.1) fun h=>absurd h.2.1 h2⟩
theorem Boo{rv fl r m wr wm:Int}{v wv:A1}{g wg:Bool}:Rm rv fl false ⟨wr,wm,wv,wg⟩ ⟨r,m,v,g⟩=true↔wr<r∧r≤rv∧fl<r∧((g=true∧wg=false∧m=0∧v=[])∨(g=false∧v.length≤256∧((wg=true∧m=r)∨(wg=false∧m=wm)))):=by
 unfold Rm;dsimp only;by_cases h1:r≤wr∨rv<r
 ·rw[if_pos h1];exact⟨fun h=>(by cases h),fun h=>(by omega)⟩
 rw[if_neg h1];by_cases h3:r≤fl
 ·rw[if_pos ⟨rfl,h3⟩];exact⟨fun h=>(by cases h),fun h=>(by omega)⟩
 rw[if_neg (fun h=>h3 h.2)]
 cases g with
 |true=>
  rw[if_pos rfl];refine⟨fun h=>?_,fun h=>?_⟩
  ·simp only[Ad,decide_eq_true_eq,Ds]at h;exact⟨by omega,by omega,by omega,.inl ⟨rfl,h⟩⟩
  ·simp only[Ad,decide_eq_true_eq,Ds];exact h.2.2.2.elim (fun h=>h.2) fun h=>by cases h.1
 |false=>
  rw[if_neg (fun h=>by cases h)]
  by_cases h2:v.length≤256
  ·rw[if_neg (fun h=>h h2),if_neg (fun h=>by cases h)]
   cases wg with
   |true=>
    rw[if_pos rfl,decide_eq_true_eq];exact⟨fun h=>⟨by omega,by omega,by omega,.inr ⟨rfl,h2,.inl ⟨rfl,h⟩⟩⟩,fun h=>h.2.2.2.elim (fun h=>by cases h.1) fun h=>h.2.2.elim (fun h=>h.2) fun h=>by cases h.1⟩
   |false=>
    rw[if_neg (fun h=>by cases h),decide_eq_true_eq]
    exact⟨fun h=>⟨by omega,by omega,by omega,.inr ⟨rfl,h2,.inr ⟨rfl,h⟩⟩⟩,fun h=>h.2.2.2.elim (fun h=>by cases h.1) fun h=>h.2.2.elim (fun h=>by cases h.1) fun h=>h.2⟩
  ·rw[if_pos h2];exact⟨fun h=>(by cases h),fun h=>h.2.2.2.elim (fun h=>by cases h.1) fun h=>absurd h.2.1 h2⟩
theorem Azu(h:Kv)(p:Cv)(Qy:h.vs.length≤100000):Fn Tryz.prog Aa1 [.v h.Ap,.v p.Ap] (Is (.v (.bool (Aa7 p.rev p.floor h))) [.no,.no]):=by
 refine Aah ?_ (by simp)
 obtain⟨E3,hR⟩:∃R,Aa7 p.rev p.floor h=R:=⟨_,rfl⟩;rw[hR];obtain⟨hk,vs⟩:=h;obtain⟨pn,Lm,L4,pk⟩:=p;unfold Aa7 at hR;dsimp only at hR Qy ⊢;have Fk:(vs.map Bt.Ap).length=vs.length:=An _;by_cases hb:hk.length<1∨64<hk.length∨vs=[]
 ·have hR:false=E3:=by
   rw[←hR];rcases hb with hb|hb|hb
   ·rw[decide_eq_false (show ¬1≤hk.length by omega)];rfl
   ·rw[decide_eq_false (show ¬hk.length≤64 by omega)];cases decide (1≤hk.length)<;>rfl
   ·rw[show decide (vs≠[])=false by simp[hb]];cases decide (1≤hk.length)<;>cases decide (hk.length≤64)<;>rfl
  subst hR;have Ku:hk.length<1∨64<hk.length∨vs.length=0:=by
   rcases hb with h|h|h
   ·exact .inl h
   ·exact .inr (.inl h)
   ·exact .inr (.inr (by rw[h];rfl))
  clear hb;repeat'((conv=>whnf);first|(with_reducible first|refine Bv (by rfl) fun hb=>?_|refine Bq (by first|assumption|rfl) fun hb=>?_);(try rw[hb]);try simp only[Am]at hb|((with_reducible refine Ai (fun hb=>?_) fun hb=>?_)<;>first|exfalso;((simp only[Eu]at hb<;>omega))|(try rw[hb]);try simp only[Am]at hb)|(with_reducible refine Aa ?_ ?_);focus (and_intros<;>first|omega|with_reducible rfl|kernel_rfl|simp;done)|with_reducible intro Av|(try dsimp only);rw[Fk])
  all_goals(try(conv=>whnf))
  all_goals first
   |(exfalso;omega)
   |(apply D6<;>kernel_rfl)
 have hR:R4 Lm L4 true Ae1 vs=E3:=by
  rw[←hR];have h1:decide (1≤hk.length)=true:=decide_eq_true (by omega)
  have h2:decide (hk.length≤64)=true:=decide_eq_true (by omega)
  have h3:decide (vs≠[])=true:=decide_eq_true fun e=>hb (.inr (.inr e))
  rw[h1,h2,h3];cases R4 Lm L4 true Ae1 vs<;>rfl
 have hl0:0<vs.length:=by
  cases vs with
  |nil=>exact absurd rfl (fun e=>hb (.inr (.inr e)))
  |cons _ _=>simp
 have g1:¬decide ((hk.length:Int)<1)=true:=by simp;omega
 have g2:¬decide ((64:Int)<(hk.length:Int))=true:=by simp;omega
 have g3:¬decide ((vs.length:Int)=0)=true:=dct (by omega)
 clear hb;repeat'((conv=>whnf);first|(with_reducible refine Bq (by first|exact Ag (by assumption)|rfl) fun hb=>?_);(try rw[hb]);try simp only[Am]at hb|((with_reducible refine Ai (fun hb=>?_) fun hb=>?_)<;>first|exfalso;((simp only[Eu]at hb<;>omega))|(try rw[hb]);try simp only[Am]at hb)|(with_reducible refine Aa ?_ ?_);focus (and_intros<;>first|omega|with_reducible rfl|kernel_rfl|simp;done)|with_reducible intro Av|(try dsimp only);rw[Fk])
 all_goals(try(conv=>whnf))
 refine Ep.by (X:=Nat × Bt) (fun y=>[(5,.v (ti (y.1:Int)))]) (fun y=>y.1≤vs.length∧(y.1=0→y.2=Ae1)∧(∀q,y.1=q+1→vs[q]?=some y.2∧1≤y.2.rev)∧R4 Lm L4 (decide (y.1=0)) y.2 (vs.drop y.1)=E3) (fun y=>vs.length - y.1) (0,Ae1) (by kernel_rfl) ⟨A3 _,fun _=>rfl,fun q e=>(by omega),hR⟩ ?_
 clear hR;rintro⟨j,was⟩ ⟨hj,hw0,Tx,hR⟩
 (try dsimp only at hj hw0 Tx hR ⊢)
 have hw:=zwj (j:=j) (by omega)
 by_cases E6:j<vs.length
 case neg=>
  have h3:¬decide ((j:Int)<(vs.length:Int))=true:=by simp;omega
  rw[Bo (by omega)]at hR
  have hR:true=E3:=hR;subst hR;repeat'((conv=>whnf);first|((with_reducible refine Ai (fun hb=>?_) fun hb=>?_)<;>first|exfalso;((simp only[Eu]at hb<;>omega))|(try rw[hb]);try simp only[Am]at hb)|(with_reducible refine Aa ?_ ?_);focus (and_intros<;>first|omega|with_reducible rfl|kernel_rfl|simp;done)|with_reducible intro Av|(try dsimp only);rw[Fk])
  all_goals(try(conv=>whnf))
  (apply D6<;>kernel_rfl)
 obtain⟨v,hv⟩:∃x,vs[j]?=some x:=⟨_,Ac E6⟩;have h3:¬decide ((j:Int)<(vs.length:Int))=false:=by simp;omega
 have K9:vs.drop j=v::vs.drop (j+1):=by rw[A7 E6];rw[Ac E6]at hv;cases hv;rfl
 rw[K9]at hR;unfold R4 at hR;have Zt:1≤v.rev→∀q,j+1=q+1→vs[q]?=some v∧1≤v.rev:=fun h1 q e=>⟨by rw[←Nat.succ.inj e];exact hv,h1⟩
 have hd1:decide (j+1=0)=false:=by simp
 obtain⟨vr,vm,vv,vg⟩:=v;cases j with
 |zero=>
  obtain rfl:=hw0 rfl;clear hw0 Tx;rw[show decide (0=0)=true from rfl]at hR;have g0:¬decide (((0:Nat):Int)>0)=true:=by simp
  generalize hX:R4 Lm L4 false ⟨vr,vm,vv,vg⟩ (vs.drop (0+1))=NX at hR;obtain⟨VO,hVO⟩:∃V,Rm Lm L4 true Ae1 ⟨vr,vm,vv,vg⟩=V:=⟨_,rfl⟩;rw[hVO]at hR;have Aie:=Bop (rv:=Lm) (fl:=L4) (r:=vr) (m:=vm) (wr:=0) (wm:=0) (v:=vv) (wv:=[]) (g:=vg) (wg:=true);rw[show Rm Lm L4 true ⟨0,0,[],true⟩ ⟨vr,vm,vv,vg⟩=VO from hVO]at Aie;clear hVO;dsimp only at Zt;cases vg;all_goals simp only[D0,Bool.true_eq_false,false_and,and_false,or_false,false_or,true_and,and_true]at Aie
  all_goals
   all_goals(
    repeat'((conv=>whnf);first|(with_reducible first|refine Bv (by first|exact Ae (by assumption)|refine decide_eq_true ?_;omega|rfl) fun hb=>?_|refine Bq (by first|assumption|exact Ag (by assumption)|rfl) fun hb=>?_);(try rw[hb]);try simp only[Am]at hb|((with_reducible refine Ai (fun hb=>?_) fun hb=>?_)<;>first|exfalso;((simp only[Eu]at hb<;>omega))|(try rw[hb]);(try simp only[Am]at hb);try subst hb)|(with_reducible refine Aa ?_ ?_);focus (and_intros<;>first|omega|with_reducible rfl|kernel_rfl|simp;done)|with_reducible intro Av|(with_reducible refine Dw.Gx ?_ ?_ ?_ fun Av=>?_);(iterate 3 focus (as_aux_lemma=>kernel_rfl));try simp only[zRL]at Av|(try dsimp only);(first|rw[Be hv]|rw[Fk])|skip;rw[hw])
    all_goals(try(conv=>whnf)))
   all_goals first
    |(have hvk:VO=true:=Aie.2 (by omega)
      rw[hvk,if_pos rfl]at hR;refine Round.by (1,Bt.mk _ _ _ _) ?_ ⟨by omega,by simp,Zt (by omega),hX.trans hR⟩ (by dsimp only;omega)
      try dsimp only
      show norm _ _=Dy _ _
      kernel_rfl)
    |(have hvk:VO=false:=Bool.eq_false_iff.2 fun c=>(by have:=Aie.1 c;first|omega|exact this)
      rw[hvk]at hR;have hR:false=E3:=hR;subst hR
      (apply D6<;>kernel_rfl))
 |succ q=>
  obtain⟨hq,hq1⟩:=Tx q rfl;clear hw0 Tx;rw[show decide (q+1=0)=false by simp]at hR
  have Wc:IntKind.i64.wrap (((q+1:Nat):Int) - 1)=((q:Nat):Int):=(Cd (by omega)).trans (by omega)
  have B2f:IntKind.i64.wrap (((q:Int)+1) - 1)=((q:Nat):Int):=(Cd (by omega)).trans (by omega)
  have g0:¬decide ((0:Int)<((q+1:Nat):Int))=false:=dcf (by omega)
  have Sv:¬decide ((q:Int)<(vs.length:Int))=false:=by simp;omega
  generalize hX:R4 Lm L4 false ⟨vr,vm,vv,vg⟩ (vs.drop (q+1+1))=NX at hR;obtain⟨wr,wm,wv,wg⟩:=was;obtain⟨VO,hVO⟩:∃V,Rm Lm L4 false ⟨wr,wm,wv,wg⟩ ⟨vr,vm,vv,vg⟩=V:=⟨_,rfl⟩;rw[hVO]at hR;have Aie:=Boo (rv:=Lm) (fl:=L4) (r:=vr) (m:=vm) (wr:=wr) (wm:=wm) (v:=vv) (wv:=wv) (g:=vg) (wg:=wg);rw[hVO]at Aie;clear hVO;dsimp only at Zt hq1;cases vg;all_goals cases wg
  rotate_left 2;cases vv;all_goals simp only[D0,Bool.true_eq_false,false_and,and_false,or_false,false_or,true_and,and_true,reduceCtorEq,eq_self]at Aie
  all_goals
   all_goals(
    repeat'((conv=>whnf);first|(with_reducible first|refine Bv (by first|exact Ae (by assumption)|rfl) fun hb=>?_|refine Bq (by first|assumption|refine decide_eq_false ?_;omega|rfl) fun hb=>?_);(try rw[hb]);try simp only[Am]at hb|((with_reducible refine Ai (fun hb=>?_) fun hb=>?_)<;>first|exfalso;((simp only[Eu]at hb<;>omega))|(try rw[hb]);(try simp only[Am]at hb);(try(with_reducible exact absurd trivial hb));try subst hb)|(with_reducible refine Aa ?_ ?_);focus (and_intros<;>first|omega|with_reducible rfl|kernel_rfl|simp;done)|with_reducible intro Av|(with_reducible refine Dw.Gx ?_ ?_ ?_ fun Av=>?_);(iterate 3 focus (as_aux_lemma=>kernel_rfl));try simp only[zRL]at Av|(try dsimp only);(first|rw[Be hv]|rw[Be hq]|rw[Fk]|rw[hw]|rw[Wc]))
    all_goals(try(conv=>whnf)))
   all_goals first
    |contradiction
    |(have hvk:VO=false:=Bool.eq_false_iff.2 fun c=>(by have:=Aie.1 c;first|omega|exact this)
      rw[hvk]at hR;have hR:false=E3:=hR;subst hR
      (apply D6<;>kernel_rfl))
    |(have hvk:VO=true:=Aie.2 (by omega)
      rw[hvk,if_pos rfl]at hR;refine Round.by (q+2,Bt.mk _ _ _ _) ?_ ⟨by omega,by simp,Zt (by omega),hX.trans hR⟩ (by dsimp only;omega)
      try dsimp only
      show norm _ _=Dy _ _
      kernel_rfl)

open Go.Proofs
abbrev Z6:FuncId:=19
def Awi:Ee:=(sO [gA 2 (.c .Ra),gA 3 cF] (sO [gC 13 23 [],gM 4 13] (.seq (sO [gM 14 0,gN 15 14,gB 16 .gtr 15 (cI 8)] (cR 16 [gA 2 (.c .Ra),gA 3 cF])) (.seq (sO [gM 17 0,gN 18 17,gM 19 (cI 0)] (.block 0 (.loop (kr [1,2,3,5,6,7,8,9,10,11,12,14,15,16] 20 165) (sO [gB 20 .lss 19 18] (.seq (.cond 20 .skip (.exit 0)) (.seq (.block 1 (sO [gM 21 19,gI 22 4 17 19,gU 23 4 22,O1 (.alloc 6 (.one (.i (.agg [(.str []),(.int .i64 0),(.int .i64 0),(.list [])])))),gA 5 21,gS 4 6 23] (.seq (.seq (.Kf [0,1,3,7,15,31,63,127,255,511,255,255,2303,7423,15615,31999,65535,131071,262143,524287,1048575,2097151,4194303,8388607,16777215,33554431,67108863,134217727,268435455,536870911,1073741823,2147483647,1073741823,5368709119,17179869183,34359738367] [gF 24 6 0,gL 25 24,gC 26 45 [nL 25],gT 27 26,gM 28 27,qf 28 (iM 29 5),qf 28 (iB 30 .gtr 29 (cI 0)),qf 28 (iM 31 30),qt 31 (iG 32 6 0 0),qt 31 (iL 33 32),qt 31 (iM 34 0),qt 31 (iM 35 5),qt 31 (iB 36 .sub 35 (cI 1)),qt 31 (iI 37 4 34 36),qt 31 (iG 38 37 0 0),qt 31 (iL 39 38),qt 31 (iB 40 .leq 33 39),qf 28 (iP 41 31 40 cF),gP 42 28 cT 41,gM 43 42,qf 43 (iG 44 6 2 2),qf 43 (iL 45 44),qf 43 (iB 46 .lss 45 (cI 0)),gP 47 43 cT 46,gM 48 47,qf 48 (iG 49 6 1 1),qf 48 (iL 50 49),qf 48 (iB 51 .gtr 50 (cI 1099511627776)),gP 52 48 cT 51,gM 53 52,qf 53 (iG 54 6 2 2),qf 53 (iL 55 54),qf 53 (iG 56 6 1 1),qf 53 (iL 57 56),qf 53 (iB 58 .gtr 55 57),gP 59 53 cT 58]) (cR 59 [gA 2 (.c .Ra),gA 3 cF])) (sO [gF 60 6 1,gL 61 60,gF 62 6 2,gL 63 62,O1 (.build 64 [(.int .i64 0),(.int .i64 0),(.int .i64 0),(.int .i64 0),(.int .i64 0)] [(0,61),(1,63)]),O1 (.Ame 65 64),O1 (.Uy 7 65)] (.seq (.Kf [0,1,3,7,0,16,0,127] [gM 66 4,O1 (.Es 67 66),gF 68 67 0,gL 69 68,gF 70 6 0,gL 71 70,gM 72 7,O1 (.A0f 69 71 72)]) (sO [gF 73 6 3,gL 74 73,gN 75 74,gM 76 (cI 0)] (.block 2 (.loop (kr [1,2,3,5,8,9,10,11,12,14,15,16,20,21,22,23,24,25,26,27,28,29,30,31,32,33,34,35,36,37,38,39,40,41,42,43,44,45,46,47,48,49,50,51,52,53,54,55,56,57,58,59,60,61,62,63,64,65,66,67,68,69,70,71,72,73] 77 108) (sO [gB 77 .lss 76 75] (.seq (.cond 77 .skip (.exit 2)) (.seq (.block 3 (sO [gM 78 76,gI 79 2 74 76,gU 80 2 79,O1 (.alloc 9 (.one (.i (.agg [(.str []),(.list [])])))),gA 8 78,gS 2 9 80] (.seq (.seq (.Kf [0,1,3,7,15,31,63,127,255,511,255,1279,255,4351,15615,31999,64767,131071,262143,524287,1048575,2097151,4194303,8388607,16777215,33554431] [gF 81 9 0,gL 82 81,gC 83 46 [nL 82],gT 84 83,gM 85 84,qf 85 (iM 86 8),qf 85 (iB 87 .gtr 86 (cI 0)),qf 85 (iM 88 87),qt 88 (iG 89 9 0 0),qt 88 (iL 90 89),qt 88 (iG 91 6 3 3),qt 88 (iL 92 91),qt 88 (iM 93 8),qt 88 (iB 94 .sub 93 (cI 1)),qt 88 (iI 95 2 92 94),qt 88 (iG 96 95 0 0),qt 88 (iL 97 96),qt 88 (iB 98 .leq 90 97),qf 85 (iP 99 88 98 cF),gP 100 85 cT 99,gM 101 100,qf 101 (iG 102 9 1 1),qf 101 (iL 103 102),qf 101 (iN 104 103),qf 101 (iB 105 .eql 104 (cI 0)),gP 106 101 cT 105]) (cR 106 [gA 2 (.c .Ra),gA 3 cF])) (sO [O1 (.build 107 [(.int .i64 0),(.int .i64 0),(.str []),(.bool false)] [(3,cT)]),O1 (.alloc 10 (.one (.i (.agg [(.int .i64 0),(.int .i64 0),(.str []),(.bool false)])))),gS 4 10 107] (.seq (sO [gF 108 9 1,gL 109 108,gN 110 109,gM 111 (cI 0)] (.block 4 (.loop (kr [1,2,3,5,8,11,12,14,15,16,20,21,22,23,24,25,26,27,28,29,30,31,32,33,34,35,36,37,38,39,40,41,42,43,44,45,46,47,48,49,50,51,52,53,54,55,56,57,58,59,60,61,62,63,64,65,66,67,68,69,70,71,72,73,77,78,79,80,81,82,83,84,85,86,87,88,89,90,91,92,93,94,95,96,97,98,99,100,101,102,103,104,105,106,107,108] 112 73) (sO [gB 112 .lss 111 110] (.seq (.cond 112 .skip (.exit 4)) (.seq (.block 5 (sO [gM 113 111,gI 114 4 109 111,gU 115 4 114,O1 (.alloc 12 (.one (.i (.agg [(.int .i64 0),(.int .i64 0),(.str []),(.bool false)])))),gA 11 113,gS 4 12 115] (.seq (sO [gU 116 4 12,gU 117 4 10,gM 118 11,gB 119 .eql 118 (cI 0),gU 120 4 6,gC 121 47 [nL 116,nL 117,nL 119,nL 120],gT 122 121] (cR 122 [gA 2 (.c .Ra),gA 3 cF])) (.ops [gU 123 4 12,gS 4 10 123])))) (.ops [gB 124 .add 111 (cI 1),gM 111 124]))))))) (.seq (.Kf [0,1,3,7,0,16,48,127,255,511,1023] [gM 125 7,O1 (.Es 126 125),gF 127 126 4,gL 128 127,gF 129 9 1,gL 130 129,gN 131 130,gB 132 .add 128 131,O1 (.Es 133 125),gF 134 133 4,gS 1 134 132]) (.seq (sO [gF 135 10 3,gL 136 135,gT 137 136] (.cond 137 (sO [gM 138 7,O1 (.Es 139 138),gF 140 139 3,gL 141 140,gB 142 .add 141 (cI 1),O1 (.Es 143 138),gF 144 143 3,gS 1 144 142] (.Kf [0,1,3,7,0,16,48,0,128,384,1008,2047,4095,8191,16383] [gM 145 7,O1 (.Es 146 145),gF 147 146 2,gL 148 147,gF 149 9 0,gL 150 149,O1 (.len 151 true 150),gF 152 10 2,gL 153 152,O1 (.len 154 true 153),gB 155 .add 151 154,gB 156 .add 148 155,O1 (.Es 157 145),gF 158 157 2,gS 1 158 156])) .skip)) (.Kf [0,0,2,6,14,0,32,0,128,480,0,1024,4064,8160,16352,32766,65535,131071,262143] [gM 159 4,gM 160 4,O1 (.Es 161 160),gF 162 161 1,gL 163 162,gF 164 6 0,gL 165 164,gF 166 9 0,gL 167 166,gC 168 48 [nL 165,nL 167],gF 169 9 1,gL 170 169,gC 171 43 [nL 170],O1 (.U7 172 [(.it (.str [])),(.vec 104 4 [])] [(0,168),(1,171)]),O1 (.Aqy 173 116 2 (.agg [(.str []),(.list [])]) 1 [(0,172)]),O1 (.app 174 116 2 40 163 173),O1 (.Es 175 159),gF 176 175 1,gS 1 176 174])))))))) (.ops [gB 177 .add 76 (cI 1),gM 76 177])))))))))))) (.ops [gB 178 .add 19 (cI 1),gM 19 178]))))))) (sO [gM 179 4,O1 (.Es 180 179),gF 181 180 1,gL 182 181,.inl none (some 183) 185 49 [182,(.c (.fn 50))]] (sO [O1 (.Uy 184 4),O1 (.Uy 2 184),gA 3 cT] .ret))))))
theorem Auf:OFD 19 185 Awi [.t 2,.t 3]:=oFD Tryz.func19 rfl Tryz.ntmps19
abbrev Ye:FuncId:=4
def Xx:Ee:=(sO [gA 4 cF] (.seq (sO [gC 14 16 [],gT 15 14] (cR 15 [gA 4 cF])) (sO [gA 5 (cI 0)] (.seq (sO [gM 16 0,gN 17 16,gM 18 (cI 0)] (.block 0 (.loop [4,6,7,16,19,20,21,22,23,24,25,26,27,28,29,30,31,32,33,34,35,36,37,38,39,40,41,42,43,44,45,46,47,48,49,50,51,52,53,54,55,56,57,58,59,60,61,63,66,70,71,74,92,96,99] (sO [gB 19 .lss 18 17] (.seq (.cond 19 .skip (.exit 0)) (.seq (.block 1 (sO [gM 20 18,gA 6 20] (.seq (sO [gM 21 5,gM 22 0,gM 23 6,gI 24 4 22 23,gF 25 24 3,gL 26 25,gN 27 26,gB 28 .add 21 27,gA 5 28] (sO [gM 29 5,gB 30 .gtr 29 (cI 200),gM 31 30,qf 31 (iM 32 0),qf 31 (iN 33 32),qf 31 (iB 34 .gtr 33 (cI 20)),gP 35 31 cT 34] (cR 35 [gA 4 cT]))) (sO [gM 36 0,gM 37 6,gI 38 4 36 37,gF 39 38 3,gL 40 39,gN 41 40,gM 42 (cI 0)] (.block 2 (.loop [4,7,16,22,32,36,43,44,45,46,47,48,49,50,51,52,53,54,55,56,57,58,59,61,63,66,70,71,74,92,96,99] (sO [gB 43 .lss 42 41] (.seq (.cond 43 .skip (.exit 2)) (.seq (.block 3 (sO [gM 44 42,gA 7 44] (sO [gM 45 5,gM 46 0,gM 47 6,gI 48 4 46 47,gF 49 48 3,gL 50 49,gM 51 7,gI 52 2 50 51,gF 53 52 1,gL 54 53,gN 55 54,gB 56 .add 45 55,gA 5 56] (sO [gM 57 5,gB 58 .gtr 57 (cI 200)] (cR 58 [gA 4 cT]))))) (.ops [gB 59 .add 42 (cI 1),gM 42 59])))))))))) (.ops [gB 60 .add 18 (cI 1),gM 18 60]))))))) (.seq (sO [gM 61 1,gC 62 17 [nL 61]] (cR 62 [gA 4 cT])) (sO [gM 63 0,gC 64 18 [nL 63],gA 8 64] (sO [gM 66 0,gC 67 19 [nL 66],gA 65 67,gE 68 65 0,gE 69 65 1,gA 9 68,gA 10 69] (.seq (sO [gM 70 0,gM 71 8,.Ac1 none (some 72) 14 [nL 70,nL 71],gT 73 72] (cR 73 [gA 4 cF])) (.seq (sO [gM 74 0,gC 75 20 [nL 74],gT 76 75] (cR 76 [gM 77 9,O1 (.Ac2 78 false 77),gM 79 78,qt 79 (iM 80 10),qt 79 (iT 81 80),gP 82 79 81 cF,gA 4 82])) (.seq (sO [gM 83 10,gT 84 83,gM 85 84,qf 85 (iM 86 9),qf 85 (.Ac2 87 false 86),gP 88 85 cT 87,gM 89 88,qf 89 (iM 90 9),.call (some (89,false)) (some 91) 15 [(true,90)],qf 89 (iM 92 0),.call (some (89,false)) (some 93) 14 [nL 91,nL 92],qf 89 (iT 94 93),gP 95 89 cT 94] (cR 95 [gA 4 cF])) (sO [gM 96 8,O1 (.build 97 [(.list [])] [(0,96)]),O1 (.box 98 97),gA 11 98] (.seq (sO [gM 99 1,gN 100 99,gM 101 (cI 0)] (.block 4 (.loop (kr [4,13,16,22,32,36,46,61,63,66,70,71,74,92,96] 102 17) (sO [gB 102 .lss 101 100] (.seq (.cond 102 .skip (.exit 4)) (.seq (.block 5 (sO [gI 103 7 99 101,gU 104 7 103,O1 (.alloc 13 (.one (.i (.agg [(.int .i64 0),(.str []),(.list []),(.agg [(.str []),(.str [])]),(.int .i64 0),(.int .i64 0)])))),gS 7 13 104] (sO [gM 105 9,gM 106 11,gU 107 7 13,gC 108 21 [(true,105),(true,106),nL 107],gT 109 108,gM 110 109,qf 110 (iM 111 9),qf 110 (iM 112 11),qf 110 (iG 113 13 1 1),qf 110 (iL 114 113),.call (some (110,false)) (some 115) 22 [(true,111),(true,112),nL 114],qf 110 (iT 116 115),gP 117 110 cT 116] (cR 117 [gA 4 cF])))) (.ops [gB 118 .add 101 (cI 1),gM 101 118]))))))) (sO [gA 4 cT] .ret)))))))))))))
theorem X2:OF 4 119 Xx [.t 4]:=oF Tryz.func4 rfl Tryz.ntmps4
abbrev Yf:FuncId:=4
def Xy:Ee:=(sO [gA 4 cF] (.seq (sO [gC 14 16 [],gT 15 14] (cR 15 [gA 4 cF])) (sO [gA 5 (cI 0)] (.seq (sO [gM 16 0,gN 17 16,gM 18 (cI 0)] (.block 0 (.loop [4,6,7,16,19,20,21,22,23,24,25,26,27,28,29,30,31,32,33,34,35,36,37,38,39,40,41,42,43,44,45,46,47,48,49,50,51,52,53,54,55,56,57,58,59,60,61,63,66,70,71,74,92,96,99] (sO [gB 19 .lss 18 17] (.seq (.cond 19 .skip (.exit 0)) (.seq (.block 1 (sO [gM 20 18,gA 6 20] (.seq (sO [gM 21 5,gM 22 0,gM 23 6,gI 24 4 22 23,gF 25 24 3,gL 26 25,gN 27 26,gB 28 .add 21 27,gA 5 28] (sO [gM 29 5,gB 30 .gtr 29 (cI 200),gM 31 30,qf 31 (iM 32 0),qf 31 (iN 33 32),qf 31 (iB 34 .gtr 33 (cI 20)),gP 35 31 cT 34] (cR 35 [gA 4 cT]))) (sO [gM 36 0,gM 37 6,gI 38 4 36 37,gF 39 38 3,gL 40 39,gN 41 40,gM 42 (cI 0)] (.block 2 (.loop [4,7,16,22,32,36,43,44,45,46,47,48,49,50,51,52,53,54,55,56,57,58,59,61,63,66,70,71,74,92,96,99] (sO [gB 43 .lss 42 41] (.seq (.cond 43 .skip (.exit 2)) (.seq (.block 3 (sO [gM 44 42,gA 7 44] (sO [gM 45 5,gM 46 0,gM 47 6,gI 48 4 46 47,gF 49 48 3,gL 50 49,gM 51 7,gI 52 2 50 51,gF 53 52 1,gL 54 53,gN 55 54,gB 56 .add 45 55,gA 5 56] (sO [gM 57 5,gB 58 .gtr 57 (cI 200)] (cR 58 [gA 4 cT]))))) (.ops [gB 59 .add 42 (cI 1),gM 42 59])))))))))) (.ops [gB 60 .add 18 (cI 1),gM 18 60]))))))) (.seq (sO [gM 61 1,gC 62 17 [nL 61]] (cR 62 [gA 4 cT])) (sO [gM 63 0,gC 64 18 [nL 63],gA 8 64] (sO [gM 66 0,gC 67 19 [nL 66],gA 65 67,gE 68 65 0,gE 69 65 1,O1 (.Uy 9 68),gA 10 69] (.seq (sO [gM 70 0,gM 71 8,.Ac1 none (some 72) 14 [nL 70,nL 71],gT 73 72] (cR 73 [gA 4 cF])) (.seq (sO [gM 74 0,gC 75 20 [nL 74],gT 76 75] (cR 76 [gM 77 9,O1 (.Ac2 78 false 77),gM 79 78,qt 79 (iM 80 10),qt 79 (iT 81 80),gP 82 79 81 cF,gA 4 82])) (.seq (sO [gM 83 10,gT 84 83,gM 85 84,qf 85 (iM 86 9),qf 85 (.Ac2 87 false 86),gP 88 85 cT 87,gM 89 88,qf 89 (iM 90 9),.call (some (89,false)) (some 91) 15 [(true,90)],qf 89 (iM 92 0),.call (some (89,false)) (some 93) 14 [nL 91,nL 92],qf 89 (iT 94 93),gP 95 89 cT 94] (cR 95 [gA 4 cF])) (sO [O1 (.Uy 96 8),O1 (.U7 97 [(.vec 52 4 [])] [(0,96)]),O1 (.Ame 98 97),O1 (.Uy 11 98)] (.seq (sO [gM 99 1,gN 100 99,gM 101 (cI 0)] (.block 4 (.loop (kr [4,13,16,22,32,36,46,61,63,66,70,71,74,92,96] 102 17) (sO [gB 102 .lss 101 100] (.seq (.cond 102 .skip (.exit 4)) (.seq (.block 5 (sO [gI 103 7 99 101,gU 104 7 103,O1 (.alloc 13 (.one (.i (.agg [(.int .i64 0),(.str []),(.list []),(.agg [(.str []),(.str [])]),(.int .i64 0),(.int .i64 0)])))),gS 7 13 104] (sO [gM 105 9,gM 106 11,gU 107 7 13,gC 108 21 [(true,105),(true,106),nL 107],gT 109 108,gM 110 109,qf 110 (iM 111 9),qf 110 (iM 112 11),qf 110 (iG 113 13 1 1),qf 110 (iL 114 113),.call (some (110,false)) (some 115) 22 [(true,111),(true,112),nL 114],qf 110 (iT 116 115),gP 117 110 cT 116] (cR 117 [gA 4 cF])))) (.ops [gB 118 .add 101 (cI 1),gM 101 118]))))))) (sO [gA 4 cT] .ret)))))))))))))
theorem X3:OF 4 119 Xy [.t 4]:=oF Tryz.func4 rfl Tryz.ntmps4
end Go.Ab
