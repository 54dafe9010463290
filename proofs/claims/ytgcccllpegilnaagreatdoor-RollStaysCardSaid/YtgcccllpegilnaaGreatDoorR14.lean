/- Lemmas -/
import Derived.Test.YtgcccllpegilnaaGreatDoorN4
set_option linter.unusedVariables false
set_option linter.unusedSimpArgs false
set_option maxRecDepth 100000
set_option maxHeartbeats 40000000
namespace Go.Ab
open Go.Proofs
theorem A80 (r:Roll) (hs:r.Small) (c:Cmd) (hc:c.salt.length≤100000∧c.word.length≤100000):Fn Tryz.prog Vj [.own [] (.ptr r.toD),.v c.toI] (Is (.v (.int .i64 (Fz r c).2)) [.own [] (.ptr (Q4 r c)),.no]):=by
 by_cases h6:c.kind=6
 ·exact A39 r hs c hc h6
 by_cases h7:c.kind=7
 ·exact A4a r hs c hc h7
 exact A4b r hs c ⟨h6,h7⟩
theorem A34 (k:Ai):Fn Tryz.prog Aef [.v (.str k)] (Is (.v (.bool false)) [.no]):=by
 refine Adr ?_ (by simp)
 (conv=>whnf)
 all_goals(try(conv=>whnf))
 refine Done.mk ⟨SV.bool_congr ?_,by kernel_rfl⟩ (by kernel_rfl)
 simp
theorem Bch (a b:Ai):Fn Tryz.prog Amj [.v (.str a),.v (.str b)] (Is (.v (.bool (decide (a<b)))) [.no,.no]):=by
 refine Aj3 ?_ (by simp)
 repeat'((conv=>whnf);first|(apply aI<;>intro hb<;>first|exact absurd hb (by decide)|((try rw[hb]);(try simp only[Ad]at hb)))|(refine eI ?_ ?_;focus (and_intros<;>first|(intro _ hh;cases hh;done)|(simp;done)|decide))|(refine CallWp.mk ⟨_,Aq8 _,?_⟩;rintro _ _ ⟨rfl,rfl⟩))
 all_goals(try(conv=>whnf))
 exact Done.mk ⟨SV.bool_congr (by rw[G5]),by kernel_rfl⟩ (by kernel_rfl)
theorem A6d {α β γ:Type} (g:β→γ) (f:α→β) (i:Nat) (l:List α):((l.map f).map g).take i++((l.map f).map g).drop (i+1)=((H6 i l).map f).map g:=by simp[H6,List.map_take,List.map_drop]
abbrev Gi (s:Ai):Ai:=s
theorem A8n (l:List Ai) (n:Ai) (hl:l.length≤100000):Fn Tryz.prog N0 [.v (.list (strs l)),.v (.str n)] (Is (.tup [.i (.int .i64 (Ch Gi l n)),.i (.bool (Et Gi l n))]) [.no,.no]):=by
 refine Nc ?_ (by simp)
 repeat'((conv=>whnf);first|(refine eI ?_ ?_;focus (and_intros<;>exact rfl))|(intro hfact))
 all_goals(try(conv=>whnf))
 obtain⟨A,hA⟩:∃A,A=Ch Gi l n:=⟨_,rfl⟩
 have hAF:Et Gi l n=(l[A]?).any (fun x=>decide (x=n)):=by rw[hA];rfl
 have hAle:A≤l.length:=by rw[hA];exact S9 _ _ _
 rw[hAF, ←hA]
 unfold Ch at hA
 refine LoopWq.by (X:=Nat × Nat × Nat) (fun x=>[(7,.v (.int .i64 x.2.1)),(8,.v (.int .i64 x.2.2))]) (fun x=>x.2.1≤x.2.2∧x.2.2≤l.length∧x.2.2 - x.2.1≤x.1∧bsGo (ltAt Gi l n) x.1 x.2.1 x.2.2=A) (fun x=>x.2.2 - x.2.1)
  (l.length,0,l.length) (by rw[List.length_map];kernel_rfl) ⟨Nat.zero_le _,Nat.le_refl _,Nat.sub_le _ _,hA.symm⟩ ?_
 rintro⟨f,i,j⟩ ⟨h1,h2,h3,h4⟩
 dsimp only at h1 h2 h3 h4 ⊢
 by_cases hij:i<j
 case neg=>
  have hlt:¬decide ((i:Int)<(j:Int))=true:=by simp;omega
  obtain rfl:i=A:=by
   rw[←h4]
   cases f with
   |zero=>rfl
   |succ f=>rw[bsGo,if_neg hij]
  by_cases hil:i<l.length
  ·obtain⟨e,he⟩:∃e,l[i]?=some e:=⟨_,List.getElem?_eq_getElem hil⟩
   have hl2:¬decide ((i:Int)<((strs l).length:Int))=false:=by simp[hil]
   have hl3:¬decide ((i:Int)<(l.length:Int))=false:=by simp[hil]
   rw[he]
   simp only[Option.any_some]
   repeat'((conv=>whnf);first|(apply aI<;>intro hb<;>first|exact absurd hb (by first|assumption|decide)|((try rw[hb]);(try simp only[Ad]at hb);(try subst hb)))|(refine eI ?_ ?_;focus (and_intros<;>first|omega|exact rfl|(intro _ hh;cases hh;done)|(simp;done)|decide))|((try dsimp only);first|rw[Av he]|rw[An he]|rw[Ap he])|(refine CallWp.mk ⟨_,A34 _,?_⟩;rintro _ _ ⟨rfl,rfl⟩))
   all_goals(try(conv=>whnf))
   all_goals exact Done.mk ⟨rfl,by kernel_rfl⟩ (by kernel_rfl)
  ·have hl2:¬decide ((i:Int)<((strs l).length:Int))=true:=by simp;omega
   have hl3:¬decide ((i:Int)<(l.length:Int))=true:=by simp;omega
   rw[List.getElem?_eq_none (by omega)]
   simp only[Option.any_none]
   repeat'((conv=>whnf);(apply aI<;>intro hb<;>first|exact absurd hb (by first|assumption|decide)|((try rw[hb]);(try simp only[Ad]at hb))))
   all_goals(try(conv=>whnf))
   (apply dK<;>kernel_rfl)
 have hlt:¬decide ((i:Int)<(j:Int))=false:=by simp[hij]
 obtain⟨g,rfl⟩:∃g,f=g+1:=⟨f - 1,by omega⟩
 rw[bsGo,if_pos hij]at h4
 have hmid:=Aqk (i:=i) (j:=j) (by omega)
 obtain⟨h,hh⟩:∃h,h=(i+j) / 2:=⟨_,rfl⟩
 rw[←hh]at hmid h4
 have hhj:h<j:=by omega
 obtain⟨e,he⟩:∃e,l[h]?=some e:=⟨_,List.getElem?_eq_getElem (by omega)⟩
 have hle:ltAt Gi l n h=decide (e<n):=by unfold ltAt;rw[he];rfl
 have hw:IntKind.i64.wrap ((h:Int)+1)=((h+1:Nat):Int):=Ak (n:=1000000) (by omega) (by simp only[maxLen];omega)
 rw[hle]at h4
 have hsl:=Bch e n
 by_cases hc:e<n
 ·rw[if_pos (by simpa using hc)]at h4
  rw[show decide (e<n)=true by simp[hc]]at hsl
  repeat'((conv=>whnf);first|(apply aI<;>intro hb<;>first|exact absurd hb (by first|assumption|decide)|((try rw[hb]);(try simp only[Ad]at hb)))|(refine eI ?_ ?_;focus (and_intros<;>first|omega|exact rfl|(intro _ hh;cases hh;done)|(simp;done)|decide))|((try dsimp only);rw[hmid])|((try dsimp only);first|rw[Av he]|rw[An he]|rw[Ap he])|(refine CallWp.mk ⟨_,hsl,?_⟩;rintro _ _ ⟨rfl,rfl⟩)|((try dsimp only);rw[hw]))
  all_goals(try(conv=>whnf))
  refine Round.by (g,h+1,j) ?_ ⟨by dsimp only;omega,h2,by dsimp only;omega,h4⟩ (by dsimp only;omega)
  dsimp only
  show norm _ _=upd _ _
  kernel_rfl
 ·rw[if_neg (by simpa using hc)]at h4
  rw[show decide (e<n)=false by simp[hc]]at hsl
  repeat'((conv=>whnf);first|(apply aI<;>intro hb<;>first|exact absurd hb (by first|assumption|decide)|((try rw[hb]);(try simp only[Ad]at hb)))|(refine eI ?_ ?_;focus (and_intros<;>first|omega|exact rfl|(intro _ hh;cases hh;done)|(simp;done)|decide))|((try dsimp only);rw[hmid])|((try dsimp only);first|rw[Av he]|rw[An he]|rw[Ap he])|(refine CallWp.mk ⟨_,hsl,?_⟩;rintro _ _ ⟨rfl,rfl⟩))
  all_goals(try(conv=>whnf))
  refine Round.by (g,i,h) ?_ ⟨by dsimp only;omega,by dsimp only;omega,by dsimp only;omega,h4⟩ (by dsimp only;omega)
  dsimp only
  show norm _ _=upd _ _
  kernel_rfl
def J7 (r:Roll) (c:Cmd):Roll × Int:=
 if Et Usr.name r.usrs c.name=false then(r,16)
 else match r.usrs[Ch Usr.name r.usrs c.name]? with
 |none=>(r,16)
 |some u=>
  if c.kind=14 then
   if Et Gi u.roles c.other=false then(r,16)
   else({r with usrs:=r.usrs.set (Ch Usr.name r.usrs c.name) {u with roles:=H6 (Ch Gi u.roles c.other) u.roles}},0)
  else if(getR r.rols c.other).2=false then(r,16)
  else if(getR r.rols c.other).1.ten≠u.ten then(r,18)
  else if Et Gi u.roles c.other=true then(r,15)
  else if 4≤(u.roles.length:Int)then(r,17)
  else({r with usrs:=r.usrs.set (Ch Usr.name r.usrs c.name) {u with roles:=Hk (Ch Gi u.roles c.other) c.other u.roles}},0)
theorem A8r (r:Roll) (hs:r.Small) (c:Cmd):Fn Tryz.prog A2x [.own [] (.ptr r.toD),.v c.toI] (Is (.v (.int .i64 (J7 r c).2)) [.own [] (.ptr (J7 r c).1.toD),.no]):=by
 refine Az9 ?_ (by simp)
 have hs':=hs
 obtain⟨b1,b2,b3,b4,b5⟩:=hs
 have hf:=T4 r.usrs c.name (by omega)
 have ht:=Aig r hs' c.other
 cases hb:Et Usr.name r.usrs c.name with
 |false=>
  rw[hb]at hf
  rw[show J7 r c=(r,16)by simp only[J7,hb,if_true]]
  repeat'((conv=>whnf);first|(apply aI<;>intro hb<;>first|exact absurd hb (by decide)|((try rw[hb]);(try simp only[Ad]at hb)))|(refine eI ?_ ?_;focus (and_intros<;>first|omega|exact rfl|(simp;done)))|((with_reducible apply Drawn.by0);(focus kernel_rfl);intro hfact;(try simp only[dRS]at hfact))|((simp only[show D.at (0::[].append [2]) (D.ptr r.toD)=some (D.vec B3 5 (r.usrs.map Usr.toD))from rfl,Jb,show D.at [0] (D.ptr r.toD)=some r.toD from rfl,Dr]))|(refine CallIs.mk ⟨_,_,hf,?_⟩)|(refine CallIs.mk ⟨_,_,ht,?_⟩))
  all_goals(try(conv=>whnf))
  all_goals(apply dK<;>kernel_rfl)
 |true=>
  rw[hb]at hf
  obtain⟨u,hu, -⟩:=Lv hb
  have hul:=b4 u (List.mem_of_getElem? hu)
  have hbs:=A8n u.roles c.other (by omega)
  have hlt:Ch Usr.name r.usrs c.name<r.usrs.length:=(List.getElem?_eq_some_iff.1 hu).1
  obtain⟨i,hi⟩:∃i,i=Ch Usr.name r.usrs c.name:=⟨_,rfl⟩
  have hP:J7 r c=(if c.kind=14 then
   if Et Gi u.roles c.other=false then(r,16)
   else({r with usrs:=r.usrs.set i {u with roles:=H6 (Ch Gi u.roles c.other) u.roles}},0)
   else if(getR r.rols c.other).2=false then(r,16)
   else if(getR r.rols c.other).1.ten≠u.ten then(r,18)
   else if Et Gi u.roles c.other=true then(r,15)
   else if 4≤(u.roles.length:Int)then(r,17)
   else({r with usrs:=r.usrs.set i {u with roles:=Hk (Ch Gi u.roles c.other) c.other u.roles}},0)):=by
   unfold J7
   rw[hb,hu, ←hi]
   rfl
  rw[←hi]at hf hlt hu
  clear hi
  have hxd:(r.usrs.map Usr.toD)[i]?=some u.toD:=by simp[hu]
  repeat'((conv=>whnf);first|(apply aI<;>intro hb<;>first|exact absurd hb (by decide)|((try rw[hb]);(try simp only[Ad]at hb)))|(refine eI ?_ ?_;focus (and_intros<;>first|omega|exact rfl|exact F5 rfl|(simp only[Az];omega)|(simp;done)|decide))|(intro hfact)|((with_reducible apply Drawn.by0);(focus kernel_rfl);intro hfact;(try simp only[dRS]at hfact))|((simp only[show D.at (0::[].append [2]) (D.ptr r.toD)=some (D.vec B3 5 (r.usrs.map Usr.toD))from rfl,Jb,show D.at [0] (D.ptr r.toD)=some r.toD from rfl,Dr]))|(refine CallIs.mk ⟨_,_,hf,?_⟩)|(refine CallIs.mk ⟨_,_,ht,?_⟩)|(refine CallIs.mk ⟨_,_,hbs,?_⟩)|((first|with_reducible apply Ahs|with_reducible apply Lr|((first|with_reducible apply D9|with_reducible apply X8);(focus rfl)));(focus (simp only[D.at,D.put,D.kid,D.setKid,List.cons_append,List.nil_append,List.append,List.getElem?_cons_zero,List.getElem?_cons_succ,Int.toNat_natCast,List.getElem?_set_self',Option.map_eq_map,Option.map_some,List.set_cons_zero,List.set_cons_succ,List.set_set,Function.const_apply,List.map_cons,List.map_nil,mkSt,Cn,D.toI,toIs,Bn,List.getElem?_map,List.length_map,List.length_set,hxd]<;>exact rfl));(try(focus exact rfl))))
  all_goals(try(conv=>whnf))
  ·rw[show J7 r c=(r,16)by rw[hP];simp[*]]
   (apply dK<;>kernel_rfl)
  ·have hh:Et Gi u.roles c.other=true:=by assumption
   obtain⟨x,hx, -⟩:=Lv hh
   have hkl:Ch Gi u.roles c.other<u.roles.length:=(List.getElem?_eq_some_iff.1 hx).1
   have e:J7 r c=({r with usrs:=r.usrs.set i {u with roles:=H6 (Ch Gi u.roles c.other) u.roles}},0):=by rw[hP];simp[*, -hu, -hxd, -hx]
   have hset:(r.usrs.set i {u with roles:=H6 (Ch Gi u.roles c.other) u.roles}).map Usr.toD=(r.usrs.map Usr.toD).set i (Usr.toD {u with roles:=H6 (Ch Gi u.roles c.other) u.roles}):=by simp[List.map_set]
   have hD:Roll.toD {r with usrs:=r.usrs.set i {u with roles:=H6 (Ch Gi u.roles c.other) u.roles}}= .st [.it (.int .i64 r.rev),.vec Cc 3 ((r.tens.map Ten.toI).map D.it),.vec B3 5 ((r.usrs.map Usr.toD).set i (Usr.toD {u with roles:=H6 (Ch Gi u.roles c.other) u.roles})),.vec B2 3 (r.rols.map Rol.toD)]:=by rw[←hset]
   rw[e]
   dsimp only
   rw[hD]
   have hdel:=A3v ((u.roles.map I.str).map D.it) (Ch Gi u.roles c.other) (by simpa using hkl) (by simp;omega)
   rw[A6d D.it I.str]at hdel
   have hw:IntKind.i64.wrap ((Ch Gi u.roles c.other:Int)+1)=((Ch Gi u.roles c.other+1:Nat):Int):=Ak hkl (by simp only[maxLen];omega)
   repeat'((conv=>whnf);first|(refine eI ?_ ?_;focus (and_intros<;>first|exact rfl|(intro _ hh;cases hh;done)|(simp;done)))|((simp only[List.tail,List.headD,hw]))|(refine CallWp.mk ⟨_,hdel,?_⟩;rintro _ _ ⟨rfl,rfl⟩)|((first|with_reducible apply Ahs|((with_reducible apply D9);(focus rfl)));(focus (simp only[D.at,D.put,D.kid,D.setKid,List.cons_append,List.nil_append,List.append,List.getElem?_cons_zero,List.getElem?_cons_succ,Int.toNat_natCast,List.getElem?_set_self',Option.map_eq_map,Option.map_some,List.set_cons_zero,List.set_cons_succ,List.set_set,Function.const_apply,List.map_cons,List.map_nil,mkSt,Cn,D.toI,toIs,Bn,List.getElem?_map,List.length_map,List.length_set,hxd]<;>exact rfl));(try(focus exact rfl))))
   all_goals(try(conv=>whnf))
   (apply dK<;>kernel_rfl)
  ·rw[show J7 r c=(r,16)by rw[hP];simp[*]]
   (apply dK<;>kernel_rfl)
  ·rw[show J7 r c=(r,18)by rw[hP];simp[*]]
   (apply dK<;>kernel_rfl)
  ·rw[show J7 r c=(r,15)by rw[hP];simp[*]]
   (apply dK<;>kernel_rfl)
  ·rw[show J7 r c=(r,17)by rw[hP];simp[*]]
   (apply dK<;>kernel_rfl)
  ·have hkl:Ch Gi u.roles c.other≤u.roles.length:=S9 _ _ _
   have e:J7 r c=({r with usrs:=r.usrs.set i {u with roles:=Hk (Ch Gi u.roles c.other) c.other u.roles}},0):=by rw[hP];simp[*, -hu, -hxd]
   have hset:(r.usrs.set i {u with roles:=Hk (Ch Gi u.roles c.other) c.other u.roles}).map Usr.toD=(r.usrs.map Usr.toD).set i (Usr.toD {u with roles:=Hk (Ch Gi u.roles c.other) c.other u.roles}):=by simp[List.map_set]
   have hD:Roll.toD {r with usrs:=r.usrs.set i {u with roles:=Hk (Ch Gi u.roles c.other) c.other u.roles}}= .st [.it (.int .i64 r.rev),.vec Cc 3 ((r.tens.map Ten.toI).map D.it),.vec B3 5 ((r.usrs.map Usr.toD).set i (Usr.toD {u with roles:=Hk (Ch Gi u.roles c.other) c.other u.roles})),.vec B2 3 (r.rols.map Rol.toD)]:=by rw[←hset]
   rw[e]
   dsimp only
   rw[hD]
   have hins:=A33 ((u.roles.map I.str).map D.it) (.it (.str c.other)) (Ch Gi u.roles c.other) (by simpa using hkl) (by simp;omega)
   rw[Aqc D.it I.str]at hins
   repeat'((conv=>whnf);first|(refine eI ?_ ?_;focus (and_intros<;>first|exact rfl|(intro _ hh;cases hh;done)|(simp;done)))|((with_reducible apply Drawn.by0);(focus kernel_rfl);intro hfact;(try simp only[dRS]at hfact))|(refine CallIs.mk ⟨_,_,hins,?_⟩)|((first|with_reducible apply Lr|((with_reducible apply D9);(focus rfl)));(focus (simp only[D.at,D.put,D.kid,D.setKid,List.cons_append,List.nil_append,List.append,List.getElem?_cons_zero,List.getElem?_cons_succ,Int.toNat_natCast,List.getElem?_set_self',Option.map_eq_map,Option.map_some,List.set_cons_zero,List.set_cons_succ,List.set_set,Function.const_apply,List.map_cons,List.map_nil,mkSt,Cn,D.toI,toIs,Bn,List.getElem?_map,List.length_map,List.length_set,hxd]<;>exact rfl));(try(focus exact rfl))))
   all_goals(try(conv=>whnf))
   (apply dK<;>kernel_rfl)

open Go.Proofs
theorem Fn.ofVec0 {P:Program} {f:FuncId} {e:TypeId} {sz:Nat} {l:List I} {rest:List SV} {Post:SV→List SV→Prop} (he:e<1000000) (h:Fn P f (.vec e sz l::rest) Post):Fn P f (.own [] (.vec e sz (l.map D.it))::rest) Post:=by
 intro G σ Fr w cargs hok hsz hargs
 obtain⟨_,h0⟩:=hargs 0 _ rfl
 obtain⟨bs,r1,r2,r3,r4⟩:=h0
 have hv:∃σ',WOk G σ' Fr ⟨w,0, #[]⟩ w∧VecAt G σ' w (0,0) e sz l (cargs.getD 0 undef)∧∀b i k,i≠0→σ b=some (i,k)→σ' b=some (i,k):=by
  have hc:(cargs.getD 0 undef).cells.toList=[cargs.getD 0 undef]:=by
   generalize cargs.getD 0 undef=c at*
   cases c<;>first|rfl|(simp[valOf,D.isAgg]at r2)
  rw[hc]at r1
  obtain⟨xs,q1,q2,q3,q4⟩:=RepD.ownsO r1
  have hor:OwnsR w e sz (cargs.getD 0 undef) l.length xs:=by
   refine⟨q1.1,?_⟩
   rcases q1.2 with⟨q,q'⟩|⟨g,off,cap,cur,a1,a2,a3,a4,a5,a6,a7⟩
   ·exact .inl ⟨q,q'⟩
   ·obtain⟨rfl,a8⟩:=a3 he
    exact .inr ⟨g,cap,cur,a1,Nat.zero_le _,a2,a4,a5,a8,by simpa using a7⟩
  rcases q4 with⟨rfl,hb⟩|⟨g,rfl,hb⟩
  ·exact⟨σ,hok,⟨xs,hor,q2,q3,fun b hb'=>by rw[hb]at hb';cases hb'⟩,fun _ _ _ _ h=>h⟩
  ·obtain⟨k,hk⟩:=r4 g (by simp)
   refine⟨fun b=>if b=g then some (0,0)else if σ b=some (0,0)then none else σ b,?_,⟨xs,hor,q2,q3,fun b hb'=>?_⟩,fun b i k' hi hb'=>?_⟩
   ·refine⟨hok.fixed,?_,?_,hok.frame,hok.os,hok.tape,hok.output,hok.size,hok.apart,hok.amb⟩
    ·intro b lab hb'
     split at hb'
     ·rename_i e;subst e;exact hok.own _ _ hk
     ·split at hb'
      ·cases hb'
      ·exact hok.own _ _ hb'
    ·intro b b' lab h1 h2
     split at h1<;>split at h2
     ·rename_i e1 e2;rw[e1,e2]
     ·split at h2
      ·cases h2
      ·rename_i n;rw[←h1]at h2;exact absurd h2 n
     ·split at h1
      ·cases h1
      ·rename_i n;rw[←h2]at h1;exact absurd h1 n
     ·split at h1
      ·cases h1
      ·split at h2
       ·cases h2
       ·exact hok.inj _ _ _ h1 h2
   ·rw[hb]at hb'
    cases hb'
    simp
   ·dsimp only
    rw[if_neg (by rintro rfl;rw[hk]at hb';cases hb';exact hi rfl),if_neg (by intro q;rw[hb']at q;cases q;exact hi rfl)]
    exact hb'
 obtain⟨σ',g1,g2,g3⟩:=hv
 have:=h G σ' Fr w cargs g1 (by simpa using hsz) (fun i sv hi=>by
  cases i with
  |zero=>cases hi;exact⟨rfl,g2⟩
  |succ i=>
   obtain⟨k1,k2⟩:=hargs (i+1) sv hi
   exact⟨k1,k2.tr (Mem.le.refl G) fun b k hb=>⟨g3 b _ k (by omega) hb,rfl⟩⟩)
 simpa using this
theorem Ab5 (g:Gra):Fn Tryz.prog Amk [.v g.toI] (Is (.v (.bool (decide (Dk g.sp)&&(g.r||g.w)))) [.no]):=by
 refine Aj5 ?_ (by simp)
 have s1:=Rz g.sp
 repeat'((conv=>whnf);first|(apply aI<;>intro hb<;>first|exact absurd hb (by decide)|((try rw[hb]);(try simp only[Ad]at hb)))|(refine eI ?_ ?_;focus (and_intros<;>first|omega|exact rfl|(intro _ hh;cases hh;done)|(simp;done)|decide))|(refine CallWp.mk ⟨_,s1,?_⟩;rintro _ _ ⟨rfl,rfl⟩))
 all_goals(try(conv=>whnf))
 all_goals refine Done.mk ⟨SV.bool_congr ?_,by kernel_rfl⟩ (by kernel_rfl)
 all_goals simp[*]
def idxP {α:Type} (p:α→Bool):Nat→List α→Int
 |_,[]=> -1
 |k,s::r=>if p s=true then k else idxP p (k+1) r
theorem Azi {α:Type} (p:α→Bool):∀(l:List α) (k:Nat),decide (0≤idxP p k l)=l.any p
 | [],_=>rfl
 |s::r,k=>by
  unfold idxP
  by_cases h:p s=true
  ·simp[h]
  ·rw[if_neg h,Azi p r (k+1)]
   simp[h]
theorem A31 (l:List Gra) (g:Gra) (hl:l.length≤1000000):Fn Tryz.prog N8 [.v (.list (l.map Gra.toI)),.v g.toI] (Is (.v (.int .i64 (idxP (fun e=>decide (e=g)) 0 l))) [.no,.no]):=by
 refine N3 ?_ (by simp)
 have hmax:l.length≤maxLen:=by simp only[maxLen];omega
 repeat'((conv=>whnf);first|(refine eI ?_ ?_;focus (and_intros<;>exact rfl))|(intro hfact))
 all_goals(try(conv=>whnf))
 refine LoopWq.by (X:=Nat) (fun x=>[(8,.v (.int .i64 x))]) (fun x=>x≤l.length∧idxP (fun e=>decide (e=g)) x (l.drop x)=idxP (fun e=>decide (e=g)) 0 l) (fun x=>l.length - x)
  0 (by kernel_rfl) ⟨Nat.zero_le _,rfl⟩ ?_
 rintro k ⟨h1,h2⟩
 by_cases hk:k<l.length
 ·obtain⟨e,he⟩:∃e,l[k]?=some e:=⟨_,List.getElem?_eq_getElem hk⟩
  have hlt:¬decide ((k:Int)<((l.map Gra.toI).length:Int))=false:=by simp[hk]
  have hke:l[k]=e:=by rw[List.getElem?_eq_getElem hk]at he;simpa using he
  rw[List.drop_eq_getElem_cons hk,hke]at h2
  repeat'((conv=>whnf);first|(apply aI<;>intro hb<;>first|exact absurd hb (by assumption)|((try rw[hb]);(try simp only[Ad]at hb)))|(refine eI ?_ ?_;focus (and_intros<;>first|omega|exact rfl))|((with_reducible apply Drawn.by0);(focus kernel_rfl);intro hfact;(try simp only[dRS]at hfact))|((try dsimp only);first|rw[Av he]|rw[An he]|rw[Ap he]))
  all_goals(try(conv=>whnf))
  ·rw[Api]at hb
   refine Done.mk ⟨congrArg (fun n=>SV.v (.int .i64 n)) ?_,by kernel_rfl⟩ (by kernel_rfl)
   rw[←h2,idxP,if_pos (by simpa[eq_comm]using hb)]
  ·rw[Api]at hb
   refine Round.by (k+1) ?_ ⟨hk,?_⟩ (by omega)
   ·rw[Ak hk hmax]
    show norm _ _=upd _ _
    kernel_rfl
   ·rw[←h2,idxP,if_neg (by simpa[eq_comm]using hb)]
 ·have hlt:¬decide ((k:Int)<((l.map Gra.toI).length:Int))=true:=by simp;omega
  repeat'((conv=>whnf);(apply aI<;>intro hb<;>first|exact absurd hb (by assumption)|((try rw[hb]);(try simp only[Ad]at hb))))
  all_goals(try(conv=>whnf))
  refine Done.mk ⟨congrArg (fun n=>SV.v (.int .i64 n)) ?_,by kernel_rfl⟩ (by kernel_rfl)
  rw[←h2,List.drop_eq_nil_of_le (by omega)]
  rfl
theorem Q2 (l:List Gra) (g:Gra) (hl:l.length≤1000000):Fn Tryz.prog Mr [.v (.list (l.map Gra.toI)),.v g.toI] (Is (.v (.bool (l.any fun e=>decide (e=g)))) [.no,.no]):=by
 refine Mo ?_ (by simp)
 have h:=A31 l g hl
 rw[←Azi _ l 0]
 repeat'((conv=>whnf);first|(refine eI ?_ ?_;focus (and_intros<;>first|omega|exact rfl|(intro _ hh;cases hh;done)|(simp;done)|decide))|(refine CallWp.mk ⟨_,h,?_⟩;rintro _ _ ⟨rfl,rfl⟩))
 all_goals(try(conv=>whnf))
 exact Done.mk ⟨SV.bool_congr (by simp),by kernel_rfl⟩ (by kernel_rfl)
theorem Ara (s:Ai) (c:Cmd):Fn Tryz.prog Wf [.v (.str s),.rp c.toI] (Is (.v (.bool (decide (s=c.name)))) [.no,.no]):=by
 refine Asw ?_ (by simp)
 repeat'((conv=>whnf);(refine eI ?_ ?_;focus (and_intros<;>exact rfl)))
 all_goals(try(conv=>whnf))
 exact Done.mk ⟨SV.bool_congr (by simp),by kernel_rfl⟩ (by kernel_rfl)

open Go.Proofs
theorem A32 (l:List Ai) (c:Cmd) (hl:l.length≤1000000):Fn Tryz.prog Rf [.v (.list (strs l)),.v (.clo Wf [c.toI])] (Is (.v (.int .i64 (idxP (fun s=>decide (s=c.name)) 0 l))) [.no,.no]):=by
 refine Qz ?_ (by simp)
 have hmax:l.length≤maxLen:=by simp only[maxLen];omega
 repeat'((conv=>whnf);first|(refine eI ?_ ?_;focus (and_intros<;>exact rfl))|(intro hfact))
 all_goals(try(conv=>whnf))
 refine LoopWq.by (X:=Nat) (fun x=>[(8,.v (.int .i64 x))]) (fun x=>x≤l.length∧idxP (fun s=>decide (s=c.name)) x (l.drop x)=idxP (fun s=>decide (s=c.name)) 0 l) (fun x=>l.length - x)
  0 (by kernel_rfl) ⟨Nat.zero_le _,rfl⟩ ?_
 rintro k ⟨h1,h2⟩
 by_cases hk:k<l.length
 ·obtain⟨e,he⟩:∃e,l[k]?=some e:=⟨_,List.getElem?_eq_getElem hk⟩
  have hlt:¬decide ((k:Int)<((strs l).length:Int))=false:=by simp[hk]
  have hke:l[k]=e:=by rw[List.getElem?_eq_getElem hk]at he;simpa using he
  rw[List.drop_eq_getElem_cons hk,hke]at h2
  have hr:=Ara e c
  by_cases hec:e=c.name
  ·rw[show decide (e=c.name)=true by simp[hec]]at hr
   repeat'((conv=>whnf);first|(apply aI<;>intro hb<;>first|exact absurd hb (by first|assumption|decide)|((try rw[hb]);(try simp only[Ad]at hb)))|(refine eI ?_ ?_;focus (and_intros<;>first|omega|exact rfl|(simp;done)))|((try dsimp only);first|rw[Av he]|rw[An he]|rw[Ap he])|(refine CallWp.mk ⟨_,hr,?_⟩;rintro _ _ ⟨rfl,rfl⟩))
   all_goals(try(conv=>whnf))
   refine Done.mk ⟨congrArg (fun n=>SV.v (.int .i64 n)) ?_,by kernel_rfl⟩ (by kernel_rfl)
   rw[←h2,idxP,if_pos (by simp[hec])]
  ·rw[show decide (e=c.name)=false by simp[hec]]at hr
   repeat'((conv=>whnf);first|(apply aI<;>intro hb<;>first|exact absurd hb (by first|assumption|decide)|((try rw[hb]);(try simp only[Ad]at hb)))|(refine eI ?_ ?_;focus (and_intros<;>first|omega|exact rfl|(simp;done)))|((try dsimp only);first|rw[Av he]|rw[An he]|rw[Ap he])|(refine CallWp.mk ⟨_,hr,?_⟩;rintro _ _ ⟨rfl,rfl⟩))
   all_goals(try(conv=>whnf))
   refine Round.by (k+1) ?_ ⟨hk,?_⟩ (by omega)
   ·rw[Ak hk hmax]
    show norm _ _=upd _ _
    kernel_rfl
   ·rw[←h2,idxP,if_neg (by simp[hec])]
 ·have hlt:¬decide ((k:Int)<((strs l).length:Int))=true:=by simp;omega
  repeat'((conv=>whnf);(apply aI<;>intro hb<;>first|exact absurd hb (by assumption)|((try rw[hb]);(try simp only[Ad]at hb))))
  all_goals(try(conv=>whnf))
  refine Done.mk ⟨congrArg (fun n=>SV.v (.int .i64 n)) ?_,by kernel_rfl⟩ (by kernel_rfl)
  rw[←h2,List.drop_eq_nil_of_le (by omega)]
  rfl
theorem Aud {α:Type} {p:α→Bool}:∀{l:List α} {k:Nat},idxP p k l= -1→(l.filter fun s=> !p s)=l
 | [],_,_=>rfl
 |s::r,k,h=>by
  unfold idxP at h
  split at h
  ·omega
  ·rename_i hs
   rw[List.filter_cons,if_pos (by simpa using hs),Aud h]
theorem Aue {α:Type} {p:α→Bool}:∀{l:List α} {k:Nat},idxP p k l≠ -1→∃i:Nat,idxP p k l=k+i∧i<l.length∧((l.take i).filter fun s=> !p s)=l.take i∧∃s,l[i]?=some s∧p s=true
 | [],k,h=>by simp[idxP]at h
 |s::r,k,h=>by
  unfold idxP at h ⊢
  split
  ·rename_i hs
   exact⟨0,by simp,by simp,rfl,s,rfl,hs⟩
  ·rename_i hs
   rw[if_neg hs]at h
   obtain⟨i,h1,h2,h3,h4⟩:=Aue h
   refine⟨i+1,by rw[h1];simp;omega,by simpa using h2,?_,by simpa using h4⟩
   rw[List.take_succ_cons,List.filter_cons,if_pos (by simpa using hs),h3]
theorem A1w (l:List Ai) (c:Cmd) (hl:l.length≤1000000):Fn Tryz.prog Qi [.vec Em 1 (strs l),.v (.clo Wf [c.toI])] (Is (.vec Em 1 (strs (l.filter fun s=> !decide (s=c.name)))) [.no,.no]):=by
 refine N4 ?_ (by simp)
 obtain⟨p,hp⟩:∃p:Ai→Bool,p=fun s=>decide (s=c.name):=⟨_,rfl⟩
 have hidx:=A32 l c hl
 rw[←hp]at hidx
 rw[show(fun s:Ai=> !decide (s=c.name))=fun s=> !p s by rw[hp]]
 by_cases hn:idxP p 0 l= -1
 ·rw[hn]at hidx
  repeat'((conv=>whnf);first|(apply aI<;>intro hb<;>first|exact absurd hb (by decide)|((try rw[hb]);(try simp only[Ad]at hb)))|(refine eI ?_ ?_;focus (and_intros<;>first|omega|exact rfl|(simp;done)))|(refine CallWp.mk ⟨_,hidx,?_⟩;rintro _ _ ⟨rfl,rfl⟩))
  all_goals(try(conv=>whnf))
  exact Done.mk ⟨by rw[Aud hn],by kernel_rfl⟩ (by kernel_rfl)
 obtain⟨i0,hi0,hlt0,hf0,b0,hb0,hbad0⟩:=Aue hn
 rw[hi0,show((0:Nat):Int)+(i0:Int)=(i0:Int)from by omega]at hidx
 have n1:¬decide ((i0:Int)= -1)=true:=by simp
 have hw0:IntKind.i64.wrap ((i0:Int)+1)=((i0+1:Nat):Int):=(Cf (by omega)).trans (by omega)
 repeat'((conv=>whnf);first|(apply aI<;>intro hb<;>first|exact absurd hb (by assumption)|((try rw[hb]);(try simp only[Ad]at hb)))|(refine eI ?_ ?_;focus (and_intros<;>first|omega|(simp;done)))|(refine CallWp.mk ⟨_,hidx,?_⟩;rintro _ _ ⟨rfl,rfl⟩)|((try dsimp only);rw[hw0]))
 all_goals(try(conv=>whnf))
 have hmax:l.length≤maxLen:=by simp only[maxLen];omega
 refine LoopWq.by (X:=Nat × Nat × List Ai) (fun x=>[(42,.vec Em 1 (strs x.2.2)),(5,.v (.int .i64 x.2.1)),(6,.v (.int .i64 x.1))])
  (fun x=>x.2.1<x.1∧x.1≤l.length∧x.2.2.length=l.length∧x.2.2.drop x.1=l.drop x.1∧x.2.2.take x.2.1=(l.take x.1).filter fun s=> !p s) (fun x=>l.length - x.1)
  (i0+1,i0,l) (by kernel_rfl) ⟨Nat.lt_succ_self _,hlt0,rfl,rfl,by
    rw[List.take_add_one,hb0,List.filter_append,hf0]
    simp[hbad0]⟩ ?_
 rintro⟨j,i,d⟩ ⟨h1,h2,h3,h4,h5⟩
 dsimp only at h1 h2 h3 h4 h5 ⊢
 by_cases hj:j<l.length
 case neg=>
  have hlt:¬decide ((j:Int)<((strs d).length:Int))=true:=by simp;omega
  have hle:(i:Int)≤((strs d).length:Int):=by simp;omega
  have hle0:Int.toNat (i:Int)≤(strs d).length:=by simp;omega
  rw[show l.take j=l from List.take_of_length_le (by omega)]at h5
  have hle2:(i:Int)≤(((strs d).take (i:Int).toNat++List.replicate ((strs d).length - (i:Int).toNat) (I.str [])).length:Int):=by
   simp only[List.length_append,List.length_take,List.length_replicate,List.length_map];omega
  repeat'((conv=>whnf);first|(apply aI<;>intro hb<;>first|exact absurd hb (by assumption)|((try rw[hb]);(try simp only[Ad]at hb)))|(refine eI ?_ ?_;focus (and_intros<;>first|omega|exact rfl|(simp;done)))|(intro hfact))
  all_goals(try(conv=>whnf))
  refine Done.mk ⟨congrArg (fun l=>SV.vec Em 1 l) ?_,by kernel_rfl⟩ (by kernel_rfl)
  rw[←h5,Int.toNat_natCast,List.take_append_of_le_length (by simp;omega),List.take_take,Nat.min_self]
  simp[strs]
 obtain⟨e,he⟩:∃e,l[j]?=some e:=⟨_,List.getElem?_eq_getElem hj⟩
 have hce:d[j]?=some e:=by
  have:=congrArg (fun q=>q[0]?) h4
  simp only[List.getElem?_drop,Nat.add_zero]at this
  rw[this,he]
 have hlt:¬decide ((j:Int)<((strs d).length:Int))=false:=by simp;omega
 have hgc:(strs d)[Int.toNat (j:Int)]?=some (.str e):=by simp[hce]
 have hh:=V1 (e:=Em) (sz:=1) hgc
 have hkl:Int.toNat (j:Int)<(strs d).length:=by simp;omega
 have hki:Int.toNat (i:Int)<(strs d).length:=by simp;omega
 obtain⟨y,hy⟩:∃y,d[i]?=some y:=⟨_,List.getElem?_eq_getElem (by omega)⟩
 have hgi:(strs d)[Int.toNat (i:Int)]?=some (.str y):=by simp[hy]
 have hhi:=V1 (e:=Em) (sz:=1) hgi
 have hround:l.length - (j+1)<l.length - j:=by omega
 have hwj:IntKind.i64.wrap ((j:Int)+1)=((j+1:Nat):Int):=(Cf (by omega)).trans (by omega)
 have hwi:IntKind.i64.wrap ((i:Int)+1)=((i+1:Nat):Int):=(Cf (by omega)).trans (by omega)
 have htk:((l.take (j+1)).filter fun s=> !p s)=((l.take j).filter fun s=> !p s)++[e].filter fun s=> !p s:=by rw[List.take_add_one,he,List.filter_append];rfl
 have hr:=Ara e c
 rw[show decide (e=c.name)=p e by rw[hp]]at hr
 cases hpe:p e with
 |false=>
  rw[hpe]at hr
  repeat'((conv=>whnf);first|(apply aI<;>intro hb<;>first|exact absurd hb (by first|assumption|decide)|((try rw[hb]);(try simp only[Ad]at hb)))|(refine eI ?_ ?_;focus (and_intros<;>first|omega|exact rfl|(simp;done)))|(intro hfact)|((try dsimp only);rw[hh])|((try dsimp only);rw[hhi])|(refine CallWp.mk ⟨_,hr,?_⟩;rintro _ _ ⟨rfl,rfl⟩))
  all_goals(try(conv=>whnf))
  refine Round.by (j+1,i+1,d.set i e) ?_ ⟨by dsimp only;omega,hj,by simp[h3],?_,?_⟩ hround
  ·have hput:strs (d.set i e)=putV (strs d) [Int.toNat (i:Int)] ((I.str []).put [] (.str e)):=by
    rw[A0j hgi,Int.toNat_natCast]
    simp only[strs,List.map_set]
    rfl
   dsimp only
   rw[hwj,hwi,hput]
   show norm _ _=upd _ _
   kernel_rfl
  ·dsimp only
   have:=congrArg (List.drop 1) h4
   rw[List.drop_set_of_lt (by omega)]
   simpa[List.drop_drop]using this
  ·dsimp only
   rw[htk, ←h5,List.take_add_one,List.getElem?_set_self (by omega),List.take_set_of_le (by omega)]
   simp[hpe]
 |true=>
  rw[hpe]at hr
  repeat'((conv=>whnf);first|(apply aI<;>intro hb<;>first|exact absurd hb (by assumption)|((try rw[hb]);(try simp only[Ad]at hb)))|(refine eI ?_ ?_;focus (and_intros<;>first|omega|exact rfl|(simp;done)))|(intro hfact)|((try dsimp only);rw[hh])|(refine CallWp.mk ⟨_,hr,?_⟩;rintro _ _ ⟨rfl,rfl⟩))
  all_goals(try(conv=>whnf))
  refine Round.by (j+1,i,d) ?_ ⟨by dsimp only;omega,hj,h3,?_,?_⟩ hround
  ·rw[hwj]
   show norm _ _=upd _ _
   kernel_rfl
  ·dsimp only
   have:=congrArg (List.drop 1) h4
   simpa[List.drop_drop]using this
  ·dsimp only
   rw[htk,h5]
   simp[hpe]

open Go.Proofs
def Avz:Stm:=(sO [O1 (.box 3 1),gA 4 (cI 0)] (.seq (.drw [[],[0],[1],[2],[],[4],[3,5],[6],[7],[7],[8],[9,10]] [gM 17 0,O1 (.nchk 18 17),gF 19 18 3,gL 20 19,gF 21 3 4,gL 22 21,.peek none (some 23) 91 [nL 20,nL 22,nL (.c (.fn 34))],gA 16 23,gE 24 16 0,gE 25 16 1,gA 5 24,gA 6 25]) (.seq (sO [gF 26 3 3,gL 27 26] (.block 0 (sO [gB 29 .eql 27 (cI 9),gA 28 29] (.cond 28 (.seq (.drw [[],[0],[1],[],[3],[2,4],[5],[6],[6],[],[9,7],[8,10]] [gM 31 0,O1 (.nchk 32 31),O1 (.loadB 33 true 4 32),gF 34 3 5,gL 35 34,.peek none (some 36) 14 [nL 33,nL 35],gA 30 36,gE 37 30 0,gE 38 30 1,O1 (.alloc 7 (.one (.i (.agg [(.str []),(.int .i64 0),(.int .i64 0)])))),gS 3 7 37,gA 8 38]) (.seq (.block 1 (sO [gF 40 3 4,gL 41 40,gC 42 70 [nL 41],gT 43 42,gA 39 43] (.cond 39 (sO [gA 4 (cI 5)] .ret) (sO [gM 45 6,gA 44 45] (.cond 44 (sO [gA 4 (cI 15)] .ret) (sO [gM 47 8,gT 48 47,gA 46 48] (.cond 46 (sO [gA 4 (cI 16)] .ret) (sO [gM 50 0,O1 (.nchk 51 50),gF 52 51 3,gL 53 52,gN 54 53,gB 55 .geq 54 (cI 16),gA 49 55] (cR 49 [gA 4 (cI 17)]))))))))) (.seq (.drwL [[],[0],[1],[],[3],[],[5],[4,6]] [2,7] [gM 56 0,O1 (.nchk 57 56),gF 58 57 3,gF 59 3 4,gL 60 59,gF 61 3 5,gL 62 61,O1 (.build 63 [(.str []),(.str []),(.list [])] [(0,60),(1,62)])] (.inl (some 64) 197 92 [58,63,(.c (.fn 34))])) (sO [gA 4 (cI 0)] .ret)))) (sO [gB 66 .eql 27 (cI 11),gA 65 66] (.cond 65 (sO [gF 67 3 10,gU 68 4 67,gC 69 71 [nL 68],gT 70 69] (cR 70 [gA 4 (cI 1)])) (sO [gB 72 .eql 27 (cI 12),gA 71 72] (.cond 71 (sO [gF 73 3 10,gF 74 73 0,gU 75 2 74,gC 76 93 [nL 75],gT 77 76] (cR 77 [gA 4 (cI 1)])) .skip)))))))) (.seq (sO [gM 78 6,gT 79 78] (cR 79 [gA 4 (cI 16)])) (sO [gM 80 0,O1 (.nchk 81 80),gF 82 81 3,gL 83 82,gM 84 5,gI 85 3 83 84,gA 9 85] (.seq (sO [gF 86 3 3,gL 87 86] (.block 2 (sO [gB 89 .eql 87 (cI 10),gA 88 89] (.cond 88 (sO [gM 90 0,gM 91 0,O1 (.nchk 92 91),gF 93 92 3,gL 94 93,gM 95 5,gM 96 5,gB 97 .add 96 (cI 1),gC 98 94 [(true,94),nL 95,nL 97],O1 (.nchk 99 90),gF 100 99 3,gS 1 100 98] (sO [gM 101 0,O1 (.nchk 102 101),gF 103 102 2,gL 104 103,gN 105 104,gM 106 (cI 0)] (.block 3 (.loop [10,21,26,86,107,108,109,110,111,112,113,114,115,116,117,118,119,120,121,122,123,124,125,126,180,184,190,194] (sO [gB 107 .lss 106 105] (.seq (.cond 107 .skip (.exit 3)) (.seq (.block 4 (sO [gM 108 106,gA 10 108] (.drw [[],[0],[1],[2],[],[],[5],[6],[7],[],[8,9],[10],[11],[],[12,13],[3,4,14],[15],[16]] [gM 109 0,O1 (.nchk 110 109),gF 111 110 2,gL 112 111,gM 113 10,gM 114 0,O1 (.nchk 115 114),gF 116 115 2,gL 117 116,gM 118 10,gI 119 5 117 118,gF 120 119 4,gL 121 120,O1 (.mkf 122 96 [3]),gC 123 95 [(true,121),nL 122],gI 124 5 112 113,gF 125 124 4,gS 1 125 123]))) (.ops [gB 126 .add 106 (cI 1),gM 106 126])))))))) (sO [gB 128 .eql 87 (cI 11),gA 127 128] (.cond 127 (.seq (.block 5 (.seq (.drw [[],[0],[1],[2],[],[4],[3,5],[6]] [gM 130 9,O1 (.nchk 131 130),gF 132 131 2,gL 133 132,gF 134 3 10,gU 135 4 134,.peek none (some 136) 72 [nL 133,nL 135],gA 129 136]) (.cond 129 (sO [gA 4 (cI 15)] .ret) (sO [gM 138 9,O1 (.nchk 139 138),gF 140 139 2,gL 141 140,gN 142 141,gB 143 .geq 142 (cI 8),gA 137 143] (cR 137 [gA 4 (cI 17)]))))) (.drw [[],[],[1],[2],[3],[],[5],[6],[4,7],[0,8],[9],[10]] [gM 144 9,gM 145 9,O1 (.nchk 146 145),gF 147 146 2,gL 148 147,gF 149 3 10,gU 150 4 149,O1 (.bslD 151 36 4 (.agg [(.agg [(.str []),(.str [])]),(.bool false),(.bool false)]) 1 [(0,150)]),O1 (.app 152 36 4 40 148 151),O1 (.nchk 153 144),gF 154 153 2,gS 1 154 152])) (sO [gB 156 .eql 87 (cI 12),gA 155 156] (.cond 155 (sO [gA 11 (.nils 36 4)] (.seq (sO [gM 157 9,O1 (.nchk 158 157),gF 159 158 2,gL 160 159,gN 161 160,gM 162 (cI 0)] (.block 6 (.loop [13,15,21,26,86,163,164,165,166,167,168,169,170,171,172,173,174,175,176,177,178,179,180,181,182,183,184,185,186,187,188,189,190,194] (sO [gB 163 .lss 162 161] (.seq (.cond 163 .skip (.exit 6)) (.seq (.block 7 (sO [gI 164 4 160 162,gU 165 4 164,O1 (.alloc 13 (.one (.i (.agg [(.agg [(.str []),(.str [])]),(.bool false),(.bool false)])))),gS 4 13 165] (sO [gF 166 13 0,gU 167 2 166,O1 (.bslD 168 34 2 (.agg [(.str []),(.str [])]) 1 [(0,167)]),gF 169 3 10,gF 170 169 0,gU 171 2 170,gC 172 97 [nL 168,nL 171],gN 173 172,gM 174 (cI 0)] (.block 8 (.loop [15,21,26,86,175,176,177,178,179,180,181,182,183,184,185,186,187,188,190,194] (sO [gB 175 .lss 174 173] (.seq (.cond 175 .skip (.exit 8)) (.seq (.block 9 (sO [gI 176 2 172 174,gU 177 2 176,O1 (.alloc 15 (.one (.i (.agg [(.str []),(.str [])])))),gS 2 15 177] (sO [gU 178 2 15,gF 179 13 0,gS 2 179 178] (sO [gM 180 11,gU 181 4 13,.peek none (some 182) 72 [nL 180,nL 181],gT 183 182] (.cond 183 (.ops [O1 (.movD 184 11),gU 185 4 13,O1 (.bslD 186 36 4 (.agg [(.agg [(.str []),(.str [])]),(.bool false),(.bool false)]) 1 [(0,185)]),O1 (.app 187 36 4 40 184 186),O1 (.movD 11 187)]) .skip))))) (.ops [gB 188 .add 174 (cI 1),gM 174 188]))))))))) (.ops [gB 189 .add 162 (cI 1),gM 162 189]))))))) (.seq (sO [gM 190 11,gN 191 190,gB 192 .gtr 191 (cI 8)] (cR 192 [gA 4 (cI 17)])) (.ops [gM 193 9,O1 (.movD 194 11),O1 (.nchk 195 193),gF 196 195 2,gS 1 196 194])))) .skip)))))))) (sO [gA 4 (cI 0)] .ret)))))))
theorem R6:OF 67 197 Avz [.t 4]:=oF Tryz.func67 rfl Tryz.ntmps67 (by kernel_rfl) (by kernel_rfl)

open Go.Proofs
def T6 (n:Ai) (u:Usr):Usr:={u with roles:=u.roles.filter fun e=> !decide (e=n)}
def Qo (r:Roll) (c:Cmd):Roll × Int:=
 if r.rolAt c.name<0 then(r,16)
 else({r with rev:=r.rev+1,rols:=r.rols.take (r.rolAt c.name).toNat++r.rols.drop ((r.rolAt c.name).toNat+1),usrs:=r.usrs.map (T6 c.name)},0)
def Lb (n:Ai) (l:List Usr) (k:Nat):List Usr:=(l.take k).map (T6 n)++l.drop k
theorem Auo {n:Ai} {l:List Usr} {k:Nat} {u:Usr} (h:l[k]?=some u):(Lb n l k)[k]?=some u:=by
 have hk:=(List.getElem?_eq_some_iff.1 h).1
 unfold Lb
 rw[List.getElem?_append_right (by simp;omega)]
 simp[Nat.min_eq_left (Nat.le_of_lt hk),h]
theorem Aup {n:Ai} {l:List Usr} {k:Nat} {u:Usr} (h:l[k]?=some u):(Lb n l k).set k (T6 n u)=Lb n l (k+1):=by
 have hk:=(List.getElem?_eq_some_iff.1 h).1
 have hu:l[k]=u:=by rw[List.getElem?_eq_getElem hk]at h;simpa using h
 unfold Lb
 rw[List.set_append_right _ _ (by simp;omega)]
 simp only[List.length_map,List.length_take,Nat.min_eq_left (Nat.le_of_lt hk),Nat.sub_self]
 rw[List.drop_eq_getElem_cons hk,List.set_cons_zero,List.take_add_one,h]
 simp
theorem Aj9 {n:Ai} {l:List Usr} {k:Nat}:(Lb n l k).length=l.length:=by
 unfold Lb;simp;omega
theorem Aun {n:Ai} {l:List Usr}:Lb n l l.length=l.map (T6 n):=by
 unfold Lb;simp
set_option maxHeartbeats 8000000

open Go.Proofs
def ins (s:Ai):List Ai→List Ai
 | []=>[s]
 |x::r=>if s<x then s::x::r else if x=s then x::r else x::ins s r
theorem Xg (s:Ai):∀l:List Ai,(ins s l).length≤l.length+1
 | []=>by simp[ins]
 |x::r=>by
  unfold ins
  have:=Xg s r
  split
  ·simp
  ·split
   ·simp
   ·simp;omega
set_option maxHeartbeats 4000000

open Go.Proofs
def estep (E:List Ai) (s:Sp):List Ai:=if Dk s then ins s.t (ins s.f E)else E
def Hi (l:List Sp):List Ai:=l.foldl estep [[]]
theorem Ax3 (E:List Ai) (s:Sp):(estep E s).length≤E.length+2:=by
 unfold estep
 split
 ·exact Nat.le_trans (Xg _ _) (Nat.add_le_add_right (Xg _ _) 1)
 ·omega
theorem Yu (l:List Sp):(Hi l).length≤1+2*l.length:=by
 have:∀(l:List Sp) (E:List Ai),(l.foldl estep E).length≤E.length+2*l.length:=by
  intro l
  induction l with
  |nil=>intro E;simp
  |cons s r ih=>
   intro E
   have h1:=ih (estep E s)
   have h2:=Ax3 E s
   simp only[List.foldl_cons,List.length_cons]
   omega
 exact this l [[]]
def mstep (o:List Sp × Bool) (p:Ai × Bool):List Sp × Bool:=
 if p.2=true then(if o.2=true then(o.1,true)else(o.1++[⟨p.1,[]⟩],true))
 else(if o.2=true then(match o.1.getLast? with
  |some s=>o.1.set (o.1.length - 1) ⟨s.f,p.1⟩
  |none=>o.1,false)else(o.1,false))
def Ag0 (E:List Ai) (H:List Bool):List Sp:=((E.zip H).foldl mstep ([],false)).1

open Go.Proofs
def RCov (l:List Sp) (s:Sp):Prop:=Dk s∧∀e∈Hi (l++[s]),SpH s e→AnyH l e
instance (l:List Sp) (s:Sp):Decidable (RCov l s):=by unfold RCov;infer_instance
end Go.Ab
