/- Lemmas of the proof. -/
import Derived.Test.YthbcdhfiibpeaaaGreatTm6
import Derived.Shelf.SlSortCmp.NoneTotal
set_option linter.unusedSimpArgs false
set_option linter.unusedVariables false
namespace Go.Sx
variable {P:Program} {n:Nat} {σ:AS} {Q:Exit→AS→Prop}
def bxX (mk:Nat→Option (Nat×Res)) (B0:Bx) (X:Nat→Bool):Nat→Bx
 |0=>B0
 |m+1=>match X m,mk m with
  |true,some p=>p::bxX mk B0 X m
  |_,_=>bxX mk B0 X m
theorem a07 {mk:Nat→Option (Nat×Res)} {B0:Bx} {X:Nat→Bool} {x:Nat×Res}:∀ {m:Nat},x∈bxX mk B0 X m↔x∈B0∨ ∃ i,i<m∧X i=true∧mk i=some x
 |0=>by simp[bxX]
 |m+1=>by
  have ih:= @a07 mk B0 X x m
  unfold bxX
  constructor
  ·intro h
   split at h
   ·rename_i p hX hk
    rcases List.mem_cons.1 h with rfl|h
    ·exact .inr ⟨m,by omega,hX,hk⟩
    ·rcases ih.1 h with h|⟨i,h1,h2⟩
     ·exact .inl h
     ·exact .inr ⟨i,by omega,h2⟩
   ·rcases ih.1 h with h|⟨i,h1,h2⟩
    ·exact .inl h
    ·exact .inr ⟨i,by omega,h2⟩
  ·intro h
   have h':x∈bxX mk B0 X m∨(X m=true∧mk m=some x):=by
    rcases h with h|⟨i,h1,h2,h3⟩
    ·exact .inl (ih.2 (.inl h))
    ·by_cases him:i=m
     ·subst him;exact .inr ⟨h2,h3⟩
     ·exact .inl (ih.2 (.inr ⟨i,by omega,h2,h3⟩))
   split
   ·rename_i p hX hk
    rcases h' with h'|⟨_,h'⟩
    ·exact List.mem_cons_of_mem _ h'
    ·rw[hk] at h';cases h';exact List.mem_cons_self
   ·rename_i hno
    rcases h' with h'|⟨h1,h2⟩
    ·exact h'
    ·exact absurd h2 (hno x h1)
def c5p (mk:Nat→Option (Nat×Res)) (B0:Bx):Prop:=(∀ i j p q,mk i=some p→mk j=some q→i≠j→p.1≠q.1)∧∀ i p,mk i=some p→∀ x∈B0,x.1≠p.1
theorem a4P {mk:Nat→Option (Nat×Res)} {B0:Bx} {X:Nat→Bool} (ha:c5p mk B0) (h0:(B0.map (·.1)).Nodup):∀ m,((bxX mk B0 X m).map (·.1)).Nodup
 |0=>h0
 |m+1=>by
  have ih:=a4P (X:=X) ha h0 m
  unfold bxX
  split
  ·rename_i p hX hk
   simp only[List.map_cons,List.nodup_cons]
   refine⟨fun hm=>?_,ih⟩
   obtain⟨x,hx,e⟩:=List.mem_map.1 hm
   rcases a07.1 hx with h|⟨i,h1,_,h3⟩
   ·exact ha.2 m p hk x h e
   ·exact ha.1 i m x p h3 hk (by omega) e
  ·exact ih
theorem a5d {mk:Nat→Option (Nat×Res)} {B0:Bx} {X:Nat→Bool}:∀ {m:Nat},((bxX mk B0 X m).map (·.1)).Nodup→(B0.map (·.1)).Nodup
 |0,h=>h
 |m+1,h=>by
  unfold bxX at h
  split at h
  ·simp only[List.map_cons,List.nodup_cons] at h;exact a5d h.2
  ·exact a5d h
structure MidM (κ:Kap) (M0:Mem) (n:Nat) (l:List Oper) (t:Nat→T) (mk:Nat→Option (Nat×Res)) (B0:Bx) (env0:Env) (listed:Array Bool) (a:Act) (w:World):Prop where
  size:listed.size=l.length
  closed:a1Z l listed
  st:∃ M ν,M0.ext κ M∧a.tmps.size=n∧a.defers=[]∧a1H M ν a.tmps (a1g l t (xs listed) env0 l.length)∧Sat κ M ν (bxX mk B0 (xs listed) l.length) w∧∀ k,pin≤k→ν k=κ.nu k
def b1F (P:Program) (n:Nat) (all:List Oper) (B0:Bx) (o:Oper) (env:Env) (t:T) (j:Option (Nat×Res)):Prop:=
  a4h n o=true∧
  ((a0Y all env o True False∧((j=none∧OpP P o env B0 t)∨(∃ k r,j=some (k,r)∧k<pin∧Env.fresh k env=true∧Bx.fresh k B0=true∧∀ B:Bx,(∀ x∈B0,x∈B)→Bx.fresh k B=true→OpG P o env B k t ((k,r)::B))))∨
   (a0Y all env o False True∧t=a0F∧j=none))
theorem a5e {k:Nat}:∀ {B:Bx},(∀ x∈B,x.1≠k∧∀ cs,x.2= .cells cs→Cell.freshs k cs=true)→Bx.fresh k B=true
 |[],_=>rfl
 |(j,r)::B,h=>by
  have h1:=h (j,r) List.mem_cons_self
  simp only[Bx.fresh,Bool.and_eq_true,bne_iff_ne,ne_eq]
  refine⟨⟨h1.1,?_⟩,a5e fun y hy=>h y (List.mem_cons_of_mem _ hy)⟩
  cases r with
  |cells cs=>exact h1.2 cs rfl
  |row sz rows=>rfl
  |mp ag es=>rfl
def Res.plain (r:Res):Prop:=∀ k cs,r= .cells cs→Cell.freshs k cs=true
theorem Res.plain_row (sz:Nat) (rows:List (List C)):(Res.row sz rows).plain:=fun _ _ e=>by cases e
theorem Res.plain_dat (zs:List C):(Res.cells (zs.map .dat)).plain:=by
  intro k cs e
  cases e
  induction zs with
  |nil=>rfl
  |cons z zs ih=>simp only[List.map_cons,Cell.freshs,Cell.fresh,ih,Bool.and_self]
def a9g (mk:Nat→Option (Nat×Res)):Prop:=∀ i p,mk i=some p→p.2.plain
theorem b7m {κ:Kap} {M0:Mem} {l:List Oper} {B0:Bx} {t:Nat→T} {mk:Nat→Option (Nat×Res)} {env0:Env} {Q':Exit→Act→World→Prop}
  (hback:b70 l) (hpairs:b1V l) (hap:c5p mk B0) (hro:a9g mk) (hlen:∀ i p,mk i=some p→i<l.length)
  (hs:∀ i o,l[i]?= some o→b1F P n l B0 o (a1g l t (fun _=>true) env0 i) (t i) (mk i))
  (hfr:∀ g k p,mk g=some p→g<k→k<l.length→(t k).fresh p.1=true∨a7K l k g=true)
  (hQ:∀ a w,St κ M0 n ⟨a1g l t (fun _=>true) env0 l.length,bxX mk B0 (fun _=>true) l.length⟩ a w→Q' .normal a w):
  ∀ (fuel:Nat) (listed:Array Bool) (a:Act) (w:World),cnt l listed=fuel→MidM κ M0 n l t mk B0 env0 listed a w→
   wpAny P .any l.toArray Q' fuel listed a w:=by
 have done:∀ (listed:Array Bool) (a:Act) (w:World),MidM κ M0 n l t mk B0 env0 listed a w→(∀ i,i<l.length→listed.getD i false=true)→Q' .normal a w:=by
  intro listed a w hm hall
  obtain⟨M,ν,h1,h2,h3,h4,h7,h8⟩:=hm.st
  refine hQ a w ⟨M,ν,h1,h2,h3,?_,?_,h8⟩
  ·intro d u hu
   refine h4 d u ?_
   rw[a00 l t (xs listed) (fun _=>true) env0 d l.length (fun j o hj _ _=>hall j hj)]
   exact hu
  ·refine h7.drop (fun x hx=>?_) (a4P hap (a5d h7.nodup) _)
   rcases a07.1 hx with h|⟨i,hi,_,hk⟩
   ·exact a07.2 (.inl h)
   ·exact a07.2 (.inr ⟨i,hi,hall i hi,hk⟩)
 intro fuel
 induction fuel with
 |zero=>
  intro listed a w hfuel hm
  have hall:=a6n hfuel
  exact⟨a4I hm.size hall,done listed a w hm hall⟩
 |succ fuel ih=>
  intro listed a w hfuel hm
  refine⟨fun hr=>done listed a w hm (a2Y hback hm.size hr),fun i hi=>?_⟩
  obtain⟨h0,oi,hoi,hall⟩:=mem_ready.1 hi
  have hil:i<l.length:=by have:=(Array.getElem?_eq_some_iff.1 hoi).1;simpa using this
  have hoi':l[i]?= some oi:=by simpa using hoi
  have hisz:i<listed.size:=by rw[hm.size];exact hil
  have hxi:listed.getD i false=false:=by simp[hisz] at h0 ⊢; exact h0
  obtain⟨M,ν,h1,h2,h3,h4,h7,h8⟩:=hm.st
  obtain⟨hd,hspec⟩:=hs i oi hoi'
  have look:∀ d,d∈oi.looksAt l.toArray→(a1g l t (xs listed) env0 l.length).lookup d=(a1g l t (fun _=>true) env0 i).lookup d:=by
   intro d hdm
   rw[a1s l t (xs listed) env0 d i l.length (by omega) ?_,a00 l t (xs listed) (fun _=>true) env0 d i ?_]
   ·intro j o hj ho hod
    rcases hpairs j i o oi hj ho hoi' with⟨e',he',hb',hon⟩|hap
    ·exact hon▸hall e' he' hb'
    ·exact absurd hdm ((Oper.apart_spec hap).1 d hod)
   ·intro j o hj hjl ho hod
    by_cases hji:i=j
    ·subst hji;exact hxi
    ·cases hxj:xs listed j with
     |false=>rfl
     |true=>
      rcases hpairs i j oi o (by omega) hoi' ho with⟨e',he',hb',hon⟩|hap
      ·have:=hm.closed j o ho hxj e' he' hb'
       rw[hon,hxi] at this;cases this
      ·exact absurd hdm ((Oper.apart_spec hap).2.2 d hod)
  have hclosed:a1Z l (listed.setIfInBounds i true):=by
   intro j oj hj hx e' he' hb'
   by_cases hji:i=j
   ·subst hji
    rw[hoi'] at hj;cases hj
    exact getD_set_true (hall e' he' hb')
   ·rw[getD_set_ne false hji] at hx
    exact getD_set_true (hm.closed j oj hj hx e' he' hb')
  have hcount:cnt l (listed.setIfInBounds i true)=fuel:=by
   have:=a8l hm.size hil hxi;omega
  have after:∀ (M':Mem) (ν':Nu) (v:Value) (w':World),M.ext κ M'→a1H M ν' a.tmps (a1g l t (xs listed) env0 l.length)→(t i).rep M' ν' v→Sat κ M' ν' (bxX mk B0 (xs (listed.setIfInBounds i true)) l.length) w'→(∀ k,pin≤k→ν' k=κ.nu k)→
    MidM κ M0 n l t mk B0 env0 (listed.setIfInBounds i true) (a.put oi.dst v) w':=by
   intro M' ν' v w' hle h4 hr hsat hpin
   refine⟨by simpa using hm.size,hclosed,M',ν',h1.trans hle,by rw[Act.put_size];exact h2,by rw[Act.put_defers'];exact h3,?_,hsat,hpin⟩
   have hput:=a1H.put (df:=a.defers) (h4.mono hle.1) (dst:=oi.dst) (v:=v) (t:=t i) (fun d he=>by rw[h2];exact a04 hd d he) hr
   intro k u hu
   refine hput k u ?_
   rw[a0V]
   by_cases hk:oi.dst=some k
   ·rw[if_pos hk]
    have e1:=a1s l t (xs (listed.setIfInBounds i true)) env0 k (i+1) l.length (by omega) (fun j o hj hjl ho hod=>by
     cases hxj:xs (listed.setIfInBounds i true) j with
     |false=>rfl
     |true=>
      have hne:i≠j:=by omega
      have hxj':listed.getD j false=true:=by rw[← getD_set_ne false hne];exact hxj
      rcases hpairs i j oi o (by omega) hoi' ho with⟨e',he',hb',hon⟩|hap
      ·have:=hm.closed j o ho hxj' e' he' hb'
       rw[hon,hxi] at this;cases this
      ·exact absurd hod ((Oper.apart_spec hap).2.1 k hk))
    rw[e1] at hu
    have hself:xs (listed.setIfInBounds i true) i=true:=by simp[xs,hisz]
    rw[a1g,hself] at hu
    simp only[cond_true,a0V,hoi',Option.bind_some,hk,if_true] at hu
    exact hu
   ·rw[if_neg hk]
    have e2:=a00 l t (xs (listed.setIfInBounds i true)) (xs listed) env0 k l.length (fun j o hj ho hod=>by
     have hne:i≠j:=fun h=>by subst h;rw[hoi'] at ho;cases ho;exact hk hod
     exact getD_set_ne false hne)
    rw[← e2];exact hu
  have hon:a3g M ν a (a1g l t (fun _=>true) env0 i) oi:=by
   intro d u hdo hu
   refine h4 d u ?_
   rw[look d (a3E hdo)];exact hu
  have hgd:∀ g want d u,oi.guard=some (g,want)→(l[g]?).bind (·.dst)=some d→(a1g l t (fun _=>true) env0 i).lookup d=some u→u.rep M ν (a.tmps.getD d undef):=by
   intro g want d u hg hgd hu
   refine h4 d u ?_
   rw[look d (a19 hg hgd)];exact hu
  have hself:xs (listed.setIfInBounds i true) i=true:=by simp[xs,hisz]
  have hold:∀ j,i≠j→xs (listed.setIfInBounds i true) j=xs listed j:=fun j hj=>getD_set_ne false hj
  have nod:((bxX mk B0 (xs (listed.setIfInBounds i true)) l.length).map (·.1)).Nodup:=a4P hap (a5d h7.nodup) _
  have same:mk i=none→∀ x∈bxX mk B0 (xs (listed.setIfInBounds i true)) l.length,x∈bxX mk B0 (xs listed) l.length:=by
   intro hk x hx
   rcases a07.1 hx with h|⟨j,hj,hX,hkj⟩
   ·exact a07.2 (.inl h)
   ·have hne:i≠j:=fun e=>by subst e;rw[hk] at hkj;cases hkj
    exact a07.2 (.inr ⟨j,hj,by rw[← hold j hne];exact hX,hkj⟩)
  unfold wpOp
  rw[hoi]
  simp only[]
  rcases hspec with⟨hg,⟨hjn,hop⟩|⟨k,r,hjn,hkp,hfk,hfB0,hop⟩⟩|⟨hg,ht,hjn⟩
  ·rw[if_pos (a1t hg hgd)]
   left
   refine Oper.wp_mono_Q (Oper.wp_mono ?_ (hop κ M ν a w _ (fun x hx=>a07.2 (.inl hx)) hon h7))
   rintro a' w' ⟨v,M',rfl,hle,hr,hsat⟩
   exact ih _ _ _ hcount (after M' ν v w' hle h4 hr (hsat.drop (same hjn) nod) h8)
  ·rw[if_pos (a1t hg hgd)]
   left
   have hfB:Bx.fresh k (bxX mk B0 (xs listed) l.length)=true:=by
    refine a5e fun x hx=>?_
    rcases a07.1 hx with h|⟨j,hj,hX,hkj⟩
    ·exact Bx.fresh_spec (j:=x.1) (r:=x.2) hfB0 h
    ·have hne:j≠i:=fun e=>by subst e;unfold xs at hX;rw[hxi] at hX;cases hX
     refine⟨hap.1 j i x _ hkj hjn hne,fun cs e=>?_⟩
     exact hro j x hkj k cs e
   refine Oper.wp_mono_Q (Oper.wp_mono ?_ (hop _ (fun x hx=>a07.2 (.inl hx)) hfB κ M ν a w hon h7))
   rintro a' w' ⟨v,M',ν',rfl,hle,hν,hr,hsat⟩
   obtain⟨hf0,hft⟩:=a3G i hfk
   have hfresh:Env.fresh k (a1g l t (xs listed) env0 l.length)=true:=by
    refine a3S hf0 l.length (fun q hq hx hdq=>?_)
    rcases Nat.lt_trichotomy q i with h|h|h
    ·exact hft q h hdq
    ·subst h;unfold xs at hx;rw[hxi] at hx;cases hx
    ·rcases hfr i q _ hjn h hq with h'|h'
     ·exact h'
     ·exfalso
      have:=a5V h' (List.getElem?_eq_getElem hq) hm.closed (fun e' he' hb'=>hm.closed q l[q] (List.getElem?_eq_getElem hq) hx e' he' hb')
      rw[hxi] at this;cases this
   refine ih _ _ _ hcount (after M' ν' v w' hle (h4.fresh hfresh hν) hr (hsat.drop ?_ nod) (fun q hq=>by rw[hν q (by omega)];exact h8 q hq))
   intro x hx
   rcases a07.1 hx with h|⟨j,hj,hX,hkj⟩
   ·exact List.mem_cons_of_mem _ (a07.2 (.inl h))
   ·by_cases hne:i=j
    ·subst hne;rw[hjn] at hkj;cases hkj;exact List.mem_cons_self
    ·exact List.mem_cons_of_mem _ (a07.2 (.inr ⟨j,hj,by rw[← hold j hne];exact hX,hkj⟩))
  ·rw[a2Q hg hgd]
   simp only[Bool.false_eq_true,if_false]
   refine ih _ _ _ hcount (after M ν undef w (Mem.ext.refl κ M) h4 (by rw[ht];simp[a0F,T.rep,Cell.rep,C.rep]) (h7.drop (same hjn) nod) h8)
theorem Bx.fresh_sub {k:Nat} {B B':Bx} (h:Bx.fresh k B=true) (hs:∀ x∈B',x∈B):Bx.fresh k B'=true:=
  a5e fun x hx=>Bx.fresh_spec (j:=x.1) (r:=x.2) h (hs x hx)
def b2E (P:Program) (j:Nat) (t1 t2:TypeId) (s x:Option T) (K:T→Res→Prop):Prop:=
 match bsT P t1,byT P t1 with
 |some (_,n),some (by_+1)=>match a9Z n x with
  |some ys=>a2M P t2=true∧(match s with
   |some (.one (.dat (.nil _)))=>(2*ys.length+192)*(by_+1)≤281474976710656∧K (.one (.own j ys.length)) (.row n ys)
   |_=>False)
  |none=>False
 |_,_=>False
def c7j (P:Program) (o:Oper) (env:Env) (K:T→Res→Prop):Prop:=
 match o.op with
 | .alloc e=>(match a01 P e with
  |some zs=>K (.one (.ptr (a1i o) 0)) (.cells (zs.map .dat))
  |none=>False)
 | .call { callee:= .builtin .append,args:=⟨[s,x]⟩,argTypes:=⟨[t1,t2]⟩ }=>b2E P (a1i o) t1 t2 (ev P env t1 s) (a7g (ev P env t2 x)) K
 | .call { callee:= .value f,args:=args,argTypes:=ts }=>
  match a11 (ev P env 0 f),evs P env args.toList ts.toList with
  |some (g,caps),some us=>∃ r sz rows,PCN P g (us++caps) r (.row sz rows)∧K (r.ren fun _=>a1i o) (.row sz rows)
  |_,_=>False
 |_=>False
theorem b1G {o:Oper} {env:Env} {K:T→Res→Prop} (h:c7j P o env K):
  ∃ t r,r.plain∧(∀ B:Bx,Env.fresh (a1i o) env=true→Bx.fresh (a1i o) B=true→OpG P o env B (a1i o) t ((a1i o,r)::B))∧K t r:=by
 unfold c7j at h
 split at h
 ·rename_i e ho
  split at h
  ·rename_i zs hz
   refine⟨_,_,Res.plain_dat zs,fun B hfe hfb=>?_,h⟩
   obtain⟨t,B',hop,_,rfl,rfl⟩:=a5H (env:=env) (B:=B) (K:=fun t B'=>t= .one (.ptr (a1i o) 0)∧B'=(a1i o, .cells (zs.map .dat))::B) ho (by
    unfold b3k
    rw[hz]
    exact⟨hfe,hfb,rfl,rfl⟩)
   exact hop
  ·exact h.elim
 ·rename_i s x t1 t2 ho
  unfold b2E at h
  split at h
  ·rename_i e n by_ hbs hbyt
   split at h
   ·rename_i ys hys
    obtain⟨hni,h⟩:=h
    split at h
    ·rename_i sz hsv
     refine⟨_,_,Res.plain_row _ _,fun B hfe hfb=>?_,h.2⟩
     obtain⟨t,B',hop,_,rfl,rfl⟩:=a43 (ty1:=t1) (ty2:=t2) (env:=env) (B:=B) (K:=fun t B'=>t= .one (.own (a1i o) ys.length)∧B'=(a1i o, .row n ys)::B) ho (by
      unfold a90
      rw[hbs,hbyt]
      simp only[hys,hsv]
      refine⟨hni,hfe,hfb,h.1,?_⟩
      first|trivial|exact⟨trivial,rfl⟩|exact⟨rfl,rfl⟩|exact⟨rfl,trivial⟩)
     exact hop
    ·exact h.elim
   ·exact h.elim
  ·exact h.elim
 ·rename_i f args ts ho
  split at h
  ·rename_i g caps us hf hu
   obtain⟨r,sz,rows,hpc,hK⟩:=h
   refine⟨_,_,Res.plain_row _ _,fun B hfe hfb=>?_,hK⟩
   obtain⟨t,B',hop,_,rfl,rfl⟩:=a8G (env:=env) (B:=B) (args:=args.toList) (K:=fun t B'=>t=(r.ren fun _=>a1i o)∧B'=(a1i o, .row sz rows)::B) (by rw[ho]) hf hu ⟨r,_,hpc,hfe,hfb,rfl,rfl⟩
   exact hop
  ·exact h.elim
 ·exact h.elim
def a3w (P:Program) (all:List Oper) (es:List Nat) (B0:Bx):Nat→List (Nat×Nat)→List Oper→Env→Bx→(Env→Bx→Prop)→Prop
  |_,_,[],env,B,K=>K env B
  |i,gs,o::os,env,B,K=>a0Y all env o
      (bif memN i es then c7j P o env fun t r=>Env.fresh (a1i o) env=true∧Bx.fresh (a1i o) B=true∧a03 all i t gs∧a3w P all es B0 (i+1) ((i,a1i o)::gs) os (a14 env o.dst t) ((a1i o,r)::B) K
       else a3v P o env B0 fun t=>a03 all i t gs∧a3w P all es B0 (i+1) gs os (a14 env o.dst t) B K)
      (a3w P all es B0 (i+1) gs os (a14 env o.dst a0F) B K)
theorem b2F (mk:Nat→Option (Nat×Res)) (B:Bx):∀ m,bxX mk B (fun _=>true) (m+1)=bxX (fun i=>mk (i+1)) (match mk 0 with|some p=>p::B|none=>B) (fun _=>true) m
 |0=>by
  simp only[bxX]
  cases mk 0<;>rfl
 |m+1=>by
  rw[bxX,b2F mk B m]
  all_goals(first|rfl|(conv=>rhs;rw[bxX]))
  all_goals(cases mk (m+1)<;>rfl)
theorem b1H (all:List Oper) (es:List Nat) (B0:Bx) (K:Env→Bx→Prop):∀ (l:List Oper) (i0:Nat) (gs:List (Nat×Nat)) (env:Env) (B:Bx),a1c n l=true→(∀ x∈B0,x∈B)→a3w P all es B0 i0 gs l env B K→
  ∃ (t:Nat→T) (mk:Nat→Option (Nat×Res)),(∀ i o,l[i]?= some o→b1F P n all B0 o (a1g l t (fun _=>true) env i) (t i) (mk i))∧(∀ i p,mk i=some p→i<l.length)∧a9g mk∧
   (∀ i p,mk i=some p→Bx.fresh p.1 B=true)∧(∀ i j p q,mk i=some p→mk j=some q→i≠j→p.1≠q.1)∧(∀ i,i<l.length→a03 all (i0+i) (t i) gs)∧
   (∀ g k p,mk g=some p→g<k→k<l.length→(t k).fresh p.1=true∨a7K all (i0+k) (i0+g)=true)∧K (a1g l t (fun _=>true) env l.length) (bxX mk B (fun _=>true) l.length)
 |[],i0,gs,env,B,_,hB,h=>⟨fun _=>a0F,fun _=>none,fun i o ho=>by simp at ho,fun _ _ h=>(by cases h),fun _ _ h=>(by cases h),fun _ _ h=>(by cases h),fun _ _ _ _ h=>(by cases h),fun i hi=>by simp at hi,fun _ _ _ h=>(by cases h),h⟩
 |o::os,i0,gs,env,B,hd,hB,h=>by
  simp only[a1c,List.all_cons,Bool.and_eq_true] at hd
  obtain⟨⟨hd1,hd2⟩,hd3⟩:=hd
  have step:∃ (t0:T) (B':Bx) (j0:Option (Nat×Res)) (gs':List (Nat×Nat)),b1F P n all B0 o env t0 j0∧(∀ x∈B,x∈B')∧B'=(match j0 with|some p=>p::B|none=>B)∧(∀ p,j0=some p→p.2.plain∧Bx.fresh p.1 B=true∧(i0,p.1)∈gs')∧a03 all i0 t0 gs∧
    (∀ p∈gs,p∈gs')∧a3w P all es B0 (i0+1) gs' os (a14 env o.dst t0) B' K:=by
   rcases a2o h with⟨hg,hx⟩|⟨hg,hx⟩
   ·cases hm:memN i0 es with
    |true=>
     rw[hm] at hx
     simp only[cond_true] at hx
     obtain⟨t,r,hpl,hop,hfe,hfb,h2,h3⟩:=b1G hx
     refine⟨t,_,some (a1i o,r),_,⟨hd1, .inl ⟨hg, .inr ⟨_,_,rfl,Nat.le_of_ble_eq_true hd2,hfe,Bx.fresh_sub hfb hB,fun B' hs hf=>hop B' hfe hf⟩⟩⟩,fun x hx=>List.mem_cons_of_mem _ hx,rfl,fun p hp=>?_,h2,fun p hp=>List.mem_cons_of_mem _ hp,h3⟩
     cases hp
     exact⟨hpl,hfb,List.mem_cons_self⟩
    |false=>
     rw[hm] at hx
     simp only[cond_false] at hx
     obtain⟨t,hop,h2,h3⟩:=a1F hx
     exact⟨t,B,none,gs,⟨hd1, .inl ⟨hg, .inl ⟨rfl,hop⟩⟩⟩,fun _ h=>h,rfl,fun p hp=>(by cases hp),h2,fun _ h=>h,h3⟩
   ·exact⟨a0F,B,none,gs,⟨hd1, .inr ⟨hg,rfl,rfl⟩⟩,fun _ h=>h,rfl,fun p hp=>(by cases hp),a4K gs,fun _ h=>h,hx⟩
  obtain⟨t0,B',j0,gs',hspec,hsubB,hBe,hj0,hfr0,hsub,hk⟩:=step
  obtain⟨t,mk,hs,hlen,hro,hfb,hdis,hfr,hjj,hK⟩:=b1H all es B0 K os (i0+1) gs' _ B' hd3 (fun x hx=>hsubB x (hB x hx)) hk
  have hmk:∀ i p,(match i with|0=>j0|i+1=>mk i)=some p→(i=0∧j0=some p)∨ ∃ i',i=i'+1∧mk i'=some p:=by
   intro i p h
   cases i with
   |zero=>exact .inl ⟨rfl,h⟩
   |succ i=>exact .inr ⟨i,rfl,h⟩
  have ne0:∀ i p q,j0=some p→mk i=some q→q.1≠p.1:=by
   intro i p q h1 h2
   have h3:=hfb i q h2
   subst h1
   rw[hBe] at h3
   exact fun e=>(Bx.fresh_spec (j:=p.1) (r:=p.2) h3 List.mem_cons_self).1 e.symm
  refine⟨fun i=>match i with|0=>t0|i+1=>t i,fun i=>match i with|0=>j0|i+1=>mk i,?_,?_,?_,?_,?_,?_,?_,?_⟩
  ·intro i o' ho
   cases i with
   |zero=>simp at ho;subst ho;exact hspec
   |succ i=>
    rw[a1B]
    exact hs i o' (by simpa using ho)
  ·intro i p h
   rcases hmk i p h with⟨rfl,_⟩|⟨i',rfl,h⟩
   ·simp
   ·have:=hlen i' p h;simp;omega
  ·intro i p h
   rcases hmk i p h with⟨rfl,h⟩|⟨i',rfl,h⟩
   ·exact(hj0 p h).1
   ·exact hro i' p h
  ·intro i p h
   rcases hmk i p h with⟨rfl,h⟩|⟨i',rfl,h⟩
   ·exact(hj0 p h).2.1
   ·exact Bx.fresh_sub (hfb i' p h) hsubB
  ·intro i j p q h1 h2 hij
   rcases hmk i p h1 with⟨rfl,h1⟩|⟨i',rfl,h1⟩<;>rcases hmk j q h2 with⟨rfl,h2⟩|⟨j',rfl,h2⟩
   ·exact absurd rfl hij
   ·exact fun e=>ne0 j' p q h1 h2 e.symm
   ·exact ne0 i' q p h2 h1
   ·exact hdis i' j' p q h1 h2 (by omega)
  ·intro i hi
   cases i with
   |zero=>exact hfr0
   |succ i=>
    have:=hfr i (by simpa using hi)
    rw[show i0+1+i=i0+(i+1) by omega] at this
    exact a5W.FreshOr_sub hsub this
  ·intro g k p hg hgk hk'
   cases k with
   |zero=>omega
   |succ k=>
    rcases hmk g p hg with⟨rfl,hg⟩|⟨g',rfl,hg⟩
    ·have:=a2y (hfr k (by simpa using hk')) (i0,p.1) (hj0 p hg).2.2
     rwa[show i0+1+k=i0+(k+1) by omega] at this
    ·have:=hjj g' k p hg (by omega) (by simpa using hk')
     rwa[show i0+1+k=i0+(k+1) by omega,show i0+1+g'=i0+(g'+1) by omega] at this
  ·rw[List.length_cons,a1B,b2F]
   rw[hBe] at hK
   exact hK
def b6d (n:Nat) (l:List Oper):Bool:=Region.lexB .any l.toArray&&a1c n l
theorem AWP.genM {id:Nat} {l:List Oper} {env:Env} {B:Bx} (es:List Nat) (hm:P.follows .mixedOrders=true) (hl:b6d n l=true)
  (h:∀ K:Env→Bx→Prop,(∀ e b,Q .normal ⟨e,b⟩→K e b)→a3w P l es B 0 [] l env B K):AWP P n (.region id l.toArray true) ⟨env,B⟩ Q:=by
 simp only[b6d,Bool.and_eq_true] at hl
 intro κ M0 a w hs
 obtain⟨hback,hpairs,_⟩:=a4p hl.1
 obtain⟨t,mk,hsp,hlen,hro,hfb,hdis,_,hjj,hK⟩:=b1H l es B _ l 0 [] env B hl.2 (fun x hx=>hx) (h (fun e b=>Q .normal ⟨e,b⟩) (fun _ _ k=>k))
 refine wp_region_any hm ?_
 have hsz:l.toArray.size=l.length:=by simp
 rw[hsz]
 have hrep:∀ j,(Array.replicate l.length false).getD j false=false:=fun j=>a23 _ j
 have hxs:∀ j,xs (Array.replicate l.length false) j=false:=fun j=>a23 _ j
 refine b7m hback hpairs ⟨hdis,fun i p hp x hx=>(Bx.fresh_spec (j:=x.1) (r:=x.2) (hfb i p hp) hx).1⟩ hro hlen hsp (fun g k p hg hgk hk=>by have:=hjj g k p hg hgk hk;simpa using this) (fun a w s=>⟨_,s,hK⟩) l.length _ a _ ?_ ?_
 ·unfold cnt
  have hfil:(List.range l.length).filter (fun i=>!(Array.replicate l.length false).getD i false)=List.range l.length:=by
   rw[List.filter_eq_self]
   intro x _
   simp only[hrep x,Bool.not_false]
  rw[hfil,List.length_range]
 ·have hst:=a5u (σ:=⟨env,B⟩) (l:=l) (t:=t) (b:=fun _=>B) (e:=fun _=>false) rfl hs
  obtain⟨M,ν,m,h1,h2,h3,h4,_,_,h7,h8⟩:=hst.st
  have hbx:∀ m,bxX mk B (xs (Array.replicate l.length false)) m=B:=by
   intro m
   induction m with
   |zero=>rfl
   |succ m ih=>unfold bxX;rw[hxs m];simp only[ih]
  exact⟨hst.size,hst.closed,M,ν,h1,h2,h3,h4,by rw[hbx];exact h7,h8⟩
theorem b7n {all:List Oper} {es:List Nat} {B0:Bx} {i:Nat} {gs:List (Nat×Nat)} {env:Env} {B:Bx} {K:Env→Bx→Prop} (h:K env B):a3w P all es B0 i gs [] env B K:=h
def b2G (P:Program) (all:List Oper) (es:List Nat) (B0:Bx) (i:Nat) (gs:List (Nat×Nat)) (o:Oper) (env:Env) (B:Bx) (K':List (Nat×Nat)→Env→Bx→Prop):Prop:=
  bif memN i es then c7j P o env fun t r=>Env.fresh (a1i o) env=true∧Bx.fresh (a1i o) B=true∧a03 all i t gs∧K' ((i,a1i o)::gs) (a14 env o.dst t) ((a1i o,r)::B)
  else a3v P o env B0 fun t=>a03 all i t gs∧K' gs (a14 env o.dst t) B
theorem b3Y {all os:List Oper} {es:List Nat} {B0:Bx} {i:Nat} {gs:List (Nat×Nat)} {o:Oper} {env:Env} {B:Bx} {K:Env→Bx→Prop} (hg:o.guard=none)
  (h:∀ K':List (Nat×Nat)→Env→Bx→Prop,(∀ gs e b,a3w P all es B0 (i+1) gs os e b K→K' gs e b)→b2G P all es B0 i gs o env B K'):a3w P all es B0 i gs (o::os) env B K:=
 a2V hg (h (fun gs e b=>a3w P all es B0 (i+1) gs os e b K) fun _ _ _ q=>q)
theorem b3Z {all os:List Oper} {es:List Nat} {B0:Bx} {i:Nat} {gs:List (Nat×Nat)} {o:Oper} {env:Env} {B:Bx} {K:Env→Bx→Prop} {j d:Nat} {want:Bool} (hg:o.guard=some (j,want)) (hd:(all[j]?).bind (·.dst)=some d)
  (h:∀ K':List (Nat×Nat)→Env→Bx→Prop,(∀ gs e b,a3w P all es B0 (i+1) gs os e b K→K' gs e b)→a8J (env.lookup d) want (b2G P all es B0 i gs o env B K') (K' gs (a14 env o.dst a0F) B)):a3w P all es B0 i gs (o::os) env B K:=
 a2W hg hd (h (fun gs e b=>a3w P all es B0 (i+1) gs os e b K) fun _ _ _ q=>q)
attribute [go_sem] b2G c7j b2E
def c7k (P:Program):List Oper→Env→Bx→(Env→Bx→Prop)→Prop
 |[o],env,B,K=>(match o.op with
  | .store t x y=>a6B P t (ev P env 0 x) (ev P env t y) B (fun B'=>K (a14 env o.dst a0F) B')
  |_=>False)
 |_,_,_,_=>False
attribute [go_sem] c7k
end Go.Sx

namespace Go.Sx
theorem AWP.condT {P:Program} {n:Nat} {σ:AS} {Q:Exit→AS→Prop} {c:Operand} {x y:Code} (hc:ev0 σ.env c=some (.one (.dat (.bool true)))) (h:AWP P n x σ Q):AWP P n (.cond c x y) σ Q:=AWP.cond hc (fun _=>h) fun e=>absurd e (by decide)
theorem AWP.condF {P:Program} {n:Nat} {σ:AS} {Q:Exit→AS→Prop} {c:Operand} {x y:Code} (hc:ev0 σ.env c=some (.one (.dat (.bool false)))) (h:AWP P n y σ Q):AWP P n (.cond c x y) σ Q:=AWP.cond hc (fun e=>absurd e (by decide)) fun _=>h
theorem AWP.cnd {P:Program} {n:Nat} {σ:AS} {Q:Exit→AS→Prop} {c:Operand} {x y:Code} {b:Bool} (ht:b=true→AWP P n x σ Q) (hf:b=false→AWP P n y σ Q) (hc:ev0 σ.env c=some (.one (.dat (.bool b))):=by with_unfolding_all rfl):AWP P n (.cond c x y) σ Q:=AWP.cond hc ht hf
theorem stp {P Q:Prop} (h:Q) (k:Q→P:=by
 intro q
 with_reducible first
  |exact seqVC_stepN rfl q
  |exact AWP.seq q
  |exact AWP.seqR (by kernel_rfl) q
  |exact b0e rfl q
  |exact a8K rfl q
  |exact b0t rfl q
  |exact b3S rfl q
  |exact b3Y rfl q
  |exact b4U rfl (by with_unfolding_all rfl) q
  |exact b4V rfl (by with_unfolding_all rfl) q
  |exact b3z rfl (by with_unfolding_all rfl) q
  |exact b45 rfl (by with_unfolding_all rfl) q
  |exact b3T rfl (by with_unfolding_all rfl) q
  |exact b3Z rfl (by with_unfolding_all rfl) q):P:=k h
theorem stn {P Q:Prop} (h:Q) (k:Q→P:=by
 intro q
 with_reducible first
  |exact b9i q
  |exact b9j q
  |exact b61 q
  |exact b9L q
  |exact b7j q
  |exact b7n q
  |exact AWP.block q
  |exact AWP.condT (by with_unfolding_all rfl) q
  |exact AWP.condF (by with_unfolding_all rfl) q
  |exact AWP.skip q
  |exact AWP.ret q
  |exact AWP.exit q):P:=k h
theorem a0M {P Q:Prop} (h:Q) (k:Q→P:=by
  intro q
  with_reducible exact AWP.parR mixed (by kernel_rfl) q):P:=k h
theorem stq {P Q:Prop} (h:Q) (k:Q→P:=by
 intro q
 with_reducible first
  |exact⟨(by kernel_rfl:a7K _ _ _=true),q⟩
  |exact Or.inl q):P:=k h
theorem nf {P:Prop} (h:P) (k:P→P:=by(fail_if_success guard_target=ₛ False→False);exact id):P:=k h
theorem sts {P Q:Prop} (h:Q) (k:Q→P:=by intro q;simp only[go_sem,zA,zB,zC,zD,zE,zF,zG,reduceCtorEq,zH,zI,zJ,zK,zL];exact q):P:=k h
theorem Gh.tt {n:Nat} {env:Env} {B:Bx} (l:List (Nat×Nat)) {τ:AS}
  (h1:wkE l env τ.env:=by(repeat(first|exact trivial|refine⟨rfl,?_⟩|refine⟨by(simp only[go_sem,zA,zB,zC,zD,zE,zF,zG,reduceCtorEq,zH,zI,zJ,zK,zL,List.length_append,List.length_map,List.length_cons,List.length_nil,Nat.zero_add])<;>rfl,?_⟩)))
  (h2:wkB l B τ.B:=by(repeat(first|exact trivial|refine⟨rfl,?_⟩|refine⟨by(simp only[go_sem,zA,zB,zC,zD,zE,zF,zG,reduceCtorEq,zH,zI,zJ,zK,zL,List.length_append,List.length_map,List.length_cons,List.length_nil,Nat.zero_add])<;>rfl,?_⟩)))
  (h3:b2C (τ.B.map fun p=>rn l p.1)=true:=by rfl) (h4:b2C (τ.B.map (·.1))=true:=by rfl) (h5:b3R l=true:=by rfl):Gh n ⟨env,B⟩ τ:=Gh.to l h1 h2 h3 h4 h5
theorem lf {P:Prop} (h:P:=by first|exact fun _ h=>absurd h List.not_mem_nil|(refine a0m ?_;first|rfl|(simp only[zb,cond_true,cond_false,decide_true,decide_false]<;>rfl))):P:=h
theorem PCB.ob {P:Program} {n:Nat} {f:FuncId} {fn:Func} {c:Code} {args:List T} {B B':Bx} {r:T} (hf:P.funcs[f]?= some fn) (hnt:fn.ntmps=n) {rs:List ResultVar} (hres:fn.results=rs.toArray) (h:AWP P n c ⟨b0b 0 args,B⟩ (c63 P rs r B'))
  (hb:fn.body=some c:=by rfl) (hn:(fn.name== "runtime.NumGoroutine")=false:=by decide) (hlen:Nat.ble args.length n=true:=by rfl) (hpin:b5Y B=true:=by rfl) (hk:B'.map (·.1)=B.map (·.1):=by rfl) (hpr:r.pins=true:=by rfl) (hpB:b3y B'=true:=by rfl):PCB P f args B r B':=
 PCB.of_body hf hb hn hnt hres hlen hpin hk h hpr hpB
theorem Gh.fz {n:Nat} {env:Env} {B:Bx} (k:Nat) {sz:Nat} {rows:List (List C)} (hb:B.lookup k=some (.row sz rows):=by rfl) (hlow:b8D k=true:=by rfl)
  (hE:Env.frOk k rows.length env:=by simp only[go_sem,zA,zB,zC,zD,zE,zF,zG,reduceCtorEq,zH,zI,zJ,zK,zL,List.length_map]) (hB:Bx.frOk k rows.length B:=by simp only[go_sem,zA,zB,zC,zD,zE,zF,zG,reduceCtorEq,zH,zI,zJ,zK,zL,List.length_map]):
  Gh n ⟨env,B⟩ ⟨frE k sz rows env,frB k sz rows (Bx.drop k B)⟩:=Gh.freeze k hb hlow hE hB
end Go.Sx
namespace Go.Sx
variable {P:Program} {n:Nat} {σ:AS} {Q:Exit→AS→Prop}
def Res.flatB:Res→Bool
  | .cells cs=>Cell.allInP (fun _=>false) cs
  | .row _ _=>true
  | .mp _ _=>true
def c7l (P:Program) (o:Oper) (env:Env) (B:Bx) (K:T→Bx→Prop):Prop:=
 match o.op with
 | .call { callee:= .value f,args:=args,argTypes:=ts }=>
  match a11 (ev P env 0 f),evs P env args.toList ts.toList with
  |some (g,caps),some us=>∃ k res r res',a2f P g (us++caps) k res r res'∧B.lookup k=some res∧res.flatB=true∧K r (Bx.put k res' B)
  |_,_=>False
 |_=>False
attribute [go_sem] c7l Res.flatB Cell.allInP Cell.inP
end Go.Sx
namespace Go.Sx
open Go.Proofs Go.Sort
variable {P:Program}
def valC:C→Value
  | .int k n=> .int k n
  | .bool b=> .bool b
  | .str l=> .string ⟨l.toArray⟩
  | .fn f=> .func (.func f) #[] #[]
  | .fnc _ _=>undef
  | .fnil=> .nilFunc
  | .err _=>undef
  | .sl _ _=>undef
  | .nil _=> .slice none 0 0
def b9S:C→Bool
  | .sl _ _=>false
  | .fnc _ _=>false
  | .err _=>false
  |_=>true
theorem c2j {M:Mem} {c:C} {v:Value} (h:b9S c=true):C.rep M c v↔v=valC c:=by
  cases c<;>simp_all [b9S,C.rep,valC]
theorem b0A {M:Mem}:∀ {r:List C} {vs:List Value},r.all b9S=true→(a0u M r vs↔vs=r.map valC)
 |[],vs,_=>by simp[a0u]
 |c::r,vs,h=>by
  simp only[List.all_cons,Bool.and_eq_true] at h
  simp only[a0u,c2j h.1,b0A h.2,List.map_cons]
  constructor
  ·rintro⟨v,vs',e,rfl,rfl⟩;exact e
  ·rintro e;exact⟨_,_,e,rfl,rfl⟩
theorem a5Y {M:Mem} {sz:Nat}:∀ {rows:List (List C)} {vs:List Value},(∀ r∈rows,r.all b9S=true∧r.length=sz)→(a0q M sz rows vs↔vs=(rows.map (·.map valC)).flatten)
 |[],vs,_=>by simp[a0q]
 |r::rows,vs,h=>by
  have h1:=h r (by simp)
  have ih:=fun vs=>a5Y (M:=M) (sz:=sz) (rows:=rows) (vs:=vs) (fun r hr=>h r (List.mem_cons_of_mem _ hr))
  simp only[a0q,b0A h1.1,ih,List.map_cons,List.flatten_cons]
  constructor
  ·rintro⟨v1,v2,e,_,rfl,rfl⟩;exact e
  ·rintro e;exact⟨_,_,e,h1.2,rfl,rfl⟩
theorem b1I {α:Type} {enc:α→List Value} {k:Nat} (hk:∀ x,(enc x).length=k):∀ (l:List α) (t:Nat),t<l.length*k→∃ x v,l[t / k]?= some x∧(enc x)[t % k]?= some v∧((l.map enc).flatten)[t]?= some v
 |[],t,h=>by simp at h
 |x::l,t,h=>by
  have hk0:0<k:=by
   rcases Nat.eq_zero_or_pos k with e|e
   ·subst e;simp at h
   ·exact e
  simp only[List.length_cons,Nat.add_mul,Nat.one_mul] at h
  by_cases ht:t<k
  ·have hv:t<(enc x).length:=by rw[hk];exact ht
   refine⟨x,(enc x)[t],by rw[Nat.div_eq_of_lt ht];rfl,by rw[Nat.mod_eq_of_lt ht,List.getElem?_eq_getElem hv],?_⟩
   rw[List.map_cons,List.flatten_cons,List.getElem?_append_left hv,List.getElem?_eq_getElem hv]
  ·obtain⟨y,v,h1,h2,h3⟩:=b1I hk l (t-k) (by omega)
   have e1:t / k=(t-k) / k+1:=by rw[Nat.sub_eq_of_eq_add (show t=(t-k)+k by omega)];conv=>lhs;rw[show t=(t-k)+k by omega];rw[Nat.add_div_right _ hk0]
   have e2:t % k=(t-k) % k:=by conv=>lhs;rw[show t=(t-k)+k by omega];rw[Nat.add_mod_right]
   refine⟨y,v,by rw[e1];simpa using h1,by rw[e2];exact h2,?_⟩
   rw[List.map_cons,List.flatten_cons,List.getElem?_append_right (by rw[hk];omega),hk]
   exact h3
theorem b1J {α:Type} [Inhabited α] {enc:α→List Value} {k:Nat} (hk:∀ x,(enc x).length=k) (d:Array α):(flatK enc k d).toList=(d.toList.map enc).flatten:=by
 apply List.ext_getElem?
 intro t
 have hlen:((d.toList.map enc).flatten).length=d.size*k:=by
  rw[List.length_flatten,List.map_map]
  have:(List.length ∘ enc)=fun _=>k:=by funext x;exact hk x
  rw[this,List.map_const',List.sum_replicate_nat,Array.length_toList]
 by_cases ht:t<d.size*k
 ·obtain⟨x,v,h1,h2,h3⟩:=b1I hk d.toList t (by simpa using ht)
  rw[h3]
  have h4:=get_flatK enc k d t ht
  have hsz:t<(flatK enc k d).size:=by simpa using ht
  rw[Array.getElem?_toList,Array.getElem?_eq_getElem hsz,← getElem!_pos _ t hsz,h4]
  congr 1
  have hx:d[t / k]! =x:=by
   have:d[t / k]?= some x:=by simpa using h1
   simp[Array.getElem!_eq_getD,Array.getD_eq_getD_getElem?, this]
  rw[hx]
  simp[h2]
 ·rw[List.getElem?_eq_none (by simp;omega),List.getElem?_eq_none (by omega)]
theorem b7o {w:World} {b:Nat} {c:Array Value} {et:TypeId} {fz:Nat×Nat} (f:Array Value→Array Value) (h:w.heap[b]?= some (.cells c et fz)):(mapBlock w b f).heap[b]?= some (.cells (f c) et fz):=by
  unfold mapBlock
  simp[Array.getElem?_modify,h,onCells]
theorem b2H {w:World} {b i:Nat} (f:Array Value→Array Value) (h:i≠b):(mapBlock w b f).heap[i]?= w.heap[i]?:= by
  unfold mapBlock
  simp[Array.getElem?_modify,Ne.symm h]
theorem b7p {ρ:Go.Shelf.Ren} {α:Type} [Inhabited α] (L:SlLaysF0.n6 P ρ) {k:Nat} (aE:∀ w,(isAgg (ρ.t 24)).run P w= .ok true w) (zE:∀ w,(Go.sizeOf (ρ.t 24)).run P w= .ok k w)
  (encC:α→List C) (hflat:∀ x,(encC x).all b9S=true) (hk:∀ x,(encC x).length=k) (hone:∀ x,∀ v∈(encC x).map valC,v.oneCell'=true) (cf:α→α→Int) (hO:SWO (ltOf cf)) (g:FuncId)
  (hge:Ent P g) (hg:∀ (x y:α) (W:World),Calls P g #[.agg ((encC x).map valC).toArray, .agg ((encC y).map valC).toArray] W fun e w'=>e= .returned (.int .i64 (cf x y))∧∃ q os',w'=grow (W.drewN q) os') (l:List α) (hsz:l.length<4611686018427387904):
  ∃ s:List α,s.Perm l∧s.Pairwise (fun x y=>ltOf cf y x=false)∧
   PCB P (ρ.f 6) [.one (.own pin l.length), .one (.dat (.fn g))] [(pin, .row k (l.map encC))] (.tup []) [(pin, .row k (s.map encC))]:=by
 obtain⟨enc,henc⟩:∃ enc:α→List Value,enc=fun x=>(encC x).map valC:=⟨_,rfl⟩
 have hk':∀ x,(enc x).length=k:=fun x=>by simp[henc,hk]
 obtain⟨d,hd⟩:∃ d:Array α,d=l.toArray:=⟨_,rfl⟩
 have hsort:=pdq_sorts (ltOf cf) hO d 0 d.size (Lib.bitLen d.size) true true (Nat.zero_le _) (Nat.le_refl _) (Or.inl rfl)
 obtain⟨d',hd'⟩:∃ d',d'=pdq (ltOf cf) d 0 d.size (Lib.bitLen d.size) true true:=⟨_,rfl⟩
 rw[← hd'] at hsort
 have hds:d.size=l.length:=by simp[hd]
 have hsize:d'.size=l.length:=by rw[hsort.1.1,hds]
 have hent:Ent P (ρ.f 6):=by
  obtain⟨nm,hn,hf⟩:=L.f6
  exact⟨_,hf,hn,rfl⟩
 refine⟨d'.toList,?_,?_,hent,?_⟩
 ·have:=hsort.1.2.2
  rw[Array.extract_size,Array.extract_eq_self_of_le (by omega)] at this
  simpa [hd] using this
 ·rw[List.pairwise_iff_getElem]
  intro i j hi hj hij
  have h1:i<d'.size:=by simpa using hi
  have h2:j<d'.size:=by simpa using hj
  have:=hsort.2 i j (Nat.zero_le _) hij (by omega)
  rw[getElem!_pos _ i h1,getElem!_pos _ j h2] at this
  simpa using this
 intro M ν w vs hs hreps
 simp only[T.reps,T.rep,Cell.rep,C.rep] at hreps
 obtain⟨v1,vs1,rfl,rfl,v2,vs2,rfl,rfl,rfl⟩:=hreps
 have hr:=hs.res pin (.row k (l.map encC)) (by simp)
 simp only[Res.ok,List.length_map] at hr
 obtain⟨hc1,hc2,hr⟩:=hr
 rcases hr with⟨hn,hc0⟩|⟨b,c,et,mid,post,hb,hheap,htl,hrows,hcs⟩
 ·have hl0:l=[]:=List.length_eq_zero_iff.1 (by omega)
  have hd0:d'.toList=[]:=List.length_eq_zero_iff.1 (by simp[hsize,hl0])
  rw[hd0,hl0]
  rw[hl0] at hs
  have:=AnyF.slices_SortFunc_none L none (ν pin).cap (.func (.func g) #[] #[]) w
  rw[hn]
  refine Calls.mono this ?_
  rintro e w' ⟨rfl,rfl⟩
  exact⟨_,M,rfl,Mem.ext.refl _ M,by simp[T.rep,T.reps],hs⟩
 ·have hrow:mid=(flatK enc k d).toList:=by
   rw[b1J hk']
   have:=(a5Y (M:=M) (sz:=k) (rows:=l.map encC) (vs:=mid) (fun r hr=>by
    obtain⟨x,_,rfl⟩:=List.mem_map.1 hr
    exact⟨hflat x,hk x⟩)).1 hrows
   rw[this];simp[henc,hd,List.map_map,Function.comp_def]
  have hblt:b<w.heap.size:=(Array.getElem?_eq_some_iff.1 hheap).1
  have hH:HoldsK enc k w b 0 d:=by
   intro j hj
   have hj2:j<mid.length:=by rw[hrow];simpa using hj
   refine⟨?_,by simp[World.frozen?, hheap]⟩
   simp only[World.cell?, hheap,Nat.zero_add,Option.isSome_none,Bool.false_eq_true,if_false]
   rw[← Array.getElem?_toList,htl,List.getElem?_append_left hj2]
   have:mid[j]?= (flatK enc k d)[j]?:= by rw[hrow,Array.getElem?_toList]
   rw[this,getElem!_pos _ j hj,Array.getElem?_eq_getElem hj];rfl
  have eg:∀ args w,(callFunc g args).run P w= .ok (.enter g args) w:=by
   intro args w
   obtain⟨fn,e1,e2,e3⟩:=hge
   cases hbd:fn.body with
   |none=>rw[hbd] at e3;cases e3
   |some cd=>exact enters_of e1 e2 hbd args w
  have hcmp:CmpLays P g #[] enc k cf b 0 d.size w:=by
   intro m os dk hdk x y
   have h0:=hg x y (sortWorldK enc k w b 0 m dk os)
   rw[henc]
   rw[henc] at h0
   exact h0
  have hcall:=AnyQ.slices_SortFunc_eq L k aE zE enc hk' (by rw[henc];exact hone) cf hO g #[] b 0 (ν pin).cap d w eg hcmp hH hblt (by omega)
  rw[hb]
  rw[← hd',hds] at hcall
  refine Calls.mono hcall ?_
  rintro e w' ⟨rfl,n,os,rfl⟩
  have hDne:∀ i,i<w.heap.size→i≠b→(sortWorldK enc k w b 0 n d' os).heap[i]?= w.heap[i]?:= by
   intro i hi hne
   unfold sortWorldK
   rw[heap_grow_old _ _ (by show i<(mapBlock _ _ _).heap.size;simp[mapBlock,ahead];exact hi)]
   exact b2H _ hne
  have hDb:(sortWorldK enc k w b 0 n d' os).heap[b]?= some (.cells (putCells id 0 (flatK enc k d') c) et (0,0)):=by
   unfold sortWorldK
   rw[heap_grow_old _ _ (by show b<(mapBlock _ _ _).heap.size;simp[mapBlock,ahead];exact hblt)]
   exact b7o _ hheap
  have hnew:(putCells id 0 (flatK enc k d') c).toList=(flatK enc k d').toList++post:=by
   have hfs:(flatK enc k d').size=mid.length:=by rw[hrow];simp[hsize,hds]
   apply List.ext_getElem?
   intro t
   rw[Array.getElem?_toList]
   unfold putCells
   rw[Array.getElem?_mapIdx]
   by_cases ht:t<mid.length
   ·rw[List.getElem?_append_left (by rw[Array.length_toList,hfs];exact ht),Array.getElem?_toList]
    have hct:t<c.size:=by rw[← Array.length_toList,htl,List.length_append];omega
    rw[Array.getElem?_eq_getElem hct,Option.map_some,if_pos ⟨Nat.zero_le _,by omega⟩,Nat.sub_zero,getElem!_pos _ t (by omega),Array.getElem?_eq_getElem (by omega)]
    rfl
   ·rw[List.getElem?_append_right (by rw[Array.length_toList,hfs];omega),Array.length_toList,hfs]
    have:c[t]?= post[t-mid.length]?:= by rw[← Array.getElem?_toList,htl,List.getElem?_append_right (by omega)]
    rw[this]
    cases post[t-mid.length]? with
    |none=>rfl
    |some y=>rw[Option.map_some,if_neg (by omega)]
  have haway:=hs.away pin (.row k (l.map encC)) b (by simp) hb
  have hDin:a0t [(pin,Res.row k (l.map encC))] ν b:=⟨pin, .row k (l.map encC),by simp,hb⟩
  refine⟨_,M,rfl,Mem.ext.refl _ M,by simp[T.rep,T.reps],⟨rfl,rfl,rfl,?_,?_,?_,?_,?_,?_,?_,by simp⟩⟩
  ·exact Nat.zero_le _
  ·show w.heap.size≤(sortWorldK enc k w b 0 n d' os).heap.size
   simp[sortWorldK,grow,putRowK,putRow,mapBlock,ahead]
  ·intro i hi hD
   exact hDne i hi (fun e=>hD (by rw[e];exact hDin))
  ·intro i o ho
   have h1:=hs.fro i o ho
   have hi:i<w.heap.size:=(Array.getElem?_eq_some_iff.1 h1).1
   have hne:i≠b:=by intro e;subst e;rw[haway.1] at ho;cases ho
   rw[hDne i hi hne];exact h1
  ·intro j r hm
   simp only[List.mem_singleton,Prod.mk.injEq] at hm
   obtain⟨rfl,rfl⟩:=hm
   simp only[Res.ok,List.length_map,Array.length_toList]
   refine⟨by omega,hc2, .inr ⟨b,_,et,_,post,hb,hDb,hnew,?_,?_⟩⟩
   ·rw[b1J hk']
    refine(a5Y (fun r hr=>by
     obtain⟨x,_,rfl⟩:=List.mem_map.1 hr
     exact⟨hflat x,hk x⟩)).2 ?_
    simp[henc,List.map_map,Function.comp_def]
   ·rw[← hcs];simp[putCells]
  ·intro j r i hm hi
   simp only[List.mem_singleton,Prod.mk.injEq] at hm
   obtain⟨rfl,rfl⟩:=hm
   exact hs.away pin (.row k (l.map encC)) i (by simp) hi
  ·intro j r j' r' i hm hm' _ _
   simp only[List.mem_singleton,Prod.mk.injEq] at hm hm'
   rw[hm.1,hm'.1]
end Go.Sx

