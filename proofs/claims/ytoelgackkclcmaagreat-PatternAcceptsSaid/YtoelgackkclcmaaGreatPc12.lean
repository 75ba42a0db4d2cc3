/- Lemmas. -/
import Derived.Shelf.SlSortCmp.NoneTotal
import Derived.Test.YtoelgackkclcmaaGreatPc7
open List renaming length_map→lB,map_cons→lE
set_option linter.unusedSimpArgs false
set_option linter.unusedVariables false
set_option maxRecDepth 20000
set_option maxHeartbeats 64000000
namespace Go.Sx
variable {P:Program}
theorem OpG.appOwn {o:Oper} {env:Env} {B:Bx} {s x:Operand} {t1 t2 ty1 ty2:TypeId} {e n by_ k es:Nat} {rows:List (List C)}
  (ho:o.op= .call { callee:= .builtin .append,args:= #[s,x],argTypes:= #[t1,t2] }) (ba:bsT P t1=some (e,n)) (al:byT P t1=some (by_+1)) (av:a2T P t2=true)
  (es:ev P env ty1 s=some (.one (.dat (.nil es)))) (ex:ev P env ty2 x=some (.one (.own k rows.length))) (hb:B.lookup k=some (.row n rows))
  (ak:Bx.fresh (a1s o) B=true) (ag:(2*rows.length+192)*(by_+1)≤281474976710656):
  OpG P o env B (a1s o) (.one (.own (a1s o) rows.length)) ((a1s o, .row n rows)::B):=by
 have hs:s∈o.op.operands:=by rw[ho];simp[Op.operands,Call.operands]
 have hx:x∈o.op.operands:=by rw[ho];simp[Op.operands,Call.operands]
 have aj:∀ (a:Act),execOp a.eval o=(do pure (.value (← Builtin.append_ #[t1,t2] o.type #[a.eval s,a.eval x]))):=by
  intro a;rw[a47 ho];simp[builtin]
 obtain⟨hu,ax,⟨z,hz,a2⟩,bf⟩:=a8k ba
 obtain⟨i,hi,az⟩:=b66 al hu
 refine OpG.of_run fun κ M ν a w he ab=>?_
 have ai:=a0z he hx ex
 simp only[T.rep,Cell.rep] at ai
 have ap:∃ new:List Value,a0q M n rows new∧(Builtin.lenOf (a.eval x)).run P w= .ok rows.length w∧∀ d,(Builtin.firstCells n rows.length (a.eval x)).run P { w with drawn:=d }= .ok new.toArray { w with drawn:=d }:=by
  have u:=ab.res k _ (a0O hb)
  simp only[Res.ok] at u
  obtain⟨aq,bb,u⟩:=u
  rcases u with⟨ae,bh⟩|⟨b,c,et,mid,spare,a1,af,bc,q,be⟩
  ·have aw:rows=[]:=zbk.1 (by omega)
   subst aw
   rw[ai,ae]
   exact⟨[],by simp only[a0q],rfl,fun d=>rfl⟩
  ·have a8:At (w.heap[b]?) 0 mid:=⟨c,et,(0,0),[],spare,af,by simpa using bc,rfl⟩
   rw[ai,a1]
   exact⟨mid,q,rfl,fun d=>a52 (w:={ w with drawn:=d }) a8 (a0I q)⟩
 obtain⟨new,aa,ao,ad⟩:=ap
 have ah:=a0z he hs es
 simp only[T.rep,Cell.rep,C.rep] at ah
 have bd:rows.length≤maxLen:=by
  have:1≤by_+1:=by omega
  have:=zdp (2*rows.length+192) this
  unfold maxLen;omega
 obtain⟨_,a7,am⟩:=a7k (t2:=t2) (ty:=o.type) hu ax hi az hz a2 av (base:=none) (sLen:=0) (sCap:=0) (x:=a.eval x) (m:=rows.length) (new:=new) (old:=[]) (w:=w) ao (by omega) (by simpa using ag)
  ad (fun d=>rfl) (by omega)
 by_cases h0:0+rows.length≤0
 ·have an:rows=[]:=zbk.1 (by omega)
  subst an
  refine⟨_,w,M,ν.set (a1s o) ⟨none,0⟩,a1B (aj a) (by rw[ah];exact a7 w (by simp) rfl),Mem.ext.refl κ M,Nu.set_other,?_,?_⟩
  ·simp only[T.rep,Cell.rep,Nu.set_self]
   rfl
  ·exact ab.nilrow (a1s o) n ak
 ·obtain⟨cap,d,rest,ar,bg,au,a6,hr⟩:=am h0
  refine⟨_,_,M,ν.set (a1s o) ⟨some w.heap.size,cap⟩,a1B (aj a) (by rw[ah];exact hr),Mem.ext.refl κ M,Nu.set_other,?_,?_⟩
  ·simp only[T.rep,Cell.rep,Nu.set_self,zbg]
   rfl
  ·refine Sat.new_box (w:={ w with drawn:=d }) (ab.drawn d ar) ak ?_
   simp only[Res.ok,Nu.set_self]
   refine⟨by omega,au, .inr ⟨w.heap.size,_,e,new,rest.toList,rfl,push_new,by simp,aa,?_⟩⟩
   have:=a0I aa
   simp only[List.nil_append,zdq,zch,this,a6,zbg]
   rw[← zby]
   congr 1
   omega
theorem b9J {n:Nat} {all os:List Oper} {o:Oper} {env:Env} {B B':Bx} {t:T} {K:AS→Prop} (hg:o.guard=none) (u:a5t n o=true) (q:Nat.blt (a1s o) pin=true)
  (h1:OpG P o env B (a1s o) t B') (hf:Env.fresh (a1s o) env=true) (h2:a1T P n all os ⟨a15 env o.dst t,B'⟩ K):a1T P n all (o::os) ⟨env,B⟩ K:=by
 unfold a1T a08
 rw[hg]
 exact .gen (a1s o) t B' h1 (zbu q) hf u (by rw[a2s];exact h2)
theorem AWP.reg3 {n:Nat} {Q:Exit→AS→Prop} {id:Nat} {o1 o2 o3:Oper} {env:Env} {B:Bx} (hd:a1n n [o1,o2,o3]=true) (g1:o1.guard=none) (g2:o2.guard=none) (g3:o3.guard=none)
  (h:a6q P o1 env B (fun t1 B1=>∃ t2 B2,OpG P o2 (a15 env o1.dst t1) B1 (a1s o2) t2 B2∧Env.fresh (a1s o2) (a15 env o1.dst t1)=true∧
   a6q P o3 (a15 (a15 env o1.dst t1) o2.dst t2) B2 (fun t3 B3=>Q .normal ⟨a15 (a15 (a15 env o1.dst t1) o2.dst t2) o3.dst t3,B3⟩))):
  AWP P n (.region id [o1,o2,o3].toArray false) ⟨env,B⟩ Q:=by
 simp only[a1n,List.all_cons,List.all_nil,zaw,zag] at hd
 obtain⟨⟨a1,a2⟩,⟨b1,b2⟩,c1,c2⟩:=hd
 refine AWP.region_seq fun K hK=>?_
 have u:∀ q B2,a6q P o3 q B2 (fun t3 B3=>Q .normal ⟨a15 q o3.dst t3,B3⟩)→a1T P n [o1,o2,o3] [o3] ⟨q,B2⟩ K:=by
  intro q B2 h
  unfold a1T a08
  rw[g3]
  rcases a37 h with (⟨t,h1,h2⟩|⟨t,B',h1,h2⟩|⟨t,B',h1,hf,h2⟩)|⟨js,t,B',h1,hj,hf,h2⟩
  ·exact .pure t h1 c1 (by rw[a2s];exact hK _ h2)
  ·exact .eff t B' h1 c1 (by rw[a2s];exact hK _ h2)
  ·exact .gen (a1s o3) t B' h1 (zbu c2) hf c1 (by rw[a2s];exact hK _ h2)
  ·exact .genx js t B' h1 hj hf c1 (by rw[a2s];exact hK _ h2)
 have mid:∀ t1 B1,(∃ t2 B2,OpG P o2 (a15 env o1.dst t1) B1 (a1s o2) t2 B2∧Env.fresh (a1s o2) (a15 env o1.dst t1)=true∧
   a6q P o3 (a15 (a15 env o1.dst t1) o2.dst t2) B2 (fun t3 B3=>Q .normal ⟨a15 (a15 (a15 env o1.dst t1) o2.dst t2) o3.dst t3,B3⟩))→a1T P n [o1,o2,o3] [o2,o3] ⟨a15 env o1.dst t1,B1⟩ K:=by
  rintro t1 B1 ⟨t2,B2,h1,hf,h2⟩
  exact b9J g2 b1 b2 h1 hf (u _ _ h2)
 unfold a1T a08
 rw[g1]
 rcases a37 h with (⟨t,h1,h2⟩|⟨t,B',h1,h2⟩|⟨t,B',h1,hf,h2⟩)|⟨js,t,B',h1,hj,hf,h2⟩
 ·exact .pure t h1 a1 (by rw[a2s];exact mid _ _ h2)
 ·exact .eff t B' h1 a1 (by rw[a2s];exact mid _ _ h2)
 ·exact .gen (a1s o1) t B' h1 (zbu a2) hf a1 (by rw[a2s];exact mid _ _ h2)
 ·exact .genx js t B' h1 hj hf a1 (by rw[a2s];exact mid _ _ h2)
end Go.Sx
namespace Go.Sx
variable {P:Program} {n:Nat} {Q:Exit→AS→Prop}
def mkB (P:Program) (t:TypeId):Option TypeId:=
 match P.underlying t with
 |some (.slice e)=>match P.info? e with
  |some i=>match i.zero with
   |some (.bool false)=>bif decide (i.size=1)&&decide (i.bytes≤8) then some e else none
   |_=>none
  |none=>none
 |_=>none
theorem c2F {t:TypeId} {e:TypeId} (h:mkB P t=some e):P.underlying t=some (.slice e)∧∃ i,P.info? e=some i∧i.zero=some (.bool false)∧i.size=1∧i.bytes≤8:=by
 unfold mkB at h
 split at h
 ·rename_i e' hu
  split at h
  ·rename_i i hi
   split at h
   ·rename_i hz
    cases hc:decide (i.size=1)&&decide (i.bytes≤8) with
    |false=>rw[hc] at h;cases h
    |true=>
     rw[hc] at h
     simp only[zaa,Option.some.injEq] at h
     subst h
     simp only[zag,zan] at hc
     exact⟨hu,i,hi,hz,hc.1,hc.2⟩
   ·cases h
  ·cases h
 ·cases h
def b39 (P:Program) (k:Nat) (x y:Option T) (env:Env) (B:Bx) (K:T→Bx→Prop):Prop:=
  match x,y with
  |some (.one (.dat (.int _ m))),some (.one (.dat (.int _ n)))=>m=n∧0≤n∧n≤16777216∧Env.fresh k env=true∧Bx.fresh k B=true∧K (.one (.own k n.toNat)) ((k, .row 1 (List.replicate n.toNat [.bool false]))::B)
  |_,_=>False
theorem a8n {M:Mem0}:∀ n:Nat,a0q M 1 (List.replicate n [C.bool false]) (List.replicate n (Value.bool false))
 |0=>by simp[a0q]
 |n+1=>by
  simp only[List.replicate_succ,a0q]
  exact⟨[.bool false],_,rfl,rfl,by simp only[a0x,C.rep];exact⟨_,_,rfl,rfl,rfl⟩,a8n n⟩
theorem b8q (n:Nat):(madeCells (Value.bool false).cells n).toList=List.replicate n (Value.bool false):=by
  unfold madeCells
  have hc:(Value.bool false).cells= #[Value.bool false]:=rfl
  rw[hc,Array.toList_map]
  rw[List.eq_replicate_iff]
  refine⟨by simp,fun v hv=>?_⟩
  obtain⟨j,_,rfl⟩:=za3.1 hv
  simp[Nat.mod_one]
theorem b4a {t e:TypeId} {x y:Operand} {tx ty:TypeId} {env:Env} {B:Bx} {o:Oper} {K:T→Bx→Prop} (ho:o.op= .makeSlice t x y) (hm:mkB P t=some e)
  (h:b39 P (a1s o) (ev P env tx x) (ev P env ty y) env B K):∃ t B',OpG P o env B (a1s o) t B'∧Env.fresh (a1s o) env=true∧K t B':=by
 have hx:x∈o.op.operands:=by rw[ho];simp[Op.operands]
 have hy:y∈o.op.operands:=by rw[ho];simp[Op.operands]
 have u:∀ (a:Act),execOp a.eval o=(do pure (.value (← Instr.makeSlice t (a.eval x) (a.eval y)))):=by
  intro a;unfold execOp;rw[ho]
 unfold b39 at h
 split at h
 ·rename_i k1 m k2 nn ex ey
  obtain⟨rfl,h0,ad,hf,aa,hK⟩:=h
  obtain⟨hu,i,hi,hz,q,ab⟩:=c2F hm
  refine⟨_,_,OpG.of_run fun κ M ν ac w he hs=>?_,hf,hK⟩
  have e1:=a0S.1 (a0z he hx ex)
  have e2:=a0S.1 (a0z he hy ey)
  refine⟨.slice (some ⟨w.heap.size,0,none⟩) m.toNat m.toNat,_,M,ν.set (a1s o) ⟨some w.heap.size,m.toNat⟩,a1B (u ac) ?_,Mem.ext.refl κ M,Nu.set_other,?_,hs.new_box (c:=madeCells (Value.bool false).cells (m.toNat*i.size)) (et:=e) aa ?_⟩
  ·rw[e1,e2]
   have hb:(i.bytes:Int)*m≤281474976710656:=by
    have h1:(i.bytes:Int)*m≤8*m:=zee (by omega) h0
    omega
   exact run_makeSlice w t e i (.bool false) hu hi hz k1 k2 m m h0 (zco _) (by rw[q];omega) hb (by omega)
  ·simp only[T.rep,Cell.rep]
   rw[Nu.set_self];rfl
  ·simp only[Res.ok,Nu.set_self]
   rw[q,Nat.mul_one]
   refine⟨by simp,by unfold maxLen;omega, .inr ⟨w.heap.size,_,e,List.replicate m.toNat (Value.bool false),[],rfl,push_new,by simp[b8q],a8n _,by rw[size_madeCells]⟩⟩
 ·exact h.elim
theorem AWP.mkB {id:Nat} {l:List Oper} {env:Env} {B:Bx} (i:Nat) {o:Oper} {t:TypeId} {x y:Operand} (hi:l[i]?= some o) (ho:o.op= .makeSlice t x y) (hg:o.guard=none) (hd:a1n n l=true) (hm:(mkB P t).isSome=true)
  (h:∀ K:Env→Bx→Prop,(∀ e b,Q .normal ⟨e,b⟩→K e b)→a43 P l (l.take i) env B fun aa B1=>b39 P (a1s o) (ev P aa 0 x) (ev P aa 0 y) aa B1 fun u B2=>a43 P l (l.drop (i+1)) (a15 aa o.dst u) B2 K):AWP P n (.region id l.toArray false) ⟨env,B⟩ Q:=by
 obtain⟨et,hm⟩:=zd5.1 hm
 refine AWP.region_seq fun K hK=>?_
 have ad:∀ l':List Oper,(∀ x∈l',x∈l)→a1n n l'=true:=fun l' hs=>za0.2 fun x hx=>za0.1 hd x (hs x hx)
 have ag:i<l.length:=(zak.1 hi).1
 have ae:l[i]=o:=(zak.1 hi).2
 have e:l=l.take i++(o::l.drop (i+1)):=by
  conv=>lhs;rw[← zbt i l]
  rw[za8 ag,ae]
 have hv:=h (fun e b=>K ⟨e,b⟩) (fun e b q=>hK _ q)
 have hs:a1T P n l (l.take i) ⟨env,B⟩ (fun τ=>a1T P n l (o::l.drop (i+1)) τ K):=by
  refine a5I l ?_ _ _ (a1K l (fun τ=>b39 P (a1s o) (ev P τ.env 0 x) (ev P τ.env 0 y) τ.env τ.B fun u B2=>a43 P l (l.drop (i+1)) (a15 τ.env o.dst u) B2 fun e b=>K ⟨e,b⟩) (l.take i) env B (ad _ fun x hx=>zcp hx) hv)
  rintro⟨aa,B1⟩ hb
  obtain⟨u,B2,af,hf,hk⟩:=b4a (B:=B1) ho hm hb
  have ab:=za0.1 hd o (zbc hi)
  simp only[zag] at ab
  exact b9J hg ab.1 ab.2 af hf (a1K l K (l.drop (i+1)) _ B2 (ad _ fun x hx=>zd8 hx) hk)
 have:=a5H l K (o::l.drop (i+1)) (l.take i) ⟨env,B⟩ hs
 rw[← e] at this
 exact this
attribute [go_sem] b39
mutual
def Cell.rfOk (k len:Nat):Cell→Prop
  | .ptr j o=>(j==k)=true→o≤len
  | .clo _ caps=>Cell.rfOks k len caps
  |_=>True
def Cell.rfOks (k len:Nat):List Cell→Prop
  |[]=>True
  |c::cs=>Cell.rfOk k len c∧Cell.rfOks k len cs
end
mutual
def Cell.rf (k:Nat) (row:List C):Cell→Cell
  | .ptr j o=>bif j==k then .ref (row.drop o) else .ptr j o
  | .clo f caps=> .clo f (Cell.rfs k row caps)
  | .dat c=> .dat c
  | .own j m=> .own j m
  | .rp j s i f=> .rp j s i f
  | .arr j n=> .arr j n
  | .ref r=> .ref r
  | .mp j=> .mp j
def Cell.rfs (k:Nat) (row:List C):List Cell→List Cell
  |[]=>[]
  |c::cs=>Cell.rf k row c::Cell.rfs k row cs
end
mutual
def T.rfOk (k len:Nat):T→Prop
  | .one c=>c.rfOk k len
  | .agg cs=>Cell.rfOks k len cs
  | .tup ts=>T.rfOks k len ts
  |_=>True
def T.rfOks (k len:Nat):List T→Prop
  |[]=>True
  |t::ts=>T.rfOk k len t∧T.rfOks k len ts
end
mutual
def T.rf (k:Nat) (row:List C):T→T
  | .one c=> .one (c.rf k row)
  | .agg cs=>a9W (Cell.rfs k row cs)
  | .tup ts=> .tup (T.rfs k row ts)
  | .st r=> .st r
  | .un=> .un
def T.rfs (k:Nat) (row:List C):List T→List T
  |[]=>[]
  |t::ts=>T.rf k row t::T.rfs k row ts
end
theorem At.drop {M:Mem} {b:Nat} {mid:List Value} (h:At (M b) 0 mid) (o:Nat) (ho:o≤mid.length):At (M b) o (mid.drop o):=by
  obtain⟨c,et,fz,pre,post,e,h1,h2⟩:=h
  have:pre=[]:=zbk.1 h2
  subst this
  refine⟨c,et,fz,mid.take o,post,e,?_,by simp;omega⟩
  rw[h1,List.nil_append,← zb1,zbt]
def rfE (k:Nat) (row:List C):Env→Env
  |[]=>[]
  |p::env=>(p.1,p.2.rf k row)::rfE k row env
def Env.rfOk (k len:Nat):Env→Prop
  |[]=>True
  |p::env=>p.2.rfOk k len∧Env.rfOk k len env
def rfB (k:Nat) (row:List C):Bx→Bx
 |[]=>[]
 |p::B=>(match p.2 with
  | .cells cs=>(p.1, .cells (Cell.rfs k row cs))
  |r=>(p.1,r))::rfB k row B
def Bx.rfOk (k len:Nat):Bx→Prop
 |[]=>True
 |p::B=>(match p.2 with
  | .cells cs=>Cell.rfOks k len cs
  |_=>True)∧Bx.rfOk k len B
def c4I:List Cell→Option (List C)
 |[]=>some []
 | .dat c::cs=>match c4I cs with
  |some r=>some (c::r)
  |none=>none
 |_=>none
attribute [go_sem] rfE rfB Env.rfOk Bx.rfOk T.rf T.rfs Cell.rf Cell.rfs T.rfOk T.rfOks Cell.rfOk Cell.rfOks c4I zb2
end Go.Sx
namespace Go.Sx
variable {P:Program}
attribute [go_sem] c4G Bx.drops
theorem a9K.mk {g:FuncId} {us:List T} {env:Env} {B:Bx} {K:T→Bx→Prop} {r:T} {B1 B1':Bx} (h:PCX P g us B1 r B1') (h1:Bx.subL B1 B) (h2:a7P (B1.map (·.1))=true) (h3:a7o (B1'.map (·.1)) env B=true)
  (h4:r.inP (B1'.map (·.1)).contains=true) (h5:b93 (B1'.map (·.1)).contains B1'=true) (hK:K r (B1'++Bx.drops (B1.map (·.1)) B)):a9K P g us env B K:=
 ⟨r,B1,B1',h,h1,h2,h3,h4,h5,hK⟩
end Go.Sx
namespace Go.Sx
open Go.Proofs Go.Sort
variable {P:Program}
def valC:C→Value
  | .int k n=> .int k n
  | .bool b=> .bool b
  | .str l=> .string ⟨l.toArray⟩
  | .fn f=> .func (.func f) #[] #[]
  | .fnc _ _=>undef
  | .fnil=> .nilFunc
  | .err _=>undef
  | .sl _ _=>undef
  | .nil _=> .slice none 0 0
def b9K:C→Bool
  | .sl _ _=>false
  | .fnc _ _=>false
  | .err _=>false
  |_=>true
theorem c2G {M:Mem} {c:C} {v:Value} (h:b9K c=true):C.rep M c v↔v=valC c:=by
  cases c<;>simp_all [b9K,C.rep,valC]
theorem b0C {M:Mem}:∀ {r:List C} {vs:List Value},r.all b9K=true→(a0x M r vs↔vs=r.map valC)
 |[],vs,_=>by simp[a0x]
 |c::r,vs,h=>by
  simp only[List.all_cons,zag] at h
  simp only[a0x,c2G h.1,b0C h.2,lE]
  constructor
  ·rintro⟨v,q,e,rfl,rfl⟩;exact e
  ·rintro e;exact⟨_,_,e,rfl,rfl⟩
theorem a6L {M:Mem} {sz:Nat}:∀ {rows:List (List C)} {vs:List Value},(∀ r∈rows,r.all b9K=true∧r.length=sz)→(a0q M sz rows vs↔vs=(rows.map (·.map valC)).flatten)
 |[],vs,_=>by simp[a0q]
 |r::rows,vs,h=>by
  have h1:=h r (by simp)
  have ih:=fun vs=>a6L (M:=M) (sz:=sz) (rows:=rows) (vs:=vs) (fun r hr=>h r (zas _ hr))
  simp only[a0q,b0C h1.1,ih,lE,List.flatten_cons]
  constructor
  ·rintro⟨v1,v2,e,_,rfl,rfl⟩;exact e
  ·rintro e;exact⟨_,_,e,h1.2,rfl,rfl⟩
theorem b14 {α:Type} {enc:α→List Value} {k:Nat} (hk:∀ x,(enc x).length=k):∀ (l:List α) (t:Nat),t<l.length*k→∃ x v,l[t / k]?= some x∧(enc x)[t % k]?= some v∧((l.map enc).flatten)[t]?= some v
 |[],t,h=>by simp at h
 |x::l,t,h=>by
  have q:0<k:=by
   rcases zc4 k with e|e
   ·subst e;simp at h
   ·exact e
  simp only[List.length_cons,zby,zcf] at h
  by_cases ht:t<k
  ·have hv:t<(enc x).length:=by rw[hk];exact ht
   refine⟨x,(enc x)[t],by rw[Nat.div_eq_of_lt ht];rfl,by rw[Nat.mod_eq_of_lt ht,zav hv],?_⟩
   rw[lE,List.flatten_cons,zcg hv,zav hv]
  ·obtain⟨y,v,h1,h2,h3⟩:=b14 hk l (t-k) (by omega)
   have e1:t / k=(t-k) / k+1:=by rw[Nat.sub_eq_of_eq_add (show t=(t-k)+k by omega)];conv=>lhs;rw[show t=(t-k)+k by omega];rw[Nat.add_div_right _ q]
   have e2:t % k=(t-k) % k:=by conv=>lhs;rw[show t=(t-k)+k by omega];rw[Nat.add_mod_right]
   refine⟨y,v,by rw[e1];simpa using h1,by rw[e2];exact h2,?_⟩
   rw[lE,List.flatten_cons,zb0 (by rw[hk];omega),hk]
   exact h3
theorem b15 {α:Type} [Inhabited α] {enc:α→List Value} {k:Nat} (hk:∀ x,(enc x).length=k) (d:Array α):(flatK enc k d).toList=(d.toList.map enc).flatten:=by
 apply zc8
 intro t
 have u:((d.toList.map enc).flatten).length=d.size*k:=by
  rw[List.length_flatten,zcq]
  have:(List.length ∘ enc)=fun _=>k:=by funext x;exact hk x
  rw[this,List.map_const',List.sum_replicate_nat,Array.length_toList]
 by_cases ht:t<d.size*k
 ·obtain⟨x,v,h1,h2,h3⟩:=b14 hk d.toList t (by simpa using ht)
  rw[h3]
  have h4:=get_flatK enc k d t ht
  have q:t<(flatK enc k d).size:=by simpa using ht
  rw[zb3,zdg q,← getElem!_pos _ t q,h4]
  congr 1
  have hx:d[t / k]! =x:=by
   have:d[t / k]?= some x:=by simpa using h1
   simp[Array.getElem!_eq_getD,zd3,this]
  rw[hx]
  simp[h2]
 ·rw[zcr (by simp;omega),zcr (by omega)]
theorem b8r {w:World} {b:Nat} {c:Array Value} {et:TypeId} {fz:Nat×Nat} (f:Array Value→Array Value) (h:w.heap[b]?= some (.cells c et fz)):(mapBlock w b f).heap[b]?= some (.cells (f c) et fz):=by
  unfold mapBlock
  simp[zdr,h,onCells]
theorem b2Z {w:World} {b i:Nat} (f:Array Value→Array Value) (h:i≠b):(mapBlock w b f).heap[i]?= w.heap[i]?:= by
  unfold mapBlock
  simp[zdr,Ne.symm h]
theorem b8s {ρ:Go.Shelf.Ren} {α:Type} [Inhabited α] (L:SlLaysF0.n6 P ρ) {k:Nat} (aE:∀ w,(isAgg (ρ.t 24)).run P w= .ok true w) (zE:∀ w,(Go.sizeOf (ρ.t 24)).run P w= .ok k w)
  (u:α→List C) (ae:∀ x,(u x).all b9K=true) (hk:∀ x,(u x).length=k) (a2:∀ x,∀ v∈(u x).map valC,v.oneCell'=true) (cf:α→α→Int) (hO:SWO (ltOf cf)) (g:FuncId)
  (a8:Ent P g) (hg:∀ (x y:α) (W:World),Calls P g #[.agg ((u x).map valC).toArray, .agg ((u y).map valC).toArray] W fun e w'=>e= .returned (.int .i64 (cf x y))∧∃ q be,w'=grow (W.drewN q) be) (l:List α) (bm:l.length<4611686018427387904):
  ∃ s:List α,s.Perm l∧s.Pairwise (fun x y=>ltOf cf y x=false)∧
   PCB P (ρ.f 6) [.one (.own pin l.length), .one (.dat (.fn g))] [(pin, .row k (l.map u))] (.tup []) [(pin, .row k (s.map u))]:=by
 obtain⟨enc,aa⟩:∃ enc:α→List Value,enc=fun x=>(u x).map valC:=⟨_,rfl⟩
 have al:∀ x,(enc x).length=k:=fun x=>by simp[aa,hk]
 obtain⟨d,hd⟩:∃ d:Array α,d=l.toArray:=⟨_,rfl⟩
 have ad:=pdq_sorts (ltOf cf) hO d 0 d.size (Lib.bitLen d.size) true true (zao _) (zax _) (Or.inl rfl)
 obtain⟨d',au⟩:∃ d',d'=pdq (ltOf cf) d 0 d.size (Lib.bitLen d.size) true true:=⟨_,rfl⟩
 rw[← au] at ad
 have an:d.size=l.length:=by simp[hd]
 have af:d'.size=l.length:=by rw[ad.1.1,an]
 have a6:Ent P (ρ.f 6):=by
  obtain⟨nm,hn,hf⟩:=L.f6
  exact⟨_,hf,hn,rfl⟩
 refine⟨d'.toList,?_,?_,a6,?_⟩
 ·have:=ad.1.2.2
  rw[Array.extract_size,Array.extract_eq_self_of_le (by omega)] at this
  simpa [hd] using this
 ·rw[List.pairwise_iff_getElem]
  intro i j hi hj a7
  have h1:i<d'.size:=by simpa using hi
  have h2:j<d'.size:=by simpa using hj
  have:=ad.2 i j (zao _) a7 (by omega)
  rw[getElem!_pos _ i h1,getElem!_pos _ j h2] at this
  simpa using this
 intro M ν w vs hs hreps
 simp only[T.reps,T.rep,Cell.rep,C.rep] at hreps
 obtain⟨v1,bi,rfl,rfl,v2,bj,rfl,rfl,rfl⟩:=hreps
 have hr:=hs.res pin (.row k (l.map u)) (by simp)
 simp only[Res.ok,lB] at hr
 obtain⟨bk,ba,hr⟩:=hr
 rcases hr with⟨hn,bl⟩|⟨b,c,et,mid,post,hb,ab,ar,am,bb⟩
 ·have aq:l=[]:=zbk.1 (by omega)
  have bg:d'.toList=[]:=zbk.1 (by simp[af,aq])
  rw[bg,aq]
  rw[aq] at hs
  have:=AnyF.slices_SortFunc_none L none (ν pin).cap (.func (.func g) #[] #[]) w
  rw[hn]
  refine Calls.mono this ?_
  rintro e w' ⟨rfl,rfl⟩
  exact⟨_,M,rfl,Mem.ext.refl _ M,by simp[T.rep,T.reps],hs⟩
 ·have ah:mid=(flatK enc k d).toList:=by
   rw[b15 al]
   have:=(a6L (M:=M) (sz:=k) (rows:=l.map u) (vs:=mid) (fun r hr=>by
    obtain⟨x,_,rfl⟩:=za3.1 hr
    exact⟨ae x,hk x⟩)).1 am
   rw[this];simp[aa,hd,zcq,Function.comp_def]
  have aj:b<w.heap.size:=(zbi.1 ab).1
  have hH:HoldsK enc k w b 0 d:=by
   intro j hj
   have bc:j<mid.length:=by rw[ah];simpa using hj
   refine⟨?_,by simp[World.frozen?, ab]⟩
   simp only[World.cell?, ab,zbg,Option.isSome_none,zbs,za2]
   rw[← zb3,ar,zcg bc]
   have:mid[j]?= (flatK enc k d)[j]?:= by rw[ah,zb3]
   rw[this,getElem!_pos _ j hj,zdg hj];rfl
  have eg:∀ args w,(callFunc g args).run P w= .ok (.enter g args) w:=by
   intro args w
   obtain⟨fn,e1,e2,e3⟩:=a8
   cases ax:fn.body with
   |none=>rw[ax] at e3;cases e3
   |some cd=>exact enters_of e1 e2 ax args w
  have aw:CmpLays P g #[] enc k cf b 0 d.size w:=by
   intro m os dk bh x y
   have h0:=hg x y (sortWorldK enc k w b 0 m dk os)
   rw[aa]
   rw[aa] at h0
   exact h0
  have ag:=AnyQ.slices_SortFunc_eq L k aE zE enc al (by rw[aa];exact a2) cf hO g #[] b 0 (ν pin).cap d w eg aw hH aj (by omega)
  rw[hb]
  rw[← au,an] at ag
  refine Calls.mono ag ?_
  rintro e w' ⟨rfl,n,os,rfl⟩
  have ai:∀ i,i<w.heap.size→i≠b→(sortWorldK enc k w b 0 n d' os).heap[i]?= w.heap[i]?:= by
   intro i hi ak
   unfold sortWorldK
   rw[heap_grow_old _ _ (by show i<(mapBlock _ _ _).heap.size;simp[mapBlock,ahead];exact hi)]
   exact b2Z _ ak
  have bf:(sortWorldK enc k w b 0 n d' os).heap[b]?= some (.cells (putCells id 0 (flatK enc k d') c) et (0,0)):=by
   unfold sortWorldK
   rw[heap_grow_old _ _ (by show b<(mapBlock _ _ _).heap.size;simp[mapBlock,ahead];exact aj)]
   exact b8r _ ab
  have az:(putCells id 0 (flatK enc k d') c).toList=(flatK enc k d').toList++post:=by
   have ap:(flatK enc k d').size=mid.length:=by rw[ah];simp[af,an]
   apply zc8
   intro t
   rw[zb3]
   unfold putCells
   rw[Array.getElem?_mapIdx]
   by_cases ht:t<mid.length
   ·rw[zcg (by rw[Array.length_toList,ap];exact ht),zb3]
    have bd:t<c.size:=by rw[← Array.length_toList,ar,zba];omega
    rw[zdg bd,Option.map_some,zaz ⟨zao _,by omega⟩,Nat.sub_zero,getElem!_pos _ t (by omega),zdg (by omega)]
    rfl
   ·rw[zb0 (by rw[Array.length_toList,ap];omega),Array.length_toList,ap]
    have:c[t]?= post[t-mid.length]?:= by rw[← zb3,ar,zb0 (by omega)]
    rw[this]
    cases post[t-mid.length]? with
    |none=>rfl
    |some y=>rw[Option.map_some,za5 (by omega)]
  have ao:=hs.away pin (.row k (l.map u)) b (by simp) hb
  have a1:a0v [(pin,Res.row k (l.map u))] ν b:=⟨pin, .row k (l.map u),by simp,hb⟩
  refine⟨_,M,rfl,Mem.ext.refl _ M,by simp[T.rep,T.reps],⟨rfl,rfl,rfl,?_,?_,?_,?_,?_,?_,?_,by simp⟩⟩
  ·exact zao _
  ·show w.heap.size≤(sortWorldK enc k w b 0 n d' os).heap.size
   simp[sortWorldK,grow,putRowK,putRow,mapBlock,ahead]
  ·intro i hi hD
   exact ai i hi (fun e=>hD (by rw[e];exact a1))
  ·intro i o ho
   have h1:=hs.fro i o ho
   have hi:i<w.heap.size:=(zbi.1 h1).1
   have ak:i≠b:=by intro e;subst e;rw[ao.1] at ho;cases ho
   rw[ai i hi ak];exact h1
  ·intro j r hm
   simp only[za7,Prod.mk.injEq] at hm
   obtain⟨rfl,rfl⟩:=hm
   simp only[Res.ok,lB,Array.length_toList]
   refine⟨by omega,ba, .inr ⟨b,_,et,_,post,hb,bf,az,?_,?_⟩⟩
   ·rw[b15 al]
    refine(a6L (fun r hr=>by
     obtain⟨x,_,rfl⟩:=za3.1 hr
     exact⟨ae x,hk x⟩)).2 ?_
    simp[aa,zcq,Function.comp_def]
   ·rw[← bb];simp[putCells]
  ·intro j r i hm hi
   simp only[za7,Prod.mk.injEq] at hm
   obtain⟨rfl,rfl⟩:=hm
   exact hs.away pin (.row k (l.map u)) i (by simp) hi
  ·intro j r j' r' i hm av _ _
   simp only[za7,Prod.mk.injEq] at hm av
   rw[hm.1,av.1]
end Go.Sx
namespace Go.Proofs.YtoelgackkclcmaaGreat
open Go Go.Sx
structure Pat where
  kind:Int
  num:Int
  text:List UInt8
  kids:List Pat
  keys:List KeyD
mutual
def a1d:Pat→List C
  |⟨kind,num,text,kids,keys⟩=>[.int .i64 kind, .int .i64 num, .str text, .sl 5 (b9L kids), .sl 2 (keys.map a0i)]
def b9L:List Pat→List (List C)
  |[]=>[]
  |g::l=>a1d g::b9L l
end
theorem b67:∀ l:List Pat,b9L l=l.map a1d
  |[]=>by simp only[b9L,za6]
  |g::l=>by simp only[b9L,lE,b67 l]
theorem a0f (g:Pat):a1d g=[.int .i64 g.kind, .int .i64 g.num, .str g.text, .sl 5 (g.kids.map a1d), .sl 2 (g.keys.map a0i)]:=by cases g;simp only[a1d,b67]
theorem a93 (x:Pat):a1d x=[.int .i64 x.kind, .int .i64 x.num, .str x.text, .sl 5 (x.kids.map a1d), .sl 2 (x.keys.map a0i)]:=a0f x
@[go_sem] theorem d0H (x:Pat):a1H 5 (a1d x)=some (a1d x,[]):=by rw[a0f];rfl
@[go_sem low] theorem c8V (x:Pat) (k:Nat):a1H k (a1d x)=a1H k [.int .i64 x.kind, .int .i64 x.num, .str x.text, .sl 5 (x.kids.map a1d), .sl 2 (x.keys.map a0i)]:=by rw[a93]
@[go_sem] theorem c8W (x:Pat):a1H 5 ((a1d x).map Cell.dat)=some ((a1d x).map Cell.dat,[]):=by rw[a0f];rfl
@[go_sem low] theorem c8f (x:Pat) (k:Nat):a1H k ((a1d x).map Cell.dat)=a1H k (([.int .i64 x.kind, .int .i64 x.num, .str x.text, .sl 5 (x.kids.map a1d), .sl 2 (x.keys.map a0i)]:List C).map Cell.dat):=by rw[a93]
@[go_sem] theorem c8X (x:Pat):(a1d x).map C.soft=a1d x:=by rw[a0f];rfl
@[go_sem] theorem d0I (x:Pat):a1Z 5 (a1d x)=true:=by rw[a0f];rfl
@[go_sem high] theorem c8g (x:Pat) (n:Nat) (K:T→Prop):a5p false n (a1d x) K=K (.one (.dat (.int .i64 x.kind))):=by rw[a93];rfl
@[go_sem high] theorem c8h (x:Pat) (n:Nat) (K:T→Prop):a5Y false n ((a1d x).map Cell.dat) K=K (.one (.dat (.int .i64 x.kind))):=by rw[a93];rfl
@[go_sem] theorem c8Y (x:Pat):a1Z 5 ((a1d x).map Cell.dat)=true:=by rw[a0f];rfl
mutual
def cntP:Pat→Nat
  |⟨_,_,_,kids,_⟩=>1+a10 kids
def a10:List Pat→Nat
  |[]=>0
  |g::l=>cntP g+a10 l
end
theorem a19 (g:Pat):cntP g=1+a10 g.kids:=by cases g;simp only[cntP]
theorem b0D:∀ {l:List Pat} {g:Pat},g∈l→cntP g≤a10 l
 |x::l,g,h=>by
  simp only[a10]
  rcases zal.1 h with rfl|h
  ·omega
  ·have:=b0D h;omega
theorem a1V {l:List Pat} {k:Nat} {x:Pat} (hx:l[k]?= some x):a10 (l.take (k+1))=a10 (l.take k)+cntP x:=by
 induction l generalizing k with
 |nil=>simp at hx
 |cons y l ih=>
  cases k with
  |zero=>simp at hx;subst hx;simp[a10]
  |succ k=>have:=ih (k:=k) (by simpa using hx);simp only[List.take_succ_cons,a10,this];omega
theorem a21 (l:List Pat) (k:Nat):a10 (l.take k)≤a10 l:=by
 induction l generalizing k with
 |nil=>simp
 |cons y l ih=>cases k with
  |zero=>simp[a10]
  |succ k=>have:=ih k;simp only[List.take_succ_cons,a10];omega
abbrev PSm (g:Pat):Prop:=cntP g≤100000000
theorem a1C {g k:Pat} (h:k∈g.kids):cntP k<cntP g:=by have:=a19 g;have:=b0D h;omega
theorem PSm.kid {g:Pat} (h:PSm g):∀ k∈g.kids,PSm k:=fun k hk=>by have:=a1C hk;unfold PSm at *; omega
theorem b4b {a b:Nat} (h:a+b≤1000000000):IntKind.i64.wrap ((a:Int)+(b:Int))=((a+b:Nat):Int):=by rw[w64 (by omega)];omega
abbrev Pt (g:Pat):T:= .st (a1d g)
theorem b9M (g:Pat) (hg:PSm g):PC Tryz.prog 77 [Pt g] (I .i64 (cntP g)):=by
 have ih:∀ k∈g.kids,PC Tryz.prog 77 [Pt k] (I .i64 (cntP k)):=fun k hk=>b9M k (hg.kid k hk)
 unfold PSm at hg
 have ai:=a19 g
 refine PCB.ob Tryz.func77 Tryz.ntmps77 Tryz.results77 ?_
 repeat'(first|simp only[go_sem,a0f g,lB]<;>refine nf ?_|refine stp ?_;intro K hK|apply hK;clear hK K|refine stn ?_|fail)
 refine AWP.len 7 rfl fun q=>?_
 (try rw[lB] at q)
 refine AWP.range (S:=Nat) (g.kids) a1d (fun k s=>(9,I .i64 (k:Nat))::[(3,I .i64 (s:Nat))]) (fun k s=>[]) [7,8] [] (fun k s=>Is s (1+a10 (g.kids.take k))) (1) (by simp only[go_sem,a0f];exact Gh.tt []) ?_ ?_ ?_
 ·simp[Is,a10]
 ·intro k s x af hx ab hb aa
  unfold Is at aa
  refine sts ?_
  have ad:=ih x (zbc hx)
  have ag:=a1V hx
  have ah:=a21 g.kids (k+1)
  have hw:=b4b (a:=s) (b:=cntP x) (by omega)
  repeat'(first|simp only[go_sem,lB,hb,hw]<;>refine nf ?_|refine stp ?_;intro K hK|apply hK;clear hK K|refine stn ?_|(with_reducible first|refine⟨_,ad,?_⟩|refine⟨by omega,a1d x,ab,?_⟩)|refine stq ?_|clear hK K)
  all_goals(rw[a0b af q])
  all_goals(refine⟨s+cntP x,?_,Gh.tt []⟩)
  all_goals(show _=_;omega)
 intro s0 ae u
 refine sts ?_
 rw[Is,zbh] at u
 repeat'(first|simp only[go_sem,lB,ae]<;>refine nf ?_|refine stp ?_;intro K hK|apply hK;clear hK K|refine stn ?_|clear hK K)
 all_goals(refine a0m ?_;rw[show cntP g=s0 by omega])
termination_by cntP g
decreasing_by exact a1C hk
theorem b16 (g:Pat) (hg:PSm g):PC Tryz.prog 154 [Pt g] (I .i64 (cntP g)):=by
 have ih:∀ k∈g.kids,PC Tryz.prog 154 [Pt k] (I .i64 (cntP k)):=fun k hk=>b16 k (hg.kid k hk)
 unfold PSm at hg
 have ai:=a19 g
 refine PCB.ob Tryz.func154 Tryz.ntmps154 Tryz.results154 ?_
 repeat'(first|simp only[go_sem,a0f g,lB]<;>refine nf ?_|refine stp ?_;intro K hK|apply hK;clear hK K|refine stn ?_|fail)
 refine AWP.lenB 1 3 rfl rfl fun q=>?_
 (try rw[lB] at q)
 refine AWP.range (S:=Nat) (g.kids) a1d (fun k s=>(4,I .i64 (k:Nat))::[(3,I .i64 (s:Nat))]) (fun k s=>[]) [1] [1] (fun k s=>Is s (1+a10 (g.kids.take k))) (1) (by simp only[go_sem,a0f];exact Gh.tt []) ?_ ?_ ?_
 ·simp[Is,a10]
 ·intro k s x af hx ab hb aa
  unfold Is at aa
  refine sts ?_
  have ad:=ih x (zbc hx)
  have ag:=a1V hx
  have ah:=a21 g.kids (k+1)
  have hw:=b4b (a:=s) (b:=cntP x) (by omega)
  repeat'(first|simp only[go_sem,a0f g,lB,hb,hw]<;>refine nf ?_|refine stp ?_;intro K hK|apply hK;clear hK K|refine stn ?_|(with_reducible first|refine⟨_,ad,?_⟩|refine⟨by omega,a1d x,ab,?_⟩)|refine stq ?_|clear hK K)
  all_goals(rw[a0b af q])
  all_goals(refine⟨s+cntP x,?_,Gh.tt []⟩)
  all_goals(show _=_;omega)
 intro s0 ae u
 refine sts ?_
 rw[Is,zbh] at u
 repeat'(first|simp only[go_sem,a0f g,lB,ae]<;>refine nf ?_|refine stp ?_;intro K hK|apply hK;clear hK K|refine stn ?_|clear hK K)
 all_goals(refine a0m ?_;rw[show cntP g=s0 by omega])
termination_by cntP g
decreasing_by exact a1C hk
theorem b5K (F:FuncId) (p:Pat→Bool) (l:List Pat) (hp:∀ g∈l,PC Tryz.prog F [Pt g] (Bo (p g))):
  PC Tryz.prog 192 [.one (.dat (.sl 5 (l.map a1d))), .one (.dat (.fn F))] (I .i64 (a1F p 0 l)):=by
 refine PCB.ob Tryz.func192 Tryz.ntmps192 Tryz.results192 ?_
 repeat'(first|simp only[go_sem,lB]<;>refine nf ?_|refine stp ?_;intro K hK|apply hK;clear hK K|refine stn ?_|fail)
 refine AWP.len 0 rfl fun q=>?_
 (try rw[lB] at q)
 refine AWP.range (S:=Unit) (l) a1d (fun k s=>(8,I .i64 (k:Nat))::[]) (fun k s=>[]) [0,1,7] [] (fun k s=>a1F p 0 l=a1F p k (l.drop k)) (()) (by refine sts ?_;exact Gh.tt []) ?_ ?_ ?_
 ·rfl
 ·intro k s x af hx ab hb u
  refine sts ?_
  have ad:=hp x (zbc hx)
  rw[a5P p l k x hx] at u
  cases hz:p x<;>simp only[hz,zaa,zab] at u
  ·
   repeat'(first|simp only[go_sem,lB,hb,hz]<;>refine nf ?_|refine stp ?_;intro K hK|apply hK;clear hK K|refine stn ?_|(with_reducible first|refine⟨_,ad,?_⟩|refine⟨by omega,a1d x,ab,?_⟩)|refine stq ?_|clear hK K)
   all_goals(rw[a0b af q])
   all_goals(refine⟨(),?_,Gh.tt []⟩)
   all_goals exact u
  ·
   repeat'(first|simp only[go_sem,lB,hb,hz]<;>refine nf ?_|refine stp ?_;intro K hK|apply hK;clear hK K|refine stn ?_|(with_reducible first|refine⟨_,ad,?_⟩|refine⟨by omega,a1d x,ab,?_⟩)|refine stq ?_|clear hK K)
   all_goals(first|exact lf|(refine a0m ?_;simp only[u,zb,zaa,zab,zac,zad]<;>rfl))
 intro s0 ae aa
 refine sts ?_
 rw[zbw] at aa
 repeat'(first|simp only[go_sem,lB,ae]<;>refine nf ?_|refine stp ?_;intro K hK|apply hK;clear hK K|refine stn ?_|clear hK K)
 all_goals(refine a0m ?_;rw[aa];rfl)
theorem b8t (F:FuncId) (p:Pat→Bool) (l:List Pat) (hp:∀ g∈l,PC Tryz.prog F [Pt g] (Bo (p g))):
  PC Tryz.prog 134 [.one (.dat (.sl 5 (l.map a1d))), .one (.dat (.fn F))] (Bo (l.any p)):=by
 have h:=b5K F p l hp
 refine PCB.ob Tryz.func134 Tryz.ntmps134 Tryz.results134 ?_
 repeat'(first|simp only[go_sem]<;>refine nf ?_|refine stp ?_;intro K hK|apply hK;clear hK K|refine stn ?_|(with_reducible refine⟨_,h,?_⟩)|refine stq ?_|fail)
 all_goals(refine a0m ?_;rw[show decide (0≤a1F p 0 l)=l.any p from by rw[← zbj];simpa using a69 p l 0])
end Go.Proofs.YtoelgackkclcmaaGreat
namespace Go.Sx
open Go.RowKit Go.ChangeShapes Go.WideShapes
variable {P:Program}
structure Blk {H:Type} (β:DataW H→Nat):Prop where
  lit:∀ l,1≤β (.lit l)
  str:∀ l,l.length+1≤β (.lit (.string l))
  nil:1≤β .nil
  sl:∀ a b,(a.map β).sum+1≤β (.slice a b)
  agg:∀ a,(a.map β).sum≤β (.agg a)
section
variable {H:Type} {enc:TypeId×Value→H} {w:World} {base:Nat} {spare:Nat→Bool} {held:Bool} {β:DataW H→Nat}
end
end Go.Sx


