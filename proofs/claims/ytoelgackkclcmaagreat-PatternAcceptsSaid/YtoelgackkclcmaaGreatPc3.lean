/- Lemmas. -/
import Derived.Test.YtoelgackkclcmaaGreatPc2
import Derived.Lib.SliceRun
import Derived.Shelf.SortM.Plain
import Derived.Shelf.SortM.SortNone
import Derived.Shelf.SlicesG.CompactS
set_option linter.unusedSimpArgs false
set_option linter.unusedVariables false
namespace Go.Sx
variable {P:Program} {n:Nat} {Q:Exit→AS→Prop}
mutual
def Cell.frAOk (k len:Nat):Cell→Prop
  | .arr j m=>(j==k)=true→m=len
  | .clo _ caps=>Cell.frAOks k len caps
  |_=>True
def Cell.frAOks (k len:Nat):List Cell→Prop
  |[]=>True
  |c::cs=>Cell.frAOk k len c∧Cell.frAOks k len cs
end
mutual
def Cell.frA (k sz:Nat) (rows:List (List C)):Cell→Cell
  | .own j m=> .own j m
  | .clo f caps=> .clo f (Cell.frsA k sz rows caps)
  | .dat c=> .dat c
  | .ptr j o=> .ptr j o
  | .rp j s i f=> .rp j s i f
  | .arr j m=>bif j==k then .dat (.sl sz rows) else .arr j m
  | .ref r=> .ref r
  | .mp j=> .mp j
def Cell.frsA (k sz:Nat) (rows:List (List C)):List Cell→List Cell
  |[]=>[]
  |c::cs=>Cell.frA k sz rows c::Cell.frsA k sz rows cs
end
mutual
def T.frAOk (k len:Nat):T→Prop
  | .one c=>c.frAOk k len
  | .agg cs=>Cell.frAOks k len cs
  | .tup ts=>T.frAOks k len ts
  |_=>True
def T.frAOks (k len:Nat):List T→Prop
  |[]=>True
  |t::ts=>T.frAOk k len t∧T.frAOks k len ts
end
mutual
def T.frA (k sz:Nat) (rows:List (List C)):T→T
  | .one c=> .one (c.frA k sz rows)
  | .agg cs=>a9W (Cell.frsA k sz rows cs)
  | .tup ts=> .tup (T.frsA k sz rows ts)
  | .st r=> .st r
  | .un=> .un
def T.frsA (k sz:Nat) (rows:List (List C)):List T→List T
  |[]=>[]
  |t::ts=>T.frA k sz rows t::T.frsA k sz rows ts
end
def d1k (k sz:Nat) (rows:List (List C)):Env→Env
  |[]=>[]
  |p::env=>(p.1,p.2.frA k sz rows)::d1k k sz rows env
def Env.frAOk (k len:Nat):Env→Prop
  |[]=>True
  |p::env=>p.2.frAOk k len∧Env.frAOk k len env
def d1l (k sz:Nat) (rows:List (List C)):Bx→Bx
 |[]=>[]
 |p::B=>(match p.2 with
  | .cells cs=>(p.1, .cells (Cell.frsA k sz rows cs))
  |r=>(p.1,r))::d1l k sz rows B
def Bx.frAOk (k len:Nat):Bx→Prop
 |[]=>True
 |p::B=>(match p.2 with
  | .cells cs=>Cell.frAOks k len cs
  |_=>True)∧Bx.frAOk k len B
attribute [go_sem] Cell.frAOk Cell.frAOks T.frAOk T.frAOks Cell.frA Cell.frsA T.frA T.frsA d1k d1l Env.frAOk Bx.frAOk
def rn:List (Nat×Nat)→Nat→Nat
  |[],i=>i
  |p::l,i=>bif i==p.1 then p.2 else rn l i
def b4v:List (Nat×Nat)→Bool
  |[]=>true
  |p::l=>Nat.blt p.1 pin&&(Nat.blt p.2 pin&&b4v l)
theorem c5g:∀ {l:List (Nat×Nat)},b4v l=true→∀ k,pin≤k→rn l k=k
 |[],_,k,_=>rfl
 |p::l,h,k,hk=>by
  simp only[b4v,zag] at h
  have h1:p.1<pin:=by simpa using h.1
  unfold rn
  have:(k==p.1)=false:=by simp;omega
  rw[this];exact c5g h.2.2 k hk
theorem c5h:∀ {l:List (Nat×Nat)},b4v l=true→∀ k,k<pin→rn l k<pin
 |[],_,k,hk=>hk
 |p::l,h,k,hk=>by
  simp only[b4v,zag] at h
  have h2:p.2<pin:=by simpa using h.2.1
  unfold rn
  cases (k==p.1)
  ·exact c5h h.2.2 k hk
  ·exact h2
def wkE (l:List (Nat×Nat)) (env:Env):Env→Prop
  |[]=>True
  |p::τ=>env.lookup p.1=some (p.2.ren (rn l))∧wkE l env τ
def wkB (l:List (Nat×Nat)) (B:Bx):Bx→Prop
  |[]=>True
  |p::τ=>B.lookup (rn l p.1)=some (p.2.ren (rn l))∧wkB l B τ
theorem b7u {l:List (Nat×Nat)} {env:Env}:∀ {τ:Env},wkE l env τ→∀ p∈τ,env.lookup p.1=some (p.2.ren (rn l))
 |q::τ,h,p,hm=>by
  rcases zal.1 hm with rfl|hm
  ·exact h.1
  ·exact b7u h.2 p hm
theorem b7v {l:List (Nat×Nat)} {B:Bx}:∀ {τ:Bx},wkB l B τ→∀ p∈τ,(rn l p.1,p.2.ren (rn l))∈B
 |q::τ,h,p,hm=>by
  rcases zal.1 hm with rfl|hm
  ·exact a0O h.1
  ·exact b7v h.2 p hm
theorem Gh.to {env:Env} {B:Bx} (l:List (Nat×Nat)) {τ:AS} (h1:wkE l env τ.env) (h2:wkB l B τ.B) (h3:b3a (τ.B.map fun p=>rn l p.1)=true) (h4:b3a (τ.B.map (·.1))=true) (h5:b4v l=true):Gh n ⟨env,B⟩ τ:=by
  intro κ M0 a w s
  exact s.weak (ρ:=rn l) ⟨b7u h1,b7v h2,a7v h3,a7v h4,c5g h5,c5h h5⟩
theorem AWP.loopS {c:Code} {σ:AS} {X:Type} (env:X→Env) (box:X→Bx) (ok:X→Prop) (u:X→Nat) (x₀:X) (hs:Gh n σ ⟨env x₀,box x₀⟩) (h₀:ok x₀)
  (aa:∀ x,ok x→AWP P n c ⟨env x,box x⟩ (c4C (fun σ'=>∃ x',u x'<u x∧ok x'∧Gh n σ' ⟨env x',box x'⟩) Q)):AWP P n (.loop c) σ Q:=by
 refine AWP.gh hs ?_
 refine AWP.loop (fun k σ=>∃ x,σ=⟨env x,box x⟩∧ok x∧u x=k) (u x₀) ⟨x₀,rfl,h₀,rfl⟩ ?_
 rintro k _ ⟨x,rfl,hx,rfl⟩ κ M0 a w s
 refine wp_mono (aa x hx κ M0 a w s) ?_
 rintro e a' w' ⟨σ',s',q⟩
 cases e with
 |normal=>obtain⟨x',h1,h2,h3⟩:=q;exact⟨_,h3 κ M0 a' w' s',u x',h1,x',rfl,h2,rfl⟩
 |exit id=>exact⟨σ',s',q⟩
 |goto l=>exact⟨σ',s',q⟩
 |ret=>exact⟨σ',s',q⟩
 |panic ch=>exact⟨σ',s',q⟩
 |outgrown=>exact⟨σ',s',q⟩
theorem a1k.mk {f:FuncId} {q:List T} {aa u:Res} {r0:T} (k:Nat) (h:PCB P f q [(pin,aa)] r0 [(pin,u)]):
  a1k P f (T.rens (fun _=>k) q) k (aa.ren fun _=>k) (r0.ren fun _=>k) (u.ren fun _=>k):=⟨_,_,_,_,h,rfl,rfl,rfl,rfl⟩
theorem a1k.sorts {f:FuncId} {g:FuncId} {sz:Nat} {rows q:List (List C)} {m:Nat} (k:Nat) (h:PCB P f [.one (.own pin m), .one (.dat (.fn g))] [(pin, .row sz rows)] (.tup []) [(pin, .row sz q)]):
  a1k P f [.one (.own k m), .one (.dat (.fn g))] k (.row sz rows) (.tup []) (.row sz q):=a1k.mk k h
def GhQ (n:Nat) (Q:Exit→AS→Prop) (e:Exit) (σ:AS):Prop:=∃ τ,Gh n σ τ∧Q e τ
theorem AWP.ghQ {c:Code} {σ:AS} (h:AWP P n c σ (GhQ n Q)):AWP P n c σ Q:=by
  intro κ M0 a w s
  refine wp_mono (h κ M0 a w s) ?_
  rintro e a' w' ⟨σ',s',τ,g,q⟩
  exact⟨τ,g κ M0 a' w' s',q⟩
theorem GhQ.step {Q:Exit→AS→Prop} {e:Exit} {σ τ:AS} (h:Gh n σ τ) (k:GhQ n Q e τ):GhQ n Q e σ:=by
  obtain⟨ρ,h2,q⟩:=k
  exact⟨ρ,h.trans h2,q⟩
theorem a0m {A:Prop} {B:Bx} (h:A):A∧∀ x∈([]:Bx),x∈B:=⟨h,fun _ h=>by cases h⟩
theorem a0b {k m:Nat} (h:k<m) (hm:m≤9223372036854775807):IntKind.i64.wrap ((k:Int)+1)=((k+1:Nat):Int):=by rw[w64 (by omega)];rfl
theorem a1A {α:Type} {enc:α→List C} {l:List α} {k:Nat} (h:k<l.length):∃ d,l[k]?= some d∧(l.map enc)[k]?= some (enc d)∧decide ((k:Int)<(l.length:Int))=true∧l.drop k=d::l.drop (k+1):=
  ⟨l[k],by simp[h],by simp[h],by simpa using h,za8 h⟩
theorem c3p {α:Type} {l:List α} {k:Nat} (h:¬ k<l.length):decide ((k:Int)<(l.length:Int))=false∧l.drop k=[]:=⟨by simpa using h,zci (by omega)⟩
@[go_sem] theorem c0u (k n:Nat):∀ r:List C,Cell.frOks k n (r.map .dat)=True
  |[]=>by simp[Cell.frOks]
  |c::r=>by simp only[zau,Cell.frOks,Cell.frOk,c0u k n r,and_true]
@[go_sem] theorem c67 (k sz:Nat) (rows:List (List C)):∀ r:List C,Cell.frs k sz rows (r.map .dat)=r.map .dat
  |[]=>rfl
  |c::r=>by simp only[zau,Cell.frs,Cell.fr,c67 k sz rows r]
@[go_sem] theorem c3q (ρ:Nat→Nat):∀ r:List C,Cell.rens ρ (r.map .dat)=r.map .dat
  |[]=>rfl
  |c::r=>by simp only[zau,Cell.rens,Cell.ren,c3q ρ r]
@[go_sem] theorem b8C (k n:Nat):∀ r:List C,Cell.frAOks k n (r.map .dat)=True
  |[]=>by simp[Cell.frAOks]
  |c::r=>by simp only[zau,Cell.frAOks,Cell.frAOk,b8C k n r,and_true]
@[go_sem] theorem c3r (k sz:Nat) (rows:List (List C)):∀ r:List C,Cell.frsA k sz rows (r.map .dat)=r.map .dat
  |[]=>rfl
  |c::r=>by simp only[zau,Cell.frsA,Cell.frA,c3r k sz rows r]
attribute [go_sem] rn b4v wkE wkB
end Go.Sx
namespace Go.Sx
variable {P:Program} {n:Nat}
theorem Gh.soft {env:Env} {B:Bx} (j:Nat) {cs:List Cell} (hb:B.lookup j=some (.cells cs)):Gh n ⟨env,B⟩ ⟨env,Bx.put j (.cells (cs.map Cell.soft)) B⟩:=by
 intro κ M0 a w s
 obtain⟨M,ν,h1,h2,h3,h4,h5,h6⟩:=s
 have u:=a0O hb
 have q:∀ i r,(i,r)∈Bx.put j (.cells (cs.map Cell.soft)) B→∃ r0,(i,r0)∈B:=by
  intro i r hm
  rcases Bx.mem_put h5.nodup hm with e|⟨hm,_⟩
  ·cases e;exact⟨_,u⟩
  ·exact⟨r,hm⟩
 refine⟨M,ν,h1,h2,h3,h4,⟨h5.os,h5.tape,h5.output,zao _,h5.size,h5.unch,h5.fro,?_,?_,?_,?_⟩,h6⟩
 ·intro i r hm
  rcases Bx.mem_put h5.nodup hm with e|⟨hm,_⟩
  ·cases e
   have h0:=h5.res j _ u
   simp only[Res.ok] at h0 ⊢
   obtain⟨b,c,et,g1,g2,g3⟩:=h0
   exact⟨b,c,et,g1,g2,Cell.reps_soft g3⟩
  ·exact h5.res i r hm
 ·intro i r b hm aa
  obtain⟨r0,h0⟩:=q i r hm
  exact h5.away i r0 b h0 aa
 ·intro i r i' r' b hm ad aa ab
  obtain⟨r0,h0⟩:=q i r hm
  obtain⟨r1,h1⟩:=q i' r' ad
  exact h5.inj i r0 i' r1 b h0 h1 aa ab
 ·rw[Bx.put_keys];exact h5.nodup
theorem AWP.nilR {Q:Exit→AS→Prop} {id d x b k:Nat} {ty t1 t2:TypeId} {p1 p2:String} {ae u:Array Edge} {e:TypeId} {rows:List (List C)} {env:Env} {B:Bx} (hd:env.lookup d=some (.one (.dat (.sl k rows)))) (hx:x<n) (hb:b<n)
  (ah:P.underlying ty=some (.slice e)) (ht:rows=[]→Q .normal ⟨(b,Bo true)::(x, .one (.dat (.sl k rows)))::env,B⟩) (hf:Q .normal ⟨(b,Bo false)::(x, .one (.dat (.sl k rows)))::env,B⟩):
  AWP P n (.region id #[⟨some x, .move (.tmp d),t1,p1,ae,none⟩,⟨some b, .binOp .eql ty (.tmp x) (.const (.slice none 0 0)) ty,t2,p2,u,none⟩] false) ⟨env,B⟩ Q:=by
 intro κ M0 a w hs
 refine wp_region_lit (l:=[_,_]) ?_
 obtain⟨M,ν,h1,h2,h3,h4,h5,h6⟩:=hs
 have hv:=h4 d _ hd
 simp only[T.rep,Cell.rep,C.rep] at hv
 obtain⟨ad,cap,mid,ev,ai,ak,aj,af⟩:=hv
 have ab:(T.one (.dat (.sl k rows))).rep M ν (a.tmps.getD d undef):=h4 d _ hd
 have q:=a6m (t:= .one (.dat (.sl k rows))) (v:=a.eval (.tmp d)) (dst:=some x) h1 h2 h3 h4 (Mem.ext.refl κ M) (by intro d' e';cases e';exact hx) ab h5 h6
 unfold wpList
 rw[zaz (by rfl)]
 left
 have ao:(execOp a.eval ⟨some x, .move (.tmp d),t1,p1,ae,none⟩).run P w= .ok (.value (a.eval (.tmp d))) w:=rfl
 unfold Oper.wp
 rw[ao]
 simp only[Oper.upon]
 unfold wpList
 rw[zaz (by rfl)]
 left
 obtain⟨a1,am⟩:∃ a1,a1=a.put (some x) (a.eval (.tmp d)):=⟨_,rfl⟩
 rw[← am] at q ⊢
 obtain⟨M1,ν1,g1,g2,g3,g4,g5,g6⟩:=q
 have an:=g4 x (.one (.dat (.sl k rows))) (by simp[AS.put])
 have hv:=an
 simp only[T.rep,Cell.rep,C.rep] at hv
 obtain⟨ad,cap,mid,ev,ai,ak,aj,af⟩:=hv
 have ex:a1.eval (.tmp x)= .slice ad rows.length cap:=ev
 have al:(execOp a1.eval ⟨some b, .binOp .eql ty (.tmp x) (.const (.slice none 0 0)) ty,t2,p2,u,none⟩).run P w= .ok (.value (.bool ad.isNone)) w:=by
  have ag:(execOp a1.eval ⟨some b, .binOp .eql ty (.tmp x) (.const (.slice none 0 0)) ty,t2,p2,u,none⟩).run P w=((eqGuard .eql ty (.tmp x) (.const (.slice none 0 0)) (a1.eval (.tmp x)) (a1.eval (.const (.slice none 0 0)))).run P w).andThen fun _ w=>((binOp .eql ty (a1.eval (.tmp x)) (a1.eval (.const (.slice none 0 0)))).run P w).andThen fun v w=> .ok (.value v) w:=by
   unfold execOp
   simp only[Sem.run_bind,Sem.run_pure]
   cases (eqGuard .eql ty (.tmp x) (.const (.slice none 0 0)) (a1.eval (.tmp x)) (a1.eval (.const (.slice none 0 0)))).run P w<;>rfl
  rw[ag,a8g .eql ty _ _ w (by rw[ex];simp) (by intro c;rw[ex];simp),ex]
  have:a1.eval (.const (.slice none 0 0))= .slice none 0 0:=rfl
  rw[this]
  simp only[Result.andThen_ok,Lib.run_eql_slice_nil w ty e ad _ _ _ _ ah]
 unfold Oper.wp
 rw[al]
 simp only[Oper.upon]
 have aa:=a6m (t:=Bo ad.isNone) (v:= .bool ad.isNone) (dst:=some b) g1 g2 g3 g4 (Mem.ext.refl κ M1) (by intro d' e';cases e';exact hb) (a1q.2 rfl) g5 g6
 unfold wpList
 refine⟨_,aa,?_⟩
 cases ad with
 |none=>
  refine ht ?_
  rcases af with h|⟨_,_,h,_⟩
  ·exact h
  ·cases h
 |some _=>exact hf
end Go.Sx
namespace Go.Sx
variable {P:Program} {n:Nat} {σ:AS} {Q:Exit→AS→Prop}
theorem b8D {κ:Kap} {M0:Mem} {l:List Oper} {fx:Nat→Bx} {t:Nat→T} {b:Nat→Bx} {e:Nat→Bool} {jn:Nat→Option Nat} {env0:Env} {Q':Exit→Act→World→Prop}
  (bn:b9w l) (am:b2U l) (bt:b29 l e)
  (hs:∀ i o,l[i]?= some o→b2f P n l (fx i) o (a1G l t (fun _=>true) env0 i) (b i) (t i) (b (i+1)) (e i) (jn i)) (hf:∀ i m,i<l.length→m≤l.length→(∀ j,j<m→e j=true→a81 l j i=false)→∀ x∈fx i,x∈b m)
  (b0:∀ g k j,jn g=some j→g<k→k<l.length→(t k).fresh j=true∨a81 l k g=true)
  (hQ:∀ a w,St κ M0 n ⟨a1G l t (fun _=>true) env0 l.length,b l.length⟩ a w→Q' .normal a w):
  ∀ (fuel:Nat) (aa:Array Bool) (a:Act) (w:World),cnt l aa=fuel→Mid κ M0 n l t b e env0 aa a w→
   wpAny P .any l.toArray Q' fuel aa a w:=by
 have br:∀ i,i<l.length→e i=false→b (i+1)=b i:=by
  intro i hi he
  rcases (hs i l[i] (by simp[hi])).2 with⟨_,⟨_,_,_,h⟩|⟨h,_⟩|⟨_,h,_⟩⟩|⟨_,_,h,_⟩
  ·exact h
  ·rw[he] at h;cases h
  ·rw[he] at h;cases h
  ·exact h
 have bg:∀ (aa:Array Bool) (a:Act) (w:World),Mid κ M0 n l t b e env0 aa a w→(∀ i,i<l.length→aa.getD i false=true)→Q' .normal a w:=by
  intro aa a w hm af
  obtain⟨M,ν,m,h1,h2,h3,h4,h5,h6,h7,h8⟩:=hm.st
  refine hQ a w ⟨M,ν,h1,h2,h3,?_,?_⟩
  ·intro d u hu
   refine h4 d u ?_
   rw[a1f l t (xs aa) (fun _=>true) env0 d l.length (fun j o hj _ _=>af j hj)]
   exact hu
  ·have:b l.length=b m:=a6B br m l.length h5 (zax _) (fun j b2 bd=>by
    cases hj:e j with
    |false=>rfl
    |true=>have:=(h6 j bd hj).1 (af j bd);omega)
   simp only[this]
   exact⟨h7,h8⟩
 have a8:∀ aa:Array Bool,a2g l aa→∀ i j,i<j→j<l.length→e i=true→e j=true→aa.getD j false=true→aa.getD i false=true:=by
  intro aa hc i j bu hj ab ag hx
  exact a6S (bt i j bu hj ab ag) (zav hj) hc (fun e' ad ae=>hc j l[j] (zav hj) hx e' ad ae)
 intro fuel
 induction fuel with
 |zero=>
  intro aa a w a6 hm
  have af:=a5d a6
  exact⟨a4B hm.size af,bg aa a w hm af⟩
 |succ fuel ih=>
  intro aa a w a6 hm
  refine⟨fun hr=>bg aa a w hm (a3g bn hm.size hr),fun i hi=>?_⟩
  obtain⟨h0,oi,bm,af⟩:=mem_ready.1 hi
  have au:i<l.length:=by have:=(zbi.1 bm).1;simpa using this
  have ai:l[i]?= some oi:=by simpa using bm
  have av:i<aa.size:=by rw[hm.size];exact au
  have al:aa.getD i false=false:=by simp[av] at h0 ⊢; exact h0
  obtain⟨M,ν,m,h1,h2,h3,h4,h5,h6,h7,h8⟩:=hm.st
  obtain⟨hd,bk⟩:=hs i oi ai
  have be:∀ d,d∈oi.looksAt l.toArray→(a1G l t (xs aa) env0 l.length).lookup d=(a1G l t (fun _=>true) env0 i).lookup d:=by
   intro d bq
   rw[a1W l t (xs aa) env0 d i l.length (by omega) ?_,a1f l t (xs aa) (fun _=>true) env0 d i ?_]
   ·intro j o hj ho ar
    rcases am j i o oi hj ho ai with⟨e',ad,ae,ak⟩|a7
    ·exact ak▸af e' ad ae
    ·exact absurd bq ((Oper.apart_spec a7).1 d ar)
   ·intro j o hj ax ho ar
    by_cases aq:i=j
    ·subst aq;exact al
    ·cases bl:xs aa j with
     |false=>rfl
     |true=>
      rcases am i j oi o (by omega) ai ho with⟨e',ad,ae,ak⟩|a7
      ·have:=hm.closed j o ho bl e' ad ae
       rw[ak,al] at this;cases this
      ·exact absurd bq ((Oper.apart_spec a7).2.2 d ar)
  have an:a2g l (aa.setIfInBounds i true):=by
   intro j oj hj hx e' ad ae
   by_cases aq:i=j
   ·subst aq
    rw[ai] at hj;cases hj
    exact getD_set_true (af e' ad ae)
   ·rw[getD_set_ne false aq] at hx
    exact getD_set_true (hm.closed j oj hj hx e' ad ae)
  have ah:cnt l (aa.setIfInBounds i true)=fuel:=by
   have:=a6P hm.size au al;omega
  have after:∀ (M':Mem) (ν':Nu) (v:Value) (w':World) (m':Nat),M.ext κ M'→a2r M ν' a.tmps (a1G l t (xs aa) env0 l.length)→(t i).rep M' ν' v→m'≤l.length→
    (∀ j,j<l.length→e j=true→((aa.setIfInBounds i true).getD j false=true↔j<m'))→Sat κ M' ν' (b m') w'→(∀ k,pin≤k→ν' k=κ.nu k)→
    Mid κ M0 n l t b e env0 (aa.setIfInBounds i true) (a.put oi.dst v) w':=by
   intro M' ν' v w' m' ao h4 hr hm' a2 aj hpin
   refine⟨by simpa using hm.size,an,M',ν',m',h1.trans ao,by rw[Act.put_size];exact h2,by rw[Act.put_defers'];exact h3,?_,hm',a2,aj,hpin⟩
   have bp:=a2r.put (df:=a.defers) (h4.mono ao.1) (dst:=oi.dst) (v:=v) (t:=t i) (fun d he=>by rw[h2];exact a1j hd d he) hr
   intro k u hu
   refine bp k u ?_
   rw[a06]
   by_cases hk:oi.dst=some k
   ·rw[zaz hk]
    have e1:=a1W l t (xs (aa.setIfInBounds i true)) env0 k (i+1) l.length (by omega) (fun j o hj ax ho ar=>by
     cases bl:xs (aa.setIfInBounds i true) j with
     |false=>rfl
     |true=>
      have az:i≠j:=by omega
      have bs:aa.getD j false=true:=by rw[← getD_set_ne false az];exact bl
      rcases am i j oi o (by omega) ai ho with⟨e',ad,ae,ak⟩|a7
      ·have:=hm.closed j o ho bs e' ad ae
       rw[ak,al] at this;cases this
      ·exact absurd ar ((Oper.apart_spec a7).2.1 k hk))
    rw[e1] at hu
    have ap:xs (aa.setIfInBounds i true) i=true:=by simp[xs,av]
    rw[a1G,ap] at hu
    simp only[zaa,a06,ai,Option.bind_some,hk,za9] at hu
    exact hu
   ·rw[za5 hk]
    have e2:=a1f l t (xs (aa.setIfInBounds i true)) (xs aa) env0 k l.length (fun j o hj ho ar=>by
     have az:i≠j:=fun h=>by subst h;rw[ai] at ho;cases ho;exact hk ar
     exact getD_set_ne false az)
    rw[← e2];exact hu
  have ak:a3Z M ν a (a1G l t (fun _=>true) env0 i) oi:=by
   intro d u bw hu
   refine h4 d u ?_
   rw[be d (a4A bw)];exact hu
  have aw:∀ g bi d u,oi.guard=some (g,bi)→(l[g]?).bind (·.dst)=some d→(a1G l t (fun _=>true) env0 i).lookup d=some u→u.rep M ν (a.tmps.getD d undef):=by
   intro g bi d u hg aw hu
   refine h4 d u ?_
   rw[be d (a2J hg aw)];exact hu
  have a1:e i=false→∀ j,j<l.length→e j=true→((aa.setIfInBounds i true).getD j false=true↔j<m):=by
   intro ab j hj ag
   have az:i≠j:=fun h=>by subst h;rw[ab] at ag;cases ag
   rw[getD_set_ne false az];exact h6 j hj ag
  -- what an operation that turns boxes finds and leaves
  have bf:e i=true→b i=b m∧∀ j,j<l.length→e j=true→((aa.setIfInBounds i true).getD j false=true↔j<i+1):=by
   intro ab
   have bx:m≤i:=by
    rcases zbz i m with h|h
    ·have:=(h6 i au ab).2 h;rw[al] at this;cases this
    ·exact h
   have bh:∀ j,j<i→e j=true→aa.getD j false=true:=by
    intro j hj ag
    have ap:(aa.setIfInBounds i true).getD i false=true:=by simp[av]
    have:=a8 _ an j i hj au ag ab ap
    rwa[getD_set_ne false (by omega)] at this
   refine⟨a6B br m i bx (by omega) (fun j b2 bd=>by
    cases hj:e j with
    |false=>rfl
    |true=>have:=(h6 j (by omega) hj).1 (bh j bd hj);omega),fun j hj ag=>?_⟩
   by_cases aq:i=j
   ·subst aq;simp[av]
   ·rw[getD_set_ne false aq]
    constructor
    ·intro hx
     rcases zbz i j with h|h
     ·have:=a8 _ hm.closed i j h hj ab ag hx
      rw[al] at this;cases this
     ·omega
    ·intro hx
     exact bh j (by omega) ag
  unfold wpOp
  rw[bm]
  simp only[]
  rcases bk with⟨hg,⟨ab,bb,ba,b5⟩|⟨ab,bb,ba⟩|⟨k,ab,bb,ba,b7,b6⟩⟩|⟨hg,ht,b5,ab,bb⟩
  ·rw[zaz (a1X hg aw)]
   left
   refine Oper.wp_mono_Q (Oper.wp_mono ?_ (ba κ M ν a w (b m) (hf i m au h5 (fun j hj ag=>by
    cases b1:a81 l j i with
    |false=>rfl
    |true=>
     have ax:j<l.length:=by omega
     have bz:=(h6 j ax ag).2 hj
     have:=a6S b1 (zav ax) hm.closed (fun e' ad ae=>hm.closed j l[j] (zav ax) bz e' ad ae)
     rw[al] at this;cases this)) ak h7))
   rintro a' w' ⟨v,M',rfl,ao,hr,aj⟩
   exact ih _ _ _ ah (after M' ν v w' m ao h4 hr h5 (a1 ab) aj h8)
  ·rw[zaz (a1X hg aw)]
   left
   obtain⟨bj,a2⟩:=bf ab
   refine Oper.wp_mono_Q (Oper.wp_mono ?_ (ba κ M ν a w ak (by rw[bj];exact h7)))
   rintro a' w' ⟨v,M',rfl,ao,hr,aj⟩
   exact ih _ _ _ ah (after M' ν v w' (i+1) ao h4 hr au a2 aj h8)
  ·rw[zaz (a1X hg aw)]
   left
   obtain⟨bj,a2⟩:=bf ab
   refine Oper.wp_mono_Q (Oper.wp_mono ?_ (ba κ M ν a w ak (by rw[bj];exact h7)))
   rintro a' w' ⟨v,M',ν',rfl,ao,hν,hr,aj⟩
   obtain⟨b3,bv⟩:=a4C i b6
   have bc:Env.fresh k (a1G l t (xs aa) env0 l.length)=true:=by
    refine a4Q b3 l.length (fun q hq hx b4=>?_)
    rcases zdj q i with h|h|h
    ·exact bv q h b4
    ·subst h;unfold xs at hx;rw[al] at hx;cases hx
    ·rcases b0 i q k bb h hq with h'|h'
     ·exact h'
     ·exfalso
      have:=a6S h' (zav hq) hm.closed (fun e' ad ae=>hm.closed q l[q] (zav hq) hx e' ad ae)
      rw[al] at this;cases this
   exact ih _ _ _ ah (after M' ν' v w' (i+1) ao (h4.fresh bc hν) hr au a2 aj (fun q hq=>by rw[hν q (by omega)];exact h8 q hq))
  ·rw[a3J hg aw]
   simp only[zbs,za2]
   refine ih _ _ _ ah (after M ν undef w m (Mem.ext.refl κ M) h4 (by rw[ht];simp[a0H,T.rep,Cell.rep,C.rep]) h5 (a1 ab) h7 h8)
def c9t (all:List Oper) (es:List Nat) (j0 i:Nat):Bool:=es.all fun e=>Nat.blt e j0||a81 all e i
def c68 (u:List Nat) (fixB q:Bx) (i:Nat):Bx:=bif memN i u then q else fixB
def a5F (P:Program) (all:List Oper) (es u:List Nat) (fixB:Bx) (j0:Nat) (q:Bx):Nat→List (Nat×Nat)→List Oper→Env→Bx→(Env→Bx→Prop)→Prop
  |_,_,[],env,B,K=>K env B
  |i,gs,o::os,env,B,K=>a08 all env o
      (bif memN i es then a86 P o env B fun t B'=>a7X B' fixB∧(bif decide (i<j0) then a7X B' q else True)∧a1g all i t gs∧a5F P all es u fixB j0 q (i+1) (a6r i o gs) os (a15 env o.dst t) B' K
       else a4n P o env (c68 u fixB q i) fun t=>a1g all i t gs∧a5F P all es u fixB j0 q (i+1) gs os (a15 env o.dst t) B K)
      (a5F P all es u fixB j0 q (i+1) gs os (a15 env o.dst a0H) B K)
theorem b2p (all:List Oper) (es ae:List Nat) (fixB:Bx) (j0:Nat) (q:Bx) (K:Env→Bx→Prop):∀ (l:List Oper) (i0:Nat) (gs:List (Nat×Nat)) (env:Env) (B:Bx),a1n n l=true→(∀ x∈fixB,x∈B)→(i0≤j0→∀ x∈q,x∈B)→a5F P all es ae fixB j0 q i0 gs l env B K→
  ∃ (t:Nat→T) (b:Nat→Bx) (e:Nat→Bool) (jn:Nat→Option Nat),b 0=B∧(∀ i o,l[i]?= some o→b2f P n all (c68 ae fixB q (i0+i)) o (a1G l t (fun _=>true) env i) (b i) (t i) (b (i+1)) (e i) (jn i))∧
   (∀ i,i≤l.length→∀ x∈fixB,x∈b i)∧(∀ i,i≤l.length→i0+i≤j0→∀ x∈q,x∈b i)∧(∀ i,e i=true→memN (i0+i) es=true)∧(∀ i,i<l.length→a1g all (i0+i) (t i) gs)∧
   (∀ g k j,jn g=some j→g<k→k<l.length→(t k).fresh j=true∨a81 all (i0+k) (i0+g)=true)∧K (a1G l t (fun _=>true) env l.length) (b l.length)
 |[],i0,gs,env,B,_,hB,hC,h=>⟨fun _=>a0H,fun _=>B,fun _=>false,fun _=>none,rfl,fun i o ho=>by simp at ho,fun i _=>hB,fun i hi hx=>hC (by omega),fun i h=>(by cases h),fun i hi=>by simp at hi,fun _ _ _ h=>(by cases h),h⟩
 |o::os,i0,gs,env,B,hd,hB,hC,h=>by
  simp only[a1n,List.all_cons,zag] at hd
  obtain⟨⟨ab,au⟩,an⟩:=hd
  have step:∃ (t0:T) (B':Bx) (e0:Bool) (jz:Option Nat) (ad:List (Nat×Nat)),b2f P n all (c68 ae fixB q i0) o env B t0 B' e0 jz∧(∀ x∈fixB,x∈B')∧(i0+1≤j0→∀ x∈q,x∈B')∧(e0=true→memN i0 es=true)∧a1g all i0 t0 gs∧
    (∀ p∈gs,p∈ad)∧(∀ j,jz=some j→(i0,j)∈ad)∧a5F P all es ae fixB j0 q (i0+1) ad os (a15 env o.dst t0) B' K:=by
   rcases a3c h with⟨hg,hx⟩|⟨hg,hx⟩
   ·cases hm:memN i0 es with
    |true=>
     rw[hm] at hx
     simp only[zaa] at hx
     have ak:∀ {B':Bx},(bif decide (i0<j0) then a7X B' q else True)→i0+1≤j0→a7X B' q:=by
      intro B' hc hx
      have:decide (i0<j0)=true:=by simp;omega
      rw[this] at hc;exact hc
     have sub:∀ p∈gs,p∈a6r i0 o gs:=fun p hp=>by unfold a6r;cases b0Q o<;>simp[hp]
     rcases b0R hx with⟨t,u,h1,hc,h2,h3⟩|⟨t,B',u,h1,hc,h2,h3⟩|⟨ar,t,B',u,af,h1,hc,h2,h3⟩
     ·refine⟨t,B,true,none,_,⟨ab, .inl ⟨hg, .inr (.inl ⟨rfl,rfl,u.e⟩)⟩⟩,hB,fun hx=>hC (by omega),fun _=>rfl,h2,sub,fun j hj=>(by cases hj),h3⟩
     ·exact⟨t,B',true,none,_,⟨ab, .inl ⟨hg, .inr (.inl ⟨rfl,rfl,u⟩)⟩⟩,a3k h1,fun hx=>a3k (ak hc hx),fun _=>rfl,h2,sub,fun j hj=>(by cases hj),h3⟩
     ·refine⟨t,B',true,some (a1s o),_,⟨ab, .inl ⟨hg, .inr (.inr ⟨a1s o,rfl,rfl,u,zbu au,af⟩)⟩⟩,a3k h1,fun hx=>a3k (ak hc hx),fun _=>rfl,h2,sub,fun j hj=>?_,h3⟩
      cases hj
      unfold a6r;rw[ar];simp
    |false=>
     rw[hm] at hx
     simp only[zab] at hx
     obtain⟨t,u,h2,h3⟩:=a2h hx
     exact⟨t,B,false,none,gs,⟨ab, .inl ⟨hg, .inl ⟨rfl,rfl,u,rfl⟩⟩⟩,hB,fun hx=>hC (by omega),fun h=>(by cases h),h2,fun _ h=>h,fun j hj=>(by cases hj),h3⟩
   ·exact⟨a0H,B,false,none,gs,⟨ab, .inr ⟨hg,rfl,rfl,rfl,rfl⟩⟩,hB,fun hx=>hC (by omega),fun h=>(by cases h),a5y gs,fun _ h=>h,fun j hj=>(by cases hj),hx⟩
  obtain⟨t0,B',e0,jz,ad,aa,ai,ag,aq,ah,al,am,hk⟩:=step
  obtain⟨t,b,e,jn,ap,hs,hf,ao,he,af,av,hK⟩:=b2p all es ae fixB j0 q K os (i0+1) ad _ B' an ai ag hk
  refine⟨fun i=>match i with|0=>t0|i+1=>t i,fun i=>match i with|0=>B|i+1=>b i,fun i=>match i with|0=>e0|i+1=>e i,fun i=>match i with|0=>jz|i+1=>jn i,rfl,?_,?_,?_,?_,?_,?_,?_⟩
  ·intro i o' ho
   cases i with
   |zero=>simp at ho;subst ho;rw[← ap] at aa;exact aa
   |succ i=>
    rw[a17]
    have:=hs i o' (by simpa using ho)
    rwa[show i0+1+i=i0+(i+1) by omega] at this
  ·intro i hi
   cases i with
   |zero=>exact hB
   |succ i=>exact hf i (by simpa using hi)
  ·intro i hi hx
   cases i with
   |zero=>exact hC (by omega)
   |succ i=>exact ao i (by simpa using hi) (by omega)
  ·intro i hi
   cases i with
   |zero=>exact aq hi
   |succ i=>have:=he i hi;rwa[show i0+1+i=i0+(i+1) by omega] at this
  ·intro i hi
   cases i with
   |zero=>exact ah
   |succ i=>
    have:=af i (by simpa using hi)
    rw[show i0+1+i=i0+(i+1) by omega] at this
    exact a6T.FreshOr_sub al this
  ·intro g k j hg aw aj
   cases k with
   |zero=>omega
   |succ k=>
    cases g with
    |zero=>
     have:=a3l (af k (by simpa using aj)) (i0,j) (am j hg)
     rwa[show i0+1+k=i0+(k+1) by omega] at this
    |succ g=>
     have:=av g k j hg (by omega) (by simpa using aj)
     rwa[show i0+1+k=i0+(k+1) by omega,show i0+1+g=i0+(g+1) by omega] at this
  ·rw[List.length_cons,a17];exact hK
theorem AWP.genR2 {id:Nat} {l:List Oper} {env:Env} {B:Bx} (es ks:List Nat) (q:List Nat) (j0:Nat) (ag:List Nat) (hm:P.follows .mixedOrders=true) (hl:(c2P n l es&&q.all fun i=>c9t l es j0 i)=true)
  (h:∀ K:Env→Bx→Prop,(∀ e b,Q .normal ⟨e,b⟩→K e b)→a5F P l es q (Bx.outs B ks) j0 (Bx.outs B ag) 0 [] l env B K):AWP P n (.region id l.toArray true) ⟨env,B⟩ Q:=by
 rw[zag] at hl
 obtain⟨hl,ah⟩:=hl
 simp only[c2P,zag] at hl
 intro κ M0 a w hs
 obtain⟨ae,u,_⟩:=a4J hl.1
 obtain⟨t,b,e,jn,aw,ai,hf,al,he,_,a2,hK⟩:=b2p l es q (Bx.outs B ks) j0 (Bx.outs B ag) _ l 0 [] env B hl.2.1 (fun x hx=>Bx.outs_sub hx) (fun _ x hx=>Bx.outs_sub hx) (h (fun e b=>Q .normal ⟨e,b⟩) (fun _ _ k=>k))
 have ap:b29 l e:=fun i k av hk aa ax=>b0S hl.2.2 i (a4R (by simpa using he i aa)) k (a4R (by simpa using he k ax)) av
 refine wp_region_any hm ?_
 have a1:l.toArray.size=l.length:=by simp
 rw[a1]
 have ak:∀ j,(Array.replicate l.length false).getD j false=false:=fun j=>a3q _ j
 have au:∀ i,i<l.length→e i=false→b (i+1)=b i:=by
  intro i hi aa
  rcases (ai i l[i] (by simp[hi])).2 with⟨_,⟨_,_,_,h⟩|⟨h,_⟩|⟨_,h,_⟩⟩|⟨_,_,h,_⟩
  ·exact h
  ·rw[aa] at h;cases h
  ·rw[aa] at h;cases h
  ·exact h
 refine b8D (fx:=fun i=>c68 q (Bx.outs B ks) (Bx.outs B ag) i) ae u ap (fun i o ho=>by have:=ai i o ho;rwa[zbg] at this) ?_ (fun g k j hg ar hk=>by have:=a2 g k j hg ar hk;simpa using this) (fun a w s=>⟨_,s,hK⟩) l.length _ a _ ?_ (a6C (σ:=⟨env,B⟩) aw hs)
 ·intro i m hi hm an x hx
  unfold c68 at hx
  cases ad:memN i q with
  |false=>rw[ad] at hx;exact hf m hm x hx
  |true=>
   have hE:=za0.1 ah i (a4R ad)
   rw[ad] at hx
   simp only[zaa] at hx
   rcases Nat.le_total m j0 with am|am
   ·exact al m hm (by omega) x hx
   ·have a6:∀ j,j0≤j→j<m→e j=false:=by
     intro j ao af
     cases aj:e j with
     |false=>rfl
     |true=>
      have ab:=a4R (he j aj)
      rw[zbg] at ab
      have h1:=za0.1 hE j ab
      simp only[zb6] at h1
      rcases h1 with h1|h1
      ·have:j<j0:=by simpa using h1
       omega
      ·have:=an j af aj
       rw[h1] at this;cases this
    have az:b m=b j0:=by
     have:=a6B au j0 m am hm (fun j ao af=>a6 j ao af)
     first|exact this|exact this.symm
    rw[az]
    exact al j0 (by omega) (by omega) x hx
 ·unfold cnt
  have aq:(List.range l.length).filter (fun i=>!(Array.replicate l.length false).getD i false)=List.range l.length:=by
   rw[zcu]
   intro x _
   simp only[ak x,zar]
  rw[aq,zcv]
theorem b8E {all:List Oper} {es u:List Nat} {fixB:Bx} {j0:Nat} {q:Bx} {i:Nat} {gs:List (Nat×Nat)} {env:Env} {B:Bx} {K:Env→Bx→Prop} (h:K env B):a5F P all es u fixB j0 q i gs [] env B K:=h
def b3d (P:Program) (all:List Oper) (es u:List Nat) (fixB:Bx) (j0:Nat) (q:Bx) (i:Nat) (gs:List (Nat×Nat)) (o:Oper) (env:Env) (B:Bx) (K':List (Nat×Nat)→Env→Bx→Prop):Prop:=
  bif memN i es then a86 P o env B fun t B'=>a7X B' fixB∧(bif decide (i<j0) then a7X B' q else True)∧a1g all i t gs∧K' (a6r i o gs) (a15 env o.dst t) B'
  else a4n P o env (c68 u fixB q i) fun t=>a1g all i t gs∧K' gs (a15 env o.dst t) B
theorem b4w {all os:List Oper} {es aa:List Nat} {fixB:Bx} {j0:Nat} {u:Bx} {i:Nat} {gs:List (Nat×Nat)} {o:Oper} {env:Env} {B:Bx} {K:Env→Bx→Prop} (hg:o.guard=none)
  (h:∀ K':List (Nat×Nat)→Env→Bx→Prop,(∀ gs e b,a5F P all es aa fixB j0 u (i+1) gs os e b K→K' gs e b)→b3d P all es aa fixB j0 u i gs o env B K'):a5F P all es aa fixB j0 u i gs (o::os) env B K:=
 a3M hg (h (fun gs e b=>a5F P all es aa fixB j0 u (i+1) gs os e b K) fun _ _ _ q=>q)
theorem b4x {all os:List Oper} {es aa:List Nat} {fixB:Bx} {j0:Nat} {u:Bx} {i:Nat} {gs:List (Nat×Nat)} {o:Oper} {env:Env} {B:Bx} {K:Env→Bx→Prop} {j d:Nat} {ab:Bool} (hg:o.guard=some (j,ab)) (hd:(all[j]?).bind (·.dst)=some d)
  (h:∀ K':List (Nat×Nat)→Env→Bx→Prop,(∀ gs e b,a5F P all es aa fixB j0 u (i+1) gs os e b K→K' gs e b)→a9L (env.lookup d) ab (b3d P all es aa fixB j0 u i gs o env B K') (K' gs (a15 env o.dst a0H) B)):a5F P all es aa fixB j0 u i gs (o::os) env B K:=
 a3N hg hd (h (fun gs e b=>a5F P all es aa fixB j0 u (i+1) gs os e b K) fun _ _ _ q=>q)
attribute [go_sem] b3d c68
def bxX (mk:Nat→Option (Nat×Res)) (B0:Bx) (X:Nat→Bool):Nat→Bx
 |0=>B0
 |m+1=>match X m,mk m with
  |true,some p=>p::bxX mk B0 X m
  |_,_=>bxX mk B0 X m
theorem a1v {mk:Nat→Option (Nat×Res)} {B0:Bx} {X:Nat→Bool} {x:Nat×Res}:∀ {m:Nat},x∈bxX mk B0 X m↔x∈B0∨ ∃ i,i<m∧X i=true∧mk i=some x
 |0=>by simp[bxX]
 |m+1=>by
  have ih:= @a1v mk B0 X x m
  unfold bxX
  constructor
  ·intro h
   split at h
   ·rename_i p hX hk
    rcases zal.1 h with rfl|h
    ·exact .inr ⟨m,by omega,hX,hk⟩
    ·rcases ih.1 h with h|⟨i,h1,h2⟩
     ·exact .inl h
     ·exact .inr ⟨i,by omega,h2⟩
   ·rcases ih.1 h with h|⟨i,h1,h2⟩
    ·exact .inl h
    ·exact .inr ⟨i,by omega,h2⟩
  ·intro h
   have h':x∈bxX mk B0 X m∨(X m=true∧mk m=some x):=by
    rcases h with h|⟨i,h1,h2,h3⟩
    ·exact .inl (ih.2 (.inl h))
    ·by_cases q:i=m
     ·subst q;exact .inr ⟨h2,h3⟩
     ·exact .inl (ih.2 (.inr ⟨i,by omega,h2,h3⟩))
   split
   ·rename_i p hX hk
    rcases h' with h'|⟨_,h'⟩
    ·exact zas _ h'
    ·rw[hk] at h';cases h';exact zbl
   ·rename_i u
    rcases h' with h'|⟨h1,h2⟩
    ·exact h'
    ·exact absurd h2 (u x h1)
def c69 (mk:Nat→Option (Nat×Res)) (B0:Bx):Prop:=(∀ i j p q,mk i=some p→mk j=some q→i≠j→p.1≠q.1)∧∀ i p,mk i=some p→∀ x∈B0,x.1≠p.1
theorem a5G {mk:Nat→Option (Nat×Res)} {B0:Bx} {X:Nat→Bool} (ha:c69 mk B0) (h0:(B0.map (·.1)).Nodup):∀ m,((bxX mk B0 X m).map (·.1)).Nodup
 |0=>h0
 |m+1=>by
  have ih:=a5G (X:=X) ha h0 m
  unfold bxX
  split
  ·rename_i p hX hk
   simp only[zau,zbr]
   refine⟨fun hm=>?_,ih⟩
   obtain⟨x,hx,e⟩:=za3.1 hm
   rcases a1v.1 hx with h|⟨i,h1,_,h3⟩
   ·exact ha.2 m p hk x h e
   ·exact ha.1 i m x p h3 hk (by omega) e
  ·exact ih
theorem a6f {mk:Nat→Option (Nat×Res)} {B0:Bx} {X:Nat→Bool}:∀ {m:Nat},((bxX mk B0 X m).map (·.1)).Nodup→(B0.map (·.1)).Nodup
 |0,h=>h
 |m+1,h=>by
  unfold bxX at h
  split at h
  ·simp only[zau,zbr] at h;exact a6f h.2
  ·exact a6f h
structure MidM (κ:Kap) (M0:Mem) (n:Nat) (l:List Oper) (t:Nat→T) (mk:Nat→Option (Nat×Res)) (B0:Bx) (env0:Env) (listed:Array Bool) (a:Act) (w:World):Prop where
  size:listed.size=l.length
  closed:a2g l listed
  st:∃ M ν,M0.ext κ M∧a.tmps.size=n∧a.defers=[]∧a2r M ν a.tmps (a1G l t (xs listed) env0 l.length)∧Sat κ M ν (bxX mk B0 (xs listed) l.length) w∧∀ k,pin≤k→ν k=κ.nu k
def b2q (P:Program) (n:Nat) (all:List Oper) (B0:Bx) (o:Oper) (env:Env) (t:T) (j:Option (Nat×Res)):Prop:=
  a5t n o=true∧
  ((a08 all env o True False∧((j=none∧OpP P o env B0 t)∨(∃ k r,j=some (k,r)∧k<pin∧Env.fresh k env=true∧Bx.fresh k B0=true∧∀ B:Bx,(∀ x∈B0,x∈B)→Bx.fresh k B=true→OpG P o env B k t ((k,r)::B))))∨
   (a08 all env o False True∧t=a0H∧j=none))
theorem a6g {k:Nat}:∀ {B:Bx},(∀ x∈B,x.1≠k∧∀ cs,x.2= .cells cs→Cell.freshs k cs=true)→Bx.fresh k B=true
 |[],_=>rfl
 |(j,r)::B,h=>by
  have h1:=h (j,r) zbl
  simp only[Bx.fresh,zag,bne_iff_ne,ne_eq]
  refine⟨⟨h1.1,?_⟩,a6g fun y hy=>h y (zas _ hy)⟩
  cases r with
  |cells cs=>exact h1.2 cs rfl
  |row sz rows=>rfl
  |mp ag es=>rfl
def Res.plain (r:Res):Prop:=∀ k cs,r= .cells cs→Cell.freshs k cs=true
theorem Res.plain_row (sz:Nat) (rows:List (List C)):(Res.row sz rows).plain:=fun _ _ e=>by cases e
theorem Res.plain_dat (zs:List C):(Res.cells (zs.map .dat)).plain:=by
  intro k cs e
  cases e
  induction zs with
  |nil=>rfl
  |cons z zs ih=>simp only[zau,Cell.freshs,Cell.fresh,ih,Bool.and_self]
def b0c (mk:Nat→Option (Nat×Res)):Prop:=∀ i p,mk i=some p→p.2.plain
theorem b8F {κ:Kap} {M0:Mem} {l:List Oper} {B0:Bx} {t:Nat→T} {mk:Nat→Option (Nat×Res)} {env0:Env} {Q':Exit→Act→World→Prop}
  (be:b9w l) (ak:b2U l) (aj:c69 mk B0) (br:b0c mk) (bv:∀ i p,mk i=some p→i<l.length)
  (hs:∀ i o,l[i]?= some o→b2q P n l B0 o (a1G l t (fun _=>true) env0 i) (t i) (mk i))
  (bq:∀ g k p,mk g=some p→g<k→k<l.length→(t k).fresh p.1=true∨a81 l k g=true)
  (hQ:∀ a w,St κ M0 n ⟨a1G l t (fun _=>true) env0 l.length,bxX mk B0 (fun _=>true) l.length⟩ a w→Q' .normal a w):
  ∀ (fuel:Nat) (aa:Array Bool) (a:Act) (w:World),cnt l aa=fuel→MidM κ M0 n l t mk B0 env0 aa a w→
   wpAny P .any l.toArray Q' fuel aa a w:=by
 have a7:∀ (aa:Array Bool) (a:Act) (w:World),MidM κ M0 n l t mk B0 env0 aa a w→(∀ i,i<l.length→aa.getD i false=true)→Q' .normal a w:=by
  intro aa a w hm ab
  obtain⟨M,ν,h1,h2,h3,h4,h7,h8⟩:=hm.st
  refine hQ a w ⟨M,ν,h1,h2,h3,?_,?_,h8⟩
  ·intro d u hu
   refine h4 d u ?_
   rw[a1f l t (xs aa) (fun _=>true) env0 d l.length (fun j o hj _ _=>ab j hj)]
   exact hu
  ·refine h7.drop (fun x hx=>?_) (a5G aj (a6f h7.nodup) _)
   rcases a1v.1 hx with h|⟨i,hi,_,hk⟩
   ·exact a1v.2 (.inl h)
   ·exact a1v.2 (.inr ⟨i,hi,ab i hi,hk⟩)
 intro fuel
 induction fuel with
 |zero=>
  intro aa a w av hm
  have ab:=a5d av
  exact⟨a4B hm.size ab,a7 aa a w hm ab⟩
 |succ fuel ih=>
  intro aa a w av hm
  refine⟨fun hr=>a7 aa a w hm (a3g be hm.size hr),fun i hi=>?_⟩
  obtain⟨h0,oi,bc,ab⟩:=mem_ready.1 hi
  have bk:i<l.length:=by have:=(zbi.1 bc).1;simpa using this
  have ad:l[i]?= some oi:=by simpa using bc
  have ar:i<aa.size:=by rw[hm.size];exact bk
  have ao:aa.getD i false=false:=by simp[ar] at h0 ⊢; exact h0
  obtain⟨M,ν,h1,h2,h3,h4,h7,h8⟩:=hm.st
  obtain⟨hd,ba⟩:=hs i oi ad
  have a6:∀ d,d∈oi.looksAt l.toArray→(a1G l t (xs aa) env0 l.length).lookup d=(a1G l t (fun _=>true) env0 i).lookup d:=by
   intro d bi
   rw[a1W l t (xs aa) env0 d i l.length (by omega) ?_,a1f l t (xs aa) (fun _=>true) env0 d i ?_]
   ·intro j o hj ho ap
    rcases ak j i o oi hj ho ad with⟨e',ag,ah,al⟩|aj
    ·exact al▸ab e' ag ah
    ·exact absurd bi ((Oper.apart_spec aj).1 d ap)
   ·intro j o hj bl ho ap
    by_cases a1:i=j
    ·subst a1;exact ao
    ·cases bb:xs aa j with
     |false=>rfl
     |true=>
      rcases ak i j oi o (by omega) ad ho with⟨e',ag,ah,al⟩|aj
      ·have:=hm.closed j o ho bb e' ag ah
       rw[al,ao] at this;cases this
      ·exact absurd bi ((Oper.apart_spec aj).2.2 d ap)
  have au:a2g l (aa.setIfInBounds i true):=by
   intro j oj hj hx e' ag ah
   by_cases a1:i=j
   ·subst a1
    rw[ad] at hj;cases hj
    exact getD_set_true (ab e' ag ah)
   ·rw[getD_set_ne false a1] at hx
    exact getD_set_true (hm.closed j oj hj hx e' ag ah)
  have ai:cnt l (aa.setIfInBounds i true)=fuel:=by
   have:=a6P hm.size bk ao;omega
  have after:∀ (M':Mem) (ν':Nu) (v:Value) (w':World),M.ext κ M'→a2r M ν' a.tmps (a1G l t (xs aa) env0 l.length)→(t i).rep M' ν' v→Sat κ M' ν' (bxX mk B0 (xs (aa.setIfInBounds i true)) l.length) w'→(∀ k,pin≤k→ν' k=κ.nu k)→
    MidM κ M0 n l t mk B0 env0 (aa.setIfInBounds i true) (a.put oi.dst v) w':=by
   intro M' ν' v w' aq h4 hr am hpin
   refine⟨by simpa using hm.size,au,M',ν',h1.trans aq,by rw[Act.put_size];exact h2,by rw[Act.put_defers'];exact h3,?_,am,hpin⟩
   have bh:=a2r.put (df:=a.defers) (h4.mono aq.1) (dst:=oi.dst) (v:=v) (t:=t i) (fun d he=>by rw[h2];exact a1j hd d he) hr
   intro k u hu
   refine bh k u ?_
   rw[a06]
   by_cases hk:oi.dst=some k
   ·rw[zaz hk]
    have e1:=a1W l t (xs (aa.setIfInBounds i true)) env0 k (i+1) l.length (by omega) (fun j o hj bl ho ap=>by
     cases bb:xs (aa.setIfInBounds i true) j with
     |false=>rfl
     |true=>
      have ae:i≠j:=by omega
      have bj:aa.getD j false=true:=by rw[← getD_set_ne false ae];exact bb
      rcases ak i j oi o (by omega) ad ho with⟨e',ag,ah,al⟩|aj
      ·have:=hm.closed j o ho bj e' ag ah
       rw[al,ao] at this;cases this
      ·exact absurd ap ((Oper.apart_spec aj).2.1 k hk))
    rw[e1] at hu
    have aw:xs (aa.setIfInBounds i true) i=true:=by simp[xs,ar]
    rw[a1G,aw] at hu
    simp only[zaa,a06,ad,Option.bind_some,hk,za9] at hu
    exact hu
   ·rw[za5 hk]
    have e2:=a1f l t (xs (aa.setIfInBounds i true)) (xs aa) env0 k l.length (fun j o hj ho ap=>by
     have ae:i≠j:=fun h=>by subst h;rw[ad] at ho;cases ho;exact hk ap
     exact getD_set_ne false ae)
    rw[← e2];exact hu
  have al:a3Z M ν a (a1G l t (fun _=>true) env0 i) oi:=by
   intro d u bp hu
   refine h4 d u ?_
   rw[a6 d (a4A bp)];exact hu
  have ax:∀ g a8 d u,oi.guard=some (g,a8)→(l[g]?).bind (·.dst)=some d→(a1G l t (fun _=>true) env0 i).lookup d=some u→u.rep M ν (a.tmps.getD d undef):=by
   intro g a8 d u hg ax hu
   refine h4 d u ?_
   rw[a6 d (a2J hg ax)];exact hu
  have aw:xs (aa.setIfInBounds i true) i=true:=by simp[xs,ar]
  have a2:∀ j,i≠j→xs (aa.setIfInBounds i true) j=xs aa j:=fun j hj=>getD_set_ne false hj
  have bd:((bxX mk B0 (xs (aa.setIfInBounds i true)) l.length).map (·.1)).Nodup:=a5G aj (a6f h7.nodup) _
  have same:mk i=none→∀ x∈bxX mk B0 (xs (aa.setIfInBounds i true)) l.length,x∈bxX mk B0 (xs aa) l.length:=by
   intro hk x hx
   rcases a1v.1 hx with h|⟨j,hj,hX,af⟩
   ·exact a1v.2 (.inl h)
   ·have ae:i≠j:=fun e=>by subst e;rw[hk] at af;cases af
    exact a1v.2 (.inr ⟨j,hj,by rw[← a2 j ae];exact hX,af⟩)
  unfold wpOp
  rw[bc]
  simp only[]
  rcases ba with⟨hg,⟨an,bf⟩|⟨k,r,an,bw,bu,bg,bf⟩⟩|⟨hg,ht,an⟩
  ·rw[zaz (a1X hg ax)]
   left
   refine Oper.wp_mono_Q (Oper.wp_mono ?_ (bf κ M ν a w _ (fun x hx=>a1v.2 (.inl hx)) al h7))
   rintro a' w' ⟨v,M',rfl,aq,hr,am⟩
   exact ih _ _ _ ai (after M' ν v w' aq h4 hr (am.drop (same an) bd) h8)
  ·rw[zaz (a1X hg ax)]
   left
   have bn:Bx.fresh k (bxX mk B0 (xs aa) l.length)=true:=by
    refine a6g fun x hx=>?_
    rcases a1v.1 hx with h|⟨j,hj,hX,af⟩
    ·exact Bx.fresh_spec (j:=x.1) (r:=x.2) bg h
    ·have ae:j≠i:=fun e=>by subst e;unfold xs at hX;rw[ao] at hX;cases hX
     refine⟨aj.1 j i x _ af an ae,fun cs e=>?_⟩
     exact br j x af k cs e
   refine Oper.wp_mono_Q (Oper.wp_mono ?_ (bf _ (fun x hx=>a1v.2 (.inl hx)) bn κ M ν a w al h7))
   rintro a' w' ⟨v,M',ν',rfl,aq,hν,hr,am⟩
   obtain⟨bs,bm⟩:=a4C i bu
   have az:Env.fresh k (a1G l t (xs aa) env0 l.length)=true:=by
    refine a4Q bs l.length (fun q hq hx bt=>?_)
    rcases zdj q i with h|h|h
    ·exact bm q h bt
    ·subst h;unfold xs at hx;rw[ao] at hx;cases hx
    ·rcases bq i q _ an h hq with h'|h'
     ·exact h'
     ·exfalso
      have:=a6S h' (zav hq) hm.closed (fun e' ag ah=>hm.closed q l[q] (zav hq) hx e' ag ah)
      rw[ao] at this;cases this
   refine ih _ _ _ ai (after M' ν' v w' aq (h4.fresh az hν) hr (am.drop ?_ bd) (fun q hq=>by rw[hν q (by omega)];exact h8 q hq))
   intro x hx
   rcases a1v.1 hx with h|⟨j,hj,hX,af⟩
   ·exact zas _ (a1v.2 (.inl h))
   ·by_cases ae:i=j
    ·subst ae;rw[an] at af;cases af;exact zbl
    ·exact zas _ (a1v.2 (.inr ⟨j,hj,by rw[← a2 j ae];exact hX,af⟩))
  ·rw[a3J hg ax]
   simp only[zbs,za2]
   refine ih _ _ _ ai (after M ν undef w (Mem.ext.refl κ M) h4 (by rw[ht];simp[a0H,T.rep,Cell.rep,C.rep]) (h7.drop (same an) bd) h8)
theorem Bx.fresh_sub {k:Nat} {B B':Bx} (h:Bx.fresh k B=true) (hs:∀ x∈B',x∈B):Bx.fresh k B'=true:=
  a6g fun x hx=>Bx.fresh_spec (j:=x.1) (r:=x.2) h (hs x hx)
def b3e (P:Program) (j:Nat) (t1 t2:TypeId) (s x:Option T) (K:T→Res→Prop):Prop:=
 match bsT P t1,byT P t1 with
 |some (_,n),some (by_+1)=>match b0A n x with
  |some ys=>a2T P t2=true∧(match s with
   |some (.one (.dat (.nil _)))=>(2*ys.length+192)*(by_+1)≤281474976710656∧K (.one (.own j ys.length)) (.row n ys)
   |_=>False)
  |none=>False
 |_,_=>False
def c9u (P:Program) (o:Oper) (env:Env) (K:T→Res→Prop):Prop:=
 match o.op with
 | .alloc e=>(match a0Y P e with
  |some zs=>K (.one (.ptr (a1s o) 0)) (.cells (zs.map .dat))
  |none=>False)
 | .call { callee:= .builtin .append,args:=⟨[s,x]⟩,argTypes:=⟨[t1,t2]⟩ }=>b3e P (a1s o) t1 t2 (ev P env t1 s) (a8j (ev P env t2 x)) K
 | .call { callee:= .value f,args:=args,argTypes:=ts }=>
  match a2D (ev P env 0 f),evs P env args.toList ts.toList with
  |some (g,caps),some us=>∃ r sz rows,PCN P g (us++caps) r (.row sz rows)∧K (r.ren fun _=>a1s o) (.row sz rows)
  |_,_=>False
 |_=>False
theorem b2r {o:Oper} {env:Env} {K:T→Res→Prop} (h:c9u P o env K):
  ∃ t r,r.plain∧(∀ B:Bx,Env.fresh (a1s o) env=true→Bx.fresh (a1s o) B=true→OpG P o env B (a1s o) t ((a1s o,r)::B))∧K t r:=by
 unfold c9u at h
 split at h
 ·rename_i e ho
  split at h
  ·rename_i zs hz
   refine⟨_,_,Res.plain_dat zs,fun B u aa=>?_,h⟩
   obtain⟨t,B',q,_,rfl,rfl⟩:=a6J (env:=env) (B:=B) (K:=fun t B'=>t= .one (.ptr (a1s o) 0)∧B'=(a1s o, .cells (zs.map .dat))::B) ho (by
    unfold b37
    rw[hz]
    exact⟨u,aa,rfl,rfl⟩)
   exact q
  ·exact h.elim
 ·rename_i s x t1 t2 ho
  unfold b3e at h
  split at h
  ·rename_i e n by_ ae ab
   split at h
   ·rename_i ys ah
    obtain⟨ag,h⟩:=h
    split at h
    ·rename_i sz ad
     refine⟨_,_,Res.plain_row _ _,fun B u aa=>?_,h.2⟩
     obtain⟨t,B',q,_,rfl,rfl⟩:=a54 (ty1:=t1) (ty2:=t2) (env:=env) (B:=B) (K:=fun t B'=>t= .one (.own (a1s o) ys.length)∧B'=(a1s o, .row n ys)::B) ho (by
      unfold b0B
      rw[ae,ab]
      simp only[ah,ad]
      refine⟨ag,u,aa,h.1,?_⟩
      first|trivial|exact⟨trivial,rfl⟩|exact⟨rfl,rfl⟩|exact⟨rfl,trivial⟩)
     exact q
    ·exact h.elim
   ·exact h.elim
  ·exact h.elim
 ·rename_i f args ts ho
  split at h
  ·rename_i g ai us hf hu
   obtain⟨r,sz,rows,af,hK⟩:=h
   refine⟨_,_,Res.plain_row _ _,fun B u aa=>?_,hK⟩
   obtain⟨t,B',q,_,rfl,rfl⟩:=a9J (env:=env) (B:=B) (args:=args.toList) (K:=fun t B'=>t=(r.ren fun _=>a1s o)∧B'=(a1s o, .row sz rows)::B) (by rw[ho]) hf hu ⟨r,_,af,u,aa,rfl,rfl⟩
   exact q
  ·exact h.elim
 ·exact h.elim
def a3H (P:Program) (all:List Oper) (es:List Nat) (B0:Bx):Nat→List (Nat×Nat)→List Oper→Env→Bx→(Env→Bx→Prop)→Prop
  |_,_,[],env,B,K=>K env B
  |i,gs,o::os,env,B,K=>a08 all env o
      (bif memN i es then c9u P o env fun t r=>Env.fresh (a1s o) env=true∧Bx.fresh (a1s o) B=true∧a1g all i t gs∧a3H P all es B0 (i+1) ((i,a1s o)::gs) os (a15 env o.dst t) ((a1s o,r)::B) K
       else a4n P o env B0 fun t=>a1g all i t gs∧a3H P all es B0 (i+1) gs os (a15 env o.dst t) B K)
      (a3H P all es B0 (i+1) gs os (a15 env o.dst a0H) B K)
theorem b3f (mk:Nat→Option (Nat×Res)) (B:Bx):∀ m,bxX mk B (fun _=>true) (m+1)=bxX (fun i=>mk (i+1)) (match mk 0 with|some p=>p::B|none=>B) (fun _=>true) m
 |0=>by
  simp only[bxX]
  cases mk 0<;>rfl
 |m+1=>by
  rw[bxX,b3f mk B m]
  all_goals(first|rfl|(conv=>rhs;rw[bxX]))
  all_goals(cases mk (m+1)<;>rfl)
theorem b2s (all:List Oper) (es:List Nat) (B0:Bx) (K:Env→Bx→Prop):∀ (l:List Oper) (i0:Nat) (gs:List (Nat×Nat)) (env:Env) (B:Bx),a1n n l=true→(∀ x∈B0,x∈B)→a3H P all es B0 i0 gs l env B K→
  ∃ (t:Nat→T) (mk:Nat→Option (Nat×Res)),(∀ i o,l[i]?= some o→b2q P n all B0 o (a1G l t (fun _=>true) env i) (t i) (mk i))∧(∀ i p,mk i=some p→i<l.length)∧b0c mk∧
   (∀ i p,mk i=some p→Bx.fresh p.1 B=true)∧(∀ i j p q,mk i=some p→mk j=some q→i≠j→p.1≠q.1)∧(∀ i,i<l.length→a1g all (i0+i) (t i) gs)∧
   (∀ g k p,mk g=some p→g<k→k<l.length→(t k).fresh p.1=true∨a81 all (i0+k) (i0+g)=true)∧K (a1G l t (fun _=>true) env l.length) (bxX mk B (fun _=>true) l.length)
 |[],i0,gs,env,B,_,hB,h=>⟨fun _=>a0H,fun _=>none,fun i o ho=>by simp at ho,fun _ _ h=>(by cases h),fun _ _ h=>(by cases h),fun _ _ h=>(by cases h),fun _ _ _ _ h=>(by cases h),fun i hi=>by simp at hi,fun _ _ _ h=>(by cases h),h⟩
 |o::os,i0,gs,env,B,hd,hB,h=>by
  simp only[a1n,List.all_cons,zag] at hd
  obtain⟨⟨ah,aw⟩,av⟩:=hd
  have step:∃ (t0:T) (B':Bx) (j0:Option (Nat×Res)) (ab:List (Nat×Nat)),b2q P n all B0 o env t0 j0∧(∀ x∈B,x∈B')∧B'=(match j0 with|some p=>p::B|none=>B)∧(∀ p,j0=some p→p.2.plain∧Bx.fresh p.1 B=true∧(i0,p.1)∈ab)∧a1g all i0 t0 gs∧
    (∀ p∈gs,p∈ab)∧a3H P all es B0 (i0+1) ab os (a15 env o.dst t0) B' K:=by
   rcases a3c h with⟨hg,hx⟩|⟨hg,hx⟩
   ·cases hm:memN i0 es with
    |true=>
     rw[hm] at hx
     simp only[zaa] at hx
     obtain⟨t,r,au,ag,an,ad,h2,h3⟩:=b2r hx
     refine⟨t,_,some (a1s o,r),_,⟨ah, .inl ⟨hg, .inr ⟨_,_,rfl,zbu aw,an,Bx.fresh_sub ad hB,fun B' hs hf=>ag B' an hf⟩⟩⟩,fun x hx=>zas _ hx,rfl,fun p hp=>?_,h2,fun p hp=>zas _ hp,h3⟩
     cases hp
     exact⟨au,ad,zbl⟩
    |false=>
     rw[hm] at hx
     simp only[zab] at hx
     obtain⟨t,ag,h2,h3⟩:=a2h hx
     exact⟨t,B,none,gs,⟨ah, .inl ⟨hg, .inl ⟨rfl,ag⟩⟩⟩,fun _ h=>h,rfl,fun p hp=>(by cases hp),h2,fun _ h=>h,h3⟩
   ·exact⟨a0H,B,none,gs,⟨ah, .inr ⟨hg,rfl,rfl⟩⟩,fun _ h=>h,rfl,fun p hp=>(by cases hp),a5y gs,fun _ h=>h,hx⟩
  obtain⟨t0,B',j0,ab,af,aa,ap,ae,ai,aq,hk⟩:=step
  obtain⟨t,mk,hs,ak,az,ad,am,ao,ax,hK⟩:=b2s all es B0 K os (i0+1) ab _ B' av (fun x hx=>aa x (hB x hx)) hk
  have u:∀ i p,(match i with|0=>j0|i+1=>mk i)=some p→(i=0∧j0=some p)∨ ∃ i',i=i'+1∧mk i'=some p:=by
   intro i p h
   cases i with
   |zero=>exact .inl ⟨rfl,h⟩
   |succ i=>exact .inr ⟨i,rfl,h⟩
  have aj:∀ i p q,j0=some p→mk i=some q→q.1≠p.1:=by
   intro i p q h1 h2
   have h3:=ad i q h2
   subst h1
   rw[ap] at h3
   exact fun e=>(Bx.fresh_spec (j:=p.1) (r:=p.2) h3 zbl).1 e.symm
  refine⟨fun i=>match i with|0=>t0|i+1=>t i,fun i=>match i with|0=>j0|i+1=>mk i,?_,?_,?_,?_,?_,?_,?_,?_⟩
  ·intro i o' ho
   cases i with
   |zero=>simp at ho;subst ho;exact af
   |succ i=>
    rw[a17]
    exact hs i o' (by simpa using ho)
  ·intro i p h
   rcases u i p h with⟨rfl,_⟩|⟨i',rfl,h⟩
   ·simp
   ·have:=ak i' p h;simp;omega
  ·intro i p h
   rcases u i p h with⟨rfl,h⟩|⟨i',rfl,h⟩
   ·exact(ae p h).1
   ·exact az i' p h
  ·intro i p h
   rcases u i p h with⟨rfl,h⟩|⟨i',rfl,h⟩
   ·exact(ae p h).2.1
   ·exact Bx.fresh_sub (ad i' p h) aa
  ·intro i j p q h1 h2 ar
   rcases u i p h1 with⟨rfl,h1⟩|⟨i',rfl,h1⟩<;>rcases u j q h2 with⟨rfl,h2⟩|⟨j',rfl,h2⟩
   ·exact absurd rfl ar
   ·exact fun e=>aj j' p q h1 h2 e.symm
   ·exact aj i' q p h2 h1
   ·exact am i' j' p q h1 h2 (by omega)
  ·intro i hi
   cases i with
   |zero=>exact ai
   |succ i=>
    have:=ao i (by simpa using hi)
    rw[show i0+1+i=i0+(i+1) by omega] at this
    exact a6T.FreshOr_sub aq this
  ·intro g k p hg a1 al
   cases k with
   |zero=>omega
   |succ k=>
    rcases u g p hg with⟨rfl,hg⟩|⟨g',rfl,hg⟩
    ·have:=a3l (ao k (by simpa using al)) (i0,p.1) (ae p hg).2.2
     rwa[show i0+1+k=i0+(k+1) by omega] at this
    ·have:=ax g' k p hg (by omega) (by simpa using al)
     rwa[show i0+1+k=i0+(k+1) by omega,show i0+1+g'=i0+(g'+1) by omega] at this
  ·rw[List.length_cons,a17,b3f]
   rw[ap] at hK
   exact hK
def b7w (n:Nat) (l:List Oper):Bool:=Region.lexB .any l.toArray&&a1n n l
theorem AWP.genM {id:Nat} {l:List Oper} {env:Env} {B:Bx} (es:List Nat) (hm:P.follows .mixedOrders=true) (hl:b7w n l=true)
  (h:∀ K:Env→Bx→Prop,(∀ e b,Q .normal ⟨e,b⟩→K e b)→a3H P l es B 0 [] l env B K):AWP P n (.region id l.toArray true) ⟨env,B⟩ Q:=by
 simp only[b7w,zag] at hl
 intro κ M0 a w hs
 obtain⟨u,q,_⟩:=a4J hl.1
 obtain⟨t,mk,ah,ab,ak,am,ae,_,al,hK⟩:=b2s l es B _ l 0 [] env B hl.2 (fun x hx=>hx) (h (fun e b=>Q .normal ⟨e,b⟩) (fun _ _ k=>k))
 refine wp_region_any hm ?_
 have aj:l.toArray.size=l.length:=by simp
 rw[aj]
 have ad:∀ j,(Array.replicate l.length false).getD j false=false:=fun j=>a3q _ j
 have ai:∀ j,xs (Array.replicate l.length false) j=false:=fun j=>a3q _ j
 refine b8F u q ⟨ae,fun i p hp x hx=>(Bx.fresh_spec (j:=x.1) (r:=x.2) (am i p hp) hx).1⟩ ak ab ah (fun g k p hg ag hk=>by have:=al g k p hg ag hk;simpa using this) (fun a w s=>⟨_,s,hK⟩) l.length _ a _ ?_ ?_
 ·unfold cnt
  have af:(List.range l.length).filter (fun i=>!(Array.replicate l.length false).getD i false)=List.range l.length:=by
   rw[zcu]
   intro x _
   simp only[ad x,zar]
  rw[af,zcv]
 ·have aa:=a6C (σ:=⟨env,B⟩) (l:=l) (t:=t) (b:=fun _=>B) (e:=fun _=>false) rfl hs
  obtain⟨M,ν,m,h1,h2,h3,h4,_,_,h7,h8⟩:=aa.st
  have an:∀ m,bxX mk B (xs (Array.replicate l.length false)) m=B:=by
   intro m
   induction m with
   |zero=>rfl
   |succ m ih=>unfold bxX;rw[ai m];simp only[ih]
  exact⟨aa.size,aa.closed,M,ν,h1,h2,h3,h4,by rw[an];exact h7,h8⟩
theorem b8G {all:List Oper} {es:List Nat} {B0:Bx} {i:Nat} {gs:List (Nat×Nat)} {env:Env} {B:Bx} {K:Env→Bx→Prop} (h:K env B):a3H P all es B0 i gs [] env B K:=h
def b3g (P:Program) (all:List Oper) (es:List Nat) (B0:Bx) (i:Nat) (gs:List (Nat×Nat)) (o:Oper) (env:Env) (B:Bx) (K':List (Nat×Nat)→Env→Bx→Prop):Prop:=
  bif memN i es then c9u P o env fun t r=>Env.fresh (a1s o) env=true∧Bx.fresh (a1s o) B=true∧a1g all i t gs∧K' ((i,a1s o)::gs) (a15 env o.dst t) ((a1s o,r)::B)
  else a4n P o env B0 fun t=>a1g all i t gs∧K' gs (a15 env o.dst t) B
theorem b4y {all os:List Oper} {es:List Nat} {B0:Bx} {i:Nat} {gs:List (Nat×Nat)} {o:Oper} {env:Env} {B:Bx} {K:Env→Bx→Prop} (hg:o.guard=none)
  (h:∀ K':List (Nat×Nat)→Env→Bx→Prop,(∀ gs e b,a3H P all es B0 (i+1) gs os e b K→K' gs e b)→b3g P all es B0 i gs o env B K'):a3H P all es B0 i gs (o::os) env B K:=
 a3M hg (h (fun gs e b=>a3H P all es B0 (i+1) gs os e b K) fun _ _ _ q=>q)
theorem b4z {all os:List Oper} {es:List Nat} {B0:Bx} {i:Nat} {gs:List (Nat×Nat)} {o:Oper} {env:Env} {B:Bx} {K:Env→Bx→Prop} {j d:Nat} {u:Bool} (hg:o.guard=some (j,u)) (hd:(all[j]?).bind (·.dst)=some d)
  (h:∀ K':List (Nat×Nat)→Env→Bx→Prop,(∀ gs e b,a3H P all es B0 (i+1) gs os e b K→K' gs e b)→a9L (env.lookup d) u (b3g P all es B0 i gs o env B K') (K' gs (a15 env o.dst a0H) B)):a3H P all es B0 i gs (o::os) env B K:=
 a3N hg hd (h (fun gs e b=>a3H P all es B0 (i+1) gs os e b K) fun _ _ _ q=>q)
attribute [go_sem] b3g c9u b3e
def c9v (P:Program):List Oper→Env→Bx→(Env→Bx→Prop)→Prop
 |[o],env,B,K=>(match o.op with
  | .store t x y=>a7N P t (ev P env 0 x) (ev P env t y) B (fun B'=>K (a15 env o.dst a0H) B')
  |_=>False)
 |_,_,_,_=>False
attribute [go_sem] c9v
def bxT (mk:Nat→Option (Nat×Res)) (B0:Bx) (Bs:Nat→Bx) (m len:Nat) (X:Nat→Bool):Bx:=
  bif X m then Bs (((List.range (len-m)).filter fun j=>X (m+j)).length) else bxX mk B0 X m
structure MidT (κ:Kap) (M0:Mem) (n:Nat) (l:List Oper) (t:Nat→T) (mk:Nat→Option (Nat×Res)) (B0:Bx) (Bs:Nat→Bx) (m:Nat) (env0:Env) (listed:Array Bool) (a:Act) (w:World):Prop where
  size:listed.size=l.length
  closed:a2g l listed
  st:∃ M ν,M0.ext κ M∧a.tmps.size=n∧a.defers=[]∧a2r M ν a.tmps (a1G l t (xs listed) env0 l.length)∧Sat κ M ν (bxT mk B0 Bs m l.length (xs listed)) w∧∀ k,pin≤k→ν k=κ.nu k
theorem a6h {p:Nat→Bool} {c:Nat}:∀ len,c≤len→(∀ j,j<c→p j=true)→(∀ j,c≤j→j<len→p j=false)→((List.range len).filter p).length=c
  |0,h,_,_=>by have:c=0:=by omega
               subst this;rfl
  |len+1,h,h1,h2=>by
   rw[List.range_succ,zeb,zba]
   by_cases hc:c≤len
   · rw[a6h len hc h1 (fun j a b=>h2 j a (by omega))]
     simp[h2 len hc (by omega)]
   · have:c=len+1:=by omega
     subst this
     rw[zcu.2 (fun x hx=>h1 x (by have:=zc9.1 hx;omega))]
     simp[h1 len (by omega)]
theorem b6h {κ:Kap} {M0:Mem} {l:List Oper} {B0:Bx} {t:Nat→T} {mk:Nat→Option (Nat×Res)} {env0:Env} {Q':Exit→Act→World→Prop}
    (bu:b9w l) (ar:b2U l) (al:c69 mk B0) (cg:b0c mk) {m:Nat} (cp:∀ i p,mk i=some p→i<m) (hm:m<l.length) (Bs:Nat→Bx)
    (ax:∀ i o,m≤i→l[i]?= some o→o.dst=none∧o.guard=none) (ch:∀ i,m≤i→t i=a0H)
    (bk:∀ i j p,mk i=some p→m≤j→j<l.length→a81 l j i=true) (az:∀ i j,m≤i→i<j→j<l.length→a81 l j i=true)
    (cl:∀ q,q≤l.length-m→∀ x∈B0,x∈Bs q) (b2:Bs 0=bxX mk B0 (fun _=>true) m)
    (cm:∀ i o,m≤i→l[i]?= some o→OpE P o (a1G l t (fun _=>true) env0 m) (Bs (i-m)) a0H (Bs (i-m+1)))
    (hs:∀ i o,i<m→l[i]?= some o→b2q P n l B0 o (a1G l t (fun _=>true) env0 i) (t i) (mk i))
    (ce:∀ g k p,mk g=some p→g<k→k<l.length→(t k).fresh p.1=true∨a81 l k g=true)
    (hQ:∀ a w,St κ M0 n ⟨a1G l t (fun _=>true) env0 l.length,Bs (l.length-m)⟩ a w→Q' .normal a w):
    ∀ (fuel:Nat) (aa:Array Bool) (a:Act) (w:World),cnt l aa=fuel→MidT κ M0 n l t mk B0 Bs m env0 aa a w→
      wpAny P .any l.toArray Q' fuel aa a w:=by
  have b7:∀ X:Nat→Bool,∀ i,m≤i→i≤l.length→∀ k,(a1G l t X env0 i).lookup k=(a1G l t X env0 m).lookup k:=by
    intro X i
    induction i with
    |zero=>intro h _ k;have:m=0:=by omega
           subst this;rfl
    |succ i ih=>
     intro h hi k
     by_cases he:m=i+1
     · subst he;rfl
     · rw[← ih (by omega) (by omega) k]
       obtain⟨o,ho⟩:∃ o,l[i]?= some o:=⟨l[i]'(by omega),by rw[zav]⟩
       have hd:=(ax i o (by omega) ho).1
       rw[a1G]
       cases X i
       · rfl
       · simp only[zaa,ho,Option.bind_some,hd];rfl
  have bl:∀ (aa:Array Bool) (a:Act) (w:World),MidT κ M0 n l t mk B0 Bs m env0 aa a w→(∀ i,i<l.length→aa.getD i false=true)→Q' .normal a w:=by
    intro aa a w be ah
    obtain⟨M,ν,h1,h2,h3,h4,h7,h8⟩:=be.st
    refine hQ a w ⟨M,ν,h1,h2,h3,?_,?_,h8⟩
    · intro d u hu
      refine h4 d u ?_
      rw[a1f l t (xs aa) (fun _=>true) env0 d l.length (fun j o hj _ _=>ah j hj)]
      exact hu
    · have e1:bxT mk B0 Bs m l.length (xs aa)=Bs (l.length-m):=by
        unfold bxT
        have:xs aa m=true:=ah m hm
        rw[this,zaa,a6h (p:=fun j=>xs aa (m+j)) (c:=l.length-m) _ (zax _) (fun j hj=>ah (m+j) (by omega)) (fun j a b=>absurd b (by omega))]
      rw[e1] at h7
      exact h7
  intro fuel
  induction fuel with
  |zero=>
   intro aa a w a8 be
   have ah:=a5d a8
   exact⟨a4B be.size ah,bl aa a w be ah⟩
  |succ fuel ih=>
   intro aa a w a8 ab
   refine⟨fun hr=>bl aa a w ab (a3g bu ab.size hr),fun i hi=>?_⟩
   obtain⟨h0,oi,bg,ah⟩:=mem_ready.1 hi
   have bh:i<l.length:=by have:=(zbi.1 bg).1;simpa using this
   have ae:l[i]?= some oi:=by simpa using bg
   have a1:i<aa.size:=by rw[ab.size];exact bh
   have am:aa.getD i false=false:=by simp[a1] at h0 ⊢; exact h0
   obtain⟨M,ν,h1,h2,h3,h4,h7,h8⟩:=ab.st
   have hd:a5t n oi=true:=by
      by_cases bc:i<m
      · exact(hs i oi bc ae).1
      · unfold a5t;rw[(ax i oi (by omega) ae).1]
   have bi:∀ d,d∈oi.looksAt l.toArray→(a1G l t (xs aa) env0 l.length).lookup d=(a1G l t (fun _=>true) env0 i).lookup d:=by
      intro d b3
      rw[a1W l t (xs aa) env0 d i l.length (by omega) ?_,a1f l t (xs aa) (fun _=>true) env0 d i ?_]
      · intro j o hj ho aw
        rcases ar j i o oi hj ho ae with⟨e',af,ag,ao⟩|al
        · exact ao▸ah e' af ag
        · exact absurd b3 ((Oper.apart_spec al).1 d aw)
      · intro j o hj bw ho aw
        by_cases bf:i=j
        · subst bf;exact am
        · cases bs:xs aa j with
          |false=>rfl
          |true=>
           rcases ar i j oi o (by omega) ae ho with⟨e',af,ag,ao⟩|al
           · have:=ab.closed j o ho bs e' af ag
             rw[ao,am] at this;cases this
           · exact absurd b3 ((Oper.apart_spec al).2.2 d aw)
   have a2:a2g l (aa.setIfInBounds i true):=by
      intro j oj hj hx e' af ag
      by_cases bf:i=j
      · subst bf
        rw[ae] at hj;cases hj
        exact getD_set_true (ah e' af ag)
      · rw[getD_set_ne false bf] at hx
        exact getD_set_true (ab.closed j oj hj hx e' af ag)
   have ai:cnt l (aa.setIfInBounds i true)=fuel:=by
      have:=a6P ab.size bh am;omega
   have after:∀ (M':Mem) (ν':Nu) (v:Value) (w':World),M.ext κ M'→a2r M ν' a.tmps (a1G l t (xs aa) env0 l.length)→(t i).rep M' ν' v→Sat κ M' ν' (bxT mk B0 Bs m l.length (xs (aa.setIfInBounds i true))) w'→(∀ k,pin≤k→ν' k=κ.nu k)→
        MidT κ M0 n l t mk B0 Bs m env0 (aa.setIfInBounds i true) (a.put oi.dst v) w':=by
      intro M' ν' v w' av h4 hr ad hpin
      refine⟨by simpa using ab.size,a2,M',ν',h1.trans av,by rw[Act.put_size];exact h2,by rw[Act.put_defers'];exact h3,?_,ad,hpin⟩
      have b1:=a2r.put (df:=a.defers) (h4.mono av.1) (dst:=oi.dst) (v:=v) (t:=t i) (fun d he=>by rw[h2];exact a1j hd d he) hr
      intro k u hu
      refine b1 k u ?_
      rw[a06]
      by_cases hk:oi.dst=some k
      · rw[zaz hk]
        have e1:=a1W l t (xs (aa.setIfInBounds i true)) env0 k (i+1) l.length (by omega) (fun j o hj bw ho aw=>by
          cases bs:xs (aa.setIfInBounds i true) j with
          |false=>rfl
          |true=>
           have aj:i≠j:=by omega
           have b6:aa.getD j false=true:=by rw[← getD_set_ne false aj];exact bs
           rcases ar i j oi o (by omega) ae ho with⟨e',af,ag,ao⟩|al
           · have:=ab.closed j o ho b6 e' af ag
             rw[ao,am] at this;cases this
           · exact absurd aw ((Oper.apart_spec al).2.1 k hk))
        rw[e1] at hu
        have ap:xs (aa.setIfInBounds i true) i=true:=by simp[xs,a1]
        rw[a1G,ap] at hu
        simp only[zaa,a06,ae,Option.bind_some,hk,za9] at hu
        exact hu
      · rw[za5 hk]
        have e2:=a1f l t (xs (aa.setIfInBounds i true)) (xs aa) env0 k l.length (fun j o hj ho aw=>by
          have aj:i≠j:=fun h=>by subst h;rw[ae] at ho;cases ho;exact hk aw
          exact getD_set_ne false aj)
        rw[← e2];exact hu
   have ao:a3Z M ν a (a1G l t (fun _=>true) env0 i) oi:=by
      intro d u bq hu
      refine h4 d u ?_
      rw[bi d (a4A bq)];exact hu
   have bb:∀ g bm d u,oi.guard=some (g,bm)→(l[g]?).bind (·.dst)=some d→(a1G l t (fun _=>true) env0 i).lookup d=some u→u.rep M ν (a.tmps.getD d undef):=by
      intro g bm d u hg bb hu
      refine h4 d u ?_
      rw[bi d (a2J hg bb)];exact hu
   have ap:xs (aa.setIfInBounds i true) i=true:=by simp[xs,a1]
   have an:∀ j,i≠j→xs (aa.setIfInBounds i true) j=xs aa j:=fun j hj=>getD_set_ne false hj
   by_cases bc:m≤i
   · -- a store
     obtain⟨c,rfl⟩:∃ c,i=m+c:=⟨i-m,by omega⟩
     obtain⟨co,b8⟩:=ax _ oi bc ae
     have aq:∀ j,j<c→aa.getD (m+j) false=true:=fun j hj=>a6S (az (m+j) (m+c) (by omega) (by omega) bh) ae ab.closed (fun e' af ag=>ah e' af ag)
     have ba:∀ j,c≤j→j<l.length-m→aa.getD (m+j) false=false:=by
        intro j hj bw
        by_cases he:j=c
        · subst he;exact am
        · cases hx:aa.getD (m+j) false with
          |false=>rfl
          |true=>
           have hq:m+j<l.length:=by omega
           have:=a6S (az (m+c) (m+j) (by omega) (by omega) hq) (zav hq) ab.closed (fun e' af ag=>ab.closed _ l[m+j] (zav hq) hx e' af ag)
           rw[am] at this;cases this
     have bz:∀ j p,mk j=some p→aa.getD j false=true:=fun j p hp=>a6S (bk j (m+c) p hp (by omega) bh) ae ab.closed (fun e' af ag=>ah e' af ag)
     have bn:Sat κ M ν (Bs c) w:=by
        have b4:=a6h (p:=fun j=>xs aa (m+j)) (c:=c) (l.length-m) (by omega) aq ba
        unfold bxT at h7
        cases hc:xs aa m with
        |true=>
         rw[hc,zaa,b4] at h7
         exact h7
        |false=>
         have cf:c=0:=by
            rcases zc4 c with h|h
            · exact h
            · have:=aq 0 h;unfold xs at hc;rw[Nat.add_zero,hc] at this;cases this
         subst cf
         rw[hc,zab] at h7
         rw[b2]
         refine h7.drop (fun x hx=>?_) (a5G al (a6f h7.nodup) _)
         rcases a1v.1 hx with h|⟨j,hj,_,hk⟩
         · exact a1v.2 (.inl h)
         · exact a1v.2 (.inr ⟨j,hj,bz j x hk,hk⟩)
     have bj:=cm (m+c) oi bc ae
     rw[show m+c-m=c by omega] at bj
     have ca:a3Z M ν a (a1G l t (fun _=>true) env0 m) oi:=by
        intro d u bq hu
        refine ao d u bq ?_
        rw[b7 (fun _=>true) (m+c) (by omega) (by omega)];exact hu
     unfold wpOp
     rw[bg]
     simp only[]
     rw[zaz (by simp[Region.wanted,b8])]
     left
     refine Oper.wp_mono_Q (Oper.wp_mono ?_ (bj κ M ν a w ca bn))
     rintro a' w' ⟨v,M',rfl,av,hr,ad⟩
     refine ih _ _ _ ai (after M' ν v w' av h4 (by rw[ch _ bc];exact hr) ?_ h8)
     have bt:=a6h (p:=fun j=>xs (aa.setIfInBounds (m+c) true) (m+j)) (c:=c+1) (l.length-m) (by omega) (fun j hj=>by
          by_cases he:j=c
          · subst he;exact ap
          · rw[an (m+j) (by omega)];exact aq j (by omega)) (fun j a b=>by rw[an (m+j) (by omega)];exact ba j (by omega) b)
     unfold bxT
     have cd:xs (aa.setIfInBounds (m+c) true) m=true:=by
        by_cases he:c=0
        · subst he;exact ap
        · rw[an m (by omega)];exact aq 0 (by omega)
     rw[cd,zaa,bt]
     exact ad
   have b9:i<m:=by omega
   have bp:=(hs i oi b9 ae).2
   have bv:∀ j,m≤j→xs (aa.setIfInBounds i true) j=xs aa j:=fun j hj=>an j (by omega)
   have a6:((List.range (l.length-m)).filter fun j=>xs (aa.setIfInBounds i true) (m+j))=(List.range (l.length-m)).filter fun j=>xs aa (m+j):=by
      congr 1;funext j;exact bv (m+j) (by omega)
   have br:∀ x∈B0,x∈bxT mk B0 Bs m l.length (xs aa):=by
      intro x hx
      unfold bxT
      cases xs aa m
      · exact a1v.2 (.inl hx)
      · refine cl _ ?_ x hx
        exact zbe (zcx _ _) (by simp)
   have same:mk i=none→∀ {M':Mem} {ν':Nu} {w':World},Sat κ M' ν' (bxT mk B0 Bs m l.length (xs aa)) w'→Sat κ M' ν' (bxT mk B0 Bs m l.length (xs (aa.setIfInBounds i true))) w':=by
      intro hk M' ν' w' ad
      unfold bxT at ad ⊢
      rw[bv m (zax _),a6]
      cases hc:xs aa m with
      |true=>rw[hc] at ad;exact ad
      |false=>
       rw[hc] at ad
       simp only[zab] at ad ⊢
       refine ad.drop (fun x hx=>?_) (a5G al (a6f ad.nodup) _)
       rcases a1v.1 hx with h|⟨j,hj,hX,ak⟩
       · exact a1v.2 (.inl h)
       · have aj:i≠j:=fun e=>by subst e;rw[hk] at ak;cases ak
         exact a1v.2 (.inr ⟨j,hj,by rw[← an j aj];exact hX,ak⟩)
   unfold wpOp
   rw[bg]
   simp only[]
   rcases bp with⟨hg,⟨au,a7⟩|⟨k,r,au,cq,cn,bx,a7⟩⟩|⟨hg,ht,au⟩
   · rw[zaz (a1X hg bb)]
     left
     refine Oper.wp_mono_Q (Oper.wp_mono ?_ (a7 κ M ν a w _ br ao h7))
     rintro a' w' ⟨v,M',rfl,av,hr,ad⟩
     exact ih _ _ _ ai (after M' ν v w' av h4 hr (same au ad) h8)
   · -- a maker: no store is done yet
     have hc:xs aa m=false:=by
        cases hx:xs aa m with
        |false=>rfl
        |true=>
         have:=a6S (bk i m _ au (zax _) ‹m<l.length›) (zav ‹m<l.length›) ab.closed (fun e' af ag=>ab.closed m l[m] (zav ‹m<l.length›) hx e' af ag)
         rw[am] at this;cases this
     have b5:bxT mk B0 Bs m l.length (xs aa)=bxX mk B0 (xs aa) m:=by unfold bxT;rw[hc];rfl
     have b0:bxT mk B0 Bs m l.length (xs (aa.setIfInBounds i true))=bxX mk B0 (xs (aa.setIfInBounds i true)) m:=by unfold bxT;rw[bv m (zax _),hc];rfl
     rw[b5] at h7
     rw[zaz (a1X hg bb)]
     left
     have ck:((bxX mk B0 (xs (aa.setIfInBounds i true)) m).map (·.1)).Nodup:=a5G al (a6f h7.nodup) _
     have cc:Bx.fresh k (bxX mk B0 (xs aa) m)=true:=by
        refine a6g fun x hx=>?_
        rcases a1v.1 hx with h|⟨j,hj,hX,ak⟩
        · exact Bx.fresh_spec (j:=x.1) (r:=x.2) bx h
        · have aj:j≠i:=fun e=>by subst e;unfold xs at hX;rw[am] at hX;cases hX
          refine⟨al.1 j i x _ ak au aj,fun cs e=>?_⟩
          exact cg j x ak k cs e
     refine Oper.wp_mono_Q (Oper.wp_mono ?_ (a7 _ (fun x hx=>a1v.2 (.inl hx)) cc κ M ν a w ao h7))
     rintro a' w' ⟨v,M',ν',rfl,av,hν,hr,ad⟩
     obtain⟨ci,cb⟩:=a4C i cn
     have bd:Env.fresh k (a1G l t (xs aa) env0 l.length)=true:=by
        refine a4Q ci l.length (fun q hq hx cj=>?_)
        rcases zdj q i with h|h|h
        · exact cb q h cj
        · subst h;unfold xs at hx;rw[am] at hx;cases hx
        · rcases ce i q _ au h hq with h'|h'
          · exact h'
          · exfalso
            have:=a6S h' (zav hq) ab.closed (fun e' af ag=>ab.closed q l[q] (zav hq) hx e' af ag)
            rw[am] at this;cases this
     refine ih _ _ _ ai (after M' ν' v w' av (h4.fresh bd hν) hr ?_ (fun q hq=>by rw[hν q (by omega)];exact h8 q hq))
     rw[b0]
     refine ad.drop ?_ ck
     intro x hx
     rcases a1v.1 hx with h|⟨j,hj,hX,ak⟩
     · exact zas _ (a1v.2 (.inl h))
     · by_cases aj:i=j
       · subst aj;rw[au] at ak;cases ak;exact zbl
       · exact zas _ (a1v.2 (.inr ⟨j,hj,by rw[← an j aj];exact hX,ak⟩))
   · rw[a3J hg bb]
     simp only[zbs,za2]
     refine ih _ _ _ ai (after M ν undef w (Mem.ext.refl κ M) h4 (by rw[ht];simp[a0H,T.rep,Cell.rep,C.rep]) (same au h7) h8)
theorem b07 (all:List Oper) (es:List Nat) (B0:Bx) (K:Env→Bx→Prop):∀ (l:List Oper) (i0:Nat) (gs:List (Nat×Nat)) (env:Env) (B:Bx),a1n n l=true→(∀ x∈B0,x∈B)→a3H P all es B0 i0 gs l env B K→
  ∃ (t:Nat→T) (mk:Nat→Option (Nat×Res)),(∀ i o,l[i]?= some o→b2q P n all B0 o (a1G l t (fun _=>true) env i) (t i) (mk i))∧(∀ i p,mk i=some p→i<l.length)∧b0c mk∧
   (∀ i p,mk i=some p→Bx.fresh p.1 B=true)∧(∀ i j p q,mk i=some p→mk j=some q→i≠j→p.1≠q.1)∧(∀ i,i<l.length→a1g all (i0+i) (t i) gs)∧
   (∀ g k p,mk g=some p→g<k→k<l.length→(t k).fresh p.1=true∨a81 all (i0+k) (i0+g)=true)∧K (a1G l t (fun _=>true) env l.length) (bxX mk B (fun _=>true) l.length)∧(∀ i p,mk i=some p→memN (i0+i) es=true)
 |[],i0,gs,env,B,_,hB,h=>⟨fun _=>a0H,fun _=>none,fun i o ho=>by simp at ho,fun _ _ h=>(by cases h),fun _ _ h=>(by cases h),fun _ _ h=>(by cases h),fun _ _ _ _ h=>(by cases h),fun i hi=>by simp at hi,fun _ _ _ h=>(by cases h),h,fun _ _ h=>(by cases h)⟩
 |o::os,i0,gs,env,B,hd,hB,h=>by
  simp only[a1n,List.all_cons,zag] at hd
  obtain⟨⟨ai,az⟩,ax⟩:=hd
  have step:∃ (t0:T) (B':Bx) (j0:Option (Nat×Res)) (ab:List (Nat×Nat)),b2q P n all B0 o env t0 j0∧(∀ x∈B,x∈B')∧B'=(match j0 with|some p=>p::B|none=>B)∧(∀ p,j0=some p→p.2.plain∧Bx.fresh p.1 B=true∧(i0,p.1)∈ab)∧a1g all i0 t0 gs∧
    (∀ p∈gs,p∈ab)∧(∀ p,j0=some p→memN i0 es=true)∧a3H P all es B0 (i0+1) ab os (a15 env o.dst t0) B' K:=by
   rcases a3c h with⟨hg,hx⟩|⟨hg,hx⟩
   ·cases hm:memN i0 es with
    |true=>
     rw[hm] at hx
     simp only[zaa] at hx
     obtain⟨t,r,av,ah,ao,ad,h2,h3⟩:=b2r hx
     refine⟨t,_,some (a1s o,r),_,⟨ai, .inl ⟨hg, .inr ⟨_,_,rfl,zbu az,ao,Bx.fresh_sub ad hB,fun B' hs hf=>ah B' ao hf⟩⟩⟩,fun x hx=>zas _ hx,rfl,fun p hp=>?_,h2,fun p hp=>zas _ hp,fun _ _=>rfl,h3⟩
     cases hp
     exact⟨av,ad,zbl⟩
    |false=>
     rw[hm] at hx
     simp only[zab] at hx
     obtain⟨t,ah,h2,h3⟩:=a2h hx
     exact⟨t,B,none,gs,⟨ai, .inl ⟨hg, .inl ⟨rfl,ah⟩⟩⟩,fun _ h=>h,rfl,fun p hp=>(by cases hp),h2,fun _ h=>h,fun p hp=>(by cases hp),h3⟩
   ·exact⟨a0H,B,none,gs,⟨ai, .inr ⟨hg,rfl,rfl⟩⟩,fun _ h=>h,rfl,fun p hp=>(by cases hp),a5y gs,fun _ h=>h,fun p hp=>(by cases hp),hx⟩
  obtain⟨t0,B',j0,ab,af,aa,aq,ae,aj,ar,ag,hk⟩:=step
  obtain⟨t,mk,hs,al,a2,ad,an,ap,a1,hK,aw⟩:=b07 all es B0 K os (i0+1) ab _ B' ax (fun x hx=>aa x (hB x hx)) hk
  have u:∀ i p,(match i with|0=>j0|i+1=>mk i)=some p→(i=0∧j0=some p)∨ ∃ i',i=i'+1∧mk i'=some p:=by
   intro i p h
   cases i with
   |zero=>exact .inl ⟨rfl,h⟩
   |succ i=>exact .inr ⟨i,rfl,h⟩
  have ak:∀ i p q,j0=some p→mk i=some q→q.1≠p.1:=by
   intro i p q h1 h2
   have h3:=ad i q h2
   subst h1
   rw[aq] at h3
   exact fun e=>(Bx.fresh_spec (j:=p.1) (r:=p.2) h3 zbl).1 e.symm
  refine⟨fun i=>match i with|0=>t0|i+1=>t i,fun i=>match i with|0=>j0|i+1=>mk i,?_,?_,?_,?_,?_,?_,?_,?_,?_⟩
  ·intro i o' ho
   cases i with
   |zero=>simp at ho;subst ho;exact af
   |succ i=>
    rw[a17]
    exact hs i o' (by simpa using ho)
  ·intro i p h
   rcases u i p h with⟨rfl,_⟩|⟨i',rfl,h⟩
   ·simp
   ·have:=al i' p h;simp;omega
  ·intro i p h
   rcases u i p h with⟨rfl,h⟩|⟨i',rfl,h⟩
   ·exact(ae p h).1
   ·exact a2 i' p h
  ·intro i p h
   rcases u i p h with⟨rfl,h⟩|⟨i',rfl,h⟩
   ·exact(ae p h).2.1
   ·exact Bx.fresh_sub (ad i' p h) aa
  ·intro i j p q h1 h2 au
   rcases u i p h1 with⟨rfl,h1⟩|⟨i',rfl,h1⟩<;>rcases u j q h2 with⟨rfl,h2⟩|⟨j',rfl,h2⟩
   ·exact absurd rfl au
   ·exact fun e=>ak j' p q h1 h2 e.symm
   ·exact ak i' q p h2 h1
   ·exact an i' j' p q h1 h2 (by omega)
  ·intro i hi
   cases i with
   |zero=>exact aj
   |succ i=>
    have:=ap i (by simpa using hi)
    rw[show i0+1+i=i0+(i+1) by omega] at this
    exact a6T.FreshOr_sub ar this
  ·intro g k p hg a6 am
   cases k with
   |zero=>omega
   |succ k=>
    rcases u g p hg with⟨rfl,hg⟩|⟨g',rfl,hg⟩
    ·have:=a3l (ap k (by simpa using am)) (i0,p.1) (ae p hg).2.2
     rwa[show i0+1+k=i0+(k+1) by omega] at this
    ·have:=a1 g' k p hg (by omega) (by simpa using am)
     rwa[show i0+1+k=i0+(k+1) by omega,show i0+1+g'=i0+(g'+1) by omega] at this
  ·rw[List.length_cons,a17,b3f]
   rw[aq] at hK
   exact hK
  ·intro i p h
   rcases u i p h with⟨rfl,h⟩|⟨i',rfl,h⟩
   ·exact ag p h
   ·have:=aw i' p h
    rwa[show i0+1+i'=i0+(i'+1) by omega] at this
def b7x (o:Oper):Bool:=match o.op with| .store _ _ _=>o.dst.isNone&&o.guard.isNone|_=>false
theorem b2t (all:List Oper) (B0:Bx) (K:Env→Bx→Prop):∀ (l:List Oper) (env:Env) (B:Bx),(∀ x∈B0,x∈B)→l.all b7x=true→a3t P all B0 l env B K→
  ∃ Bs:Nat→Bx,Bs 0=B∧(∀ i o,l[i]?= some o→OpE P o env (Bs i) a0H (Bs (i+1)))∧(∀ q,q≤l.length→∀ x∈B0,x∈Bs q)∧K env (Bs l.length)
 |[],env,B,hfix,_,h=>⟨fun _=>B,rfl,fun i o ho=>by simp at ho,fun _ _ x hx=>hfix x hx,h⟩
 |o::os,env,B,hfix,ha,h=>by
  simp only[List.all_cons,zag] at ha
  obtain⟨ho,ha⟩:=ha
  unfold b7x at ho
  split at ho
  ·rename_i t x y ad
   simp only[zag,Option.isNone_iff_eq_none] at ho
   unfold a3t at h
   rcases a3c h with⟨_,h⟩|⟨hg,_⟩
   ·rw[ad] at h
    simp only[] at h
    split at h
    ·rename_i k hk
     obtain⟨hn,h⟩:=h
     obtain⟨B',h1,⟨k',r,ab,rfl⟩,h2⟩:=a48 ad (b2c h)
     rw[hk] at ab;cases ab
     have u:∀ x∈B0,x∈Bx.put k r B:=fun x hx=>a4u (hfix x hx) (a7p hn hx)
     rw[ho.1] at h2
     obtain⟨Bs,e0,e1,e2,e3⟩:=b2t all B0 K os env _ u ha h2
     refine⟨fun i=>match i with|0=>B|i+1=>Bs i,rfl,?_,?_,e3⟩
     ·intro i o' aa
      cases i with
      |zero=>simp at aa;subst aa;show OpE P _ env B a0H (Bs 0);rw[e0];exact h1
      |succ i=>exact e1 i o' (by simpa using aa)
     ·intro q hq x hx
      cases q with
      |zero=>exact hfix x hx
      |succ q=>exact e2 q (by simpa using hq) x hx
    ·exact h.elim
   ·exfalso
    unfold a08 at hg
    rw[ho.2] at hg
    exact hg
  ·cases ho
def b3h (n:Nat) (l:List Oper) (es:List Nat) (m:Nat):Bool:=b7w n l&&(decide (m<l.length)&&((l.drop m).all b7x&&(List.range l.length).all fun j=>decide (j<m)||(es.all (fun e=>a81 l j e)&&(List.range j).all fun i=>decide (i<m)||a81 l j i)))
theorem b7y {i:Nat}:∀ {es:List Nat},memN i es=true→i∈es
 |[],h=>(by cases h)
 |k::ks,h=>by
  unfold memN at h
  simp only[zb6,beq_iff_eq] at h
  rcases h with rfl|h
  ·exact zbl
  ·exact zas _ (b7y h)
theorem b4A {l:List Oper} {env:Env} {B:Bx} (es:List Nat) (m:Nat) (hl:b3h n l es m=true)
    (h:a3H P l es B 0 [] (l.take m) env B fun env B'=>a3t P l B (l.drop m) env B' fun e b=>Q .normal ⟨e,b⟩) {κ:Kap} {M0:Mem} {a:Act} {w:World} (hs:St κ M0 n ⟨env,B⟩ a w):
    wpAny P .any l.toArray (fun e a' w'=>∃ σ',St κ M0 n σ' a' w'∧Q e σ') l.length (Array.replicate l.length false) a { w with drawn:=w.drawn+1 }:=by
  simp only[b3h,b7w,zag,zan] at hl
  obtain⟨⟨ba,an⟩,bd,ab,ax⟩:=hl
  have bi:(l.take m).length=m:=by simp;omega
  have bh:(l.drop m).length=l.length-m:=by simp
  have a6:a1n n (l.take m)=true:=by
    unfold a1n at*
    rw[← zbt m l,zcs,zag] at an
    exact an.1
  have u:∀ i o,m≤i→l[i]?= some o→(l.drop m)[i-m]?= some o:=by
    intro i o hi ho
    rw[zct,show m+(i-m)=i by omega];exact ho
  have ae:∀ i o,m≤i→l[i]?= some o→o.dst=none∧o.guard=none:=by
    intro i o hi ho
    have:=za0.1 ab o (zbc (u i o hi ho))
    unfold b7x at this
    split at this
    · simpa using this
    · cases this
  have ap:∀ j,m≤j→j<l.length→(∀ e∈es,a81 l j e=true)∧∀ i,m≤i→i<j→a81 l j i=true:=by
    intro j hj ai
    have:=za0.1 ax j (zc9.2 ai)
    simp only[zb6,zag,zan] at this
    rcases this with h|⟨h1,h2⟩
    · omega
    · refine⟨fun e he=>za0.1 h1 e he,fun i hi aj=>?_⟩
      have:=za0.1 h2 i (zc9.2 aj)
      simp only[zb6,zan] at this
      rcases this with h|h
      · omega
      · exact h
  obtain⟨al,ag,_⟩:=a4J ba
  obtain⟨t,mk,bb,ah,be,bf,aw,_,a8,hK,az⟩:=b07 l es B _ (l.take m) 0 [] env B a6 (fun x hx=>hx) h
  rw[bi] at ah a8 hK
  obtain⟨Bs,bg,av,ad,aq⟩:=b2t l B _ (l.drop m) _ _ (fun x hx=>a1v.2 (.inl hx)) ab hK
  rw[bh] at ad aq
  have aa:∀ (t':Nat→T),(∀ i,i<m→t' i=t i)→∀ i,i≤m→a1G l t' (fun _=>true) env i=a1G (l.take m) t (fun _=>true) env i:=by
    intro t' ht i
    induction i with
    |zero=>intro _;rfl
    |succ i ih=>
     intro hi
     rw[a1G,a1G,ih (by omega),ht i (by omega),zdu (by omega)]
  have au:∀ j,(Array.replicate l.length false).getD j false=false:=fun j=>a3q _ j
  have ar:∀ j,xs (Array.replicate l.length false) j=false:=fun j=>a3q _ j
  let t':Nat→T:=fun i=>if i<m then t i else a0H
  have af:∀ i,i<m→t' i=t i:=fun i hi=>by simp[t',hi]
  have a2:∀ i,m≤i→t' i=a0H:=fun i hi=>by simp[t',Nat.not_lt.2 hi]
  have ao:∀ i j p,mk i=some p→m≤j→j<l.length→a81 l j i=true:=by
    intro i j p hp hj ai
    have:=az i p hp
    rw[zbg] at this
    exact(ap j hj ai).1 i (b7y this)
  have am:∀ i,m≤i→i≤l.length→a1G l t' (fun _=>true) env i=a1G (l.take m) t (fun _=>true) env m:=by
    intro i
    induction i with
    |zero=>intro hi _;have:m=0:=by omega
           subst this;rfl
    |succ i ih=>
     intro hi bk
     by_cases he:m=i+1
     · subst he;exact aa t' af _ (zax _)
     · rw[← ih (by omega) (by omega),a1G]
       obtain⟨o,ho⟩:∃ o,l[i]?= some o:=⟨l[i]'(by omega),by rw[zav]⟩
       simp only[zaa,ho,Option.bind_some,(ae i o (by omega) ho).1]
       rfl
  refine b6h (n:=n) (κ:=κ) (M0:=M0) (t:=t') (mk:=mk) (B0:=B) (env0:=env) (m:=m) al ag ⟨aw,fun i p hp x hx=>(Bx.fresh_spec (j:=x.1) (r:=x.2) (bf i p hp) hx).1⟩ be ah bd Bs ae a2 ao (fun i j hi aj hj=>(ap j (by omega) hj).2 i hi aj) ad bg ?_ ?_ ?_ (fun a w s=>?_) l.length _ a _ ?_ ?_
  · intro i o hi ho
    rw[aa t' af m (zax _)]
    exact av (i-m) o (u i o hi ho)
  · intro i o hi ho
    rw[aa t' af i (by omega),af i hi]
    exact bb i o (by rw[zdu hi];exact ho)
  · intro g k p hg bc hk
    by_cases a1:k<m
    · rw[af k a1]
      have:=a8 g k p hg bc a1;simpa using this
    · left
      rw[a2 k (by omega)];rfl
  · rw[am l.length (by omega) (zax _)] at s
    exact⟨_,s,aq⟩
  · unfold cnt
    have a7:(List.range l.length).filter (fun i=>!(Array.replicate l.length false).getD i false)=List.range l.length:=by
      rw[zcu]
      intro x _
      simp only[au x,zar]
    rw[a7,zcv]
  · have ak:=a6C (σ:=⟨env,B⟩) (l:=l) (t:=t') (b:=fun _=>B) (e:=fun _=>false) rfl hs
    obtain⟨M,ν,_,h1,h2,h3,h4,_,_,h7,h8⟩:=ak.st
    have bj:∀ q,bxX mk B (xs (Array.replicate l.length false)) q=B:=by
      intro q
      induction q with
      |zero=>rfl
      |succ q ih=>unfold bxX;rw[ar q];simp only[ih]
    exact⟨ak.size,ak.closed,M,ν,h1,h2,h3,h4,by unfold bxT;rw[ar m,zab,bj];exact h7,h8⟩
theorem AWP.genMT {id:Nat} {l:List Oper} {env:Env} {B:Bx} (es:List Nat) (m:Nat) (hm:P.follows .mixedOrders=true) (hl:b3h n l es m=true)
  (h:∀ K:Env→Bx→Prop,(∀ e b,Q .normal ⟨e,b⟩→K e b)→a3H P l es B 0 [] (l.take m) env B fun env B'=>a3t P l B (l.drop m) env B' K):AWP P n (.region id l.toArray true) ⟨env,B⟩ Q:=by
 intro κ M0 a w hs
 refine wp_region_any hm ?_
 have q:l.toArray.size=l.length:=by simp
 rw[q]
 exact b4A es m hl (h _ fun _ _ k=>k) hs
def b6i (c:Nat) (o:Oper):Bool:=match o.guard with|none=>true|some (g,_)=>Nat.blt g c
theorem c3s {l:List Oper} {c:Nat} {Q' Q1:Exit→Act→World→Prop} (ak:b9w l) (hw:d0V l c) (bj:c≤l.length) (hg:(l.take c).all (b6i c)=true)
  (am:∀ e a w,e≠ .normal→¬ Q1 e a w)
  (aq:∀ fuel q a w,a2U l q c→a2g l q→cnt l q=fuel→Q1 .normal a w→wpAny P .any l.toArray Q' fuel q a w):
  ∀ (f1:Nat) (u q:Array Bool) (fuel:Nat) (a:Act) (w:World),u.size=c→q.size=l.length→(∀ i,i<c→q.getD i false=u.getD i false)→(∀ i,c≤i→q.getD i false=false)→a2g l q→
   cnt l q=fuel→cnt (l.take c) u=f1→wpAny P .any (l.take c).toArray Q1 f1 u a w→wpAny P .any l.toArray Q' fuel q a w:=by
 have a8:(l.take c).length=c:=by simp;omega
 have first:∀ {u q:Array Bool},q.size=l.length→(∀ i,i<c→q.getD i false=u.getD i false)→(∀ i,c≤i→q.getD i false=false)→(∀ i,i<c→u.getD i false=true)→a2U l q c:=by
  intro u q bc h1 h2 ab
  refine⟨bc,fun i hi=>?_⟩
  by_cases ad:i<c
  ·rw[h1 i ad,ab i ad];simp[ad]
  ·rw[h2 i (by omega)];simp[ad]
 intro f1
 induction f1 with
 |zero=>
  intro u q fuel a w az hs h1 h2 ae hf a1 h
  have ab:=a5d a1
  rw[a8] at ab
  exact aq fuel q a w (first hs h1 h2 ab) ae hf h.2
 |succ f1 ih=>
  intro u q fuel a w az hs h1 h2 ae hf a1 h
  have ba:∃ k,k<c∧u.getD k false=false:=by
   refine zdv fun hn=>?_
   have:cnt (l.take c) u=0:=by
    unfold cnt
    rw[zbk,List.filter_eq_nil_iff]
    intro i hi
    have ad:i<c:=by rw[zc9,a8] at hi;exact hi
    cases hx:u.getD i false with
    |true=>simp
    |false=>exact absurd ⟨i,ad,hx⟩ hn
   omega
  obtain⟨k0,al,aj⟩:=ba
  cases fuel with
  |zero=>
   have:=a5d hf k0 (by omega)
   rw[h1 k0 al,aj] at this;cases this
  |succ fuel=>
   refine⟨fun hr=>?_,fun i hi=>?_⟩
   ·have:=a3g ak hs hr k0 (by omega)
    rw[h1 k0 al,aj] at this;cases this
   ·obtain⟨h0,oi,aw,ab⟩:=mem_ready.1 hi
    have be:i<l.length:=by have:=(zbi.1 aw).1;simpa using this
    have ag:l[i]?= some oi:=by simpa using aw
    have ad:i<c:=by
     refine Nat.lt_of_not_le fun bf=>?_
     have:=hw q hs ae i bf hi k0 al
     rw[h1 k0 al,aj] at this;cases this
    have a6:q.getD i false=false:=by
     have:i<q.size:=by omega
     simp[this] at h0 ⊢; exact h0
    have ah:u.getD i false=false:=by rw[← h1 i ad];exact a6
    have au:(l.take c)[i]?= some oi:=by rw[zdu ad];exact ag
    have bd:i∈Region.ready .any (l.take c).toArray u:=by
     refine mem_ready.2 ⟨?_,oi,by simpa using au,fun e he hb=>?_⟩
     ·have:i<u.size:=by omega
      simp[this] at ah ⊢; exact ah
     ·have:=ak i oi ag e he hb
      rw[← h1 e.on (by omega)]
      exact ab e he hb
    have aa:=h.2 i bd
    have ai:a2g l (q.setIfInBounds i true):=by
     intro j oj hj hx e' a2 a7
     by_cases af:i=j
     ·subst af
      rw[ag] at hj;cases hj
      exact getD_set_true (ab e' a2 a7)
     ·rw[getD_set_ne false af] at hx
      exact getD_set_true (ae j oj hj hx e' a2 a7)
    have ax:cnt l (q.setIfInBounds i true)=fuel:=by
     have:=a6P hs be a6;omega
    have ar:cnt (l.take c) (u.setIfInBounds i true)=f1:=by
     have:=a6P (l:=l.take c) (by omega) (by omega) ah;omega
    have an:∀ a w,wpAny P .any (l.take c).toArray Q1 f1 (u.setIfInBounds i true) a w→wpAny P .any l.toArray Q' fuel (q.setIfInBounds i true) a w:=by
     intro a w hn
     refine ih _ _ fuel a w (by simpa using az) (by simpa using hs) (fun j hj=>?_) (fun j hj=>?_) ai ax ar hn
     ·by_cases af:i=j
      ·subst af
       have e1:i<q.size:=by omega
       have e2:i<u.size:=by omega
       simp[e1,e2]
      ·rw[getD_set_ne false af,getD_set_ne false af];exact h1 j hj
     ·rw[getD_set_ne false (by omega)];exact h2 j hj
    unfold wpOp at aa ⊢
    rw[show (l.take c).toArray[i]?= some oi by simpa using au] at aa
    rw[aw]
    simp only[] at aa ⊢
    have ao:Region.wanted oi (yielded l.toArray a.tmps)=Region.wanted oi (yielded (l.take c).toArray a.tmps):=by
     have ap:=za0.1 hg oi (zbc au)
     unfold b6i at ap
     unfold Region.wanted
     split
     ·rfl
     ·rename_i g bh bg
      rw[bg] at ap
      have bb:g<c:=by simpa using ap
      have:(l.take c).toArray[g]?= l.toArray[g]?:= by
       simp only[zd7]
       exact zdu bb
      unfold yielded
      rw[this]
    rw[ao]
    split at aa
    ·rename_i av
     rw[zaz av]
     left
     rcases aa with aa|⟨_,a',w',hq⟩
     ·refine Oper.wp_mono_Q (Oper.wp_mono (fun a w=>an a w) ?_)
      unfold Oper.wp at aa ⊢
      generalize (execOp a.eval oi).run P w=r at aa
      cases r with
      |ok x w'=>
       cases x<;>simp only[Oper.upon] at aa ⊢ <;>try exact aa
       refine Calls.mono aa fun e bi he=>?_
       cases e with
       |returned v=>exact he
       |panicked ch=>exact am _ _ _ (by intro hh;cases hh) he
       |outgrown=>obtain⟨_,_,hf⟩:=he;exact(am _ _ _ (by intro hh;cases hh) hf).elim
      |halt x w'=>
       cases x<;>simp only[Oper.upon] at aa ⊢
       all_goals exact am _ _ _ (by intro hh;cases hh) aa
     ·exact(am _ _ _ (by intro hh;cases hh) hq).elim
    ·rename_i av
     rw[za5 av]
     exact an _ _ aa
def c0v (n:Nat) (l:List Oper) (es:List Nat) (m c:Nat):Bool:=
  b3h n (l.take c) es m&&(Region.lexB .any l.toArray&&(a1n n l&&((l.take c).all (b6i c)&&(Nat.ble c l.length&&(List.range (l.length-c+1)).all (fun i=>b55 l (c+i))))))
theorem AWP.genMU {id:Nat} {l:List Oper} {env:Env} {B:Bx} (es:List Nat) (m c:Nat) (hm:P.follows .mixedOrders=true) (hl:c0v n l es m c=true)
  (h:∀ K:Env→Bx→Prop,(∀ e b,Q .normal ⟨e,b⟩→K e b)→a3H P (l.take c) es B 0 [] ((l.take c).take m) env B fun env B'=>a3t P (l.take c) B ((l.take c).drop m) env B' fun env B2=>a43 P l (l.drop c) env B2 K):AWP P n (.region id l.toArray true) ⟨env,B⟩ Q:=by
 simp only[c0v,zag] at hl
 obtain⟨av,am,al,hg,ab,aq⟩:=hl
 have ab:c≤l.length:=by simpa using ab
 have ak:∀ i,c≤i→i≤l.length→b55 l i=true:=fun i h1 h2=>by
  have:=za0.1 aq (i-c) (by simp;omega)
  rwa[show c+(i-c)=i by omega] at this
 obtain⟨aa,ao,_⟩:=a4J am
 have au:a1n n (l.drop c)=true:=by
  unfold a1n at*
  rw[← zbt c l,zcs,zag] at al
  exact al.2
 intro κ M0 a w hs
 refine wp_region_any hm ?_
 have ar:l.toArray.size=l.length:=by simp
 rw[ar]
 have u:∀ k j,(Array.replicate k false).getD j false=false:=fun k j=>a3q _ j
 have aj:(l.take c).length=c:=by simp;omega
 have ah:∀ ll:List Oper,cnt ll (Array.replicate ll.length false)=ll.length:=by
  intro ll
  unfold cnt
  have an:(List.range ll.length).filter (fun i=>!(Array.replicate ll.length false).getD i false)=List.range ll.length:=by
   rw[zcu]
   intro x _
   simp only[u _ x,zar]
  rw[an,zcv]
 let Q1:Exit→AS→Prop:=fun e σ'=>match e with| .normal=>a43 P l (l.drop c) σ'.env σ'.B (fun e b=>Q .normal ⟨e,b⟩)|_=>False
 have key:=b4A (P:=P) (Q:=Q1) (n:=n) es m av (env:=env) (B:=B) (h (fun e b=>Q .normal ⟨e,b⟩) fun _ _ k=>k) hs
 have ag:cnt (l.take c) (Array.replicate c false)=c:=by
  have:=ah (l.take c)
  rwa[aj] at this
 rw[aj] at key
 refine c3s aa (b28 (ak c (zax _) ab)) ab hg (fun e a w ap hq=>?_) ?_ c (Array.replicate c false) _ l.length a _ (by simp) (by simp) (fun i _=>by rw[u,u]) (fun i _=>u _ i) (fun j oj hj hc=>by rw[u] at hc;cases hc) (ah l) ag key
 ·obtain⟨_,_,he⟩:=hq
  cases e<;>first|exact ap rfl|exact he
 ·rintro fuel q a w hF hc ae ⟨σ',ad,af⟩
  refine b0P (hi:=l.length) aa (zax _) (K:=fun τ=>Q .normal τ) (fun fuel q a w τ hF hc ae hk ad=>?_) (l.drop c) c σ' fuel q a w (by rw[List.take_of_length_le];simp) ab (fun i h1 h2=>ak (i+1) (by omega) (by omega)) hF hc ae (a1K l (fun τ=>Q .normal τ) (l.drop c) σ'.env σ'.B au af) ad
  have ai:∀ i,i<l.length→q.getD i false=true:=fun i hi=>by rw[hF.2 i hi];simpa using hi
  have hr:=a4B hF.1 ai
  cases fuel with
  |zero=>exact⟨hr,τ,ad,hk⟩
  |succ fuel=>exact⟨fun _=>⟨τ,ad,hk⟩,fun i hi=>by rw[hr] at hi;cases hi⟩
end Go.Sx
namespace Go.Sx
attribute [go_sem] Nat.reduceBEq Nat.reduceBNe Nat.reduceAdd Nat.reduceSub Nat.reduceMul Nat.reduceLeDiff Nat.reduceLT Nat.reduceEqDiff Int.reduceToNat Int.reduceLE Int.reduceLT Int.reduceEq reduceCtorEq
theorem AWP.condT {P:Program} {n:Nat} {σ:AS} {Q:Exit→AS→Prop} {c:Operand} {x y:Code} (hc:ev0 σ.env c=some (.one (.dat (.bool true)))) (h:AWP P n x σ Q):AWP P n (.cond c x y) σ Q:=AWP.cond hc (fun _=>h) fun e=>absurd e (by decide)
theorem AWP.condF {P:Program} {n:Nat} {σ:AS} {Q:Exit→AS→Prop} {c:Operand} {x y:Code} (hc:ev0 σ.env c=some (.one (.dat (.bool false)))) (h:AWP P n y σ Q):AWP P n (.cond c x y) σ Q:=AWP.cond hc (fun e=>absurd e (by decide)) fun _=>h
theorem AWP.cnd {P:Program} {n:Nat} {σ:AS} {Q:Exit→AS→Prop} {c:Operand} {x y:Code} {b:Bool} (ht:b=true→AWP P n x σ Q) (hf:b=false→AWP P n y σ Q) (hc:ev0 σ.env c=some (.one (.dat (.bool b))):=by with_unfolding_all rfl):AWP P n (.cond c x y) σ Q:=AWP.cond hc ht hf
theorem stp {P Q:Prop} (h:Q) (k:Q→P:=by
 intro q
 with_reducible first
  |exact seqVC_stepN rfl q
  |exact AWP.seq q
  |exact AWP.seqR (by kernel_rfl) q
  |exact b0O rfl q
  |exact a9M rfl q
  |exact b0T rfl q
  |exact b4w rfl q
  |exact b4y rfl q
  |exact b52 rfl (by with_unfolding_all rfl) q
  |exact b53 rfl (by with_unfolding_all rfl) q
  |exact b4m rfl (by with_unfolding_all rfl) q
  |exact b57 rfl (by with_unfolding_all rfl) q
  |exact b4x rfl (by with_unfolding_all rfl) q
  |exact b4z rfl (by with_unfolding_all rfl) q):P:=k h
theorem stn {P Q:Prop} (h:Q) (k:Q→P:=by
 intro q
 with_reducible first
  |exact b94 q
  |exact b95 q
  |exact b8x q
  |exact c0a q
  |exact b8E q
  |exact b8G q
  |exact AWP.block q
  |exact AWP.condT (by with_unfolding_all rfl) q
  |exact AWP.condF (by with_unfolding_all rfl) q
  |exact AWP.skip q
  |exact AWP.ret q
  |exact AWP.exit q):P:=k h
theorem a0J {P Q:Prop} (h:Q) (k:Q→P:=by
  intro q
  with_reducible exact AWP.parR mixed (by kernel_rfl) q):P:=k h
theorem stq {P Q:Prop} (h:Q) (k:Q→P:=by
 intro q
 with_reducible first
  |exact⟨(by kernel_rfl:a81 _ _ _=true),q⟩
  |exact Or.inl q):P:=k h
theorem nf {P:Prop} (h:P) (k:P→P:=by(fail_if_success guard_target=ₛ False→False);exact id):P:=k h
theorem sts {P Q:Prop} (h:Q) (k:Q→P:=by intro q;simp only[go_sem];exact q):P:=k h
theorem Gh.tt {n:Nat} {env:Env} {B:Bx} (l:List (Nat×Nat)) {τ:AS}
  (h1:wkE l env τ.env:=by(repeat(first|exact trivial|refine⟨rfl,?_⟩|refine⟨by(simp only[go_sem,zba,zcb,List.length_cons,List.length_nil,zbg])<;>rfl,?_⟩)))
  (h2:wkB l B τ.B:=by(repeat(first|exact trivial|refine⟨rfl,?_⟩|refine⟨by(simp only[go_sem,zba,zcb,List.length_cons,List.length_nil,zbg])<;>rfl,?_⟩)))
  (h3:b3a (τ.B.map fun p=>rn l p.1)=true:=by rfl) (h4:b3a (τ.B.map (·.1))=true:=by rfl) (h5:b4v l=true:=by rfl):Gh n ⟨env,B⟩ τ:=Gh.to l h1 h2 h3 h4 h5
theorem lf {P:Prop} (h:P:=by first|exact fun _ h=>absurd h zaf|(refine a0m ?_;first|rfl|(simp only[zb,zaa,zab,zac,zad]<;>rfl))):P:=h
theorem PCB.ob {P:Program} {n:Nat} {f:FuncId} {fn:Func} {c:Code} {args:List T} {B B':Bx} {r:T} (hf:P.funcs[f]?= some fn) (ab:fn.ntmps=n) {rs:List ResultVar} (u:fn.results=rs.toArray) (h:AWP P n c ⟨b0L 0 args,B⟩ (c9e P rs r B'))
  (hb:fn.body=some c:=by rfl) (hn:(fn.name== "runtime.NumGoroutine")=false:=by decide) (q:Nat.ble args.length n=true:=by rfl) (aa:b7i B=true:=by rfl) (hk:B'.map (·.1)=B.map (·.1):=by rfl) (ae:r.pins=true:=by rfl) (ad:b4l B'=true:=by rfl):PCB P f args B r B':=
 PCB.of_body hf hb hn ab u q aa hk h ae ad
theorem Gh.fz {n:Nat} {env:Env} {B:Bx} (k:Nat) {sz:Nat} {rows:List (List C)} (hb:B.lookup k=some (.row sz rows):=by rfl) (q:b9I k=true:=by rfl)
  (hE:Env.frOk k rows.length env:=by simp only[go_sem,zcb]) (hB:Bx.frOk k rows.length B:=by simp only[go_sem,zcb]):
  Gh n ⟨env,B⟩ ⟨frE k sz rows env,frB k sz rows (Bx.drop k B)⟩:=Gh.freeze k hb q hE hB
end Go.Sx
namespace Go.Sx
variable {P:Program} {n:Nat} {Q:Exit→AS→Prop}
def Is {α:Type} (a b:α):Prop:=a=b
def a9e (B:Bx):List Nat→Bx
 |[]=>[]
 |d::ds=>match B.lookup d with
  |some t=>(d,t)::a9e B ds
  |none=>a9e B ds
attribute [go_sem] a9e
theorem AWP.loopF {c:Code} {env:Env} {B:Bx} {X:Type} (aa:X→Env) (u:X→Bx) (ks kb:List Nat) (ok:X→Prop) (q:X→Nat) (x₀:X)
  (hs:Gh n ⟨env,B⟩ ⟨aa x₀++a6v env ks,u x₀++a9e B kb⟩) (h₀:ok x₀)
  (ab:∀ x,ok x→AWP P n c ⟨aa x++a6v env ks,u x++a9e B kb⟩ (c4C (fun σ'=>∃ x',q x'<q x∧ok x'∧Gh n σ' ⟨aa x'++a6v env ks,u x'++a9e B kb⟩) Q)):AWP P n (.loop c) ⟨env,B⟩ Q:=
 AWP.loopS (fun x=>aa x++a6v env ks) (fun x=>u x++a9e B kb) ok q x₀ hs h₀ ab
theorem AWP.range {c:Code} {env:Env} {B:Bx} {α S:Type} (l:List α) (enc:α→List C) (u:Nat→S→Env) (q:Nat→S→Bx) (ks kb:List Nat) (ok:Nat→S→Prop) (s₀:S)
  (hs:Gh n ⟨env,B⟩ ⟨u 0 s₀++a6v env ks,q 0 s₀++a9e B kb⟩) (h₀:ok 0 s₀)
  (step:∀ (k:Nat) (s:S) (x:α),k<l.length→l[k]?= some x→(l.map enc)[k]?= some (enc x)→decide ((k:Int)<(l.length:Int))=true→ok k s→
   AWP P n c ⟨u k s++a6v env ks,q k s++a9e B kb⟩ (c4C (fun σ'=>∃ s',ok (k+1) s'∧Gh n σ' ⟨u (k+1) s'++a6v env ks,q (k+1) s'++a9e B kb⟩) Q))
  (ab:∀ s:S,decide ((l.length:Int)<(l.length:Int))=false→ok l.length s→AWP P n c ⟨u l.length s++a6v env ks,q l.length s++a9e B kb⟩ (c4C (fun _=>False) Q)):AWP P n (.loop c) ⟨env,B⟩ Q:=by
 refine AWP.loopF (X:=Nat×S) (fun x=>u x.1 x.2) (fun x=>q x.1 x.2) ks kb (fun x=>x.1≤l.length∧ok x.1 x.2) (fun x=>l.length-x.1) (0,s₀) hs ⟨zao _,h₀⟩ ?_
 rintro⟨k,s⟩ ⟨hk,aa⟩
 simp only at hk aa ⊢
 by_cases ad:k<l.length
 ·obtain⟨x,hx,ae,hb,_⟩:=a1A (enc:=enc) ad
  refine(step k s x ad hx ae hb aa).mono ?_
  intro e σ' hq
  cases e with
  |normal=>obtain⟨s',h1,h2⟩:=hq;exact⟨(k+1,s'),by simp only;omega,⟨by simp only;omega,h1⟩,h2⟩
  |exit id=>exact hq
  |goto l=>exact hq
  |ret=>exact hq
  |panic ch=>exact hq
  |outgrown=>exact hq
 ·have:k=l.length:=by omega
  subst this
  refine(ab s (by simp) aa).mono ?_
  intro e σ' hq
  cases e with
  |normal=>exact hq.elim
  |exit id=>exact hq
  |goto l=>exact hq
  |ret=>exact hq
  |panic ch=>exact hq
  |outgrown=>exact hq
theorem Cell.reps_get {M:Mem} {ν:Nu}:∀ {cs:List Cell} {vs:List Value} {j:Nat} {c:Cell},Cell.reps M ν cs vs→cs[j]?= some c→∃ v,Cell.rep M ν c v
 |[],_,j,c,_,h=>by simp at h
 |d::cs,vs,0,c,h,e=>by
  simp only[Cell.reps] at h
  obtain⟨v,q,_,h1,_⟩:=h
  simp at e;subst e
  exact⟨v,h1⟩
 |d::cs,vs,j+1,c,h,e=>by
  simp only[Cell.reps] at h
  obtain⟨v,q,_,_,h2⟩:=h
  exact Cell.reps_get h2 (by simpa using e)
theorem AWP.lenB {c:Code} {env:Env} {B:Bx} (k j:Nat) {cs:List Cell} {sz:Nat} {rows:List (List C)} (hb:B.lookup k=some (.cells cs)) (hj:cs[j]?= some (.dat (.sl sz rows)))
  (h:rows.length≤9223372036854775807→AWP P n c ⟨env,B⟩ Q):AWP P n c ⟨env,B⟩ Q:=by
 intro κ M0 a w s
 refine h ?_ κ M0 a w s
 obtain⟨M,ν,_,_,_,_,h5,_⟩:=s
 have:=h5.res k _ (a0O hb)
 obtain⟨b,c,et,_,_,hr⟩:=this
 obtain⟨v,hv⟩:=Cell.reps_get hr hj
 simp only[Cell.rep,C.rep] at hv
 obtain⟨_,cap,_,_,h1,h2,_⟩:=hv
 unfold maxLen at h2
 omega
end Go.Sx
namespace Go.Sx
variable {P:Program}
theorem AWP.join {n:Nat} {Q:Exit→AS→Prop} {S:Type} {id:Nat} {l:Array Oper} {d:Bool} {x y:Code} {env:Env} {B:Bx} (aa:S→Env) (u:S→Bx) (ks kb:List Nat) (ok:S→Prop)
  (hx:AWP P n (.seq (.region id l d) x) ⟨env,B⟩ (c4C (fun σ'=>∃ s,ok s∧Gh n σ' ⟨aa s++a6v env ks,u s++a9e B kb⟩) Q))
  (hy:∀ s,ok s→AWP P n y ⟨aa s++a6v env ks,u s++a9e B kb⟩ Q):AWP P n (.seq (.seq (.region id l d) x) y) ⟨env,B⟩ Q:=by
 intro κ M0 a w hs
 refine wp_seq (wp_mono (hx κ M0 a w hs) ?_)
 rintro e a' w' ⟨σ',s,q⟩
 cases e with
 |normal=>
  obtain⟨s',ab,hg⟩:=q
  exact hy s' ab κ M0 a' w' (hg κ M0 a' w' s)
 |_=>exact⟨σ',s,q⟩
end Go.Sx
namespace Go.Sx
variable {P:Program} {n:Nat} {Q:Exit→AS→Prop}
def c7a (P:Program) (t:TypeId) (zs:List C) (env:Env) (x:Operand) (K:T→Prop):Prop:=
  match b0r P t env [(0,x)] (.dat (.bool false)::zs.map .dat) with
  |some cs=>K (a9W cs)
  |none=>False
theorem a5H (all:List Oper) (K:AS→Prop) (l2:List Oper):∀ (l1:List Oper) (σ:AS),a1T P n all l1 σ (fun τ=>a1T P n all l2 τ K)→a1T P n all (l1++l2) σ K
 |[],σ,h=>h
 |o::os,σ,h=>by
  refine a2K h (fun h=>?_) (fun h=>⟨h.1,a5H all K l2 os _ h.2⟩)
  cases h with
  |pure t h hd k=>exact .pure t h hd (a5H all K l2 os _ k)
  |eff t B' h hd k=>exact .eff t B' h hd (a5H all K l2 os _ k)
  |gen j t B' h hj hf hd k=>exact .gen j t B' h hj hf hd (a5H all K l2 os _ k)
  |genx js t B' h hj hf hd k=>exact .genx js t B' h hj hf hd (a5H all K l2 os _ k)
theorem a5I (all:List Oper) {K K':AS→Prop} (hk:∀ τ,K τ→K' τ):∀ (l1:List Oper) (σ:AS),a1T P n all l1 σ K→a1T P n all l1 σ K'
 |[],σ,h=>hk _ h
 |o::os,σ,h=>by
  refine a2K h (fun h=>?_) (fun h=>⟨h.1,a5I all hk os _ h.2⟩)
  cases h with
  |pure t h hd k=>exact .pure t h hd (a5I all hk os _ k)
  |eff t B' h hd k=>exact .eff t B' h hd (a5I all hk os _ k)
  |gen j t B' h hj hf hd k=>exact .gen j t B' h hj hf hd (a5I all hk os _ k)
  |genx js t B' h hj hf hd k=>exact .genx js t B' h hj hf hd (a5I all hk os _ k)
attribute [go_sem] c7a
def d0Y (P:Program) (t:TypeId) (x y:Option T) (B:Bx) (K:T→Bx→Prop):Prop:=
 match x,y with
 |some (.one (.own k m)),some (.one (.dat (.int _ j)))=>match elT P t,B.lookup k with
  |some (e,_),some (.row sz rows)=>e=sz∧0≤j∧j≤m∧m≤rows.length∧K (.one (.own k j.toNat)) (Bx.put k (.row sz (rows.take j.toNat)) B)
  |_,_=>False
 |_,_=>False
attribute [go_sem] d0Y
end Go.Sx
namespace Go.Sx
open Go.Proofs Go.Sort
variable {P:Program}
theorem a7Y {M:Mem}:∀ {l:List (List UInt8)} {vs:List Value},a0q M 1 (l.map Sx.encStr) vs↔vs=l.map Go.Proofs.encStr
 |[],vs=>by simp[a0q]
 |x::l,vs=>by
  simp only[zau,a0q,a7Y (l:=l)]
  constructor
  ·rintro⟨v1,v2,e,_,h1,h2⟩
   simp only[Sx.encStr,a0x,C.rep] at h1
   obtain⟨v,q,e1,e2,e3⟩:=h1
   subst e1;subst e2;subst e3;subst h2
   exact e
  ·intro e
   refine⟨[Go.Proofs.encStr x],_,e,rfl,?_,rfl⟩
   simp only[Sx.encStr,a0x,C.rep]
   exact⟨_,[],rfl,rfl,rfl⟩
theorem b6j {w:World} {b:Nat} {c:Array Value} {et:TypeId} {fz:Nat×Nat} (f:Array Value→Array Value) (h:w.heap[b]?= some (.cells c et fz)):(mapBlock w b f).heap[b]?= some (.cells (f c) et fz):=by
  unfold mapBlock
  simp[zdr,h,onCells]
theorem b1N {w:World} {b i:Nat} (f:Array Value→Array Value) (h:i≠b):(mapBlock w b f).heap[i]?= w.heap[i]?:= by
  unfold mapBlock
  simp[zdr,Ne.symm h]
theorem b4B {f:FuncId} (ap:Ent P f) (l l' tail:List (List UInt8)) (u:l'.length+tail.length=l.length) (r:T) (R:Option Addr→Nat→Value)
  (ao:∀ M ν,r.rep M ν (R ((ν pin).blk.map fun b=>⟨b,0,none⟩) (ν pin).cap))
  (am:∀ b cap w,Holds Go.Proofs.encStr w b 0 l.toArray→b<w.heap.size→l.length≤cap→cap≤maxLen→
   Calls P f #[.slice (some ⟨b,0,none⟩) l.length cap] w fun e w'=>e= .returned (R (some ⟨b,0,none⟩) cap)∧∃ n os,w'=grow (putRow Go.Proofs.encStr (Sort.ahead w n) b 0 (l'++tail).toArray) os)
  (ah:l=[]→∀ cap w,Calls P f #[.slice none 0 cap] w fun e w'=>e= .returned (R none cap)∧w'=w):
  PCB P f [.one (.own pin l.length)] [(pin, .row 1 (l.map Sx.encStr))] r [(pin, .row 1 (l'.map Sx.encStr))]:=by
 refine⟨ap,?_⟩
 intro M ν w vs hs hreps
 simp only[T.reps,T.rep,Cell.rep] at hreps
 obtain⟨v1,bc,rfl,rfl,rfl⟩:=hreps
 have hr:=hs.res pin (.row 1 (l.map Sx.encStr)) (by simp)
 simp only[Res.ok,zcb] at hr
 obtain⟨a1,ar,hr⟩:=hr
 have ab:=ao M ν
 rcases hr with⟨hn,bb⟩|⟨b,c,et,mid,post,hb,q,ak,al,a8⟩
 ·have ai:l=[]:=zbk.1 (by omega)
  have az:l'=[]:=zbk.1 (by rw[ai] at u;simp at u;exact zbk.2 u.1)
  have:=ah ai (ν pin).cap w
  rw[ai] at hs ⊢
  rw[az]
  rw[hn] at ab ⊢
  refine Calls.mono this ?_
  rintro e w' ⟨rfl,rfl⟩
  exact⟨_,M,rfl,Mem.ext.refl _ M,ab,hs⟩
 ·have aa:mid=l.map Go.Proofs.encStr:=a7Y.1 al
  have ae:b<w.heap.size:=(zbi.1 q).1
  have hH:Holds Go.Proofs.encStr w b 0 l.toArray:=by
   intro j hj
   have aj:j<l.length:=by simpa using hj
   have a7:j<mid.length:=by rw[aa];simpa using aj
   refine⟨?_,by simp[World.frozen?, q]⟩
   simp only[World.cell?, q,zbg,Option.isSome_none,zbs,za2]
   rw[← zb3,ak,zcg a7,aa,zbv,zav aj]
   simp[aj]
  have a6:=am b (ν pin).cap w hH ae a1 ar
  rw[hb] at ab ⊢
  refine Calls.mono a6 ?_
  rintro e w' ⟨rfl,n,os,rfl⟩
  have ad:∀ i,i<w.heap.size→i≠b→(grow (putRow Go.Proofs.encStr (Sort.ahead w n) b 0 (l'++tail).toArray) os).heap[i]?= w.heap[i]?:= by
   intro i hi ag
   rw[heap_grow_old _ _ (by show i<(mapBlock _ _ _).heap.size;simp[mapBlock,ahead];exact hi)]
   exact b1N _ ag
  have a2:(grow (putRow Go.Proofs.encStr (Sort.ahead w n) b 0 (l'++tail).toArray) os).heap[b]?= some (.cells (putCells Go.Proofs.encStr 0 (l'++tail).toArray c) et (0,0)):=by
   rw[heap_grow_old _ _ (by show b<(mapBlock _ _ _).heap.size;simp[mapBlock,ahead];exact ae)]
   exact b6j _ q
  have av:(putCells Go.Proofs.encStr 0 (l'++tail).toArray c).toList=l'.map Go.Proofs.encStr++(tail.map Go.Proofs.encStr++post):=by
   rw[← zb1,← zbn]
   have af:((l'++tail).map Go.Proofs.encStr).length=mid.length:=by rw[aa];simp[u]
   apply zc8
   intro t
   rw[zb3]
   unfold putCells
   rw[Array.getElem?_mapIdx]
   have ba:(l'++tail).toArray.size=mid.length:=by rw[aa];simp[u]
   by_cases ht:t<mid.length
   ·rw[zcg (by rw[af];exact ht)]
    have ax:t<c.size:=by rw[← Array.length_toList,ak,zba];omega
    have au:t<(l'++tail).length:=by rw[← zch,ba];exact ht
    rw[zdg ax,Option.map_some,zaz ⟨zao _,by omega⟩,Nat.sub_zero,zbv,zav au,getElem!_pos _ t (by simpa using au)]
    simp
   ·rw[zb0 (by rw[af];omega),af]
    have:c[t]?= post[t-mid.length]?:= by rw[← zb3,ak,zb0 (by omega)]
    rw[this]
    cases post[t-mid.length]? with
    |none=>rfl
    |some y=>rw[Option.map_some,za5 (by omega)]
  have an:=hs.away pin (.row 1 (l.map Sx.encStr)) b (by simp) hb
  have aw:a0v [(pin,Res.row 1 (l.map Sx.encStr))] ν b:=⟨pin, .row 1 (l.map Sx.encStr),by simp,hb⟩
  refine⟨_,M,rfl,Mem.ext.refl _ M,ab,⟨rfl,rfl,rfl,?_,?_,?_,?_,?_,?_,?_,by simp⟩⟩
  ·exact zao _
  ·show w.heap.size≤(grow (putRow Go.Proofs.encStr (Sort.ahead w n) b 0 (l'++tail).toArray) os).heap.size
   simp[grow,putRow,mapBlock,ahead]
  ·intro i hi hD
   exact ad i hi (fun e=>hD (by rw[e];exact aw))
  ·intro i o ho
   have h1:=hs.fro i o ho
   have hi:i<w.heap.size:=(zbi.1 h1).1
   have ag:i≠b:=by intro e;subst e;rw[an.1] at ho;cases ho
   rw[ad i hi ag];exact h1
  ·intro j r hm
   simp only[za7,Prod.mk.injEq] at hm
   obtain⟨rfl,rfl⟩:=hm
   simp only[Res.ok,zcb]
   refine⟨by omega,ar, .inr ⟨b,_,et,l'.map Go.Proofs.encStr,_,hb,a2,av,a7Y.2 rfl,?_⟩⟩
   rw[← a8];simp[putCells]
  ·intro j r i hm hi
   simp only[za7,Prod.mk.injEq] at hm
   obtain⟨rfl,rfl⟩:=hm
   exact hs.away pin (.row 1 (l.map Sx.encStr)) i (by simp) hi
  ·intro j r j' r' i hm aq _ _
   simp only[za7,Prod.mk.injEq] at hm aq
   rw[hm.1,aq.1]
theorem a8C {ρ:Go.Shelf.Ren} (L:SlLaysM.n6 P ρ) (l:List (List UInt8)) (u:l.length<4611686018427387904):
  PCB P (ρ.f 6) [.one (.own pin l.length)] [(pin, .row 1 (l.map Sx.encStr))] (.tup []) [(pin, .row 1 ((l.mergeSort fun x y=>decide (x≤y)).map Sx.encStr))]:=by
 have q:Ent P (ρ.f 6):=by
  obtain⟨nm,hn,hf⟩:=L.f6
  exact⟨_,hf,hn,rfl⟩
 refine b4B q l _ [] (by simp[zda]) _ (fun _ _=> .tuple #[]) (fun M ν=>by simp[T.rep,T.reps]) (fun b cap w hH hb _ _=>?_) (fun hl cap w=>?_)
 ·rw[zbq]
  exact AnyM.slices_Sort_string L b 0 cap l w hH hb u
 ·exact AnyM.slices_Sort_string_none L none cap w
theorem comp_len (zs:List (List UInt8)):(Lib.compact zs).length≤zs.length:=by
  unfold Lib.compact Lib.compactUpTo
  rw[zcb]
  exact zbe (zcx _ _) (by simp)
theorem a6V {ρ:Go.Shelf.Ren} (L:SlLaysN.n44 P ρ) (l:List (List UInt8)):
  PCB P (ρ.f 44) [.one (.own pin l.length)] [(pin, .row 1 (l.map Sx.encStr))] (.one (.own pin (Lib.compact l).length)) [(pin, .row 1 ((Lib.compact l).map Sx.encStr))]:=by
 have u:Ent P (ρ.f 44):=by
  obtain⟨nm,hn,hf⟩:=L.f44
  exact⟨_,hf,hn,rfl⟩
 have aa:=comp_len l
 refine b4B u l _ (List.replicate (l.length-(Lib.compact l).length) []) (by simp;omega) _ (fun a cap=> .slice a (Lib.compact l).length cap) (fun M ν=>by simp only[T.rep,Cell.rep]) (fun b cap w hH hb hc hm=>?_) (fun hl cap w=>?_)
 ·refine Calls.mono (AnyG.slices_Compact_string L b 0 cap l w hH (zbe hc hm) hc) ?_
  rintro e w' ⟨rfl,q,rfl⟩
  exact⟨rfl,q, #[],by simp⟩
 ·subst hl
  exact AnyG.slices_Compact_string_empty L none cap w
theorem a1k.own1 {f:FuncId} {sz:Nat} {rows q:List (List C)} {m:Nat} (k:Nat) (h:PCB P f [.one (.own pin m)] [(pin, .row sz rows)] (.tup []) [(pin, .row sz q)]):
  a1k P f [.one (.own k m)] k (.row sz rows) (.tup []) (.row sz q):=a1k.mk k h
theorem a1k.own2 {f:FuncId} {sz:Nat} {rows q:List (List C)} {m m':Nat} (k:Nat) (h:PCB P f [.one (.own pin m)] [(pin, .row sz rows)] (.one (.own pin m')) [(pin, .row sz q)]):
  a1k P f [.one (.own k m)] k (.row sz rows) (.one (.own k m')) (.row sz q):=a1k.mk k h
end Go.Sx
namespace Go.Sx
variable {P:Program} {n:Nat} {σ:AS} {Q:Exit→AS→Prop}
def Res.flatB:Res→Bool
  | .cells cs=>Cell.allInP (fun _=>false) cs
  | .row _ _=>true
  | .mp _ _=>true
def c9w (P:Program) (o:Oper) (env:Env) (B:Bx) (K:T→Bx→Prop):Prop:=
 match o.op with
 | .call { callee:= .value f,args:=args,argTypes:=ts }=>
  match a2D (ev P env 0 f),evs P env args.toList ts.toList with
  |some (g,caps),some us=>∃ k res r q,a1k P g (us++caps) k res r q∧B.lookup k=some res∧res.flatB=true∧K r (Bx.put k q B)
  |_,_=>False
 |_=>False
attribute [go_sem] c9w Res.flatB Cell.allInP Cell.inP
def d1m (P:Program) (o:Oper) (env:Env) (B:Bx) (K:T→Bx→Prop):Prop:=
 match o.op with
 | .call { callee:= .value f,args:=args,argTypes:=ts }=>
  match a2D (ev P env 0 f),evs P env args.toList ts.toList with
  |some (g,caps),some us=>b7h P (a1s o) g (us++caps) env B K
  |_,_=>False
 |_=>False
def c3t (P:Program) (all:List Oper) (es ns:List Nat) (fixB:Bx) (i:Nat) (gs:List (Nat×Nat)) (o:Oper) (env:Env) (B:Bx) (K':List (Nat×Nat)→Env→Bx→Prop):Prop:=
  bif memN i ns then d1m P o env B fun t B'=>a7X B' fixB∧a1g all i t gs∧K' ((i,a1s o)::gs) (a15 env o.dst t) B'
  else bif memN i es then a86 P o env B fun t B'=>a7X B' fixB∧a1g all i t gs∧K' (a6r i o gs) (a15 env o.dst t) B'
  else a4n P o env fixB fun t=>a1g all i t gs∧K' gs (a15 env o.dst t) B
attribute [go_sem] d1m c3t
end Go.Sx

