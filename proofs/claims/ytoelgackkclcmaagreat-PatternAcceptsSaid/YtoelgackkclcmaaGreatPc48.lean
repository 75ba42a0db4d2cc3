/- Lemmas. -/
import Derived.Test.YtoelgackkclcmaaGreatPc44
import Derived.Test.YtoelgackkclcmaaGreatPc47
open Go.Proofs.Tryz renaming prog→zP
open List renaming length_map→lB,map_cons→lE,mem_of_getElem?→lP
set_option linter.unusedSimpArgs false
set_option linter.unusedVariables false
set_option maxRecDepth 20000
set_option maxHeartbeats 64000000
namespace Go.Proofs.YtoelgackkclcmaaGreat
open Go Go.Sx
theorem c7M {a b:KeyD} (h:a2O a b<0):a.kind<b.kind∨(a.kind=b.kind∧a.text<b.text):=by
 unfold a2O a1E at h
 cases hz:decide (a5Q a.kind b.kind=0) with
 |false=>
  rw[hz,zab] at h
  left
  unfold a5Q at h
  cases h1:decide (a.kind<b.kind) with
  |true=>exact of_decide_eq_true h1
  |false=>
   rw[h1,zab] at h
   cases h2:decide (b.kind<a.kind)<;>rw[h2] at h<;>simp at h
 |true=>
  rw[hz,zaa] at h
  right
  have h1:=a4f.1 (of_decide_eq_true hz)
  have h2:decide (Lib.compareBytes a.text b.text<0)=true:=zbo h
  rw[← a5b,b3r] at h2
  exact⟨h1,of_decide_eq_true h2⟩
theorem b5b:∀ l:List KeyD,a7L a2O l=true→l.Pairwise (fun a b=>a.kind<b.kind∨(a.kind=b.kind∧a.text<b.text))
 |[],_=> .nil
 |[x],_=>List.pairwise_singleton _ x
 |x::y::m,h=>by
  have h':(decide (a2O x y<0)&&a7L a2O (y::m))=true:=h
  rw[zag] at h'
  have ih:=b5b (y::m) h'.2
  have q:=c7M (of_decide_eq_true h'.1)
  refine List.Pairwise.cons (fun z hz=>?_) ih
  rcases zal.1 hz with rfl|hz
  ·exact q
  ·have u:=(zcj.1 ih).1 z hz
   rcases q with h1|⟨h1,h2⟩<;>rcases u with h3|⟨h3,h4⟩
   ·exact .inl (by omega)
   ·exact .inl (by omega)
   ·exact .inl (by omega)
   ·exact .inr ⟨by omega,List.lt_trans h2 h4⟩
theorem b2J {l:List KeyD} (h:a7L a2O l=true):l.Nodup:=by
  refine(b5b l h).imp fun {a b} q e=>?_
  subst e
  rcases q with h1|⟨_,h1⟩
  · omega
  · exact zdx _ h1
theorem a4e {a b:KeyD}:a1t a b=true↔a=b:=by
 unfold a1t
 constructor
 ·intro h
  simp only[zaw,zag,zan] at h
  cases a;cases b
  simp only at h
  rw[h.1,h.2]
 ·rintro rfl;simp
theorem c5w {α:Type} {f:α→α→Int} {p:α→Bool}:∀ (l:List α) (y:Option α),goB f p y l=true→a7L f l=true
 |[],_,_=>rfl
 |[x],_,_=>rfl
 |x::z::m,y,h=>by
  have h':goB f p (some x) (z::m)=true:=by
   cases y with
   |none=>rw[goB,zag] at h;exact h.2
   |some y=>rw[goB,zag,zag] at h;exact h.2.2
  have h2:=h'
  rw[goB,zag,zag] at h'
  show (decide (f x z<0)&&a7L f (z::m))=true
  rw[h'.2.1,c5w (z::m) (some x) h2];rfl
theorem c1I (y:Option KeyD) (x:FieldD) (l:List FieldD):b0n y (x::l)=bif !a0l x.key||(match y with|some k=>decide (a2O k x.key≥0)|none=>false) then false else b0n (some x.key) l:=by cases y<;>rfl
theorem c1J:∀ (l:List FieldD) (y:Option KeyD),goB a2O a0l y (l.map (·.key))=true→b0n y l=true
 |[],y,_=>by cases y<;>rfl
 |x::l,y,h=>by
  rw[lE] at h
  rw[c1I]
  cases y with
  |none=>
   rw[goB,zag] at h
   rw[h.1,c1J l (some x.key) h.2];rfl
  |some y=>
   rw[goB,zag,zag] at h
   have h3:decide (a2O y x.key≥0)=false:=by have:=of_decide_eq_true h.2.1;rw[zah];omega
   simp only[h.1,h3,zat,zaj,zab]
   exact c1J l (some x.key) h.2.2
theorem upN0 {n:Nat} {x:NodeD} (hn:n≤10000000) (h:∀ e∈edgeL x,0≤e∧e<(n:Int)):upN 0 x=x:=by
 have hk:x.kids.map (upI 0)=x.kids:=by
  conv=>rhs;rw[← List.map_id x.kids]
  exact zec fun k hk=>up0 hn (h k (a24 hk))
 have hf:x.fields.map (upF 0)=x.fields:=by
  conv=>rhs;rw[← List.map_id x.fields]
  refine zec fun f hf=>?_
  have hm:f.node∈edgeL x:=by
   unfold edgeL
   exact zb7 _ (zc2 _ (zdc hf))
  have:=up0 hn (h _ hm)
  unfold upF
  rw[this];rfl
 unfold upN
 rw[hk,hf]
 cases q:decide (x.kind=13) with
 |false=>rfl
 |true=>
  have hm:∀ r,r=x.r0∨r=x.r1→r∈edgeL x:=fun r hr=>by
   unfold edgeL
   rw[q,zaa]
   refine zc2 _ ?_
   rcases hr with rfl|rfl<;>simp
  rw[zaa,zaa,up0 hn (h _ (hm _ (.inl rfl))),up0 hn (h _ (hm _ (.inr rfl)))]
theorem c7N {s:List NodeD} {r:Int} (h:wfP s r=0) (hl:s.length≤10000000):s.map (upN 0)=s:=by
  obtain⟨R,hR⟩:=Wf.of h
  conv=>rhs;rw[← List.map_id s]
  exact zec fun x hx=>upN0 hl (hR.edge x hx)
theorem d08 {s:List NodeD} {r:Int} (h:wfP s r=0) (hl:s.length≤10000000):emL 0 s r=s:=by
  rw[c9W h];exact c7N h hl
theorem emR0 {s:List NodeD} {r:Int} (h:wfP s r=0) (hl:s.length≤10000000):emR 0 s r=r:=by
  rw[c9X h]
  have hw:=b2z h
  exact up0 hl ⟨hw.1,hw.2.1⟩
noncomputable def c7O (bs:List BdD) (n:List UInt8) (v:Val):Bool:=match a2t bs n with
  |none=>true
  |some t=>a4c v t
def b5z (bs:List BdD) (n:List UInt8):TyD:=match a2t bs n with
  |none=>a9o
  |some t=>bif decide (wfP t.1 t.2=0) then t else a4o
structure BdL (bs:List BdD):Prop where
  sm:∀ b∈bs,TSm b.2.1
  len:∀ b∈bs,b.2.1.length≤50
structure TyG (t:TyD) (n:Nat):Prop where
  wf:wfP t.1 t.2=0
  sm:TSm t.1
  len:t.1.length≤n
theorem c97:TyG a9o 1:=⟨b7O,a62 _ rfl rfl,zax _⟩
theorem c1K:TyG a4o 1:=⟨a9k,a62 _ rfl rfl,zax _⟩
theorem TyG.up {t:TyD} {n m:Nat} (h:TyG t n) (hm:n≤m):TyG t m:=⟨h.wf,h.sm,zbe h.len hm⟩
theorem c1L {bs:List BdD} (hb:BdL bs) (n:List UInt8):TyG (b5z bs n) 50:=by
 unfold b5z
 cases hn:a2t bs n with
 |none=>
  show TyG a9o 50
  exact c97.up (by omega)
 |some t=>
  obtain⟨b,q,rfl⟩:=c7B hn
  show TyG (bif decide (wfP b.2.1 b.2.2=0) then b.2 else a4o) 50
  cases hw:decide (wfP b.2.1 b.2.2=0) with
  |false=>exact c1K.up (by omega)
  |true=>exact⟨of_decide_eq_true hw,hb.sm b q,hb.len b q⟩
theorem b70 (bs:List BdD) (n:List UInt8) (v:Val):a4c v (b5z bs n)=c7O bs n v:=by
 unfold b5z c7O
 cases hn:a2t bs n with
 |none=>exact b3A v
 |some t=>
  obtain⟨l,r⟩:=t
  cases hw:decide (wfP l r=0) with
  |false=>simp only[hw,zab,b4Z,b7N hw]
  |true=>simp only[hw,zaa]
def a6z (ks:List KeyD) (rs:List Int):NodeD:=⟨13,0,0,[],[],(ks.zip rs).map fun p=>⟨p.1,p.2,false⟩,0,0⟩
def a5V (ks:List KeyD) (ts:List TyD):TyD:=((ovS 2 ts).1++[a6z ks (ovS 2 ts).2],(ovS 2 ts).1.length)
mutual
def a07 (bs:List BdD):Pat→TyD
 |⟨kind,num,text,kids,keys⟩=>
  bif decide (kind=1) then a9o else
  bif decide (kind=2) then b5z bs text else
  bif decide (kind=10) then a5i [d0S bs kids,b5z bs text] else
  bif decide (kind=3) then a9Z [⟨num,num⟩] else
  bif decide (kind=4) then a2Z 4 5 false [text] else
  bif decide (kind=5) then a2Z 6 7 false [text] else
  bif decide (kind=6) then ([a1c 9],0) else
  bif decide (kind=7) then b9A (c7P bs kids) else
  bif decide (kind=8) then a3A 12 (c7P bs kids) else a5V keys (c7P bs kids)
def d0S (bs:List BdD):List Pat→TyD
  |[]=>a9o
  |g::_=>a07 bs g
def c7P (bs:List BdD):List Pat→List TyD
  |[]=>[]
  |g::l=>a07 bs g::c7P bs l
end
theorem b71 (bs:List BdD):∀ l:List Pat,c7P bs l=l.map (a07 bs)
  |[]=>by rw[c7P];rfl
  |g::l=>by rw[c7P,b71 bs l];rfl
theorem a2d (bs:List BdD) (g:Pat):a07 bs g=bif decide (g.kind=1) then a9o else
  bif decide (g.kind=2) then b5z bs g.text else
  bif decide (g.kind=10) then a5i [d0S bs g.kids,b5z bs g.text] else
  bif decide (g.kind=3) then a9Z [⟨g.num,g.num⟩] else
  bif decide (g.kind=4) then a2Z 4 5 false [g.text] else
  bif decide (g.kind=5) then a2Z 6 7 false [g.text] else
  bif decide (g.kind=6) then ([a1c 9],0) else
  bif decide (g.kind=7) then b9A (g.kids.map (a07 bs)) else
  bif decide (g.kind=8) then a3A 12 (g.kids.map (a07 bs)) else a5V g.keys (g.kids.map (a07 bs)):=by
 cases g;rw[a07,b71]
noncomputable def okA (bs:List BdD) (o:Option ME):Bool:=match o with
  |none=>false
  |some a=>a.all fun p=>c7O bs p.1 p.2
theorem c5x (k:Int):∀ (ts:List TyD) (s:List NodeD×List Int),(ts.foldl a3m s).1.length=s.1.length+(ts.map fun t=>(a03 t.1 t.2).length).sum
 |[],s=>by simp
 |t::ts,s=>by
  rw[List.foldl_cons,c5x k ts]
  simp only[a3m,emL,zba,lB,lE,List.sum_cons]
  omega
theorem c1M (k:Int) (ts:List TyD):(ovS k ts).1.length=1+(ts.map fun t=>(a03 t.1 t.2).length).sum:=by
  unfold ovS;rw[c5x k];rfl
theorem b6M {g:Val→Int→Bool} {h:Val→TyD→Bool}:∀ (vs:List Val) (ks:List Int) (ts:List TyD),(∀ v,ks.map (g v)=ts.map (h v))→((vs.zip ks).all fun p=>g p.1 p.2)=(vs.zip ts).all fun p=>h p.1 p.2
 |[],ks,ts,_=>by simp
 |v::vs,[],[],_=>by simp
 |v::vs,[],t::ts,e=>by have:=e v;cases this
 |v::vs,k::ks,[],e=>by have:=e v;cases this
 |v::vs,k::ks,t::ts,e=>by
  have h1:=e v
  simp only[lE,List.cons.injEq] at h1
  have ih:=b6M vs ks ts fun w=>by have:=e w;simp only[lE,List.cons.injEq] at this;exact this.2
  simp only[List.zip_cons_cons,List.all_cons,h1.1,ih]
theorem c1N {k:Int} {ts:List TyD} (hb:(overV k ts).length≤10000000) (vs:List Val):a4S (a8I (overV k ts)) vs (ovS k ts).2=(decide (vs.length=ts.length)&&(vs.zip ts).all fun p=>a4c p.1 p.2):=by
  unfold a4S
  rw[a4U,b6M vs _ ts fun v=>a8M hb v]
  congr 1
  rw[decide_eq_decide];omega
theorem c4e {ts:List TyD} {B:Nat} (h:TyS B ts) (hl:ts.length≤4) (v:Val):a4c v (b9A ts)=(decide (v.kind=6)&&(decide (v.kids.length=ts.length)&&(v.kids.zip ts).all fun p=>a4c p.1 p.2)):=by
 have hk:ovK 10 ts.length=true:=by
  have:ts.length=0∨ts.length=1∨ts.length=2∨ts.length=3∨ts.length=4:=by omega
  rcases this with e|e|e|e|e<;>rw[e]<;>decide
 have e:b9A ts=a3A 10 ts:=by
  unfold b9A
  rw[show decide ((4:Int)<(ts.length:Int))=false from by rw[zah];omega];rfl
 rw[e,a3A,a4W (a4w hk (a3B h)),a5L hk (a3B h)]
 show (decide (v.kind=6)&&a4S (a8I (overV 10 ts)) v.kids (ovS 10 ts).2)=_
 rw[c1N (a3B h)]
theorem c1O {ts:List TyD} {B:Nat} (h:TyS B ts) (hl:ts.length=2) (v:Val):a4c v (a3A 12 ts)=(decide (v.kind=7)&&(decide (v.kids.length=ts.length)&&(v.kids.zip ts).all fun p=>a4c p.1 p.2)):=by
  have hk:ovK 12 ts.length=true:=by rw[hl];decide
  rw[a3A,a4W (a4w hk (a3B h)),a5L hk (a3B h)]
  show (decide (v.kind=7)&&a4S (a8I (overV 12 ts)) v.kids (ovS 12 ts).2)=_
  rw[c1N (a3B h)]
theorem b72 {ks:List KeyD} {rs:List Int} (h:ks.length=rs.length):(a6z ks rs).fields.map (·.key)=ks:=by
  show ((ks.zip rs).map fun p=>(⟨p.1,p.2,false⟩:FieldD)).map (·.key)=ks
  rw[zcq]
  show (ks.zip rs).map Prod.fst=ks
  exact List.map_fst_zip (by omega)
theorem b5c (ks:List KeyD) (ts:List TyD) (j:Nat) (hj:j<(a5V ks ts).1.length):j=0∨(∃ (a:Nat) (t:TyD) (c:Nat),ts[a]?= some t∧j=ovB 2 ts a+c∧c<(a03 t.1 t.2).length)∨j=(ovS 2 ts).1.length:=by
 have hl:(a5V ks ts).1.length=(ovS 2 ts).1.length+1:=by unfold a5V;simp
 rcases zbz j (ovS 2 ts).1.length with h|h
 ·rcases b3z 2 ts ts.length (zax _) j (by unfold ovB;rw[zbh];exact h) with h'|h'
  ·exact .inl h'
  ·exact .inr (.inl h')
 ·exact .inr (.inr (by omega))
theorem b3K (ks:List KeyD) (ts:List TyD):(a5V ks ts).1[0]?= some (a1c 2):=by
  unfold a5V
  rw[zcg (b4X 2 ts)]
  exact a7C 2 ts
theorem b73 (ks:List KeyD) (ts:List TyD):(a5V ks ts).1[(ovS 2 ts).1.length]?= some (a6z ks (ovS 2 ts).2):=by
  unfold a5V
  rw[zb0 (zax _),zdh];rfl
theorem b3L {ks:List KeyD} {ts:List TyD} {i:Nat} {t:TyD} (h:ts[i]?= some t) (hb:(a5V ks ts).1.length≤10000000):Emb (a5V ks ts).1 (a03 t.1 t.2) (ovB 2 ts i):=by
 obtain⟨p,h1,_⟩:=a6j (k:=2) h
 have e:(a5V ks ts).1=(ovS 2 (ts.take i)).1++(a03 t.1 t.2).map (upN (ovS 2 (ts.take i)).1.length)++(p++[a6z ks (ovS 2 ts).2]):=by
  unfold a5V
  simp only
  conv=>lhs;rw[h1]
  simp only[emL,zb1]
 rw[e] at hb ⊢
 exact Emb.mk_ hb
theorem c7Q {ks:List KeyD} {ts:List TyD} (hb:(a5V ks ts).1.length≤10000000) (v:Val):(ovS 2 ts).2.map (a8I (a5V ks ts).1 v)=ts.map (a4c v):=by
 apply zc8
 intro i
 rw[zbv,zbv]
 cases h:ts[i]? with
 |none=>
  have:ts.length≤i:=List.getElem?_eq_none_iff.1 h
  rw[zcr (by rw[a4U];exact this)];rfl
 |some t=>
  obtain⟨_,_,h2⟩:=a6j (k:=2) h
  rw[h2]
  obtain⟨R,hR⟩:=Wf.of (a28 t)
  show some (a8I _ v (upI _ (a2z t.1 t.2)))=some (a4c v t)
  rw[c1d (b3L (ks:=ks) h hb) hR v _ (a8L t)];rfl
theorem c7R {ks:List KeyD} {ts:List TyD} (hb:(a5V ks ts).1.length≤10000000):∀ e∈(ovS 2 ts).2,0≤e∧e<((a5V ks ts).1.length:Int):=by
  intro e he
  obtain⟨a,ha⟩:=zb5 he
  have q:a<ts.length:=by rw[← a4U 2 ts];exact(zak.1 ha).1
  have ht:ts[a]?= some ts[a]:=zav q
  obtain⟨_,_,h2⟩:=a6j (k:=2) ht
  rw[ha] at h2
  have e2:e=upI (ovB 2 ts a) (a2z ts[a].1 ts[a].2):=by have:=Option.some.inj h2;rw[this];rfl
  have hE:=b3L (ks:=ks) ht hb
  have hs:=a8L ts[a]
  have hl:=hE.len
  rw[e2,hE.up hs];omega
theorem c1P (ks:List KeyD) (rs:List Int):∀ e∈edgeL (a6z ks rs),e∈rs∨e=0:=by
 intro e he
 have:edgeL (a6z ks rs)=((ks.zip rs).map fun p=>(⟨p.1,p.2,false⟩:FieldD)).map (·.node)++[0,0]:=rfl
 rw[this,zcq] at he
 rcases zbd.1 he with h|h
 ·obtain⟨p,hp,rfl⟩:=za3.1 h
  exact .inl (zdz hp).2
 ·simp only[zal,zaf,or_false] at h
  rcases h with rfl|rfl<;>exact .inr rfl
theorem c1Q {ks:List KeyD} {ts:List TyD} (hb:(a5V ks ts).1.length≤10000000) (aa:ks.length=ts.length) (hk:goB a2O a0l none ks=true) (h8:ks.length≤8):wfP (a5V ks ts).1 (a5V ks ts).2=0:=by
 have h0:=b3K ks ts
 have hl:=b73 ks ts
 have ab:0<(a5V ks ts).1.length:=(zak.1 h0).1
 have hr:(a5V ks ts).2=((ovS 2 ts).1.length:Int):=rfl
 have ad:=(zak.1 hl).1
 have u:ks.length=(ovS 2 ts).2.length:=by rw[a4U];exact aa
 rw[hr]
 refine c3Q (by omega) (by omega) (fun x hx=>?_) (fun j hj=>?_)
 ·obtain⟨j,hj⟩:=zb5 hx
  have q:=(zak.1 hj).1
  rcases b5c ks ts j q with rfl|⟨a,t,c,ht,rfl,hc⟩|rfl
  ·rw[h0] at hj
   have e:=Option.some.inj hj
   subst e
   rfl
  ·have hE:=b3L (ks:=ks) ht hb
   obtain⟨R,hR⟩:=Wf.of (a28 t)
   rw[hE.at_ c hc,zav hc] at hj
   have e:=Option.some.inj hj
   rw[← e]
   exact b3u hE (hR.kind _ (zcd hc))
  ·rw[hl] at hj
   have e:=Option.some.inj hj
   subst e
   simp only[a2P,zag]
   refine⟨rfl,?_,?_⟩
   ·show b0n none (a6z ks (ovS 2 ts).2).fields=true
    exact c1J _ none (by rw[b72 u];exact hk)
   ·rw[za0]
    intro e he
    have:0≤e∧e<((a5V ks ts).1.length:Int):=by
     rcases c1P ks _ e he with h|h
     ·exact c7R hb e h
     ·omega
    simp only[a8e,zbm,zbx,zah];omega
 ·rcases b5c ks ts j hj with rfl|⟨a,t,c,ht,rfl,hc⟩|rfl
  ·exact Gr.fin_no _ _ (by unfold bo;rw[h0];rfl)
  ·obtain⟨R,hR⟩:=Wf.of (a28 t)
   exact c1g (b3L ht hb) hR hc (b6v (a28 t) c hc)
  ·exact Gr.fin_no _ _ (by unfold bo;rw[hl];rfl)
theorem b5d {ks:List KeyD} {rs:List Int} (hn:ks.Nodup) {i:Nat} {k:KeyD} {r:Int} (hk:ks[i]?= some k) (hr:rs[i]?= some r):a73 (a6z ks rs) k=r:=by
 have hf:(a6z ks rs).fields[i]?= some ⟨k,r,false⟩:=by
  show ((ks.zip rs).map fun p=>(⟨p.1,p.2,false⟩:FieldD))[i]?= _
  rw[zbv,(zcz (z:=(k,r))).2 ⟨hk,hr⟩];rfl
 have q:(a6z ks rs).fields.any (fun f:FieldD=>a1t f.key k)=true:=zdd.2 ⟨_,lP hf,a4e.2 rfl⟩
 have h0:=(a69 (fun f:FieldD=>a1t f.key k) (a6z ks rs).fields 0).2 q
 obtain⟨i',f,h1,h2,h3⟩:=a5h _ _ 0 h0
 have h4:((ks.zip rs).map fun p=>(⟨p.1,p.2,false⟩:FieldD))[i']?= some f:=h2
 rw[zbv] at h4
 obtain⟨p,h5,h6⟩:=zcm.1 h4
 have h7:=zcz.1 h5
 have h8:p.1=k:=by rw[← h6] at h3;exact a4e.1 h3
 rw[h8] at h7
 have u:i'=i:=by
  have aa:=(zak.1 hk).1
  exact(List.getElem?_inj (zak.1 h7.1).1 hn).1 (h7.1.trans hk.symm)
 subst u
 rw[zbg] at h1
 rw[a8G h1 h2,← h6]
 have:=h7.2.symm.trans hr
 exact Option.some.inj this
theorem b9k {ks:List KeyD} {rs:List Int} {k:KeyD} (hk:k∉ks):a73 (a6z ks rs) k=0:=by
 have h:decide (0≤a1F (fun f:FieldD=>a1t f.key k) 0 (a6z ks rs).fields)=false:=by
  rw[zah]
  intro h0
  obtain⟨i',f,h1,h2,h3⟩:=a5h _ _ 0 h0
  have h4:((ks.zip rs).map fun p=>(⟨p.1,p.2,false⟩:FieldD))[i']?= some f:=h2
  rw[zbv] at h4
  obtain⟨p,h5,h6⟩:=zcm.1 h4
  have h7:=zcz.1 h5
  have h8:p.1=k:=by rw[← h6] at h3;exact a4e.1 h3
  rw[h8] at h7
  exact hk (lP h7.1)
 rw[a8H h]
 cases decide (k.kind=0)<;>rfl
theorem b2K {v w:Val} {k:KeyD} (h:a3o v k=some w):∃ j:Nat,v.keys[j]?= some k∧v.kids[j]?= some w:=by
 unfold a3o at h
 cases hd:decide (a1F (fun x=>a1t k x) 0 v.keys<0) with
 |true=>rw[hd] at h;cases h
 |false=>
  rw[hd,zab] at h
  rw[zah] at hd
  obtain⟨i,y,h1,h2,h3⟩:=a5h _ _ 0 (by omega:0≤a1F (fun x=>a1t k x) 0 v.keys)
  rw[h1] at h
  refine⟨i,?_,?_⟩
  ·rw[h2,a4e.1 h3]
  ·simpa using h
theorem b5e {v w:Val} {k:KeyD} (hn:v.keys.Nodup) {j:Nat} (hk:v.keys[j]?= some k) (hw:v.kids[j]?= some w):a3o v k=some w:=by
  have q:v.keys.any (fun x=>a1t k x)=true:=zdd.2 ⟨k,lP hk,a4e.2 rfl⟩
  have h0:=(a69 (fun x=>a1t k x) v.keys 0).2 q
  obtain⟨i,y,h1,h2,h3⟩:=a5h _ _ 0 h0
  have h4:v.keys[i]?= some k:=by rw[h2,a4e.1 h3]
  have u:i=j:=(List.getElem?_inj (zak.1 h4).1 hn).1 (h4.trans hk.symm)
  subst u
  unfold a3o
  rw[show decide (a1F (fun x=>a1t k x) 0 v.keys<0)=false from by rw[zah];omega,zab,h1]
  simpa using hw
theorem a8R:∀ {ks:List KeyD} {v:Val} {ws:List Val},a2F ks v=some ws→∀ (i:Nat) (k:KeyD),ks[i]?= some k→∃ w,ws[i]?= some w∧a3o v k=some w
 |[],v,ws,_,i,k,hk=>by simp at hk
 |k0::ks,v,ws,h,i,k,hk=>by
  rw[a2F] at h
  cases hv:a3o v k0 with
  |none=>rw[hv] at h;cases h
  |some w=>
   rw[hv] at h
   simp only[zcm] at h
   obtain⟨us,hu,rfl⟩:=h
   cases i with
   |zero=>
    simp only[List.getElem?_cons_zero,Option.some.injEq] at hk
    subst hk
    exact⟨w,rfl,hv⟩
   |succ i=>simpa using a8R hu i k (by simpa using hk)
theorem b5f:∀ {ks:List KeyD} {v:Val},(∀ k∈ks,∃ w,a3o v k=some w)→∃ ws,a2F ks v=some ws
 |[],v,_=>⟨[],rfl⟩
 |k::ks,v,h=>by
  obtain⟨w,hw⟩:=h k zbl
  obtain⟨ws,q⟩:=b5f fun x hx=>h x (zas _ hx)
  exact⟨w::ws,by rw[a2F,hw];simp only[q];rfl⟩
theorem b9l {g:Val→Int→Bool} {ks:List KeyD} {rs:List Int} {v:Val} (hk:ks.Nodup) (ai:ks.length=rs.length) (hv:v.keys.Nodup) (an:v.keys.length=v.kids.length) (h0:∀ w,g w 0=true):
  a9Y g (a6z ks rs) v=match a2F ks v with|none=>false|some ws=>(ws.zip rs).all fun p=>g p.1 p.2:=by
 have hA:((a6z ks rs).fields.all fun f=>f.opt||v.keys.any fun k=>a1t k f.key)=ks.all fun k=>v.keys.any fun x=>a1t x k:=by
  conv=>rhs;rw[← b72 ai]
  rw[zcy]
  refine a2X fun f hf=>?_
  have:f.opt=false:=by
   obtain⟨p,_,rfl⟩:=za3.1 (show f∈(ks.zip rs).map fun p=>(⟨p.1,p.2,false⟩:FieldD) from hf)
   rfl
  rw[this];rfl
 unfold a9Y
 rw[hA]
 cases hl:a2F ks v with
 |none=>
  have:(ks.all fun k=>v.keys.any fun x=>a1t x k)=false:=by
   rw[← Bool.not_eq_true]
   intro q
   obtain⟨ws,ah⟩:=b5f (ks:=ks) (v:=v) fun k ab=>by
    have h1:=za0.1 q k ab
    obtain⟨x,hx,ag⟩:=zdd.1 h1
    rw[a4e] at ag
    subst ag
    obtain⟨j,hj⟩:=zb5 hx
    have am:=(zak.1 hj).1
    exact⟨_,b5e hv hj (zav (by omega))⟩
   rw[hl] at ah;cases ah
  rw[this];rfl
 |some ws=>
  have al:=(a5N ks v ws hl).1
  have q:(ks.all fun k=>v.keys.any fun x=>a1t x k)=true:=by
   rw[za0]
   intro k ab
   obtain⟨i,hi⟩:=zb5 ab
   obtain⟨w,_,hw⟩:=a8R hl i k hi
   obtain⟨j,hj,_⟩:=b2K hw
   exact zdd.2 ⟨k,lP hj,a4e.2 rfl⟩
  rw[q,zae,zds,za0,za0]
  constructor
  ·intro h p hp
   obtain⟨i,hi⟩:=zb5 hp
   have hz:=zcz.1 hi
   have af:i<ks.length:=by have:=(zak.1 hz.2).1;omega
   have ad:ks[i]?= some ks[i]:=zav af
   obtain⟨w,u,aa⟩:=a8R hl i _ ad
   obtain⟨j,ak,aj⟩:=b2K aa
   have:=h (ks[i],w) (lP ((zcz (z:=(ks[i],w))).2 ⟨ak,aj⟩))
   simp only[b5d hk ad hz.2] at this
   rw[hz.1] at u
   rw[Option.some.inj u];exact this
  ·intro h p hp
   obtain⟨j,hj⟩:=zb5 hp
   have hz:=zcz.1 hj
   by_cases hm:p.1∈ks
   ·obtain⟨i,hi⟩:=zb5 hm
    have af:=(zak.1 hi).1
    have ae:rs[i]?= some (rs[i]'(by omega)):=zav (by omega)
    obtain⟨w,u,aa⟩:=a8R hl i _ hi
    rw[b5e hv hz.1 hz.2] at aa
    rw[b5d hk hi ae]
    have:=h (w,rs[i]'(by omega)) (lP ((zcz (z:=(w,_))).2 ⟨u,ae⟩))
    rw[Option.some.inj aa];exact this
   ·rw[b9k hm];exact h0 _
theorem c4f {ks:List KeyD} {ts:List TyD} (hb:(a5V ks ts).1.length≤10000000) (aa:ks.length=ts.length) (hk:goB a2O a0l none ks=true) (h8:ks.length≤8) {v:Val} (hv:a0t v=true):
  a4c v (a5V ks ts)=(decide (v.kind=8)&&match a2F ks v with|none=>false|some ws=>(ws.zip ts).all fun p=>a4c p.1 p.2):=by
 have hw:=c1Q hb aa hk h8
 obtain⟨R,hR⟩:=Wf.of hw
 have hl:=b73 ks ts
 have ae:=(zak.1 hl).1
 have ad:0<(a5V ks ts).1.length:=(zak.1 (b3K ks ts)).1
 have e:a4c v (a5V ks ts)=a8I (a5V ks ts).1 v ((ovS 2 ts).1.length:Int):=a4W (l:=(a5V ks ts).1) (r:=(a5V ks ts).2) hw v
 rw[e,a5q hR (by omega)]
 have hn:a3z (a5V ks ts).1 ((ovS 2 ts).1.length:Int)=a6z ks (ovS 2 ts).2:=by
  unfold a3z
  rw[show (((ovS 2 ts).1.length:Int)).toNat=(ovS 2 ts).1.length from by omega,zbf,hl];rfl
 rw[hn]
 show (decide (v.kind=8)&&a9Y (a8I (a5V ks ts).1) (a6z ks (ovS 2 ts).2) v)=_
 cases u:decide (v.kind=8) with
 |false=>rfl
 |true=>
  rw[zae,zae]
  have ab:=b4P hv (of_decide_eq_true u)
  have q:a7L a2O v.keys=true:=by
   have h:=hv
   rw[a7l,a0K,a2R,of_decide_eq_true u] at h
   simp only[Int.reduceEq,zac,zad,zaa,zab,c5E,zag,zan] at h
   exact h.1.2.2.2.2.1
  have h0:∀ w,a8I (a5V ks ts).1 w 0=true:=fun w=>by
   rw[a5q hR (by omega)]
   have:a3z (a5V ks ts).1 0=a1c 2:=by
    unfold a3z
    rw[Int.toNat_zero,zbf,b3K];rfl
   rw[this];rfl
  rw[b9l (b2J (c5w _ _ hk)) (by rw[a4U];exact aa) (b2J q) ab.1 h0]
  cases a2F ks v with
  |none=>rfl
  |some ws=>exact b6M ws _ _ fun w=>c7Q hb w
theorem a9x:∀ l:List Pat,l.length≤a10 l
 |[]=>zax _
 |g::l=>by
  have:=a9x l
  have h:=a19 g
  rw[a10,List.length_cons];omega
theorem c1R {bs:List BdD}:∀ {l:List Pat},(∀ k∈l,TyG (a07 bs k) (60*cntP k))→((l.map (a07 bs)).map fun t=>(a03 t.1 t.2).length).sum≤60*a10 l
 |[],_=>zao _
 |g::l,h=>by
  have ih:=c1R (l:=l) fun k hk=>h k (zas _ hk)
  have h1:=h g zbl
  have h2:=(b3C h1.wf).1
  have h3:=h1.len
  rw[a10,lE,lE,List.sum_cons,h2,Nat.mul_add]
  omega
theorem b74 {bs:List BdD} {l:List Pat} (h:∀ k∈l,TyG (a07 bs k) (60*cntP k)) (hc:a10 l≤40):TyS 2500 (l.map (a07 bs)):=by
 refine⟨fun t ht=>?_,?_⟩
 ·obtain⟨k,hk,rfl⟩:=za3.1 ht
  have h1:=h k hk
  have h2:=b0D hk
  have h3:=h1.len
  exact⟨h1.sm,by omega⟩
 ·have:=a9x l
  rw[lB]
  have:l.length≤40:=by omega
  calc l.length*2500≤40*2500:=zc7 _ this
   _≤900000:=by omega
theorem b75 {bs:List BdD}:∀ (l:List Pat) (ws:List Val),l.length=ws.length→(∀ g∈l,∀ w∈ws,a4c w (a07 bs g)=okA bs (a2A g w))→okA bs (a3D l ws)=(ws.zip (l.map (a07 bs))).all fun p=>a4c p.1 p.2
 |[],ws,hl,_=>by
  rw[a3W]
  simp[okA]
 |g::l,[],hl,_=>by simp at hl
 |g::l,w::ws,hl,h=>by
  have h1:=h g zbl w zbl
  have ih:=b75 l ws (by simpa using hl) fun x hx y hy=>h x (zas _ hx) y (zas _ hy)
  rw[a3D]
  simp only[lE,List.zip_cons_cons,List.all_cons,h1,← ih]
  cases a2A g w with
  |none=>rfl
  |some a=>
   cases a3D l ws with
   |none=>simp[okA]
   |some b=>simp[okA,zcs]
theorem c1S {k:Int} {ts:List TyD} {B n:Nat} (h:TyS B ts) (hk:ovK k ts.length=true) (hn:(ts.map fun t=>(a03 t.1 t.2).length).sum+1≤n):TyG (a3A k ts) n:=
  ⟨a4w hk (a3B h),b4Y h,by show (overV k ts).length≤n;rw[a4V,c1M];omega⟩
theorem b9m (a b:TyD):a5i [a,b]=a3A 17 [a,b]:=rfl
theorem b1o {ts:List TyD} {B:Nat} (h:TyS B ts):TSm (a1o ts).1:=by
  unfold a1o
  cases decide ((ts.length:Int)=0)
  · exact b4Y h
  · exact a62 _ rfl rfl
theorem b3M {bs:List BdD} (hb:BdL bs) (g:Pat) (ht:a04 g=true) (hc:cntP g≤40):TyG (a07 bs g) (60*cntP g)∧∀ v,a0t v=true→a4c v (a07 bs g)=okA bs (a2A g v):=by
 have au:=a19 g
 have ih:∀ k∈g.kids,TyG (a07 bs k) (60*cntP k)∧∀ v,a0t v=true→a4c v (a07 bs k)=okA bs (a2A k v):=fun k hk=>b3M hb k (a2c ht hk) (by have:=a1C hk;omega)
 have hG:∀ k∈g.kids,TyG (a07 bs k) (60*cntP k):=fun k hk=>(ih k hk).1
 have q:=a90 ht
 have hS:=b74 hG (by omega)
 have ap:=c1R hG
 rcases a9R q with h|h|h|h|h|h|h|h|⟨h,an⟩|⟨h,k0,ad⟩
 ·have e:a07 bs g=a9o:=by rw[a2d,h];rfl
  rw[e]
  refine⟨c97.up (by omega),fun v hv=>?_⟩
  rw[b3A,a1I,h];rfl
 ·have e:a07 bs g=b5z bs g.text:=by rw[a2d,h];rfl
  rw[e]
  refine⟨(c1L hb _).up (by omega),fun v hv=>?_⟩
  rw[b70,a1I,h]
  show _=okA bs (some [(g.text,v)])
  simp[okA]
 ·have e:a07 bs g=a9Z [⟨g.num,g.num⟩]:=by rw[a2d,h];rfl
  rw[e]
  refine⟨⟨c7D (by simp),b1o (b3D (by simp)),?_⟩,fun v hv=>?_⟩
  ·have h1:=a9r (k:=16) (b3D (l:=[⟨g.num,g.num⟩]) (by simp))
   have h2:((Ivl.nf [⟨g.num,g.num⟩]).map rgT).length≤1:=by rw[lB];exact zbe (Ivl.nf_len _) (by simp)
   unfold a9Z a1o
   cases decide ((((Ivl.nf [⟨g.num,g.num⟩]).map rgT).length:Int)=0)
   ·show (overV 16 _).length≤_
    omega
   ·show [a1c 1].length≤_
    simp;omega
  ·rw[c38 (by simp),a1I,h]
   show (decide (v.kind=1)&&((decide (g.num≤v.num)&&decide (v.num≤g.num))||false))=okA bs (bif decide (v.kind=1)&&decide (v.num=g.num) then some [] else none)
   have:(decide (g.num≤v.num)&&decide (v.num≤g.num))=decide (v.num=g.num):=by
    rw[zds];simp only[zag,zan];omega
   rw[this,zaj]
   cases decide (v.kind=1)&&decide (v.num=g.num)<;>rfl
 ·have e:a07 bs g=a2Z 4 5 false [g.text]:=by rw[a2d,h];rfl
  have aa:=a5M 4 [g.text] (by simp)
  have ae:(a1e 4 [g.text]).length≤1:=by
   unfold a1e
   rw[lB]
   exact zbe (zcx _ _) (zbe (a2a _) (by simp))
  rw[e]
  refine⟨⟨b7R 4 false [g.text] (by simp),b1o aa,?_⟩,fun v hv=>?_⟩
  ·have h1:=a9r (k:=16) aa
   show (a1o (a1e 4 [g.text])).1.length≤_
   unfold a1o
   cases decide (((a1e 4 [g.text]).length:Int)=0)
   ·show (overV 16 _).length≤_
    omega
   ·show [a1c 1].length≤_
    simp;omega
  ·show a4c v (a2Z 4 (4+1) false [g.text])=_
   rw[b41 nm4 false [g.text] (by simp) v hv,a1I,h]
   show (decide (v.kind=2)&&((decide (g.text=v.text)||false) != false))=okA bs (bif decide (v.kind=2)&&decide (v.text=g.text) then some [] else none)
   rw[show decide (v.text=g.text)=decide (g.text=v.text) from by simp[eq_comm]]
   cases decide (v.kind=2)<;>cases decide (g.text=v.text)<;>rfl
 ·have e:a07 bs g=a2Z 6 7 false [g.text]:=by rw[a2d,h];rfl
  have aa:=a5M 6 [g.text] (by simp)
  have ae:(a1e 6 [g.text]).length≤1:=by
   unfold a1e
   rw[lB]
   exact zbe (zcx _ _) (zbe (a2a _) (by simp))
  rw[e]
  refine⟨⟨b7R 6 false [g.text] (by simp),b1o aa,?_⟩,fun v hv=>?_⟩
  ·have h1:=a9r (k:=16) aa
   show (a1o (a1e 6 [g.text])).1.length≤_
   unfold a1o
   cases decide (((a1e 6 [g.text]).length:Int)=0)
   ·show (overV 16 _).length≤_
    omega
   ·show [a1c 1].length≤_
    simp;omega
  ·show a4c v (a2Z 6 (6+1) false [g.text])=_
   rw[b41 nm6 false [g.text] (by simp) v hv,a1I,h]
   show (decide (v.kind=3)&&((decide (g.text=v.text)||false) != false))=okA bs (bif decide (v.kind=3)&&decide (v.text=g.text) then some [] else none)
   rw[show decide (v.text=g.text)=decide (g.text=v.text) from by simp[eq_comm]]
   cases decide (v.kind=3)<;>cases decide (g.text=v.text)<;>rfl
 ·have e:a07 bs g=([a1c 9],0):=by rw[a2d,h];rfl
  have ag:wfP [a1c 9] 0=0:=by decide
  rw[e]
  refine⟨⟨ag,a62 _ rfl rfl,by simp;omega⟩,fun v hv=>?_⟩
  rw[a4W ag,a1I,h]
  obtain⟨R,hR⟩:=Wf.of ag
  rw[a5q hR (by simp)]
  show decide (v.kind=5)=okA bs (bif decide (v.kind=5) then some [] else none)
  cases decide (v.kind=5)<;>rfl
 ·have e:a07 bs g=b9A (g.kids.map (a07 bs)):=by rw[a2d,h];rfl
  have ao:g.kids.length≤4:=by
   have u:a4l g=true:=by unfold vP at q;simp only[zag] at q;exact q.2
   unfold a4l at u
   simp only[h,Int.reduceEq,zac,zad,zaj,zaa,zab,zan] at u
   omega
  have ae:(g.kids.map (a07 bs)).length≤4:=by rw[lB];exact ao
  have et:b9A (g.kids.map (a07 bs))=a3A 10 (g.kids.map (a07 bs)):=by
   unfold b9A
   rw[show decide ((4:Int)<((g.kids.map (a07 bs)).length:Int))=false from by rw[zah];omega];rfl
  have hk:ovK 10 (g.kids.map (a07 bs)).length=true:=by
   generalize (g.kids.map (a07 bs)).length=n at ae
   have:n=0∨n=1∨n=2∨n=3∨n=4:=by omega
   rcases this with e|e|e|e|e<;>rw[e]<;>decide
  rw[e]
  refine⟨by rw[et];exact c1S hS hk (by omega),fun v hv=>?_⟩
  rw[c4e hS ae,a1I,h]
  show _=okA bs (bif decide (v.kind=6)&&decide (g.kids.length=v.kids.length) then a3D g.kids v.kids else none)
  rw[lB]
  cases hl:decide (g.kids.length=v.kids.length) with
  |false=>
   rw[show decide (v.kids.length=g.kids.length)=false from by rw[zah] at hl ⊢; omega]
   cases decide (v.kind=6)<;>rfl
  |true=>
   have ab:=of_decide_eq_true hl
   rw[show decide (v.kids.length=g.kids.length)=true from zbo ab.symm,zae,zaw]
   rw[← b75 g.kids v.kids ab fun k hk w hw=>(ih k hk).2 w (a60 hv hw)]
   cases decide (v.kind=6)<;>rfl
 ·have e:a07 bs g=a3A 12 (g.kids.map (a07 bs)):=by rw[a2d,h];rfl
  have aj:(g.kids.map (a07 bs)).length=2:=by rw[lB];exact b6J q h
  have hk:ovK 12 (g.kids.map (a07 bs)).length=true:=by rw[aj];decide
  rw[e]
  refine⟨c1S hS hk (by omega),fun v hv=>?_⟩
  rw[c1O hS aj,a1I,h]
  show _=okA bs (bif decide (v.kind=7)&&decide (g.kids.length=v.kids.length) then a3D g.kids v.kids else none)
  rw[lB]
  cases hl:decide (g.kids.length=v.kids.length) with
  |false=>
   rw[show decide (v.kids.length=g.kids.length)=false from by rw[zah] at hl ⊢; omega]
   cases decide (v.kind=7)<;>rfl
  |true=>
   have ab:=of_decide_eq_true hl
   rw[show decide (v.kids.length=g.kids.length)=true from zbo ab.symm,zae,zaw]
   rw[← b75 g.kids v.kids ab fun k hk w hw=>(ih k hk).2 w (a60 hv hw)]
   cases decide (v.kind=7)<;>rfl
 ·have e:a07 bs g=a5V g.keys (g.kids.map (a07 bs)):=by rw[a2d,h];rfl
  have hm:b5x g=true:=by
   have u:a4l g=true:=by unfold vP at q;simp only[zag] at q;exact q.2
   unfold a4l at u
   simp only[h,Int.reduceEq,zac,zad,zaj,zaa,zab] at u
   exact u
  unfold b5x at hm
  simp only[zag,zbm,zbx,zde,zan,zah] at hm
  have h8:g.keys.length≤8:=by omega
  have ah:(a5V g.keys (g.kids.map (a07 bs))).1.length≤60*cntP g:=by
   show ((ovS 2 (g.kids.map (a07 bs))).1++[a6z g.keys (ovS 2 (g.kids.map (a07 bs))).2]).length≤_
   rw[zba,c1M]
   simp only[List.length_cons,List.length_nil]
   omega
  have ak:(a5V g.keys (g.kids.map (a07 bs))).1.length≤10000000:=by omega
  have al:g.keys.length=(g.kids.map (a07 bs)).length:=by rw[lB];exact an
  rw[e]
  refine⟨⟨c1Q ak al hm.2 h8,?_,ah⟩,fun v hv=>?_⟩
  ·have ai:=b4Y (k:=2) hS
   have af:∀ x∈(ovS 2 (g.kids.map (a07 bs))).1,x.kids.length≤1000000∧x.fields.length≤1000000:=by
    intro x hx
    obtain⟨j,hj⟩:=zb5 hx
    have aq:=(zak.1 hj).1
    rcases zc4 j with rfl|ar
    ·rw[a7C] at hj
     rw[← Option.some.inj hj]
     exact⟨zao _,zao _⟩
    ·have am:(overV 2 (g.kids.map (a07 bs)))[j]?= some x:=by unfold overV;rw[zd2 (by omega)];exact hj
     exact⟨ai.kids x (lP am),ai.fields x (lP am)⟩
   refine⟨by omega,fun x hx=>?_,fun x hx=>?_⟩
   ·rcases zbd.1 (show x∈(ovS 2 (g.kids.map (a07 bs))).1++[_] from hx) with hx|hx
    ·exact(af x hx).1
    ·rw[za7.1 hx];exact zao _
   ·rcases zbd.1 (show x∈(ovS 2 (g.kids.map (a07 bs))).1++[_] from hx) with hx|hx
    ·exact(af x hx).2
    ·rw[za7.1 hx]
     show ((g.keys.zip _).map _).length≤_
     rw[lB,zed];omega
  ·rw[c4f ak al hm.2 h8 hv,a1I,h]
   show _=okA bs (bif decide (v.kind=8) then (match a2F g.keys v with|some ws=>a3D g.kids ws|none=>none) else none)
   cases av:decide (v.kind=8) with
   |false=>rfl
   |true=>
    rw[zae,zaa]
    cases hl:a2F g.keys v with
    |none=>rfl
    |some ws=>
     obtain⟨h1,h2⟩:=a5N g.keys v ws hl
     exact(b75 g.kids ws (by omega) fun k hk w hw=>(ih k hk).2 w (a60 hv (h2 w hw))).symm
 ·have e:a07 bs g=a5i [a07 bs k0,b5z bs g.text]:=by rw[a2d,h,ad,d0S];rfl
  have h1:=ih k0 (by rw[ad];simp)
  have h2:=c1L hb g.text
  have aw:a10 g.kids=cntP k0:=by rw[ad,a10,a10];omega
  have hT:TyS 2500 [a07 bs k0,b5z bs g.text]:=b6C h1.1.sm h2.sm (by have:=h1.1.len;omega) (by have:=h2.len;omega) (by omega)
  rw[e]
  refine⟨?_,fun v hv=>?_⟩
  ·rw[b9m]
   refine c1S hT (by show ovK 17 2=true;decide) ?_
   have e1:=(b3C h1.1.wf).1
   have e2:=(b3C h2.wf).1
   have l1:=h1.1.len
   have l2:=h2.len
   simp only[lE,za6,List.sum_cons,List.sum_nil,e1,e2]
   omega
  ·rw[b2F hT,a1I,h]
   simp only[List.all_cons,List.all_nil,zaw]
   rw[h1.2 v hv,b70,ad]
   show _=okA bs ((a2A k0 v).map ((g.text,v):: ·))
   cases a2A k0 v with
   |none=>rfl
   |some a=>simp only[okA,Option.map_some,List.all_cons,Bool.and_comm]
termination_by cntP g
decreasing_by exact a1C hk
theorem c7S (b:BdD) (name:List UInt8):PCB zP 150 [.st (a5r b), .one (.ptr pin 0)] [(pin, .cells [.dat (.str name)])] (Bo (decide (b.1=name))) [(pin, .cells [.dat (.str name)])]:=by
 cases h:decide (b.1=name)
 all_goals
  refine PCB.ob Tryz.func150 Tryz.ntmps150 Tryz.results150 ?_
  repeat'(first|simp only[go_sem,pin,a4T,h]<;>refine nf ?_|refine stp ?_;intro K hK|apply hK;clear hK K|refine stn ?_|fail)
  all_goals(first|exact fun _ h=>zas _ h|exact⟨rfl,fun _ h=>zas _ h⟩)
theorem b5g (l:List BdD) (name:List UInt8):PCB zP 107 [Bds l, .one (.clo 150 [.ptr pin 0])] [(pin, .cells [.dat (.str name)])] (I .i64 (c0K (fun b:BdD=>decide (b.1=name)) l 0)) [(pin, .cells [.dat (.str name)])]:=by
 obtain⟨p,hp⟩:∃ p:BdD→Bool,p=fun b:BdD=>decide (b.1=name):=⟨_,rfl⟩
 have hb:∀ b,PCB zP 150 [.st (a5r b), .one (.ptr pin 0)] [(pin, .cells [.dat (.str name)])] (Bo (p b)) [(pin, .cells [.dat (.str name)])]:=fun b=>by rw[hp];exact c7S b name
 rw[← hp]
 clear hp
 refine PCB.ob Tryz.func107 Tryz.ntmps107 Tryz.results107 ?_
 repeat'(first|simp only[go_sem,pin,lB]<;>refine nf ?_|refine stp ?_;intro K hK|apply hK;clear hK K|refine stn ?_|fail)
 refine AWP.len 6 rfl fun u=>?_
 (try rw[lB] at u)
 refine AWP.range (S:=Unit) (l) a5r (fun k s=>(8,I .i64 (k:Nat))::[]) (fun k s=>[]) [0,1,7] [1000000] (fun k s=>Is (c0K p l 0) (c0K p (l.drop k) (k:Int))) (()) (by simp only[go_sem,pin];exact Gh.tt []) ?_ ?_ ?_
 ·rfl
 ·intro k s x ad hx ab aa q
  refine sts ?_
  have hd:l.drop k=x::l.drop (k+1):=by
   obtain⟨hk,e⟩:=zak.1 hx
   rw[za8 hk,e]
  unfold Is at q
  rw[hd,c0K] at q
  have hI:=hb x
  cases ae:p x<;>rw[ae] at q hI
  ·
   repeat'(first|simp only[go_sem,pin,lB,aa,a4T]<;>refine nf ?_|refine stp ?_;intro K hK|apply hK;clear hK K|refine stn ?_|(with_reducible refine⟨by omega,a5r x,ab,?_⟩)|( refine Or.inr ⟨_,_,_,hI,⟨rfl,trivial⟩,rfl,rfl,?_⟩)|clear hK K)
   all_goals(rw[a0b ad u])
   all_goals(refine⟨(),?_,Gh.tt []⟩)
   all_goals exact q
  ·
   repeat'(first|simp only[go_sem,pin,lB,aa,a4T]<;>refine nf ?_|refine stp ?_;intro K hK|apply hK;clear hK K|refine stn ?_|(with_reducible refine⟨by omega,a5r x,ab,?_⟩)|( refine Or.inr ⟨_,_,_,hI,⟨rfl,trivial⟩,rfl,rfl,?_⟩)|clear hK K)
   all_goals(refine⟨?_,fun _ h=>h⟩;rw[q];rfl)
 ·intro s aa q
  refine sts ?_
  unfold Is at q
  rw[zbw,c0K] at q
  repeat'(first|simp only[go_sem,lB,aa]<;>refine nf ?_|refine stp ?_;intro K hK|apply hK;clear hK K|refine stn ?_|clear hK K)
  all_goals(refine⟨?_,fun _ h=>h⟩;rw[q])
abbrev LTy (t:TyD):T:= .st [.sl 8 (t.1.map a0e), .int .i64 t.2]
theorem at_c (t:TyD) (ht:TSm t.1):PC zP 70 [LTy t,I .i64 t.2] (LTy (bif decide (wfP t.1 t.2=0) then t else a4o)):=by
 have hN:=b4Q t.1 t.2 ht
 have hW:=a9V t.1 t.2 ht
 have hl:=ht.len
 cases hw:decide (wfP t.1 t.2=0) with
 |false=>
  refine PCB.ob Tryz.func70 Tryz.ntmps70 Tryz.results70 ?_
  repeat'(first|simp only[go_sem,lB,hw]<;>refine nf ?_|refine stp ?_;intro K hK|apply hK;clear hK K|refine stn ?_|(with_reducible first|refine⟨_,hW,?_⟩|refine⟨_,c03,?_⟩)|refine stq ?_|clear hK K)
  all_goals(first|exact fun _ h=>absurd h zaf|(refine a0m ?_;rfl))
 |true=>
  have q:=of_decide_eq_true hw
  have ho:=b2z q
  have h1:decide (t.2<0)=false:=by rw[zah];omega
  have h2:decide ((t.1.length:Int)≤t.2)=false:=by rw[zah];omega
  rw[d08 q (by omega)] at hN
  refine PCB.ob Tryz.func70 Tryz.ntmps70 Tryz.results70 ?_
  repeat'(first|(refine atR 4 (Gh.freeze 900 (by rfl) (by rfl) (by simp only[go_sem,lB,hw,h1,h2,lB]) (by simp only[go_sem,lB,hw,h1,h2,lB])) ?_;simp only[frE,frB,Bx.drop,go_sem,lB,hw,h1,h2])|simp only[go_sem,lB,hw,h1,h2]<;>refine nf ?_|refine stp ?_;intro K hK|apply hK;clear hK K|refine stn ?_|(with_reducible refine⟨_,hW,?_⟩)|(refine Or.inr (Or.inr (a9K.mk hN (by repeat(first|exact trivial|refine And.intro rfl ?_)) (by rfl) (by first|rfl|(simp only[a7o,List.all_cons,List.all_nil,go_sem,lB,hw,h1,h2]<;>rfl)) (by rfl) (by rfl) ?_)))|refine stq ?_|fail)
  all_goals(first|exact fun _ h=>absurd h zaf|(refine a0m ?_;rfl))
theorem b76 (name:List UInt8) (bs:List BdD) (hb:BdL bs):PC zP 88 [S name,Bds bs] (LTy (b5z bs name)):=by
 have q:=b5g bs name
 unfold b5z a2t
 cases ae:bs.find? (fun b=>decide (b.1=name)) with
 |none=>
  rw[(b3B _ bs 0 (by omega)).1 ae] at q
  refine PCB.ob Tryz.func88 Tryz.ntmps88 Tryz.results88 ?_
  repeat'(first|( refine AWP.cloS (id:=1) 1 (by kernel_rfl) fun K hK=>?_;simp only[List.take_succ_cons,List.take_zero,zb4,zb2])|( unfold c3K;refine⟨rfl,_,_,_,rfl,by with_unfolding_all rfl,?_⟩)|simp only[go_sem,lB]<;>refine nf ?_|refine stp ?_;intro K hK|apply hK;clear hK K|refine stn ?_|(with_reducible refine⟨_,c7n,?_⟩)|(refine⟨2,_,_,_,a1k.mk 2 q,rfl,?_⟩)|refine stq ?_|clear hK K)
  all_goals(first|exact fun _ h=>absurd h zaf|(refine a0m ?_;rfl))
 |some b=>
  obtain⟨k,ag,aa⟩:=(b3B _ bs 0 (by omega)).2 b ae
  rw[ag,Int.zero_add] at q
  have ab:decide ((k:Int)<0)=false:=by rw[zah];omega
  have ad:=a0y a5r aa
  have ah:=(zak.1 aa).1
  have af:=lP aa
  obtain⟨bn,u⟩:=b
  have hA:=at_c u (hb.sm _ af)
  refine PCB.ob Tryz.func88 Tryz.ntmps88 Tryz.results88 ?_
  repeat'(first|( refine AWP.cloS (id:=1) 1 (by kernel_rfl) fun K hK=>?_;simp only[List.take_succ_cons,List.take_zero,zb4,zb2])|( unfold c3K;refine⟨rfl,_,_,_,rfl,by with_unfolding_all rfl,?_⟩)|simp only[go_sem,lB,ab,a4T]<;>refine nf ?_|refine stp ?_;intro K hK|apply hK;clear hK K|refine stn ?_|(with_reducible first|refine⟨(by omega:_≤_),a5r (bn,u),ad,?_⟩|refine⟨_,hA,?_⟩)|(refine⟨2,_,_,_,a1k.mk 2 q,rfl,?_⟩)|(with_reducible refine AWP.segP (id:=4) 12 mixed (by kernel_rfl) fun K hK=>?_;simp only[List.take_succ_cons,List.take_zero,zb4,zb2])|refine stq ?_|fail)
  all_goals(first|exact fun _ h=>absurd h zaf|(refine a0m ?_;rfl))
noncomputable def c2o (bs:List BdD) (n:List UInt8) (v:Val):Bool:=match a2t bs n with
  |none=>true
  |some t=>a9n v t.1 t.2 t.2
noncomputable def inA (v:Val) (g:Pat) (bs:List BdD):Bool:=(a2k g v).2&&((namesP g).zip (a2k g v).1).all fun p=>c2o bs p.1 p.2
theorem c1T (bs:List BdD) (n:List UInt8) (v:Val) (hv:a0t v=true):c2o bs n v=c7O bs n v:=by
 unfold c2o c7O
 cases a2t bs n with
 |none=>rfl
 |some t=>
  show a9n v t.1 t.2 t.2=a4c v t
  rw[c1p,hv,zae]
  cases h:decide (wfP t.1 t.2=0) with
  |true=>rfl
  |false=>rw[show t=(t.1,t.2) from rfl,b7N h];rfl
theorem a7F:∀ (l:List Pat) (vs:List Val) (a:ME),(∀ g∈l,∀ w∈vs,∀ a,a2A g w=some a→∀ p∈a,a0t p.2=true)→a3D l vs=some a→∀ p∈a,a0t p.2=true
 |[],vs,a,_,h=>by rw[a3W] at h;cases h;intro p hp;cases hp
 |g::l,[],a,_,h=>by
  have h':some []=some a:=h
  cases h';intro p hp;cases hp
 |g::l,v::vs,a,hn,h=>by
  rw[a3D] at h
  cases hr:a2A g v with
  |none=>rw[hr] at h;cases h
  |some b=>
   rw[hr] at h
   simp only[zcm] at h
   obtain⟨c,hc,rfl⟩:=h
   intro p hp
   rcases zbd.1 hp with hp|hp
   ·exact hn g (by simp) v (by simp) b hr p hp
   ·exact a7F l vs c (fun g hg w hw=>hn g (zas _ hg) w (zas _ hw)) hc p hp
theorem a68 {a:ME} {c:Bool} (h:(bif c then some [] else none)=some a):∀ p∈a,a0t p.2=true:=by
  cases c
  · cases h
  · cases h;intro p hp;cases hp
theorem b2L (g:Pat) (v:Val) (hg:a04 g=true) (hv:a0t v=true) (a:ME) (h:a2A g v=some a):∀ p∈a,a0t p.2=true:=by
 have ih:∀ k∈g.kids,∀ w:Val,a0t w=true→∀ a,a2A k w=some a→∀ p∈a,a0t p.2=true:=fun k hk w hw a h=>b2L k w (a2c hg hk) hw a h
 have u:=a90 hg
 rw[a1I] at h
 rcases a9R u with hk|hk|hk|hk|hk|hk|hk|hk|⟨hk,aa⟩|⟨hk,k0,q⟩
 ·rw[hk] at h
  exact a68 (c:=true) h
 ·rw[hk] at h
  have h':some [(g.text,v)]=some a:=h
  cases h'
  intro p hp
  rw[za7.1 hp];exact hv
 ·rw[hk] at h;exact a68 h
 ·rw[hk] at h;exact a68 h
 ·rw[hk] at h;exact a68 h
 ·rw[hk] at h;exact a68 h
 ·rw[hk] at h
  have h':(bif decide (v.kind=6)&&decide (g.kids.length=v.kids.length) then a3D g.kids v.kids else none)=some a:=h
  cases hz:decide (v.kind=6)&&decide (g.kids.length=v.kids.length)<;>rw[hz] at h'
  ·cases h'
  ·exact a7F g.kids v.kids a (fun g hg w hw=>ih g hg w (a1N hv hw)) h'
 ·rw[hk] at h
  have h':(bif decide (v.kind=7)&&decide (g.kids.length=v.kids.length) then a3D g.kids v.kids else none)=some a:=h
  cases hz:decide (v.kind=7)&&decide (g.kids.length=v.kids.length)<;>rw[hz] at h'
  ·cases h'
  ·exact a7F g.kids v.kids a (fun g hg w hw=>ih g hg w (a1N hv hw)) h'
 ·rw[hk] at h
  have h':(bif decide (v.kind=8) then (match a2F g.keys v with|some ws=>a3D g.kids ws|none=>none) else none)=some a:=h
  cases hz:decide (v.kind=8)<;>rw[hz] at h'
  ·cases h'
  ·cases hl:a2F g.keys v with
   |none=>rw[hl] at h';cases h'
   |some ws=>
    rw[hl] at h'
    exact a7F g.kids ws a (fun g hg w hw=>ih g hg w (a1N hv ((a5N _ _ _ hl).2 w hw))) h'
 ·rw[hk,q] at h
  have h':(a2A k0 v).map ((g.text,v):: ·)=some a:=h
  rw[zcm] at h'
  obtain⟨b,hb,rfl⟩:=h'
  intro p hp
  rcases zal.1 hp with rfl|hp
  ·exact hv
  ·exact ih k0 (by rw[q];simp) v hv b hb p hp
termination_by cntP g
decreasing_by exact a1C hk
theorem c1U {α β:Type} (f:α→β):∀ l:List α,l.zip (l.map f)=l.map fun x=>(x,f x)
  |[]=>rfl
  |x::l=>by rw[lE,List.zip_cons_cons,c1U f l];rfl
theorem c5y (v:Val) (g:Pat) (bs:List BdD) (hv:a0t v=true):inA v g bs=okA bs (a2A (a0w g) v):=by
 unfold inA
 rw[a9w g v hv]
 have q:=a2b g
 have ht:=a5j q
 cases hr:a2A (a0w g) v with
 |none=>rfl
 |some l=>
  have hn:=a3n (a0w g) v ht l hr
  have u:(l.map (·.1)).Nodup:=by rw[hn];exact b2H q
  have ad:=b2L (a0w g) v ht hv l hr
  show (true&&((namesP g).zip ((namesP g).flatMap (a7K l))).all fun p=>c2o bs p.1 p.2)=l.all fun p=>c7O bs p.1 p.2
  rw[zae,c1G l u (namesP g) (fun n h=>by rw[hn];exact((a2i _).2 n).1 h),c1U,zcy]
  have ab:∀ p∈l,atM (a4d [] l) p.1=p.2:=fun p hp=>by
   unfold atM;rw[b3J l [] p.1 p.2 u hp];rfl
  rw[zds,za0,za0]
  constructor
  ·intro h p hp
   have hm:p.1∈namesP g:=by
    refine((a2i _).2 p.1).2 ?_
    rw[← hn];exact za3.2 ⟨p,hp,rfl⟩
   have:=h p.1 hm
   simp only[Function.comp_apply] at this
   rw[ab p hp,c1T bs p.1 p.2 (ad p hp)] at this
   exact this
  ·intro h n hm
   have aa:=((a2i _).2 n).1 hm
   rw[← hn] at aa
   obtain⟨p,hp,rfl⟩:=za3.1 aa
   simp only[Function.comp_apply]
   rw[ab p hp,c1T bs p.1 p.2 (ad p hp)]
   exact h p hp
theorem c7T (o:Option ME):okA [] o=o.isSome:=by
 cases o with
 |none=>rfl
 |some a=>
  show a.all (fun p=>c7O [] p.1 p.2)=true
  exact za0.2 fun p _=>rfl
theorem c4g (v:Val) (g:Pat) (hv:a0t v=true):(a2k g v).2=(a2A (a0w g) v).isSome:=by
  rw[a9w g v hv]
  cases a2A (a0w g) v<;>rfl
theorem c1V {bs:List BdD} {k:Nat} {x:BdD} {name:List UInt8} (h:bs.drop k=x::bs.drop (k+1)):a2t (bs.drop k) name=bif decide (x.1=name) then some x.2 else a2t (bs.drop (k+1)) name:=by
  unfold a2t
  rw[h,List.find?_cons]
  cases decide (x.1=name)<;>rfl
theorem b9n (bs:List BdD) (name:List UInt8):PC zP 55 [Bds bs,S name] (.tup [.st [.sl 8 (((a2t bs name).getD ([],0)).1.map a0e), .int .i64 ((a2t bs name).getD ([],0)).2],Bo (a2t bs name).isSome]):=by
 refine PCB.ob Tryz.func55 Tryz.ntmps55 Tryz.results55 ?_
 refine AWP.len 0 rfl fun q=>?_
 rw[lB] at q
 repeat'(first|simp only[go_sem,lB]<;>refine nf ?_|refine stp ?_;intro K hK|apply hK;clear hK K|refine stn ?_|fail)
 refine AWP.loopF (X:=Nat) (fun k=>[(6,I .i64 k)]) (fun _=>[]) [0,1,4] [4] (fun k=>k≤bs.length∧a2t bs name=a2t (bs.drop k) name) (fun k=>bs.length-k) (0) (by refine sts ?_;exact Gh.tt []) ?_ ?_
 ·exact⟨zao _,rfl⟩
 rintro k ⟨hk,hp⟩
 refine sts ?_
 by_cases u:k<bs.length
 ·obtain⟨x,hx,aa,hb,hd⟩:=a1A (enc:=a5r) u
  rw[c1V hd] at hp
  cases hz:decide (x.1=name)<;>rw[hz] at hp
  ·
   repeat'(first|simp only[go_sem,lB,hb,hz,a4T]<;>refine nf ?_|refine stp ?_;intro K hK|apply hK;clear hK K|refine stn ?_|(with_reducible refine⟨by omega,a5r x,aa,?_⟩)|clear hK K)
   all_goals(rw[a0b u q])
   all_goals(refine⟨k+1,by omega,⟨by omega,hp⟩,Gh.tt []⟩)
  ·rw[zaa] at hp
   repeat'(first|simp only[go_sem,lB,hb,hz,a4T]<;>refine nf ?_|refine stp ?_;intro K hK|apply hK;clear hK K|refine stn ?_|(with_reducible refine⟨by omega,a5r x,aa,?_⟩)|clear hK K)
   all_goals(rw[hp];exact⟨rfl,fun _ h=>by cases h⟩)
 ·obtain⟨hb,hd⟩:=c3p (l:=bs) u
  rw[hd] at hp
  have ab:a2t bs name=none:=hp
  repeat'(first|simp only[go_sem,lB,hb]<;>refine nf ?_|refine stp ?_;intro K hK|apply hK;clear hK K|refine stn ?_|clear hK K)
  all_goals(rw[ab];exact⟨rfl,fun _ h=>by cases h⟩)
theorem c4h {bs:List BdD} {n:List UInt8} {t:TyD} (h:a2t bs n=some t):∃ b∈bs,b.2=t:=by
  unfold a2t at h
  obtain⟨b,hb,e⟩:=zcm.1 h
  exact⟨b,List.mem_of_find?_eq_some hb,e⟩
theorem b9o (g:Pat) (v:Val) (h:(a2k g v).2=true):(a2k g v).1.length=(namesP g).length:=by
  unfold a2k at h ⊢
  cases hz:a0t v&&(a0B (a0w g) v []).1<;>rw[hz] at h
  · cases h
  · rw[zaa];simp
theorem b1p (v:Val) (g:Pat) (bs:List BdD) (hg:PSm g) (ae:BdL bs):PC zP 17 [Vt v,Pt g,Bds bs] (Bo (inA v g bs)):=by
 have h1:PC zP 15 [.st (a1d g), .st (a0c v)] (.tup [VsP (a2k g v).1,Bo (a2k g v).2]):=a7Q g v hg
 have h2:PC zP 54 [.st (a1d g)] (SsP (namesP g)):=b1Q g hg
 have ah:=b9o g v
 unfold inA
 generalize (a2k g v).1=W at*
 generalize (a2k g v).2=ok0 at*
 generalize namesP g=N at*
 refine PCB.ob Tryz.func17 Tryz.ntmps17 Tryz.results17 ?_
 repeat'(first|simp only[go_sem]<;>refine nf ?_|refine stp ?_;intro K hK|apply hK;clear hK K|refine stn ?_|(with_reducible first|refine⟨_,h1,?_⟩|refine⟨_,h2,?_⟩)|refine stq ?_|fail)
 refine AWP.len 9 rfl fun u=>?_
 rw[lB] at u
 refine AWP.loopF (X:=Nat×Bool) (fun x=>[(8,Bo x.2),(10,I .i64 x.1)]) (fun _=>[]) [2,7,9] [] (fun x=>x.1≤N.length∧(x.2=true→ok0=true)∧(ok0&&(N.zip W).all fun p=>c2o bs p.1 p.2)=(x.2&&((N.zip W).drop x.1).all fun p=>c2o bs p.1 p.2)) (fun x=>N.length-x.1) ((0,ok0)) (by refine sts ?_;exact Gh.tt []) ?_ ?_
 ·exact⟨zao _,fun h=>h,rfl⟩
 rintro⟨k,o⟩ ⟨hk,ho,hp⟩
 refine sts ?_
 cases o with
 |false=>
  rw[zai] at hp
  repeat'(first|simp only[go_sem,lB]<;>refine nf ?_|refine stp ?_;intro K hK|apply hK;clear hK K|refine stn ?_|clear hK K)
  all_goals(first|exact lf|(refine a0m ?_;simp only[hp,zb,zaa,zab,zac,zad]<;>rfl))
 |true=>
  rw[zae] at hp
  have hW:=ah (ho rfl)
  by_cases q:k<N.length
  ·obtain⟨n,hn,ad,hb,hd⟩:=a1A (enc:=Sx.encStr) q
   obtain⟨w,hw,af,_,_⟩:=a1A (enc:=a0c) (show k<W.length by omega)
   have hz:(N.zip W).drop k=(n,w)::(N.zip W).drop (k+1):=by
    have:(N.zip W)[k]?= some (n,w):=by rw[zcz];exact⟨hn,hw⟩
    obtain⟨h3,h4⟩:=zak.1 this
    rw[za8 h3,h4]
   rw[hz,List.all_cons] at hp
   have hB:=b9n bs n
   cases aa:a2t bs n with
   |none=>
    rw[aa] at hB
    have e:c2o bs n w=true:=by unfold c2o;rw[aa]
    rw[e,zae] at hp
    have ab:PC zP 55 [Bds bs,S n] (.tup [.st [.sl 8 [], .int .i64 0],Bo false]):=hB
    repeat'(first|simp only[go_sem,lB,hb,Sx.encStr]<;>refine nf ?_|refine stp ?_;intro K hK|apply hK;clear hK K|refine stn ?_|(with_reducible first|refine⟨_,ab,?_⟩|refine⟨by omega,Sx.encStr n,ad,?_⟩)|(refine a0J ?_;intro K hK)|refine stq ?_|clear hK K)
    all_goals(rw[a0b q u])
    all_goals(refine⟨(k+1,true),by show N.length-(k+1)<N.length-k;omega,⟨q,fun _=>ho rfl,hp⟩,Gh.tt []⟩)
   |some t=>
    rw[aa] at hB
    have e:c2o bs n w=a9n w t.1 t.2 t.2:=by unfold c2o;rw[aa]
    rw[e] at hp
    have ab:PC zP 55 [Bds bs,S n] (.tup [.st [.sl 8 (t.1.map a0e), .int .i64 t.2],Bo true]):=hB
    have hM:PC zP 16 [.st (a0c w), .st [.sl 8 (t.1.map a0e), .int .i64 t.2]] (Bo (a9n w t.1 t.2 t.2)):=b0f w t.1 t.2 (by
     obtain⟨b,ai,ag⟩:=c4h aa
     rw[← ag];exact ae.sm b ai)
    repeat'(first|simp only[go_sem,lB,hb,Sx.encStr]<;>refine nf ?_|refine stp ?_;intro K hK|apply hK;clear hK K|refine stn ?_|(with_reducible first|refine⟨_,ab,?_⟩|refine⟨_,hM,?_⟩|refine⟨by omega,Sx.encStr n,ad,?_⟩|refine⟨by omega,a0c w,af,?_⟩)|(refine a0J ?_;intro K hK)|refine stq ?_|clear hK K)
    all_goals(rw[a0b q u])
    all_goals(refine⟨(k+1,a9n w t.1 t.2 t.2),by show N.length-(k+1)<N.length-k;omega,⟨q,fun _=>ho rfl,hp⟩,Gh.tt []⟩)
  ·obtain⟨hb,_⟩:=c3p (l:=N) q
   have hd:(N.zip W).drop k=[]:=zci (by rw[zed];omega)
   rw[hd] at hp
   repeat'(first|simp only[go_sem,lB,hb]<;>refine nf ?_|refine stp ?_;intro K hK|apply hK;clear hK K|refine stn ?_|clear hK K)
   all_goals(first|exact lf|(refine a0m ?_;simp only[hp,zb,zaa,zab,zac,zad]<;>rfl))
end Go.Proofs.YtoelgackkclcmaaGreat

