/- Lemmas. -/
import Derived.Test.YtoelgackkclcmaaGreatPc45
import Derived.Test.YtoelgackkclcmaaGreatPc46
open Go.Proofs.Tryz renaming prog→zP
open List renaming length_append→lA,length_map→lB,map_cons→lE,drop_length→lL,mem_of_getElem?→lP
open Go.Sx.AWP renaming range→xC,gh→xD,lenB→xE
open Go.Sx.Gh renaming freeze→xH,nilrow→xI
open Bool renaming not_eq_true'→zM,not_eq_false'→zN
set_option linter.unusedSimpArgs false
set_option linter.unusedVariables false
set_option maxRecDepth 20000
set_option maxHeartbeats 64000000
namespace Go.Proofs.YtoelgackkclcmaaGreat
open Go Go.Sx
theorem b7V:∀ l:List (List UInt8),a7L Lib.compareBytes l=true→l.Pairwise (· < ·)
 |[],_=> .nil
 |[x],_=>List.pairwise_singleton _ x
 |x::y::m,h=>by
  have h':(decide (Lib.compareBytes x y<0)&&a7L Lib.compareBytes (y::m))=true:=h
  rw[zag,← a5b,b3r] at h'
  have ih:=b7V (y::m) h'.2
  have q:=of_decide_eq_true h'.1
  refine List.Pairwise.cons (fun z hz=>?_) ih
  rcases zal.1 hz with rfl|hz
  ·exact q
  ·exact List.lt_trans q ((zcj.1 ih).1 z hz)
theorem a9u (l:List (List UInt8)) (h:l.Pairwise (· < ·)):a0M l=l:=by
  obtain⟨h1,h2⟩:=a2i l
  exact a9j _ _ h1 h h2
theorem b7W (l:List (List UInt8)) (h:l.Pairwise (· < ·)):(l.mergeSort fun x y=>decide (x≤y))=l:=by
  rw[a5k l (by rw[a9u l h];exact zax _),a9u l h]
theorem b9d {v:Val} (h:a0t v=true):v.labels.Pairwise (· < ·):=by
  rw[a2v,zag] at h
  have h1:=h.1
  unfold a0K a40 at h1
  simp only[zag] at h1
  exact b7V _ h1.2.1.1
theorem b46 (v:Val) (hv:Sm v) (hl:v.labels.Pairwise (· < ·)):PC zP 76 [Vt v,SsP v.labels] (Vt v):=by
 have hb:=a3E v
 have q:a2q v≤100000000:=hv
 have h1:PC zP 130 [.st (a0c v)] (.st (a0c v)):=b3o v hv
 rw[a0a v] at h1
 have h2:=cloneStr_n v.labels (by omega)
 have h3:a1k zP 80 [.one (.own 9 v.labels.length)] 9 (.row 1 (v.labels.map Sx.encStr)) (.tup []) (.row 1 (v.labels.map Sx.encStr)):=by
  have h:=a1k.own1 9 (a8C Go.Proofs.Tryz.sortS v.labels (by omega))
  rw[b7W _ hl] at h
  exact h
 have h4:a1k zP 81 [.one (.own 9 v.labels.length)] 9 (.row 1 (v.labels.map Sx.encStr)) (.one (.own 9 v.labels.length)) (.row 1 (v.labels.map Sx.encStr)):=by
  have h:=a6V Go.Proofs.Tryz.compS (v.labels.mergeSort fun x y=>decide (x≤y))
  rw[a5g,zda,b7W _ hl,a9u _ hl] at h
  exact a1k.own2 9 h
 have h5:=c9F (v.labels.map Sx.encStr)
 refine PCB.ob Tryz.func76 Tryz.ntmps76 Tryz.results76 ?_
 repeat'(first|simp only[go_sem,a0a v,lB]<;>refine nf ?_|refine stp ?_;intro K hK|apply hK;clear hK K|refine stn ?_|(with_reducible first|refine⟨_,h1,?_⟩|refine Or.inr (Or.inl ⟨_,_,h2,?_⟩)|refine⟨_,h5,?_⟩)|(apply Or.inr;refine⟨9,_,_,_,h3,rfl,?_⟩;simp only[go_sem])|(apply Or.inr;refine⟨9,_,_,_,h4,rfl,?_⟩;simp only[go_sem])|refine stq ?_|fail)
 all_goals(first|exact fun _ h=>absurd h zaf|refine a0m ?_)
 all_goals(first|rfl|(rw[show Vt v=T.st (a0c v) from rfl,a0a v];done))
theorem a8P (k k':List UInt8) (v:Val):∀ m:ME,b43 k (b1H k' v m)=if k'=k then some v else b43 k m
 |[]=>by
  by_cases h:k'=k
  ·simp[b1H,b43,h]
  ·simp[b1H,b43,h]
 |p::m=>by
  have ih:=a8P k k' v m
  by_cases hp:p.1=k'
  ·by_cases h:k'=k
   ·simp[b1H,b43,h,hp]
   ·simp[b1H,b43,h,hp]
  ·by_cases h:k'=k
   ·subst h
    simp only[b1H,hp,zad,zab,b43,ih,za9]
   ·rw[za5 h] at ih
    simp only[b1H,hp,zad,zab,b43,ih,za5 h]
def c1F (m:ME):Prop:=∀ k w,b43 k m=some w→a0t w=true∧Sm w
def Has (m:ME) (k:List UInt8):Prop:=∃ w,b43 k m=some w
theorem b47 {m:ME} (h:c1F m) {k:List UInt8} {v:Val} (h1:a0t v=true) (h2:Sm v):c1F (b1H k v m):=by
  intro k' w hw
  rw[a8P] at hw
  by_cases e:k=k'
  · rw[zaz e] at hw;cases hw;exact⟨h1,h2⟩
  · rw[za5 e] at hw;exact h k' w hw
theorem b3H {m:ME} {k k':List UInt8} (v:Val) (h:k'=k∨Has m k):Has (b1H k' v m) k:=by
  unfold Has
  rw[a8P]
  by_cases e:k'=k
  · exact⟨v,zaz e⟩
  · rw[za5 e];exact h.resolve_left e
structure Ms (l:List (List UInt8)) (m m':ME) (ok:Bool):Prop where
  good:c1F m→c1F m'
  keep:∀ k,Has m k→Has m' k
  nm:ok=true→∀ k∈l,Has m' k
theorem Ms.same (m:ME) (ok:Bool):Ms [] m m ok:=⟨id,fun _ h=>h,fun _ k hk=>by cases hk⟩
theorem b1n {v w:Val} {k:KeyD} (h:a3o v k=some w):w∈v.kids:=by
  unfold a3o at h
  cases hd:decide (a1F (fun x=>a1t k x) 0 v.keys<0)
  · rw[hd,zab] at h;exact lP h
  · rw[hd,zaa] at h;cases h
theorem d06:∀ (l:List Pat) (vs:List Val) (m:ME),(∀ g∈l,∀ w∈vs,∀ m,Ms (a0Z g) m (a0B g w m).2 (a0B g w m).1)→(l.length≤vs.length)→Ms (l.flatMap a0Z) m (a2j l vs m).2 (a2j l vs m).1
 |[],vs,m,_,_=>by rw[a9t];exact Ms.same m true
 |g::l,[],m,_,hlen=>by simp at hlen
 |g::l,v::vs,m,h,hlen=>by
  have h1:=h g (by simp) v (by simp) m
  have h2:=d06 l vs (a0B g v m).2 (fun g hg w hw=>h g (zas _ hg) w (zas _ hw)) (by simpa using hlen)
  rw[a2j]
  cases hz:(a0B g v m).1
  ·simp only[zab]
   exact⟨h1.good,h1.keep,fun h=>by cases h⟩
  ·simp only[zaa]
   refine⟨fun hm=>h2.good (h1.good hm),fun k hk=>h2.keep k (h1.keep k hk),fun ok k hk=>?_⟩
   rw[zck,zbd] at hk
   rcases hk with hk|hk
   ·exact h2.keep k (h1.nm hz k hk)
   ·exact h2.nm ok k hk
theorem d1x:∀ (ks:List KeyD) (l:List Pat) (v:Val) (m:ME),(∀ g∈l,∀ w∈v.kids,∀ m,Ms (a0Z g) m (a0B g w m).2 (a0B g w m).1)→(l.length≤ks.length)→Ms (l.flatMap a0Z) m (a13 ks l v m).2 (a13 ks l v m).1
 |ks,[],v,m,_,_=>by
  have:a13 ks [] v m=(true,m):=by cases ks<;>rfl
  rw[this];exact Ms.same m true
 |[],g::l,v,m,_,hlen=>by simp at hlen
 |k::ks,g::l,v,m,h,hlen=>by
  rw[a13]
  cases hv:a3o v k with
  |none=>exact⟨id,fun _ h=>h,fun h=>by cases h⟩
  |some w=>
   have h1:=h g (by simp) w (b1n hv) m
   have h2:=d1x ks l v (a0B g w m).2 (fun g hg w hw=>h g (zas _ hg) w hw) (by simpa using hlen)
   simp only
   cases hz:(a0B g w m).1
   ·simp only[zab]
    exact⟨h1.good,h1.keep,fun h=>by cases h⟩
   ·simp only[zaa]
    refine⟨fun hm=>h2.good (h1.good hm),fun k hk=>h2.keep k (h1.keep k hk),fun ok k hk=>?_⟩
    rw[zck,zbd] at hk
    rcases hk with hk|hk
    ·exact h2.keep k (h1.nm hz k hk)
    ·exact h2.nm ok k hk
theorem a3a {g:Pat} (h:vP g=true) (hk:a6e g.kind=false):g.kids=[]:=by
  have hb:b6g g=false:=by unfold vP at h;simp only[zag,zbm] at h;exact h.1
  unfold b6g at hb
  rw[hk] at hb
  simp only[zbx,zar,zae,zah] at hb
  exact zbk.1 (by omega)
theorem d1y (g:Pat) (v:Val) (m:ME) (hg:a04 g=true) (hv:a0t v=true) (hs:Sm v):Ms (a0Z g) m (a0B g v m).2 (a0B g v m).1:=by
 have ih:∀ k∈g.kids,∀ w:Val,a0t w=true→Sm w→∀ m,Ms (a0Z k) m (a0B k w m).2 (a0B k w m).1:=fun k hk w hw aa m=>d1y k w m (a2c hg hk) hw aa
 have q:=a90 hg
 rw[a7B,a3C]
 rcases a9R q with hk|hk|hk|hk|hk|hk|hk|hk|⟨hk,ab⟩|⟨hk,k0,u⟩
 ·rw[hk,a3a q (by rw[hk];rfl)];exact Ms.same m _
 ·rw[hk,a3a q (by rw[hk];rfl)]
  refine⟨fun h=>b47 h hv hs,fun k h=>b3H v (.inr h),fun _ k h=>b3H v (.inl ?_)⟩
  have:k∈[g.text]:=by simpa [b3i] using h
  exact(za7.1 this).symm
 ·rw[hk,a3a q (by rw[hk];rfl)];exact Ms.same m _
 ·rw[hk,a3a q (by rw[hk];rfl)];exact Ms.same m _
 ·rw[hk,a3a q (by rw[hk];rfl)];exact Ms.same m _
 ·rw[hk,a3a q (by rw[hk];rfl)];exact Ms.same m _
 ·rw[hk]
  show Ms (g.kids.flatMap a0Z) m (bif decide (v.kind=6)&&decide (g.kids.length=v.kids.length) then a2j g.kids v.kids m else (false,m)).2 (bif decide (v.kind=6)&&decide (g.kids.length=v.kids.length) then a2j g.kids v.kids m else (false,m)).1
  cases hz:decide (v.kind=6)&&decide (g.kids.length=v.kids.length)
  ·exact⟨id,fun _ h=>h,fun h=>by cases h⟩
  ·rw[zag,zan,zan] at hz
   exact d06 g.kids v.kids m (fun g hg w hw=>ih g hg w (a1N hv hw) (hs.kid w hw)) (by omega)
 ·rw[hk]
  show Ms (g.kids.flatMap a0Z) m (bif decide (v.kind=7)&&decide (g.kids.length=v.kids.length) then a2j g.kids v.kids m else (false,m)).2 (bif decide (v.kind=7)&&decide (g.kids.length=v.kids.length) then a2j g.kids v.kids m else (false,m)).1
  cases hz:decide (v.kind=7)&&decide (g.kids.length=v.kids.length)
  ·exact⟨id,fun _ h=>h,fun h=>by cases h⟩
  ·rw[zag,zan,zan] at hz
   exact d06 g.kids v.kids m (fun g hg w hw=>ih g hg w (a1N hv hw) (hs.kid w hw)) (by omega)
 ·rw[hk]
  show Ms (g.kids.flatMap a0Z) m (bif decide (v.kind=8) then a13 g.keys g.kids v m else (false,m)).2 (bif decide (v.kind=8) then a13 g.keys g.kids v m else (false,m)).1
  cases hz:decide (v.kind=8)
  ·exact⟨id,fun _ h=>h,fun h=>by cases h⟩
  ·exact d1x g.keys g.kids v m (fun g hg w hw=>ih g hg w (a1N hv hw) (hs.kid w hw)) (by omega)
 ·rw[hk,u]
  have h0:=ih k0 (by rw[u];simp) v hv hs (b1H g.text v m)
  show Ms ([g.text]++[k0].flatMap a0Z) m (a0B k0 v (b1H g.text v m)).2 (a0B k0 v (b1H g.text v m)).1
  refine⟨fun h=>h0.good (b47 h hv hs),fun k h=>h0.keep k (b3H v (.inr h)),fun ok k h=>?_⟩
  simp only[List.singleton_append,zck,List.flatMap_nil,zbq,zal] at h
  rcases h with rfl|h
  ·exact h0.keep _ (b3H v (.inl rfl))
  ·exact h0.nm ok k h
termination_by cntP g
decreasing_by exact a1C hk
theorem a2w (k:Nat):∀ r:List C,Cell.freshs k (r.map Cell.dat)=true
  |[]=>rfl
  |c::r=>by simp[Cell.freshs,Cell.fresh,a2w k r]
def atM (m:ME) (k:List UInt8):Val:=(b43 k m).getD a2f
def a2k (g:Pat) (v:Val):List Val×Bool:=
  bif a0t v&&(a0B (a0w g) v []).1 then ((namesP g).map (atM (a0B (a0w g) v []).2),true) else ([],false)
theorem b6H (g:Pat):a0w (a0w g)=a0w g:=by
  have:=a2b g
  rw[a0w.eq_def (a0w g),this];rfl
theorem b6I (g:Pat):namesP (a0w g)=namesP g:=by unfold namesP;rw[b6H]
theorem c7G (g:Pat) (v:Val) (hg:PSm g) (hv:Sm v):PC zP 32 [Pt g,Vt v] (.tup [VsP (a2k g v).1,Bo (a2k g v).2]):=by
 have hs:=a8O g
 have h1:=b3F g hg
 have h2:=b8v v hv
 rw[show Pt g=T.st (a1d g) from rfl] at h1
 unfold a2k
 cases hz:a0t v<;>rw[hz] at h2
 case false=>
  refine PCB.ob Tryz.func32 Tryz.ntmps32 Tryz.results32 ?_
  repeat'(first|simp only[go_sem,Int.reduceEq]<;>refine nf ?_|refine stp ?_;intro K hK|apply hK;clear hK K|refine stn ?_|(with_reducible first|refine⟨_,h1,?_⟩|refine⟨_,h2,?_⟩)|refine stq ?_|clear hK K)
  all_goals exact lf
 have ht:=a5j (a2b g)
 have h3:=c1E (a0w g) v ht hz []
 have ad:=d1y (a0w g) v [] ht hz hv
 cases hm:(a0B (a0w g) v []).1<;>rw[hm] at h3
 case false=>
  refine PCB.ob Tryz.func32 Tryz.ntmps32 Tryz.results32 ?_
  repeat'(first|simp only[go_sem,Int.reduceEq]<;>refine nf ?_|refine stp ?_;intro K hK|apply hK;clear hK K|refine stn ?_|(with_reducible first|refine⟨_,h1,?_⟩|refine⟨_,h2,?_⟩)|(refine⟨12,_,_,_,a1k.mk 12 h3,rfl,?_⟩)|refine stq ?_|clear hK K)
  all_goals exact lf
 have ab:=c4b (a0w g) hs
 rw[b6I] at ab
 have aj:∀ k∈namesP g,Has (a0B (a0w g) v []).2 k:=fun k hk=>ad.nm hm k ((a2i _).2 k |>.1 hk)
 have aa:=ad.good (show c1F [] from fun k w (h:none=some w)=>by cases h)
 have al:(namesP g).length≤100000000:=by
  have h5:=a1z (a0w g)
  have h6:=a79 (a2b g)
  have h7:=a2a (a0Z (a0w g))
  unfold namesP;omega
 generalize (a0B (a0w g) v []).2=M at*
 generalize namesP g=L at*
 refine PCB.ob Tryz.func32 Tryz.ntmps32 Tryz.results32 ?_
 refine AWP.ghQ ?_
 repeat'(first|simp only[go_sem,Int.reduceEq]<;>refine nf ?_|refine stp ?_;intro K hK|apply hK;clear hK K|refine stn ?_|(with_reducible first|refine⟨_,h1,?_⟩|refine⟨_,h2,?_⟩|refine⟨_,ab,?_⟩)|(refine⟨12,_,_,_,a1k.mk 12 h3,rfl,?_⟩)|refine stq ?_|fail)
 refine xD (xI 7 900 rfl rfl rfl (by simp[Bx.fresh,a2w])) ?_
 refine AWP.len 24 rfl fun u=>?_
 (try rw[lB] at u)
 refine xC (S:=List Val) (L) Sx.encStr (fun k s=>(26,I .i64 (k:Nat))::[(7, .one (.own 900 s.length))]) (fun k s=>[(900, .row 7 (s.map a0c))]) [6,24,25] [12] (fun k s=>Is s ((L.take k).map (atM M))) ([]) (by refine sts ?_;exact Gh.tt []) ?_ ?_ ?_
 ·simp[Is]
 ·intro k s x ak hx ag hb q
  refine sts ?_
  obtain⟨w,hw⟩:=aj x (lP hx)
  obtain⟨ah,ai⟩:=aa x w hw
  have ae:PC zP 76 [.st (a0c w),SsP w.labels] (.st (a0c w)):=b46 w ai (b9d ah)
  rw[a0a w] at ae
  have af:a6u x (b7T M)=some (a0c w):=by rw[b44,hw];rfl
  have am:s.length≤k:=by rw[show s=_ from q,lB,zbb];omega
  repeat'(first|simp only[go_sem,lB,hb,af,Option.getD_some,a0a w,Sx.encStr,b5v]<;>refine nf ?_|refine stp ?_;intro K hK|apply hK;clear hK K|refine stn ?_|(with_reducible first|refine⟨_,ae,?_⟩|refine⟨by omega,Sx.encStr x,ag,?_⟩|(refine⟨(by first|omega|(simp only[lA,lB,zbb,za1,List.length_cons,List.length_nil,za4];omega):_≤_),?_⟩))|refine stq ?_|clear hK K)
  all_goals(rw[a0b ak u])
  all_goals(refine⟨s++[w],?_,Gh.tt [(900,40)]⟩)
  all_goals(rw[Is,zb8,hx,zbn,← show s=_ from q];simp[atM,hw])
 ·intro s hb q
  refine sts ?_
  rw[Is,zbh] at q
  repeat'(first|simp only[go_sem,lB,hb]<;>refine nf ?_|refine stp ?_;intro K hK|apply hK;clear hK K|refine stn ?_|clear hK K)
  refine⟨_,Gh.fz 900,?_⟩
  simp only[go_sem,lB]
  all_goals(first|exact fun _ h=>absurd h zaf|refine a0m ?_)
  all_goals(rw[show s=_ from q])
def a2F:List KeyD→Val→Option (List Val)
 |[],_=>some []
 |k::ks,v=>match a3o v k with
  |some w=>(a2F ks v).map (w:: ·)
  |none=>none
mutual
def a2A:Pat→Val→Option ME
 |⟨kind,num,text,kids,keys⟩,v=>
  bif decide (kind=1) then some [] else
  bif decide (kind=2) then some [(text,v)] else
  bif decide (kind=10) then (d1z kids v).map ((text,v):: ·) else
  bif decide (kind=3) then (bif decide (v.kind=1)&&decide (v.num=num) then some [] else none) else
  bif decide (kind=4) then (bif decide (v.kind=2)&&decide (v.text=text) then some [] else none) else
  bif decide (kind=5) then (bif decide (v.kind=3)&&decide (v.text=text) then some [] else none) else
  bif decide (kind=6) then (bif decide (v.kind=5) then some [] else none) else
  bif decide (kind=7) then (bif decide (v.kind=6)&&decide (kids.length=v.kids.length) then a3D kids v.kids else none) else
  bif decide (kind=8) then (bif decide (v.kind=7)&&decide (kids.length=v.kids.length) then a3D kids v.kids else none) else
  bif decide (v.kind=8) then (match a2F keys v with|some ws=>a3D kids ws|none=>none) else none
def d1z:List Pat→Val→Option ME
  |[],_=>none
  |g::_,v=>a2A g v
def a3D:List Pat→List Val→Option ME
 |g::l,v::vs=>match a2A g v with
  |some a=>(a3D l vs).map (a++ ·)
  |none=>none
 |_,_=>some []
end
theorem a1I (g:Pat) (v:Val):a2A g v=bif decide (g.kind=1) then some [] else
  bif decide (g.kind=2) then some [(g.text,v)] else
  bif decide (g.kind=10) then (d1z g.kids v).map ((g.text,v):: ·) else
  bif decide (g.kind=3) then (bif decide (v.kind=1)&&decide (v.num=g.num) then some [] else none) else
  bif decide (g.kind=4) then (bif decide (v.kind=2)&&decide (v.text=g.text) then some [] else none) else
  bif decide (g.kind=5) then (bif decide (v.kind=3)&&decide (v.text=g.text) then some [] else none) else
  bif decide (g.kind=6) then (bif decide (v.kind=5) then some [] else none) else
  bif decide (g.kind=7) then (bif decide (v.kind=6)&&decide (g.kids.length=v.kids.length) then a3D g.kids v.kids else none) else
  bif decide (g.kind=8) then (bif decide (v.kind=7)&&decide (g.kids.length=v.kids.length) then a3D g.kids v.kids else none) else
  bif decide (v.kind=8) then (match a2F g.keys v with|some ws=>a3D g.kids ws|none=>none) else none:=by cases g;rw[a2A]
theorem a3W (vs:List Val):a3D [] vs=some []:=by cases vs<;>rfl
theorem a8Q {l:List Pat} {vs:List Val} {k:Nat} {g:Pat} {v:Val} (hg:l[k]?= some g) (hv:vs[k]?= some v):
  a3D (l.drop k) (vs.drop k)=match a2A g v with|some a=>(a3D (l.drop (k+1)) (vs.drop (k+1))).map (a++ ·)|none=>none:=by
 obtain⟨h1,h2⟩:=zak.1 hg
 obtain⟨h3,h4⟩:=zak.1 hv
 rw[za8 h1,za8 h3,h2,h4,a3D]
 try(cases a2A g v<;>rfl)
theorem b9e {ks:List KeyD} {v:Val} {i:Nat} {k:KeyD} (hk:ks[i]?= some k):a2F (ks.drop i) v=match a3o v k with|some w=>(a2F (ks.drop (i+1)) v).map (w:: ·)|none=>none:=by
  obtain⟨h1,h2⟩:=zak.1 hk
  rw[za8 h1,h2,a2F]
  try(cases a3o v k<;>rfl)
theorem a5N:∀ (ks:List KeyD) (v:Val) (ws:List Val),a2F ks v=some ws→ws.length=ks.length∧∀ w∈ws,w∈v.kids
 |[],v,ws,h=>by cases h;exact⟨rfl,fun w hw=>by cases hw⟩
 |k::ks,v,ws,h=>by
  rw[a2F] at h
  cases hv:a3o v k with
  |none=>rw[hv] at h;cases h
  |some w=>
   rw[hv] at h
   simp only[zcm] at h
   obtain⟨us,hu,rfl⟩:=h
   obtain⟨h1,h2⟩:=a5N ks v us hu
   refine⟨by simp[h1],fun x hx=>?_⟩
   rcases zal.1 hx with rfl|hx
   ·exact b1n hv
   ·exact h2 x hx
theorem a7E:∀ (l:List Pat) (vs:List Val) (a:ME),(∀ g∈l,∀ w∈vs,∀ a,a2A g w=some a→a.map (·.1)=a0Z g)→l.length=vs.length→a3D l vs=some a→a.map (·.1)=l.flatMap a0Z
 |[],vs,a,_,_,h=>by rw[a3W] at h;cases h;rfl
 |g::l,[],a,_,hlen,_=>by simp at hlen
 |g::l,v::vs,a,hn,hlen,h=>by
  rw[a3D] at h
  cases hr:a2A g v with
  |none=>rw[hr] at h;cases h
  |some b=>
   rw[hr] at h
   simp only[zcm] at h
   obtain⟨c,hc,rfl⟩:=h
   rw[zbn,hn g (by simp) v (by simp) b hr,a7E l vs c (fun g hg w hw=>hn g (zas _ hg) w (zas _ hw)) (by simpa using hlen) hc,zck]
theorem a3n (g:Pat) (v:Val) (hg:a04 g=true) (a:ME) (h:a2A g v=some a):a.map (·.1)=a0Z g:=by
 have ih:∀ k∈g.kids,∀ w:Val,∀ a,a2A k w=some a→a.map (·.1)=a0Z k:=fun k hk w a h=>a3n k w (a2c hg hk) a h
 have q:=a90 hg
 rw[a7B]
 rw[a1I] at h
 rcases a9R q with hk|hk|hk|hk|hk|hk|hk|hk|⟨hk,ab⟩|⟨hk,k0,u⟩
 ·rw[hk] at h;rw[hk,a3a q (by rw[hk];rfl)]
  have h':some []=some a:=h
  cases h';rfl
 ·rw[hk] at h;rw[hk,a3a q (by rw[hk];rfl)]
  have h':some [(g.text,v)]=some a:=h
  cases h';rfl
 ·rw[hk] at h;rw[hk,a3a q (by rw[hk];rfl)]
  have h':(bif decide (v.kind=1)&&decide (v.num=g.num) then some [] else none)=some a:=h
  cases hz:decide (v.kind=1)&&decide (v.num=g.num)<;>rw[hz] at h'<;>cases h';rfl
 ·rw[hk] at h;rw[hk,a3a q (by rw[hk];rfl)]
  have h':(bif decide (v.kind=2)&&decide (v.text=g.text) then some [] else none)=some a:=h
  cases hz:decide (v.kind=2)&&decide (v.text=g.text)<;>rw[hz] at h'<;>cases h';rfl
 ·rw[hk] at h;rw[hk,a3a q (by rw[hk];rfl)]
  have h':(bif decide (v.kind=3)&&decide (v.text=g.text) then some [] else none)=some a:=h
  cases hz:decide (v.kind=3)&&decide (v.text=g.text)<;>rw[hz] at h'<;>cases h';rfl
 ·rw[hk] at h;rw[hk,a3a q (by rw[hk];rfl)]
  have h':(bif decide (v.kind=5) then some [] else none)=some a:=h
  cases hz:decide (v.kind=5)<;>rw[hz] at h'<;>cases h';rfl
 ·rw[hk] at h;rw[hk]
  have h':(bif decide (v.kind=6)&&decide (g.kids.length=v.kids.length) then a3D g.kids v.kids else none)=some a:=h
  cases hz:decide (v.kind=6)&&decide (g.kids.length=v.kids.length)<;>rw[hz] at h'
  ·cases h'
  ·rw[zag,zan,zan] at hz
   exact a7E g.kids v.kids a (fun g hg w hw=>ih g hg w) hz.2 h'
 ·rw[hk] at h;rw[hk]
  have h':(bif decide (v.kind=7)&&decide (g.kids.length=v.kids.length) then a3D g.kids v.kids else none)=some a:=h
  cases hz:decide (v.kind=7)&&decide (g.kids.length=v.kids.length)<;>rw[hz] at h'
  ·cases h'
  ·rw[zag,zan,zan] at hz
   exact a7E g.kids v.kids a (fun g hg w hw=>ih g hg w) hz.2 h'
 ·rw[hk] at h;rw[hk]
  have h':(bif decide (v.kind=8) then (match a2F g.keys v with|some ws=>a3D g.kids ws|none=>none) else none)=some a:=h
  cases hz:decide (v.kind=8)<;>rw[hz] at h'
  ·cases h'
  ·cases hl:a2F g.keys v with
   |none=>rw[hl] at h';cases h'
   |some ws=>
    rw[hl] at h'
    have aa:=a5N _ _ _ hl
    exact a7E g.kids ws a (fun g hg w hw=>ih g hg w) (by omega) h'
 ·rw[hk,u] at h;rw[hk,u]
  have h':(a2A k0 v).map ((g.text,v):: ·)=some a:=h
  simp only[zcm] at h'
  obtain⟨b,hb,rfl⟩:=h'
  have:=ih k0 (by rw[u];simp) v b hb
  simp[this,b3i]
termination_by cntP g
decreasing_by exact a1C hk
def b9f (m:ME):List (List C):=m.map fun p=>Sx.encStr p.1
def b9g (m:ME):List (List C):=m.map fun p=>a0c p.2
theorem b0i (a b:ME):b9f a++b9f b=b9f (a++b):=by unfold b9f;rw[zbn]
theorem b0j (a b:ME):b9g a++b9g b=b9g (a++b):=by unfold b9g;rw[zbn]
theorem a0U (a:ME):(b9f a).length=a.length:=by unfold b9f;rw[lB]
theorem a0V (a:ME):(b9g a).length=a.length:=by unfold b9g;rw[lB]
def b30 (o:Option ME):T:= .tup [.one (.dat (.sl 1 (b9f (o.getD [])))), .one (.dat (.sl 7 (b9g (o.getD [])))),Bo o.isSome]
theorem a65 (l:ME):b30 (some l)= .tup [.one (.dat (.sl 1 (b9f l))), .one (.dat (.sl 7 (b9g l))),Bo true]:=rfl
theorem a5O:b30 none= .tup [.one (.dat (.sl 1 [])), .one (.dat (.sl 7 [])),Bo false]:=rfl
theorem c5t (b:Bool):b30 (bif b then some [] else none)= .tup [.one (.dat (.sl 1 [])), .one (.dat (.sl 7 [])),Bo b]:=by cases b<;>rfl
theorem b9h {v:Val} (h:a0t v=true) (hk:v.kind=7):v.kids.length=2:=by
  rw[a2v,zag] at h
  have h1:=h.1
  unfold a0K at h1
  simp only[zag] at h1
  have h2:=h1.2.2.2
  unfold a2R at h2
  simp only[hk,Int.reduceEq,zac,zad,zaa,zab,zag,zan] at h2
  omega
theorem b6J {g:Pat} (h:vP g=true) (hk:g.kind=8):g.kids.length=2:=by
  have hb:a4l g=true:=by unfold vP at h;simp only[zag] at h;exact h.2
  unfold a4l at hb
  simp only[hk,Int.reduceEq,zac,zad,zaj,zaa,zab,zan] at hb
  omega
def a4d:ME→ME→ME
  |m,[]=>m
  |m,p::l=>a4d (b1H p.1 p.2 m) l
theorem a9v:∀ (a m b:ME),a4d m (a++b)=a4d (a4d m a) b
  |[],m,b=>rfl
  |p::a,m,b=>by rw[List.cons_append,a4d,a4d,a9v a]
theorem a8a (g:Pat) (l:List Pat) (v:Val) (vs:List Val) (m:ME):a2j (g::l) (v::vs) m=bif (a0B g v m).1 then a2j l vs (a0B g v m).2 else (false,(a0B g v m).2):=by rw[a2j]
theorem a4X (k:KeyD) (ks:List KeyD) (g:Pat) (l:List Pat) (v:Val) (m:ME):a13 (k::ks) (g::l) v m=match a3o v k with
  |some w=>bif (a0B g w m).1 then a13 ks l v (a0B g w m).2 else (false,(a0B g w m).2)
  |none=>(false,m):=by rw[a13];all_goals(cases a3o v k<;>rfl)
def b6K (r:Option ME) (f:ME→MR):Prop:=(∀ l,r=some l→∀ m,f m=(true,a4d m l))∧(r=none→∀ m,(f m).1=false)
theorem c7H:∀ (l:List Pat) (vs:List Val),l.length=vs.length→(∀ g∈l,∀ w∈vs,b6K (a2A g w) (a0B g w))→b6K (a3D l vs) (a2j l vs)
 |[],vs,_,_=>⟨fun l h m=>by rw[a3W] at h;cases h;rw[a9t];rfl,fun h=>by rw[a3W] at h;cases h⟩
 |g::l,[],hlen,_=>by simp at hlen
 |g::l,v::vs,hlen,h=>by
  obtain⟨a1,a2⟩:=h g (by simp) v (by simp)
  obtain⟨b1,b2⟩:=c7H l vs (by simpa using hlen) (fun g hg w hw=>h g (zas _ hg) w (zas _ hw))
  have hR:a3D (g::l) (v::vs)=match a2A g v with|some a=>(a3D l vs).map (a++ ·)|none=>none:=by rw[a3D];all_goals(cases a2A g v<;>rfl)
  rw[hR]
  cases hr:a2A g v with
  |none=>exact⟨fun l h=>(by cases h),fun _ m=>by rw[a8a,a2 hr m];rfl⟩
  |some a=>
   cases hl:a3D l vs with
   |none=>exact⟨fun l h=>(by cases h),fun _ m=>by rw[a8a,a1 a hr m];exact b2 hl _⟩
   |some b=>
    refine⟨fun l h m=>?_,fun h=>by cases h⟩
    cases h
    rw[a8a,a1 a hr m]
    exact(b1 b hl _).trans (by rw[a9v])
theorem c91:∀ (ks:List KeyD) (l:List Pat) (v:Val),ks.length=l.length→(∀ g∈l,∀ w∈v.kids,b6K (a2A g w) (a0B g w))→b6K (match a2F ks v with|some ws=>a3D l ws|none=>none) (a13 ks l v)
 |[],l,v,hlen,_=>by
  have:l=[]:=zbk.1 (by simpa using hlen.symm)
  subst this
  exact⟨fun l h m=>(by cases h;rfl),fun h=>by cases h⟩
 |k::ks,[],v,hlen,_=>by simp at hlen
 |k::ks,g::l,v,hlen,h=>by
  have h2:=c91 ks l v (by simpa using hlen) (fun g hg w hw=>h g (zas _ hg) w hw)
  have hL:a2F (k::ks) v=match a3o v k with|some w=>(a2F ks v).map (w:: ·)|none=>none:=by rw[a2F];all_goals(cases a3o v k<;>rfl)
  rw[hL]
  cases hv:a3o v k with
  |none=>exact⟨fun l h=>(by cases h),fun _ m=>by rw[a4X,hv]⟩
  |some w=>
   obtain⟨a1,a2⟩:=h g (by simp) w (b1n hv)
   cases hl:a2F ks v with
   |none=>
    rw[hl] at h2
    refine⟨fun l h=>(by cases h),fun _ m=>?_⟩
    rw[a4X,hv]
    show (bif (a0B g w m).1 then a13 ks l v (a0B g w m).2 else (false,(a0B g w m).2)).1=false
    cases (a0B g w m).1
    ·rfl
    ·exact h2.2 rfl _
   |some ws=>
    rw[hl] at h2
    obtain⟨b1,b2⟩:b6K (a3D l ws) (a13 ks l v):=h2
    show b6K (a3D (g::l) (w::ws)) (a13 (k::ks) (g::l) v)
    have hR:a3D (g::l) (w::ws)=match a2A g w with|some a=>(a3D l ws).map (a++ ·)|none=>none:=by rw[a3D];all_goals(cases a2A g w<;>rfl)
    rw[hR]
    cases hr:a2A g w with
    |none=>exact⟨fun l h=>(by cases h),fun _ m=>by rw[a4X,hv];show (bif (a0B g w m).1 then a13 ks l v (a0B g w m).2 else (false,(a0B g w m).2)).1=false;rw[a2 hr m];rfl⟩
    |some a=>
     cases hb:a3D l ws with
     |none=>exact⟨fun l h=>(by cases h),fun _ m=>by rw[a4X,hv];show (bif (a0B g w m).1 then a13 ks l v (a0B g w m).2 else (false,(a0B g w m).2)).1=false;rw[a1 a hr m];exact b2 hb _⟩
     |some b=>
      refine⟨fun l h m=>?_,fun h=>by cases h⟩
      cases h
      rw[a4X,hv]
      show (bif (a0B g w m).1 then a13 ks l v (a0B g w m).2 else (false,(a0B g w m).2))=(true,a4d m (a++b))
      rw[a1 a hr m]
      exact(b1 b hb _).trans (by rw[a9v])
theorem c4c (b:Bool):b6K (bif b then some [] else none) (fun m=>(b,m)):=by
  cases b
  · exact⟨fun l h=>(by cases h),fun _ m=>rfl⟩
  · exact⟨fun l h m=>(by cases h;rfl),fun h=>by cases h⟩
theorem b0k (f:ME→MR) (h:∀ m,(f m).1=false):b6K none f:=⟨fun l h=>(by cases h),fun _ m=>h m⟩
theorem b3I (a:ME) (f:ME→MR) (h:∀ m,f m=(true,a4d m a)):b6K (some a) f:=⟨fun l e m=>(by cases e;exact h m),fun h=>by cases h⟩
theorem c92 (g:Pat) (v:Val) (hg:a04 g=true) (hv:a0t v=true):b6K (a2A g v) (a0B g v):=by
 have ih:∀ k∈g.kids,∀ w:Val,a0t w=true→b6K (a2A k w) (a0B k w):=fun k hk w hw=>c92 k w (a2c hg hk) hw
 have hf:a0B g v=fun m=>a0B g v m:=rfl
 rw[hf]
 simp only[a3C]
 rw[a1I]
 rcases a9R (a90 hg) with hk|hk|hk|hk|hk|hk|hk|hk|⟨hk,u⟩|⟨hk,k0,q⟩
 ·rw[hk];exact b3I [] _ fun m=>rfl
 ·rw[hk];exact b3I [(g.text,v)] _ fun m=>rfl
 ·rw[hk];exact c4c _
 ·rw[hk];exact c4c _
 ·rw[hk];exact c4c _
 ·rw[hk];exact c4c _
 ·rw[hk]
  show b6K (bif decide (v.kind=6)&&decide (g.kids.length=v.kids.length) then a3D g.kids v.kids else none) (fun m=>bif decide (v.kind=6)&&decide (g.kids.length=v.kids.length) then a2j g.kids v.kids m else (false,m))
  cases hz:decide (v.kind=6)&&decide (g.kids.length=v.kids.length)
  ·exact b0k _ fun m=>rfl
  ·rw[zag,zan,zan] at hz
   exact c7H g.kids v.kids hz.2 fun k hk w hw=>ih k hk w (a1N hv hw)
 ·rw[hk]
  show b6K (bif decide (v.kind=7)&&decide (g.kids.length=v.kids.length) then a3D g.kids v.kids else none) (fun m=>bif decide (v.kind=7)&&decide (g.kids.length=v.kids.length) then a2j g.kids v.kids m else (false,m))
  cases hz:decide (v.kind=7)&&decide (g.kids.length=v.kids.length)
  ·exact b0k _ fun m=>rfl
  ·rw[zag,zan,zan] at hz
   exact c7H g.kids v.kids hz.2 fun k hk w hw=>ih k hk w (a1N hv hw)
 ·rw[hk]
  show b6K (bif decide (v.kind=8) then (match a2F g.keys v with|some ws=>a3D g.kids ws|none=>none) else none) (fun m=>bif decide (v.kind=8) then a13 g.keys g.kids v m else (false,m))
  cases hz:decide (v.kind=8)
  ·exact b0k _ fun m=>rfl
  ·exact c91 g.keys g.kids v u fun k hk w hw=>ih k hk w (a1N hv hw)
 ·rw[hk,q]
  have h0:=ih k0 (by rw[q];simp) v hv
  show b6K ((a2A k0 v).map ((g.text,v):: ·)) (fun m=>a0B k0 v (b1H g.text v m))
  cases hr:a2A k0 v with
  |none=>exact b0k _ fun m=>h0.2 hr _
  |some a=>exact b3I _ _ fun m=>h0.1 a hr _
termination_by cntP g
decreasing_by exact a1C hk
def a7K (l:ME) (n:List UInt8):List Val:=l.flatMap fun p=>bif decide (p.1=n) then [p.2] else []
theorem b7X:∀ (l m:ME) (n:List UInt8),n∉l.map (·.1)→b43 n (a4d m l)=b43 n m
 |[],m,n,_=>rfl
 |p::l,m,n,h=>by
  simp only[lE,zal,not_or] at h
  rw[a4d,b7X l _ n h.2,a8P,za5 (fun e=>h.1 e.symm)]
theorem b3J:∀ (l m:ME) (n:List UInt8) (w:Val),(l.map (·.1)).Nodup→(n,w)∈l→b43 n (a4d m l)=some w
 |p::l,m,n,w,hn,h=>by
  simp only[lE,zbr] at hn
  rw[a4d]
  rcases zal.1 h with rfl|h
  ·rw[b7X l _ n hn.1,a8P,zaz rfl]
  ·exact b3J l _ n w hn.2 h
theorem b48:∀ (l:ME) (n:List UInt8),n∉l.map (·.1)→a7K l n=[]
 |[],n,_=>rfl
 |p::l,n,h=>by
  simp only[lE,zal,not_or] at h
  have ih:=b48 l n h.2
  unfold a7K at ih ⊢
  rw[zck,ih,zc6 (fun e=>h.1 e.symm)];rfl
theorem b7Y:∀ (l:ME) (n:List UInt8) (w:Val),(l.map (·.1)).Nodup→(n,w)∈l→a7K l n=[w]
 |p::l,n,w,hn,h=>by
  simp only[lE,zbr] at hn
  rcases zal.1 h with rfl|h
  ·have ih:=b48 l n hn.1
   unfold a7K at ih ⊢
   rw[zck,ih,zbo rfl];rfl
  ·have ih:=b7Y l n w hn.2 h
   have q:¬ p.1=n:=fun e=>hn.1 (by rw[e];exact za3.2 ⟨_,h,rfl⟩)
   unfold a7K at ih ⊢
   rw[zck,ih,zc6 q];rfl
theorem c1G (l:ME) (hn:(l.map (·.1)).Nodup):∀ L:List (List UInt8),(∀ n∈L,n∈l.map (·.1))→L.flatMap (a7K l)=L.map (atM (a4d [] l))
 |[],_=>rfl
 |n::L,h=>by
  obtain⟨p,hp,q⟩:=za3.1 (h n (by simp))
  have hm:(n,p.2)∈l:=by rw[← q];exact hp
  rw[zck,lE,c1G l hn L (fun n hn=>h n (zas _ hn)),b7Y l n p.2 hn hm,atM,b3J l [] n p.2 hn hm];rfl
theorem b2H {g:Pat} (h:okP g=true):(a0Z g).Nodup:=by
  have h1:=a5k (a0Z g) (b6E h)
  have h2:=List.mergeSort_perm (a0Z g) (fun x y=>decide (x≤y))
  rw[h1] at h2
  have h3:(a0M (a0Z g)).Nodup:=(a2i _).1.imp fun q e=>by subst e;exact absurd q (zdx _)
  exact h2.nodup_iff.1 h3
theorem a9w (g:Pat) (v:Val) (hv:a0t v=true):a2k g v=match a2A (a0w g) v with
  |some l=>((namesP g).flatMap (a7K l),true)
  |none=>([],false):=by
 have q:=a2b g
 have h:=c92 (a0w g) v (a5j q) hv
 unfold a2k
 rw[hv,zae]
 cases hr:a2A (a0w g) v with
 |none=>
  have h':(a0B (a0w g) v []).1=false:=h.2 hr []
  rw[h'];rfl
 |some l=>
  have h':a0B (a0w g) v []=(true,a4d [] l):=h.1 l hr []
  have hn:=a3n (a0w g) v (a5j q) l hr
  rw[h']
  show ((namesP g).map (atM (a4d [] l)),true)=((namesP g).flatMap (a7K l),true)
  rw[c1G l (by rw[hn];exact b2H q) (namesP g) (fun n h=>by rw[hn];exact((a2i _).2 n).1 h)]
theorem a67:∀ l:List Pat,l.length≤a10 l
  |[]=>by simp[a10]
  |g::l=>by have:=a67 l;have:=a19 g;simp only[a10,List.length_cons];omega
theorem c93 (g:Pat) (v:Val) (hs:PSm g) (hg:a04 g=true) (hv:a0t v=true) (ih:∀ k∈g.kids,∀ w:Val,a0t w=true→PC zP 51 [.st (a1d k), .st (a0c w)] (b30 (a2A k w))) (hk:g.kind=9∧g.keys.length=g.kids.length):PC zP 51 [Pt g,Vt v] (b30 (a2A g v)):=by
 have az:=a90 hg
 have a7:=a19 g
 unfold PSm at hs
 obtain⟨hk,a6⟩:=hk
 cases hz:decide (v.kind=8)
 ·
  rw[show a2A g v=none from by rw[a1I,hk];show (bif decide (v.kind=8) then (match a2F g.keys v with|some ws=>a3D g.kids ws|none=>none) else none)=none;rw[hz];rfl]
  rw[a5O]
  refine PCB.ob Tryz.func51 Tryz.ntmps51 Tryz.results51 ?_
  repeat'(first|simp only[go_sem,a0f g,a0a v,hk,hz,Int.reduceEq,lB]<;>refine nf ?_|refine stp ?_;intro K hK|apply hK;clear hK K|refine stn ?_|fail)
  refine xE 2 4 rfl rfl fun aa=>?_
  (try rw[lB] at aa)
  refine xC (S:=Unit) (g.keys) a0i (fun k s=>(10,I .i64 (k:Nat))::[(9, .one (.dat (.nil 7)))]) (fun k s=>[]) [2,3,7,8] [2,3] (fun k s=>True) (()) (by simp only[go_sem,a0f g,a0a v];exact Gh.tt []) ?_ ?_ ?_
  ·trivial
  ·intro k s x af hx ab hb q
   refine sts ?_
   have u:=c0D v.keys x
   repeat'(first|simp only[go_sem,a0f g,a0a v,hz,lB,hb]<;>refine nf ?_|refine stp ?_;intro K hK|apply hK;clear hK K|refine stn ?_|(with_reducible first|refine⟨_,u,?_⟩|refine⟨by omega,a0i x,ab,?_⟩)|(refine a0J ?_;intro K hK)|clear hK K)
   all_goals(first|exact fun _ h=>absurd h zaf|refine a0m ?_)
   all_goals rfl
  ·intro s hb q
   refine sts ?_
   repeat'(first|simp only[go_sem,a0f g,a0a v,hz,lB,hb]<;>refine nf ?_|refine stp ?_;intro K hK|apply hK;clear hK K|refine stn ?_|clear hK K)
   all_goals(first|exact fun _ h=>absurd h zaf|refine a0m ?_)
   all_goals rfl
 have a1:=b45 hv (of_decide_eq_true hz)
 have hm:a2A g v=match a2F g.keys v with|some ws=>a3D g.kids ws|none=>none:=by
  rw[a1I,hk];show (bif decide (v.kind=8) then (match a2F g.keys v with|some ws=>a3D g.kids ws|none=>none) else none)=_;rw[hz];rfl
 refine PCB.ob Tryz.func51 Tryz.ntmps51 Tryz.results51 ?_
 refine AWP.ghQ ?_
 repeat'(first|simp only[go_sem,a0f g,a0a v,hk,hz,Int.reduceEq,lB]<;>refine nf ?_|refine stp ?_;intro K hK|apply hK;clear hK K|refine stn ?_|fail)
 refine xD (xI 9 903 rfl rfl rfl (by first|rfl|simp[Bx.fresh,a2w])) ?_
 refine xE 2 4 rfl rfl fun aa=>?_
 (try rw[lB] at aa)
 refine xC (S:=List Val) (g.keys) a0i (fun k s=>(10,I .i64 (k:Nat))::[(9, .one (.own 903 s.length))]) (fun k s=>[(903, .row 7 (s.map a0c))]) [2,3,7,8] [2,3] (fun k s=>a2F g.keys v=(a2F (g.keys.drop k) v).map (s++ ·)∧s.length≤k) ([]) (by simp only[go_sem,a0f g,a0a v];exact Gh.tt []) ?_ ?_ ?_
 ·exact⟨by simp,by simp⟩
 ·rintro k s x af hx ab hb ⟨q,ak⟩
  refine sts ?_
  have u:=c0D v.keys x
  have ax:g.keys.length≤100000000:=by have:=a67 g.kids;omega
  rw[b9e hx] at q
  rcases a9i (fun y=>a1t x y) v.keys 0 with h|⟨n,h,_,h2⟩
  ·have ah:a3o v x=none:=by unfold a3o;rw[h];rfl
   rw[ah] at q
   rw[h] at u
   repeat'(first|simp only[go_sem,a0f g,a0a v,hz,lB,hb,Int.reduceLT]<;>refine nf ?_|refine stp ?_;intro K hK|apply hK;clear hK K|refine stn ?_|(with_reducible first|refine⟨_,u,?_⟩|refine⟨by omega,a0i x,ab,?_⟩)|(refine a0J ?_;intro K hK)|clear hK K)
   all_goals(refine⟨_,Gh.refl _,?_⟩;simp only[go_sem];refine a0m ?_)
   all_goals(rw[hm,q];rfl)
  ·obtain⟨w,hw,ae,_,_⟩:=a1A (enc:=a0c) (show n<v.kids.length by omega)
   have ag:decide ((n:Int)<0)=false:=by simp only[zah];omega
   have ah:a3o v x=some w:=by unfold a3o;rw[h,ag,zab,Int.toNat_natCast,hw]
   rw[ah] at q
   rw[h] at u
   repeat'(first|simp only[go_sem,a0f g,a0a v,hz,lB,hb,ag,a4b]<;>refine nf ?_|refine stp ?_;intro K hK|apply hK;clear hK K|refine stn ?_|(with_reducible first|refine⟨_,u,?_⟩|refine⟨by omega,a0i x,ab,?_⟩|refine⟨by omega,a0c w,ae,?_⟩|(refine⟨(by first|omega|(simp only[lA,lB,zbb,za1,List.length_cons,List.length_nil,za4];omega):_≤_),?_⟩))|(refine a0J ?_;intro K hK)|refine stq ?_|clear hK K)
   all_goals(rw[a0b af aa])
   all_goals(refine⟨s++[w],?_,Gh.tt [(903,133)]⟩)
   all_goals(refine⟨?_,by simp;omega⟩;rw[q];simp only[zdk];congr 1;funext z;simp)
 rintro ws hb ⟨ai,aj⟩
 refine sts ?_
 have al:a2F g.keys v=some ws:=by rw[ai,lL];simp[a2F]
 obtain⟨av,ao⟩:=a5N _ _ _ al
 have ap:ws.length=g.kids.length:=by omega
 have aq:∀ w∈ws,a0t w=true:=fun w hw=>a1N hv (ao w hw)
 have am:a2A g v=(a3D g.kids ws).map ([]++ ·):=by rw[hm,al];simp
 clear aj
 refine xD (Gh.fz 903) ?_
 simp only[go_sem,lB]
 repeat'(first|simp only[go_sem,a0f g,a0a v,hz,lB,hb]<;>refine nf ?_|refine stp ?_;intro K hK|apply hK;clear hK K|refine stn ?_|clear hK K)
 refine xD (xI 7 901 rfl rfl rfl (by first|rfl|simp[Bx.fresh,a2w])) ?_
 refine xD (xI 8 902 rfl rfl rfl (by first|rfl|simp[Bx.fresh,a2w])) ?_
 refine xE 2 3 rfl rfl fun ad=>?_
 (try rw[lB] at ad)
 refine xC (S:=ME) (g.kids) a1d (fun k s=>(12,I .i64 (k:Nat))::[(7, .one (.own 901 s.length)),(8, .one (.own 902 s.length)),(9, .one (.dat (.sl 7 (ws.map a0c))))]) (fun k s=>[(901, .row 1 (b9f s)),(902, .row 7 (b9g s))]) [2] [2] (fun k s=>a2A g v=(a3D (g.kids.drop k) (ws.drop k)).map (s++ ·)∧s.length≤1+a10 (g.kids.take k)) ([]) (by simp only[go_sem,a0f g];exact Gh.tt []) ?_ ?_ ?_
 ·exact⟨am,by simp⟩
 ·rintro k s x af hx ab hb ⟨q,ak⟩
  refine sts ?_
  obtain⟨w,hw,ae,_,_⟩:=a1A (enc:=a0c) (l:=ws) (k:=k) (by have:=ap;omega)
  have an:x∈g.kids:=lP hx
  have u:=ih x an w (aq w (lP hw))
  have au:=a1V hx
  have a2:=a21 g.kids (k+1)
  rw[a8Q hx hw] at q
  cases hr:a2A x w with
  |none=>
   rw[hr] at q u
   rw[a5O] at u
   repeat'(first|simp only[go_sem,a0f g,lB,hb]<;>refine nf ?_|refine stp ?_;intro K hK|apply hK;clear hK K|refine stn ?_|(with_reducible first|refine⟨_,u,?_⟩|refine⟨by omega,a1d x,ab,?_⟩|refine⟨by omega,a0c w,ae,?_⟩)|(refine a0J ?_;intro K hK)|clear hK K)
   all_goals(refine⟨_,Gh.refl _,?_⟩;simp only[go_sem];refine a0m ?_)
   all_goals(rw[q];rfl)
  |some a=>
   have ar:=a3n x w (a2c hg an) a hr
   have aw:a.length≤cntP x:=by have:=congrArg List.length ar;rw[lB] at this;have:=a1z x;omega
   rw[hr] at q u
   rw[a65] at u
   repeat'(first|simp only[go_sem,a0f g,lB,a0U,a0V,b0i,b0j,hb]<;>refine nf ?_|refine stp ?_;intro K hK|apply hK;clear hK K|refine stn ?_|(with_reducible first|refine⟨_,u,?_⟩|refine⟨by omega,a1d x,ab,?_⟩|refine⟨by omega,a0c w,ae,?_⟩|refine⟨(by omega:_≤_),?_⟩)|(refine a0J ?_;intro K hK)|clear hK K)
   all_goals(rw[a0b af ad])
   all_goals(refine⟨s++a,?_,Gh.tt [(901,162),(902,165)]⟩)
   all_goals(refine⟨?_,by rw[lA];omega⟩;rw[q];simp only[zdk];congr 1;funext z;simp)
 ·rintro s hb ⟨q,ak⟩
  refine sts ?_
  rw[lL,a3W] at q
  repeat'(first|simp only[go_sem,a0f g,lB,hb]<;>refine nf ?_|refine stp ?_;intro K hK|apply hK;clear hK K|refine stn ?_|clear hK K)
  refine GhQ.step (xH 901 rfl rfl (by simp only[go_sem,a0U,a0V]) (by simp only[go_sem,a0U,a0V])) ?_
  simp only[go_sem,a0U,a0V]
  refine⟨_,xH 902 rfl rfl (by simp only[go_sem,a0U,a0V]) (by simp only[go_sem,a0U,a0V]),?_⟩
  simp only[go_sem,a0U,a0V]
  all_goals(first|exact fun _ h=>absurd h zaf|refine a0m ?_)
  all_goals(rw[q];simp[b30])
def b49 (l:List Val):Val:=l.foldr a1x a0W
theorem b6L {l:List Val} {k:Nat} {x:Val} (hx:l[k]?= some x):b49 (l.drop k)=a1x x (b49 (l.drop (k+1))):=by
  obtain⟨h1,h2⟩:=zak.1 hx
  rw[za8 h1,h2];rfl
theorem b9i (l:List Val) (hl:l.length≤1000000):PC zP 33 [VsP l] (Vt (b49 l)):=by
 have ae:IntKind.i64.wrap ((l.length:Int)-1)=(l.length:Int)-1:=by rw[w64 (by omega)]
 refine PCB.ob Tryz.func33 Tryz.ntmps33 Tryz.results33 ?_
 repeat'(first|simp only[go_sem,lB,ae]<;>refine nf ?_|refine stp ?_;intro K hK|apply hK;clear hK K|refine stn ?_|(with_reducible refine⟨_,a1r,?_⟩)|refine stq ?_|fail)
 refine AWP.loopF (X:=Int×Val) (fun x=>[(4,I .i64 x.1)]) (fun x=>[(3, .cells ((a0c x.2).map Cell.dat))]) [0,2,3] [2] (fun x=>∃ k:Nat,x.1=(k:Int)-1∧k≤l.length∧x.2=b49 (l.drop k)) (fun x=>(x.1+1).toNat) (((l.length:Int)-1,a0W)) (by refine sts ?_;exact Gh.tt []) ?_ ?_
 ·exact⟨l.length,rfl,zax _,by simp[b49]⟩
 rintro⟨i,q⟩ ⟨k,hi,hk,ha⟩
 simp only at hi ha
 refine sts ?_
 cases k with
 |zero=>
  have u:i= -1:=by omega
  subst u
  repeat'(first|simp only[go_sem,lB,Int.reduceLE,Int.reduceNeg]<;>refine nf ?_|refine stp ?_;intro K hK|apply hK;clear hK K|refine stn ?_|clear hK K)
  all_goals(first|exact fun _ h=>absurd h zaf|refine a0m ?_)
  all_goals(rw[ha];rfl)
 |succ m=>
  have u:i=(m:Int):=by omega
  subst u
  obtain⟨x,hx,aa,_,_⟩:=a1A (enc:=a0c) (show m<l.length by omega)
  rw[show ((m+1:Nat):Nat)=m+1 from rfl] at ha
  have ad:decide ((0:Int)≤(m:Int))=true:=by simp
  have ab:IntKind.i64.wrap ((m:Int)-1)=(m:Int)-1:=by rw[w64 (by omega)]
  have hc:PC zP 45 [.st (a0c x), .st (a0c q)] (.st (a0c (a1x x q))):=a4M x q
  repeat'(first|simp only[go_sem,lB,ad,ab]<;>refine nf ?_|refine stp ?_;intro K hK|apply hK;clear hK K|refine stn ?_|(with_reducible first|refine⟨_,hc,?_⟩|refine⟨by omega,a0c x,aa,?_⟩)|(with_reducible refine AWP.segP (id:=5) 6 mixed (by kernel_rfl) fun K hK=>?_;simp only[List.take_succ_cons,List.take_zero,zb4,zb2])|clear hK K)
  all_goals(refine⟨((m:Int)-1,a1x x q),by simp only;omega,⟨m,rfl,by omega,?_⟩,Gh.tt []⟩)
  all_goals(simp only;rw[b6L hx,ha])
def pA:Pat:=⟨8,0,[],[⟨2,0,[72],[],[]⟩,⟨1,0,[],[],[]⟩],[]⟩
def pZ:Pat:=⟨0,0,[],[],[]⟩
theorem c5u:cntP pA=3:=by decide
theorem c5v:cntP pZ=1:=by decide
theorem c7I:a04 pA=true:=by decide
theorem c1H:a0Z pA=[[72]]:=by decide
theorem c94:okP pA=true:=by
  unfold okP c2n;rw[c5u,c7I,c1H];decide
theorem b7Z:a0w pA=pA:=by unfold a0w;rw[c94];rfl
theorem c4d:namesP pA=[[72]]:=by unfold namesP;rw[b7Z,c1H];decide
def vA:Val:=a1x (a3j 5) a0W
theorem c7J:a0t vA=true:=by
  have t1:a0t (a3j 5)=true:=by rw[b4L _ rfl rfl];rfl
  have t2:a0t a0W=true:=by rw[b4L _ rfl rfl];rfl
  rw[a2v]
  show (a0K vA&&((a0t (a3j 5)&&(a0t a0W&&true))&&true))=true
  rw[t1,t2];rfl
theorem d07:Sm vA:=by unfold Sm;decide
theorem c7K:a2k pA vA=([a3j 5],true):=by
  have hm:a0B pA vA []=(true,[([72],a3j 5)]):=by rfl
  unfold a2k
  rw[b7Z,hm,c7J,c4d]
  rfl
theorem b5a:PC zP 8 [] (Bo true):=by
 have hn:PC zP 34 [I .i64 5] (.st (a0c (a3j 5))):=a95 5
 have hl:PC zP 33 [.one (.dat (.sl 7 [a0c (a3j 5)]))] (.st (a0c vA)):=b9i [a3j 5] (by decide)
 have q:PSm pA:=by unfold PSm;rw[c5u];decide
 have u:PSm pZ:=by unfold PSm;rw[c5v];decide
 have eA:a1d pA=[.int .i64 8, .int .i64 0, .str [], .sl 5 [[.int .i64 2, .int .i64 0, .str [72], .sl 5 [], .sl 2 []],[.int .i64 1, .int .i64 0, .str [], .sl 5 [], .sl 2 []]], .sl 2 []]:=by rfl
 have hM:PC zP 32 [.st [.int .i64 8, .int .i64 0, .str [], .sl 5 [[.int .i64 2, .int .i64 0, .str [72], .sl 5 [], .sl 2 []],[.int .i64 1, .int .i64 0, .str [], .sl 5 [], .sl 2 []]], .sl 2 []], .st (a0c vA)] (.tup [.one (.dat (.sl 7 [[.int .i64 1, .int .i64 5, .str [], .sl 7 [], .sl 2 [], .sl 9 [], .sl 1 []]])),Bo true]):=by
  have h:=c7G pA vA q d07
  rw[c7K,show Pt pA=T.st (a1d pA) from rfl,eA] at h
  have e5:a0c (a3j 5)=[.int .i64 1, .int .i64 5, .str [], .sl 7 [], .sl 2 [], .sl 9 [], .sl 1 []]:=by rw[a0a];rfl
  simp only[lE,za6,e5] at h
  exact h
 have hV:PC zP 35 [.st [.int .i64 8, .int .i64 0, .str [], .sl 5 [[.int .i64 2, .int .i64 0, .str [72], .sl 5 [], .sl 2 []],[.int .i64 1, .int .i64 0, .str [], .sl 5 [], .sl 2 []]], .sl 2 []]] (I .i64 0):=by
  have h:=a78 pA q
  have hc:a9s pA=0:=of_decide_eq_true (by rw[b3E,c94])
  rw[hc,show Pt pA=T.st (a1d pA) from rfl,eA] at h
  exact h
 have hZ:PC zP 35 [.st [.int .i64 0, .int .i64 0, .str [], .sl 5 [], .sl 2 []]] (I .i64 1):=by
  have h:=a78 pZ u
  have hc:a9s pZ=1:=by
   have ht:a04 pZ=false:=by decide
   unfold a9s;rw[c5v,ht];decide
  rw[hc,show Pt pZ=T.st (a1d pZ) from rfl,a0f] at h
  exact h
 refine PCB.ob Tryz.func8 Tryz.ntmps8 Tryz.results8 ?_
 repeat'(first|simp only[go_sem]<;>refine nf ?_|refine stp ?_;intro K hK|apply hK;clear hK K|refine stn ?_|(with_reducible first|refine⟨_,hn,?_⟩|refine⟨_,hl,?_⟩|refine⟨_,hM,?_⟩|refine⟨_,hV,?_⟩|refine⟨_,hZ,?_⟩)|(refine a0J ?_;intro K hK)|refine stq ?_|fail)
 all_goals exact lf
theorem c95 (g:Pat) (v:Val) (hs:PSm g) (hg:a04 g=true) (hv:a0t v=true) (ih:∀ k∈g.kids,∀ w:Val,a0t w=true→PC zP 51 [.st (a1d k), .st (a0c w)] (b30 (a2A k w))) (hk:g.kind=7):PC zP 51 [Pt g,Vt v] (b30 (a2A g v)):=by
 have ap:=a90 hg
 have ar:=a19 g
 unfold PSm at hs
 cases hz:decide (v.kind=6)
 ·
  rw[show a2A g v=none from by rw[a1I,hk];show (bif decide (v.kind=6)&&decide (g.kids.length=v.kids.length) then a3D g.kids v.kids else none)=none;rw[hz];rfl]
  refine PCB.ob Tryz.func51 Tryz.ntmps51 Tryz.results51 ?_
  repeat'(first|simp only[go_sem,a0f g,a0a v,hk,hz,Int.reduceEq,lB]<;>refine nf ?_|refine stp ?_;intro K hK|apply hK;clear hK K|refine stn ?_|clear hK K)
  all_goals(first|exact fun _ h=>absurd h zaf|refine a0m ?_)
  all_goals rfl
 cases ab:decide ((v.kids.length:Int)=(g.kids.length:Int))
 ·
  have ai:decide (g.kids.length=v.kids.length)=false:=by simp only[zah] at ab ⊢; omega
  rw[show a2A g v=none from by rw[a1I,hk];show (bif decide (v.kind=6)&&decide (g.kids.length=v.kids.length) then a3D g.kids v.kids else none)=none;rw[hz,ai];rfl]
  refine PCB.ob Tryz.func51 Tryz.ntmps51 Tryz.results51 ?_
  repeat'(first|simp only[go_sem,a0f g,a0a v,hk,hz,ab,Int.reduceEq,lB]<;>refine nf ?_|refine stp ?_;intro K hK|apply hK;clear hK K|refine stn ?_|clear hK K)
  all_goals(first|exact fun _ h=>absurd h zaf|refine a0m ?_)
  all_goals rfl
 have af:v.kids.length=g.kids.length:=by simp only[zan] at ab;omega
 have ak:∀ w∈v.kids,a0t w=true:=fun w hw=>a1N hv hw
 have ag:a2A g v=(a3D g.kids v.kids).map ([]++ ·):=by
  rw[a1I,hk];show (bif decide (v.kind=6)&&decide (g.kids.length=v.kids.length) then a3D g.kids v.kids else none)=_;rw[hz,af];simp
 refine PCB.ob Tryz.func51 Tryz.ntmps51 Tryz.results51 ?_
 refine AWP.ghQ ?_
 repeat'(first|simp only[go_sem,a0f g,a0a v,hk,hz,ab,Int.reduceEq,lB]<;>refine nf ?_|refine stp ?_;intro K hK|apply hK;clear hK K|refine stn ?_|fail)
 refine xD (xI 7 901 rfl rfl rfl (by first|rfl|simp[Bx.fresh,a2w])) ?_
 refine xD (xI 8 902 rfl rfl rfl (by first|rfl|simp[Bx.fresh,a2w])) ?_
 refine xE 2 3 rfl rfl fun aa=>?_
 (try rw[lB] at aa)
 refine xC (S:=ME) (g.kids) a1d (fun k s=>(12,I .i64 (k:Nat))::[(7, .one (.own 901 s.length)),(8, .one (.own 902 s.length)),(9, .one (.dat (.sl 7 (v.kids.map a0c))))]) (fun k s=>[(901, .row 1 (b9f s)),(902, .row 7 (b9g s))]) [2] [2] (fun k s=>a2A g v=(a3D (g.kids.drop k) (v.kids.drop k)).map (s++ ·)∧s.length≤1+a10 (g.kids.take k)) ([]) (by simp only[go_sem,a0f g];exact Gh.tt []) ?_ ?_ ?_
 ·exact⟨ag,by simp⟩
 ·rintro k s x al hx ad hb ⟨q,aj⟩
  refine sts ?_
  obtain⟨w,hw,ae,_,_⟩:=a1A (enc:=a0c) (l:=v.kids) (k:=k) (by have:=af;omega)
  have ah:x∈g.kids:=lP hx
  have u:=ih x ah w (ak w (lP hw))
  have an:=a1V hx
  have aq:=a21 g.kids (k+1)
  rw[a8Q hx hw] at q
  cases hr:a2A x w with
  |none=>
   rw[hr] at q u
   rw[a5O] at u
   repeat'(first|simp only[go_sem,a0f g,lB,hb]<;>refine nf ?_|refine stp ?_;intro K hK|apply hK;clear hK K|refine stn ?_|(with_reducible first|refine⟨_,u,?_⟩|refine⟨by omega,a1d x,ad,?_⟩|refine⟨by omega,a0c w,ae,?_⟩)|(refine a0J ?_;intro K hK)|clear hK K)
   all_goals(refine⟨_,Gh.refl _,?_⟩;simp only[go_sem];refine a0m ?_)
   all_goals(rw[q];rfl)
  |some a=>
   have am:=a3n x w (a2c hg ah) a hr
   have ao:a.length≤cntP x:=by have:=congrArg List.length am;rw[lB] at this;have:=a1z x;omega
   rw[hr] at q u
   rw[a65] at u
   repeat'(first|simp only[go_sem,a0f g,lB,a0U,a0V,b0i,b0j,hb]<;>refine nf ?_|refine stp ?_;intro K hK|apply hK;clear hK K|refine stn ?_|(with_reducible first|refine⟨_,u,?_⟩|refine⟨by omega,a1d x,ad,?_⟩|refine⟨by omega,a0c w,ae,?_⟩|refine⟨(by omega:_≤_),?_⟩)|(refine a0J ?_;intro K hK)|clear hK K)
   all_goals(rw[a0b al aa])
   all_goals(refine⟨s++a,?_,Gh.tt [(901,162),(902,165)]⟩)
   all_goals(refine⟨?_,by rw[lA];omega⟩;rw[q];simp only[zdk];congr 1;funext z;simp)
 ·rintro s hb ⟨q,aj⟩
  refine sts ?_
  rw[lL,a3W] at q
  repeat'(first|simp only[go_sem,a0f g,lB,hb]<;>refine nf ?_|refine stp ?_;intro K hK|apply hK;clear hK K|refine stn ?_|clear hK K)
  refine GhQ.step (xH 901 rfl rfl (by simp only[go_sem,a0U,a0V]) (by simp only[go_sem,a0U,a0V])) ?_
  simp only[go_sem,a0U,a0V]
  refine⟨_,xH 902 rfl rfl (by simp only[go_sem,a0U,a0V]) (by simp only[go_sem,a0U,a0V]),?_⟩
  simp only[go_sem,a0U,a0V]
  all_goals(first|exact fun _ h=>absurd h zaf|refine a0m ?_)
  all_goals(rw[q];simp[b30])
theorem c96 (g:Pat) (v:Val) (hs:PSm g) (hg:a04 g=true) (hv:a0t v=true) (ih:∀ k∈g.kids,∀ w:Val,a0t w=true→PC zP 51 [.st (a1d k), .st (a0c w)] (b30 (a2A k w))) (hk:g.kind=8):PC zP 51 [Pt g,Vt v] (b30 (a2A g v)):=by
 have ai:=a90 hg
 have ap:=a19 g
 unfold PSm at hs
 cases hz:decide (v.kind=7)
 ·
  rw[show a2A g v=none from by rw[a1I,hk];show (bif decide (v.kind=7)&&decide (g.kids.length=v.kids.length) then a3D g.kids v.kids else none)=none;rw[hz];rfl]
  refine PCB.ob Tryz.func51 Tryz.ntmps51 Tryz.results51 ?_
  repeat'(first|simp only[go_sem,a0f g,a0a v,hk,hz,Int.reduceEq,lB]<;>refine nf ?_|refine stp ?_;intro K hK|apply hK;clear hK K|refine stn ?_|clear hK K)
  all_goals(first|exact fun _ h=>absurd h zaf|refine a0m ?_)
  all_goals rfl
 have ae:v.kids.length=g.kids.length:=by rw[b9h hv (of_decide_eq_true hz),b6J ai hk]
 have aj:∀ w∈v.kids,a0t w=true:=fun w hw=>a1N hv hw
 have af:a2A g v=(a3D g.kids v.kids).map ([]++ ·):=by
  rw[a1I,hk];show (bif decide (v.kind=7)&&decide (g.kids.length=v.kids.length) then a3D g.kids v.kids else none)=_;rw[hz,ae];simp
 refine PCB.ob Tryz.func51 Tryz.ntmps51 Tryz.results51 ?_
 refine AWP.ghQ ?_
 repeat'(first|simp only[go_sem,a0f g,a0a v,hk,hz,Int.reduceEq,lB]<;>refine nf ?_|refine stp ?_;intro K hK|apply hK;clear hK K|refine stn ?_|fail)
 refine xD (xI 7 901 rfl rfl rfl (by first|rfl|simp[Bx.fresh,a2w])) ?_
 refine xD (xI 8 902 rfl rfl rfl (by first|rfl|simp[Bx.fresh,a2w])) ?_
 refine xE 2 3 rfl rfl fun aa=>?_
 (try rw[lB] at aa)
 refine xC (S:=ME) (g.kids) a1d (fun k s=>(12,I .i64 (k:Nat))::[(7, .one (.own 901 s.length)),(8, .one (.own 902 s.length)),(9, .one (.dat (.sl 7 (v.kids.map a0c))))]) (fun k s=>[(901, .row 1 (b9f s)),(902, .row 7 (b9g s))]) [2] [2] (fun k s=>a2A g v=(a3D (g.kids.drop k) (v.kids.drop k)).map (s++ ·)∧s.length≤1+a10 (g.kids.take k)) ([]) (by simp only[go_sem,a0f g];exact Gh.tt []) ?_ ?_ ?_
 ·exact⟨af,by simp⟩
 ·rintro k s x ak hx ab hb ⟨q,ah⟩
  refine sts ?_
  obtain⟨w,hw,ad,_,_⟩:=a1A (enc:=a0c) (l:=v.kids) (k:=k) (by have:=ae;omega)
  have ag:x∈g.kids:=lP hx
  have u:=ih x ag w (aj w (lP hw))
  have am:=a1V hx
  have ao:=a21 g.kids (k+1)
  rw[a8Q hx hw] at q
  cases hr:a2A x w with
  |none=>
   rw[hr] at q u
   rw[a5O] at u
   repeat'(first|simp only[go_sem,a0f g,lB,hb]<;>refine nf ?_|refine stp ?_;intro K hK|apply hK;clear hK K|refine stn ?_|(with_reducible first|refine⟨_,u,?_⟩|refine⟨by omega,a1d x,ab,?_⟩|refine⟨by omega,a0c w,ad,?_⟩)|(refine a0J ?_;intro K hK)|clear hK K)
   all_goals(refine⟨_,Gh.refl _,?_⟩;simp only[go_sem];refine a0m ?_)
   all_goals(rw[q];rfl)
  |some a=>
   have al:=a3n x w (a2c hg ag) a hr
   have an:a.length≤cntP x:=by have:=congrArg List.length al;rw[lB] at this;have:=a1z x;omega
   rw[hr] at q u
   rw[a65] at u
   repeat'(first|simp only[go_sem,a0f g,lB,a0U,a0V,b0i,b0j,hb]<;>refine nf ?_|refine stp ?_;intro K hK|apply hK;clear hK K|refine stn ?_|(with_reducible first|refine⟨_,u,?_⟩|refine⟨by omega,a1d x,ab,?_⟩|refine⟨by omega,a0c w,ad,?_⟩|refine⟨(by omega:_≤_),?_⟩)|(refine a0J ?_;intro K hK)|clear hK K)
   all_goals(rw[a0b ak aa])
   all_goals(refine⟨s++a,?_,Gh.tt [(901,162),(902,165)]⟩)
   all_goals(refine⟨?_,by rw[lA];omega⟩;rw[q];simp only[zdk];congr 1;funext z;simp)
 ·rintro s hb ⟨q,ah⟩
  refine sts ?_
  rw[lL,a3W] at q
  repeat'(first|simp only[go_sem,a0f g,lB,hb]<;>refine nf ?_|refine stp ?_;intro K hK|apply hK;clear hK K|refine stn ?_|clear hK K)
  refine GhQ.step (xH 901 rfl rfl (by simp only[go_sem,a0U,a0V]) (by simp only[go_sem,a0U,a0V])) ?_
  simp only[go_sem,a0U,a0V]
  refine⟨_,xH 902 rfl rfl (by simp only[go_sem,a0U,a0V]) (by simp only[go_sem,a0U,a0V]),?_⟩
  simp only[go_sem,a0U,a0V]
  all_goals(first|exact fun _ h=>absurd h zaf|refine a0m ?_)
  all_goals(rw[q];simp[b30])
theorem c7L (g:Pat) (v:Val) (hs:PSm g) (hg:a04 g=true) (hv:a0t v=true) (ih:∀ k∈g.kids,∀ w:Val,a0t w=true→PC zP 51 [.st (a1d k), .st (a0c w)] (b30 (a2A k w))) (hk:g.kind=10∧∃ k0,g.kids=[k0]):PC zP 51 [Pt g,Vt v] (b30 (a2A g v)):=by
 have ap:=a90 hg
 have au:=a19 g
 unfold PSm at hs
 obtain⟨hk,k0,ab⟩:=hk
 have ar:k0∈g.kids:=by rw[ab];simp
 have aj:[v].length=g.kids.length:=by rw[ab];rfl
 have ak:∀ w∈[v],a0t w=true:=fun w hw=>by rw[za7.1 hw];exact hv
 have af:a2A g v=(a3D g.kids [v]).map ([(g.text,v)]++ ·):=by
  rw[a1I,hk,ab]
  show (a2A k0 v).map ((g.text,v):: ·)=_
  rw[a3D]
  cases a2A k0 v with
  |none=>rfl
  |some a=>simp[a3W]
 refine PCB.ob Tryz.func51 Tryz.ntmps51 Tryz.results51 ?_
 refine AWP.ghQ ?_
 repeat'(first|simp only[go_sem,a0f g,a0a v,hk,Int.reduceEq,lB]<;>refine nf ?_|refine stp ?_;intro K hK|apply hK;clear hK K|refine stn ?_|(with_reducible refine AWP.genM (id:=24) [4,8] mixed (by kernel_rfl) fun K hK=>?_)|refine stq ?_|fail)
 try rw[← a0a v]
 refine xD (Gh.rename 95 901 rfl rfl rfl rfl) ?_
 refine xD (Gh.rename 99 902 rfl rfl rfl rfl) ?_
 simp only[go_sem]
 refine xE 2 3 rfl rfl fun aa=>?_
 (try rw[lB] at aa)
 refine xC (S:=ME) (g.kids) a1d (fun k s=>(12,I .i64 (k:Nat))::[(7, .one (.own 901 s.length)),(8, .one (.own 902 s.length)),(9, .one (.dat (.sl 7 ([v].map a0c))))]) (fun k s=>[(901, .row 1 (b9f s)),(902, .row 7 (b9g s))]) [2] [2] (fun k s=>a2A g v=(a3D (g.kids.drop k) ([v].drop k)).map (s++ ·)∧s.length≤1+a10 (g.kids.take k)) ([(g.text,v)]) (by simp only[go_sem,a0f g];exact Gh.tt []) ?_ ?_ ?_
 ·exact⟨af,by simp⟩
 ·rintro k s x al hx ad hb ⟨q,ai⟩
  refine sts ?_
  obtain⟨w,hw,ah,_,_⟩:=a1A (enc:=a0c) (l:=[v]) (k:=k) (by have:=aj;omega)
  have ae:[a0c v][k]?= some (a0c w):=ah
  have ag:x∈g.kids:=lP hx
  have u:=ih x ag w (ak w (lP hw))
  have an:=a1V hx
  have aq:=a21 g.kids (k+1)
  rw[a8Q hx hw] at q
  cases hr:a2A x w with
  |none=>
   rw[hr] at q u
   rw[a5O] at u
   repeat'(first|simp only[go_sem,a0f g,lB,hb]<;>refine nf ?_|refine stp ?_;intro K hK|apply hK;clear hK K|refine stn ?_|(with_reducible first|refine⟨_,u,?_⟩|refine⟨by omega,a1d x,ad,?_⟩|refine⟨by omega,a0c w,ae,?_⟩)|(refine a0J ?_;intro K hK)|clear hK K)
   all_goals(refine⟨_,Gh.refl _,?_⟩;simp only[go_sem];refine a0m ?_)
   all_goals(rw[q];rfl)
  |some a=>
   have am:=a3n x w (a2c hg ag) a hr
   have ao:a.length≤cntP x:=by have:=congrArg List.length am;rw[lB] at this;have:=a1z x;omega
   rw[hr] at q u
   rw[a65] at u
   repeat'(first|simp only[go_sem,a0f g,lB,a0U,a0V,b0i,b0j,hb]<;>refine nf ?_|refine stp ?_;intro K hK|apply hK;clear hK K|refine stn ?_|(with_reducible first|refine⟨_,u,?_⟩|refine⟨by omega,a1d x,ad,?_⟩|refine⟨by omega,a0c w,ae,?_⟩|refine⟨(by omega:_≤_),?_⟩)|(refine a0J ?_;intro K hK)|clear hK K)
   all_goals(rw[a0b al aa])
   all_goals(refine⟨s++a,?_,Gh.tt [(901,162),(902,165)]⟩)
   all_goals(refine⟨?_,by rw[lA];omega⟩;rw[q];simp only[zdk];congr 1;funext z;simp)
 ·rintro s hb ⟨q,ai⟩
  refine sts ?_
  rw[lL,a3W] at q
  repeat'(first|simp only[go_sem,a0f g,lB,hb]<;>refine nf ?_|refine stp ?_;intro K hK|apply hK;clear hK K|refine stn ?_|clear hK K)
  refine GhQ.step (xH 901 rfl rfl (by simp only[go_sem,a0U,a0V]) (by simp only[go_sem,a0U,a0V])) ?_
  simp only[go_sem,a0U,a0V]
  refine⟨_,xH 902 rfl rfl (by simp only[go_sem,a0U,a0V]) (by simp only[go_sem,a0U,a0V]),?_⟩
  simp only[go_sem,a0U,a0V]
  all_goals(first|exact fun _ h=>absurd h zaf|refine a0m ?_)
  all_goals(rw[q];simp[b30])
theorem b2I (g:Pat) (v:Val) (hs:PSm g) (hg:a04 g=true) (hv:a0t v=true):PC zP 51 [Pt g,Vt v] (b30 (a2A g v)):=by
 have ih:∀ k∈g.kids,∀ w:Val,a0t w=true→PC zP 51 [.st (a1d k), .st (a0c w)] (b30 (a2A k w)):=fun k hk w hw=>b2I k w (hs.kid k hk) (a2c hg hk) hw
 have q:=a90 hg
 rcases a9R q with hk|hk|hk|hk|hk|hk|hk|hk|hk|hk
 ·
  rw[a1I,hk]
  refine PCB.ob Tryz.func51 Tryz.ntmps51 Tryz.results51 ?_
  repeat'(first|simp only[go_sem,a0f g,a0a v,hk,Int.reduceEq,lB]<;>refine nf ?_|refine stp ?_;intro K hK|apply hK;clear hK K|refine stn ?_|clear hK K)
  all_goals(first|exact fun _ h=>absurd h zaf|refine a0m ?_)
  all_goals(try simp only[Int.reduceEq,zb,zac,zad,zaa,zab,c5t, *])
  all_goals(first|done|rfl)
 ·
  rw[show a2A g v=some [(g.text,v)] from by rw[a1I,hk];rfl]
  refine PCB.ob Tryz.func51 Tryz.ntmps51 Tryz.results51 ?_
  repeat'(first|simp only[go_sem,a0f g,a0a v,hk,Int.reduceEq,lB]<;>refine nf ?_|refine stp ?_;intro K hK|apply hK;clear hK K|refine stn ?_|(refine a0J ?_;intro K hK)|clear hK K)
  all_goals(first|exact fun _ h=>absurd h zaf|refine a0m ?_)
  all_goals(show _=T.tup [.one (.dat (.sl 1 [Sx.encStr g.text])), .one (.dat (.sl 7 [a0c v])),Bo true];rw[a0a v];rfl)
 iterate 4
  ·
   rw[a1I,hk]
   refine PCB.ob Tryz.func51 Tryz.ntmps51 Tryz.results51 ?_
   repeat'(first|simp only[go_sem,a0f g,a0a v,hk,Int.reduceEq,lB]<;>refine nf ?_|refine stp ?_;intro K hK|apply hK;clear hK K|refine stn ?_|(refine⟨fun h=>?_,fun h=>?_⟩<;>(try simp only[zM,zN] at h)<;>try simp only[h])|(refine a0J ?_;intro K hK)|clear hK K)
   all_goals(first|exact fun _ h=>absurd h zaf|refine a0m ?_)
   all_goals(try simp only[Int.reduceEq,zb,zac,zad,zaa,zab,c5t, *])
   all_goals(first|done|rfl)
 ·exact c95 g v hs hg hv ih hk
 ·exact c96 g v hs hg hv ih hk
 ·exact c93 g v hs hg hv ih hk
 ·exact c7L g v hs hg hv ih hk
termination_by cntP g
decreasing_by exact a1C hk
theorem b9j {l:ME} {n:List UInt8} {j:Nat} {p:List UInt8×Val} (hp:l[j]?= some p):a7K (l.take (j+1)) n=a7K (l.take j) n++(bif decide (p.1=n) then [p.2] else []):=by
  unfold a7K
  rw[zb8,hp,List.flatMap_append];simp
theorem a7Q (g:Pat) (v:Val) (hg:PSm g):PC zP 15 [Pt g,Vt v] (.tup [VsP (a2k g v).1,Bo (a2k g v).2]):=by
 have hs:=a8O g
 have h1:PC zP 50 [.st (a1d g)] (Pt (a0w g)):=c1C g hg
 have h2:=a11 v
 cases hz:a0t v<;>rw[hz] at h2
 case false=>
  rw[show a2k g v=([],false) from by unfold a2k;rw[hz];rfl]
  refine PCB.ob Tryz.func15 Tryz.ntmps15 Tryz.results15 ?_
  repeat'(first|simp only[go_sem,Int.reduceEq]<;>refine nf ?_|refine stp ?_;intro K hK|apply hK;clear hK K|refine stn ?_|(with_reducible first|refine⟨_,h1,?_⟩|refine⟨_,h2,?_⟩)|refine stq ?_|clear hK K)
  all_goals exact lf
 have aj:=a2b g
 have ht:=a5j aj
 have h3:PC zP 51 [.st (a1d (a0w g)), .st (a0c v)] (b30 (a2A (a0w g) v)):=b2I (a0w g) v hs ht hz
 have ad:=a9w g v hz
 cases hr:a2A (a0w g) v with
 |none=>
  rw[hr] at h3 ad
  rw[a5O] at h3
  rw[ad]
  refine PCB.ob Tryz.func15 Tryz.ntmps15 Tryz.results15 ?_
  repeat'(first|simp only[go_sem,Int.reduceEq]<;>refine nf ?_|refine stp ?_;intro K hK|apply hK;clear hK K|refine stn ?_|(with_reducible first|refine⟨_,h1,?_⟩|refine⟨_,h2,?_⟩|refine⟨_,h3,?_⟩)|refine stq ?_|clear hK K)
  all_goals exact lf
 |some l=>
  rw[hr] at h3 ad
  rw[a65] at h3
  have hn:=a3n (a0w g) v ht l hr
  have au:l.length≤40:=by
   have h5:=a1z (a0w g)
   have h6:=a79 aj
   have h7:=congrArg List.length hn
   rw[lB] at h7
   omega
  have h4:=a5c (l.map (·.1)) (by rw[lB];omega)
  have ah:a0M (l.map (·.1))=namesP g:=by rw[hn];rfl
  rw[ah,zcq] at h4
  have ap:PC zP 52 [.one (.dat (.sl 1 (l.map fun p=>Sx.encStr p.1)))] (.one (.dat (.sl 1 ((namesP g).map Sx.encStr)))):=h4
  have av:(namesP g).length≤40:=by
   have h5:=a2a (l.map (·.1))
   rw[ah,lB] at h5;omega
  simp only[b9f,b9g] at h3
  have ag:a2k g v=((namesP g).flatMap (a7K l),true):=ad
  rw[ag]
  clear ad ag h4 ah hn hr
  generalize namesP g=L at*
  refine PCB.ob Tryz.func15 Tryz.ntmps15 Tryz.results15 ?_
  refine AWP.ghQ ?_
  repeat'(first|simp only[go_sem,Int.reduceEq]<;>refine nf ?_|refine stp ?_;intro K hK|apply hK;clear hK K|refine stn ?_|(with_reducible first|refine⟨_,h1,?_⟩|refine⟨_,h2,?_⟩|refine⟨_,h3,?_⟩|refine⟨_,ap,?_⟩)|refine stq ?_|fail)
  refine xD (xI 10 900 rfl rfl rfl (by first|rfl|simp[Bx.fresh,a2w])) ?_
  refine AWP.len 9 rfl fun ab=>?_
  (try rw[lB] at ab)
  refine xC (S:=List Val) (L) Sx.encStr (fun k s=>(11,I .i64 (k:Nat))::[(10, .one (.own 900 s.length))]) (fun k s=>[(900, .row 7 (s.map a0c))]) [6,7,9] [] (fun k s=>Is s ((L.take k).flatMap (a7K l))∧s.length≤k*40) ([]) (by refine sts ?_;exact Gh.tt []) ?_ ?_ ?_
  ·exact⟨rfl,by simp⟩
  ·rintro k s x ae hx ak hb ⟨aa,am⟩
   have ar:=ae
   refine sts ?_
   repeat'(first|simp only[go_sem,lB,hb]<;>refine nf ?_|refine stp ?_;intro K hK|apply hK;clear hK K|refine stn ?_|fail)
   refine AWP.len 6 rfl fun u=>?_
   (try rw[lB] at u)
   refine xC (S:=List Val) (l) (fun p:List UInt8×Val=>Sx.encStr p.1) (fun j t=>(12,I .i64 (j:Nat))::[(10, .one (.own 900 t.length))]) (fun j t=>[(900, .row 7 (t.map a0c))]) [6,7,9,11] [] (fun j t=>Is t (s++a7K (l.take j) x)∧t.length≤k*40+j) (s) (by refine sts ?_;exact Gh.tt []) ?_ ?_ ?_
   ·exact⟨by simp[Is,a7K],by omega⟩
   ·rintro j t p ae hp ao af ⟨q,an⟩
    refine sts ?_
    have ai:=b9j (n:=x) hp
    have aq:(l.map fun p=>a0c p.2)[j]?= some (a0c p.2):=by rw[zbv,hp];rfl
    have al:(l.map fun p=>[C.str p.1])[j]?= some [C.str p.1]:=ao
    cases hd:decide (p.1=x)
    ·
     repeat'(first|simp only[go_sem,lB,af,hd,Sx.encStr]<;>refine nf ?_|refine stp ?_;intro K hK|apply hK;clear hK K|refine stn ?_|(with_reducible first|refine⟨by omega,[C.str p.1],al,?_⟩|refine⟨by omega,Sx.encStr x,ak,?_⟩)|(refine a0J ?_;intro K hK)|clear hK K)
     all_goals(rw[a0b ae u])
     all_goals(refine⟨t,?_,Gh.tt []⟩)
     all_goals(refine⟨?_,by omega⟩;rw[Is,ai,hd,zab,zbq];exact q)
    ·
     repeat'(first|simp only[go_sem,lB,af,hd,Sx.encStr,a4b]<;>refine nf ?_|refine stp ?_;intro K hK|apply hK;clear hK K|refine stn ?_|(with_reducible first|refine⟨by omega,[C.str p.1],al,?_⟩|refine⟨by omega,Sx.encStr x,ak,?_⟩|refine⟨by omega,a0c p.2,aq,?_⟩|(refine⟨(by first|omega|(simp only[lA,lB,zbb,za1,List.length_cons,List.length_nil,za4];omega):_≤_),?_⟩))|(refine a0J ?_;intro K hK)|refine stq ?_|clear hK K)
     all_goals(rw[a0b ae u])
     all_goals(refine⟨t++[p.2],?_,Gh.tt [(900,56)]⟩)
     all_goals(refine⟨?_,by simp;omega⟩;rw[Is,ai,hd,show t=_ from q];simp)
   ·rintro t af ⟨q,an⟩
    refine sts ?_
    rw[zbh] at q
    repeat'(first|simp only[go_sem,lB,af]<;>refine nf ?_|refine stp ?_;intro K hK|apply hK;clear hK K|refine stn ?_|clear hK K)
    all_goals(rw[a0b ae ab])
    all_goals(refine⟨t,?_,Gh.tt []⟩)
    all_goals(refine⟨?_,by omega⟩;rw[Is,zb8,hx,List.flatMap_append,show t=_ from q,show s=_ from aa];simp)
  ·rintro s hb ⟨aa,am⟩
   refine sts ?_
   rw[zbh] at aa
   repeat'(first|simp only[go_sem,lB,hb]<;>refine nf ?_|refine stp ?_;intro K hK|apply hK;clear hK K|refine stn ?_|clear hK K)
   refine⟨_,Gh.fz 900,?_⟩
   simp only[go_sem,lB]
   all_goals(first|exact fun _ h=>absurd h zaf|refine a0m ?_)
   all_goals(rw[show s=_ from aa])
end Go.Proofs.YtoelgackkclcmaaGreat

