/- Lemmas. -/
import Derived.Test.YtoelgackkclcmaaGreatPc15
open Go.Proofs.Tryz renaming prog→zP
open List renaming length_append→lA,length_map→lB,length_cons→lC,length_nil→lD,drop_zero→lJ,take_length→lK,length_take→lQ
open Go.Sx.AWP renaming range→xC,gh→xD,len→xF
open Go.Sx.Gh renaming freeze→xH
open Bool renaming not_eq_true'→zM,not_eq_false'→zN
set_option linter.unusedSimpArgs false
set_option linter.unusedVariables false
set_option maxRecDepth 20000
set_option maxHeartbeats 64000000
namespace Go.Proofs.YtoelgackkclcmaaGreat
open Go Go.Sx
def goB {α:Type} (f:α→α→Int) (p:α→Bool):Option α→List α→Bool
  |_,[]=>true
  |none,x::l=>p x&&goB f p (some x) l
  |some y,x::l=>p x&&(decide (f y x<0)&&goB f p (some x) l)
def a49 {α:Type} (l:List α):Nat→Option α
  |0=>none
  |k+1=>l[k]?
theorem b69 {α:Type} (f:α→α→Int) (p:α→Bool):∀ (l:List α) (y:α),goB f p (some y) l=(a7L f (y::l)&&l.all p)
 |[],y=>rfl
 |x::l,y=>by
  rw[goB,b69 f p l x,List.all_cons]
  show _=((decide (f y x<0)&&a7L f (x::l))&&_)
  cases p x<;>cases decide (f y x<0)<;>cases a7L f (x::l)<;>cases l.all p<;>rfl
theorem a5a {α:Type} (f:α→α→Int) (p:α→Bool) (l:List α):goB f p none l=(a7L f l&&l.all p):=by
 cases l with
 |nil=>rfl
 |cons x l=>
  rw[goB,b69,List.all_cons]
  cases p x<;>cases a7L f (x::l)<;>cases l.all p<;>rfl
theorem a4r {α:Type} {f:α→α→Int} {p:α→Bool} {l:List α} {k:Nat} {x:α} (h0:k=0) (hx:l[k]?= some x):goB f p (a49 l k) (l.drop k)=(p x&&goB f p (a49 l (k+1)) (l.drop (k+1))):=by
  subst h0
  cases l with
  |nil=>simp at hx
  |cons y l=>simp at hx;subst hx;rfl
theorem a4s {α:Type} {f:α→α→Int} {p:α→Bool} {l:List α} {k:Nat} {x y:α} (hy:l[k]?= some y) (hx:l[k+1]?= some x):goB f p (a49 l (k+1)) (l.drop (k+1))=(p x&&(decide (f y x<0)&&goB f p (a49 l (k+2)) (l.drop (k+2)))):=by
  obtain⟨h1,e1⟩:=zak.1 hx
  rw[za8 h1,e1]
  simp only[a49,hy,hx]
  rfl
theorem a58 {α:Type} {f:α→α→Int} {p:α→Bool} {l:List α} {o:Option α}:goB f p o (l.drop l.length)=true:=by
  rw[zbw];cases o<;>rfl
theorem a5b (a b:List UInt8):Op.bytesLess a b=decide (Lib.compareBytes a b<0):=by
  rw[a6k]
  rcases a9B a b with h|h|h<;>simp[h]
def a0t (v:Val):Bool:=a0K v&&(partsV v).attach.all fun p=>a0t p.1
termination_by a2q v
decreasing_by exact a80 p.2
theorem a7l (v:Val):a0t v=(a0K v&&(partsV v).all a0t):=by
  rw[a0t];congr 1
  rw[← zbj];simp
def b4d (e:List Val×Bool×Val):Bool:=e.1.all a0t&&(e.2.1||a0t e.2.2)
theorem a2v (v:Val):a0t v=(a0K v&&(v.kids.all a0t&&v.ents.all b4d)):=by
 rw[a7l,partsV,zcs,List.all_flatMap]
 have:∀ e:List Val×Bool×Val,(a8Z e).all a0t=b4d e:=by
  intro e
  unfold a8Z b4d
  cases e.2.1<;>simp
 simp only[this]
theorem Sm.part {v p:Val} (h:Sm v) (hp:p∈partsV v):Sm p:=by unfold Sm at *; have:=a80 hp;omega
theorem b0F (v:Val) (hv:Sm v):PC zP 127 [.st (a0c v)] (Bo (a0t v)):=by
 have ih:∀ p∈partsV v,PC zP 127 [.st (a0c p)] (Bo (a0t p)):=fun p hp=>b0F p (hv.part hp)
 have hn:=b5U v
 have hp:=c8b v hv
 rw[a7l]
 refine PCB.ob Tryz.func127 Tryz.ntmps127 Tryz.results127 ?_
 cases hz:a0K v
 ·
  repeat'(first|simp only[go_sem,hz]<;>refine nf ?_|refine stp ?_;intro K hK|apply hK;clear hK K|refine stn ?_|(with_reducible refine⟨_,hn,?_⟩)|refine stq ?_|clear hK K)
  all_goals(first|exact lf|(refine a0m ?_;simp only[hz,zb,zaa,zab,zac,zad]<;>rfl))
 ·
  repeat'(first|simp only[go_sem,hz,lB]<;>refine nf ?_|refine stp ?_;intro K hK|apply hK;clear hK K|refine stn ?_|(with_reducible first|refine⟨_,hn,?_⟩|refine⟨_,hp,?_⟩)|refine stq ?_|fail)
  refine xF 9 rfl fun u=>?_
  (try rw[lB] at u)
  refine xC (S:=Unit) (partsV v) a0c (fun k s=>(11,I .i64 (k:Nat))::[]) (fun k s=>[]) [9,10] [] (fun k s=>(partsV v).all a0t=((partsV v).drop k).all a0t) (()) (by refine sts ?_;exact Gh.tt []) ?_ ?_ ?_
  ·rfl
  ·intro k s x ad hx aa hb q
   refine sts ?_
   have ab:=ih x (zbc hx)
   rw[a3b hx] at q
   cases hy:a0t x<;>simp only[hy,zae,zai] at q
   ·
    repeat'(first|simp only[go_sem,lB,hb,hy]<;>refine nf ?_|refine stp ?_;intro K hK|apply hK;clear hK K|refine stn ?_|(with_reducible first|refine⟨_,ab,?_⟩|refine⟨by omega,a0c x,aa,?_⟩)|refine stq ?_|clear hK K)
    all_goals(first|exact lf|(refine a0m ?_;simp only[q,hz,zb,zaa,zab,zac,zad]<;>rfl))
   ·
    repeat'(first|simp only[go_sem,lB,hb,hy]<;>refine nf ?_|refine stp ?_;intro K hK|apply hK;clear hK K|refine stn ?_|(with_reducible first|refine⟨_,ab,?_⟩|refine⟨by omega,a0c x,aa,?_⟩)|refine stq ?_|clear hK K)
    all_goals(rw[a0b ad u])
    all_goals(refine⟨(),?_,Gh.tt []⟩)
    all_goals exact q
  ·intro s hb q
   refine sts ?_
   rw[a4m] at q
   repeat'(first|simp only[go_sem,lB,hb]<;>refine nf ?_|refine stp ?_;intro K hK|apply hK;clear hK K|refine stn ?_|clear hK K)
   all_goals(first|exact lf|(refine a0m ?_;simp only[q,hz,zb,zaa,zab,zac,zad]<;>rfl))
termination_by a2q v
decreasing_by exact a80 hp
theorem b8v (v:Val) (hv:Sm v):PC zP 74 [.st (a0c v)] (.one (.dat (.int .i64 (bif a0t v then 0 else 1)))):=by
 have hn:=b0F v hv
 refine PCB.ob Tryz.func74 Tryz.ntmps74 Tryz.results74 ?_
 cases hz:a0t v
 all_goals
  repeat'(first|simp only[go_sem,hz]<;>refine nf ?_|refine stp ?_;intro K hK|apply hK;clear hK K|refine stn ?_|(with_reducible refine⟨_,hn,?_⟩)|refine stq ?_|clear hK K)
 all_goals(first|exact lf|(refine a0m ?_;simp only[hz,zb,zaa,zab,zac,zad]<;>rfl))
theorem b17 (a b:Val):PC zP 148 [.st (a0c a), .st (a0c b)] (Bo (decide (valC a b=0))):=by
  have h:=a2l a b
  refine PCB.ob Tryz.func148 Tryz.ntmps148 Tryz.results148 ?_
  repeat'(first|simp only[go_sem]<;>refine nf ?_|refine stp ?_;intro K hK|apply hK;clear hK K|refine stn ?_|(with_reducible refine⟨_,h,?_⟩)|refine stq ?_|fail)
  all_goals(first|exact fun _ h=>absurd h zaf|refine a0m ?_)
  all_goals rfl
def a3j (n:Int):Val:=⟨1,n,[],[],[],[],[]⟩
def a6p (s:List UInt8):Val:=⟨2,0,s,[],[],[],[]⟩
def a4j (s:List UInt8):Val:=⟨3,0,s,[],[],[],[]⟩
def b4e (n:Int):Val:=⟨4,n,[],[],[],[],[]⟩
def a0W:Val:=⟨5,0,[],[],[],[],[]⟩
def a1m (l:List Val):Val:=⟨6,0,[],l,[],[],[]⟩
def a1x (a b:Val):Val:=⟨7,0,[],[a,b],[],[],[]⟩
abbrev Vt (v:Val):T:= .st (a0c v)
theorem a95 (n:Int):PC zP 34 [I .i64 n] (Vt (a3j n)):=by
  refine PCB.ob Tryz.func34 Tryz.ntmps34 Tryz.results34 ?_
  repeat'(first|simp only[go_sem]<;>refine nf ?_|refine stp ?_;intro K hK|apply hK;clear hK K|refine stn ?_|fail)
  all_goals(first|exact fun _ h=>absurd h zaf|refine a0m ?_)
  all_goals(rw[Vt,a0a];rfl)
theorem a59 (s:List UInt8):PC zP 42 [S s] (Vt (a6p s)):=by
  refine PCB.ob Tryz.func42 Tryz.ntmps42 Tryz.results42 ?_
  repeat'(first|simp only[go_sem]<;>refine nf ?_|refine stp ?_;intro K hK|apply hK;clear hK K|refine stn ?_|fail)
  all_goals(first|exact fun _ h=>absurd h zaf|refine a0m ?_)
  all_goals(rw[Vt,a0a];rfl)
theorem a7m (s:List UInt8):PC zP 43 [S s] (Vt (a4j s)):=by
  refine PCB.ob Tryz.func43 Tryz.ntmps43 Tryz.results43 ?_
  repeat'(first|simp only[go_sem]<;>refine nf ?_|refine stp ?_;intro K hK|apply hK;clear hK K|refine stn ?_|fail)
  all_goals(first|exact fun _ h=>absurd h zaf|refine a0m ?_)
  all_goals(rw[Vt,a0a];rfl)
theorem b7a (n:Int):PC zP 140 [I .i64 n] (Vt (b4e n)):=by
  refine PCB.ob Tryz.func140 Tryz.ntmps140 Tryz.results140 ?_
  repeat'(first|simp only[go_sem]<;>refine nf ?_|refine stp ?_;intro K hK|apply hK;clear hK K|refine stn ?_|fail)
  all_goals(first|exact fun _ h=>absurd h zaf|refine a0m ?_)
  all_goals(rw[Vt,a0a];rfl)
theorem a1r:PC zP 44 [] (Vt a0W):=by
  refine PCB.ob Tryz.func44 Tryz.ntmps44 Tryz.results44 ?_
  repeat'(first|simp only[go_sem]<;>refine nf ?_|refine stp ?_;intro K hK|apply hK;clear hK K|refine stn ?_|fail)
  all_goals(first|exact fun _ h=>absurd h zaf|refine a0m ?_)
  all_goals(rw[Vt,a0a];rfl)
theorem b7b (l:List Val) (hl:l.length≤100000000):PCN zP 64 [.one (.dat (.sl 7 (l.map a0c)))] (.one (.own 0 l.length)) (.row 7 (l.map a0c)):=by
  refine PCN.of_body 4 Tryz.func64 rfl (by decide) Tryz.ntmps64 Tryz.results64 rfl rfl ?_
  refine AWP.ghQ ?_
  repeat'(first|simp only[go_sem,lB]<;>refine nf ?_|refine stp ?_;intro K hK|apply hK;clear hK K|refine stn ?_|(with_reducible refine⟨(by omega:_≤_),?_⟩)|fail)
  refine⟨_,Gh.refl _,?_⟩
  simp only[go_sem,lB]
  first|exact⟨rfl,fun x hx=>hx⟩|exact fun x hx=>hx
theorem c2H (l:List Val) (hl:l.length≤100000000):PC zP 64 [.one (.dat (.sl 7 (l.map a0c)))] (.one (.dat (.sl 7 (l.map a0c)))):=by
  refine PCB.ob Tryz.func64 Tryz.ntmps64 Tryz.results64 ?_
  refine AWP.ghQ ?_
  repeat'(first|simp only[go_sem,lB]<;>refine nf ?_|refine stp ?_;intro K hK|apply hK;clear hK K|refine stn ?_|(with_reducible refine⟨(by omega:_≤_),?_⟩)|fail)
  refine⟨_,Gh.fz 4,?_⟩
  simp only[go_sem,lB]
  all_goals(first|exact fun _ h=>absurd h zaf|refine a0m ?_)
  all_goals rfl
theorem b18 (l:List Val) (hl:l.length≤100000000):PC zP 27 [.one (.dat (.sl 7 (l.map a0c)))] (Vt (a1m l)):=by
  have h:=c2H l hl
  refine PCB.ob Tryz.func27 Tryz.ntmps27 Tryz.results27 ?_
  repeat'(first|simp only[go_sem]<;>refine nf ?_|refine stp ?_;intro K hK|apply hK;clear hK K|refine stn ?_|(with_reducible refine⟨_,h,?_⟩)|refine stq ?_|fail)
  all_goals(first|exact fun _ h=>absurd h zaf|refine a0m ?_)
  all_goals(rw[Vt,a0a];rfl)
theorem a4M (a b:Val):PC zP 45 [Vt a,Vt b] (Vt (a1x a b)):=by
  refine PCB.ob Tryz.func45 Tryz.ntmps45 Tryz.results45 ?_
  repeat'(first|simp only[go_sem]<;>refine nf ?_|refine stp ?_;intro K hK|apply hK;clear hK K|refine stn ?_|refine stq ?_|fail)
  all_goals(first|exact fun _ h=>absurd h zaf|refine a0m ?_)
  all_goals(rw[Vt,a0a (a1x a b)];rfl)
def b5V (k:Int) (s:Src):Val×Src:=
  bif decide (k=0) then (a3j (c5z s),a0g s 10) else
  bif decide (k=1) then (a4j (a8S s),a0g s 4) else
  bif decide (k=2) then (a6p (b1q s),a0g s 4) else
  bif decide (k=3) then (b4e (a0j s 3),a0g s 3) else
  bif decide (k=4) then (a0W,s) else (a1m [],s)
def a31 (s:Src):Val×Src:=b5V (a0j s 6) (a0g s 6)
theorem c5Z:PC zP 27 [.one (.dat (.sl 7 []))] (Vt (a1m [])):=by
  have h:=b18 [] (by simp)
  rw[za6] at h
  exact h
theorem c83 (s:Src) (hs:s.ok):PCB zP 84 [Sp pin] [(pin,a00 s)] (Vt (a31 s).1) [(pin,a00 (a31 s).2)]:=by
 have hv:=a0p s (n:=6) (by omega)
 have hk:a0j s 6=0∨a0j s 6=1∨a0j s 6=2∨a0j s 6=3∨a0j s 6=4∨a0j s 6=5:=by omega
 have q:=a0k hs 6
 rcases hk with hk|hk|hk|hk|hk|hk
 all_goals(rw[a31,hk])
 all_goals
  refine PCB.ob Tryz.func84 Tryz.ntmps84 Tryz.results84 ?_
  repeat'(first|simp only[go_sem,pin,hk]<;>refine nf ?_|refine stp ?_;intro K hK|apply hK;clear hK K|refine stn ?_|(with_reducible first|refine⟨_,a95 _,?_⟩|refine⟨_,a7m _,?_⟩|refine⟨_,a59 _,?_⟩|refine⟨_,b7a _,?_⟩|refine⟨_,a1r,?_⟩|refine⟨_,c5Z,?_⟩)|(refine⟨1000000,_,_,_,a0u 1000000 _ (by repeat(first|with_reducible exact hs|with_reducible refine a0k ?_ _)) _ (by omega),rfl,?_⟩)|(refine⟨1000000,_,_,_,b77 1000000 _ q,rfl,?_⟩)|(refine⟨1000000,_,_,_,a4G 1000000 _ q,rfl,?_⟩)|(refine⟨1000000,_,_,_,b2M 1000000 _ q,rfl,?_⟩)|refine stq ?_|clear hK K)
 all_goals(first|refine⟨rfl,fun x hx=>?_⟩|refine fun x hx=>?_)
 all_goals(simp only[za7] at hx;subst hx;simp[b5V,pin])
theorem b0G (k:Nat) (s:Src) (hs:s.ok):a1k zP 84 [Sp k] k (a00 s) (Vt (a31 s).1) (a00 (a31 s).2):=a1k.mk k (c83 s hs)
theorem c2I (k:Int) {s:Src} (h:s.ok):(b5V k s).2.ok:=by
  unfold b5V
  cases decide (k=0)<;>cases decide (k=1)<;>cases decide (k=2)<;>cases decide (k=3)<;>cases decide (k=4)<;>first|exact h|exact a0k h _
theorem a4N {s:Src} (h:s.ok):(a31 s).2.ok:=c2I _ (a0k h 6)
def labL:List (List UInt8):=[[65],[66],[67]]
def a5w (s:Src):List UInt8:=labL.getD (a0j s 3).toNat []
theorem c50 (s:Src) (hs:s.ok):PCB zP 118 [Sp pin] [(pin,a00 s)] (S (a5w s)) [(pin,a00 (a0g s 3))]:=by
  refine PCB.ob Tryz.func118 Tryz.ntmps118 Tryz.results118 ?_
  have hv:=a0p s (n:=3) (by omega)
  repeat'(first|simp only[go_sem,pin]<;>refine nf ?_|refine stp ?_;intro K hK|apply hK;clear hK K|refine stn ?_|(refine⟨1000000,_,_,_,a0u 1000000 s hs 3 (by omega),rfl,?_⟩)|( refine⟨hv.1,[.str (a5w s)],a4Y (fun x=>[C.str x]) labL [] hv,?_⟩)|refine stq ?_|fail)
  all_goals exact fun x hx=>hx
theorem b5W (k:Nat) (s:Src) (hs:s.ok):a1k zP 118 [Sp k] k (a00 s) (S (a5w s)) (a00 (a0g s 3)):=a1k.mk k (c50 s hs)
def tw {α:Type} (p:α→Bool):List α→Nat
  |[]=>0
  |x::l=>bif p x then 1+tw p l else 0
theorem b5X {α:Type} {p:α→Bool} {l:List α} {k:Nat} {x:α} (hx:l[k]?= some x):tw p (l.drop k)=bif p x then 1+tw p (l.drop (k+1)) else 0:=by
  obtain⟨h1,e1⟩:=zak.1 hx
  rw[za8 h1,e1];rfl
theorem b9P {α:Type} {p:α→Bool} {l:List α}:tw p (l.drop l.length)=0:=by rw[zbw];rfl
def a3e {α:Type} (k:Nat) (x:α) (l:List α):List α:=l.take k++[x]++l.drop k
theorem a3s {α:Type} (k:Nat) (x:α) (l:List α):(a3e k x l).length=l.length+1:=by
  unfold a3e;simp;omega
def b19 (s:List (List UInt8)) (x:List UInt8):List (List UInt8):=
  bif decide (s[tw (fun y=>Op.bytesLess y x) s]?= some x) then s else a3e (tw (fun y=>Op.bytesLess y x) s) x s
def a0M (l:List (List UInt8)):List (List UInt8):=l.foldl b19 []
theorem a3L {α β:Type} {f:β→α→β} {b:β} {l:List α} {k:Nat} {x:α} (hx:l[k]?= some x):(l.take (k+1)).foldl f b=f ((l.take k).foldl f b) x:=by
  rw[zb8,hx];simp
theorem c2J (s:List (List UInt8)) (x:List UInt8):(b19 s x).length≤s.length+1:=by
  unfold b19;cases decide (s[tw (fun y=>Op.bytesLess y x) s]?= some x)<;>simp[a3s]
theorem a33 {α:Type} (f:α→List C) (l:List α) (k:Nat):List.take k (l.map f)=(l.take k).map f:=by rw[List.map_take]
theorem a4O {α:Type} (f:α→List C) (l:List α) (k:Nat):List.drop k (l.map f)=(l.drop k).map f:=by rw[List.map_drop]
theorem b9Q (s:List (List UInt8)) (k:Nat) (x:List UInt8):(List.map Sx.encStr (s.take k)++[[C.str x]])++List.map Sx.encStr (s.drop k)=(a3e k x s).map Sx.encStr:=by
  unfold a3e;simp[Sx.encStr]
theorem b9R (s:List (List UInt8)) (x:List UInt8):(List.map Sx.encStr s++[[C.str x]])++List.map Sx.encStr (s.drop s.length)=(a3e s.length x s).map Sx.encStr:=by
  unfold a3e;simp[Sx.encStr]
theorem a5c (l:List (List UInt8)) (hl:l.length≤1000000):PC zP 52 [.one (.dat (.sl 1 (l.map Sx.encStr)))] (.one (.dat (.sl 1 ((a0M l).map Sx.encStr)))):=by
 refine PCB.ob Tryz.func52 Tryz.ntmps52 Tryz.results52 ?_
 repeat'(first|simp only[go_sem,lB]<;>refine nf ?_|refine stp ?_;intro K hK|apply hK;clear hK K|refine stn ?_|fail)
 refine xD (Gh.nilrow 3 900 rfl rfl rfl rfl) ?_
 refine xD (Gh.fz 900) ?_
 refine sts ?_
 refine xF 0 rfl fun q=>?_
 (try rw[lB] at q)
 refine xC (S:=List (List UInt8)) (l) Sx.encStr (fun k s=>(4,I .i64 (k:Nat))::[(3, .one (.dat (.sl 1 (s.map Sx.encStr))))]) (fun k s=>[]) [0] [] (fun k s=>Is s ((l.take k).foldl b19 [])∧s.length≤k) ([]) (by refine sts ?_;exact Gh.tt []) ?_ ?_ ?_
 ·exact⟨rfl,zax _⟩
 ·intro k s x af hx ab hb u
  obtain⟨u,aj⟩:=u
  refine sts ?_
  repeat'(first|simp only[go_sem,lB,hb]<;>refine nf ?_|refine stp ?_;intro K hK|apply hK;clear hK K|refine stn ?_|fail)
  refine AWP.loopF (X:=Nat) (fun j=>[(5,I .i64 j)]) (fun j=>[]) [0,3,4] [] (fun j=>j≤s.length∧tw (fun y=>Op.bytesLess y x) s=j+tw (fun y=>Op.bytesLess y x) (s.drop j)) (fun j=>s.length-j) (0) (by refine sts ?_;exact Gh.tt []) ?_ ?_
  ·exact⟨zao _,by simp⟩
  rintro j ⟨hj,hp⟩
  refine sts ?_
  by_cases ah:j<s.length
  ·obtain⟨y,hy,ag,aa,_⟩:=a1A (enc:=Sx.encStr) ah
   rw[b5X hy] at hp
   cases hz:Op.bytesLess y x<;>simp only[hz,zaa,zab,Nat.add_zero] at hp
   ·cases ad:decide (y=x)
    ·
     repeat'(first|simp only[go_sem,lB,aa,hb,hz,ad,Sx.encStr,Int.toNat_natCast,lJ,lK,a33,a4O,b9Q,b9R]<;>refine nf ?_|refine stp ?_;intro K hK|apply hK;clear hK K|refine stn ?_|(with_reducible first|refine⟨by omega,Sx.encStr x,ab,?_⟩|refine⟨by omega,Sx.encStr y,ag,?_⟩|(refine⟨(by first|omega|(simp only[lA,lB,lQ,za1,lC,lD,za4];omega):_≤_),?_⟩))|(with_reducible refine AWP.genR (id:=10) [6,10] [48] mixed (by kernel_rfl) fun K hK=>?_;simp only[Bx.outs,Bx.drop,zaa,zab,Nat.reduceBEq,go_sem])|(refine a0J ?_;intro K hK)|refine stq ?_|clear hK K)
     all_goals(rw[a0b af q])
     all_goals(refine⟨a3e j x s,?_,?_⟩)
     all_goals(try first
      |(refine Gh.trans (xH 59 rfl rfl (by simp only[go_sem,lB,lA]) (by simp only[go_sem,lB,lA])) ?_;simp only[go_sem,lB,lA];exact Gh.tt [])
      |(exact Gh.tt []))
     all_goals(refine⟨?_,by rw[a3s];omega⟩;rw[Is,a3L hx,← u,b19,hp,hy];rw[show decide (some y=some x)=decide (y=x) from by simp,ad];try rfl)
    ·
     repeat'(first|simp only[go_sem,lB,aa,hb,hz,ad,Sx.encStr]<;>refine nf ?_|refine stp ?_;intro K hK|apply hK;clear hK K|refine stn ?_|(with_reducible first|refine⟨by omega,Sx.encStr x,ab,?_⟩|refine⟨by omega,Sx.encStr y,ag,?_⟩)|(refine a0J ?_;intro K hK)|clear hK K)
     all_goals(rw[a0b af q])
     all_goals(refine⟨s,?_,Gh.tt []⟩)
     all_goals(refine⟨?_,by omega⟩;rw[Is,a3L hx,← u,b19,hp,hy];rw[show decide (some y=some x)=decide (y=x) from by simp,ad];try rfl)
   ·
    repeat'(first|simp only[go_sem,lB,aa,hz,Sx.encStr]<;>refine nf ?_|refine stp ?_;intro K hK|apply hK;clear hK K|refine stn ?_|(with_reducible first|refine⟨by omega,Sx.encStr x,ab,?_⟩|refine⟨by omega,Sx.encStr y,ag,?_⟩)|(refine a0J ?_;intro K hK)|clear hK K)
    all_goals(rw[a0b ah (by omega)])
    all_goals(refine⟨j+1,by omega,⟨by omega,by omega⟩,Gh.tt []⟩)
  ·have ai:j=s.length:=by omega
   subst ai
   have aa:decide ((s.length:Int)<(s.length:Int))=false:=by simp
   rw[b9P,Nat.add_zero] at hp
   have ae:s[s.length]?= none:=by simp
   repeat'(first|simp only[go_sem,lB,aa,hb,Sx.encStr,Int.toNat_natCast,lJ,lK,a33,a4O,b9Q,b9R]<;>refine nf ?_|refine stp ?_;intro K hK|apply hK;clear hK K|refine stn ?_|(with_reducible first|refine⟨by omega,Sx.encStr x,ab,?_⟩|(refine⟨(by first|omega|(simp only[lA,lB,lQ,za1,lC,lD,za4];omega):_≤_),?_⟩))|(with_reducible refine AWP.genR (id:=10) [6,10] [48] mixed (by kernel_rfl) fun K hK=>?_;simp only[Bx.outs,Bx.drop,zaa,zab,Nat.reduceBEq,go_sem])|(refine a0J ?_;intro K hK)|refine stq ?_|clear hK K)
   all_goals(rw[a0b af q])
   all_goals(refine⟨a3e s.length x s,?_,?_⟩)
   all_goals(try first
    |(refine Gh.trans (xH 59 rfl rfl (by simp only[go_sem,lB,lA]) (by simp only[go_sem,lB,lA])) ?_;simp only[go_sem,lB,lA];exact Gh.tt [])
    |(exact Gh.tt []))
   all_goals(refine⟨?_,by rw[a3s];omega⟩;rw[Is,a3L hx,← u,b19,hp,ae];try rfl)
 ·intro s hb u
  refine sts ?_
  repeat'(first|simp only[go_sem,lB,hb]<;>refine nf ?_|refine stp ?_;intro K hK|apply hK;clear hK K|refine stn ?_|clear hK K)
  all_goals(first|exact fun _ h=>absurd h zaf|refine a0m ?_)
  all_goals(rw[show s=_ from u.1,lK];rfl)
theorem c84 (v:Val) (hk:v.kind=8):PC zP 87 [.st (a0c v)] (Bo (a0K v)):=by
 have u:a40 v.labels=goB Lib.compareBytes a0X none v.labels:=by rw[a5a];rfl
 refine PCB.ob Tryz.func87 Tryz.ntmps87 Tryz.results87 ?_
 repeat'(first|simp only[go_sem,a0a,hk]<;>refine nf ?_|refine stp ?_;intro K hK|apply hK;clear hK K|refine stn ?_|fail)
 refine AWP.lenB 1 6 rfl rfl fun ag=>?_
 (try rw[lB] at ag)
 refine xC (S:=Unit) (v.labels) Sx.encStr (fun k s=>(3,I .i64 (k:Nat))::[]) (fun k s=>[]) [1] [1] (fun k s=>goB Lib.compareBytes a0X none v.labels=goB Lib.compareBytes a0X (a49 v.labels k) (v.labels.drop k)) (()) (by simp only[go_sem,a0a];exact Gh.tt []) ?_ ?_ ?_
 ·rfl
 ·intro k s x ai hx af hb q
  refine sts ?_
  rcases zb9 k with aa|aa
  ·rw[a4r aa hx] at q
   have ab:decide ((0:Int)<(k:Int))=false:=by rw[aa];rfl
   cases hz:a0X x<;>simp only[hz,zae,zai] at q
   ·
    repeat'(first|simp only[go_sem,a0a,Sx.encStr,hk,lB,hb,hz,ab]<;>refine nf ?_|refine stp ?_;intro K hK|apply hK;clear hK K|refine stn ?_|(with_reducible first|refine⟨_,a0s x,?_⟩|refine⟨by omega,Sx.encStr x,af,?_⟩)|(refine a0J ?_;intro K hK)|clear hK K)
    all_goals(first|exact lf|(refine a0m ?_;simp only[a0K,u,q,zb,zaa,zab,zac,zad]<;>rfl))
   ·
    repeat'(first|simp only[go_sem,a0a,Sx.encStr,hk,lB,hb,hz,ab]<;>refine nf ?_|refine stp ?_;intro K hK|apply hK;clear hK K|refine stn ?_|(with_reducible first|refine⟨_,a0s x,?_⟩|refine⟨by omega,Sx.encStr x,af,?_⟩)|(refine a0J ?_;intro K hK)|clear hK K)
    all_goals(rw[a0b ai ag])
    all_goals(refine⟨(),?_,Gh.tt []⟩)
    all_goals exact q
  ·obtain⟨j,rfl⟩:∃ j,k=j+1:=⟨_,aa⟩
   obtain⟨y,hy,al,_,_⟩:=a1A (enc:=Sx.encStr) (show j<v.labels.length by omega)
   rw[a4s hy hx] at q
   have hw:IntKind.i64.wrap (((j+1:Nat):Int)-1)=(j:Int):=by rw[w64 (by omega)];omega
   have ab:decide ((0:Int)<((j+1:Nat):Int))=true:=by simp only[zan];omega
   cases hz:a0X x<;>cases hc:decide (Lib.compareBytes y x<0)<;>simp only[hz,hc,zae,zai] at q
   all_goals
    have ah:decide (0≤Lib.compareBytes y x)=!decide (Lib.compareBytes y x<0):=by rw[← zbj];simp
    rw[hc] at ah
   all_goals(have hl:=a5b y x;rw[hc] at hl)
   all_goals
    repeat'(first|simp only[go_sem,a0a,Sx.encStr,hk,lB,hb,hz,ab,hw,ah,hl]<;>refine nf ?_|refine stp ?_;intro K hK|apply hK;clear hK K|refine stn ?_|(with_reducible first|refine⟨_,a0s x,?_⟩|refine⟨by omega,Sx.encStr x,af,?_⟩|refine⟨by omega,Sx.encStr y,al,?_⟩)|(refine a0J ?_;intro K hK)|clear hK K)
   any_goals (first|exact fun _ h=>absurd h zaf|(refine a0m ?_;first|(simp only[a0K,u,q,zaw,zay,zae,zai,zap,zaj,zam,zaq,zat,zar,zaa,zab,zac,zad];done)|(simp only[a0K,u,q,zaw,zay,zae,zai,zap,zaj,zam,zaq,zat,zar,zaa,zab,zac,zad];rfl)))
   all_goals(rw[a0b ai ag])
   all_goals(refine⟨(),?_,Gh.tt []⟩)
   all_goals exact q
 intro s0 am aj
 refine sts ?_
 rw[a58] at aj
 rw[aj] at u
 have ad:c5E v=(decide ((v.keys.length:Int)=(v.kids.length:Int))&&goB a2O a0l none v.keys):=by rw[a5a];rfl
 repeat'(first|simp only[go_sem,a0a,hk,am,lB]<;>refine nf ?_|refine stp ?_;intro K hK|apply hK;clear hK K|refine stn ?_|(refine AWP.cnd ?_ ?_<;>intro h<;>(try simp only[zM,zN] at h))|(refine⟨fun h=>?_,fun h=>?_⟩<;>(try simp only[zM,zN] at h)<;>try simp only[h])|clear hK K)
 any_goals (first|exact fun _ h=>absurd h zaf|(refine a0m ?_;simp only[a0K,a0L,a2R,a56,a2m,a2n,a2o,a2p,a09,hk,Int.reduceEq,Int.reduceLE,u, *, zaw,zay,zae,zai,zap,zaj,zam,zaq,zat,zar,zaa,zab,zac,zad];done))
 refine AWP.lenB 1 4 rfl rfl fun ae=>?_
 (try rw[lB] at ae)
 refine xC (S:=Unit) (v.keys) a0i (fun k s=>(7,I .i64 (k:Nat))::[]) (fun k s=>[]) [1] [1] (fun k s=>goB a2O a0l none v.keys=goB a2O a0l (a49 v.keys k) (v.keys.drop k)) (()) (by simp only[go_sem,a0a];exact Gh.tt []) ?_ ?_ ?_
 ·rfl
 ·intro k s x ai hx af hb q
  refine sts ?_
  rcases zb9 k with aa|aa
  ·rw[a4r aa hx] at q
   have ab:decide ((0:Int)<(k:Int))=false:=by rw[aa];rfl
   cases hz:a0l x<;>simp only[hz,zae,zai] at q
   ·
    repeat'(first|simp only[go_sem,a0a,hk,lB,hb,hz,ab]<;>refine nf ?_|refine stp ?_;intro K hK|apply hK;clear hK K|refine stn ?_|(with_reducible first|refine⟨_,a2x x,?_⟩|refine⟨by omega,a0i x,af,?_⟩)|(refine a0J ?_;intro K hK)|clear hK K)
    all_goals(first|exact lf|(refine a0m ?_;simp only[a0K,a0L,a2R,a56,a2m,a2n,a2o,a2p,a09,hk,Int.reduceEq,Int.reduceLE,ad,u,q, *, zb,zaa,zab,zac,zad]<;>rfl))
   ·
    repeat'(first|simp only[go_sem,a0a,hk,lB,hb,hz,ab]<;>refine nf ?_|refine stp ?_;intro K hK|apply hK;clear hK K|refine stn ?_|(with_reducible first|refine⟨_,a2x x,?_⟩|refine⟨by omega,a0i x,af,?_⟩)|(refine a0J ?_;intro K hK)|clear hK K)
    all_goals(rw[a0b ai ae])
    all_goals(refine⟨(),?_,Gh.tt []⟩)
    all_goals exact q
  ·obtain⟨j,rfl⟩:∃ j,k=j+1:=⟨_,aa⟩
   obtain⟨y,hy,al,_,_⟩:=a1A (enc:=a0i) (show j<v.keys.length by omega)
   rw[a4s hy hx] at q
   have hw:IntKind.i64.wrap (((j+1:Nat):Int)-1)=(j:Int):=by rw[w64 (by omega)];omega
   have ab:decide ((0:Int)<((j+1:Nat):Int))=true:=by simp only[zan];omega
   cases hz:a0l x<;>cases hc:decide (a2O y x<0)<;>simp only[hz,hc,zae,zai] at q
   all_goals
    have ah:decide (0≤a2O y x)=!decide (a2O y x<0):=by rw[← zbj];simp
    rw[hc] at ah
   all_goals
    repeat'(first|simp only[go_sem,a0a,hk,lB,hb,hz,ab,hw,ah]<;>refine nf ?_|refine stp ?_;intro K hK|apply hK;clear hK K|refine stn ?_|(with_reducible first|refine⟨_,a2x x,?_⟩|refine⟨_,a5T y x,?_⟩|refine⟨by omega,a0i x,af,?_⟩|refine⟨by omega,a0i y,al,?_⟩)|(refine a0J ?_;intro K hK)|clear hK K)
   any_goals (first|exact fun _ h=>absurd h zaf|(refine a0m ?_;first|(simp only[a0K,a0L,a2R,a56,a2m,a2n,a2o,a2p,a09,hk,Int.reduceEq,Int.reduceLE,ad,u, *, q,zaw,zay,zae,zai,zap,zaj,zam,zaq,zat,zar,zaa,zab,zac,zad];done)|(simp only[a0K,a0L,a2R,a56,a2m,a2n,a2o,a2p,a09,hk,Int.reduceEq,Int.reduceLE,ad,u, *, q,zaw,zay,zae,zai,zap,zaj,zam,zaq,zat,zar,zaa,zab,zac,zad];rfl)))
   all_goals(rw[a0b ai ae])
   all_goals(refine⟨(),?_,Gh.tt []⟩)
   all_goals exact q
 intro s1 an ak
 refine sts ?_
 rw[a58] at ak
 rw[ak] at ad
 repeat'(first|simp only[go_sem,a0a,hk,an,lB]<;>refine nf ?_|refine stp ?_;intro K hK|apply hK;clear hK K|refine stn ?_|clear hK K)
 all_goals(first|exact lf|(refine a0m ?_;simp only[a0K,a0L,a2R,a56,a2m,a2n,a2o,a2p,a09,hk,Int.reduceEq,Int.reduceLE,u,ad, *, zb,zaa,zab,zac,zad]<;>rfl))
def a1u (s:Src):List (List UInt8)×Src:=
  bif decide (a0j s 3=1) then
    (bif decide (a0j (a0g (a0g s 3) 3) 2=1) then (a0M [a5w (a0g s 3),a5w (a0g (a0g (a0g s 3) 3) 2)],a0g (a0g (a0g (a0g s 3) 3) 2) 3)
     else (a0M [a5w (a0g s 3)],a0g (a0g (a0g s 3) 3) 2))
  else ([],a0g s 3)
theorem a8o {s:Src} (h:s.ok):(a1u s).2.ok:=by
  unfold a1u
  cases decide (a0j s 3=1)<;>cases decide (a0j (a0g (a0g s 3) 3) 2=1)<;>(repeat(first|exact h|refine a0k ?_ _))
theorem c2K (s:Src) (hs:s.ok):PCB zP 66 [Sp pin] [(pin,a00 s)] (.one (.dat (.sl 1 ((a1u s).1.map Sx.encStr)))) [(pin,a00 (a1u s).2)]:=by
  have h0:=a5c [] (by simp)
  have h1:=a5c [a5w (a0g s 3)] (by simp)
  have h2:=a5c [a5w (a0g s 3),a5w (a0g (a0g (a0g s 3) 3) 2)] (by simp)
  simp only[zau,za6,Sx.encStr] at h0 h1 h2
  refine PCB.ob Tryz.func66 Tryz.ntmps66 Tryz.results66 ?_
  repeat'(first|simp only[go_sem,pin]<;>refine nf ?_|refine stp ?_;intro K hK|apply hK;clear hK K|refine stn ?_|(refine AWP.cnd ?_ ?_<;>intro h<;>(try simp only[zM,zN] at h))|(with_reducible first|refine⟨_,h0,?_⟩|refine⟨_,h1,?_⟩|refine⟨_,h2,?_⟩)|(refine⟨1000000,_,_,_,a0u 1000000 _ (by repeat(first|with_reducible exact hs|with_reducible refine a0k ?_ _)) _ (by omega),rfl,?_⟩)|(refine⟨1000000,_,_,_,b5W 1000000 _ (by repeat(first|with_reducible exact hs|with_reducible refine a0k ?_ _)),rfl,?_⟩)|refine stq ?_|fail)
  all_goals(simp only[a1u, *, zaa,zab])
  all_goals(first|refine⟨rfl,fun x hx=>?_⟩|refine⟨trivial,fun x hx=>?_⟩)
  all_goals(simp only[za7] at hx;subst hx;simp[pin])
theorem a96 (k:Nat) (s:Src) (hs:s.ok):a1k zP 66 [Sp k] k (a00 s) (.one (.dat (.sl 1 ((a1u s).1.map Sx.encStr)))) (a00 (a1u s).2):=a1k.mk k (c2K s hs)
abbrev Ent:=List Val×Bool×Val
def c2L (s:List Ent) (k:Nat) (x:Ent):Bool:=match s[k]? with
  |some y=>decide (a7H y x=0)
  |none=>false
def c85 (s:List Ent) (x:Ent):List Ent:=
  bif c2L s (tw (fun y=>decide (a7H y x<0)) s) x then s else a3e (tw (fun y=>decide (a7H y x<0)) s) x s
def b20 (l:List Ent):List Ent:=l.foldl c85 []
theorem b9S (s:List Ent) (k:Nat) (x:Ent):(List.map a0n (s.take k)++[a0n x])++List.map a0n (s.drop k)=(a3e k x s).map a0n:=by
  unfold a3e;simp
theorem b9T (s:List Ent) (x:Ent):(List.map a0n s++[a0n x])++List.map a0n (s.drop s.length)=(a3e s.length x s).map a0n:=by
  unfold a3e;simp
theorem c2M (a b:Ent):PC zP 149 [.st (a0n a), .st (a0n b)] (I .i64 (a7H a b)):=a7c a b (fun x _ y=>a2l x y) (fun y=>a2l _ y)
theorem b9U (l:List Ent) (hl:l.length≤1000000):PC zP 174 [.one (.dat (.sl 9 (l.map a0n)))] (.one (.dat (.sl 9 ((b20 l).map a0n)))):=by
 refine PCB.ob Tryz.func174 Tryz.ntmps174 Tryz.results174 ?_
 repeat'(first|simp only[go_sem,lB]<;>refine nf ?_|refine stp ?_;intro K hK|apply hK;clear hK K|refine stn ?_|fail)
 refine xD (Gh.nilrow 3 900 rfl rfl rfl rfl) ?_
 refine xD (Gh.fz 900) ?_
 refine sts ?_
 refine xF 0 rfl fun q=>?_
 (try rw[lB] at q)
 refine xC (S:=List Ent) (l) a0n (fun k s=>(4,I .i64 (k:Nat))::[(3, .one (.dat (.sl 9 (s.map a0n))))]) (fun k s=>[]) [0] [] (fun k s=>Is s ((l.take k).foldl c85 [])∧s.length≤k) ([]) (by refine sts ?_;exact Gh.tt []) ?_ ?_ ?_
 ·exact⟨rfl,zax _⟩
 ·intro k s x af hx ab hb u
  obtain⟨u,ak⟩:=u
  refine sts ?_
  repeat'(first|simp only[go_sem,lB,hb]<;>refine nf ?_|refine stp ?_;intro K hK|apply hK;clear hK K|refine stn ?_|fail)
  refine AWP.loopF (X:=Nat) (fun j=>[(5,I .i64 j)]) (fun j=>[]) [0,3,4] [] (fun j=>j≤s.length∧tw (fun y=>decide (a7H y x<0)) s=j+tw (fun y=>decide (a7H y x<0)) (s.drop j)) (fun j=>s.length-j) (0) (by refine sts ?_;exact Gh.tt []) ?_ ?_
  ·exact⟨zao _,by simp⟩
  rintro j ⟨hj,hp⟩
  refine sts ?_
  by_cases ai:j<s.length
  ·obtain⟨y,hy,ag,aa,_⟩:=a1A (enc:=a0n) ai
   rw[b5X hy] at hp
   have ah:=c2M y x
   cases hz:decide (a7H y x<0)<;>simp only[hz,zaa,zab,Nat.add_zero] at hp
   ·cases ad:decide (a7H y x=0)
    ·
     repeat'(first|simp only[go_sem,lB,aa,hb,hz,ad,Int.toNat_natCast,lJ,lK,a33,a4O,b9S,b9T]<;>refine nf ?_|refine stp ?_;intro K hK|apply hK;clear hK K|refine stn ?_|(with_reducible first|refine⟨_,ah,?_⟩|refine⟨by omega,a0n x,ab,?_⟩|refine⟨by omega,a0n y,ag,?_⟩|(refine⟨(by first|omega|(simp only[lA,lB,lQ,za1,lC,lD,za4];omega):_≤_),?_⟩))|(with_reducible refine AWP.genR (id:=10) [6,10] [50] mixed (by kernel_rfl) fun K hK=>?_;simp only[Bx.outs,Bx.drop,zaa,zab,Nat.reduceBEq,go_sem])|(refine a0J ?_;intro K hK)|refine stq ?_|clear hK K)
     all_goals(rw[a0b af q])
     all_goals(refine⟨a3e j x s,?_,?_⟩)
     all_goals(try first
      |(refine Gh.trans (xH 61 rfl rfl (by simp only[go_sem,lB,lA]) (by simp only[go_sem,lB,lA])) ?_;simp only[go_sem,lB,lA];exact Gh.tt [])
      |(exact Gh.tt []))
     all_goals(refine⟨?_,by rw[a3s];omega⟩;rw[Is,a3L hx,← u,c85,hp];simp only[c2L,hy,ad];try rfl)
    ·
     repeat'(first|simp only[go_sem,lB,aa,hb,hz,ad]<;>refine nf ?_|refine stp ?_;intro K hK|apply hK;clear hK K|refine stn ?_|(with_reducible first|refine⟨_,ah,?_⟩|refine⟨by omega,a0n x,ab,?_⟩|refine⟨by omega,a0n y,ag,?_⟩)|(refine a0J ?_;intro K hK)|clear hK K)
     all_goals(rw[a0b af q])
     all_goals(refine⟨s,?_,Gh.tt []⟩)
     all_goals(refine⟨?_,by omega⟩;rw[Is,a3L hx,← u,c85,hp];simp only[c2L,hy,ad];try rfl)
   ·
    repeat'(first|simp only[go_sem,lB,aa,hz]<;>refine nf ?_|refine stp ?_;intro K hK|apply hK;clear hK K|refine stn ?_|(with_reducible first|refine⟨_,ah,?_⟩|refine⟨by omega,a0n x,ab,?_⟩|refine⟨by omega,a0n y,ag,?_⟩)|(refine a0J ?_;intro K hK)|clear hK K)
    all_goals(rw[a0b ai (by omega)])
    all_goals(refine⟨j+1,by omega,⟨by omega,by omega⟩,Gh.tt []⟩)
  ·have aj:j=s.length:=by omega
   subst aj
   have aa:decide ((s.length:Int)<(s.length:Int))=false:=by simp
   rw[b9P,Nat.add_zero] at hp
   have ae:s[s.length]?= none:=by simp
   repeat'(first|simp only[go_sem,lB,aa,hb,Int.toNat_natCast,lJ,lK,a33,a4O,b9S,b9T]<;>refine nf ?_|refine stp ?_;intro K hK|apply hK;clear hK K|refine stn ?_|(with_reducible first|refine⟨by omega,a0n x,ab,?_⟩|(refine⟨(by first|omega|(simp only[lA,lB,lQ,za1,lC,lD,za4];omega):_≤_),?_⟩))|(with_reducible refine AWP.genR (id:=10) [6,10] [50] mixed (by kernel_rfl) fun K hK=>?_;simp only[Bx.outs,Bx.drop,zaa,zab,Nat.reduceBEq,go_sem])|(refine a0J ?_;intro K hK)|refine stq ?_|clear hK K)
   all_goals(rw[a0b af q])
   all_goals(refine⟨a3e s.length x s,?_,?_⟩)
   all_goals(try first
    |(refine Gh.trans (xH 61 rfl rfl (by simp only[go_sem,lB,lA]) (by simp only[go_sem,lB,lA])) ?_;simp only[go_sem,lB,lA];exact Gh.tt [])
    |(exact Gh.tt []))
   all_goals(refine⟨?_,by rw[a3s];omega⟩;rw[Is,a3L hx,← u,c85,hp];simp only[c2L,ae];try rfl)
 ·intro s hb u
  refine sts ?_
  repeat'(first|simp only[go_sem,lB,hb]<;>refine nf ?_|refine stp ?_;intro K hK|apply hK;clear hK K|refine stn ?_|clear hK K)
  all_goals(first|exact fun _ h=>absurd h zaf|refine a0m ?_)
  all_goals(rw[show s=_ from u.1,lK];rfl)
def c4K (ks:List KeyD) (vs:List Val):Val:=⟨8,0,[],vs,ks,[],[]⟩
def c4L (ks:List KeyD) (x:KeyD):Nat:=tw (fun y=>decide (a2O y x<0)) ks
def b21:List (KeyD×Val)→List KeyD→List Val→Val×Int
  |[],ks,vs=>(c4K ks vs,0)
  |(x,v)::r,ks,vs=>bif decide (ks[c4L ks x]?= some x) then (a2f,6) else b21 r (a3e (c4L ks x) x ks) (a3e (c4L ks x) v vs)
def a8d (ks:List KeyD) (l:List Val):Val×Int:=
  bif decide ((ks.length:Int)=(l.length:Int)) then (bif ks.all a0l then b21 (ks.zip l) [] [] else (a2f,1)) else (a2f,1)
abbrev c86 (ks:List KeyD) (vs:List Val):Res:= .cells [.dat (.int .i64 8), .dat (.int .i64 0), .dat (.str []), .dat (.sl 7 (vs.map a0c)), .dat (.sl 2 (ks.map a0i)), .dat (.sl 9 []), .dat (.sl 1 [])]
theorem c51 (s:List KeyD) (k:Nat) (x:KeyD):(List.map a0i (s.take k)++[a0i x])++List.map a0i (s.drop k)=(a3e k x s).map a0i:=by
  unfold a3e;simp
theorem c52 (s:List KeyD) (x:KeyD):(List.map a0i s++[a0i x])++List.map a0i (s.drop s.length)=(a3e s.length x s).map a0i:=by
  unfold a3e;simp
theorem b9V (s:List Val) (k:Nat) (x:Val):(List.map a0c (s.take k)++[a0c x])++List.map a0c (s.drop k)=(a3e k x s).map a0c:=by
  unfold a3e;simp
theorem b22 {α β:Type} {a:List α} {b:List β} {k:Nat} {x:α} {y:β} (hx:a[k]?= some x) (hy:b[k]?= some y):(a.zip b).drop k=(x,y)::(a.zip b).drop (k+1):=by
  obtain⟨h1,e1⟩:=zak.1 hx
  obtain⟨h2,e2⟩:=zak.1 hy
  have q:k<(a.zip b).length:=by simp;try omega
  rw[za8 q,List.getElem_zip,e1,e2]
theorem b5Y {α β:Type} {a:List α} {b:List β}:(a.zip b).drop a.length=[]:=by
  rw[List.drop_eq_nil_iff];simp;try omega
theorem b2a:Vt a2f= .st [.int .i64 0, .int .i64 0, .str [], .sl 7 [], .sl 2 [], .sl 9 [], .sl 1 []]:=by rw[Vt,a42]
theorem a8p (ks:List KeyD) (l:List Val) (av:ks.length≤1000000):PC zP 46 [.one (.dat (.sl 2 (ks.map a0i))), .one (.dat (.sl 7 (l.map a0c)))] (.tup [Vt (a8d ks l).1,I .i64 (a8d ks l).2]):=by
 refine PCB.ob Tryz.func46 Tryz.ntmps46 Tryz.results46 ?_
 unfold a8d
 cases hl:decide ((ks.length:Int)=(l.length:Int))
 ·
  repeat'(first|simp only[go_sem,lB,hl]<;>refine nf ?_|refine stp ?_;intro K hK|apply hK;clear hK K|refine stn ?_|clear hK K)
  all_goals(first|exact fun _ h=>absurd h zaf|refine a0m ?_)
  all_goals(simp only[zab,b2a];try rfl)
 have ar:ks.length=l.length:=by have:=of_decide_eq_true hl;omega
 simp only[zaa]
 repeat'(first|simp only[go_sem,lB,hl]<;>refine nf ?_|refine stp ?_;intro K hK|apply hK;clear hK K|refine stn ?_|fail)
 refine xF 0 rfl fun ae=>?_
 (try rw[lB] at ae)
 refine xC (S:=Unit) (ks) a0i (fun k s=>(6,I .i64 (k:Nat))::[]) (fun k s=>[]) [0,1,4] [4] (fun k s=>ks.all a0l=(ks.drop k).all a0l) (()) (by refine sts ?_;exact Gh.tt []) ?_ ?_ ?_
 ·rfl
 ·intro k s x ag hx ab hb u
  refine sts ?_
  rw[a3b hx] at u
  cases hz:a0l x<;>simp only[hz,zae,zai] at u
  ·
   repeat'(first|simp only[go_sem,lB,hb,hz]<;>refine nf ?_|refine stp ?_;intro K hK|apply hK;clear hK K|refine stn ?_|(with_reducible first|refine⟨_,a2x x,?_⟩|refine⟨by omega,a0i x,ab,?_⟩)|refine stq ?_|clear hK K)
   all_goals(refine a0m ?_;simp only[u,zab,b2a];try rfl)
  ·
   repeat'(first|simp only[go_sem,lB,hb,hz]<;>refine nf ?_|refine stp ?_;intro K hK|apply hK;clear hK K|refine stn ?_|(with_reducible first|refine⟨_,a2x x,?_⟩|refine⟨by omega,a0i x,ab,?_⟩)|refine stq ?_|clear hK K)
   all_goals(rw[a0b ag ae])
   all_goals(refine⟨(),?_,Gh.tt []⟩)
   all_goals exact u
 intro s0 ap ad
 refine sts ?_
 rw[a4m] at ad
 simp only[ad,zaa]
 repeat'(first|simp only[go_sem,lB,ap]<;>refine nf ?_|refine stp ?_;intro K hK|apply hK;clear hK K|refine stn ?_|clear hK K)
 refine xD (Gh.soft 7 rfl) ?_
 refine xF 0 rfl fun aa=>?_
 (try rw[lB] at aa)
 refine xC (S:=List KeyD×List Val) (ks) a0i (fun k s=>(8,I .i64 (k:Nat))::[]) (fun k s=>[(7,c86 s.1 s.2)]) [0,1,4,7] [4] (fun k s=>b21 (ks.zip l) [] []=b21 ((ks.zip l).drop k) s.1 s.2∧s.1.length≤k∧s.1.length=s.2.length) (([],[])) (by refine sts ?_;exact Gh.tt []) ?_ ?_ ?_
 ·exact⟨rfl,zax _,rfl⟩
 ·rintro k ⟨q,vs⟩ x ag hx ab hb ⟨u,ao,an⟩
  simp only at u ao an
  obtain⟨v,hv,am,_,_⟩:=a1A (enc:=a0c) (show k<l.length by omega)
  rw[b22 hx hv,b21] at u
  refine sts ?_
  repeat'(first|simp only[go_sem,lB,hb]<;>refine nf ?_|refine stp ?_;intro K hK|apply hK;clear hK K|refine stn ?_|fail)
  refine AWP.loopF (X:=Nat) (fun j=>[(9,I .i64 j)]) (fun j=>[]) [0,1,4,7,8] [4,7] (fun j=>j≤q.length∧c4L q x=j+tw (fun y=>decide (a2O y x<0)) (q.drop j)) (fun j=>q.length-j) (0) (by refine sts ?_;exact Gh.tt []) ?_ ?_
  ·exact⟨zao _,by simp[c4L]⟩
  rintro j ⟨hj,hp⟩
  refine sts ?_
  by_cases al:j<q.length
  ·obtain⟨y,hy,ak,af,_⟩:=a1A (enc:=a0i) al
   have au:j<vs.length:=by omega
   rw[b5X hy] at hp
   have ai:=a5T y x
   cases hz:decide (a2O y x<0)<;>simp only[hz,zaa,zab,Nat.add_zero] at hp
   ·have aj:decide (q[c4L q x]?= some x)=decide (y=x):=by rw[hp,hy];simp
    rw[aj,hp] at u
    cases ah:decide (y=x)<;>simp only[ah,zaa,zab] at u
    ·
     repeat'(first|simp only[go_sem,lB,af,hb,hz,ah,c5F,d0y,Int.toNat_natCast,lJ,lK,a33,a4O,c51,b9V]<;>refine nf ?_|refine stp ?_;intro K hK|apply hK;clear hK K|refine stn ?_|(with_reducible first|(refine⟨_,_,_,b7b (vs.take j) (by simp only[lQ];omega),?_⟩)|refine⟨_,ai,?_⟩|refine⟨by omega,a0i x,ab,?_⟩|refine⟨by omega,a0i y,ak,?_⟩|refine⟨by omega,a0c v,am,?_⟩|(refine⟨(by first|omega|(simp only[lA,lB,lQ,za1,lC,lD,za4];omega):_≤_),?_⟩))|(with_reducible refine AWP.genM (id:=17) [4,9] mixed (by kernel_rfl) fun K hK=>?_)|(with_reducible refine AWP.genR2 (id:=18) [6,11,13] [80,7] [8] 13 [80] mixed (by kernel_rfl) fun K hK=>?_;simp only[Bx.outs,Bx.drop,zaa,zab,Nat.reduceBEq,go_sem])|(with_reducible refine AWP.genR2 (id:=19) [6,11,13] [85,7] [8] 13 [85] mixed (by kernel_rfl) fun K hK=>?_;simp only[Bx.outs,Bx.drop,zaa,zab,Nat.reduceBEq,go_sem])|(refine a0J ?_;intro K hK)|refine stq ?_|clear hK K)
     all_goals(rw[a0b ag aa])
     all_goals(refine⟨(a3e j x q,a3e j v vs),?_,?_⟩)
     all_goals(try first
      |(refine Gh.trans (xH 97 rfl rfl (by simp only[go_sem,lB,lA]) (by simp only[go_sem,lB,lA])) ?_;simp only[go_sem,lB,lA];refine Gh.trans (xH 110 rfl rfl (by simp only[go_sem,lB,lA]) (by simp only[go_sem,lB,lA])) ?_;simp only[go_sem,lB,lA];exact Gh.tt [])
      |(exact Gh.tt []))
     all_goals(refine⟨u,by simp only[a3s];omega,by simp only[a3s];omega⟩)
    ·
     repeat'(first|simp only[go_sem,lB,af,hb,hz,ah,c5F,d0y]<;>refine nf ?_|refine stp ?_;intro K hK|apply hK;clear hK K|refine stn ?_|(with_reducible first|refine⟨_,ai,?_⟩|refine⟨by omega,a0i x,ab,?_⟩|refine⟨by omega,a0i y,ak,?_⟩)|(refine a0J ?_;intro K hK)|clear hK K)
     all_goals(refine a0m ?_;simp only[ad,u,zaa,b2a];try rfl)
   ·
    repeat'(first|simp only[go_sem,lB,af,hz]<;>refine nf ?_|refine stp ?_;intro K hK|apply hK;clear hK K|refine stn ?_|(with_reducible first|refine⟨_,ai,?_⟩|refine⟨by omega,a0i x,ab,?_⟩|refine⟨by omega,a0i y,ak,?_⟩)|(refine a0J ?_;intro K hK)|clear hK K)
    all_goals(rw[a0b al (by omega)])
    all_goals(refine⟨j+1,by omega,⟨by omega,by omega⟩,Gh.tt []⟩)
  ·have aq:j=q.length:=by omega
   subst aq
   have af:decide ((q.length:Int)<(q.length:Int))=false:=by simp
   rw[b9P,Nat.add_zero] at hp
   have aj:decide (q[c4L q x]?= some x)=false:=by rw[hp];simp
   rw[aj,hp] at u
   simp only[zab] at u
   repeat'(first|simp only[go_sem,lB,af,hb,Int.toNat_natCast,lJ,lK,a33,a4O,c52,b9V]<;>refine nf ?_|refine stp ?_;intro K hK|apply hK;clear hK K|refine stn ?_|(with_reducible first|(refine⟨_,_,_,b7b (vs.take q.length) (by simp only[lQ];omega),?_⟩)|refine⟨by omega,a0i x,ab,?_⟩|refine⟨by omega,a0c v,am,?_⟩|(refine⟨(by first|omega|(simp only[lA,lB,lQ,za1,lC,lD,za4];omega):_≤_),?_⟩))|(with_reducible refine AWP.genM (id:=17) [4,9] mixed (by kernel_rfl) fun K hK=>?_)|(with_reducible refine AWP.genR2 (id:=18) [6,11,13] [80,7] [8] 13 [80] mixed (by kernel_rfl) fun K hK=>?_;simp only[Bx.outs,Bx.drop,zaa,zab,Nat.reduceBEq,go_sem])|(with_reducible refine AWP.genR2 (id:=19) [6,11,13] [85,7] [8] 13 [85] mixed (by kernel_rfl) fun K hK=>?_;simp only[Bx.outs,Bx.drop,zaa,zab,Nat.reduceBEq,go_sem])|(refine a0J ?_;intro K hK)|refine stq ?_|clear hK K)
   all_goals(rw[a0b ag aa])
   all_goals(refine⟨(a3e q.length x q,a3e q.length v vs),?_,?_⟩)
   all_goals(try first
    |(refine Gh.trans (xH 97 rfl rfl (by simp only[go_sem,lB,lA]) (by simp only[go_sem,lB,lA])) ?_;simp only[go_sem,lB,lA];refine Gh.trans (xH 110 rfl rfl (by simp only[go_sem,lB,lA]) (by simp only[go_sem,lB,lA])) ?_;simp only[go_sem,lB,lA];exact Gh.tt [])
    |(exact Gh.tt []))
   all_goals(refine⟨u,by simp only[a3s];omega,by simp only[a3s];omega⟩)
 ·rintro⟨q,vs⟩ hb ⟨u,_,_⟩
  simp only at u
  rw[b5Y,b21] at u
  refine sts ?_
  repeat'(first|simp only[go_sem,lB,hb]<;>refine nf ?_|refine stp ?_;intro K hK|apply hK;clear hK K|refine stn ?_|clear hK K)
  all_goals(refine a0m ?_;simp only[ad,u,zaa,Vt,a0a (c4K q vs)];try rfl)
end Go.Proofs.YtoelgackkclcmaaGreat

