/- Lemmas. -/
import Derived.Test.YtoelgackkclcmaaGreatPc28
open Go.Proofs.Tryz renaming prog→zP
open List renaming length_map→lB
open Bool renaming not_eq_true'→zM,not_eq_false'→zN
set_option linter.unusedSimpArgs false
set_option linter.unusedVariables false
set_option maxRecDepth 20000
set_option maxHeartbeats 64000000
namespace Go.Proofs.YtoelgackkclcmaaGreat
open Go Go.Sx
def b6g (g:Pat):Bool:=(!b3Z g.kind&&!decide (g.num=0))||((!a6w g.kind&&!decide (g.text=[]))||((!a6e g.kind&&decide ((0:Int)<g.kids.length))||(!a6x g.kind&&decide ((0:Int)<g.keys.length))))
def a4l (g:Pat):Bool:=
  bif decide (g.kind=1)||(decide (g.kind=3)||decide (g.kind=6)) then true else
  bif decide (g.kind=2) then a0X g.text else
  bif decide (g.kind=4) then decide ((g.text.length:Int)≤64) else
  bif decide (g.kind=5) then a2G g.text else
  bif decide (g.kind=7) then decide ((g.kids.length:Int)≤4) else
  bif decide (g.kind=8) then decide ((g.kids.length:Int)=2) else
  bif decide (g.kind=9) then b5x g else
  bif decide (g.kind=10) then decide ((g.kids.length:Int)=1)&&a0X g.text else false
def vP (g:Pat):Bool:=!b6g g&&a4l g
theorem b1M (g:Pat):PC zP 133 [Pt g] (Bo (vP g)):=by
 have hu:=c64 g.kind
 have q:=b6f g
 rw[show Pt g=T.st (a1d g) from rfl,a0f] at q
 rcases b7t g.kind with hk|hk|hk|hk|hk|hk|hk|hk|hk|hk|⟨g1,g2,g3,g4,g5,g6,g7,g8,g9,g10⟩
 iterate 10
  ·
   rw[hk] at hu q
   refine PCB.ob Tryz.func133 Tryz.ntmps133 Tryz.results133 ?_
   repeat'(first|simp only[go_sem,a0f g,hk,b3Z,a6w,a6e,a6x,Int.reduceEq,lB]<;>refine nf ?_|refine stp ?_;intro K hK|apply hK;clear hK K|refine stn ?_|(refine AWP.cnd ?_ ?_<;>intro h<;>(try simp only[zM,zN] at h))|(refine⟨fun h=>?_,fun h=>?_⟩<;>(try simp only[zM,zN] at h)<;>try simp only[h])|(with_reducible first|refine⟨_,hu,?_⟩|refine⟨_,a2M _,?_⟩|refine⟨_,a4x _,?_⟩|refine⟨_,q,?_⟩)|refine stq ?_|clear hK K)
   all_goals(first|exact lf|(refine a0m ?_;simp only[vP,b6g,a4l,b3Z,a6w,a6e,a6x,hk,Int.reduceEq,Int.reduceLE, *, zb,zaa,zab,zac,zad]<;>rfl))
 ·
  refine PCB.ob Tryz.func133 Tryz.ntmps133 Tryz.results133 ?_
  repeat'(first|simp only[go_sem,a0f g,b3Z,a6w,a6e,a6x,g1,g2,g3,g4,g5,g6,g7,g8,g9,g10,lB]<;>refine nf ?_|refine stp ?_;intro K hK|apply hK;clear hK K|refine stn ?_|(refine AWP.cnd ?_ ?_<;>intro h<;>(try simp only[zM,zN] at h))|(refine⟨fun h=>?_,fun h=>?_⟩<;>(try simp only[zM,zN] at h)<;>try simp only[h])|(with_reducible refine⟨_,hu,?_⟩)|refine stq ?_|clear hK K)
  all_goals(first|exact lf|(refine a0m ?_;simp only[vP,b6g,a4l,b3Z,a6w,a6e,a6x,Int.reduceEq,Int.reduceLE, *, zb,zaa,zab,zac,zad]<;>rfl))
mutual
def a04:Pat→Bool
  |⟨kind,num,text,kids,keys⟩=>vP ⟨kind,num,text,kids,keys⟩&&b4t kids
def b4t:List Pat→Bool
  |[]=>true
  |g::l=>a04 g&&b4t l
end
theorem b2n:∀ l:List Pat,b4t l=l.all a04
  |[]=>by simp only[b4t,List.all_nil]
  |g::l=>by simp only[b4t,List.all_cons,b2n l]
theorem a5f (g:Pat):a04 g=(vP g&&g.kids.all a04):=by cases g;simp only[a04,b2n]
theorem a6U {α:Type} {p:α→Bool} {l:List α} {k:Nat} {x:α} (hx:l[k]?= some x):(l.take (k+1)).all p=((l.take k).all p&&p x):=by
  rw[zb8,hx,zcs];simp
theorem c3o {α:Type} (p:α→Bool) (l:List α):(!l.any fun x=>!p x)=l.all p:=by
  induction l with
  |nil=>rfl
  |cons x l ih=>rw[List.any_cons,List.all_cons,← ih];cases p x<;>simp
theorem a9O (g:Pat):PC zP 78 [Pt g] (Bo (a04 g)):=by
 have ih:∀ k∈g.kids,PC zP 78 [Pt k] (Bo (a04 k)):=fun k hk=>a9O k
 have q:∀ k∈g.kids,PC zP 135 [Pt k] (Bo (!a04 k)):=fun k hk=>by
  have h:=ih k hk
  refine PCB.ob Tryz.func135 Tryz.ntmps135 Tryz.results135 ?_
  repeat'(first|simp only[go_sem]<;>refine nf ?_|refine stp ?_;intro K hK|apply hK;clear hK K|refine stn ?_|(with_reducible refine⟨_,h,?_⟩)|refine stq ?_|fail)
  all_goals exact lf
 have hc:=b8t 135 (fun k=>!a04 k) g.kids q
 have hv:PC zP 133 [.st (a1d g)] (Bo (vP g)):=b1M g
 have ha:=c3o a04 g.kids
 rw[a0f] at hv
 rw[a5f]
 refine PCB.ob Tryz.func78 Tryz.ntmps78 Tryz.results78 ?_
 cases hz:vP g
 all_goals
  repeat'(first|simp only[go_sem,a0f g,hz]<;>refine nf ?_|refine stp ?_;intro K hK|apply hK;clear hK K|refine stn ?_|(with_reducible first|refine⟨_,hv,?_⟩|refine⟨_,hc,?_⟩)|refine stq ?_|fail)
 all_goals(first|exact fun _ h=>absurd h zaf|refine a0m ?_)
 all_goals(first|rfl|(rw[ha];done)|(rw[ha];rfl))
termination_by cntP g
decreasing_by exact a1C hk
def b4u {α:Type}:Option α→List α→Option α
  |o,[]=>o
  |_,z::l=>b4u (some z) l
theorem b2o {α:Type} (y:α):∀ (l:List α) (o:Option α),b4u o (l++[y])=some y
  |[],_=>rfl
  |_::l,_=>b2o y l _
theorem b3c {α:Type} (f:α→α→Int) (p:α→Bool) (x:α):∀ (l:List α) (o:Option α),goB f p o (l++[x])=(goB f p o l&&(p x&&(match b4u o l with|none=>true|some y=>decide (f y x<0))))
  |[],none=>by simp[goB,b4u]
  |[],some y=>by simp[goB,b4u]
  |z::l,none=>by simp only[List.cons_append,goB,b3c f p x l,b4u,zce]
  |z::l,some y=>by simp only[List.cons_append,goB,b3c f p x l,b4u,zce]
theorem a5D {α:Type} {f:α→α→Int} {p:α→Bool} {l:List α} {k:Nat} {x:α} (h0:k=0) (hx:l[k]?= some x):goB f p none (l.take (k+1))=(goB f p none (l.take k)&&p x):=by
  subst h0
  cases l with
  |nil=>simp at hx
  |cons z l=>simp at hx;subst hx;simp[goB]
theorem a5E {α:Type} {f:α→α→Int} {p:α→Bool} {l:List α} {k:Nat} {x y:α} (hy:l[k]?= some y) (hx:l[k+1]?= some x):goB f p none (l.take (k+2))=(goB f p none (l.take (k+1))&&(p x&&decide (f y x<0))):=by
  rw[zb8 (i:=k+1),hx,Option.toList_some,b3c]
  have:b4u none (l.take (k+1))=some y:=by rw[zb8,hy,Option.toList_some,b2o]
  rw[this]
set_option maxHeartbeats 64000000 in
theorem c65 (g:Pat) (ih:∀ k∈g.kids,PC zP 155 [Pt k] (Bo (a04 k))) (hk:g.kind=1∨g.kind=2∨g.kind=3∨g.kind=4):PC zP 155 [Pt g] (Bo (a04 g)):=by
 have ae:=a5f g
 have aa:decide ((0:Int)<(g.kids.length:Int))=!decide ((g.kids.length:Int)=0):=by rw[← zbj];simp only[zan,zbm,zah];omega
 rcases hk with hk|hk|hk|hk
 iterate 4
  ·
   refine PCB.ob Tryz.func155 Tryz.ntmps155 Tryz.results155 ?_
   repeat'(first|(with_reducible refine AWP.join (id:=6) (fun b:Bool=>[(5,Bo b)]) (fun _=>[]) [1,3] [1] (fun b=>Is (vP g) b) ?_ ?_)|simp only[go_sem,a0f g,hk,Int.reduceEq,lB]<;>refine nf ?_|refine stp ?_;intro K hK|apply hK;clear hK K|refine stn ?_|(refine AWP.cnd ?_ ?_<;>intro h<;>(try simp only[zM,zN] at h))|(refine⟨fun h=>?_,fun h=>?_⟩<;>(try simp only[zM,zN] at h)<;>try simp only[h])|(with_reducible refine⟨_,a0s _,?_⟩)|refine stq ?_|clear hK K)
   any_goals (refine a0m ?_;rw[ae];simp only[vP,b6g,a4l,b3Z,a6w,a6e,a6x,hk,aa,Int.reduceEq,Int.reduceLE, *, zb,zcc,zaa,zab,zac,zad];done)
   any_goals (refine⟨_,?_,Gh.tt []⟩;unfold Is;simp only[vP,b6g,a4l,b3Z,a6w,a6e,a6x,hk,aa,Int.reduceEq,Int.reduceLE, *, zb,zcc,zaa,zab,zac,zad];done)
   intro b af
   try simp only[go_sem]
   repeat'(first|simp only[go_sem,a0f g,lB]<;>refine nf ?_|refine stp ?_;intro K hK|apply hK;clear hK K|refine stn ?_|fail)
   refine AWP.lenB 1 3 rfl rfl fun q=>?_
   (try rw[lB] at q)
   refine AWP.range (S:=Bool) (g.kids) a1d (fun k s=>(7,I .i64 (k:Nat))::[(5,Bo s)]) (fun k s=>[]) [1,3] [1] (fun k s=>Is s (b&&(g.kids.take k).all a04)) (b) (by simp only[go_sem,a0f];exact Gh.tt []) ?_ ?_ ?_
   ·simp[Is]
   ·intro k s x ab hx ag hb u
    refine sts ?_
    have ah:=ih x (zbc hx)
    have ad:=a6U (p:=a04) hx
    cases s
    ·
     repeat'(first|simp only[go_sem,a0f g,lB,hb]<;>refine nf ?_|refine stp ?_;intro K hK|apply hK;clear hK K|refine stn ?_|clear hK K)
     all_goals(rw[a0b ab q])
     all_goals(refine⟨false,?_,Gh.tt []⟩)
     all_goals(show false=_;rw[ad,← zce,← show false=_ from u];rfl)
    ·
     repeat'(first|simp only[go_sem,a0f g,lB,hb]<;>refine nf ?_|refine stp ?_;intro K hK|apply hK;clear hK K|refine stn ?_|(with_reducible first|refine⟨_,ah,?_⟩|refine⟨by omega,a1d x,ag,?_⟩)|refine stq ?_|clear hK K)
     all_goals(rw[a0b ab q])
     all_goals(refine⟨a04 x,?_,Gh.tt []⟩)
     all_goals(show a04 x=_;rw[ad,← zce,← show true=_ from u];rfl)
   ·intro s hb u
    refine sts ?_
    rw[Is,zbh] at u
    repeat'(first|simp only[go_sem,a0f g,lB,hb]<;>refine nf ?_|refine stp ?_;intro K hK|apply hK;clear hK K|refine stn ?_|clear hK K)
    all_goals(refine a0m ?_;rw[ae,show vP g=b from af,show s=_ from u])
end Go.Proofs.YtoelgackkclcmaaGreat
namespace Go.Proofs.YtoelgackkclcmaaGreat
open Go Go.Sx
set_option maxHeartbeats 64000000 in
theorem c66 (g:Pat) (ih:∀ k∈g.kids,PC zP 155 [Pt k] (Bo (a04 k))) (g1:decide (g.kind=1)=false) (g2:decide (g.kind=2)=false) (g3:decide (g.kind=3)=false) (g4:decide (g.kind=4)=false) (g5:decide (g.kind=5)=false) (g6:decide (g.kind=6)=false) (g7:decide (g.kind=7)=false) (g8:decide (g.kind=8)=false) (g9:decide (g.kind=9)=false) (g10:decide (g.kind=10)=false):PC zP 155 [Pt g] (Bo (a04 g)):=by
 have ae:=a5f g
 have aa:decide ((0:Int)<(g.kids.length:Int))=!decide ((g.kids.length:Int)=0):=by rw[← zbj];simp only[zan,zbm,zah];omega
 refine PCB.ob Tryz.func155 Tryz.ntmps155 Tryz.results155 ?_
 repeat'(first|(with_reducible refine AWP.join (id:=6) (fun b:Bool=>[(5,Bo b)]) (fun _=>[]) [1,3] [1] (fun b=>Is (vP g) b) ?_ ?_)|simp only[go_sem,a0f g,g1,g2,g3,g4,g5,g6,g7,g8,g9,g10,lB]<;>refine nf ?_|refine stp ?_;intro K hK|apply hK;clear hK K|refine stn ?_|(refine AWP.cnd ?_ ?_<;>intro h<;>(try simp only[zM,zN] at h))|(refine⟨fun h=>?_,fun h=>?_⟩<;>(try simp only[zM,zN] at h)<;>try simp only[h])|clear hK K)
 any_goals (refine a0m ?_;rw[ae];simp only[vP,b6g,a4l,b3Z,a6w,a6e,a6x,g1,g2,g3,g4,g5,g6,g7,g8,g9,g10,aa,Int.reduceEq,Int.reduceLE, *, zb,zcc,zaa,zab,zac,zad];done)
 any_goals (refine⟨_,?_,Gh.tt []⟩;unfold Is;simp only[vP,b6g,a4l,b3Z,a6w,a6e,a6x,g1,g2,g3,g4,g5,g6,g7,g8,g9,g10,aa,Int.reduceEq,Int.reduceLE, *, zb,zcc,zaa,zab,zac,zad];done)
 intro b af
 try simp only[go_sem]
 repeat'(first|simp only[go_sem,a0f g,lB]<;>refine nf ?_|refine stp ?_;intro K hK|apply hK;clear hK K|refine stn ?_|fail)
 refine AWP.lenB 1 3 rfl rfl fun q=>?_
 (try rw[lB] at q)
 refine AWP.range (S:=Bool) (g.kids) a1d (fun k s=>(7,I .i64 (k:Nat))::[(5,Bo s)]) (fun k s=>[]) [1,3] [1] (fun k s=>Is s (b&&(g.kids.take k).all a04)) (b) (by simp only[go_sem,a0f];exact Gh.tt []) ?_ ?_ ?_
 ·simp[Is]
 ·intro k s x ab hx ag hb u
  refine sts ?_
  have ah:=ih x (zbc hx)
  have ad:=a6U (p:=a04) hx
  cases s
  ·
   repeat'(first|simp only[go_sem,a0f g,lB,hb]<;>refine nf ?_|refine stp ?_;intro K hK|apply hK;clear hK K|refine stn ?_|clear hK K)
   all_goals(rw[a0b ab q])
   all_goals(refine⟨false,?_,Gh.tt []⟩)
   all_goals(show false=_;rw[ad,← zce,← show false=_ from u];rfl)
  ·
   repeat'(first|simp only[go_sem,a0f g,lB,hb]<;>refine nf ?_|refine stp ?_;intro K hK|apply hK;clear hK K|refine stn ?_|(with_reducible first|refine⟨_,ah,?_⟩|refine⟨by omega,a1d x,ag,?_⟩)|refine stq ?_|clear hK K)
   all_goals(rw[a0b ab q])
   all_goals(refine⟨a04 x,?_,Gh.tt []⟩)
   all_goals(show a04 x=_;rw[ad,← zce,← show true=_ from u];rfl)
 ·intro s hb u
  refine sts ?_
  rw[Is,zbh] at u
  repeat'(first|simp only[go_sem,a0f g,lB,hb]<;>refine nf ?_|refine stp ?_;intro K hK|apply hK;clear hK K|refine stn ?_|clear hK K)
  all_goals(refine a0m ?_;rw[ae,show vP g=b from af,show s=_ from u])
end Go.Proofs.YtoelgackkclcmaaGreat

