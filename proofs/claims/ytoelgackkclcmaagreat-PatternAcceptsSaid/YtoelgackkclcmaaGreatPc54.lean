/- Lemmas. -/
import Derived.Test.YtoelgackkclcmaaGreatPc48
import Derived.Test.YtoelgackkclcmaaGreatPc53
open Go.Proofs.Tryz renaming prog→zP
open List renaming length_append→lA,length_map→lB,length_cons→lC,length_nil→lD,take_length→lK,mem_of_getElem?→lP,length_take→lQ
open Go.Sx.AWP renaming gh→xD
open Go.Sx.Gh renaming freeze→xH
set_option linter.unusedSimpArgs false
set_option linter.unusedVariables false
set_option maxRecDepth 20000
set_option maxHeartbeats 64000000
namespace Go.Proofs.YtoelgackkclcmaaGreat
open Go Go.Sx
def in6 (n:Int):Bool:=decide (-9223372036854775808≤n)&&decide (n≤9223372036854775807)
mutual
def nOk:Pat→Bool
  |⟨_,num,_,kids,_⟩=>in6 num&&d0i kids
def d0i:List Pat→Bool
  |[]=>true
  |g::l=>nOk g&&d0i l
end
theorem b8b:∀ l:List Pat,d0i l=l.all nOk
  |[]=>by simp only[d0i,List.all_nil]
  |g::l=>by simp only[d0i,List.all_cons,b8b l]
theorem b8c (g:Pat):nOk g=(in6 g.num&&g.kids.all nOk):=by cases g;simp only[nOk,b8b]
theorem c75 {g:Pat} (h:nOk g=true):Ivl.In6 ⟨g.num,g.num⟩:=by
  rw[b8c,zag] at h
  have:=h.1
  unfold in6 at this
  simp only[zag,zan] at this
  exact⟨this,this⟩
theorem c76 {g k:Pat} (h:nOk g=true) (hk:k∈g.kids):nOk k=true:=by
  rw[b8c,zag,za0] at h
  exact h.2 k hk
theorem c4o (s:Src):in6 (c5z s)=true:=by
  have hv:=a0p s (n:=10) (by omega)
  unfold c5z
  have:(a0j s 10).toNat<10:=by omega
  generalize (a0j s 10).toNat=k at this
  have h:∀ k,k<10→in6 (d09.getD k 0)=true:=by decide
  exact h k this
theorem b8d {k n:Int} (hn:in6 n=true) (t:List UInt8):nOk (b3j k n t)=true:=by rw[b8c];show (in6 n&&true)=true;rw[hn];rfl
theorem b3P:∀ (d:Nat) (ns:List (List UInt8)) (s:Src),nOk (a1M d ns s).1=true
 |0,ns,s=>by
  unfold a1M b6k
  cases decide (a0j s 6=0)<;>cases decide (a0j s 6=1)<;>cases decide (a0j s 6=2)<;>cases decide (a0j s 6=3)<;>cases decide (a0j s 6=4)<;>first
   |exact b8d rfl _
   |exact b8d (c4o _) _
 |d+1,ns,s=>by
  have h1:=b3P d (ns.take (ns.length / 2)) s
  have h2:=b3P d (ns.drop (ns.length / 2)) (a1M d (ns.take (ns.length / 2)) s).2
  unfold a1M b4C
  generalize (a1M d (ns.take (ns.length / 2)) s).1=a at*
  generalize (a1M d (ns.take (ns.length / 2)) s).2=s2 at*
  generalize (a1M d (ns.drop (ns.length / 2)) s2).1=b at*
  generalize (a1M d (ns.drop (ns.length / 2)) s2).2=s3 at*
  have h0:in6 0=true:=rfl
  cases decide (a0j s3 6=0)<;>cases decide (a0j s3 6=1)<;>cases decide (a0j s3 6=2)<;>cases decide (a0j s3 6=3)<;>cases decide (a0j s3 6=4)<;>simp only[zaa,zab]<;>first
   |exact h1
   |(rw[b8c];simp[b3k,h0,h1,h2])
def c17:Prop:=∀ (g:Pat) (ts:List TyD),g.keys.length=ts.length→ts.length≤8→TyS 2500 ts→(∀ t∈ts,wfP t.1 t.2=0)→PC zP 94 [Pt g,Tys ts] (LTy (a5V g.keys ts))
theorem d0j (bs:List BdD) (g:Pat) (h:g.kind=1):PC zP 48 [Pt g,Bds bs] (LTy (a07 bs g)):=by
  have e:a07 bs g=a9o:=by rw[a2d,h];rfl
  rw[e]
  refine PCB.ob Tryz.func48 Tryz.ntmps48 Tryz.results48 ?_
  repeat'(first|simp only[go_sem,a0f,h]<;>refine nf ?_|refine stp ?_;intro K hK|apply hK;clear hK K|refine stn ?_|(with_reducible refine⟨_,c7n,?_⟩)|refine stq ?_|clear hK K)
  all_goals(first|exact fun _ h=>absurd h zaf|(refine a0m ?_;rfl))
theorem d0k (bs:List BdD) (hb:BdL bs) (g:Pat) (h:g.kind=2):PC zP 48 [Pt g,Bds bs] (LTy (a07 bs g)):=by
  have e:a07 bs g=b5z bs g.text:=by rw[a2d,h];rfl
  have hB:=b76 g.text bs hb
  rw[e]
  refine PCB.ob Tryz.func48 Tryz.ntmps48 Tryz.results48 ?_
  repeat'(first|simp only[go_sem,a0f,h]<;>refine nf ?_|refine stp ?_;intro K hK|apply hK;clear hK K|refine stn ?_|(with_reducible refine⟨_,hB,?_⟩)|refine stq ?_|clear hK K)
  all_goals(first|exact fun _ h=>absurd h zaf|(refine a0m ?_;rfl))
theorem d0l (bs:List BdD) (g:Pat) (h:g.kind=3) (hn:nOk g=true):PC zP 48 [Pt g,Bds bs] (LTy (a07 bs g)):=by
  have e:a07 bs g=a9Z [⟨g.num,g.num⟩]:=by rw[a2d,h];rfl
  have hI:PC zP 89 [.one (.dat (.sl 2 [[.int .i64 g.num, .int .i64 g.num]]))] (LTy (a9Z [⟨g.num,g.num⟩])):=c9U [⟨g.num,g.num⟩] (fun r hr=>by rw[za7.1 hr];exact c75 hn) (by simp)
  rw[e]
  refine PCB.ob Tryz.func48 Tryz.ntmps48 Tryz.results48 ?_
  repeat'(first|simp only[go_sem,a0f,h]<;>refine nf ?_|refine stp ?_;intro K hK|apply hK;clear hK K|refine stn ?_|(with_reducible refine⟨_,hI,?_⟩)|refine stq ?_|clear hK K)
  all_goals(first|exact fun _ h=>absurd h zaf|(refine a0m ?_;rfl))
theorem d0m (bs:List BdD) (g:Pat) (h:g.kind=4):PC zP 48 [Pt g,Bds bs] (LTy (a07 bs g)):=by
  have e:a07 bs g=a2Z 4 5 false [g.text]:=by rw[a2d,h];rfl
  have hI:PC zP 90 [.st [.bool false, .sl 1 [[.str g.text]]]] (LTy (a2Z 4 5 false [g.text])):=c1B false [g.text] (by simp)
  rw[e]
  refine PCB.ob Tryz.func48 Tryz.ntmps48 Tryz.results48 ?_
  repeat'(first|simp only[go_sem,a0f,h]<;>refine nf ?_|refine stp ?_;intro K hK|apply hK;clear hK K|refine stn ?_|(with_reducible refine⟨_,hI,?_⟩)|refine stq ?_|clear hK K)
  all_goals(first|exact fun _ h=>absurd h zaf|(refine a0m ?_;rfl))
theorem d0n (bs:List BdD) (g:Pat) (h:g.kind=5):PC zP 48 [Pt g,Bds bs] (LTy (a07 bs g)):=by
  have e:a07 bs g=a2Z 6 7 false [g.text]:=by rw[a2d,h];rfl
  have hI:PC zP 91 [.st [.bool false, .sl 1 [[.str g.text]]]] (LTy (a2Z 6 7 false [g.text])):=c7E false [g.text] (by simp)
  rw[e]
  refine PCB.ob Tryz.func48 Tryz.ntmps48 Tryz.results48 ?_
  repeat'(first|simp only[go_sem,a0f,h]<;>refine nf ?_|refine stp ?_;intro K hK|apply hK;clear hK K|refine stn ?_|(with_reducible refine⟨_,hI,?_⟩)|refine stq ?_|clear hK K)
  all_goals(first|exact fun _ h=>absurd h zaf|(refine a0m ?_;rfl))
theorem d0o (bs:List BdD) (g:Pat) (h:g.kind=6):PC zP 48 [Pt g,Bds bs] (LTy (a07 bs g)):=by
  have e:a07 bs g=([a1c 9],0):=by rw[a2d,h];rfl
  rw[e]
  refine PCB.ob Tryz.func48 Tryz.ntmps48 Tryz.results48 ?_
  repeat'(first|simp only[go_sem,a0f,h]<;>refine nf ?_|refine stp ?_;intro K hK|apply hK;clear hK K|refine stn ?_|refine stq ?_|clear hK K)
  all_goals(first|exact fun _ h=>absurd h zaf|(refine a0m ?_;rfl))
theorem c77 (bs:List BdD) (hb:BdL bs) (g k0:Pat) (h:g.kind=10) (q:g.kids=[k0]) (hk:PC zP 48 [.st (a1d k0),Bds bs] (LTy (a07 bs k0))) (hG:TyG (a07 bs k0) 2400):PC zP 48 [Pt g,Bds bs] (LTy (a07 bs g)):=by
  have e:a07 bs g=a5i [a07 bs k0,b5z bs g.text]:=by rw[a2d,h,q,d0S];rfl
  have hB:=b76 g.text bs hb
  have h2:=c1L hb g.text
  have hT:TyS 2500 [a07 bs k0,b5z bs g.text]:=b6C hG.sm h2.sm (by have:=hG.len;omega) (by have:=h2.len;omega) (by omega)
  have hI:=b7H _ _ hT
  rw[e]
  refine PCB.ob Tryz.func48 Tryz.ntmps48 Tryz.results48 ?_
  repeat'(first|simp only[go_sem,a0f g,h,q,zau,za6]<;>refine nf ?_|refine stp ?_;intro K hK|apply hK;clear hK K|refine stn ?_|(with_reducible first|refine⟨_,hB,?_⟩|refine⟨_,hk,?_⟩|refine⟨_,hI,?_⟩)|(with_reducible refine AWP.segP (id:=7) 12 mixed (by kernel_rfl) fun K hK=>?_;simp only[List.take_succ_cons,List.take_zero,zb4,zb2])|clear hK K)
  all_goals(first|exact fun _ h=>absurd h zaf|(refine a0m ?_;rfl))
theorem b1u (l:List TyD) (t:TyD):l.map a1Q++[[.sl 8 (t.1.map a0e), .int .i64 t.2]]=(l++[t]).map a1Q:=by rw[zbn];rfl
theorem d0p (bs:List BdD) (g:Pat) (h:g.kind=7) (hc:g.kids.length≤40) (hS:TyS 2500 (g.kids.map (a07 bs))) (ih:∀ k∈g.kids,PC zP 48 [.st (a1d k),Bds bs] (LTy (a07 bs k))):PC zP 48 [Pt g,Bds bs] (LTy (a07 bs g)):=by
 have e:a07 bs g=b9A (g.kids.map (a07 bs)):=by rw[a2d,h];rfl
 have hT:PC zP 92 [Tys (g.kids.map (a07 bs))] (LTy (b9A (g.kids.map (a07 bs)))):=c7p _ hS
 rw[e]
 refine PCB.ob Tryz.func48 Tryz.ntmps48 Tryz.results48 ?_
 repeat'(first|simp only[go_sem,a0f g,h,lB]<;>refine nf ?_|refine stp ?_;intro K hK|apply hK;clear hK K|refine stn ?_|fail)
 refine xD (Gh.nilrow 5 901 rfl rfl rfl rfl) ?_
 refine AWP.lenB 2 3 rfl rfl fun aa=>?_
 (try rw[lB] at aa)
 refine AWP.range (S:=List TyD) (g.kids) a1d (fun k s=>(64,I .i64 (k:Nat))::[(5, .one (.own 901 s.length))]) (fun k s=>[(901, .row 2 (s.map a1Q))]) [1,2,4,62,63] [2,4] (fun k s=>Is s ((g.kids.take k).map (a07 bs))) ([]) (by simp only[go_sem,a0f g];exact Gh.tt []) ?_ ?_ ?_
 ·rfl
 ·intro k s x ae hx ab u q
  refine sts ?_
  unfold Is at q
  have ad:=ih x (lP hx)
  have af:s.length≤40:=by rw[q,lB,lQ];omega
  repeat'(first|simp only[go_sem,a0f g,lB,u,b1u]<;>refine nf ?_|refine stp ?_;intro K hK|apply hK;clear hK K|refine stn ?_|(with_reducible first|refine⟨_,ad,?_⟩|refine⟨(by omega:_≤_),a1d x,ab,?_⟩|(refine⟨(by first|omega|(simp only[lA,lB,lQ,za1,lC,lD,za4];omega):_≤_),?_⟩))|refine stq ?_|clear hK K)
  all_goals(rw[a0b ae aa])
  all_goals(refine⟨s++[a07 bs x],?_,Gh.tt [(901,73)]⟩)
  all_goals(unfold Is;rw[zb8,hx,zbn,← q];rfl)
 ·intro s u q
  refine sts ?_
  unfold Is at q
  rw[lK] at q
  subst q
  repeat'(first|(refine atR 24 (xH 901 (by rfl) (by rfl) (by simp only[go_sem,a0f g,h,lB,u,lB]) (by simp only[go_sem,a0f g,h,lB,u,lB])) ?_;simp only[frE,frB,Bx.drop,go_sem,a0f g,h,lB,u])|simp only[go_sem,a0f g,h,lB,u]<;>refine nf ?_|refine stp ?_;intro K hK|apply hK;clear hK K|refine stn ?_|(with_reducible refine⟨_,hT,?_⟩)|refine stq ?_|clear hK K)
  all_goals(first|exact fun _ h=>absurd h zaf|(refine a0m ?_;rfl))
theorem d0q (bs:List BdD) (g:Pat) (h:g.kind=8) (k0 k1:Pat) (ab:g.kids=[k0,k1]) (hS:TyS 2500 (g.kids.map (a07 bs))) (ih:∀ k∈g.kids,PC zP 48 [.st (a1d k),Bds bs] (LTy (a07 bs k))):PC zP 48 [Pt g,Bds bs] (LTy (a07 bs g)):=by
 have e:a07 bs g=a3A 12 (g.kids.map (a07 bs)):=by rw[a2d,h];rfl
 have hc:g.kids.length≤40:=by rw[ab];simp
 have af:TyS 2500 [a07 bs k0,a07 bs k1]:=by rw[ab] at hS;exact hS
 have hT:PC zP 93 [LTy (a07 bs k0),LTy (a07 bs k1)] (LTy (c9J (a07 bs k0) (a07 bs k1))):=c9K _ _ af
 rw[e]
 refine PCB.ob Tryz.func48 Tryz.ntmps48 Tryz.results48 ?_
 repeat'(first|simp only[go_sem,a0f g,h,lB]<;>refine nf ?_|refine stp ?_;intro K hK|apply hK;clear hK K|refine stn ?_|fail)
 refine xD (Gh.nilrow 5 901 rfl rfl rfl rfl) ?_
 refine AWP.lenB 2 3 rfl rfl fun aa=>?_
 (try rw[lB] at aa)
 refine AWP.range (S:=List TyD) (g.kids) a1d (fun k s=>(64,I .i64 (k:Nat))::[(5, .one (.own 901 s.length))]) (fun k s=>[(901, .row 2 (s.map a1Q))]) [1,2,4,62,63] [2,4] (fun k s=>Is s ((g.kids.take k).map (a07 bs))) ([]) (by simp only[go_sem,a0f g];exact Gh.tt []) ?_ ?_ ?_
 ·rfl
 ·intro k s x ag hx ad u q
  refine sts ?_
  unfold Is at q
  have ae:=ih x (lP hx)
  have ah:s.length≤40:=by rw[q,lB,lQ];omega
  repeat'(first|simp only[go_sem,a0f g,lB,u,b1u]<;>refine nf ?_|refine stp ?_;intro K hK|apply hK;clear hK K|refine stn ?_|(with_reducible first|refine⟨_,ae,?_⟩|refine⟨(by omega:_≤_),a1d x,ad,?_⟩|(refine⟨(by first|omega|(simp only[lA,lB,lQ,za1,lC,lD,za4];omega):_≤_),?_⟩))|refine stq ?_|clear hK K)
  all_goals(rw[a0b ag aa])
  all_goals(refine⟨s++[a07 bs x],?_,Gh.tt [(901,73)]⟩)
  all_goals(unfold Is;rw[zb8,hx,zbn,← q];rfl)
 ·intro s u q
  refine sts ?_
  unfold Is at q
  rw[lK,ab] at q
  have hs:s.map a1Q=[a1Q (a07 bs k0),a1Q (a07 bs k1)]:=by rw[q];rfl
  have h0:(s.map a1Q)[0]?= some (a1Q (a07 bs k0)):=by rw[hs];rfl
  have h1:(s.map a1Q)[1]?= some (a1Q (a07 bs k1)):=by rw[hs];rfl
  have ai:s.length=2:=by rw[q];rfl
  repeat'(first|(refine atR 26 (xH 901 (by rfl) (by rfl) (by simp only[go_sem,a0f g,h,lB,u,a2Y,lB]) (by simp only[go_sem,a0f g,h,lB,u,a2Y,lB])) ?_;simp only[frE,frB,Bx.drop,go_sem,a0f g,h,lB,u,a2Y])|simp only[go_sem,a0f g,h,lB,u,a2Y]<;>refine nf ?_|refine stp ?_;intro K hK|apply hK;clear hK K|refine stn ?_|(with_reducible first|refine⟨_,hT,?_⟩|refine⟨a1Q (a07 bs k0),h0,?_⟩|refine⟨a1Q (a07 bs k1),h1,?_⟩)|(with_reducible refine AWP.segP (id:=26) 7 mixed (by kernel_rfl) fun K hK=>?_;simp only[List.take_succ_cons,List.take_zero,zb4,zb2])|clear hK K)
  all_goals(first|exact fun _ h=>absurd h zaf|(refine a0m ?_;rw[ab];rfl))
theorem d0r (hM:c17) (bs:List BdD) (g:Pat) (h:g.kind=9) (hc:g.kids.length≤40) (ae:g.keys.length=g.kids.length) (h8:g.kids.length≤8) (hS:TyS 2500 (g.kids.map (a07 bs))) (hw:∀ t∈g.kids.map (a07 bs),wfP t.1 t.2=0) (ih:∀ k∈g.kids,PC zP 48 [.st (a1d k),Bds bs] (LTy (a07 bs k))):PC zP 48 [Pt g,Bds bs] (LTy (a07 bs g)):=by
 have e:a07 bs g=a5V g.keys (g.kids.map (a07 bs)):=by rw[a2d,h];rfl
 have hT:=hM g (g.kids.map (a07 bs)) (by rw[lB];exact ae) (by rw[lB];exact h8) hS hw
 rw[Pt,a0f g,h] at hT
 rw[e]
 refine PCB.ob Tryz.func48 Tryz.ntmps48 Tryz.results48 ?_
 repeat'(first|simp only[go_sem,a0f g,h,lB]<;>refine nf ?_|refine stp ?_;intro K hK|apply hK;clear hK K|refine stn ?_|fail)
 refine xD (Gh.nilrow 5 901 rfl rfl rfl rfl) ?_
 refine AWP.lenB 2 3 rfl rfl fun aa=>?_
 (try rw[lB] at aa)
 refine AWP.range (S:=List TyD) (g.kids) a1d (fun k s=>(64,I .i64 (k:Nat))::[(5, .one (.own 901 s.length))]) (fun k s=>[(901, .row 2 (s.map a1Q))]) [1,2,4,62,63] [2,4] (fun k s=>Is s ((g.kids.take k).map (a07 bs))) ([]) (by simp only[go_sem,a0f g];exact Gh.tt []) ?_ ?_ ?_
 ·rfl
 ·intro k s x af hx ab u q
  refine sts ?_
  unfold Is at q
  have ad:=ih x (lP hx)
  have ag:s.length≤40:=by rw[q,lB,lQ];omega
  repeat'(first|simp only[go_sem,a0f g,lB,u,b1u]<;>refine nf ?_|refine stp ?_;intro K hK|apply hK;clear hK K|refine stn ?_|(with_reducible first|refine⟨_,ad,?_⟩|refine⟨(by omega:_≤_),a1d x,ab,?_⟩|(refine⟨(by first|omega|(simp only[lA,lB,lQ,za1,lC,lD,za4];omega):_≤_),?_⟩))|refine stq ?_|clear hK K)
  all_goals(rw[a0b af aa])
  all_goals(refine⟨s++[a07 bs x],?_,Gh.tt [(901,73)]⟩)
  all_goals(unfold Is;rw[zb8,hx,zbn,← q];rfl)
 ·intro s u q
  refine sts ?_
  unfold Is at q
  rw[lK] at q
  subst q
  repeat'(first|(refine atR 27 (xH 901 (by rfl) (by rfl) (by simp only[go_sem,a0f g,h,lB,u,lB]) (by simp only[go_sem,a0f g,h,lB,u,lB])) ?_;simp only[frE,frB,Bx.drop,go_sem,a0f g,h,lB,u])|simp only[go_sem,a0f g,h,lB,u]<;>refine nf ?_|refine stp ?_;intro K hK|apply hK;clear hK K|refine stn ?_|(with_reducible refine⟨_,hT,?_⟩)|refine stq ?_|clear hK K)
  all_goals(first|exact fun _ h=>absurd h zaf|(refine a0m ?_;rfl))
theorem b5m (hM:c17) {bs:List BdD} (hb:BdL bs) (g:Pat) (ht:a04 g=true) (hc:cntP g≤40) (hn:nOk g=true):PC zP 48 [Pt g,Bds bs] (LTy (a07 bs g)):=by
 have ag:=a19 g
 have q:=a90 ht
 have hG:∀ k∈g.kids,TyG (a07 bs k) (60*cntP k):=fun k hk=>(b3M hb k (a2c ht hk) (by have:=a1C hk;omega)).1
 have ih:∀ k∈g.kids,PC zP 48 [.st (a1d k),Bds bs] (LTy (a07 bs k)):=fun k hk=>b5m hM hb k (a2c ht hk) (by have:=a1C hk;omega) (c76 hn hk)
 have hS:=b74 hG (by omega)
 have af:=a9x g.kids
 rcases a9R q with h|h|h|h|h|h|h|h|⟨h,ab⟩|⟨h,k0,u⟩
 ·exact d0j bs g h
 ·exact d0k bs hb g h
 ·exact d0l bs g h hn
 ·exact d0m bs g h
 ·exact d0n bs g h
 ·exact d0o bs g h
 ·exact d0p bs g h (by omega) hS ih
 ·have h2:=b6J q h
  match ab:g.kids,h2 with
  |[k0,k1],_=>exact d0q bs g h k0 k1 ab hS ih
 ·have hm:b5x g=true:=by
   have aa:a4l g=true:=by unfold vP at q;simp only[zag] at q;exact q.2
   unfold a4l at aa
   simp only[h,Int.reduceEq,zac,zad,zaj,zaa,zab] at aa
   exact aa
  unfold b5x at hm
  simp only[zag,zbm,zbx,zde,zan,zah] at hm
  refine d0r hM bs g h (by omega) ab (by omega) hS (fun t ae=>?_) ih
  obtain⟨k,hk,rfl⟩:=za3.1 ae
  exact(hG k hk).wf
 ·have hk:=ih k0 (by rw[u];simp)
  have ad:=hG k0 (by rw[u];simp)
  have ah:cntP k0≤40:=by have:=a1C (g:=g) (k:=k0) (by rw[u];simp);omega
  exact c77 bs hb g k0 h u hk (ad.up (by omega))
termination_by cntP g
decreasing_by exact a1C hk
theorem b6P {α:Type} {a:α} {l:List α}:∀ x,x∈[a]→x∈a::l:=fun x hx=>by rw[za7.1 hx];exact zbl
theorem d0s (s t:TyD) (hs:TSm s.1) (ht:TSm t.1):PCN zP 153 [LTy s,LTy t] (.tup [.agg [.own 0 (c06 s t).length, .dat (.int .i64 (emR 0 s.1 s.2))],I .i64 (emR (emL 0 s.1 s.2).length t.1 t.2)]) (.row 8 ((c06 s t).map a0e)):=by
 have hn:=b4Q s.1 s.2 hs
 have h0:=c00 0 s.1 s.2
 have h1:=hs.len
 unfold c06
 obtain⟨L,hL⟩:∃ L,L=emL 0 s.1 s.2:=⟨_,rfl⟩
 rw[← hL] at hn h0 ⊢
 have q:=(b6u L t.1 t.2 ht (by omega)).ren (fun _=>900) 1000 (args1:=[.one (.own 900 L.length), .st [.sl 8 (t.1.map a0e), .int .i64 t.2]]) (B1:=[(900, .row 8 (L.map a0e))])
  (r1:=(.tup [.one (.own 1900 (L++emL L.length t.1 t.2).length), .one (.dat (.int .i64 (emR L.length t.1 t.2)))])) (B1':=[(1900, .row 8 ((L++emL L.length t.1 t.2).map a0e))]) rfl rfl rfl rfl rfl
 refine PCN.of_body 1900 Tryz.func153 rfl (by decide) Tryz.ntmps153 Tryz.results153 rfl rfl ?_
 refine AWP.ghQ ?_
 repeat'(first|simp only[go_sem,lB]<;>refine nf ?_|refine stp ?_;intro K hK|apply hK;clear hK K|refine stn ?_|(refine Or.inr (Or.inr (a9K.mk hn (by repeat(first|exact trivial|refine And.intro rfl ?_)) (by rfl) (by first|rfl|(simp only[a7o,List.all_cons,List.all_nil,go_sem,lB]<;>rfl)) (by rfl) (by rfl) ?_)))|(refine Or.inr (Or.inr (a9K.mk q (by repeat(first|exact trivial|refine And.intro rfl ?_)) (by rfl) (by first|rfl|(simp only[a7o,List.all_cons,List.all_nil,go_sem,lB]<;>rfl)) (by rfl) (by rfl) ?_)))|fail)
 refine⟨_,Gh.refl _,?_⟩
 simp only[go_sem,lB]
 exact b6P
theorem c4p (x:NodeD):PCN zP 119 [.st [.int .i64 x.kind, .int .i64 x.lo, .int .i64 x.hi, .str x.text, .sl 1 (x.kids.map a0h), .sl 4 (x.fields.map a0o), .int .i64 x.r0, .int .i64 x.r1]] (.agg [.own 0 1, .dat (.int .i64 0)]) (.row 8 [[.int .i64 x.kind, .int .i64 x.lo, .int .i64 x.hi, .str x.text, .sl 1 (x.kids.map a0h), .sl 4 (x.fields.map a0o), .int .i64 x.r0, .int .i64 x.r1]]):=by
  refine PCN.of_body 4 Tryz.func119 rfl (by decide) Tryz.ntmps119 Tryz.results119 rfl rfl ?_
  refine AWP.ghQ ?_
  repeat'(first|simp only[go_sem,a0d]<;>refine nf ?_|refine stp ?_;intro K hK|apply hK;clear hK K|refine stn ?_|(with_reducible (refine Or.inr (show a01 _ 4 _ _ _ _ _ _ from ?_);unfold a01;with_reducible refine Or.inr ?_;simp only[a18,go_sem,a0d]))|fail)
  refine⟨_,Gh.refl _,?_⟩
  simp only[go_sem,lB]
  exact b6P
theorem d1f:PCN zP 68 [] (.agg [.own 0 1, .dat (.int .i64 0)]) (.row 8 [[.int .i64 2, .int .i64 0, .int .i64 0, .str [], .sl 1 [], .sl 4 [], .int .i64 0, .int .i64 0]]):=by
  have h:PCN zP 119 [.st [.int .i64 2, .int .i64 0, .int .i64 0, .str [], .sl 1 [], .sl 4 [], .int .i64 0, .int .i64 0]] (.agg [.own 0 1, .dat (.int .i64 0)]) (.row 8 [[.int .i64 2, .int .i64 0, .int .i64 0, .str [], .sl 1 [], .sl 4 [], .int .i64 0, .int .i64 0]]):=c4p (a1c 2)
  refine PCN.of_body 2 Tryz.func68 rfl (by decide) Tryz.ntmps68 Tryz.results68 rfl rfl ?_
  refine AWP.ghQ ?_
  repeat'(first|simp only[go_sem]<;>refine nf ?_|refine stp ?_;intro K hK|apply hK;clear hK K|refine stn ?_|(with_reducible refine Or.inr (Or.inl ⟨_,_,h,?_⟩))|fail)
  refine⟨_,Gh.refl _,?_⟩
  simp only[go_sem,lB]
  exact b6P
theorem b5n (ts:List TyD) (j:Nat) (hj:j<(ovS 2 ts).1.length):j=0∨ ∃ (a:Nat) (t:TyD) (c:Nat),ts[a]?= some t∧j=ovB 2 ts a+c∧c<(a03 t.1 t.2).length:=
  b3z 2 ts ts.length (zax _) j (by unfold ovB;rw[lK];exact hj)
theorem c18 {ts:List TyD} {i:Nat} {t:TyD} (h:ts[i]?= some t) (hb:(ovS 2 ts).1.length≤10000000):Emb (ovS 2 ts).1 (a03 t.1 t.2) (ovB 2 ts i):=by
  obtain⟨p,h1,_⟩:=a6j (k:=2) h
  rw[h1] at hb ⊢
  exact Emb.mk_ hb
theorem d0t {ts:List TyD} (hb:(ovS 2 ts).1.length≤10000000):wfP (ovS 2 ts).1 0=0:=by
 have h0:=a7C 2 ts
 have u:=b4X 2 ts
 refine c3Q (by omega) (by omega) (fun x hx=>?_) (fun j hj=>?_)
 ·obtain⟨j,hj⟩:=zb5 hx
  have q:=(zak.1 hj).1
  rcases b5n ts j q with rfl|⟨a,t,c,ht,rfl,hc⟩
  ·rw[h0] at hj
   have e:=Option.some.inj hj
   subst e
   rfl
  ·have hE:=c18 ht hb
   obtain⟨R,hR⟩:=Wf.of (a28 t)
   rw[hE.at_ c hc,zav hc] at hj
   have e:=Option.some.inj hj
   rw[← e]
   exact b3u hE (hR.kind _ (zcd hc))
 ·rcases b5n ts j hj with rfl|⟨a,t,c,ht,rfl,hc⟩
  ·exact Gr.fin_no _ _ (by unfold bo;rw[h0];rfl)
  ·obtain⟨R,hR⟩:=Wf.of (a28 t)
   exact c1g (c18 ht hb) hR hc (b6v (a28 t) c hc)
theorem d0u {ts:List TyD} {B:Nat} (h:TyS B ts):TSm (ovS 2 ts).1:=by
 have u:=b4Y (k:=2) h
 have hl:(overV 2 ts).length=(ovS 2 ts).1.length:=a4V 2 ts
 have q:∀ x∈(ovS 2 ts).1,x.kids.length≤1000000∧x.fields.length≤1000000:=by
  intro x hx
  obtain⟨j,hj⟩:=zb5 hx
  rcases zc4 j with rfl|ab
  ·rw[a7C] at hj
   rw[← Option.some.inj hj]
   exact⟨zao _,zao _⟩
  ·have aa:(overV 2 ts)[j]?= some x:=by unfold overV;rw[zd2 (by omega)];exact hj
   exact⟨u.kids x (lP aa),u.fields x (lP aa)⟩
 exact⟨by have:=u.len;omega,fun x hx=>(q x hx).1,fun x hx=>(q x hx).2⟩
theorem b8e {ts:List TyD} {B:Nat} (h:TyS B ts) (i:Nat):TyS B (ts.take i):=
  ⟨fun t ht=>h.one t (zcp ht),zbe (zc7 _ (by rw[lQ];exact Nat.min_le_right _ _)) h.all⟩
def b5o (ks:List KeyD) (rs:List Int):List FieldD:=(ks.zip rs).map fun p=>⟨p.1,p.2,false⟩
theorem b5p:∀ (ks:List KeyD) (rs:List Int) (k:KeyD) (r:Int),ks[rs.length]?= some k→b5o ks (rs++[r])=b5o ks rs++[⟨k,r,false⟩]
 |[],rs,k,r,h=>by simp at h
 |k0::ks,[],k,r,h=>by
  simp only[lD,List.getElem?_cons_zero,Option.some.injEq] at h
  subst h
  simp[b5o]
 |k0::ks,r0::rs,k,r,h=>by
  have ih:=b5p ks rs k r (by simpa using h)
  unfold b5o at ih ⊢
  simp only[List.cons_append,List.zip_cons_cons,zau,ih]
theorem a7G (l:List NodeD) (fs:List FieldD):l.map a0e++[[.int .i64 13, .int .i64 0, .int .i64 0, .str [], .sl 1 [], .sl 4 (fs.map a0o), .int .i64 0, .int .i64 0]]=(l++[(⟨13,0,0,[],[],fs,0,0⟩:NodeD)]).map a0e:=by rw[zbn];rfl
abbrev d1g (m:Nat):Res:= .cells [.dat (.int .i64 13), .dat (.int .i64 0), .dat (.int .i64 0), .dat (.str []), .dat (.nil 1), .own 901 m, .dat (.int .i64 0), .dat (.int .i64 0)]
theorem b5q:c17:=by
 intro g ts am h8 hS aq
 have ae:∀ i,(ovS 2 (ts.take i)).1.length≤900000+1:=fun i=>by
  have h1:=(a74 2 (B:=2500) (ts.take i) fun t ht=>hS.one t (zcp ht)).1
  have h2:=(b8e hS i).all
  omega
 refine PCB.ob Tryz.func94 Tryz.ntmps94 Tryz.results94 ?_
 repeat'(first|simp only[go_sem,a0f g,lB]<;>refine nf ?_|refine stp ?_;intro K hK|apply hK;clear hK K|refine stn ?_|(with_reducible refine Or.inr (Or.inl ⟨_,_,d1f,?_⟩))|fail)
 refine xD (Gh.nilcell 6 5 901 rfl rfl rfl (by simp only[go_sem]) (by simp only[go_sem])) ?_
 refine AWP.len 15 rfl fun ab=>?_
 (try rw[lB] at ab)
 refine AWP.range (S:=List NodeD×List FieldD) (g.keys) a0i (fun i s=>(17,I .i64 (i:Nat))::[]) (fun i s=>[(5, .cells [.own 900 s.1.length, .dat (.int .i64 0)]),(900, .row 8 (s.1.map a0e)),(6,d1g s.2.length),(901, .row 4 (s.2.map a0o))]) [1,4,5,6,15,16] [2,4] (fun i s=>Is s ((ovS 2 (ts.take i)).1,b5o g.keys (ovS 2 (ts.take i)).2)) (([a1c 2],[])) (by simp only[go_sem,lB];exact Gh.tt [(900,12)]) ?_ ?_ ?_
 ·show _=_
  simp[ovS,b5o]
 ·rintro i ⟨L,fs⟩ k al hk ak q aa
  refine sts ?_
  obtain⟨hL,ad⟩:=Prod.mk.inj (show (L,fs)=_ from aa)
  have ai:i<ts.length:=by omega
  have ht:ts[i]?= some ts[i]:=zav ai
  generalize ts[i]=t at ht
  have ao:=a0y a1Q ht
  have ah:=lP ht
  have af:=ae i
  rw[← hL] at af
  have hw:wfP L 0=0:=by rw[hL];exact d0t (by have:=ae i;omega)
  have aj:TSm L:=by rw[hL];exact d0u (b8e hS i)
  have hJ:=d0s (L,0) t aj (hS.one t ah).1
  have e1:c06 (L,0) t=L++emL L.length t.1 t.2:=by
   unfold c06
   simp only
   rw[d08 hw (by omega)]
  have e2:emR 0 L 0=0:=emR0 hw (by omega)
  have e3:emL 0 L 0=L:=d08 hw (by omega)
  rw[e1] at hJ
  simp only[e2,e3] at hJ
  have u:ovS 2 (ts.take (i+1))=(L++emL L.length t.1 t.2,(ovS 2 (ts.take i)).2++[emR L.length t.1 t.2]):=by
   rw[b0g ht,hL];rfl
  have an:(ovS 2 (ts.take i)).2.length=i:=by rw[a4U,lQ];omega
  have ag:b5o g.keys (ovS 2 (ts.take (i+1))).2=fs++[⟨k,emR L.length t.1 t.2,false⟩]:=by
   rw[u,ad]
   exact b5p g.keys _ k _ (by rw[an];exact hk)
  have ap:fs.length≤8:=by
   rw[ad];unfold b5o;rw[lB,zed];omega
  generalize emR L.length t.1 t.2=r at hJ u ag
  generalize L++emL L.length t.1 t.2=L2 at hJ u
  clear hL ad aa e1 e2 e3
  repeat'(first|(refine atR 6 (xH 900 (by rfl) (by rfl) (by simp only[go_sem,a0f g,lB,q,a0i,a2Y,c0l,lB]) (by simp only[go_sem,a0f g,lB,q,a0i,a2Y,c0l,lB])) ?_;simp only[frE,frB,Bx.drop,go_sem,a0f g,lB,q,a0i,a2Y,c0l])|simp only[go_sem,a0f g,lB,q,a0i,a2Y,c0l]<;>refine nf ?_|refine stp ?_;intro K hK|apply hK;clear hK K|refine stn ?_|(with_reducible first|refine⟨_,_,_,hJ,?_⟩|refine⟨(by omega:_≤_),a0i k,ak,?_⟩|refine⟨(by omega:_≤_),a1Q t,ao,?_⟩|(refine⟨(by first|omega|(simp only[lA,lB,lQ,za1,lC,lD,za4];omega):_≤_),?_⟩))|(with_reducible refine AWP.genMU (id:=6) [5,9] 10 11 mixed (by kernel_rfl) fun K hK=>?_;simp only[List.take_succ_cons,List.take_zero,zb4,zb2])|refine stq ?_|clear hK K)
  all_goals(rw[a0b al ab])
  all_goals(refine⟨(L2,fs++[⟨k,r,false⟩]),?_,Gh.tt [(900,28),(901,38)]⟩)
  all_goals(show _=_;rw[ag,u])
 ·rintro⟨L,fs⟩ q aa
  refine sts ?_
  rw[am,lK] at aa
  obtain⟨hL,ad⟩:=Prod.mk.inj (show (L,fs)=_ from aa)
  have af:L.length≤900000+1:=by
   have:=ae ts.length
   rw[lK] at this
   rw[hL];exact this
  refine xD (Gh.soft 6 rfl) ?_
  refine xD (Gh.fz 901) ?_
  simp only[go_sem,lB]
  repeat'(first|(refine atR 11 (xH 45 (by rfl) (by rfl) (by simp only[go_sem,lB,a7G,q,lB]) (by simp only[go_sem,lB,a7G,q,lB])) ?_;simp only[frE,frB,Bx.drop,go_sem,lB,a7G,q])|simp only[go_sem,lB,a7G,q]<;>refine nf ?_|refine stp ?_;intro K hK|apply hK;clear hK K|refine stn ?_|(with_reducible (refine⟨(by first|omega|(simp only[lA,lB,lQ,za1,lC,lD,za4];omega):_≤_),?_⟩))|refine stq ?_|clear hK K)
  all_goals(first|exact fun _ h=>absurd h zaf|refine a0m ?_)
  all_goals
   have e:a5V g.keys ts=(L++[(⟨13,0,0,[],[],fs,0,0⟩:NodeD)],((L.length:Nat):Int)):=by rw[hL,ad];rfl
   rw[e,w64 (by simp;omega)]
   simp[LTy]
theorem c78:nOk c4a=true:=by decide
theorem b2N {bs:List BdD} (hb:BdL bs) (g:Pat) (hg:PSm g) (hn:nOk g=true):PC zP 14 [.st (a1d g),Bds bs] (.st [.sl 8 ((a07 bs (a0w g)).1.map a0e), .int .i64 (a07 bs (a0w g)).2]):=by
 have h1:PC zP 49 [.st (a1d g)] (.st (a1d (a0w g))):=b3F g hg
 have u:=a2b g
 have aa:nOk (a0w g)=true:=by
  unfold a0w
  cases okP g
  ·exact c78
  ·exact hn
 have h2:PC zP 48 [.st (a1d (a0w g)),Bds bs] (.st [.sl 8 ((a07 bs (a0w g)).1.map a0e), .int .i64 (a07 bs (a0w g)).2]):=b5m b5q hb (a0w g) (a5j u) (a79 u) aa
 generalize a07 bs (a0w g)=A at*
 generalize a0w g=q at*
 refine PCB.ob Tryz.func14 Tryz.ntmps14 Tryz.results14 ?_
 repeat'(first|simp only[go_sem]<;>refine nf ?_|refine stp ?_;intro K hK|apply hK;clear hK K|refine stn ?_|(with_reducible first|refine⟨_,h1,?_⟩|refine⟨_,h2,?_⟩)|refine stq ?_|fail)
 all_goals exact lf
def c19 (l m:List Int):Val:=(c1j (a3I l) 4 (a0j (b1l m) (a3I l).length) (a0g (b1l m) (a3I l).length)).1
theorem b6Q (l m:List Int):a0t (c19 l m)=true:=c1n _ _ _ _
theorem c2a (l m:List Int) (hl:(b1l l).ok) (hm:(b1l m).ok):PC zP 11 [.one (.dat (.sl 1 (l.map a0h))), .one (.dat (.sl 1 (m.map a0h)))] (.tup [.st [.sl 8 ((a3I l).map a0e), .int .i64 0], .st (a0c (c19 l m))]):=by
 have h7:=a0p (b1l l) (n:=7) (by omega)
 have hn:=b3y l
 obtain⟨n,u⟩:∃ n,n=(1+a0j (b1l l) 7).toNat:=⟨_,rfl⟩
 have hw:IntKind.i64.wrap (1+a0j (b1l l) 7)=(n:Int):=by rw[w64 (by omega)];omega
 have ad:=a0k hl 7
 have hT:=a1k.mk 12 (c6U _ ad n (by omega))
 have ae:=b7M l
 have q:a1k zP 40 [Sp 12,I .i64 n] 12 (a00 (a0g (b1l l) 7)) (.st [.sl 8 ((a3I l).map a0e), .int .i64 0]) (a00 (b4q n (a0g (b1l l) 7)).2):=by
  unfold a3I;rw[← u];exact hT
 have hK:=a0p (b1l m) (n:=((a3I l).length:Int)) (by omega)
 have ab:=a0u 20 (b1l m) hm ((a3I l).length:Int) (by omega)
 have hN:=(c5r (l:=a3I l) 0 (by omega) (b89 l) 4 (by omega)).k 20 (a0j (b1l m) (a3I l).length) (a0g (b1l m) (a3I l).length) (a0k hm _) (by omega) (by omega)
 have aa:=a0u 12 (b1l l) hl 7 (by omega)
 refine PCB.ob Tryz.func11 Tryz.ntmps11 Tryz.results11 ?_
 repeat'(first|simp only[go_sem,lB,hw]<;>refine nf ?_|refine stp ?_;intro K hK|apply hK;clear hK K|refine stn ?_|(refine⟨12,_,_,_,aa,rfl,?_⟩)|(refine⟨12,_,_,_,q,rfl,?_⟩)|(refine⟨20,_,_,_,ab,rfl,?_⟩)|(refine⟨20,_,_,_,hN,rfl,?_⟩)|(with_reducible refine AWP.genR (id:=5) [4,5,6] [20,4,5] mixed (by kernel_rfl) fun K hK=>?_;simp only[Bx.outs,Bx.drop,zaa,zab,Nat.reduceBEq,go_sem])|refine stq ?_|fail)
 all_goals(refine a0m ?_;rfl)
theorem c79:PC zP 13 [] (.st [.sl 8 (a4o.1.map a0e), .int .i64 a4o.2]):=by
  refine PCB.ob Tryz.func13 Tryz.ntmps13 Tryz.results13 ?_
  repeat'(first|simp only[go_sem,lB]<;>refine nf ?_|refine stp ?_;intro K hK|apply hK;clear hK K|refine stn ?_|refine stq ?_|fail)
  all_goals exact lf
theorem b3Q (v:Val):a0t (okV v)=true:=by
  unfold okV
  cases h:a0t v
  · exact c3y
  · exact h
theorem b9r (g:Pat) (s:Src):a0t (a1h g s).1=true:=by
 rw[a2E]
 cases decide (g.kind=3)<;>cases decide (g.kind=4)<;>cases decide (g.kind=5)<;>cases decide (g.kind=6)<;>cases q:decide (g.kind=10)<;>cases decide (g.kind=7)<;>cases decide (g.kind=8)<;>cases decide (g.kind=9)<;>simp only[zaa,zab]<;>first
  |exact b3Q _
  |skip
 all_goals
  cases g.kids with
  |nil=>exact b3Q _
  |cons k l=>
   rw[a6W]
   cases decide (l.length=0)<;>exact b3Q _
def a8b (nm:List UInt8) (t:TyD):List BdD:=[(nm,t),([80],t),([80],a4o)]
theorem c4q {t:TyD} (nm:List UInt8) (hs:TSm t.1) (hl:t.1.length≤50):BdL (a8b nm t):=by
 constructor
 ·intro b hb
  simp only[a8b,zal,zaf,or_false] at hb
  rcases hb with rfl|rfl|rfl
  ·exact hs
  ·exact hs
  ·exact c1K.sm
 ·intro b hb
  simp only[a8b,zal,zaf,or_false] at hb
  rcases hb with rfl|rfl|rfl
  ·exact hl
  ·exact hl
  ·exact zbe c1K.len (by omega)
theorem c2b:BdL []:=⟨fun b hb=>(by cases hb),fun b hb=>(by cases hb)⟩
theorem b6R {bs:List BdD} (hb:BdL bs) (g:Pat) (v:Val) (hv:a0t v=true):a9n v (a07 bs (a0w g)).1 (a07 bs (a0w g)).2 (a07 bs (a0w g)).2=okA bs (a2A (a0w g) v):=by
  have q:=a2b g
  obtain⟨hG,h⟩:=b3M hb (a0w g) (a5j q) (a79 q)
  rw[c1p,hv,zbo hG.wf,h v hv];rfl
theorem c2c {bs:List BdD} (hb:BdL bs) (g:Pat):TSm (a07 bs (a0w g)).1:=by
  have q:=a2b g
  exact(b3M hb (a0w g) (a5j q) (a79 q)).1.sm
theorem b6S (l m n:List Int) (hl:∀ x∈l, -9223372036854775808≤x∧x≤9223372036854775807) (hm:∀ x∈m, -9223372036854775808≤x∧x≤9223372036854775807) (hn:∀ x∈n, -9223372036854775808≤x∧x≤9223372036854775807) (u:Int) (hu:0≤u∧u≤255):
  PC zP 3 [.one (.dat (.sl 1 (l.map a0h))), .one (.dat (.sl 1 (m.map a0h))), .one (.dat (.sl 1 (n.map a0h))),I .u8 u] (Bo true):=by
 have ae:PC zP 7 [.one (.dat (.sl 1 [[.sl 1 (l.map a0h)],[.sl 1 (m.map a0h)],[.sl 1 (n.map a0h)]]))] (Bo (!decide ((80:Int)<(l.length:Int))&&(!decide ((80:Int)<(m.length:Int))&&!decide ((80:Int)<(n.length:Int))))):=by
  have h:=c3w [l,m,n]
  simpa only[List.all_cons,List.all_nil,zaw,zau,za6,b6l] using h
 cases hb:(!decide ((80:Int)<(l.length:Int))&&(!decide ((80:Int)<(m.length:Int))&&!decide ((80:Int)<(n.length:Int))))<;>rw[hb] at ae
 case false=>
  refine PCB.ob Tryz.func3 Tryz.ntmps3 Tryz.results3 ?_
  repeat'(first|simp only[go_sem,lB]<;>refine nf ?_|refine stp ?_;intro K hK|apply hK;clear hK K|refine stn ?_|(with_reducible first|refine⟨_,ae,?_⟩|refine⟨_,b5a,?_⟩)|refine stq ?_|clear hK K)
  all_goals exact lf
 simp only[zag,zbm,zah] at hb
 have ar:(Src.mk l 0).ok:=⟨hl,by simp only;omega⟩
 have ai:(Src.mk m 0).ok:=⟨hm,by simp only;omega⟩
 have an:(b1l n).ok:=⟨hn,by simp only[b1l];omega⟩
 have ap:(b1l m).ok:=ai
 have km:=(c5i 2 (by omega)).k 27 c5j ⟨l,0⟩ ar (by decide)
 have ah:=b3l 2 c5j ⟨l,0⟩
 have ag:=b3O 2 c5j ⟨l,0⟩
 have ad:=b3P 2 c5j ⟨l,0⟩
 have hv:=c9z
 have af:c5j.length=8:=rfl
 have hP:c5j[0]?= some [80]:=rfl
 generalize c5j=vl at*
 generalize (a1M 2 vl ⟨l,0⟩).1=a at km ah ag ad
 generalize (a1M 2 vl ⟨l,0⟩).2=s9 at km
 have av:cntP a≤7:=ah
 have q:PSm a:=by unfold PSm;omega
 have hd:=c2a n m an ap
 have ab:=b6Q n m
 have aj:=c30 n
 have al:=b7M n
 have ka:=(c16 a q ag).k 38 ⟨m,0⟩ ai
 have aa:=b9r a ⟨m,0⟩
 generalize (a1h a ⟨m,0⟩).1=v at ka aa
 generalize (a1h a ⟨m,0⟩).2=s8 at ka
 generalize c19 n m=w at hd ab
 generalize a3I n=T at hd aj al
 have ao:IntKind.i64.wrap u=u:=w64 (by omega)
 obtain⟨j,hj⟩:∃ j,u.tmod 8=j:=⟨_,rfl⟩
 have aw:0≤j∧j<8:=by
  rw[← hj,Int.tmod_eq_emod_of_nonneg hu.1];omega
 obtain⟨nm,am⟩:∃ nm,vl[j.toNat]?= some nm:=⟨vl[j.toNat]'(by rw[af];omega),zav _⟩
 have ak:(vl.map Sx.encStr)[j.toNat]?= some (Sx.encStr nm):=a0y Sx.encStr am
 have hB:=c4q (t:=(T,0)) nm aj (by show T.length≤50;omega)
 have a1:=b2N c2b a q ad
 have a2:=b2N hB a q ad
 have i1:PC zP 17 [.st (a0c v), .st (a1d a),Bds (a8b nm (T,0))] (Bo (inA v a (a8b nm (T,0)))):=b1p v a _ q hB
 have i2:PC zP 17 [.st (a0c w), .st (a1d a),Bds (a8b nm (T,0))] (Bo (inA w a (a8b nm (T,0)))):=b1p w a _ q hB
 have q1:PC zP 15 [.st (a1d a), .st (a0c v)] (.tup [VsP (a2k a v).1,Bo (a2k a v).2]):=a7Q a v q
 have m1:PC zP 16 [.st (a0c v), .st [.sl 8 ((a07 [] (a0w a)).1.map a0e), .int .i64 (a07 [] (a0w a)).2]] _:=b0f v _ _ (c2c c2b a)
 have m2:PC zP 16 [.st (a0c v), .st [.sl 8 ((a07 (a8b nm (T,0)) (a0w a)).1.map a0e), .int .i64 (a07 (a8b nm (T,0)) (a0w a)).2]] _:=b0f v _ _ (c2c hB a)
 have m3:PC zP 16 [.st (a0c w), .st [.sl 8 ((a07 (a8b nm (T,0)) (a0w a)).1.map a0e), .int .i64 (a07 (a8b nm (T,0)) (a0w a)).2]] _:=b0f w _ _ (c2c hB a)
 rw[b6R c2b a v aa,c7T,← c4g v a aa] at m1
 rw[b6R hB a v aa,← c5y v a _ aa] at m2
 rw[b6R hB a w ab,← c5y w a _ ab] at m3
 generalize inA v a (a8b nm (T,0))=b2 at i1 m2
 generalize inA w a (a8b nm (T,0))=b3 at i2 m3
 generalize (a2k a v).2=b1 at q1 m1
 generalize (a2k a v).1=V1 at q1
 generalize a07 [] (a0w a)=A at a1 m1
 generalize a07 (a8b nm (T,0)) (a0w a)=B at a2 m2 m3
 have e1:decide (b1=b1)=true:=by simp
 have e2:decide (b2=b2)=true:=by simp
 have e3:decide (b3=b3)=true:=by simp
 have au:decide ((8:Int)=0)=false:=by decide
 simp only[Bds,a8b,zau,za6,a5r] at a1 a2 i1 i2
 have aq:PC zP 13 [] (.st [.sl 8 (a4o.1.map a0e), .int .i64 a4o.2]):=c79
 generalize a4o=N0 at*
 refine PCB.ob Tryz.func3 Tryz.ntmps3 Tryz.results3 ?_
 repeat'(first|simp only[go_sem,lB,beq_self_eq_true,e1,e2,e3,af,ao,hj]<;>refine nf ?_|refine stp ?_;intro K hK|apply hK;clear hK K|refine stn ?_|(with_reducible first|refine⟨(by decide:(8:Int)≠0),?_⟩|refine⟨(by omega:_≤_),Sx.encStr nm,ak,?_⟩|refine⟨_,ae,?_⟩|refine⟨_,hv,?_⟩|refine⟨_,hd,?_⟩|refine⟨_,aq,?_⟩|refine⟨_,a1,?_⟩|refine⟨_,a2,?_⟩|refine⟨_,i1,?_⟩|refine⟨_,i2,?_⟩|refine⟨_,q1,?_⟩|refine⟨_,m1,?_⟩|refine⟨_,m2,?_⟩|refine⟨_,m3,?_⟩|refine⟨_,b5a,?_⟩)|(refine⟨27,_,_,_,km,rfl,?_⟩)|(refine⟨38,_,_,_,ka,rfl,?_⟩)|(with_reducible refine AWP.genMT (id:=7) [5,6] 7 mixed (by kernel_rfl) fun K hK=>?_;simp only[List.take_succ_cons,List.take_zero,zb4,zb2])|(refine a0J ?_;intro K hK)|refine stq ?_|fail)
 all_goals(first|exact fun _ h=>absurd h zaf|(refine a0m ?_;rfl))
end Go.Proofs.YtoelgackkclcmaaGreat

