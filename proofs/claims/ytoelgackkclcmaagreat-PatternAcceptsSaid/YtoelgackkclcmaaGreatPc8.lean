/- Lemmas. -/
import Derived.Test.YtoelgackkclcmaaGreatPc6
import Derived.Test.YtoelgackkclcmaaGreatPc7
open Go.Proofs.Tryz renaming prog→zP
open List renaming length_append→lA,length_map→lB
open Bool renaming not_eq_true'→zM,not_eq_false'→zN
set_option linter.unusedSimpArgs false
set_option linter.unusedVariables false
set_option maxRecDepth 20000
set_option maxHeartbeats 64000000
namespace Go.Proofs.YtoelgackkclcmaaGreat
open Go Go.Sx
abbrev Nt (x:NodeD):T:= .st (a0e x)
abbrev IsP (l:List Int):T:= .one (.dat (.sl 1 (l.map a0h)))
abbrev FsP (l:List FieldD):T:= .one (.dat (.sl 4 (l.map a0o)))
@[go_sem] theorem eqsR (a b c d:Int):a6N zP 6 94 [.int .i64 a, .int .i64 b] [.int .i64 c, .int .i64 d]=some (decide (a=c)&&decide (b=d)):=by kernel_rfl
@[go_sem] theorem eqgR:Go.Program.eqGuardType zP (Go.Program.depth zP) 94=false:=by kernel_rfl
def a7e (s:Bool×Bool×Bool×Bool) (x:NodeD):Bool:=(((s.1||(decide (x.lo=0)&&decide (x.hi=0)))&&(s.2.1||decide (x.text=[])))&&(s.2.2.1||decide ((x.kids.length:Int)=0)))&&(s.2.2.2||(decide ((x.fields.length:Int)=0)&&(decide (x.r0=0)&&decide (x.r1=0))))
def a5l (k:Int):Bool×Bool×Bool×Bool:=
  bif decide (k=3) then (true,false,false,false) else
  bif decide (k=4)||(decide (k=6)||decide (k=19)) then (false,true,false,false) else
  bif decide (k=10)||(decide (k=12)||(decide (k=14)||(decide (k=16)||(decide (k=17)||decide (k=18))))) then (false,false,true,false) else
  (false,false,false,decide (k=13))
theorem b6Y (x:NodeD):PC zP 175 [Nt x] (Bo (a7e (a5l x.kind) x)):=by
  refine PCB.ob Tryz.func175 Tryz.ntmps175 Tryz.results175 ?_
  repeat'(first|(with_reducible refine AWP.join (id:=2) (fun s:Bool×Bool×Bool×Bool=>[(3,Bo s.1),(4,Bo s.2.1),(5,Bo s.2.2.1),(6,Bo s.2.2.2)]) (fun _=>[]) [1] [1] (fun s=>Is (a5l x.kind) s) ?_ ?_)|simp only[go_sem,a0d,lB]<;>refine nf ?_|refine stp ?_;intro K hK|apply hK;clear hK K|refine stn ?_|(refine AWP.cnd ?_ ?_<;>intro h<;>(try simp only[zM,zN] at h))|fail)
  all_goals(try(exfalso;simp_all;done))
  all_goals(try(refine⟨a5l x.kind,rfl,?_⟩;simp only[a5l, *, zap,zam,zaj,zaq,zaa,zab];exact Gh.tt []))
  intro s hs
  rw[show a5l x.kind=s from hs]
  obtain⟨a,b,c,d⟩:=s
  clear hs
  repeat'(first|simp only[go_sem,a0d,lB]<;>refine nf ?_|refine stp ?_;intro K hK|apply hK;clear hK K|refine stn ?_|(refine⟨fun h=>?_,fun h=>?_⟩<;>(try simp only[zM,zN] at h)<;>try simp only[h])|fail)
  all_goals(refine a0m ?_;simp only[a7e, *, zap,zam,zaj,zaq,zaw,zae,zay,zai])
def b0n:Option KeyD→List FieldD→Bool
  |_,[]=>true
  |p,f::l=>bif !a0l f.key||(match p with|some k=>decide (a2O k f.key≥0)|none=>false) then false else b0n (some f.key) l
def a91 (l:List FieldD):Nat→Option KeyD
  |0=>none
  |k+1=>(l[k]?).map (·.key)
theorem a2H (k:KeyD):PC zP 217 [.st [.int .i64 k.kind, .str k.text]] (Bo (a0l k)):=a2e k
theorem a5m (a b:KeyD):PC zP 236 [.st [.int .i64 a.kind, .str a.text], .st [.int .i64 b.kind, .str b.text]] (I .i64 (a2O a b)):=a1i a b
theorem encField_lit (f:FieldD):a0o f=[.int .i64 f.key.kind, .str f.key.text, .int .i64 f.node, .bool f.opt]:=rfl
theorem b3Y (l:List FieldD):PC zP 222 [FsP l] (Bo (b0n none l)):=by
 refine PCB.ob Tryz.func222 Tryz.ntmps222 Tryz.results222 ?_
 repeat'(first|simp only[go_sem,lB]<;>refine nf ?_|refine stp ?_;intro K hK|apply hK;clear hK K|refine stn ?_|fail)
 refine AWP.len 0 rfl fun u=>?_
 (try rw[lB] at u)
 refine AWP.range (S:=Unit) (l) a0o (fun k s=>(7,I .i64 (k:Nat))::[]) (fun k s=>[]) [0,5,6] [] (fun k s=>Is (b0n none l) (b0n (a91 l k) (l.drop k))) (()) (by refine sts ?_;exact Gh.tt []) ?_ ?_ ?_
 ·rfl
 ·intro k s y af hy ab aa q
  refine sts ?_
  have hd:l.drop k=y::l.drop (k+1):=by
   obtain⟨hk,e⟩:=zak.1 hy
   rw[za8 hk,e]
  have hn:a91 l (k+1)=some y.key:=by simp only[a91,hy,Option.map_some]
  unfold Is at q
  rw[hd] at q
  by_cases ae:k=0
  ·have hg:decide ((0:Int)<(k:Int))=false:=by simp[ae]
   have ah:a91 l k=none:=by rw[ae];rfl
   rw[ah] at q
   have ad:b0n none l=bif !a0l y.key then false else b0n (some y.key) (l.drop (k+1)):=by rw[q];show (bif !a0l y.key||false then _ else _)=_;rw[zaj]
   cases hv:a0l y.key<;>rw[hv] at ad
   ·
    repeat'(first|simp only[go_sem,lB,aa,hv,hg,encField_lit]<;>refine nf ?_|refine stp ?_;intro K hK|apply hK;clear hK K|refine stn ?_|(with_reducible first|refine⟨by omega,a0o y,ab,?_⟩|refine⟨_,a2H y.key,?_⟩)|(refine a0J ?_;intro K hK)|clear hK K)
    all_goals(refine a0m ?_;rw[ad];rfl)
   ·
    repeat'(first|simp only[go_sem,lB,aa,hv,hg,encField_lit]<;>refine nf ?_|refine stp ?_;intro K hK|apply hK;clear hK K|refine stn ?_|(with_reducible first|refine⟨by omega,a0o y,ab,?_⟩|refine⟨_,a2H y.key,?_⟩)|(refine a0J ?_;intro K hK)|clear hK K)
    all_goals(rw[a0b af u])
    all_goals(refine⟨(),?_,Gh.tt []⟩)
    all_goals(rw[hn];exact ad)
  ·have hg:decide ((0:Int)<(k:Int))=true:=by simp;omega
   obtain⟨j,rfl⟩:∃ j,k=j+1:=⟨k-1,by omega⟩
   obtain⟨z,hz⟩:∃ z,l[j]?= some z:=⟨l[j],zav (by omega)⟩
   have ag:=a0y a0o hz
   have hp:a91 l (j+1)=some z.key:=by simp only[a91,hz,Option.map_some]
   rw[hp,b0n] at q
   have hw:IntKind.i64.wrap (((j+1:Nat):Int)-1)=(j:Int):=by rw[w64 (by omega)];omega
   obtain⟨k,ai⟩:∃ k,k=j+1:=⟨_,rfl⟩
   simp only[← ai] at*
   cases hv:a0l y.key<;>rw[hv] at q
   ·
    repeat'(first|simp only[go_sem,lB,aa,hv,hg,hw,encField_lit]<;>refine nf ?_|refine stp ?_;intro K hK|apply hK;clear hK K|refine stn ?_|(with_reducible first|refine⟨by omega,a0o y,ab,?_⟩|refine⟨_,a2H y.key,?_⟩)|(refine a0J ?_;intro K hK)|clear hK K)
    all_goals(refine a0m ?_;rw[q];rfl)
   ·cases hc:decide (a2O z.key y.key≥0)<;>rw[hc] at q
    ·
     repeat'(first|simp only[go_sem,lB,aa,hv,hc,hw,hg,encField_lit]<;>refine nf ?_|refine stp ?_;intro K hK|apply hK;clear hK K|refine stn ?_|(with_reducible first|refine⟨by omega,a0o y,ab,?_⟩|refine⟨by omega,_,ag,?_⟩|refine⟨_,a2H y.key,?_⟩|refine⟨_,a5m z.key y.key,?_⟩)|(refine a0J ?_;intro K hK)|clear hK K)
     all_goals(rw[a0b af u])
     all_goals(refine⟨(),?_,Gh.tt []⟩)
     all_goals(rw[hn];exact q)
    ·
     repeat'(first|simp only[go_sem,lB,aa,hv,hc,hw,hg,encField_lit]<;>refine nf ?_|refine stp ?_;intro K hK|apply hK;clear hK K|refine stn ?_|(with_reducible first|refine⟨by omega,a0o y,ab,?_⟩|refine⟨by omega,_,ag,?_⟩|refine⟨_,a2H y.key,?_⟩|refine⟨_,a5m z.key y.key,?_⟩)|(refine a0J ?_;intro K hK)|clear hK K)
     all_goals(refine a0m ?_;rw[q];rfl)
 ·intro s aa q
  refine sts ?_
  unfold Is at q
  rw[zbw,b0n] at q
  repeat'(first|simp only[go_sem,lB,aa]<;>refine nf ?_|refine stp ?_;intro K hK|apply hK;clear hK K|refine stn ?_|clear hK K)
  all_goals(refine a0m ?_;rw[q])
def a0G (x:NodeD):Bool:=
  bif decide (x.kind=1)||(decide (x.kind=2)||(decide (x.kind=5)||(decide (x.kind=7)||(decide (x.kind=8)||(decide (x.kind=9)||(decide (x.kind=11)||decide (x.kind=15))))))) then true else
  bif decide (x.kind=3) then decide (x.lo≤x.hi) else
  bif decide (x.kind=4) then decide ((x.text.length:Int)≤64) else
  bif decide (x.kind=6) then a2G x.text else
  bif decide (x.kind=19) then a0X x.text else
  bif decide (x.kind=10) then decide ((x.kids.length:Int)≤4) else
  bif decide (x.kind=12) then decide ((x.kids.length:Int)=2) else
  bif decide (x.kind=13) then b0n none x.fields else
  bif decide (x.kind=14) then decide (1≤(x.kids.length:Int))&&decide ((x.kids.length:Int)≤5) else
  bif decide (x.kind=16)||decide (x.kind=17) then decide (1≤(x.kids.length:Int)) else
  bif decide (x.kind=18) then decide ((x.kids.length:Int)=1) else false
theorem b1E (x:NodeD):PC zP 176 [Nt x] (Bo (a0G x)):=by
 have hf:=b3Y x.fields
 have ha:=a4x x.text
 have hv:=a2M x.text
 refine PCB.ob Tryz.func176 Tryz.ntmps176 Tryz.results176 ?_
 repeat'(first|simp only[go_sem,a0d,lB]<;>refine nf ?_|refine stp ?_;intro K hK|apply hK;clear hK K|refine stn ?_|(refine AWP.cnd ?_ ?_<;>intro h<;>(try simp only[zM,zN] at h))|(refine⟨fun h=>?_,fun h=>?_⟩<;>(try simp only[zM,zN] at h)<;>try simp only[h])|(with_reducible first|refine⟨_,hf,?_⟩|refine⟨_,ha,?_⟩|refine⟨_,hv,?_⟩)|refine stq ?_|clear hK K)
 all_goals first
  |(exfalso;clear hf ha hv;simp_all;done)
  |(refine a0m ?_;simp only[a0G, *, zap,zam,zaj,zaq,zaw,zae,zay,zai,zaa,zab];done)
  |(refine a0m ?_;simp only[a0G, *, zap,zam,zaj,zaq,zaw,zae,zay,zai,zaa,zab];trace_state;rfl)
theorem b2R (l:List Int) (hl:l.length≤100000000):PCN zP 180 [IsP l] (.one (.own 0 l.length)) (.row 1 (l.map a0h)):=by
 refine PCN.of_body 7 Tryz.func180 rfl (by decide) Tryz.ntmps180 Tryz.results180 rfl rfl ?_
 refine AWP.ghQ ?_
 repeat'(first|( refine AWP.nilR (e:=3) rfl (by decide) (by decide) rfl (fun q=>?_) ?_)|simp only[go_sem,lB]<;>refine nf ?_|refine stp ?_;intro K hK|apply hK;clear hK K|refine stn ?_|(with_reducible first|(refine Or.inr (show a01 _ 5 _ _ _ _ _ _ from ?_);unfold a01;with_reducible refine Or.inr ?_;simp only[a18,go_sem,lB])|refine⟨(by omega:_≤_),?_⟩)|clear hK K)
 ·refine GhQ.step (Gh.nilrow 2 7 rfl rfl rfl rfl) ?_
  refine⟨_,Gh.refl _,?_⟩
  have:l=[]:=by simpa using q
  subst this
  simp only[go_sem,za6,List.length_nil]
  first|exact⟨rfl,fun x hx=>hx⟩|exact fun x hx=>hx
 ·refine⟨_,Gh.refl _,?_⟩
  simp only[go_sem,lB]
  first|exact⟨rfl,fun x hx=>hx⟩|exact fun x hx=>hx
def edgeL (x:NodeD):List Int:=x.kids++x.fields.map (·.node)++bif decide (x.kind=13) then [x.r0,x.r1] else []
theorem c4A (l:List Int) (v:Int):l.map a0h++[[C.int .i64 v]]=(l++[v]).map a0h:=by rw[zbn];rfl
theorem d0z (l:List Int) (v w:Int):l.map a0h++[[C.int .i64 v],[C.int .i64 w]]=(l++[v,w]).map a0h:=by rw[zbn];rfl
theorem c8c (x:NodeD) (hk:x.kids.length≤1000000) (hf:x.fields.length≤1000000):PC zP 177 [Nt x] (IsP (edgeL x)):=by
 have ae:=b2R x.kids (by omega)
 refine PCB.ob Tryz.func177 Tryz.ntmps177 Tryz.results177 ?_
 refine AWP.ghQ ?_
 repeat'(first|simp only[go_sem,a0d,lB]<;>refine nf ?_|refine stp ?_;intro K hK|apply hK;clear hK K|refine stn ?_|(with_reducible refine Or.inr (Or.inl ⟨_,_,ae,?_⟩))|fail)
 refine AWP.len 10 rfl fun u=>?_
 (try rw[lB] at u)
 refine AWP.range (S:=List Int) (x.fields) a0o (fun k s=>(12,I .i64 (k:Nat))::[(3, .one (.own 8 s.length))]) (fun k s=>[(8, .row 1 (s.map a0h))]) [1,10,11] [1] (fun k s=>Is s (x.kids++(x.fields.take k).map (·.node))) (x.kids) (by refine sts ?_;exact Gh.tt []) ?_ ?_ ?_
 ·simp[Is]
 ·intro k s y ab hy af aa q
  refine sts ?_
  have ad:s.length≤2000000:=by rw[show s=_ from q,lA,lB,zbb];omega
  repeat'(first|simp only[go_sem,lB,lA,aa,encField_lit,c4A]<;>refine nf ?_|refine stp ?_;intro K hK|apply hK;clear hK K|refine stn ?_|(with_reducible first|refine⟨by omega,a0o y,af,?_⟩|refine⟨(by omega:_≤_),?_⟩)|refine stq ?_|clear hK K)
  all_goals(rw[a0b ab u])
  all_goals(refine⟨s++[y.node],?_,Gh.tt [(8,20)]⟩)
  rw[Is,show s=_ from q,zdb ab]
  have:=(zak.1 hy).2
  simp[this]
 ·intro s aa q
  refine sts ?_
  rw[zbh] at q
  have ad:s.length≤2000000:=by rw[show s=_ from q,lA,lB];omega
  cases hz:decide (x.kind=13)
  ·
   repeat'(first|simp only[go_sem,lB,aa,hz,a0d]<;>refine nf ?_|refine stp ?_;intro K hK|apply hK;clear hK K|refine stn ?_|clear hK K)
   refine⟨_,Gh.fz 8,?_⟩
   simp only[go_sem,lB]
   all_goals(first|exact fun _ h=>absurd h zaf|refine a0m ?_)
   all_goals(rw[edgeL,hz,show s=_ from q];simp)
  ·
   repeat'(first|simp only[go_sem,lB,lA,aa,hz,a0d,d0z]<;>refine nf ?_|refine stp ?_;intro K hK|apply hK;clear hK K|refine stn ?_|(with_reducible refine⟨(by omega:_≤_),?_⟩)|refine stq ?_|clear hK K)
   refine⟨_,Gh.freeze 33 rfl rfl (by simp only[go_sem,lB,lA,List.length_cons,List.length_nil,zbg,Nat.reduceAdd]) (by simp only[go_sem,lB,lA,List.length_cons,List.length_nil,zbg,Nat.reduceAdd]),?_⟩
   simp only[go_sem,lB,lA,List.length_cons,List.length_nil,zbg,Nat.reduceAdd]
   all_goals(first|exact fun _ h=>absurd h zaf|refine a0m ?_)
   all_goals(rw[edgeL,hz,show s=_ from q];rfl)
end Go.Proofs.YtoelgackkclcmaaGreat

