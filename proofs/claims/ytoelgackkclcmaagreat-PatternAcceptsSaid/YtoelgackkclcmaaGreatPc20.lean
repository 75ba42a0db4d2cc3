/- Lemmas. -/
import Derived.Test.YtoelgackkclcmaaGreatPc16
open List renaming length_map→lB
open Bool renaming not_eq_true'→zM,not_eq_false'→zN
set_option linter.unusedSimpArgs false
set_option linter.unusedVariables false
set_option maxRecDepth 20000
set_option maxHeartbeats 64000000
namespace Go.Proofs.YtoelgackkclcmaaGreat
open Go Go.Sx
theorem c9n (v:Val) (hk:v.kind=9):PC Tryz.prog 87 [.st (a0c v)] (Bo (a0K v)):=by
 have u:a40 v.labels=goB Lib.compareBytes a0X none v.labels:=by rw[a5a];rfl
 refine PCB.ob Tryz.func87 Tryz.ntmps87 Tryz.results87 ?_
 repeat'(first|simp only[go_sem,a0a,hk]<;>refine nf ?_|refine stp ?_;intro K hK|apply hK;clear hK K|refine stn ?_|fail)
 refine AWP.lenB 1 6 rfl rfl fun ae=>?_
 (try rw[lB] at ae)
 refine AWP.range (S:=Unit) (v.labels) Sx.encStr (fun k s=>(3,I .i64 (k:Nat))::[]) (fun k s=>[]) [1] [1] (fun k s=>goB Lib.compareBytes a0X none v.labels=goB Lib.compareBytes a0X (a49 v.labels k) (v.labels.drop k)) (()) (by simp only[go_sem,a0a];exact Gh.tt []) ?_ ?_ ?_
 ·rfl
 ·intro k s x ai hx ag hb q
  refine sts ?_
  rcases zb9 k with ab|ab
  ·rw[a4r ab hx] at q
   have ad:decide ((0:Int)<(k:Int))=false:=by rw[ab];rfl
   cases hz:a0X x<;>simp only[hz,zae,zai] at q
   ·
    repeat'(first|simp only[go_sem,a0a,Sx.encStr,hk,lB,hb,hz,ad]<;>refine nf ?_|refine stp ?_;intro K hK|apply hK;clear hK K|refine stn ?_|(with_reducible first|refine⟨_,a0s x,?_⟩|refine⟨by omega,Sx.encStr x,ag,?_⟩)|(refine a0J ?_;intro K hK)|clear hK K)
    all_goals(first|exact lf|(refine a0m ?_;simp only[a0K,u,q,zb,zaa,zab,zac,zad]<;>rfl))
   ·
    repeat'(first|simp only[go_sem,a0a,Sx.encStr,hk,lB,hb,hz,ad]<;>refine nf ?_|refine stp ?_;intro K hK|apply hK;clear hK K|refine stn ?_|(with_reducible first|refine⟨_,a0s x,?_⟩|refine⟨by omega,Sx.encStr x,ag,?_⟩)|(refine a0J ?_;intro K hK)|clear hK K)
    all_goals(rw[a0b ai ae])
    all_goals(refine⟨(),?_,Gh.tt []⟩)
    all_goals exact q
  ·obtain⟨j,rfl⟩:∃ j,k=j+1:=⟨_,ab⟩
   obtain⟨y,hy,an,_,_⟩:=a1A (enc:=Sx.encStr) (show j<v.labels.length by omega)
   rw[a4s hy hx] at q
   have hw:IntKind.i64.wrap (((j+1:Nat):Int)-1)=(j:Int):=by rw[w64 (by omega)];omega
   have ad:decide ((0:Int)<((j+1:Nat):Int))=true:=by simp only[zan];omega
   cases hz:a0X x<;>cases hc:decide (Lib.compareBytes y x<0)<;>simp only[hz,hc,zae,zai] at q
   all_goals
    have ah:decide (0≤Lib.compareBytes y x)=!decide (Lib.compareBytes y x<0):=by rw[← zbj];simp
    rw[hc] at ah
   all_goals(have hl:=a5b y x;rw[hc] at hl)
   all_goals
    repeat'(first|simp only[go_sem,a0a,Sx.encStr,hk,lB,hb,hz,ad,hw,ah,hl]<;>refine nf ?_|refine stp ?_;intro K hK|apply hK;clear hK K|refine stn ?_|(with_reducible first|refine⟨_,a0s x,?_⟩|refine⟨by omega,Sx.encStr x,ag,?_⟩|refine⟨by omega,Sx.encStr y,an,?_⟩)|(refine a0J ?_;intro K hK)|clear hK K)
   any_goals (first|exact fun _ h=>absurd h zaf|(refine a0m ?_;first|(simp only[a0K,u,q,zaw,zay,zae,zai,zap,zaj,zam,zaq,zat,zar,zaa,zab,zac,zad];done)|(simp only[a0K,u,q,zaw,zay,zae,zai,zap,zaj,zam,zaq,zat,zar,zaa,zab,zac,zad];rfl)))
   all_goals(rw[a0b ai ae])
   all_goals(refine⟨(),?_,Gh.tt []⟩)
   all_goals exact q
 intro s0 ao aj
 refine sts ?_
 rw[a58] at aj
 rw[aj] at u
 have aa:c8O v=(!(decide (v.num<0)||decide (4<v.num))&&goB a7H (fun e=>b5B e v.num) none v.ents):=by
  rw[a5a,c8O]
  cases decide (v.num<0)<;>cases decide (4<v.num)<;>cases a7L a7H v.ents<;>rfl
 have aq:=a42
 repeat'(first|simp only[go_sem,a0a,hk,ao,lB]<;>refine nf ?_|refine stp ?_;intro K hK|apply hK;clear hK K|refine stn ?_|(refine AWP.cnd ?_ ?_<;>intro h<;>(try simp only[zM,zN] at h))|(refine⟨fun h=>?_,fun h=>?_⟩<;>(try simp only[zM,zN] at h)<;>try simp only[h])|clear hK K)
 any_goals (first|exact fun _ h=>absurd h zaf|(refine a0m ?_;simp only[a0K,a0L,a2R,a56,a2m,a2n,a2o,a2p,a09,hk,Int.reduceEq,Int.reduceLE,u, *, zaw,zay,zae,zai,zap,zaj,zam,zaq,zat,zar,zaa,zab,zac,zad];done))
 refine AWP.lenB 1 5 rfl rfl fun af=>?_
 (try rw[lB] at af)
 refine AWP.range (S:=Unit) (v.ents) a0n (fun k s=>(8,I .i64 (k:Nat))::[]) (fun k s=>[]) [1] [1] (fun k s=>goB a7H (fun e=>b5B e v.num) none v.ents=goB a7H (fun e=>b5B e v.num) (a49 v.ents k) (v.ents.drop k)) (()) (by simp only[go_sem,a0a];exact Gh.tt []) ?_ ?_ ?_
 ·rfl
 ·intro k s x ai hx ag hb q
  refine sts ?_
  have am:=b17 x.2.2 a2f
  rw[a42,a0a] at am
  rcases zb9 k with ab|ab
  ·rw[a4r ab hx] at q
   rw[show b5B x v.num=(decide ((x.1.length:Int)=v.num)&&(!x.2.1||a7d x.2.2)) from rfl] at q
   have ad:decide ((0:Int)<(k:Int))=false:=by rw[ab];rfl
   cases hl:decide ((x.1.length:Int)=v.num)<;>cases hf:x.2.1<;>cases hz:decide (valC x.2.2 a2f=0)
   all_goals(simp only[a7d,hl,hf,hz,zaw,zay,zae,zai,zap,zaj,zam,zaq,zat,zar,zaa,zab,zac,zad] at q)
   all_goals
    repeat'(first|simp only[go_sem,a0a,a0A x,hk,lB,hb,hz,hl,hf,ad]<;>refine nf ?_|refine stp ?_;intro K hK|apply hK;clear hK K|refine stn ?_|(with_reducible first|refine⟨_,am,?_⟩|refine⟨by omega,a0n x,ag,?_⟩)|(refine a0J ?_;intro K hK)|clear hK K)
   any_goals (first|exact fun _ h=>absurd h zaf|(refine a0m ?_;first|(simp only[a0K,a0L,a2R,a56,a2m,a2n,a2o,a2p,a09,hk,Int.reduceEq,Int.reduceLE,aa,u, *, q,zaw,zay,zae,zai,zap,zaj,zam,zaq,zat,zar,zaa,zab,zac,zad];done)|(simp only[a0K,a0L,a2R,a56,a2m,a2n,a2o,a2p,a09,hk,Int.reduceEq,Int.reduceLE,aa,u, *, q,zaw,zay,zae,zai,zap,zaj,zam,zaq,zat,zar,zaa,zab,zac,zad];rfl)))
   all_goals(rw[a0b ai af])
   all_goals(refine⟨(),?_,Gh.tt []⟩)
   all_goals exact q
  ·obtain⟨j,rfl⟩:∃ j,k=j+1:=⟨_,ab⟩
   obtain⟨y,hy,an,_,_⟩:=a1A (enc:=a0n) (show j<v.ents.length by omega)
   rw[a4s hy hx] at q
   rw[show b5B x v.num=(decide ((x.1.length:Int)=v.num)&&(!x.2.1||a7d x.2.2)) from rfl] at q
   have hw:IntKind.i64.wrap (((j+1:Nat):Int)-1)=(j:Int):=by rw[w64 (by omega)];omega
   have ad:decide ((0:Int)<((j+1:Nat):Int))=true:=by simp only[zan];omega
   have al:=a7c y x (fun a _ b=>a2l a b) (fun b=>a2l _ b)
   rw[a0A x] at al
   cases hl:decide ((x.1.length:Int)=v.num)<;>cases hf:x.2.1<;>cases hz:decide (valC x.2.2 a2f=0)<;>cases hc:decide (a7H y x<0)
   all_goals(simp only[a7d,hl,hf,hz,hc,zaw,zay,zae,zai,zap,zaj,zam,zaq,zat,zar,zaa,zab,zac,zad] at q)
   all_goals(try rw[hf] at al)
   all_goals
    have ah:decide (0≤a7H y x)=!decide (a7H y x<0):=by rw[← zbj];simp
    rw[hc] at ah
   all_goals
    repeat'(first|simp only[go_sem,a0a,a0A x,hk,lB,hb,hz,hl,hf,ad,hw,ah]<;>refine nf ?_|refine stp ?_;intro K hK|apply hK;clear hK K|refine stn ?_|(with_reducible first|refine⟨_,am,?_⟩|refine⟨_,al,?_⟩|refine⟨by omega,a0n x,ag,?_⟩|refine⟨by omega,a0n y,an,?_⟩)|(refine a0J ?_;intro K hK)|clear hK K)
   any_goals (first|exact fun _ h=>absurd h zaf|(refine a0m ?_;first|(simp only[a0K,a0L,a2R,a56,a2m,a2n,a2o,a2p,a09,hk,Int.reduceEq,Int.reduceLE,aa,u, *, q,zaw,zay,zae,zai,zap,zaj,zam,zaq,zat,zar,zaa,zab,zac,zad];done)|(simp only[a0K,a0L,a2R,a56,a2m,a2n,a2o,a2p,a09,hk,Int.reduceEq,Int.reduceLE,aa,u, *, q,zaw,zay,zae,zai,zap,zaj,zam,zaq,zat,zar,zaa,zab,zac,zad];rfl)))
   all_goals(rw[a0b ai af])
   all_goals(refine⟨(),?_,Gh.tt []⟩)
   all_goals exact q
 intro s1 ap ak
 refine sts ?_
 rw[a58] at ak
 rw[ak] at aa
 repeat'(first|simp only[go_sem,a0a,hk,ap,lB]<;>refine nf ?_|refine stp ?_;intro K hK|apply hK;clear hK K|refine stn ?_|clear hK K)
 all_goals(first|exact lf|(refine a0m ?_;simp only[a0K,a0L,a2R,a56,a2m,a2n,a2o,a2p,a09,hk,Int.reduceEq,Int.reduceLE,u,aa, *, zb,zaa,zab,zac,zad]<;>rfl))
end Go.Proofs.YtoelgackkclcmaaGreat

