/- Lemmas. -/
import Derived.Test.YtoelgackkclcmaaGreatPc32
open List renaming length_map→lB
open Bool renaming not_eq_true'→zM,not_eq_false'→zN
set_option linter.unusedSimpArgs false
set_option linter.unusedVariables false
set_option maxRecDepth 20000
set_option maxHeartbeats 64000000
namespace Go.Proofs.YtoelgackkclcmaaGreat
open Go Go.Sx
theorem c4i (l:List Val) (hl:l.length≤100000000):PCB Tryz.prog 64 [.one (.own pin l.length)] [(pin, .row 7 (l.map a0c))] (.one (.dat (.sl 7 (l.map a0c)))) [(pin, .row 7 (l.map a0c))]:=by
  refine PCB.ob Tryz.func64 Tryz.ntmps64 Tryz.results64 ?_
  refine AWP.ghQ ?_
  repeat'(first|(with_reducible refine AWP.reg3 (id:=1) (by kernel_rfl) rfl rfl rfl ?_)|simp only[go_sem,pin,lB]<;>refine nf ?_|refine stp ?_;intro K hK|apply hK;clear hK K|refine stn ?_|(refine AWP.cnd ?_ ?_<;>intro h<;>(try simp only[zM,zN] at h))|(refine⟨fun h=>?_,fun h=>?_⟩<;>(try simp only[zM,zN] at h)<;>try simp only[h])|refine stq ?_|clear hK K)
  all_goals(refine⟨_,_,OpG.appOwn (es:=7) (k:=1000000) (rows:=l.map a0c) (by_:=127) (ty1:=38) (ty2:=38) rfl bs38 by38 ni38 (by simp only[go_sem]) (by simp only[go_sem,lB]) rfl (by simp only[go_sem]) (by rw[lB];omega),?_⟩)
  repeat'(first|simp only[go_sem,pin,lB]<;>refine nf ?_|refine stp ?_;intro K hK|apply hK;clear hK K|refine stn ?_|(refine AWP.cnd ?_ ?_<;>intro h<;>(try simp only[zM,zN] at h))|(refine⟨fun h=>?_,fun h=>?_⟩<;>(try simp only[zM,zN] at h)<;>try simp only[h])|refine stq ?_|clear hK K)
  refine⟨_,Gh.fz 4,?_⟩
  simp only[go_sem,lB]
  all_goals((try refine⟨by first|trivial|rfl,?_⟩);intro x hx;simp only[za7] at hx;subst hx;simp)
theorem b6N (l:List Val) (hl:l.length≤100000000):PCB Tryz.prog 27 [.one (.own pin l.length)] [(pin, .row 7 (l.map a0c))] (Vt (a1m l)) [(pin, .row 7 (l.map a0c))]:=by
  have h:a1k Tryz.prog 64 [.one (.own 1000000 l.length)] 1000000 (.row 7 (l.map a0c)) (.one (.dat (.sl 7 (l.map a0c)))) (.row 7 (l.map a0c)):=a1k.mk 1000000 (c4i l hl)
  have e:a0c (a1m l)=[.int .i64 6, .int .i64 0, .str [], .sl 7 (l.map a0c), .sl 2 [], .sl 9 [], .sl 1 []]:=by rw[a0a];rfl
  refine PCB.ob Tryz.func27 Tryz.ntmps27 Tryz.results27 ?_
  repeat'(first|simp only[go_sem,pin,lB]<;>refine nf ?_|refine stp ?_;intro K hK|apply hK;clear hK K|refine stn ?_|(refine AWP.cnd ?_ ?_<;>intro h<;>(try simp only[zM,zN] at h))|(refine⟨fun h=>?_,fun h=>?_⟩<;>(try simp only[zM,zN] at h)<;>try simp only[h])|(apply Or.inr;refine⟨1000000,_,_,_,h,rfl,?_⟩;simp only[go_sem])|refine stq ?_|clear hK K)
  all_goals(try rw[show Vt (a1m l)=T.st (a0c (a1m l)) from rfl,e])
  all_goals((try refine⟨by first|trivial|rfl,?_⟩);intro x hx;simp only[za7] at hx;subst hx;simp)
end Go.Proofs.YtoelgackkclcmaaGreat

