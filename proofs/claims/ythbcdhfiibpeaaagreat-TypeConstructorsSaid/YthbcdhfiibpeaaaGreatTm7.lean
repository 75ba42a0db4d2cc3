/- Lemmas of the proof. -/
import Init
import Derived.Shelf.SlSortCmp.NoneTotal
import Derived.Test.YthbcdhfiibpeaaaGreatProg
import Derived.Shelf.SortM.Plain
import Derived.Shelf.SortM.SortNone
import Derived.Shelf.SlicesG.CompactS
set_option linter.unusedSimpArgs false
set_option linter.unusedVariables false
set_option maxRecDepth 20000
set_option maxHeartbeats 64000000
namespace Go.Ivl
structure Rg where
  lo:Int
  hi:Int
  deriving DecidableEq
def Rg.has (r:Rg) (n:Int):Prop:=r.lo≤n∧n≤r.hi
def has (s:List Rg) (n:Int):Prop:=∃ r∈s,r.lo≤n∧n≤r.hi
def Nf (s:List Rg):Prop:=(∀ r∈s,r.lo≤r.hi)∧s.Pairwise fun x y=>x.hi+1<y.lo
def big:Int:=9223372036854775807
def In6 (r:Rg):Prop:=(-9223372036854775808≤r.lo∧r.lo≤9223372036854775807)∧(-9223372036854775808≤r.hi∧r.hi≤9223372036854775807)
theorem a2I {n:Int}:has [] n↔False:=by simp[has]
theorem a0U {x:Rg} {s:List Rg} {n:Int}:has (x::s) n↔(x.lo≤n∧n≤x.hi)∨has s n:=by simp[has]
theorem a4O {s t:List Rg} {n:Int}:has (s++t) n↔has s n∨has t n:=by
  simp only[has,List.mem_append]
  constructor
  · rintro⟨r,h|h,k⟩;exact .inl ⟨r,h,k⟩;exact .inr ⟨r,h,k⟩
  · rintro (⟨r,h,k⟩|⟨r,h,k⟩);exact⟨r, .inl h,k⟩;exact⟨r, .inr h,k⟩
theorem c2h {s t:List Rg} (h:s.Perm t) {n:Int}:has s n↔has t n:=by
  simp only[has,h.mem_iff]
theorem Nf.tail {x:Rg} {s:List Rg} (h:Nf (x::s)):Nf s:=
  ⟨fun r hr=>h.1 r (List.mem_cons_of_mem _ hr),(List.pairwise_cons.1 h.2).2⟩
theorem Nf.head {x:Rg} {s:List Rg} (h:Nf (x::s)):x.lo≤x.hi:=h.1 x (by simp)
theorem Nf.after {x:Rg} {s:List Rg} (h:Nf (x::s)) {n:Int} (k:has s n):x.hi+1<n:=by
  obtain⟨r,hr,k⟩:=k
  have:=(List.pairwise_cons.1 h.2).1 r hr
  omega
theorem Nf.unique:∀ {s t:List Rg},Nf s→Nf t→(∀ n,has s n↔has t n)→s=t
 |[],[],_,_,_=>rfl
 |[],y::t,_,ht,h=>by
  have:=(h y.lo).2 (a0U.2 (.inl ⟨Int.le_refl _,ht.head⟩))
  simp[has] at this
 |x::s,[],hs,_,h=>by
  have:=(h x.lo).1 (a0U.2 (.inl ⟨Int.le_refl _,hs.head⟩))
  simp[has] at this
 |x::s,y::t,hs,ht,h=>by
  have hx:=hs.head
  have hy:=ht.head
  have h1:x.lo=y.lo:=by
   have a:=(h x.lo).1 (a0U.2 (.inl ⟨Int.le_refl _,hx⟩))
   have b:=(h y.lo).2 (a0U.2 (.inl ⟨Int.le_refl _,hy⟩))
   rw[a0U] at a b
   have a':y.lo≤x.lo:=by
    rcases a with a|a
    ·exact a.1
    ·have:=ht.after a;omega
   have b':x.lo≤y.lo:=by
    rcases b with b|b
    ·exact b.1
    ·have:=hs.after b;omega
   omega
  have h2:x.hi=y.hi:=by
   by_cases hlt:x.hi<y.hi
   ·have a:=(h (x.hi+1)).2 (a0U.2 (.inl ⟨by omega,by omega⟩))
    rw[a0U] at a
    rcases a with a|a
    ·omega
    ·have:=hs.after a;omega
   ·by_cases hgt:y.hi<x.hi
    ·have a:=(h (y.hi+1)).1 (a0U.2 (.inl ⟨by omega,by omega⟩))
     rw[a0U] at a
     rcases a with a|a
     ·omega
     ·have:=ht.after a;omega
    ·omega
  have hxy:x=y:=by cases x;cases y;simp_all
  subst hxy
  have:s=t:=Nf.unique hs.tail ht.tail fun n=>by
   have hn:=h n
   rw[a0U,a0U] at hn
   constructor
   ·intro k
    have:=hs.after k
    rcases hn.1 (.inr k) with c|c
    ·omega
    ·exact c
   ·intro k
    have:=ht.after k
    rcases hn.2 (.inr k) with c|c
    ·omega
    ·exact c
  rw[this]
def before (x r:Rg):Bool:=decide (x.hi<r.lo)&&decide (x.hi+1<r.lo)
def c5Y (r x:Rg):Rg:=⟨min r.lo x.lo,max r.hi x.hi⟩
structure Acc where
  rest:List Rg
  r:Rg
  after:List Rg
def a2i (a:Acc) (x:Rg):Acc:=
  if before x a.r then { a with rest:=a.rest++[x] }
  else if before a.r x then { a with after:=a.after++[x] }
  else { a with r:=c5Y a.r x }
def c5n (out:List Rg) (r:Rg):List Rg:=
  let a:=out.foldl a2i ⟨[],r,[]⟩
  a.rest++[a.r]++a.after
def a8N (out:List Rg) (r:Rg):List Rg:=if r.lo>r.hi then out else c5n out r
def nf (l:List Rg):List Rg:=l.foldl a8N []
theorem a8r {x r:Rg}:before x r=true↔x.hi+1<r.lo:=by
  simp only[before,Bool.and_eq_true,decide_eq_true_eq];omega
theorem b6b:∀ (l:List Rg) (a:Acc),Nf l→a.r.lo≤a.r.hi→(∀ x∈a.rest,x.hi+1<a.r.lo∧∀ y∈l,x.hi+1<y.lo)→(∀ x∈a.after,a.r.hi+1<x.lo∧∀ y∈l,x.hi+1<y.lo)→
  Nf a.rest→Nf a.after→
  (∀ n,has ((l.foldl a2i a).rest++[(l.foldl a2i a).r]++(l.foldl a2i a).after) n↔has (a.rest++[a.r]++a.after) n∨has l n)∧Nf ((l.foldl a2i a).rest++[(l.foldl a2i a).r]++(l.foldl a2i a).after)∧
   ((l.foldl a2i a).rest++[(l.foldl a2i a).r]++(l.foldl a2i a).after).length≤(a.rest++[a.r]++a.after).length+l.length
 |[],a,_,hr,h1,h2,h3,h4=>by
  refine⟨fun n=>by simp[a2I],⟨fun x hx=>?_,?_⟩,by simp⟩
  ·simp only[List.foldl_nil,List.mem_append,List.mem_singleton] at hx
   rcases hx with (hx|hx)|hx
   ·exact h3.1 x hx
   ·subst hx;exact hr
   ·exact h4.1 x hx
  ·simp only[List.foldl_nil]
   refine List.pairwise_append.2 ⟨List.pairwise_append.2 ⟨h3.2,by simp,fun x hx y hy=>?_⟩,h4.2,fun x hx y hy=>?_⟩
   ·simp only[List.mem_singleton] at hy;subst hy;exact(h1 x hx).1
   ·rcases List.mem_append.1 hx with hx|hx
    ·have:=(h1 x hx).1;have:=(h2 y hy).1;omega
    ·simp only[List.mem_singleton] at hx;subst hx;exact(h2 y hy).1
 |x::l,a,hl,hr,h1,h2,h3,h4=>by
  have hxl:=hl.head
  have hpw:=(List.pairwise_cons.1 hl.2).1
  simp only[List.foldl_cons]
  by_cases hb:before x a.r=true
  ·have hb':=a8r.1 hb
   have hst:a2i a x={ a with rest:=a.rest++[x] }:=by simp[a2i,hb]
   rw[hst]
   have haft:a.after=[]:=by
    cases ha:a.after with
    |nil=>rfl
    |cons y ys=>
     have:=h2 y (by rw[ha];simp)
     have h5:=this.2 x (by simp)
     have h6:=h4.1 y (by rw[ha];simp)
     omega
   obtain⟨g1,g2,g3⟩:=b6b l { a with rest:=a.rest++[x] } hl.tail hr (fun y hy=>by
    simp only[List.mem_append,List.mem_singleton] at hy
    rcases hy with hy|hy
    ·exact⟨(h1 y hy).1,fun z hz=>(h1 y hy).2 z (List.mem_cons_of_mem _ hz)⟩
    ·subst hy;exact⟨hb',hpw⟩) (fun y hy=>⟨(h2 y hy).1,fun z hz=>(h2 y hy).2 z (List.mem_cons_of_mem _ hz)⟩)
    ⟨fun y hy=>by
     simp only[List.mem_append,List.mem_singleton] at hy
     rcases hy with hy|hy
     ·exact h3.1 y hy
     ·subst hy;exact hxl,List.pairwise_append.2 ⟨h3.2,by simp,fun y hy z hz=>by
      simp only[List.mem_singleton] at hz;subst hz;exact(h1 y hy).2 z (by simp)⟩⟩ h4
   refine⟨fun n=>?_,g2,by simp at g3 ⊢; omega⟩
   rw[g1 n];simp only[a4O,a0U,a2I,or_false]
   constructor
   ·rintro ((((h|h)|h)|h)|h)<;>simp_all
   ·rintro (((h|h)|h)|h|h)<;>simp_all
  ·by_cases hc:before a.r x=true
   ·have hc':=a8r.1 hc
    have hst:a2i a x={ a with after:=a.after++[x] }:=by simp[a2i,hb,hc]
    rw[hst]
    obtain⟨g1,g2,g3⟩:=b6b l { a with after:=a.after++[x] } hl.tail hr (fun y hy=>⟨(h1 y hy).1,fun z hz=>(h1 y hy).2 z (List.mem_cons_of_mem _ hz)⟩)
     (fun y hy=>by
      simp only[List.mem_append,List.mem_singleton] at hy
      rcases hy with hy|hy
      ·exact⟨(h2 y hy).1,fun z hz=>(h2 y hy).2 z (List.mem_cons_of_mem _ hz)⟩
      ·subst hy;exact⟨hc',hpw⟩) h3
     ⟨fun y hy=>by
      simp only[List.mem_append,List.mem_singleton] at hy
      rcases hy with hy|hy
      ·exact h4.1 y hy
      ·subst hy;exact hxl,List.pairwise_append.2 ⟨h4.2,by simp,fun y hy z hz=>by
       simp only[List.mem_singleton] at hz;subst hz;exact(h2 y hy).2 z (by simp)⟩⟩
    refine⟨fun n=>?_,g2,by simp at g3 ⊢; omega⟩
    rw[g1 n];simp only[a4O,a0U,a2I,or_false]
    constructor
    ·rintro (((h|h)|(h|h))|h)<;>simp_all
    ·rintro (((h|h)|h)|h|h)<;>simp_all
   ·have hst:a2i a x={ a with r:=c5Y a.r x }:=by simp[a2i,hb,hc]
    rw[hst]
    rw[a8r] at hb hc
    have haft:∀ y∈a.after,y.hi+1<x.lo:=fun y hy=>(h2 y hy).2 x (by simp)
    have haft2:a.after=[]:=by
     cases ha:a.after with
     |nil=>rfl
     |cons y ys=>
      have h5:=haft y (by rw[ha];simp)
      have h6:=h4.1 y (by rw[ha];simp)
      have h7:=(h2 y (by rw[ha];simp)).1
      omega
    obtain⟨g1,g2,g3⟩:=b6b l { a with r:=c5Y a.r x } hl.tail (by simp only[c5Y];omega) (fun y hy=>⟨by
      have p1:=(h1 y hy).1
      have p2:=(h1 y hy).2 x (by simp)
      simp only[c5Y];omega,fun z hz=>(h1 y hy).2 z (List.mem_cons_of_mem _ hz)⟩)
     (fun y hy=>by rw[haft2] at hy;cases hy) h3 h4
    refine⟨fun n=>?_,g2,by simp at g3 ⊢; omega⟩
    rw[g1 n];simp only[a4O,a0U,a2I,or_false,c5Y]
    have:(min a.r.lo x.lo≤n∧n≤max a.r.hi x.hi)↔((a.r.lo≤n∧n≤a.r.hi)∨(x.lo≤n∧n≤x.hi)):=by omega
    rw[this]
    constructor
    ·rintro (((h|h|h)|h)|h)<;>simp_all
    ·rintro (((h|h)|h)|h|h)<;>simp_all
theorem c5o {out:List Rg} {r:Rg} (h:Nf out) (hr:r.lo≤r.hi):(∀ n,has (c5n out r) n↔(r.lo≤n∧n≤r.hi)∨has out n)∧Nf (c5n out r)∧(c5n out r).length≤out.length+1:=by
 have:=b6b out ⟨[],r,[]⟩ h hr (by simp) (by simp) ⟨by simp,by simp⟩ ⟨by simp,by simp⟩
 refine⟨fun n=>?_,this.2.1,?_⟩
 ·have h1:=this.1 n
  simp only[List.nil_append,List.append_nil,a0U,a2I,or_false] at h1
  exact h1
 ·have:=this.2.2;simp at this;unfold c5n;simp;omega
theorem a5X:∀ (l out:List Rg),Nf out→(∀ n,has (l.foldl a8N out) n↔has out n∨has l n)∧Nf (l.foldl a8N out)∧(l.foldl a8N out).length≤out.length+l.length
 |[],out,h=>⟨fun n=>by simp[a2I],h,by simp⟩
 |r::l,out,h=>by
  simp only[List.foldl_cons]
  by_cases hr:r.lo>r.hi
  ·have hst:a8N out r=out:=by simp only[a8N,if_pos hr]
   rw[hst]
   obtain⟨g1,g2,g3⟩:=a5X l out h
   refine⟨fun n=>?_,g2,by simp;omega⟩
   rw[g1 n,a0U]
   have:¬ (r.lo≤n∧n≤r.hi):=by omega
   simp[this]
  ·have hst:a8N out r=c5n out r:=by simp only[a8N,if_neg hr]
   rw[hst]
   obtain⟨k1,k2,k3⟩:=c5o h (r:=r) (by omega)
   obtain⟨g1,g2,g3⟩:=a5X l (c5n out r) k2
   refine⟨fun n=>?_,g2,by simp;omega⟩
   rw[g1 n,k1 n,a0U]
   constructor
   ·rintro ((h|h)|h)<;>simp_all
   ·rintro (h|h|h)<;>simp_all
theorem nf_has (l:List Rg) (n:Int):has (nf l) n↔has l n:=by
  have:=(a5X l [] ⟨by simp,by simp⟩).1 n
  unfold nf
  simpa [a2I] using this
theorem nf_Nf (l:List Rg):Nf (nf l):=(a5X l [] ⟨by simp,by simp⟩).2.1
theorem nf_len (l:List Rg):(nf l).length≤l.length:=by unfold nf;simpa using (a5X l [] ⟨by simp,by simp⟩).2.2
theorem c77 {s l:List Rg} (h:Nf s) (k:∀ n,has s n↔has l n):s=nf l:=Nf.unique h (nf_Nf l) fun n=>(k n).trans (nf_has l n).symm
theorem b7l {s:List Rg} (hs:∀ n,has s n→ -9223372036854775808≤n∧n≤9223372036854775807) (h:Nf s):∀ r∈s,In6 r:=fun r hr=>by
  have h0:=h.1 r hr
  exact⟨hs _ ⟨r,hr,Int.le_refl _,h0⟩,hs _ ⟨r,hr,h0,Int.le_refl _⟩⟩
theorem b9R {s:List Rg} (hs:∀ r∈s,In6 r) (n:Int) (h:has s n): -9223372036854775808≤n∧n≤9223372036854775807:=by
  obtain⟨r,hr,h⟩:=h
  have:=hs r hr
  unfold In6 at this
  omega
theorem c3i {l:List Rg} (h:∀ r∈l,In6 r):∀ r∈nf l,In6 r:=
  b7l (fun n k=>b9R h n ((nf_has l n).1 k)) (nf_Nf l)
def mergeStep (out:List Rg) (r:Rg):List Rg:=
  match out.getLast? with
  |none=>out++[r]
  |some k=>if k.hi=9223372036854775807∨r.lo≤k.hi+1 then out.dropLast++[⟨k.lo,max k.hi r.hi⟩] else out++[r]
theorem b6c:∀ (l out:List Rg),(∀ r∈l,r.lo≤r.hi∧r.hi≤9223372036854775807)→l.Pairwise (fun x y=>x.lo≤y.lo)→Nf out→(∀ k∈out,∀ r∈l,k.lo≤r.lo)→ 
  (∀ n,has (l.foldl mergeStep out) n↔has out n∨has l n)∧Nf (l.foldl mergeStep out)
 |[],out,_,_,h,_=>⟨fun n=>by simp[a2I],h⟩
 |r::l,out,hl,hp,h,hk=>by
  simp only[List.foldl_cons]
  have hp':=List.pairwise_cons.1 hp
  have hr:=hl r (by simp)
  have key:(∀ n,has (mergeStep out r) n↔(r.lo≤n∧n≤r.hi)∨has out n)∧Nf (mergeStep out r)∧∀ k∈mergeStep out r,∀ y∈l,k.lo≤y.lo:=by
   have hback:∀ (o:List Rg),Nf o→(∀ x∈o,x.hi+1<r.lo)→(∀ k∈o,∀ y∈l,k.lo≤y.lo)→(∀ n,has (o++[r]) n↔(r.lo≤n∧n≤r.hi)∨has o n)∧Nf (o++[r])∧∀ k∈o++[r],∀ y∈l,k.lo≤y.lo:=by
    intro o ho hlt hkl
    refine⟨fun n=>by simp[a4O,a0U,a2I,or_comm],⟨fun x hx=>?_,List.pairwise_append.2 ⟨ho.2,by simp,fun x hx y hy=>?_⟩⟩,fun k hk y hy=>?_⟩
    ·rcases List.mem_append.1 hx with hx|hx
     ·exact ho.1 x hx
     ·simp only[List.mem_singleton] at hx;subst hx;exact hr.1
    ·simp only[List.mem_singleton] at hy;subst hy;exact hlt x hx
    ·rcases List.mem_append.1 hk with hk|hk
     ·exact hkl k hk y hy
     ·simp only[List.mem_singleton] at hk;subst hk;exact hp'.1 y hy
   unfold mergeStep
   cases hg:out.getLast? with
   |none=>
    have:out=[]:=by simpa using hg
    subst this
    exact hback [] h (by simp) (by simp)
   |some k=>
    have hne:out≠[]:=by intro e;subst e;simp at hg
    have hout:out=out.dropLast++[k]:=by
     have:=List.dropLast_concat_getLast hne
     rw[List.getLast?_eq_some_getLast hne] at hg
     simp only[Option.some.injEq] at hg
     rw[← hg];exact this.symm
    have hkm:k∈out:=by rw[hout];simp
    have hkr:=hk k hkm r (by simp)
    have hk0:=h.1 k hkm
    have hpre:∀ x∈out.dropLast,x.hi+1<k.lo:=by
     have:=h.2
     rw[hout] at this
     exact fun x hx=>(List.pairwise_append.1 this).2.2 x hx k (by simp)
    have hdrop:Nf out.dropLast:=⟨fun x hx=>h.1 x (List.dropLast_subset _ hx),(h.2).sublist (List.dropLast_sublist _)⟩
    by_cases hc:k.hi=9223372036854775807∨r.lo≤k.hi+1
    ·simp only[hc,if_true]
     refine⟨fun n=>?_,⟨fun x hx=>?_,List.pairwise_append.2 ⟨hdrop.2,by simp,fun x hx y hy=>?_⟩⟩,fun x hx y hy=>?_⟩
     ·conv=>rhs;rw[hout]
      simp only[a4O,a0U,a2I,or_false]
      have:(k.lo≤n∧n≤max k.hi r.hi)↔((r.lo≤n∧n≤r.hi)∨(k.lo≤n∧n≤k.hi)):=by
       rcases hc with hc|hc<;>omega
      rw[this]
      constructor
      ·rintro (h|h|h)<;>simp[h]
      ·rintro (h|h|h)<;>simp[h]
     ·rcases List.mem_append.1 hx with hx|hx
      ·exact hdrop.1 x hx
      ·simp only[List.mem_singleton] at hx;subst hx;simp only;omega
     ·simp only[List.mem_singleton] at hy;subst hy;exact hpre x hx
     ·rcases List.mem_append.1 hx with hx|hx
      ·exact hk x (List.dropLast_subset _ hx) y (List.mem_cons_of_mem _ hy)
      ·simp only[List.mem_singleton] at hx;subst hx;exact hk k hkm y (List.mem_cons_of_mem _ hy)
    ·simp only[hc,if_false]
     refine hback out h (fun x hx=>?_) (fun x hx y hy=>hk x hx y (List.mem_cons_of_mem _ hy))
     rw[hout] at hx
     rcases List.mem_append.1 hx with hx|hx
     ·have:=hpre x hx;omega
     ·simp only[List.mem_singleton] at hx;subst hx;omega
  obtain⟨k1,k2,k3⟩:=key
  obtain⟨g1,g2⟩:=b6c l (mergeStep out r) (fun y hy=>hl y (List.mem_cons_of_mem _ hy)) hp'.2 k2 k3
  refine⟨fun n=>?_,g2⟩
  rw[g1 n,k1 n,a0U]
  constructor
  ·rintro ((h|h)|h)<;>simp_all
  ·rintro (h|h|h)<;>simp_all
theorem c2i {l s:List Rg} (hl:∀ r∈l,In6 r) (hs:s.Perm (l.filter fun r=>decide (r.lo≤r.hi))) (hp:s.Pairwise fun x y=>x.lo≤y.lo):s.foldl mergeStep []=nf l:=by
 have hmem:∀ r∈s,r.lo≤r.hi∧r.hi≤9223372036854775807:=fun r hr=>by
  have:=hs.mem_iff.1 hr
  simp only[List.mem_filter,decide_eq_true_eq] at this
  exact⟨this.2,(hl r this.1).2.2⟩
 obtain⟨g1,g2⟩:=b6c s [] hmem hp ⟨by simp,by simp⟩ (by simp)
 refine c77 g2 fun n=>?_
 rw[g1 n,c2h hs,a2I,false_or]
 simp only[has,List.mem_filter,decide_eq_true_eq]
 constructor
 ·rintro⟨r,⟨h1,_⟩,h2⟩;exact⟨r,h1,h2⟩
 ·rintro⟨r,h1,h2⟩;exact⟨r,⟨h1,by omega⟩,h2⟩
def a3c (from_:Int):List Rg→List Rg
  |[]=>[⟨from_,9223372036854775807⟩]
  |r::l=>(if r.lo>from_ then [⟨from_,r.lo-1⟩] else [])++(if r.hi=9223372036854775807 then [] else a3c (r.hi+1) l)
def c8J (a:List Rg):List Rg:=a3c (-9223372036854775808) (nf a)
theorem b0z:∀ (l:List Rg) (f:Int),Nf l→(∀ r∈l,In6 r)→(∀ r∈l,f≤r.lo)→f≤9223372036854775807→ -9223372036854775808≤f→
  (∀ n,has (a3c f l) n↔(f≤n∧n≤9223372036854775807)∧¬ has l n)∧Nf (a3c f l)∧(a3c f l).length≤l.length+1
 |[],f,_,_,_,hf,_=>by
  refine⟨fun n=>by simp[a3c,a0U,a2I],⟨by simp[a3c];exact hf,by simp[a3c]⟩,by simp[a3c]⟩
 |r::l,f,h,h6,hfl,hf,hf2=>by
  have hr:=h.head
  have hr6:=h6 r (by simp)
  have hfr:=hfl r (by simp)
  unfold In6 at hr6
  unfold a3c
  by_cases hhi:r.hi=9223372036854775807
  ·have hl0:∀ n,¬ has l n:=by
    intro n k
    have h1:=h.after k
    have:=b9R (fun r hr=>h6 r (List.mem_cons_of_mem _ hr)) n k
    omega
   rw[if_pos hhi]
   by_cases hlo:r.lo>f
   ·rw[if_pos hlo]
    refine⟨fun n=>?_,⟨by simp;omega,by simp⟩,by simp⟩
    simp only[List.append_nil,a0U,a2I,or_false,hl0 n]
    omega
   ·rw[if_neg hlo]
    refine⟨fun n=>?_,⟨by simp,by simp⟩,by simp⟩
    simp only[List.append_nil,a0U,a2I,hl0 n,or_false]
    constructor<;>intro h<;>first|omega|exact h.elim
  ·rw[if_neg hhi]
   have hpw:=(List.pairwise_cons.1 h.2).1
   obtain⟨g1,g2,g3⟩:=b0z l (r.hi+1) h.tail (fun x hx=>h6 x (List.mem_cons_of_mem _ hx)) (fun x hx=>by have:=hpw x hx;omega) (by omega) (by omega)
   have hafter:∀ n,has l n→r.hi+1<n:=fun n k=>h.after k
   by_cases hlo:r.lo>f
   ·rw[if_pos hlo]
    refine⟨fun n=>?_,⟨fun x hx=>?_,?_⟩,by simp;omega⟩
    ·simp only[List.cons_append,List.nil_append,a0U,g1 n]
     by_cases hn:has l n
     ·have:=hafter n hn
      simp only[hn,not_true_eq_false,and_false,or_false,or_true]
      constructor<;>intro h<;>first|omega|exact h.elim
     ·simp only[hn,not_false_eq_true,and_true,or_false]
      omega
    ·simp only[List.cons_append,List.nil_append,List.mem_cons] at hx
     rcases hx with hx|hx
     ·subst hx;simp only;omega
     ·exact g2.1 x hx
    ·simp only[List.cons_append,List.nil_append,List.pairwise_cons]
     refine⟨fun x hx=>?_,g2.2⟩
     have hx1:=(g1 x.lo).1 ⟨x,hx,Int.le_refl _,g2.1 x hx⟩
     omega
   ·rw[if_neg hlo]
    refine⟨fun n=>?_,g2,by simp;omega⟩
    simp only[List.nil_append,a0U,g1 n]
    by_cases hn:has l n
    ·simp[hn]
    ·simp only[hn,not_false_eq_true,and_true,or_false]
     omega
theorem comp_len {a:List Rg} (h:∀ r∈a,In6 r):(c8J a).length≤a.length+1:=by
  have h1:=(b0z (nf a) _ (nf_Nf a) (c3i h) (fun r hr=>(c3i h r hr).1.1) (by omega) (by omega)).2.2
  have h2:=nf_len a
  unfold c8J
  omega
def meet (r q:Rg):Rg:=⟨max r.lo q.lo,min r.hi q.hi⟩
end Go.Ivl
namespace Go.Proofs
open Go.Shelf
def Tryz.sortIv_ren:Go.Shelf.Ren:=⟨fun|6=>114|15=>142|14=>144|28=>160|29=>161|20=>162|21=>163|22=>164|23=>165|24=>166|25=>167|26=>168|27=>169|46=>180|47=>175|48=>176|49=>181|50=>182|57=>185|n=>n,fun|22=>72|24=>83|25=>138|3=>3|39=>39|0=>0|53=>175|55=>177|4=>4|46=>168|45=>167|50=>103|5=>5|9=>9|66=>183|70=>187|76=>191|77=>192|n=>n,fun|n=>n⟩
theorem Tryz.sortIv:Go.Proofs.SlLaysF0.n6 Tryz.prog Tryz.sortIv_ren:={
  mixed:=by kernel_rfl,
  f6:=⟨"slices.SortFunc[[]semtype/api.Range,semtype/api.Range]",by decide,Tryz.func114.trans (congrArg some (by kernel_rfl))⟩,
  f14:=⟨"slices.pdqsortCmpFunc[semtype/api.Range]",by decide,Tryz.func144.trans (congrArg some (by kernel_rfl))⟩,
  f15:=Tryz.func142.trans (congrArg some (by kernel_rfl)),
  f20:=⟨"slices.insertionSortCmpFunc[semtype/api.Range]",by decide,Tryz.func162.trans (congrArg some (by kernel_rfl))⟩,
  f21:=⟨"slices.heapSortCmpFunc[semtype/api.Range]",by decide,Tryz.func163.trans (congrArg some (by kernel_rfl))⟩,
  f22:=⟨"slices.breakPatternsCmpFunc[semtype/api.Range]",by decide,Tryz.func164.trans (congrArg some (by kernel_rfl))⟩,
  f23:=⟨"slices.choosePivotCmpFunc[semtype/api.Range]",by decide,Tryz.func165.trans (congrArg some (by kernel_rfl))⟩,
  f24:=⟨"slices.reverseRangeCmpFunc[semtype/api.Range]",by decide,Tryz.func166.trans (congrArg some (by kernel_rfl))⟩,
  f25:=⟨"slices.partialInsertionSortCmpFunc[semtype/api.Range]",by decide,Tryz.func167.trans (congrArg some (by kernel_rfl))⟩,
  f26:=⟨"slices.partitionEqualCmpFunc[semtype/api.Range]",by decide,Tryz.func168.trans (congrArg some (by kernel_rfl))⟩,
  f27:=⟨"slices.partitionCmpFunc[semtype/api.Range]",by decide,Tryz.func169.trans (congrArg some (by kernel_rfl))⟩,
  f28:=Tryz.func160.trans (congrArg some (by kernel_rfl)),
  f29:=Tryz.func161.trans (congrArg some (by kernel_rfl)),
  f46:=⟨"slices.siftDownCmpFunc[semtype/api.Range]",by decide,Tryz.func180.trans (congrArg some (by kernel_rfl))⟩,
  f47:=Tryz.func175.trans (congrArg some (by kernel_rfl)),
  f48:=Tryz.func176.trans (congrArg some (by kernel_rfl)),
  f49:=⟨"slices.medianAdjacentCmpFunc[semtype/api.Range]",by decide,Tryz.func181.trans (congrArg some (by kernel_rfl))⟩,
  f50:=⟨"slices.medianCmpFunc[semtype/api.Range]",by decide,Tryz.func182.trans (congrArg some (by kernel_rfl))⟩,
  f57:=⟨"slices.order2CmpFunc[semtype/api.Range]",by decide,Tryz.func185.trans (congrArg some (by kernel_rfl))⟩,
  t0:=Tryz.underlying0,
  a0:=Tryz.isAgg0,
  z0:=Tryz.sizeOf0,
  v0:=Tryz.zeroValue0,
  t3:=Tryz.underlying3,
  a3:=Tryz.isAgg3,
  z3:=Tryz.sizeOf3,
  v3:=Tryz.zeroValue3,
  t4:=Tryz.underlying4,
  a4:=Tryz.isAgg4,
  z4:=Tryz.sizeOf4,
  v4:=Tryz.zeroValue4,
  t5:=Tryz.underlying5,
  a5:=Tryz.isAgg5,
  z5:=Tryz.sizeOf5,
  v5:=Tryz.zeroValue5,
  t9:=Tryz.underlying9,
  a9:=Tryz.isAgg9,
  z9:=Tryz.sizeOf9,
  v9:=Tryz.zeroValue9,
  t22:=Tryz.underlying72,
  a22:=Tryz.isAgg72,
  z22:=Tryz.sizeOf72,
  v22:=Tryz.zeroValue72,
  t25:=Tryz.underlying138,
  a25:=Tryz.isAgg138,
  z25:=Tryz.sizeOf138,
  v25:=Tryz.zeroValue138,
  t39:=Tryz.underlying39,
  a39:=Tryz.isAgg39,
  z39:=Tryz.sizeOf39,
  v39:=Tryz.zeroValue39,
  t45:=Tryz.underlying167,
  a45:=Tryz.isAgg167,
  z45:=Tryz.sizeOf167,
  v45:=Tryz.zeroValue167,
  t46:=Tryz.underlying168,
  a46:=Tryz.isAgg168,
  z46:=Tryz.sizeOf168,
  v46:=Tryz.zeroValue168,
  t50:=Tryz.underlying103,
  a50:=Tryz.isAgg103,
  z50:=Tryz.sizeOf103,
  v50:=Tryz.zeroValue103,
  t53:=Tryz.underlying175,
  a53:=Tryz.isAgg175,
  z53:=Tryz.sizeOf175,
  v53:=Tryz.zeroValue175,
  t55:=Tryz.underlying177,
  a55:=Tryz.isAgg177,
  z55:=Tryz.sizeOf177,
  v55:=Tryz.zeroValue177,
  t66:=Tryz.underlying183,
  a66:=Tryz.isAgg183,
  z66:=Tryz.sizeOf183,
  v66:=Tryz.zeroValue183,
  t70:=Tryz.underlying187,
  a70:=Tryz.isAgg187,
  z70:=Tryz.sizeOf187,
  v70:=Tryz.zeroValue187,
  t76:=Tryz.underlying191,
  a76:=Tryz.isAgg191,
  z76:=Tryz.sizeOf191,
  v76:=Tryz.zeroValue191,
  t77:=Tryz.underlying192,
  a77:=Tryz.isAgg192,
  z77:=Tryz.sizeOf192,
  v77:=Tryz.zeroValue192 }
def Tryz.sortS_ren:Go.Shelf.Ren:=⟨fun|6=>103|8=>142|9=>141|19=>160|20=>161|21=>151|22=>152|23=>153|24=>154|25=>155|26=>156|27=>157|28=>158|29=>159|36=>174|31=>175|32=>176|37=>177|38=>178|39=>179|41=>184|n=>n,fun|27=>30|29=>9|3=>3|32=>39|26=>30|0=>0|44=>175|46=>177|4=>4|36=>168|35=>167|41=>103|5=>5|9=>9|53=>183|57=>187|63=>191|64=>192|n=>n,fun|n=>n⟩
theorem Tryz.sortS:Go.Proofs.SlLaysM.n6 Tryz.prog Tryz.sortS_ren:={
  mixed:=by kernel_rfl,
  f6:=⟨"slices.Sort[[]string,string]",by decide,Tryz.func103.trans (congrArg some (by kernel_rfl))⟩,
  f8:=Tryz.func142.trans (congrArg some (by kernel_rfl)),
  f9:=⟨"slices.pdqsortOrdered[string]",by decide,Tryz.func141.trans (congrArg some (by kernel_rfl))⟩,
  f19:=Tryz.func160.trans (congrArg some (by kernel_rfl)),
  f20:=Tryz.func161.trans (congrArg some (by kernel_rfl)),
  f21:=⟨"slices.insertionSortOrdered[string]",by decide,Tryz.func151.trans (congrArg some (by kernel_rfl))⟩,
  f22:=⟨"slices.heapSortOrdered[string]",by decide,Tryz.func152.trans (congrArg some (by kernel_rfl))⟩,
  f23:=⟨"slices.breakPatternsOrdered[string]",by decide,Tryz.func153.trans (congrArg some (by kernel_rfl))⟩,
  f24:=⟨"slices.choosePivotOrdered[string]",by decide,Tryz.func154.trans (congrArg some (by kernel_rfl))⟩,
  f25:=⟨"slices.reverseRangeOrdered[string]",by decide,Tryz.func155.trans (congrArg some (by kernel_rfl))⟩,
  f26:=⟨"slices.partialInsertionSortOrdered[string]",by decide,Tryz.func156.trans (congrArg some (by kernel_rfl))⟩,
  f27:=⟨"cmp.Less[string]",by decide,Tryz.func157.trans (congrArg some (by kernel_rfl))⟩,
  f28:=⟨"slices.partitionEqualOrdered[string]",by decide,Tryz.func158.trans (congrArg some (by kernel_rfl))⟩,
  f29:=⟨"slices.partitionOrdered[string]",by decide,Tryz.func159.trans (congrArg some (by kernel_rfl))⟩,
  f31:=Tryz.func175.trans (congrArg some (by kernel_rfl)),
  f32:=Tryz.func176.trans (congrArg some (by kernel_rfl)),
  f36:=⟨"slices.siftDownOrdered[string]",by decide,Tryz.func174.trans (congrArg some (by kernel_rfl))⟩,
  f37:=⟨"slices.medianAdjacentOrdered[string]",by decide,Tryz.func177.trans (congrArg some (by kernel_rfl))⟩,
  f38:=⟨"slices.medianOrdered[string]",by decide,Tryz.func178.trans (congrArg some (by kernel_rfl))⟩,
  f39:=⟨"cmp.isNaN[string]",by decide,Tryz.func179.trans (congrArg some (by kernel_rfl))⟩,
  f41:=⟨"slices.order2Ordered[string]",by decide,Tryz.func184.trans (congrArg some (by kernel_rfl))⟩,
  t0:=Tryz.underlying0,
  a0:=Tryz.isAgg0,
  z0:=Tryz.sizeOf0,
  v0:=Tryz.zeroValue0,
  t3:=Tryz.underlying3,
  a3:=Tryz.isAgg3,
  z3:=Tryz.sizeOf3,
  v3:=Tryz.zeroValue3,
  t4:=Tryz.underlying4,
  a4:=Tryz.isAgg4,
  z4:=Tryz.sizeOf4,
  v4:=Tryz.zeroValue4,
  t5:=Tryz.underlying5,
  a5:=Tryz.isAgg5,
  z5:=Tryz.sizeOf5,
  v5:=Tryz.zeroValue5,
  t9:=Tryz.underlying9,
  a9:=Tryz.isAgg9,
  z9:=Tryz.sizeOf9,
  v9:=Tryz.zeroValue9,
  t26:=Tryz.underlying30,
  a26:=Tryz.isAgg30,
  z26:=Tryz.sizeOf30,
  v26:=Tryz.zeroValue30,
  t27:=Tryz.underlying30,
  a27:=Tryz.isAgg30,
  z27:=Tryz.sizeOf30,
  v27:=Tryz.zeroValue30,
  t29:=Tryz.underlying9,
  a29:=Tryz.isAgg9,
  z29:=Tryz.sizeOf9,
  v29:=Tryz.zeroValue9,
  t32:=Tryz.underlying39,
  a32:=Tryz.isAgg39,
  z32:=Tryz.sizeOf39,
  v32:=Tryz.zeroValue39,
  t35:=Tryz.underlying167,
  a35:=Tryz.isAgg167,
  z35:=Tryz.sizeOf167,
  v35:=Tryz.zeroValue167,
  t36:=Tryz.underlying168,
  a36:=Tryz.isAgg168,
  z36:=Tryz.sizeOf168,
  v36:=Tryz.zeroValue168,
  t41:=Tryz.underlying103,
  a41:=Tryz.isAgg103,
  z41:=Tryz.sizeOf103,
  v41:=Tryz.zeroValue103,
  t44:=Tryz.underlying175,
  a44:=Tryz.isAgg175,
  z44:=Tryz.sizeOf175,
  v44:=Tryz.zeroValue175,
  t46:=Tryz.underlying177,
  a46:=Tryz.isAgg177,
  z46:=Tryz.sizeOf177,
  v46:=Tryz.zeroValue177,
  t53:=Tryz.underlying183,
  a53:=Tryz.isAgg183,
  z53:=Tryz.sizeOf183,
  v53:=Tryz.zeroValue183,
  t57:=Tryz.underlying187,
  a57:=Tryz.isAgg187,
  z57:=Tryz.sizeOf187,
  v57:=Tryz.zeroValue187,
  t63:=Tryz.underlying191,
  a63:=Tryz.isAgg191,
  z63:=Tryz.sizeOf191,
  v63:=Tryz.zeroValue191,
  t64:=Tryz.underlying192,
  a64:=Tryz.isAgg192,
  z64:=Tryz.sizeOf192,
  v64:=Tryz.zeroValue192 }
def Tryz.compS_ren:Go.Shelf.Ren:=⟨fun|44=>105|n=>n,fun|25=>30|26=>9|3=>3|4=>4|0=>0|n=>n,fun|n=>n⟩
theorem Tryz.compS:Go.Proofs.SlLaysN.n44 Tryz.prog Tryz.compS_ren:={
  mixed:=by kernel_rfl,
  f44:=⟨"slices.Compact[[]string,string]",by decide,Tryz.func105.trans (congrArg some (by kernel_rfl))⟩,
  t0:=Tryz.underlying0,
  a0:=Tryz.isAgg0,
  z0:=Tryz.sizeOf0,
  v0:=Tryz.zeroValue0,
  t3:=Tryz.underlying3,
  a3:=Tryz.isAgg3,
  z3:=Tryz.sizeOf3,
  v3:=Tryz.zeroValue3,
  t4:=Tryz.underlying4,
  a4:=Tryz.isAgg4,
  z4:=Tryz.sizeOf4,
  v4:=Tryz.zeroValue4,
  t25:=Tryz.underlying30,
  a25:=Tryz.isAgg30,
  z25:=Tryz.sizeOf30,
  v25:=Tryz.zeroValue30,
  t26:=Tryz.underlying9,
  a26:=Tryz.isAgg9,
  z26:=Tryz.sizeOf9,
  v26:=Tryz.zeroValue9,
  i26:=by kernel_rfl }
end Go.Proofs

