/- Joined by wip/tools/bundle.py out of: TP. -/
import Derived.Test.YtpondkggmcmpfaaGreatDoorBPlanReaches1
import Derived.Test.YtpondkggmcmpfaaGreatDoorBPlanReaches14
import Derived.Handy
import Derived.Lib.SliceRun
import Derived.Test.YtpondkggmcmpfaaGreatDoorBPlanReaches0
import Derived.Test.YtpondkggmcmpfaaGreatDoorBPlanReaches8
import Derived.Test.YtpondkggmcmpfaaGreatDoorBPlanReaches10
import Derived.Test.YtpondkggmcmpfaaGreatDoorBPlanReaches15
import Derived.Test.YtpondkggmcmpfaaGreatDoorBPlanReaches21
namespace Go.Proofs.YtpondkggmcmpfaaGreatDoor.QA
open Go.RowKit Go.Proofs.YtpondkggmcmpfaaGreatDoorW.PrintWords Go.Proofs.YtpondkggmcmpfaaGreatDoorW.PrintLast Go.Proofs.YtpondkggmcmpfaaGreatDoorW.PrintMore Go.Proofs.YtpondkggmcmpfaaGreatDoor.T
set_option linter.unusedVariables false
set_option linter.unusedSimpArgs false
theorem aif:∀ (l:List S71) (lo hi:Int),(∀ x ∈ l,-1099511627776≤x.f0∧x.f0≤1099511627776∧x.f1.length≤2097152) → -1099511627776≤lo→hi≤1099513724928→(qC lo hi l).1≤lo∧hi≤(qC lo hi l).2 ∧ -1099511627776≤(qC lo hi l).1∧(qC lo hi l).2≤1099513724928∧∀ x ∈ l,(qC lo hi l).1≤x.f0∧x.f0+x.f1.length≤(qC lo hi l).2
  | [],lo,hi,_,h1,h2=>⟨Int.le_refl _,Int.le_refl _,h1,h2,fun x hx=>by simp at hx⟩
  | x :: r,lo,hi,h,h1,h2=>by
    have hx:=h x (List.mem_cons_self ..)
    rw [qC,aC (x:=x.f0+x.f1.length) (by omega) (by omega)]
    have a1:mn lo x.f0≤lo∧mn lo x.f0≤x.f0 ∧ -1099511627776≤mn lo x.f0:=by unfold mn;split <;> omega
    have a2:hi≤mx hi (x.f0+x.f1.length)∧x.f0+x.f1.length≤mx hi (x.f0+x.f1.length)∧mx hi (x.f0+x.f1.length)≤1099513724928:=by unfold mx;split <;> omega
    have ih:=aif r (mn lo x.f0) (mx hi (x.f0+x.f1.length)) (fun y hy=>h y (List.mem_cons_of_mem _ hy)) a1.2.2 a2.2.2
    refine ⟨by omega,by omega,ih.2.2.1,ih.2.2.2.1,fun y hy => ?_⟩
    rcases List.mem_cons.1 hy with rfl|hy
    · exact ⟨by omega,by omega⟩
    · exact ih.2.2.2.2 y hy
theorem ako (l:List S71) {o:Nat} (ho:o < l.length):l[o]? = some (eY l (o:Int)):=by
  unfold eY;rw [Int.toNat_natCast,List.getD_eq_getElem?_getD,List.getElem?_eq_getElem ho];rfl
theorem anP {t:Tab} (T:Told t) {a b j:Int} (h0:0≤a) (h1:b≤t.lines.length) (j0:a≤j) (j1:j < b):(bK t a b).1≤(eY t.lines j).f0∧(eY t.lines j).f0+(eY t.lines j).f1.length≤(bK t a b).1+(bK t a b).2 ∧ -1099511627776≤(bK t a b).1∧(bK t a b).1≤1099513724928∧0≤(bK t a b).2∧(bK t a b).2≤2199025352704:=by
  obtain ⟨p,rfl⟩:∃ p:Nat,a=p:=⟨a.toNat,by omega⟩
  obtain ⟨q,rfl⟩:∃ p:Nat,b=p:=⟨b.toNat,by omega⟩
  obtain ⟨i,rfl⟩:∃ p:Nat,j=p:=⟨j.toNat,by omega⟩
  have e1:mx (p:Int) 0=p:=by unfold mx;split <;> omega
  have e2:mn (q:Int) t.lines.length=q:=by unfold mn;split <;> omega
  have hlim:∀ x ∈ (t.lines.take q).drop p,-1099511627776≤x.f0∧x.f0≤1099511627776∧x.f1.length≤2097152:=by
    intro x hx
    obtain ⟨o,ho,e⟩:=List.getElem_of_mem (List.mem_of_mem_take (List.mem_of_mem_drop hx))
    have:=(T.l o ho).1
    rw [show eY t.lines (o:Int)=x from Option.some.inj ((ako _ ho).symm.trans ((List.getElem?_eq_getElem ho).trans (congrArg some e)))] at this
    exact ⟨this.2.2.1,this.2.2.2,this.2.1⟩
  have hmem:eY t.lines (i:Int) ∈ (t.lines.take q).drop p:=by
    have:((t.lines.take q).drop p)[i - p]? = some (eY t.lines (i:Int)):=by
      rw [List.getElem?_drop,show p+(i - p)=i by omega,List.getElem?_take_of_lt (by omega),ako _ (by omega)]
    exact List.mem_of_getElem? this
  have hp:=(T.l p (by omega)).1
  have hr:=aif _ (eY t.lines (p:Int)).f0 (eY t.lines (p:Int)).f0 hlim (by omega) (by omega)
  have h2:=hr.2.2.2.2 _ hmem
  have hv:bK t p q=((qE t.lines p q).1,wrap64 ((qE t.lines p q).2 - (qE t.lines p q).1)):=by
    unfold bK;rw [e1,e2,if_pos (by omega),Int.toNat_natCast,Int.toNat_natCast]
  have hpv:qE t.lines p q=qC (eY t.lines (p:Int)).f0 (eY t.lines (p:Int)).f0 ((t.lines.take q).drop p):=rfl
  rw [hpv] at hv
  generalize qC (eY t.lines (p:Int)).f0 (eY t.lines (p:Int)).f0 ((t.lines.take q).drop p)=P at hv h2 hr
  rw [hv]
  simp only
  rw [aC (by omega) (by omega)]
  omega
end Go.Proofs.YtpondkggmcmpfaaGreatDoor.QA
