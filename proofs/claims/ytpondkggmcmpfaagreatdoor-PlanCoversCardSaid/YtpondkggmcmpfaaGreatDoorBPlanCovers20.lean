/- Joined by wip/tools/bundle.py out of: TL2. -/
import Derived.Test.YtpondkggmcmpfaaGreatDoorBPlanCovers1
import Derived.Handy
import Derived.Lib.SliceRun
import Derived.Test.YtpondkggmcmpfaaGreatDoorBPlanCovers0
import Derived.Test.YtpondkggmcmpfaaGreatDoorBPlanCovers8
import Derived.Test.YtpondkggmcmpfaaGreatDoorBPlanCovers10
import Derived.Test.YtpondkggmcmpfaaGreatDoorBPlanCovers11
import Derived.Test.YtpondkggmcmpfaaGreatDoorBPlanCovers15
namespace Go.Proofs.YtpondkggmcmpfaaGreatDoor.QA
open Go.RowKit Go.Proofs.YtpondkggmcmpfaaGreatDoorW.PrintWords Go.Proofs.YtpondkggmcmpfaaGreatDoorW.PrintLast Go.Proofs.YtpondkggmcmpfaaGreatDoorW.PrintMore Go.Proofs.YtpondkggmcmpfaaGreatDoor.T
set_option linter.unusedVariables false
set_option linter.unusedSimpArgs false
def vW (o:S47) (s:Int):Prop:=(o.f4.length:Int)≤40∧(o.f5.length:Int)≤40∧¬ (262144 < o.f2∧o.f2≤4194304)∧¬ (20 < o.f3∧o.f3 < 512)∧¬ (s < o.f7∧o.f7≤65536)∧¬ (s < o.f8∧o.f8≤65536)
instance (o:S47) (s:Int):Decidable (vW o s):=by unfold vW;exact inferInstance
def yC (l:List S47) (s:Int):Bool:=decide (∀ j,j < l.length→vW (lV l (j:Int)) s)
set_option maxHeartbeats 8000000 in
set_option maxRecDepth 100000 in
theorem akv (l:List S47) (A0:Option Addr) (c0:Nat) (s:Int) (w:World) (hr:Kd.C k47 w A0 l.length l) (hc:l.length≤c0) :
    Calls Tryz.prog 13 #[.slice A0 l.length c0,.int .i64 s] w fun e w'=>e = .returned (.bool (yC l s))∧Below w.heap.size w w':=by
  have HR:=aj.mk hr
  have lm:l.length≤9223372036854775807:=hr.2.1
  obtain ⟨B,hB⟩:∃ B,B=yC l s:=⟨_,rfl⟩
  rw [← hB]
  have HB:=aj.mk hB
  obtain ⟨n,hn⟩:∃ n,n=l.length:=⟨_,rfl⟩
  have HN:=aj.mk hn
  rw [← hn] at lm hc ⊢
  clear hr hB hn
  have mixed:Tryz.prog.follows .mixedOrders=true:=by kernel_rfl
  go_enter Tryz.func13,Tryz.ntmps13
  go_upto_region 2 with fail
  go_loopg [9] n (fun kx s9 wr=>∃ (i:Nat),s9 = .int .i64 i∧i≤n∧n - i≤kx∧aj (∀ j,j < i→vW (lV l (j:Int)) s)∧aj (Below w.heap.size w wr))
  case atStart=>exact ⟨0,rfl,by omega,by omega,⟨fun j hj=>absurd hj (Nat.not_lt_zero _)⟩,⟨Below.refl _ _⟩⟩
  case round =>
    obtain ⟨i,rfl,i1,i2,HO,HW⟩:=hrel
    have wi:IntKind.i64.wrap ((i:Int)+1)=wrap64 ((i:Int)+1):=by rw [kU]
    by_cases hlt:(i:Int) < (n:Int)
    rotate_left
    · have hb:B=true:=by
        rw [HB.out]
        exact decide_eq_true (fun j hj=>HO.out j (by rw [← HN.out] at hj;omega))
      clear HB
      subst hb
      go_wp2
      go_ret
      exact ⟨rfl,HW.out⟩
    have p1:(0≤(i:Int)):=by omega
    have w2:wrap64 ((i:Int)+1)=(i:Int)+1:=aC (by omega) (by omega)
    obtain ⟨ad,A4,c4,A5,c5,e0,z0,z1,z2,z3,z4,z5,z6,z7,z8,-,-,-,-⟩:=ash (Kd.bY HR.out HW.out) (i:Int) p1 (by rw [← HN.out];exact hlt)
    cases e0
    rw [Int.toNat_natCast] at z0 z1 z2 z3 z4 z5 z6 z7 z8
    obtain ⟨bq,hbq⟩:∃ b,b=decide (¬ vW (lV l (i:Int)) s):=⟨_,rfl⟩
    have HQ:=aj.mk hbq
    have hT:¬ vW (lV l (i:Int)) s→bq=true:=fun h=>by rw [hbq,decide_eq_true h]
    have hF:vW (lV l (i:Int)) s→bq=false:=fun h=>by rw [hbq,decide_eq_false (fun q=>q h)]
    clear hbq
    obtain ⟨o,ho⟩:∃ o,o=lV l (i:Int):=⟨_,rfl⟩
    rw [← ho] at hT hF HQ z0 z1 z2 z3 z4 z5 z6 z7 z8
    have HO2:=aj.mk ho.symm
    clear ho
    obtain ⟨k,b,sg,r,x,y,f,ow,oh⟩:=o
    simp only at z0 z1 z2 z3 z4 z5 z6 z7 z8
    unfold vW at hT hF
    simp only at hT hF
    obtain ⟨p,hp⟩:∃ p,p=x.length:=⟨_,rfl⟩
    obtain ⟨q,hq⟩:∃ q,q=y.length:=⟨_,rfl⟩
    rw [← hp] at z4 hT hF
    rw [← hq] at z5 hT hF
    have HT:=aj.mk hT
    have HF:=aj.mk hF
    clear hp hq hT hF
    go_upto_region 4 with fail
    have hr1:=heap_alloc_new wr (.cells #[.int .i64 k,.int .i64 b,.int .i64 sg,.int .i64 r,.slice A4 p c4,.slice A5 q c5,.int .i64 f,.int .i64 ow,.int .i64 oh] 47)
    have B7:=aj.mk (aT HW.out (.cells #[.int .i64 k,.int .i64 b,.int .i64 sg,.int .i64 r,.slice A4 p c4,.slice A5 q c5,.int .i64 f,.int .i64 ow,.int .i64 oh] 47))
    obtain ⟨g,hg⟩:∃ g,g=wr.heap.size:=⟨_,rfl⟩
    rw [← hg] at hr1 ⊢
    clear hg z0 z1 z2 z3 z4 z5 z6 z7 z8
    generalize wr.alloc (.cells #[.int .i64 k,.int .i64 b,.int .i64 sg,.int .i64 r,.slice A4 p c4,.slice A5 q c5,.int .i64 f,.int .i64 ow,.int .i64 oh] 47)=w7 at hr1 B7 ⊢
    obtain ⟨-,-,z2,z3,z4,z5,-,z7,z8⟩:=cells9 hr1
    clear hr1
    go_cut [64] (fun v64 wc=>v64 = .bool bq∧aj (Below w.heap.size w wc))
    case first =>
      by_cases a1:40 < (p:Int)
      · (go_wp2;go_meet;case rel=>exact ⟨congrArg Value.bool (HT.out (by omega)).symm,⟨by repeat (first|(with_reducible first|exact B7.out|apply aI|apply bg)|exact B7.out)⟩⟩)
      by_cases a2:40 < (q:Int)
      · (go_wp2;go_meet;case rel=>exact ⟨congrArg Value.bool (HT.out (by omega)).symm,⟨by repeat (first|(with_reducible first|exact B7.out|apply aI|apply bg)|exact B7.out)⟩⟩)
      by_cases h1:262144 < sg∧sg≤4194304
      · obtain ⟨b1,b2⟩:=h1
        (go_wp2;go_meet;case rel=>exact ⟨congrArg Value.bool (HT.out (by omega)).symm,⟨by repeat (first|(with_reducible first|exact B7.out|apply aI|apply bg)|exact B7.out)⟩⟩)
      have h1:¬ 262144 < sg∨(262144 < sg∧¬ sg≤4194304):=by omega
      by_cases h2:20 < r∧r < 512
      · obtain ⟨c1,c2⟩:=h2
        rcases h1 with b1|⟨b1,b2⟩ <;> (go_wp2;go_meet;case rel=>exact ⟨congrArg Value.bool (HT.out (by omega)).symm,⟨by repeat (first|(with_reducible first|exact B7.out|apply aI|apply bg)|exact B7.out)⟩⟩)
      have h2:¬ 20 < r∨(20 < r∧¬ r < 512):=by omega
      by_cases h3:s < ow∧ow≤65536
      · obtain ⟨d1,d2⟩:=h3
        rcases h1 with b1|⟨b1,b2⟩ <;> rcases h2 with c1|⟨c1,c2⟩ <;> (go_wp2;go_meet;case rel=>exact ⟨congrArg Value.bool (HT.out (by omega)).symm,⟨by repeat (first|(with_reducible first|exact B7.out|apply aI|apply bg)|exact B7.out)⟩⟩)
      have h3:¬ s < ow∨(s < ow∧¬ ow≤65536):=by omega
      by_cases h4:s < oh∧oh≤65536
      · obtain ⟨e1,e2⟩:=h4
        rcases h1 with b1|⟨b1,b2⟩ <;> rcases h2 with c1|⟨c1,c2⟩ <;> rcases h3 with d1|⟨d1,d2⟩ <;> (go_wp2;go_meet;case rel=>exact ⟨congrArg Value.bool (HT.out (by omega)).symm,⟨by repeat (first|(with_reducible first|exact B7.out|apply aI|apply bg)|exact B7.out)⟩⟩)
      have h4:¬ s < oh∨(s < oh∧¬ oh≤65536):=by omega
      rcases h1 with b1|⟨b1,b2⟩ <;> rcases h2 with c1|⟨c1,c2⟩ <;> rcases h3 with d1|⟨d1,d2⟩ <;> rcases h4 with e1|⟨e1,e2⟩ <;> (go_wp2;go_meet;case rel=>exact ⟨congrArg Value.bool (HF.out (by omega)).symm,⟨by repeat (first|(with_reducible first|exact B7.out|apply aI|apply bg)|exact B7.out)⟩⟩)
    case rest =>
      obtain ⟨rfl,B8⟩:=hcut
      clear z2 z3 z4 z5 z7 z8 HT HF B7
      cases bq
      · have hl:vW ⟨k,b,sg,r,x,y,f,ow,oh⟩ s:=Decidable.byContradiction (fun h=>by have:=HQ.out;rw [decide_eq_true h] at this;cases this)
        go_wp2
        go_roundg (n - (i+1))
        case measure=>omega
        case rel=>exact ⟨i+1,by simp,by omega,Nat.le_refl _,⟨fun j hj=>by
          by_cases e:j=i
          · subst e;rw [HO2.out];exact hl
          · exact HO.out j (by omega)⟩,B8⟩
      · have hl:¬ vW ⟨k,b,sg,r,x,y,f,ow,oh⟩ s:=fun h=>by have:=HQ.out;rw [decide_eq_false (fun q=>q h)] at this;cases this
        have hb:B=false:=by
          rw [HB.out]
          exact decide_eq_false (fun h=>hl (by rw [← HO2.out];exact h i (by rw [← HN.out];omega)))
        clear HB HO2
        subst hb
        go_wp2
        go_ret
        exact ⟨rfl,B8.out⟩
theorem afk {l:List S47} {s:Int} (h:yC l s=true) (j:Nat) (hj:j < l.length):vW (lV l (j:Int)) s:=of_decide_eq_true h j hj
end Go.Proofs.YtpondkggmcmpfaaGreatDoor.QA
