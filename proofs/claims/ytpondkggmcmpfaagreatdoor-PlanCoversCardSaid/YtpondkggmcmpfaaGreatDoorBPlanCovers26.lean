/- Joined by wip/tools/bundle.py out of: TL. -/
import Derived.Test.YtpondkggmcmpfaaGreatDoorBPlanCovers1
import Derived.Test.YtpondkggmcmpfaaGreatDoorBPlanCovers8
import Derived.Test.YtpondkggmcmpfaaGreatDoorBPlanCovers14
import Derived.Handy
import Derived.Lib.SliceRun
import Derived.Test.YtpondkggmcmpfaaGreatDoorBPlanCovers0
import Derived.Test.YtpondkggmcmpfaaGreatDoorBPlanCovers10
import Derived.Test.YtpondkggmcmpfaaGreatDoorBPlanCovers11
import Derived.Test.YtpondkggmcmpfaaGreatDoorBPlanCovers15
import Derived.Test.YtpondkggmcmpfaaGreatDoorBPlanCovers16
import Derived.Test.YtpondkggmcmpfaaGreatDoorBPlanCovers17
import Derived.Test.YtpondkggmcmpfaaGreatDoorBPlanCovers18
import Derived.Test.YtpondkggmcmpfaaGreatDoorBPlanCovers19
import Derived.Test.YtpondkggmcmpfaaGreatDoorBPlanCovers20
import Derived.Test.YtpondkggmcmpfaaGreatDoorBPlanCovers21
import Derived.Test.YtpondkggmcmpfaaGreatDoorBPlanCovers22
import Derived.Test.YtpondkggmcmpfaaGreatDoorBPlanCovers23
import Derived.Test.YtpondkggmcmpfaaGreatDoorBPlanCovers24
namespace Go.Proofs.YtpondkggmcmpfaaGreatDoor.QA
open Go.RowKit Go.Proofs.YtpondkggmcmpfaaGreatDoorW.PrintWords Go.Proofs.YtpondkggmcmpfaaGreatDoorW.PrintLast Go.Proofs.YtpondkggmcmpfaaGreatDoorW.PrintMore Go.Proofs.YtpondkggmcmpfaaGreatDoor.T
set_option linter.unusedVariables false
set_option linter.unusedSimpArgs false
theorem akz {n s:Int} (h1:1≤n) (h3:1≤s):dh n s≤n:=by
  unfold dh
  have h:n+s - 1≤n*s:=by
    have:0≤(n - 1)*(s - 1):=Int.mul_nonneg (by omega) (by omega)
    rw [Int.sub_mul,Int.mul_sub] at this;omega
  have:=Int.ediv_le_ediv (show 0 < s by omega) h
  rwa [Int.mul_ediv_cancel _ (by omega)] at this
theorem arV {o:S47} {W H:Int} {s:Int} (ho:aaV o) (hW:nZ W) (hH:nZ H) (hl:vW o s) (sW:W≤s) (sH:H≤s):1≤(nR o W).lines.length∧((nR o W).lines.length:Int)≤s∧1≤(nS o H).lines.length∧((nS o H).lines.length:Int)≤s:=by
  have h1:=hW.1;have h2:=hH.1
  unfold nR nS
  by_cases h3:o.f0=3
  · rw [if_pos h3,if_pos h3,rD,rD]
    obtain ⟨a1,a2,a3,a4,a5,a6⟩:=ho.2.2.2.2 h3
    obtain ⟨-,-,-,-,b1,b2⟩:=hl
    omega
  · rw [if_neg h3,if_neg h3,rE,rE]
    omega
structure akA (tx ty:Tab):Prop where
  x:Told tx
  y:Told ty
  x1:1≤tx.lines.length
  x2:tx.lines.length≤20
  y1:1≤ty.lines.length
  y2:ty.lines.length≤20
theorem awk {o:S47} {wd ht:Int} (hw:0≤wd) (hh:0≤ht) (hI:opI o) (h:yC [o] 20=true∧je o (1+wd % 20) (1+ht % 20)=0):akA (nR o (1+wd % 20)) (nS o (1+ht % 20)):=by
  have hl:vW o 20:=afk h.1 0 (by simp)
  have l1:=hl.1;have l2:=hl.2.1
  obtain ⟨a,b,-,-,ho,hW,hH⟩:=arS hI (by omega) (by omega) h.2
  obtain ⟨x1,x2,y1,y2⟩:=arV ho hW hH hl (by omega) (by omega)
  exact ⟨a,b,x1,by omega,y1,by omega⟩
theorem akA.B {tx ty:Tab} (h:akA tx ty) {a b:Int} (a1:1≤a) (a2:a≤4096) (b1:1≤b) (b2:b≤4096):sS a b tx ty:=⟨a1,a2,b1,b2,h.x1,by have:=h.x2;omega,h.y1,by have:=h.y2;omega⟩
theorem akA.n {tx ty:Tab} (h:akA tx ty) {a b:Int} (a1:1≤a) (b1:1≤b):∃ n:Nat,(n:Int)=dh tx.lines.length a*dh ty.lines.length b∧n≤400:=by
  have h1:=akz (n:=(tx.lines.length:Int)) (s:=a) (by have:=h.x1;omega) a1
  have h2:=akz (n:=(ty.lines.length:Int)) (s:=b) (by have:=h.y1;omega) b1
  have k1:0≤dh tx.lines.length a:=Int.ediv_nonneg (by omega) (by omega)
  have k2:0≤dh ty.lines.length b:=Int.ediv_nonneg (by omega) (by omega)
  have x2:=h.x2;have y2:=h.y2
  have m1:0≤dh tx.lines.length a*dh ty.lines.length b:=Int.mul_nonneg k1 k2
  have m2:dh tx.lines.length a*dh ty.lines.length b≤20*20:=Int.le_trans (Int.mul_le_mul_of_nonneg_right (by omega:dh tx.lines.length a≤20) k2) (Int.mul_le_mul_of_nonneg_left (by omega) (by decide))
  exact ⟨(dh tx.lines.length a*dh ty.lines.length b).toNat,by omega,by omega⟩
theorem as8 (w:World) (v0 v1 v2 v3 v4 v5 v6 v7 v8:Value):∃ W1 g,W1=w.alloc (.cells #[v0,v1,v2,v3,v4,v5,v6,v7,v8] 47)∧g=w.heap.size∧W1.heap[g]? = some (.cells #[v0,v1,v2,v3,v4,v5,v6,v7,v8] 47 (0,0))∧Below w.heap.size w W1:=⟨_,_,rfl,rfl,heap_alloc_new w _,aT (Below.refl _ _) _⟩
theorem as9 (w:World) (v0 v1 v2 u0 u1 u2 u3 u4:Value):∃ W5 g,W5=(w.alloc (.cells #[v0,v1,v2] 38)).alloc (.cells #[u0,u1,u2,u3,u4] 41)∧g=w.heap.size∧W5.heap[g]? = some (.cells #[v0,v1,v2] 38 (0,0))∧Below w.heap.size w W5:=⟨_,_,rfl,rfl,(by rw [rF _ _ _ (by simp)];exact heap_alloc_new w _),aT (aT (Below.refl _ _) _) _⟩
theorem ap5 (w:World) (v0 v1 v2 v3 v4 v5 v6 v7 v8 v9:Value):∃ W1 g,W1=w.alloc (.cells #[v0,v1,v2,v3,v4,v5,v6,v7,v8,v9] 58)∧g=w.heap.size∧W1.heap[g]? = some (.cells #[v0,v1,v2,v3,v4,v5,v6,v7,v8,v9] 58 (0,0))∧Below w.heap.size w W1:=⟨_,_,rfl,rfl,heap_alloc_new w _,aT (Below.refl _ _) _⟩
end Go.Proofs.YtpondkggmcmpfaaGreatDoor.QA
