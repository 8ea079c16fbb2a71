/- Joined by wip/tools/bundle.py out of: TA. -/
import Derived.Test.YtpondkggmcmpfaaGreatDoorBPlanCovers1
import Derived.Test.YtpondkggmcmpfaaGreatDoorBPlanCovers2
import Derived.Test.YtpondkggmcmpfaaGreatDoorBPlanCovers7
import Derived.Test.YtpondkggmcmpfaaGreatDoorBPlanCovers8
import Derived.Test.YtpondkggmcmpfaaGreatDoorBPlanCovers9
import Derived.Handy
import Derived.Lib.SliceRun
import Derived.Test.YtpondkggmcmpfaaGreatDoorBPlanCovers0
namespace Go.Proofs.YtpondkggmcmpfaaGreatDoor.QA
open Go.RowKit Go.Proofs.YtpondkggmcmpfaaGreatDoorW.PrintWords Go.Proofs.YtpondkggmcmpfaaGreatDoorW.PrintLast Go.Proofs.YtpondkggmcmpfaaGreatDoorW.PrintMore Go.Proofs.YtpondkggmcmpfaaGreatDoor.T
set_option linter.unusedVariables false
set_option linter.unusedSimpArgs false
theorem zx {x n:Int} (hx:I64 x) (hn:I64 n):mO.f x n=some (sh x n):=by
  unfold mO.f sh
  by_cases h0:n≤0
  · rw [if_pos h0,if_pos h0]
  rw [if_neg h0,if_neg h0]
  by_cases h1:n≥64
  · rw [if_pos h1,afs (x:=x) _ hx]
    calc (18446744073709551616:Int)=2 ^ 64:=by decide
      _≤2 ^ n.toNat:=qZ (by omega)
  rw [if_neg h1,if_pos (by omega),aC (show -9223372036854775808≤n - 1 from by omega) (by omega),if_pos (by omega),arE,acO x n.toNat (by omega)]
  unfold shr
  simp only [IntKind.bits]
  rw [Nat.min_eq_left (by omega),Nat.min_eq_left (by omega)]
  rw [show (n - 1).toNat=n.toNat - 1 from by omega]
  congr 1
  have hp:=pow_pos n.toNat
  have h2:(2:Int)≤2 ^ n.toNat:=by
    calc (2:Int)=2 ^ 1:=by decide
      _≤2 ^ n.toNat:=qZ (by omega)
  have q0 : -4611686018427387904≤x / 2 ^ n.toNat:=by
    rw [Int.le_ediv_iff_mul_le hp]
    calc -4611686018427387904*2 ^ n.toNat ≤ -4611686018427387904*2:=Int.mul_le_mul_of_nonpos_left (by decide) h2
      _≤x:=by omega
  have q1:x / 2 ^ n.toNat < 4611686018427387904:=by
    rw [Int.ediv_lt_iff_lt_mul hp]
    calc x < 4611686018427387904*2:=by omega
      _≤4611686018427387904*2 ^ n.toNat:=Int.mul_le_mul_of_nonneg_left h2 (by decide)
  exact aC (by omega) (by omega)
theorem abm {a:Int} (ha:I64 a):nD.f a=some (siz a):=by
  unfold nD.f siz
  simp only [mJ]
  split
  · congr 1;omega
  · congr 1;omega
theorem abN {a b:Int} (ha:I64 a) (hb:I64 b):ku.f a b=some (siz a*siz b / 18446744073709551616,siz a*siz b % 18446744073709551616,((decide (a < 0)) != (decide (b < 0)))):=by
  have ua:=qc ha
  have ub:=qc hb
  unfold ku.f
  rw [abm ha,abm hb]
  simp only [Option.bind_some]
  rw [adw (by omega) (by omega)]
  rfl
theorem qy {k:Nat} (hk:1≤k) {h l:Int} (hh:U64 h) (hl:U64 l) (b:Bool):cO.f k h l b=some (hold (sgn b (h*18446744073709551616+l))):=by
  obtain ⟨k,rfl⟩:∃ n,k=n+1:=⟨k - 1,by omega⟩
  unfold cO.f sgn hold
  simp only [cO.j0,mJ]
  cases b
  · simp only [Bool.false_eq_true,if_false]
    rw [if_neg (show ¬ h*18446744073709551616+l < -9223372036854775808 from by omega)]
    by_cases c:h > 0
    · rw [if_pos c,if_pos (by omega)]
    · rw [if_neg c]
      by_cases d:l > 9223372036854775807
      · rw [if_pos d,if_pos (by omega)]
      · rw [if_neg d,if_neg (by omega)];congr 1;unfold wrap64;omega
  · simp only [if_true]
    by_cases c:h > 0
    · rw [if_pos c,if_pos (by omega)]
    · rw [if_neg c]
      by_cases d:l > 9223372036854775808
      · rw [if_pos (decide_eq_true d),if_pos (by omega)]
      · rw [if_neg (show ¬ (decide (l > 9223372036854775808)=true) from by simpa using d),if_neg (by omega),if_neg (by omega)];congr 1;unfold wrap64;omega
theorem bitLen_spec:∀ x:Nat,x≠0→x < 18446744073709551616→∃ m,Lib.bitLen x=m+1∧2 ^ m≤x∧x < 2 ^ (m+1)∧m≤63:=by
  intro x
  induction x using Nat.strongRecOn with
  | ind x ih =>
    intro h0 h1
    rw [Lib.bitLen_half x h0 (by have:(2:Nat) ^ 64=18446744073709551616:=by decide
                                 omega)]
    by_cases h:x / 2=0
    · refine ⟨0,?_,by simp;omega,by simp;omega,by decide⟩
      rw [h];rfl
    · obtain ⟨m,e,a,b,c⟩:=ih (x / 2) (by omega) h (by omega)
      have hp:=Nat.pow_succ (n:=2) (m:=m)
      have hp2:=Nat.pow_succ (n:=2) (m:=m+1)
      refine ⟨m+1,by rw [e];omega,by omega,by omega,?_⟩
      refine Nat.le_of_not_lt fun hm => ?_
      have:(2:Nat) ^ 64≤2 ^ (m+1):=Nat.pow_le_pow_right (by decide) (by omega)
      have e64:(2:Nat) ^ 64=18446744073709551616:=by decide
      omega
theorem agn {y1 y0 u v q r Q y:Int} (hy:y=y1*4294967296+y0) (y00:0≤y0) (hy1:0 < y1)
    (hQ0:Q*y≤u*4294967296+v) (huv:u < y) (hv:v < 4294967296) (hq:q*y1+r=u) (hc:q≥4294967296∨q*y0 > 4294967296*r+v):Q≤q - 1:=by
  have hyp:0 < y:=by omega
  refine Int.le_of_lt_add_one ?_
  rw [Int.sub_add_cancel]
  refine Int.lt_of_not_ge fun hle => ?_
  rcases hc with hc|hc
  · have h1:4294967296*y≤Q*y:=Int.mul_le_mul_of_nonneg_right (by omega) (by omega)
    omega
  · have h1:q*y≤Q*y:=Int.mul_le_mul_of_nonneg_right hle (by omega)
    have h2:q*y=q*y1*4294967296+q*y0:=by rw [hy,Int.mul_add,Int.mul_assoc]
    generalize q*y1=p at *
    generalize q*y0=s at *
    generalize q*y=t at *
    omega
theorem aoA {y1 y0 u v q r Q y:Int} (hy:y=y1*4294967296+y0) (hyp:0 < y) (hQ1:u*4294967296+v < (Q+1)*y)
    (hle:q*y≤u*4294967296+v):q≤Q:=by
  refine Int.le_of_lt_add_one ?_
  refine Int.lt_of_not_ge fun h => ?_
  have h1:(Q+1)*y≤q*y:=Int.mul_le_mul_of_nonneg_right h (by omega)
  omega
theorem aa2 {y1 y0 u v q r Q y:Int} (hy:y=y1*4294967296+y0) (hyp:0 < y) (hQ1:u*4294967296+v < (Q+1)*y) (hv:0≤v)
    (hq:q*y1+r=u) (hc:(q*y0≤4294967296*r+v)∨(0≤y0∧y0 < 4294967296∧0≤q∧q≤4294967296∧r≥4294967296)):q≤Q:=by
  refine aoA (y1:=y1) (y0:=y0) (r:=r) hy hyp hQ1 ?_
  have h2:q*y=q*y1*4294967296+q*y0:=by rw [hy,Int.mul_add,Int.mul_assoc]
  rcases hc with hc|⟨a,b,c,d,e⟩
  · generalize q*y1=p at *
    generalize q*y0=s at *
    generalize q*y=t at *
    omega
  · have h3:q*y0≤4294967296*4294967296:=Int.mul_le_mul d (by omega) a (by decide)
    generalize q*y1=p at *
    generalize q*y0=s at *
    generalize q*y=t at *
    omega
theorem afi {y1 y0 u y:Int} (hy:y=y1*4294967296+y0) (y00:y0 < 4294967296) (hy1:2147483648≤y1) (hu:u < y):u / y1≤4294967297:=by
  refine Int.le_of_lt_add_one ?_
  rw [Int.ediv_lt_iff_lt_mul (by omega)]
  omega
theorem aoB (y s y1 y0 u v w Q:Int) (hy:y=y1*4294967296+y0) (y00:0≤y0∧y0 < 4294967296) (hy1:2147483648≤y1∧y1 < 4294967296) (hu:0≤u∧u < y) (hv:0≤v∧v < 4294967296)
    (hQ0:Q*y≤u*4294967296+v) (hQ1:u*4294967296+v < (Q+1)*y):∀ (n k:Nat) (q r:Int),4294967296≤n*2147483648+r→0≤r→r < 4294967296→2*n+4≤k→q*y1+r=u→Q≤q→0≤Q→q≤4294967297 →
    ∃ k',k≤k'+2*n+4∧aV.l0 k y s y1 y0 u v w q r=aV.j2 k' y s y1 y0 u v w Q:=by
  intro n
  induction n with
  | zero=>intro k q r h0 h1 h2;omega
  | succ n ih =>
    intro k q r h0 hr0 hr1 hk hq hQ aoC hqb
    obtain ⟨k,rfl⟩:∃ m,k=m+2:=⟨k - 2,by omega⟩
    rw [aV.l0]
    have up:(q≥4294967296∨q*y0 > 4294967296*r+v)→∃ k',k+2≤k'+2*(n+1)+4∧aV.j1 (k+1) y s y1 y0 u v w q r true=aV.j2 k' y s y1 y0 u v w Q:=by
      intro hc
      have hd:=agn hy y00.1 (by omega) hQ0 hu.2 hv.2 hq hc
      have hq':(q - 1)*y1+(r+y1)=u:=by rw [Int.sub_mul,Int.one_mul];omega
      rw [aV.j1,if_pos rfl,mJ,mJ,show (r+y1) % 18446744073709551616=r+y1 from by omega,show (q - 1) % 18446744073709551616=q - 1 from by omega]
      by_cases hc2:r+y1≥4294967296
      · rw [if_pos hc2]
        have hs:=aa2 hy (by omega) hQ1 hv.1 hq' (Or.inr ⟨y00.1,y00.2,by omega,by omega,hc2⟩)
        exact ⟨k,by omega,by rw [show Q=q - 1 from by omega]⟩
      · rw [if_neg hc2]
        obtain ⟨k',a,b⟩:=ih k (q - 1) (r+y1) (by omega) (by omega) (by omega) (by omega) hq' hd aoC (by omega)
        exact ⟨k',by omega,b⟩
    by_cases hc1:q≥4294967296
    · rw [if_pos hc1];exact up (Or.inl hc1)
    · rw [if_neg hc1]
      have p0:0≤q*y0:=Int.mul_nonneg (by omega) y00.1
      have p1:q*y0≤4294967295*4294967295:=Int.mul_le_mul (by omega) (by omega) y00.1 (by decide)
      simp only [mJ]
      rw [show (q*y0) % 18446744073709551616=q*y0 from by omega,show ((4294967296*r) % 18446744073709551616+v) % 18446744073709551616=4294967296*r+v from by omega]
      by_cases hc2:q*y0 > 4294967296*r+v
      · rw [decide_eq_true hc2];exact up (Or.inr hc2)
      · rw [decide_eq_false hc2,aV.j1,if_neg (by decide)]
        have hs:=aa2 hy (by omega) hQ1 hv.1 hq (Or.inl (by omega))
        exact ⟨k,by omega,by rw [show Q=q from by omega]⟩
theorem aoD (y s y1 y0 w q1 u Q:Int) (hy:y=y1*4294967296+y0) (y00:0≤y0∧y0 < 4294967296) (hy1:2147483648≤y1∧y1 < 4294967296) (hu:0≤u∧u < y) (hw:0≤w∧w < 4294967296) (hs:0≤s∧s≤63) (hq1:0≤q1∧q1 < 4294967296)
    (hQ0:Q*y≤u*4294967296+w) (hQ1:u*4294967296+w < (Q+1)*y) (hQb:Q < 4294967296):∀ (n k:Nat) (q r:Int),4294967296≤n*2147483648+r→0≤r→r < 4294967296→2*n+4≤k→q*y1+r=u→Q≤q→0≤Q→q≤4294967297 →
    aV.l1 k y s y1 y0 w q1 r u q=some (q1*4294967296+Q,(u*4294967296+w - Q*y) / 2 ^ s.toNat):=by
  intro n
  have fin:Q*y≤u*4294967296+w→(q1*4294967296 % 18446744073709551616+Q) % 18446744073709551616=q1*4294967296+Q∨Q < 0:=by
    intro _
    by_cases h:Q < 0
    · exact Or.inr h
    · left;omega
  have sub:((u*4294967296 % 18446744073709551616+w) % 18446744073709551616 - Q*y % 18446744073709551616) % 18446744073709551616=u*4294967296+w - Q*y:=by
    have h1:(Q+1)*y=Q*y+y:=by rw [Int.add_mul,Int.one_mul]
    rw [h1] at hQ1
    have hyb:y < 18446744073709551616:=by omega
    generalize Q*y=p at *
    omega
  have shs:∀ x:Int,shr .u64 x s=x / 2 ^ s.toNat:=by
    intro x;unfold shr;simp only [IntKind.bits];rw [Nat.min_eq_left (by omega)]
  induction n with
  | zero=>intro k q r h0 h1 h2;omega
  | succ n ih =>
    intro k q r h0 hr0 hr1 hk hq hQ aoC hqb
    obtain ⟨k,rfl⟩:∃ m,k=m+2:=⟨k - 2,by omega⟩
    rw [aV.l1]
    have up:(q≥4294967296∨q*y0 > 4294967296*r+w)→aV.j4 (k+1) y s y1 y0 w q1 r u q true=some (q1*4294967296+Q,(u*4294967296+w - Q*y) / 2 ^ s.toNat):=by
      intro hc
      have hd:=agn hy y00.1 (by omega) hQ0 hu.2 hw.2 hq hc
      have hq':(q - 1)*y1+(r+y1)=u:=by rw [Int.sub_mul,Int.one_mul];omega
      rw [aV.j4,if_pos rfl]
      simp only [mJ]
      rw [show (r+y1) % 18446744073709551616=r+y1 from by omega,show (q - 1) % 18446744073709551616=q - 1 from by omega]
      by_cases hc2:r+y1≥4294967296
      · rw [if_pos hc2]
        have hs':=aa2 hy (by omega) hQ1 hw.1 hq' (Or.inr ⟨y00.1,y00.2,by omega,by omega,hc2⟩)
        rw [show q - 1=Q from by omega,if_pos hs.1,shs,sub]
        congr 2
        rcases fin hQ0 with h|h <;> omega
      · rw [if_neg hc2]
        exact ih k (q - 1) (r+y1) (by omega) (by omega) (by omega) (by omega) hq' hd aoC (by omega)
    by_cases hc1:q≥4294967296
    · rw [if_pos hc1];exact up (Or.inl hc1)
    · rw [if_neg hc1]
      have p0:0≤q*y0:=Int.mul_nonneg (by omega) y00.1
      have p1:q*y0≤4294967295*4294967295:=Int.mul_le_mul (by omega) (by omega) y00.1 (by decide)
      simp only [mJ]
      rw [show (q*y0) % 18446744073709551616=q*y0 from by omega,show ((4294967296*r) % 18446744073709551616+w) % 18446744073709551616=4294967296*r+w from by omega]
      by_cases hc2:q*y0 > 4294967296*r+w
      · rw [decide_eq_true hc2];exact up (Or.inr hc2)
      · rw [decide_eq_false hc2,aV.j4,if_neg (by decide)]
        have hs':=aa2 hy (by omega) hQ1 hw.1 hq (Or.inl (by omega))
        simp only [mJ]
        rw [show q=Q from by omega,if_pos hs.1,shs,sub]
        congr 2
        rcases fin hQ0 with h|h <;> omega
theorem qp (a:Int) {b:Int} (hb:0 < b):a / b*b≤a∧a < (a / b+1)*b:=by
  have e:=Int.mul_ediv_add_emod a b
  have r0:=Int.emod_nonneg a (show b≠0 from by omega)
  have r1:=Int.emod_lt_of_pos a hb
  rw [Int.mul_comm] at e
  rw [Int.add_mul,Int.one_mul]
  constructor <;> omega
theorem al0 {k:Nat} (hk:30≤k) {y s y1 y0 u v w:Int} (hy:y=y1*4294967296+y0) (y00:0≤y0∧y0 < 4294967296) (hy1:2147483648≤y1∧y1 < 4294967296) (hu:0≤u∧u < y) (hv:0≤v∧v < 4294967296) (hw:0≤w∧w < 4294967296) (hs:0≤s∧s≤63) :
    aV.l0 k y s y1 y0 u v w (u / y1) (u - u / y1*y1)=some ((u*18446744073709551616+(v*4294967296+w)) / y,(u*18446744073709551616+(v*4294967296+w)) % y / 2 ^ s.toNat):=by
  have hyp:0 < y:=by omega
  have e1:=qp u (show 0 < y1 from by omega)
  have e1':(u / y1+1)*y1=u / y1*y1+y1:=by rw [Int.add_mul,Int.one_mul]
  have b1:=qp (u*4294967296+v) hyp
  have q0:0≤(u*4294967296+v) / y:=Int.ediv_nonneg (by omega) (by omega)
  have q0b:(u*4294967296+v) / y < 4294967296:=by rw [Int.ediv_lt_iff_lt_mul hyp];omega
  have q1:(u*4294967296+v) / y≤u / y1:=by
    refine Int.le_of_lt_add_one ?_
    rw [Int.ediv_lt_iff_lt_mul hyp,hy]
    have h0:0≤u / y1:=Int.ediv_nonneg hu.1 (by omega)
    have h1:0≤(u / y1+1)*y0:=Int.mul_nonneg (by omega) y00.1
    have h2:(u / y1+1)*(y1*4294967296+y0)=(u / y1+1)*y1*4294967296+(u / y1+1)*y0:=by rw [Int.mul_add,Int.mul_assoc]
    rw [h2]
    generalize (u / y1+1)*y0=a at *
    generalize (u / y1+1)*y1=b at *
    omega
  obtain ⟨k',hk',h⟩:=aoB y s y1 y0 u v w ((u*4294967296+v) / y) hy y00 hy1 hu hv b1.1 b1.2 2 k (u / y1) (u - u / y1*y1) (by omega) (by omega) (by omega) (by omega) (by omega) q1 q0 (afi hy y00.2 hy1.1 hu.2)
  rw [h]
  obtain ⟨k',rfl⟩:∃ m,k'=m+1:=⟨k' - 1,by omega⟩
  have eu:=Int.mul_ediv_add_emod (u*4294967296+v) y
  have m0:=Int.emod_nonneg (u*4294967296+v) (show y≠0 from by omega)
  have m1:=Int.emod_lt_of_pos (u*4294967296+v) hyp
  have big:u*18446744073709551616+(v*4294967296+w)=(u*4294967296+v)*4294967296+w:=by omega
  rw [big]
  generalize (u*4294967296+v) / y=Q1 at *
  generalize (u*4294967296+v) % y=U at *
  rw [aV.j2,if_neg (by omega)]
  have eU:IntKind.u64.wrap ((IntKind.u64.wrap ((IntKind.u64.wrap (u*4294967296))+v)) - (IntKind.u64.wrap (Q1*y)))=U:=by
    simp only [mJ]
    rw [Int.mul_comm Q1 y]
    generalize y*Q1=p at *
    omega
  simp only [eU]
  have f1:=qp U (show 0 < y1 from by omega)
  have f1':(U / y1+1)*y1=U / y1*y1+y1:=by rw [Int.add_mul,Int.one_mul]
  have f0:0≤U / y1:=Int.ediv_nonneg m0 (by omega)
  have fb:U / y1≤4294967297:=afi hy y00.2 hy1.1 m1
  have et:IntKind.u64.wrap (Int.tdiv U y1)=U / y1:=by rw [Int.tdiv_eq_ediv_of_nonneg m0,mJ];omega
  have er:IntKind.u64.wrap (U - IntKind.u64.wrap (U / y1*y1))=U - U / y1*y1:=by simp only [mJ];omega
  rw [et,er]
  have c1:=qp (U*4294967296+w) hyp
  have g0:0≤(U*4294967296+w) / y:=Int.ediv_nonneg (by omega) (by omega)
  have g0b:(U*4294967296+w) / y < 4294967296:=by rw [Int.ediv_lt_iff_lt_mul hyp];omega
  have g1:(U*4294967296+w) / y≤U / y1:=by
    refine Int.le_of_lt_add_one ?_
    rw [Int.ediv_lt_iff_lt_mul hyp,hy]
    have h1:0≤(U / y1+1)*y0:=Int.mul_nonneg (by omega) y00.1
    have h2:(U / y1+1)*(y1*4294967296+y0)=(U / y1+1)*y1*4294967296+(U / y1+1)*y0:=by rw [Int.mul_add,Int.mul_assoc]
    rw [h2]
    generalize (U / y1+1)*y0=a at *
    generalize (U / y1+1)*y1=b at *
    omega
  rw [aoD y s y1 y0 w Q1 U ((U*4294967296+w) / y) hy y00 hy1 ⟨m0,m1⟩ hw hs ⟨q0,q0b⟩ c1.1 c1.2 g0b 2 k' (U / y1) (U - U / y1*y1) (by omega) (by omega) (by omega) (by omega) (by omega) g1 g0 fb]
  have eW:=Int.mul_ediv_add_emod (U*4294967296+w) y
  have n0:=Int.emod_nonneg (U*4294967296+w) (show y≠0 from by omega)
  have n1:=Int.emod_lt_of_pos (U*4294967296+w) hyp
  obtain ⟨z1,z2⟩:=wM (a:=(u*4294967296+v)*4294967296+w) (d:=y) (q:=Q1*4294967296+(U*4294967296+w) / y) (r:=(U*4294967296+w) % y) (by
    rw [Int.add_mul,Int.mul_right_comm,Int.mul_comm Q1 y,Int.mul_comm ((U*4294967296+w) / y) y]
    generalize y*Q1=a at *
    generalize y*((U*4294967296+w) / y)=b at *
    omega) n0 n1
  rw [z1,z2]
  congr 3
  rw [Int.mul_comm ((U*4294967296+w) / y) y];omega
theorem aiB {k:Nat} (hk:30≤k) {hi lo y:Int} (hy:0 < y∧y < 18446744073709551616) (hhi:0≤hi∧hi < y) (hlo:U64 lo) :
    aV.f k hi lo y=some ((hi*18446744073709551616+lo) / y,(hi*18446744073709551616+lo) % y):=by
  unfold aV.f
  rw [if_neg (by omega),if_neg (by omega)]
  by_cases h0:hi=0
  · rw [if_pos h0,h0,Int.tdiv_eq_ediv_of_nonneg hlo.1,Int.tmod_eq_emod_of_nonneg hlo.1,mJ]
    have a:0≤lo / y:=Int.ediv_nonneg hlo.1 (by omega)
    have b:lo / y≤lo:=Int.ediv_le_self _ hlo.1
    rw [show 0*18446744073709551616+lo=lo from by omega,show lo / y % 18446744073709551616=lo / y from by omega]
  rw [if_neg h0]
  obtain ⟨m,em,ma,mb,mc⟩:=bitLen_spec y.toNat (by omega) (by omega)
  unfold bits_LeadingZeros64.f
  rw [if_pos (by omega),if_pos (by omega),em]
  simp only [Option.bind_some]
  obtain ⟨s,hs⟩:∃ s:Nat,s=63 - m:=⟨_,rfl⟩
  have e1:IntKind.u64.wrap (64 - ((m+1:Nat):Int))=(s:Int):=by rw [mJ];omega
  have e2:IntKind.u64.wrap (64 - (s:Int))=((64 - s:Nat):Int):=by rw [mJ];omega
  rw [e1,e2,if_pos (by omega),if_pos (by omega)]
  have hp:=pow_pos s
  have ma':(2:Int) ^ m≤y:=by
    have:((2 ^ m:Nat):Int)≤(y.toNat:Int):=Int.ofNat_le.2 ma
    rw [Int.natCast_pow] at this
    rw [Int.toNat_of_nonneg (by omega)] at this;exact this
  have mb':y < (2:Int) ^ (m+1):=by
    have:(y.toNat:Int) < ((2 ^ (m+1):Nat):Int):=Int.ofNat_lt.2 mb
    rw [Int.natCast_pow] at this
    rw [Int.toNat_of_nonneg (by omega)] at this;exact this
  have p63:(2:Int) ^ m*2 ^ s=9223372036854775808:=by rw [← Int.pow_add,show m+s=63 from by omega];decide
  have p64:(2:Int) ^ (m+1)*2 ^ s=18446744073709551616:=by rw [← Int.pow_add,show m+1+s=64 from by omega];decide
  have asj:(2:Int) ^ (64 - s)*2 ^ s=18446744073709551616:=by rw [← Int.pow_add,show 64 - s+s=64 from by omega];decide
  have y63:9223372036854775808≤y*2 ^ s:=by rw [← p63];exact Int.mul_le_mul_of_nonneg_right ma' (by omega)
  have y64:y*2 ^ s < 18446744073709551616:=by rw [← p64];exact Int.mul_lt_mul_of_pos_right mb' hp
  have aoE:∀ x:Int,shl .u64 x (s:Int)=(x*2 ^ s) % 18446744073709551616:=by
    intro x;unfold shl;simp only [IntKind.bits];rw [mJ,show ((s:Int)).toNat=s from by omega,Nat.min_eq_left (by omega)]
  have avO:∀ x:Int,shr .u64 x ((64 - s:Nat):Int)=x / 2 ^ (64 - s):=by
    intro x;unfold shr;simp only [IntKind.bits];rw [show (((64 - s:Nat):Int)).toNat=64 - s from by omega,Nat.min_eq_left (by omega)]
  have hh:hi*2 ^ s+2 ^ s≤y*2 ^ s:=by
    have:(hi+1)*2 ^ s≤y*2 ^ s:=Int.mul_le_mul_of_nonneg_right (by omega) (by omega)
    rw [Int.add_mul,Int.one_mul] at this;exact this
  have hh0:0≤hi*2 ^ s:=Int.mul_nonneg hhi.1 (by omega)
  rw [aoE,aoE,aoE,avO,Int.emod_eq_of_lt (show 0≤y*2 ^ s from by omega) y64,Int.emod_eq_of_lt hh0 (by omega)]
  have lp:=pow_pos (64 - s)
  have l1:lo / 2 ^ (64 - s) < 2 ^ s:=by
    rw [Int.ediv_lt_iff_lt_mul lp,Int.mul_comm,asj];exact hlo.2
  have l0:0≤lo / 2 ^ (64 - s):=Int.ediv_nonneg hlo.1 (by omega)
  have aqD:Go.bits .or .u64 (hi*2 ^ s) (lo / 2 ^ (64 - s))=hi*2 ^ s+lo / 2 ^ (64 - s):=by
    have e64:(2:Int) ^ 64=18446744073709551616:=by decide
    exact bits_join .u64 64 (by decide) (fun n h0 h1=>by rw [mJ];omega) s _ _ hh0 (Int.mul_emod_left _ _) (by omega) l0 l1 (by omega)
  rw [aqD,aju,aju]
  have elo:lo / 2 ^ (64 - s)*18446744073709551616+lo*2 ^ s % 18446744073709551616=lo*2 ^ s:=by
    have e:=Int.mul_ediv_add_emod (lo*2 ^ s) 18446744073709551616
    have:lo*2 ^ s / 18446744073709551616=lo / 2 ^ (64 - s):=by
      rw [← asj,Int.mul_ediv_mul_of_pos_left _ _ hp]
    rw [this] at e;omega
  have t0:0≤lo*2 ^ s % 18446744073709551616∧lo*2 ^ s % 18446744073709551616 < 18446744073709551616:=by omega
  have big:(hi*18446744073709551616+lo)*2 ^ s=(hi*2 ^ s+lo / 2 ^ (64 - s))*18446744073709551616+lo*2 ^ s % 18446744073709551616:=by
    rw [Int.add_mul,Int.add_mul,Int.mul_right_comm];omega
  have res1:(hi*18446744073709551616+lo) / y=(hi*18446744073709551616+lo)*2 ^ s / (y*2 ^ s):=(Int.mul_ediv_mul_of_pos_left _ _ hp).symm
  have res2:(hi*18446744073709551616+lo) % y=(hi*18446744073709551616+lo)*2 ^ s % (y*2 ^ s) / 2 ^ s:=by
    rw [Int.mul_comm (hi*18446744073709551616+lo),Int.mul_comm y,Int.mul_emod_mul_of_pos _ _ hp,Int.mul_ediv_cancel_left _ (by omega)]
  rw [res1,res2,big]
  clear res1 res2 big elo aqD
  have avP:0≤hi*2 ^ s+lo / 2 ^ (64 - s)∧hi*2 ^ s+lo / 2 ^ (64 - s) < y*2 ^ s:=by omega
  generalize hi*2 ^ s+lo / 2 ^ (64 - s)=u at *
  generalize lo*2 ^ s % 18446744073709551616=T at *
  generalize hY:y*2 ^ s=Y at *
  have hu:0≤u∧u < Y:=avP
  have hy1:0 < Y / 4294967296:=by omega
  have uq:=qp u hy1
  have uq':(u / (Y / 4294967296)+1)*(Y / 4294967296)=u / (Y / 4294967296)*(Y / 4294967296)+Y / 4294967296:=by rw [Int.add_mul,Int.one_mul]
  have uq0:0≤u / (Y / 4294967296):=Int.ediv_nonneg hu.1 (by omega)
  have uq1:u / (Y / 4294967296)≤u:=Int.ediv_le_self _ hu.1
  have et:IntKind.u64.wrap (Int.tdiv u (Y / 4294967296))=u / (Y / 4294967296):=by rw [Int.tdiv_eq_ediv_of_nonneg hu.1,mJ];omega
  have er:IntKind.u64.wrap (u - IntKind.u64.wrap (u / (Y / 4294967296)*(Y / 4294967296)))=u - u / (Y / 4294967296)*(Y / 4294967296):=by simp only [mJ];omega
  rw [if_neg (by omega),et,er]
  have h:=al0 hk (y:=Y) (s:=(s:Int)) (y1:=Y / 4294967296) (y0:=Y % 4294967296) (u:=u) (v:=T / 4294967296) (w:=T % 4294967296) (by omega) (by omega) (by omega) hu (by omega) (by omega) (by omega)
  rw [h,show T / 4294967296*4294967296+T % 4294967296=T from by omega,show ((s:Int)).toNat=s from by omega]
theorem ahq {x y:Int} (hx:U64 x) (hy:U64 y):o7 x y 0=(x+y) % 18446744073709551616∧o8 x y 0=(x+y) / 18446744073709551616:=by
  unfold o7 o8
  constructor <;> (simp only [Int.toNat_zero];omega)
theorem aoF {b:Bool} {m n:Int} (hm:9223372036854775808≤m) (hn:9223372036854775808≤n):hold (sgn b m)=hold (sgn b n):=by
  unfold hold sgn
  cases b
  · simp only [Bool.false_eq_true,if_false];rw [if_neg (by omega),if_pos (by omega),if_neg (by omega),if_pos (by omega)]
  · simp only [if_true]
    by_cases h1:m=9223372036854775808
    · by_cases h2:n=9223372036854775808
      · rw [h1,h2]
      · rw [if_neg (by omega),if_neg (by omega),if_pos (by omega)];omega
    · by_cases h2:n=9223372036854775808
      · rw [if_pos (by omega),if_neg (by omega),if_neg (by omega)];omega
      · rw [if_pos (by omega),if_pos (by omega)]
theorem lI {k:Nat} (hk:40≤k) {a b d:Int} (ha:I64 a) (hb:I64 b) (hd:I64 d):aZ.f k a b d=some (hold (jk (a*b) d)):=by
  unfold aZ.f
  by_cases hd0:d=0
  · rw [if_pos hd0,hd0];simp [jk,hold]
  have ua:=qc ha
  have ub:=qc hb
  have ud:=qc hd
  have ud0:siz d≠0:=fun h=>hd0 (acN.1 h)
  rw [if_neg hd0,abN ha hb,abm hd]
  simp only [Option.bind_some]
  have p0:=Int.mul_nonneg ua.1 ub.1
  have p1:siz a*siz b≤9223372036854775808*9223372036854775808:=Int.mul_le_mul ua.2 ub.2 ub.1 (by decide)
  have e0:=abk a b
  have es:=ald ((decide (a < 0)) != (decide (b < 0))) d (siz a*siz b) hd0
  rw [e0] at es
  rw [← es]
  generalize siz a*siz b=p at *
  generalize ((decide (a < 0)) != (decide (b < 0)))=s0 at *
  generalize (s0 != decide (d < 0))=s at *
  generalize siz d=D at *
  have q0:0≤p / D:=Int.ediv_nonneg p0 (by omega)
  have eqp:=qp p (show 0 < D from by omega)
  rw [acM s p0 (by omega)]
  by_cases c:p / 18446744073709551616≥D
  · rw [if_pos c,qy (by omega) (by omega) (by omega)]
    simp only [Option.bind_some]
    congr 1
    have big:18446744073709551616≤p / D:=by
      rw [Int.le_ediv_iff_mul_le (by omega)];omega
    refine aoF (by omega) ?_
    cases s <;> (simp only [Bool.false_eq_true,if_false,if_true];split <;> omega)
  · rw [if_neg c,aiB (by omega) (by omega) (by omega) (by omega)]
    simp only [Option.bind_some]
    rw [show p / 18446744073709551616*18446744073709551616+p % 18446744073709551616=p from by omega]
    have r0:=Int.emod_nonneg p (show D≠0 from by omega)
    have r1:=Int.emod_lt_of_pos p (show 0 < D from by omega)
    have qb:p / D < 18446744073709551616:=by rw [Int.ediv_lt_iff_lt_mul (by omega)];omega
    generalize p % D=r at *
    generalize p / D=q at *
    rw [mJ,show (D - r) % 18446744073709551616=D - r from by omega]
    obtain ⟨k,rfl⟩:∃ n,k=n+1:=⟨k - 1,by omega⟩
    have up:∀ s,aZ.j0 (k+1) s q 0 true=some (hold (sgn s (q+1))):=by
      intro s
      obtain ⟨x1,x2⟩:=ahq (x:=q) (y:=1) (by omega) (by omega)
      rw [aZ.j0,if_pos rfl,x1,x2,qy (by omega) (by omega) (by omega)]
      simp only [Option.bind_some];congr 3;omega
    have dn:∀ s,aZ.j0 (k+1) s q 0 false=some (hold (sgn s q)):=by
      intro s
      obtain ⟨x1,x2⟩:=ahq (x:=q) (y:=0) (by omega) (by omega)
      rw [aZ.j0,if_neg (by decide),x1,x2,qy (by omega) (by omega) (by omega)]
      simp only [Option.bind_some];congr 3;omega
    cases s
    · simp only [Bool.false_eq_true,if_false]
      by_cases g:r≥D - r
      · rw [if_pos g,decide_eq_true g];exact up _
      · rw [if_neg g,decide_eq_false g];exact dn _
    · simp only [if_true]
      by_cases g:r > D - r
      · rw [if_pos g,if_pos g];exact up _
      · rw [if_neg g,if_neg g];exact dn _
theorem al2 (x:Int) (n:Nat) (hn:n≤64):shr .u64 x (n:Int)=x / 2 ^ n:=by
  unfold shr;simp only [IntKind.bits];rw [show ((n:Int)).toNat=n from by omega,Nat.min_eq_left (by omega)]
theorem al3 (x:Int) (n:Nat) (hn:n≤64):shl .u64 x (n:Int)=(x*2 ^ n) % 18446744073709551616:=by
  unfold shl;simp only [IntKind.bits];rw [mJ,show ((n:Int)).toNat=n from by omega,Nat.min_eq_left (by omega)]
theorem aif {n:Nat} (hn:n≤64):(2:Int) ^ (64 - n)*2 ^ n=18446744073709551616:=by rw [← Int.pow_add,show 64 - n+n=64 from by omega];decide
theorem adx {p:Int} (hp:0≤p∧p < 340282366920938463463374607431768211456) (n:Nat) (hn:n≤127) :
    ∃ h l,nV.f (p / 18446744073709551616) (p % 18446744073709551616) (n:Int)=some (h,l)∧U64 h∧U64 l∧h*18446744073709551616+l=p / 2 ^ n:=by
  have e64:(18446744073709551616:Int)=2 ^ 64:=by decide
  unfold nV.f
  by_cases c:(n:Int)≥64
  · rw [if_pos c,aC (show -9223372036854775808≤(n:Int) - 64 from by omega) (by omega),if_pos (by omega),show (n:Int) - 64=((n - 64:Nat):Int) from by omega,al2 _ _ (by omega)]
    have e:p / 18446744073709551616 / 2 ^ (n - 64)=p / 2 ^ n:=by
      rw [Int.ediv_ediv_of_nonneg (by decide),e64,← Int.pow_add,show 64+(n - 64)=n from by omega]
    have b1:p / 18446744073709551616 / 2 ^ (n - 64)≤p / 18446744073709551616:=Int.ediv_le_self _ (by omega)
    have b0:0≤p / 18446744073709551616 / 2 ^ (n - 64):=Int.ediv_nonneg (by omega) (by have:=pow_pos (n - 64);omega)
    exact ⟨_,_,rfl,by omega,by omega,by rw [← e];omega⟩
  · rw [if_neg c,if_pos (by omega),aC (show -9223372036854775808≤64 - (n:Int) from by omega) (by omega),if_pos (by omega),show 64 - (n:Int)=((64 - n:Nat):Int) from by omega,
      al2 _ _ (by omega),al2 _ _ (by omega),al3 _ _ (by omega)]
    have ps:=aif (show n≤64 from by omega)
    have hpn:=pow_pos n
    have hpm:=pow_pos (64 - n)
    generalize hH:p / 18446744073709551616=H
    generalize hL:p % 18446744073709551616=L
    have b1:H / 2 ^ n≤H:=Int.ediv_le_self _ (by omega)
    have b0:0≤H / 2 ^ n:=Int.ediv_nonneg (by omega) (by omega)
    have l0:0≤L / 2 ^ n:=Int.ediv_nonneg (by omega) (by omega)
    have l1:L / 2 ^ n < 2 ^ (64 - n):=by rw [Int.ediv_lt_iff_lt_mul hpn,ps];omega
    have pm:(2:Int) ^ (64 - n)≤18446744073709551616:=by
      calc (2:Int) ^ (64 - n)≤2 ^ 64:=qZ (by omega)
        _=_:=by decide
    have hm:H*2 ^ (64 - n) % 18446744073709551616=H % 2 ^ n*2 ^ (64 - n):=by
      rw [← ps,Int.mul_comm H,Int.mul_emod_mul_of_pos _ _ hpm,Int.mul_comm]
    have hm0:0≤H % 2 ^ n:=Int.emod_nonneg _ (by omega)
    have hm1:H % 2 ^ n < 2 ^ n:=Int.emod_lt_of_pos _ hpn
    have hm2:H % 2 ^ n*2 ^ (64 - n)+2 ^ (64 - n)≤18446744073709551616:=by
      have:(H % 2 ^ n+1)*2 ^ (64 - n)≤2 ^ n*2 ^ (64 - n):=Int.mul_le_mul_of_nonneg_right (by omega) (by omega)
      rw [Int.add_mul,Int.one_mul,Int.mul_comm (2 ^ n),ps] at this;exact this
    have hm3:0≤H % 2 ^ n*2 ^ (64 - n):=Int.mul_nonneg hm0 (by omega)
    have ej:Go.bits .or .u64 (L / 2 ^ n) (H*2 ^ (64 - n) % 18446744073709551616)=L / 2 ^ n+H % 2 ^ n*2 ^ (64 - n):=by
      rw [hm]
      have:=bits_join .u64 64 (by decide) (fun n h0 h1=>by rw [mJ];rw [← e64] at h1;omega) (64 - n) (H % 2 ^ n*2 ^ (64 - n)) (L / 2 ^ n) hm3 (Int.mul_emod_left _ _) (by rw [← e64];omega) l0 l1 (by rw [← e64];omega)
      rw [Int.add_comm,← this]
      simp only [bits]
      rw [BitVec.or_comm]
    rw [ej]
    refine ⟨_,_,rfl,by omega,by omega,?_⟩
    have eH:=Int.mul_ediv_add_emod H (2 ^ n)
    have eL:=Int.mul_ediv_add_emod L (2 ^ n)
    have r0:=Int.emod_nonneg L (show (2:Int) ^ n≠0 from by omega)
    have r1:=Int.emod_lt_of_pos L hpn
    refine (wM (r:=L % 2 ^ n) ?_ r0 r1).1.symm
    have x1:H / 2 ^ n*18446744073709551616*2 ^ n=2 ^ n*(H / 2 ^ n)*18446744073709551616:=by
      rw [Int.mul_right_comm,Int.mul_comm (H / 2 ^ n)]
    have x2:H % 2 ^ n*2 ^ (64 - n)*2 ^ n=H % 2 ^ n*18446744073709551616:=by rw [Int.mul_assoc,ps]
    have x3:L / 2 ^ n*2 ^ n=2 ^ n*(L / 2 ^ n):=Int.mul_comm _ _
    rw [Int.add_mul,Int.add_mul,x1,x2,x3]
    have x4:2 ^ n*(H / 2 ^ n)*18446744073709551616=(H - H % 2 ^ n)*18446744073709551616:=by congr 1;omega
    rw [x4]
    omega
theorem aiC {p:Int} (hp:0≤p∧p < 340282366920938463463374607431768211456) (n:Nat) (hn:n≤127) :
    ru.f (p / 18446744073709551616) (p % 18446744073709551616) (n:Int)=some (decide (p % 2 ^ n=0)):=by
  have e64:(18446744073709551616:Int)=2 ^ 64:=by decide
  unfold ru.f
  by_cases c:(n:Int)≥64
  · rw [if_pos c,aC (show -9223372036854775808≤128 - (n:Int) from by omega) (by omega)]
    have en:(2:Int) ^ n=18446744073709551616*2 ^ (n - 64):=by rw [e64,← Int.pow_add,show 64+(n - 64)=n from by omega]
    have hpn:=pow_pos (n - 64)
    have e:p % 2 ^ n=p % 18446744073709551616+18446744073709551616*(p / 18446744073709551616 % 2 ^ (n - 64)):=by
      have d1:=Int.mul_ediv_add_emod p 18446744073709551616
      have d2:=Int.mul_ediv_add_emod (p / 18446744073709551616) (2 ^ (n - 64))
      have r0:=Int.emod_nonneg (p / 18446744073709551616) (show (2:Int) ^ (n - 64)≠0 from by omega)
      have r1:=Int.emod_lt_of_pos (p / 18446744073709551616) hpn
      refine (wM (q:=p / 18446744073709551616 / 2 ^ (n - 64)) ?_ (by omega) (by rw [en];omega)).2
      rw [en,Int.mul_left_comm,Int.mul_comm (p / 18446744073709551616 / 2 ^ (n - 64))]
      omega
    have r0:=Int.emod_nonneg (p / 18446744073709551616) (show (2:Int) ^ (n - 64)≠0 from by omega)
    by_cases z:p % 18446744073709551616=0
    · rw [if_pos z,if_pos (by omega),show 128 - (n:Int)=((128 - n:Nat):Int) from by omega,al3 _ _ (by omega)]
      congr 1
      have ps:(2:Int) ^ (128 - n)*2 ^ (n - 64)=18446744073709551616:=by rw [← Int.pow_add,show 128 - n+(n - 64)=64 from by omega];decide
      have:p / 18446744073709551616*2 ^ (128 - n) % 18446744073709551616=2 ^ (128 - n)*(p / 18446744073709551616 % 2 ^ (n - 64)):=by
        have h:=Int.mul_emod_mul_of_pos (p / 18446744073709551616) (2 ^ (n - 64)) (pow_pos (128 - n))
        rw [ps,Int.mul_comm (2 ^ (128 - n)) (p / 18446744073709551616)] at h
        exact h
      rw [this,e,z]
      have hq:=pow_pos (128 - n)
      rw [Bool.eq_iff_iff]
      simp only [beq_iff_eq,decide_eq_true_eq]
      constructor
      · intro h
        rcases Int.mul_eq_zero.1 h with h|h
        · omega
        · rw [h];rfl
      · intro h
        rw [show p / 18446744073709551616 % 2 ^ (n - 64)=0 from by omega,Int.mul_zero]
    · rw [if_neg z]
      congr 1
      refine (decide_eq_false ?_).symm
      omega
  · rw [if_neg c,aC (show -9223372036854775808≤64 - (n:Int) from by omega) (by omega),if_pos (by omega),show 64 - (n:Int)=((64 - n:Nat):Int) from by omega,al3 _ _ (by omega)]
    have ps:=aif (show n≤64 from by omega)
    have hpn:=pow_pos n
    have hpm:=pow_pos (64 - n)
    congr 1
    have e:p % 2 ^ n=p % 18446744073709551616 % 2 ^ n:=(Int.emod_emod_of_dvd p ⟨2 ^ (64 - n),by rw [← ps,Int.mul_comm]⟩).symm
    rw [e]
    generalize p % 18446744073709551616=L
    have:L*2 ^ (64 - n) % 18446744073709551616=2 ^ (64 - n)*(L % 2 ^ n):=by
      have h:=Int.mul_emod_mul_of_pos L (2 ^ n) hpm
      rw [ps,Int.mul_comm (2 ^ (64 - n)) L] at h
      exact h
    rw [this]
    rw [Bool.eq_iff_iff]
    simp only [beq_iff_eq,decide_eq_true_eq]
    constructor
    · intro h
      rcases Int.mul_eq_zero.1 h with h|h
      · omega
      · exact h
    · intro h;rw [h,Int.mul_zero]
def acT (a b n:Int):Int:=if n≥128 then 0 else hold (jk (a*b) (2 ^ (mx 0 n).toNat))
theorem adL (s:Bool) {p:Int} (hp:0≤p) (n:Nat) (hn:1≤n) :
    jk (sgn s p) (2 ^ n)=sgn s (p / 2 ^ n+if p / 2 ^ (n - 1) % 2=0∨(s=true∧p % 2 ^ (n - 1)=0) then 0 else 1):=by
  obtain ⟨m,rfl⟩:∃ m,n=m+1:=⟨n - 1,by omega⟩
  rw [Nat.add_sub_cancel]
  have hpm:=pow_pos m
  rw [acM s hp (pow_pos _)]
  have h2:=xQ p m
  have e1:=Int.mul_ediv_add_emod p (2 ^ (m+1))
  have e2:=Int.mul_ediv_add_emod p (2 ^ m)
  have r0:=Int.emod_nonneg p (show (2:Int) ^ m≠0 from by omega)
  have r1:=Int.emod_lt_of_pos p hpm
  have er:p % 2 ^ (m+1)=2 ^ m*(p / 2 ^ m % 2)+p % 2 ^ m:=by
    have hb:p / 2 ^ m % 2=0∨p / 2 ^ m % 2=1:=by omega
    refine (wM (q:=p / 2 ^ (m+1)) ?_ ?_ ?_).2
    · rw [l9,← Int.mul_assoc]
      have:p / (2*2 ^ m)=p / 2 ^ (m+1):=by rw [l9]
      rw [this]
      have h3:p / 2 ^ (m+1)*2*2 ^ m+(2 ^ m*(p / 2 ^ m % 2)+p % 2 ^ m)=2 ^ m*(2*(p / 2 ^ (m+1))+p / 2 ^ m % 2)+p % 2 ^ m:=by
        rw [Int.mul_add,Int.mul_comm (p / 2 ^ (m+1)) 2,Int.mul_comm (2*(p / 2 ^ (m+1)))];omega
      rw [h3,← h2];exact e2
    · rcases hb with h|h <;> rw [h] <;> omega
    · rw [l9];rcases hb with h|h <;> rw [h] <;> omega
  rw [er,l9]
  generalize (2:Int) ^ m=d at *
  have hb:p / d % 2=0∨p / d % 2=1:=by omega
  generalize p / d % 2=bit at *
  generalize p % d=r at *
  congr 1
  cases s
  · simp only [Bool.false_eq_true,if_false,false_and,or_false]
    rcases hb with h|h
    · rw [h,if_neg (by omega),if_pos rfl];omega
    · rw [h,if_pos (by omega),if_neg (by omega)]
  · simp only [if_true,true_and]
    rcases hb with h|h
    · rw [h,if_neg (by omega),if_pos (Or.inl rfl)];omega
    · rw [h]
      by_cases z:r=0
      · rw [if_neg (by omega),if_pos (Or.inr z)];omega
      · rw [if_pos (by omega),if_neg (by omega)]
theorem afv {k:Nat} (hk:3≤k) {a b n:Int} (ha:I64 a) (hb:I64 b) (hn:I64 n):dD.f k a b n=some (acT a b n):=by
  unfold dD.f acT
  have ua:=qc ha
  have ub:=qc hb
  by_cases c:n≥128
  · rw [if_pos c,if_pos (by unfold mx;split <;> omega)]
  rw [if_neg c,if_neg (by unfold mx;split <;> omega),abN ha hb]
  simp only [Option.bind_some]
  have p0:=Int.mul_nonneg ua.1 ub.1
  have p1:siz a*siz b≤9223372036854775808*9223372036854775808:=Int.mul_le_mul ua.2 ub.2 ub.1 (by decide)
  have e0:=abk a b
  rw [← e0]
  generalize siz a*siz b=p at *
  generalize ((decide (a < 0)) != (decide (b < 0)))=s at *
  obtain ⟨m,hm⟩:∃ m:Nat,mx 0 n=m:=⟨(mx 0 n).toNat,by unfold mx;split <;> omega⟩
  have hm2:m≤127:=by unfold mx at hm;split at hm <;> omega
  rw [hm,show ((m:Int)).toNat=m from by omega]
  by_cases z:(m:Int)=0
  · rw [if_pos z,qy (by omega) (by omega) (by omega)]
    simp only [Option.bind_some]
    rw [show m=0 from by omega,Int.pow_zero,ajw]
    congr 3;omega
  rw [if_neg z,aC (show -9223372036854775808≤(m:Int) - 1 from by omega) (by omega),show (m:Int) - 1=((m - 1:Nat):Int) from by omega]
  obtain ⟨h1,l1,x1,x2,x3,x4⟩:=adx (p:=p) ⟨p0,by omega⟩ m hm2
  obtain ⟨h2,l2,y1,y2,y3,y4⟩:=adx (p:=p) ⟨p0,by omega⟩ (m - 1) (by omega)
  rw [x1,y1,aiC (p:=p) ⟨p0,by omega⟩ (m - 1) (by omega)]
  simp only [Option.bind_some]
  rw [aeQ]
  have eb:l2 % 2=p / 2 ^ (m - 1) % 2:=by omega
  rw [eb,adL s p0 m (by omega)]
  obtain ⟨k,rfl⟩:∃ j,k=j+1:=⟨k - 1,by omega⟩
  have dn:dD.j0 (k+1) s h1 l1 true=some (hold (sgn s (p / 2 ^ m+0))):=by
    rw [dD.j0,if_pos rfl,qy (by omega) x2 x3,x4]
    simp
  have q1:2*(p / 2 ^ m)≤p:=by
    have:=(qp p (pow_pos m)).1
    have h2:(2:Int)≤2 ^ m:=by
      calc (2:Int)=2 ^ 1:=by decide
        _≤2 ^ m:=qZ (by omega)
    have h3:p / 2 ^ m*2≤p / 2 ^ m*2 ^ m:=Int.mul_le_mul_of_nonneg_left h2 (Int.ediv_nonneg p0 (by omega))
    omega
  have up:dD.j0 (k+1) s h1 l1 false=some (hold (sgn s (p / 2 ^ m+1))):=by
    obtain ⟨z1,z2⟩:=ahq (x:=l1) (y:=1) x3 (by omega)
    rw [dD.j0,if_neg (by decide),z1,z2,mJ,qy (by omega) (by omega) (by omega)]
    simp only [Option.bind_some];congr 3;omega
  by_cases g:p / 2 ^ (m - 1) % 2=0
  · rw [if_pos g,if_pos (Or.inl g)];exact dn
  rw [if_neg g]
  cases s
  · simp only [Bool.false_eq_true,if_false,false_and,or_false]
    rw [if_neg g];exact up
  · simp only [if_true,true_and]
    by_cases e:p % 2 ^ (m - 1)=0
    · rw [decide_eq_true e,if_pos (Or.inr e)];exact dn
    · rw [decide_eq_false e,if_neg (by omega)];exact up
def jm (r:Int):Nat→Int
  | 0=>1099511627776
  | n+1=>hold (jk (jm r n*r) (((n:Int)+1)*1099511627776))
def oM (r:Int):Nat→Int
  | 0=>1099511627776
  | n+1=>if n % 2=0 then wrap64 (oM r n - jm r (n+1)) else wrap64 (oM r n+jm r (n+1))
def abn (t:Int):Int:=sh (oM (mx 0 t % 762123384786) 16) (mx 0 t / 762123384786)
theorem al4 (x:Int):I64 (wrap64 x):=by unfold wrap64;constructor <;> omega
theorem anK (r:Int):∀ n,I64 (jm r n)
  | 0=>by unfold jm;decide
  | n+1=>by unfold jm;exact qG _
theorem ajD (r:Int):∀ n,I64 (oM r n)
  | 0=>by unfold oM;decide
  | n+1=>by unfold oM;split <;> exact al4 _
theorem akW (s r:Int) (hs:I64 s) (hr:I64 r):∀ (d k n:Nat),n+d=16→d+60 < k →
    iD.l0 k s r (oM r n) (jm r n) (n:Int)=some (sh (oM r 16) s):=by
  intro d
  induction d with
  | zero =>
    intro k n hn hk
    obtain ⟨k,rfl⟩:∃ m,k=m+1:=⟨k - 1,by omega⟩
    rw [iD.l0,if_neg (by omega),show n=16 from by omega,zx (ajD r 16) hs]
    rfl
  | succ d ih =>
    intro k n hn hk
    obtain ⟨k,rfl⟩:∃ m,k=m+1:=⟨k - 1,by omega⟩
    rw [iD.l0,if_pos (by omega),aC (show -9223372036854775808≤(n:Int)+1 from by omega) (by omega),aC (by omega) (by omega)]
    rw [lI (by omega) (anK r n) hr (by constructor <;> omega)]
    simp only [Option.bind_some]
    have et:hold (jk (jm r n*r) (((n:Int)+1)*1099511627776))=jm r (n+1):=by rw [jm]
    rw [et]
    have h:=ih k (n+1) (by omega) (by omega)
    rw [show ((n+1:Nat):Int)=(n:Int)+1 from by omega,oM] at h
    have em:Int.tmod (n:Int) 2=((n % 2:Nat):Int):=rfl
    rw [em]
    by_cases c:n % 2=0
    · rw [if_pos (by omega)];rw [if_pos c] at h;exact h
    · rw [if_neg (by omega)];rw [if_neg c] at h;exact h
theorem akX {k:Nat} (hk:100≤k) {t:Int} (ht:I64 t):iD.f k t=some (abn t):=by
  have hm:0≤mx 0 t∧mx 0 t≤9223372036854775807:=by unfold mx;split <;> omega
  unfold iD.f abn
  rw [aC (by omega) (by omega)]
  exact akW _ _ (by omega) (by omega) 16 k 0 (by omega) (by omega)
theorem anL (t:Int):I64 (abn t):=ajx (ajD _ _)
def yK (d s:Int):Int:=if s < 1∨s > 4194304∨d < -16384∨d > 16384 then 9223372036854775807 else hold (jk (d*d*2147483648*1099511627776) (s*s))
theorem anM (d s:Int):I64 (yK d s):=by
  unfold yK;split
  · constructor <;> omega
  · exact qG _
theorem aiX {x m:Int} (h0 : -m≤x) (h1:x≤m):0≤x*x∧x*x≤m*m:=by
  have hm:0≤m:=by omega
  by_cases h:0≤x
  · exact ⟨Int.mul_nonneg h h,Int.mul_le_mul h1 h1 h hm⟩
  · have e:x*x=(-x)*(-x):=by rw [Int.neg_mul_neg]
    rw [e]
    exact ⟨Int.mul_nonneg (by omega) (by omega),Int.mul_le_mul (by omega) (by omega) (by omega) hm⟩
theorem aiD {k:Nat} (hk:40≤k) {d s:Int}:mQ.f k d s=some (yK d s):=by
  unfold mQ.f yK
  by_cases h1:s < 1
  · rw [if_pos h1,if_pos (Or.inl h1)]
  rw [if_neg h1]
  by_cases h2:s > 4194304
  · rw [if_pos h2,if_pos (Or.inr (Or.inl h2))]
  rw [if_neg h2]
  by_cases h3:d < -16384
  · rw [if_pos h3,if_pos (Or.inr (Or.inr (Or.inl h3)))]
  rw [if_neg h3]
  by_cases h4:d > 16384
  · rw [if_pos h4,if_pos (Or.inr (Or.inr (Or.inr h4)))]
  rw [if_neg h4,if_neg (by omega)]
  have a:=aiX (x:=d) (m:=16384) (by omega) (by omega)
  have b:=aiX (x:=s) (m:=4194304) (by omega) (by omega)
  rw [aC (show -9223372036854775808≤d*d from by omega) (by omega),aC (by omega) (by omega),aC (show -9223372036854775808≤s*s from by omega) (by omega),
    lI hk (by constructor <;> omega) (by decide) (by constructor <;> omega)]
  rfl
theorem aiE {k:Nat} (hk:100≤k) {d s:Int}:kR.f k d s=some (sh (abn (yK d s)) 10):=by
  unfold kR.f
  rw [aiD (by omega)]
  simp only [Option.bind_some]
  rw [akX hk (anM d s)]
  simp only [Option.bind_some]
  rw [zx (anL _) (by decide)]
  rfl
def acd (p q:Int):Prop:=1≤q∧q≤1048576 ∧ -4*q≤p∧p≤4*q
instance (p q:Int):Decidable (acd p q):=by unfold acd;exact inferInstance
theorem akY (p q:Int):vZ.f p q=some (decide (acd p q)):=by
  unfold vZ.f acd
  by_cases h1:q≥1
  · rw [if_pos h1]
    by_cases h2:q≤1048576
    · rw [if_pos h2,aC (show -9223372036854775808 ≤ -4*q from by omega) (by omega),aC (show -9223372036854775808≤4*q from by omega) (by omega)]
      by_cases h3:p ≥ -4*q
      · rw [if_pos h3];congr 1;exact decide_eq_decide.2 (by omega)
      · rw [if_neg h3];congr 1;exact (decide_eq_false (by omega)).symm
    · rw [if_neg h2];congr 1;exact (decide_eq_false (by omega)).symm
  · rw [if_neg h1];congr 1;exact (decide_eq_false (by omega)).symm
def asl (p q:Int):Int:=hold (jk (hold (jk (10851744800547*p) q)*p) q)
def pq (u:Int):Nat→Int
  | 0=>1099511627776
  | n+1=>hold (jk (pq u n*u) ((2*((n:Int)+1))*(2*((n:Int)+1)+1)*1099511627776))
def qP (u:Int):Nat→Int
  | 0=>1099511627776
  | n+1=>if n % 2=0 then wrap64 (qP u n - pq u (n+1)) else wrap64 (qP u n+pq u (n+1))
def afw (p q:Int):Int:=qP (asl (siz p) q) 30
theorem anN (r:Int):∀ n,I64 (pq r n)
  | 0=>by unfold pq;decide
  | n+1=>by unfold pq;exact qG _
theorem ajE (x:Int):I64 (wrap64 x):=by unfold wrap64;constructor <;> omega
theorem asn (r:Int):∀ n,I64 (qP r n)
  | 0=>by unfold qP;decide
  | n+1=>by unfold qP;split <;> exact ajE _
theorem anO (n:Nat) (h:n≤29):6≤(2*((n:Int)+1))*(2*((n:Int)+1)+1)∧(2*((n:Int)+1))*(2*((n:Int)+1)+1)≤3660:=by
  have a:(2*((n:Int)+1))*(2*((n:Int)+1)+1)≤60*61:=Int.mul_le_mul (by omega) (by omega) (by omega) (by decide)
  have b:2*3≤(2*((n:Int)+1))*(2*((n:Int)+1)+1):=Int.mul_le_mul (by omega) (by omega) (by decide) (by omega)
  constructor <;> omega
theorem ahr (u:Int) (hu:I64 u):∀ (d k n:Nat),n+d=30→d+60 < k →
    eG.l0 k u (qP u n) (pq u n) (if n % 2=0 then 1 else -1) ((n:Int)+1)=some (qP u 30):=by
  intro d
  induction d with
  | zero =>
    intro k n hn hk
    obtain ⟨k,rfl⟩:∃ m,k=m+1:=⟨k - 1,by omega⟩
    rw [eG.l0,if_neg (by omega),show n=30 from by omega]
  | succ d ih =>
    intro k n hn hk
    obtain ⟨k,rfl⟩:∃ m,k=m+1:=⟨k - 1,by omega⟩
    have hd:=anO n (by omega)
    rw [eG.l0,if_pos (by omega),aC (show -9223372036854775808≤2*((n:Int)+1) from by omega) (by omega),aC (show -9223372036854775808≤2*((n:Int)+1)+1 from by omega) (by omega),
      aC (show -9223372036854775808≤2*((n:Int)+1)*(2*((n:Int)+1)+1) from by omega) (by omega),aC (show -9223372036854775808≤2*((n:Int)+1)*(2*((n:Int)+1)+1)*1099511627776 from by omega) (by omega),
      aC (show -9223372036854775808≤(n:Int)+1+1 from by omega) (by omega)]
    rw [lI (by omega) (anN u n) hu (by constructor <;> omega)]
    simp only [Option.bind_some]
    have et:hold (jk (pq u n*u) (2*((n:Int)+1)*(2*((n:Int)+1)+1)*1099511627776))=pq u (n+1):=by rw [pq]
    rw [et]
    have h:=ih k (n+1) (by omega) (by omega)
    have es:qP u (n+1)=if n % 2=0 then wrap64 (qP u n - pq u (n+1)) else wrap64 (qP u n+pq u (n+1)):=by rw [qP]
    rw [show ((n+1:Nat):Int)=(n:Int)+1 from by omega,es] at h
    rw [← h]
    by_cases c:n % 2=0
    · rw [if_pos c,if_pos c,if_neg (by omega),aC (show -9223372036854775808≤(-1:Int) from by decide) (by decide)]
      congr 1
      generalize pq u (n+1)=t
      unfold wrap64;omega
    · rw [if_neg c,if_neg c,if_pos (by omega),aC (show -9223372036854775808 ≤ -(-1:Int) from by decide) (by decide)]
      congr 1
      generalize pq u (n+1)=t
      unfold wrap64;omega
theorem acC {k:Nat} (hk:200≤k) {p q:Int} (hp : -9223372036854775807≤p∧p≤9223372036854775807) (hq:I64 q):eG.f k p q=some (afw p q):=by
  unfold eG.f rC.f afw
  have e:mx p (wrap64 (-p))=siz p:=by rw [aC (by omega) (by omega)];unfold mx siz;split <;> split <;> omega
  have hs:I64 (siz p):=by unfold siz;split <;> constructor <;> omega
  rw [e]
  simp only [Option.bind_some]
  rw [lI (by omega) (by decide) hs hq]
  simp only [Option.bind_some]
  rw [lI (by omega) (qG _) hs hq]
  simp only [Option.bind_some]
  exact ahr _ (qG _) 30 k 0 (by omega) (by omega)
def afx (p q:Int):Int:=if acd p q∧siz p < 3*q then sh (acT (afw p q) (afw p (3*q)) 40) 10 else 0
theorem ahs (a b n:Int):I64 (acT a b n):=by
  unfold acT;split
  · constructor <;> omega
  · exact qG _
theorem agp (p q:Int):I64 (afw p q):=asn _ _
theorem aso (p q:Int):I64 (afx p q):=by
  unfold afx;split
  · exact ajx (ahs _ _ _)
  · constructor <;> omega
theorem agq {k:Nat} (hk:300≤k) (p q:Int):eP.f k p q=some (afx p q):=by
  obtain ⟨k,rfl⟩:∃ m,k=m+1:=⟨k - 1,by omega⟩
  unfold eP.f afx
  rw [akY]
  simp only [Option.bind_some]
  by_cases c:acd p q
  · have c':1≤q∧q≤1048576 ∧ -4*q≤p∧p≤4*q:=c
    rw [if_pos (decide_eq_true c)]
    have e:mx p (wrap64 (-p))=siz p:=by rw [aC (by omega) (by omega)];unfold mx siz;split <;> split <;> omega
    unfold rC.f
    rw [e,aC (show -9223372036854775808≤3*q from by omega) (by omega)]
    simp only [Option.bind_some]
    rw [eP.j0]
    by_cases g:siz p < 3*q
    · rw [if_neg (by simp;omega),if_pos ⟨c,g⟩,aC (show -9223372036854775808≤3*q from by omega) (by omega),acC (by omega) (by omega) (by constructor <;> omega),acC (by omega) (by omega) (by constructor <;> omega)]
      simp only [Option.bind_some]
      rw [afv (by omega) (agp _ _) (agp _ _) (by decide)]
      simp only [Option.bind_some]
      rw [zx (ahs _ _ _) (by decide)]
      rfl
    · rw [if_pos (by simp;omega),if_neg (by omega)]
  · rw [if_neg (by simpa using c),if_neg (by intro h;exact c h.1),eP.j0,if_pos rfl]
def tH (f n m i:Int):Prop:=0≤f∧f < 3∧1≤n∧n≤65536∧1≤m∧m≤65536∧0≤i∧i < m
instance (f n m i:Int):Decidable (tH f n m i):=by unfold tH;exact inferInstance
theorem uF (f n m i:Int):iY.f f n m i=some (decide (tH f n m i)):=by
  unfold iY.f tH
  by_cases h1:f≥0
  · rw [if_pos h1]
    by_cases h2:f < 3
    · rw [if_pos h2]
      by_cases h3:n≥1
      · rw [if_pos h3]
        by_cases h4:n≤65536
        · rw [if_pos h4]
          by_cases h5:m≥1
          · rw [if_pos h5]
            by_cases h6:m≤65536
            · rw [if_pos h6]
              by_cases h7:i≥0
              · rw [if_pos h7];congr 1;exact decide_eq_decide.2 (by omega)
              · rw [if_neg h7];congr 1;exact (decide_eq_false (by omega)).symm
            · rw [if_neg h6];congr 1;exact (decide_eq_false (by omega)).symm
          · rw [if_neg h5];congr 1;exact (decide_eq_false (by omega)).symm
        · rw [if_neg h4];congr 1;exact (decide_eq_false (by omega)).symm
      · rw [if_neg h3];congr 1;exact (decide_eq_false (by omega)).symm
    · rw [if_neg h2];congr 1;exact (decide_eq_false (by omega)).symm
  · rw [if_neg h1];congr 1;exact (decide_eq_false (by omega)).symm
def cei (a b:Int):Int := -((-a) / b)
theorem zy {a b M:Int} (hb:0 < b) (hM:0≤M) (h0 : -M≤a) (h1:a≤M) : -M≤a / b∧a / b≤M:=by
  have e:M*1≤M*b:=Int.mul_le_mul_of_nonneg_left (by omega) hM
  have n : -M*b = -(M*b):=Int.neg_mul _ _
  refine ⟨?_,?_⟩
  · rw [Int.le_ediv_iff_mul_le hb];omega
  · have:a / b < M+1:=by
      rw [Int.ediv_lt_iff_lt_mul hb,Int.add_mul];omega
    omega
theorem agr {a b j:Int} (hb:0 < b):j < cei a b↔j*b < a:=by
  unfold cei
  have:=Int.ediv_lt_iff_lt_mul (a := -a) (b := -j) hb
  rw [Int.neg_mul] at this
  omega
theorem div_lt {a b j:Int} (hb:0 < b):a / b < j↔a < j*b:=Int.ediv_lt_iff_lt_mul hb
theorem vS {k:Nat} (hk:1≤k) {a b:Int} (ha : -1152921504606846976≤a∧a≤1152921504606846976) (hb:0 < b∧b≤9223372036854775807):bZ.f k a b=some (a / b):=by
  have h:=zy (a:=a) (M:=1152921504606846976) hb.1 (by decide) ha.1 ha.2
  rw [acD hk (by constructor <;> omega) (by constructor <;> omega)]
  unfold flo
  rw [if_pos hb.1,tC (by omega) (by omega)]
theorem ace {k:Nat} (hk:1≤k) {a b:Int} (ha : -1152921504606846976≤a∧a≤1152921504606846976) (hb:0 < b∧b≤9223372036854775807):gI.f k a b=some (cei a b):=by
  have h:=zy (a := -a) (M:=1152921504606846976) hb.1 (by decide) (by omega) (by omega)
  unfold gI.f cei
  rw [aC (by omega) (by omega),vS hk (by omega) hb]
  simp only [Option.bind_some]
  rw [aC (by omega) (by omega)]
def nG (f n m:Int):Int:=(if f=1 then 4 else 6)*mx n m
def fU (f n m i:Int):Int:=if f=0 then i*n / m else ((2*(i*n)+n - m) - nG f n m) / (2*m)+1
def kY (f n m i:Int):Int:=if f=0 then cei (i*n+n) m else cei ((2*(i*n)+n - m)+nG f n m) (2*m)
theorem acU {n m i:Int} (hn:1≤n∧n≤65536) (hm:1≤m∧m≤65536) (hi:0≤i∧i < m):0≤i*n∧i*n≤4294967296:=by
  constructor
  · exact Int.mul_nonneg (by omega) (by omega)
  · have:i*n≤65536*65536:=Int.mul_le_mul (by omega) (by omega) (by omega) (by decide)
    omega
theorem anP {f n m:Int} (hn:1≤n∧n≤65536) (hm:1≤m∧m≤65536):4≤nG f n m∧nG f n m≤393216:=by
  unfold nG mx;split <;> split <;> omega
theorem zA {f n m i:Int} (h:tH f n m i) : -8589934592≤fU f n m i∧fU f n m i≤17179869184 ∧ -17179869184≤kY f n m i∧kY f n m i≤17179869184:=by
  obtain ⟨h1,h2,h3,h4,h5,h6,h7,h8⟩:=h
  have hP:=acU ⟨h3,h4⟩ ⟨h5,h6⟩ ⟨h7,h8⟩
  have hR:=anP (f:=f) ⟨h3,h4⟩ ⟨h5,h6⟩
  unfold fU kY cei
  have a:=zy (a:=i*n) (b:=m) (M:=8589934591) (by omega) (by decide) (by omega) (by omega)
  have a2:=zy (a := -(i*n+n)) (b:=m) (M:=17179869184) (by omega) (by decide) (by omega) (by omega)
  have b:=zy (a:=(2*(i*n)+n - m) - nG f n m) (b:=2*m) (M:=17179869183) (by omega) (by decide) (by omega) (by omega)
  have b2:=zy (a := -((2*(i*n)+n - m)+nG f n m)) (b:=2*m) (M:=17179869184) (by omega) (by decide) (by omega) (by omega)
  have c : -8589934592≤((2*(i*n)+n - m) - nG f n m) / (2*m):=by
    have : -(8589934592:Int)≤(2*(i*n)+n - m) - nG f n m:=by omega
    rw [Int.le_ediv_iff_mul_le (by omega)];omega
  split <;> omega
theorem aiF {k:Nat} (hk:1≤k) (f n m i:Int):kQ.f k f n m i=some (if tH f n m i then (fU f n m i,kY f n m i - fU f n m i) else (0,0)):=by
  by_cases h:tH f n m i
  · rw [if_pos h]
    have hw:=zA h
    obtain ⟨h1,h2,h3,h4,h5,h6,h7,h8⟩:=id h
    have hP:=acU ⟨h3,h4⟩ ⟨h5,h6⟩ ⟨h7,h8⟩
    have hx:1≤mx n m∧mx n m≤65536:=by unfold mx;split <;> omega
    have q1:(i+1)*n=i*n+n:=by rw [Int.add_mul,Int.one_mul]
    have q2:(2*i+1)*n=2*(i*n)+n:=by rw [Int.add_mul,Int.one_mul,Int.mul_assoc]
    have e1:wrap64 (i*n)=i*n:=aC (by omega) (by omega)
    have e2:wrap64 (i+1)=i+1:=aC (by omega) (by omega)
    have e3:wrap64 (i*n+n)=i*n+n:=aC (by omega) (by omega)
    have e4:wrap64 (2*i)=2*i:=aC (by omega) (by omega)
    have e5:wrap64 (2*i+1)=2*i+1:=aC (by omega) (by omega)
    have e6:wrap64 (2*(i*n)+n)=2*(i*n)+n:=aC (by omega) (by omega)
    have e7:wrap64 (2*(i*n)+n - m)=2*(i*n)+n - m:=aC (by omega) (by omega)
    have e8:wrap64 (2*m)=2*m:=aC (by omega) (by omega)
    have e9:wrap64 (4*mx n m)=4*mx n m:=aC (by omega) (by omega)
    have e10:wrap64 (6*mx n m)=6*mx n m:=aC (by omega) (by omega)
    have f1:bZ.f k (i*n) m=some (i*n / m):=vS hk (by omega) (by omega)
    have f2:gI.f k (i*n+n) m=some (cei (i*n+n) m):=ace hk (by omega) (by omega)
    have hf:f=0∨f=1∨f=2:=by omega
    unfold kQ.f
    rcases hf with rfl|rfl|rfl
    · rw [if_neg (by decide),if_neg (by decide)]
      unfold jD.f
      rw [uF,decide_eq_true h]
      simp only [Option.bind_some,if_true,e1,e2,q1,e3,f1,f2]
      unfold fU kY at hw ⊢
      simp only [if_true] at hw ⊢
      rw [aC (by omega) (by omega)]
    · rw [if_pos rfl]
      unfold jB.f
      rw [uF,decide_eq_true h]
      unfold fU kY nG at hw ⊢
      simp only [if_true] at hw ⊢
      rw [if_neg (by decide),if_neg (by decide)] at hw
      rw [if_neg (by decide),if_neg (by decide)]
      simp only [Option.bind_some,if_true,e1,e2,q1,e3,f1,f2,e4,e5,q2,e6,e7,e8,e9]
      have e11:wrap64 (2*(i*n)+n - m - 4*mx n m)=2*(i*n)+n - m - 4*mx n m:=aC (by omega) (by omega)
      have e12:wrap64 (2*(i*n)+n - m+4*mx n m)=2*(i*n)+n - m+4*mx n m:=aC (by omega) (by omega)
      rw [e11,e12,vS hk (by omega) (by omega),ace hk (by omega) (by omega)]
      simp only [Option.bind_some]
      have e13:wrap64 ((2*(i*n)+n - m - 4*mx n m) / (2*m)+1)=(2*(i*n)+n - m - 4*mx n m) / (2*m)+1:=aC (by omega) (by omega)
      rw [e13,aC (by omega) (by omega)]
    · rw [if_neg (by decide),if_pos rfl]
      unfold jC.f
      rw [uF,decide_eq_true h]
      unfold fU kY nG at hw ⊢
      rw [if_neg (by decide),if_neg (by decide),if_neg (by decide)] at hw
      rw [if_neg (by decide),if_neg (by decide),if_neg (by decide)]
      simp only [Option.bind_some,if_true,e1,e2,q1,e3,f1,f2,e4,e5,q2,e6,e7,e8,e10]
      have e11:wrap64 (2*(i*n)+n - m - 6*mx n m)=2*(i*n)+n - m - 6*mx n m:=aC (by omega) (by omega)
      have e12:wrap64 (2*(i*n)+n - m+6*mx n m)=2*(i*n)+n - m+6*mx n m:=aC (by omega) (by omega)
      rw [e11,e12,vS hk (by omega) (by omega),ace hk (by omega) (by omega)]
      simp only [Option.bind_some]
      have e13:wrap64 ((2*(i*n)+n - m - 6*mx n m) / (2*m)+1)=(2*(i*n)+n - m - 6*mx n m) / (2*m)+1:=aC (by omega) (by omega)
      rw [e13,aC (by omega) (by omega)]
  · rw [if_neg h]
    unfold kQ.f
    have hd:=decide_eq_false h
    split
    · rename_i c;subst c;unfold jB.f;rw [uF,hd];rfl
    · split
      · rename_i c;subst c;unfold jC.f;rw [uF,hd];rfl
      · unfold jD.f;rw [uF,hd];rfl
def afy (p q:Int):Int :=
  if 1≤q∧q≤262144∧p < 2*q ∧ -2*q < p then
    hold (jk ((if siz p≥q then -(siz p*siz p*siz p)+5*(siz p*siz p*q) - 8*(siz p*q*q)+4*(q*q*q) else 3*(siz p*siz p*siz p) - 5*(siz p*siz p*q)+2*(q*q*q))*1073741824) (2*(q*q*q)))
  else 0
theorem asq (p q:Int):I64 (afy p q):=by
  unfold afy;split
  · exact qG _
  · constructor <;> omega
theorem aas {a b c M:Int} (ha:0≤a∧a≤M) (hb:0≤b∧b≤M) (hc:0≤c∧c≤M):0≤a*b∧a*b≤M*M∧0≤a*b*c∧a*b*c≤M*M*M:=by
  have h1:0≤a*b:=Int.mul_nonneg ha.1 hb.1
  have h2:a*b≤M*M:=Int.mul_le_mul ha.2 hb.2 hb.1 (by omega)
  exact ⟨h1,h2,Int.mul_nonneg h1 hc.1,Int.mul_le_mul h2 hc.2 hc.1 (by omega)⟩
theorem akZ {k:Nat} (hk:50≤k) {p q:Int} (hp:I64 p) (hq:I64 q):fK.f k p q=some (afy p q):=by
  obtain ⟨k,rfl⟩:∃ m,k=m+1:=⟨k - 1,by omega⟩
  unfold fK.f afy
  by_cases h1:q < 1
  · rw [if_pos h1,if_neg (by omega),fK.j0,if_pos rfl]
  rw [if_neg h1]
  by_cases h2:q > 262144
  · rw [if_pos h2,if_neg (by omega),fK.j0,if_pos rfl]
  rw [if_neg h2,aC (show -9223372036854775808≤2*q from by omega) (by omega),aC (show -9223372036854775808 ≤ -2*q from by omega) (by omega)]
  by_cases h3:p≥2*q
  · rw [if_pos h3,if_neg (by omega),fK.j0,if_pos rfl]
  rw [if_neg h3,fK.j0]
  by_cases h4:p ≤ -2*q
  · rw [if_pos (by simpa using h4),if_neg (by omega)]
  rw [if_neg (by simpa using h4),if_pos (show 1≤q∧q≤262144∧p < 2*q ∧ -2*q < p from by omega)]
  have e:mx p (wrap64 (-p))=siz p:=by rw [aC (by omega) (by omega)];unfold mx siz;split <;> split <;> omega
  have hs:0≤siz p∧siz p≤524288:=by unfold siz;split <;> omega
  rw [e]
  generalize siz p=s at hs ⊢
  have b1:=aas hs hs hs
  have b2:=aas hs hs (show 0≤q∧q≤524288 by omega)
  have b3:=aas hs (show 0≤q∧q≤524288 by omega) (show 0≤q∧q≤524288 by omega)
  have b4:=aas (show 0≤q∧q≤262144 by omega) (show 0≤q∧q≤262144 by omega) (show 0≤q∧q≤262144 by omega)
  have a1 : -s*s = -(s*s):=Int.neg_mul _ _
  have a2 : -(s*s)*s = -(s*s*s):=Int.neg_mul _ _
  have a3:∀ x y:Int,5*x*y=5*(x*y):=fun x y=>Int.mul_assoc _ _ _
  have a4:∀ x y:Int,8*x*y=8*(x*y):=fun x y=>Int.mul_assoc _ _ _
  have a5:∀ x y:Int,4*x*y=4*(x*y):=fun x y=>Int.mul_assoc _ _ _
  have a6:∀ x y:Int,2*x*y=2*(x*y):=fun x y=>Int.mul_assoc _ _ _
  have a7:∀ x y:Int,3*x*y=3*(x*y):=fun x y=>Int.mul_assoc _ _ _
  have w1:wrap64 (-s) = -s:=aC (by omega) (by omega)
  have w2:wrap64 (-(s*s)) = -(s*s):=aC (by omega) (by omega)
  have w3:wrap64 (-(s*s*s)) = -(s*s*s):=aC (by omega) (by omega)
  have w4:wrap64 (5*s)=5*s:=aC (by omega) (by omega)
  have w5:wrap64 (5*(s*s))=5*(s*s):=aC (by omega) (by omega)
  have w6:wrap64 (5*(s*s*q))=5*(s*s*q):=aC (by omega) (by omega)
  have w7:wrap64 (8*s)=8*s:=aC (by omega) (by omega)
  have w8:wrap64 (8*(s*q))=8*(s*q):=aC (by omega) (by omega)
  have w9:wrap64 (8*(s*q*q))=8*(s*q*q):=aC (by omega) (by omega)
  have w10:wrap64 (4*q)=4*q:=aC (by omega) (by omega)
  have w11:wrap64 (4*(q*q))=4*(q*q):=aC (by omega) (by omega)
  have w12:wrap64 (4*(q*q*q))=4*(q*q*q):=aC (by omega) (by omega)
  have w13:wrap64 (2*q)=2*q:=aC (by omega) (by omega)
  have w14:wrap64 (2*(q*q))=2*(q*q):=aC (by omega) (by omega)
  have w15:wrap64 (2*(q*q*q))=2*(q*q*q):=aC (by omega) (by omega)
  have w16:wrap64 (3*s)=3*s:=aC (by omega) (by omega)
  have w17:wrap64 (3*(s*s))=3*(s*s):=aC (by omega) (by omega)
  have w18:wrap64 (3*(s*s*s))=3*(s*s*s):=aC (by omega) (by omega)
  simp only [w1,a1,w2,a2,w3,w4,a3,w5,w6,w7,a4,w8,w9,w10,a5,w11,w12,w13,a6,w14,w15,w16,a7,w17,w18]
  by_cases h5:s≥q
  · rw [if_pos h5,if_pos h5]
    have v1:wrap64 (-(s*s*s)+5*(s*s*q)) = -(s*s*s)+5*(s*s*q):=aC (by omega) (by omega)
    have v2:wrap64 (-(s*s*s)+5*(s*s*q) - 8*(s*q*q)) = -(s*s*s)+5*(s*s*q) - 8*(s*q*q):=aC (by omega) (by omega)
    have v3:wrap64 (-(s*s*s)+5*(s*s*q) - 8*(s*q*q)+4*(q*q*q)) = -(s*s*s)+5*(s*s*q) - 8*(s*q*q)+4*(q*q*q):=aC (by omega) (by omega)
    rw [v1,v2,v3,lI (by omega) (by constructor <;> omega) (by decide) (by constructor <;> omega)]
    rfl
  · rw [if_neg h5,if_neg h5]
    have v1:wrap64 (3*(s*s*s) - 5*(s*s*q))=3*(s*s*s) - 5*(s*s*q):=aC (by omega) (by omega)
    have v2:wrap64 (3*(s*s*s) - 5*(s*s*q)+2*(q*q*q))=3*(s*s*s) - 5*(s*s*q)+2*(q*q*q):=aC (by omega) (by omega)
    rw [v1,v2,lI (by omega) (by constructor <;> omega) (by decide) (by constructor <;> omega)]
    rfl
def aeR (n m i j:Int):Int:=mn (i*n+n) (j*m+m) - mx (i*n) (j*m)
def acV (n m i j:Int):Int:=2*(m*j) - (2*(i*n)+n)+m
def wV (f n m i j:Int):Int:=if f=0 then hold (jk (aeR n m i j*1073741824) n) else if f=1 then afy (acV n m i j) (2*mx n m) else afx (acV n m i j) (2*mx n m)
theorem avQ (f n m i j:Int):I64 (wV f n m i j):=by
  unfold wV;split
  · exact qG _
  · split
    · exact asq _ _
    · exact aso _ _
theorem al5 {m j:Int} (hm:1≤m∧m≤65536) (hj : -34359738368≤j∧j≤34359738368) : -2251799813685248≤j*m∧j*m≤2251799813685248:=by
  have a:j*m≤34359738368*65536:=by
    by_cases c:0≤j
    · exact Int.mul_le_mul hj.2 hm.2 (by omega) (by decide)
    · have:j*m≤0*m:=Int.mul_le_mul_of_nonneg_right (by omega) (by omega)
      omega
  have b : -j*m≤34359738368*65536:=by
    by_cases c:0 ≤ -j
    · exact Int.mul_le_mul (by omega) hm.2 (by omega) (by decide)
    · have : -j*m≤0*m:=Int.mul_le_mul_of_nonneg_right (by omega) (by omega)
      omega
  rw [Int.neg_mul] at b
  constructor <;> omega
theorem ajF {k:Nat} (hk:300≤k) {f n m i j:Int} (h:tH f n m i) (hj : -34359738368≤j∧j≤34359738368):nI.f k f n m i j=some (wV f n m i j):=by
  obtain ⟨h1,h2,h3,h4,h5,h6,h7,h8⟩:=id h
  have hP:=acU ⟨h3,h4⟩ ⟨h5,h6⟩ ⟨h7,h8⟩
  have hx:1≤mx n m∧mx n m≤65536:=by unfold mx;split <;> omega
  have hJ:=al5 ⟨h5,h6⟩ hj
  have q1:(i+1)*n=i*n+n:=by rw [Int.add_mul,Int.one_mul]
  have q2:(2*i+1)*n=2*(i*n)+n:=by rw [Int.add_mul,Int.one_mul,Int.mul_assoc]
  have q3:(j+1)*m=j*m+m:=by rw [Int.add_mul,Int.one_mul]
  have q4:2*m*j=2*(m*j):=Int.mul_assoc _ _ _
  have q5:m*j=j*m:=Int.mul_comm _ _
  have e1:wrap64 (i*n)=i*n:=aC (by omega) (by omega)
  have e2:wrap64 (i+1)=i+1:=aC (by omega) (by omega)
  have e3:wrap64 (i*n+n)=i*n+n:=aC (by omega) (by omega)
  have e4:wrap64 (2*i)=2*i:=aC (by omega) (by omega)
  have e5:wrap64 (2*i+1)=2*i+1:=aC (by omega) (by omega)
  have e6:wrap64 (2*(i*n)+n)=2*(i*n)+n:=aC (by omega) (by omega)
  have e7:wrap64 (j+1)=j+1:=aC (by omega) (by omega)
  have e8:wrap64 (j*m)=j*m:=aC (by omega) (by omega)
  have e9:wrap64 (j*m+m)=j*m+m:=aC (by omega) (by omega)
  have e10:wrap64 (2*m)=2*m:=aC (by omega) (by omega)
  have e11:wrap64 (2*(m*j))=2*(m*j):=aC (by omega) (by omega)
  have e12:wrap64 (2*(m*j) - (2*(i*n)+n))=2*(m*j) - (2*(i*n)+n):=aC (by omega) (by omega)
  have e13:wrap64 (2*(m*j) - (2*(i*n)+n)+m)=2*(m*j) - (2*(i*n)+n)+m:=aC (by omega) (by omega)
  have e14:wrap64 (2*mx n m)=2*mx n m:=aC (by omega) (by omega)
  have hp : -9223372036854775808≤aeR n m i j∧aeR n m i j≤9223372036854775807:=by unfold aeR mn mx;split <;> split <;> omega
  unfold nI.f wV
  simp only [e1,e2,q1,e3,e4,e5,q2,e6,e7,e8,q3,e9,e10,q4,e11,e12,e13,e14]
  by_cases c0:f=0
  · rw [if_pos c0,if_pos c0]
    have:wrap64 (mn (i*n+n) (j*m+m) - mx (i*n) (j*m))=aeR n m i j:=aC hp.1 hp.2
    rw [this,lI (by omega) hp (by decide) (by constructor <;> omega)];rfl
  · rw [if_neg c0,if_neg c0]
    by_cases c1:f=1
    · rw [if_pos c1,if_pos c1,akZ (by omega) (by constructor <;> omega) (by constructor <;> omega)];rfl
    · rw [if_neg c1,if_neg c1,agq (by omega)];rfl
def vF (f n m i:Int):List Int:=(List.range (kY f n m i - fU f n m i).toNat).map fun (t:Nat)=>wV f n m i (fU f n m i+(t:Int))
theorem al6 {f n m i:Int} (h:tH f n m i) (c:Nat) (hc:(c:Int)=kY f n m i - fU f n m i):∀ (d k t:Nat),t+d=c→d+400 < k →
    iw.l0 k f n m i (fU f n m i) ((List.range t).map fun (t:Nat)=>wV f n m i (fU f n m i+(t:Int))) (c:Int) (t:Int)=some (fU f n m i,(List.range c).map fun (t:Nat)=>wV f n m i (fU f n m i+(t:Int))):=by
  have hw:=zA h
  intro d
  induction d with
  | zero =>
    intro k t ht hk
    obtain ⟨k,rfl⟩:∃ m,k=m+1:=⟨k - 1,by omega⟩
    rw [iw.l0,if_neg (by omega),show t=c from by omega]
  | succ d ih =>
    intro k t ht hk
    obtain ⟨k,rfl⟩:∃ m,k=m+1:=⟨k - 1,by omega⟩
    rw [iw.l0,if_pos (by omega),aC (show -9223372036854775808≤fU f n m i+(t:Int) from by omega) (by omega),ajF (by omega) h (by omega)]
    simp only [Option.bind_some]
    rw [if_pos (by rw [List.length_map,List.length_range];omega),aC (show -9223372036854775808≤(t:Int)+1 from by omega) (by omega)]
    have:=ih k (t+1) (by omega) (by omega)
    rw [List.range_succ,List.map_append,List.map_singleton] at this
    rw [show ((t+1:Nat):Int)=(t:Int)+1 from by omega] at this
    exact this
theorem alg {f n m i:Int} (h:tH f n m i):fU f n m i≤i*n / m∧i*n / m < kY f n m i:=by
  obtain ⟨h1,h2,h3,h4,h5,h6,h7,h8⟩:=id h
  have hP:=acU ⟨h3,h4⟩ ⟨h5,h6⟩ ⟨h7,h8⟩
  have hx:n≤mx n m∧m≤mx n m:=by unfold mx;split <;> omega
  have e:=Int.mul_ediv_add_emod (i*n) m
  have r0:=Int.emod_nonneg (i*n) (show m≠0 by omega)
  have r1:=Int.emod_lt_of_pos (i*n) (show 0 < m by omega)
  have ec:i*n / m*m=m*(i*n / m):=Int.mul_comm _ _
  unfold fU kY
  by_cases c:f=0
  · rw [if_pos c,if_pos c]
    refine ⟨Int.le_refl _,(agr (by omega)).2 (by omega)⟩
  · rw [if_neg c,if_neg c]
    have hR:4*mx n m≤nG f n m:=by unfold nG;split <;> omega
    have e2:i*n / m*(2*m)=2*(m*(i*n / m)):=by rw [Int.mul_comm (2:Int) m,← Int.mul_assoc,Int.mul_comm _ (2:Int),ec]
    constructor
    · have:=(div_lt (a:=2*(i*n)+n - m - nG f n m) (j:=i*n / m) (show 0 < 2*m by omega)).2 (by omega)
      omega
    · exact (agr (by omega)).2 (by omega)
theorem ak0 {k:Nat} {f n m i:Int} (h:tH f n m i) (hk:(kY f n m i - fU f n m i).toNat+401≤k):iw.f k f n m i=some (fU f n m i,vF f n m i):=by
  have hm:=alg h
  unfold iw.f vF
  rw [aiF (by omega),if_pos h]
  simp only [Option.bind_some]
  have:=al6 h (kY f n m i - fU f n m i).toNat (by omega) (kY f n m i - fU f n m i).toNat k 0 (by omega) (by omega)
  rw [show (((kY f n m i - fU f n m i).toNat:Nat):Int)=kY f n m i - fU f n m i from by omega] at this
  exact this
theorem aoG (f n m i:Int):(vF f n m i).length=(kY f n m i - fU f n m i).toNat:=by
  unfold vF;rw [List.length_map,List.length_range]
theorem arI {k:Nat} (hk:400≤k):jq.f k=some true :=
  ah9 (fun k=>jq.mono k) hk (show jq.f 400=some true by decide +kernel)
theorem anQ {x:Int} (hx:I64 x):szV x=if x≥0 then x else if x < -9223372036854775807 then 9223372036854775807 else -x:=by
  have e:x * -1 = -x:=by omega
  unfold szV
  rw [e]
  unfold mx hold
  repeat' split
  all_goals omega
theorem al7 {x:Int} (hx:I64 x):0≤szV x∧szV x≤9223372036854775807:=by
  rw [anQ hx];repeat' split
  all_goals omega
def nX (s:Int) (l:List Int):Int:=l.foldl (fun s x=>hold (s+szV x)) s
theorem uU {l:List Int} (hx:∀ x ∈ l,I64 x) (i:Int):I64 (rd l i):=by
  unfold rd
  rw [List.getD_eq_getElem?_getD]
  rcases Nat.lt_or_ge i.toNat l.length with q|q
  · rw [List.getElem?_eq_getElem q];exact hx _ (List.getElem_mem _)
  · rw [List.getElem?_eq_none q];decide
theorem aht {l:List Int} {i:Nat} (h:i < l.length):l.drop i=rd l (i:Int) :: l.drop (i+1):=by
  rw [List.drop_eq_getElem_cons h]
  congr 1
  unfold rd
  rw [List.getD_eq_getElem?_getD,show ((i:Int)).toNat=i from by omega,List.getElem?_eq_getElem h];rfl
theorem ajG {s:Int} (hs:0≤s∧s≤9223372036854775807):∀ {l:List Int},(∀ x ∈ l,I64 x)→0≤nX s l∧nX s l≤9223372036854775807:=by
  intro l
  induction l generalizing s with
  | nil=>intro _;exact hs
  | cons x l ih =>
    intro hx
    have h1:=al7 (hx x List.mem_cons_self)
    refine ih (s:=hold (s+szV x)) ⟨?_,alc _⟩ (fun y hy=>hx y (List.mem_cons_of_mem _ hy))
    unfold hold;split
    · omega
    · split <;> omega
theorem ajH (l:List Int) (hl:l.length < 4611686018427387904) (hx:∀ x ∈ l,I64 x):∀ (d k i:Nat) (s:Int),i+d=l.length→d+2 < k→I64 s→kC.l0 k s l (l.length:Int) (i:Int)=some (nX s (l.drop i)):=by
  intro d
  induction d with
  | zero =>
    intro k i s h1 h2 hs
    obtain ⟨k,rfl⟩:∃ m,k=m+1:=⟨k - 1,by omega⟩
    rw [kC.l0,if_neg (by omega),List.drop_of_length_le (by omega)];rfl
  | succ d ih =>
    intro k i s h1 h2 hs
    obtain ⟨k,rfl⟩:∃ m,k=m+1:=⟨k - 1,by omega⟩
    have hz:=al7 (uU hx (i:Int))
    rw [kC.l0,if_pos (by omega),if_pos (by omega),if_pos (by omega),adM (by omega) (uU hx _)]
    simp only [Option.bind_some]
    rw [adN (by omega) hs (by constructor <;> omega)]
    simp only [Option.bind_some]
    rw [aC (show -9223372036854775808≤(i:Int)+1 from by omega) (by omega),aht (by omega)]
    exact ih k (i+1) _ (by omega) (by omega) (qG _)
theorem adO {k:Nat} {l:List Int} (hk:l.length+3≤k) (hl:l.length < 4611686018427387904) (hx:∀ x ∈ l,I64 x):kC.f k l=some (nX 0 l) :=
  ajH l hl hx l.length k 0 0 (by omega) (by omega) (by decide)
def nO (l:List Int):List Int × Int:=if l.length % 2=0∨l.length > 1024∨nX 0 l < 1∨nX 0 l > 1048576 then ([],7) else ((List.range l.length).map (fun (i:Nat)=>hold (jk (rd l (i:Int)*1073741824) (nX 0 l))),0)
theorem ajI (l:List Int) (s:Int) (hs:I64 s) (hl:l.length≤1024) (hx:∀ x ∈ l,I64 x):∀ (d k i:Nat),i+d=l.length→d+60 < k →
    fM.l0 k s ((List.range i).map (fun (i:Nat)=>hold (jk (rd l (i:Int)*1073741824) s))) l (l.length:Int) (i:Int)=some ((List.range l.length).map (fun (i:Nat)=>hold (jk (rd l (i:Int)*1073741824) s)),0):=by
  intro d
  induction d with
  | zero =>
    intro k i h1 h2
    obtain ⟨k,rfl⟩:∃ m,k=m+1:=⟨k - 1,by omega⟩
    rw [fM.l0,if_neg (by omega),show i=l.length from by omega]
  | succ d ih =>
    intro k i h1 h2
    obtain ⟨k,rfl⟩:∃ m,k=m+1:=⟨k - 1,by omega⟩
    rw [fM.l0,if_pos (by omega),if_pos (by omega),if_pos (by omega),lI (by omega) (uU hx _) (by decide) hs]
    simp only [Option.bind_some]
    rw [if_pos (by simp;omega),aC (by omega) (by omega)]
    have:=ih k (i+1) (by omega) (by omega)
    rw [List.range_succ,List.map_append] at this
    exact this
theorem abo {k:Nat} {l:List Int} (hk:l.length+100≤k) (hl:l.length < 4611686018427387904) (hx:∀ x ∈ l,I64 x):fM.f k l=some (nO l):=by
  obtain ⟨k,rfl⟩:∃ m,k=m+1:=⟨k - 1,by omega⟩
  have hz:=ajG (s:=0) (by decide) hx
  unfold fM.f nO
  rw [adO (by omega) hl hx]
  simp only [Option.bind_some]
  by_cases h1:(l.length:Int) % 2=0
  · rw [if_pos h1,fM.j0,if_pos rfl,if_pos (Or.inl (by omega))]
  rw [if_neg h1]
  by_cases h2:(l.length:Int) > 1024
  · rw [if_pos h2,fM.j0,if_pos rfl,if_pos (Or.inr (Or.inl (by omega)))]
  rw [if_neg h2]
  by_cases h3:nX 0 l < 1
  · rw [if_pos h3,fM.j0,if_pos rfl,if_pos (Or.inr (Or.inr (Or.inl h3)))]
  rw [if_neg h3,fM.j0]
  by_cases h4:nX 0 l > 1048576
  · rw [if_pos (by simpa using h4),if_pos (Or.inr (Or.inr (Or.inr h4)))]
  rw [if_neg (by simpa using h4),if_neg (by omega)]
  exact ajI l (nX 0 l) (by constructor <;> omega) (by omega) hx l.length k 0 (by omega) (by omega)
theorem arJ {k:Nat} (hk:400≤k):jr.f k=some true :=
  ah9 (fun k=>jr.mono k) hk (show jr.f 400=some true by decide +kernel)
theorem wo (o:List Int) (b:Nat) (v:Int) (hb:b < o.length) (j:Nat):rd (o.set b v) (j:Int)=if j=b then v else rd o (j:Int):=by
  unfold rd
  rw [List.getD_eq_getElem?_getD,List.getD_eq_getElem?_getD,show ((j:Int)).toNat=j from by omega,List.getElem?_set]
  by_cases c:b=j
  · subst c;rw [if_pos rfl,if_pos rfl,if_pos hb];rfl
  · rw [if_neg c,if_neg (fun e=>c e.symm)]
theorem ajJ (r:List Int):∀ (i j:Nat),j < i→rd r (j:Int)≤rd r (best r i:Int)
  | 0,j,h=>by omega
  | i+1,j,h=>by
    rw [best]
    by_cases c:j=i
    · subst c;split <;> omega
    · have:=ajJ r i j (by omega)
      split <;> omega
theorem ajK (o:List Int) (b:Nat) (v:Int) (hb:b < o.length):∀ n,fE (fun j=>rd (o.set b v) (j:Int)) n=fE (fun j=>rd o (j:Int)) n+if b < n then v - rd o (b:Int) else 0
  | 0=>by simp [fE]
  | n+1=>by
    rw [fE,fE,ajK o b v hb n,wo _ _ _ hb]
    by_cases c:n=b
    · subst c;rw [if_pos rfl,if_neg (by omega),if_pos (by omega)];omega
    · rw [if_neg c]
      by_cases c2:b < n
      · rw [if_pos c2,if_pos (by omega)];omega
      · rw [if_neg c2,if_neg (by omega)];omega
def zC (x:Int):Int:=if x > 0 then x else 0
theorem ajL (o:List Int) (b:Nat) (v:Int) (hb:b < o.length):∀ n,fE (fun j=>zC (rd (o.set b v) (j:Int))) n=fE (fun j=>zC (rd o (j:Int))) n+if b < n then zC v - zC (rd o (b:Int)) else 0
  | 0=>by simp [fE]
  | n+1=>by
    rw [fE,fE,ajL o b v hb n,wo _ _ _ hb]
    by_cases c:n=b
    · subst c;rw [if_pos rfl,if_neg (by omega),if_pos (by omega)];omega
    · rw [if_neg c]
      by_cases c2:b < n
      · rw [if_pos c2,if_pos (by omega)];omega
      · rw [if_neg c2,if_neg (by omega)];omega
theorem aii (r:List Int):∀ (n:Nat),(∀ j:Nat,j < n→rd r (j:Int)≤0)→fE (fun j=>zC (rd r (j:Int))) n=0
  | 0,_=>rfl
  | n+1,h=>by
    rw [fE,aii r n (fun j hj=>h j (by omega))]
    have:=h n (by omega)
    unfold zC;rw [if_neg (by omega)];rfl
theorem al8 (n:Nat) (s:Int) (hs:1≤s) (h1:1≤n):∀ (t:Nat) (o r:List Int),o.length=n→r.length=n→(∀ j,j < n→rd r (j:Int)≤s - 1)→(1≤t→fE (fun j=>zC (rd r (j:Int))) n > ((t:Int) - 1)*(s - 1)) →
    ∃ S:Nat→Prop,(∀ j,j < n→(S j→rd (picks t o r) (j:Int)=rd o (j:Int)+1∧rd r (j:Int) > 0)∧(¬ S j→rd (picks t o r) (j:Int)=rd o (j:Int)))∧(∀ i k,i < n→k < n→¬ S i→S k→rd r (i:Int)≤rd r (k:Int)) ∧
      fE (fun j=>rd (picks t o r) (j:Int)) n=fE (fun j=>rd o (j:Int)) n+t:=by
  intro t
  induction t with
  | zero=>intro o r ho hr hb ht;exact ⟨fun _=>False,fun j hj=>⟨fun h=>h.elim,fun _=>rfl⟩,fun i k _ _ _ h=>h.elim,by rw [picks];omega⟩
  | succ t ih =>
    intro o r ho hr hb ht
    have hbb:=abf r n h1
    have hmax:=ajJ r n
    have htot:=ht (by omega)
    rw [show ((t+1:Nat):Int) - 1=(t:Int) from by omega] at htot
    have ht0:0≤(t:Int)*(s - 1):=Int.mul_nonneg (by omega) (by omega)
    have hpos:rd r (best r n:Int) > 0:=by
      apply Classical.byContradiction;intro q
      have:=aii r n (fun j hj=>by have:=hmax j hj;omega)
      omega
    obtain ⟨b,hbe⟩:∃ b,b=best r n:=⟨_,rfl⟩
    rw [← hbe] at hbb hmax hpos
    have hbv:=hb b hbb
    obtain ⟨S,S1,S2,S3⟩:=ih (o.set b (rd o (b:Int)+1)) (r.set b (-1)) (by rw [List.length_set];exact ho) (by rw [List.length_set];exact hr)
      (fun j hj=>by rw [wo _ _ _ (by omega)];have:=hb j hj;split <;> omega)
      (fun ht1=>by
        rw [ajL _ _ _ (by omega),if_pos hbb]
        have e1:zC (-1)=0:=by unfold zC;rw [if_neg (by omega)]
        have e2:zC (rd r (b:Int))=rd r (b:Int):=by unfold zC;rw [if_pos hpos]
        have e3:((t:Int) - 1)*(s - 1)=(t:Int)*(s - 1) - (s - 1):=by rw [Int.sub_mul,Int.one_mul]
        rw [e1,e2];omega)
    have hnb:¬ S b:=fun h=>by
      have:=((S1 b hbb).1 h).2
      rw [wo _ _ _ (by omega),if_pos rfl] at this;omega
    rw [picks,hr,← hbe]
    refine ⟨fun j=>j=b∨S j,fun j hj=>⟨fun h => ?_,fun h => ?_⟩,fun i k hi hk h1 h2 => ?_,?_⟩
    · rcases h with h|h
      · subst h
        refine ⟨?_,hpos⟩
        rw [(S1 j hbb).2 hnb,wo _ _ _ (by omega),if_pos rfl]
      · have hne:j≠b:=fun e=>hnb (e ▸ h)
        have:=(S1 j hj).1 h
        rw [wo _ _ _ (by omega),if_neg hne,wo _ _ _ (by omega),if_neg hne] at this
        exact this
    · have:=(S1 j hj).2 (fun q=>h (Or.inr q))
      rw [this,wo _ _ _ (by omega),if_neg (fun e=>h (Or.inl e))]
    · rcases h2 with h2|h2
      · subst h2;exact hmax i hi
      · have hne:k≠b:=fun e=>hnb (e ▸ h2)
        have:=S2 i k hi hk (fun q=>h1 (Or.inr q)) h2
        rw [wo _ _ _ (by omega),if_neg (fun e=>h1 (Or.inl e)),wo _ _ _ (by omega),if_neg hne] at this
        exact this
    · rw [S3,ajK _ _ _ (by omega),if_pos hbb];omega
theorem acW {f g:Nat→Int}:∀ n,(∀ j,j < n→f j=g j)→fE f n=fE g n
  | 0,_=>rfl
  | n+1,h=>by rw [fE,fE,acW n (fun j hj=>h j (by omega)),h n (by omega)]
theorem anR {l:List Int} {s:Int} (hs0:s=dI 0 l) (hG:Good l s):∃ S:Nat→Prop,(∀ j,j < l.length→(S j→rd (iQ l) (j:Int)=qV l s j+1∧mV l s j > 0)∧(¬ S j→rd (iQ l) (j:Int)=qV l s j))∧(∀ i k,i < l.length→k < l.length→¬ S i→S k→mV l s i≤mV l s k) ∧
    fE (fun j=>rd (iQ l) (j:Int)) l.length=16384:=by
  have hlb:=hG.lb
  have hsb:=hG.sb
  have hpd:=afz l s (by omega) l.length
  obtain ⟨t,ht⟩:∃ t:Nat,16384 - fE (qV l s) l.length=(t:Int):=⟨(16384 - fE (qV l s) l.length).toNat,by omega⟩
  have hr:∀ j,j < l.length→rd ((List.range l.length).map fun j=>mV l s j) (j:Int)=mV l s j:=fun j hj=>abp _ hj
  have ho:∀ j,j < l.length→rd ((List.range l.length).map fun j=>qV l s j) (j:Int)=qV l s j:=fun j hj=>abp _ hj
  have hm:∀ j,0≤mV l s j∧mV l s j≤s - 1:=fun j=>by
    have r0:=Int.emod_nonneg (rd l (j:Int)*16384) (show s≠0 by omega)
    have r1:=Int.emod_lt_of_pos (rd l (j:Int)*16384) (show 0 < s by omega)
    unfold mV;omega
  have htot:fE (fun j=>zC (rd ((List.range l.length).map fun j=>mV l s j) (j:Int))) l.length=fE (mV l s) l.length :=
    acW _ (fun j hj=>by rw [hr j hj];have:=hm j;unfold zC;split <;> omega)
  obtain ⟨S,S1,S2,S3⟩:=al8 l.length s (by omega) hG.n0 t ((List.range l.length).map fun j=>qV l s j) ((List.range l.length).map fun j=>mV l s j) (by simp) (by simp) (fun j hj=>by rw [hr j hj];exact (hm j).2)
    (fun h1=>by
      rw [htot]
      obtain ⟨p1,p2,p3⟩:=hpd
      rw [← hG.sx] at p1
      have e1:(16384 - fE (qV l s) l.length)*s=16384*s - fE (qV l s) l.length*s:=Int.sub_mul _ _ _
      rw [ht] at e1
      have e2:((t:Int) - 1)*(s - 1)=(t:Int)*s - (t:Int) - s+1:=by rw [Int.sub_mul,Int.mul_sub,Int.mul_one,Int.one_mul];omega
      omega)
  have e:iQ l=picks t ((List.range l.length).map fun j=>qV l s j) ((List.range l.length).map fun j=>mV l s j):=by
    unfold iQ;rw [← hs0,ht];rfl
  refine ⟨S,fun j hj => ?_,fun i k hi hk h1 h2 => ?_,?_⟩
  · have:=S1 j hj
    rw [ho j hj,hr j hj,← e] at this;exact this
  · have:=S2 i k hi hk h1 h2
    rw [hr i hi,hr k hk] at this;exact this
  · rw [← e] at S3
    rw [S3,acW (g:=qV l s) _ (fun j hj=>ho j hj)];omega
theorem wu (l:List Int):(iQ l).length=l.length:=by
  have:∀ (t:Nat) (o r:List Int),(picks t o r).length=o.length:=by
    intro t
    induction t with
    | zero=>intro o r;rfl
    | succ t ih=>intro o r;rw [picks,ih,List.length_set]
  unfold iQ;rw [this];simp
theorem zF {l:List Int} (hx:∀ x ∈ l,I64 x) (hk:jy l=0):l.length≤1048576∧∀ x ∈ iQ l,-134217728≤x∧x≤134217729:=by
  have hG:=xA (fun i=>uU hx _) hk
  obtain ⟨S,S1,S2,S3⟩:=anR rfl hG
  refine ⟨hG.n1,fun x hm => ?_⟩
  obtain ⟨j,hj,rfl⟩:=List.mem_iff_getElem.1 hm
  have cj:j < l.length:=by rw [← wu];exact hj
  have hq:=hG.qb j cj
  have e:(iQ l)[j]=rd (iQ l) (j:Int):=by unfold rd;simp [hj]
  rw [e]
  by_cases cs:S j
  · rw [((S1 j cj).1 cs).1];omega
  · rw [(S1 j cj).2 cs];omega
theorem acX {l:List Int} (hx:∀ x ∈ l,I64 x) (hk:jy l=0):∀ x ∈ iQ l,I64 x:=fun x hm=>by
  have:=(zF hx hk).2 x hm
  unfold I64;omega
theorem aat {r:Int} (h0:0≤r) (h1:r≤1099511627776):∀ n:Nat,n≤20→0≤jm r n∧jm r n≤1099511627776
  | 0,_=>by unfold jm;omega
  | n+1,hn=>by
    obtain ⟨a,b⟩:=aat h0 h1 n (by omega)
    have hd:1099511627776≤((n:Int)+1)*1099511627776:=by omega
    have hp:0≤jm r n*r:=Int.mul_nonneg a h0
    have hq:jm r n*r≤jm r n*(((n:Int)+1)*1099511627776):=Int.mul_le_mul_of_nonneg_left (by omega) a
    have hk:0≤jk (jm r n*r) (((n:Int)+1)*1099511627776)∧jk (jm r n*r) (((n:Int)+1)*1099511627776)≤jm r n:=by
      generalize ((n:Int)+1)*1099511627776=d at hd hq
      generalize jm r n=T at *
      generalize T*r=P at *
      unfold jk
      rw [if_pos (by omega)]
      refine ⟨Int.ediv_nonneg (by omega) (by omega),?_⟩
      have:(2*P+d) / (2*d) < T+1:=by
        rw [Int.ediv_lt_iff_lt_mul (by omega)]
        have:(T+1)*(2*d)=2*(T*d)+2*d:=by rw [Int.add_mul,Int.one_mul,← Int.mul_assoc,Int.mul_comm T 2,Int.mul_assoc]
        omega
      omega
    rw [jm,tC (by omega) (by omega)];omega
theorem arK {r:Int} (h0:0≤r) (h1:r≤1099511627776) (n:Nat) (hn:n≤19):jm r (n+1)≤jm r n:=by
  obtain ⟨a,b⟩:=aat h0 h1 n (by omega)
  have hd:1099511627776≤((n:Int)+1)*1099511627776:=by omega
  have hp:0≤jm r n*r:=Int.mul_nonneg a h0
  have hq:jm r n*r≤jm r n*(((n:Int)+1)*1099511627776):=Int.mul_le_mul_of_nonneg_left (by omega) a
  have hk:0≤jk (jm r n*r) (((n:Int)+1)*1099511627776)∧jk (jm r n*r) (((n:Int)+1)*1099511627776)≤jm r n:=by
    generalize ((n:Int)+1)*1099511627776=d at hd hq
    generalize jm r n=T at *
    generalize T*r=P at *
    unfold jk
    rw [if_pos (by omega)]
    refine ⟨Int.ediv_nonneg (by omega) (by omega),?_⟩
    have:(2*P+d) / (2*d) < T+1:=by
      rw [Int.ediv_lt_iff_lt_mul (by omega)]
      have:(T+1)*(2*d)=2*(T*d)+2*d:=by rw [Int.add_mul,Int.one_mul,← Int.mul_assoc,Int.mul_comm T 2,Int.mul_assoc]
      omega
    omega
  rw [jm,tC (by omega) (by omega)];exact hk.2
theorem ajM {r:Int} (h0:0≤r) (h1:r≤1099511627776):∀ n:Nat,n≤18→if n % 2=0 then jm r n≤oM r n∧oM r n≤1099511627776 else 0≤oM r n∧oM r n+jm r n≤1099511627776
  | 0,_=>by rw [if_pos (by decide)];unfold jm oM;omega
  | n+1,hn=>by
    have ih:=ajM h0 h1 n (by omega)
    have a:=aat h0 h1 n (by omega)
    have b:=aat h0 h1 (n+1) (by omega)
    have c:=arK h0 h1 n (by omega)
    by_cases e:n % 2=0
    · rw [if_pos e] at ih
      rw [if_neg (by omega),oM,if_pos e,aC (by omega) (by omega)];omega
    · rw [if_neg e] at ih
      rw [if_pos (by omega),oM,if_neg e,aC (by omega) (by omega)];omega
theorem anS {x n:Int} (h:0≤x):0≤sh x n∧sh x n≤x:=by
  unfold sh
  split
  · omega
  · have hd:(1:Int) < 2 ^ n.toNat:=by
      have:=qZ (m:=1) (n:=n.toNat) (by omega)
      omega
    generalize (2:Int) ^ n.toNat=d at hd
    unfold jk
    rw [if_pos (by omega)]
    refine ⟨Int.ediv_nonneg (by omega) (by omega),?_⟩
    have:(2*x+d) / (2*d) < x+1:=by
      rw [Int.ediv_lt_iff_lt_mul (by omega)]
      have e:(x+1)*(2*d)=2*(x*d)+2*d:=by rw [Int.add_mul,Int.one_mul,← Int.mul_assoc,Int.mul_comm x 2,Int.mul_assoc]
      have g:x*1≤x*d:=Int.mul_le_mul_of_nonneg_left (by omega) h
      omega
    omega
def gV (s d:Int):Int:=sh (abn (yK d s)) 10
theorem asr (s d:Int):0≤gV s d∧gV s d≤1099511627776:=by
  have hr:0≤mx 0 (yK d s) % 762123384786∧mx 0 (yK d s) % 762123384786≤1099511627776:=by omega
  have hs:=ajM hr.1 hr.2 16 (by omega)
  have ht:=aat hr.1 hr.2 16 (by omega)
  rw [if_pos (by decide)] at hs
  have h1:=anS (x:=oM (mx 0 (yK d s) % 762123384786) 16) (n:=mx 0 (yK d s) / 762123384786) (by omega)
  have h2:=anS (x:=abn (yK d s)) (n:=10) (by unfold abn;exact h1.1)
  unfold gV
  unfold abn at h2 ⊢
  omega
def ags (s:Int):List Int:=(List.range (2*((3*s+65535) / 65536).toNat+1)).map fun (t:Nat)=>gV s ((t:Int) - (3*s+65535) / 65536)
def xB (s:Int):List Int × Int:=if s < 1∨s > 4194304 then ([],7) else (ags s,0)
theorem aoH {s:Int} (hs:1≤s∧s≤4194304) (r:Nat) (hr:(r:Int)=(3*s+65535) / 65536):∀ (d k i:Nat),i+d=2*r+1→d+200 < k →
    bn.l0 k s (r:Int) ((List.range i).map fun (t:Nat)=>gV s ((t:Int) - (r:Int))) ((i:Int) - (r:Int))=some ((List.range (2*r+1)).map fun (t:Nat)=>gV s ((t:Int) - (r:Int)),0):=by
  intro d
  induction d with
  | zero =>
    intro k i h1 h2
    obtain ⟨k,rfl⟩:∃ m,k=m+1:=⟨k - 1,by omega⟩
    rw [bn.l0,if_neg (by omega),show i=2*r+1 from by omega]
  | succ d ih =>
    intro k i h1 h2
    obtain ⟨k,rfl⟩:∃ m,k=m+1:=⟨k - 1,by omega⟩
    rw [bn.l0,if_pos (by omega),aiE (by omega)]
    simp only [Option.bind_some]
    rw [if_pos (by simp;omega),aC (by omega) (by omega)]
    have:=ih k (i+1) (by omega) (by omega)
    rw [List.range_succ,List.map_append,show ((i+1:Nat):Int) - (r:Int)=(i:Int) - (r:Int)+1 from by omega] at this
    exact this
theorem aoI {k:Nat} (hk:1000≤k) {s:Int} (hs:I64 s):bn.f k s=some (xB s):=by
  obtain ⟨k,rfl⟩:∃ m,k=m+1:=⟨k - 1,by omega⟩
  unfold bn.f xB
  by_cases h1:s < 1
  · rw [if_pos h1,bn.j0,if_pos rfl,if_pos (Or.inl h1)]
  rw [if_neg h1,bn.j0]
  by_cases h2:s > 4194304
  · rw [if_pos (by simpa using h2),if_pos (Or.inr h2)]
  rw [if_neg (by simpa using h2),if_neg (by omega)]
  have e:(wrap64 (wrap64 (wrap64 (3*s)+65536) - 1)) / 65536=(3*s+65535) / 65536:=by
    rw [aC (show -9223372036854775808≤3*s from by omega) (by omega),aC (show -9223372036854775808≤3*s+65536 from by omega) (by omega),aC (show -9223372036854775808≤3*s+65536 - 1 from by omega) (by omega),show 3*s+65536 - 1=3*s+65535 from by omega]
  obtain ⟨r,hr⟩:∃ r:Nat,(r:Int)=(3*s+65535) / 65536:=⟨((3*s+65535) / 65536).toNat,by omega⟩
  rw [e,← hr,aC (by omega) (by omega)]
  have:=aoH (s:=s) (by omega) r hr (2*r+1) k 0 (by omega) (by omega)
  rw [show ((0:Nat):Int) - (r:Int) = -(r:Int) from by omega] at this
  unfold ags
  rw [← hr,show ((r:Int)).toNat=r from by omega]
  exact this
def aaj (r:Int):List Int × Int:=if r < 0∨r > 511 then ([],7) else nO (List.replicate (2*r+1).toNat 1)
theorem ajN (n:Nat):∀ x ∈ List.replicate n (1:Int),I64 x:=by
  intro x hx;rw [List.eq_of_mem_replicate hx];decide
theorem arL {k:Nat} (hk:1400≤k) {r:Int} (hr:I64 r):lq.f k r=some (aaj r):=by
  obtain ⟨k,rfl⟩:∃ m,k=m+1:=⟨k - 1,by omega⟩
  unfold lq.f aaj
  by_cases h1:r < 0
  · rw [if_pos h1,lq.j0,if_pos rfl,if_pos (Or.inl h1)]
  rw [if_neg h1,lq.j0]
  by_cases h2:r > 511
  · rw [if_pos (by simpa using h2),if_pos (Or.inr h2)]
  rw [if_neg (by simpa using h2),if_neg (by omega),aC (show -9223372036854775808≤2*r from by omega) (by omega),aC (show -9223372036854775808≤2*r+1 from by omega) (by omega)]
  have e:iZ.f [1] (2*r+1)=some (List.replicate (2*r+1).toNat 1):=by
    unfold iZ.f al9
    rw [if_pos ⟨rfl,by omega,by omega⟩];rfl
  rw [e]
  simp only [Option.bind_some]
  rw [abo (by simp;omega) (by simp;omega) (ajN _)];rfl
structure Tab where
  n:Int
  lines:List S71
  most:Int
  size:Int
def Tab.add (t:Tab) (first:Int) (l:List Int):Tab:=⟨t.n,t.lines ++ [(⟨first,l⟩:S71)],mx t.most (l.length:Int),mx t.size (nX 0 l)⟩
def qQ (w:World) (base b:Nat) (t:Tab):Prop:=base≤b∧∃ v,w.heap[b]? = some (.cells #[.int .i64 t.n,v,.int .i64 t.most,.int .i64 t.size] 122 (0,0))∧k71.R 71 w base (fun k=>k≠b) v t.lines
def wB (w:World) (b:Nat) (t:Tab):Prop:=∃ A c,w.heap[b]? = some (.cells #[.int .i64 t.n,.slice A t.lines.length c,.int .i64 t.most,.int .i64 t.size] 122 (0,0))∧t.lines.length≤c∧Kd.C k71 w A t.lines.length t.lines
theorem wB.below {w w':World} {b:Nat} {t:Tab} (h:wB w b t) (hb:Below w.heap.size w w'):wB w' b t:=by
  obtain ⟨A,c,h1,h2,h3⟩:=h
  exact ⟨A,c,(hb.block b (dJ h1)).trans h1,h2,Kd.bY h3 hb⟩
theorem qQ.below {w w':World} {base b:Nat} {t:Tab} (h:qQ w base b t) (hb:Below w.heap.size w w'):qQ w' base b t:=by
  obtain ⟨h0,v,h1,h2⟩:=h
  exact ⟨h0,v,(hb.block b (dJ h1)).trans h1,Kd.jQ h2 hb⟩
theorem qQ.lower {w:World} {base base' b:Nat} {t:Tab} (h:qQ w base b t) (hl:base'≤base):qQ w base' b t:=by
  obtain ⟨h0,v,h1,h2⟩:=h
  exact ⟨Nat.le_trans hl h0,v,h1,Kd.fZ h2 hl⟩
theorem qQ.far {w:World} {base b:Nat} {t:Tab} (h:qQ w base b t) {p:Addr} (hp:p.block < base) (u:Value):qQ (w.setCell p u) base b t:=by
  obtain ⟨h0,v,h1,h2⟩:=h
  refine ⟨h0,v,iI h1 (by omega) u,?_⟩
  have h3:=Kd.eF (ok':=fun k=>k≠b∧base≤k) (Kd.nC h2) (fun k hk=>⟨hk.1,hk.2.1⟩)
  exact Kd.eF (Kd.aa1 h3 (fun k hk=>by have:=hk.2;omega) u) (fun k hk=>hk.1)
theorem qQ.reads {w:World} {base b:Nat} {t:Tab} (h:qQ w base b t):wB w b t:=by
  obtain ⟨h0,v,h1,h2⟩:=h
  obtain ⟨A,c,rfl,h3,h4⟩:=Kd.xY h2
  exact ⟨A,c,h1,h3,h4⟩
theorem atz:(Tryz.prog.info? 71).map (fun i=>(i.zero,i.size,i.bytes))=some (some (.agg #[(.int .i64 0),(.slice none 0 0)]),2,32):=by kernel_rfl
attribute [local go_sem] dS dU fA fB
set_option maxHeartbeats 8000000 in
set_option maxRecDepth 100000 in
theorem aij (b:Nat) (first:Int) (l:List Int) (vl:Value) (t:Tab) (w0 w:World) (HB:Below w0.heap.size w0 w) (hbase:w0.heap.size≤w.heap.size) (ht:qQ w w0.heap.size b t) (hl:Kd.R (Kd.int .i64) 2 w w0.heap.size (fun k=>k≠b) vl l) (hx:∀ x ∈ l,I64 x) (h1:t.lines.length≤70000) (h2:l.length≤1048576) :
    Calls Tryz.prog 112 #[.pointer (some ⟨b,0,none⟩),.int .i64 first,vl] w fun e w'=>e = .returned (.tuple #[])∧qQ w' w0.heap.size b (t.add first l)∧Below w0.heap.size w0 w'∧w0.heap.size≤w'.heap.size∧Kd.R (Kd.int .i64) 2 w' w0.heap.size (fun k=>k≠b) vl l:=by
  obtain ⟨hb,v,c0,r0⟩:=ht
  have hsz:kC.f (l.length+3) l=some (nX 0 l):=adO (Nat.le_refl _) (by omega) hx
  obtain ⟨S,hS⟩:∃ S,S=nX 0 l:=⟨_,rfl⟩
  rw [← hS] at hsz
  obtain ⟨Al,cl,rfl⟩:=Kd.gB hl
  have c1:w.cell? ⟨b,1,none⟩=some v:=(au c0 1).trans rfl
  have f1:=aN c0 1
  have HC0:=aj.mk c0
  have HR0:=aj.mk r0
  have HL:=aj.mk hl
  have HBB:=aj.mk hb
  have HB0:=aj.mk HB
  have HBS:=aj.mk hbase
  have HSZ:=aj.mk hsz
  have HX:=aj.mk hx
  have HSS:=aj.mk hS
  clear HB c0 r0 hl hsz hx hS hbase
  have mixed:Tryz.prog.follows .mixedOrders=true:=by kernel_rfl
  go_enter Tryz.func112,Tryz.ntmps112
  go_upto_region 1 with (at_builtin;refine Kd.kZ k71 (w0:=w0) w0.heap.size rfl (.tmp 10) (.tmp 14) 120 71 (.agg #[(.int .i64 0),(.slice none 0 0)]) 32 rfl Tryz.underlying120 atz rfl (by decide) (by omega) v t.lines (⟨first,l⟩:S71) [.int .i64 first,.slice Al l.length cl] (fun k=>k≠b) (fun k=>k≠b∧some k≠v.ownBlock) rfl rfl ?aP (fun k hk=>hk) ?aF HR0.out HB0.out HBS.out ?aL ?_;(case aP=>exact arx _ _ _ (⟨first,l⟩:S71) (Kd.ajn HL.out HR0.out (by decide)));(case aF=>exact (fun k hk=>by have:=dJ HC0.out;omega));(case aL=>omega);intro v1 w1 ho hb1 hg hat;obtain ⟨ys,hys⟩:∃ ys,ys=t.lines ++ [(⟨first,l⟩:S71)]:=⟨_,rfl⟩;rw [← hys] at ho;have HY:=aj.mk hys;clear hys;obtain ⟨A3,c3,rfl⟩:=Kd.gB ho;have hc1:=(hg.block b (dJ HC0.out) (fun e=>HR0.out.1 b e.symm rfl)).trans HC0.out;have f2:=aN hc1 1;have d1:w1.cell? ⟨b,1,none⟩=some v:=(au hc1 1).trans rfl;have HC1:=aj.mk hc1;have HO1:=aj.mk ho;have HB1:=aj.mk hb1;have HL1:=aj.mk (Kd.anC HL.out HR0.out (by decide) hg);clear ho hb1 hg hat hc1)
  have hc2:(w1.setCell ⟨b,1,none⟩ (.slice A3 ys.length c3)).heap[b]? = some (.cells #[.int .i64 t.n,.slice A3 ys.length c3,.int .i64 t.most,.int .i64 t.size] 122 (0,0)):=by simpa using bP HC1.out 1 (.slice A3 ys.length c3)
  have HO2:=aj.mk (Kd.aa1 (p:=⟨b,1,none⟩) HO1.out (fun _ hk=>hk) (.slice A3 ys.length c3))
  have HL2:=aj.mk (Kd.aa1 (p:=⟨b,1,none⟩) HL1.out (fun _ hk=>hk) (.slice A3 ys.length c3))
  have HB2:=aj.mk (HB1.out.setCell (p:=⟨b,1,none⟩) HBB.out (.slice A3 ys.length c3))
  generalize w1.setCell ⟨b,1,none⟩ (.slice A3 ys.length c3)=w2 at hc2 HO2 HL2 HB2 ⊢
  have d2:w2.cell? ⟨b,2,none⟩=some (.int .i64 t.most):=(au hc2 2).trans rfl
  have e2:=aN hc2 2
  have HC2:=aj.mk hc2
  clear c1 f1 f2 d1 hc2 HO1 HL1 HB1 HC1
  go_upto_region 2 with fail
  obtain ⟨M2,hM2⟩:∃ x,x=(if t.most < (l.length:Int) then (l.length:Int) else t.most):=⟨_,rfl⟩
  rw [← hM2]
  have HM2:=aj.mk hM2
  clear hM2
  have hc3:(w2.setCell ⟨b,2,none⟩ (.int .i64 M2)).heap[b]? = some (.cells #[.int .i64 t.n,.slice A3 ys.length c3,.int .i64 M2,.int .i64 t.size] 122 (0,0)):=by simpa using bP HC2.out 2 (.int .i64 M2)
  have HO3:=aj.mk (Kd.aa1 (p:=⟨b,2,none⟩) HO2.out (fun _ hk=>hk) (.int .i64 M2))
  have HL3:=aj.mk (Kd.aa1 (p:=⟨b,2,none⟩) HL2.out (fun _ hk=>hk) (.int .i64 M2))
  have HB3:=aj.mk (HB2.out.setCell (p:=⟨b,2,none⟩) HBB.out (.int .i64 M2))
  generalize w2.setCell ⟨b,2,none⟩ (.int .i64 M2)=w3 at hc3 HO3 HL3 HB3 ⊢
  have d3:w3.cell? ⟨b,3,none⟩=some (.int .i64 t.size):=(au hc3 3).trans rfl
  have e3:=aN hc3 3
  have HC3:=aj.mk hc3
  have HSC:=aj.mk (fun w' (hb:Below w3.heap.size w3 w')=>kC.calls (l.length+3) Al cl l S w' (Kd.bY (Kd.dM HL3.out).2.2 hb) (Kd.dM HL3.out).2.1 HSZ.out)
  clear d2 e2 hc3 HO2 HL2 HB2 HC2
  go_region_law (first|(go_simp;go_at_call 138;(with_reducible refine (HSC.out _ (by repeat (first|(with_reducible first|exact Below.refl _ _|apply aI|apply bg)|exact Below.refl _ _))).mono ?_);rintro e w4 ⟨rfl,hb4⟩;have hc4:=(hb4.block b (dJ HC3.out)).trans HC3.out;have d4:w4.cell? ⟨b,3,none⟩=some (.int .i64 t.size):=(au hc4 3).trans rfl;have e4:=aN hc4 3;have HC4:=aj.mk hc4;have HB4:=aj.mk hb4;clear hc4 hb4))
  all_goals (
    obtain ⟨M3,hM3⟩:∃ x,x=(if t.size < S then S else t.size):=⟨_,rfl⟩
    first|rw [← hM3]|skip
    have HM3:=aj.mk hM3
    clear hM3
    have hc5:(w4.setCell ⟨b,3,none⟩ (.int .i64 M3)).heap[b]? = some (.cells #[.int .i64 t.n,.slice A3 ys.length c3,.int .i64 M2,.int .i64 M3] 122 (0,0)):=by simpa using bP HC4.out 3 (.int .i64 M3)
    have HC5:=aj.mk hc5
    have HO5:=aj.mk (Kd.aa1 (p:=⟨b,3,none⟩) (Kd.jQ (Kd.aW HO3.out) HB4.out) (fun _ hk=>hk) (.int .i64 M3))
    have HL5:=aj.mk (Kd.aa1 (p:=⟨b,3,none⟩) (Kd.jQ (Kd.aW HL3.out) HB4.out) (fun _ hk=>hk) (.int .i64 M3))
    have HB5:=aj.mk ((ak (bg HB3.out) HB4.out).setCell (p:=⟨b,3,none⟩) HBB.out (.int .i64 M3))
    generalize w4.setCell ⟨b,3,none⟩ (.int .i64 M3)=w5 at hc5 HC5 HO5 HL5 HB5 ⊢
    clear hc5
    go_end0
    refine ⟨rfl,⟨HBB.out,.slice A3 ys.length c3,?_,?_⟩,HB5.out,?_,HL5.out⟩
    · rw [HC5.out,HM2.out,HM3.out,HSS.out];rfl
    · have:=HO5.out;rw [HY.out] at this ⊢;exact this
    · have:=(dJ HC5.out);have:=HBB.out;omega)
def asu (t:Tab) (c:Int) (w:World) (e:Ending) (w':World):Prop:=Below w.heap.size w w'∧if c=0 then ∃ b,e = .returned (.tuple #[.pointer (some ⟨b,0,none⟩),.int .i64 0])∧qQ w' w.heap.size b t else e = .returned (.tuple #[.pointer none,.int .i64 c])
def okR (f n m:Int):Prop:=0≤f∧f < 3∧1≤n∧n≤65536∧1≤m∧m≤65536
def gq (f n m:Int):Nat→Tab
  | 0=>⟨n,[],0,0⟩
  | i+1=>(gq f n m i).add (fU f n m i) (iQ (vF f n m i))
def gX (f n m:Int):Nat→Nat→Int
  | _,0=>0
  | i,d+1=>if jy (vF f n m i)=0 then gX f n m (i+1) d else jy (vF f n m i)
theorem rD (f n m:Int):∀ i,(gq f n m i).lines.length=i
  | 0=>rfl
  | i+1=>by simp [gq,Tab.add,rD f n m i]
theorem aaT (n:Int):lJ.f n=some (decide (1≤n∧n≤65536)):=by
  unfold lJ.f
  by_cases h:n≥1
  · rw [if_pos h];congr 1;by_cases c:n≤65536
    · rw [decide_eq_true c,decide_eq_true ⟨h,c⟩]
    · rw [decide_eq_false c,decide_eq_false (fun q=>c q.2)]
  · rw [if_neg h];congr 1;rw [decide_eq_false (fun q=>h q.1)]
theorem abq (f n m i:Int):∀ x ∈ vF f n m i,I64 x:=by
  intro x hx
  obtain ⟨t,_,rfl⟩:=List.mem_map.1 hx
  exact avQ _ _ _ _ _
theorem alh {l:List Int} (hx:∀ x ∈ l,I64 x):iO.f l=some (if jy l=0 then (iQ l,0) else ([],jy l)):=by
  unfold iO.f ama
  rw [if_pos hx]
set_option maxHeartbeats 8000000 in
set_option maxRecDepth 100000 in
theorem qI (f n:Int) (M:Nat) (w:World) (hG:GL w) (h:okR f n M) :
    Calls Tryz.prog 90 #[.int .i64 f,.int .i64 n,.int .i64 M] w (asu (gq f n M M) (gX f n M 0 M) w):=by
  obtain ⟨h1,h2,h3,h4,h5,h6⟩:=h
  have hs1:lJ.f n=some true:=by rw [aaT,decide_eq_true ⟨h3,h4⟩]
  have hs2:lJ.f M=some true:=by rw [aaT,decide_eq_true ⟨h5,h6⟩]
  obtain ⟨nm,hn1,hn3⟩:∃ s,su.f f=some s∧s.toList.isEmpty=false:=by
    have:f=0∨f=1∨f=2:=by omega
    rcases this with rfl|rfl|rfl
    · exact ⟨_,rfl,by kernel_rfl⟩
    · exact ⟨_,rfl,by kernel_rfl⟩
    · exact ⟨_,rfl,by kernel_rfl⟩
  have hn2:¬ nm.toList=[]:=fun h=>by rw [h] at hn3;exact absurd hn3 (by decide)
  have hx:=abq f n M
  have HG:=aj.mk hG
  have HX:=aj.mk hx
  have HN:=aj.mk (And.intro h1 (And.intro h2 (And.intro h3 (And.intro h4 (And.intro h5 h6)))))
  clear hG hx h1 h2 h3 h4
  have mixed:Tryz.prog.follows .mixedOrders=true:=by kernel_rfl
  go_enter Tryz.func90,Tryz.ntmps90
  go_upto_region 4 with (first|(go_at_call 104;(with_reducible refine (su.calls f nm _ HG.out hn1).mono ?_);rintro e w' ⟨rfl,⟨nd,rfl⟩⟩)|(go_at_call 111;(with_reducible refine (lJ.calls n true _ hs1).mono ?_);rintro e w' ⟨rfl,⟨nd1,rfl⟩⟩)|(go_at_call 111;(with_reducible refine (lJ.calls M true _ hs2).mono ?_);rintro e w' ⟨rfl,⟨nd2,rfl⟩⟩))
  clear hn1 hn2 hn3 hs1 hs2
  go_wp2
  obtain ⟨b,hb⟩:∃ b,b=w.heap.size:=⟨_,rfl⟩
  rw [← hb]
  have HBQ:=aj.mk hb
  clear hb
  go_loopg [31] M (fun kx s31 wr=>∃ (i:Nat),s31 = .int .i64 i∧i≤M∧M - i≤kx∧aj (qQ wr w.heap.size b (gq f n M i))∧aj (Below w.heap.size w wr)∧aj (gX f n M i (M - i)=gX f n M 0 M))
  case atStart =>
    refine ⟨0,rfl,by omega,by omega,⟨by rw [HBQ.out];exact Nat.le_refl _,.slice none 0 0,by rw [HBQ.out];exact heap_alloc_new _ _,Kd.kF _ _ _ _ _⟩,⟨?_⟩,⟨rfl⟩⟩
    · repeat (first|(with_reducible first|exact Below.refl _ _|apply aT|apply aI|apply bg)|exact Below.refl _ _)
  case round =>
    obtain ⟨i,rfl,i1,i2,HT,HB,HC⟩:=hrel
    have wi:IntKind.i64.wrap ((i:Int)+1)=(i:Int)+1:=by rw [kU];exact aC (by omega) (by omega)
    by_cases hlt:(i:Int) < (M:Int)
    · have hm:tH f n M i:=⟨HN.out.1,HN.out.2.1,HN.out.2.2.1,HN.out.2.2.2.1,by omega,by omega,by omega,hlt⟩
      have hrow:=fun w' hG'=>iw.calls ((kY f n M i - fU f n M i).toNat+401) f n M i _ _ w' hG' (ak0 hm (Nat.le_refl _))
      have happ:=alh (HX.out i)
      obtain ⟨lo,hlo⟩:∃ v,v=fU f n M i:=⟨_,rfl⟩
      obtain ⟨row,hrw⟩:∃ v,v=vF f n M i:=⟨_,rfl⟩
      have hstep:M - i=(M - (i+1))+1:=by omega
      have HCS:=HC.out
      rw [hstep,gX] at HCS
      rw [← hrw] at happ HCS hrow
      rw [← hlo] at hrow
      have hrx:∀ x ∈ row,I64 x:=by rw [hrw];exact HX.out i
      have hadd:=fun (hc:jy row=0) vl w' HB hb ht hl=>aij b lo (iQ row) vl (gq f n M i) w w' HB hb ht hl (acX hrx hc) (by rw [rD];omega) (by rw [wu];exact (zF hrx hc).1)
      have HHC:=aj.mk HCS
      have HLO:=aj.mk hlo
      have HRW:=aj.mk hrw
      have asv:=aj.mk hrow
      have aoJ:=aj.mk hadd
      clear HC HCS hlo hrw hrow hstep hm hadd hrx
      by_cases hc:jy row=0
      · rw [if_pos hc] at happ
        go_wp2_with (first
          | (go_at_call 107;refine (asv.out _ (HG.out.below (by repeat (first|(with_reducible first|exact HB.out|apply aI|apply bg)|exact HB.out)))).mono ?_;rintro e w1 ⟨v1,rfl,hr1,hb1⟩;obtain ⟨A1,c1,rfl,l1,g1⟩:=Kd.xY hr1;have HB1:=aj.mk hb1;have G1:=aj.mk g1;clear hr1 hb1 g1)
          | (go_at_call 109;refine (iO.calls A1 c1 row (iQ row) 0 w1 G1.out l1 happ).mono ?_;rintro e w2 ⟨v2,rfl,hr2,hb2⟩;have HR2:=aj.mk hr2;have HB2:=aj.mk hb2;clear hr2 hb2)
          | (go_at_call 112
             have hT1:=HT.out.below HB1.out
             have asw:=(ak HB.out HB1.out).size
             refine (aoJ.out hc v2 w2 (ak (ak HB.out HB1.out) HB2.out) (ak (ak HB.out HB1.out) HB2.out).size (hT1.below HB2.out) (Kd.eF (Kd.fZ (Kd.asb HR2.out hT1.2.choose_spec.1) asw) (fun k hk=>hk.2))).mono ?_
             rintro e w3 ⟨rfl,ht3,hb3,hs3,hr3⟩
             have HT3:=aj.mk ht3
             have HB3:=aj.mk hb3
             clear hT1 asw ht3 hb3 hs3 hr3))
        go_roundg (M - (i+1))
        case measure=>omega
        case rel =>
          refine ⟨i+1,by simp,by omega,Nat.le_refl _,⟨?_⟩,HB3,⟨?_⟩⟩
          · rw [gq,← HLO.out,← HRW.out];exact HT3.out
          · rw [← HHC.out,if_pos hc]
      · rw [if_neg hc] at happ
        obtain ⟨cv,hcv⟩:∃ v,v=jy row:=⟨_,rfl⟩
        have HF:aj (gX f n M 0 M=cv):=⟨by rw [← HHC.out,if_neg hc,hcv]⟩
        rw [← hcv] at happ hc
        have bk:(cv == 0)=false:=by simpa using hc
        have bk2:(cv != 0)=true:=by simpa using hc
        clear hcv
        go_wp2_with (first
          | (go_at_call 107;refine (asv.out _ (HG.out.below (by repeat (first|(with_reducible first|exact HB.out|apply aI|apply bg)|exact HB.out)))).mono ?_;rintro e w1 ⟨v1,rfl,hr1,hb1⟩;obtain ⟨A1,c1,rfl,l1,g1⟩:=Kd.xY hr1;have HB1:=aj.mk hb1;have G1:=aj.mk g1;clear hr1 hb1 g1)
          | (go_at_call 109;refine (iO.calls A1 c1 row [] cv w1 G1.out l1 happ).mono ?_;rintro e w2 ⟨v2,rfl,hr2,hb2⟩;have HB2:=aj.mk hb2;clear hr2 hb2))
        go_ret2
        refine ⟨ak (ak HB.out HB1.out) HB2.out,?_⟩
        rw [if_neg (by rw [HF.out];exact hc),HF.out]
        rfl
    · have him:i=M:=by omega
      subst him
      have HCS:=HC.out
      rw [Nat.sub_self,gX] at HCS
      have avR:=aj.mk HCS
      clear HC HCS
      go_wp2
      go_ret2
      refine ⟨HB.out,?_⟩
      rw [if_pos avR.out.symm]
      exact ⟨b,rfl,HT.out⟩
def iL (n h:Int) (l:List Int):Nat→Tab
  | 0=>⟨n,[],0,0⟩
  | i+1=>(iL n h l i).add ((i:Int) - h) l
def iT (l:List Int) (n:Int):Int:=if 1≤n∧n≤65536 then if l.length % 2=0 then 7 else jy l else 6
theorem rE (n h:Int) (l:List Int):∀ i,(iL n h l i).lines.length=i
  | 0=>rfl
  | i+1=>by simp [iL,Tab.add,rE n h l i]
set_option maxHeartbeats 8000000 in
set_option maxRecDepth 100000 in
theorem wC (A0:Option Addr) (c0:Nat) (l:List Int) (N:Nat) (w:World) (hr0:Kd.C (Kd.int .i64) w A0 l.length l) (hc0:l.length≤c0) (hx:∀ x ∈ l,I64 x) (hl:l.length < 4611686018427387904) (h1:1≤N) (h2:N≤65536) :
    Calls Tryz.prog 106 #[.slice A0 l.length c0,.int .i64 N] w (asu (iL N ((l.length / 2:Nat):Int) (iQ l) N) (iT l N) w):=by
  have hs1:lJ.f N=some true:=by rw [aaT,decide_eq_true ⟨by omega,by omega⟩]
  have hfc:iT l N=if l.length % 2=0 then 7 else jy l:=by unfold iT;rw [if_pos ⟨by omega,by omega⟩]
  rw [hfc]
  clear hfc
  have happ:=alh hx
  obtain ⟨L,hL⟩:∃ L,L=l.length:=⟨_,rfl⟩
  have HR0:=aj.mk hr0
  have HX:=aj.mk hx
  have mixed:Tryz.prog.follows .mixedOrders=true:=by kernel_rfl
  have hdv:Int.tdiv (L:Int) 2=((L / 2:Nat):Int):=rfl
  have HDV:=aj.mk hdv
  clear hr0 hx hdv
  by_cases hev:L % 2=0
  · rw [← hL]
    rw [if_pos hev]
    have hrm:Int.tmod (L:Int) 2=0:=by show ((L % 2:Nat):Int)=0;rw [hev];rfl
    have HL:=aj.mk hL
    clear hL hev happ
    go_enter Tryz.func106,Tryz.ntmps106
    go_wp2_with (go_at_call 111;refine (lJ.calls N true _ hs1).mono ?_;rintro e w' ⟨rfl,⟨nd,rfl⟩⟩)
    go_ret2
    refine ⟨aI (Below.refl _ _) _,?_⟩
    rw [if_neg (by decide)];rfl
  · rw [← hL,if_neg hev]
    have hrm:Int.tmod (L:Int) 2=1:=by show ((L % 2:Nat):Int)=1;rw [show L % 2=1 by omega];rfl
    have HLL:=aj.mk hL
    by_cases hc:jy l=0
    · rw [if_pos hc] at happ
      rw [hc]
      have ha:=acX HX.out hc
      have hb:=(zF HX.out hc).1
      have hla:(iQ l).length=L:=by rw [wu,hL]
      obtain ⟨tp,htp⟩:∃ v,v=iQ l:=⟨_,rfl⟩
      rw [← htp] at happ ha hla ⊢
      have hadd:=fun (b:Nat) (i:Nat) (hi:i≤65536) vl w' HB hbs ht hl=>aij b ((i:Int) - ((L / 2:Nat):Int)) tp vl (iL N ((L / 2:Nat):Int) tp i) w w' HB hbs ht hl ha (by rw [rE];omega) (by omega)
      have aoJ:=aj.mk hadd
      have HLA:=aj.mk hla
      have afA:=aj.mk (show ∀ w',Below w.heap.size w w'→Calls Tryz.prog 109 #[.slice A0 L c0] w' (fun e w''=>∃ v0_:Value,e = .returned (.tuple #[v0_,.int .i64 0])∧Kd.R (Kd.int .i64) 2 w'' w'.heap.size (fun _=>True) v0_ tp∧Below w'.heap.size w' w'') by intro w' hb;rw [hL];exact iO.calls A0 c0 l tp 0 w' (Kd.bY HR0.out hb) hc0 happ)
      have hL9:L≤1048576:=by omega
      have HTP:=aj.mk htp
      clear hadd ha hb htp hev hla happ hc
      clear hL
      go_enter Tryz.func106,Tryz.ntmps106
      go_upto_region 9 with (first|(go_at_call 111;refine (lJ.calls N true _ hs1).mono ?_;rintro e w' ⟨rfl,⟨nd,rfl⟩⟩)|(go_at_call 109;refine (afA.out _ (aI (Below.refl _ _) _)).mono ?_;rintro e w2 ⟨v2,rfl,hr2,hb2⟩;obtain ⟨A2,c2,rfl⟩:=Kd.gB hr2;have HR2:=aj.mk hr2;have HB2:=aj.mk (ak (aI (Below.refl _ _) _) hb2);clear hr2 hb2))
      go_wp2
      obtain ⟨b,hb⟩:∃ b,b=w2.heap.size:=⟨_,rfl⟩
      rw [← hb]
      have HBQ:=aj.mk hb
      clear hb
      go_loopg [31] N (fun kx s31 wr=>∃ (i:Nat),s31 = .int .i64 i∧i≤N∧N - i≤kx∧aj (qQ wr w.heap.size b (iL N ((L / 2:Nat):Int) tp i))∧aj (Below w.heap.size w wr)∧aj (Kd.R (Kd.int .i64) 2 wr w.heap.size (fun k=>k≠b) (.slice A2 tp.length c2) tp))
      case atStart =>
        have hs:=HB2.out.size
        refine ⟨0,rfl,by omega,by omega,⟨by rw [HBQ.out];exact hs,.slice none 0 0,by rw [HBQ.out];exact heap_alloc_new _ _,Kd.kF _ _ _ _ _⟩,⟨aT HB2.out _⟩,⟨?_⟩⟩
        refine Kd.aK (Kd.eF (Kd.nC (Kd.fZ HR2.out (show w.heap.size≤_ from Nat.le_refl _))) (fun k hk => ?_)) _
        have:=hk.2.2.1
        rw [HBQ.out];omega
      case round =>
        obtain ⟨i,rfl,i1,i2,HT,HB,HR⟩:=hrel
        have wi:IntKind.i64.wrap ((i:Int)+1)=(i:Int)+1:=by rw [kU];exact aC (by omega) (by omega)
        have wd:IntKind.i64.wrap ((i:Int) - ((L / 2:Nat):Int))=(i:Int) - ((L / 2:Nat):Int):=by rw [kU];exact aC (by omega) (by omega)
        by_cases hlt:(i:Int) < (N:Int)
        · have hq:Int.tdiv (tp.length:Int) 2=((L / 2:Nat):Int):=by rw [HLA.out];exact HDV.out
          go_wp2_with (go_at_call 112;refine (aoJ.out b i (by omega) _ _ HB.out HB.out.size HT.out HR.out).mono ?_;rintro e w3 ⟨rfl,ht3,hb3,hs3,hr3⟩;have HT3:=aj.mk ht3;have HB3:=aj.mk hb3;have HR3:=aj.mk hr3;clear ht3 hb3 hs3 hr3)
          go_roundg (N - (i+1))
          case measure=>omega
          case rel=>exact ⟨i+1,by simp,by omega,Nat.le_refl _,HT3,HB3,HR3⟩
        · have him:i=N:=by omega
          subst him
          go_wp2
          go_ret2
          refine ⟨HB.out,?_⟩
          rw [if_pos rfl]
          exact ⟨b,rfl,HT.out⟩
    · rw [if_neg hc] at happ
      obtain ⟨cv,hcv⟩:∃ v,v=jy l:=⟨_,rfl⟩
      rw [← hcv] at happ hc ⊢
      have bk:(cv == 0)=false:=by simpa using hc
      have bk2:(cv != 0)=true:=by simpa using hc
      have afA:=aj.mk (show ∀ w',Below w.heap.size w w'→Calls Tryz.prog 109 #[.slice A0 L c0] w' (fun e w''=>∃ v0_:Value,e = .returned (.tuple #[v0_,.int .i64 cv])∧Kd.R (Kd.int .i64) 2 w'' w'.heap.size (fun _=>True) v0_ []∧Below w'.heap.size w' w'') by intro w' hb;rw [hL];exact iO.calls A0 c0 l [] cv w' (Kd.bY HR0.out hb) hc0 happ)
      clear hcv hev happ
      clear hL
      go_enter Tryz.func106,Tryz.ntmps106
      go_wp2_with (first|(go_at_call 111;refine (lJ.calls N true _ hs1).mono ?_;rintro e w' ⟨rfl,⟨nd,rfl⟩⟩)|(go_at_call 109;refine (afA.out _ (aI (Below.refl _ _) _)).mono ?_;rintro e w2 ⟨v2,rfl,hr2,hb2⟩;have HB2:=aj.mk (ak (aI (Below.refl _ _) _) hb2);clear hr2 hb2))
      go_ret2
      refine ⟨HB2.out,?_⟩
      rw [if_neg hc]
      rfl
theorem aau {w:World} {b:Nat} {t:Tab} (h:wB w b t):∃ A c,w.cell? ⟨b,0,none⟩=some (.int .i64 t.n)∧w.cell? ⟨b,1,none⟩=some (.slice A t.lines.length c)∧w.cell? ⟨b,2,none⟩=some (.int .i64 t.most)∧w.cell? ⟨b,3,none⟩=some (.int .i64 t.size)∧t.lines.length≤c∧Kd.C k71 w A t.lines.length t.lines:=by
  obtain ⟨A,c,h1,h2,h3⟩:=h
  exact ⟨A,c,(au h1 0).trans rfl,(au h1 1).trans rfl,(au h1 2).trans rfl,(au h1 3).trans rfl,h2,h3⟩
theorem agt (b:Nat) (t:Tab) (w:World) (h:wB w b t):Calls Tryz.prog 53 #[.pointer (some ⟨b,0,none⟩)] w fun e w'=>e = .returned (.int .i64 t.n)∧w'=w:=by
  obtain ⟨A,c,h0,h1,h2,h3,-,-⟩:=aau h
  clear h
  go_enter Tryz.func53,Tryz.ntmps53
  go_wp2
  go_ret
  exact ⟨rfl,rfl⟩
theorem lY (b:Nat) (t:Tab) (w:World) (h:wB w b t):Calls Tryz.prog 22 #[.pointer (some ⟨b,0,none⟩)] w fun e w'=>e = .returned (.int .i64 t.lines.length)∧w'=w:=by
  obtain ⟨A,c,h0,h1,h2,h3,-,-⟩:=aau h
  clear h
  go_enter Tryz.func22,Tryz.ntmps22
  go_wp2
  go_ret
  exact ⟨rfl,rfl⟩
theorem amb (b:Nat) (t:Tab) (w:World) (h:wB w b t):Calls Tryz.prog 23 #[.pointer (some ⟨b,0,none⟩)] w fun e w'=>e = .returned (.int .i64 t.most)∧w'=w:=by
  obtain ⟨A,c,h0,h1,h2,h3,-,-⟩:=aau h
  clear h
  go_enter Tryz.func23,Tryz.ntmps23
  go_wp2
  go_ret
  exact ⟨rfl,rfl⟩
set_option maxHeartbeats 8000000 in
set_option maxRecDepth 100000 in
theorem ak1 (A0:Option Addr) (c0:Nat) (l:List Int) (w:World) (hr0:Kd.C (Kd.int .i64) w A0 l.length l) (hc0:l.length≤c0) (hl:l.length≤2097152) :
    Calls Tryz.prog 68 #[.slice A0 l.length c0] w fun e w'=>∃ v,e = .returned v∧Kd.R (Kd.int .i64) 2 w' w.heap.size (fun _=>True) v l∧Below w.heap.size w w':=by
  have q:∀ (w:World) (a:Option Addr) (n c n' c':Nat),(binOp .eql 44 (.slice a n c) (.slice none n' c')).run Tryz.prog w = .ok (.bool a.isNone) w:=fun w a n c n' c'=>Lib.run_eql_slice_nil w _ _ a n c n' c' Tryz.underlying44
  cases A0 with
  | none =>
    have hn:l=[]:=by
      cases l with
      | nil=>rfl
      | cons x r=>obtain ⟨ad,e,_⟩:=Kd.jF hr0 0 (by omega) (by simp);cases e
    subst hn
    clear hr0
    go_enter Tryz.func68,Tryz.ntmps68
    go_wp2
    go_ret
    exact ⟨_,rfl,Kd.kF _ _ _ _ _,Below.refl _ _⟩
  | some ad =>
    have HR:=aj.mk hr0
    clear hr0
    go_enter Tryz.func68,Tryz.ntmps68
    go_wp2_with (at_builtin;refine Kd.ajo (Value.int .i64) (0:Int) (h1:=fun _=>rfl) (w0:=w) w.heap.size rfl (.tmp 5) (.tmp 6) 44 2 (.int .i64 0) 8 rfl Tryz.underlying44 vM rfl (by omega) (.slice (some ⟨w.heap.size,0,none⟩) 0 0) [] l (some ad) l.length c0 (fun _=>True) rfl rfl (fun _ _=>trivial) (Kd.zk (World.ownsRow_made w #[] 0 (Nat.le_refl _) (Nat.zero_le _) rfl) (fun _ _=>trivial)) (Kd.jg HR.out _) (aT (Below.refl _ _) _) (by simp) (by simp;omega) ?_;intro v1 w1 ho hb hg hat;have HO:=aj.mk ho;have HB:=aj.mk hb;clear ho hb hg hat)
    go_ret
    exact ⟨_,rfl,HO.out,HB.out⟩
set_option maxHeartbeats 8000000 in
set_option maxRecDepth 100000 in
theorem ali (b:Nat) (t:Tab) (i:Int) (w:World) (h:wB w b t) (i0:0≤i) (i1:i < t.lines.length) (hl:(iW t.lines i).f1.length≤2097152) :
    Calls Tryz.prog 29 #[.pointer (some ⟨b,0,none⟩),.int .i64 i] w fun e w'=>∃ v,e = .returned (.agg #[.int .i64 (iW t.lines i).f0,v])∧Kd.R (Kd.int .i64) 2 w' w.heap.size (fun _=>True) v (iW t.lines i).f1∧Below w.heap.size w w':=by
  obtain ⟨A,c,h0,h1,h2,h3,hlc,hC⟩:=aau h
  obtain ⟨ad,A1,c1,rfl,k0,k1,l1,g1⟩:=ajr hC i i0 i1
  have hB:=aT (Below.refl w.heap.size w) (.cells #[.int .i64 0,.slice none 0 0] 71)
  have q1:=cell_below h1 hB
  have m0:=cell_below k0 hB
  have m1:=cell_below k1 hB
  have r0:=heap_alloc_new w (.cells #[.int .i64 0,.slice none 0 0] 71)
  obtain ⟨fst,hf⟩:∃ v,v=(iW t.lines i).f0:=⟨_,rfl⟩
  obtain ⟨tp,ht⟩:∃ v,v=(iW t.lines i).f1:=⟨_,rfl⟩
  rw [← hf] at m0 k0 ⊢
  rw [← ht] at k1 m1 l1 g1 hl ⊢
  have HG:=aj.mk g1
  have HR0:=aj.mk r0
  have HB:=aj.mk hB
  have HCL:=aj.mk (fun w' (hb:Below w.heap.size w w')=>ak1 A1 c1 tp w' (Kd.bY g1 hb) l1 hl)
  have HQ:=aj.mk (And.intro q1 (And.intro m0 m1))
  clear h hC g1 r0 hB hf ht h0 h2 h3 k0 k1 h1
  have n0:¬ i < 0:=by omega
  have n1:¬ (t.lines.length:Int)≤i:=by omega
  have mixed:Tryz.prog.follows .mixedOrders=true:=by kernel_rfl
  go_enter Tryz.func29,Tryz.ntmps29
  go_wp2
  generalize w.alloc (.cells #[.int .i64 0,.slice none 0 0] 71)=W0 at q1 m0 m1 HR0 HB HQ ⊢
  obtain ⟨r,hr⟩:∃ r,r=w.heap.size:=⟨_,rfl⟩
  rw [← hr]
  have hr0:=HR0.out
  rw [← hr] at hr0
  have z0:W0.cell? ⟨r,0,none⟩=some (.int .i64 0):=(au hr0 0).trans rfl
  have z1:W0.cell? ⟨r,1,none⟩=some (.slice none 0 0):=(au hr0 1).trans rfl
  have y0:=aN hr0 0
  have y1:=aN hr0 1
  have HRR:=aj.mk hr0
  have HRQ:=aj.mk hr
  clear hr0 hr HR0
  go_region_law (first|(go_simp;go_at_call 68;refine (HCL.out _ (by repeat (first|(with_reducible first|exact HB.out|apply aI|apply bg)|exact HB.out))).mono ?_;rintro e w2 ⟨v2,rfl,hr2,hb2⟩;obtain ⟨A2,c2,rfl⟩:=Kd.gB hr2;have x1:=cell_below (show W0.drew.cell? _=_ from HQ.out.1) hb2;have x2:=cell_below (show W0.drew.cell? _=_ from HQ.out.2.1) hb2;have x3:=cell_below (show W0.drew.cell? _=_ from HQ.out.2.2) hb2;have hr3:=(hb2.block r (dJ HRR.out)).trans HRR.out;have z2:w2.cell? ⟨r,0,none⟩=some (.int .i64 0):=(au hr3 0).trans rfl;have z3:w2.cell? ⟨r,1,none⟩=some (.slice none 0 0):=(au hr3 1).trans rfl;have y2:=aN hr3 0;have y3:=aN hr3 1;have HR3:=aj.mk hr3;have HR2:=aj.mk hr2;have HB2:=aj.mk hb2;clear hr2 hb2 hr3))
  all_goals (
    have hr5:((w2.setCell ⟨r,0,none⟩ (.int .i64 fst)).setCell ⟨r,1,none⟩ (.slice A2 tp.length c2)).heap[r]? = some (.cells #[.int .i64 fst,.slice A2 tp.length c2] 71 (0,0)):=by simpa using bP (bP HR3.out 0 (.int .i64 fst)) 1 (.slice A2 tp.length c2)
    have HN:=aj.mk (show r < W0.drew.heap.size from dJ HRR.out)
    have HO5:=aj.mk (Kd.aa1 (p:=⟨r,1,none⟩) (Kd.aa1 (p:=⟨r,0,none⟩) (Kd.eF (Kd.nC HR2.out) (fun k hk=>(show k≠r by have:=hk.2.1;have:=HN.out;omega))) (fun _ hk=>hk) (.int .i64 fst)) (fun _ hk=>hk) (.slice A2 tp.length c2))
    have HB5:=aj.mk (((ak (bg HB.out) HB2.out).setCell (p:=⟨r,0,none⟩) (Nat.le_of_eq HRQ.out.symm) (.int .i64 fst)).setCell (p:=⟨r,1,none⟩) (Nat.le_of_eq HRQ.out.symm) (.slice A2 tp.length c2))
    have HS5:=aj.mk (bF (bg HB.out))
    generalize (w2.setCell ⟨r,0,none⟩ (.int .i64 fst)).setCell ⟨r,1,none⟩ (.slice A2 tp.length c2)=w5 at hr5 HO5 HB5 ⊢
    have p0:w5.cell? ⟨r,0,none⟩=some (.int .i64 fst):=(au hr5 0).trans rfl
    have p1:w5.cell? ⟨r,1,none⟩=some (.slice A2 tp.length c2):=(au hr5 1).trans rfl
    clear hr5
    try simp only [Exit.inBlock,Exit.then]
    go_wp2
    try simp only [Exit.inBlock,Exit.then]
    refine bodyPost_ret (by simp [results,Tryz.results29,go_sem,p0,p1];try rfl) rfl ?_
    exact ⟨_,rfl,Kd.eF (Kd.fZ HO5.out HS5.out) (fun _ _=>trivial),HB5.out⟩)
def acE (lo hi:Int):List S71→Int × Int
  | []=>(lo,hi)
  | x :: r=>acE (mn lo x.f0) (mx hi (wrap64 (x.f0+x.f1.length))) r
def wE (l:List S71) (p q:Nat):Int × Int:=acE (iW l p).f0 (iW l p).f0 ((l.take q).drop p)
def dF (t:Tab) (i k:Int):Int × Int:=if mx i 0 < mn k t.lines.length then ((wE t.lines (mx i 0).toNat (mn k t.lines.length).toNat).1,wrap64 ((wE t.lines (mx i 0).toNat (mn k t.lines.length).toNat).2 - (wE t.lines (mx i 0).toNat (mn k t.lines.length).toNat).1)) else (0,0)
theorem amc (l:List S71) {q p:Nat} (h:p < q) (hq:q≤l.length) (lo hi:Int):acE lo hi ((l.take q).drop p)=acE (mn lo (iW l p).f0) (mx hi (wrap64 ((iW l p).f0+(iW l p).f1.length))) ((l.take q).drop (p+1)):=by
  have e:(l.take q).drop p=iW l p :: (l.take q).drop (p+1):=by
    rw [List.drop_eq_getElem_cons (by rw [List.length_take];omega)]
    congr 1
    unfold iW
    rw [List.getElem_take,Int.toNat_natCast,List.getD_eq_getElem?_getD,List.getElem?_eq_getElem (by omega)]
    rfl
  rw [e,acE]
theorem alj (l:List S71) (p j:Nat):iW (l.drop p) j=iW l ((p+j:Nat):Int):=by
  unfold iW
  rw [Int.toNat_natCast,Int.toNat_natCast,List.getD_eq_getElem?_getD,List.getD_eq_getElem?_getD,List.getElem?_drop]
attribute [local go_sem] dS dU fA fB
set_option maxHeartbeats 8000000 in
set_option maxRecDepth 100000 in
theorem acf (b:Nat) (t:Tab) (i k:Int) (w:World) (h:wB w b t) (hl:t.lines.length≤70000) :
    Calls Tryz.prog 67 #[.pointer (some ⟨b,0,none⟩),.int .i64 i,.int .i64 k] w fun e w'=>e = .returned (.tuple #[.int .i64 (dF t i k).1,.int .i64 (dF t i k).2])∧Below w.heap.size w w':=by
  obtain ⟨A,c,h0,h1,h2,h3,hlc,hC⟩:=aau h
  clear h h0 h2 h3
  have HC:=aj.mk hC
  clear hC
  have mixed:Tryz.prog.follows .mixedOrders=true:=by kernel_rfl
  go_enter Tryz.func67,Tryz.ntmps67
  go_upto_region 1 with fail
  go_quiet (fail)
  obtain ⟨I,hI⟩:∃ I,I=(if i < 0 then 0 else i):=⟨_,rfl⟩
  obtain ⟨K,hK⟩:∃ K,K=(if (t.lines.length:Int) < k then (t.lines.length:Int) else k):=⟨_,rfl⟩
  rw [← hI,← hK]
  have hrv:dF t i k=if I < K then ((wE t.lines I.toNat K.toNat).1,wrap64 ((wE t.lines I.toNat K.toNat).2 - (wE t.lines I.toNat K.toNat).1)) else (0,0):=by unfold dF mx mn;rw [← hI,← hK]
  have hI0:0≤I:=by rw [hI];split <;> omega
  have hK0:K≤t.lines.length:=by rw [hK];split <;> omega
  have HV:=aj.mk hrv
  have HQ:=aj.mk (And.intro hI hK)
  clear hI hK hrv
  have hB0:Below w.heap.size w (w.drewN nq):=aI (Below.refl _ _) _
  have HB0:=aj.mk hB0
  have HCD:=aj.mk (Kd.bY HC.out hB0)
  have q1:=cell_below h1 hB0
  clear h1 hB0 HC
  generalize w.drewN nq=W at q1 HB0 HCD ⊢
  by_cases hIK:K≤I
  · go_wp2
    go_ret2
    refine ⟨?_,HB0.out⟩
    rw [HV.out,if_neg (by omega)];rfl
  · obtain ⟨p,rfl⟩:=Int.eq_ofNat_of_zero_le hI0
    obtain ⟨q,rfl⟩:=Int.eq_ofNat_of_zero_le (show 0≤K by omega)
    have HV2:=aj.mk (show dF t i k=((wE t.lines p q).1,wrap64 ((wE t.lines p q).2 - (wE t.lines p q).1)) by rw [HV.out,if_pos (by omega)];simp only [Int.toNat_natCast])
    have hp:=Int.toNat_natCast p
    obtain ⟨ad,A1,c1,rfl,k0,k1,l1,g1⟩:=ajr HCD.out p hI0 (by omega)
    have hCd:=Kd.ar9 (c:=c) HCD.out (show p≤t.lines.length by omega) hlc
    rw [if_neg (by omega)] at hCd
    have HCX:=aj.mk hCd
    have hlp:p < t.lines.length:=by omega
    have hpq:p < q:=by omega
    rw [hp] at k0
    have HP:=aj.mk hp
    have w1:IntKind.i64.wrap ((q:Int) - (p:Int))=((q - p:Nat):Int):=by rw [kU,aC (by omega) (by omega)];omega
    clear hCd k1 l1 g1 HV HQ hp
    go_upto_region 7 with fail
    go_loopg [6,8,40] (q - p) (fun kx s6 s8 s40 wr=>∃ (lo hi:Int) (j:Nat),s6 = .int .i64 lo∧s8 = .int .i64 hi∧s40 = .int .i64 j∧j≤q - p∧q - p - j≤kx∧aj (acE lo hi ((t.lines.take q).drop (p+j))=wE t.lines p q)∧aj (Below W.heap.size W wr))
    case atStart=>exact ⟨_,_,0,rfl,rfl,rfl,by omega,by omega,⟨rfl⟩,⟨Below.refl _ _⟩⟩
    case round =>
      obtain ⟨lo,hi,j,rfl,rfl,rfl,j1,j2,HR,HB⟩:=hrel
      have wj:IntKind.i64.wrap ((j:Int)+1)=(j:Int)+1:=by rw [kU];exact aC (by omega) (by omega)
      by_cases hlt:j < q - p
      · have hlj:(j:Int) < ((t.lines.drop p).length:Int):=by rw [List.length_drop];omega
        obtain ⟨ad2,A2,c2,e2,m0,m1,l2,g2⟩:=ajr (Kd.bY HCX.out HB.out) j (by omega) hlj
        obtain rfl:ad.add (p*2)=ad2:=Option.some.inj e2
        rw [Int.toNat_natCast,alj] at m0
        rw [Int.toNat_natCast,alj] at m1
        have hst:=amc t.lines (show p+j < q by omega) (by omega) lo hi
        obtain ⟨x,hx⟩:∃ x,x=iW t.lines ((p+j:Nat):Int):=⟨_,rfl⟩
        rw [← hx] at m0 m1 hst
        have HST:=aj.mk (hst.symm.trans HR.out)
        obtain ⟨f0,hf0⟩:∃ v,v=x.f0:=⟨_,rfl⟩
        obtain ⟨ln,hln⟩:∃ v,v=x.f1.length:=⟨_,rfl⟩
        rw [← hf0] at m0
        rw [← hln] at m1
        have HX:=aj.mk (And.intro hf0 hln)
        have zj:(0:Int)≤(j:Int):=by omega
        have zl:(j:Int) < ((q - p:Nat):Int):=by omega
        clear e2 l2 g2 hst hx hf0 hln hlj HR
        go_wp2
        all_goals (
          go_roundg (q - p - (j+1))
          case measure=>omega
          case rel =>
            refine ⟨_,_,j+1,rfl,rfl,by simp,by omega,Nat.le_refl _,⟨?_⟩,⟨?_⟩⟩
            · rw [← HST.out,← HX.out.1,← HX.out.2,show p+(j+1)=p+j+1 from rfl]
              unfold mn mx
              first
                | (rw [if_pos (by assumption),if_pos (by assumption)];done)
                | (rw [if_pos (by assumption),if_neg (by omega)];done)
                | (rw [if_neg (by omega),if_pos (by assumption)];done)
                | (rw [if_neg (by omega),if_neg (by omega)];done)
            · repeat (first|(with_reducible first|exact HB.out|apply aT|apply aI|apply bg)|exact HB.out|(refine Below.setCell ?_ (by have:=HB.out.size;omega) _)))
      · have:j=q - p:=by omega
        subst this
        have HF:=aj.mk (show wE t.lines p q=(lo,hi) by rw [← HR.out,show p+(q - p)=q by omega,List.drop_eq_nil_of_le (by rw [List.length_take];omega)];rfl)
        clear HR
        go_wp2
        go_ret2
        refine ⟨?_,ak HB0.out HB.out⟩
        rw [HV2.out,HF.out,← kU];rfl
theorem ak2 (x:Int) (v:Value) (w:World):(Instr.field 71 (.agg #[.int .i64 x,v]) 0).run Tryz.prog w = .ok (.int .i64 x) w:=by
  have u:∀ w,Sem.run Tryz.prog (underlying 71) w = .ok _ w:=run_underlying Tryz.underlying71
  simp [Instr.field,u,go_sem]
  rfl
theorem atA (W:World) (l:List Int) (hm:l.length≤9223372036854775807):Kd.C (Kd.int .i64) (W.alloc (.cells (l.map (Value.int .i64)).toArray 2 (0,0))) (some ⟨W.heap.size,0,none⟩) l.length l:=by
  have h:=ark W W.heap.size 2 .i64 l (Nat.le_refl _) hm
  exact (Kd.dM (Kd.zk (ok:=fun _=>True) h (fun _ _=>trivial))).2.2
def abO:Tab:=⟨4,[⟨0,[8192,8192]⟩,⟨2,[8192,8192]⟩],2,16384⟩
theorem ajO:gq 0 4 2 2=abO:=by kernel_rfl
theorem agu:gX 0 4 2 0 2=0:=by kernel_rfl
set_option maxHeartbeats 8000000 in
set_option maxRecDepth 100000 in
theorem aiG (w:World) (hG:GL w):Calls Tryz.prog 52 #[] w fun e w'=>e = .returned (.bool true)∧Below w.heap.size w w':=by
  have HG:=aj.mk hG
  have l5:=fun w' (hb:Below w.heap.size w w')=>jq.calls 400 true w' (hG.below hb) (arI (Nat.le_refl _))
  have l6:=fun w'=>jr.calls 400 true w' (arJ (Nat.le_refl _))
  have rs:=fun w' (hb:Below w.heap.size w w')=>qI 0 4 2 w' (hG.below hb) ⟨by decide,by decide,by decide,by decide,by decide,by decide⟩
  rw [show ((2:Nat):Int)=2 from rfl,ajO,agu] at rs
  have same:=fun w' A0 c0 A1 c1 h0 h1 h2 h3=>cZ.calls 10 A0 c0 [8192,8192] A1 c1 [8192,8192] true w' h0 h1 h2 h3 (by kernel_rfl)
  have L5:=aj.mk l5
  have L6:=aj.mk l6
  have RS:=aj.mk rs
  have SM:=aj.mk same
  clear hG l5 l6 rs same
  have mixed:Tryz.prog.follows .mixedOrders=true:=by kernel_rfl
  go_enter Tryz.func52,Tryz.ntmps52
  go_upto_region 4 with (first
    | (go_at_call 88;refine (L5.out _ (Below.refl _ _)).mono ?_;rintro e w1 ⟨rfl,hb1⟩;have B1:=aj.mk hb1;clear hb1)
    | (go_at_call 89;refine (L6.out _).mono ?_;rintro e w2 ⟨rfl,hb2⟩;have B2:=aj.mk (ak B1.out hb2);clear hb2)
    | (go_at_call 90;refine (RS.out _ B2.out).mono ?_;rintro e w3 ⟨hb3,hT⟩;rw [if_pos rfl] at hT;obtain ⟨b,rfl,hT⟩:=hT;have B3:=aj.mk (ak B2.out hb3);have T3:=aj.mk hT.reads;clear hb3 hT))
  clear L5 L6 RS
  have hfl:=ak2
  have LN1:=aj.mk (show Calls Tryz.prog 29 #[.pointer (some ⟨b,0,none⟩),.int .i64 1] w3 fun e w'=>∃ v,e = .returned (.agg #[.int .i64 2,v])∧Kd.R (Kd.int .i64) 2 w' w3.heap.size (fun _=>True) v [8192,8192]∧Below w3.heap.size w3 w' from ali b abO 1 w3 T3.out (by decide) (by decide) (by decide))
  go_upto_region 7 with (first
    | (go_at_call 29;refine LN1.out.mono ?_;rintro e w4 ⟨v4,rfl,hr4,hb4⟩;obtain ⟨A4,c4,rfl⟩:=Kd.gB hr4;have R4:=aj.mk hr4;have B4:=aj.mk (ak B3.out hb4);have T4:=aj.mk (T3.out.below hb4);clear hr4 hb4))
  have hr:=heap_alloc_new w4 (.cells #[.int .i64 2,.slice A4 2 c4] 71)
  have R5:=aj.mk (Kd.dM (Kd.aK R4.out (.cells #[.int .i64 2,.slice A4 2 c4] 71)))
  have T5:=aj.mk (T4.out.below (aT (Below.refl _ _) (.cells #[.int .i64 2,.slice A4 2 c4] 71)))
  have B5:=aj.mk (aT B4.out (.cells #[.int .i64 2,.slice A4 2 c4] 71))
  obtain ⟨r,hrr⟩:∃ r,r=w4.heap.size:=⟨_,rfl⟩
  rw [← hrr] at hr ⊢
  have HR:=aj.mk hr
  clear hr hrr T4 R4 B4
  generalize w4.alloc (.cells #[.int .i64 2,.slice A4 2 c4] 71)=w5 at HR R5 T5 B5 ⊢
  have RC:=aj.mk (show Calls Tryz.prog 67 #[.pointer (some ⟨b,0,none⟩),.int .i64 0,.int .i64 2] w5 fun e w'=>e = .returned (.tuple #[.int .i64 0,.int .i64 4])∧Below w5.heap.size w5 w' from (acf b abO 0 2 w5 T5.out (by decide)).mono (fun e w' h=>⟨h.1.trans (by kernel_rfl),h.2⟩))
  go_upto_region 8 with (first
    | (go_at_call 67;refine RC.out.mono ?_;rintro e w6 ⟨rfl,hb6⟩;have B6:=aj.mk hb6;clear hb6))
  have LN0:=aj.mk (show Calls Tryz.prog 29 #[.pointer (some ⟨b,0,none⟩),.int .i64 0] w6 fun e w'=>∃ v,e = .returned (.agg #[.int .i64 0,v])∧Kd.R (Kd.int .i64) 2 w' w6.heap.size (fun _=>True) v [8192,8192]∧Below w6.heap.size w6 w' from ali b abO 0 w6 (T5.out.below B6.out) (by decide) (by decide) (by decide))
  go_wp2_with (first
    | (go_at_call 29;refine LN0.out.mono ?_;rintro e w7 ⟨v7,rfl,hr7,hb7⟩;obtain ⟨A7,c7,rfl⟩:=Kd.gB hr7;have B7:=aj.mk (ak B6.out hb7);have hr9:=(B7.out.block r (dJ HR.out)).trans HR.out;have z0:w7.cell? ⟨r,0,none⟩=some (.int .i64 2):=(au hr9 0).trans rfl;have z1:w7.cell? ⟨r,1,none⟩=some (.slice A4 2 c4):=(au hr9 1).trans rfl;clear hr7 hb7 hr9)
    | (go_at_call 91;refine (SM.out _ A4 c4 _ _ (Kd.bY R5.out.2.2 (aT B7.out _)) R5.out.2.1 (atA w7 [8192,8192] (by decide)) (Nat.le_refl _)).mono ?_;rintro e w8 ⟨rfl,⟨nd,rfl⟩⟩))
  go_ret
  exact ⟨rfl,aI (ak B5.out (aT B7.out _)) _⟩
theorem alk (l:List S71) (x:S71) (j:Nat):iW (l ++ [x]) (j:Int)=if j=l.length then x else iW l (j:Int):=by
  unfold iW
  rw [Int.toNat_natCast,List.getD_eq_getElem?_getD,List.getD_eq_getElem?_getD]
  by_cases h:j < l.length
  · rw [List.getElem?_append_left h,if_neg (by omega)]
  · rw [List.getElem?_append_right (by omega)]
    by_cases e:j=l.length
    · subst e;simp
    · rw [if_neg e,List.getElem?_eq_none (by simp;omega),List.getElem?_eq_none (by omega)]
theorem aik (f n m:Int):∀ (i j:Nat),j < i→iW (gq f n m i).lines (j:Int)=⟨fU f n m j,iQ (vF f n m j)⟩
  | 0,j,h=>by omega
  | i+1,j,h=>by
    show iW ((gq f n m i).lines ++ [_]) (j:Int)=_
    rw [alk,rD]
    by_cases e:j=i
    · rw [if_pos e,e]
    · rw [if_neg e];exact aik f n m i j (by omega)
theorem ail (n h:Int) (l:List Int):∀ (i j:Nat),j < i→iW (iL n h l i).lines (j:Int)=⟨(j:Int) - h,l⟩
  | 0,j,h=>by omega
  | i+1,j,hj=>by
    show iW ((iL n h l i).lines ++ [_]) (j:Int)=_
    rw [alk,rE]
    by_cases e:j=i
    · rw [if_pos e,e]
    · rw [if_neg e];exact ail n h l i j (by omega)
def opV (k b s r:Int) (A4:Option Addr) (n4 c4:Nat) (A5:Option Addr) (n5 c5:Nat) (f w h:Int):Value := .agg #[.int .i64 k,.int .i64 b,.int .i64 s,.int .i64 r,.slice A4 n4 c4,.slice A5 n5 c5,.int .i64 f,.int .i64 w,.int .i64 h]
def amd (tx ty:Tab) (w:World) (e:Ending) (w':World):Prop:=Below w.heap.size w w'∧∃ bx by_,e = .returned (.tuple #[.pointer (some ⟨bx,0,none⟩),.pointer (some ⟨by_,0,none⟩),.int .i64 0])∧qQ w' w.heap.size bx tx∧qQ w' w.heap.size by_ ty
def agv (tx ty:Tab) (bd:Int) (w:World) (e:Ending) (w':World):Prop:=Below w.heap.size w w'∧∃ bx by_,e = .returned (.tuple #[.agg #[.pointer (some ⟨bx,0,none⟩),.pointer (some ⟨by_,0,none⟩),.int .i64 bd],.int .i64 0])∧qQ w' w.heap.size bx tx∧qQ w' w.heap.size by_ ty
theorem nY (n:Int):jl.f n=some (decide (1≤n∧n≤65536)):=by
  unfold jl.f
  by_cases h:n≥1
  · rw [if_pos h];congr 1;by_cases c:n≤65536
    · rw [decide_eq_true c,decide_eq_true ⟨h,c⟩]
    · rw [decide_eq_false c,decide_eq_false (fun q=>c q.2)]
  · rw [if_neg h];congr 1;rw [decide_eq_false (fun q=>h q.1)]
theorem acY (K:Nat) {k b s r:Int} {x y:List Int} {f w h:Int} (hk:0≤k∧k < 4) (hb:0≤b∧b < 3) (h3:k=3→1≤w∧w≤65536∧1≤h∧h≤65536∧0≤f∧f < 3):jH.f (K+1) k b s r x y f w h=some true:=by
  unfold jH.f
  rw [if_neg (by omega),if_neg (by omega)]
  obtain ⟨nm,hn,he⟩:∃ s,oP.f b=some s∧(s.toList == ([]:List UInt8))=false:=by
    have:b=0∨b=1∨b=2:=by omega
    rcases this with rfl|rfl|rfl
    · exact ⟨_,rfl,by kernel_rfl⟩
    · exact ⟨_,rfl,by kernel_rfl⟩
    · exact ⟨_,rfl,by kernel_rfl⟩
  rw [hn,Option.bind_some,he,jH.j0,if_neg (by decide)]
  by_cases hk3:k=3
  · obtain ⟨a1,a2,a3,a4,a5,a6⟩:=h3 hk3
    obtain ⟨nm2,hn2,he2⟩:∃ s,su.f f=some s∧(s.toList != ([]:List UInt8))=true:=by
      have:f=0∨f=1∨f=2:=by omega
      rcases this with rfl|rfl|rfl
      · exact ⟨_,rfl,by kernel_rfl⟩
      · exact ⟨_,rfl,by kernel_rfl⟩
      · exact ⟨_,rfl,by kernel_rfl⟩
    rw [if_pos hk3,nY,decide_eq_true ⟨a1,a2⟩,Option.bind_some,if_pos rfl,nY,decide_eq_true ⟨a3,a4⟩,Option.bind_some,if_pos rfl,hn2,Option.bind_some,he2]
  · rw [if_neg hk3]
set_option maxHeartbeats 8000000 in
set_option maxRecDepth 100000 in
theorem aaU (b s r:Int) (A4:Option Addr) (n4 c4:Nat) (A5:Option Addr) (n5 c5:Nat) (f W H:Int) (M1 M2:Nat) (w:World) (hG:GL w) (h1:okR f W M1) (h2:okR f H M2) (k1:gX f W M1 0 M1=0) (k2:gX f H M2 0 M2=0) :
    Calls Tryz.prog 87 #[opV 3 b s r A4 n4 c4 A5 n5 c5 f M1 M2,.int .i64 W,.int .i64 H] w (amd (gq f W M1 M1) (gq f H M2 M2) w):=by
  have r1:=fun w' (hb:Below w.heap.size w w')=>qI f W M1 w' (hG.below hb) h1
  have r2:=fun w' (hb:Below w.heap.size w w')=>qI f H M2 w' (hG.below hb) h2
  rw [k1] at r1
  rw [k2] at r2
  have R1:=aj.mk r1
  have R2:=aj.mk r2
  have hr:=heap_alloc_new w (.cells #[.int .i64 3,.int .i64 b,.int .i64 s,.int .i64 r,.slice A4 n4 c4,.slice A5 n5 c5,.int .i64 f,.int .i64 M1,.int .i64 M2] 47)
  have BX:=aj.mk (aT (Below.refl w.heap.size w) (.cells #[.int .i64 3,.int .i64 b,.int .i64 s,.int .i64 r,.slice A4 n4 c4,.slice A5 n5 c5,.int .i64 f,.int .i64 M1,.int .i64 M2] 47))
  have HR:=aj.mk hr
  clear r1 r2 hr hG h1 h2 k1 k2
  have mixed:Tryz.prog.follows .mixedOrders=true:=by kernel_rfl
  unfold opV
  go_enter Tryz.func87,Tryz.ntmps87
  go_upto_region 1 with fail
  obtain ⟨g,hg⟩:∃ g,g=w.heap.size:=⟨_,rfl⟩
  rw [← hg]
  have HR2:aj ((w.alloc (.cells #[.int .i64 3,.int .i64 b,.int .i64 s,.int .i64 r,.slice A4 n4 c4,.slice A5 n5 c5,.int .i64 f,.int .i64 M1,.int .i64 M2] 47)).heap[g]? = some (.cells #[.int .i64 3,.int .i64 b,.int .i64 s,.int .i64 r,.slice A4 n4 c4,.slice A5 n5 c5,.int .i64 f,.int .i64 M1,.int .i64 M2] 47 (0,0))):=⟨by rw [hg];exact HR.out⟩
  clear hg HR
  generalize w.alloc (.cells #[.int .i64 3,.int .i64 b,.int .i64 s,.int .i64 r,.slice A4 n4 c4,.slice A5 n5 c5,.int .i64 f,.int .i64 M1,.int .i64 M2] 47)=W0 at HR2 BX ⊢
  have z0:W0.cell? ⟨g,0,none⟩=some (.int .i64 3):=(au HR2.out 0).trans rfl
  have z6:W0.cell? ⟨g,6,none⟩=some (.int .i64 f):=(au HR2.out 6).trans rfl
  have z7:W0.cell? ⟨g,7,none⟩=some (.int .i64 M1):=(au HR2.out 7).trans rfl
  go_wp2_with (first
    | (go_at_call 90;(with_reducible refine (R1.out _ BX.out).mono ?_);rintro e w1 ⟨hb1,hT⟩;rw [if_pos rfl] at hT;obtain ⟨bx,rfl,hT⟩:=hT;have TX:=aj.mk (hT.lower BX.out.size);have B1:=aj.mk (ak BX.out hb1);have hr9:=(hb1.block g (dJ HR2.out)).trans HR2.out;have y6:w1.cell? ⟨g,6,none⟩=some (.int .i64 f):=(au hr9 6).trans rfl;have y8:w1.cell? ⟨g,8,none⟩=some (.int .i64 M2):=(au hr9 8).trans rfl;clear hb1 hT hr9)
    | (go_at_call 90;(with_reducible refine (R2.out _ B1.out).mono ?_);rintro e w2 ⟨hb2,hT⟩;rw [if_pos rfl] at hT;obtain ⟨bz,rfl,hT⟩:=hT;have TY:=aj.mk (hT.lower B1.out.size);have B2:=aj.mk (ak B1.out hb2);have TX2:=aj.mk (TX.out.below hb2);clear hb2 hT))
  go_ret3
  exact ⟨B2.out,bx,bz,rfl,TX2.out,TY.out⟩
set_option maxHeartbeats 8000000 in
set_option maxRecDepth 100000 in
theorem aiH (K:Nat) (k b s r:Int) (A4:Option Addr) (c4:Nat) (x:List Int) (A5:Option Addr) (c5:Nat) (y:List Int) (f ow oh:Int) (N1 N2:Nat) (u v:List Int) (w:World) (hx:Kd.C (Kd.int .i64) w A4 x.length x) (lx:x.length≤c4) (hy:Kd.C (Kd.int .i64) w A5 y.length y) (ly:y.length≤c5) (hk:k≠3) (hw:lK.f K k b s r x y f ow oh=some (u,v,0))
    (hu:∀ z ∈ u,I64 z) (hv:∀ z ∈ v,I64 z) (lu:u.length < 4611686018427387904) (lv:v.length < 4611686018427387904) (n1:1≤N1∧N1≤65536) (n2:1≤N2∧N2≤65536) (k1:iT u N1=0) (k2:iT v N2=0) :
    Calls Tryz.prog 87 #[opV k b s r A4 x.length c4 A5 y.length c5 f ow oh,.int .i64 N1,.int .i64 N2] w (amd (iL N1 ((u.length / 2:Nat):Int) (iQ u) N1) (iL N2 ((v.length / 2:Nat):Int) (iQ v) N2) w):=by
  have hwt:=fun w' (hb:Below w.heap.size w w')=>lK.calls K k b s r A4 c4 x A5 c5 y f ow oh u v 0 w' (Kd.bY hx hb) lx (Kd.bY hy hb) ly hw
  have HW:=aj.mk hwt
  have F1:=aj.mk (fun w' A c (h1:Kd.C (Kd.int .i64) w' A u.length u) (h2:u.length≤c)=>wC A c u N1 w' h1 h2 hu lu n1.1 n1.2)
  have F2:=aj.mk (fun w' A c (h1:Kd.C (Kd.int .i64) w' A v.length v) (h2:v.length≤c)=>wC A c v N2 w' h1 h2 hv lv n2.1 n2.2)
  rw [k1] at F1
  rw [k2] at F2
  have bk:(k == 3)=false:=by simpa using hk
  obtain ⟨p,hp⟩:∃ p,p=x.length:=⟨_,rfl⟩
  obtain ⟨q,hq⟩:∃ q,q=y.length:=⟨_,rfl⟩
  rw [← hp,← hq] at HW ⊢
  have hr:=heap_alloc_new w (.cells #[.int .i64 k,.int .i64 b,.int .i64 s,.int .i64 r,.slice A4 p c4,.slice A5 q c5,.int .i64 f,.int .i64 ow,.int .i64 oh] 47)
  have BX:=aj.mk (aT (Below.refl w.heap.size w) (.cells #[.int .i64 k,.int .i64 b,.int .i64 s,.int .i64 r,.slice A4 p c4,.slice A5 q c5,.int .i64 f,.int .i64 ow,.int .i64 oh] 47))
  have HR:=aj.mk hr
  clear hwt hr hx hy hu hv k1 k2 hw lx ly lu lv n1 n2 hk hp hq
  have mixed:Tryz.prog.follows .mixedOrders=true:=by kernel_rfl
  unfold opV
  go_enter Tryz.func87,Tryz.ntmps87
  go_upto_region 1 with fail
  obtain ⟨g,hg⟩:∃ g,g=w.heap.size:=⟨_,rfl⟩
  rw [← hg]
  have HR2:aj ((w.alloc (.cells #[.int .i64 k,.int .i64 b,.int .i64 s,.int .i64 r,.slice A4 p c4,.slice A5 q c5,.int .i64 f,.int .i64 ow,.int .i64 oh] 47)).heap[g]? = some (.cells #[.int .i64 k,.int .i64 b,.int .i64 s,.int .i64 r,.slice A4 p c4,.slice A5 q c5,.int .i64 f,.int .i64 ow,.int .i64 oh] 47 (0,0))):=⟨by rw [hg];exact HR.out⟩
  clear hg HR
  generalize w.alloc (.cells #[.int .i64 k,.int .i64 b,.int .i64 s,.int .i64 r,.slice A4 p c4,.slice A5 q c5,.int .i64 f,.int .i64 ow,.int .i64 oh] 47)=W0 at HR2 BX ⊢
  have z0:W0.cell? ⟨g,0,none⟩=some (.int .i64 k):=(au HR2.out 0).trans rfl
  have z1:W0.cell? ⟨g,1,none⟩=some (.int .i64 b):=(au HR2.out 1).trans rfl
  have z2:W0.cell? ⟨g,2,none⟩=some (.int .i64 s):=(au HR2.out 2).trans rfl
  have z3:W0.cell? ⟨g,3,none⟩=some (.int .i64 r):=(au HR2.out 3).trans rfl
  have z4:W0.cell? ⟨g,4,none⟩=some (.slice A4 p c4):=(au HR2.out 4).trans rfl
  have z5:W0.cell? ⟨g,5,none⟩=some (.slice A5 q c5):=(au HR2.out 5).trans rfl
  have z6:W0.cell? ⟨g,6,none⟩=some (.int .i64 f):=(au HR2.out 6).trans rfl
  have z7:W0.cell? ⟨g,7,none⟩=some (.int .i64 ow):=(au HR2.out 7).trans rfl
  have z8:W0.cell? ⟨g,8,none⟩=some (.int .i64 oh):=(au HR2.out 8).trans rfl
  go_wp2_with (first
    | (go_at_call 105;refine (HW.out _ BX.out).mono ?_;rintro e w1 ⟨v0,v1,rfl,hv0,hv1,hb1⟩;obtain ⟨Au,cu,rfl,lu,gu⟩:=hv0;obtain ⟨Av,cv,rfl,lv,gv⟩:=hv1;have GU:=aj.mk (Kd.abK gu);have GV:=aj.mk (Kd.abK gv);have B1:=aj.mk (ak BX.out hb1);clear gu gv hb1)
    | (go_at_call 106;(with_reducible refine (F1.out w1 Au cu GU.out lu).mono ?_);rintro e w2 ⟨hb2,hT⟩;rw [if_pos rfl] at hT;obtain ⟨bx,rfl,hT⟩:=hT;have TX:=aj.mk (hT.lower B1.out.size);have B2:=aj.mk (ak B1.out hb2);have GV2:=aj.mk (Kd.bY GV.out hb2);clear hb2 hT)
    | (go_at_call 106;(with_reducible refine (F2.out w2 Av cv GV2.out lv).mono ?_);rintro e w3 ⟨hb3,hT⟩;rw [if_pos rfl] at hT;obtain ⟨bz,rfl,hT⟩:=hT;have TY:=aj.mk (hT.lower B2.out.size);have B3:=aj.mk (ak B2.out hb3);have TX2:=aj.mk (TX.out.below hb3);clear hb3 hT))
  go_ret3
  exact ⟨B3.out,bx,bz,rfl,TX2.out,TY.out⟩
set_option maxHeartbeats 8000000 in
set_option maxRecDepth 100000 in
theorem aeS (k b s r:Int) (A4:Option Addr) (c4:Nat) (x:List Int) (A5:Option Addr) (c5:Nat) (y:List Int) (f ow oh W H:Int) (tx ty:Tab) (w:World) (hG:GL w) (hx:Kd.C (Kd.int .i64) w A4 x.length x) (lx:x.length≤c4) (hy:Kd.C (Kd.int .i64) w A5 y.length y) (ly:y.length≤c5)
    (hm:jH.f 1 k b s r x y f ow oh=some true) (hW:1≤W∧W≤65536) (hH:1≤H∧H≤65536) (ht:∀ w',Below w.heap.size w w'→Calls Tryz.prog 87 #[opV k b s r A4 x.length c4 A5 y.length c5 f ow oh,.int .i64 W,.int .i64 H] w' (amd tx ty w')) :
    Calls Tryz.prog 51 #[opV k b s r A4 x.length c4 A5 y.length c5 f ow oh,.int .i64 W,.int .i64 H] w (agv tx ty b w):=by
  have hmy:=fun w' (hb:Below w.heap.size w w')=>jH.calls 1 k b s r A4 c4 x A5 c5 y f ow oh true w' (Kd.bY hx hb) lx (Kd.bY hy hb) ly (hG.below hb) hm
  have hs1:jl.f W=some true:=by rw [nY,decide_eq_true hW]
  have hs2:jl.f H=some true:=by rw [nY,decide_eq_true hH]
  have HM:=aj.mk hmy
  have HT:=aj.mk ht
  obtain ⟨p,hp⟩:∃ p,p=x.length:=⟨_,rfl⟩
  obtain ⟨q,hq⟩:∃ q,q=y.length:=⟨_,rfl⟩
  rw [← hp,← hq] at HM HT ⊢
  have hr:=heap_alloc_new w (.cells #[.int .i64 k,.int .i64 b,.int .i64 s,.int .i64 r,.slice A4 p c4,.slice A5 q c5,.int .i64 f,.int .i64 ow,.int .i64 oh] 47)
  have BX:=aj.mk (aT (Below.refl w.heap.size w) (.cells #[.int .i64 k,.int .i64 b,.int .i64 s,.int .i64 r,.slice A4 p c4,.slice A5 q c5,.int .i64 f,.int .i64 ow,.int .i64 oh] 47))
  have HR:=aj.mk hr
  clear hmy ht hr hx hy lx ly hm hW hH hG hp hq
  have mixed:Tryz.prog.follows .mixedOrders=true:=by kernel_rfl
  unfold opV at HT ⊢
  go_enter Tryz.func51,Tryz.ntmps51
  go_upto_region 1 with fail
  obtain ⟨g,hg⟩:∃ g,g=w.heap.size:=⟨_,rfl⟩
  rw [← hg]
  have h1:((w.alloc (.cells #[.int .i64 k,.int .i64 b,.int .i64 s,.int .i64 r,.slice A4 p c4,.slice A5 q c5,.int .i64 f,.int .i64 ow,.int .i64 oh] 47)).alloc (.cells #[.pointer none,.pointer none,.int .i64 0] 38)).heap[g]? = some (.cells #[.int .i64 k,.int .i64 b,.int .i64 s,.int .i64 r,.slice A4 p c4,.slice A5 q c5,.int .i64 f,.int .i64 ow,.int .i64 oh] 47 (0,0)):=by rw [rF _ _ _ (by simp [hg]),hg];exact HR.out
  have h2:((w.alloc (.cells #[.int .i64 k,.int .i64 b,.int .i64 s,.int .i64 r,.slice A4 p c4,.slice A5 q c5,.int .i64 f,.int .i64 ow,.int .i64 oh] 47)).alloc (.cells #[.pointer none,.pointer none,.int .i64 0] 38)).heap[g+1]? = some (.cells #[.pointer none,.pointer none,.int .i64 0] 38 (0,0)):=yL _ _ _ (by simp [hg])
  have BY:=aj.mk (aT BX.out (.cells #[.pointer none,.pointer none,.int .i64 0] 38))
  have HG2:=aj.mk (show w.heap.size≤g+1 by omega)
  clear hg HR BX
  generalize (w.alloc (.cells #[.int .i64 k,.int .i64 b,.int .i64 s,.int .i64 r,.slice A4 p c4,.slice A5 q c5,.int .i64 f,.int .i64 ow,.int .i64 oh] 47)).alloc (.cells #[.pointer none,.pointer none,.int .i64 0] 38)=W2 at h1 h2 BY ⊢
  have z0:W2.cell? ⟨g,0,none⟩=some (.int .i64 k):=(au h1 0).trans rfl
  have z1:W2.cell? ⟨g,1,none⟩=some (.int .i64 b):=(au h1 1).trans rfl
  have z2:W2.cell? ⟨g,2,none⟩=some (.int .i64 s):=(au h1 2).trans rfl
  have z3:W2.cell? ⟨g,3,none⟩=some (.int .i64 r):=(au h1 3).trans rfl
  have z4:W2.cell? ⟨g,4,none⟩=some (.slice A4 p c4):=(au h1 4).trans rfl
  have z5:W2.cell? ⟨g,5,none⟩=some (.slice A5 q c5):=(au h1 5).trans rfl
  have z6:W2.cell? ⟨g,6,none⟩=some (.int .i64 f):=(au h1 6).trans rfl
  have z7:W2.cell? ⟨g,7,none⟩=some (.int .i64 ow):=(au h1 7).trans rfl
  have z8:W2.cell? ⟨g,8,none⟩=some (.int .i64 oh):=(au h1 8).trans rfl
  have H1:=aj.mk h1
  have H2:=aj.mk h2
  clear h1 h2
  go_upto_region 3 with (first
    | (go_at_call 85;refine (HM.out _ BY.out).mono ?_;rintro e w3 ⟨rfl,hb3⟩;have B3:=aj.mk (ak BY.out hb3);have H13:=aj.mk ((hb3.block g (dJ H1.out)).trans H1.out);have H23:=aj.mk ((hb3.block (g+1) (dJ H2.out)).trans H2.out);clear hb3)
    | (go_at_call 86;(with_reducible refine (jl.calls W true _ hs1).mono ?_);rintro e w' ⟨rfl,⟨nd1,rfl⟩⟩)
    | (go_at_call 86;(with_reducible refine (jl.calls H true _ hs2).mono ?_);rintro e w' ⟨rfl,⟨nd2,rfl⟩⟩))
  have B4:=aj.mk (aI B3.out (nd1+nd2))
  have h1:(w3.drewN (nd1+nd2)).heap[g]? = some (.cells #[.int .i64 k,.int .i64 b,.int .i64 s,.int .i64 r,.slice A4 p c4,.slice A5 q c5,.int .i64 f,.int .i64 ow,.int .i64 oh] 47 (0,0)):=H13.out
  have h2:(w3.drewN (nd1+nd2)).heap[g+1]? = some (.cells #[.pointer none,.pointer none,.int .i64 0] 38 (0,0)):=H23.out
  clear hs1 hs2 z0 z1 z2 z3 z4 z5 z6 z7 z8 HM B3 H13 H23 H1 H2 BY
  generalize w3.drewN (nd1+nd2)=w4 at h1 h2 B4 ⊢
  have z0:w4.cell? ⟨g,0,none⟩=some (.int .i64 k):=(au h1 0).trans rfl
  have z1:w4.cell? ⟨g,1,none⟩=some (.int .i64 b):=(au h1 1).trans rfl
  have z2:w4.cell? ⟨g,2,none⟩=some (.int .i64 s):=(au h1 2).trans rfl
  have z3:w4.cell? ⟨g,3,none⟩=some (.int .i64 r):=(au h1 3).trans rfl
  have z4:w4.cell? ⟨g,4,none⟩=some (.slice A4 p c4):=(au h1 4).trans rfl
  have z5:w4.cell? ⟨g,5,none⟩=some (.slice A5 q c5):=(au h1 5).trans rfl
  have z6:w4.cell? ⟨g,6,none⟩=some (.int .i64 f):=(au h1 6).trans rfl
  have z7:w4.cell? ⟨g,7,none⟩=some (.int .i64 ow):=(au h1 7).trans rfl
  have z8:w4.cell? ⟨g,8,none⟩=some (.int .i64 oh):=(au h1 8).trans rfl
  have H1:=aj.mk h1
  have H2:=aj.mk h2
  clear h1 h2
  go_upto_region 4 with (go_at_call 87;refine (HT.out _ B4.out).mono ?_;rintro e w5 ⟨hb5,bx,bz,rfl,hx,hz⟩;have B5:=aj.mk (ak B4.out hb5);have TX:=aj.mk hx;have TY:=aj.mk hz;have h1:=(hb5.block g (dJ H1.out)).trans H1.out;have h2:=(hb5.block (g+1) (dJ H2.out)).trans H2.out;have y1:w5.cell? ⟨g,1,none⟩=some (.int .i64 b):=(au h1 1).trans rfl;have q0:w5.cell? ⟨g+1,0,none⟩=some (.pointer none):=(au h2 0).trans rfl;have q1:w5.cell? ⟨g+1,1,none⟩=some (.pointer none):=(au h2 1).trans rfl;have q2:w5.cell? ⟨g+1,2,none⟩=some (.int .i64 0):=(au h2 2).trans rfl;have f0:=aN h2 0;have f1:=aN h2 1;have f2:=aN h2 2;have HS:=aj.mk h2;have HGL:=aj.mk (show g+1 < w4.heap.size from dJ H2.out);clear hb5 hx hz h1 h2)
  clear z0 z1 z2 z3 z4 z5 z6 z7 z8 HT
  go_wp2
  have hc:(((w5.setCell ⟨g+1,0,none⟩ (.pointer (some ⟨bx,0,none⟩))).setCell ⟨g+1,1,none⟩ (.pointer (some ⟨bz,0,none⟩))).setCell ⟨g+1,2,none⟩ (.int .i64 b)).heap[g+1]? = some (.cells #[.pointer (some ⟨bx,0,none⟩),.pointer (some ⟨bz,0,none⟩),.int .i64 b] 38 (0,0)):=by simpa using bP (bP (bP HS.out 0 (.pointer (some ⟨bx,0,none⟩))) 1 (.pointer (some ⟨bz,0,none⟩))) 2 (.int .i64 b)
  have TX6:=aj.mk (((TX.out.far (p:=⟨g+1,0,none⟩) HGL.out (.pointer (some ⟨bx,0,none⟩))).far (p:=⟨g+1,1,none⟩) HGL.out (.pointer (some ⟨bz,0,none⟩))).far (p:=⟨g+1,2,none⟩) HGL.out (.int .i64 b))
  have TY6:=aj.mk (((TY.out.far (p:=⟨g+1,0,none⟩) HGL.out (.pointer (some ⟨bx,0,none⟩))).far (p:=⟨g+1,1,none⟩) HGL.out (.pointer (some ⟨bz,0,none⟩))).far (p:=⟨g+1,2,none⟩) HGL.out (.int .i64 b))
  have B6:=aj.mk (((B5.out.setCell (p:=⟨g+1,0,none⟩) HG2.out (.pointer (some ⟨bx,0,none⟩))).setCell (p:=⟨g+1,1,none⟩) HG2.out (.pointer (some ⟨bz,0,none⟩))).setCell (p:=⟨g+1,2,none⟩) HG2.out (.int .i64 b))
  have HBS:=aj.mk B4.out.size
  clear q0 q1 q2 f0 f1 f2 y1
  generalize ((w5.setCell ⟨g+1,0,none⟩ (.pointer (some ⟨bx,0,none⟩))).setCell ⟨g+1,1,none⟩ (.pointer (some ⟨bz,0,none⟩))).setCell ⟨g+1,2,none⟩ (.int .i64 b)=w6 at hc TX6 TY6 B6 ⊢
  have p0:w6.cell? ⟨g+1,0,none⟩=some (.pointer (some ⟨bx,0,none⟩)):=(au hc 0).trans rfl
  have p1:w6.cell? ⟨g+1,1,none⟩=some (.pointer (some ⟨bz,0,none⟩)):=(au hc 1).trans rfl
  have p2:w6.cell? ⟨g+1,2,none⟩=some (.int .i64 b):=(au hc 2).trans rfl
  clear hc
  refine bodyPost_ret (by simp [results,Tryz.results51,go_sem,p0,p1,p2];try rfl) rfl ?_
  exact ⟨B6.out,bx,bz,rfl,TX6.out.lower HBS.out,TY6.out.lower HBS.out⟩
theorem adP (w:World):Kd.C (Kd.int .i64) w none 0 []:=⟨rfl,by decide,fun h=>absurd h (by decide)⟩
theorem ame:gX 0 3 1 0 1=0:=by kernel_rfl
theorem ain:(gq 0 3 1 1).lines.length=1∧(gq 0 3 1 1).n=3:=⟨by kernel_rfl,by kernel_rfl⟩
set_option maxHeartbeats 8000000 in
set_option maxRecDepth 100000 in
theorem aiI (w:World) (hG:GL w):Calls Tryz.prog 12 #[] w fun e w'=>e = .returned (.bool true)∧Below w.heap.size w w':=by
  have lv:=fun w' (hb:Below w.heap.size w w')=>aiG w' (hG.below hb)
  have mk:=fun w' (hb:Below w.heap.size w w')=>aeS 3 0 0 0 none 0 [] none 0 [] 0 2 1 4 3 (gq 0 4 2 2) (gq 0 3 1 1) w' (hG.below hb) (adP w') (by decide) (adP w') (by decide) (acY 0 (by decide) (by decide) (by decide)) (by decide) (by decide)
    (fun w'' hb2=>aaU 0 0 0 none 0 0 none 0 0 0 4 3 2 1 w'' (hG.below (ak hb hb2)) ⟨by decide,by decide,by decide,by decide,by decide,by decide⟩ ⟨by decide,by decide,by decide,by decide,by decide,by decide⟩ agu ame)
  rw [ajO] at mk
  have LV:=aj.mk lv
  have MK:=aj.mk mk
  clear lv mk hG
  have mixed:Tryz.prog.follows .mixedOrders=true:=by kernel_rfl
  unfold opV at MK
  go_enter Tryz.func12,Tryz.ntmps12
  go_upto_region 2 with (first
    | (go_at_call 51;refine (MK.out _ (Below.refl _ _)).mono ?_;rintro e w1 ⟨hb1,bx,bz,rfl,hx,hz⟩;have B1:=aj.mk hb1;have TX:=aj.mk hx.reads;have TY:=aj.mk hz.reads;clear hb1 hx hz))
  have hr:=heap_alloc_new w1 (.cells #[.pointer (some ⟨bx,0,none⟩),.pointer (some ⟨bz,0,none⟩),.int .i64 0] 38)
  have ha:=aT (Below.refl w1.heap.size w1) (.cells #[.pointer (some ⟨bx,0,none⟩),.pointer (some ⟨bz,0,none⟩),.int .i64 0] 38)
  have TX2:=aj.mk (TX.out.below ha)
  have TY2:=aj.mk (TY.out.below ha)
  have B2:=aj.mk (ak B1.out ha)
  obtain ⟨g,hg⟩:∃ g,g=w1.heap.size:=⟨_,rfl⟩
  rw [← hg] at hr ⊢
  clear ha hg TX TY
  generalize w1.alloc (.cells #[.pointer (some ⟨bx,0,none⟩),.pointer (some ⟨bz,0,none⟩),.int .i64 0] 38)=w2 at hr TX2 TY2 B2 ⊢
  have HR:=aj.mk hr
  clear hr
  have FX:=aj.mk (fun w' hb=>agt bx abO w' (TX2.out.below hb))
  have TOX:=aj.mk (fun w' hb=>lY bx abO w' (TX2.out.below hb))
  have FY:=aj.mk (fun w' hb=>agt bz (gq 0 3 1 1) w' (TY2.out.below hb))
  have TOY:=aj.mk (fun w' hb=>lY bz (gq 0 3 1 1) w' (TY2.out.below hb))
  rw [ain.2] at FY
  rw [ain.1] at TOY
  have hx1:abO.n=4:=rfl
  have hx2:abO.lines.length=2:=rfl
  rw [hx1] at FX
  rw [hx2] at TOX
  clear hx1 hx2
  go_wp2_with (first
    | (go_at_call 52;refine (LV.out _ B2.out).mono ?_;rintro e w3 ⟨rfl,hb3⟩;have B3:=aj.mk hb3;have hr9:=(hb3.block g (dJ HR.out)).trans HR.out;have z0:w3.cell? ⟨g,0,none⟩=some (.pointer (some ⟨bx,0,none⟩)):=(au hr9 0).trans rfl;have z1:w3.cell? ⟨g,1,none⟩=some (.pointer (some ⟨bz,0,none⟩)):=(au hr9 1).trans rfl;clear hb3 hr9)
    | (go_at_call 53;(with_reducible refine (FX.out _ B3.out).mono ?_);rintro e w4 ⟨rfl,rfl⟩)
    | (go_at_call 53;(with_reducible refine (FY.out _ B3.out).mono ?_);rintro e w4 ⟨rfl,rfl⟩)
    | (go_at_call 22;(with_reducible refine (TOX.out _ B3.out).mono ?_);rintro e w4 ⟨rfl,rfl⟩)
    | (go_at_call 22;(with_reducible refine (TOY.out _ B3.out).mono ?_);rintro e w4 ⟨rfl,rfl⟩))
  go_ret
  exact ⟨rfl,ak B2.out B3.out⟩
def acZ (c:Int) (w:World) (e:Ending) (w':World):Prop:=Below w.heap.size w w'∧e = .returned (.tuple #[.agg #[.pointer none,.pointer none,.int .i64 0],.int .i64 c])
def abg (c:Int) (w:World) (e:Ending) (w':World):Prop:=Below w.heap.size w w'∧∃ x y,e = .returned (.tuple #[.pointer x,.pointer y,.int .i64 c])
set_option maxHeartbeats 8000000 in
set_option maxRecDepth 100000 in
theorem ae6 (b s r:Int) (A4:Option Addr) (p c4:Nat) (A5:Option Addr) (q c5:Nat) (f W H c:Int) (M1 M2:Nat) (w:World) (hG:GL w) (h1:okR f W M1) (h2:okR f H M2) (k1:gX f W M1 0 M1=c) (hc:c≠0) :
    Calls Tryz.prog 87 #[opV 3 b s r A4 p c4 A5 q c5 f M1 M2,.int .i64 W,.int .i64 H] w (abg c w):=by
  have r1:=fun w' (hb:Below w.heap.size w w')=>qI f W M1 w' (hG.below hb) h1
  have r2:=fun w' (hb:Below w.heap.size w w')=>qI f H M2 w' (hG.below hb) h2
  rw [k1] at r1
  have R1:=aj.mk r1
  have R2:=aj.mk r2
  have HC:=aj.mk hc
  have bk:(c == 0)=false:=by simpa using hc
  have bk2:(c != 0)=true:=by simpa using hc
  clear r1 r2 hG h1 h2 k1 hc
  have hr:=heap_alloc_new w (.cells #[.int .i64 3,.int .i64 b,.int .i64 s,.int .i64 r,.slice A4 p c4,.slice A5 q c5,.int .i64 f,.int .i64 M1,.int .i64 M2] 47)
  have BX:=aj.mk (aT (Below.refl w.heap.size w) (.cells #[.int .i64 3,.int .i64 b,.int .i64 s,.int .i64 r,.slice A4 p c4,.slice A5 q c5,.int .i64 f,.int .i64 M1,.int .i64 M2] 47))
  have HR:=aj.mk hr
  clear hr
  have mixed:Tryz.prog.follows .mixedOrders=true:=by kernel_rfl
  unfold opV
  go_enter Tryz.func87,Tryz.ntmps87
  go_upto_region 1 with fail
  obtain ⟨g,hg⟩:∃ g,g=w.heap.size:=⟨_,rfl⟩
  rw [← hg]
  have HR2:aj ((w.alloc (.cells #[.int .i64 3,.int .i64 b,.int .i64 s,.int .i64 r,.slice A4 p c4,.slice A5 q c5,.int .i64 f,.int .i64 M1,.int .i64 M2] 47)).heap[g]? = some (.cells #[.int .i64 3,.int .i64 b,.int .i64 s,.int .i64 r,.slice A4 p c4,.slice A5 q c5,.int .i64 f,.int .i64 M1,.int .i64 M2] 47 (0,0))):=⟨by rw [hg];exact HR.out⟩
  clear hg HR
  generalize w.alloc (.cells #[.int .i64 3,.int .i64 b,.int .i64 s,.int .i64 r,.slice A4 p c4,.slice A5 q c5,.int .i64 f,.int .i64 M1,.int .i64 M2] 47)=W0 at HR2 BX ⊢
  have z0:W0.cell? ⟨g,0,none⟩=some (.int .i64 3):=(au HR2.out 0).trans rfl
  have z6:W0.cell? ⟨g,6,none⟩=some (.int .i64 f):=(au HR2.out 6).trans rfl
  have z7:W0.cell? ⟨g,7,none⟩=some (.int .i64 M1):=(au HR2.out 7).trans rfl
  go_wp2_with (go_at_call 90;(with_reducible refine (R1.out _ BX.out).mono ?_);rintro e w1 ⟨hb1,hT⟩;rw [if_neg HC.out] at hT;subst hT;have B1:=aj.mk (ak BX.out hb1);clear hb1)
  go_ret3
  exact ⟨B1.out,_,_,rfl⟩
set_option maxHeartbeats 8000000 in
set_option maxRecDepth 100000 in
theorem ae7 (b s r:Int) (A4:Option Addr) (p c4:Nat) (A5:Option Addr) (q c5:Nat) (f W H c:Int) (M1 M2:Nat) (w:World) (hG:GL w) (h1:okR f W M1) (h2:okR f H M2) (k1:gX f W M1 0 M1=0) (k2:gX f H M2 0 M2=c) (hc:c≠0) :
    Calls Tryz.prog 87 #[opV 3 b s r A4 p c4 A5 q c5 f M1 M2,.int .i64 W,.int .i64 H] w (abg c w):=by
  have r1:=fun w' (hb:Below w.heap.size w w')=>qI f W M1 w' (hG.below hb) h1
  have r2:=fun w' (hb:Below w.heap.size w w')=>qI f H M2 w' (hG.below hb) h2
  rw [k1] at r1
  rw [k2] at r2
  clear k2
  have R1:=aj.mk r1
  have R2:=aj.mk r2
  have HC:=aj.mk hc
  have bk:(c == 0)=false:=by simpa using hc
  have bk2:(c != 0)=true:=by simpa using hc
  clear r1 r2 hG h1 h2 k1 hc
  have hr:=heap_alloc_new w (.cells #[.int .i64 3,.int .i64 b,.int .i64 s,.int .i64 r,.slice A4 p c4,.slice A5 q c5,.int .i64 f,.int .i64 M1,.int .i64 M2] 47)
  have BX:=aj.mk (aT (Below.refl w.heap.size w) (.cells #[.int .i64 3,.int .i64 b,.int .i64 s,.int .i64 r,.slice A4 p c4,.slice A5 q c5,.int .i64 f,.int .i64 M1,.int .i64 M2] 47))
  have HR:=aj.mk hr
  clear hr
  have mixed:Tryz.prog.follows .mixedOrders=true:=by kernel_rfl
  unfold opV
  go_enter Tryz.func87,Tryz.ntmps87
  go_upto_region 1 with fail
  obtain ⟨g,hg⟩:∃ g,g=w.heap.size:=⟨_,rfl⟩
  rw [← hg]
  have HR2:aj ((w.alloc (.cells #[.int .i64 3,.int .i64 b,.int .i64 s,.int .i64 r,.slice A4 p c4,.slice A5 q c5,.int .i64 f,.int .i64 M1,.int .i64 M2] 47)).heap[g]? = some (.cells #[.int .i64 3,.int .i64 b,.int .i64 s,.int .i64 r,.slice A4 p c4,.slice A5 q c5,.int .i64 f,.int .i64 M1,.int .i64 M2] 47 (0,0))):=⟨by rw [hg];exact HR.out⟩
  clear hg HR
  generalize w.alloc (.cells #[.int .i64 3,.int .i64 b,.int .i64 s,.int .i64 r,.slice A4 p c4,.slice A5 q c5,.int .i64 f,.int .i64 M1,.int .i64 M2] 47)=W0 at HR2 BX ⊢
  have z0:W0.cell? ⟨g,0,none⟩=some (.int .i64 3):=(au HR2.out 0).trans rfl
  have z6:W0.cell? ⟨g,6,none⟩=some (.int .i64 f):=(au HR2.out 6).trans rfl
  have z7:W0.cell? ⟨g,7,none⟩=some (.int .i64 M1):=(au HR2.out 7).trans rfl
  go_wp2_with (first
    | (go_at_call 90;(with_reducible refine (R1.out _ BX.out).mono ?_);rintro e w1 ⟨hb1,hT⟩;rw [if_pos rfl] at hT;obtain ⟨bx,rfl,hT⟩:=hT;have B1:=aj.mk (ak BX.out hb1);have hr9:=(hb1.block g (dJ HR2.out)).trans HR2.out;have y6:w1.cell? ⟨g,6,none⟩=some (.int .i64 f):=(au hr9 6).trans rfl;have y8:w1.cell? ⟨g,8,none⟩=some (.int .i64 M2):=(au hr9 8).trans rfl;clear hb1 hT hr9)
    | (go_at_call 90;(with_reducible refine (R2.out _ B1.out).mono ?_);rintro e w2 ⟨hb2,hT⟩;rw [if_neg HC.out] at hT;subst hT;have B2:=aj.mk (ak B1.out hb2);clear hb2))
  go_ret3
  exact ⟨B2.out,_,_,rfl⟩
set_option maxHeartbeats 8000000 in
set_option maxRecDepth 100000 in
theorem ae8 (K:Nat) (k b s r:Int) (A4:Option Addr) (c4:Nat) (x:List Int) (A5:Option Addr) (c5:Nat) (y:List Int) (f ow oh c:Int) (N1 N2:Nat) (u v:List Int) (w:World) (hx:Kd.C (Kd.int .i64) w A4 x.length x) (lx:x.length≤c4) (hy:Kd.C (Kd.int .i64) w A5 y.length y) (ly:y.length≤c5) (hk:k≠3) (hw:lK.f K k b s r x y f ow oh=some (u,v,c)) (hc:c≠0) :
    Calls Tryz.prog 87 #[opV k b s r A4 x.length c4 A5 y.length c5 f ow oh,.int .i64 N1,.int .i64 N2] w (abg c w):=by
  have hwt:=fun w' (hb:Below w.heap.size w w')=>lK.calls K k b s r A4 c4 x A5 c5 y f ow oh u v _ w' (Kd.bY hx hb) lx (Kd.bY hy hb) ly hw
  have HW:=aj.mk hwt
  have bk:(k == 3)=false:=by simpa using hk
  have HC:=aj.mk hc
  have bc:(c == 0)=false:=by simpa using hc
  have bc2:(c != 0)=true:=by simpa using hc
  obtain ⟨p,hp⟩:∃ p,p=x.length:=⟨_,rfl⟩
  obtain ⟨q,hq⟩:∃ q,q=y.length:=⟨_,rfl⟩
  rw [← hp,← hq] at HW ⊢
  clear hwt hx hy hw lx ly hk hp hq hc
  have hr:=heap_alloc_new w (.cells #[.int .i64 k,.int .i64 b,.int .i64 s,.int .i64 r,.slice A4 p c4,.slice A5 q c5,.int .i64 f,.int .i64 ow,.int .i64 oh] 47)
  have BX:=aj.mk (aT (Below.refl w.heap.size w) (.cells #[.int .i64 k,.int .i64 b,.int .i64 s,.int .i64 r,.slice A4 p c4,.slice A5 q c5,.int .i64 f,.int .i64 ow,.int .i64 oh] 47))
  have HR:=aj.mk hr
  clear hr
  have mixed:Tryz.prog.follows .mixedOrders=true:=by kernel_rfl
  unfold opV
  go_enter Tryz.func87,Tryz.ntmps87
  go_upto_region 1 with fail
  obtain ⟨g,hg⟩:∃ g,g=w.heap.size:=⟨_,rfl⟩
  rw [← hg]
  have HR2:aj ((w.alloc (.cells #[.int .i64 k,.int .i64 b,.int .i64 s,.int .i64 r,.slice A4 p c4,.slice A5 q c5,.int .i64 f,.int .i64 ow,.int .i64 oh] 47)).heap[g]? = some (.cells #[.int .i64 k,.int .i64 b,.int .i64 s,.int .i64 r,.slice A4 p c4,.slice A5 q c5,.int .i64 f,.int .i64 ow,.int .i64 oh] 47 (0,0))):=⟨by rw [hg];exact HR.out⟩
  clear hg HR
  generalize w.alloc (.cells #[.int .i64 k,.int .i64 b,.int .i64 s,.int .i64 r,.slice A4 p c4,.slice A5 q c5,.int .i64 f,.int .i64 ow,.int .i64 oh] 47)=W0 at HR2 BX ⊢
  have z0:W0.cell? ⟨g,0,none⟩=some (.int .i64 k):=(au HR2.out 0).trans rfl
  have z1:W0.cell? ⟨g,1,none⟩=some (.int .i64 b):=(au HR2.out 1).trans rfl
  have z2:W0.cell? ⟨g,2,none⟩=some (.int .i64 s):=(au HR2.out 2).trans rfl
  have z3:W0.cell? ⟨g,3,none⟩=some (.int .i64 r):=(au HR2.out 3).trans rfl
  have z4:W0.cell? ⟨g,4,none⟩=some (.slice A4 p c4):=(au HR2.out 4).trans rfl
  have z5:W0.cell? ⟨g,5,none⟩=some (.slice A5 q c5):=(au HR2.out 5).trans rfl
  have z6:W0.cell? ⟨g,6,none⟩=some (.int .i64 f):=(au HR2.out 6).trans rfl
  have z7:W0.cell? ⟨g,7,none⟩=some (.int .i64 ow):=(au HR2.out 7).trans rfl
  have z8:W0.cell? ⟨g,8,none⟩=some (.int .i64 oh):=(au HR2.out 8).trans rfl
  go_wp2_with (first
    | (go_at_call 105;refine (HW.out _ BX.out).mono ?_;rintro e w1 ⟨v0,v1,rfl,hv0,hv1,hb1⟩;obtain ⟨Au,cu,rfl,lu,gu⟩:=hv0;obtain ⟨Av,cv,rfl,lv,gv⟩:=hv1;have GU:=aj.mk (Kd.abK gu);have GV:=aj.mk (Kd.abK gv);have B1:=aj.mk (ak BX.out hb1);clear gu gv hb1))
  go_ret3
  exact ⟨B1.out,_,_,rfl⟩
set_option maxHeartbeats 8000000 in
set_option maxRecDepth 100000 in
theorem ae9 (K:Nat) (k b s r:Int) (A4:Option Addr) (c4:Nat) (x:List Int) (A5:Option Addr) (c5:Nat) (y:List Int) (f ow oh c:Int) (N1 N2:Nat) (u v:List Int) (w:World) (hx:Kd.C (Kd.int .i64) w A4 x.length x) (lx:x.length≤c4) (hy:Kd.C (Kd.int .i64) w A5 y.length y) (ly:y.length≤c5) (hk:k≠3) (hu:∀ z ∈ u,I64 z) (hv:∀ z ∈ v,I64 z) (lu:u.length < 4611686018427387904) (lv:v.length < 4611686018427387904) (n1:1≤N1∧N1≤65536) (n2:1≤N2∧N2≤65536) (hw:lK.f K k b s r x y f ow oh=some (u,v,0)) (k1:iT u N1=c) (hc:c≠0) :
    Calls Tryz.prog 87 #[opV k b s r A4 x.length c4 A5 y.length c5 f ow oh,.int .i64 N1,.int .i64 N2] w (abg c w):=by
  have hwt:=fun w' (hb:Below w.heap.size w w')=>lK.calls K k b s r A4 c4 x A5 c5 y f ow oh u v _ w' (Kd.bY hx hb) lx (Kd.bY hy hb) ly hw
  have HW:=aj.mk hwt
  have F1:=aj.mk (fun w' A c (h1:Kd.C (Kd.int .i64) w' A u.length u) (h2:u.length≤c)=>wC A c u N1 w' h1 h2 hu lu n1.1 n1.2)
  rw [k1] at F1
  have bk:(k == 3)=false:=by simpa using hk
  have HC:=aj.mk hc
  have bc:(c == 0)=false:=by simpa using hc
  have bc2:(c != 0)=true:=by simpa using hc
  obtain ⟨p,hp⟩:∃ p,p=x.length:=⟨_,rfl⟩
  obtain ⟨q,hq⟩:∃ q,q=y.length:=⟨_,rfl⟩
  rw [← hp,← hq] at HW ⊢
  clear hwt hx hy hw lx ly hk hp hq hc k1 hu hv lu lv n1 n2
  have hr:=heap_alloc_new w (.cells #[.int .i64 k,.int .i64 b,.int .i64 s,.int .i64 r,.slice A4 p c4,.slice A5 q c5,.int .i64 f,.int .i64 ow,.int .i64 oh] 47)
  have BX:=aj.mk (aT (Below.refl w.heap.size w) (.cells #[.int .i64 k,.int .i64 b,.int .i64 s,.int .i64 r,.slice A4 p c4,.slice A5 q c5,.int .i64 f,.int .i64 ow,.int .i64 oh] 47))
  have HR:=aj.mk hr
  clear hr
  have mixed:Tryz.prog.follows .mixedOrders=true:=by kernel_rfl
  unfold opV
  go_enter Tryz.func87,Tryz.ntmps87
  go_upto_region 1 with fail
  obtain ⟨g,hg⟩:∃ g,g=w.heap.size:=⟨_,rfl⟩
  rw [← hg]
  have HR2:aj ((w.alloc (.cells #[.int .i64 k,.int .i64 b,.int .i64 s,.int .i64 r,.slice A4 p c4,.slice A5 q c5,.int .i64 f,.int .i64 ow,.int .i64 oh] 47)).heap[g]? = some (.cells #[.int .i64 k,.int .i64 b,.int .i64 s,.int .i64 r,.slice A4 p c4,.slice A5 q c5,.int .i64 f,.int .i64 ow,.int .i64 oh] 47 (0,0))):=⟨by rw [hg];exact HR.out⟩
  clear hg HR
  generalize w.alloc (.cells #[.int .i64 k,.int .i64 b,.int .i64 s,.int .i64 r,.slice A4 p c4,.slice A5 q c5,.int .i64 f,.int .i64 ow,.int .i64 oh] 47)=W0 at HR2 BX ⊢
  have z0:W0.cell? ⟨g,0,none⟩=some (.int .i64 k):=(au HR2.out 0).trans rfl
  have z1:W0.cell? ⟨g,1,none⟩=some (.int .i64 b):=(au HR2.out 1).trans rfl
  have z2:W0.cell? ⟨g,2,none⟩=some (.int .i64 s):=(au HR2.out 2).trans rfl
  have z3:W0.cell? ⟨g,3,none⟩=some (.int .i64 r):=(au HR2.out 3).trans rfl
  have z4:W0.cell? ⟨g,4,none⟩=some (.slice A4 p c4):=(au HR2.out 4).trans rfl
  have z5:W0.cell? ⟨g,5,none⟩=some (.slice A5 q c5):=(au HR2.out 5).trans rfl
  have z6:W0.cell? ⟨g,6,none⟩=some (.int .i64 f):=(au HR2.out 6).trans rfl
  have z7:W0.cell? ⟨g,7,none⟩=some (.int .i64 ow):=(au HR2.out 7).trans rfl
  have z8:W0.cell? ⟨g,8,none⟩=some (.int .i64 oh):=(au HR2.out 8).trans rfl
  go_wp2_with (first
    | (go_at_call 105;refine (HW.out _ BX.out).mono ?_;rintro e w1 ⟨v0,v1,rfl,hv0,hv1,hb1⟩;obtain ⟨Au,cu,rfl,lu,gu⟩:=hv0;obtain ⟨Av,cv,rfl,lv,gv⟩:=hv1;have GU:=aj.mk (Kd.abK gu);have GV:=aj.mk (Kd.abK gv);have B1:=aj.mk (ak BX.out hb1);clear gu gv hb1)
    | (go_at_call 106;(with_reducible refine (F1.out w1 Au cu GU.out lu).mono ?_);rintro e w2 ⟨hb2,hT⟩;rw [if_neg HC.out] at hT;subst hT;have B2:=aj.mk (ak B1.out hb2);clear hb2))
  go_ret3
  exact ⟨B2.out,_,_,rfl⟩
set_option maxHeartbeats 8000000 in
set_option maxRecDepth 100000 in
theorem afa (K:Nat) (k b s r:Int) (A4:Option Addr) (c4:Nat) (x:List Int) (A5:Option Addr) (c5:Nat) (y:List Int) (f ow oh c:Int) (N1 N2:Nat) (u v:List Int) (w:World) (hx:Kd.C (Kd.int .i64) w A4 x.length x) (lx:x.length≤c4) (hy:Kd.C (Kd.int .i64) w A5 y.length y) (ly:y.length≤c5) (hk:k≠3) (hu:∀ z ∈ u,I64 z) (hv:∀ z ∈ v,I64 z) (lu:u.length < 4611686018427387904) (lv:v.length < 4611686018427387904) (n1:1≤N1∧N1≤65536) (n2:1≤N2∧N2≤65536) (hw:lK.f K k b s r x y f ow oh=some (u,v,0)) (k1:iT u N1=0) (k2:iT v N2=c) (hc:c≠0) :
    Calls Tryz.prog 87 #[opV k b s r A4 x.length c4 A5 y.length c5 f ow oh,.int .i64 N1,.int .i64 N2] w (abg c w):=by
  have hwt:=fun w' (hb:Below w.heap.size w w')=>lK.calls K k b s r A4 c4 x A5 c5 y f ow oh u v _ w' (Kd.bY hx hb) lx (Kd.bY hy hb) ly hw
  have HW:=aj.mk hwt
  have F1:=aj.mk (fun w' A c (h1:Kd.C (Kd.int .i64) w' A u.length u) (h2:u.length≤c)=>wC A c u N1 w' h1 h2 hu lu n1.1 n1.2)
  rw [k1] at F1
  have F2:=aj.mk (fun w' A c (h1:Kd.C (Kd.int .i64) w' A v.length v) (h2:v.length≤c)=>wC A c v N2 w' h1 h2 hv lv n2.1 n2.2)
  rw [k2] at F2
  clear k2
  have bk:(k == 3)=false:=by simpa using hk
  have HC:=aj.mk hc
  have bc:(c == 0)=false:=by simpa using hc
  have bc2:(c != 0)=true:=by simpa using hc
  obtain ⟨p,hp⟩:∃ p,p=x.length:=⟨_,rfl⟩
  obtain ⟨q,hq⟩:∃ q,q=y.length:=⟨_,rfl⟩
  rw [← hp,← hq] at HW ⊢
  clear hwt hx hy hw lx ly hk hp hq hc k1 hu hv lu lv n1 n2
  have hr:=heap_alloc_new w (.cells #[.int .i64 k,.int .i64 b,.int .i64 s,.int .i64 r,.slice A4 p c4,.slice A5 q c5,.int .i64 f,.int .i64 ow,.int .i64 oh] 47)
  have BX:=aj.mk (aT (Below.refl w.heap.size w) (.cells #[.int .i64 k,.int .i64 b,.int .i64 s,.int .i64 r,.slice A4 p c4,.slice A5 q c5,.int .i64 f,.int .i64 ow,.int .i64 oh] 47))
  have HR:=aj.mk hr
  clear hr
  have mixed:Tryz.prog.follows .mixedOrders=true:=by kernel_rfl
  unfold opV
  go_enter Tryz.func87,Tryz.ntmps87
  go_upto_region 1 with fail
  obtain ⟨g,hg⟩:∃ g,g=w.heap.size:=⟨_,rfl⟩
  rw [← hg]
  have HR2:aj ((w.alloc (.cells #[.int .i64 k,.int .i64 b,.int .i64 s,.int .i64 r,.slice A4 p c4,.slice A5 q c5,.int .i64 f,.int .i64 ow,.int .i64 oh] 47)).heap[g]? = some (.cells #[.int .i64 k,.int .i64 b,.int .i64 s,.int .i64 r,.slice A4 p c4,.slice A5 q c5,.int .i64 f,.int .i64 ow,.int .i64 oh] 47 (0,0))):=⟨by rw [hg];exact HR.out⟩
  clear hg HR
  generalize w.alloc (.cells #[.int .i64 k,.int .i64 b,.int .i64 s,.int .i64 r,.slice A4 p c4,.slice A5 q c5,.int .i64 f,.int .i64 ow,.int .i64 oh] 47)=W0 at HR2 BX ⊢
  have z0:W0.cell? ⟨g,0,none⟩=some (.int .i64 k):=(au HR2.out 0).trans rfl
  have z1:W0.cell? ⟨g,1,none⟩=some (.int .i64 b):=(au HR2.out 1).trans rfl
  have z2:W0.cell? ⟨g,2,none⟩=some (.int .i64 s):=(au HR2.out 2).trans rfl
  have z3:W0.cell? ⟨g,3,none⟩=some (.int .i64 r):=(au HR2.out 3).trans rfl
  have z4:W0.cell? ⟨g,4,none⟩=some (.slice A4 p c4):=(au HR2.out 4).trans rfl
  have z5:W0.cell? ⟨g,5,none⟩=some (.slice A5 q c5):=(au HR2.out 5).trans rfl
  have z6:W0.cell? ⟨g,6,none⟩=some (.int .i64 f):=(au HR2.out 6).trans rfl
  have z7:W0.cell? ⟨g,7,none⟩=some (.int .i64 ow):=(au HR2.out 7).trans rfl
  have z8:W0.cell? ⟨g,8,none⟩=some (.int .i64 oh):=(au HR2.out 8).trans rfl
  go_wp2_with (first
    | (go_at_call 105;refine (HW.out _ BX.out).mono ?_;rintro e w1 ⟨v0,v1,rfl,hv0,hv1,hb1⟩;obtain ⟨Au,cu,rfl,lu,gu⟩:=hv0;obtain ⟨Av,cv,rfl,lv,gv⟩:=hv1;have GU:=aj.mk (Kd.abK gu);have GV:=aj.mk (Kd.abK gv);have B1:=aj.mk (ak BX.out hb1);clear gu gv hb1)
    | (go_at_call 106;(with_reducible refine (F1.out w1 Au cu GU.out lu).mono ?_);rintro e w2 ⟨hb2,hT⟩;rw [if_pos rfl] at hT;obtain ⟨bx,rfl,hT⟩:=hT;have B2:=aj.mk (ak B1.out hb2);have GV2:=aj.mk (Kd.bY GV.out hb2);clear hb2 hT)
    | (go_at_call 106;(with_reducible refine (F2.out w2 Av cv GV2.out lv).mono ?_);rintro e w3 ⟨hb3,hT⟩;rw [if_neg HC.out] at hT;subst hT;have B3:=aj.mk (ak B2.out hb3);clear hb3))
  go_ret3
  exact ⟨B3.out,_,_,rfl⟩
set_option maxHeartbeats 8000000 in
set_option maxRecDepth 100000 in
theorem aoK (k b s r:Int) (A4:Option Addr) (c4:Nat) (x:List Int) (A5:Option Addr) (c5:Nat) (y:List Int) (f ow oh W H:Int) (w:World) (hG:GL w) (hx:Kd.C (Kd.int .i64) w A4 x.length x) (lx:x.length≤c4) (hy:Kd.C (Kd.int .i64) w A5 y.length y) (ly:y.length≤c5)
    (hm:jH.f 1 k b s r x y f ow oh=some false) :
    Calls Tryz.prog 51 #[opV k b s r A4 x.length c4 A5 y.length c5 f ow oh,.int .i64 W,.int .i64 H] w (acZ 6 w):=by
  have hmy:=fun w' (hb:Below w.heap.size w w')=>jH.calls 1 k b s r A4 c4 x A5 c5 y f ow oh false w' (Kd.bY hx hb) lx (Kd.bY hy hb) ly (hG.below hb) hm
  have HM:=aj.mk hmy
  obtain ⟨p,hp⟩:∃ p,p=x.length:=⟨_,rfl⟩
  obtain ⟨q,hq⟩:∃ q,q=y.length:=⟨_,rfl⟩
  rw [← hp,← hq] at HM ⊢
  have hr:=heap_alloc_new w (.cells #[.int .i64 k,.int .i64 b,.int .i64 s,.int .i64 r,.slice A4 p c4,.slice A5 q c5,.int .i64 f,.int .i64 ow,.int .i64 oh] 47)
  have BX:=aj.mk (aT (Below.refl w.heap.size w) (.cells #[.int .i64 k,.int .i64 b,.int .i64 s,.int .i64 r,.slice A4 p c4,.slice A5 q c5,.int .i64 f,.int .i64 ow,.int .i64 oh] 47))
  have HR:=aj.mk hr
  clear hmy hr hx hy lx ly hm hG hp hq
  have mixed:Tryz.prog.follows .mixedOrders=true:=by kernel_rfl
  unfold opV
  go_enter Tryz.func51,Tryz.ntmps51
  go_upto_region 1 with fail
  obtain ⟨g,hg⟩:∃ g,g=w.heap.size:=⟨_,rfl⟩
  rw [← hg]
  have h1:((w.alloc (.cells #[.int .i64 k,.int .i64 b,.int .i64 s,.int .i64 r,.slice A4 p c4,.slice A5 q c5,.int .i64 f,.int .i64 ow,.int .i64 oh] 47)).alloc (.cells #[.pointer none,.pointer none,.int .i64 0] 38)).heap[g]? = some (.cells #[.int .i64 k,.int .i64 b,.int .i64 s,.int .i64 r,.slice A4 p c4,.slice A5 q c5,.int .i64 f,.int .i64 ow,.int .i64 oh] 47 (0,0)):=by rw [rF _ _ _ (by simp [hg]),hg];exact HR.out
  have h2:((w.alloc (.cells #[.int .i64 k,.int .i64 b,.int .i64 s,.int .i64 r,.slice A4 p c4,.slice A5 q c5,.int .i64 f,.int .i64 ow,.int .i64 oh] 47)).alloc (.cells #[.pointer none,.pointer none,.int .i64 0] 38)).heap[g+1]? = some (.cells #[.pointer none,.pointer none,.int .i64 0] 38 (0,0)):=yL _ _ _ (by simp [hg])
  have BY:=aj.mk (aT BX.out (.cells #[.pointer none,.pointer none,.int .i64 0] 38))
  have HG2:=aj.mk (show w.heap.size≤g+1 by omega)
  clear hg HR BX
  generalize (w.alloc (.cells #[.int .i64 k,.int .i64 b,.int .i64 s,.int .i64 r,.slice A4 p c4,.slice A5 q c5,.int .i64 f,.int .i64 ow,.int .i64 oh] 47)).alloc (.cells #[.pointer none,.pointer none,.int .i64 0] 38)=W2 at h1 h2 BY ⊢
  have z0:W2.cell? ⟨g,0,none⟩=some (.int .i64 k):=(au h1 0).trans rfl
  have z1:W2.cell? ⟨g,1,none⟩=some (.int .i64 b):=(au h1 1).trans rfl
  have z2:W2.cell? ⟨g,2,none⟩=some (.int .i64 s):=(au h1 2).trans rfl
  have z3:W2.cell? ⟨g,3,none⟩=some (.int .i64 r):=(au h1 3).trans rfl
  have z4:W2.cell? ⟨g,4,none⟩=some (.slice A4 p c4):=(au h1 4).trans rfl
  have z5:W2.cell? ⟨g,5,none⟩=some (.slice A5 q c5):=(au h1 5).trans rfl
  have z6:W2.cell? ⟨g,6,none⟩=some (.int .i64 f):=(au h1 6).trans rfl
  have z7:W2.cell? ⟨g,7,none⟩=some (.int .i64 ow):=(au h1 7).trans rfl
  have z8:W2.cell? ⟨g,8,none⟩=some (.int .i64 oh):=(au h1 8).trans rfl
  have H1:=aj.mk h1
  have H2:=aj.mk h2
  clear h1 h2
  go_upto_region 2 with (first
    | (go_at_call 85;refine (HM.out _ BY.out).mono ?_;rintro e w3 ⟨rfl,hb3⟩;have B3:=aj.mk (ak BY.out hb3);have H13:=aj.mk ((hb3.block g (dJ H1.out)).trans H1.out);have H23:=aj.mk ((hb3.block (g+1) (dJ H2.out)).trans H2.out);clear hb3))
  have B4:=aj.mk (B3.out)
  have h1:w3.heap[g]? = some (.cells #[.int .i64 k,.int .i64 b,.int .i64 s,.int .i64 r,.slice A4 p c4,.slice A5 q c5,.int .i64 f,.int .i64 ow,.int .i64 oh] 47 (0,0)):=H13.out
  have h2:w3.heap[g+1]? = some (.cells #[.pointer none,.pointer none,.int .i64 0] 38 (0,0)):=H23.out
  clear z0 z1 z2 z3 z4 z5 z6 z7 z8 HM B3 H13 H23 H1 H2 BY
  generalize w3=w4 at h1 h2 B4 ⊢
  have q0:w4.cell? ⟨g+1,0,none⟩=some (.pointer none):=(au h2 0).trans rfl
  have q1:w4.cell? ⟨g+1,1,none⟩=some (.pointer none):=(au h2 1).trans rfl
  have q2:w4.cell? ⟨g+1,2,none⟩=some (.int .i64 0):=(au h2 2).trans rfl
  have f0:=aN h2 0
  have f1:=aN h2 1
  have f2:=aN h2 2
  have HS:=aj.mk h2
  clear h2
  go_wp2
  have hc:(((w4.setCell ⟨g+1,0,none⟩ (.pointer none)).setCell ⟨g+1,1,none⟩ (.pointer none)).setCell ⟨g+1,2,none⟩ (.int .i64 0)).heap[g+1]? = some (.cells #[.pointer none,.pointer none,.int .i64 0] 38 (0,0)):=by simpa using bP (bP (bP HS.out 0 (.pointer none)) 1 (.pointer none)) 2 (.int .i64 0)
  have B6:=aj.mk (((B4.out.setCell (p:=⟨g+1,0,none⟩) HG2.out (.pointer none)).setCell (p:=⟨g+1,1,none⟩) HG2.out (.pointer none)).setCell (p:=⟨g+1,2,none⟩) HG2.out (.int .i64 0))
  clear q0 q1 q2 f0 f1 f2
  generalize ((w4.setCell ⟨g+1,0,none⟩ (.pointer none)).setCell ⟨g+1,1,none⟩ (.pointer none)).setCell ⟨g+1,2,none⟩ (.int .i64 0)=w6 at hc B6 ⊢
  have p0:w6.cell? ⟨g+1,0,none⟩=some (.pointer none):=(au hc 0).trans rfl
  have p1:w6.cell? ⟨g+1,1,none⟩=some (.pointer none):=(au hc 1).trans rfl
  have p2:w6.cell? ⟨g+1,2,none⟩=some (.int .i64 0):=(au hc 2).trans rfl
  clear hc
  refine bodyPost_ret (by simp [results,Tryz.results51,go_sem,p0,p1,p2];try rfl) rfl ?_
  exact ⟨B6.out,rfl⟩
set_option maxHeartbeats 8000000 in
set_option maxRecDepth 100000 in
theorem aoL (k b s r:Int) (A4:Option Addr) (c4:Nat) (x:List Int) (A5:Option Addr) (c5:Nat) (y:List Int) (f ow oh W H:Int) (w:World) (hG:GL w) (hx:Kd.C (Kd.int .i64) w A4 x.length x) (lx:x.length≤c4) (hy:Kd.C (Kd.int .i64) w A5 y.length y) (ly:y.length≤c5)
    (hm:jH.f 1 k b s r x y f ow oh=some true) (hW:¬ (1≤W∧W≤65536)) :
    Calls Tryz.prog 51 #[opV k b s r A4 x.length c4 A5 y.length c5 f ow oh,.int .i64 W,.int .i64 H] w (acZ 6 w):=by
  have hmy:=fun w' (hb:Below w.heap.size w w')=>jH.calls 1 k b s r A4 c4 x A5 c5 y f ow oh true w' (Kd.bY hx hb) lx (Kd.bY hy hb) ly (hG.below hb) hm
  have hs1:jl.f W=some false:=by rw [nY,decide_eq_false hW]
  have HM:=aj.mk hmy
  obtain ⟨p,hp⟩:∃ p,p=x.length:=⟨_,rfl⟩
  obtain ⟨q,hq⟩:∃ q,q=y.length:=⟨_,rfl⟩
  rw [← hp,← hq] at HM ⊢
  have hr:=heap_alloc_new w (.cells #[.int .i64 k,.int .i64 b,.int .i64 s,.int .i64 r,.slice A4 p c4,.slice A5 q c5,.int .i64 f,.int .i64 ow,.int .i64 oh] 47)
  have BX:=aj.mk (aT (Below.refl w.heap.size w) (.cells #[.int .i64 k,.int .i64 b,.int .i64 s,.int .i64 r,.slice A4 p c4,.slice A5 q c5,.int .i64 f,.int .i64 ow,.int .i64 oh] 47))
  have HR:=aj.mk hr
  clear hmy hr hx hy lx ly hm hG hp hq hW
  have mixed:Tryz.prog.follows .mixedOrders=true:=by kernel_rfl
  unfold opV
  go_enter Tryz.func51,Tryz.ntmps51
  go_upto_region 1 with fail
  obtain ⟨g,hg⟩:∃ g,g=w.heap.size:=⟨_,rfl⟩
  rw [← hg]
  have h1:((w.alloc (.cells #[.int .i64 k,.int .i64 b,.int .i64 s,.int .i64 r,.slice A4 p c4,.slice A5 q c5,.int .i64 f,.int .i64 ow,.int .i64 oh] 47)).alloc (.cells #[.pointer none,.pointer none,.int .i64 0] 38)).heap[g]? = some (.cells #[.int .i64 k,.int .i64 b,.int .i64 s,.int .i64 r,.slice A4 p c4,.slice A5 q c5,.int .i64 f,.int .i64 ow,.int .i64 oh] 47 (0,0)):=by rw [rF _ _ _ (by simp [hg]),hg];exact HR.out
  have h2:((w.alloc (.cells #[.int .i64 k,.int .i64 b,.int .i64 s,.int .i64 r,.slice A4 p c4,.slice A5 q c5,.int .i64 f,.int .i64 ow,.int .i64 oh] 47)).alloc (.cells #[.pointer none,.pointer none,.int .i64 0] 38)).heap[g+1]? = some (.cells #[.pointer none,.pointer none,.int .i64 0] 38 (0,0)):=yL _ _ _ (by simp [hg])
  have BY:=aj.mk (aT BX.out (.cells #[.pointer none,.pointer none,.int .i64 0] 38))
  have HG2:=aj.mk (show w.heap.size≤g+1 by omega)
  clear hg HR BX
  generalize (w.alloc (.cells #[.int .i64 k,.int .i64 b,.int .i64 s,.int .i64 r,.slice A4 p c4,.slice A5 q c5,.int .i64 f,.int .i64 ow,.int .i64 oh] 47)).alloc (.cells #[.pointer none,.pointer none,.int .i64 0] 38)=W2 at h1 h2 BY ⊢
  have z0:W2.cell? ⟨g,0,none⟩=some (.int .i64 k):=(au h1 0).trans rfl
  have z1:W2.cell? ⟨g,1,none⟩=some (.int .i64 b):=(au h1 1).trans rfl
  have z2:W2.cell? ⟨g,2,none⟩=some (.int .i64 s):=(au h1 2).trans rfl
  have z3:W2.cell? ⟨g,3,none⟩=some (.int .i64 r):=(au h1 3).trans rfl
  have z4:W2.cell? ⟨g,4,none⟩=some (.slice A4 p c4):=(au h1 4).trans rfl
  have z5:W2.cell? ⟨g,5,none⟩=some (.slice A5 q c5):=(au h1 5).trans rfl
  have z6:W2.cell? ⟨g,6,none⟩=some (.int .i64 f):=(au h1 6).trans rfl
  have z7:W2.cell? ⟨g,7,none⟩=some (.int .i64 ow):=(au h1 7).trans rfl
  have z8:W2.cell? ⟨g,8,none⟩=some (.int .i64 oh):=(au h1 8).trans rfl
  have H1:=aj.mk h1
  have H2:=aj.mk h2
  clear h1 h2
  go_upto_region 2 with (first
    | (go_at_call 85;refine (HM.out _ BY.out).mono ?_;rintro e w3 ⟨rfl,hb3⟩;have B3:=aj.mk (ak BY.out hb3);have H13:=aj.mk ((hb3.block g (dJ H1.out)).trans H1.out);have H23:=aj.mk ((hb3.block (g+1) (dJ H2.out)).trans H2.out);clear hb3)
    | (go_at_call 86;(with_reducible refine (jl.calls W false _ hs1).mono ?_);rintro e w' ⟨rfl,⟨nd1,rfl⟩⟩))
  have B4:=aj.mk (aI B3.out nd1)
  have h1:(w3.drewN nd1).heap[g]? = some (.cells #[.int .i64 k,.int .i64 b,.int .i64 s,.int .i64 r,.slice A4 p c4,.slice A5 q c5,.int .i64 f,.int .i64 ow,.int .i64 oh] 47 (0,0)):=H13.out
  have h2:(w3.drewN nd1).heap[g+1]? = some (.cells #[.pointer none,.pointer none,.int .i64 0] 38 (0,0)):=H23.out
  clear hs1 z0 z1 z2 z3 z4 z5 z6 z7 z8 HM B3 H13 H23 H1 H2 BY
  generalize w3.drewN nd1=w4 at h1 h2 B4 ⊢
  have q0:w4.cell? ⟨g+1,0,none⟩=some (.pointer none):=(au h2 0).trans rfl
  have q1:w4.cell? ⟨g+1,1,none⟩=some (.pointer none):=(au h2 1).trans rfl
  have q2:w4.cell? ⟨g+1,2,none⟩=some (.int .i64 0):=(au h2 2).trans rfl
  have f0:=aN h2 0
  have f1:=aN h2 1
  have f2:=aN h2 2
  have HS:=aj.mk h2
  clear h2
  go_wp2
  have hc:(((w4.setCell ⟨g+1,0,none⟩ (.pointer none)).setCell ⟨g+1,1,none⟩ (.pointer none)).setCell ⟨g+1,2,none⟩ (.int .i64 0)).heap[g+1]? = some (.cells #[.pointer none,.pointer none,.int .i64 0] 38 (0,0)):=by simpa using bP (bP (bP HS.out 0 (.pointer none)) 1 (.pointer none)) 2 (.int .i64 0)
  have B6:=aj.mk (((B4.out.setCell (p:=⟨g+1,0,none⟩) HG2.out (.pointer none)).setCell (p:=⟨g+1,1,none⟩) HG2.out (.pointer none)).setCell (p:=⟨g+1,2,none⟩) HG2.out (.int .i64 0))
  clear q0 q1 q2 f0 f1 f2
  generalize ((w4.setCell ⟨g+1,0,none⟩ (.pointer none)).setCell ⟨g+1,1,none⟩ (.pointer none)).setCell ⟨g+1,2,none⟩ (.int .i64 0)=w6 at hc B6 ⊢
  have p0:w6.cell? ⟨g+1,0,none⟩=some (.pointer none):=(au hc 0).trans rfl
  have p1:w6.cell? ⟨g+1,1,none⟩=some (.pointer none):=(au hc 1).trans rfl
  have p2:w6.cell? ⟨g+1,2,none⟩=some (.int .i64 0):=(au hc 2).trans rfl
  clear hc
  refine bodyPost_ret (by simp [results,Tryz.results51,go_sem,p0,p1,p2];try rfl) rfl ?_
  exact ⟨B6.out,rfl⟩
set_option maxHeartbeats 8000000 in
set_option maxRecDepth 100000 in
theorem aoM (k b s r:Int) (A4:Option Addr) (c4:Nat) (x:List Int) (A5:Option Addr) (c5:Nat) (y:List Int) (f ow oh W H:Int) (w:World) (hG:GL w) (hx:Kd.C (Kd.int .i64) w A4 x.length x) (lx:x.length≤c4) (hy:Kd.C (Kd.int .i64) w A5 y.length y) (ly:y.length≤c5)
    (hm:jH.f 1 k b s r x y f ow oh=some true) (hW:1≤W∧W≤65536) (hH:¬ (1≤H∧H≤65536)) :
    Calls Tryz.prog 51 #[opV k b s r A4 x.length c4 A5 y.length c5 f ow oh,.int .i64 W,.int .i64 H] w (acZ 6 w):=by
  have hmy:=fun w' (hb:Below w.heap.size w w')=>jH.calls 1 k b s r A4 c4 x A5 c5 y f ow oh true w' (Kd.bY hx hb) lx (Kd.bY hy hb) ly (hG.below hb) hm
  have hs1:jl.f W=some true:=by rw [nY,decide_eq_true hW]
  have hs2:jl.f H=some false:=by rw [nY,decide_eq_false hH]
  have HM:=aj.mk hmy
  obtain ⟨p,hp⟩:∃ p,p=x.length:=⟨_,rfl⟩
  obtain ⟨q,hq⟩:∃ q,q=y.length:=⟨_,rfl⟩
  rw [← hp,← hq] at HM ⊢
  have hr:=heap_alloc_new w (.cells #[.int .i64 k,.int .i64 b,.int .i64 s,.int .i64 r,.slice A4 p c4,.slice A5 q c5,.int .i64 f,.int .i64 ow,.int .i64 oh] 47)
  have BX:=aj.mk (aT (Below.refl w.heap.size w) (.cells #[.int .i64 k,.int .i64 b,.int .i64 s,.int .i64 r,.slice A4 p c4,.slice A5 q c5,.int .i64 f,.int .i64 ow,.int .i64 oh] 47))
  have HR:=aj.mk hr
  clear hmy hr hx hy lx ly hm hG hp hq hW hH
  have mixed:Tryz.prog.follows .mixedOrders=true:=by kernel_rfl
  unfold opV
  go_enter Tryz.func51,Tryz.ntmps51
  go_upto_region 1 with fail
  obtain ⟨g,hg⟩:∃ g,g=w.heap.size:=⟨_,rfl⟩
  rw [← hg]
  have h1:((w.alloc (.cells #[.int .i64 k,.int .i64 b,.int .i64 s,.int .i64 r,.slice A4 p c4,.slice A5 q c5,.int .i64 f,.int .i64 ow,.int .i64 oh] 47)).alloc (.cells #[.pointer none,.pointer none,.int .i64 0] 38)).heap[g]? = some (.cells #[.int .i64 k,.int .i64 b,.int .i64 s,.int .i64 r,.slice A4 p c4,.slice A5 q c5,.int .i64 f,.int .i64 ow,.int .i64 oh] 47 (0,0)):=by rw [rF _ _ _ (by simp [hg]),hg];exact HR.out
  have h2:((w.alloc (.cells #[.int .i64 k,.int .i64 b,.int .i64 s,.int .i64 r,.slice A4 p c4,.slice A5 q c5,.int .i64 f,.int .i64 ow,.int .i64 oh] 47)).alloc (.cells #[.pointer none,.pointer none,.int .i64 0] 38)).heap[g+1]? = some (.cells #[.pointer none,.pointer none,.int .i64 0] 38 (0,0)):=yL _ _ _ (by simp [hg])
  have BY:=aj.mk (aT BX.out (.cells #[.pointer none,.pointer none,.int .i64 0] 38))
  have HG2:=aj.mk (show w.heap.size≤g+1 by omega)
  clear hg HR BX
  generalize (w.alloc (.cells #[.int .i64 k,.int .i64 b,.int .i64 s,.int .i64 r,.slice A4 p c4,.slice A5 q c5,.int .i64 f,.int .i64 ow,.int .i64 oh] 47)).alloc (.cells #[.pointer none,.pointer none,.int .i64 0] 38)=W2 at h1 h2 BY ⊢
  have z0:W2.cell? ⟨g,0,none⟩=some (.int .i64 k):=(au h1 0).trans rfl
  have z1:W2.cell? ⟨g,1,none⟩=some (.int .i64 b):=(au h1 1).trans rfl
  have z2:W2.cell? ⟨g,2,none⟩=some (.int .i64 s):=(au h1 2).trans rfl
  have z3:W2.cell? ⟨g,3,none⟩=some (.int .i64 r):=(au h1 3).trans rfl
  have z4:W2.cell? ⟨g,4,none⟩=some (.slice A4 p c4):=(au h1 4).trans rfl
  have z5:W2.cell? ⟨g,5,none⟩=some (.slice A5 q c5):=(au h1 5).trans rfl
  have z6:W2.cell? ⟨g,6,none⟩=some (.int .i64 f):=(au h1 6).trans rfl
  have z7:W2.cell? ⟨g,7,none⟩=some (.int .i64 ow):=(au h1 7).trans rfl
  have z8:W2.cell? ⟨g,8,none⟩=some (.int .i64 oh):=(au h1 8).trans rfl
  have H1:=aj.mk h1
  have H2:=aj.mk h2
  clear h1 h2
  go_upto_region 2 with (first
    | (go_at_call 85;refine (HM.out _ BY.out).mono ?_;rintro e w3 ⟨rfl,hb3⟩;have B3:=aj.mk (ak BY.out hb3);have H13:=aj.mk ((hb3.block g (dJ H1.out)).trans H1.out);have H23:=aj.mk ((hb3.block (g+1) (dJ H2.out)).trans H2.out);clear hb3)
    | (go_at_call 86;(with_reducible refine (jl.calls W true _ hs1).mono ?_);rintro e w' ⟨rfl,⟨nd1,rfl⟩⟩)
    | (go_at_call 86;(with_reducible refine (jl.calls H false _ hs2).mono ?_);rintro e w' ⟨rfl,⟨nd2,rfl⟩⟩))
  have B4:=aj.mk (aI B3.out (nd1+nd2))
  have h1:(w3.drewN (nd1+nd2)).heap[g]? = some (.cells #[.int .i64 k,.int .i64 b,.int .i64 s,.int .i64 r,.slice A4 p c4,.slice A5 q c5,.int .i64 f,.int .i64 ow,.int .i64 oh] 47 (0,0)):=H13.out
  have h2:(w3.drewN (nd1+nd2)).heap[g+1]? = some (.cells #[.pointer none,.pointer none,.int .i64 0] 38 (0,0)):=H23.out
  clear hs1 hs2 z0 z1 z2 z3 z4 z5 z6 z7 z8 HM B3 H13 H23 H1 H2 BY
  generalize w3.drewN (nd1+nd2)=w4 at h1 h2 B4 ⊢
  have q0:w4.cell? ⟨g+1,0,none⟩=some (.pointer none):=(au h2 0).trans rfl
  have q1:w4.cell? ⟨g+1,1,none⟩=some (.pointer none):=(au h2 1).trans rfl
  have q2:w4.cell? ⟨g+1,2,none⟩=some (.int .i64 0):=(au h2 2).trans rfl
  have f0:=aN h2 0
  have f1:=aN h2 1
  have f2:=aN h2 2
  have HS:=aj.mk h2
  clear h2
  go_wp2
  have hc:(((w4.setCell ⟨g+1,0,none⟩ (.pointer none)).setCell ⟨g+1,1,none⟩ (.pointer none)).setCell ⟨g+1,2,none⟩ (.int .i64 0)).heap[g+1]? = some (.cells #[.pointer none,.pointer none,.int .i64 0] 38 (0,0)):=by simpa using bP (bP (bP HS.out 0 (.pointer none)) 1 (.pointer none)) 2 (.int .i64 0)
  have B6:=aj.mk (((B4.out.setCell (p:=⟨g+1,0,none⟩) HG2.out (.pointer none)).setCell (p:=⟨g+1,1,none⟩) HG2.out (.pointer none)).setCell (p:=⟨g+1,2,none⟩) HG2.out (.int .i64 0))
  clear q0 q1 q2 f0 f1 f2
  generalize ((w4.setCell ⟨g+1,0,none⟩ (.pointer none)).setCell ⟨g+1,1,none⟩ (.pointer none)).setCell ⟨g+1,2,none⟩ (.int .i64 0)=w6 at hc B6 ⊢
  have p0:w6.cell? ⟨g+1,0,none⟩=some (.pointer none):=(au hc 0).trans rfl
  have p1:w6.cell? ⟨g+1,1,none⟩=some (.pointer none):=(au hc 1).trans rfl
  have p2:w6.cell? ⟨g+1,2,none⟩=some (.int .i64 0):=(au hc 2).trans rfl
  clear hc
  refine bodyPost_ret (by simp [results,Tryz.results51,go_sem,p0,p1,p2];try rfl) rfl ?_
  exact ⟨B6.out,rfl⟩
set_option maxHeartbeats 8000000 in
set_option maxRecDepth 100000 in
theorem abr (k b s r:Int) (A4:Option Addr) (c4:Nat) (x:List Int) (A5:Option Addr) (c5:Nat) (y:List Int) (f ow oh W H c:Int) (w:World) (hG:GL w) (hx:Kd.C (Kd.int .i64) w A4 x.length x) (lx:x.length≤c4) (hy:Kd.C (Kd.int .i64) w A5 y.length y) (ly:y.length≤c5)
    (hm:jH.f 1 k b s r x y f ow oh=some true) (hW:1≤W∧W≤65536) (hH:1≤H∧H≤65536) (hc:c≠0) (ht:∀ w',Below w.heap.size w w'→Calls Tryz.prog 87 #[opV k b s r A4 x.length c4 A5 y.length c5 f ow oh,.int .i64 W,.int .i64 H] w' (abg c w')) :
    Calls Tryz.prog 51 #[opV k b s r A4 x.length c4 A5 y.length c5 f ow oh,.int .i64 W,.int .i64 H] w (acZ c w):=by
  have hmy:=fun w' (hb:Below w.heap.size w w')=>jH.calls 1 k b s r A4 c4 x A5 c5 y f ow oh true w' (Kd.bY hx hb) lx (Kd.bY hy hb) ly (hG.below hb) hm
  have hs1:jl.f W=some true:=by rw [nY,decide_eq_true hW]
  have hs2:jl.f H=some true:=by rw [nY,decide_eq_true hH]
  have HT:=aj.mk ht
  have bc2:(c != 0)=true:=by simpa using hc
  have bc:(c == 0)=false:=by simpa using hc
  clear ht hc
  have HM:=aj.mk hmy
  obtain ⟨p,hp⟩:∃ p,p=x.length:=⟨_,rfl⟩
  obtain ⟨q,hq⟩:∃ q,q=y.length:=⟨_,rfl⟩
  rw [← hp,← hq] at HM HT ⊢
  have hr:=heap_alloc_new w (.cells #[.int .i64 k,.int .i64 b,.int .i64 s,.int .i64 r,.slice A4 p c4,.slice A5 q c5,.int .i64 f,.int .i64 ow,.int .i64 oh] 47)
  have BX:=aj.mk (aT (Below.refl w.heap.size w) (.cells #[.int .i64 k,.int .i64 b,.int .i64 s,.int .i64 r,.slice A4 p c4,.slice A5 q c5,.int .i64 f,.int .i64 ow,.int .i64 oh] 47))
  have HR:=aj.mk hr
  clear hmy hr hx hy lx ly hm hG hp hq hW hH
  have mixed:Tryz.prog.follows .mixedOrders=true:=by kernel_rfl
  unfold opV at HT ⊢
  go_enter Tryz.func51,Tryz.ntmps51
  go_upto_region 1 with fail
  obtain ⟨g,hg⟩:∃ g,g=w.heap.size:=⟨_,rfl⟩
  rw [← hg]
  have h1:((w.alloc (.cells #[.int .i64 k,.int .i64 b,.int .i64 s,.int .i64 r,.slice A4 p c4,.slice A5 q c5,.int .i64 f,.int .i64 ow,.int .i64 oh] 47)).alloc (.cells #[.pointer none,.pointer none,.int .i64 0] 38)).heap[g]? = some (.cells #[.int .i64 k,.int .i64 b,.int .i64 s,.int .i64 r,.slice A4 p c4,.slice A5 q c5,.int .i64 f,.int .i64 ow,.int .i64 oh] 47 (0,0)):=by rw [rF _ _ _ (by simp [hg]),hg];exact HR.out
  have h2:((w.alloc (.cells #[.int .i64 k,.int .i64 b,.int .i64 s,.int .i64 r,.slice A4 p c4,.slice A5 q c5,.int .i64 f,.int .i64 ow,.int .i64 oh] 47)).alloc (.cells #[.pointer none,.pointer none,.int .i64 0] 38)).heap[g+1]? = some (.cells #[.pointer none,.pointer none,.int .i64 0] 38 (0,0)):=yL _ _ _ (by simp [hg])
  have BY:=aj.mk (aT BX.out (.cells #[.pointer none,.pointer none,.int .i64 0] 38))
  have HG2:=aj.mk (show w.heap.size≤g+1 by omega)
  clear hg HR BX
  generalize (w.alloc (.cells #[.int .i64 k,.int .i64 b,.int .i64 s,.int .i64 r,.slice A4 p c4,.slice A5 q c5,.int .i64 f,.int .i64 ow,.int .i64 oh] 47)).alloc (.cells #[.pointer none,.pointer none,.int .i64 0] 38)=W2 at h1 h2 BY ⊢
  have z0:W2.cell? ⟨g,0,none⟩=some (.int .i64 k):=(au h1 0).trans rfl
  have z1:W2.cell? ⟨g,1,none⟩=some (.int .i64 b):=(au h1 1).trans rfl
  have z2:W2.cell? ⟨g,2,none⟩=some (.int .i64 s):=(au h1 2).trans rfl
  have z3:W2.cell? ⟨g,3,none⟩=some (.int .i64 r):=(au h1 3).trans rfl
  have z4:W2.cell? ⟨g,4,none⟩=some (.slice A4 p c4):=(au h1 4).trans rfl
  have z5:W2.cell? ⟨g,5,none⟩=some (.slice A5 q c5):=(au h1 5).trans rfl
  have z6:W2.cell? ⟨g,6,none⟩=some (.int .i64 f):=(au h1 6).trans rfl
  have z7:W2.cell? ⟨g,7,none⟩=some (.int .i64 ow):=(au h1 7).trans rfl
  have z8:W2.cell? ⟨g,8,none⟩=some (.int .i64 oh):=(au h1 8).trans rfl
  have H1:=aj.mk h1
  have H2:=aj.mk h2
  clear h1 h2
  go_upto_region 3 with (first
    | (go_at_call 85;refine (HM.out _ BY.out).mono ?_;rintro e w3 ⟨rfl,hb3⟩;have B3:=aj.mk (ak BY.out hb3);have H13:=aj.mk ((hb3.block g (dJ H1.out)).trans H1.out);have H23:=aj.mk ((hb3.block (g+1) (dJ H2.out)).trans H2.out);clear hb3)
    | (go_at_call 86;(with_reducible refine (jl.calls W true _ hs1).mono ?_);rintro e w' ⟨rfl,⟨nd1,rfl⟩⟩)
    | (go_at_call 86;(with_reducible refine (jl.calls H true _ hs2).mono ?_);rintro e w' ⟨rfl,⟨nd2,rfl⟩⟩))
  have B4:=aj.mk (aI B3.out (nd1+nd2))
  have h1:(w3.drewN (nd1+nd2)).heap[g]? = some (.cells #[.int .i64 k,.int .i64 b,.int .i64 s,.int .i64 r,.slice A4 p c4,.slice A5 q c5,.int .i64 f,.int .i64 ow,.int .i64 oh] 47 (0,0)):=H13.out
  have h2:(w3.drewN (nd1+nd2)).heap[g+1]? = some (.cells #[.pointer none,.pointer none,.int .i64 0] 38 (0,0)):=H23.out
  clear hs1 hs2 z0 z1 z2 z3 z4 z5 z6 z7 z8 HM B3 H13 H23 H1 H2 BY
  generalize w3.drewN (nd1+nd2)=w4 at h1 h2 B4 ⊢
  have z0:w4.cell? ⟨g,0,none⟩=some (.int .i64 k):=(au h1 0).trans rfl
  have z1:w4.cell? ⟨g,1,none⟩=some (.int .i64 b):=(au h1 1).trans rfl
  have z2:w4.cell? ⟨g,2,none⟩=some (.int .i64 s):=(au h1 2).trans rfl
  have z3:w4.cell? ⟨g,3,none⟩=some (.int .i64 r):=(au h1 3).trans rfl
  have z4:w4.cell? ⟨g,4,none⟩=some (.slice A4 p c4):=(au h1 4).trans rfl
  have z5:w4.cell? ⟨g,5,none⟩=some (.slice A5 q c5):=(au h1 5).trans rfl
  have z6:w4.cell? ⟨g,6,none⟩=some (.int .i64 f):=(au h1 6).trans rfl
  have z7:w4.cell? ⟨g,7,none⟩=some (.int .i64 ow):=(au h1 7).trans rfl
  have z8:w4.cell? ⟨g,8,none⟩=some (.int .i64 oh):=(au h1 8).trans rfl
  have H1:=aj.mk h1
  have H2:=aj.mk h2
  clear h1 h2
  go_upto_region 4 with (go_at_call 87;refine (HT.out _ B4.out).mono ?_;rintro e w5 ⟨hb5,x5,y5,rfl⟩;have B5:=aj.mk (ak B4.out hb5);have h2:=(hb5.block (g+1) (dJ H2.out)).trans H2.out;clear hb5)
  clear z0 z1 z2 z3 z4 z5 z6 z7 z8 HT B4 H2
  have q0:w5.cell? ⟨g+1,0,none⟩=some (.pointer none):=(au h2 0).trans rfl
  have q1:w5.cell? ⟨g+1,1,none⟩=some (.pointer none):=(au h2 1).trans rfl
  have q2:w5.cell? ⟨g+1,2,none⟩=some (.int .i64 0):=(au h2 2).trans rfl
  have f0:=aN h2 0
  have f1:=aN h2 1
  have f2:=aN h2 2
  have HS:=aj.mk h2
  clear h2
  go_wp2
  have hc:(((w5.setCell ⟨g+1,0,none⟩ (.pointer none)).setCell ⟨g+1,1,none⟩ (.pointer none)).setCell ⟨g+1,2,none⟩ (.int .i64 0)).heap[g+1]? = some (.cells #[.pointer none,.pointer none,.int .i64 0] 38 (0,0)):=by simpa using bP (bP (bP HS.out 0 (.pointer none)) 1 (.pointer none)) 2 (.int .i64 0)
  have B6:=aj.mk (((B5.out.setCell (p:=⟨g+1,0,none⟩) HG2.out (.pointer none)).setCell (p:=⟨g+1,1,none⟩) HG2.out (.pointer none)).setCell (p:=⟨g+1,2,none⟩) HG2.out (.int .i64 0))
  clear q0 q1 q2 f0 f1 f2
  generalize ((w5.setCell ⟨g+1,0,none⟩ (.pointer none)).setCell ⟨g+1,1,none⟩ (.pointer none)).setCell ⟨g+1,2,none⟩ (.int .i64 0)=w6 at hc B6 ⊢
  have p0:w6.cell? ⟨g+1,0,none⟩=some (.pointer none):=(au hc 0).trans rfl
  have p1:w6.cell? ⟨g+1,1,none⟩=some (.pointer none):=(au hc 1).trans rfl
  have p2:w6.cell? ⟨g+1,2,none⟩=some (.int .i64 0):=(au hc 2).trans rfl
  clear hc
  refine bodyPost_ret (by simp [results,Tryz.results51,go_sem,p0,p1,p2];try rfl) rfl ?_
  exact ⟨B6.out,rfl⟩
end Go.Proofs.YtpondkggmcmpfaaGreatDoor.QA
