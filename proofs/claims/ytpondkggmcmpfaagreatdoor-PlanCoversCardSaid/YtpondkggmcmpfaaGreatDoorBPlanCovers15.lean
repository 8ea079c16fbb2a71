/- Joined by wip/tools/bundle.py out of: TR TY. -/
import Derived.Test.YtpondkggmcmpfaaGreatDoorBPlanCovers1
import Derived.Test.YtpondkggmcmpfaaGreatDoorBPlanCovers2
import Derived.Test.YtpondkggmcmpfaaGreatDoorBPlanCovers7
import Derived.Test.YtpondkggmcmpfaaGreatDoorBPlanCovers8
import Derived.Test.YtpondkggmcmpfaaGreatDoorBPlanCovers9
import Derived.Test.YtpondkggmcmpfaaGreatDoorBPlanCovers12
import Derived.Test.YtpondkggmcmpfaaGreatDoorBPlanCovers13
import Derived.Test.YtpondkggmcmpfaaGreatDoorBPlanCovers14
import Derived.Handy
import Derived.Lib.SliceRun
import Derived.Test.YtpondkggmcmpfaaGreatDoorBPlanCovers0
import Derived.Test.YtpondkggmcmpfaaGreatDoorBPlanCovers10
import Derived.Test.YtpondkggmcmpfaaGreatDoorBPlanCovers11
namespace Go.Proofs.YtpondkggmcmpfaaGreatDoor.QA
open Go.RowKit Go.Proofs.YtpondkggmcmpfaaGreatDoorW.PrintWords Go.Proofs.YtpondkggmcmpfaaGreatDoorW.PrintLast Go.Proofs.YtpondkggmcmpfaaGreatDoorW.PrintMore Go.Proofs.YtpondkggmcmpfaaGreatDoor.T
set_option linter.unusedVariables false
set_option linter.unusedSimpArgs false
theorem oG {a:Int} (ha:I64 a):dN.f a=some (siz a):=by
  unfold dN.f siz wrap64
  simp only [mJ]
  split
  · congr 1;omega
  · congr 1;omega
theorem jZ {k:Nat} (hk:1≤k) {h l:Int} (hh:U64 h) (hl:U64 l) (b:Bool):bM.f k h l b=some (hold (sgn b (h*18446744073709551616+l))):=by
  obtain ⟨k,rfl⟩:∃ n,k=n+1:=⟨k - 1,by omega⟩
  unfold bM.f sgn hold
  cases b
  · simp only [Bool.false_eq_true,if_false]
    rw [if_neg (show ¬ h*18446744073709551616+l < -9223372036854775808 from by omega)]
    by_cases c:h > 0
    · rw [if_pos c,if_pos (by omega)]
    · rw [if_neg c]
      by_cases d:l > 9223372036854775807
      · rw [if_pos d,if_pos (by omega)]
      · rw [if_neg d,if_neg (by omega)];congr 1;unfold wrap64;omega
  · simp only [if_true]
    simp only [bM.j0]
    by_cases c:h > 0
    · rw [if_pos c,if_pos trivial,if_pos (by omega)]
    · rw [if_neg c]
      by_cases d:l > 9223372036854775807
      · rw [if_pos (decide_eq_true d)]
        by_cases e:l=9223372036854775808
        · rw [if_neg (by omega),if_neg (by omega)];congr 1;omega
        · rw [if_pos (by omega)]
      · rw [if_neg (by simpa using d),if_neg (by omega),if_neg (by omega)];congr 1;unfold wrap64;omega
theorem qW {a b c d:Int} (_ha:U64 a) (hb:U64 b) (_hc:U64 c) (hd:U64 d) :
    gJ.f a b c d=some ((a+c+(b+d) / 18446744073709551616) % 18446744073709551616,(b+d) % 18446744073709551616):=by
  unfold gJ.f
  simp only [mJ]
  split
  · congr 2;omega
  · congr 2;omega
theorem acF {a b c d:Int} (_ha:U64 a) (hb:U64 b) (_hc:U64 c) (hd:U64 d) :
    jU.f a b c d=some ((a - c+(b - d) / 18446744073709551616) % 18446744073709551616,(b - d) % 18446744073709551616):=by
  unfold jU.f
  simp only [mJ]
  split
  · congr 2;omega
  · congr 2;omega
theorem nM {a b c:Int} (_ha:U64 a) (_hb:U64 b) (_hc:0≤c∧c≤1) :
    dL.f a b c=some ((2*a+b / 9223372036854775808) % 18446744073709551616,(2*b+c) % 18446744073709551616):=by
  unfold dL.f
  simp only [mJ]
  congr 2 <;> omega
theorem uV {a b c d:Int} (_ha:U64 a) (hb:U64 b) (_hc:U64 c) (hd:U64 d) :
    ig.f a b c d=some (decide (a*18446744073709551616+b < c*18446744073709551616+d)):=by
  unfold ig.f
  split
  · congr 1;exact decide_eq_decide.2 (by omega)
  · congr 1;exact decide_eq_decide.2 (by omega)
theorem tY {a b:Int} (ha:U64 a) (hb:U64 b) (i:Nat) (hi:i < 128) :
    fF.f a b i=some ((a*18446744073709551616+b) / 2 ^ i % 2):=by
  have e64:(18446744073709551616:Int)=2 ^ 64:=by decide
  unfold fF.f
  by_cases h:(i:Int)≥64
  · rw [if_pos h,aC (show -9223372036854775808≤(i:Int) - 64 from by omega) (by omega),if_pos (by omega),aeQ]
    unfold shr
    simp only [IntKind.bits]
    rw [show ((i:Int) - 64).toNat=i - 64 from by omega,Nat.min_eq_left (by omega)]
    congr 2
    have:(2:Int) ^ i=2 ^ 64*2 ^ (i - 64):=by rw [← Int.pow_add];congr 1;omega
    rw [this,← Int.ediv_ediv_of_nonneg (by decide),← e64]
    congr 1;omega
  · rw [if_neg h,if_pos (by omega),aeQ]
    unfold shr
    simp only [IntKind.bits]
    rw [show ((i:Int)).toNat=i from by omega,Nat.min_eq_left (by omega)]
    congr 1
    have:(18446744073709551616:Int)=2 ^ i*(2*2 ^ (63 - i)):=by
      rw [e64,← l9,← Int.pow_add];congr 1;omega
    rw [this,Int.mul_left_comm,Int.add_comm,Int.add_mul_ediv_left _ _ (by have:=pow_pos i;omega),Int.mul_left_comm,Int.add_comm,Int.mul_add_emod_self_left]
theorem ahG {a b:Int} (ha:U64 a) (hb:U64 b):∀ (n:Nat) (k:Nat) (h l:Int),n≤64→n < k→U64 h→U64 l→h*18446744073709551616+l=a*(b / 2 ^ n) →
    dQ.l0 k a b ((n:Int) - 1) h l=some (a*b / 18446744073709551616,a*b % 18446744073709551616):=by
  intro n
  induction n with
  | zero =>
    intro k h l _ hk hh hl he
    obtain ⟨k,rfl⟩:∃ n,k=n+1:=⟨k - 1,by omega⟩
    unfold dQ.l0
    rw [if_neg (by omega)]
    rw [Int.pow_zero,Int.ediv_one] at he
    rw [← he]
    congr 2 <;> omega
  | succ n ih =>
    intro k h l hn hk hh hl he
    obtain ⟨k,rfl⟩:∃ n,k=n+1:=⟨k - 1,by omega⟩
    unfold dQ.l0
    rw [show ((n+1:Nat):Int) - 1=n from by omega,if_pos (by omega),nM hh hl (by omega)]
    simp only [Option.bind_some]
    rw [if_pos (by omega),aeQ]
    have hs:shr .u64 b n=b / 2 ^ n:=by
      unfold shr
      simp only [IntKind.bits]
      rw [show ((n:Int)).toNat=n from by omega,Nat.min_eq_left (by omega)]
    rw [hs,aC (by omega) (by omega)]
    have hh2:=xQ b n
    have hpn:=pow_pos n
    have bl:b / 2 ^ n≤b:=Int.ediv_le_self _ hb.1
    have b0:0≤b / 2 ^ n:=Int.ediv_nonneg hb.1 (by omega)
    have m1:a*(b / 2 ^ n)≤18446744073709551615*18446744073709551615:=Int.mul_le_mul (by omega) (by omega) b0 (by decide)
    by_cases hbit:b / 2 ^ n % 2=1
    · rw [if_pos hbit,qW (by omega) (by omega) (by omega) ha]
      simp only [Option.bind_some]
      have e1:a*(b / 2 ^ n)=2*(a*(b / 2 ^ (n+1)))+a:=by
        rw [hh2,hbit,Int.mul_add,Int.mul_left_comm,Int.mul_one]
      rw [e1] at m1
      refine ih k _ _ (by omega) (by omega) (by omega) (by omega) ?_
      rw [e1]
      generalize a*(b / 2 ^ (n+1))=p at *
      omega
    · rw [if_neg hbit]
      have e1:a*(b / 2 ^ n)=2*(a*(b / 2 ^ (n+1))):=by
        rw [hh2,show b / 2 ^ n % 2=0 from by omega,Int.add_zero,Int.mul_left_comm]
      rw [e1] at m1
      refine ih k _ _ (by omega) (by omega) (by omega) (by omega) ?_
      rw [e1]
      generalize a*(b / 2 ^ (n+1))=p at *
      omega
theorem acG {k:Nat} (hk:65≤k) {a b:Int} (ha:U64 a) (hb:U64 b) :
    dQ.f k a b=some (a*b / 18446744073709551616,a*b % 18446744073709551616):=by
  unfold dQ.f
  refine ahG ha hb 64 k 0 0 (by omega) (by omega) (by omega) (by omega) ?_
  rw [Int.ediv_eq_zero_of_lt hb.1 (by have:(2:Int) ^ 64=18446744073709551616:=by decide
                                      omega)]
  omega
theorem aiJ {d ah al:Int} (hd:0 < d∧d < 18446744073709551616) (hah:U64 ah) (hal:U64 al):∀ (n:Nat) (k:Nat) (qh ql rh rl:Int),n≤128→n < k→U64 qh→U64 ql→U64 rh→U64 rl →
    rh*18446744073709551616+rl < d→(qh*18446744073709551616+ql)*d+(rh*18446744073709551616+rl)=(ah*18446744073709551616+al) / 2 ^ n →
    fC.l0 k d ((n:Int) - 1) ah al qh ql rh rl =
     some ((ah*18446744073709551616+al) / d / 18446744073709551616,(ah*18446744073709551616+al) / d % 18446744073709551616,(ah*18446744073709551616+al) % d):=by
  intro n
  generalize hA:ah*18446744073709551616+al=A
  induction n with
  | zero =>
    intro k qh ql rh rl _ hk hqh hql hrh hrl hr he
    obtain ⟨k,rfl⟩:∃ n,k=n+1:=⟨k - 1,by omega⟩
    unfold fC.l0
    rw [if_neg (by omega)]
    rw [Int.pow_zero,Int.ediv_one] at he
    obtain ⟨u1,u2⟩:=wM he (by omega) hr
    rw [u1,u2]
    congr 2
    · omega
    · congr 1 <;> omega
  | succ n ih =>
    intro k qh ql rh rl hn hk hqh hql hrh hrl hr he
    obtain ⟨k,rfl⟩:∃ n,k=n+1:=⟨k - 1,by omega⟩
    unfold fC.l0
    rw [show ((n+1:Nat):Int) - 1=n from by omega,if_pos (by omega),tY hah hal n (by omega),hA]
    simp only [Option.bind_some]
    have hh2:=xQ A n
    have hpn:=pow_pos n
    have A0:0≤A:=by omega
    have al1:A / 2 ^ n≤A:=Int.ediv_le_self _ A0
    generalize hbit:A / 2 ^ n % 2=bit at *
    have hb:0≤bit∧bit≤1:=by omega
    rw [nM hrh hrl hb,nM hqh hql (by omega)]
    simp only [Option.bind_some]
    rw [uV (by omega) (by omega) (by omega) (by omega)]
    simp only [Option.bind_some]
    rw [aC (by omega) (by omega)]
    have q0:0≤qh*18446744073709551616+ql:=by omega
    have qd:qh*18446744073709551616+ql≤(qh*18446744073709551616+ql)*d:=by
      calc qh*18446744073709551616+ql=(qh*18446744073709551616+ql)*1:=by rw [Int.mul_one]
        _≤_:=Int.mul_le_mul_of_nonneg_left (by omega) q0
    generalize hQ:qh*18446744073709551616+ql=Q at *
    have e2:(2*Q)*d=2*(Q*d):=Int.mul_assoc _ _ _
    have e3:(2*Q+1)*d=2*(Q*d)+d:=by rw [Int.add_mul,e2,Int.one_mul]
    generalize hP:Q*d=P at *
    by_cases hl:2*(rh*18446744073709551616+rl)+bit < d
    · rw [if_pos (decide_eq_true (by omega))]
      refine ih k _ _ _ _ (by omega) (by omega) (by omega) (by omega) (by omega) (by omega) (by omega) ?_
      rw [show (2*qh+ql / 9223372036854775808) % 18446744073709551616*18446744073709551616+(2*ql+0) % 18446744073709551616=2*Q from by omega,e2]
      omega
    · rw [if_neg (by simp;omega),acF (by omega) (by omega) (by omega) (by omega)]
      simp only [Option.bind_some,mJ]
      refine ih k _ _ _ _ (by omega) (by omega) (by omega) (by omega) (by omega) (by omega) (by omega) ?_
      rw [show (2*qh+ql / 9223372036854775808) % 18446744073709551616*18446744073709551616+((2*ql+0) % 18446744073709551616+1) % 18446744073709551616=2*Q+1 from by omega,e3]
      omega
theorem ady {k:Nat} (hk:129≤k) {d ah al:Int} (hd:0 < d∧d < 18446744073709551616) (hah:U64 ah) (hal:U64 al) :
    fC.f k ah al d=some ((ah*18446744073709551616+al) / d / 18446744073709551616,(ah*18446744073709551616+al) / d % 18446744073709551616,(ah*18446744073709551616+al) % d):=by
  unfold fC.f
  rw [if_neg (by omega)]
  refine aiJ hd hah hal 128 k 0 0 0 0 (by omega) (by omega) (by omega) (by omega) (by omega) (by omega) (by omega) ?_
  rw [Int.ediv_eq_zero_of_lt (by omega) (by have:(2:Int) ^ 128=340282366920938463463374607431768211456:=by decide
                                            omega)]
  omega
theorem afS {k:Nat} (hk:129≤k) {d ah al:Int} (hd:0 < d∧d < 18446744073709551616) (hah:U64 ah) (hal:U64 al) (s:Bool) :
    gU.f k ah al d s=some (hold (jk (sgn s (ah*18446744073709551616+al)) d)):=by
  unfold gU.f
  rw [ady hk hd hah hal]
  simp only [Option.bind_some]
  generalize hA:ah*18446744073709551616+al=A
  have A0:0≤A:=by omega
  have r0:=Int.emod_nonneg A (show d≠0 from by omega)
  have r1:=Int.emod_lt_of_pos A hd.1
  have q0:0≤A / d:=Int.ediv_nonneg A0 (by omega)
  have q1:A / d≤A:=Int.ediv_le_self _ A0
  have q2:2≤d→2*(A / d)≤A:=by
    intro h2
    have:=Int.mul_ediv_add_emod A d
    have h3:2*(A / d)≤d*(A / d):=Int.mul_le_mul_of_nonneg_right h2 q0
    omega
  rw [acM s A0 hd.1]
  generalize A / d=q at *
  generalize A % d=r at *
  rw [nM (by omega) (by omega) (by omega)]
  simp only [Option.bind_some]
  rw [uV (by omega) (by omega) (by omega) (by omega),uV (by omega) (by omega) (by omega) (by omega)]
  simp only [Option.bind_some]
  obtain ⟨k,rfl⟩:∃ n,k=n+1:=⟨k - 1,by omega⟩
  simp only [gU.j0]
  cases s
  · simp only [Bool.false_eq_true,if_false]
    by_cases c:r≥d - r
    · rw [if_pos (by simp;omega),if_pos c,qW (by omega) (by omega) (by omega) (by omega)]
      simp only [Option.bind_some]
      rw [jZ (by omega) (by omega) (by omega)]
      simp only [Option.bind_some]
      congr 3;omega
    · rw [if_neg (by simp;omega),if_neg c,jZ (by omega) (by omega) (by omega)]
      simp only [Option.bind_some]
      congr 3;omega
  · simp only [if_true]
    by_cases c:r > d - r
    · rw [if_pos (decide_eq_true (by omega)),if_pos c,qW (by omega) (by omega) (by omega) (by omega)]
      simp only [Option.bind_some]
      rw [jZ (by omega) (by omega) (by omega)]
      simp only [Option.bind_some]
      congr 3;omega
    · rw [if_neg (by simp;omega),if_neg c,jZ (by omega) (by omega) (by omega)]
      simp only [Option.bind_some]
      congr 3;omega
theorem acH {k:Nat} (hk:129≤k) {a b:Int} (ha:I64 a) (hb:I64 b):dV.f k a b=some (hold (flo a b)):=by
  unfold dV.f
  by_cases hb0:b=0
  · rw [if_pos hb0,hb0];simp [flo,hold]
  have ua:=qc ha
  have ub:=qc hb
  have ub0:siz b≠0:=fun h=>hb0 (acN.1 h)
  rw [if_neg hb0,oG ha,oG hb]
  simp only [Option.bind_some]
  rw [ady hk (by omega) (by omega) (by omega)]
  simp only [Option.bind_some]
  have e:=ale (decide (a < 0)) b (siz a) hb0
  rw [ahn a,alf _ (by omega)] at e
  rw [← e]
  generalize (decide (a < 0) != decide (b < 0))=s
  rw [show 0*18446744073709551616+siz a=siz a from by omega]
  have q0:0≤siz a / siz b:=Int.ediv_nonneg ua.1 ub.1
  have q1:siz a / siz b≤siz a:=Int.ediv_le_self _ ua.1
  have r0:=Int.emod_nonneg (siz a) ub0
  generalize siz a / siz b=q at *
  generalize siz a % siz b=r at *
  obtain ⟨k,rfl⟩:∃ n,k=n+1:=⟨k - 1,by omega⟩
  simp only [dV.j0]
  cases s
  · simp only [Bool.false_eq_true,if_false,false_and]
    rw [jZ (by omega) (by omega) (by omega)]
    simp only [Option.bind_some]
    congr 3;omega
  · simp only [if_true,true_and]
    by_cases c:r=0
    · rw [if_neg (by simp;omega),if_neg (by simpa using c),jZ (by omega) (by omega) (by omega)]
      simp only [Option.bind_some]
      congr 3;omega
    · rw [if_pos (by simp;omega),if_pos c,qW (by omega) (by omega) (by omega) (by omega)]
      simp only [Option.bind_some]
      rw [jZ (by omega) (by omega) (by omega)]
      simp only [Option.bind_some]
      congr 3;omega
theorem akg (a:Int) (i:Nat):a / 2 ^ i*2 ^ i=a / 2 ^ (i+1)*2 ^ (i+1)+a / 2 ^ i % 2*2 ^ i:=by
  have h:=xQ a i
  rw [l9] at h
  rw [l9,Int.mul_left_comm,← Int.mul_assoc,← Int.add_mul]
  congr 1
theorem ahH (x sh sl mh ml qh ql rh rl:Int) (i:Nat) (hi:i≤127) (hrh:U64 rh) (hrl:U64 rl) (hr:2 ^ i≤rh*18446744073709551616+rl):∀ (d k j:Nat) (ph pl:Int),j+d=i→d < k→U64 ph→U64 pl →
    ph*18446744073709551616+pl=2 ^ j →
    ∃ rh' rl':Int,U64 rh'∧U64 rl'∧rh'*18446744073709551616+rl'=rh*18446744073709551616+rl - 2 ^ i ∧
    aJ.l3 k x (i:Int) (i:Int) (j:Int) sh sl mh ml qh ql rh rl ph pl=aJ.l2 (k - d - 1) x ((i+1:Nat):Int) sh sl mh ml qh ql rh' rl':=by
  have hb:(2:Int) ^ i≤170141183460469231731687303715884105728:=by
    calc (2:Int) ^ i≤2 ^ 127:=qZ hi
      _=_:=by decide
  intro d
  induction d with
  | zero =>
    intro k j ph pl hj hk hph hpl he
    obtain ⟨k,rfl⟩:∃ m,k=m+1:=⟨k - 1,by omega⟩
    rw [aJ.l3,if_neg (by omega),acF hrh hrl hph hpl]
    simp only [Option.bind_some]
    obtain rfl:j=i:=by omega
    rw [aC (by omega) (by omega)]
    have hp:=pow_pos j
    generalize (2:Int) ^ j=p at *
    exact ⟨_,_,by omega,by omega,by omega,rfl⟩
  | succ d ih =>
    intro k j ph pl hj hk hph hpl he
    obtain ⟨k,rfl⟩:∃ m,k=m+1:=⟨k - 1,by omega⟩
    rw [aJ.l3,if_pos (by omega),nM hph hpl (by omega)]
    simp only [Option.bind_some]
    rw [aC (by omega) (by omega),show ((j:Int)+1)=((j+1:Nat):Int) from by omega]
    have hp:=pow_pos j
    have hp2:(2:Int) ^ (j+1)≤2 ^ i:=qZ (by omega)
    rw [l9] at hp2
    obtain ⟨r1,r2,a1,a2,a3,a4⟩:=ih k (j+1) _ _ (by omega) (by omega) (show U64 ((2*ph+pl / 9223372036854775808) % 18446744073709551616) from by omega) (show U64 ((2*pl+0) % 18446744073709551616) from by omega) (by
      rw [l9];generalize (2:Int) ^ j=p at *;omega)
    refine ⟨r1,r2,a1,a2,a3,?_⟩
    rw [a4,show k+1 - (d+1) - 1=k - d - 1 from by omega]
theorem acI {k:Nat} (hk:2≤k) (x:Int) (u:Bool) {qh ql:Int} (hqh:U64 qh) (hql:U64 ql) (hq:qh*18446744073709551616+ql < 340282366920938463463374607431768211455) :
    aJ.j4 k x u qh ql=some (hold (sgn (decide (x < 0)) (qh*18446744073709551616+ql+if u=true then 1 else 0))):=by
  obtain ⟨k,rfl⟩:∃ m,k=m+1:=⟨k - 1,by omega⟩
  rw [aJ.j4]
  cases u
  · rw [if_neg (by decide),if_neg (by decide),jZ (by omega) hqh hql]
    simp only [Option.bind_some];congr 3;omega
  · rw [if_pos rfl,if_pos rfl,qW hqh hql (by omega) (by omega)]
    simp only [Option.bind_some]
    rw [jZ (by omega) (by omega) (by omega)]
    simp only [Option.bind_some];congr 3;omega
theorem ahI (x sh sl mh ml qh ql:Int) (n:Nat) (hsh:U64 sh) (hsl:U64 sl) (hmh:U64 mh) (hml:U64 ml) (hqh:U64 qh) (hql:U64 ql)
    (hq:qh*18446744073709551616+ql < 340282366920938463463374607431768211455) (R:Int) (hR:(mh*18446744073709551616+ml) % 2 ^ n=R):∀ (d k i:Nat) (rh rl:Int),i+d=128→d*200+10 < k→U64 rh→U64 rl →
    rh*18446744073709551616+rl=R+(mh*18446744073709551616+ml) / 2 ^ i*2 ^ i →
    aJ.l2 k x (i:Int) sh sl mh ml qh ql rh rl=some (hold (sgn (decide (x < 0)) (qh*18446744073709551616+ql +
     if (if x < 0 then decide (sh*18446744073709551616+sl < R) else !decide (R < sh*18446744073709551616+sl))=true then 1 else 0))):=by
  have R0:0≤R:=by rw [← hR];exact Int.emod_nonneg _ (by have:=pow_pos n;omega)
  intro d
  induction d with
  | zero =>
    intro k i rh rl hi hk hrh hrl he
    obtain ⟨k,rfl⟩:∃ m,k=m+1:=⟨k - 1,by omega⟩
    rw [Int.ediv_eq_zero_of_lt (by omega) (by rw [show i=128 from by omega];have:(2:Int) ^ 128=340282366920938463463374607431768211456:=by decide
                                              omega)] at he
    rw [aJ.l2,if_neg (by omega),uV hrh hrl hsh hsl,uV hsh hsl hrh hrl]
    simp only [Option.bind_some]
    rw [show rh*18446744073709551616+rl=R from by omega]
    split
    · rw [acI (by omega) x _ hqh hql hq]
    · rw [acI (by omega) x _ hqh hql hq]
  | succ d ih =>
    intro k i rh rl hi hk hrh hrl he
    obtain ⟨k,rfl⟩:∃ m,k=m+1:=⟨k - 1,by omega⟩
    rw [aJ.l2,if_pos (by omega),tY hmh hml i (by omega)]
    simp only [Option.bind_some]
    have hs:=akg (mh*18446744073709551616+ml) i
    have hq0:0≤(mh*18446744073709551616+ml) / 2 ^ (i+1)*2 ^ (i+1):=Int.mul_nonneg (Int.ediv_nonneg (by omega) (by have:=pow_pos (i+1);omega)) (by have:=pow_pos (i+1);omega)
    split
    · rename_i hb
      rw [hb,Int.one_mul] at hs
      obtain ⟨r1,r2,a1,a2,a3,a4⟩:=ahH x sh sl mh ml qh ql rh rl i (by omega) hrh hrl (by omega) i k 0 0 1 (by omega) (by omega) (by omega) (by omega) (by decide)
      have a4':aJ.l3 k x (i:Int) (i:Int) 0 sh sl mh ml qh ql rh rl 0 1=_:=a4
      rw [a4',ih (k - i - 1) (i+1) r1 r2 (by omega) (by omega) a1 a2 (by omega)]
    · rename_i hb
      rw [show (mh*18446744073709551616+ml) / 2 ^ i % 2=0 from by omega,Int.zero_mul,Int.add_zero] at hs
      rw [aC (by omega) (by omega),show ((i:Int)+1)=((i+1:Nat):Int) from by omega]
      exact ih k (i+1) rh rl (by omega) (by omega) hrh hrl (by omega)
theorem ahJ (x sh sl mh ml:Int) (n:Nat) (hn:1≤n∧n≤64) (hsh:U64 sh) (hsl:U64 sl) (hmh:U64 mh) (hml:U64 ml):∀ (d k:Nat) (qh ql:Int),d+n≤128→d+30000 < k→U64 qh→U64 ql →
    qh*18446744073709551616+ql=(mh*18446744073709551616+ml) / 2 ^ (n+d) →
    aJ.l1 k x (n:Int) (((n+d:Nat):Int) - 1) sh sl mh ml qh ql=some (hold (sgn (decide (x < 0)) ((mh*18446744073709551616+ml) / 2 ^ n +
     if (if x < 0 then decide (sh*18446744073709551616+sl < (mh*18446744073709551616+ml) % 2 ^ n) else !decide ((mh*18446744073709551616+ml) % 2 ^ n < sh*18446744073709551616+sl))=true then 1 else 0))):=by
  intro d
  have hn2:(2:Int)≤2 ^ n:=by
    calc (2:Int)=2 ^ 1:=by decide
      _≤2 ^ n:=qZ (by omega)
  have hh:∀ a:Int,0≤a→2*(a / 2 ^ n)≤a:=by
    intro a ha
    have:=Int.mul_ediv_add_emod a (2 ^ n)
    have h0:=Int.emod_nonneg a (show (2:Int) ^ n≠0 from by omega)
    have h1:2*(a / 2 ^ n)≤2 ^ n*(a / 2 ^ n):=Int.mul_le_mul_of_nonneg_right hn2 (Int.ediv_nonneg ha (by omega))
    omega
  induction d with
  | zero =>
    intro k qh ql hd hk hqh hql he
    obtain ⟨k,rfl⟩:∃ m,k=m+1:=⟨k - 1,by omega⟩
    rw [aJ.l1,if_neg (by omega)]
    rw [Nat.add_zero] at he
    have:=hh (mh*18446744073709551616+ml) (by omega)
    have e:=Int.mul_ediv_add_emod (mh*18446744073709551616+ml) (2 ^ n)
    rw [ahI x sh sl mh ml qh ql n hsh hsl hmh hml hqh hql (by omega) _ rfl (128 - n) k n mh ml (by omega) (by omega) hmh hml (by rw [Int.mul_comm ((mh*18446744073709551616+ml) / 2 ^ n)];omega),he]
  | succ d ih =>
    intro k qh ql hd hk hqh hql he
    obtain ⟨k,rfl⟩:∃ m,k=m+1:=⟨k - 1,by omega⟩
    rw [aJ.l1,if_pos (by omega),show (((n+(d+1):Nat):Int) - 1)=((n+d:Nat):Int) from by omega,tY hmh hml (n+d) (by omega)]
    simp only [Option.bind_some]
    rw [nM hqh hql (by omega),aC (by omega) (by omega)]
    simp only [Option.bind_some]
    have hs:=xQ (mh*18446744073709551616+ml) (n+d)
    have hq:(mh*18446744073709551616+ml) / 2 ^ (n+d)≤mh*18446744073709551616+ml:=Int.ediv_le_self _ (by omega)
    rw [show n+(d+1)=n+d+1 from rfl] at he
    exact ih k _ _ (by omega) (by omega) (by omega) (by omega) (by omega)
theorem ahK (x:Int) (hx:I64 x) (n:Nat) (hn:1≤n∧n≤64):∀ (d k i:Nat) (ph pl:Int),i+d+1=n→d+40000 < k→U64 ph→U64 pl→ph*18446744073709551616+pl=2 ^ i →
    aJ.l0 k x (n:Int) ((n:Int) - 1) (i:Int) ph pl=some (hold (jk x (2 ^ n))):=by
  intro d
  induction d with
  | zero =>
    intro k i ph pl hi hk hph hpl he
    obtain ⟨k,rfl⟩:∃ m,k=m+1:=⟨k - 1,by omega⟩
    have u:=qc hx
    rw [aJ.l0,if_neg (by omega),oG hx]
    simp only [Option.bind_some]
    have av9:(2:Int) ^ 128=340282366920938463463374607431768211456:=by decide
    have h:=ahJ x ph pl 0 (siz x) n hn hph hpl (by omega) (by omega) (128 - n) k 0 0 (by omega) (by omega) (by omega) (by omega) (by
      rw [show n+(128 - n)=128 from by omega,Int.ediv_eq_zero_of_lt (by omega) (by omega)];rfl)
    rw [show (((n+(128 - n):Nat):Int) - 1)=127 from by omega] at h
    rw [h]
    rw [show 0*18446744073709551616+siz x=siz x from by omega,he]
    have e:jk x (2 ^ n)=jk (sgn (decide (x < 0)) (siz x)) (2 ^ n):=by rw [ahn]
    rw [e,acM _ u.1 (pow_pos n)]
    have h2:(2:Int) ^ n=2*2 ^ i:=by rw [← l9];congr 1;omega
    have r0:=Int.emod_nonneg (siz x) (show (2:Int) ^ n≠0 from by have:=pow_pos n;omega)
    generalize siz x % 2 ^ n=r at *
    generalize siz x / 2 ^ n=q at *
    rw [h2]
    generalize (2:Int) ^ i=p at *
    congr 3
    by_cases c:x < 0
    · rw [if_pos c,if_pos (decide_eq_true c)]
      by_cases g:p < r
      · rw [if_pos (decide_eq_true g),if_pos (by omega)]
      · rw [if_neg (by simpa using g),if_neg (by omega)];omega
    · rw [if_neg c,if_neg (show ¬ (decide (x < 0)=true) from by simpa using c)]
      by_cases g:r < p
      · rw [if_neg (by simpa using g),if_neg (by omega)];omega
      · rw [if_pos (by simpa using g),if_pos (by omega)]
  | succ d ih =>
    intro k i ph pl hi hk hph hpl he
    obtain ⟨k,rfl⟩:∃ m,k=m+1:=⟨k - 1,by omega⟩
    rw [aJ.l0,if_pos (by omega),nM hph hpl (by omega)]
    simp only [Option.bind_some]
    rw [aC (by omega) (by omega),show ((i:Int)+1)=((i+1:Nat):Int) from by omega]
    have hp:=pow_pos i
    have hb:(2:Int) ^ i≤9223372036854775808:=by
      calc (2:Int) ^ i≤2 ^ 63:=qZ (by omega)
        _=_:=by decide
    exact ih k (i+1) _ _ (by omega) (by omega) (by omega) (by omega) (by rw [l9];omega)
theorem zY {k:Nat} (hk:50000≤k) {x n:Int} (hx:I64 x) (hn:I64 n):aJ.f k x n=some (sh x n):=by
  unfold aJ.f sh
  by_cases h0:n < 1
  · rw [if_pos h0,if_pos (by omega)]
  rw [if_neg h0,if_neg (show ¬ n≤0 from by omega)]
  by_cases h1:n > 64
  · rw [if_pos h1,afs (x:=x) _ hx]
    calc (18446744073709551616:Int)=2 ^ 64:=by decide
      _≤2 ^ n.toNat:=qZ (by omega)
  rw [if_neg h1,aC (by omega) (by omega)]
  have e:n=(n.toNat:Int):=by omega
  have h:=ahK x hx n.toNat (by omega) (n.toNat - 1) k 0 0 1 (by omega) (by omega) (by omega) (by omega) (by decide)
  rw [← e] at h
  have h':aJ.l0 k x n (n - 1) 0 0 1=_:=h
  rw [h']
  congr 1
  refine tC ?_ ?_
  · rw [acO x n.toNat (by omega)]
    have hp:=pow_pos n.toNat
    have : -9223372036854775808≤x / 2 ^ n.toNat:=by
      rw [Int.le_ediv_iff_mul_le hp]
      have : -9223372036854775808*2 ^ n.toNat ≤ -9223372036854775808*1:=Int.mul_le_mul_of_nonpos_left (by decide) (by omega)
      omega
    omega
  · rw [acO x n.toNat (by omega)]
    have h2:(2:Int)≤2 ^ n.toNat:=by
      calc (2:Int)=2 ^ 1:=by decide
        _≤2 ^ n.toNat:=qZ (by omega)
    have:x / 2 ^ n.toNat < 4611686018427387904:=by
      rw [Int.ediv_lt_iff_lt_mul (pow_pos _)]
      calc x < 4611686018427387904*2:=by omega
        _≤4611686018427387904*2 ^ n.toNat:=Int.mul_le_mul_of_nonneg_left h2 (by decide)
    omega
theorem jh {k:Nat} (hk:129≤k) {a b d:Int} (ha:I64 a) (hb:I64 b) (hd:I64 d):aX.f k a b d=some (hold (jk (a*b) d)):=by
  unfold aX.f
  by_cases hd0:d=0
  · rw [if_pos hd0,hd0];simp [jk,hold]
  have ua:=qc ha
  have ub:=qc hb
  have ud:=qc hd
  have ud0:siz d≠0:=fun h=>hd0 (acN.1 h)
  rw [if_neg hd0,oG ha,oG hb]
  simp only [Option.bind_some]
  rw [acG (by omega) (by omega) (by omega),oG hd]
  simp only [Option.bind_some]
  have p0:=Int.mul_nonneg ua.1 ub.1
  have p1:siz a*siz b≤9223372036854775808*9223372036854775808:=Int.mul_le_mul ua.2 ub.2 ub.1 (by decide)
  have e0:=abk a b
  have es:=ald ((decide (a < 0)) != (decide (b < 0))) d (siz a*siz b) hd0
  rw [e0] at es
  rw [← es]
  generalize siz a*siz b=p at *
  rw [afS hk (by omega) (by omega) (by omega)]
  simp only [Option.bind_some]
  rw [show p / 18446744073709551616*18446744073709551616+p % 18446744073709551616=p from by omega]
theorem wX {k:Nat} (hk:2≤k) (s u:Bool) {h l:Int} (hh:U64 h) (hl:U64 l) (hb:h*18446744073709551616+l < 340282366920938463463374607431768211455) :
    aU.j3 k s u h l=some (hold (sgn s (h*18446744073709551616+l+if u=true then 1 else 0))):=by
  obtain ⟨k,rfl⟩:∃ m,k=m+1:=⟨k - 1,by omega⟩
  rw [aU.j3]
  cases u
  · rw [if_neg (by decide),if_neg (by decide),jZ (by omega) hh hl]
    simp only [Option.bind_some];congr 3;omega
  · rw [if_pos rfl,if_pos rfl,qW hh hl (by omega) (by omega)]
    simp only [Option.bind_some]
    rw [jZ (by omega) (by omega) (by omega)]
    simp only [Option.bind_some];congr 3;omega
theorem aiK (p:Int) (i:Nat):p % 2 ^ (i+1)=2 ^ i*(p / 2 ^ i % 2)+p % 2 ^ i:=by
  have h2:=xQ p i
  have hpm:=pow_pos i
  have e2:=Int.mul_ediv_add_emod p (2 ^ i)
  have r0:=Int.emod_nonneg p (show (2:Int) ^ i≠0 from by omega)
  have r1:=Int.emod_lt_of_pos p hpm
  have hb:p / 2 ^ i % 2=0∨p / 2 ^ i % 2=1:=by omega
  refine (wM (q:=p / 2 ^ (i+1)) ?_ ?_ ?_).2
  · have h3:p / 2 ^ (i+1)*2 ^ (i+1)+(2 ^ i*(p / 2 ^ i % 2)+p % 2 ^ i)=2 ^ i*(2*(p / 2 ^ (i+1))+p / 2 ^ i % 2)+p % 2 ^ i:=by
      rw [Int.mul_add,Int.pow_succ (2:Int) i,Int.mul_left_comm,Int.mul_comm (p / (2 ^ i*2)) 2];omega
    rw [h3,← h2];exact e2
  · rcases hb with h|h <;> rw [h] <;> omega
  · rw [l9];rcases hb with h|h <;> rw [h] <;> omega
theorem afb (n:Nat) (hn:1≤n∧n≤127) (s:Bool) (ph pl qh ql:Int) (hph:U64 ph) (hpl:U64 pl) (hqh:U64 qh) (hql:U64 ql) (hq:qh*18446744073709551616+ql < 340282366920938463463374607431768211455) :
    ∀ (d k i:Nat) (m:Bool),i+d+1=n→d+10 < k→m=decide ((ph*18446744073709551616+pl) % 2 ^ i≠0) →
    aU.l1 k (n:Int) s m ((n:Int) - 1) (i:Int) ph pl qh ql=some (hold (sgn s (qh*18446744073709551616+ql +
     if (ph*18446744073709551616+pl) / 2 ^ (n - 1) % 2=0∨(s=true∧(ph*18446744073709551616+pl) % 2 ^ (n - 1)=0) then 0 else 1))):=by
  intro d
  induction d with
  | zero =>
    intro k i m hi hk hm
    obtain ⟨k,rfl⟩:∃ m,k=m+1:=⟨k - 1,by omega⟩
    rw [aU.l1,if_neg (by omega),aC (by omega) (by omega),show (n:Int) - 1=((n - 1:Nat):Int) from by omega,tY hph hpl (n - 1) (by omega)]
    simp only [Option.bind_some]
    rw [show i=n - 1 from by omega] at hm
    have hbit:(ph*18446744073709551616+pl) / 2 ^ (n - 1) % 2=0∨(ph*18446744073709551616+pl) / 2 ^ (n - 1) % 2=1:=by omega
    generalize (ph*18446744073709551616+pl) / 2 ^ (n - 1) % 2=bit at *
    by_cases hb:bit=1
    · rw [if_pos hb]
      by_cases e:(ph*18446744073709551616+pl) % 2 ^ (n - 1)=0
      · rw [show m=false from by rw [hm];simpa using e,if_neg (by decide),wX (by omega) s _ hqh hql hq]
        cases s
        · rw [if_pos (by decide),if_neg (by simp;omega)]
        · rw [if_neg (by decide),if_pos (by simp;omega)]
      · rw [show m=true from by rw [hm];simpa using e,if_pos rfl,wX (by omega) s _ hqh hql hq,if_pos rfl,if_neg (by omega)]
    · rw [if_neg hb,wX (by omega) s _ hqh hql hq,if_neg (by decide)]
      by_cases hb0:bit=0
      · rw [if_pos (Or.inl hb0)]
      · exfalso;omega
  | succ d ih =>
    intro k i m hi hk hm
    obtain ⟨k,rfl⟩:∃ m,k=m+1:=⟨k - 1,by omega⟩
    rw [aU.l1,if_pos (by omega),tY hph hpl i (by omega),aC (by omega) (by omega),show ((i:Int)+1)=((i+1:Nat):Int) from by omega]
    simp only [Option.bind_some]
    have es:=aiK (ph*18446744073709551616+pl) i
    have hp:=pow_pos i
    have r0:=Int.emod_nonneg (ph*18446744073709551616+pl) (show (2:Int) ^ i≠0 from by omega)
    have hbb:(ph*18446744073709551616+pl) / 2 ^ i % 2=0∨(ph*18446744073709551616+pl) / 2 ^ i % 2=1:=by omega
    by_cases hc:m=true
    · rw [if_pos hc]
      refine ih k (i+1) true (by omega) (by omega) ?_
      refine (decide_eq_true ?_).symm
      have:(ph*18446744073709551616+pl) % 2 ^ i≠0:=of_decide_eq_true (hm.symm.trans hc)
      rw [es]
      rcases hbb with h|h <;> rw [h] <;> omega
    · rw [if_neg hc]
      refine ih k (i+1) _ (by omega) (by omega) ?_
      have:(ph*18446744073709551616+pl) % 2 ^ i=0:=by
        have h2:m=false:=by simpa using hc
        have:=of_decide_eq_false (hm.symm.trans h2)
        omega
      rw [es,this]
      rcases hbb with h|h
      · rw [h];simp
      · rw [h];simp;omega
theorem afc (n:Nat) (hn:1≤n∧n≤127) (s:Bool) (ph pl:Int) (hph:U64 ph) (hpl:U64 pl):∀ (d k:Nat) (qh ql:Int),d+n≤128→d+300 < k→U64 qh→U64 ql →
    qh*18446744073709551616+ql=(ph*18446744073709551616+pl) / 2 ^ (n+d) →
    aU.l0 k (n:Int) s (((n+d:Nat):Int) - 1) ph pl qh ql=some (hold (jk (sgn s (ph*18446744073709551616+pl)) (2 ^ n))):=by
  intro d
  induction d with
  | zero =>
    intro k qh ql hd hk hqh hql he
    obtain ⟨k,rfl⟩:∃ m,k=m+1:=⟨k - 1,by omega⟩
    rw [Nat.add_zero] at he
    have p0:0≤ph*18446744073709551616+pl:=by omega
    have q1:2*((ph*18446744073709551616+pl) / 2 ^ n)≤ph*18446744073709551616+pl:=by
      have:=(qp (ph*18446744073709551616+pl) (pow_pos n)).1
      have h2:(2:Int)≤2 ^ n:=by
        calc (2:Int)=2 ^ 1:=by decide
          _≤2 ^ n:=qZ (by omega)
      have h3:(ph*18446744073709551616+pl) / 2 ^ n*2≤(ph*18446744073709551616+pl) / 2 ^ n*2 ^ n:=Int.mul_le_mul_of_nonneg_left h2 (Int.ediv_nonneg p0 (by omega))
      omega
    rw [aU.l0,if_neg (by omega),aC (by omega) (by omega)]
    have h:=afb n hn s ph pl qh ql hph hpl hqh hql (by omega) (n - 1) k 0 false (by omega) (by omega) (by simp [Int.emod_one])
    have h':aU.l1 k (n:Int) s false ((n:Int) - 1) 0 ph pl qh ql=_:=h
    rw [h',adL s p0 n hn.1,he]
  | succ d ih =>
    intro k qh ql hd hk hqh hql he
    obtain ⟨k,rfl⟩:∃ m,k=m+1:=⟨k - 1,by omega⟩
    rw [aU.l0,if_pos (by omega),show (((n+(d+1):Nat):Int) - 1)=((n+d:Nat):Int) from by omega,tY hph hpl (n+d) (by omega)]
    simp only [Option.bind_some]
    rw [nM hqh hql (by omega),aC (by omega) (by omega)]
    simp only [Option.bind_some]
    have hs:=xQ (ph*18446744073709551616+pl) (n+d)
    have hq:(ph*18446744073709551616+pl) / 2 ^ (n+d)≤ph*18446744073709551616+pl:=Int.ediv_le_self _ (by omega)
    rw [show n+(d+1)=n+d+1 from rfl] at he
    exact ih k _ _ (by omega) (by omega) (by omega) (by omega) (by omega)
theorem afd {k:Nat} (hk:600≤k) {a b n:Int} (ha:I64 a) (hb:I64 b) (hn:I64 n):aU.f k a b n=some (acT a b n):=by
  have ua:=qc ha
  have ub:=qc hb
  obtain ⟨k,rfl⟩:∃ m,k=m+1:=⟨k - 1,by omega⟩
  have main:∀ m:Nat,aU.j0 (k+1) a b (m:Int)=some (if (m:Int)≥128 then 0 else hold (jk (a*b) (2 ^ m))):=by
    intro m
    rw [aU.j0]
    by_cases c:(m:Int)≥128
    · rw [if_pos c,if_pos (by omega)]
    rw [if_neg c,if_neg (by omega),oG ha,oG hb]
    simp only [Option.bind_some]
    rw [acG (by omega) (by omega) (by omega)]
    simp only [Option.bind_some]
    have p0:=Int.mul_nonneg ua.1 ub.1
    have p1:siz a*siz b≤9223372036854775808*9223372036854775808:=Int.mul_le_mul ua.2 ub.2 ub.1 (by decide)
    have e0:=abk a b
    rw [← e0]
    generalize siz a*siz b=p at *
    generalize ((decide (a < 0)) != (decide (b < 0)))=s at *
    by_cases z:(m:Int)=0
    · rw [if_pos z,jZ (by omega) (by omega) (by omega)]
      simp only [Option.bind_some]
      rw [show m=0 from by omega,Int.pow_zero,ajw]
      congr 3;omega
    rw [if_neg z]
    have av9:(2:Int) ^ 128=340282366920938463463374607431768211456:=by decide
    have h:=afc m (by omega) s (p / 18446744073709551616) (p % 18446744073709551616) (by omega) (by omega) (128 - m) k 0 0 (by omega) (by omega) (by omega) (by omega) (by
      rw [show m+(128 - m)=128 from by omega,Int.ediv_eq_zero_of_lt (by omega) (by omega)];rfl)
    rw [show (((m+(128 - m):Nat):Int) - 1)=127 from by omega] at h
    rw [h,show p / 18446744073709551616*18446744073709551616+p % 18446744073709551616=p from by omega]
  unfold aU.f acT
  by_cases c:n < 0
  · have:=main 0
    rw [if_pos c,if_neg (by omega),show (mx 0 n).toNat=0 from by unfold mx;split <;> omega]
    exact this
  · have:=main n.toNat
    rw [show ((n.toNat:Nat):Int)=n from by omega] at this
    rw [if_neg c,this,show (mx 0 n).toNat=n.toNat from by unfold mx;split <;> omega]
theorem akh (s r:Int) (hs:I64 s) (hr:I64 r):∀ (d k n:Nat) (p m:Int),n+d=16→d+60000 < k→I64 p→I64 m→wrap64 (p - m)=oM r n →
    dR.l0 k s r p m (jm r n) ((n:Int)+1)=some (sh (oM r 16) s):=by
  intro d
  induction d with
  | zero =>
    intro k n p m hn hk hp hm he
    obtain ⟨k,rfl⟩:∃ m,k=m+1:=⟨k - 1,by omega⟩
    rw [dR.l0,if_neg (by omega),he,show n=16 from by omega,zY (by omega) (ajD r 16) hs]
    rfl
  | succ d ih =>
    intro k n p m hn hk hp hm he
    obtain ⟨k,rfl⟩:∃ m,k=m+1:=⟨k - 1,by omega⟩
    rw [dR.l0,if_pos (by omega),aC (show -9223372036854775808≤((n:Int)+1)*1099511627776 from by omega) (by omega),aC (show -9223372036854775808≤(n:Int)+1+1 from by omega) (by omega)]
    rw [jh (by omega) (anK r n) hr (by constructor <;> omega)]
    simp only [Option.bind_some]
    have et:hold (jk (jm r n*r) (((n:Int)+1)*1099511627776))=jm r (n+1):=by rw [jm]
    rw [et]
    have em:Int.tmod ((n:Int)+1) 2=(((n+1) % 2:Nat):Int):=by rw [Int.tmod_eq_emod_of_nonneg (by omega)];omega
    have ec:((n+1:Nat):Int)=(n:Int)+1:=by omega
    rw [em]
    have es:oM r (n+1)=if n % 2=0 then wrap64 (oM r n - jm r (n+1)) else wrap64 (oM r n+jm r (n+1)):=by rw [oM]
    by_cases c:n % 2=0
    · rw [if_pos (by omega)]
      rw [if_pos c] at es
      have e2:wrap64 (p - wrap64 (m+jm r (n+1)))=oM r (n+1):=by
        rw [es,← he]
        generalize jm r (n+1)=u
        unfold wrap64;omega
      have h:=ih k (n+1) p (wrap64 (m+jm r (n+1))) (by omega) (by omega) hp (al4 _) e2
      rw [ec] at h;exact h
    · rw [if_neg (by omega)]
      rw [if_neg c] at es
      have e2:wrap64 (wrap64 (p+jm r (n+1)) - m)=oM r (n+1):=by
        rw [es,← he]
        generalize jm r (n+1)=u
        unfold wrap64;omega
      have h:=ih k (n+1) (wrap64 (p+jm r (n+1))) m (by omega) (by omega) (al4 _) hm e2
      rw [ec] at h;exact h
theorem aki {k:Nat} (hk:70000≤k) {t:Int} (ht:I64 t):dR.f k t=some (abn t):=by
  obtain ⟨k,rfl⟩:∃ m,k=m+1:=⟨k - 1,by omega⟩
  have main:∀ x,0≤x→x≤9223372036854775807→dR.j0 (k+1) x=some (sh (oM (x % 762123384786) 16) (x / 762123384786)):=by
    intro x h0 h1
    rw [dR.j0,acH (by omega) (by constructor <;> omega) (by decide)]
    have e:flo x 762123384786=x / 762123384786:=by unfold flo;rw [if_pos (by decide)]
    rw [e,tC (by omega) (by omega)]
    simp only [Option.bind_some]
    rw [aC (show -9223372036854775808≤x / 762123384786*762123384786 from by omega) (by omega),aC (by omega) (by omega),show x - x / 762123384786*762123384786=x % 762123384786 from by omega]
    exact akh _ _ (by omega) (by omega) 16 k 0 1099511627776 0 (by omega) (by omega) (by decide) (by decide) (by rw [oM];unfold wrap64;decide)
  unfold dR.f abn
  by_cases c:t < 0
  · rw [if_pos c,main 0 (by omega) (by omega),show mx 0 t=0 from by unfold mx;split <;> omega]
  · rw [if_neg c,main t (by omega) (by omega),show mx 0 t=t from by unfold mx;split <;> omega]
theorem ahL {k:Nat} (hk:200≤k) {d s:Int}:lZ.f k d s=some (yK d s):=by
  unfold lZ.f yK
  by_cases h1:s < 1
  · rw [if_pos h1,if_pos (Or.inl h1)]
  rw [if_neg h1]
  by_cases h2:s > 4194304
  · rw [if_pos h2,if_pos (Or.inr (Or.inl h2))]
  rw [if_neg h2]
  by_cases h3:d < -16384
  · rw [if_pos h3,if_pos (Or.inr (Or.inr (Or.inl h3)))]
  rw [if_neg h3]
  by_cases h4:d > 16384
  · rw [if_pos h4,if_pos (Or.inr (Or.inr (Or.inr h4)))]
  rw [if_neg h4,if_neg (by omega)]
  have a:=aiX (x:=d) (m:=16384) (by omega) (by omega)
  have b:=aiX (x:=s) (m:=4194304) (by omega) (by omega)
  rw [aC (show -9223372036854775808≤d*d from by omega) (by omega),aC (by omega) (by omega),aC (show -9223372036854775808≤s*s from by omega) (by omega),
    jh (by omega) (by constructor <;> omega) (by decide) (by constructor <;> omega)]
  rfl
theorem ahM {k:Nat} (hk:70000≤k) {d s:Int}:l7.f k d s=some (sh (abn (yK d s)) 10):=by
  unfold l7.f
  rw [ahL (by omega)]
  simp only [Option.bind_some]
  rw [aki hk (anM d s)]
  simp only [Option.bind_some]
  rw [zY (by omega) (anL _) (by decide)]
  rfl
theorem akj (p q:Int):kS.f p q=some (decide (acd p q)):=by
  unfold kS.f acd
  by_cases h1:q < 1
  · rw [if_pos h1];congr 1;exact (decide_eq_false (by omega)).symm
  rw [if_neg h1]
  by_cases h2:q > 1048576
  · rw [if_pos h2];congr 1;exact (decide_eq_false (by omega)).symm
  rw [if_neg h2,aC (show -9223372036854775808 ≤ -4*q from by omega) (by omega),aC (show -9223372036854775808≤4*q from by omega) (by omega)]
  by_cases h3:p≤4*q
  · rw [if_pos h3];congr 1;exact decide_eq_decide.2 (by omega)
  · rw [if_neg h3];congr 1;exact (decide_eq_false (by omega)).symm
theorem agQ (u:Int) (hu:I64 u):∀ (d k n:Nat) (a b:Int),n+d=30→d+600 < k→I64 a→I64 b→wrap64 (a - b)=qP u n →
    bV.l0 k u a b (pq u n) ((n:Int)+1)=some (qP u 30):=by
  intro d
  induction d with
  | zero =>
    intro k n a b hn hk ha hb he
    obtain ⟨k,rfl⟩:∃ m,k=m+1:=⟨k - 1,by omega⟩
    rw [bV.l0,if_neg (by omega),he,show n=30 from by omega]
  | succ d ih =>
    intro k n a b hn hk ha hb he
    obtain ⟨k,rfl⟩:∃ m,k=m+1:=⟨k - 1,by omega⟩
    have hd:=anO n (by omega)
    rw [bV.l0,if_pos (by omega),aC (show -9223372036854775808≤2*((n:Int)+1) from by omega) (by omega),aC (show -9223372036854775808≤2*((n:Int)+1)+1 from by omega) (by omega),
      aC (show -9223372036854775808≤2*((n:Int)+1)*(2*((n:Int)+1)+1) from by omega) (by omega),aC (show -9223372036854775808≤2*((n:Int)+1)*(2*((n:Int)+1)+1)*1099511627776 from by omega) (by omega),
      aC (show -9223372036854775808≤(n:Int)+1+1 from by omega) (by omega)]
    rw [jh (by omega) (anN u n) hu (by constructor <;> omega)]
    simp only [Option.bind_some]
    have et:hold (jk (pq u n*u) (2*((n:Int)+1)*(2*((n:Int)+1)+1)*1099511627776))=pq u (n+1):=by rw [pq]
    rw [et]
    have em:Int.tmod ((n:Int)+1) 2=(((n+1) % 2:Nat):Int):=by rw [Int.tmod_eq_emod_of_nonneg (by omega)];omega
    have ec:((n+1:Nat):Int)=(n:Int)+1:=by omega
    rw [em]
    have es:qP u (n+1)=if n % 2=0 then wrap64 (qP u n - pq u (n+1)) else wrap64 (qP u n+pq u (n+1)):=by rw [qP]
    by_cases c:n % 2=0
    · rw [if_pos (by omega)]
      rw [if_pos c] at es
      have e2:wrap64 (a - wrap64 (b+pq u (n+1)))=qP u (n+1):=by
        rw [es,← he]
        generalize pq u (n+1)=x
        unfold wrap64;omega
      have h:=ih k (n+1) a (wrap64 (b+pq u (n+1))) (by omega) (by omega) ha (ajE _) e2
      rw [ec] at h;exact h
    · rw [if_neg (by omega)]
      rw [if_neg c] at es
      have e2:wrap64 (wrap64 (a+pq u (n+1)) - b)=qP u (n+1):=by
        rw [es,← he]
        generalize pq u (n+1)=x
        unfold wrap64;omega
      have h:=ih k (n+1) (wrap64 (a+pq u (n+1))) b (by omega) (by omega) (ajE _) hb e2
      rw [ec] at h;exact h
theorem abX {k:Nat} (hk:1000≤k) {p q:Int} (hp : -9223372036854775807≤p∧p≤9223372036854775807) (hq:I64 q):bV.f k p q=some (afw p q):=by
  obtain ⟨k,rfl⟩:∃ m,k=m+1:=⟨k - 1,by omega⟩
  have main:∀ x,0≤x→x≤9223372036854775807→bV.j0 (k+1) x q=some (qP (asl x q) 30):=by
    intro x h0 h1
    rw [bV.j0,jh (by omega) (by decide) (by constructor <;> omega) hq]
    simp only [Option.bind_some]
    rw [jh (by omega) (qG _) (by constructor <;> omega) hq]
    simp only [Option.bind_some]
    exact agQ _ (qG _) 30 k 0 _ _ (by omega) (by omega) (by decide) (by decide) (by rw [qP];unfold wrap64;decide)
  unfold bV.f afw siz
  by_cases c:p < 0
  · rw [if_pos c,if_pos c,aC (by omega) (by omega),main _ (by omega) (by omega)]
  · rw [if_neg c,if_neg c,main _ (by omega) (by omega)]
theorem afT {k:Nat} (hk:60000≤k) (p q:Int):dZ.f k p q=some (afx p q):=by
  obtain ⟨k,rfl⟩:∃ m,k=m+1:=⟨k - 1,by omega⟩
  unfold dZ.f afx
  rw [akj]
  simp only [Option.bind_some]
  by_cases c:acd p q
  · have c':1≤q∧q≤1048576 ∧ -4*q≤p∧p≤4*q:=c
    rw [if_pos (decide_eq_true c),aC (show -9223372036854775808≤3*q from by omega) (by omega),aC (show -9223372036854775808 ≤ -3*q from by omega) (by omega)]
    by_cases g:siz p < 3*q
    · have g2:p < 3*q ∧ -(3*q) < p:=by unfold siz at g;split at g <;> omega
      rw [if_neg (by omega),decide_eq_false (by omega),dZ.j0,if_neg (by decide),if_pos ⟨c,g⟩,aC (show -9223372036854775808≤3*q from by omega) (by omega),abX (by omega) (by omega) (by constructor <;> omega),abX (by omega) (by omega) (by constructor <;> omega)]
      simp only [Option.bind_some]
      rw [afd (by omega) (agp _ _) (agp _ _) (by decide)]
      simp only [Option.bind_some]
      rw [zY (by omega) (ahs _ _ _) (by decide)]
      rfl
    · rw [if_neg (show ¬ (acd p q∧siz p < 3*q) from by omega)]
      by_cases g3:p≥3*q
      · rw [if_pos g3,dZ.j0,if_pos rfl]
      · rw [if_neg g3,decide_eq_true (by unfold siz at g;split at g <;> omega),dZ.j0,if_pos rfl]
  · rw [if_neg (by simpa using c),if_neg (by intro h;exact c h.1),dZ.j0,if_pos rfl]
theorem akk (f n m i:Int):kT.f f n m i=some (decide (tH f n m i)):=by
  have e:kT.f f n m i=iY.f f n m i:=by
    unfold kT.f iY.f
    by_cases h2:f≤2
    · rw [if_pos h2,if_pos (show f < 3 by omega)]
    · rw [if_neg h2,if_neg (show ¬ f < 3 by omega)]
  rw [e,uF]
theorem xC {f n m i j:Int} (h:tH f n m i) (hj : -34359738368≤j∧j≤34359738368):iV.f f n m i j=some (decide (fU f n m i≤j∧j < kY f n m i)):=by
  obtain ⟨h1,h2,h3,h4,h5,h6,h7,h8⟩:=id h
  have hP:=acU ⟨h3,h4⟩ ⟨h5,h6⟩ ⟨h7,h8⟩
  have hx:1≤mx n m∧mx n m≤65536:=by unfold mx;split <;> omega
  have hJ:=al5 ⟨h5,h6⟩ hj
  have q1:(i+1)*n=i*n+n:=by rw [Int.add_mul,Int.one_mul]
  have q2:(2*i+1)*n=2*(i*n)+n:=by rw [Int.add_mul,Int.one_mul,Int.mul_assoc]
  have q3:(j+1)*m=j*m+m:=by rw [Int.add_mul,Int.one_mul]
  have q4:2*m*j=2*(j*m):=by rw [Int.mul_assoc,Int.mul_comm m j]
  have q6:j*(2*m)=2*(j*m):=by rw [Int.mul_comm (2:Int) m,← Int.mul_assoc,Int.mul_comm _ (2:Int)]
  have e1:wrap64 (i*n)=i*n:=aC (by omega) (by omega)
  have e2:wrap64 (i+1)=i+1:=aC (by omega) (by omega)
  have e3:wrap64 (i*n+n)=i*n+n:=aC (by omega) (by omega)
  have e4:wrap64 (2*i)=2*i:=aC (by omega) (by omega)
  have e5:wrap64 (2*i+1)=2*i+1:=aC (by omega) (by omega)
  have e6:wrap64 (2*(i*n)+n)=2*(i*n)+n:=aC (by omega) (by omega)
  have e7:wrap64 (j+1)=j+1:=aC (by omega) (by omega)
  have e8:wrap64 (j*m)=j*m:=aC (by omega) (by omega)
  have e9:wrap64 (j*m+m)=j*m+m:=aC (by omega) (by omega)
  have e10:wrap64 (2*m)=2*m:=aC (by omega) (by omega)
  have apI:wrap64 (2*n)=2*n:=aC (by omega) (by omega)
  have e11:wrap64 (2*(j*m))=2*(j*m):=aC (by omega) (by omega)
  have e12:wrap64 (2*(j*m) - (2*(i*n)+n))=2*(j*m) - (2*(i*n)+n):=aC (by omega) (by omega)
  have e13:wrap64 (2*(j*m) - (2*(i*n)+n)+m)=2*(j*m) - (2*(i*n)+n)+m:=aC (by omega) (by omega)
  have fr:fP.f n m i j=some (2*(j*m) - (2*(i*n)+n)+m,2*mx n m):=by
    unfold fP.f mx
    simp only [e4,e5,q2,e6,e10,apI,q4,e11,e12,e13]
    by_cases c:m > n
    · rw [if_pos c,if_pos (show n < m from c)]
    · rw [if_neg c,if_neg (show ¬ n < m from c)]
  unfold iV.f fU kY
  by_cases c0:f=0
  · simp only [if_pos c0,e1,e2,q1,e3,e7,q3,e8,e9]
    have a1:=div_lt (a:=i*n) (b:=m) (j:=j+1) (by omega)
    have a2:=agr (a:=i*n+n) (b:=m) (j:=j) (by omega)
    rw [q3] at a1
    by_cases d:j*m+m > i*n
    · rw [if_pos d];congr 1;exact decide_eq_decide.2 (by omega)
    · rw [if_neg d];congr 1;exact (decide_eq_false (by omega)).symm
  · have hf:f=1∨f=2:=by omega
    simp only [if_neg c0,fr,Option.bind_some]
    have a1:=div_lt (a:=2*(i*n)+n - m - nG f n m) (b:=2*m) (j:=j) (by omega)
    have a2:=agr (a:=2*(i*n)+n - m+nG f n m) (b:=2*m) (j:=j) (by omega)
    rw [q6] at a1 a2
    rcases hf with rfl|rfl
    · have hr:nG 1 n m=4*mx n m:=by unfold nG;rw [if_pos rfl]
      rw [hr] at a1 a2
      rw [if_neg (by decide),aC (show -9223372036854775808≤2*(2*mx n m) from by omega) (by omega),aC (show -9223372036854775808 ≤ -(2*(2*mx n m)) from by omega) (by omega),hr]
      by_cases d:2*(j*m) - (2*(i*n)+n)+m < 2*(2*mx n m)
      · rw [if_pos d];congr 1;exact decide_eq_decide.2 (by omega)
      · rw [if_neg d];congr 1;exact (decide_eq_false (by omega)).symm
    · have hr:nG 2 n m=6*mx n m:=by unfold nG;rw [if_neg (by decide)]
      rw [hr] at a1 a2
      rw [if_pos rfl,aC (show -9223372036854775808≤3*(2*mx n m) from by omega) (by omega),aC (show -9223372036854775808 ≤ -(3*(2*mx n m)) from by omega) (by omega),hr]
      by_cases d:2*(j*m) - (2*(i*n)+n)+m < 3*(2*mx n m)
      · rw [if_pos d];congr 1;exact decide_eq_decide.2 (by omega)
      · rw [if_neg d];congr 1;exact (decide_eq_false (by omega)).symm
theorem aiL {k:Nat} (hk:200≤k) {p q:Int} (hp:I64 p) (hq:I64 q):bI.f k p q=some (afy p q):=by
  obtain ⟨k,rfl⟩:∃ m,k=m+3:=⟨k - 3,by omega⟩
  unfold bI.f afy
  by_cases h1:q < 1
  · rw [if_pos h1,if_neg (by omega),bI.j0,if_pos rfl]
  rw [if_neg h1,bI.j0]
  by_cases h2:q > 262144
  · rw [if_pos (by simpa using h2),if_neg (by omega)]
  rw [if_neg (by simpa using h2),aC (show -9223372036854775808≤2*q from by omega) (by omega),aC (show -9223372036854775808 ≤ -2*q from by omega) (by omega)]
  by_cases h3:p≥2*q
  · rw [if_pos h3,if_neg (by omega),bI.j1,if_pos rfl]
  rw [if_neg h3,bI.j1]
  by_cases h4:p ≤ -2*q
  · rw [if_pos (by simpa using h4),if_neg (by omega)]
  rw [if_neg (by simpa using h4),if_pos (show 1≤q∧q≤262144∧p < 2*q ∧ -2*q < p from by omega)]
  have e:(if p < 0 then bI.j2 (k+1) (wrap64 (-p)) q else bI.j2 (k+1) p q)=bI.j2 (k+1) (siz p) q:=by
    unfold siz;split
    · rw [aC (by omega) (by omega)]
    · rfl
  rw [e,bI.j2]
  have hs:0≤siz p∧siz p≤524288:=by unfold siz;split <;> omega
  generalize siz p=s at hs ⊢
  have b1:=aas hs hs hs
  have b2:=aas hs hs (show 0≤q∧q≤524288 by omega)
  have b3:=aas hs (show 0≤q∧q≤524288 by omega) (show 0≤q∧q≤524288 by omega)
  have b4:=aas (show 0≤q∧q≤262144 by omega) (show 0≤q∧q≤262144 by omega) (show 0≤q∧q≤262144 by omega)
  have a3:5*(s*s)*q=5*(s*s*q):=Int.mul_assoc _ _ _
  have a4:8*s*(q*q)=8*(s*q*q):=by rw [Int.mul_assoc,← Int.mul_assoc s q q]
  have w0:wrap64 (s*s)=s*s:=aC (by omega) (by omega)
  have w1:wrap64 (s*s*s)=s*s*s:=aC (by omega) (by omega)
  have w2:wrap64 (q*q)=q*q:=aC (by omega) (by omega)
  have w3:wrap64 (q*q*q)=q*q*q:=aC (by omega) (by omega)
  have w5:wrap64 (5*(s*s))=5*(s*s):=aC (by omega) (by omega)
  have w6:wrap64 (5*(s*s*q))=5*(s*s*q):=aC (by omega) (by omega)
  have w7:wrap64 (8*s)=8*s:=aC (by omega) (by omega)
  have w9:wrap64 (8*(s*q*q))=8*(s*q*q):=aC (by omega) (by omega)
  have w12:wrap64 (4*(q*q*q))=4*(q*q*q):=aC (by omega) (by omega)
  have w15:wrap64 (2*(q*q*q))=2*(q*q*q):=aC (by omega) (by omega)
  have w18:wrap64 (3*(s*s*s))=3*(s*s*s):=aC (by omega) (by omega)
  simp only [w0,w1,w2,w3,w5,a3,w6,w7,a4,w9,w12,w15,w18]
  by_cases h5:s < q
  · rw [if_pos h5,if_neg (show ¬ s≥q from by omega)]
    have v1:wrap64 (3*(s*s*s) - 5*(s*s*q))=3*(s*s*s) - 5*(s*s*q):=aC (by omega) (by omega)
    have v2:wrap64 (3*(s*s*s) - 5*(s*s*q)+2*(q*q*q))=3*(s*s*s) - 5*(s*s*q)+2*(q*q*q):=aC (by omega) (by omega)
    rw [v1,v2,jh (by omega) (by constructor <;> omega) (by decide) (by constructor <;> omega)]
    rfl
  · rw [if_neg h5,if_pos (show s≥q from by omega)]
    have v1:wrap64 (5*(s*s*q) - s*s*s) = -(s*s*s)+5*(s*s*q):=by rw [aC (by omega) (by omega)];omega
    have v2:wrap64 (-(s*s*s)+5*(s*s*q) - 8*(s*q*q)) = -(s*s*s)+5*(s*s*q) - 8*(s*q*q):=aC (by omega) (by omega)
    have v3:wrap64 (-(s*s*s)+5*(s*s*q) - 8*(s*q*q)+4*(q*q*q)) = -(s*s*s)+5*(s*s*q) - 8*(s*q*q)+4*(q*q*q):=aC (by omega) (by omega)
    rw [v1,v2,v3,jh (by omega) (by constructor <;> omega) (by decide) (by constructor <;> omega)]
    rfl
theorem agR {k:Nat} (hk:60000≤k) {f n m i j:Int} (h:tH f n m i) (hj : -34359738368≤j∧j≤34359738368):lF.f k f n m i j=some (wV f n m i j):=by
  obtain ⟨h1,h2,h3,h4,h5,h6,h7,h8⟩:=id h
  have hP:=acU ⟨h3,h4⟩ ⟨h5,h6⟩ ⟨h7,h8⟩
  have hx:1≤mx n m∧mx n m≤65536:=by unfold mx;split <;> omega
  have hJ:=al5 ⟨h5,h6⟩ hj
  have q1:(i+1)*n=i*n+n:=by rw [Int.add_mul,Int.one_mul]
  have q2:(2*i+1)*n=2*(i*n)+n:=by rw [Int.add_mul,Int.one_mul,Int.mul_assoc]
  have q3:(j+1)*m=j*m+m:=by rw [Int.add_mul,Int.one_mul]
  have q4:2*m*j=2*(m*j):=Int.mul_assoc _ _ _
  have q5:m*j=j*m:=Int.mul_comm _ _
  have e1:wrap64 (i*n)=i*n:=aC (by omega) (by omega)
  have e2:wrap64 (i+1)=i+1:=aC (by omega) (by omega)
  have e3:wrap64 (i*n+n)=i*n+n:=aC (by omega) (by omega)
  have e4:wrap64 (2*i)=2*i:=aC (by omega) (by omega)
  have e5:wrap64 (2*i+1)=2*i+1:=aC (by omega) (by omega)
  have e6:wrap64 (2*(i*n)+n)=2*(i*n)+n:=aC (by omega) (by omega)
  have e7:wrap64 (j+1)=j+1:=aC (by omega) (by omega)
  have e8:wrap64 (j*m)=j*m:=aC (by omega) (by omega)
  have e9:wrap64 (j*m+m)=j*m+m:=aC (by omega) (by omega)
  have e10:wrap64 (2*m)=2*m:=aC (by omega) (by omega)
  have apI:wrap64 (2*n)=2*n:=aC (by omega) (by omega)
  have e11:wrap64 (2*(m*j))=2*(m*j):=aC (by omega) (by omega)
  have e12:wrap64 (2*(m*j) - (2*(i*n)+n))=2*(m*j) - (2*(i*n)+n):=aC (by omega) (by omega)
  have e13:wrap64 (2*(m*j) - (2*(i*n)+n)+m)=2*(m*j) - (2*(i*n)+n)+m:=aC (by omega) (by omega)
  have fr:fP.f n m i j=some (acV n m i j,2*mx n m):=by
    unfold fP.f mx acV
    simp only [e4,e5,q2,e6,e10,apI,q4,e11,e12,e13]
    by_cases c:m > n
    · rw [if_pos c,if_pos (show n < m from c)]
    · rw [if_neg c,if_neg (show ¬ n < m from c)]
  have hfr : -9223372036854775808≤acV n m i j∧acV n m i j≤9223372036854775807:=by unfold acV;omega
  unfold lF.f wV
  simp only [fr,e1,e2,q1,e3,e7,q3,e8,e9]
  by_cases c0:f=0
  · rw [if_pos c0,if_pos c0]
    unfold aeR mn mx
    by_cases g1:j*m > i*n
    · rw [if_pos g1,if_pos (show i*n < j*m from g1)]
      by_cases g2:j*m+m < i*n+n
      · rw [if_pos g2,if_pos g2,aC (by omega) (by omega),jh (by omega) (by constructor <;> omega) (by decide) (by constructor <;> omega)];rfl
      · rw [if_neg g2,if_neg g2,aC (by omega) (by omega),jh (by omega) (by constructor <;> omega) (by decide) (by constructor <;> omega)];rfl
    · rw [if_neg g1,if_neg (show ¬ i*n < j*m from g1)]
      by_cases g2:j*m+m < i*n+n
      · rw [if_pos g2,if_pos g2,aC (by omega) (by omega),jh (by omega) (by constructor <;> omega) (by decide) (by constructor <;> omega)];rfl
      · rw [if_neg g2,if_neg g2,aC (by omega) (by omega),jh (by omega) (by constructor <;> omega) (by decide) (by constructor <;> omega)];rfl
  · rw [if_neg c0,if_neg c0]
    simp only [Option.bind_some]
    by_cases c1:f=1
    · rw [if_pos c1,if_pos c1,aiL (by omega) hfr (by constructor <;> omega)];rfl
    · rw [if_neg c1,if_neg c1,afT (by omega)];rfl
theorem akl {f n m i:Int} (h:tH f n m i) (c:Nat) (hc:(c:Int)=kY f n m i - fU f n m i):∀ (d k t:Nat),t+d=c→d+60100 < k →
    bQ.l2 k f n m i (fU f n m i+(t:Int)) (fU f n m i) ((List.range t).map fun (t:Nat)=>wV f n m i (fU f n m i+(t:Int)))=some (fU f n m i,(List.range c).map fun (t:Nat)=>wV f n m i (fU f n m i+(t:Int))):=by
  have hw:=zA h
  intro d
  induction d with
  | zero =>
    intro k t ht hk
    obtain ⟨k,rfl⟩:∃ m,k=m+1:=⟨k - 1,by omega⟩
    rw [bQ.l2,xC h (by omega),decide_eq_false (by omega)]
    simp only [Option.bind_some]
    rw [if_neg (by decide),show t=c from by omega]
  | succ d ih =>
    intro k t ht hk
    obtain ⟨k,rfl⟩:∃ m,k=m+1:=⟨k - 1,by omega⟩
    rw [bQ.l2,xC h (by omega),decide_eq_true (by omega)]
    simp only [Option.bind_some,if_true]
    rw [agR (by omega) h (by omega)]
    simp only [Option.bind_some]
    rw [if_pos (by rw [List.length_map,List.length_range];omega),aC (show -9223372036854775808≤fU f n m i+(t:Int)+1 from by omega) (by omega)]
    have:=ih k (t+1) (by omega) (by omega)
    rw [List.range_succ,List.map_append,List.map_singleton] at this
    rw [show fU f n m i+((t+1:Nat):Int)=fU f n m i+(t:Int)+1 from by omega] at this
    exact this
theorem akm {f n m i:Int} (h:tH f n m i):∀ (d k:Nat),fU f n m i+(d:Int) < kY f n m i→d+(kY f n m i - fU f n m i).toNat+60200 < k →
    bQ.l0 k f n m i (fU f n m i+(d:Int))=some (fU f n m i,vF f n m i):=by
  have hw:=zA h
  intro d
  induction d with
  | zero =>
    intro k hd hk
    obtain ⟨k,rfl⟩:∃ m,k=m+2:=⟨k - 2,by omega⟩
    rw [bQ.l0,aC (show -9223372036854775808≤fU f n m i+((0:Nat):Int) - 1 from by omega) (by omega),xC h (by omega),decide_eq_false (by omega)]
    simp only [Option.bind_some]
    rw [if_neg (by decide),bQ.l1,xC h (by omega),decide_eq_true (by omega)]
    simp only [Option.bind_some,if_true]
    have:=akl h (kY f n m i - fU f n m i).toNat (by omega) (kY f n m i - fU f n m i).toNat k 0 (by omega) (by omega)
    rw [show fU f n m i+((0:Nat):Int)=fU f n m i from by omega] at this ⊢
    exact this
  | succ d ih =>
    intro k hd hk
    obtain ⟨k,rfl⟩:∃ m,k=m+1:=⟨k - 1,by omega⟩
    rw [bQ.l0,aC (show -9223372036854775808≤fU f n m i+((d+1:Nat):Int) - 1 from by omega) (by omega),xC h (by omega),decide_eq_true (by omega)]
    simp only [Option.bind_some,if_true]
    rw [show fU f n m i+((d+1:Nat):Int) - 1=fU f n m i+(d:Int) from by omega]
    exact ih k (by omega) (by omega)
theorem aiM {k:Nat} {f n m i:Int} (h:tH f n m i) (hk:2*(kY f n m i - fU f n m i).toNat+60201≤k):bQ.f k f n m i=some (fU f n m i,vF f n m i):=by
  have hm:=alg h
  have hw:=zA h
  obtain ⟨h1,h2,h3,h4,h5,h6,h7,h8⟩:=id h
  have hP:=acU ⟨h3,h4⟩ ⟨h5,h6⟩ ⟨h7,h8⟩
  unfold bQ.f
  rw [akk,decide_eq_true h]
  simp only [Option.bind_some,if_true]
  rw [if_neg (by omega),aC (show -9223372036854775808≤i*n from by omega) (by omega),Int.tdiv_eq_ediv_of_nonneg (by omega),aC (by omega) (by omega)]
  have:=akm h (i*n / m - fU f n m i).toNat k (by omega) (by omega)
  rw [show fU f n m i+(((i*n / m - fU f n m i).toNat:Nat):Int)=i*n / m from by omega] at this
  exact this
theorem adz {k:Nat} (hk:1≤k) {a b:Int} (ha:I64 a) (hb:I64 b):gK.f k a b=some (hold (a+b)):=by
  obtain ⟨k,rfl⟩:∃ m,k=m+1:=⟨k - 1,by omega⟩
  unfold gK.f
  by_cases h1:b > 0
  · rw [if_pos h1,aC (by omega) (by omega),gK.j0]
    by_cases h2:a > 9223372036854775807 - b
    · rw [if_pos (by simpa using h2)]
      unfold hold;rw [if_neg (by omega),if_pos (by omega)]
    · rw [if_neg (by simpa using h2),if_neg (by omega),aC (by omega) (by omega),tC (by omega) (by omega)]
  · rw [if_neg h1,gK.j0,if_neg (by decide)]
    by_cases h2:b < 0
    · rw [if_pos h2,aC (show -9223372036854775808 ≤ -9223372036854775808 - b from by omega) (by omega)]
      by_cases h3:a < -9223372036854775808 - b
      · rw [if_pos h3];unfold hold;rw [if_pos (by omega)]
      · rw [if_neg h3,aC (by omega) (by omega),tC (by omega) (by omega)]
    · rw [if_neg h2,aC (by omega) (by omega),tC (by omega) (by omega)]
theorem adA {x:Int} (hx:I64 x):iG.f x=some (szV x):=by
  rw [anQ hx]
  unfold iG.f
  by_cases h1:x≥0
  · rw [if_pos h1,if_pos h1]
  · rw [if_neg h1,if_neg h1]
    by_cases h2:x < -9223372036854775807
    · rw [if_pos h2,if_pos h2]
    · rw [if_neg h2,if_neg h2,aC (by omega) (by omega)]
theorem ahN (l:List Int) (hl:l.length < 4611686018427387904) (hx:∀ x ∈ l,I64 x):∀ (d k i:Nat) (s:Int),i+d=l.length→d+2 < k→I64 s→iq.l0 k s l (l.length:Int) (i:Int)=some (nX s (l.drop i)):=by
  intro d
  induction d with
  | zero =>
    intro k i s h1 h2 hs
    obtain ⟨k,rfl⟩:∃ m,k=m+1:=⟨k - 1,by omega⟩
    rw [iq.l0,if_neg (by omega),List.drop_of_length_le (by omega)];rfl
  | succ d ih =>
    intro k i s h1 h2 hs
    obtain ⟨k,rfl⟩:∃ m,k=m+1:=⟨k - 1,by omega⟩
    have hz:=al7 (uU hx (i:Int))
    rw [iq.l0,if_pos (by omega),if_pos (by omega),if_pos (by omega),adA (uU hx _)]
    simp only [Option.bind_some]
    rw [adz (by omega) hs (by constructor <;> omega)]
    simp only [Option.bind_some]
    rw [aC (show -9223372036854775808≤(i:Int)+1 from by omega) (by omega),aht (by omega)]
    exact ih k (i+1) _ (by omega) (by omega) (qG _)
theorem ahO {k:Nat} {l:List Int} (hk:l.length+3≤k) (hl:l.length < 4611686018427387904) (hx:∀ x ∈ l,I64 x):iq.f k l=some (nX 0 l) :=
  ahN l hl hx l.length k 0 0 (by omega) (by omega) (by decide)
theorem akn (l:List Int) (hl:l.length < 4611686018427387904) (hx:∀ x ∈ l,I64 x):∀ (d k i:Nat) (s:Int),i+d=l.length→d+2 < k→I64 s→eY.l0 k s l (l.length:Int) (i:Int)=some (dI s (l.drop i)):=by
  intro d
  induction d with
  | zero =>
    intro k i s h1 h2 hs
    obtain ⟨k,rfl⟩:∃ m,k=m+1:=⟨k - 1,by omega⟩
    rw [eY.l0,if_neg (by omega),List.drop_of_length_le (by omega)];rfl
  | succ d ih =>
    intro k i s h1 h2 hs
    obtain ⟨k,rfl⟩:∃ m,k=m+1:=⟨k - 1,by omega⟩
    rw [eY.l0,if_pos (by omega),if_pos (by omega),if_pos (by omega),adz (by omega) hs (uU hx _)]
    simp only [Option.bind_some]
    rw [aC (show -9223372036854775808≤(i:Int)+1 from by omega) (by omega),aht (by omega)]
    exact ih k (i+1) _ (by omega) (by omega) (qG _)
theorem aep {k:Nat} {l:List Int} (hk:l.length+3≤k) (hl:l.length < 4611686018427387904) (hx:∀ x ∈ l,I64 x):eY.f k l=some (dI 0 l) :=
  akn l hl hx l.length k 0 0 (by omega) (by omega) (by decide)
theorem aiN (l:List Int) (s:Int) (hs:I64 s) (hl:l.length≤1024) (hx:∀ x ∈ l,I64 x):∀ (d k i:Nat),i+d=l.length→d+160 < k →
    bD.l0 k s ((List.range i).map (fun (i:Nat)=>hold (jk (rd l (i:Int)*1073741824) s))) l (l.length:Int) (i:Int)=some ((List.range l.length).map (fun (i:Nat)=>hold (jk (rd l (i:Int)*1073741824) s)),0):=by
  intro d
  induction d with
  | zero =>
    intro k i h1 h2
    obtain ⟨k,rfl⟩:∃ m,k=m+1:=⟨k - 1,by omega⟩
    rw [bD.l0,if_neg (by omega),show i=l.length from by omega]
  | succ d ih =>
    intro k i h1 h2
    obtain ⟨k,rfl⟩:∃ m,k=m+1:=⟨k - 1,by omega⟩
    rw [bD.l0,if_pos (by omega),if_pos (by omega),if_pos (by omega),jh (by omega) (uU hx _) (by decide) hs]
    simp only [Option.bind_some]
    rw [if_pos (by simp;omega),aC (by omega) (by omega)]
    have:=ih k (i+1) (by omega) (by omega)
    rw [List.range_succ,List.map_append] at this
    exact this
theorem aaY {k:Nat} {l:List Int} (hk:l.length+200≤k) (hl:l.length < 4611686018427387904) (hx:∀ x ∈ l,I64 x):bD.f k l=some (nO l):=by
  obtain ⟨k,rfl⟩:∃ m,k=m+1:=⟨k - 1,by omega⟩
  have hz:=ajG (s:=0) (by decide) hx
  unfold bD.f nO
  rw [ahO (by omega) hl hx]
  simp only [Option.bind_some]
  by_cases h1:(l.length:Int) % 2=0
  · rw [if_pos h1,bD.j0,if_pos rfl,if_pos (Or.inl (by omega))]
  rw [if_neg h1]
  by_cases h2:(l.length:Int) > 1024
  · rw [if_pos h2,bD.j0,if_pos rfl,if_pos (Or.inr (Or.inl (by omega)))]
  rw [if_neg h2]
  by_cases h3:nX 0 l=0
  · rw [if_pos h3,bD.j0,if_pos rfl,if_pos (Or.inr (Or.inr (Or.inl (by omega))))]
  rw [if_neg h3,bD.j0]
  by_cases h4:nX 0 l > 1048576
  · rw [if_pos (by simpa using h4),if_pos (Or.inr (Or.inr (Or.inr h4)))]
  rw [if_neg (by simpa using h4),if_neg (by omega)]
  exact aiN l (nX 0 l) (by constructor <;> omega) (by omega) hx l.length k 0 (by omega) (by omega)
theorem apJ (o r:List Int) (left:Int) (n:Nat) (hr:r.length=n) (ho:o.length=n) (h1:1≤n) (hn:n≤1048576):∀ (d k i:Nat),i+d=n →
    aG.l3 (k+d+1) o r left (best r i:Int) (n:Int) (i:Int)=aG.l2 k (o.set (best r n) (wrap64 (rd o (best r n:Int)+1))) (r.set (best r n) (-1)) (wrap64 (left - 1)):=by
  intro d
  induction d with
  | zero =>
    intro k i hi
    have e:i=n:=by omega
    have hb:=abf r n h1
    rw [aG.l3,if_neg (by omega),e,if_pos (by omega),if_pos (by omega),if_pos (by omega)]
    rw [show ((best r n:Nat):Int).toNat=best r n from by omega]
  | succ d ih =>
    intro k i hi
    have hb:best r i < n:=by
      by_cases c:1≤i
      · have:=abf r i c;omega
      · have:i=0:=by omega
        subst this;rw [best];omega
    rw [show k+(d+1)+1=(k+d+1)+1 from by omega,aG.l3,if_pos (by omega),if_pos (by omega),if_pos (by omega),if_pos (by omega),if_pos (by omega)]
    have:=ih k (i+1) (by omega)
    rw [best] at this
    rw [aC (show -9223372036854775808≤(i:Int)+1 from by omega) (by omega)]
    by_cases c:rd r (i:Int) > rd r (best r i:Int)
    · rw [if_pos c] at this ⊢;exact this
    · rw [if_neg c] at this ⊢;exact this
theorem apK (n:Nat) (h1:1≤n) (hn:n≤1048576):∀ (t k:Nat) (o r:List Int),o.length=n→r.length=n→(t:Int)≤1048576→(∀ j:Nat,-1099511627776≤rd o (j:Int)∧rd o (j:Int)+t≤1099511627776) →
    aG.l2 (k+t*(n+2)+1) o r (t:Int)=some (picks t o r,0):=by
  intro t
  induction t with
  | zero =>
    intro k o r ho hr ht hb
    rw [aG.l2,if_neg (by omega)];rfl
  | succ t ih =>
    intro k o r ho hr ht hb
    have e:k+(t+1)*(n+2)+1=((k+t*(n+2)+1)+n+1)+1:=by rw [Nat.add_mul,Nat.one_mul];omega
    have h3:=apJ o r ((t+1:Nat):Int) n hr ho h1 hn n (k+t*(n+2)+1) 0 (by omega)
    have hbb:=abf r n h1
    have hbd:=hb (best r n)
    rw [e,aG.l2,if_pos (by omega),hr]
    rw [show ((best r 0:Nat):Int)=0 from rfl] at h3
    rw [show (0:Int)=((0:Nat):Int) from rfl]
    refine h3.trans ?_
    rw [aC (show -9223372036854775808≤rd o (best r n:Int)+1 from by omega) (by omega),aC (show -9223372036854775808≤((t+1:Nat):Int) - 1 from by omega) (by omega),show ((t+1:Nat):Int) - 1=(t:Int) from by omega,picks,hr]
    refine ih k _ _ (by rw [List.length_set];exact ho) (by rw [List.length_set];exact hr) (by omega) (fun j => ?_)
    rw [wo _ _ _ (by omega)]
    have:=hb j
    split
    · rename_i c;subst c;omega
    · omega
theorem apL {l:List Int} {s:Int} (hG:Good l s) (R:Option (List Int × Int)) (K:Nat) (hR:∀ k,K≤k→aG.l2 k ((List.range l.length).map fun j=>qV l s j) ((List.range l.length).map fun j=>mV l s j) (16384 - fE (qV l s) l.length)=R):∀ (d k i:Nat),i+d=l.length→d+K+200 < k →
    aG.l1 k s ((List.range i).map fun j=>qV l s j) ((List.range i).map fun j=>mV l s j) (16384 - fE (qV l s) i) l (l.length:Int) (i:Int)=R:=by
  intro d
  induction d with
  | zero =>
    intro k i h1 h2
    obtain ⟨k,rfl⟩:∃ m,k=m+1:=⟨k - 1,by omega⟩
    rw [aG.l1,if_neg (by omega),show i=l.length from by omega]
    exact hR k (by omega)
  | succ d ih =>
    intro k i h1 h2
    obtain ⟨k,rfl⟩:∃ m,k=m+1:=⟨k - 1,by omega⟩
    have hx:=hG.xb i (by omega)
    have hq:=hG.qb i (by omega)
    have hs:=hG.sb
    have hn1:=hG.n1
    have hp:=afU (qV l s) l.length hG.qb i (by omega)
    have e:=Int.mul_ediv_add_emod (rd l (i:Int)*16384) s
    have r0:=Int.emod_nonneg (rd l (i:Int)*16384) (show s≠0 by omega)
    have r1:=Int.emod_lt_of_pos (rd l (i:Int)*16384) (show 0 < s by omega)
    have eq:qV l s i=rd l (i:Int)*16384 / s:=rfl
    have em:mV l s i=rd l (i:Int)*16384 % s:=rfl
    have ec:qV l s i*s=s*(rd l (i:Int)*16384 / s):=by rw [eq,Int.mul_comm]
    rw [aG.l1,if_pos (by omega),if_pos (by omega),if_pos (by omega),aC (show -9223372036854775808≤rd l (i:Int)*16384 from by omega) (by omega),acH (by omega) (by constructor <;> omega) (by constructor <;> omega)]
    simp only [Option.bind_some]
    rw [if_pos (by simp;omega),if_pos (by simp;omega)]
    have ef:hold (flo (rd l (i:Int)*16384) s)=qV l s i:=by
      unfold flo;rw [if_pos (by omega),← eq,tC (by omega) (by omega)]
    rw [ef,aC (show -9223372036854775808≤qV l s i*s from by omega) (by omega),aC (show -9223372036854775808≤rd l (i:Int)*16384 - qV l s i*s from by omega) (by omega),show rd l (i:Int)*16384 - qV l s i*s=mV l s i from by omega,
      aC (show -9223372036854775808≤16384 - fE (qV l s) i - qV l s i from by omega) (by omega),aC (show -9223372036854775808≤(i:Int)+1 from by omega) (by omega)]
    have:=ih k (i+1) (by omega) (by omega)
    rw [List.range_succ,List.map_append,List.map_append,fE] at this
    rw [show 16384 - fE (qV l s) i - qV l s i=16384 - (fE (qV l s) i+qV l s i) from by omega]
    exact this
theorem aax {l:List Int} (hx:∀ x ∈ l,I64 x) (hl:l.length < 4611686018427387904):∃ K,∀ k,K≤k→aG.f k l=some (if jy l=0 then (iQ l,0) else ([],jy l)):=by
  by_cases h0:l.length=0
  · refine ⟨2,fun k hk => ?_⟩
    obtain ⟨k,rfl⟩:∃ m,k=m+1:=⟨k - 1,by omega⟩
    have e:jy l=7:=by unfold jy;rw [if_pos (Or.inl h0)]
    unfold aG.f
    rw [if_pos (by omega),aG.j0,if_pos rfl,e];rfl
  by_cases h1:l.length > 1048576
  · refine ⟨2,fun k hk => ?_⟩
    obtain ⟨k,rfl⟩:∃ m,k=m+1:=⟨k - 1,by omega⟩
    have e:jy l=7:=by unfold jy;rw [if_pos (Or.inr (Or.inl h1))]
    unfold aG.f
    rw [if_neg (by omega),aG.j0,if_pos (by simp;omega),e];rfl
  have loop:∀ (R:Option (List Int × Int)) (K:Nat),((∃ x ∈ l,szV x > 1099511627776)→R=some ([],7))→((¬ ∃ x ∈ l,szV x > 1099511627776)→∀ k,K≤k→(eY.f k l).bind (fun t=>if t < 268435456 then some (([]:List Int),(8:Int)) else aG.l1 k t [] [] 16384 l (l.length:Int) 0)=R) →
      ∀ (d k i:Nat),i+d=l.length→d+K+2 < k→(∀ j,j < i→¬ szV (rd l (j:Int)) > 1099511627776)→aG.l0 k l l (l.length:Int) (i:Int)=R:=by
    intro R K g1 g2 d
    induction d with
    | zero =>
      intro k i q1 q2 q3
      obtain ⟨k,rfl⟩:∃ m,k=m+1:=⟨k - 1,by omega⟩
      rw [aG.l0,if_neg (by omega)]
      refine g2 ?_ k (by omega)
      rintro ⟨x,hx1,hx2⟩
      obtain ⟨j,hj,rfl⟩:=List.getElem_of_mem hx1
      have:=q3 j (by omega)
      unfold rd at this
      rw [List.getD_eq_getElem?_getD,show ((j:Int)).toNat=j from by omega,List.getElem?_eq_getElem hj] at this
      exact this hx2
    | succ d ih =>
      intro k i q1 q2 q3
      obtain ⟨k,rfl⟩:∃ m,k=m+1:=⟨k - 1,by omega⟩
      rw [aG.l0,if_pos (by omega),if_pos (by omega),if_pos (by omega),adA (uU hx _)]
      simp only [Option.bind_some]
      by_cases c:szV (rd l (i:Int)) > 1099511627776
      · rw [if_pos c];exact (g1 ⟨_,ako (by omega),c⟩).symm
      · rw [if_neg c,aC (show -9223372036854775808≤(i:Int)+1 from by omega) (by omega)]
        refine ih k (i+1) (by omega) (by omega) (fun j hj => ?_)
        by_cases c2:j=i
        · subst c2;exact c
        · exact q3 j (by omega)
  have top:∀ (R:Option (List Int × Int)) (K:Nat),((∃ x ∈ l,szV x > 1099511627776)→R=some ([],7))→((¬ ∃ x ∈ l,szV x > 1099511627776)→∀ k,K≤k→(eY.f k l).bind (fun t=>if t < 268435456 then some (([]:List Int),(8:Int)) else aG.l1 k t [] [] 16384 l (l.length:Int) 0)=R) →
      ∀ k,l.length+K+10≤k→aG.f k l=R:=by
    intro R K g1 g2 k hk
    obtain ⟨k,rfl⟩:∃ m,k=m+1:=⟨k - 1,by omega⟩
    unfold aG.f
    rw [if_neg (by omega),aG.j0,if_neg (by simp;omega)]
    exact loop R K g1 g2 l.length k 0 (by omega) (by omega) (fun j hj=>by omega)
  by_cases hs:dI 0 l < 268435456
  · refine ⟨l.length+(l.length+3)+10,top _ (l.length+3) (fun q => ?_) (fun q k hk => ?_)⟩
    · have e:jy l=7:=by unfold jy;rw [if_pos (Or.inr (Or.inr q))]
      rw [e];rfl
    · have e:jy l=8:=by
        unfold jy;rw [if_neg (by rintro (g|g|g);exact h0 g;exact h1 g;exact q g),if_pos hs]
      rw [aep hk hl hx,e]
      simp only [Option.bind_some]
      rw [if_pos hs];rfl
  · by_cases hz:∃ x ∈ l,szV x > 1099511627776
    · refine ⟨l.length+0+10,top _ 0 (fun q => ?_) (fun q=>absurd hz q)⟩
      have e:jy l=7:=by unfold jy;rw [if_pos (Or.inr (Or.inr q))]
      rw [e];rfl
    · have e:jy l=0:=by
        unfold jy;rw [if_neg (by rintro (g|g|g);exact h0 g;exact h1 g;exact hz g),if_neg hs]
      have hG:=xA (fun i=>uU hx _) e
      have hlb:=hG.lb
      obtain ⟨t,ht⟩:∃ t:Nat,16384 - fE (qV l (dI 0 l)) l.length=(t:Int):=⟨(16384 - fE (qV l (dI 0 l)) l.length).toNat,by omega⟩
      have e2:iQ l=picks t ((List.range l.length).map fun j=>qV l (dI 0 l) j) ((List.range l.length).map fun j=>mV l (dI 0 l) j):=by
        unfold iQ;rw [ht];rfl
      have hK:∀ k,t*(l.length+2)+1≤k→aG.l2 k ((List.range l.length).map fun j=>qV l (dI 0 l) j) ((List.range l.length).map fun j=>mV l (dI 0 l) j) (16384 - fE (qV l (dI 0 l)) l.length)=some (iQ l,0):=by
        intro k hk
        rw [ht,e2,show k=(k - (t*(l.length+2)+1))+t*(l.length+2)+1 from by omega]
        refine apK l.length hG.n0 hG.n1 t _ _ _ (by simp) (by simp) (by have:=hG.n1;omega) (fun j => ?_)
        by_cases c:j < l.length
        · have:=hG.qb j c
          have:=hG.n1
          rw [abp _ c];omega
        · unfold rd
          rw [List.getD_eq_getElem?_getD,List.getElem?_eq_none (by simp;omega)]
          have:=hG.n1
          simp;omega
      refine ⟨l.length+(l.length+(t*(l.length+2)+1)+300)+10,top _ (l.length+(t*(l.length+2)+1)+300) (fun q=>absurd q hz) (fun q k hk => ?_)⟩
      rw [aep (by omega) hl hx,e]
      simp only [Option.bind_some]
      rw [if_neg hs]
      exact apL hG _ _ hK l.length k 0 (by omega) (by omega)
def toR (x:S71):mG:=⟨x.f0,x.f1⟩
def adb (l:List S71):Int:=l.foldl (fun m x=>mx m (x.f1.length:Int)) 0
def ade (l:List S71):Int:=l.foldl (fun m x=>mx m (nX 0 x.f1)) 0
structure Told (t:Tab):Prop where
  m:t.most=adb t.lines
  s:t.size=ade t.lines
  n:t.lines.length≤70000
  l:∀ o:Nat,o < t.lines.length→(1≤(iW t.lines (o:Int)).f1.length∧(iW t.lines (o:Int)).f1.length≤2097152 ∧ -1099511627776≤(iW t.lines (o:Int)).f0∧(iW t.lines (o:Int)).f0≤1099511627776)∧∀ x ∈ (iW t.lines (o:Int)).f1,I64 x
theorem aaZ (n:Int):iH.f n=some (decide (1≤n∧n≤65536)):=by
  unfold iH.f
  by_cases h:n≥1
  · rw [if_pos h];congr 1;by_cases c:n≤65536
    · rw [decide_eq_true c,decide_eq_true ⟨h,c⟩]
    · rw [decide_eq_false c,decide_eq_false (fun q=>c q.2)]
  · rw [if_neg h];congr 1;rw [decide_eq_false (fun q=>h q.1)]
theorem abY {f n:Int} {M:Nat} (h:okR f n M):∀ (d i:Nat),i+d=M→∃ K,∀ k,K≤k→bU.l0 k f n M ((gq f n M i).lines.map toR) M i=some (if gX f n M i d=0 then ((gq f n M M).lines.map toR,0) else ([],gX f n M i d))
  | 0,i,hi=>by
    have:i=M:=by omega
    subst this
    refine ⟨1,fun k hk => ?_⟩
    obtain ⟨k,rfl⟩:∃ m,k=m+1:=⟨k - 1,by omega⟩
    rw [bU.l0,if_neg (by omega),gX,if_pos rfl]
  | d+1,i,hi=>by
    obtain ⟨h1,h2,h3,h4,h5,h6⟩:=h
    obtain ⟨K1,ih⟩:=abY ⟨h1,h2,h3,h4,h5,h6⟩ d (i+1) (by omega)
    have hm:tH f n M i:=⟨h1,h2,h3,h4,by omega,by omega,by omega,by omega⟩
    have hb:=zA hm
    obtain ⟨K2,ha⟩:=aax (abq f n M i) (by rw [aoG];omega)
    obtain ⟨K3,hK3⟩:∃ K3,K3=2*(kY f n M i - fU f n M i).toNat+60201:=⟨_,rfl⟩
    refine ⟨K1+K2+K3+1,fun k hk => ?_⟩
    obtain ⟨k,rfl⟩:∃ m,k=m+1:=⟨k - 1,by omega⟩
    rw [bU.l0,if_pos (by omega),aiM hm (show 2*(kY f n M i - fU f n M i).toNat+60201≤k by rw [← hK3];omega),Option.bind_some,ha k (by omega),Option.bind_some,gX]
    by_cases hc:jy (vF f n M i)=0
    · rw [if_pos hc,if_pos hc,if_pos rfl,if_pos (by rw [List.length_map,rD];omega),show wrap64 ((i:Int)+1)=((i+1:Nat):Int) by rw [aC (by omega) (by omega)];omega]
      have e:(gq f n M i).lines.map toR ++ [(⟨fU f n M i,iQ (vF f n M i)⟩:mG)]=(gq f n M (i+1)).lines.map toR:=by
        show _=((gq f n M i).lines ++ [_]).map toR
        rw [List.map_append];rfl
      rw [e]
      exact ih k (by omega)
    · rw [if_neg hc,if_neg hc,if_neg hc,if_neg hc]
theorem abZ {f n:Int} {M:Nat} (h:okR f n M):∃ K,bU.f K f n M=some (if gX f n M 0 M=0 then ((gq f n M M).lines.map toR,0) else ([],gX f n M 0 M)):=by
  obtain ⟨K,hK⟩:=abY h M 0 (by omega)
  obtain ⟨h1,h2,h3,h4,h5,h6⟩:=h
  refine ⟨K+1,?_⟩
  unfold bU.f
  rw [if_neg (by omega),if_neg (by omega),aaZ,decide_eq_true ⟨h3,h4⟩,Option.bind_some,if_pos rfl,aaZ,decide_eq_true ⟨h5,h6⟩,Option.bind_some,bU.j0,if_neg (by decide)]
  exact hK K (Nat.le_refl _)
theorem akp {f n:Int} {M:Nat} (h:okR f n M) (hc:gX f n M 0 M=0):Told (gq f n M M):=by
  obtain ⟨h1,h2,h3,h4,h5,h6⟩:=h
  have hz:∀ (d i:Nat),gX f n M i d=0→∀ j:Nat,i≤j→j < i+d→jy (vF f n M j)=0:=by
    intro d
    induction d with
    | zero=>intro i _ j h1 h2;omega
    | succ d ih =>
      intro i h j h1 h2
      rw [gX] at h
      by_cases c:jy (vF f n M i)=0
      · rw [if_pos c] at h
        by_cases e:j=i
        · rw [e];exact c
        · exact ih (i+1) h j (by omega) (by omega)
      · rw [if_neg c] at h;exact absurd h c
  have hk:=hz M 0 hc
  have hms:∀ i,(gq f n M i).most=adb (gq f n M i).lines∧(gq f n M i).size=ade (gq f n M i).lines:=by
    intro i
    induction i with
    | zero=>exact ⟨rfl,rfl⟩
    | succ i ih =>
      refine ⟨?_,?_⟩
      · show mx (gq f n M i).most _=adb ((gq f n M i).lines ++ [_])
        rw [ih.1];unfold adb;rw [List.foldl_append];rfl
      · show mx (gq f n M i).size _=ade ((gq f n M i).lines ++ [_])
        rw [ih.2];unfold ade;rw [List.foldl_append];rfl
  refine ⟨(hms M).1,(hms M).2,by rw [rD];omega,fun o ho => ?_⟩
  rw [rD] at ho
  rw [aik f n M M o ho]
  have hm:tH f n M o:=⟨h1,h2,h3,h4,by omega,by omega,by omega,by omega⟩
  have hb:=zA hm
  have hko:=hk o (by omega) (by omega)
  have hl:=zF (abq f n M o) hko
  have hg:=xA (fun i=>uU (abq f n M o) _) hko
  refine ⟨⟨?_,?_,?_,?_⟩,acX (abq f n M o) hko⟩
  · show 1≤(iQ (vF f n M o)).length
    rw [wu];exact hg.n0
  · show (iQ (vF f n M o)).length≤2097152
    rw [wu];have:=hl.1;omega
  · show -1099511627776≤fU f n M o
    omega
  · show fU f n M o≤1099511627776
    omega
def awc (xs:List mG) (c:Int) (w:World) (e:Ending) (w':World):Prop:=Below w.heap.size w w'∧if c=0 then ∃ v,e = .returned (.tuple #[v,.int .i64 0])∧Kd.R aaP 138 w' w.heap.size (fun _=>True) v xs else e = .returned (.tuple #[.slice none 0 0,.int .i64 c])
theorem au1:(Tryz.prog.info? 138).map (fun i=>(i.zero,i.size,i.bytes))=some (some (.agg #[(.int .i64 0),(.slice none 0 0)]),2,32):=by kernel_rfl
set_option maxHeartbeats 8000000 in
set_option maxRecDepth 100000 in
theorem abB (A0:Option Addr) (c0:Nat) (l:List Int) (N:Nat) (w:World) (hr0:Kd.C (Kd.int .i64) w A0 l.length l) (hc0:l.length≤c0) (hx:∀ x ∈ l,I64 x) (hl:l.length < 4611686018427387904) (h1:1≤N) (h2:N≤65536) :
    Calls Tryz.prog 97 #[.slice A0 l.length c0,.int .i64 N] w (awc ((iL N ((l.length / 2:Nat):Int) (iQ l) N).lines.map toR) (iT l N) w):=by
  have hs1:iH.f N=some true:=by rw [aaZ,decide_eq_true ⟨by omega,by omega⟩]
  have hfc:iT l N=if l.length % 2=0 then 7 else jy l:=by unfold iT;rw [if_pos ⟨by omega,by omega⟩]
  rw [hfc]
  clear hfc
  obtain ⟨K,hK⟩:=aax hx hl
  have happ:=hK K (Nat.le_refl _)
  clear hK
  obtain ⟨L,hL⟩:∃ L,L=l.length:=⟨_,rfl⟩
  have HR0:=aj.mk hr0
  have HX:=aj.mk hx
  have mixed:Tryz.prog.follows .mixedOrders=true:=by kernel_rfl
  have hdv:Int.tdiv (L:Int) 2=((L / 2:Nat):Int):=rfl
  have HDV:=aj.mk hdv
  clear hr0 hx hdv
  by_cases hev:L % 2=0
  · rw [← hL]
    rw [if_pos hev]
    have hrm:Int.tmod (L:Int) 2=0:=by show ((L % 2:Nat):Int)=0;rw [hev];rfl
    have HL:=aj.mk hL
    clear hL hev happ
    go_enter Tryz.func97,Tryz.ntmps97
    go_wp2_with (go_at_call 113;refine (iH.calls N true _ hs1).mono ?_;rintro e w' ⟨rfl,⟨nd,rfl⟩⟩)
    go_ret2
    refine ⟨aI (Below.refl _ _) _,?_⟩
    rw [if_neg (by decide)];rfl
  · rw [← hL,if_neg hev]
    have hrm:Int.tmod (L:Int) 2=1:=by show ((L % 2:Nat):Int)=1;rw [show L % 2=1 by omega];rfl
    have HLL:=aj.mk hL
    by_cases hc:jy l=0
    · rw [if_pos hc] at happ
      rw [hc]
      obtain ⟨tp,htp⟩:∃ v,v=iQ l:=⟨_,rfl⟩
      have hL9:L≤1048576:=by rw [hL];exact (zF HX.out hc).1
      rw [← htp] at happ ⊢
      have afA:=aj.mk (show ∀ w',Below w.heap.size w w'→Calls Tryz.prog 115 #[.slice A0 L c0] w' (fun e w''=>∃ v0_:Value,e = .returned (.tuple #[v0_,.int .i64 0])∧Kd.R (Kd.int .i64) 2 w'' w'.heap.size (fun _=>True) v0_ tp∧Below w'.heap.size w' w'') by intro w' hb;rw [hL];exact aG.calls K A0 c0 l tp 0 w' (Kd.bY HR0.out hb) hc0 happ)
      have HTP:=aj.mk htp
      clear htp hev happ hc hL
      go_enter Tryz.func97,Tryz.ntmps97
      go_upto_region 9 with (first|(go_at_call 113;refine (iH.calls N true _ hs1).mono ?_;rintro e w' ⟨rfl,⟨nd,rfl⟩⟩)|(go_at_call 115;refine (afA.out _ (aI (Below.refl _ _) _)).mono ?_;rintro e w2 ⟨v2,rfl,hr2,hb2⟩;obtain ⟨A2,c2,rfl⟩:=Kd.gB hr2;have HR2:=aj.mk (Kd.fZ hr2 (show w.heap.size≤_ from Nat.le_refl _));have HB2:=aj.mk (ak (aI (Below.refl _ _) _) hb2);clear hr2 hb2))
      go_wp2
      go_loopg [8,26] N (fun kx s8 s26 wr=>∃ (i:Nat),s26 = .int .i64 i∧i≤N∧N - i≤kx∧aj (Kd.R aaP 138 wr w.heap.size (fun _=>True) s8 ((iL N ((L / 2:Nat):Int) tp i).lines.map toR))∧aj (Below w.heap.size w wr)∧aj (Kd.R (Kd.int .i64) 2 wr w.heap.size (fun _=>True) (.slice A2 tp.length c2) tp))
      case atStart=>exact ⟨0,rfl,by omega,by omega,⟨Kd.kF _ _ _ _ _⟩,HB2,HR2⟩
      case round =>
        obtain ⟨i,rfl,i1,i2,HO,HB,HR⟩:=hrel
        have wi:IntKind.i64.wrap ((i:Int)+1)=(i:Int)+1:=by rw [kU];exact aC (by omega) (by omega)
        have wd:IntKind.i64.wrap ((i:Int) - ((L / 2:Nat):Int))=(i:Int) - ((L / 2:Nat):Int):=by rw [kU];exact aC (by omega) (by omega)
        by_cases hlt:(i:Int) < (N:Int)
        · have hq:=HDV.out
          obtain ⟨A8,c8,hs8⟩:=Kd.gB HO.out
          subst hs8
          have hlen:((iL N ((L / 2:Nat):Int) tp i).lines.map toR).length=i:=by rw [List.length_map,rE]
          have HLN:=aj.mk hlen
          obtain ⟨xs,hxs⟩:∃ xs,xs=(iL N ((L / 2:Nat):Int) tp i).lines.map toR:=⟨_,rfl⟩
          rw [← hxs] at HO HLN ⊢
          have HXS:=aj.mk hxs
          clear hxs hlen
          go_wp2_with (at_builtin;refine Kd.kZ aaP (w0:=w) w.heap.size rfl (.tmp 29) (.tmp 37) 39 138 (.agg #[(.int .i64 0),(.slice none 0 0)]) 32 rfl Tryz.underlying39 au1 rfl (by decide) (by omega) (.slice A8 xs.length c8) xs (⟨(i:Int) - ((L / 2:Nat):Int),tp⟩:mG) [.int .i64 ((i:Int) - ((L / 2:Nat):Int)),.slice A2 tp.length c2] (fun _=>True) (fun k=>some k≠(Value.slice A8 xs.length c8).ownBlock) rfl rfl ?aP (fun k hk=>⟨trivial,hk⟩) (fun _ _=>trivial) HO.out HB.out HB.out.size ?aL ?_;(case aP=>exact ajt _ _ _ (⟨(i:Int) - ((L / 2:Nat):Int),tp⟩:mG) (Kd.eF (Kd.ajn HR.out HO.out (by decide)) (fun k hk=>hk.2)));(case aL=>rw [HLN.out];omega);intro v1 w1 ho hb1 hg hat;have HO1:=aj.mk ho;have HB1:=aj.mk hb1;have HR1:=aj.mk (Kd.anC HR.out HO.out (by decide) hg);clear ho hb1 hg hat)
          go_roundg (N - (i+1))
          case measure=>omega
          case rel =>
            refine ⟨i+1,by simp,by omega,Nat.le_refl _,⟨?_⟩,HB1,HR1⟩
            have e:(iL N ((L / 2:Nat):Int) tp (i+1)).lines.map toR=xs ++ [(⟨(i:Int) - ((L / 2:Nat):Int),tp⟩:mG)]:=by
              rw [HXS.out]
              show ((iL N ((L / 2:Nat):Int) tp i).lines ++ [_]).map toR=_
              rw [List.map_append];rfl
            rw [e];exact HO1.out
        · have him:i=N:=by omega
          subst him
          go_wp2
          go_ret2
          refine ⟨HB.out,?_⟩
          rw [if_pos rfl]
          exact ⟨_,rfl,HO.out⟩
    · rw [if_neg hc] at happ
      obtain ⟨cv,hcv⟩:∃ v,v=jy l:=⟨_,rfl⟩
      rw [← hcv] at happ hc ⊢
      have bk:(cv == 0)=false:=by simpa using hc
      have bk2:(cv != 0)=true:=by simpa using hc
      have afA:=aj.mk (show ∀ w',Below w.heap.size w w'→Calls Tryz.prog 115 #[.slice A0 L c0] w' (fun e w''=>∃ v0_:Value,e = .returned (.tuple #[v0_,.int .i64 cv])∧Kd.R (Kd.int .i64) 2 w'' w'.heap.size (fun _=>True) v0_ []∧Below w'.heap.size w' w'') by intro w' hb;rw [hL];exact aG.calls K A0 c0 l [] cv w' (Kd.bY HR0.out hb) hc0 happ)
      clear hcv hev happ hL
      go_enter Tryz.func97,Tryz.ntmps97
      go_wp2_with (first|(go_at_call 113;refine (iH.calls N true _ hs1).mono ?_;rintro e w' ⟨rfl,⟨nd,rfl⟩⟩)|(go_at_call 115;refine (afA.out _ (aI (Below.refl _ _) _)).mono ?_;rintro e w2 ⟨v2,rfl,hr2,hb2⟩;have HB2:=aj.mk (ak (aI (Below.refl _ _) _) hb2);clear hr2 hb2))
      go_ret2
      refine ⟨HB2.out,?_⟩
      rw [if_neg hc]
      rfl
theorem akq {l:List Int} {N:Nat} (h1:1≤N) (h2:N≤65536) (hx:∀ x ∈ l,I64 x) (hc:iT l N=0):Told (iL N ((l.length / 2:Nat):Int) (iQ l) N):=by
  have hfc:iT l N=if l.length % 2=0 then 7 else jy l:=by unfold iT;rw [if_pos ⟨by omega,by omega⟩]
  rw [hfc] at hc
  have hk:jy l=0:=by
    by_cases c:l.length % 2=0
    · rw [if_pos c] at hc;exact absurd hc (by decide)
    · rw [if_neg c] at hc;exact hc
  have hms:∀ i,(iL N ((l.length / 2:Nat):Int) (iQ l) i).most=adb (iL N ((l.length / 2:Nat):Int) (iQ l) i).lines∧(iL N ((l.length / 2:Nat):Int) (iQ l) i).size=ade (iL N ((l.length / 2:Nat):Int) (iQ l) i).lines:=by
    intro i
    induction i with
    | zero=>exact ⟨rfl,rfl⟩
    | succ i ih =>
      refine ⟨?_,?_⟩
      · show mx (iL N ((l.length / 2:Nat):Int) (iQ l) i).most _=adb ((iL N ((l.length / 2:Nat):Int) (iQ l) i).lines ++ [_])
        rw [ih.1];unfold adb;rw [List.foldl_append];rfl
      · show mx (iL N ((l.length / 2:Nat):Int) (iQ l) i).size _=ade ((iL N ((l.length / 2:Nat):Int) (iQ l) i).lines ++ [_])
        rw [ih.2];unfold ade;rw [List.foldl_append];rfl
  refine ⟨(hms N).1,(hms N).2,by rw [rE];omega,fun o ho => ?_⟩
  rw [rE] at ho
  rw [ail _ _ _ N o ho]
  have hl:=zF hx hk
  have hg:=xA (fun i=>uU hx _) hk
  refine ⟨⟨?_,?_,?_,?_⟩,acX hx hk⟩
  · show 1≤(iQ l).length
    rw [wu];exact hg.n0
  · show (iQ l).length≤2097152
    rw [wu];have:=hl.1;omega
  · show -1099511627776≤(o:Int) - ((l.length / 2:Nat):Int)
    have:=hl.1;omega
  · show (o:Int) - ((l.length / 2:Nat):Int)≤1099511627776
    have:=hl.1;omega
theorem ahP {s:Int} (r:Nat) (hr:r≤200):∀ (d k i:Nat),i+d=2*r+1→d+70100 < k →
    bf.l1 k s (r:Int) ((List.range i).map fun (t:Nat)=>gV s ((t:Int) - (r:Int))) ((i:Int) - (r:Int))=some ((List.range (2*r+1)).map fun (t:Nat)=>gV s ((t:Int) - (r:Int)),0):=by
  intro d
  induction d with
  | zero =>
    intro k i h1 h2
    obtain ⟨k,rfl⟩:∃ m,k=m+1:=⟨k - 1,by omega⟩
    rw [bf.l1,if_neg (by omega),show i=2*r+1 from by omega]
  | succ d ih =>
    intro k i h1 h2
    obtain ⟨k,rfl⟩:∃ m,k=m+1:=⟨k - 1,by omega⟩
    rw [bf.l1,if_pos (by omega),ahM (by omega)]
    simp only [Option.bind_some]
    rw [if_pos (by simp;omega),aC (by omega) (by omega)]
    have:=ih k (i+1) (by omega) (by omega)
    rw [List.range_succ,List.map_append,show ((i+1:Nat):Int) - (r:Int)=(i:Int) - (r:Int)+1 from by omega] at this
    exact this
theorem ahQ {s:Int} (hs:1≤s∧s≤4194304) (r:Nat) (hr:(r:Int)=(3*s+65535) / 65536):∀ (d k i:Nat),i+d=r→d+71000 < k →
    bf.l0 k s (i:Int)=some ((List.range (2*r+1)).map fun (t:Nat)=>gV s ((t:Int) - (r:Int)),0):=by
  intro d
  induction d with
  | zero =>
    intro k i h1 h2
    obtain ⟨k,rfl⟩:∃ m,k=m+1:=⟨k - 1,by omega⟩
    rw [bf.l0,aC (by omega) (by omega),aC (by omega) (by omega),if_neg (by omega),aC (by omega) (by omega)]
    have:=ahP (s:=s) r (by omega) (2*r+1) k 0 (by omega) (by omega)
    rw [show ((0:Nat):Int) - (r:Int) = -(i:Int) from by omega] at this
    rw [show (i:Int)=(r:Int) from by omega] at this ⊢
    exact this
  | succ d ih =>
    intro k i h1 h2
    obtain ⟨k,rfl⟩:∃ m,k=m+1:=⟨k - 1,by omega⟩
    rw [bf.l0,aC (by omega) (by omega),aC (by omega) (by omega),if_pos (by omega),aC (by omega) (by omega)]
    exact ih k (i+1) (by omega) (by omega)
theorem ahR {k:Nat} (hk:72000≤k) {s:Int} (hs:I64 s):bf.f k s=some (xB s):=by
  obtain ⟨k,rfl⟩:∃ m,k=m+1:=⟨k - 1,by omega⟩
  unfold bf.f xB
  by_cases h1:s < 1
  · rw [if_pos h1,bf.j0,if_pos rfl,if_pos (Or.inl h1)]
  rw [if_neg h1,bf.j0]
  by_cases h2:s > 4194304
  · rw [if_pos (by simpa using h2),if_pos (Or.inr h2)]
  rw [if_neg (by simpa using h2),if_neg (by omega)]
  obtain ⟨r,hr⟩:∃ r:Nat,(r:Int)=(3*s+65535) / 65536:=⟨((3*s+65535) / 65536).toNat,by omega⟩
  have:=ahQ (s:=s) (by omega) r hr r k 0 (by omega) (by omega)
  unfold ags
  rw [← hr,show ((r:Int)).toNat=r from by omega]
  exact this
theorem aiO (n:Nat) (hn:n≤1023):∀ (d k i:Nat),i+d=n→d+1300 < k→dO.l0 k (List.replicate i 1) (n:Int) (i:Int)=some (nO (List.replicate n 1)):=by
  intro d
  induction d with
  | zero =>
    intro k i h1 h2
    obtain ⟨k,rfl⟩:∃ m,k=m+1:=⟨k - 1,by omega⟩
    rw [dO.l0,if_neg (by omega),aaY (by simp;omega) (by simp;omega) (ajN _),show i=n from by omega];rfl
  | succ d ih =>
    intro k i h1 h2
    obtain ⟨k,rfl⟩:∃ m,k=m+1:=⟨k - 1,by omega⟩
    rw [dO.l0,if_pos (by omega),if_pos (by simp;omega),aC (by omega) (by omega)]
    have:=ih k (i+1) (by omega) (by omega)
    rw [List.replicate_succ'] at this
    exact this
theorem aiP {k:Nat} (hk:3000≤k) {r:Int} (hr:I64 r):dO.f k r=some (aaj r):=by
  obtain ⟨k,rfl⟩:∃ m,k=m+1:=⟨k - 1,by omega⟩
  unfold dO.f aaj
  by_cases h1:r < 0
  · rw [if_pos h1,dO.j0,if_pos rfl,if_pos (Or.inl h1)]
  rw [if_neg h1,dO.j0]
  by_cases h2:r > 511
  · rw [if_pos (by simpa using h2),if_pos (Or.inr h2)]
  rw [if_neg (by simpa using h2),if_neg (by omega),aC (show -9223372036854775808≤2*r from by omega) (by omega),aC (show -9223372036854775808≤2*r+1 from by omega) (by omega)]
  have:=aiO (2*r+1).toNat (by omega) (2*r+1).toNat k 0 (by omega) (by omega)
  rw [show (((2*r+1).toNat:Nat):Int)=2*r+1 from by omega] at this
  exact this
end Go.Proofs.YtpondkggmcmpfaaGreatDoor.QA
namespace Go.Proofs.YtpondkggmcmpfaaGreatDoor.QA
open Go.RowKit Go.Proofs.YtpondkggmcmpfaaGreatDoorW.PrintWords Go.Proofs.YtpondkggmcmpfaaGreatDoorW.PrintLast Go.Proofs.YtpondkggmcmpfaaGreatDoorW.PrintMore Go.Proofs.YtpondkggmcmpfaaGreatDoor.T
set_option linter.unusedVariables false
set_option linter.unusedSimpArgs false
theorem cells3 {w:World} {g t:Nat} {v0 v1 v2:Value} (h:w.heap[g]? = some (.cells #[v0,v1,v2] t (0,0))):w.cell? ⟨g,0,none⟩=some v0∧w.cell? ⟨g,1,none⟩=some v1∧w.cell? ⟨g,2,none⟩=some v2:=⟨(au h 0).trans rfl,(au h 1).trans rfl,(au h 2).trans rfl⟩
theorem cells5 {w:World} {g t:Nat} {v0 v1 v2 v3 v4:Value} (h:w.heap[g]? = some (.cells #[v0,v1,v2,v3,v4] t (0,0))):w.cell? ⟨g,0,none⟩=some v0∧w.cell? ⟨g,1,none⟩=some v1∧w.cell? ⟨g,2,none⟩=some v2∧w.cell? ⟨g,3,none⟩=some v3∧w.cell? ⟨g,4,none⟩=some v4:=⟨(au h 0).trans rfl,(au h 1).trans rfl,(au h 2).trans rfl,(au h 3).trans rfl,(au h 4).trans rfl⟩
theorem cells9 {w:World} {g t:Nat} {v0 v1 v2 v3 v4 v5 v6 v7 v8:Value} (h:w.heap[g]? = some (.cells #[v0,v1,v2,v3,v4,v5,v6,v7,v8] t (0,0))):w.cell? ⟨g,0,none⟩=some v0∧w.cell? ⟨g,1,none⟩=some v1∧w.cell? ⟨g,2,none⟩=some v2∧w.cell? ⟨g,3,none⟩=some v3∧w.cell? ⟨g,4,none⟩=some v4∧w.cell? ⟨g,5,none⟩=some v5∧w.cell? ⟨g,6,none⟩=some v6∧w.cell? ⟨g,7,none⟩=some v7∧w.cell? ⟨g,8,none⟩=some v8:=⟨(au h 0).trans rfl,(au h 1).trans rfl,(au h 2).trans rfl,(au h 3).trans rfl,(au h 4).trans rfl,(au h 5).trans rfl,(au h 6).trans rfl,(au h 7).trans rfl,(au h 8).trans rfl⟩
end Go.Proofs.YtpondkggmcmpfaaGreatDoor.QA
