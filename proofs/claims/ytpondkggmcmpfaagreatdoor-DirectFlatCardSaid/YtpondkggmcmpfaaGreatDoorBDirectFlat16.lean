/- Joined by wip/tools/bundle.py out of: TR TY TM5 TR5 TG5. -/
import Derived.Test.YtpondkggmcmpfaaGreatDoorBDirectFlat15
import Derived.Test.YtpondkggmcmpfaaGreatDoorBDirectFlat11
set_option maxHeartbeats 8000000
set_option maxRecDepth 100000
namespace Go.Proofs.YtpondkggmcmpfaaGreatDoor.QA
open Go.RowKit Go.Proofs.YtpondkggmcmpfaaGreatDoorW.PrintWords Go.Proofs.YtpondkggmcmpfaaGreatDoorW.PrintLast Go.Proofs.YtpondkggmcmpfaaGreatDoorW.PrintMore Go.Proofs.YtpondkggmcmpfaaGreatDoor.T
set_option linter.unusedVariables false
set_option linter.unusedSimpArgs false
theorem pO {a:Int} (ha:I64 a):dP.f a=some (siz a):=by
 unfold dP.f siz wrap64;simp only [nO];split
 . congr 1;omega
 . congr 1;omega
theorem kM {k:Nat} (hk:1<=k) {h l:Int} (hh:U64 h) (hl:U64 l) (b:Bool):bY.f k h l b=some (hold (sgn b (h*18446744073709551616+l))):=by
 obtain ⟨k,rfl⟩:∃ n,k=n+1:=⟨k - 1,by omega⟩;unfold bY.f sgn hold;cases b
 . simp only [Bool.false_eq_true,if_false];rw [if_neg (show ¬ h*18446744073709551616+l < -9223372036854775808 from by omega)];by_cases c:h > 0
   . rw [if_pos c,if_pos (by omega)]
   . rw [if_neg c];by_cases d:l > 9223372036854775807
     . rw [if_pos d,if_pos (by omega)]
     . rw [if_neg d,if_neg (by omega)];congr 1;unfold wrap64;omega
 . simp only [if_true];simp only [bY.j0];by_cases c:h > 0
   . rw [if_pos c,if_pos trivial,if_pos (by omega)]
   . rw [if_neg c];by_cases d:l > 9223372036854775807
     . rw [if_pos (decide_eq_true d)];by_cases e:l=9223372036854775808
       . rw [if_neg (by omega),if_neg (by omega)];congr 1;omega
       . rw [if_pos (by omega)]
     . rw [if_neg (by simpa using d),if_neg (by omega),if_neg (by omega)];congr 1;unfold wrap64;omega
theorem sS {a b c d:Int} (_ha:U64 a) (hb:U64 b) (_hc:U64 c) (hd:U64 d) :
   gY.f a b c d=some ((a+c+(b+d) / 18446744073709551616) % 18446744073709551616,(b+d) % 18446744073709551616):=by
 unfold gY.f;simp only [nO];split
 . congr 2;omega
 . congr 2;omega
theorem adA {a b c d:Int} (_ha:U64 a) (hb:U64 b) (_hc:U64 c) (hd:U64 d) :
   kH.f a b c d=some ((a - c+(b - d) / 18446744073709551616) % 18446744073709551616,(b - d) % 18446744073709551616):=by
 unfold kH.f;simp only [nO];split
 . congr 2;omega
 . congr 2;omega
theorem oK {a b c:Int} (_ha:U64 a) (_hb:U64 b) (_hc:0<=c/\c<=1) :
   dM.f a b c=some ((2*a+b / 9223372036854775808) % 18446744073709551616,(2*b+c) % 18446744073709551616):=by
 unfold dM.f;simp only [nO];congr 2 <;> omega
theorem wE {a b c d:Int} (_ha:U64 a) (hb:U64 b) (_hc:U64 c) (hd:U64 d) :
   iG.f a b c d=some (decide (a*18446744073709551616+b < c*18446744073709551616+d)):=by
 unfold iG.f;split
 . congr 1;exact decide_eq_decide.2 (by omega)
 . congr 1;exact decide_eq_decide.2 (by omega)
theorem vC {a b:Int} (ha:U64 a) (hb:U64 b) (i:Nat) (hi:i < 128) :
   fK.f a b i=some ((a*18446744073709551616+b) / 2 ^ i % 2):=by
 have e64:(18446744073709551616:Int)=2 ^ 64:=(by decide);unfold fK.f;by_cases h:(i:Int)>=64
 . rw [if_pos h,aC (show -9223372036854775808<=(i:Int) - 64 from by omega) (by omega),if_pos (by omega),afT];unfold shr;simp only [IntKind.bits];rw [show ((i:Int) - 64).toNat=i - 64 from by omega,Nat.min_eq_left (by omega)];congr 2
   have:(2:Int) ^ i=2 ^ 64*2 ^ (i - 64):=(by rw [<- Int.pow_add];congr 1;omega);rw [this,<- Int.ediv_ediv_of_nonneg (by decide),<- e64];congr 1;omega
 . rw [if_neg h,if_pos (by omega),afT];unfold shr;simp only [IntKind.bits];rw [show ((i:Int)).toNat=i from by omega,Nat.min_eq_left (by omega)];congr 1
   have:(18446744073709551616:Int)=2 ^ i*(2*2 ^ (63 - i)):=by
     rw [e64,<- nG,<- Int.pow_add];congr 1;omega
   rw [this,Int.mul_left_comm,Int.add_comm,Int.add_mul_ediv_left _ _ (by have:=pow_pos i;omega),Int.mul_left_comm,Int.add_comm,Int.mul_add_emod_self_left]
theorem ai4 {a b:Int} (ha:U64 a) (hb:U64 b):∀ (n:Nat) (k:Nat) (h l:Int),n<=64->n < k->U64 h->U64 l->h*18446744073709551616+l=a*(b / 2 ^ n) ->
    dW.l0 k a b ((n:Int) - 1) h l=some (a*b / 18446744073709551616,a*b % 18446744073709551616):=by
  intro n;induction n with
  | zero =>
    intro k h l _ hk hh hl he;obtain ⟨k,rfl⟩:∃ n,k=n+1:=⟨k - 1,by omega⟩;unfold dW.l0;rw [if_neg (by omega)];rw [Int.pow_zero,Int.ediv_one] at he;rw [<- he];congr 2 <;> omega
  | succ n ih =>
    intro k h l hn hk hh hl he;obtain ⟨k,rfl⟩:∃ n,k=n+1:=⟨k - 1,by omega⟩;unfold dW.l0;rw [show ((n+1:Nat):Int) - 1=n from by omega,if_pos (by omega),oK hh hl (by omega)];simp only [Option.bind_some];rw [if_pos (by omega),afT];have hs:shr .u64 b n=b / 2 ^ n:=by
      unfold shr;simp only [IntKind.bits];rw [show ((n:Int)).toNat=n from by omega,Nat.min_eq_left (by omega)]
    rw [hs,aC (by omega) (by omega)];have hh2:=yQ b n;have hpn:=pow_pos n;have bl:b / 2 ^ n<=b:=Int.ediv_le_self _ hb.1;have b0:0<=b / 2 ^ n:=Int.ediv_nonneg hb.1 (by omega);have m1:a*(b / 2 ^ n)<=18446744073709551615*18446744073709551615:=Int.mul_le_mul (by omega) (by omega) b0 (by decide);by_cases hbit:b / 2 ^ n % 2=1
    . rw [if_pos hbit,sS (by omega) (by omega) (by omega) ha];simp only [Option.bind_some];have e1:a*(b / 2 ^ n)=2*(a*(b / 2 ^ (n+1)))+a:=by
        rw [hh2,hbit,Int.mul_add,Int.mul_left_comm,Int.mul_one]
      rw [e1] at m1;refine ih k _ _ (by omega) (by omega) (by omega) (by omega) ?_;rw [e1];generalize a*(b / 2 ^ (n+1))=p at *
      omega
    . rw [if_neg hbit];have e1:a*(b / 2 ^ n)=2*(a*(b / 2 ^ (n+1))):=by
        rw [hh2,show b / 2 ^ n % 2=0 from by omega,Int.add_zero,Int.mul_left_comm]
      rw [e1] at m1;refine ih k _ _ (by omega) (by omega) (by omega) (by omega) ?_;rw [e1];generalize a*(b / 2 ^ (n+1))=p at *
      omega
theorem adB {k:Nat} (hk:65<=k) {a b:Int} (ha:U64 a) (hb:U64 b) :
   dW.f k a b=some (a*b / 18446744073709551616,a*b % 18446744073709551616):=by
 unfold dW.f;refine ai4 ha hb 64 k 0 0 (by omega) (by omega) (by omega) (by omega) ?_
 rw [Int.ediv_eq_zero_of_lt hb.1 (by have:(2:Int) ^ 64=18446744073709551616:=by decide
                                     omega)]
 omega
theorem aj8 {d ah al:Int} (hd:0 < d/\d < 18446744073709551616) (hah:U64 ah) (hal:U64 al):∀ (n:Nat) (k:Nat) (qh ql rh rl:Int),n<=128->n < k->U64 qh->U64 ql->U64 rh->U64 rl ->
    rh*18446744073709551616+rl < d->(qh*18446744073709551616+ql)*d+(rh*18446744073709551616+rl)=(ah*18446744073709551616+al) / 2 ^ n ->
    fH.l0 k d ((n:Int) - 1) ah al qh ql rh rl =
     some ((ah*18446744073709551616+al) / d / 18446744073709551616,(ah*18446744073709551616+al) / d % 18446744073709551616,(ah*18446744073709551616+al) % d):=by
  intro n;generalize hA:ah*18446744073709551616+al=A;induction n with
  | zero =>
    intro k qh ql rh rl _ hk hqh hql hrh hrl hr he;obtain ⟨k,rfl⟩:∃ n,k=n+1:=⟨k - 1,by omega⟩;unfold fH.l0;rw [if_neg (by omega)];rw [Int.pow_zero,Int.ediv_one] at he;obtain ⟨u1,u2⟩:=xP he (by omega) hr;rw [u1,u2];congr 2
    . omega
    . congr 1 <;> omega
  | succ n ih =>
    intro k qh ql rh rl hn hk hqh hql hrh hrl hr he;obtain ⟨k,rfl⟩:∃ n,k=n+1:=⟨k - 1,by omega⟩;unfold fH.l0;rw [show ((n+1:Nat):Int) - 1=n from by omega,if_pos (by omega),vC hah hal n (by omega),hA];simp only [Option.bind_some];have hh2:=yQ A n;have hpn:=pow_pos n;have A0:0<=A:=(by omega);have al1:A / 2 ^ n<=A:=Int.ediv_le_self _ A0;generalize hbit:A / 2 ^ n % 2=bit at *
    have hb:0<=bit/\bit<=1:=(by omega);rw [oK hrh hrl hb,oK hqh hql (by omega)];simp only [Option.bind_some];rw [wE (by omega) (by omega) (by omega) (by omega)];simp only [Option.bind_some];rw [aC (by omega) (by omega)];have q0:0<=qh*18446744073709551616+ql:=(by omega);have qd:qh*18446744073709551616+ql<=(qh*18446744073709551616+ql)*d:=by
      calc qh*18446744073709551616+ql=(qh*18446744073709551616+ql)*1:=by rw [Int.mul_one]
        _<=_:=Int.mul_le_mul_of_nonneg_left (by omega) q0
    generalize hQ:qh*18446744073709551616+ql=Q at *
    have e2:(2*Q)*d=2*(Q*d):=Int.mul_assoc _ _ _;have e3:(2*Q+1)*d=2*(Q*d)+d:=(by rw [Int.add_mul,e2,Int.one_mul]);generalize hP:Q*d=P at *
    by_cases hl:2*(rh*18446744073709551616+rl)+bit < d
    . rw [if_pos (decide_eq_true (by omega))];refine ih k _ _ _ _ (by omega) (by omega) (by omega) (by omega) (by omega) (by omega) (by omega) ?_;rw [show (2*qh+ql / 9223372036854775808) % 18446744073709551616*18446744073709551616+(2*ql+0) % 18446744073709551616=2*Q from by omega,e2];omega
    . rw [if_neg (by simp;omega),adA (by omega) (by omega) (by omega) (by omega)];simp only [Option.bind_some,nO];refine ih k _ _ _ _ (by omega) (by omega) (by omega) (by omega) (by omega) (by omega) (by omega) ?_;rw [show (2*qh+ql / 9223372036854775808) % 18446744073709551616*18446744073709551616+((2*ql+0) % 18446744073709551616+1) % 18446744073709551616=2*Q+1 from by omega,e3];omega
theorem aeu {k:Nat} (hk:129<=k) {d ah al:Int} (hd:0 < d/\d < 18446744073709551616) (hah:U64 ah) (hal:U64 al) :
   fH.f k ah al d=some ((ah*18446744073709551616+al) / d / 18446744073709551616,(ah*18446744073709551616+al) / d % 18446744073709551616,(ah*18446744073709551616+al) % d):=by
 unfold fH.f;rw [if_neg (by omega)];refine aj8 hd hah hal 128 k 0 0 0 0 (by omega) (by omega) (by omega) (by omega) (by omega) (by omega) (by omega) ?_
 rw [Int.ediv_eq_zero_of_lt (by omega) (by have:(2:Int) ^ 128=340282366920938463463374607431768211456:=by decide
                                           omega)]
 omega
theorem ag4 {k:Nat} (hk:129<=k) {d ah al:Int} (hd:0 < d/\d < 18446744073709551616) (hah:U64 ah) (hal:U64 al) (s:Bool) :
   iw.f k ah al d s=some (hold (jA (sgn s (ah*18446744073709551616+al)) d)):=by
 unfold iw.f;rw [aeu hk hd hah hal];simp only [Option.bind_some];generalize hA:ah*18446744073709551616+al=A;have A0:0<=A:=(by omega);have r0:=Int.emod_nonneg A (show d≠0 from by omega);have r1:=Int.emod_lt_of_pos A hd.1;have q0:0<=A / d:=Int.ediv_nonneg A0 (by omega);have q1:A / d<=A:=Int.ediv_le_self _ A0;have q2:2<=d->2*(A / d)<=A:=by
   intro h2;have:=Int.mul_ediv_add_emod A d;have h3:2*(A / d)<=d*(A / d):=Int.mul_le_mul_of_nonneg_right h2 q0;omega
 rw [adM s A0 hd.1];generalize A / d=q at *
 generalize A % d=r at *
 rw [oK (by omega) (by omega) (by omega)];simp only [Option.bind_some];rw [wE (by omega) (by omega) (by omega) (by omega),wE (by omega) (by omega) (by omega) (by omega)];simp only [Option.bind_some];obtain ⟨k,rfl⟩:∃ n,k=n+1:=⟨k - 1,by omega⟩;simp only [iw.j0];cases s
 . simp only [Bool.false_eq_true,if_false];by_cases c:r>=d - r
   . rw [if_pos (by simp;omega),if_pos c,sS (by omega) (by omega) (by omega) (by omega)];simp only [Option.bind_some];rw [kM (by omega) (by omega) (by omega)];simp only [Option.bind_some];congr 3;omega
   . rw [if_neg (by simp;omega),if_neg c,kM (by omega) (by omega) (by omega)];simp only [Option.bind_some];congr 3;omega
 . simp only [if_true];by_cases c:r > d - r
   . rw [if_pos (decide_eq_true (by omega)),if_pos c,sS (by omega) (by omega) (by omega) (by omega)];simp only [Option.bind_some];rw [kM (by omega) (by omega) (by omega)];simp only [Option.bind_some];congr 3;omega
   . rw [if_neg (by simp;omega),if_neg c,kM (by omega) (by omega) (by omega)];simp only [Option.bind_some];congr 3;omega
theorem adC {k:Nat} (hk:129<=k) {a b:Int} (ha:I64 a) (hb:I64 b):dZ.f k a b=some (hold (flo a b)):=by
 unfold dZ.f;by_cases hb0:b=0
 . rw [if_pos hb0,hb0];simp [flo,hold]
 have ua:=qZ ha;have ub:=qZ hb;have ub0:siz b≠0:=fun h=>hb0 (adL.1 h);rw [if_neg hb0,pO ha,pO hb];simp only [Option.bind_some];rw [aeu hk (by omega) (by omega) (by omega)];simp only [Option.bind_some];have e:=ank (decide (a < 0)) b (siz a) hb0;rw [ai5 a,anl _ (by omega)] at e;rw [<- e];generalize (decide (a < 0) != decide (b < 0))=s;rw [show 0*18446744073709551616+siz a=siz a from by omega];have q0:0<=siz a / siz b:=Int.ediv_nonneg ua.1 ub.1;have q1:siz a / siz b<=siz a:=Int.ediv_le_self _ ua.1;have r0:=Int.emod_nonneg (siz a) ub0;generalize siz a / siz b=q at *
 generalize siz a % siz b=r at *
 obtain ⟨k,rfl⟩:∃ n,k=n+1:=⟨k - 1,by omega⟩;simp only [dZ.j0];cases s
 . simp only [Bool.false_eq_true,if_false,false_and];rw [kM (by omega) (by omega) (by omega)];simp only [Option.bind_some];congr 3;omega
 . simp only [if_true,true_and];by_cases c:r=0
   . rw [if_neg (by simp;omega),if_neg (by simpa using c),kM (by omega) (by omega) (by omega)];simp only [Option.bind_some];congr 3;omega
   . rw [if_pos (by simp;omega),if_pos c,sS (by omega) (by omega) (by omega) (by omega)];simp only [Option.bind_some];rw [kM (by omega) (by omega) (by omega)];simp only [Option.bind_some];congr 3;omega
theorem alQ (a:Int) (i:Nat):a / 2 ^ i*2 ^ i=a / 2 ^ (i+1)*2 ^ (i+1)+a / 2 ^ i % 2*2 ^ i:=by
 have h:=yQ a i;rw [nG] at h;rw [nG,Int.mul_left_comm,<- Int.mul_assoc,<- Int.add_mul];congr 1
theorem ai6 (x sh sl mh ml qh ql rh rl:Int) (i:Nat) (hi:i<=127) (hrh:U64 rh) (hrl:U64 rl) (hr:2 ^ i<=rh*18446744073709551616+rl):∀ (d k j:Nat) (ph pl:Int),j+d=i->d < k->U64 ph->U64 pl ->
    ph*18446744073709551616+pl=2 ^ j ->
    ∃ rh' rl':Int,U64 rh'/\U64 rl'/\rh'*18446744073709551616+rl'=rh*18446744073709551616+rl - 2 ^ i /\
    aJ.l3 k x (i:Int) (i:Int) (j:Int) sh sl mh ml qh ql rh rl ph pl=aJ.l2 (k - d - 1) x ((i+1:Nat):Int) sh sl mh ml qh ql rh' rl':=by
  have hb:(2:Int) ^ i<=170141183460469231731687303715884105728:=by
    calc (2:Int) ^ i<=2 ^ 127:=sW hi
      _=_:=by decide
  intro d;induction d with
  | zero =>
    intro k j ph pl hj hk hph hpl he;obtain ⟨k,rfl⟩:∃ m,k=m+1:=⟨k - 1,by omega⟩;rw [aJ.l3,if_neg (by omega),adA hrh hrl hph hpl];simp only [Option.bind_some];obtain rfl:j=i:=(by omega);rw [aC (by omega) (by omega)];have hp:=pow_pos j;generalize (2:Int) ^ j=p at *
    exact ⟨_,_,by omega,by omega,by omega,rfl⟩
  | succ d ih =>
    intro k j ph pl hj hk hph hpl he;obtain ⟨k,rfl⟩:∃ m,k=m+1:=⟨k - 1,by omega⟩;rw [aJ.l3,if_pos (by omega),oK hph hpl (by omega)];simp only [Option.bind_some];rw [aC (by omega) (by omega),show ((j:Int)+1)=((j+1:Nat):Int) from by omega];have hp:=pow_pos j;have hp2:(2:Int) ^ (j+1)<=2 ^ i:=sW (by omega);rw [nG] at hp2
    obtain ⟨r1,r2,a1,a2,a3,a4⟩:=ih k (j+1) _ _ (by omega) (by omega) (show U64 ((2*ph+pl / 9223372036854775808) % 18446744073709551616) from by omega) (show U64 ((2*pl+0) % 18446744073709551616) from by omega) (by
      rw [nG];generalize (2:Int) ^ j=p at *;omega)
    refine ⟨r1,r2,a1,a2,a3,?_⟩;rw [a4,show k+1 - (d+1) - 1=k - d - 1 from by omega]
theorem adD {k:Nat} (hk:2<=k) (x:Int) (u:Bool) {qh ql:Int} (hqh:U64 qh) (hql:U64 ql) (hq:qh*18446744073709551616+ql < 340282366920938463463374607431768211455) :
   aJ.j4 k x u qh ql=some (hold (sgn (decide (x < 0)) (qh*18446744073709551616+ql+if u=true then 1 else 0))):=by
 obtain ⟨k,rfl⟩:∃ m,k=m+1:=⟨k - 1,by omega⟩;rw [aJ.j4];cases u
 . rw [if_neg (by decide),if_neg (by decide),kM (by omega) hqh hql];simp only [Option.bind_some];congr 3;omega
 . rw [if_pos rfl,if_pos rfl,sS hqh hql (by omega) (by omega)];simp only [Option.bind_some];rw [kM (by omega) (by omega) (by omega)];simp only [Option.bind_some];congr 3;omega
theorem ai7 (x sh sl mh ml qh ql:Int) (n:Nat) (hsh:U64 sh) (hsl:U64 sl) (hmh:U64 mh) (hml:U64 ml) (hqh:U64 qh) (hql:U64 ql)
    (hq:qh*18446744073709551616+ql < 340282366920938463463374607431768211455) (R:Int) (hR:(mh*18446744073709551616+ml) % 2 ^ n=R):∀ (d k i:Nat) (rh rl:Int),i+d=128->d*200+10 < k->U64 rh->U64 rl ->
    rh*18446744073709551616+rl=R+(mh*18446744073709551616+ml) / 2 ^ i*2 ^ i ->
    aJ.l2 k x (i:Int) sh sl mh ml qh ql rh rl=some (hold (sgn (decide (x < 0)) (qh*18446744073709551616+ql +
     if (if x < 0 then decide (sh*18446744073709551616+sl < R) else !decide (R < sh*18446744073709551616+sl))=true then 1 else 0))):=by
  have R0:0<=R:=(by rw [<- hR];exact Int.emod_nonneg _ (by have:=pow_pos n;omega));intro d;induction d with
  | zero =>
    intro k i rh rl hi hk hrh hrl he;obtain ⟨k,rfl⟩:∃ m,k=m+1:=⟨k - 1,by omega⟩
    rw [Int.ediv_eq_zero_of_lt (by omega) (by rw [show i=128 from by omega];have:(2:Int) ^ 128=340282366920938463463374607431768211456:=by decide
                                              omega)] at he
    rw [aJ.l2,if_neg (by omega),wE hrh hrl hsh hsl,wE hsh hsl hrh hrl];simp only [Option.bind_some];rw [show rh*18446744073709551616+rl=R from by omega];split
    . rw [adD (by omega) x _ hqh hql hq]
    . rw [adD (by omega) x _ hqh hql hq]
  | succ d ih =>
    intro k i rh rl hi hk hrh hrl he;obtain ⟨k,rfl⟩:∃ m,k=m+1:=⟨k - 1,by omega⟩;rw [aJ.l2,if_pos (by omega),vC hmh hml i (by omega)];simp only [Option.bind_some];have hs:=alQ (mh*18446744073709551616+ml) i;have hq0:0<=(mh*18446744073709551616+ml) / 2 ^ (i+1)*2 ^ (i+1):=Int.mul_nonneg (Int.ediv_nonneg (by omega) (by have:=pow_pos (i+1);omega)) (by have:=pow_pos (i+1);omega);split
    . rename_i hb;rw [hb,Int.one_mul] at hs;obtain ⟨r1,r2,a1,a2,a3,a4⟩:=ai6 x sh sl mh ml qh ql rh rl i (by omega) hrh hrl (by omega) i k 0 0 1 (by omega) (by omega) (by omega) (by omega) (by decide);have a4':aJ.l3 k x (i:Int) (i:Int) 0 sh sl mh ml qh ql rh rl 0 1=_:=a4;rw [a4',ih (k - i - 1) (i+1) r1 r2 (by omega) (by omega) a1 a2 (by omega)]
    . rename_i hb;rw [show (mh*18446744073709551616+ml) / 2 ^ i % 2=0 from by omega,Int.zero_mul,Int.add_zero] at hs;rw [aC (by omega) (by omega),show ((i:Int)+1)=((i+1:Nat):Int) from by omega];exact ih k (i+1) rh rl (by omega) (by omega) hrh hrl (by omega)
theorem ai8 (x sh sl mh ml:Int) (n:Nat) (hn:1<=n/\n<=64) (hsh:U64 sh) (hsl:U64 sl) (hmh:U64 mh) (hml:U64 ml):∀ (d k:Nat) (qh ql:Int),d+n<=128->d+30000 < k->U64 qh->U64 ql ->
    qh*18446744073709551616+ql=(mh*18446744073709551616+ml) / 2 ^ (n+d) ->
    aJ.l1 k x (n:Int) (((n+d:Nat):Int) - 1) sh sl mh ml qh ql=some (hold (sgn (decide (x < 0)) ((mh*18446744073709551616+ml) / 2 ^ n +
     if (if x < 0 then decide (sh*18446744073709551616+sl < (mh*18446744073709551616+ml) % 2 ^ n) else !decide ((mh*18446744073709551616+ml) % 2 ^ n < sh*18446744073709551616+sl))=true then 1 else 0))):=by
  intro d;have hn2:(2:Int)<=2 ^ n:=by
    calc (2:Int)=2 ^ 1:=by decide
      _<=2 ^ n:=sW (by omega)
  have hh:∀ a:Int,0<=a->2*(a / 2 ^ n)<=a:=by
    intro a ha;have:=Int.mul_ediv_add_emod a (2 ^ n);have h0:=Int.emod_nonneg a (show (2:Int) ^ n≠0 from by omega);have h1:2*(a / 2 ^ n)<=2 ^ n*(a / 2 ^ n):=Int.mul_le_mul_of_nonneg_right hn2 (Int.ediv_nonneg ha (by omega));omega
  induction d with
  | zero =>
    intro k qh ql hd hk hqh hql he;obtain ⟨k,rfl⟩:∃ m,k=m+1:=⟨k - 1,by omega⟩;rw [aJ.l1,if_neg (by omega)];rw [Nat.add_zero] at he;have:=hh (mh*18446744073709551616+ml) (by omega);have e:=Int.mul_ediv_add_emod (mh*18446744073709551616+ml) (2 ^ n);rw [ai7 x sh sl mh ml qh ql n hsh hsl hmh hml hqh hql (by omega) _ rfl (128 - n) k n mh ml (by omega) (by omega) hmh hml (by rw [Int.mul_comm ((mh*18446744073709551616+ml) / 2 ^ n)];omega),he]
  | succ d ih =>
    intro k qh ql hd hk hqh hql he;obtain ⟨k,rfl⟩:∃ m,k=m+1:=⟨k - 1,by omega⟩;rw [aJ.l1,if_pos (by omega),show (((n+(d+1):Nat):Int) - 1)=((n+d:Nat):Int) from by omega,vC hmh hml (n+d) (by omega)];simp only [Option.bind_some];rw [oK hqh hql (by omega),aC (by omega) (by omega)];simp only [Option.bind_some];have hs:=yQ (mh*18446744073709551616+ml) (n+d);have hq:(mh*18446744073709551616+ml) / 2 ^ (n+d)<=mh*18446744073709551616+ml:=Int.ediv_le_self _ (by omega);rw [show n+(d+1)=n+d+1 from rfl] at he;exact ih k _ _ (by omega) (by omega) (by omega) (by omega) (by omega)
theorem ai9 (x:Int) (hx:I64 x) (n:Nat) (hn:1<=n/\n<=64):∀ (d k i:Nat) (ph pl:Int),i+d+1=n->d+40000 < k->U64 ph->U64 pl->ph*18446744073709551616+pl=2 ^ i ->
    aJ.l0 k x (n:Int) ((n:Int) - 1) (i:Int) ph pl=some (hold (jA x (2 ^ n))):=by
  intro d;induction d with
  | zero =>
    intro k i ph pl hi hk hph hpl he;obtain ⟨k,rfl⟩:∃ m,k=m+1:=⟨k - 1,by omega⟩;have u:=qZ hx;rw [aJ.l0,if_neg (by omega),pO hx];simp only [Option.bind_some];have azi:(2:Int) ^ 128=340282366920938463463374607431768211456:=by decide
    have h:=ai8 x ph pl 0 (siz x) n hn hph hpl (by omega) (by omega) (128 - n) k 0 0 (by omega) (by omega) (by omega) (by omega) (by
      rw [show n+(128 - n)=128 from by omega,Int.ediv_eq_zero_of_lt (by omega) (by omega)];rfl)
    rw [show (((n+(128 - n):Nat):Int) - 1)=127 from by omega] at h;rw [h];rw [show 0*18446744073709551616+siz x=siz x from by omega,he];have e:jA x (2 ^ n)=jA (sgn (decide (x < 0)) (siz x)) (2 ^ n):=(by rw [ai5]);rw [e,adM _ u.1 (pow_pos n)];have h2:(2:Int) ^ n=2*2 ^ i:=(by rw [<- nG];congr 1;omega);have r0:=Int.emod_nonneg (siz x) (show (2:Int) ^ n≠0 from by have:=pow_pos n;omega);generalize siz x % 2 ^ n=r at *
    generalize siz x / 2 ^ n=q at *
    rw [h2];generalize (2:Int) ^ i=p at *
    congr 3
    by_cases c:x < 0
    . rw [if_pos c,if_pos (decide_eq_true c)];by_cases g:p < r
      . rw [if_pos (decide_eq_true g),if_pos (by omega)]
      . rw [if_neg (by simpa using g),if_neg (by omega)];omega
    . rw [if_neg c,if_neg (show ¬ (decide (x < 0)=true) from by simpa using c)];by_cases g:r < p
      . rw [if_neg (by simpa using g),if_neg (by omega)];omega
      . rw [if_pos (by simpa using g),if_pos (by omega)]
  | succ d ih =>
    intro k i ph pl hi hk hph hpl he;obtain ⟨k,rfl⟩:∃ m,k=m+1:=⟨k - 1,by omega⟩;rw [aJ.l0,if_pos (by omega),oK hph hpl (by omega)];simp only [Option.bind_some];rw [aC (by omega) (by omega),show ((i:Int)+1)=((i+1:Nat):Int) from by omega];have hp:=pow_pos i;have hb:(2:Int) ^ i<=9223372036854775808:=by
      calc (2:Int) ^ i<=2 ^ 63:=sW (by omega)
        _=_:=by decide
    exact ih k (i+1) _ _ (by omega) (by omega) (by omega) (by omega) (by rw [nG];omega)
theorem aaQ {k:Nat} (hk:50000<=k) {x n:Int} (hx:I64 x) (hn:I64 n):aJ.f k x n=some (sh x n):=by
 unfold aJ.f sh;by_cases h0:n < 1
 . rw [if_pos h0,if_pos (by omega)]
 rw [if_neg h0,if_neg (show ¬ n<=0 from by omega)];by_cases h1:n > 64
 . rw [if_pos h1,agE (x:=x) _ hx]
   calc (18446744073709551616:Int)=2 ^ 64:=by decide
     _<=2 ^ n.toNat:=sW (by omega)
 rw [if_neg h1,aC (by omega) (by omega)];have e:n=(n.toNat:Int):=(by omega);have h:=ai9 x hx n.toNat (by omega) (n.toNat - 1) k 0 0 1 (by omega) (by omega) (by omega) (by omega) (by decide);rw [<- e] at h;have h':aJ.l0 k x n (n - 1) 0 0 1=_:=h;rw [h'];congr 1
 refine uT ?_ ?_
 . rw [adK x n.toNat (by omega)];have hp:=pow_pos n.toNat;have : -9223372036854775808<=x / 2 ^ n.toNat:=by
     rw [Int.le_ediv_iff_mul_le hp];have : -9223372036854775808*2 ^ n.toNat <= -9223372036854775808*1:=Int.mul_le_mul_of_nonpos_left (by decide) (by omega);omega
   omega
 . rw [adK x n.toNat (by omega)];have h2:(2:Int)<=2 ^ n.toNat:=by
     calc (2:Int)=2 ^ 1:=by decide
       _<=2 ^ n.toNat:=sW (by omega)
   have:x / 2 ^ n.toNat < 4611686018427387904:=by
     rw [Int.ediv_lt_iff_lt_mul (pow_pos _)]
     calc x < 4611686018427387904*2:=by omega
       _<=4611686018427387904*2 ^ n.toNat:=Int.mul_le_mul_of_nonneg_left h2 (by decide)
   omega
theorem jB {k:Nat} (hk:129<=k) {a b d:Int} (ha:I64 a) (hb:I64 b) (hd:I64 d):aX.f k a b d=some (hold (jA (a*b) d)):=by
 unfold aX.f;by_cases hd0:d=0
 . rw [if_pos hd0,hd0];simp [jA,hold]
 have ua:=qZ ha;have ub:=qZ hb;have ud:=qZ hd;have ud0:siz d≠0:=fun h=>hd0 (adL.1 h);rw [if_neg hd0,pO ha,pO hb];simp only [Option.bind_some];rw [adB (by omega) (by omega) (by omega),pO hd];simp only [Option.bind_some];have p0:=Int.mul_nonneg ua.1 ub.1;have p1:siz a*siz b<=9223372036854775808*9223372036854775808:=Int.mul_le_mul ua.2 ub.2 ub.1 (by decide);have e0:=ab7 a b;have es:=amY ((decide (a < 0)) != (decide (b < 0))) d (siz a*siz b) hd0;rw [e0] at es;rw [<- es];generalize siz a*siz b=p at *
 rw [ag4 hk (by omega) (by omega) (by omega)];simp only [Option.bind_some];rw [show p / 18446744073709551616*18446744073709551616+p % 18446744073709551616=p from by omega]
theorem yj {k:Nat} (hk:2<=k) (s u:Bool) {h l:Int} (hh:U64 h) (hl:U64 l) (hb:h*18446744073709551616+l < 340282366920938463463374607431768211455) :
   aU.j3 k s u h l=some (hold (sgn s (h*18446744073709551616+l+if u=true then 1 else 0))):=by
 obtain ⟨k,rfl⟩:∃ m,k=m+1:=⟨k - 1,by omega⟩;rw [aU.j3];cases u
 . rw [if_neg (by decide),if_neg (by decide),kM (by omega) hh hl];simp only [Option.bind_some];congr 3;omega
 . rw [if_pos rfl,if_pos rfl,sS hh hl (by omega) (by omega)];simp only [Option.bind_some];rw [kM (by omega) (by omega) (by omega)];simp only [Option.bind_some];congr 3;omega
theorem aj9 (p:Int) (i:Nat):p % 2 ^ (i+1)=2 ^ i*(p / 2 ^ i % 2)+p % 2 ^ i:=by
 have h2:=yQ p i;have hpm:=pow_pos i;have e2:=Int.mul_ediv_add_emod p (2 ^ i);have r0:=Int.emod_nonneg p (show (2:Int) ^ i≠0 from by omega);have r1:=Int.emod_lt_of_pos p hpm;have hb:p / 2 ^ i % 2=0\/p / 2 ^ i % 2=1:=(by omega);refine (xP (q:=p / 2 ^ (i+1)) ?_ ?_ ?_).2
 . have h3:p / 2 ^ (i+1)*2 ^ (i+1)+(2 ^ i*(p / 2 ^ i % 2)+p % 2 ^ i)=2 ^ i*(2*(p / 2 ^ (i+1))+p / 2 ^ i % 2)+p % 2 ^ i:=by
     rw [Int.mul_add,Int.pow_succ (2:Int) i,Int.mul_left_comm,Int.mul_comm (p / (2 ^ i*2)) 2];omega
   rw [h3,<- h2];exact e2
 . rcases hb with h|h <;> rw [h] <;> omega
 . rw [nG];rcases hb with h|h <;> rw [h] <;> omega
theorem agm (n:Nat) (hn:1<=n/\n<=127) (s:Bool) (ph pl qh ql:Int) (hph:U64 ph) (hpl:U64 pl) (hqh:U64 qh) (hql:U64 ql) (hq:qh*18446744073709551616+ql < 340282366920938463463374607431768211455) :
   ∀ (d k i:Nat) (m:Bool),i+d+1=n->d+10 < k->m=decide ((ph*18446744073709551616+pl) % 2 ^ i≠0) ->
   aU.l1 k (n:Int) s m ((n:Int) - 1) (i:Int) ph pl qh ql=some (hold (sgn s (qh*18446744073709551616+ql +
    if (ph*18446744073709551616+pl) / 2 ^ (n - 1) % 2=0\/(s=true/\(ph*18446744073709551616+pl) % 2 ^ (n - 1)=0) then 0 else 1))):=by
 intro d;induction d with
 | zero =>
   intro k i m hi hk hm;obtain ⟨k,rfl⟩:∃ m,k=m+1:=⟨k - 1,by omega⟩;rw [aU.l1,if_neg (by omega),aC (by omega) (by omega),show (n:Int) - 1=((n - 1:Nat):Int) from by omega,vC hph hpl (n - 1) (by omega)];simp only [Option.bind_some];rw [show i=n - 1 from by omega] at hm;have hbit:(ph*18446744073709551616+pl) / 2 ^ (n - 1) % 2=0\/(ph*18446744073709551616+pl) / 2 ^ (n - 1) % 2=1:=(by omega);generalize (ph*18446744073709551616+pl) / 2 ^ (n - 1) % 2=bit at *
   by_cases hb:bit=1
   . rw [if_pos hb];by_cases e:(ph*18446744073709551616+pl) % 2 ^ (n - 1)=0
     . rw [show m=false from by rw [hm];simpa using e,if_neg (by decide),yj (by omega) s _ hqh hql hq];cases s
       . rw [if_pos (by decide),if_neg (by simp;omega)]
       . rw [if_neg (by decide),if_pos (by simp;omega)]
     . rw [show m=true from by rw [hm];simpa using e,if_pos rfl,yj (by omega) s _ hqh hql hq,if_pos rfl,if_neg (by omega)]
   . rw [if_neg hb,yj (by omega) s _ hqh hql hq,if_neg (by decide)];by_cases hb0:bit=0
     . rw [if_pos (Or.inl hb0)]
     . exfalso;omega
 | succ d ih =>
   intro k i m hi hk hm;obtain ⟨k,rfl⟩:∃ m,k=m+1:=⟨k - 1,by omega⟩;rw [aU.l1,if_pos (by omega),vC hph hpl i (by omega),aC (by omega) (by omega),show ((i:Int)+1)=((i+1:Nat):Int) from by omega];simp only [Option.bind_some];have es:=aj9 (ph*18446744073709551616+pl) i;have hp:=pow_pos i;have r0:=Int.emod_nonneg (ph*18446744073709551616+pl) (show (2:Int) ^ i≠0 from by omega);have hbb:(ph*18446744073709551616+pl) / 2 ^ i % 2=0\/(ph*18446744073709551616+pl) / 2 ^ i % 2=1:=(by omega);by_cases hc:m=true
   . rw [if_pos hc];refine ih k (i+1) true (by omega) (by omega) ?_;refine (decide_eq_true ?_).symm;have:(ph*18446744073709551616+pl) % 2 ^ i≠0:=of_decide_eq_true (hm.symm.trans hc);rw [es];rcases hbb with h|h <;> rw [h] <;> omega
   . rw [if_neg hc];refine ih k (i+1) _ (by omega) (by omega) ?_;have:(ph*18446744073709551616+pl) % 2 ^ i=0:=by
       have h2:m=false:=(by simpa using hc);have:=of_decide_eq_false (hm.symm.trans h2);omega
     rw [es,this];rcases hbb with h|h
     . rw [h];simp
     . rw [h];simp;omega
theorem agn (n:Nat) (hn:1<=n/\n<=127) (s:Bool) (ph pl:Int) (hph:U64 ph) (hpl:U64 pl):∀ (d k:Nat) (qh ql:Int),d+n<=128->d+300 < k->U64 qh->U64 ql ->
    qh*18446744073709551616+ql=(ph*18446744073709551616+pl) / 2 ^ (n+d) ->
    aU.l0 k (n:Int) s (((n+d:Nat):Int) - 1) ph pl qh ql=some (hold (jA (sgn s (ph*18446744073709551616+pl)) (2 ^ n))):=by
  intro d;induction d with
  | zero =>
    intro k qh ql hd hk hqh hql he;obtain ⟨k,rfl⟩:∃ m,k=m+1:=⟨k - 1,by omega⟩;rw [Nat.add_zero] at he;have p0:0<=ph*18446744073709551616+pl:=(by omega);have q1:2*((ph*18446744073709551616+pl) / 2 ^ n)<=ph*18446744073709551616+pl:=by
      have:=(rG (ph*18446744073709551616+pl) (pow_pos n)).1;have h2:(2:Int)<=2 ^ n:=by
        calc (2:Int)=2 ^ 1:=by decide
          _<=2 ^ n:=sW (by omega)
      have h3:(ph*18446744073709551616+pl) / 2 ^ n*2<=(ph*18446744073709551616+pl) / 2 ^ n*2 ^ n:=Int.mul_le_mul_of_nonneg_left h2 (Int.ediv_nonneg p0 (by omega));omega
    rw [aU.l0,if_neg (by omega),aC (by omega) (by omega)];have h:=agm n hn s ph pl qh ql hph hpl hqh hql (by omega) (n - 1) k 0 false (by omega) (by omega) (by simp [Int.emod_one]);have h':aU.l1 k (n:Int) s false ((n:Int) - 1) 0 ph pl qh ql=_:=h;rw [h',aeI s p0 n hn.1,he]
  | succ d ih =>
    intro k qh ql hd hk hqh hql he;obtain ⟨k,rfl⟩:∃ m,k=m+1:=⟨k - 1,by omega⟩;rw [aU.l0,if_pos (by omega),show (((n+(d+1):Nat):Int) - 1)=((n+d:Nat):Int) from by omega,vC hph hpl (n+d) (by omega)];simp only [Option.bind_some];rw [oK hqh hql (by omega),aC (by omega) (by omega)];simp only [Option.bind_some];have hs:=yQ (ph*18446744073709551616+pl) (n+d);have hq:(ph*18446744073709551616+pl) / 2 ^ (n+d)<=ph*18446744073709551616+pl:=Int.ediv_le_self _ (by omega);rw [show n+(d+1)=n+d+1 from rfl] at he;exact ih k _ _ (by omega) (by omega) (by omega) (by omega) (by omega)
theorem agp {k:Nat} (hk:600<=k) {a b n:Int} (ha:I64 a) (hb:I64 b) (hn:I64 n):aU.f k a b n=some (adN a b n):=by
 have ua:=qZ ha;have ub:=qZ hb;obtain ⟨k,rfl⟩:∃ m,k=m+1:=⟨k - 1,by omega⟩;have main:∀ m:Nat,aU.j0 (k+1) a b (m:Int)=some (if (m:Int)>=128 then 0 else hold (jA (a*b) (2 ^ m))):=by
   intro m;rw [aU.j0];by_cases c:(m:Int)>=128
   . rw [if_pos c,if_pos (by omega)]
   rw [if_neg c,if_neg (by omega),pO ha,pO hb];simp only [Option.bind_some];rw [adB (by omega) (by omega) (by omega)];simp only [Option.bind_some];have p0:=Int.mul_nonneg ua.1 ub.1;have p1:siz a*siz b<=9223372036854775808*9223372036854775808:=Int.mul_le_mul ua.2 ub.2 ub.1 (by decide);have e0:=ab7 a b;rw [<- e0];generalize siz a*siz b=p at *
   generalize ((decide (a < 0)) != (decide (b < 0)))=s at *
   by_cases z:(m:Int)=0
   . rw [if_pos z,kM (by omega) (by omega) (by omega)];simp only [Option.bind_some];rw [show m=0 from by omega,Int.pow_zero,ak3];congr 3;omega
   rw [if_neg z];have azi:(2:Int) ^ 128=340282366920938463463374607431768211456:=by decide
   have h:=agn m (by omega) s (p / 18446744073709551616) (p % 18446744073709551616) (by omega) (by omega) (128 - m) k 0 0 (by omega) (by omega) (by omega) (by omega) (by
     rw [show m+(128 - m)=128 from by omega,Int.ediv_eq_zero_of_lt (by omega) (by omega)];rfl)
   rw [show (((m+(128 - m):Nat):Int) - 1)=127 from by omega] at h;rw [h,show p / 18446744073709551616*18446744073709551616+p % 18446744073709551616=p from by omega]
 unfold aU.f adN;by_cases c:n < 0
 . have:=main 0;rw [if_pos c,if_neg (by omega),show (mx 0 n).toNat=0 from by unfold mx;split <;> omega];exact this
 . have:=main n.toNat;rw [show ((n.toNat:Nat):Int)=n from by omega] at this;rw [if_neg c,this,show (mx 0 n).toNat=n.toNat from by unfold mx;split <;> omega]
theorem alR (s r:Int) (hs:I64 s) (hr:I64 r):∀ (d k n:Nat) (p m:Int),n+d=16->d+60000 < k->I64 p->I64 m->wrap64 (p - m)=qg r n ->
    dY.l0 k s r p m (jG r n) ((n:Int)+1)=some (sh (qg r 16) s):=by
  intro d;induction d with
  | zero =>
    intro k n p m hn hk hp hm he;obtain ⟨k,rfl⟩:∃ m,k=m+1:=⟨k - 1,by omega⟩;rw [dY.l0,if_neg (by omega),he,show n=16 from by omega,aaQ (by omega) (ak4 r 16) hs];rfl
  | succ d ih =>
    intro k n p m hn hk hp hm he;obtain ⟨k,rfl⟩:∃ m,k=m+1:=⟨k - 1,by omega⟩;rw [dY.l0,if_pos (by omega),aC (show -9223372036854775808<=((n:Int)+1)*1099511627776 from by omega) (by omega),aC (show -9223372036854775808<=(n:Int)+1+1 from by omega) (by omega)];rw [jB (by omega) (apv r n) hr (by constructor <;> omega)];simp only [Option.bind_some];have et:hold (jA (jG r n*r) (((n:Int)+1)*1099511627776))=jG r (n+1):=(by rw [jG]);rw [et];have em:Int.tmod ((n:Int)+1) 2=(((n+1) % 2:Nat):Int):=(by rw [Int.tmod_eq_emod_of_nonneg (by omega)];omega);have ec:((n+1:Nat):Int)=(n:Int)+1:=(by omega);rw [em];have es:qg r (n+1)=if n % 2=0 then wrap64 (qg r n - jG r (n+1)) else wrap64 (qg r n+jG r (n+1)):=by rw [qg]
    by_cases c:n % 2=0
    . rw [if_pos (by omega)];rw [if_pos c] at es;have e2:wrap64 (p - wrap64 (m+jG r (n+1)))=qg r (n+1):=by
        rw [es,<- he];generalize jG r (n+1)=u;unfold wrap64;omega
      have h:=ih k (n+1) p (wrap64 (m+jG r (n+1))) (by omega) (by omega) hp (anQ _) e2;rw [ec] at h;exact h
    . rw [if_neg (by omega)];rw [if_neg c] at es;have e2:wrap64 (wrap64 (p+jG r (n+1)) - m)=qg r (n+1):=by
        rw [es,<- he];generalize jG r (n+1)=u;unfold wrap64;omega
      have h:=ih k (n+1) (wrap64 (p+jG r (n+1))) m (by omega) (by omega) (anQ _) hm e2;rw [ec] at h;exact h
theorem alS {k:Nat} (hk:70000<=k) {t:Int} (ht:I64 t):dY.f k t=some (ab8 t):=by
 obtain ⟨k,rfl⟩:∃ m,k=m+1:=⟨k - 1,by omega⟩;have main:∀ x,0<=x->x<=9223372036854775807->dY.j0 (k+1) x=some (sh (qg (x % 762123384786) 16) (x / 762123384786)):=by
   intro x h0 h1;rw [dY.j0,adC (by omega) (by constructor <;> omega) (by decide)];have e:flo x 762123384786=x / 762123384786:=(by unfold flo;rw [if_pos (by decide)]);rw [e,uT (by omega) (by omega)];simp only [Option.bind_some];rw [aC (show -9223372036854775808<=x / 762123384786*762123384786 from by omega) (by omega),aC (by omega) (by omega),show x - x / 762123384786*762123384786=x % 762123384786 from by omega];exact alR _ _ (by omega) (by omega) 16 k 0 1099511627776 0 (by omega) (by omega) (by decide) (by decide) (by rw [qg];unfold wrap64;decide)
 unfold dY.f ab8;by_cases c:t < 0
 . rw [if_pos c,main 0 (by omega) (by omega),show mx 0 t=0 from by unfold mx;split <;> omega]
 . rw [if_neg c,main t (by omega) (by omega),show mx 0 t=t from by unfold mx;split <;> omega]
theorem aja {k:Nat} (hk:200<=k) {d s:Int}:nC.f k d s=some (aaf d s):=by
 unfold nC.f aaf;by_cases h1:s < 1
 . rw [if_pos h1,if_pos (Or.inl h1)]
 rw [if_neg h1];by_cases h2:s > 4194304
 . rw [if_pos h2,if_pos (Or.inr (Or.inl h2))]
 rw [if_neg h2];by_cases h3:d < -16384
 . rw [if_pos h3,if_pos (Or.inr (Or.inr (Or.inl h3)))]
 rw [if_neg h3];by_cases h4:d > 16384
 . rw [if_pos h4,if_pos (Or.inr (Or.inr (Or.inr h4)))]
 rw [if_neg h4,if_neg (by omega)];have a:=aks (x:=d) (m:=16384) (by omega) (by omega);have b:=aks (x:=s) (m:=4194304) (by omega) (by omega)
 rw [aC (show -9223372036854775808<=d*d from by omega) (by omega),aC (by omega) (by omega),aC (show -9223372036854775808<=s*s from by omega) (by omega),
   jB (by omega) (by constructor <;> omega) (by decide) (by constructor <;> omega)]
 rfl
theorem ajb {k:Nat} (hk:70000<=k) {d s:Int}:nD.f k d s=some (sh (ab8 (aaf d s)) 10):=by
 unfold nD.f;rw [aja (by omega)];simp only [Option.bind_some];rw [alS hk (apx d s)];simp only [Option.bind_some];rw [aaQ (by omega) (apw _) (by decide)];rfl
theorem alT (p q:Int):lQ.f p q=some (decide (ac8 p q)):=by
 unfold lQ.f ac8;by_cases h1:q < 1
 . rw [if_pos h1];congr 1;exact (decide_eq_false (by omega)).symm
 rw [if_neg h1];by_cases h2:q > 1048576
 . rw [if_pos h2];congr 1;exact (decide_eq_false (by omega)).symm
 rw [if_neg h2,aC (show -9223372036854775808 <= -4*q from by omega) (by omega),aC (show -9223372036854775808<=4*q from by omega) (by omega)];by_cases h3:p<=4*q
 . rw [if_pos h3];congr 1;exact decide_eq_decide.2 (by omega)
 . rw [if_neg h3];congr 1;exact (decide_eq_false (by omega)).symm
theorem ah8 (u:Int) (hu:I64 u):∀ (d k n:Nat) (a b:Int),n+d=30->d+600 < k->I64 a->I64 b->wrap64 (a - b)=sN u n ->
    dw.l0 k u a b (qI u n) ((n:Int)+1)=some (sN u 30):=by
  intro d;induction d with
  | zero =>
    intro k n a b hn hk ha hb he;obtain ⟨k,rfl⟩:∃ m,k=m+1:=⟨k - 1,by omega⟩;rw [dw.l0,if_neg (by omega),he,show n=30 from by omega]
  | succ d ih =>
    intro k n a b hn hk ha hb he;obtain ⟨k,rfl⟩:∃ m,k=m+1:=⟨k - 1,by omega⟩;have hd:=apz n (by omega)
    rw [dw.l0,if_pos (by omega),aC (show -9223372036854775808<=2*((n:Int)+1) from by omega) (by omega),aC (show -9223372036854775808<=2*((n:Int)+1)+1 from by omega) (by omega),
      aC (show -9223372036854775808<=2*((n:Int)+1)*(2*((n:Int)+1)+1) from by omega) (by omega),aC (show -9223372036854775808<=2*((n:Int)+1)*(2*((n:Int)+1)+1)*1099511627776 from by omega) (by omega),
      aC (show -9223372036854775808<=(n:Int)+1+1 from by omega) (by omega)]
    rw [jB (by omega) (apy u n) hu (by constructor <;> omega)];simp only [Option.bind_some];have et:hold (jA (qI u n*u) (2*((n:Int)+1)*(2*((n:Int)+1)+1)*1099511627776))=qI u (n+1):=(by rw [qI]);rw [et];have em:Int.tmod ((n:Int)+1) 2=(((n+1) % 2:Nat):Int):=(by rw [Int.tmod_eq_emod_of_nonneg (by omega)];omega);have ec:((n+1:Nat):Int)=(n:Int)+1:=(by omega);rw [em];have es:sN u (n+1)=if n % 2=0 then wrap64 (sN u n - qI u (n+1)) else wrap64 (sN u n+qI u (n+1)):=by rw [sN]
    by_cases c:n % 2=0
    . rw [if_pos (by omega)];rw [if_pos c] at es;have e2:wrap64 (a - wrap64 (b+qI u (n+1)))=sN u (n+1):=by
        rw [es,<- he];generalize qI u (n+1)=x;unfold wrap64;omega
      have h:=ih k (n+1) a (wrap64 (b+qI u (n+1))) (by omega) (by omega) ha (ak6 _) e2;rw [ec] at h;exact h
    . rw [if_neg (by omega)];rw [if_neg c] at es;have e2:wrap64 (wrap64 (a+qI u (n+1)) - b)=sN u (n+1):=by
        rw [es,<- he];generalize qI u (n+1)=x;unfold wrap64;omega
      have h:=ih k (n+1) (wrap64 (a+qI u (n+1))) b (by omega) (by omega) (ak6 _) hb e2;rw [ec] at h;exact h
theorem acY {k:Nat} (hk:1000<=k) {p q:Int} (hp : -9223372036854775807<=p/\p<=9223372036854775807) (hq:I64 q):dw.f k p q=some (agG p q):=by
 obtain ⟨k,rfl⟩:∃ m,k=m+1:=⟨k - 1,by omega⟩;have main:∀ x,0<=x->x<=9223372036854775807->dw.j0 (k+1) x q=some (sN (auW x q) 30):=by
   intro x h0 h1;rw [dw.j0,jB (by omega) (by decide) (by constructor <;> omega) hq];simp only [Option.bind_some];rw [jB (by omega) (rZ _) (by constructor <;> omega) hq];simp only [Option.bind_some];exact ah8 _ (rZ _) 30 k 0 _ _ (by omega) (by omega) (by decide) (by decide) (by rw [sN];unfold wrap64;decide)
 unfold dw.f agG siz;by_cases c:p < 0
 . rw [if_pos c,if_pos c,aC (by omega) (by omega),main _ (by omega) (by omega)]
 . rw [if_neg c,if_neg c,main _ (by omega) (by omega)]
theorem ag5 {k:Nat} (hk:60000<=k) (p q:Int):fB.f k p q=some (agH p q):=by
 obtain ⟨k,rfl⟩:∃ m,k=m+1:=⟨k - 1,by omega⟩;unfold fB.f agH;rw [alT];simp only [Option.bind_some];by_cases c:ac8 p q
 . have c':1<=q/\q<=1048576 /\ -4*q<=p/\p<=4*q:=c;rw [if_pos (decide_eq_true c),aC (show -9223372036854775808<=3*q from by omega) (by omega),aC (show -9223372036854775808 <= -3*q from by omega) (by omega)];by_cases g:siz p < 3*q
   . have g2:p < 3*q /\ -(3*q) < p:=(by unfold siz at g;split at g <;> omega);rw [if_neg (by omega),decide_eq_false (by omega),fB.j0,if_neg (by decide),if_pos ⟨c,g⟩,aC (show -9223372036854775808<=3*q from by omega) (by omega),acY (by omega) (by omega) (by constructor <;> omega),acY (by omega) (by omega) (by constructor <;> omega)];simp only [Option.bind_some];rw [agp (by omega) (ahx _ _) (ahx _ _) (by decide)];simp only [Option.bind_some];rw [aaQ (by omega) (aiL _ _ _) (by decide)];rfl
   . rw [if_neg (show ¬ (ac8 p q/\siz p < 3*q) from by omega)];by_cases g3:p>=3*q
     . rw [if_pos g3,fB.j0,if_pos rfl]
     . rw [if_neg g3,decide_eq_true (by unfold siz at g;split at g <;> omega),fB.j0,if_pos rfl]
 . rw [if_neg (by simpa using c),if_neg (by intro h;exact c h.1),fB.j0,if_pos rfl]
theorem alU (f n m i:Int):lM.f f n m i=some (decide (uS f n m i)):=by
 have e:lM.f f n m i=jq.f f n m i:=by
   unfold lM.f jq.f;by_cases h2:f<=2
   . rw [if_pos h2,if_pos (show f < 3 by omega)]
   . rw [if_neg h2,if_neg (show ¬ f < 3 by omega)]
 rw [e,vT]
theorem yD {f n m i j:Int} (h:uS f n m i) (hj : -34359738368<=j/\j<=34359738368):ji.f f n m i j=some (decide (gJ f n m i<=j/\j < lW f n m i)):=by
 obtain ⟨h1,h2,h3,h4,h5,h6,h7,h8⟩:=id h;have hP:=adO ⟨h3,h4⟩ ⟨h5,h6⟩ ⟨h7,h8⟩;have hx:1<=mx n m/\mx n m<=65536:=(by unfold mx;split <;> omega);have hJ:=anR ⟨h5,h6⟩ hj;have q1:(i+1)*n=i*n+n:=(by rw [Int.add_mul,Int.one_mul]);have q2:(2*i+1)*n=2*(i*n)+n:=(by rw [Int.add_mul,Int.one_mul,Int.mul_assoc]);have q3:(j+1)*m=j*m+m:=(by rw [Int.add_mul,Int.one_mul]);have q4:2*m*j=2*(j*m):=(by rw [Int.mul_assoc,Int.mul_comm m j]);have q6:j*(2*m)=2*(j*m):=(by rw [Int.mul_comm (2:Int) m,<- Int.mul_assoc,Int.mul_comm _ (2:Int)]);have e1:wrap64 (i*n)=i*n:=aC (by omega) (by omega);have e2:wrap64 (i+1)=i+1:=aC (by omega) (by omega);have e3:wrap64 (i*n+n)=i*n+n:=aC (by omega) (by omega);have e4:wrap64 (2*i)=2*i:=aC (by omega) (by omega);have e5:wrap64 (2*i+1)=2*i+1:=aC (by omega) (by omega);have e6:wrap64 (2*(i*n)+n)=2*(i*n)+n:=aC (by omega) (by omega);have e7:wrap64 (j+1)=j+1:=aC (by omega) (by omega);have e8:wrap64 (j*m)=j*m:=aC (by omega) (by omega);have e9:wrap64 (j*m+m)=j*m+m:=aC (by omega) (by omega);have e10:wrap64 (2*m)=2*m:=aC (by omega) (by omega);have arK:wrap64 (2*n)=2*n:=aC (by omega) (by omega);have e11:wrap64 (2*(j*m))=2*(j*m):=aC (by omega) (by omega);have e12:wrap64 (2*(j*m) - (2*(i*n)+n))=2*(j*m) - (2*(i*n)+n):=aC (by omega) (by omega);have e13:wrap64 (2*(j*m) - (2*(i*n)+n)+m)=2*(j*m) - (2*(i*n)+n)+m:=aC (by omega) (by omega);have fr:gG.f n m i j=some (2*(j*m) - (2*(i*n)+n)+m,2*mx n m):=by
   unfold gG.f mx;simp only [e4,e5,q2,e6,e10,arK,q4,e11,e12,e13];by_cases c:m > n
   . rw [if_pos c,if_pos (show n < m from c)]
   . rw [if_neg c,if_neg (show ¬ n < m from c)]
 unfold ji.f gJ lW;by_cases c0:f=0
 . simp only [if_pos c0,e1,e2,q1,e3,e7,q3,e8,e9];have a1:=div_lt (a:=i*n) (b:=m) (j:=j+1) (by omega);have a2:=ahz (a:=i*n+n) (b:=m) (j:=j) (by omega);rw [q3] at a1;by_cases d:j*m+m > i*n
   . rw [if_pos d];congr 1;exact decide_eq_decide.2 (by omega)
   . rw [if_neg d];congr 1;exact (decide_eq_false (by omega)).symm
 . have hf:f=1\/f=2:=(by omega);simp only [if_neg c0,fr,Option.bind_some];have a1:=div_lt (a:=2*(i*n)+n - m - oG f n m) (b:=2*m) (j:=j) (by omega);have a2:=ahz (a:=2*(i*n)+n - m+oG f n m) (b:=2*m) (j:=j) (by omega);rw [q6] at a1 a2;rcases hf with rfl|rfl
   . have hr:oG 1 n m=4*mx n m:=(by unfold oG;rw [if_pos rfl]);rw [hr] at a1 a2;rw [if_neg (by decide),aC (show -9223372036854775808<=2*(2*mx n m) from by omega) (by omega),aC (show -9223372036854775808 <= -(2*(2*mx n m)) from by omega) (by omega),hr];by_cases d:2*(j*m) - (2*(i*n)+n)+m < 2*(2*mx n m)
     . rw [if_pos d];congr 1;exact decide_eq_decide.2 (by omega)
     . rw [if_neg d];congr 1;exact (decide_eq_false (by omega)).symm
   . have hr:oG 2 n m=6*mx n m:=(by unfold oG;rw [if_neg (by decide)]);rw [hr] at a1 a2;rw [if_pos rfl,aC (show -9223372036854775808<=3*(2*mx n m) from by omega) (by omega),aC (show -9223372036854775808 <= -(3*(2*mx n m)) from by omega) (by omega),hr];by_cases d:2*(j*m) - (2*(i*n)+n)+m < 3*(2*mx n m)
     . rw [if_pos d];congr 1;exact decide_eq_decide.2 (by omega)
     . rw [if_neg d];congr 1;exact (decide_eq_false (by omega)).symm
theorem akb {k:Nat} (hk:200<=k) {p q:Int} (hp:I64 p) (hq:I64 q):bU.f k p q=some (agI p q):=by
 obtain ⟨k,rfl⟩:∃ m,k=m+3:=⟨k - 3,by omega⟩;unfold bU.f agI;by_cases h1:q < 1
 . rw [if_pos h1,if_neg (by omega),bU.j0,if_pos rfl]
 rw [if_neg h1,bU.j0];by_cases h2:q > 262144
 . rw [if_pos (by simpa using h2),if_neg (by omega)]
 rw [if_neg (by simpa using h2),aC (show -9223372036854775808<=2*q from by omega) (by omega),aC (show -9223372036854775808 <= -2*q from by omega) (by omega)];by_cases h3:p>=2*q
 . rw [if_pos h3,if_neg (by omega),bU.j1,if_pos rfl]
 rw [if_neg h3,bU.j1];by_cases h4:p <= -2*q
 . rw [if_pos (by simpa using h4),if_neg (by omega)]
 rw [if_neg (by simpa using h4),if_pos (show 1<=q/\q<=262144/\p < 2*q /\ -2*q < p from by omega)];have e:(if p < 0 then bU.j2 (k+1) (wrap64 (-p)) q else bU.j2 (k+1) p q)=bU.j2 (k+1) (siz p) q:=by
   unfold siz;split
   . rw [aC (by omega) (by omega)]
   . rfl
 rw [e,bU.j2];have hs:0<=siz p/\siz p<=524288:=(by unfold siz;split <;> omega);generalize siz p=s at hs ⊢;have b1:=aa8 hs hs hs;have b2:=aa8 hs hs (show 0<=q/\q<=524288 by omega);have b3:=aa8 hs (show 0<=q/\q<=524288 by omega) (show 0<=q/\q<=524288 by omega);have b4:=aa8 (show 0<=q/\q<=262144 by omega) (show 0<=q/\q<=262144 by omega) (show 0<=q/\q<=262144 by omega);have a3:5*(s*s)*q=5*(s*s*q):=Int.mul_assoc _ _ _;have a4:8*s*(q*q)=8*(s*q*q):=(by rw [Int.mul_assoc,<- Int.mul_assoc s q q]);have w0:wrap64 (s*s)=s*s:=aC (by omega) (by omega);have w1:wrap64 (s*s*s)=s*s*s:=aC (by omega) (by omega);have w2:wrap64 (q*q)=q*q:=aC (by omega) (by omega);have w3:wrap64 (q*q*q)=q*q*q:=aC (by omega) (by omega);have w5:wrap64 (5*(s*s))=5*(s*s):=aC (by omega) (by omega);have w6:wrap64 (5*(s*s*q))=5*(s*s*q):=aC (by omega) (by omega);have w7:wrap64 (8*s)=8*s:=aC (by omega) (by omega);have w9:wrap64 (8*(s*q*q))=8*(s*q*q):=aC (by omega) (by omega);have w12:wrap64 (4*(q*q*q))=4*(q*q*q):=aC (by omega) (by omega);have w15:wrap64 (2*(q*q*q))=2*(q*q*q):=aC (by omega) (by omega);have w18:wrap64 (3*(s*s*s))=3*(s*s*s):=aC (by omega) (by omega);simp only [w0,w1,w2,w3,w5,a3,w6,w7,a4,w9,w12,w15,w18];by_cases h5:s < q
 . rw [if_pos h5,if_neg (show ¬ s>=q from by omega)];have v1:wrap64 (3*(s*s*s) - 5*(s*s*q))=3*(s*s*s) - 5*(s*s*q):=aC (by omega) (by omega);have v2:wrap64 (3*(s*s*s) - 5*(s*s*q)+2*(q*q*q))=3*(s*s*s) - 5*(s*s*q)+2*(q*q*q):=aC (by omega) (by omega);rw [v1,v2,jB (by omega) (by constructor <;> omega) (by decide) (by constructor <;> omega)];rfl
 . rw [if_neg h5,if_pos (show s>=q from by omega)];have v1:wrap64 (5*(s*s*q) - s*s*s) = -(s*s*s)+5*(s*s*q):=(by rw [aC (by omega) (by omega)];omega);have v2:wrap64 (-(s*s*s)+5*(s*s*q) - 8*(s*q*q)) = -(s*s*s)+5*(s*s*q) - 8*(s*q*q):=aC (by omega) (by omega);have v3:wrap64 (-(s*s*s)+5*(s*s*q) - 8*(s*q*q)+4*(q*q*q)) = -(s*s*s)+5*(s*s*q) - 8*(s*q*q)+4*(q*q*q):=aC (by omega) (by omega);rw [v1,v2,v3,jB (by omega) (by constructor <;> omega) (by decide) (by constructor <;> omega)];rfl
theorem ah9 {k:Nat} (hk:60000<=k) {f n m i j:Int} (h:uS f n m i) (hj : -34359738368<=j/\j<=34359738368):mg.f k f n m i j=some (wV f n m i j):=by
 obtain ⟨h1,h2,h3,h4,h5,h6,h7,h8⟩:=id h;have hP:=adO ⟨h3,h4⟩ ⟨h5,h6⟩ ⟨h7,h8⟩;have hx:1<=mx n m/\mx n m<=65536:=(by unfold mx;split <;> omega);have hJ:=anR ⟨h5,h6⟩ hj;have q1:(i+1)*n=i*n+n:=(by rw [Int.add_mul,Int.one_mul]);have q2:(2*i+1)*n=2*(i*n)+n:=(by rw [Int.add_mul,Int.one_mul,Int.mul_assoc]);have q3:(j+1)*m=j*m+m:=(by rw [Int.add_mul,Int.one_mul]);have q4:2*m*j=2*(m*j):=Int.mul_assoc _ _ _;have q5:m*j=j*m:=Int.mul_comm _ _;have e1:wrap64 (i*n)=i*n:=aC (by omega) (by omega);have e2:wrap64 (i+1)=i+1:=aC (by omega) (by omega);have e3:wrap64 (i*n+n)=i*n+n:=aC (by omega) (by omega);have e4:wrap64 (2*i)=2*i:=aC (by omega) (by omega);have e5:wrap64 (2*i+1)=2*i+1:=aC (by omega) (by omega);have e6:wrap64 (2*(i*n)+n)=2*(i*n)+n:=aC (by omega) (by omega);have e7:wrap64 (j+1)=j+1:=aC (by omega) (by omega);have e8:wrap64 (j*m)=j*m:=aC (by omega) (by omega);have e9:wrap64 (j*m+m)=j*m+m:=aC (by omega) (by omega);have e10:wrap64 (2*m)=2*m:=aC (by omega) (by omega);have arK:wrap64 (2*n)=2*n:=aC (by omega) (by omega);have e11:wrap64 (2*(m*j))=2*(m*j):=aC (by omega) (by omega);have e12:wrap64 (2*(m*j) - (2*(i*n)+n))=2*(m*j) - (2*(i*n)+n):=aC (by omega) (by omega);have e13:wrap64 (2*(m*j) - (2*(i*n)+n)+m)=2*(m*j) - (2*(i*n)+n)+m:=aC (by omega) (by omega);have fr:gG.f n m i j=some (adP n m i j,2*mx n m):=by
   unfold gG.f mx adP;simp only [e4,e5,q2,e6,e10,arK,q4,e11,e12,e13];by_cases c:m > n
   . rw [if_pos c,if_pos (show n < m from c)]
   . rw [if_neg c,if_neg (show ¬ n < m from c)]
 have hfr : -9223372036854775808<=adP n m i j/\adP n m i j<=9223372036854775807:=(by unfold adP;omega);unfold mg.f wV;simp only [fr,e1,e2,q1,e3,e7,q3,e8,e9];by_cases c0:f=0
 . rw [if_pos c0,if_pos c0];unfold afU mn mx;by_cases g1:j*m > i*n
   . rw [if_pos g1,if_pos (show i*n < j*m from g1)];by_cases g2:j*m+m < i*n+n
     . rw [if_pos g2,if_pos g2,aC (by omega) (by omega),jB (by omega) (by constructor <;> omega) (by decide) (by constructor <;> omega)];rfl
     . rw [if_neg g2,if_neg g2,aC (by omega) (by omega),jB (by omega) (by constructor <;> omega) (by decide) (by constructor <;> omega)];rfl
   . rw [if_neg g1,if_neg (show ¬ i*n < j*m from g1)];by_cases g2:j*m+m < i*n+n
     . rw [if_pos g2,if_pos g2,aC (by omega) (by omega),jB (by omega) (by constructor <;> omega) (by decide) (by constructor <;> omega)];rfl
     . rw [if_neg g2,if_neg g2,aC (by omega) (by omega),jB (by omega) (by constructor <;> omega) (by decide) (by constructor <;> omega)];rfl
 . rw [if_neg c0,if_neg c0];simp only [Option.bind_some];by_cases c1:f=1
   . rw [if_pos c1,if_pos c1,akb (by omega) hfr (by constructor <;> omega)];rfl
   . rw [if_neg c1,if_neg c1,ag5 (by omega)];rfl
theorem alV {f n m i:Int} (h:uS f n m i) (c:Nat) (hc:(c:Int)=lW f n m i - gJ f n m i):∀ (d k t:Nat),t+d=c->d+60100 < k ->
    bZ.l2 k f n m i (gJ f n m i+(t:Int)) (gJ f n m i) ((List.range t).map fun (t:Nat)=>wV f n m i (gJ f n m i+(t:Int)))=some (gJ f n m i,(List.range c).map fun (t:Nat)=>wV f n m i (gJ f n m i+(t:Int))):=by
  have hw:=aaD h;intro d;induction d with
  | zero =>
    intro k t ht hk;obtain ⟨k,rfl⟩:∃ m,k=m+1:=⟨k - 1,by omega⟩;rw [bZ.l2,yD h (by omega),decide_eq_false (by omega)];simp only [Option.bind_some];rw [if_neg (by decide),show t=c from by omega]
  | succ d ih =>
    intro k t ht hk;obtain ⟨k,rfl⟩:∃ m,k=m+1:=⟨k - 1,by omega⟩;rw [bZ.l2,yD h (by omega),decide_eq_true (by omega)];simp only [Option.bind_some,if_true];rw [ah9 (by omega) h (by omega)];simp only [Option.bind_some];rw [if_pos (by rw [List.length_map,List.length_range];omega),aC (show -9223372036854775808<=gJ f n m i+(t:Int)+1 from by omega) (by omega)];have:=ih k (t+1) (by omega) (by omega);rw [List.range_succ,List.map_append,List.map_singleton] at this;rw [show gJ f n m i+((t+1:Nat):Int)=gJ f n m i+(t:Int)+1 from by omega] at this;exact this
theorem alW {f n m i:Int} (h:uS f n m i):∀ (d k:Nat),gJ f n m i+(d:Int) < lW f n m i->d+(lW f n m i - gJ f n m i).toNat+60200 < k ->
    bZ.l0 k f n m i (gJ f n m i+(d:Int))=some (gJ f n m i,uU f n m i):=by
  have hw:=aaD h;intro d;induction d with
  | zero =>
    intro k hd hk;obtain ⟨k,rfl⟩:∃ m,k=m+2:=⟨k - 2,by omega⟩;rw [bZ.l0,aC (show -9223372036854775808<=gJ f n m i+((0:Nat):Int) - 1 from by omega) (by omega),yD h (by omega),decide_eq_false (by omega)];simp only [Option.bind_some];rw [if_neg (by decide),bZ.l1,yD h (by omega),decide_eq_true (by omega)];simp only [Option.bind_some,if_true];have:=alV h (lW f n m i - gJ f n m i).toNat (by omega) (lW f n m i - gJ f n m i).toNat k 0 (by omega) (by omega);rw [show gJ f n m i+((0:Nat):Int)=gJ f n m i from by omega] at this ⊢;exact this
  | succ d ih =>
    intro k hd hk;obtain ⟨k,rfl⟩:∃ m,k=m+1:=⟨k - 1,by omega⟩;rw [bZ.l0,aC (show -9223372036854775808<=gJ f n m i+((d+1:Nat):Int) - 1 from by omega) (by omega),yD h (by omega),decide_eq_true (by omega)];simp only [Option.bind_some,if_true];rw [show gJ f n m i+((d+1:Nat):Int) - 1=gJ f n m i+(d:Int) from by omega];exact ih k (by omega) (by omega)
theorem akc {k:Nat} {f n m i:Int} (h:uS f n m i) (hk:2*(lW f n m i - gJ f n m i).toNat+60201<=k):bZ.f k f n m i=some (gJ f n m i,uU f n m i):=by
 have hm:=amZ h;have hw:=aaD h;obtain ⟨h1,h2,h3,h4,h5,h6,h7,h8⟩:=id h;have hP:=adO ⟨h3,h4⟩ ⟨h5,h6⟩ ⟨h7,h8⟩;unfold bZ.f;rw [alU,decide_eq_true h];simp only [Option.bind_some,if_true];rw [if_neg (by omega),aC (show -9223372036854775808<=i*n from by omega) (by omega),Int.tdiv_eq_ediv_of_nonneg (by omega),aC (by omega) (by omega)];have:=alW h (i*n / m - gJ f n m i).toNat k (by omega) (by omega);rw [show gJ f n m i+(((i*n / m - gJ f n m i).toNat:Nat):Int)=i*n / m from by omega] at this;exact this
theorem aev {k:Nat} (hk:1<=k) {a b:Int} (ha:I64 a) (hb:I64 b):gZ.f k a b=some (hold (a+b)):=by
 obtain ⟨k,rfl⟩:∃ m,k=m+1:=⟨k - 1,by omega⟩;unfold gZ.f;by_cases h1:b > 0
 . rw [if_pos h1,aC (by omega) (by omega),gZ.j0];by_cases h2:a > 9223372036854775807 - b
   . rw [if_pos (by simpa using h2)];unfold hold;rw [if_neg (by omega),if_pos (by omega)]
   . rw [if_neg (by simpa using h2),if_neg (by omega),aC (by omega) (by omega),uT (by omega) (by omega)]
 . rw [if_neg h1,gZ.j0,if_neg (by decide)];by_cases h2:b < 0
   . rw [if_pos h2,aC (show -9223372036854775808 <= -9223372036854775808 - b from by omega) (by omega)];by_cases h3:a < -9223372036854775808 - b
     . rw [if_pos h3];unfold hold;rw [if_pos (by omega)]
     . rw [if_neg h3,aC (by omega) (by omega),uT (by omega) (by omega)]
   . rw [if_neg h2,aC (by omega) (by omega),uT (by omega) (by omega)]
theorem aew {x:Int} (hx:I64 x):iT.f x=some (szV x):=by
 rw [apB hx];unfold iT.f;by_cases h1:x>=0
 . rw [if_pos h1,if_pos h1]
 . rw [if_neg h1,if_neg h1];by_cases h2:x < -9223372036854775807
   . rw [if_pos h2,if_pos h2]
   . rw [if_neg h2,if_neg h2,aC (by omega) (by omega)]
theorem ajc (l:List Int) (hl:l.length < 4611686018427387904) (hx:∀ x ∈ l,I64 x):∀ (d k i:Nat) (s:Int),i+d=l.length->d+2 < k->I64 s->iH.l0 k s l (l.length:Int) (i:Int)=some (o7 s (l.drop i)):=by
 intro d;induction d with
 | zero =>
   intro k i s h1 h2 hs;obtain ⟨k,rfl⟩:∃ m,k=m+1:=⟨k - 1,by omega⟩;rw [iH.l0,if_neg (by omega),List.drop_of_length_le (by omega)];rfl
 | succ d ih =>
   intro k i s h1 h2 hs;obtain ⟨k,rfl⟩:∃ m,k=m+1:=⟨k - 1,by omega⟩;have hz:=anT (tu hx (i:Int));rw [iH.l0,if_pos (by omega),if_pos (by omega),if_pos (by omega),aew (tu hx _)];simp only [Option.bind_some];rw [aev (by omega) hs (by constructor <;> omega)];simp only [Option.bind_some];rw [aC (show -9223372036854775808<=(i:Int)+1 from by omega) (by omega),aiM (by omega)];exact ih k (i+1) _ (by omega) (by omega) (rZ _)
theorem ajd {k:Nat} {l:List Int} (hk:l.length+3<=k) (hl:l.length < 4611686018427387904) (hx:∀ x ∈ l,I64 x):iH.f k l=some (o7 0 l) :=
 ajc l hl hx l.length k 0 0 (by omega) (by omega) (by decide)
theorem alX (l:List Int) (hl:l.length < 4611686018427387904) (hx:∀ x ∈ l,I64 x):∀ (d k i:Nat) (s:Int),i+d=l.length->d+2 < k->I64 s->fF.l0 k s l (l.length:Int) (i:Int)=some (dK s (l.drop i)):=by
 intro d;induction d with
 | zero =>
   intro k i s h1 h2 hs;obtain ⟨k,rfl⟩:∃ m,k=m+1:=⟨k - 1,by omega⟩;rw [fF.l0,if_neg (by omega),List.drop_of_length_le (by omega)];rfl
 | succ d ih =>
   intro k i s h1 h2 hs;obtain ⟨k,rfl⟩:∃ m,k=m+1:=⟨k - 1,by omega⟩;rw [fF.l0,if_pos (by omega),if_pos (by omega),if_pos (by omega),aev (by omega) hs (tu hx _)];simp only [Option.bind_some];rw [aC (show -9223372036854775808<=(i:Int)+1 from by omega) (by omega),aiM (by omega)];exact ih k (i+1) _ (by omega) (by omega) (rZ _)
theorem afF {k:Nat} {l:List Int} (hk:l.length+3<=k) (hl:l.length < 4611686018427387904) (hx:∀ x ∈ l,I64 x):fF.f k l=some (dK 0 l) :=
 alX l hl hx l.length k 0 0 (by omega) (by omega) (by decide)
theorem akd (l:List Int) (s:Int) (hs:I64 s) (hl:l.length<=1024) (hx:∀ x ∈ l,I64 x):∀ (d k i:Nat),i+d=l.length->d+160 < k ->
    bP.l0 k s ((List.range i).map (fun (i:Nat)=>hold (jA (rd l (i:Int)*1073741824) s))) l (l.length:Int) (i:Int)=some ((List.range l.length).map (fun (i:Nat)=>hold (jA (rd l (i:Int)*1073741824) s)),0):=by
  intro d;induction d with
  | zero =>
    intro k i h1 h2;obtain ⟨k,rfl⟩:∃ m,k=m+1:=⟨k - 1,by omega⟩;rw [bP.l0,if_neg (by omega),show i=l.length from by omega]
  | succ d ih =>
    intro k i h1 h2;obtain ⟨k,rfl⟩:∃ m,k=m+1:=⟨k - 1,by omega⟩;rw [bP.l0,if_pos (by omega),if_pos (by omega),if_pos (by omega),jB (by omega) (tu hx _) (by decide) hs];simp only [Option.bind_some];rw [if_pos (by simp;omega),aC (by omega) (by omega)];have:=ih k (i+1) (by omega) (by omega);rw [List.range_succ,List.map_append] at this;exact this
theorem abC {k:Nat} {l:List Int} (hk:l.length+200<=k) (hl:l.length < 4611686018427387904) (hx:∀ x ∈ l,I64 x):bP.f k l=some (oM l):=by
 obtain ⟨k,rfl⟩:∃ m,k=m+1:=⟨k - 1,by omega⟩;have hz:=ak8 (s:=0) (by decide) hx;unfold bP.f oM;rw [ajd (by omega) hl hx];simp only [Option.bind_some];by_cases h1:(l.length:Int) % 2=0
 . rw [if_pos h1,bP.j0,if_pos rfl,if_pos (Or.inl (by omega))]
 rw [if_neg h1];by_cases h2:(l.length:Int) > 1024
 . rw [if_pos h2,bP.j0,if_pos rfl,if_pos (Or.inr (Or.inl (by omega)))]
 rw [if_neg h2];by_cases h3:o7 0 l=0
 . rw [if_pos h3,bP.j0,if_pos rfl,if_pos (Or.inr (Or.inr (Or.inl (by omega))))]
 rw [if_neg h3,bP.j0];by_cases h4:o7 0 l > 1048576
 . rw [if_pos (by simpa using h4),if_pos (Or.inr (Or.inr (Or.inr h4)))]
 rw [if_neg (by simpa using h4),if_neg (by omega)];exact akd l (o7 0 l) (by constructor <;> omega) (by omega) hx l.length k 0 (by omega) (by omega)
theorem arL (o r:List Int) (left:Int) (n:Nat) (hr:r.length=n) (ho:o.length=n) (h1:1<=n) (hn:n<=1048576):∀ (d k i:Nat),i+d=n ->
    aG.l3 (k+d+1) o r left (best r i:Int) (n:Int) (i:Int)=aG.l2 k (o.set (best r n) (wrap64 (rd o (best r n:Int)+1))) (r.set (best r n) (-1)) (wrap64 (left - 1)):=by
  intro d;induction d with
  | zero =>
    intro k i hi;have e:i=n:=(by omega);have hb:=abV r n h1;rw [aG.l3,if_neg (by omega),e,if_pos (by omega),if_pos (by omega),if_pos (by omega)];rw [show ((best r n:Nat):Int).toNat=best r n from by omega]
  | succ d ih =>
    intro k i hi;have hb:best r i < n:=by
      by_cases c:1<=i
      . have:=abV r i c;omega
      . have:i=0:=(by omega);subst this;rw [best];omega
    rw [show k+(d+1)+1=(k+d+1)+1 from by omega,aG.l3,if_pos (by omega),if_pos (by omega),if_pos (by omega),if_pos (by omega),if_pos (by omega)];have:=ih k (i+1) (by omega);rw [best] at this;rw [aC (show -9223372036854775808<=(i:Int)+1 from by omega) (by omega)];by_cases c:rd r (i:Int) > rd r (best r i:Int)
    . rw [if_pos c] at this ⊢;exact this
    . rw [if_neg c] at this ⊢;exact this
theorem arM (n:Nat) (h1:1<=n) (hn:n<=1048576):∀ (t k:Nat) (o r:List Int),o.length=n->r.length=n->(t:Int)<=1048576->(∀ j:Nat,-1099511627776<=rd o (j:Int)/\rd o (j:Int)+t<=1099511627776) ->
    aG.l2 (k+t*(n+2)+1) o r (t:Int)=some (picks t o r,0):=by
  intro t;induction t with
  | zero =>
    intro k o r ho hr ht hb;rw [aG.l2,if_neg (by omega)];rfl
  | succ t ih =>
    intro k o r ho hr ht hb;have e:k+(t+1)*(n+2)+1=((k+t*(n+2)+1)+n+1)+1:=(by rw [Nat.add_mul,Nat.one_mul];omega);have h3:=arL o r ((t+1:Nat):Int) n hr ho h1 hn n (k+t*(n+2)+1) 0 (by omega);have hbb:=abV r n h1;have hbd:=hb (best r n);rw [e,aG.l2,if_pos (by omega),hr];rw [show ((best r 0:Nat):Int)=0 from rfl] at h3;rw [show (0:Int)=((0:Nat):Int) from rfl];refine h3.trans ?_;rw [aC (show -9223372036854775808<=rd o (best r n:Int)+1 from by omega) (by omega),aC (show -9223372036854775808<=((t+1:Nat):Int) - 1 from by omega) (by omega),show ((t+1:Nat):Int) - 1=(t:Int) from by omega,picks,hr];refine ih k _ _ (by rw [List.length_set];exact ho) (by rw [List.length_set];exact hr) (by omega) (fun j => ?_);rw [xk _ _ _ (by omega)];have:=hb j;split
    . rename_i c;subst c;omega
    . omega
theorem arN {l:List Int} {s:Int} (hG:Good l s) (R:Option (List Int × Int)) (K:Nat) (hR:∀ k,K<=k->aG.l2 k ((List.range l.length).map fun j=>qV l s j) ((List.range l.length).map fun j=>mV l s j) (16384 - dh (qV l s) l.length)=R):∀ (d k i:Nat),i+d=l.length->d+K+200 < k ->
    aG.l1 k s ((List.range i).map fun j=>qV l s j) ((List.range i).map fun j=>mV l s j) (16384 - dh (qV l s) i) l (l.length:Int) (i:Int)=R:=by
  intro d;induction d with
  | zero =>
    intro k i h1 h2;obtain ⟨k,rfl⟩:∃ m,k=m+1:=⟨k - 1,by omega⟩;rw [aG.l1,if_neg (by omega),show i=l.length from by omega];exact hR k (by omega)
  | succ d ih =>
    intro k i h1 h2;obtain ⟨k,rfl⟩:∃ m,k=m+1:=⟨k - 1,by omega⟩;have hx:=hG.xb i (by omega);have hq:=hG.qb i (by omega);have hs:=hG.sb;have hn1:=hG.n1;have hp:=ag6 (qV l s) l.length hG.qb i (by omega);have e:=Int.mul_ediv_add_emod (rd l (i:Int)*16384) s;have r0:=Int.emod_nonneg (rd l (i:Int)*16384) (show s≠0 by omega);have r1:=Int.emod_lt_of_pos (rd l (i:Int)*16384) (show 0 < s by omega);have eq:qV l s i=rd l (i:Int)*16384 / s:=rfl;have em:mV l s i=rd l (i:Int)*16384 % s:=rfl;have ec:qV l s i*s=s*(rd l (i:Int)*16384 / s):=(by rw [eq,Int.mul_comm]);rw [aG.l1,if_pos (by omega),if_pos (by omega),if_pos (by omega),aC (show -9223372036854775808<=rd l (i:Int)*16384 from by omega) (by omega),adC (by omega) (by constructor <;> omega) (by constructor <;> omega)];simp only [Option.bind_some];rw [if_pos (by simp;omega),if_pos (by simp;omega)];have ef:hold (flo (rd l (i:Int)*16384) s)=qV l s i:=by
      unfold flo;rw [if_pos (by omega),<- eq,uT (by omega) (by omega)]
    rw [ef,aC (show -9223372036854775808<=qV l s i*s from by omega) (by omega),aC (show -9223372036854775808<=rd l (i:Int)*16384 - qV l s i*s from by omega) (by omega),show rd l (i:Int)*16384 - qV l s i*s=mV l s i from by omega,
      aC (show -9223372036854775808<=16384 - dh (qV l s) i - qV l s i from by omega) (by omega),aC (show -9223372036854775808<=(i:Int)+1 from by omega) (by omega)]
    have:=ih k (i+1) (by omega) (by omega);rw [List.range_succ,List.map_append,List.map_append,dh] at this;rw [show 16384 - dh (qV l s) i - qV l s i=16384 - (dh (qV l s) i+qV l s i) from by omega];exact this
theorem abf {l:List Int} (hx:∀ x ∈ l,I64 x) (hl:l.length < 4611686018427387904):∃ K,∀ k,K<=k->aG.f k l=some (if jm l=0 then (iM l,0) else ([],jm l)):=by
 by_cases h0:l.length=0
 . refine ⟨2,fun k hk => ?_⟩;obtain ⟨k,rfl⟩:∃ m,k=m+1:=⟨k - 1,by omega⟩;have e:jm l=7:=(by unfold jm;rw [if_pos (Or.inl h0)]);unfold aG.f;rw [if_pos (by omega),aG.j0,if_pos rfl,e];rfl
 by_cases h1:l.length > 1048576
 . refine ⟨2,fun k hk => ?_⟩;obtain ⟨k,rfl⟩:∃ m,k=m+1:=⟨k - 1,by omega⟩;have e:jm l=7:=(by unfold jm;rw [if_pos (Or.inr (Or.inl h1))]);unfold aG.f;rw [if_neg (by omega),aG.j0,if_pos (by simp;omega),e];rfl
 have loop:∀ (R:Option (List Int × Int)) (K:Nat),((∃ x ∈ l,szV x > 1099511627776)->R=some ([],7))->((¬ ∃ x ∈ l,szV x > 1099511627776)->∀ k,K<=k->(fF.f k l).bind (fun t=>if t < 268435456 then some (([]:List Int),(8:Int)) else aG.l1 k t [] [] 16384 l (l.length:Int) 0)=R) ->
     ∀ (d k i:Nat),i+d=l.length->d+K+2 < k->(∀ j,j < i->¬ szV (rd l (j:Int)) > 1099511627776)->aG.l0 k l l (l.length:Int) (i:Int)=R:=by
   intro R K g1 g2 d;induction d with
   | zero =>
     intro k i q1 q2 q3;obtain ⟨k,rfl⟩:∃ m,k=m+1:=⟨k - 1,by omega⟩;rw [aG.l0,if_neg (by omega)];refine g2 ?_ k (by omega);rintro ⟨x,hx1,hx2⟩;obtain ⟨j,hj,rfl⟩:=List.getElem_of_mem hx1;have:=q3 j (by omega);unfold rd at this;rw [List.getD_eq_getElem?_getD,show ((j:Int)).toNat=j from by omega,List.getElem?_eq_getElem hj] at this;exact this hx2
   | succ d ih =>
     intro k i q1 q2 q3;obtain ⟨k,rfl⟩:∃ m,k=m+1:=⟨k - 1,by omega⟩;rw [aG.l0,if_pos (by omega),if_pos (by omega),if_pos (by omega),aew (tu hx _)];simp only [Option.bind_some];by_cases c:szV (rd l (i:Int)) > 1099511627776
     . rw [if_pos c];exact (g1 ⟨_,alY (by omega),c⟩).symm
     . rw [if_neg c,aC (show -9223372036854775808<=(i:Int)+1 from by omega) (by omega)];refine ih k (i+1) (by omega) (by omega) (fun j hj => ?_);by_cases c2:j=i
       . subst c2;exact c
       . exact q3 j (by omega)
 have top:∀ (R:Option (List Int × Int)) (K:Nat),((∃ x ∈ l,szV x > 1099511627776)->R=some ([],7))->((¬ ∃ x ∈ l,szV x > 1099511627776)->∀ k,K<=k->(fF.f k l).bind (fun t=>if t < 268435456 then some (([]:List Int),(8:Int)) else aG.l1 k t [] [] 16384 l (l.length:Int) 0)=R) ->
     ∀ k,l.length+K+10<=k->aG.f k l=R:=by
   intro R K g1 g2 k hk;obtain ⟨k,rfl⟩:∃ m,k=m+1:=⟨k - 1,by omega⟩;unfold aG.f;rw [if_neg (by omega),aG.j0,if_neg (by simp;omega)];exact loop R K g1 g2 l.length k 0 (by omega) (by omega) (fun j hj=>by omega)
 by_cases hs:dK 0 l < 268435456
 . refine ⟨l.length+(l.length+3)+10,top _ (l.length+3) (fun q => ?_) (fun q k hk => ?_)⟩
   . have e:jm l=7:=(by unfold jm;rw [if_pos (Or.inr (Or.inr q))]);rw [e];rfl
   . have e:jm l=8:=by
       unfold jm;rw [if_neg (by rintro (g|g|g);exact h0 g;exact h1 g;exact q g),if_pos hs]
     rw [afF hk hl hx,e];simp only [Option.bind_some];rw [if_pos hs];rfl
 . by_cases hz:∃ x ∈ l,szV x > 1099511627776
   . refine ⟨l.length+0+10,top _ 0 (fun q => ?_) (fun q=>absurd hz q)⟩;have e:jm l=7:=(by unfold jm;rw [if_pos (Or.inr (Or.inr q))]);rw [e];rfl
   . have e:jm l=0:=by
       unfold jm;rw [if_neg (by rintro (g|g|g);exact h0 g;exact h1 g;exact hz g),if_neg hs]
     have hG:=wH (fun i=>tu hx _) e;have hlb:=hG.lb;obtain ⟨t,ht⟩:∃ t:Nat,16384 - dh (qV l (dK 0 l)) l.length=(t:Int):=⟨(16384 - dh (qV l (dK 0 l)) l.length).toNat,by omega⟩;have e2:iM l=picks t ((List.range l.length).map fun j=>qV l (dK 0 l) j) ((List.range l.length).map fun j=>mV l (dK 0 l) j):=by
       unfold iM;rw [ht];rfl
     have hK:∀ k,t*(l.length+2)+1<=k->aG.l2 k ((List.range l.length).map fun j=>qV l (dK 0 l) j) ((List.range l.length).map fun j=>mV l (dK 0 l) j) (16384 - dh (qV l (dK 0 l)) l.length)=some (iM l,0):=by
       intro k hk;rw [ht,e2,show k=(k - (t*(l.length+2)+1))+t*(l.length+2)+1 from by omega];refine arM l.length hG.n0 hG.n1 t _ _ _ (by simp) (by simp) (by have:=hG.n1;omega) (fun j => ?_);by_cases c:j < l.length
       . have:=hG.qb j c;have:=hG.n1;rw [acd _ c];omega
       . unfold rd;rw [List.getD_eq_getElem?_getD,List.getElem?_eq_none (by simp;omega)];have:=hG.n1;simp;omega
     refine ⟨l.length+(l.length+(t*(l.length+2)+1)+300)+10,top _ (l.length+(t*(l.length+2)+1)+300) (fun q=>absurd q hz) (fun q k hk => ?_)⟩;rw [afF (by omega) hl hx,e];simp only [Option.bind_some];rw [if_neg hs];exact arN hG _ _ hK l.length k 0 (by omega) (by omega)
def toR (x:S71):lY:=⟨x.f0,x.f1⟩
def ad9 (l:List S71):Int:=l.foldl (fun m x=>mx m (x.f1.length:Int)) 0
def aea (l:List S71):Int:=l.foldl (fun m x=>mx m (o7 0 x.f1)) 0
structure Told (t:Tab):Prop where
 m:t.most=ad9 t.lines
 s:t.size=aea t.lines
 n:t.lines.length<=70000
 l:∀ o:Nat,o < t.lines.length->(1<=(fV t.lines (o:Int)).f1.length/\(fV t.lines (o:Int)).f1.length<=2097152 /\ -1099511627776<=(fV t.lines (o:Int)).f0/\(fV t.lines (o:Int)).f0<=1099511627776)/\∀ x ∈ (fV t.lines (o:Int)).f1,I64 x
theorem abD (n:Int):iU.f n=some (decide (1<=n/\n<=65536)):=by
 unfold iU.f;by_cases h:n>=1
 . rw [if_pos h];congr 1;by_cases c:n<=65536
   . rw [decide_eq_true c,decide_eq_true ⟨h,c⟩]
   . rw [decide_eq_false c,decide_eq_false (fun q=>c q.2)]
 . rw [if_neg h];congr 1;rw [decide_eq_false (fun q=>h q.1)]
theorem acZ {f n:Int} {M:Nat} (h:okR f n M):∀ (d i:Nat),i+d=M->∃ K,∀ k,K<=k->cO.l0 k f n M ((iC f n M i).lines.map toR) M i=some (if gK f n M i d=0 then ((iC f n M M).lines.map toR,0) else ([],gK f n M i d))
  | 0,i,hi=>by
    have:i=M:=(by omega);subst this;refine ⟨1,fun k hk => ?_⟩;obtain ⟨k,rfl⟩:∃ m,k=m+1:=⟨k - 1,by omega⟩;rw [cO.l0,if_neg (by omega),gK,if_pos rfl]
  | d+1,i,hi=>by
    obtain ⟨h1,h2,h3,h4,h5,h6⟩:=h;obtain ⟨K1,ih⟩:=acZ ⟨h1,h2,h3,h4,h5,h6⟩ d (i+1) (by omega);have hm:uS f n M i:=⟨h1,h2,h3,h4,by omega,by omega,by omega,by omega⟩;have hb:=aaD hm;obtain ⟨K2,ha⟩:=abf (aaG f n M i) (by rw [aqu];omega);obtain ⟨K3,hK3⟩:∃ K3,K3=2*(lW f n M i - gJ f n M i).toNat+60201:=⟨_,rfl⟩;refine ⟨K1+K2+K3+1,fun k hk => ?_⟩;obtain ⟨k,rfl⟩:∃ m,k=m+1:=⟨k - 1,by omega⟩;rw [cO.l0,if_pos (by omega),akc hm (show 2*(lW f n M i - gJ f n M i).toNat+60201<=k by rw [<- hK3];omega),Option.bind_some,ha k (by omega),Option.bind_some,gK];by_cases hc:jm (uU f n M i)=0
    . rw [if_pos hc,if_pos hc,if_pos rfl,if_pos (by rw [List.length_map,ru];omega),show wrap64 ((i:Int)+1)=((i+1:Nat):Int) by rw [aC (by omega) (by omega)];omega];have e:(iC f n M i).lines.map toR ++ [(⟨gJ f n M i,iM (uU f n M i)⟩:lY)]=(iC f n M (i+1)).lines.map toR:=by
        show _=((iC f n M i).lines ++ [_]).map toR
        rw [List.map_append];rfl
      rw [e];exact ih k (by omega)
    . rw [if_neg hc,if_neg hc,if_neg hc,if_neg hc]
theorem ac0 {f n:Int} {M:Nat} (h:okR f n M):∃ K,cO.f K f n M=some (if gK f n M 0 M=0 then ((iC f n M M).lines.map toR,0) else ([],gK f n M 0 M)):=by
 obtain ⟨K,hK⟩:=acZ h M 0 (by omega);obtain ⟨h1,h2,h3,h4,h5,h6⟩:=h;refine ⟨K+1,?_⟩;unfold cO.f;rw [if_neg (by omega),if_neg (by omega),abD,decide_eq_true ⟨h3,h4⟩,Option.bind_some,if_pos rfl,abD,decide_eq_true ⟨h5,h6⟩,Option.bind_some,cO.j0,if_neg (by decide)];exact hK K (Nat.le_refl _)
theorem alZ {f n:Int} {M:Nat} (h:okR f n M) (hc:gK f n M 0 M=0):Told (iC f n M M):=by
 obtain ⟨h1,h2,h3,h4,h5,h6⟩:=h;have hz:∀ (d i:Nat),gK f n M i d=0->∀ j:Nat,i<=j->j < i+d->jm (uU f n M j)=0:=by
   intro d;induction d with
   | zero=>intro i _ j h1 h2;omega
   | succ d ih =>
     intro i h j h1 h2;rw [gK] at h;by_cases c:jm (uU f n M i)=0
     . rw [if_pos c] at h;by_cases e:j=i
       . rw [e];exact c
       . exact ih (i+1) h j (by omega) (by omega)
     . rw [if_neg c] at h;exact absurd h c
 have hk:=hz M 0 hc;have hms:∀ i,(iC f n M i).most=ad9 (iC f n M i).lines/\(iC f n M i).size=aea (iC f n M i).lines:=by
   intro i;induction i with
   | zero=>exact ⟨rfl,rfl⟩
   | succ i ih =>
     refine ⟨?_,?_⟩
     . show mx (iC f n M i).most _=ad9 ((iC f n M i).lines ++ [_])
       rw [ih.1];unfold ad9;rw [List.foldl_append];rfl
     . show mx (iC f n M i).size _=aea ((iC f n M i).lines ++ [_])
       rw [ih.2];unfold aea;rw [List.foldl_append];rfl
 refine ⟨(hms M).1,(hms M).2,by rw [ru];omega,fun o ho => ?_⟩;rw [ru] at ho;rw [aeN f n M M o ho];have hm:uS f n M o:=⟨h1,h2,h3,h4,by omega,by omega,by omega,by omega⟩;have hb:=aaD hm;have hko:=hk o (by omega) (by omega);have hl:=aaF (aaG f n M o) hko;have hg:=wH (fun i=>tu (aaG f n M o) _) hko;refine ⟨⟨?_,?_,?_,?_⟩,adR (aaG f n M o) hko⟩
 . show 1<=(iM (uU f n M o)).length
   rw [vH];exact hg.n0
 . show (iM (uU f n M o)).length<=2097152
   rw [vH];have:=hl.1;omega
 . show -1099511627776<=gJ f n M o
   omega
 . show gJ f n M o<=1099511627776
   omega
def azj (xs:List lY) (c:Int) (w:World) (e:Ending) (w':World):Prop:=Below w.heap.size w w'/\if c=0 then ∃ v,e = .returned (.tuple #[v,.int .i64 0])/\Kd.R aaA 138 w' w.heap.size (fun _=>True) v xs else e = .returned (.tuple #[.slice none 0 0,.int .i64 c])
theorem ayg:(Tryz.prog.info? 138).map (fun i=>(i.zero,i.size,i.bytes))=some (some (.agg #[(.int .i64 0),(.slice none 0 0)]),2,32):=by kernel_rfl
theorem acy (A0:Option Addr) (c0:Nat) (l:List Int) (N:Nat) (w:World) (hr0:Kd.C (Kd.int .i64) w A0 l.length l) (hc0:l.length<=c0) (hx:∀ x ∈ l,I64 x) (hl:l.length < 4611686018427387904) (h1:1<=N) (h2:N<=65536) :
   Calls Tryz.prog 97 #[.slice A0 l.length c0,.int .i64 N] w (azj ((iK N ((l.length / 2:Nat):Int) (iM l) N).lines.map toR) (iO l N) w):=by
 have hs1:iU.f N=some true:=(by rw [abD,decide_eq_true ⟨by omega,by omega⟩]);have hfc:iO l N=if l.length % 2=0 then 7 else jm l:=by unfold iO;rw [if_pos ⟨by omega,by omega⟩]
 rw [hfc];clear hfc;obtain ⟨K,hK⟩:=abf hx hl;have happ:=hK K (Nat.le_refl _);clear hK;obtain ⟨L,hL⟩:∃ L,L=l.length:=⟨_,rfl⟩;have HR0:=aj.mk hr0;have HX:=aj.mk hx;have mixed:Tryz.prog.follows .mixedOrders=true:=(by kernel_rfl);have hdv:Int.tdiv (L:Int) 2=((L / 2:Nat):Int):=rfl;have HDV:=aj.mk hdv;clear hr0 hx hdv;by_cases hev:L % 2=0
 . rw [<- hL];rw [if_pos hev];have hrm:Int.tmod (L:Int) 2=0:=(by show ((L % 2:Nat):Int)=0;rw [hev];rfl);have HL:=aj.mk hL;clear hL hev happ;go_enter Tryz.func97,Tryz.ntmps97;go_wp2_with (go_at_call 113;refine (iU.calls N true _ hs1).mono ?_;rintro e w' ⟨rfl,⟨nd,rfl⟩⟩);go_ret2;refine ⟨aI (Below.refl _ _) _,?_⟩;rw [if_neg (by decide)];rfl
 . rw [<- hL,if_neg hev];have hrm:Int.tmod (L:Int) 2=1:=(by show ((L % 2:Nat):Int)=1;rw [show L % 2=1 by omega];rfl);have HLL:=aj.mk hL;by_cases hc:jm l=0
   . rw [if_pos hc] at happ;rw [hc];obtain ⟨tp,htp⟩:∃ v,v=iM l:=⟨_,rfl⟩;have hL9:L<=1048576:=(by rw [hL];exact (aaF HX.out hc).1);rw [<- htp] at happ ⊢;have agK:=aj.mk (show ∀ w',Below w.heap.size w w'->Calls Tryz.prog 115 #[.slice A0 L c0] w' (fun e w''=>∃ v0_:Value,e = .returned (.tuple #[v0_,.int .i64 0])/\Kd.R (Kd.int .i64) 2 w'' w'.heap.size (fun _=>True) v0_ tp/\Below w'.heap.size w' w'') by intro w' hb;rw [hL];exact aG.calls K A0 c0 l tp 0 w' (Kd.bQ HR0.out hb) hc0 happ);have HTP:=aj.mk htp;clear htp hev happ hc hL;go_enter Tryz.func97,Tryz.ntmps97;go_upto_region 9 with (first|(go_at_call 113;refine (iU.calls N true _ hs1).mono ?_;rintro e w' ⟨rfl,⟨nd,rfl⟩⟩)|(go_at_call 115;refine (agK.out _ (aI (Below.refl _ _) _)).mono ?_;rintro e w2 ⟨v2,rfl,hr2,hb2⟩;obtain ⟨A2,c2,rfl⟩:=Kd.gq hr2;have HR2:=aj.mk (Kd.fQ hr2 (show w.heap.size<=_ from Nat.le_refl _));have HB2:=aj.mk (ak (aI (Below.refl _ _) _) hb2);clear hr2 hb2));go_wp2;go_loopg [8,26] N (fun kx s8 s26 wr=>∃ (i:Nat),s26 = .int .i64 i/\i<=N/\N - i<=kx/\aj (Kd.R aaA 138 wr w.heap.size (fun _=>True) s8 ((iK N ((L / 2:Nat):Int) tp i).lines.map toR))/\aj (Below w.heap.size w wr)/\aj (Kd.R (Kd.int .i64) 2 wr w.heap.size (fun _=>True) (.slice A2 tp.length c2) tp))
     case atStart=>exact ⟨0,rfl,by omega,by omega,⟨Kd.jY _ _ _ _ _⟩,HB2,HR2⟩
     case round =>
       obtain ⟨i,rfl,i1,i2,HO,HB,HR⟩:=hrel;have wi:IntKind.i64.wrap ((i:Int)+1)=(i:Int)+1:=(by rw [jS];exact aC (by omega) (by omega));have wd:IntKind.i64.wrap ((i:Int) - ((L / 2:Nat):Int))=(i:Int) - ((L / 2:Nat):Int):=(by rw [jS];exact aC (by omega) (by omega));by_cases hlt:(i:Int) < (N:Int)
       . have hq:=HDV.out;obtain ⟨A8,c8,hs8⟩:=Kd.gq HO.out;subst hs8;have hlen:((iK N ((L / 2:Nat):Int) tp i).lines.map toR).length=i:=(by rw [List.length_map,rC]);have HLN:=aj.mk hlen;obtain ⟨xs,hxs⟩:∃ xs,xs=(iK N ((L / 2:Nat):Int) tp i).lines.map toR:=⟨_,rfl⟩;rw [<- hxs] at HO HLN ⊢;have HXS:=aj.mk hxs;clear hxs hlen;go_wp2_with (at_builtin;refine Kd.kW aaA (w0:=w) w.heap.size rfl (.tmp 29) (.tmp 37) 39 138 (.agg #[(.int .i64 0),(.slice none 0 0)]) 32 rfl Tryz.underlying39 ayg rfl (by decide) (by omega) (.slice A8 xs.length c8) xs (⟨(i:Int) - ((L / 2:Nat):Int),tp⟩:lY) [.int .i64 ((i:Int) - ((L / 2:Nat):Int)),.slice A2 tp.length c2] (fun _=>True) (fun k=>some k≠(Value.slice A8 xs.length c8).ownBlock) rfl rfl ?aP (fun k hk=>⟨trivial,hk⟩) (fun _ _=>trivial) HO.out HB.out HB.out.size ?aL ?_;(case aP=>exact akX _ _ _ (⟨(i:Int) - ((L / 2:Nat):Int),tp⟩:lY) (Kd.dU (Kd.akS HR.out HO.out (by decide)) (fun k hk=>hk.2)));(case aL=>rw [HLN.out];omega);intro v1 w1 ho hb1 hg hat;have HO1:=aj.mk ho;have HB1:=aj.mk hb1;have HR1:=aj.mk (Kd.apl HR.out HO.out (by decide) hg);clear ho hb1 hg hat);go_roundg (N - (i+1))
         case measure=>omega
         case rel =>
           refine ⟨i+1,by simp,by omega,Nat.le_refl _,⟨?_⟩,HB1,HR1⟩;have e:(iK N ((L / 2:Nat):Int) tp (i+1)).lines.map toR=xs ++ [(⟨(i:Int) - ((L / 2:Nat):Int),tp⟩:lY)]:=by
             rw [HXS.out];show ((iK N ((L / 2:Nat):Int) tp i).lines ++ [_]).map toR=_
             rw [List.map_append];rfl
           rw [e];exact HO1.out
       . have him:i=N:=(by omega);subst him;go_wp2;go_ret2;refine ⟨HB.out,?_⟩;rw [if_pos rfl];exact ⟨_,rfl,HO.out⟩
   . rw [if_neg hc] at happ;obtain ⟨cv,hcv⟩:∃ v,v=jm l:=⟨_,rfl⟩;rw [<- hcv] at happ hc ⊢;have bk:(cv == 0)=false:=(by simpa using hc);have bk2:(cv != 0)=true:=(by simpa using hc);have agK:=aj.mk (show ∀ w',Below w.heap.size w w'->Calls Tryz.prog 115 #[.slice A0 L c0] w' (fun e w''=>∃ v0_:Value,e = .returned (.tuple #[v0_,.int .i64 cv])/\Kd.R (Kd.int .i64) 2 w'' w'.heap.size (fun _=>True) v0_ []/\Below w'.heap.size w' w'') by intro w' hb;rw [hL];exact aG.calls K A0 c0 l [] cv w' (Kd.bQ HR0.out hb) hc0 happ);clear hcv hev happ hL;go_enter Tryz.func97,Tryz.ntmps97;go_wp2_with (first|(go_at_call 113;refine (iU.calls N true _ hs1).mono ?_;rintro e w' ⟨rfl,⟨nd,rfl⟩⟩)|(go_at_call 115;refine (agK.out _ (aI (Below.refl _ _) _)).mono ?_;rintro e w2 ⟨v2,rfl,hr2,hb2⟩;have HB2:=aj.mk (ak (aI (Below.refl _ _) _) hb2);clear hr2 hb2));go_ret2;refine ⟨HB2.out,?_⟩;rw [if_neg hc];rfl
theorem al0 {l:List Int} {N:Nat} (h1:1<=N) (h2:N<=65536) (hx:∀ x ∈ l,I64 x) (hc:iO l N=0):Told (iK N ((l.length / 2:Nat):Int) (iM l) N):=by
 have hfc:iO l N=if l.length % 2=0 then 7 else jm l:=by unfold iO;rw [if_pos ⟨by omega,by omega⟩]
 rw [hfc] at hc;have hk:jm l=0:=by
   by_cases c:l.length % 2=0
   . rw [if_pos c] at hc;exact absurd hc (by decide)
   . rw [if_neg c] at hc;exact hc
 have hms:∀ i,(iK N ((l.length / 2:Nat):Int) (iM l) i).most=ad9 (iK N ((l.length / 2:Nat):Int) (iM l) i).lines/\(iK N ((l.length / 2:Nat):Int) (iM l) i).size=aea (iK N ((l.length / 2:Nat):Int) (iM l) i).lines:=by
   intro i;induction i with
   | zero=>exact ⟨rfl,rfl⟩
   | succ i ih =>
     refine ⟨?_,?_⟩
     . show mx (iK N ((l.length / 2:Nat):Int) (iM l) i).most _=ad9 ((iK N ((l.length / 2:Nat):Int) (iM l) i).lines ++ [_])
       rw [ih.1];unfold ad9;rw [List.foldl_append];rfl
     . show mx (iK N ((l.length / 2:Nat):Int) (iM l) i).size _=aea ((iK N ((l.length / 2:Nat):Int) (iM l) i).lines ++ [_])
       rw [ih.2];unfold aea;rw [List.foldl_append];rfl
 refine ⟨(hms N).1,(hms N).2,by rw [rC];omega,fun o ho => ?_⟩;rw [rC] at ho;rw [aeO _ _ _ N o ho];have hl:=aaF hx hk;have hg:=wH (fun i=>tu hx _) hk;refine ⟨⟨?_,?_,?_,?_⟩,adR hx hk⟩
 . show 1<=(iM l).length
   rw [vH];exact hg.n0
 . show (iM l).length<=2097152
   rw [vH];have:=hl.1;omega
 . show -1099511627776<=(o:Int) - ((l.length / 2:Nat):Int)
   have:=hl.1;omega
 . show (o:Int) - ((l.length / 2:Nat):Int)<=1099511627776
   have:=hl.1;omega
theorem aje {s:Int} (r:Nat) (hr:r<=200):∀ (d k i:Nat),i+d=2*r+1->d+70100 < k ->
    bg.l1 k s (r:Int) ((List.range i).map fun (t:Nat)=>gV s ((t:Int) - (r:Int))) ((i:Int) - (r:Int))=some ((List.range (2*r+1)).map fun (t:Nat)=>gV s ((t:Int) - (r:Int)),0):=by
  intro d;induction d with
  | zero =>
    intro k i h1 h2;obtain ⟨k,rfl⟩:∃ m,k=m+1:=⟨k - 1,by omega⟩;rw [bg.l1,if_neg (by omega),show i=2*r+1 from by omega]
  | succ d ih =>
    intro k i h1 h2;obtain ⟨k,rfl⟩:∃ m,k=m+1:=⟨k - 1,by omega⟩;rw [bg.l1,if_pos (by omega),ajb (by omega)];simp only [Option.bind_some];rw [if_pos (by simp;omega),aC (by omega) (by omega)];have:=ih k (i+1) (by omega) (by omega);rw [List.range_succ,List.map_append,show ((i+1:Nat):Int) - (r:Int)=(i:Int) - (r:Int)+1 from by omega] at this;exact this
theorem ajf {s:Int} (hs:1<=s/\s<=4194304) (r:Nat) (hr:(r:Int)=(3*s+65535) / 65536):∀ (d k i:Nat),i+d=r->d+71000 < k ->
    bg.l0 k s (i:Int)=some ((List.range (2*r+1)).map fun (t:Nat)=>gV s ((t:Int) - (r:Int)),0):=by
  intro d;induction d with
  | zero =>
    intro k i h1 h2;obtain ⟨k,rfl⟩:∃ m,k=m+1:=⟨k - 1,by omega⟩;rw [bg.l0,aC (by omega) (by omega),aC (by omega) (by omega),if_neg (by omega),aC (by omega) (by omega)];have:=aje (s:=s) r (by omega) (2*r+1) k 0 (by omega) (by omega);rw [show ((0:Nat):Int) - (r:Int) = -(i:Int) from by omega] at this;rw [show (i:Int)=(r:Int) from by omega] at this ⊢;exact this
  | succ d ih =>
    intro k i h1 h2;obtain ⟨k,rfl⟩:∃ m,k=m+1:=⟨k - 1,by omega⟩;rw [bg.l0,aC (by omega) (by omega),aC (by omega) (by omega),if_pos (by omega),aC (by omega) (by omega)];exact ih k (i+1) (by omega) (by omega)
theorem ajg {k:Nat} (hk:72000<=k) {s:Int} (hs:I64 s):bg.f k s=some (yC s):=by
 obtain ⟨k,rfl⟩:∃ m,k=m+1:=⟨k - 1,by omega⟩;unfold bg.f yC;by_cases h1:s < 1
 . rw [if_pos h1,bg.j0,if_pos rfl,if_pos (Or.inl h1)]
 rw [if_neg h1,bg.j0];by_cases h2:s > 4194304
 . rw [if_pos (by simpa using h2),if_pos (Or.inr h2)]
 rw [if_neg (by simpa using h2),if_neg (by omega)];obtain ⟨r,hr⟩:∃ r:Nat,(r:Int)=(3*s+65535) / 65536:=⟨((3*s+65535) / 65536).toNat,by omega⟩;have:=ajf (s:=s) (by omega) r hr r k 0 (by omega) (by omega);unfold ahA;rw [<- hr,show ((r:Int)).toNat=r from by omega];exact this
theorem ake (n:Nat) (hn:n<=1023):∀ (d k i:Nat),i+d=n->d+1300 < k->dQ.l0 k (List.replicate i 1) (n:Int) (i:Int)=some (oM (List.replicate n 1)):=by
 intro d;induction d with
 | zero =>
   intro k i h1 h2;obtain ⟨k,rfl⟩:∃ m,k=m+1:=⟨k - 1,by omega⟩;rw [dQ.l0,if_neg (by omega),abC (by simp;omega) (by simp;omega) (alf _),show i=n from by omega];rfl
 | succ d ih =>
   intro k i h1 h2;obtain ⟨k,rfl⟩:∃ m,k=m+1:=⟨k - 1,by omega⟩;rw [dQ.l0,if_pos (by omega),if_pos (by simp;omega),aC (by omega) (by omega)];have:=ih k (i+1) (by omega) (by omega);rw [List.replicate_succ'] at this;exact this
theorem akf {k:Nat} (hk:3000<=k) {r:Int} (hr:I64 r):dQ.f k r=some (aag r):=by
 obtain ⟨k,rfl⟩:∃ m,k=m+1:=⟨k - 1,by omega⟩;unfold dQ.f aag;by_cases h1:r < 0
 . rw [if_pos h1,dQ.j0,if_pos rfl,if_pos (Or.inl h1)]
 rw [if_neg h1,dQ.j0];by_cases h2:r > 511
 . rw [if_pos (by simpa using h2),if_pos (Or.inr h2)]
 rw [if_neg (by simpa using h2),if_neg (by omega),aC (show -9223372036854775808<=2*r from by omega) (by omega),aC (show -9223372036854775808<=2*r+1 from by omega) (by omega)];have:=ake (2*r+1).toNat (by omega) (2*r+1).toNat k 0 (by omega) (by omega);rw [show (((2*r+1).toNat:Nat):Int)=2*r+1 from by omega] at this;exact this
theorem cells3 {w:World} {g t:Nat} {v0 v1 v2:Value} (h:w.heap[g]? = some (.cells #[v0,v1,v2] t (0,0))):w.cell? ⟨g,0,none⟩=some v0/\w.cell? ⟨g,1,none⟩=some v1/\w.cell? ⟨g,2,none⟩=some v2:=⟨(au h 0).trans rfl,(au h 1).trans rfl,(au h 2).trans rfl⟩
theorem cells5 {w:World} {g t:Nat} {v0 v1 v2 v3 v4:Value} (h:w.heap[g]? = some (.cells #[v0,v1,v2,v3,v4] t (0,0))):w.cell? ⟨g,0,none⟩=some v0/\w.cell? ⟨g,1,none⟩=some v1/\w.cell? ⟨g,2,none⟩=some v2/\w.cell? ⟨g,3,none⟩=some v3/\w.cell? ⟨g,4,none⟩=some v4:=⟨(au h 0).trans rfl,(au h 1).trans rfl,(au h 2).trans rfl,(au h 3).trans rfl,(au h 4).trans rfl⟩
theorem cells9 {w:World} {g t:Nat} {v0 v1 v2 v3 v4 v5 v6 v7 v8:Value} (h:w.heap[g]? = some (.cells #[v0,v1,v2,v3,v4,v5,v6,v7,v8] t (0,0))):w.cell? ⟨g,0,none⟩=some v0/\w.cell? ⟨g,1,none⟩=some v1/\w.cell? ⟨g,2,none⟩=some v2/\w.cell? ⟨g,3,none⟩=some v3/\w.cell? ⟨g,4,none⟩=some v4/\w.cell? ⟨g,5,none⟩=some v5/\w.cell? ⟨g,6,none⟩=some v6/\w.cell? ⟨g,7,none⟩=some v7/\w.cell? ⟨g,8,none⟩=some v8:=⟨(au h 0).trans rfl,(au h 1).trans rfl,(au h 2).trans rfl,(au h 3).trans rfl,(au h 4).trans rfl,(au h 5).trans rfl,(au h 6).trans rfl,(au h 7).trans rfl,(au h 8).trans rfl⟩
def yR (m:Img) (s:Stg):Img:=⟨s.x.lines.length,s.y.lines.length,m.c,m.most,ada m s.bd s.x s.y m.c.toNat⟩
def lI (m:Img) (ss:List Stg):Nat->Img
  | 0=>m
  | i+1=>yR (lI m ss i) (qY ss (i:Int))
structure al2 (m:Img) (s:Stg):Prop where
 e1:s.x.n=m.w
 e2:s.y.n=m.h
 b:0<=s.bd/\s.bd < 3
 X:abb s.x
 Y:abb s.y
 n:(s.x.lines.length:Int)*s.y.lines.length*m.c.toNat<=268435456
theorem avP {m:Img} (B:pq m) {s:Stg} (h:al2 m s):pq (yR m s):=by
 have hc:(m.c.toNat:Int)=m.c:=by rcases B.c1 with h|h <;> rw [h] <;> rfl
 refine ⟨by have:=h.X.n1;show (1:Int)<=(s.x.lines.length:Int);omega,by have:=h.X.n2;show (s.x.lines.length:Int)<=65536;omega,by have:=h.Y.n1;show (1:Int)<=(s.y.lines.length:Int);omega,by have:=h.Y.n2;show (s.y.lines.length:Int)<=65536;omega,B.c1,B.m1,B.m2,?_,?_⟩
 . show ((ada m s.bd s.x s.y m.c.toNat).length:Int)=(s.x.lines.length:Int)*s.y.lines.length*m.c
   unfold ada;rw [List.length_map,List.length_range,<- hc];simp
 . show (s.x.lines.length:Int)*s.y.lines.length*m.c<=268435456
   rw [<- hc];exact h.n
theorem aoL (b:Nat) (m:Img) (A:Option Addr) (n c:Nat) (ss:List Stg) (w:World) (hG:GL w) (hI:qJ w b m) (hl:m.l.length<=268435456) (hs:Kd.C acg w A n ss) (hn:n<=1000) (hm:∀ i:Nat,i < n->pq (lI m ss i)/\al2 (lI m ss i) (qY ss (i:Int))) :
   Calls Tryz.prog 42 #[.pointer (some ⟨b,0,none⟩),.slice A n c] w fun e w'=>Below w.heap.size w w'/\∃ g,e = .returned (.tuple #[.pointer (some ⟨g,0,none⟩),.int .i64 0])/\qm w' w.heap.size g (lI m ss n):=by
 have CP:=aj.mk (akg b m w hI hl);have HS:=aj.mk hs;have HM:=aj.mk hm;have HG:=aj.mk hG;have mixed:Tryz.prog.follows .mixedOrders=true:=(by kernel_rfl);clear hG hI hl hs hm;go_enter Tryz.func42,Tryz.ntmps42;go_upto_region 2 with (go_at_call 81;(with_reducible refine CP.out.mono ?_);rintro e w1 ⟨g,rfl,hg1,hb1⟩;have B1:=aj.mk hb1;have G1:=aj.mk hg1;clear hb1 hg1);go_wp2;go_loopg [6,15] n (fun kx s6 s15 wr=>∃ (i g:Nat),s15 = .int .i64 i/\s6 = .pointer (some ⟨g,0,none⟩)/\i<=n/\n - i<=kx/\aj (qm wr w.heap.size g (lI m ss i))/\aj (Below w.heap.size w wr))
 case atStart=>exact ⟨0,g,rfl,rfl,by omega,by omega,G1,B1⟩
 case round =>
   obtain ⟨i,g,rfl,rfl,i1,i2,HI,HB⟩:=hrel;have wi:IntKind.i64.wrap ((i:Int)+1)=(i:Int)+1:=(by rw [jS];exact aC (by omega) (by omega));by_cases hlt:(i:Int) < (n:Int);rotate_left
   . have him:i=n:=(by omega);subst him;go_wp2;go_ret2;exact ⟨HB.out,g,rfl,HI.out⟩
   have p1:(0<=(i:Int)):=(by omega);have q0:i < n:=(by omega);have qd:decide (i < n)=true:=decide_eq_true q0;obtain ⟨hB,hO⟩:=HM.out i q0;obtain ⟨ad,bx,bz,e0,y0,y1,y2,tx,ty⟩:=au5 (Kd.bQ HS.out HB.out) (i:Int) p1 hlt;subst e0;rw [Int.toNat_natCast] at y0 y1 y2;have hst:lI m ss (i+1)=yR (lI m ss i) (qY ss (i:Int)):=rfl;obtain ⟨mi,hmi⟩:∃ x,x=lI m ss i:=⟨_,rfl⟩;obtain ⟨st,avQ⟩:∃ x,x=qY ss (i:Int):=⟨_,rfl⟩;rw [<- hmi] at HI hB hO hst;rw [<- avQ] at y2 tx ty hO hst;have HST:=aj.mk hst;have AP:=aj.mk (fun w' (hb:Below wr.heap.size wr w')=>alm g bx bz mi st.x st.y st.bd mi.c.toNat w' (HG.out.below (ak HB.out hb)) ((HI.out.below hb).reads) (tx.below hb) (ty.below hb) hO.e1 hO.e2 hO.b hB (by rcases hB.c1 with h|h <;> rw [h] <;> rfl) hO.X hO.Y hO.n);unfold stV at AP;obtain ⟨bd,hbd⟩:∃ x,x=st.bd:=⟨_,rfl⟩;rw [<- hbd] at y2;have HBD:=aj.mk hbd;clear hst hmi avQ hB hO tx ty hbd;go_upto_region 5 with fail;have hr:=heap_alloc_new wr (.cells #[.pointer (some ⟨bx,0,none⟩),.pointer (some ⟨bz,0,none⟩),.int .i64 bd] 38);have BA:=aj.mk (aT (Below.refl wr.heap.size wr) (.cells #[.pointer (some ⟨bx,0,none⟩),.pointer (some ⟨bz,0,none⟩),.int .i64 bd] 38));obtain ⟨gs,hgs⟩:∃ g,g=wr.heap.size:=⟨_,rfl⟩;rw [<- hgs] at hr ⊢;clear hgs y0 y1 y2;generalize wr.alloc (.cells #[.pointer (some ⟨bx,0,none⟩),.pointer (some ⟨bz,0,none⟩),.int .i64 bd] 38)=w2 at hr BA ⊢;obtain ⟨z0,z1,z2⟩:=cells3 hr;have AP2:=aj.mk (AP.out w2 BA.out);rw [<- HBD.out] at AP2;clear hr;go_wp2_with (go_at_call 36;(with_reducible refine AP2.out.mono ?_);rintro e w3 ⟨g2,rfl,hg3,hb3⟩;have B3:=aj.mk (ak HB.out (ak BA.out hb3));have G3:=aj.mk hg3;have L3:=aj.mk (Nat.le_trans HB.out.size BA.out.size);clear hb3 hg3);go_roundg (n - (i+1))
   case measure=>omega
   case rel=>exact ⟨i+1,g2,by simp,rfl,by omega,Nat.le_refl _,⟨by rw [HST.out];unfold yR;rw [<- HBD.out];exact G3.out.lower L3.out⟩,B3⟩
theorem aap (x:Int):wrap64 x % 18446744073709551616=x % 18446744073709551616:=by unfold wrap64;omega
theorem ajh {x y:Int} (h:x % 18446744073709551616=y % 18446744073709551616):wrap64 x=wrap64 y:=by unfold wrap64;omega
theorem anm {x x' y y':Int} (h:wrap64 x=wrap64 x') (g:wrap64 y=wrap64 y'):wrap64 (x+y)=wrap64 (x'+y'):=by
 have:=aap x;have:=aap x';have:=aap y;have:=aap y';rw [h] at *;rw [g] at *
 apply ajh;omega
theorem akH (x:Int):wrap64 (wrap64 x)=wrap64 x:=ajh (aap x)
theorem aum {x x' y y':Int} (h:wrap64 x=wrap64 x') (g:wrap64 y=wrap64 y'):wrap64 (x*y)=wrap64 (x'*y'):=by
 have h1:x % 18446744073709551616=x' % 18446744073709551616:=(by rw [<- aap x,h,aap]);have g1:y % 18446744073709551616=y' % 18446744073709551616:=(by rw [<- aap y,g,aap]);apply ajh;rw [Int.mul_emod x y,h1,g1,<- Int.mul_emod]
theorem aaR {f g:Nat->Int}:∀ n,(∀ i,i < n->f i=g i)->dh f n=dh g n
  | 0,_=>rfl
  | n+1,h=>by rw [dh,dh,aaR n (fun i hi=>h i (by omega)),h n (by omega)]
theorem apV (f g:Nat->Int):∀ n,dh (fun i=>f i+g i) n=dh f n+dh g n
  | 0=>rfl
  | n+1=>by rw [dh,dh,dh,apV f g n];omega
theorem aia (c:Int) (f:Nat->Int):∀ n,dh (fun i=>c*f i) n=c*dh f n
  | 0=>by simp [dh]
  | n+1=>by rw [dh,dh,aia c f n,Int.mul_add]
theorem ano:∀ n,dh (fun _=>0) n=0
  | 0=>rfl
  | n+1=>by rw [dh,ano n];rfl
theorem anp (f:Nat->Nat->Int) (m:Nat):∀ n,dh (fun i=>dh (fun k=>f i k) m) n=dh (fun k=>dh (fun i=>f i k) n) m
  | 0=>(ano m).symm
  | n+1=>by rw [dh,anp f m n,<- apV];rfl
def afG (m:Img) (bd fx fy c:Int) (k i:Nat):Int:=atV m (bat bd (fx+i) m.w) (bat bd (fy+k) m.h) c
theorem al3 (m:Img) (bd fx row b c:Int) (ts:List Int) (a0:Int):∀ n,wrap64 (aeQ m bd fx row b c ts a0 n)=wrap64 (a0+dh (fun i=>rd ts (i:Int)*b*atV m (bat bd (fx+i) m.w) row c) n)
  | 0=>by rw [aeQ,dh,Int.add_zero]
  | n+1=>by
    rw [aeQ,akH,dh,<- Int.add_assoc];exact anm (al3 m bd fx row b c ts a0 n) ((akH _).trans (aum (akH _) (akH _)))
theorem al4 (m:Img) (bd fx fy c:Int) (tX tY:List Int):∀ n,wrap64 (aeR m bd fx fy c tX tY n)=wrap64 (dh (fun k=>dh (fun i=>rd tX (i:Int)*rd tY (k:Int)*afG m bd fx fy c k i) tX.length) n)
  | 0=>by rw [aeR,dh]
  | n+1=>by
    rw [aeR,al3,dh];exact anm (al4 m bd fx fy c tX tY n) rfl
def al5 (m:Img) (bd c:Int) (X Y:S71):Int:=dh (fun k=>dh (fun i=>rd X.f1 (i:Int)*rd Y.f1 (k:Int)*afG m bd X.f0 Y.f0 c k i) X.f1.length) Y.f1.length
theorem avR (m:Img) (bd c:Int) (X Y:S71):wrap64 (adW m bd c X Y)=wrap64 (al5 m bd c X Y):=al4 _ _ _ _ _ _ _ _
theorem avS (m:Img) (bd c:Int) (X Y:S71):al5 m bd c X Y=dh (fun i=>rd X.f1 (i:Int)*dh (fun k=>rd Y.f1 (k:Int)*afG m bd X.f0 Y.f0 c k i) Y.f1.length) X.f1.length:=by
 unfold al5;rw [anp (fun k i=>rd X.f1 (i:Int)*rd Y.f1 (k:Int)*afG m bd X.f0 Y.f0 c k i) X.f1.length Y.f1.length];exact aaR _ (fun i _=>by rw [<- aia];exact aaR _ (fun k _=>Int.mul_assoc _ _ _))
theorem arO {m:Img} {bd c v:Int} {X Y:S71} (h:∀ k i:Nat,afG m bd X.f0 Y.f0 c k i=v):al5 m bd c X Y=v*(dh (fun i=>rd X.f1 (i:Int)) X.f1.length*dh (fun k=>rd Y.f1 (k:Int)) Y.f1.length):=by
 rw [avS];have e1:dh (fun k=>rd Y.f1 (k:Int)*v) Y.f1.length=v*dh (fun k=>rd Y.f1 (k:Int)) Y.f1.length:=by
   rw [<- aia];exact aaR _ (fun k _=>Int.mul_comm _ _)
 have e2:dh (fun i=>rd X.f1 (i:Int)*dh (fun k=>rd Y.f1 (k:Int)*afG m bd X.f0 Y.f0 c k i) Y.f1.length) X.f1.length=dh (fun i=>(v*dh (fun k=>rd Y.f1 (k:Int)) Y.f1.length)*rd X.f1 (i:Int)) X.f1.length:=aaR _ (fun i _=>by
   rw [aaR (g:=fun k=>rd Y.f1 (k:Int)*v) _ (fun k _=>by rw [h k i]),e1,Int.mul_comm])
 rw [e2,aia,Int.mul_assoc,Int.mul_comm (dh (fun k=>rd Y.f1 (k:Int)) Y.f1.length)]
theorem azk (s:Int) (h0:0<=s) (h1:s<=65535):sh (268435456*s) 28=s:=by
 unfold sh;rw [if_neg (by decide),show (2:Int) ^ (28:Int).toNat=268435456 by decide];unfold jA;rw [if_pos (by decide)];omega
def aeb (X:S71):Prop:=dh (fun i=>rd X.f1 (i:Int)) X.f1.length=16384
theorem arP {m:Img} (B:pq m) {one:Int} (hv:∀ j:Nat,j < m.l.length->rd m.l (j:Int)=one) {bd fx fy c:Int} (hc:0<=c/\c < m.c) (k i:Nat):afG m bd fx fy c k i=one:=by
 have x := @apF bd (fx+i) m.w B.w1 B.w2;have y := @apF bd (fy+k) m.h B.h1 B.h2;unfold afG atV;have hi:inI m (bat bd (fx+i) m.w) (bat bd (fy+k) m.h) c:=⟨x.1,x.2,y.1,y.2,hc.1,hc.2⟩;have b:=acz B hi;rw [if_pos hi];have h:=hv (plV m (bat bd (fx+i) m.w) (bat bd (fy+k) m.h) c).toNat (by have:=b.2.2.2.2;omega);rwa [Int.toNat_of_nonneg b.2.2.2.2.1] at h
theorem arQ {m:Img} (B:pq m) {one:Int} (ho:0<=one/\one<=m.most) (hv:∀ j:Nat,j < m.l.length->rd m.l (j:Int)=one) {bd c:Int} (hc:0<=c/\c < m.c) {X Y:S71} (sx:aeb X) (sy:aeb Y):aaj (adW m bd c X Y) m.most=one:=by
 have h1:al5 m bd c X Y=268435456*one:=by
   rw [arO (fun k i=>arP B hv hc k i),sx,sy,show (16384:Int)*16384=268435456 by decide,Int.mul_comm]
 have m2:=B.m2;have h2:adW m bd c X Y=268435456*one:=by
   have h:=avR m bd c X Y;have i1:=apJ m bd c X Y;rw [h1,aC (x:=268435456*one) (by omega) (by omega)] at h;rw [<- h];exact (aC i1.1 i1.2).symm
 unfold aaj;rw [h2,azk one ho.1 (by omega)];unfold mx mn;omega
theorem arR {m:Img} (B:pq m) {one:Int} (ho:0<=one/\one<=m.most) (hv:∀ j:Nat,j < m.l.length->rd m.l (j:Int)=one) {s:Stg} (hX:∀ j:Nat,j < s.x.lines.length->aeb (fV s.x.lines (j:Int))) (hY:∀ j:Nat,j < s.y.lines.length->aeb (fV s.y.lines (j:Int))):∀ j:Nat,j < (yR m s).l.length->rd (yR m s).l (j:Int)=one:=by
 intro j hj;have hc:m.c=(m.c.toNat:Int):=by rcases B.c1 with h|h <;> rw [h] <;> rfl
 have cp:0 < m.c.toNat:=by rcases B.c1 with h|h <;> rw [h] <;> decide
 have hj2:j < s.x.lines.length*s.y.lines.length*m.c.toNat:=by
   have:(yR m s).l.length=s.x.lines.length*s.y.lines.length*m.c.toNat:=(by show (List.map _ (List.range _)).length=_;rw [List.length_map,List.length_range]);omega
 have e:rd (yR m s).l (j:Int)=aiO m s.bd s.x s.y m.c.toNat j:=by
   show rd (ada m s.bd s.x s.y m.c.toNat) (j:Int)=_
   unfold ada rd;rw [Int.toNat_natCast,List.getD_eq_getElem?_getD,List.getElem?_map,List.getElem?_range hj2];rfl
 rw [e];unfold aiO aiN;have a1:j / m.c.toNat < s.x.lines.length*s.y.lines.length:=Nat.div_lt_of_lt_mul (by rw [Nat.mul_comm];exact hj2);have a2:j / m.c.toNat / s.x.lines.length < s.y.lines.length:=Nat.div_lt_of_lt_mul a1;have xp:0 < s.x.lines.length:=Nat.pos_of_ne_zero (fun h=>by rw [h,Nat.zero_mul] at a1;exact absurd a1 (Nat.not_lt_zero _));exact arQ B ho hv ⟨Int.natCast_nonneg _,by rw [hc];exact Int.ofNat_lt.2 (Nat.mod_lt _ cp)⟩ (hX _ (Nat.mod_lt _ xp)) (hY _ a2)
end Go.Proofs.YtpondkggmcmpfaaGreatDoor.QA
