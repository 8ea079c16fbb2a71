/- Joined by wip/tools/bundle.py out of: H06e H06r QAx13 QAx17 QAx18. -/
import Derived.Test.YtpondkggmcmpfaaGreatDoorBPlanCovers1
import Derived.Test.YtpondkggmcmpfaaGreatDoorBPlanCovers0
import Derived.Test.YtpondkggmcmpfaaGreatDoorBPlanCovers6
import Derived.Test.YtpondkggmcmpfaaGreatDoorBPlanCovers2
import Derived.Test.YtpondkggmcmpfaaGreatDoorBPlanCovers7
namespace Go.Proofs.YtpondkggmcmpfaaGreatDoor.QA
open Go.RowKit Go.Proofs.YtpondkggmcmpfaaGreatDoorW.PrintWords Go.Proofs.YtpondkggmcmpfaaGreatDoorW.PrintLast Go.Proofs.YtpondkggmcmpfaaGreatDoorW.PrintMore Go.Proofs.YtpondkggmcmpfaaGreatDoor.T
open Go.Shelf Go.Lib Go.Sort
set_option linter.unusedVariables false
set_option linter.unusedSimpArgs false
theorem xO {a:Int} (ha:I64 a):fO.f a=some (siz a):=by
  unfold fO.f siz
  simp only [mJ]
  split
  · congr 1;omega
  · congr 1;omega
theorem xP {k:Nat} (hk:1≤k) {m:Int} (h0:0≤m) (h1:m < 18446744073709551616) (b:Bool):dK.f k m b=some (hold (sgn b m)):=by
  obtain ⟨k,rfl⟩:∃ n,k=n+1:=⟨k - 1,by omega⟩
  unfold dK.f dK.j0 sgn hold
  cases b
  · simp only [Bool.false_eq_true,if_false]
    rw [if_neg (show ¬ m < -9223372036854775808 from by omega)]
    split
    · rfl
    · congr 1;unfold wrap64;omega
  · simp only [if_true]
    by_cases h:m≥9223372036854775808
    · rw [if_pos (decide_eq_true h)]
      split
      · rfl
      · rw [if_neg (by omega)];congr 1;omega
    · rw [if_neg (by simpa using h),if_neg (by omega),if_neg (by omega)]
      congr 1;unfold wrap64;omega
theorem acD {k:Nat} (hk:1≤k) {a b:Int} (ha:I64 a) (hb:I64 b):bZ.f k a b=some (hold (flo a b)):=by
  unfold bZ.f
  by_cases hb0:b=0
  · rw [if_pos hb0,hb0];simp [flo,hold]
  rw [if_neg hb0,xO ha,xO hb]
  simp only [Option.bind_some]
  have ua:=qc ha
  have ub:=qc hb
  have ub0:siz b≠0:=fun h=>hb0 (acN.1 h)
  simp only [if_neg ub0]
  have e:=ale (decide (a < 0)) b (siz a) hb0
  rw [ahn a,alf _ (by omega)] at e
  rw [← e]
  generalize (decide (a < 0) != decide (b < 0))=s
  rw [Int.tdiv_eq_ediv_of_nonneg ua.1,Int.tmod_eq_emod_of_nonneg ua.1]
  have q0:0≤siz a / siz b:=Int.ediv_nonneg ua.1 ub.1
  have q1:siz a / siz b≤siz a:=Int.ediv_le_self _ ua.1
  generalize siz a / siz b=q at *
  generalize siz a % siz b=r at *
  simp only [mJ]
  rw [show q % 18446744073709551616=q from by omega,show (q+1) % 18446744073709551616=q+1 from by omega]
  have hq:∀ b,dK.f k q b=some (hold (sgn b q)):=xP hk (by omega) (by omega)
  have hq1:∀ b,dK.f k (q+1) b=some (hold (sgn b (q+1))):=xP hk (by omega) (by omega)
  simp only [hq,hq1]
  cases s
  · simp only [Bool.false_eq_true,if_false,false_and,Option.bind_some]
  · by_cases hr:r=0 <;> simp [hr]
theorem akL {k:Nat} (hk:1≤k) {a b:Int} (_ha:I64 a) (hb:I64 b):kM.f k a b=some (md a b):=by
  obtain ⟨k,rfl⟩:∃ n,k=n+1:=⟨k - 1,by omega⟩
  unfold kM.f md
  simp only [kM.j0]
  by_cases hb0:b=0
  · rw [if_pos hb0,if_pos trivial,if_pos hb0]
  rw [if_neg hb0,if_neg hb0]
  by_cases hb1:b = -1
  · subst hb1;rw [if_pos (by decide),if_neg (by decide),Int.neg_neg,Int.emod_one];rfl
  rw [if_neg (show ¬ ((b == -1)=true) from by simpa using hb1)]
  by_cases hp:0 < b
  · rw [if_pos hp,ajv a hp]
    have r0:=Int.emod_nonneg a hb0
    have r1:=Int.emod_lt_of_pos a hp
    generalize a % b=r at *
    by_cases hc:0≤a∨r=0
    · rw [if_pos hc]
      have:((decide (r < 0)) != (decide (b < 0)))=false:=by
        rw [decide_eq_false (by omega),decide_eq_false (by omega)];rfl
      rw [this];simp [hb0]
    · rw [if_neg hc]
      have:((decide (r - b < 0)) != (decide (b < 0)))=true:=by
        rw [decide_eq_true (by omega),decide_eq_false (by omega)];rfl
      rw [this,if_neg (by omega),if_pos rfl]
      congr 1;unfold wrap64;omega
  · rw [if_neg hp]
    have hnb:0 < -b:=by omega
    have e:a.tmod b = -((-a).tmod (-b)):=by rw [Int.neg_tmod,Int.tmod_neg,Int.neg_neg]
    rw [e,ajv (-a) hnb]
    have r0:=Int.emod_nonneg (-a) (show -b≠0 from by omega)
    have r1:=Int.emod_lt_of_pos (-a) hnb
    generalize (-a) % (-b)=r at *
    by_cases hc:0 ≤ -a∨r=0
    · rw [if_pos hc]
      by_cases hz:r=0
      · rw [hz];simp
      have:((decide (-r < 0)) != (decide (b < 0)))=false:=by
        rw [decide_eq_true (by omega),decide_eq_true (by omega)];rfl
      rw [this];simp [hb0]
    · rw [if_neg hc]
      have:((decide (-(r - -b) < 0)) != (decide (b < 0)))=true:=by
        rw [decide_eq_false (by omega),decide_eq_true (by omega)];rfl
      rw [this,if_neg (by omega),if_pos rfl]
      congr 1;unfold wrap64;omega
theorem adN {k:Nat} (hk:1≤k) {a b:Int} (ha:I64 a) (hb:I64 b):kN.f k a b=some (hold (a+b)):=by
  obtain ⟨k,rfl⟩:∃ n,k=n+1:=⟨k - 1,by omega⟩
  unfold kN.f hold
  simp only [kN.j0]
  by_cases h:b > 0
  · rw [if_pos h]
    by_cases g:wrap64 (a+b) < a
    · rw [if_pos (decide_eq_true g)];unfold wrap64 at g
      rw [if_neg (by omega),if_pos (by omega)]
    · rw [if_neg (by simpa using g)];unfold wrap64 at g ⊢
      rw [if_neg (by omega),if_neg (by omega),if_neg (by omega)];congr 1;omega
  · rw [if_neg h,if_neg (show ¬ (false=true) from by decide)]
    unfold wrap64
    by_cases c:b < 0
    · rw [if_pos c]
      by_cases g:(a+b+9223372036854775808) % 18446744073709551616 - 9223372036854775808 > a
      · rw [if_pos g,if_pos (by omega)]
      · rw [if_neg g,if_neg (by omega),if_neg (by omega)];congr 1;omega
    · rw [if_neg c,if_neg (by omega),if_neg (by omega)];congr 1;omega
theorem adw {a b:Int} (ha:U64 a) (hb:U64 b):bits_Mul64.f a b=some (a*b / 18446744073709551616,a*b % 18446744073709551616):=by
  unfold bits_Mul64.f
  rw [if_pos ⟨ha.1,ha.2,hb.1,hb.2⟩]
theorem akM {k:Nat} (hk:1≤k) {a b:Int} (ha:I64 a) (hb:I64 b):vY.f k a b=some (hold (a*b)):=by
  unfold vY.f
  have ua:=qc ha
  have ub:=qc hb
  rw [xO ha,xO hb]
  simp only [Option.bind_some]
  rw [adw ⟨ua.1,by omega⟩ ⟨ub.1,by omega⟩]
  simp only [Option.bind_some]
  rw [← abk a b]
  generalize (decide (a < 0) != decide (b < 0))=s
  have p0:=Int.mul_nonneg ua.1 ub.1
  generalize siz a*siz b=p at *
  split
  · rw [xP hk (by omega) (by omega),show p % 18446744073709551616=p from by omega];rfl
  · rw [xP hk (by omega) (by omega)]
    show some (hold (sgn s 18446744073709551615))=_
    congr 1
    unfold sgn hold
    cases s
    · simp only [Bool.false_eq_true,if_false];rw [if_neg (by omega),if_pos (by omega),if_neg (by omega),if_pos (by omega)]
    · simp only [if_true];rw [if_pos (by omega),if_pos (by omega)]
def szV (x:Int):Int:=mx x (hold (x * -1))
theorem adM {k:Nat} (hk:1≤k) {x:Int} (hx:I64 x):ug.f k x=some (szV x):=by
  unfold ug.f szV
  rw [akM hk hx (by constructor <;> omega)];rfl
set_option maxHeartbeats 8000000 in
set_option maxRecDepth 100000 in
theorem aof (x:Int) (w:World) (hx:I64 x):Calls Tryz.prog 160 #[.int .i64 x] w fun e w'=>e = .returned (.bool (decide (szV x > 1099511627776)))∧Below w.heap.size w w':=by
  have hc:=fun w=>ug.calls 1 x (szV x) w (adM (k:=1) (by omega) hx)
  have eSZ:∀ args w,(callFunc 161 args).run Tryz.prog w = .ok (.enter 161 args) w:=enters_of Tryz.func161 (by kernel_rfl) rfl
  generalize szV x=v at hc ⊢
  clear hx
  go_enter Tryz.func160,Tryz.ntmps160
  go_wp2_with (go_at_fn 161;refine (hc _).mono ?_;rintro e w' ⟨rfl,hb⟩)
  go_ret
  exact ⟨rfl,hb⟩
theorem ako {l:List Int} {i:Nat} (h:i < l.length):rd l (i:Int) ∈ l:=by
  unfold rd
  rw [List.getD_eq_getElem?_getD,show ((i:Int)).toNat=i from by omega,List.getElem?_eq_getElem h]
  exact List.getElem_mem _
set_option maxHeartbeats 8000000 in
set_option maxRecDepth 100000 in
theorem ak8 (A0:Option Addr) (c0:Nat) (l0:List Int) (w:World) (hr0:Kd.C (Kd.int .i64) w A0 l0.length l0) (hc0:l0.length≤c0) (hlen:l0.length < 4611686018427387904) (hi:∀ i,I64 (rd l0 i)) :
    Calls Tryz.prog 180 #[.slice A0 l0.length c0,.func (.func 160) #[] #[]] w fun e w'=>(∃ i:Int,e = .returned (.int .i64 i)∧(i < 0↔∀ x ∈ l0,¬ szV x > 1099511627776))∧Below w.heap.size w w':=by
  have HR0:=aj.mk hr0
  have eCQ:∀ args w,(callFunc 160 args).run Tryz.prog w = .ok (.enter 160 args) w:=enters_of Tryz.func160 (by kernel_rfl) rfl
  clear hr0
  go_enter Tryz.func180,Tryz.ntmps180
  go_wp2
  go_loopg [8] l0.length (fun kx s8 w'=>∃ (i:Nat),s8 = .int .i64 i∧i≤l0.length∧l0.length - i≤kx∧aj (∀ j:Nat,j < i→¬ szV (rd l0 j) > 1099511627776)∧aj (Below w.heap.size w w'))
  case atStart=>exact ⟨0,rfl,by omega,by omega,⟨fun j h=>by omega⟩,⟨Below.refl _ _⟩⟩
  case round =>
    obtain ⟨i,rfl,h1,h2,HA,HB⟩:=hrel
    by_cases hlt:(i:Int) < (l0.length:Int)
    · have aqj:0≤(i:Int):=by omega
      obtain ⟨avD,aqk,ae2⟩:=Kd.jF (Kd.bY HR0.out HB.out) (i:Int) aqj hlt
      cases aqk
      rw [show ((i:Int)).toNat=i from by omega] at ae2
      have hc:=fun w=>aof (rd l0 (i:Int)) w (hi _)
      by_cases hv:szV (rd l0 (i:Int)) > 1099511627776
      · have hd:decide (szV (rd l0 (i:Int)) > 1099511627776)=true:=decide_eq_true hv
        rw [hd] at hc
        go_wp2_with (go_at_fn 160;refine (hc _).mono ?_;rintro e w' ⟨rfl,hb⟩)
        have HB2:aj (Below w.heap.size w w'):=⟨HB.out.trans (hb.mono HB.out.size)⟩
        go_ret
        have hmem:=ako (l:=l0) (i:=i) (by omega)
        exact ⟨⟨i,rfl,⟨fun q=>by omega,fun q=>absurd hv (by have:=q (rd l0 (i:Int)) hmem;omega)⟩⟩,HB2.out⟩
      · have hd:decide (szV (rd l0 (i:Int)) > 1099511627776)=false:=decide_eq_false hv
        rw [hd] at hc
        go_wp2_with (go_at_fn 160;refine (hc _).mono ?_;rintro e w' ⟨rfl,hb⟩)
        have HB2:aj (Below w.heap.size w w'):=⟨HB.out.trans (hb.mono HB.out.size)⟩
        go_roundg (l0.length - (i+1))
        case measure=>omega
        case rel =>
          refine ⟨i+1,by simp,by omega,Nat.le_refl _,⟨fun j h => ?_⟩,HB2⟩
          by_cases c:j=i
          · subst c;omega
          · exact HA.out j (by omega)
    · go_wp2
      go_ret
      refine ⟨⟨-1,rfl,⟨fun _ x hx => ?_,fun _=>by omega⟩⟩,HB.out⟩
      obtain ⟨j,hj,rfl⟩:=List.getElem_of_mem hx
      have:=HA.out j (by omega)
      unfold rd at this
      rw [List.getD_eq_getElem?_getD,show ((j:Int)).toNat=j from by omega,List.getElem?_eq_getElem hj] at this
      exact this
set_option maxHeartbeats 8000000 in
set_option maxRecDepth 100000 in
theorem ah7 (A0:Option Addr) (c0:Nat) (l0:List Int) (w:World) (hr0:Kd.C (Kd.int .i64) w A0 l0.length l0) (hc0:l0.length≤c0) (hlen:l0.length < 4611686018427387904) (hi:∀ i,I64 (rd l0 i)) :
    Calls Tryz.prog 159 #[.slice A0 l0.length c0,.func (.func 160) #[] #[]] w fun e w'=>e = .returned (.bool (decide (∃ x ∈ l0,szV x > 1099511627776)))∧Below w.heap.size w w':=by
  have hc:=ak8 A0 c0 l0 w hr0 hc0 hlen hi
  have eIX:∀ args w,(callFunc 180 args).run Tryz.prog w = .ok (.enter 180 args) w:=enters_of Tryz.func180 (by kernel_rfl) rfl
  clear hr0
  go_enter Tryz.func159,Tryz.ntmps159
  go_wp2_with (go_at_fn 180;refine hc.mono ?_;rintro e w' ⟨⟨i,rfl,hi⟩,hb⟩)
  go_ret
  refine ⟨?_,hb⟩
  have hd:decide (0≤i)=decide (∃ x ∈ l0,szV x > 1099511627776):=by
    refine decide_eq_decide.2 ?_
    have h1:i < 0↔∀ x ∈ l0,szV x≤1099511627776:=by simpa using hi
    constructor
    · intro h0
      apply Classical.byContradiction;intro hn
      have:=h1.2 (fun x hx=>by apply Classical.byContradiction;intro g;exact hn ⟨x,hx,by omega⟩)
      omega
    · rintro ⟨x,hx,g⟩
      apply Classical.byContradiction;intro hn
      have:=h1.1 (by omega) x hx
      omega
  show Ending.returned (.bool (decide (0≤i)))=_
  rw [hd]
def dI (s:Int) (l:List Int):Int:=l.foldl (fun s x=>hold (s+x)) s
theorem ak9 (l:List Int) (hl:l.length < 4611686018427387904) (hi:∀ i,I64 (rd l i)):∀ (d k i:Nat) (s:Int),i+d=l.length→d+2 < k→I64 s→mY.l0 k s l (l.length:Int) (i:Int)=some (dI s (l.drop i)):=by
  intro d
  induction d with
  | zero =>
    intro k i s h1 h2 hs
    obtain ⟨k,rfl⟩:∃ m,k=m+1:=⟨k - 1,by omega⟩
    rw [mY.l0,if_neg (by omega),List.drop_of_length_le (by omega)];rfl
  | succ d ih =>
    intro k i s h1 h2 hs
    obtain ⟨k,rfl⟩:∃ m,k=m+1:=⟨k - 1,by omega⟩
    rw [mY.l0,if_pos (by omega),if_pos (by omega),if_pos (by omega),adN (by omega) hs (hi _)]
    simp only [Option.bind_some]
    rw [aC (show -9223372036854775808≤(i:Int)+1 from by omega) (by omega)]
    have e:l.drop i=rd l (i:Int) :: l.drop (i+1):=by
      rw [List.drop_eq_getElem_cons (by omega)]
      congr 1
      unfold rd
      rw [List.getD_eq_getElem?_getD,show ((i:Int)).toNat=i from by omega,List.getElem?_eq_getElem (by omega)];rfl
    rw [e]
    exact ih k (i+1) (hold (s+rd l (i:Int))) (by omega) (by omega) (qG _)
theorem afm {k:Nat} {l:List Int} (hk:l.length+3≤k) (hl:l.length < 4611686018427387904) (hi:∀ i,I64 (rd l i)):mY.f k l=some (dI 0 l) :=
  ak9 l hl hi l.length k 0 0 (by omega) (by omega) (by decide)
def jy (l:List Int):Int:=if l.length=0∨l.length > 1048576∨(∃ x ∈ l,szV x > 1099511627776) then 7 else if dI 0 l < 268435456 then 8 else 0
set_option maxHeartbeats 8000000 in
set_option maxRecDepth 100000 in
theorem afn (A0:Option Addr) (c0:Nat) (l0:List Int) (w:World) (hr0:Kd.C (Kd.int .i64) w A0 l0.length l0) (hc0:l0.length≤c0) (hi:∀ i,I64 (rd l0 i)) :
    Calls Tryz.prog 131 #[.slice A0 l0.length c0] w fun e w'=>e = .returned (.int .i64 (jy l0))∧Below w.heap.size w w':=by
  have hi':=hi
  obtain ⟨n,hn⟩:∃ n,n=l0.length:=⟨_,rfl⟩
  have hc:=fun (h:n≤1048576)=>ah7 A0 c0 l0 w hr0 hc0 (by omega) hi
  have hs:=fun w' (hb:Below w.heap.size w w') (h:n≤1048576)=>mY.calls (l0.length+3) A0 c0 l0 (dI 0 l0) w' (Kd.bY hr0 hb) hc0 (afm (Nat.le_refl _) (by omega) hi)
  have eCF:∀ args w,(callFunc 159 args).run Tryz.prog w = .ok (.enter 159 args) w:=enters_of Tryz.func159 (by kernel_rfl) rfl
  have eTS:∀ args w,(callFunc 132 args).run Tryz.prog w = .ok (.enter 132 args) w:=enters_of Tryz.func132 (by kernel_rfl) rfl
  have HB0:=aj.mk (Below.refl w.heap.size w)
  clear hr0 hi'
  obtain ⟨v,hv⟩:∃ v,v=jy l0:=⟨_,rfl⟩
  rw [← hv]
  unfold jy at hv
  rw [← hn] at hv hc hs ⊢
  have HV:=aj.mk hv
  clear hv hn
  by_cases h0:n=0
  · subst h0
    have e:v=7:=by rw [HV.out,if_pos (Or.inl rfl)]
    subst e
    clear HV hs hc hi hc0
    go_enter Tryz.func131,Tryz.ntmps131
    go_wp2
    go_ret
    exact ⟨rfl,HB0.out⟩
  have z0:¬ (n:Int)=0:=by omega
  have b0:((n:Int) == 0)=false:=by simpa using h0
  by_cases h1:n > 1048576
  · have z1:(n:Int) > 1048576:=by omega
    have e:v=7:=by rw [HV.out,if_pos (Or.inr (Or.inl h1))]
    subst e
    clear HV hs hc hi h0 hc0 h1
    go_enter Tryz.func131,Tryz.ntmps131
    go_wp2
    go_ret
    exact ⟨rfl,HB0.out⟩
  have z1:¬ (n:Int) > 1048576:=by omega
  have hc:=hc (by omega)
  have hs:=fun w' hb=>hs w' hb (by omega)
  by_cases h2:∃ x ∈ l0,szV x > 1099511627776
  · rw [decide_eq_true h2] at hc
    have e:v=7:=by rw [HV.out,if_pos (Or.inr (Or.inr h2))]
    subst e
    clear HV hs hi h0 hc0 h1 h2
    go_enter Tryz.func131,Tryz.ntmps131
    go_wp2_with (go_at_fn 159;refine hc.mono ?_;rintro e w' ⟨rfl,hb⟩)
    go_ret
    exact ⟨rfl,hb⟩
  rw [decide_eq_false h2] at hc
  rw [if_neg (by intro q;rcases q with q|q|q;exact h0 q;exact h1 q;exact h2 q)] at HV
  clear h0 h1 h2 hi hc0
  generalize dI 0 l0=s at HV hs
  by_cases h3:s < 268435456
  · have e:v=8:=by rw [HV.out,if_pos h3]
    subst e
    clear HV
    go_enter Tryz.func131,Tryz.ntmps131
    go_wp2_with (first|(go_at_fn 159;refine hc.mono ?_;rintro e w' ⟨rfl,hb⟩;have HB1:=aj.mk hb;clear hb)|(go_at_fn 132;refine (hs _ HB1.out).mono ?_;rintro e w' ⟨rfl,⟨nd2,rfl⟩⟩))
    go_ret
    exact ⟨rfl,aI HB1.out _⟩
  · have e:v=0:=by rw [HV.out,if_neg h3]
    subst e
    clear HV
    go_enter Tryz.func131,Tryz.ntmps131
    go_wp2_with (first|(go_at_fn 159;refine hc.mono ?_;rintro e w' ⟨rfl,hb⟩;have HB1:=aj.mk hb;clear hb)|(go_at_fn 132;refine (hs _ HB1.out).mono ?_;rintro e w' ⟨rfl,⟨nd2,rfl⟩⟩))
    go_ret
    exact ⟨rfl,aI HB1.out _⟩
def zf (x y:Int):Int:=if x < y then -1 else if x > y then 1 else 0
set_option maxHeartbeats 8000000 in
set_option maxRecDepth 100000 in
theorem aog (x:Int) (w:World):Calls Tryz.prog 166 #[.int .i64 x] w fun e w'=>e = .returned (.bool false)∧w'=w:=by
  go_enter Tryz.func166,Tryz.ntmps166
  go_wp2
  go_ret
  exact ⟨by simp,rfl⟩
set_option maxHeartbeats 8000000 in
set_option maxRecDepth 100000 in
theorem aiT (x y:Int) (w:World):Calls Tryz.prog 136 #[.int .i64 x,.int .i64 y] w fun e w'=>e = .returned (.int .i64 (zf x y))∧w'=w:=by
  have hc:=fun x w=>aog x w
  have eIZ:∀ args w,(callFunc 166 args).run Tryz.prog w = .ok (.enter 166 args) w:=enters_of Tryz.func166 (by kernel_rfl) rfl
  by_cases h1:x < y
  · have e:zf x y = -1:=by unfold zf;rw [if_pos h1]
    rw [e]
    go_enter Tryz.func136,Tryz.ntmps136
    go_wp2_with (go_at_fn 166;refine (hc _ _).mono ?_;rintro e w' ⟨rfl,rfl⟩)
    go_ret
    exact ⟨rfl,rfl⟩
  · by_cases h2:x > y
    · have e:zf x y=1:=by unfold zf;rw [if_neg h1,if_pos h2]
      rw [e]
      go_enter Tryz.func136,Tryz.ntmps136
      go_wp2_with (go_at_fn 166;refine (hc _ _).mono ?_;rintro e w' ⟨rfl,rfl⟩)
      go_ret
      exact ⟨rfl,rfl⟩
    · have e:zf x y=0:=by unfold zf;rw [if_neg h1,if_neg h2]
      rw [e]
      have h3:¬ y < x:=by omega
      go_enter Tryz.func136,Tryz.ntmps136
      go_wp2_with (go_at_fn 166;refine (hc _ _).mono ?_;rintro e w' ⟨rfl,rfl⟩)
      go_ret
      exact ⟨rfl,rfl⟩
set_option maxHeartbeats 8000000 in
set_option maxRecDepth 100000 in
theorem aiU (b3 b4 n x y:Nat) (u v:Int) (W:World) (hn:n < 4611686018427387904) (hx:x < n) (hy:y < n) (h4:W.cell? ⟨b4,0,none⟩=some (.slice (some ⟨b3,0,none⟩) n n))
    (hu:W.cell? ⟨b3,x,none⟩=some (.int .i64 u)) (hv:W.cell? ⟨b3,y,none⟩=some (.int .i64 v)) :
    Calls Tryz.prog 135 #[.int .i64 x,.int .i64 y,.pointer (some ⟨b4,0,none⟩)] W fun e w'=>e = .returned (.int .i64 (zf v u))∧∃ q os,w'=grow (W.drewN q) os:=by
  have mixed:Tryz.prog.follows .mixedOrders=true:=by kernel_rfl
  have hc:∀ w,Calls Tryz.prog 136 #[.int .i64 v,.int .i64 u] w fun e w'=>e = .returned (.int .i64 (zf v u))∧∃ q os,w'=grow (w.drewN q) os:=fun w=>(aiT v u w).mono fun e w' ⟨h1,h2⟩=>⟨h1,0,#[],by rw [h2,grow_empty];rfl⟩
  have eCO:∀ args w,(callFunc 136 args).run Tryz.prog w = .ok (.enter 136 args) w:=enters_of Tryz.func136 (by kernel_rfl) rfl
  have pa:(0:Int)≤(x:Int):=by omega
  have ba:(x:Int) < (n:Int):=by omega
  have pc:(0:Int)≤(y:Int):=by omega
  have bc:(y:Int) < (n:Int):=by omega
  have ea:(x:Int).toNat=x:=by omega
  have ec:(y:Int).toNat=y:=by omega
  have h4':∀ q os,(grow (W.drewN q) os).cell? ⟨b4,0,none⟩=some (.slice (some ⟨b3,0,none⟩) n n):=fun q os=>(cell?_grow _ _ _ (World.block_lt_of_cell? _ _ (by exact h4))).trans h4
  have hu':∀ q os,(grow (W.drewN q) os).cell? ⟨b3,x,none⟩=some (.int .i64 u):=fun q os=>(cell?_grow _ _ _ (World.block_lt_of_cell? _ _ (by exact hu))).trans hu
  have hv':∀ q os,(grow (W.drewN q) os).cell? ⟨b3,y,none⟩=some (.int .i64 v):=fun q os=>(cell?_grow _ _ _ (World.block_lt_of_cell? _ _ (by exact hv))).trans hv
  generalize zf v u=r at hc ⊢
  go_enter Tryz.func135,Tryz.ntmps135
  go_wp2_with fail
  go_quiet_grown (first|(go_at_fn 136;refine Calls.grown_of (hc _)))
  go_wp2
  go_ret
  exact ⟨rfl,nq,osq,rfl⟩
set_option maxHeartbeats 8000000 in
set_option maxRecDepth 100000 in
theorem af0 {α:Type} [Inhabited α] (enc:α→Value) (cf:α→α→Int) (g:Nat) (cb:Array Value) (key:α→Int) (idx:α→Nat) (blk off cap:Nat) (d:Array α) (w:World)
    (eg:∀ args w,(callFunc g args).run Tryz.prog w = .ok (.enter g args) w) (hcmp:CmpLays1 Tryz.prog g cb enc cf blk off d.size w) (hcf:∀ x y,cf x y < 0↔key y < key x)
    (R:Row1 enc w blk off d) (hsz:d.size < 1152921504606846976) (hA:S.Asc idx d 0 d.size) :
    Calls Tryz.prog 134 #[.slice (some ⟨blk,off,none⟩) d.size cap,.func (.func g) #[] cb] w fun e w'=>e = .returned (.tuple #[])∧∃ d',SW enc w blk off d' w'∧S.Sam d d' 0 d.size∧S.Srt key idx d' 0 d.size:=by
  have hc:=S.ap6 enc cf g cb key idx blk off cap d d w w eg hcmp hcf R rfl (SW.start R.hH) hsz hA
  have eST:∀ args w,(callFunc 165 args).run Tryz.prog w = .ok (.enter 165 args) w:=enters_of Tryz.func165 (by kernel_rfl) rfl
  clear hcmp eg hcf R hA
  obtain ⟨n,hn⟩:∃ n,n=d.size:=⟨_,rfl⟩
  rw [← hn] at hc hsz ⊢
  clear hn
  go_enter Tryz.func134,Tryz.ntmps134
  go_wp2_with (go_at_fn 165;refine hc.mono ?_;rintro e w' ⟨rfl,h⟩)
  go_end0
  exact ⟨rfl,h⟩
def vals (f:Nat→Int) (n:Nat):Array Value:=(Array.range n).map fun i => .int .i64 (f i)
def upd (f:Nat→Int) (i:Nat) (v:Int):Nat→Int:=fun j=>if j=i then v else f j
theorem ait (f:Nat→Int) (n:Nat):(vals f n).size=n:=by simp [vals]
theorem pY (f:Nat→Int) {n i:Nat} (h:i < n):(vals f n)[i]? = some (.int .i64 (f i)):=by simp [vals,h]
theorem aiu (n:Nat):madeCells #[.int .i64 0] n=vals (fun _=>0) n:=by
  apply Array.ext
  · simp [madeCells,vals]
  · intro i h1 h2;simp [madeCells,vals,Nat.mod_one]
theorem adq (f:Nat→Int) (n i:Nat) (v:Int):(vals f n).setIfInBounds i (.int .i64 v)=vals (upd f i v) n:=by
  apply Array.ext
  · simp [vals]
  · intro j h1 h2
    have hj:j < (vals f n).size:=by simpa using h1
    have e1:∀ (g:Nat→Int) (hh:j < (vals g n).size),(vals g n)[j] = .int .i64 (g j):=fun g hh=>by simp [vals]
    rw [Array.getElem_setIfInBounds hj,e1,e1]
    unfold upd
    by_cases c:i=j
    · subst c;simp
    · rw [if_neg c,if_neg (fun h=>c h.symm)]
theorem rX {f g:Nat→Int} {n:Nat} (h:∀ i,i < n→f i=g i):vals f n=vals g n:=by
  apply Array.ext
  · simp [vals]
  · intro j h1 h2
    simp only [vals,Array.getElem_map,Array.getElem_range]
    rw [h j (by simpa [vals] using h1)]
theorem acJ (w:World) (o:Obj):(w.alloc o).heap.size=w.heap.size+1:=by simp
theorem arZ (w:World):w.drew.heap=w.heap:=rfl
theorem yL (w:World) (o:Obj) (k:Nat) (h:k=w.heap.size):(w.alloc o).heap[k]? = some o:=by subst h;show (w.heap.push o)[w.heap.size]? = some o;simp
theorem rF (w:World) (o:Obj) (k:Nat) (h:k < w.heap.size):(w.alloc o).heap[k]? = w.heap[k]? := Below.heap_alloc w o k h
structure St (w w':World) (n b1 b2 b3 b4:Nat) (o q r:Nat→Int):Prop where
  hb:Below w.heap.size w w'
  k1:w.heap.size≤b1
  k2:w.heap.size≤b2
  k3:w.heap.size≤b3
  k4:w.heap.size≤b4
  ne:b1≠b2∧b1≠b3∧b1≠b4∧b2≠b3∧b2≠b4∧b3≠b4
  h1:w'.heap[b1]? = some (.cells (vals o n) 2 (0,0))
  h2:w'.heap[b2]? = some (.cells (vals q n) 3 (0,0))
  h3:w'.heap[b3]? = some (.cells (vals r n) 2 (0,0))
  h4:w'.heap[b4]? = some (.cells #[.slice (some ⟨b3,0,none⟩) n n] 44 (0,0))
theorem cell_of_heap {w:World} {b i:Nat} {cs:Array Value} {T:TypeId} {v:Value} (h:w.heap[b]? = some (.cells cs T (0,0))) (hv:cs[i]? = some v):w.cell? ⟨b,i,none⟩=some v:=by
  simp [World.cell?,h,hv]
theorem frozen_of_heap {w:World} {b i:Nat} {cs:Array Value} {T:TypeId} (h:w.heap[b]? = some (.cells cs T (0,0))):w.frozen? ⟨b,i,none⟩=false:=by
  simp [World.frozen?,h]
theorem St.drewN {w w':World} {n b1 b2 b3 b4:Nat} {o q r:Nat→Int} (h:St w w' n b1 b2 b3 b4 o q r) (m:Nat):St w (w'.drewN m) n b1 b2 b3 b4 o q r :=
  ⟨aI h.hb m,h.k1,h.k2,h.k3,h.k4,h.ne,h.h1,h.h2,h.h3,h.h4⟩
theorem St.set1 {w w':World} {n b1 b2 b3 b4:Nat} {o q r:Nat→Int} (h:St w w' n b1 b2 b3 b4 o q r) (i:Nat) (v:Int):St w (w'.setCell ⟨b1,i,none⟩ (.int .i64 v)) n b1 b2 b3 b4 (upd o i v) q r:=by
  obtain ⟨n1,n2,n3,n4,n5,n6⟩:=h.ne
  refine ⟨h.hb.setCell h.k1 _,h.k1,h.k2,h.k3,h.k4,h.ne,?_,?_,?_,?_⟩
  · rw [heap_setCell_same _ _ _ _ _ _ h.h1,adq]
  · rw [heap_setCell_other _ _ _ _ (by exact n1.symm)];exact h.h2
  · rw [heap_setCell_other _ _ _ _ (by exact n2.symm)];exact h.h3
  · rw [heap_setCell_other _ _ _ _ (by exact n3.symm)];exact h.h4
theorem St.set2 {w w':World} {n b1 b2 b3 b4:Nat} {o q r:Nat→Int} (h:St w w' n b1 b2 b3 b4 o q r) (i:Nat) (v:Int):St w (w'.setCell ⟨b2,i,none⟩ (.int .i64 v)) n b1 b2 b3 b4 o (upd q i v) r:=by
  obtain ⟨n1,n2,n3,n4,n5,n6⟩:=h.ne
  refine ⟨h.hb.setCell h.k2 _,h.k1,h.k2,h.k3,h.k4,h.ne,?_,?_,?_,?_⟩
  · rw [heap_setCell_other _ _ _ _ (by exact n1)];exact h.h1
  · rw [heap_setCell_same _ _ _ _ _ _ h.h2,adq]
  · rw [heap_setCell_other _ _ _ _ (by exact n4.symm)];exact h.h3
  · rw [heap_setCell_other _ _ _ _ (by exact n5.symm)];exact h.h4
theorem St.atm {w w':World} {n b1 b2 b3 b4:Nat} {o q r:Nat→Int} (h:St w w' n b1 b2 b3 b4 o q r) (i:Nat) (v:Int):St w (w'.setCell ⟨b3,i,none⟩ (.int .i64 v)) n b1 b2 b3 b4 o q (upd r i v):=by
  obtain ⟨n1,n2,n3,n4,n5,n6⟩:=h.ne
  refine ⟨h.hb.setCell h.k3 _,h.k1,h.k2,h.k3,h.k4,h.ne,?_,?_,?_,?_⟩
  · rw [heap_setCell_other _ _ _ _ (by exact n2)];exact h.h1
  · rw [heap_setCell_other _ _ _ _ (by exact n4)];exact h.h2
  · rw [heap_setCell_same _ _ _ _ _ _ h.h3,adq]
  · rw [heap_setCell_other _ _ _ _ (by exact n6.symm)];exact h.h4
theorem St.congr {w w':World} {n b1 b2 b3 b4:Nat} {o q r o' q' r':Nat→Int} (h:St w w' n b1 b2 b3 b4 o q r) (ho:∀ i,i < n→o i=o' i) (hq:∀ i,i < n→q i=q' i) (hr:∀ i,i < n→r i=r' i):St w w' n b1 b2 b3 b4 o' q' r' :=
  ⟨h.hb,h.k1,h.k2,h.k3,h.k4,h.ne,by rw [← rX ho];exact h.h1,by rw [← rX hq];exact h.h2,by rw [← rX hr];exact h.h3,h.h4⟩
def acs {N:Nat} (x:Fin (N+1)):Value := .int .i64 ((x.val:Nat):Int)
theorem aql {N:Nat}:OneCell (acs (N:=N)):=fun x=>rfl
def aeI (N:Nat):Array (Fin (N+1)):=Array.ofFn fun i=>i
theorem aiv (N:Nat):(aeI N).size=N+1:=by simp [aeI]
theorem adr (N i:Nat) (h:i < N+1):((aeI N)[i]!).val=i:=by
  unfold aeI
  rw [getElem!_pos _ i (by simpa using h)]
  simp
theorem afe {α:Type} [Inhabited α] (enc:α→Value) (w:World) (b off k:Nat) (d:Array α) (h:k≠b):(putRow enc w b off d).heap[k]? = w.heap[k]? := by
  unfold putRow mapBlock
  show (w.heap.modify b _)[k]? = _
  rw [Array.getElem?_modify,if_neg (fun q=>h q.symm)]
theorem af2 {N n:Nat} (w:World) (b T:Nat) (f:Nat→Int) (d:Array (Fin (N+1))) (hd:d.size=n) (h:w.heap[b]? = some (.cells (vals f n) T (0,0))) :
    (putRow acs w b 0 d).heap[b]? = some (.cells (vals (fun j=>((d[j]!).val:Int)) n) T (0,0)):=by
  unfold putRow mapBlock
  show (w.heap.modify b _)[b]? = _
  rw [Array.getElem?_modify,if_pos rfl,h]
  simp only [Option.map_some,onCells]
  congr 2
  apply Array.ext
  · simp [putCells,vals]
  · intro j h1 h2
    have hj:j < n:=by simpa [vals] using h2
    simp [putCells,vals,acs,hd,hj]
theorem St.sorted {w w' w'':World} {N b1 b2 b3 b4:Nat} {o q r:Nat→Int} {d:Array (Fin (N+1))} (h:St w w' (N+1) b1 b2 b3 b4 o q r) (hd:d.size=N+1) (hs:SW acs w' b2 0 d w'') :
    St w w'' (N+1) b1 b2 b3 b4 o (fun j=>((d[j]!).val:Int)) r:=by
  obtain ⟨m,os,rfl⟩:=hs
  obtain ⟨n1,n2,n3,n4,n5,n6⟩:=h.ne
  have lt:∀ {b:Nat} {x:Obj},w'.heap[b]? = some x→b < w'.heap.size:=fun {b x} h=>(Array.getElem?_eq_some_iff.1 h).1
  have sz:(putRow acs (Sort.ahead w' m) b2 0 d).heap.size=w'.heap.size:=by rw [size_putRow];rfl
  have old:∀ k,k < w'.heap.size→k≠b2→(sortWorld acs w' b2 0 m d os).heap[k]? = w'.heap[k]? := by
    intro k hk hne
    unfold sortWorld
    rw [heap_grow_old _ _ (by rw [sz];exact hk),afe _ _ _ _ _ _ hne];rfl
  refine ⟨?_,h.k1,h.k2,h.k3,h.k4,h.ne,?_,?_,?_,?_⟩
  · refine ⟨h.hb.os,h.hb.tape,h.hb.output,?_,fun k hk => ?_⟩
    · have:=h.hb.size
      unfold sortWorld
      rw [size_grow,sz];omega
    · rw [old k (Nat.lt_of_lt_of_le hk h.hb.size) (by have:=h.k2;omega)]
      exact h.hb.block k hk
  · rw [old _ (lt h.h1) n1];exact h.h1
  · unfold sortWorld
    rw [heap_grow_old _ _ (by rw [sz];exact lt h.h2)]
    exact af2 _ _ _ q d hd h.h2
  · rw [old _ (lt h.h3) (fun e=>n4 e.symm)];exact h.h3
  · rw [old _ (lt h.h4) (fun e=>n5 e.symm)];exact h.h4
theorem St.row {w w':World} {N b1 b2 b3 b4:Nat} {o r:Nat→Int} (h:St w w' (N+1) b1 b2 b3 b4 o (fun j=>(j:Int)) r):Row1 acs w' b2 0 (aeI N):=by
  refine ⟨aql,fun j hj=>⟨?_,?_⟩,(Array.getElem?_eq_some_iff.1 h.h2).1⟩
  · rw [aiv] at hj
    have:=cell_of_heap (i:=j) h.h2 (pY _ hj)
    rw [Nat.zero_add,this]
    unfold acs
    rw [adr N j hj]
  · rw [Nat.zero_add];exact frozen_of_heap h.h2
theorem aqm (x y:Int):zf x y < 0↔x < y:=by
  unfold zf
  by_cases h:x < y
  · rw [if_pos h];omega
  · rw [if_neg h];split <;> omega
theorem St.cmp {w w':World} {N b1 b2 b3 b4:Nat} {o q r:Nat→Int} (h:St w w' (N+1) b1 b2 b3 b4 o q r) (hn:N+1 < 4611686018427387904) :
    CmpLays1 Tryz.prog 135 #[.pointer (some ⟨b4,0,none⟩)] (acs (N:=N)) (fun x y=>zf (r y.val) (r x.val)) b2 0 (N+1) w':=by
  intro m os dk hdk x y
  obtain ⟨n1,n2,n3,n4,n5,n6⟩:=h.ne
  have h':=h.sorted hdk ⟨m,os,rfl⟩
  exact aiU b3 b4 (N+1) x.val y.val (r x.val) (r y.val) _ hn x.isLt y.isLt (cell_of_heap h'.h4 rfl) (cell_of_heap h'.h3 (pY _ x.isLt)) (cell_of_heap h'.h3 (pY _ y.isLt))
def ank (n:Nat) (r:Nat→Int) (π:Nat→Nat):Prop:=(∀ p,p < n→π p < n)∧(∀ j,j < n→∃ p,p < n∧π p=j)∧(∀ p q,p < q→q < n→r (π q) < r (π p)∨(r (π p)=r (π q)∧π p < π q))
theorem aoh {w w':World} {n b1 b2 b3 b4:Nat} {o r:Nat→Int} (h:St w w' n b1 b2 b3 b4 o (fun j=>(j:Int)) r) (h1:1≤n) (h2:n≤1048576) :
    Calls Tryz.prog 134 #[.slice (some ⟨b2,0,none⟩) n n,.func (.func 135) #[] #[.pointer (some ⟨b4,0,none⟩)]] w' fun e w''=>e = .returned (.tuple #[])∧∃ π:Nat→Nat,St w w'' n b1 b2 b3 b4 o (fun j=>(π j:Int)) r∧ank n r π:=by
  obtain ⟨N,rfl⟩:∃ N,n=N+1:=⟨n - 1,by omega⟩
  have eg:∀ args w,(callFunc 135 args).run Tryz.prog w = .ok (.enter 135 args) w:=enters_of Tryz.func135 (by kernel_rfl) rfl
  have hsz:=aiv N
  have hc:=af0 (acs (N:=N)) (fun x y=>zf (r y.val) (r x.val)) 135 #[.pointer (some ⟨b4,0,none⟩)] (fun x=>r x.val) (fun x=>x.val) b2 0 (N+1) (aeI N) w' eg
    (by rw [hsz];exact h.cmp (by omega)) (fun x y=>aqm _ _) h.row (by rw [hsz];omega)
    (fun i j h1 h2 h3=>by rw [hsz] at h3;show ((aeI N)[i]!).val < ((aeI N)[j]!).val;rw [adr N i (by omega),adr N j h3];exact h2)
  rw [hsz] at hc
  refine hc.mono ?_
  rintro e w'' ⟨rfl,d',h3,h4,h5⟩
  refine ⟨rfl,fun j=>(d'[j]!).val,h.sorted (by rw [h4.1,hsz]) h3,fun p hp=>(d'[p]!).isLt,fun j hj => ?_,fun p q hpq hq => ?_⟩
  · obtain ⟨l,l1,l2,l3⟩:=h4.2.2.2 j (by omega) hj
    exact ⟨l,l2,by show (d'[l]!).val=j;rw [← l3];exact adr N j hj⟩
  · exact h5 p q (by omega) hpq hq
def qV (l:List Int) (s:Int) (j:Nat):Int:=rd l (j:Int)*16384 / s
def mV (l:List Int) (s:Int) (j:Nat):Int:=rd l (j:Int)*16384 % s
def fE (f:Nat→Int):Nat→Int
  | 0=>0
  | i+1=>fE f i+f i
theorem afU (f:Nat→Int) (n:Nat) (h:∀ j,j < n → -134217728≤f j∧f j≤134217728):∀ i,i≤n → -134217728*(i:Int)≤fE f i∧fE f i≤134217728*(i:Int)
  | 0,_=>by simp [fE]
  | i+1,hi=>by
    have:=afU f n h i (by omega)
    have:=h i (by omega)
    rw [fE];omega
set_option maxHeartbeats 8000000 in
set_option maxRecDepth 100000 in
theorem aoi (A0:Option Addr) (c0:Nat) (l0:List Int) (w:World) (hr0:Kd.C (Kd.int .i64) w A0 l0.length l0) (hc0:l0.length≤c0) (hi:∀ i,I64 (rd l0 i)) (hn0:1≤l0.length) (hn1:l0.length≤1048576) (hk:jy l0=0) (hlb:0≤16384 - fE (qV l0 (dI 0 l0)) l0.length∧16384 - fE (qV l0 (dI 0 l0)) l0.length≤l0.length) (hqb:∀ j,j < l0.length → -134217728≤qV l0 (dI 0 l0) j∧qV l0 (dI 0 l0) j≤134217728) (hq:∀ j,j < l0.length→bZ.f 1 (wrap64 (rd l0 (j:Int)*16384)) (dI 0 l0)=some (qV l0 (dI 0 l0) j)∧kM.f 1 (wrap64 (rd l0 (j:Int)*16384)) (dI 0 l0)=some (mV l0 (dI 0 l0) j)) :
    Calls Tryz.prog 109 #[.slice A0 l0.length c0] w fun e w'=>∃ (π:Nat→Nat) (o:Nat→Int) (b1:Nat),e = .returned (.tuple #[.slice (some ⟨b1,0,none⟩) l0.length l0.length,.int .i64 0])∧ank l0.length (mV l0 (dI 0 l0)) π ∧
      (∀ p:Nat,(p:Int) < 16384 - fE (qV l0 (dI 0 l0)) l0.length→o (π p)=qV l0 (dI 0 l0) (π p)+1)∧(∀ j,j < l0.length→(∀ p:Nat,(p:Int) < 16384 - fE (qV l0 (dI 0 l0)) l0.length→π p≠j)→o j=qV l0 (dI 0 l0) j) ∧
      w'.heap[b1]? = some (.cells (vals o l0.length) 2 (0,0))∧w.heap.size≤b1∧Below w.heap.size w w':=by
  have hc:=afn A0 c0 l0 w hr0 hc0 hi
  rw [hk] at hc
  have hs:=fun w' (hb:Below w.heap.size w w')=>mY.calls (l0.length+3) A0 c0 l0 (dI 0 l0) w' (Kd.bY hr0 hb) hc0 (afm (Nat.le_refl _) (by omega) hi)
  have eCH:∀ args w,(callFunc 131 args).run Tryz.prog w = .ok (.enter 131 args) w:=enters_of Tryz.func131 (by kernel_rfl) rfl
  have eTS:∀ args w,(callFunc 132 args).run Tryz.prog w = .ok (.enter 132 args) w:=enters_of Tryz.func132 (by kernel_rfl) rfl
  have mixed:Tryz.prog.follows .mixedOrders=true:=by kernel_rfl
  have HR0:=aj.mk hr0
  have HI:=aj.mk hi
  have HQ0:=aj.mk hq
  have atn:=aj.mk hqb
  have ato:=aj.mk hlb
  clear hr0 hk hi hq hqb hlb
  obtain ⟨n,hn⟩:∃ n,n=l0.length:=⟨_,rfl⟩
  rw [← hn] at hc hs hc0 hn0 hn1 ⊢
  have HN:=aj.mk hn
  clear hn
  obtain ⟨s,hs0⟩:∃ s,s=dI 0 l0:=⟨_,rfl⟩
  rw [← hs0] at hs ⊢
  have HQ:=aj.mk (hs0 ▸ HN.out ▸ HQ0.out:∀ j,j < n→bZ.f 1 (wrap64 (rd l0 (j:Int)*16384)) s=some (qV l0 s j)∧kM.f 1 (wrap64 (rd l0 (j:Int)*16384)) s=some (mV l0 s j))
  have HQB:=aj.mk (hs0 ▸ HN.out ▸ atn.out:∀ j,j < n → -134217728≤qV l0 s j∧qV l0 s j≤134217728)
  have HLB:=aj.mk (hs0 ▸ HN.out ▸ ato.out:0≤16384 - fE (qV l0 s) n∧16384 - fE (qV l0 s) n≤n)
  have HPS:=aj.mk (fun i (h:i≤n)=>afU (qV l0 s) n HQB.out i h)
  have HS:=aj.mk hs0
  clear hs0 HQ0 atn ato
  go_enter Tryz.func109,Tryz.ntmps109
  go_upto_region 5 with (first|(go_at_fn 131;refine hc.mono ?_;rintro e w' ⟨rfl,hb⟩;have HB1:=aj.mk hb;clear hb hc)|(go_at_fn 132;refine (hs _ HB1.out).mono ?_;rintro e w' ⟨rfl,⟨nd2,rfl⟩⟩))
  have HB2:=aj.mk (aI HB1.out nd2)
  clear hs HB1
  generalize w'.drewN nd2=w2 at HB2 ⊢
  have z0:(0:Int)≤(n:Int):=by omega
  go_cut [7,8,9,29] (fun v7 v8 v9 v29 wc=>∃ (b1 b2 b3 b4:Nat),v7 = .slice (some ⟨b1,0,none⟩) n n∧v8 = .slice (some ⟨b2,0,none⟩) n n∧v9 = .pointer (some ⟨b4,0,none⟩)∧v29 = .slice (some ⟨b3,0,none⟩) n n∧aj (St w wc n b1 b2 b3 b4 (fun _=>0) (fun _=>0) (fun _=>0)))
  case first=>as_aux_lemma =>
    have mk1:=acK (P:=Tryz.prog) 44 2 .i64 8 (by kernel_rfl) (by kernel_rfl) (by decide) n (by omega)
    have mk2:=acK (P:=Tryz.prog) 193 3 .i64 8 (by kernel_rfl) (by kernel_rfl) (by decide) n (by omega)
    go_region_held3 (fun _=>True) (trivial) (fail)
    all_goals go_wp2
    all_goals go_meet
    all_goals (
      have hw:=HB2.out.size
      refine ⟨_,_,_,_,rfl,rfl,rfl,rfl,⟨⟨?_,?_,?_,?_,?_,?_,?_,?_,?_,?_⟩⟩⟩
      · repeat (first|exact HB2.out|apply Below.drew|(refine Below.setCell ?_ (by show w.heap.size≤_;simp;omega) _)|(refine Below.alloc ?_ (by first|omega|(simp only [acJ];omega)) _))
      · omega
      · omega
      · omega
      · omega
      · omega
      all_goals (
        rw [arZ]
        try rw [← aiu]
        repeat (first
          | (rw [yL _ _ _ (by first|rfl|(simp only [acJ];done)|(simp only [acJ];omega))];done)
          | rw [rF _ _ _ (by first|omega|(simp only [acJ];omega))])))
  case rest =>
    obtain ⟨b1,b2,b3,b4,rfl,rfl,rfl,rfl,HST⟩:=hcut
    clear HB2
    go_wp2
    go_loopg [6,10,11,32] n (fun kx s6 s10 s11 s32 wr=>∃ (i:Nat) (lf:Int),s6 = .int .i64 lf∧s32 = .int .i64 i∧i≤n∧n - i≤kx∧aj (lf=16384 - fE (qV l0 s) i) ∧
      aj (St w wr n b1 b2 b3 b4 (fun j=>if j < i then qV l0 s j else 0) (fun j=>if j < i then (j:Int) else 0) (fun j=>if j < i then mV l0 s j else 0)))
    case atStart=>exact ⟨0,16384,rfl,rfl,by omega,by omega,⟨by simp [fE]⟩,⟨HST.out.congr (fun i h=>by simp) (fun i h=>by simp) (fun i h=>by simp)⟩⟩
    case round =>
      clear HST
      obtain ⟨i,lf,rfl,rfl,h1,h2,HL,HST⟩:=hrel
      by_cases hlt:(i:Int) < (n:Int)
      · have aqj:0≤(i:Int):=by omega
        obtain ⟨avD,aqk,ae2⟩:=Kd.jF (Kd.bY HR0.out HST.out.hb) (i:Int) aqj (by rw [← HN.out];exact hlt)
        cases aqk
        rw [show ((i:Int)).toNat=i from by omega] at ae2
        obtain ⟨n12,n13,n14,n23,n24,n34⟩:=HST.out.ne
        have c4:=cell_of_heap (i:=0) HST.out.h4 rfl
        have c1:=fun m=>cell_of_heap (i:=i) (HST.out.drewN m).h1 (pY _ (by omega))
        have c3:=fun m v=>cell_of_heap (i:=i) ((HST.out.drewN m).set1 i v).h3 (pY _ (by omega))
        have c2:=fun m v u=>cell_of_heap (i:=i) (((HST.out.drewN m).set1 i v).atm i u).h2 (pY _ (by omega))
        have f1:=frozen_of_heap (i:=i) HST.out.h1
        have f2:=frozen_of_heap (i:=i) HST.out.h2
        have f3:=frozen_of_heap (i:=i) HST.out.h3
        have hfl:=fun w'=>bZ.calls 1 (wrap64 (rd l0 (i:Int)*16384)) s (qV l0 s i) w' (HQ.out i (by omega)).1
        have hmo:=fun w'=>kM.calls 1 (wrap64 (rd l0 (i:Int)*16384)) s (mV l0 s i) w' (HQ.out i (by omega)).2
        obtain ⟨qv,hqv⟩:∃ v,v=qV l0 s i:=⟨_,rfl⟩
        obtain ⟨mv,hmv⟩:∃ v,v=mV l0 s i:=⟨_,rfl⟩
        rw [← hqv] at hfl
        rw [← hmv] at hmo
        have HQV:=aj.mk (show qv=qV l0 s i ∧ -134217728≤qv∧qv≤134217728 from ⟨hqv,by rw [hqv];exact HQB.out i (by omega)⟩)
        have HMV:=aj.mk hmv
        clear hqv hmv
        simp only [← kU] at hfl hmo
        have HFL:=aj.mk hfl
        have HMO:=aj.mk hmo
        clear hfl hmo
        go_upto_region 9 with fail
        go_region_held3 (fun w'=>w'.cell? ⟨b4,0,none⟩=some (.slice (some ⟨b3,0,none⟩) n n)) (first|go_keep|(refine (World.cell?_setCell_other _ _ _ _ (by intro e;simp only [Addr.mk.injEq] at e;omega)).trans ?_;first|assumption|(simp;done)|(simp;assumption))) (first|(go_at_call 133;(with_reducible refine (HFL.out _).mono ?_);rintro e w' ⟨rfl,⟨ndf,rfl⟩⟩)|(go_at_call 103;(with_reducible refine (HMO.out _).mono ?_);rintro e w' ⟨rfl,⟨ndm,rfl⟩⟩))
        all_goals (
          first|generalize 1+ndf+ndm=m9|generalize 1+ndm+ndf=m9
          have ah8:=aj.mk ((((HST.out.drewN m9).set1 i qv).atm i mv).set2 i (i:Int))
          generalize (((wr.drewN m9).setCell ⟨b1,i,none⟩ (.int .i64 qv)).setCell ⟨b3,i,none⟩ (.int .i64 mv)).setCell ⟨b2,i,none⟩ (.int .i64 (i:Int))=w9 at ah8 ⊢
          clear c4 c1 c3 c2 f1 f2 f3 ae2 HST
          have c5:w9.cell? ⟨b1,i,none⟩=some (.int .i64 qv):=by
            have:=cell_of_heap (i:=i) ah8.out.h1 (pY _ (by omega))
            simpa [upd] using this
          have hlb:=HPS.out i (by omega)
          have wl:IntKind.i64.wrap (lf - qv)=lf - qv:=by rw [kU];have:=HL.out;have:=HQV.out;exact aC (by omega) (by omega)
          have wi:IntKind.i64.wrap ((i:Int)+1)=(i:Int)+1:=by rw [kU];exact aC (by omega) (by omega)
          clear hlb
          go_wp2
          go_roundg (n - (i+1))
          case measure=>omega
          case rel =>
            refine ⟨i+1,lf - qv,rfl,by simp,by omega,Nat.le_refl _,⟨by rw [fE,HL.out,HQV.out.1];omega⟩,⟨ah8.out.congr (fun j h => ?_) (fun j h => ?_) (fun j h => ?_)⟩⟩
            · unfold upd
              by_cases c:j=i
              · rw [if_pos c,if_pos (by omega),c,HQV.out.1]
              · rw [if_neg c];dsimp only;by_cases c2:j < i
                · rw [if_pos c2,if_pos (by omega)]
                · rw [if_neg c2,if_neg (by omega)]
            · unfold upd
              by_cases c:j=i
              · rw [if_pos c,if_pos (by omega),c]
              · rw [if_neg c];dsimp only;by_cases c2:j < i
                · rw [if_pos c2,if_pos (by omega)]
                · rw [if_neg c2,if_neg (by omega)]
            · unfold upd
              by_cases c:j=i
              · rw [if_pos c,if_pos (by omega),c,HMV.out]
              · rw [if_neg c];dsimp only;by_cases c2:j < i
                · rw [if_pos c2,if_pos (by omega)]
                · rw [if_neg c2,if_neg (by omega)])
      · have hin:i=n:=by omega
        have ah8:=aj.mk (HST.out.congr (o':=qV l0 s) (q':=fun j=>(j:Int)) (r':=mV l0 s) (fun j h=>by rw [if_pos (by omega)]) (fun j h=>by rw [if_pos (by omega)]) (fun j h=>by rw [if_pos (by omega)]))
        have HLF:=aj.mk (show lf=16384 - fE (qV l0 s) n by rw [HL.out,hin])
        have hcall:=aoh ah8.out hn0 hn1
        have eSF:∀ args w,(callFunc 134 args).run Tryz.prog w = .ok (.enter 134 args) w:=enters_of Tryz.func134 (by kernel_rfl) rfl
        clear HST ah8 HL hin
        obtain ⟨L,hL⟩:∃ L:Nat,lf=(L:Int):=⟨lf.toNat,by have:=HLB.out;have:=HLF.out;omega⟩
        subst hL
        have hLn:L≤n:=by have:=HLB.out;have:=HLF.out;omega
        have zL0:(0:Int)≤(L:Int):=by omega
        have zL1:(L:Int)≤(n:Int):=by omega
        go_upto_region 13 with (go_at_fn 134;refine hcall.mono ?_;rintro e w' ⟨rfl,π,hst,hord⟩;have atp:=aj.mk hst;have HO:=aj.mk hord;clear hst hord)
        clear hcall
        go_wp2
        go_loopg [13,69] L (fun kx s13 s69 wr=>∃ (t:Nat),s69 = .int .i64 t∧t≤L∧L - t≤kx∧aj (∃ o:Nat→Int,St w wr n b1 b2 b3 b4 o (fun j=>(π j:Int)) (mV l0 s)∧(∀ p,p < t→o (π p)=qV l0 s (π p)+1)∧(∀ j,j < n→(∀ p,p < t→π p≠j)→o j=qV l0 s j)))
        case atStart=>exact ⟨0,rfl,by omega,by omega,⟨qV l0 s,atp.out,fun p h=>by omega,fun j h h'=>rfl⟩⟩
        case round =>
          clear atp
          obtain ⟨t,rfl,t1,t2,HX⟩:=hrel
          by_cases hlt:(t:Int) < (L:Int)
          · obtain ⟨o,hst,ho1,ho2⟩:=HX.out
            have HST:=aj.mk hst
            obtain ⟨x,hx⟩:∃ x,x=π t:=⟨_,rfl⟩
            have hxn:x < n:=by rw [hx];exact HO.out.1 t (by omega)
            have hnew:∀ p,p < t→π p≠x:=by
              intro p hp e
              have:=HO.out.2.2 p t hp (by omega)
              rw [e,← hx] at this
              omega
            have hox:o x=qV l0 s x:=ho2 x hxn hnew
            have HOX:=aj.mk hox
            have hqb:=HQB.out x hxn
            have c1:wr.cell? ⟨b2,t,none⟩=some (.int .i64 (x:Int)):=by rw [hx];exact cell_of_heap hst.h2 (pY _ (by omega))
            obtain ⟨v,hv⟩:∃ v,v=o x:=⟨_,rfl⟩
            have c2:wr.cell? ⟨b1,x,none⟩=some (.int .i64 v):=by rw [hv];exact cell_of_heap hst.h1 (pY _ hxn)
            have f2:wr.frozen? ⟨b1,x,none⟩=false:=frozen_of_heap hst.h1
            have wv:IntKind.i64.wrap (v+1)=v+1:=by rw [kU,hv,hox];exact aC (by omega) (by omega)
            have wt:IntKind.i64.wrap ((t:Int)+1)=(t:Int)+1:=by rw [kU];exact aC (by omega) (by omega)
            have px:(0:Int)≤(x:Int):=by omega
            have qx:(x:Int) < (n:Int):=by omega
            have pt:(0:Int)≤(t:Int):=by omega
            have HX2:=aj.mk hx
            have HV:=aj.mk hv
            have HO1:=aj.mk ho1
            have HO2:=aj.mk ho2
            have aBv:=aj.mk hnew
            clear HX hst ho1 ho2 hnew hox hqb hx hv
            go_wp2
            have awz:=aj.mk (HST.out.set1 x (v+1))
            go_roundg (L - (t+1))
            case measure=>omega
            case rel =>
              refine ⟨t+1,by simp,by omega,Nat.le_refl _,⟨upd o x (v+1),awz.out,fun p hp => ?_,fun j hj hne => ?_⟩⟩
              · unfold upd
                by_cases c:π p=x
                · rw [if_pos c,HV.out,HOX.out,c]
                · rw [if_neg c]
                  by_cases c2:p=t
                  · exact absurd (by rw [c2,HX2.out]) c
                  · exact HO1.out p (by omega)
              · unfold upd
                have c:j≠x:=by rw [HX2.out];exact fun e=>hne t (by omega) e.symm
                rw [if_neg c]
                exact HO2.out j hj (fun p hp=>hne p (by omega))
          · have htl:t=L:=by omega
            subst htl
            go_wp2
            go_ret2
            obtain ⟨o,hst,ho1,ho2⟩:=HX.out
            refine ⟨π,o,b1,rfl,HO.out,fun p hp=>ho1 p (by have:=HLF.out;omega),fun j hj hne=>ho2 j hj (fun p hp=>hne p (by have:=HLF.out;omega)),hst.h1,hst.k1,hst.hb⟩
theorem atq {x:Int} (hx:I64 x) (h:¬ szV x > 1099511627776) : -1099511627776≤x∧x≤1099511627776:=by
  unfold szV at h
  have e:x * -1 = -x:=by omega
  rw [e] at h
  unfold mx hold at h
  split at h <;> (try split at h) <;> (try split at h) <;> omega
theorem akN (l:List Int) (h1:l.length≤1048576) (hb:∀ j,j < l.length → -1099511627776≤rd l (j:Int)∧rd l (j:Int)≤1099511627776):∀ i,i≤l.length →
    dI 0 (l.take i)=fE (fun j=>rd l (j:Int)) i ∧ -1099511627776*(i:Int)≤fE (fun j=>rd l (j:Int)) i∧fE (fun j=>rd l (j:Int)) i≤1099511627776*(i:Int)
  | 0,_=>by simp [dI,fE]
  | i+1,hi=>by
    obtain ⟨h2,h3,h4⟩:=akN l h1 hb i (by omega)
    have h5:=hb i (by omega)
    have e:l.take (i+1)=l.take i ++ [rd l (i:Int)]:=by
      rw [List.take_add_one,List.getElem?_eq_getElem (by omega)]
      unfold rd
      rw [List.getD_eq_getElem?_getD,show ((i:Int)).toNat=i from by omega,List.getElem?_eq_getElem (by omega)];rfl
    refine ⟨?_,?_,?_⟩
    · rw [e]
      unfold dI at h2 ⊢
      rw [List.foldl_append,h2]
      show hold (fE _ i+rd l (i:Int))=fE _ i+rd l (i:Int)
      rw [tC (by omega) (by omega)]
    · rw [fE];omega
    · rw [fE];omega
theorem afz (l:List Int) (s:Int) (hs:0 < s):∀ i:Nat,fE (qV l s) i*s+fE (mV l s) i=16384*fE (fun j=>rd l (j:Int)) i∧0≤fE (mV l s) i∧fE (mV l s) i≤i*s - i
  | 0=>by simp [fE]
  | i+1=>by
    obtain ⟨h1,h2,h3⟩:=afz l s hs i
    have e:=Int.mul_ediv_add_emod (rd l (i:Int)*16384) s
    have r0:=Int.emod_nonneg (rd l (i:Int)*16384) (show s≠0 by omega)
    have r1:=Int.emod_lt_of_pos (rd l (i:Int)*16384) hs
    have e1:(fE (qV l s) i+qV l s i)*s=fE (qV l s) i*s+s*(rd l (i:Int)*16384 / s):=by
      rw [Int.add_mul];unfold qV;rw [Int.mul_comm (rd l (i:Int)*16384 / s)]
    have e2:((i:Int)+1)*s=(i:Int)*s+s:=by rw [Int.add_mul,Int.one_mul]
    have e3:mV l s i=rd l (i:Int)*16384 % s:=rfl
    refine ⟨?_,?_,?_⟩
    · show (fE (qV l s) i+qV l s i)*s+(fE (mV l s) i+mV l s i)=16384*(fE (fun j=>rd l (j:Int)) i+rd l (i:Int))
      rw [e1,e3];omega
    · show 0≤fE (mV l s) i+mV l s i
      rw [e3];omega
    · show fE (mV l s) i+mV l s i≤((i+1:Nat):Int)*s - ((i+1:Nat):Int)
      rw [show ((i+1:Nat):Int)=(i:Int)+1 from by omega,e2,e3];omega
structure Good (l:List Int) (s:Int):Prop where
  n0:1≤l.length
  n1:l.length≤1048576
  xb:∀ j,j < l.length → -1099511627776≤rd l (j:Int)∧rd l (j:Int)≤1099511627776
  sb:268435456≤s∧s≤1152921504606846976
  sx:s=fE (fun j=>rd l (j:Int)) l.length
  qb:∀ j,j < l.length → -134217728≤qV l s j∧qV l s j≤134217728
  lb:0≤16384 - fE (qV l s) l.length∧16384 - fE (qV l s) l.length≤l.length
theorem xA {l:List Int} (hi:∀ i:Nat,I64 (rd l (i:Int))) (h:jy l=0):Good l (dI 0 l):=by
  unfold jy at h
  have h1:¬ (l.length=0∨l.length > 1048576∨∃ x ∈ l,szV x > 1099511627776):=by
    intro q;rw [if_pos q] at h;omega
  rw [if_neg h1] at h
  have h2:¬ dI 0 l < 268435456:=by
    intro q;rw [if_pos q] at h;omega
  have n0:1≤l.length:=by
    apply Classical.byContradiction;intro q;exact h1 (Or.inl (by omega))
  have n1:l.length≤1048576:=by
    apply Classical.byContradiction;intro q;exact h1 (Or.inr (Or.inl (by omega)))
  have xb:∀ j,j < l.length → -1099511627776≤rd l (j:Int)∧rd l (j:Int)≤1099511627776:=fun j hj =>
    atq (hi j) (fun q=>h1 (Or.inr (Or.inr ⟨_,ako hj,q⟩)))
  have st:=akN l n1 xb l.length (Nat.le_refl _)
  rw [List.take_of_length_le (Nat.le_refl _)] at st
  have sb:268435456≤dI 0 l∧dI 0 l≤1152921504606846976:=by omega
  have qb:∀ j,j < l.length → -134217728≤qV l (dI 0 l) j∧qV l (dI 0 l) j≤134217728:=by
    intro j hj
    have hx:=xb j hj
    unfold qV
    constructor
    · rw [Int.le_ediv_iff_mul_le (by omega)];omega
    · have:rd l (j:Int)*16384 / dI 0 l < 134217729:=by
        rw [Int.ediv_lt_iff_lt_mul (by omega)];omega
      omega
  have pd:=afz l (dI 0 l) (by omega) l.length
  refine ⟨n0,n1,xb,sb,st.1,qb,?_⟩
  obtain ⟨p1,p2,p3⟩:=pd
  rw [← st.1] at p1
  generalize dI 0 l=s at *
  generalize fE (qV l s) l.length=Q at *
  have e:(16384 - Q)*s=16384*s - Q*s:=Int.sub_mul _ _ _
  have e2:(16384 - Q)*s=fE (mV l s) l.length:=by omega
  constructor
  · apply Classical.byContradiction;intro q
    have:(16384 - Q)*s≤(-1)*s:=Int.mul_le_mul_of_nonneg_right (by omega) (by omega)
    omega
  · apply Classical.byContradiction;intro q
    have:((l.length:Int)+1)*s≤(16384 - Q)*s:=Int.mul_le_mul_of_nonneg_right (by omega) (by omega)
    rw [Int.add_mul,Int.one_mul] at this
    omega
theorem ar0 {l:List Int} {s:Int} (h:Good l s):∀ j,j < l.length→bZ.f 1 (wrap64 (rd l (j:Int)*16384)) s=some (qV l s j)∧kM.f 1 (wrap64 (rd l (j:Int)*16384)) s=some (mV l s j):=by
  intro j hj
  have hx:=h.xb j hj
  have hq:=h.qb j hj
  have hsb:=h.sb
  rw [aC (show -9223372036854775808≤rd l (j:Int)*16384 from by omega) (by omega)]
  rw [acD (by omega) (by constructor <;> omega) (by constructor <;> omega),akL (by omega) (by constructor <;> omega) (by constructor <;> omega)]
  unfold flo md
  rw [if_pos (by omega),if_neg (by omega),if_pos (by omega)]
  unfold qV at hq ⊢
  rw [tC (by omega) (by omega)]
  exact ⟨rfl,rfl⟩
def best (r:List Int):Nat→Nat
  | 0=>0
  | i+1=>if rd r (i:Int) > rd r (best r i:Int) then i else best r i
def picks:Nat→List Int→List Int→List Int
  | 0,o,_=>o
  | t+1,o,r=>picks t (o.set (best r r.length) (rd o (best r r.length:Int)+1)) (r.set (best r r.length) (-1))
def iQ (l:List Int):List Int :=
  picks (16384 - fE (qV l (dI 0 l)) l.length).toNat ((List.range l.length).map fun j=>qV l (dI 0 l) j) ((List.range l.length).map fun j=>mV l (dI 0 l) j)
theorem abp (f:Nat→Int) {n j:Nat} (h:j < n):rd ((List.range n).map f) (j:Int)=f j:=by
  unfold rd
  rw [List.getD_eq_getElem?_getD,show ((j:Int)).toNat=j from by omega,List.getElem?_map,List.getElem?_range h];rfl
theorem aiw (f:Nat→Int) (n j:Nat) (v:Int):((List.range n).map f).set j v=(List.range n).map fun i=>if i=j then v else f i:=by
  apply List.ext_getElem
  · simp
  · intro i h1 h2
    rw [List.getElem_set]
    simp only [List.getElem_map,List.getElem_range]
    by_cases c:j=i
    · subst c;simp
    · rw [if_neg c,if_neg (fun e=>c e.symm)]
theorem abf (r:List Int):∀ i,1≤i→best r i < i
  | 0,h=>by omega
  | i+1,_=>by
    rw [best];split
    · omega
    · by_cases c:1≤i
      · have:=abf r i c;omega
      · have:i=0:=by omega
        subst this;rw [best];omega
theorem alE (r:List Int) (b:Nat):∀ i,b < i→(∀ j,j < i→rd r (j:Int)≤rd r (b:Int))→(∀ j,j < b→rd r (j:Int) < rd r (b:Int))→best r i=b
  | 0,h,_,_=>by omega
  | i+1,h,h1,h2=>by
    rw [best]
    by_cases c:b=i
    · subst c
      by_cases c0:b=0
      · subst c0;rw [best];split <;> rfl
      · have:=h2 (best r b) (abf r b (by omega))
        rw [if_pos (by omega)]
    · rw [alE r b i (by omega) (fun j hj=>h1 j (by omega)) h2]
      have:=h1 i (by omega)
      rw [if_neg (by omega)]
theorem anl {n:Nat} {m q:Nat→Int} {π:Nat→Nat} (hπ:ank n m π) (hm:∀ j,j < n→0≤m j):∀ (d t:Nat) (o:Nat→Int),t+d≤n→(∀ p,p < t→o (π p)=q (π p)+1)→(∀ j,j < n→(∀ p,p < t→π p≠j)→o j=q j) →
    ∃ o':Nat→Int,picks d ((List.range n).map o) ((List.range n).map fun j=>if ∃ p,p < t∧π p=j then -1 else m j)=(List.range n).map o'∧(∀ p,p < t+d→o' (π p)=q (π p)+1)∧(∀ j,j < n→(∀ p,p < t+d→π p≠j)→o' j=q j):=by
  intro d
  induction d with
  | zero=>intro t o h1 h2 h3;exact ⟨o,rfl,h2,h3⟩
  | succ d ih =>
    intro t o h1 h2 h3
    have hx:π t < n:=hπ.1 t (by omega)
    have hdist:∀ p p',p < p'→p' < n→π p≠π p':=by
      intro p p' h4 h5 e
      have:=hπ.2.2 p p' h4 h5
      rw [e] at this;omega
    have hr:∀ j,j < n→rd ((List.range n).map fun j=>if ∃ p,p < t∧π p=j then -1 else m j) (j:Int)=if ∃ p,p < t∧π p=j then -1 else m j:=fun j hj=>abp _ hj
    have hnt:¬ ∃ p,p < t∧π p=π t:=by
      rintro ⟨p,h4,h5⟩;exact hdist p t h4 (by omega) h5
    have hb:best ((List.range n).map fun j=>if ∃ p,p < t∧π p=j then -1 else m j) n=π t:=by
      refine alE _ _ n hx (fun j hj => ?_) (fun j hj => ?_)
      · rw [hr j hj,hr _ hx,if_neg hnt]
        have h6:=hm _ hx
        split
        · omega
        · rename_i hne
          obtain ⟨p,p1,p2⟩:=hπ.2.1 j hj
          by_cases c:p < t
          · exact absurd ⟨p,c,p2⟩ hne
          · by_cases c2:p=t
            · rw [← p2,c2];exact Int.le_refl _
            · have:=hπ.2.2 t p (by omega) p1
              rw [p2] at this;omega
      · have hj:j < n:=by omega
        rw [hr j hj,hr _ hx,if_neg hnt]
        have h6:=hm _ hx
        split
        · omega
        · rename_i hne
          obtain ⟨p,p1,p2⟩:=hπ.2.1 j hj
          by_cases c:p < t
          · exact absurd ⟨p,c,p2⟩ hne
          · by_cases c2:p=t
            · rw [c2] at p2;omega
            · have:=hπ.2.2 t p (by omega) p1
              rw [p2] at this;omega
    rw [picks]
    rw [show ((List.range n).map fun j=>if ∃ p,p < t∧π p=j then (-1:Int) else m j).length=n from by simp,hb,abp _ hx,aiw,aiw]
    have e:(fun i=>if i=π t then (-1:Int) else if ∃ p,p < t∧π p=i then -1 else m i)=fun j=>if ∃ p,p < t+1∧π p=j then -1 else m j:=by
      funext i
      by_cases c:i=π t
      · rw [if_pos c,if_pos ⟨t,by omega,c.symm⟩]
      · rw [if_neg c]
        by_cases c2:∃ p,p < t∧π p=i
        · obtain ⟨p,p1,p2⟩:=c2
          rw [if_pos ⟨p,p1,p2⟩,if_pos ⟨p,by omega,p2⟩]
        · rw [if_neg c2,if_neg (by rintro ⟨p,p1,p2⟩;by_cases c3:p=t;exact c (by rw [← p2,c3]);exact c2 ⟨p,by omega,p2⟩)]
    rw [e]
    have:=ih (t+1) (fun i=>if i=π t then o (π t)+1 else o i) (by omega) ?_ ?_
    · rw [show t+1+d=t+(d+1) from by omega] at this;exact this
    · intro p hp
      by_cases c:p=t
      · subst c;rw [if_pos rfl,h3 _ hx (fun p' hp' e=>hnt ⟨p',hp',e⟩)]
      · rw [if_neg (hdist p t (by omega) (by omega))];exact h2 p (by omega)
    · intro j hj hne
      rw [if_neg (fun e=>hne t (by omega) e.symm)]
      exact h3 j hj (fun p hp=>hne p (by omega))
theorem ar1 {l:List Int} (hG:Good l (dI 0 l)) {π:Nat→Nat} {o:Nat→Int} (hπ:ank l.length (mV l (dI 0 l)) π)
    (h1:∀ p:Nat,(p:Int) < 16384 - fE (qV l (dI 0 l)) l.length→o (π p)=qV l (dI 0 l) (π p)+1)
    (h2:∀ j,j < l.length→(∀ p:Nat,(p:Int) < 16384 - fE (qV l (dI 0 l)) l.length→π p≠j)→o j=qV l (dI 0 l) j):(List.range l.length).map o=iQ l:=by
  have hlb:=hG.lb
  have hs:=hG.sb
  obtain ⟨o',e,g1,g2⟩:=anl (q:=qV l (dI 0 l)) hπ (fun j _=>Int.emod_nonneg _ (by omega)) (16384 - fE (qV l (dI 0 l)) l.length).toNat 0 (qV l (dI 0 l)) (by omega) (fun p hp=>by omega) (fun j _ _=>rfl)
  have e0:(fun j=>if ∃ p,p < 0∧π p=j then (-1:Int) else mV l (dI 0 l) j)=mV l (dI 0 l):=by
    funext j;rw [if_neg (by rintro ⟨p,p1,_⟩;omega)]
  rw [e0] at e
  unfold iQ
  have e':picks (16384 - fE (qV l (dI 0 l)) l.length).toNat ((List.range l.length).map fun j=>qV l (dI 0 l) j) ((List.range l.length).map fun j=>mV l (dI 0 l) j)=(List.range l.length).map o':=e
  rw [e']
  apply List.map_congr_left
  intro j hj
  have hj:j < l.length:=List.mem_range.1 hj
  by_cases c:∃ p:Nat,(p:Int) < 16384 - fE (qV l (dI 0 l)) l.length∧π p=j
  · obtain ⟨p,p1,rfl⟩:=c
    rw [h1 p p1,g1 p (by omega)]
  · rw [h2 j hj (fun p p1 p2=>c ⟨p,p1,p2⟩),g2 j hj (fun p p1 p2=>c ⟨p,by omega,p2⟩)]
theorem aqn {w:World} {base b n:Nat} {o:Nat→Int} (h:w.heap[b]? = some (.cells (vals o n) 2 (0,0))) (hb:base≤b) (hn:n≤1048576):Kd.R (Kd.int .i64) 2 w base (fun _=>True) (.slice (some ⟨b,0,none⟩) n n) ((List.range n).map o):=by
  refine Kd.zk ?_ (fun _ _=>trivial)
  refine ⟨by simp [encs],Or.inr ⟨b,n,vals o n,by simp,hb,h,by simp,by unfold maxLen;omega,by simp [ait],?_⟩⟩
  apply List.ext_getElem
  · simp [encs,vals]
  · intro i h1 h2
    simp [encs,vals]
def ama (l:List Int):Option (List Int × Int):=if (∀ x ∈ l,I64 x) then some (if jy l=0 then (iQ l,0) else ([],jy l)) else none
set_option maxHeartbeats 8000000 in
set_option maxRecDepth 100000 in
theorem anm (A0:Option Addr) (c0:Nat) (l0:List Int) (r1:List Int) (r2:Int) (w:World) (hr0:Kd.C (Kd.int .i64) w A0 l0.length l0) (hc0:l0.length≤c0) (h:ama l0=some (r1,r2)) :
    Calls Tryz.prog 109 #[.slice A0 l0.length c0] w fun e w'=>∃ v0_:Value,e = .returned (.tuple #[v0_,.int .i64 r2])∧Kd.R (Kd.int .i64) 2 w' w.heap.size (fun _=>True) v0_ r1∧Below w.heap.size w w':=by
  unfold ama at h
  by_cases hx:∀ x ∈ l0,I64 x
  · rw [if_pos hx] at h
    have hi:∀ i:Int,I64 (rd l0 i):=by
      intro i
      unfold rd
      rw [List.getD_eq_getElem?_getD]
      rcases Nat.lt_or_ge i.toNat l0.length with q|q
      · rw [List.getElem?_eq_getElem q];exact hx _ (List.getElem_mem _)
      · rw [List.getElem?_eq_none q];decide
    by_cases hk:jy l0=0
    · rw [if_pos hk] at h
      obtain ⟨rfl,rfl⟩:=Prod.mk.inj (Option.some.inj h)
      have G:=xA (fun i=>hi i) hk
      refine (aoi A0 c0 l0 w hr0 hc0 hi G.n0 G.n1 hk G.lb G.qb (ar0 G)).mono ?_
      rintro e w' ⟨π,o,b1,rfl,h1,h2,h3,h4,h5,h6⟩
      refine ⟨_,rfl,?_,h6⟩
      rw [← ar1 G h1 h2 h3]
      exact aqn h4 h5 G.n1
    · rw [if_neg hk] at h
      obtain ⟨rfl,rfl⟩:=Prod.mk.inj (Option.some.inj h)
      have hc:=afn A0 c0 l0 w hr0 hc0 hi
      have eCH:∀ args w,(callFunc 131 args).run Tryz.prog w = .ok (.enter 131 args) w:=enters_of Tryz.func131 (by kernel_rfl) rfl
      obtain ⟨n,hn⟩:∃ n,n=l0.length:=⟨_,rfl⟩
      obtain ⟨v,hv⟩:∃ v,v=jy l0:=⟨_,rfl⟩
      rw [← hn,← hv] at hc
      rw [← hv] at hk ⊢
      rw [← hn]
      clear hr0 hc0 h hx hi hn hv
      have bk:(v == 0)=false:=by simpa using hk
      have bk2:(v != 0)=true:=by simpa using hk
      go_enter Tryz.func109,Tryz.ntmps109
      go_wp2_with (go_at_fn 131;refine hc.mono ?_;rintro e w' ⟨rfl,hb⟩)
      go_ret2
      exact ⟨_,rfl,Kd.kF _ _ _ _ _,hb⟩
  · rw [if_neg hx] at h;exact absurd h (by simp)
end Go.Proofs.YtpondkggmcmpfaaGreatDoor.QA
namespace Go.Proofs.YtpondkggmcmpfaaGreatDoor.QA
open Go.RowKit Go.Proofs.YtpondkggmcmpfaaGreatDoorW.PrintWords Go.Proofs.YtpondkggmcmpfaaGreatDoorW.PrintLast Go.Proofs.YtpondkggmcmpfaaGreatDoorW.PrintMore Go.Proofs.YtpondkggmcmpfaaGreatDoor.T
set_option linter.unusedVariables false
set_option linter.unusedSimpArgs false
theorem vK (v:Int) (b T n:Nat):∀ (k o:Nat) (w:World) (f:Nat→Int),w.heap[b]? = some (.cells (vals f n) T (0,0)) →
    (w.setCells b o (List.replicate k (.int .i64 v))).heap[b]? = some (.cells (vals (fun j=>if o≤j∧j < o+k then v else f j) n) T (0,0))
  | 0,o,w,f,h=>by
    rw [List.replicate_zero,World.setCells,h]
    congr 2
    exact rX (fun i _=>by rw [if_neg (by omega)])
  | k+1,o,w,f,h=>by
    rw [List.replicate_succ,World.setCells]
    have h1:(w.setCell ⟨b,o,none⟩ (.int .i64 v)).heap[b]? = some (.cells (vals (upd f o v) n) T (0,0)):=by rw [heap_setCell_same _ _ _ _ _ _ h,adq]
    rw [vK v b T n k (o+1) _ _ h1]
    congr 2
    refine rX (fun i _ => ?_)
    unfold upd
    by_cases c:i=o
    · subst c;rw [if_pos (by omega:i≤i∧i < i+(k+1))];split <;> simp
    · by_cases c2:o+1≤i∧i < o+1+k
      · rw [if_pos c2,if_pos (by omega)]
      · rw [if_neg c2,if_neg c,if_neg (by omega)]
theorem below_setCells {w w':World} {b:Nat} (hb:w.heap.size≤b):∀ (vs:List Value) (o:Nat) (w':World),Below w.heap.size w w'→Below w.heap.size w (w'.setCells b o vs)
  | [],_,_,h=>h
  | v :: r,o,w',h=>by rw [World.setCells];exact below_setCells (w:=w) (w':=w') hb r (o+1) _ (h.setCell hb _)
set_option maxHeartbeats 8000000 in
set_option maxRecDepth 100000 in
theorem akO (A0:Option Addr) (c0:Nat) (v:Int) (n:Nat) (w:World) (hr0:Kd.C (Kd.int .i64) w A0 1 [v]) (hc0:1≤c0) (hn:1≤n∧n≤4096) :
    Calls Tryz.prog 150 #[.slice A0 1 c0,.int .i64 n] w fun e w'=>∃ b:Nat,e = .returned (.slice (some ⟨b,0,none⟩) n n)∧w.heap.size≤b∧w'.heap[b]? = some (.cells (vals (fun _=>v) n) 2 (0,0))∧Below w.heap.size w w':=by
  have mixed:Tryz.prog.follows .mixedOrders=true:=by kernel_rfl
  have hmul:=Tryz.bits_Mul 1 n (by omega) (by omega) w
  rw [show 1*n / 18446744073709551616=0 from by omega,show 1*n % 18446744073709551616=n from by omega] at hmul
  have eMU:∀ args w,(callFunc 173 args).run Tryz.prog w = .ok (.enter 173 args) w:=enters_of Tryz.func173 (by kernel_rfl) rfl
  obtain ⟨ad,ea,hx0⟩:=Kd.jF hr0 0 (by decide) (by decide)
  cases ea
  have hx:w.cell? ad=some (.int .i64 v):=by
    have e:ad.add (0:Int).toNat=ad:=by cases ad;rfl
    rw [e] at hx0;exact hx0
  have mk1:=acK (P:=Tryz.prog) 44 2 .i64 8 (by kernel_rfl) (by kernel_rfl) (by decide) n (by omega)
  have zn:¬ ((n:Int) < 0):=by omega
  have zn2:(0:Int)≤(n:Int):=by omega
  have w1:IntKind.u64.wrap (n:Int)=(n:Int):=by rw [mJ];omega
  have w2:IntKind.i64.wrap (n:Int)=(n:Int):=by rw [kU];exact aC (by omega) (by omega)
  clear hr0 hx0
  go_enter Tryz.func150,Tryz.ntmps150
  go_upto_region 7 with (go_at_fn 173;refine hmul.mono ?_;rintro e w' ⟨rfl,rfl⟩)
  obtain ⟨b,hb⟩:∃ b,b=w'.heap.size:=⟨_,rfl⟩
  have h0:(w'.alloc (.cells (madeCells #[.int .i64 0] n) 2)).heap[b]? = some (.cells (vals (fun _=>0) n) 2 (0,0)):=by rw [hb,yL _ _ _ rfl,aiu]
  have hx2:(w'.alloc (.cells (madeCells #[.int .i64 0] n) 2)).cell? ad=some (.int .i64 v):=(Below.cell ((Below.refl w'.heap.size w').alloc (Nat.le_refl _) _) (World.block_lt_of_cell? _ _ hx)).trans hx
  have hcp:=run_copy_cells (P:=Tryz.prog) (w'.alloc (.cells (madeCells #[.int .i64 0] n) 2)) 44 44 3 2 b 0 n n ad 1 c0 (List.replicate 1 (.int .i64 v)) (by kernel_rfl) (by kernel_rfl) (by rw [List.length_replicate];exact (Nat.min_eq_left hn.1).symm)
    (fun j u hj=>by cases j with
      | zero=>simp at hj;subst hj;exact (by cases ad;exact hx2)
      | succ j=>simp at hj)
    (fun j hj=>by rw [cell_of_heap (i:=0+j) h0 (pY _ (by simp at hj;omega))];rfl) (fun j hj=>frozen_of_heap h0) (by simp [Value.oneCell'])
  have hbl:=below_setCells (w:=w') (w':=w') (b:=b) (by omega) (List.replicate 1 (.int .i64 v)) 0 _ ((Below.refl w'.heap.size w').alloc (Nat.le_refl _) (.cells (madeCells #[.int .i64 0] n) 2))
  have h1:=vK v b 2 n 1 0 _ _ h0
  rw [List.length_replicate] at hcp
  rw [← hb]
  have HB:=aj.mk (show w'.heap.size≤b by omega)
  generalize w'.alloc (.cells (madeCells #[.int .i64 0] n) 2)=W1 at hcp h0 h1 hbl ⊢
  generalize W1.setCells b 0 (List.replicate 1 (.int .i64 v))=W2 at hcp h1 hbl
  have HBL:=aj.mk hbl
  have H1:=aj.mk (show W2.heap[b]? = some (.cells (vals (fun j=>if j < 1 then v else 0) n) 2 (0,0)) by rw [h1];congr 2;exact rX (fun i _=>by by_cases c:i < 1;rw [if_pos (by omega),if_pos c];rw [if_neg (by omega),if_neg c]))
  clear h0 h1 hbl mk1 hmul hx hx2 hb
  have hgi:goInt ((1:Nat):Int) = .int .i64 1:=rfl
  rw [hgi] at hcp
  go_wp2
  clear hcp hgi
  go_loopg [8] n (fun kx s8 wr=>∃ i:Nat,s8 = .int .i64 i∧1≤i∧i≤n∧n - i≤kx∧aj (Below w'.heap.size w' wr)∧aj (wr.heap[b]? = some (.cells (vals (fun j=>if j < i then v else 0) n) 2 (0,0))))
  case atStart=>exact ⟨1,rfl,by omega,by omega,by omega,HBL,H1⟩
  case round =>
    clear HBL H1
    obtain ⟨i,rfl,i1,i2,hk,HBL,H1⟩:=hrel
    by_cases hlt:(i:Int) < (n:Int)
    · obtain ⟨k,hk2⟩:∃ k,k=min i (n - i):=⟨_,rfl⟩
      have hk3:1≤k∧k≤i∧k≤n - i:=by omega
      have pi:(0:Int)≤(i:Int):=by omega
      have qi:(i:Int)≤(n:Int):=by omega
      have hcp:=fun m=>run_copy_cells (P:=Tryz.prog) (wr.drewN m) 44 44 3 2 b i (n - i) (n - i) ⟨b,0,none⟩ i n (List.replicate k (.int .i64 v)) (by kernel_rfl) (by kernel_rfl) (by rw [List.length_replicate];exact hk2)
        (fun j u hj=>by
          have hj2:j < k:=by
            apply Classical.byContradiction;intro q
            rw [List.getElem?_eq_none (by simp;omega)] at hj;exact absurd hj (by simp)
          rw [List.getElem?_replicate,if_pos hj2] at hj
          have:=cell_of_heap (i:=0+j) (w:=wr.drewN m) H1.out (pY _ (by omega))
          rw [if_pos (by omega)] at this
          rw [← hj,show (⟨b,0,none⟩:Addr).add j=⟨b,0+j,none⟩ from by unfold Addr.add;split <;> simp_all];exact this)
        (fun j hj=>by rw [cell_of_heap (i:=i+j) (w:=wr.drewN m) H1.out (pY _ (by simp at hj;omega))];rfl) (fun j hj=>frozen_of_heap (w:=wr.drewN m) H1.out) (by intro x hx;rw [List.eq_of_mem_replicate hx];rfl)
      have hb2:=fun m=>below_setCells (w:=w') (w':=w') (b:=b) HB.out (List.replicate k (.int .i64 v)) i (wr.drewN m) (aI HBL.out m)
      have h2:=fun m=>vK v b 2 n k i (wr.drewN m) _ H1.out
      simp only [List.length_replicate] at hcp
      have wik:IntKind.i64.wrap ((i:Int)+(k:Int))=(i:Int)+(k:Int):=by rw [kU];exact aC (by omega) (by omega)
      have hgi:goInt (k:Int) = .int .i64 (k:Int):=rfl
      have hcp1:(Builtin.copy_ #[44,44] 3 #[.slice (some ⟨b,i,none⟩) (n - i) (n - i),.slice (some ⟨b,0,none⟩) i n]).run Tryz.prog wr.drew = .ok (.int .i64 (k:Int)) (wr.drew.setCells b i (List.replicate k (.int .i64 v))):=hcp 1
      have HB2:=aj.mk (hb2 1)
      have H2:=aj.mk (h2 1)
      clear hcp hb2 h2 hgi hk2
      go_upto_region 9 with fail
      go_region_held3 (fun _=>True) (trivial) (fail)
      have HB3:aj (Below w'.heap.size w' (wr.drew.setCells b i (List.replicate k (.int .i64 v)))):=HB2
      have H3:aj ((wr.drew.setCells b i (List.replicate k (.int .i64 v))).heap[b]? = some (.cells (vals (fun j=>if i≤j∧j < i+k then v else if j < i then v else 0) n) 2 (0,0))):=H2
      clear HB2 H2 hcp1 H1 HBL
      generalize wr.drew.setCells b i (List.replicate k (.int .i64 v))=W3 at HB3 H3 ⊢
      go_wp2
      go_roundg (n - (i+k))
      case measure=>omega
      case rel =>
        refine ⟨i+k,by simp,by omega,by omega,Nat.le_refl _,HB3,⟨?_⟩⟩
        rw [H3.out]
        congr 2
        refine rX (fun j hj => ?_)
        by_cases c1:i≤j∧j < i+k
        · rw [if_pos c1,if_pos (by omega)]
        · rw [if_neg c1]
          by_cases c2:j < i
          · rw [if_pos c2,if_pos (by omega)]
          · rw [if_neg c2,if_neg (by omega)]
    · have hin:i=n:=by omega
      subst hin
      go_wp2
      go_ret
      refine ⟨b,rfl,HB.out,?_,HBL.out⟩
      rw [H1.out]
      congr 2
      exact rX (fun j hj=>by rw [if_pos hj])
def al9 (l:List Int) (c:Int):Option (List Int):=if l.length=1∧1≤c∧c≤4096 then some (List.replicate c.toNat (rd l 0)) else none
theorem ano (A0:Option Addr) (c0:Nat) (l0:List Int) (a1:Int) (r:List Int) (w:World) (hr0:Kd.C (Kd.int .i64) w A0 l0.length l0) (hc0:l0.length≤c0) (h:al9 l0 a1=some r) :
    Calls Tryz.prog 150 #[.slice A0 l0.length c0,.int .i64 a1] w fun e w'=>∃ v0_:Value,e = .returned v0_∧Kd.R (Kd.int .i64) 2 w' w.heap.size (fun _=>True) v0_ r∧Below w.heap.size w w':=by
  unfold al9 at h
  by_cases c:l0.length=1∧1≤a1∧a1≤4096
  · rw [if_pos c] at h
    obtain rfl:=Option.some.inj h
    obtain ⟨v,rfl⟩:∃ v,l0=[v]:=List.length_eq_one_iff.1 c.1
    obtain ⟨n,rfl⟩:=Int.eq_ofNat_of_zero_le (show 0≤a1 by omega)
    refine (akO A0 c0 v n w hr0 hc0 (by omega)).mono ?_
    rintro e w' ⟨b,rfl,h1,h2,h3⟩
    refine ⟨_,rfl,?_,h3⟩
    have e:List.replicate ((n:Int)).toNat (rd [v] 0)=(List.range n).map (fun _=>v):=by
      apply List.ext_getElem
      · simp
      · intro i h1 h2;simp [rd]
    rw [e]
    refine Kd.zk ?_ (fun _ _=>trivial)
    refine ⟨by simp [encs],Or.inr ⟨b,n,vals (fun _=>v) n,by simp,h1,h2,by simp,by unfold maxLen;omega,by simp [ait],?_⟩⟩
    apply List.ext_getElem
    · simp [encs,vals]
    · intro i h1 h2
      simp [encs,vals]
  · rw [if_neg c] at h;exact absurd h (by simp)
end Go.Proofs.YtpondkggmcmpfaaGreatDoor.QA
namespace Go.Proofs.YtpondkggmcmpfaaGreatDoor.QA
open Go.Proofs.YtpondkggmcmpfaaGreatDoor.T
open Go.RowKit Go.Proofs.YtpondkggmcmpfaaGreatDoorW.PrintWords Go.Proofs.YtpondkggmcmpfaaGreatDoorW.PrintLast Go.Proofs.YtpondkggmcmpfaaGreatDoorW.PrintMore
attribute [local go_sem] dY dS dU fA fB
set_option linter.unusedVariables false
set_option linter.unusedSimpArgs false
def iO.f (a0:List Int):Option (List Int × Int):=ama a0
theorem iO.calls (A0:Option Addr) (c0:Nat) (l0 r1:List Int) (r2:Int) (w:World) (hr0:Kd.C (Kd.int .i64) w A0 l0.length l0) (hc0:l0.length≤c0) (h:iO.f l0=some (r1,r2)) :
  Calls Tryz.prog 109 #[.slice A0 l0.length c0] w fun e w'=>∃ v0_:Value,e = .returned (.tuple #[v0_,.int .i64 r2])∧Kd.R (Kd.int .i64) 2 w' w.heap.size (fun _=>True) v0_ r1∧Below w.heap.size w w':=anm A0 c0 l0 r1 r2 w hr0 hc0 h
end Go.Proofs.YtpondkggmcmpfaaGreatDoor.QA
namespace Go.Proofs.YtpondkggmcmpfaaGreatDoor.QA
open Go.Proofs.YtpondkggmcmpfaaGreatDoor.T
open Go.RowKit Go.Proofs.YtpondkggmcmpfaaGreatDoorW.PrintWords Go.Proofs.YtpondkggmcmpfaaGreatDoorW.PrintLast Go.Proofs.YtpondkggmcmpfaaGreatDoorW.PrintMore
attribute [local go_sem] dY dS dU fA fB
set_option linter.unusedVariables false
set_option linter.unusedSimpArgs false
def iZ.f (a0:List Int) (a1:Int):Option (List Int):=al9 a0 a1
theorem iZ.calls (A0:Option Addr) (c0:Nat) (l0:List Int) (a1:Int) (r:List Int) (w:World) (hr0:Kd.C (Kd.int .i64) w A0 l0.length l0) (hc0:l0.length≤c0) (h:iZ.f l0 a1=some r) :
  Calls Tryz.prog 150 #[.slice A0 l0.length c0,.int .i64 a1] w fun e w'=>∃ v0_:Value,e = .returned v0_∧Kd.R (Kd.int .i64) 2 w' w.heap.size (fun _=>True) v0_ r∧Below w.heap.size w w':=ano A0 c0 l0 a1 r w hr0 hc0 h
end Go.Proofs.YtpondkggmcmpfaaGreatDoor.QA
namespace Go.Proofs.YtpondkggmcmpfaaGreatDoor.QA
open Go.Proofs.YtpondkggmcmpfaaGreatDoor.T
open Go.RowKit Go.Proofs.YtpondkggmcmpfaaGreatDoorW.PrintWords Go.Proofs.YtpondkggmcmpfaaGreatDoorW.PrintLast Go.Proofs.YtpondkggmcmpfaaGreatDoorW.PrintMore
attribute [local go_sem] dY dS dU fA fB
set_option linter.unusedVariables false
set_option linter.unusedSimpArgs false
def lq.j0:Nat→Int→Bool→Option (List Int × Int)
 | 0,_,_=>none
 | k+1,x0,x9=>if x9=true then (some (([]:List Int),7)) else ((iZ.f (([1]:List Int)) (wrap64 ((wrap64 (2*x0))+1))).bind fun af4=>((fM.f k af4).bind fun ag9=>(some (ag9.1,ag9.2))))
def lq.f (k:Nat) (a0:Int):Option (List Int × Int):=if a0 < 0 then (lq.j0 k a0 true) else (lq.j0 k a0 (decide (a0 > 511)))
set_option maxHeartbeats 8000000 in
set_option maxRecDepth 100000 in
theorem lq.calls (k:Nat) (a0:Int) (r1:List Int) (r2:Int) (w:World) (h:lq.f k a0=some (r1,r2)) :
  Calls Tryz.prog 126 #[.int .i64 a0] w fun e w'=>∃ v0_:Value,e = .returned (.tuple #[v0_,.int .i64 r2])∧Kd.R (Kd.int .i64) 2 w' w.heap.size (fun _=>True) v0_ r1∧Below w.heap.size w w':=by
 have HB:=aj.mk (Below.refl w.heap.size w)
 have H:=h
 clear h
 unfold lq.f at H
 have HC2:=aj.mk H
 clear H
 go_enter Tryz.func126,Tryz.ntmps126
 go_upto_region 1 with (fail)
 go_cut [9] (fun v9 wc=>∃ (kq:Nat) (sG:Bool),v9 = .bool sG∧aj (lq.j0 kq a0 sG=some (r1,r2))∧aj (kq≤k)∧aj (Below w.heap.size w wc))
 case first =>
  have H:=HC2.out
  clear HC2
  by_cases c3:a0 < 0
  ·rw [if_pos c3] at H
   have fQ:=decide_eq_true c3
   clear c3
   (first|rw [fQ]|(simp only [bW,dA];rw [fQ])|skip)
   have H':=aj.mk H
   clear H
   go_wp2
   go_meet
   case rel=>exact ⟨_,(true),zT,H',⟨by first|omega|exact Nat.le_refl _⟩,⟨zB⟩⟩
  ·rw [if_neg c3] at H
   have fQ:=decide_eq_false c3
   clear c3
   (first|rw [fQ]|(simp only [bW,dA];rw [fQ])|skip)
   have H':=aj.mk H
   clear H
   go_wp2
   go_meet
   case rel=>exact ⟨_,(decide (a0 > 511)),zT,H',⟨by first|omega|exact Nat.le_refl _⟩,⟨zB⟩⟩
 case rest =>
  clear HC2
  obtain ⟨kq,sG,rfl,HA,HJ1,HB⟩:=hcut
  cases kq with
  | zero=>exact absurd HA.out (by simp [lq.j0])
  | succ kj1 =>
   have H:=HA.out
   clear HA
   simp only [lq.j0] at H
   by_cases c4:sG=true
   ·subst c4
    rw [if_pos rfl] at H;try dsimp only at H
    simp only [Option.some.injEq,Prod.mk.injEq] at H
    obtain ⟨rfl,rfl⟩:=H
    go_wp2
    go_ret2
    exact ⟨_,zS,by first|exact Kd.kF _ _ _ _ _|exact Kd.oQ _ _ _ _ _|exact Kd.nN _ _ _ _ _|exact Kd.oU _ _ _ _ _|exact Kd.oK _ _ _ _ _,zB⟩
   ·replace c4:=Bool.eq_false_iff.mpr c4
    subst c4
    rw [if_neg (show ¬ (false=true) by decide)] at H;try dsimp only at H
    obtain ⟨aqo,aha⟩:∃ y_:List Int,y_=(([1]:List Int)):=⟨_,rfl⟩
    replace H:((iZ.f aqo (wrap64 ((wrap64 (2*a0))+1))).bind fun af4=>((fM.f kj1 af4).bind fun ag9=>(some (ag9.1,ag9.2))))=some (r1,r2):=by first|(rw [aha];with_reducible exact H)|(have H2_:=(Option.bind_some _ _).symm.trans H;rw [aha];with_reducible exact H2_)|(have H2_:=(Option.bind_some _ _).symm.trans H;with_reducible exact H2_)|with_reducible exact H|(rw [aha];exact H)|exact H
    have arb:=aj.mk aha
    clear aha
    replace H:=zO H
    obtain ⟨af4,A5,H⟩:=H
    try dsimp only at H
    replace H:=zO H
    obtain ⟨⟨awC,t206⟩,A6,H⟩:=H
    try dsimp only at H
    simp only [Option.some.injEq,Prod.mk.injEq] at H
    obtain ⟨rfl,rfl⟩:=H
    go_wp2_with (first|((with_reducible refine bK (N:=10) rfl ?_);refine Kd.abJ (Kd.int .i64) _ 2 ?hg (N:=10) ?hd (xs:=([1]:List Int)) (inner:=[.int .i64 1]) (ok:=fun _=>True) (okp:=fun _=>True) ?hr ?hp (fun _ hk=>hk) trivial (Below.refl _ _) (Nat.le_refl _) (by simp) ?_;(case hd=>rfl);(case hg=>rfl);(case hr=>first|(go_simp;done)|(go_simp;rfl));(case hp=>exact (ji.one (show Kd.M (Kd.int .i64) _ _ _ 1 [.int .i64 1] from rfl) (ji.none _ _)));intro aBw w7 ho8 hb hg_ uP;clear hg_ uP;(first|rw [← arb.out] at ho8|(simp only [Int.reduceToNat] at ho8;rw [← arb.out] at ho8));obtain ⟨abb,HB⟩:=zA2 (Kd.fZ ho8 (bF zB)) (ak zB hb);clear hb ho8;obtain ⟨Ao9,co9,eo9⟩:=Kd.gB abb.out;subst eo9)|((with_reducible refine aA (f:=150) rfl ?_);refine aH (some 14) rfl rfl Tryz.func150 (by kernel_rfl) rfl #[.slice Ao9 aqo.length co9,.int .i64 (wrap64 ((wrap64 (2*a0))+1))] rfl zL ?_;(with_reducible refine (iZ.calls _ _ aqo (wrap64 ((wrap64 (2*a0))+1)) af4 _ ?iJ ?iK A5.out).mono ?_);(case iJ=>repeat (first|exact (Kd.dM abb.out).2.2|(with_reducible refine Kd.jg ?_ _)|(with_reducible refine Kd.jE ?_ _)|(with_reducible refine Kd.kJ ?_)));(case iK=>exact (Kd.dM abb.out).2.1);rintro e w10 ⟨v203,rfl,ho0,hb⟩;refine ⟨_,rfl,?_⟩;obtain ⟨abb,ae3,HB⟩:=zA3 (Kd.iF (by (with_reducible repeat (first|apply Kd.aK|apply Kd.aQ|apply Kd.aW));exact abb.out) (Kd.jd ho0) hb) (Kd.fZ (Kd.jR ho0 (Kd.lg (by (with_reducible repeat (first|apply Kd.aK|apply Kd.aQ|apply Kd.aW));exact abb.out))) (bF zB)) (ak zB hb);(try clear hb);(try clear ho0);obtain ⟨awD,awE,awF⟩:=Kd.gB ae3.out;subst awF)|((with_reducible refine aA (f:=127) rfl ?_);refine aH (some 15) rfl rfl Tryz.func127 (by kernel_rfl) rfl #[.slice awD af4.length awE] rfl zL ?_;(with_reducible refine (fM.calls kj1 _ _ af4 awC t206 _ ?iJ ?iK A6.out).mono ?_);(case iJ=>repeat (first|exact (Kd.dM ae3.out).2.2|(with_reducible refine Kd.jg ?_ _)|(with_reducible refine Kd.jE ?_ _)|(with_reducible refine Kd.kJ ?_)));(case iK=>exact (Kd.dM ae3.out).2.1);rintro e w12 ⟨aBx,rfl,ho0,hb⟩;refine ⟨_,rfl,?_⟩;obtain ⟨abb,ae3,avE,HB⟩:=zA4 (Kd.iF (by (with_reducible repeat (first|apply Kd.aK|apply Kd.aQ|apply Kd.aW));exact abb.out) (Kd.jd ho0) hb) (Kd.iF (by (with_reducible repeat (first|apply Kd.aK|apply Kd.aQ|apply Kd.aW));exact ae3.out) (Kd.jd ho0) hb) (Kd.fZ (Kd.jR (Kd.jR ho0 (Kd.lg (by (with_reducible repeat (first|apply Kd.aK|apply Kd.aQ|apply Kd.aW));exact abb.out))) (Kd.lg (by (with_reducible repeat (first|apply Kd.aK|apply Kd.aQ|apply Kd.aW));exact ae3.out))) (bF zB)) (ak zB hb);(try clear hb);(try clear ho0)))
    go_ret2
    exact ⟨_,zS,by (with_reducible repeat (first|apply Kd.aK|apply Kd.aQ|apply Kd.aW));exact Kd.eF avE.out (fun _ hk=>trivial),zB⟩
def lK.f (k:Nat) (bJ dB sZ tq:Int) (oI o9:List Int) (vC tu uz:Int):Option (List Int × List Int × Int):=if bJ=0 then ((bn.f k sZ).bind fun anp=>(some (anp.1,anp.1,anp.2))) else (if bJ=1 then ((lq.f k tq).bind fun anq=>(some (anq.1,anq.1,anq.2))) else ((fM.f k oI).bind fun anr=>(if anr.2=0 then ((fM.f k o9).bind fun ard=>(some (anr.1,ard.1,ard.2))) else (some (([]:List Int),([]:List Int),anr.2)))))
set_option maxHeartbeats 8000000 in
set_option maxRecDepth 100000 in
theorem lK.calls (k:Nat) (bJ dB sZ tq:Int) (zo:Option Addr) (zu:Nat) (oI:List Int) (aaQ:Option Addr) (aaR:Nat) (o9:List Int) (vC tu uz:Int) (r1 r2:List Int) (r3:Int) (w:World) (agj:Kd.C (Kd.int .i64) w zo oI.length oI) (agk:oI.length≤zu) (agl:Kd.C (Kd.int .i64) w aaQ o9.length o9) (agm:o9.length≤aaR) (h:lK.f k bJ dB sZ tq oI o9 vC tu uz=some (r1,r2,r3)) :
  Calls Tryz.prog 105 #[.agg #[.int .i64 bJ,.int .i64 dB,.int .i64 sZ,.int .i64 tq,.slice zo oI.length zu,.slice aaQ o9.length aaR,.int .i64 vC,.int .i64 tu,.int .i64 uz]] w fun e w'=>∃ v0_ v1_:Value,e = .returned (.tuple #[v0_,v1_,.int .i64 r3])∧Kd.V (Kd.int .i64) 2 w' w.heap.size (fun k_=>(w.heap.size≤k_)) v0_ r1∧Kd.V (Kd.int .i64) 2 w' w.heap.size (fun k_=>(w.heap.size≤k_)) v1_ r2∧Below w.heap.size w w':=by
 have avJ:=Tryz.underlying47
 have alS:=aj.mk agj
 have alT:=aj.mk agk
 clear agj agk
 have aqy:=aj.mk agl
 have aqz:=aj.mk agm
 clear agl agm
 have HB:=aj.mk (Below.refl w.heap.size w)
 have H:=h
 clear h
 unfold lK.f at H
 by_cases c2:bJ=0
 ·rw [if_pos c2] at H
  have lW:(bJ == 0)=true:=beq_iff_eq.mpr c2
  have aqp:(bJ != 0)=false:=bne_eq_false_iff_eq.mpr c2
  clear c2
  replace H:=zO H
  obtain ⟨⟨t210,awG⟩,A3,H⟩:=H
  try dsimp only at H
  simp only [Option.some.injEq,Prod.mk.injEq] at H
  obtain ⟨rfl,rfl,rfl⟩:=H
  go_enter Tryz.func105,Tryz.ntmps105
  go_wp2_with (first|((with_reducible refine bK (N:=1) rfl ?_);refine bT zR (N:=1) zR (cs := #[.int .i64 bJ,.int .i64 dB,.int .i64 sZ,.int .i64 tq,.slice zo oI.length zu,.slice aaQ o9.length aaR,.int .i64 vC,.int .i64 tu,.int .i64 uz]) (t:=47) zG ?_;intro ant hg w4 hbox hb;obtain ⟨HB,oz,anu,anv⟩:=zA4 (ak zB hb) hbox (zg hg zB) (zg hg zB);clear hb hbox hg;obtain ⟨_,_,_,_,_,_,_,_,_⟩:=zC9 oz.out;obtain ⟨_,_,_,_,_,_,_,_,_⟩:=zF9 oz.out)|((with_reducible refine aA (f:=110) rfl ?_);refine aH (some 12) rfl rfl Tryz.func110 (by kernel_rfl) rfl #[.int .i64 sZ] rfl zL ?_;(with_reducible refine (bn.calls k sZ t210 awG _ A3.out).mono ?_);rintro e w6 ⟨v212,rfl,ho0,hb⟩;refine ⟨_,rfl,?_⟩;obtain ⟨arf,oz,HB⟩:=zA3 (Kd.fZ (Kd.adH (M:=fun k_=>(w.heap.size≤k_)) ho0 (bF zB) (fun k_ h_=>h_)) (bF zB)) (ay (zK oz) hb) (ak zB hb);(try clear hb);(try clear ho0)))
  go_ret3
  exact ⟨_,_,zS,Kd.R_V (by (with_reducible repeat (first|apply Kd.aK|apply Kd.aQ|apply Kd.aW));exact Kd.eF arf.out (fun _ hk=>hk.1)),Kd.R_V (by (with_reducible repeat (first|apply Kd.aK|apply Kd.aQ|apply Kd.aW));exact Kd.eF arf.out (fun _ hk=>hk.1)),zB⟩
 ·rw [if_neg c2] at H
  have lW:(bJ == 0)=false:=beq_eq_false_iff_ne.mpr c2
  have aqp:(bJ != 0)=true:=bne_iff_ne.mpr c2
  by_cases c7:bJ=1
  ·rw [if_pos c7] at H
   have jw:(bJ == 1)=true:=beq_iff_eq.mpr c7
   have abl:(bJ != 1)=false:=bne_eq_false_iff_eq.mpr c7
   clear c7
   replace H:=zO H
   obtain ⟨⟨awH,awI⟩,A8,H⟩:=H
   try dsimp only at H
   simp only [Option.some.injEq,Prod.mk.injEq] at H
   obtain ⟨rfl,rfl,rfl⟩:=H
   go_enter Tryz.func105,Tryz.ntmps105
   go_wp2_with (first|((with_reducible refine bK (N:=1) rfl ?_);refine bT zR (N:=1) zR (cs := #[.int .i64 bJ,.int .i64 dB,.int .i64 sZ,.int .i64 tq,.slice zo oI.length zu,.slice aaQ o9.length aaR,.int .i64 vC,.int .i64 tu,.int .i64 uz]) (t:=47) zG ?_;intro ant hg w9 hbox hb;obtain ⟨HB,oz,anu,anv⟩:=zA4 (ak zB hb) hbox (zg hg zB) (zg hg zB);clear hb hbox hg;obtain ⟨_,_,_,_,_,_,_,_,_⟩:=zC9 oz.out;obtain ⟨_,_,_,_,_,_,_,_,_⟩:=zF9 oz.out)|((with_reducible refine aA (f:=126) rfl ?_);refine aH (some 23) rfl rfl Tryz.func126 (by kernel_rfl) rfl #[.int .i64 tq] rfl zL ?_;(with_reducible refine (lq.calls k tq awH awI _ A8.out).mono ?_);rintro e w11 ⟨aBy,rfl,ho0,hb⟩;refine ⟨_,rfl,?_⟩;obtain ⟨arh,oz,HB⟩:=zA3 (Kd.fZ (Kd.adH (M:=fun k_=>(w.heap.size≤k_)) ho0 (bF zB) (fun k_ h_=>h_)) (bF zB)) (ay (zK oz) hb) (ak zB hb);(try clear hb);(try clear ho0)))
   go_ret3
   exact ⟨_,_,zS,Kd.R_V (by (with_reducible repeat (first|apply Kd.aK|apply Kd.aQ|apply Kd.aW));exact Kd.eF arh.out (fun _ hk=>hk.1)),Kd.R_V (by (with_reducible repeat (first|apply Kd.aK|apply Kd.aQ|apply Kd.aW));exact Kd.eF arh.out (fun _ hk=>hk.1)),zB⟩
  ·rw [if_neg c7] at H
   have jw:(bJ == 1)=false:=beq_eq_false_iff_ne.mpr c7
   have abl:(bJ != 1)=true:=bne_iff_ne.mpr c7
   replace H:=zO H
   obtain ⟨⟨t218,af5⟩,A12,H⟩:=H
   try dsimp only at H
   by_cases c13:af5=0
   ·rw [if_pos c13] at H
    have abV:(af5 == 0)=true:=beq_iff_eq.mpr c13
    have am0:(af5 != 0)=false:=bne_eq_false_iff_eq.mpr c13
    clear c13
    replace H:=zO H
    obtain ⟨⟨t222,awJ⟩,A14,H⟩:=H
    try dsimp only at H
    simp only [Option.some.injEq,Prod.mk.injEq] at H
    obtain ⟨rfl,rfl,rfl⟩:=H
    go_enter Tryz.func105,Tryz.ntmps105
    go_wp2_with (first|((with_reducible refine bK (N:=1) rfl ?_);refine bT zR (N:=1) zR (cs := #[.int .i64 bJ,.int .i64 dB,.int .i64 sZ,.int .i64 tq,.slice zo oI.length zu,.slice aaQ o9.length aaR,.int .i64 vC,.int .i64 tu,.int .i64 uz]) (t:=47) zG ?_;intro ant hg w15 hbox hb;obtain ⟨HB,oz,anu,anv⟩:=zA4 (ak zB hb) hbox (zg hg zB) (zg hg zB);clear hb hbox hg;obtain ⟨_,_,_,_,_,_,_,_,_⟩:=zC9 oz.out;obtain ⟨_,_,_,_,_,_,_,_,_⟩:=zF9 oz.out)|((with_reducible refine aA (f:=127) rfl ?_);refine aH (some 32) rfl rfl Tryz.func127 (by kernel_rfl) rfl #[.slice zo oI.length zu] rfl zL ?_;(with_reducible refine (fM.calls k _ _ oI t218 af5 _ ?iJ ?iK A12.out).mono ?_);(case iJ=>repeat (first|exact (Kd.bY alS.out HB.out)|(with_reducible refine Kd.jg ?_ _)|(with_reducible refine Kd.jE ?_ _)|(with_reducible refine Kd.kJ ?_)));(case iK=>exact alT.out);rintro e w17 ⟨awK,rfl,ho0,hb⟩;refine ⟨_,rfl,?_⟩;obtain ⟨ahb,oz,HB⟩:=zA3 (Kd.fZ (Kd.adH (M:=fun k_=>(w.heap.size≤k_)) ho0 (bF zB) (fun k_ h_=>h_)) (bF zB)) (ay (zK oz) hb) (ak zB hb);(try clear hb);(try clear ho0);obtain ⟨_,_,_,_,_,_,_,_,_⟩:=zC9 oz.out;obtain ⟨_,_,_,_,_,_,_,_,_⟩:=zF9 oz.out)|((with_reducible refine aA (f:=127) rfl ?_);refine aH (some 41) rfl rfl Tryz.func127 (by kernel_rfl) rfl #[.slice aaQ o9.length aaR] rfl zL ?_;(with_reducible refine (fM.calls k _ _ o9 t222 awJ _ ?iJ ?iK A14.out).mono ?_);(case iJ=>repeat (first|exact (Kd.bY aqy.out HB.out)|(with_reducible refine Kd.jg ?_ _)|(with_reducible refine Kd.jE ?_ _)|(with_reducible refine Kd.kJ ?_)));(case iK=>exact aqz.out);rintro e w19 ⟨aBz,rfl,ho0,hb⟩;refine ⟨_,rfl,?_⟩;obtain ⟨ahb,avF,oz,HB⟩:=zA4 (Kd.iF (by (with_reducible repeat (first|apply Kd.aK|apply Kd.aQ|apply Kd.aW));exact ahb.out) (Kd.jd ho0) hb) (Kd.fZ (Kd.jR (Kd.adH (M:=fun k_=>(w.heap.size≤k_)) ho0 (bF zB) (fun k_ h_=>h_)) (Kd.lg (by (with_reducible repeat (first|apply Kd.aK|apply Kd.aQ|apply Kd.aW));exact ahb.out))) (bF zB)) (ay (zK oz) hb) (ak zB hb);(try clear hb);(try clear ho0)))
    go_ret3
    exact ⟨_,_,zS,Kd.R_V (by (with_reducible repeat (first|apply Kd.aK|apply Kd.aQ|apply Kd.aW));exact Kd.eF ahb.out (fun _ hk=>hk.1.1)),Kd.R_V (by (with_reducible repeat (first|apply Kd.aK|apply Kd.aQ|apply Kd.aW));exact Kd.eF avF.out (fun _ hk=>hk.1.1)),zB⟩
   ·rw [if_neg c13] at H
    have abV:(af5 == 0)=false:=beq_eq_false_iff_ne.mpr c13
    have am0:(af5 != 0)=true:=bne_iff_ne.mpr c13
    simp only [Option.some.injEq,Prod.mk.injEq] at H
    obtain ⟨rfl,rfl,rfl⟩:=H
    go_enter Tryz.func105,Tryz.ntmps105
    go_wp2_with (first|((with_reducible refine bK (N:=1) rfl ?_);refine bT zR (N:=1) zR (cs := #[.int .i64 bJ,.int .i64 dB,.int .i64 sZ,.int .i64 tq,.slice zo oI.length zu,.slice aaQ o9.length aaR,.int .i64 vC,.int .i64 tu,.int .i64 uz]) (t:=47) zG ?_;intro ant hg w20 hbox hb;obtain ⟨HB,oz,anu,anv⟩:=zA4 (ak zB hb) hbox (zg hg zB) (zg hg zB);clear hb hbox hg;obtain ⟨_,_,_,_,_,_,_,_,_⟩:=zC9 oz.out;obtain ⟨_,_,_,_,_,_,_,_,_⟩:=zF9 oz.out)|((with_reducible refine aA (f:=127) rfl ?_);refine aH (some 32) rfl rfl Tryz.func127 (by kernel_rfl) rfl #[.slice zo oI.length zu] rfl zL ?_;(with_reducible refine (fM.calls k _ _ oI t218 af5 _ ?iJ ?iK A12.out).mono ?_);(case iJ=>repeat (first|exact (Kd.bY alS.out HB.out)|(with_reducible refine Kd.jg ?_ _)|(with_reducible refine Kd.jE ?_ _)|(with_reducible refine Kd.kJ ?_)));(case iK=>exact alT.out);rintro e w22 ⟨awK,rfl,ho0,hb⟩;refine ⟨_,rfl,?_⟩;obtain ⟨ahb,oz,HB⟩:=zA3 (Kd.fZ (Kd.adH (M:=fun k_=>(w.heap.size≤k_)) ho0 (bF zB) (fun k_ h_=>h_)) (bF zB)) (ay (zK oz) hb) (ak zB hb);(try clear hb);(try clear ho0)))
    go_ret3
    exact ⟨_,_,zS,(by first|exact Kd.nN _ _ _ _ _|exact Kd.R_V (Kd.kF _ _ _ 0 _)),(by first|exact Kd.nN _ _ _ _ _|exact Kd.R_V (Kd.kF _ _ _ 0 _)),zB⟩
def jq.f (k:Nat):Option (Bool):=(iw.f k 0 4 2 1).bind fun wQ=>(if wQ.1=2 then (if (wQ.2.length:Int)=2 then (if 0 < (wQ.2.length:Int) then (if (rd wQ.2 0)=536870912 then (if 1 < (wQ.2.length:Int) then (if (rd wQ.2 1)=536870912 then ((fK.f k 0 1).bind fun t236=>(if t236=1073741824 then ((fK.f k 1 2).bind fun akP=>(some (akP == 603979776))) else (some false))) else (some false)) else (none)) else (some false)) else (none)) else (some false)) else (some false))
theorem jq.mono:∀ k,LeO (jq.f k ) (jq.f (k+1) ):=by
 intro k
 unfold jq.f
 repeat' (with_reducible first|exact fK.mono _ _ _|exact iw.mono _ _ _ _ _|exact zM|refine LeO.ite ?_ ?_|refine LeO.bind ?_ (fun _ => ?_))
set_option maxHeartbeats 8000000 in
set_option maxRecDepth 100000 in
theorem jq.calls (k:Nat) (r:Bool) (w:World) (hG:GL w) (h:jq.f k=some r) :
  Calls Tryz.prog 88 #[] w fun e w'=>e = .returned (.bool r)∧Below w.heap.size w w':=by
 have HB:=aj.mk (Below.refl w.heap.size w)
 have H:((iw.f k 0 4 2 1).bind fun wQ=>(if wQ.1=2 then (if (wQ.2.length:Int)=2 then (if 0 < (wQ.2.length:Int) then (if (rd wQ.2 0)=536870912 then (if 1 < (wQ.2.length:Int) then (if (rd wQ.2 1)=536870912 then ((fK.f k 0 1).bind fun t236=>(if t236=1073741824 then ((fK.f k 1 2).bind fun akP=>(some (akP == 603979776))) else (some false))) else (some false)) else (none)) else (some false)) else (none)) else (some false)) else (some false)))=some r:=h
 clear h
 replace H:=zO H
 obtain ⟨⟨abE,kH⟩,A1,H⟩:=H
 try dsimp only at H
 by_cases c2:abE=2
 ·rw [if_pos c2] at H
  have lW:(abE == 2)=true:=beq_iff_eq.mpr c2
  have aqp:(abE != 2)=false:=bne_eq_false_iff_eq.mpr c2
  clear c2
  by_cases c3:(kH.length:Int)=2
  ·rw [if_pos c3] at H
   have fQ:((kH.length:Int) == 2)=true:=beq_iff_eq.mpr c3
   have wS:((kH.length:Int) != 2)=false:=bne_eq_false_iff_eq.mpr c3
   clear c3
   by_cases c4:0 < (kH.length:Int)
   ·rw [if_pos c4] at H
    have fV:=decide_eq_true c4
    have acS:decide (0 < kH.length)=true:=decide_eq_true (by omega)
    clear c4
    by_cases c5:(rd kH 0)=536870912
    ·rw [if_pos c5] at H
     have iM:((rd kH 0) == 536870912)=true:=beq_iff_eq.mpr c5
     have abA:((rd kH 0) != 536870912)=false:=bne_eq_false_iff_eq.mpr c5
     clear c5
     by_cases c6:1 < (kH.length:Int)
     ·rw [if_pos c6] at H
      have iy:=decide_eq_true c6
      have uD:decide (1 < kH.length)=true:=decide_eq_true (by omega)
      clear c6
      by_cases c7:(rd kH 1)=536870912
      ·rw [if_pos c7] at H
       have jw:((rd kH 1) == 536870912)=true:=beq_iff_eq.mpr c7
       have abl:((rd kH 1) != 536870912)=false:=bne_eq_false_iff_eq.mpr c7
       clear c7
       replace H:=zO H
       obtain ⟨t236,A8,H⟩:=H
       try dsimp only at H
       by_cases c9:t236=1073741824
       ·rw [if_pos c9] at H
        have qO:(t236 == 1073741824)=true:=beq_iff_eq.mpr c9
        have afu:(t236 != 1073741824)=false:=bne_eq_false_iff_eq.mpr c9
        clear c9
        replace H:=zO H
        obtain ⟨akP,A10,H⟩:=H
        try dsimp only at H
        obtain rfl:=Option.some.inj H
        go_enter Tryz.func88,Tryz.ntmps88
        go_wp2_with (first|((with_reducible refine aA (f:=107) rfl ?_);refine aH (some 4) rfl rfl Tryz.func107 (by kernel_rfl) rfl #[.int .i64 0,.int .i64 4,.int .i64 2,.int .i64 1] rfl zL ?_;(with_reducible refine (iw.calls k 0 4 2 1 abE kH _ (by exact GL.below hG (by repeat (first|(with_reducible first|exact HB.out|apply aT|apply aI|apply bg)|exact HB.out|exact Below.refl _ _))) A1.out).mono ?_);rintro e w11 ⟨v232,rfl,ho0,hb⟩;refine ⟨_,rfl,?_⟩;obtain ⟨oC,HB⟩:=zA2 (Kd.fZ ho0 (bF zB)) (ak zB hb);(try clear hb);(try clear ho0);obtain ⟨aBA,aBB,awL⟩:=Kd.gB oC.out;subst awL;have xW:0≤(0:Int):=(by omega);have xX:0 < (kH.length:Int):=of_decide_eq_true (by first|(with_reducible assumption)|assumption);obtain ⟨ae4,e234,uf⟩:=Kd.jF (Kd.dM oC.out).2.2 0 xW xX;cases e234;have anw:(0 < kH.length)=True:=eq_true (by omega);(try rw [show ((0:Int)).toNat=0 from rfl] at uf);(try rw [Addr.add_zero'] at uf);replace xW:=eq_true xW;replace xX:=eq_true xX;have abG:0≤(1:Int):=(by omega);have abH:1 < (kH.length:Int):=of_decide_eq_true (by first|(with_reducible assumption)|assumption);obtain ⟨ahc,akQ,yD⟩:=Kd.jF (Kd.dM oC.out).2.2 1 abG abH;obtain rfl:ae4=ahc:=(by injection akQ);(try simp only [show (1:Int).toNat=1 from rfl,Nat.reduceMul,Nat.reduceEqDiff,Go.Addr.add,↓reduceIte] at yD);have ari:(1 < kH.length)=True:=eq_true (by omega);(try rw [show ((1:Int)).toNat=1 from rfl] at yD);replace abG:=eq_true abG;replace abH:=eq_true abH)|(go_at_call 108;(with_reducible refine (fK.calls k 0 1 t236 _ A8.out).mono ?_);rintro e w13 ⟨rfl,hb⟩;obtain ⟨oC,HB⟩:=zA2 (Kd.jQ (by (with_reducible repeat (first|apply Kd.aK|apply Kd.aQ|apply Kd.aW));exact oC.out) hb) (ak zB hb);(try clear hb))|(go_at_call 108;(with_reducible refine (fK.calls k 1 2 akP _ A10.out).mono ?_);rintro e w14 ⟨rfl,hb⟩;obtain ⟨oC,HB⟩:=zA2 (Kd.jQ (by (with_reducible repeat (first|apply Kd.aK|apply Kd.aQ|apply Kd.aW));exact oC.out) hb) (ak zB hb);(try clear hb)))
        go_ret
        exact ⟨zS,zB⟩
       ·rw [if_neg c9] at H
        have qO:(t236 == 1073741824)=false:=beq_eq_false_iff_ne.mpr c9
        have afu:(t236 != 1073741824)=true:=bne_iff_ne.mpr c9
        obtain rfl:=Option.some.inj H
        go_enter Tryz.func88,Tryz.ntmps88
        go_wp2_with (first|((with_reducible refine aA (f:=107) rfl ?_);refine aH (some 4) rfl rfl Tryz.func107 (by kernel_rfl) rfl #[.int .i64 0,.int .i64 4,.int .i64 2,.int .i64 1] rfl zL ?_;(with_reducible refine (iw.calls k 0 4 2 1 abE kH _ (by exact GL.below hG (by repeat (first|(with_reducible first|exact HB.out|apply aT|apply aI|apply bg)|exact HB.out|exact Below.refl _ _))) A1.out).mono ?_);rintro e w15 ⟨v232,rfl,ho0,hb⟩;refine ⟨_,rfl,?_⟩;obtain ⟨oC,HB⟩:=zA2 (Kd.fZ ho0 (bF zB)) (ak zB hb);(try clear hb);(try clear ho0);obtain ⟨awM,awN,aqr⟩:=Kd.gB oC.out;subst aqr;have xW:0≤(0:Int):=(by omega);have xX:0 < (kH.length:Int):=of_decide_eq_true (by first|(with_reducible assumption)|assumption);obtain ⟨ae4,e234,uf⟩:=Kd.jF (Kd.dM oC.out).2.2 0 xW xX;cases e234;have anw:(0 < kH.length)=True:=eq_true (by omega);(try rw [show ((0:Int)).toNat=0 from rfl] at uf);(try rw [Addr.add_zero'] at uf);replace xW:=eq_true xW;replace xX:=eq_true xX;have abG:0≤(1:Int):=(by omega);have abH:1 < (kH.length:Int):=of_decide_eq_true (by first|(with_reducible assumption)|assumption);obtain ⟨ahc,akQ,yD⟩:=Kd.jF (Kd.dM oC.out).2.2 1 abG abH;obtain rfl:ae4=ahc:=(by injection akQ);(try simp only [show (1:Int).toNat=1 from rfl,Nat.reduceMul,Nat.reduceEqDiff,Go.Addr.add,↓reduceIte] at yD);have ari:(1 < kH.length)=True:=eq_true (by omega);(try rw [show ((1:Int)).toNat=1 from rfl] at yD);replace abG:=eq_true abG;replace abH:=eq_true abH)|(go_at_call 108;(with_reducible refine (fK.calls k 0 1 t236 _ A8.out).mono ?_);rintro e w17 ⟨rfl,hb⟩;obtain ⟨oC,HB⟩:=zA2 (Kd.jQ (by (with_reducible repeat (first|apply Kd.aK|apply Kd.aQ|apply Kd.aW));exact oC.out) hb) (ak zB hb);(try clear hb)))
        go_ret
        exact ⟨zS,zB⟩
      ·rw [if_neg c7] at H
       have jw:((rd kH 1) == 536870912)=false:=beq_eq_false_iff_ne.mpr c7
       have abl:((rd kH 1) != 536870912)=true:=bne_iff_ne.mpr c7
       obtain rfl:=Option.some.inj H
       go_enter Tryz.func88,Tryz.ntmps88
       go_wp2_with (first|((with_reducible refine aA (f:=107) rfl ?_);refine aH (some 4) rfl rfl Tryz.func107 (by kernel_rfl) rfl #[.int .i64 0,.int .i64 4,.int .i64 2,.int .i64 1] rfl zL ?_;(with_reducible refine (iw.calls k 0 4 2 1 abE kH _ (by exact GL.below hG (by repeat (first|(with_reducible first|exact HB.out|apply aT|apply aI|apply bg)|exact HB.out|exact Below.refl _ _))) A1.out).mono ?_);rintro e w18 ⟨v232,rfl,ho0,hb⟩;refine ⟨_,rfl,?_⟩;obtain ⟨oC,HB⟩:=zA2 (Kd.fZ ho0 (bF zB)) (ak zB hb);(try clear hb);(try clear ho0);obtain ⟨aj9,akb,akc⟩:=Kd.gB oC.out;subst akc;have xW:0≤(0:Int):=(by omega);have xX:0 < (kH.length:Int):=of_decide_eq_true (by first|(with_reducible assumption)|assumption);obtain ⟨ae4,e234,uf⟩:=Kd.jF (Kd.dM oC.out).2.2 0 xW xX;cases e234;have anw:(0 < kH.length)=True:=eq_true (by omega);(try rw [show ((0:Int)).toNat=0 from rfl] at uf);(try rw [Addr.add_zero'] at uf);replace xW:=eq_true xW;replace xX:=eq_true xX;have abG:0≤(1:Int):=(by omega);have abH:1 < (kH.length:Int):=of_decide_eq_true (by first|(with_reducible assumption)|assumption);obtain ⟨ahc,akQ,yD⟩:=Kd.jF (Kd.dM oC.out).2.2 1 abG abH;obtain rfl:ae4=ahc:=(by injection akQ);(try simp only [show (1:Int).toNat=1 from rfl,Nat.reduceMul,Nat.reduceEqDiff,Go.Addr.add,↓reduceIte] at yD);have ari:(1 < kH.length)=True:=eq_true (by omega);(try rw [show ((1:Int)).toNat=1 from rfl] at yD);replace abG:=eq_true abG;replace abH:=eq_true abH))
       go_ret
       exact ⟨zS,zB⟩
     ·rw [if_neg c6] at H
      exact absurd H (by simp)
    ·rw [if_neg c5] at H
     have iM:((rd kH 0) == 536870912)=false:=beq_eq_false_iff_ne.mpr c5
     have abA:((rd kH 0) != 536870912)=true:=bne_iff_ne.mpr c5
     obtain rfl:=Option.some.inj H
     go_enter Tryz.func88,Tryz.ntmps88
     go_wp2_with (first|((with_reducible refine aA (f:=107) rfl ?_);refine aH (some 4) rfl rfl Tryz.func107 (by kernel_rfl) rfl #[.int .i64 0,.int .i64 4,.int .i64 2,.int .i64 1] rfl zL ?_;(with_reducible refine (iw.calls k 0 4 2 1 abE kH _ (by exact GL.below hG (by repeat (first|(with_reducible first|exact HB.out|apply aT|apply aI|apply bg)|exact HB.out|exact Below.refl _ _))) A1.out).mono ?_);rintro e w20 ⟨v232,rfl,ho0,hb⟩;refine ⟨_,rfl,?_⟩;obtain ⟨oC,HB⟩:=zA2 (Kd.fZ ho0 (bF zB)) (ak zB hb);(try clear hb);(try clear ho0);obtain ⟨aBC,aBD,awO⟩:=Kd.gB oC.out;subst awO;have xW:0≤(0:Int):=(by omega);have xX:0 < (kH.length:Int):=of_decide_eq_true (by first|(with_reducible assumption)|assumption);obtain ⟨ae4,e234,uf⟩:=Kd.jF (Kd.dM oC.out).2.2 0 xW xX;cases e234;have anw:(0 < kH.length)=True:=eq_true (by omega);(try rw [show ((0:Int)).toNat=0 from rfl] at uf);(try rw [Addr.add_zero'] at uf);replace xW:=eq_true xW;replace xX:=eq_true xX))
     go_ret
     exact ⟨zS,zB⟩
   ·rw [if_neg c4] at H
    exact absurd H (by simp)
  ·rw [if_neg c3] at H
   have fQ:((kH.length:Int) == 2)=false:=beq_eq_false_iff_ne.mpr c3
   have wS:((kH.length:Int) != 2)=true:=bne_iff_ne.mpr c3
   obtain rfl:=Option.some.inj H
   go_enter Tryz.func88,Tryz.ntmps88
   go_wp2_with (first|((with_reducible refine aA (f:=107) rfl ?_);refine aH (some 4) rfl rfl Tryz.func107 (by kernel_rfl) rfl #[.int .i64 0,.int .i64 4,.int .i64 2,.int .i64 1] rfl zL ?_;(with_reducible refine (iw.calls k 0 4 2 1 abE kH _ (by exact GL.below hG (by repeat (first|(with_reducible first|exact HB.out|apply aT|apply aI|apply bg)|exact HB.out|exact Below.refl _ _))) A1.out).mono ?_);rintro e w22 ⟨v232,rfl,ho0,hb⟩;refine ⟨_,rfl,?_⟩;obtain ⟨oC,HB⟩:=zA2 (Kd.fZ ho0 (bF zB)) (ak zB hb);(try clear hb);(try clear ho0);obtain ⟨aBE,aBF,awP⟩:=Kd.gB oC.out;subst awP))
   go_ret
   exact ⟨zS,zB⟩
 ·rw [if_neg c2] at H
  have lW:(abE == 2)=false:=beq_eq_false_iff_ne.mpr c2
  have aqp:(abE != 2)=true:=bne_iff_ne.mpr c2
  obtain rfl:=Option.some.inj H
  go_enter Tryz.func88,Tryz.ntmps88
  go_wp2_with (first|((with_reducible refine aA (f:=107) rfl ?_);refine aH (some 4) rfl rfl Tryz.func107 (by kernel_rfl) rfl #[.int .i64 0,.int .i64 4,.int .i64 2,.int .i64 1] rfl zL ?_;(with_reducible refine (iw.calls k 0 4 2 1 abE kH _ (by exact GL.below hG (by repeat (first|(with_reducible first|exact HB.out|apply aT|apply aI|apply bg)|exact HB.out|exact Below.refl _ _))) A1.out).mono ?_);rintro e w24 ⟨v232,rfl,ho0,hb⟩;refine ⟨_,rfl,?_⟩;obtain ⟨oC,HB⟩:=zA2 (Kd.fZ ho0 (bF zB)) (ak zB hb);(try clear hb);(try clear ho0)))
  go_ret
  exact ⟨zS,zB⟩
end Go.Proofs.YtpondkggmcmpfaaGreatDoor.QA
