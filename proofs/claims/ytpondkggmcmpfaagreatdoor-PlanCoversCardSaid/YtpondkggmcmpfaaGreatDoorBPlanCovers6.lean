/- Joined by wip/tools/bundle.py out of: S06T. -/
import Derived.Test.YtpondkggmcmpfaaGreatDoorBPlanCovers5
namespace Go.Proofs.YtpondkggmcmpfaaGreatDoor.S
open Go.Shelf Go.RowKit Go.Lib Go.Sort
set_option linter.unusedVariables false
variable {α:Type} [Inhabited α]
def Blk (key:α→Int) (idx:α→Nat) (d:Array α) (n:Nat) (same:Nat→Nat→Prop):Prop:=∀ i j,i < j→j < n→(same i j→Lx key idx d[i]! d[j]!)∧(¬ same i j→idx d[i]! < idx d[j]!)
theorem Blk.step {key:α→Int} {idx:α→Nat} {d d':Array α} {n a b:Nat} {s1 s2:Nat→Nat→Prop} (h:Blk key idx d n s1) (hb:b≤n) (hS:Sam d d' a b) (hO:Srt key idx d' a b)
    (h1:∀ i j,a≤i→i < j→j < b→s2 i j) (h2:∀ i j,i < a→a≤j→j < b→¬ s1 i j∧¬ s2 i j) (h3:∀ i j,a≤i→i < b→b≤j→j < n→¬ s1 i j∧¬ s2 i j)
    (h4:∀ i j,i < j→(i < a∨b≤i)→(j < a∨b≤j)→j < n→(s1 i j↔s2 i j)):Blk key idx d' n s2:=by
  intro i j hij hj
  by_cases ci:a≤i∧i < b
  · by_cases cj:j < b
    · exact ⟨fun _=>hO i j ci.1 hij cj,fun q=>absurd (h1 i j ci.1 hij cj) q⟩
    · refine ⟨fun q=>absurd q (h3 i j ci.1 ci.2 (by omega) hj).2,fun _ => ?_⟩
      rw [hS.2.1 j (by omega)]
      obtain ⟨l,l1,l2,l3⟩:=hS.2.2.1 i ci.1 ci.2
      rw [l3];exact (h l j (by omega) hj).2 (h3 l j l1 l2 (by omega) hj).1
  · rw [hS.2.1 i (by omega)]
    by_cases cj:a≤j∧j < b
    · refine ⟨fun q=>absurd q (h2 i j (by omega) cj.1 cj.2).2,fun _ => ?_⟩
      obtain ⟨l,l1,l2,l3⟩:=hS.2.2.1 j cj.1 cj.2
      rw [l3];exact (h i l (by omega) (by omega)).2 (h2 i l (by omega) l1 l2).1
    · rw [hS.2.1 j (by omega)]
      have:=h4 i j hij (by omega) (by omega) hj
      exact ⟨fun q=>(h i j hij hj).1 (this.2 q),fun q=>(h i j hij hj).2 (fun q'=>q (this.1 q'))⟩
def s20 (a i j:Nat):Prop:=j < a∧i / 20=j / 20
def sB (B a i j:Nat):Prop:=(j < a∧i / (2*B)=j / (2*B))∨(a≤j∧i / B=j / B)
theorem ag1 {B c i j:Nat} (hB:0 < B) (h1:i < c*B) (h2:c*B≤j):i / B≠j / B:=by
  have a:i / B < c:=(Nat.div_lt_iff_lt_mul hB).2 h1
  have b:c≤j / B:=(Nat.le_div_iff_mul_le hB).2 h2
  omega
theorem aaA {B c i:Nat} (hB:0 < B) (h1:c*B≤i) (h2:i < (c+1)*B):i / B=c:=by
  have a:i / B < c+1:=(Nat.div_lt_iff_lt_mul hB).2 h2
  have b:c≤i / B:=(Nat.le_div_iff_mul_le hB).2 h1
  omega
theorem aq6 {key:α→Int} {idx:α→Nat} {d d':Array α} {n a b:Nat} (h:Blk key idx d n (s20 a)) (ha:a % 20=0) (hb:b≤n) (hab:a≤b) (hb2:b=a+20∨(b=n∧b < a+20)) (hS:Sam d d' a b) (hO:Srt key idx d' a b):Blk key idx d' n (s20 b):=by
  refine h.step hb hS hO ?_ ?_ ?_ ?_
  · intro i j h1 h2 h3;unfold s20;omega
  · intro i j h1 h2 h3;unfold s20;omega
  · intro i j h1 h2 h3 h4;unfold s20;omega
  · intro i j h1 h2 h3 h4;unfold s20;omega
theorem atf {key:α→Int} {idx:α→Nat} {d d':Array α} {n a b c B:Nat} (hB:0 < B) (h:Blk key idx d n (sB B a)) (ha:a=c*(2*B)) (hb:b≤n) (hab:a≤b) (hb2:b=a+2*B∨(b=n∧b < a+2*B)) (hS:Sam d d' a b) (hO:Srt key idx d' a b):Blk key idx d' n (sB B b):=by
  have ha2:a=2*c*B:=by rw [ha,← Nat.mul_assoc,Nat.mul_comm c 2]
  have hc1:(c+1)*(2*B)=a+2*B:=by rw [Nat.add_mul,Nat.one_mul,← ha]
  have hc2:(2*c+2)*B=a+2*B:=by rw [Nat.add_mul,← ha2]
  refine h.step hb hS hO ?_ ?_ ?_ ?_
  · intro i j h1 h2 h3
    refine Or.inl ⟨h3,?_⟩
    rw [aaA (c:=c) (B:=2*B) (by omega) (by omega) (by omega),aaA (c:=c) (B:=2*B) (by omega) (by omega) (by omega)]
  · intro i j h1 h2 h3
    have d1:=ag1 (c:=2*c) (i:=i) (j:=j) hB (by omega) (by omega)
    have d2:=ag1 (B:=2*B) (c:=c) (i:=i) (j:=j) (by omega) (by omega) (by omega)
    unfold sB
    refine ⟨fun q => ?_,fun q => ?_⟩
    · rcases q with q|q
      · omega
      · exact d1 q.2
    · rcases q with q|q
      · exact d2 q.2
      · omega
  · intro i j h1 h2 h3 h4
    have hbb:b=a+2*B:=by omega
    have d1:=ag1 (c:=2*c+2) (i:=i) (j:=j) hB (by omega) (by omega)
    unfold sB
    refine ⟨fun q => ?_,fun q => ?_⟩
    · rcases q with q|q
      · omega
      · exact d1 q.2
    · rcases q with q|q
      · omega
      · exact d1 q.2
  · intro i j h1 h2 h3 h4
    unfold sB
    constructor
    · rintro (q|q)
      · exact Or.inl ⟨by omega,q.2⟩
      · exact Or.inr ⟨by omega,q.2⟩
    · rintro (q|q)
      · exact Or.inl ⟨by omega,q.2⟩
      · exact Or.inr ⟨by omega,q.2⟩
theorem Blk.congr {key:α→Int} {idx:α→Nat} {d:Array α} {n:Nat} {s1 s2:Nat→Nat→Prop} (h:Blk key idx d n s1) (hs:∀ i j,i < j→j < n→(s1 i j↔s2 i j)):Blk key idx d n s2:=by
  intro i j h1 h2
  have:=hs i j h1 h2
  exact ⟨fun q=>(h i j h1 h2).1 (this.2 q),fun q=>(h i j h1 h2).2 (fun q'=>q (this.1 q'))⟩
theorem alB {key:α→Int} {idx:α→Nat} {d:Array α} {n a b c B:Nat} (hB:0 < B) (h:Blk key idx d n (sB B a)) (ha:a=c*(2*B)) (hb:b≤n) (hb2:b≤a+2*B) (hm:a+B < b):Mrg key idx d a (a+B) b:=by
  have ha2:a=2*c*B:=by rw [ha,← Nat.mul_assoc,Nat.mul_comm c 2]
  have hc1:(2*c+1)*B=a+B:=by rw [Nat.add_mul,← ha2,Nat.one_mul]
  have hc2:(2*c+1+1)*B=a+2*B:=by rw [show 2*c+1+1=2*c+2 from rfl,Nat.add_mul,← ha2]
  refine ⟨fun i j i1 i2 i3=>(h i j i2 (by omega)).1 (Or.inr ⟨by omega,?_⟩),fun i j i1 i2 i3=>(h i j i2 (by omega)).1 (Or.inr ⟨by omega,?_⟩),fun i j i1 i2 i3 i4=>(h i j (by omega) (by omega)).2 ?_⟩
  · rw [aaA (c:=2*c) hB (by omega) (by omega),aaA (c:=2*c) hB (by omega) (by omega)]
  · rw [aaA (c:=2*c+1) hB (by omega) (by omega),aaA (c:=2*c+1) hB (by omega) (by omega)]
  · have d1:=ag1 (c:=2*c+1) (i:=i) (j:=j) hB (by omega) (by omega)
    unfold sB
    rintro (q|q)
    · omega
    · exact d1 q.2
set_option maxHeartbeats 8000000 in
set_option maxRecDepth 1000000 in
theorem ap6 (enc:α→Value) (cf:α→α→Int) (g:Nat) (cb:Array Value) (key:α→Int) (idx:α→Nat) (blk off cap:Nat) (d0 d:Array α) (w0 w:World)
    (eg:∀ args w,(callFunc g args).run Tryz.prog w = .ok (.enter g args) w) (hcmp:CmpLays1 Tryz.prog g cb enc cf blk off d0.size w0) (hcf:∀ x y,cf x y < 0↔key y < key x)
    (R:Row1 enc w0 blk off d0) (hs:d0.size=d.size) (S:SW enc w0 blk off d w) (hsz:d.size < 1152921504606846976) (hA:Asc idx d 0 d.size) :
    Calls Tryz.prog 165 #[.slice (some ⟨blk,off,none⟩) d.size cap,.int .i64 d.size,.func (.func g) #[] cb] w fun e w'=>e = .returned (.tuple #[])∧∃ d',SW enc w0 blk off d' w'∧Sam d d' 0 d.size∧Srt key idx d' 0 d.size:=by
  have mixed:Tryz.prog.follows .mixedOrders=true:=by kernel_rfl
  have hcl0:=R.hO.cells
  simp only [Value.cells] at hcl0
  have hst:=R.hO.store Tryz.prog
  have HC:Aside _:=hcmp
  have HB0:Hid (Blk key idx d d.size (s20 0)):=fun i j h1 h2=>⟨fun q=>by unfold s20 at q;omega,fun _=>hA i j (by omega) h1 h2⟩
  have S0:Aside (SW enc w0 blk off d w):=S
  have HCF:Hid (∀ x y,cf x y < 0↔key y < key x):=hcf
  obtain ⟨n,hn⟩:∃ n,n=d.size:=⟨_,rfl⟩
  rw [← hn] at HB0 hsz ⊢
  have HN:Hid (n=d.size):=hn
  clear S hcmp hcf hA hn
  have eIN:∀ args w,(callFunc 182 args).run Tryz.prog w = .ok (.enter 182 args) w:=enters_of Tryz.func182 (by kernel_rfl) rfl
  have eSM:∀ args w,(callFunc 183 args).run Tryz.prog w = .ok (.enter 183 args) w:=enters_of Tryz.func183 (by kernel_rfl) rfl
  go_enter Tryz.func165,Tryz.ntmps165
  go_wp2
  go_loopg [7,8] n (fun kx s7 s8 wr=>∃ (a b:Nat) (dk:Array α),s7 = .int .i64 a∧s8 = .int .i64 b∧b=a+20∧a % 20=0∧a≤n∧n - a≤kx∧Aside (SW enc w0 blk off dk wr)∧Hid (Sam d dk 0 n∧Blk key idx dk n (s20 a)))
  case atStart=>exact ⟨0,20,d,rfl,rfl,rfl,rfl,by omega,by omega,S0,Sam.refl _ _ _,HB0⟩
  case round=>as_aux_lemma =>
    clear S0 HB0
    obtain ⟨a,b,dk,rfl,rfl,hab,atg,han,hkx,S1,HB⟩:=hrel
    have HAB:Hid (b=a+20):=hab
    have hdk:dk.size=n:=by rw [HN.out];exact HB.out.1.1
    by_cases hlt:b≤n
    · have hltz:(b:Int)≤(n:Int):=by omega
      have hasc:Asc idx dk a b:=fun i j h1 h2 h3=>(HB.out.2 i j h2 (by omega)).2 (by unfold s20;omega)
      have hcall:=afl enc cf g cb key idx blk off cap a b d0 dk w0 wr eg HC.out HCF.out R (by have:=HN.out;omega) S1.out (by omega) (by omega) (by omega) hasc
      rw [hdk] at hcall
      clear S1 hab hasc
      go_wp2_with (go_at_fn 182;refine hcall.mono ?_;rintro e w1 ⟨rfl,d1,S3,S4,S5⟩)
      go_roundg (n - b)
      case measure=>have:=HAB.out;omega
      case rel=>exact ⟨b,b+20,d1,rfl,by simp,rfl,by have:=HAB.out;omega,hlt,Nat.le_refl _,S3,HB.out.1.trans (S4.wide (Nat.zero_le _) hlt),aq6 HB.out.2 atg hlt (by have:=HAB.out;omega) (Or.inl HAB.out) S4 S5⟩
    · have hltz:¬ (b:Int)≤(n:Int):=by omega
      have hasc:Asc idx dk a n:=fun i j h1 h2 h3=>(HB.out.2 i j h2 (by omega)).2 (by unfold s20;omega)
      have hcall:=afl enc cf g cb key idx blk off cap a n d0 dk w0 wr eg HC.out HCF.out R (by have:=HN.out;omega) S1.out (by omega) (by omega) (by omega) hasc
      rw [hdk] at hcall
      clear S1 hab hasc
      go_wp2_with (go_at_fn 182;refine hcall.mono ?_;rintro e w1 ⟨rfl,d1,S3,S4,S5⟩)
      have HD1:Hid (Sam d d1 0 n∧Blk key idx d1 n (s20 n)):=⟨HB.out.1.trans (S4.wide (Nat.zero_le _) (Nat.le_refl _)),aq6 HB.out.2 atg (Nat.le_refl _) han (Or.inr ⟨rfl,by have:=HAB.out;omega⟩) S4 S5⟩
      have S1:Aside (SW enc w0 blk off d1 w1):=S3
      clear HB S3 S4 S5 hdk
      go_loopg [6,7,8,9] n (fun kx s6 s7 s8 s9 wr=>∃ (B:Nat) (dk:Array α),s6 = .int .i64 B∧20≤B∧(B < 2*n∨B=20)∧n - B≤kx∧Aside (SW enc w0 blk off dk wr)∧Hid (Sam d dk 0 n∧Blk key idx dk n (fun i j=>i / B=j / B)))
      case atStart=>exact ⟨20,d1,rfl,by omega,Or.inr rfl,by omega,S1,HD1.out.1,HD1.out.2.congr (fun i j h1 h2=>by unfold s20;omega)⟩
      case round=>as_aux_lemma =>
        clear S1 HD1
        obtain ⟨B,d2,rfl,hB1,hB2,aBn,S1,HB⟩:=hrel
        have hd2:d2.size=n:=by rw [HN.out];exact HB.out.1.1
        by_cases hbn:B < n
        · have awp:(B:Int) < (n:Int):=by omega
          have w2B:IntKind.i64.wrap (2*(B:Int))=2*(B:Int):=by rw [IntKind.wrap_i64];omega
          have wB2:IntKind.i64.wrap ((B:Int)*2)=(B:Int)*2:=by rw [IntKind.wrap_i64];omega
          go_wp2
          go_loopg [7,8] n (fun kx s7 s8 wr=>∃ (c a b:Nat) (dk:Array α),s7 = .int .i64 a∧s8 = .int .i64 b∧Hid (a=c*(2*B))∧Hid (b=a+2*B)∧a≤n∧n - a≤kx∧Aside (SW enc w0 blk off dk wr)∧Hid (Sam d dk 0 n∧Blk key idx dk n (sB B a)))
          case atStart=>exact ⟨0,0,2*B,d2,rfl,by simp,(Nat.zero_mul _).symm,(Nat.zero_add _).symm,by omega,by omega,S1,HB.out.1,HB.out.2.congr (fun i j h1 h2=>by unfold sB;simp)⟩
          case round =>
            clear S1 HB
            obtain ⟨c,a,b,dk,rfl,rfl,HA,ado,awq,aBo,S1,HB⟩:=hrel
            have hdk:dk.size=n:=by rw [HN.out];exact HB.out.1.1
            have zaB:((a+B:Nat):Int)=(a:Int)+(B:Int):=by omega
            have waB:IntKind.i64.wrap ((a:Int)+(B:Int))=(a:Int)+(B:Int):=by rw [IntKind.wrap_i64];omega
            by_cases hlt2:b≤n
            · have au8:(b:Int)≤(n:Int):=by omega
              have hM:=alB (by omega) HB.out.2 HA.out hlt2 (Nat.le_of_eq ado.out) (by have:=ado.out;omega)
              have hcall:=ag0 enc cf g cb key idx blk off cap d0 w0 eg HC.out HCF.out R (by have:=HN.out;omega) (n+1) a (a+B) b dk wr (by omega) (by have:=HN.out;omega) S1.out (by omega) (by have:=ado.out;omega) (by omega) hM
              rw [hdk,zaB] at hcall
              have wb2:IntKind.i64.wrap ((b:Int)+2*(B:Int))=(b:Int)+2*(B:Int):=by rw [IntKind.wrap_i64];omega
              clear S1 hM
              go_wp2_with (go_at_fn 183;refine hcall.mono ?_;rintro e w1 ⟨rfl,d3,S3,S4,S5⟩)
              go_roundg (n - b)
              case measure=>have:=ado.out;omega
              case rel=>exact ⟨c+1,b,b+2*B,d3,rfl,by simp,(by show _=_;rw [Nat.add_mul,Nat.one_mul,← HA.out];exact ado.out),(by show _=_;rfl),hlt2,Nat.le_refl _,S3,HB.out.1.trans (S4.wide (Nat.zero_le _) hlt2),atf (by omega) HB.out.2 HA.out hlt2 (by have:=ado.out;omega) (Or.inl ado.out) S4 S5⟩
            · have au8:¬ (b:Int)≤(n:Int):=by omega
              have fin:∀ w' d3,SW enc w0 blk off d3 w'→Sam dk d3 a n→Srt key idx d3 a n→∃ (B':Nat) (dk':Array α),Value.int .i64 ((B:Int)*2) = .int .i64 B'∧20≤B'∧(B' < 2*n∨B'=20)∧n - B'≤n - 2*B∧Aside (SW enc w0 blk off dk' w')∧Hid (Sam d dk' 0 n∧Blk key idx dk' n (fun i j=>i / B'=j / B')):=by
                intro w' d3 h1 h2 h3
                refine ⟨2*B,d3,by congr 1;omega,by omega,Or.inl (by omega),Nat.le_refl _,h1,HB.out.1.trans (h2.wide (Nat.zero_le _) (Nat.le_refl _)),?_⟩
                refine (atf (by omega) HB.out.2 HA.out (Nat.le_refl _) awq (Or.inr ⟨rfl,by have:=ado.out;omega⟩) h2 h3).congr ?_
                intro i j q1 q2
                unfold sB
                constructor
                · rintro (q|q)
                  · exact q.2
                  · omega
                · intro q;exact Or.inl ⟨q2,q⟩
              have FIN:Aside _:=fin
              clear fin
              by_cases hm:a+B < n
              · have hmz:(a:Int)+(B:Int) < (n:Int):=by omega
                have hM:=alB (b:=n) (by omega) HB.out.2 HA.out (Nat.le_refl _) (by have:=ado.out;omega) hm
                have hcall:=ag0 enc cf g cb key idx blk off cap d0 w0 eg HC.out HCF.out R (by have:=HN.out;omega) (n+1) a (a+B) n dk wr (by omega) (by have:=HN.out;omega) S1.out (by omega) hm (by omega) hM
                rw [hdk,zaB] at hcall
                clear S1 hM
                go_wp2_with (go_at_fn 183;refine hcall.mono ?_;rintro e w1 ⟨rfl,d3,S3,S4,S5⟩)
                go_roundg (n - 2*B)
                case measure=>omega
                case rel=>exact FIN.out w1 d3 S3 S4 S5
              · have hmz:¬ (a:Int)+(B:Int) < (n:Int):=by omega
                have hsrt:Hid (Srt key idx dk a n):=by
                  intro i j i1 i2 i3
                  refine (HB.out.2 i j i2 i3).1 (Or.inr ⟨by omega,?_⟩)
                  have ha2:a=2*c*B:=by rw [HA.out,← Nat.mul_assoc,Nat.mul_comm c 2]
                  have hc1:(2*c+1)*B=a+B:=by rw [Nat.add_mul,← ha2,Nat.one_mul]
                  rw [aaA (c:=2*c) (by omega) (by omega) (by omega),aaA (c:=2*c) (by omega) (by omega) (by omega)]
                go_wp2
                go_roundg (n - 2*B)
                case measure=>omega
                case rel=>exact FIN.out wr dk S1.out (Sam.refl _ _ _) hsrt.out
        · have awp:¬ (B:Int) < (n:Int):=by omega
          go_wp2
          go_end0
          refine ⟨rfl,d2,S1.out,HB.out.1,fun i j h1 h2 h3=>(HB.out.2 i j h2 h3).1 ?_⟩
          show i / B=j / B
          rw [Nat.div_eq_of_lt (show i < B by omega),Nat.div_eq_of_lt (show j < B by omega)]
end Go.Proofs.YtpondkggmcmpfaaGreatDoor.S
