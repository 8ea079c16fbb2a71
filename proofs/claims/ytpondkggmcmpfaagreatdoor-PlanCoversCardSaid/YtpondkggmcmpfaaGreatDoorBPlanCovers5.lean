/- Joined by wip/tools/bundle.py out of: S06S. -/
import Derived.Test.YtpondkggmcmpfaaGreatDoorBPlanCovers4
namespace Go.Proofs.YtpondkggmcmpfaaGreatDoor.S
open Go.Shelf Go.RowKit Go.Lib Go.Sort
set_option linter.unusedVariables false
variable {α:Type} [Inhabited α]
def Asc (idx:α→Nat) (d:Array α) (a b:Nat):Prop:=∀ i j,a≤i→i < j→j < b→idx d[i]! < idx d[j]!
def Ins (key:α→Int) (idx:α→Nat) (d:Array α) (a i j:Nat):Prop :=
  (∀ p q,a≤p→p < q→q≤i→p≠j→q≠j→Lx key idx d[p]! d[q]!)∧(∀ q,j < q→q≤i→Lx key idx d[j]! d[q]!)∧(∀ p,a≤p→p≤i→p≠j→idx d[p]! < idx d[j]!)
theorem Ins.start {key:α→Int} {idx:α→Nat} {d:Array α} {a i:Nat} (h:Srt key idx d a i) (hx:∀ p,a≤p→p < i→idx d[p]! < idx d[i]!):Ins key idx d a i i :=
  ⟨fun p q h1 h2 h3 h4 h5=>h p q h1 h2 (by omega),fun q h1 h2=>by omega,fun p h1 h2 h3=>hx p h1 (by omega)⟩
theorem Ins.step {key:α→Int} {idx:α→Nat} {d:Array α} {a i j:Nat} (h:Ins key idx d a i (j+1)) (haj:a≤j) (hji:j+1≤i) (hi:i < d.size) (hl:Lx key idx d[j+1]! d[j]!):Ins key idx (swp d (j+1) j) a i j:=by
  obtain ⟨h1,h2,h3⟩:=h
  have g:=swp_get d (i:=j+1) (j:=j) (by omega) (by omega)
  refine ⟨fun p q p1 p2 p3 p4 p5 => ?_,fun q q1 q2 => ?_,fun p p1 p2 p3 => ?_⟩
  · rw [g,g,if_neg p4,if_neg p5]
    by_cases c1:p=j+1
    · rw [if_pos c1,if_neg (by omega)];exact h1 j q haj (by omega) p3 (by omega) (by omega)
    · rw [if_neg c1]
      by_cases c2:q=j+1
      · rw [if_pos c2];exact h1 p j p1 (by omega) (by omega) (by omega) (by omega)
      · rw [if_neg c2];exact h1 p q p1 p2 p3 c1 c2
  · rw [g,g,if_pos rfl,if_neg (by omega)]
    by_cases c1:q=j+1
    · rw [if_pos c1];exact hl
    · rw [if_neg c1];exact h2 q (by omega) q2
  · rw [g,g,if_pos rfl,if_neg p3]
    by_cases c1:p=j+1
    · rw [if_pos c1];exact h3 j haj (by omega) (by omega)
    · rw [if_neg c1];exact h3 p p1 p2 c1
theorem Ins.stop {key:α→Int} {idx:α→Nat} {d:Array α} {a i j:Nat} (h:Ins key idx d a i j) (hji:j≤i) (hs:j=a∨Lx key idx d[j - 1]! d[j]!):Srt key idx d a (i+1):=by
  obtain ⟨h1,h2,h3⟩:=h
  intro p q p1 p2 p3
  by_cases c1:p=j
  · rw [c1];exact h2 q (by omega) (by omega)
  · by_cases c2:q=j
    · rcases hs with hs|hs
      · omega
      · by_cases c3:p=j - 1
        · rw [c3,c2];exact hs
        · rw [c2];exact (h1 p (j - 1) p1 (by omega) (by omega) c1 (by omega)).trans hs
    · exact h1 p q p1 p2 (by omega) c1 c2
set_option maxHeartbeats 8000000 in
set_option maxRecDepth 1000000 in
theorem afl (enc:α→Value) (cf:α→α→Int) (g:Nat) (cb:Array Value) (key:α→Int) (idx:α→Nat) (blk off cap a b:Nat) (d0 d:Array α) (w0 w:World)
    (eg:∀ args w,(callFunc g args).run Tryz.prog w = .ok (.enter g args) w) (hcmp:CmpLays1 Tryz.prog g cb enc cf blk off d0.size w0) (hcf:∀ x y,cf x y < 0↔key y < key x)
    (R:Row1 enc w0 blk off d0) (hs:d0.size=d.size) (S:SW enc w0 blk off d w) (hab:a≤b) (hb:b≤d.size) (hsz:d.size < 4611686018427387904) (hA:Asc idx d a b) :
    Calls Tryz.prog 182 #[.slice (some ⟨blk,off,none⟩) d.size cap,.int .i64 a,.int .i64 b,.func (.func g) #[] cb] w fun e w'=>e = .returned (.tuple #[])∧∃ d',SW enc w0 blk off d' w'∧Sam d d' a b∧Srt key idx d' a b:=by
  have mixed:Tryz.prog.follows .mixedOrders=true:=by kernel_rfl
  have hcl0:=R.hO.cells
  simp only [Value.cells] at hcl0
  have hst:=R.hO.store Tryz.prog
  have HC:Aside _:=hcmp
  have awo:Hid (Asc idx d a b):=hA
  have S0:Aside (SW enc w0 blk off d w):=S
  have HCF:Hid (∀ x y,cf x y < 0↔key y < key x):=hcf
  clear S hcmp hcf hA
  go_enter Tryz.func182,Tryz.ntmps182
  go_wp2
  go_loopg [8] (b - a) (fun kx s8 wr=>∃ (i:Nat) (dk:Array α),s8 = .int .i64 i∧a < i∧(i≤b∨i=a+1)∧b+1 - i≤kx+1∧dk.size=d.size∧Aside (SW enc w0 blk off dk wr)∧Hid (Sam d dk a (min i b))∧Hid (Srt key idx dk a (min i b)))
  case atStart=>exact ⟨a+1,d,by go_num,by omega,by omega,by omega,rfl,S0,Sam.refl _ _ _,fun p q h1 h2 h3=>by omega⟩
  case round=>as_aux_lemma =>
    clear S0
    obtain ⟨i,dk,rfl,hai,hib,hkx,hds,S1,HS1,HS2⟩:=hrel
    by_cases hlt:i < b
    · have hltz:(i:Int) < (b:Int):=by omega
      have HI0:Hid (Ins key idx dk a i i):=by
        have e:min i b=i:=by omega
        have s1:=HS1.out;have s2:=HS2.out
        rw [e] at s1 s2
        refine Ins.start s2 fun p p1 p2 => ?_
        rw [s1.2.1 i (by omega)]
        obtain ⟨l,l1,l2,l3⟩:=s1.2.2.1 p p1 p2
        rw [l3];exact awo.out l i l1 l2 hlt
      go_wp2
      go_loopg [9] i (fun kx2 s9 wr2=>∃ (j:Nat) (dj:Array α),s9 = .int .i64 j∧a≤j∧j≤i∧j≤kx2∧dj.size=d.size∧Aside (SW enc w0 blk off dj wr2)∧Hid (Sam dk dj a (i+1))∧Hid (Ins key idx dj a i j))
      case atStart=>exact ⟨i,dk,rfl,by omega,Nat.le_refl _,Nat.le_refl _,hds,S1,Sam.refl _ _ _,HI0⟩
      case round =>
        clear S1 HI0
        obtain ⟨j,dj,rfl,haj,hji,hkj,hdj,SJ,HJ1,HJ2⟩:=hrel
        have out:∀ w',SW enc w0 blk off dj w'→(j=a∨Lx key idx dj[j - 1]! dj[j]!)→∃ (i':Nat) (dk':Array α),Value.int .i64 ((i:Int)+1) = .int .i64 i'∧a < i'∧(i'≤b∨i'=a+1)∧b+1 - i'≤(b - (i+1))+1∧dk'.size=d.size∧Aside (SW enc w0 blk off dk' w')∧Hid (Sam d dk' a (min i' b))∧Hid (Srt key idx dk' a (min i' b)):=by
          intro w' hw hstop
          refine ⟨i+1,dj,by simp,by omega,by omega,by omega,hdj,hw,?_,?_⟩
          · have e:min (i+1) b=i+1:=by omega
            rw [e];exact (HS1.out.wide (Nat.le_refl _) (by omega)).trans HJ1.out
          · have e:min (i+1) b=i+1:=by omega
            rw [e];exact HJ2.out.stop hji hstop
        have OUT:Aside _:=out
        clear out HS1 HS2
        by_cases hja:a < j
        · obtain ⟨jp,hjp⟩:∃ q,j=q+1:=⟨j - 1,by omega⟩
          subst hjp
          have hjaz':(a:Int) < (jp:Int)+1:=by omega
          have hjad:decide ((jp:Int)+1 > (a:Int))=true:=decide_eq_true (by omega)
          obtain ⟨iN,hiN⟩:∃ q,q=jp+1:=⟨_,rfl⟩
          obtain ⟨jN,hjN⟩:∃ q,q=jp:=⟨_,rfl⟩
          have ea:((jp:Int)+1).toNat=iN:=by omega
          have pa:(0:Int)≤(jp:Int)+1:=by omega
          have ba:(jp:Int)+1 < (d.size:Int):=by omega
          have ra:IntKind.i64.wrap ((jp:Int)+1)=(jp:Int)+1:=by rw [IntKind.wrap_i64];omega
          have ec:(jp:Int).toNat=jN:=by omega
          have pc:(0:Int)≤(jp:Int):=by omega
          have bc:(jp:Int) < (d.size:Int):=by omega
          have rc:IntKind.i64.wrap (jp:Int)=(jp:Int):=by rw [IntKind.wrap_i64];omega
          obtain ⟨x,hx⟩:∃ x,x=dj[jp+1]! := ⟨_,rfl⟩
          obtain ⟨y,hy⟩:∃ x,x=dj[jp]! := ⟨_,rfl⟩
          have HXY:Hid (cf x y < 0↔key y < key x):=HCF.out x y
          have HL:=ab1 (key:=key) (idx:=idx) (HJ2.out.2.2 jp (by omega) (by omega) (by omega))
          have l1:=SJ.out.cl R (by omega) (jp+1) (by omega)
          have l2:=SJ.out.cl R (by omega) jp (by omega)
          rw [← hx,← hiN] at l1
          rw [← hy,← hjN] at l2
          have hc:=SJ.out.cmp HC.out (by omega) x y
          have HL2:Hid ((cf x y < 0→Lx key idx dj[jp+1]! dj[jp]!)∧(¬ cf x y < 0→Lx key idx dj[jp]! dj[jp+1]!)):=by
            refine ⟨fun r=>HL.1.1 ?_,fun r=>HL.2.1 ?_⟩
            · rw [← hx,← hy];exact HXY.out.1 r
            · rw [← hx,← hy];exact fun r'=>r (HXY.out.2 r')
          have HX:Hid (x=dj[jp+1]!):=hx
          have HY:Hid (y=dj[jp]!):=hy
          have HIN:Hid (iN=jp+1):=hiN
          have HJN:Hid (jN=jp):=hjN
          clear hx hy hiN hjN HL HXY
          by_cases hv:cf x y < 0
          · have hd1:decide (cf x y < 0)=true:=decide_eq_true hv
            clear OUT
            go_wp2_with fail
            go_quiet_grown (first|(go_at_fn g;refine Calls.grown_of (hc _ _)))
            have S2:Aside (SW enc w0 blk off dj (grow (wr.drewN nq) osq)):=SJ.out.grown nq osq
            clear l1 l2 hc SJ
            generalize grow (wr.drewN nq) osq=w2 at S2 ⊢
            clear nq osq
            have S3:Aside (SW enc w0 blk off (swp dj (jp+1) jp) ((w2.setCell ⟨blk,off+iN,none⟩ (enc y)).setCell ⟨blk,off+jN,none⟩ (enc x)).drew):=by rw [HIN.out,HJN.out,HX.out,HY.out];exact S2.out.swapped R (jp+1) jp (by omega) (by omega)
            have c1a:=S2.out.c1 R (by omega) (jp+1) (by omega)
            have c1b:=S2.out.c1 R (by omega) jp (by omega)
            have f1a:=S2.out.f1 R (by omega) (jp+1) (by omega)
            have f1b:=S2.out.f1 R (by omega) jp (by omega)
            obtain ⟨u,c1c⟩:=S2.out.c2 R (by omega) (jp+1) jp (by omega) (by omega) (enc y)
            rw [← HIN.out] at c1c
            rw [← HJN.out] at c1c
            rw [← HX.out,← HIN.out] at c1a
            rw [← HY.out,← HJN.out] at c1b
            rw [← HIN.out] at f1a
            rw [← HJN.out] at f1b
            clear S2
            go_wp2_with fail
            go_big_region_o
            clear c1a c1b c1c f1a f1b
            generalize ((w2.setCell ⟨blk,off+iN,none⟩ (enc y)).setCell ⟨blk,off+jN,none⟩ (enc x)).drew=w3 at S3 ⊢
            clear ea ec
            go_wp2
            go_roundg jp
            case measure=>omega
            case rel=>exact ⟨jp,swp dj (jp+1) jp,by first|rfl|go_num|simp,by omega,by omega,Nat.le_refl _,by rw [swp_size];exact hdj,S3,HJ1.out.trans (Sam.swp ⟨by omega,by omega⟩ ⟨by omega,by omega⟩ (by omega)),HJ2.out.step (by omega) (by omega) (by omega) (HL2.out.1 hv)⟩
          · have hd1:decide (cf x y < 0)=false:=decide_eq_false hv
            go_wp2_with fail
            go_quiet_grown (first|(go_at_fn g;refine Calls.grown_of (hc _ _)))
            have S2:Aside (SW enc w0 blk off dj (grow (wr.drewN nq) osq)):=SJ.out.grown nq osq
            clear l1 l2 hc SJ
            generalize grow (wr.drewN nq) osq=w2 at S2 ⊢
            clear nq osq
            go_wp2
            go_roundg (b - (i+1))
            case measure=>omega
            case rel=>exact OUT.out _ S2.out (Or.inr (by rw [Nat.add_sub_cancel];exact HL2.out.2 hv))
        · have hjaz:decide ((j:Int) > (a:Int))=false:=decide_eq_false (by omega)
          have hjaz':¬ (a:Int) < (j:Int):=by omega
          have S2:Aside (SW enc w0 blk off dj wr.drew):=SJ.out.drew
          clear SJ
          go_wp2_with fail
          go_big_region_o
          all_goals go_wp2
          go_roundg (b - (i+1))
          case measure=>omega
          case rel=>exact OUT.out _ S2.out (Or.inl (by omega))
    · have hltz:¬ (i:Int) < (b:Int):=by omega
      go_wp2
      go_end0
      have e:min i b=b:=by omega
      have s1:=HS1.out;have s2:=HS2.out
      rw [e] at s1 s2
      exact ⟨rfl,dk,S1.out,s1,s2⟩
end Go.Proofs.YtpondkggmcmpfaaGreatDoor.S
