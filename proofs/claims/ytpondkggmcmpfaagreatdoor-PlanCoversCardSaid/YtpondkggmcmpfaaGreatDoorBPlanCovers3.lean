/- Joined by wip/tools/bundle.py out of: S06M. -/
import Derived.Test.YtpondkggmcmpfaaGreatDoorBPlanCovers2
namespace Go.Proofs.YtpondkggmcmpfaaGreatDoor.S
open Go.Shelf Go.RowKit Go.Lib Go.Sort
set_option linter.unusedVariables false
variable {α:Type} [Inhabited α]
set_option maxHeartbeats 8000000 in
set_option maxRecDepth 1000000 in
theorem akB (enc:α→Value) (cf:α→α→Int) (g:Nat) (cb:Array Value) (key:α→Int) (idx:α→Nat) (blk off cap a m b:Nat) (d0 d:Array α) (w0 w:World)
    (eg:∀ args w,(callFunc g args).run Tryz.prog w = .ok (.enter g args) w) (hcmp:CmpLays1 Tryz.prog g cb enc cf blk off d0.size w0) (hcf:∀ x y,cf x y < 0↔key y < key x)
    (R:Row1 enc w0 blk off d0) (hs:d0.size=d.size) (S:SW enc w0 blk off d w) (hmm:m=a+1) (hm:m < b) (hb:b≤d.size) (hsz:d.size < 4611686018427387904) (hM:Mrg key idx d a m b) :
    Calls Tryz.prog 183 #[.slice (some ⟨blk,off,none⟩) d.size cap,.int .i64 a,.int .i64 m,.int .i64 b,.func (.func g) #[] cb] w fun e w'=>e = .returned (.tuple #[])∧∃ d',SW enc w0 blk off d' w'∧Sam d d' a b∧Srt key idx d' a b:=by
  have mixed:Tryz.prog.follows .mixedOrders=true:=by kernel_rfl
  have hcl0:=R.hO.cells
  simp only [Value.cells] at hcl0
  have hst:=R.hO.store Tryz.prog
  have HC:Aside _:=hcmp
  have HM:Aside (Mrg key idx d a m b):=hM
  have S0:Aside (SW enc w0 blk off d w):=S
  have HMM:Hid (m=a+1):=hmm
  have HCF:Hid (∀ x y,cf x y < 0↔key y < key x):=hcf
  have ham:a < m:=by omega
  have e1:(m:Int) - (a:Int)=1:=by omega
  clear S hcmp hM hmm hcf
  have n1:IntKind.i64.wrap (1:Int)=1:=by rw [IntKind.wrap_i64];omega
  go_enter Tryz.func183,Tryz.ntmps183
  go_wp2
  clear e1
  go_loopg [10,11] (b - m) (fun kx s10 s11 wr=>∃ (i j:Nat),s10 = .int .i64 i∧s11 = .int .i64 j∧m≤i∧i≤j∧j≤b∧j - i≤kx∧Aside (SW enc w0 blk off d wr)∧Hid (i=m∨Lx key idx d[i - 1]! d[a]!)∧Hid (j=b∨Lx key idx d[a]! d[j]!))
  case atStart=>exact ⟨m,b,rfl,rfl,by omega,by omega,by omega,by omega,S0,Or.inl rfl,Or.inl rfl⟩
  case round =>
    clear S0
    obtain ⟨i,j,rfl,rfl,h1,h2,h3,hkx,S1,HA,HB⟩:=hrel
    by_cases hlt:(i:Int) < (j:Int)
    · go_wp2_with fail
      obtain ⟨h,hh⟩:∃ h:Nat,h=(i+j) / 2:=⟨_,rfl⟩
      have zh:((i:Int)+(j:Int)) / 2=(h:Int):=by omega
      have hi1:i≤h:=by omega
      have hi2:h < j:=by omega
      clear hh
      rw [zh]
      clear zh
      obtain ⟨iN,hiN⟩:∃ q,q=h:=⟨_,rfl⟩
      obtain ⟨jN,hjN⟩:∃ q,q=a:=⟨_,rfl⟩
      have ea:(h:Int).toNat=iN:=by omega
      have pa:(0:Int)≤(h:Int):=by omega
      have ba:(h:Int) < (d.size:Int):=by omega
      have ec:(a:Int).toNat=jN:=by omega
      have pc:(0:Int)≤(a:Int):=by omega
      have bc:(a:Int) < (d.size:Int):=by omega
      obtain ⟨x,hx⟩:∃ x,x=d[h]! := ⟨_,rfl⟩
      obtain ⟨y,hy⟩:∃ x,x=d[a]! := ⟨_,rfl⟩
      have HXY:Hid (cf x y < 0↔key y < key x):=HCF.out x y
      have HL:=ab1 (key:=key) (idx:=idx) (HM.out.2.2 a h (Nat.le_refl _) ham (by omega) (by omega))
      have l1:=S1.out.cl R (by omega) h (by omega)
      have l2:=S1.out.cl R (by omega) a (by omega)
      rw [← hx,← hiN] at l1
      rw [← hy,← hjN] at l2
      have hc:=S1.out.cmp HC.out (by omega) x y
      have HL2:Hid ((cf x y < 0→Lx key idx d[h]! d[a]!)∧(¬ cf x y < 0→Lx key idx d[a]! d[h]!)):=by
        refine ⟨fun q=>HL.1.1 ?_,fun q=>HL.2.1 ?_⟩
        · rw [← hx,← hy];exact HXY.out.1 q
        · rw [← hx,← hy];exact fun q'=>q (HXY.out.2 q')
      clear hx hy hiN hjN HL HXY
      by_cases hv:cf x y < 0
      · have hd1:decide (cf x y < 0)=true:=decide_eq_true hv
        go_quiet_grown (first|(go_at_fn g;refine Calls.grown_of (hc _ _)))
        have S2:Aside (SW enc w0 blk off d (grow (wr.drewN nq) osq)):=S1.out.grown nq osq
        clear l1 l2 hc S1
        generalize grow (wr.drewN nq) osq=w2 at S2 ⊢
        clear nq osq ea ec
        go_wp2
        go_roundg (j - (h+1))
        case measure=>omega
        case rel=>exact ⟨h+1,j,by simp,rfl,by omega,by omega,h3,Nat.le_refl _,S2,Or.inr (HL2.out.1 hv),HB⟩
      · have hd1:decide (cf x y < 0)=false:=decide_eq_false hv
        go_quiet_grown (first|(go_at_fn g;refine Calls.grown_of (hc _ _)))
        have S2:Aside (SW enc w0 blk off d (grow (wr.drewN nq) osq)):=S1.out.grown nq osq
        clear l1 l2 hc S1
        generalize grow (wr.drewN nq) osq=w2 at S2 ⊢
        clear nq osq ea ec
        go_wp2
        go_roundg (h - i)
        case measure=>omega
        case rel=>exact ⟨i,h,rfl,rfl,by omega,by omega,by omega,Nat.le_refl _,S2,HA,Or.inr (HL2.out.2 hv)⟩
    · have hij:i=j:=by omega
      subst hij
      go_wp2
      go_loopg [13] (i - 1 - a) (fun kx s13 wr2=>∃ (k:Nat),s13 = .int .i64 k∧a≤k∧k≤i - 1∧i - 1 - k≤kx∧Aside (SW enc w0 blk off (yT a (k - a) d) wr2))
      case atStart=>exact ⟨a,rfl,by omega,by omega,by omega,by rw [Nat.sub_self];exact S1⟩
      case round =>
        clear S1
        obtain ⟨k,rfl,k1,k2,hk,S1⟩:=hrel
        have hds:(yT a (k - a) d).size=d.size:=ab2 _ _ _
        obtain ⟨dk,hdk⟩:∃ dk,dk=yT a (k - a) d:=⟨_,rfl⟩
        rw [← hdk] at S1 hds
        by_cases hlt2:(k:Int) < (i:Int) - 1
        · go_wp2_with fail
          obtain ⟨iN,hiN⟩:∃ q,q=k:=⟨_,rfl⟩
          obtain ⟨jN,hjN⟩:∃ q,q=k+1:=⟨_,rfl⟩
          have ea:(k:Int).toNat=iN:=by omega
          have pa:(0:Int)≤(k:Int):=by omega
          have ba:(k:Int) < (d.size:Int):=by omega
          have ec:((k:Int)+1).toNat=jN:=by omega
          have pc:(0:Int)≤(k:Int)+1:=by omega
          have bc:(k:Int)+1 < (d.size:Int):=by omega
          have rc:IntKind.i64.wrap ((k:Int)+1)=(k:Int)+1:=by rw [IntKind.wrap_i64];omega
          obtain ⟨x,hx⟩:∃ x,x=dk[k]! := ⟨_,rfl⟩
          obtain ⟨y,hy⟩:∃ x,x=dk[k+1]! := ⟨_,rfl⟩
          have S2:Aside (SW enc w0 blk off (swp dk k (k+1)) ((wr.setCell ⟨blk,off+iN,none⟩ (enc y)).setCell ⟨blk,off+jN,none⟩ (enc x)).drew):=by rw [hiN,hjN,hx,hy];exact S1.out.swapped R k (k+1) (by omega) (by omega)
          have c1a:=S1.out.c1 R (by omega) k (by omega)
          have c1b:=S1.out.c1 R (by omega) (k+1) (by omega)
          have f1a:=S1.out.f1 R (by omega) k (by omega)
          have f1b:=S1.out.f1 R (by omega) (k+1) (by omega)
          obtain ⟨u,c1c⟩:=S1.out.c2 R (by omega) k (k+1) (by omega) (by omega) (enc y)
          rw [← hjN,← hiN] at c1c
          rw [← hx,← hiN] at c1a
          rw [← hy,← hjN] at c1b
          rw [← hiN] at f1a
          rw [← hjN] at f1b
          clear S1 hx hy hiN hjN
          go_wp2_with fail
          go_big_region_o
          clear c1a c1b c1c f1a f1b
          generalize ((wr.setCell ⟨blk,off+iN,none⟩ (enc y)).setCell ⟨blk,off+jN,none⟩ (enc x)).drew=w2 at S2 ⊢
          clear ea ec
          go_wp2
          go_roundg (i - 1 - (k+1))
          case measure=>omega
          case rel=>exact ⟨k+1,by simp,by omega,by omega,Nat.le_refl _,by rw [show k+1 - a=k - a+1 from by omega,yT,← hdk,show a+(k - a)=k from by omega];exact S2⟩
        · go_wp2
          (try simp only [Exit.inBlock,Exit.then]);refine bodyPost_ret (results_none rfl _ _ _) rfl ?_
          have hk:k=i - 1:=by omega
          subst hk
          have hmm:=HMM.out
          subst hmm
          refine ⟨rfl,_,S1.out,?_,?_⟩
          · rw [hdk];exact Sam.yT (n:=i - 1 - a) (by omega) hb _ (Nat.le_refl _)
          · rw [hdk];exact anY HM.out hb ⟨h1,h3⟩ HA.out HB.out
set_option maxHeartbeats 8000000 in
set_option maxRecDepth 1000000 in
theorem aiR (enc:α→Value) (cf:α→α→Int) (g:Nat) (cb:Array Value) (key:α→Int) (idx:α→Nat) (blk off cap a m b:Nat) (d0 d:Array α) (w0 w:World)
    (eg:∀ args w,(callFunc g args).run Tryz.prog w = .ok (.enter g args) w) (hcmp:CmpLays1 Tryz.prog g cb enc cf blk off d0.size w0) (hcf:∀ x y,cf x y < 0↔key y < key x)
    (R:Row1 enc w0 blk off d0) (hs:d0.size=d.size) (S:SW enc w0 blk off d w) (hbm:b=m+1) (ham:a+1 < m) (hb:b≤d.size) (hsz:d.size < 4611686018427387904) (hM:Mrg key idx d a m b) :
    Calls Tryz.prog 183 #[.slice (some ⟨blk,off,none⟩) d.size cap,.int .i64 a,.int .i64 m,.int .i64 b,.func (.func g) #[] cb] w fun e w'=>e = .returned (.tuple #[])∧∃ d',SW enc w0 blk off d' w'∧Sam d d' a b∧Srt key idx d' a b:=by
  have mixed:Tryz.prog.follows .mixedOrders=true:=by kernel_rfl
  have hcl0:=R.hO.cells
  simp only [Value.cells] at hcl0
  have hst:=R.hO.store Tryz.prog
  have HC:Aside _:=hcmp
  have HM:Aside (Mrg key idx d a m b):=hM
  have S0:Aside (SW enc w0 blk off d w):=S
  have HBM:Hid (b=m+1):=hbm
  have HCF:Hid (∀ x y,cf x y < 0↔key y < key x):=hcf
  have hmb:m < b:=by omega
  have e0:¬ ((m:Int) - (a:Int)=1):=by omega
  have b0:((m:Int) - (a:Int) == 1)=false:=by simpa using e0
  have n0:IntKind.i64.wrap ((m:Int) - (a:Int))=(m:Int) - (a:Int):=by rw [IntKind.wrap_i64];omega
  have e1:(b:Int) - (m:Int)=1:=by omega
  clear S hcmp hM hbm hcf
  have n1:IntKind.i64.wrap (1:Int)=1:=by rw [IntKind.wrap_i64];omega
  go_enter Tryz.func183,Tryz.ntmps183
  go_wp2
  clear e1 e0 n0
  go_loopg [14,15] (m - a) (fun kx s14 s15 wr=>∃ (i j:Nat),s14 = .int .i64 i∧s15 = .int .i64 j∧a≤i∧i≤j∧j≤m∧j - i≤kx∧Aside (SW enc w0 blk off d wr)∧Hid (i=a∨Lx key idx d[i - 1]! d[m]!)∧Hid (j=m∨Lx key idx d[m]! d[j]!))
  case atStart=>exact ⟨a,m,rfl,rfl,by omega,by omega,by omega,by omega,S0,Or.inl rfl,Or.inl rfl⟩
  case round =>
    clear S0
    obtain ⟨i,j,rfl,rfl,h1,h2,h3,hkx,S1,HA,HB⟩:=hrel
    by_cases hlt:(i:Int) < (j:Int)
    · go_wp2_with fail
      obtain ⟨h,hh⟩:∃ h:Nat,h=(i+j) / 2:=⟨_,rfl⟩
      have zh:((i:Int)+(j:Int)) / 2=(h:Int):=by omega
      have hi1:i≤h:=by omega
      have hi2:h < j:=by omega
      clear hh
      rw [zh]
      clear zh
      obtain ⟨iN,hiN⟩:∃ q,q=m:=⟨_,rfl⟩
      obtain ⟨jN,hjN⟩:∃ q,q=h:=⟨_,rfl⟩
      have ea:(m:Int).toNat=iN:=by omega
      have pa:(0:Int)≤(m:Int):=by omega
      have ba:(m:Int) < (d.size:Int):=by omega
      have ec:(h:Int).toNat=jN:=by omega
      have pc:(0:Int)≤(h:Int):=by omega
      have bc:(h:Int) < (d.size:Int):=by omega
      obtain ⟨x,hx⟩:∃ x,x=d[m]! := ⟨_,rfl⟩
      obtain ⟨y,hy⟩:∃ x,x=d[h]! := ⟨_,rfl⟩
      have HXY:Hid (cf x y < 0↔key y < key x):=HCF.out x y
      have HL:=ab1 (key:=key) (idx:=idx) (HM.out.2.2 h m (by omega) (by omega) (Nat.le_refl _) hmb)
      have l1:=S1.out.cl R (by omega) m (by omega)
      have l2:=S1.out.cl R (by omega) h (by omega)
      rw [← hx,← hiN] at l1
      rw [← hy,← hjN] at l2
      have hc:=S1.out.cmp HC.out (by omega) x y
      have HL2:Hid ((cf x y < 0→Lx key idx d[m]! d[h]!)∧(¬ cf x y < 0→Lx key idx d[h]! d[m]!)):=by
        refine ⟨fun q=>HL.1.1 ?_,fun q=>HL.2.1 ?_⟩
        · rw [← hx,← hy];exact HXY.out.1 q
        · rw [← hx,← hy];exact fun q'=>q (HXY.out.2 q')
      clear hx hy hiN hjN HL HXY
      by_cases hv:cf x y < 0
      · have hd1:decide (cf x y < 0)=true:=decide_eq_true hv
        go_quiet_grown (first|(go_at_fn g;refine Calls.grown_of (hc _ _)))
        have S2:Aside (SW enc w0 blk off d (grow (wr.drewN nq) osq)):=S1.out.grown nq osq
        clear l1 l2 hc S1
        generalize grow (wr.drewN nq) osq=w2 at S2 ⊢
        clear nq osq ea ec
        go_wp2
        go_roundg (h - i)
        case measure=>omega
        case rel=>exact ⟨i,h,rfl,rfl,by omega,by omega,by omega,Nat.le_refl _,S2,HA,Or.inr (HL2.out.1 hv)⟩
      · have hd1:decide (cf x y < 0)=false:=decide_eq_false hv
        go_quiet_grown (first|(go_at_fn g;refine Calls.grown_of (hc _ _)))
        have S2:Aside (SW enc w0 blk off d (grow (wr.drewN nq) osq)):=S1.out.grown nq osq
        clear l1 l2 hc S1
        generalize grow (wr.drewN nq) osq=w2 at S2 ⊢
        clear nq osq ea ec
        go_wp2
        go_roundg (j - (h+1))
        case measure=>omega
        case rel=>exact ⟨h+1,j,by simp,rfl,by omega,by omega,h3,Nat.le_refl _,S2,Or.inr (HL2.out.2 hv),HB⟩
    · have hij:i=j:=by omega
      subst hij
      go_wp2
      go_loopg [17] (m - i) (fun kx s17 wr2=>∃ (k:Nat),s17 = .int .i64 k∧i≤k∧k≤m∧k - i≤kx∧Aside (SW enc w0 blk off (yU m (m - k) d) wr2))
      case atStart=>exact ⟨m,rfl,by omega,by omega,by omega,by rw [Nat.sub_self];exact S1⟩
      case round =>
        clear S1
        obtain ⟨k,rfl,k1,k2,hk,S1⟩:=hrel
        have hds:(yU m (m - k) d).size=d.size:=ab3 _ _ _
        obtain ⟨dk,hdk⟩:∃ dk,dk=yU m (m - k) d:=⟨_,rfl⟩
        rw [← hdk] at S1 hds
        by_cases hlt2:(i:Int) < (k:Int)
        · obtain ⟨kp,hkp⟩:∃ q,k=q+1:=⟨k - 1,by omega⟩
          subst hkp
          go_wp2_with fail
          obtain ⟨iN,hiN⟩:∃ q,q=kp+1:=⟨_,rfl⟩
          obtain ⟨jN,hjN⟩:∃ q,q=kp:=⟨_,rfl⟩
          have ea:((kp:Int)+1).toNat=iN:=by omega
          have pa:(0:Int)≤(kp:Int)+1:=by omega
          have ba:(kp:Int)+1 < (d.size:Int):=by omega
          have ra:IntKind.i64.wrap ((kp:Int)+1)=(kp:Int)+1:=by rw [IntKind.wrap_i64];omega
          have ec:(kp:Int).toNat=jN:=by omega
          have pc:(0:Int)≤(kp:Int):=by omega
          have bc:(kp:Int) < (d.size:Int):=by omega
          have rc:IntKind.i64.wrap (kp:Int)=(kp:Int):=by rw [IntKind.wrap_i64];omega
          obtain ⟨x,hx⟩:∃ x,x=dk[kp+1]! := ⟨_,rfl⟩
          obtain ⟨y,hy⟩:∃ x,x=dk[kp]! := ⟨_,rfl⟩
          have S2:Aside (SW enc w0 blk off (swp dk (kp+1) kp) ((wr.setCell ⟨blk,off+iN,none⟩ (enc y)).setCell ⟨blk,off+jN,none⟩ (enc x)).drew):=by rw [hiN,hjN,hx,hy];exact S1.out.swapped R (kp+1) kp (by omega) (by omega)
          have c1a:=S1.out.c1 R (by omega) (kp+1) (by omega)
          have c1b:=S1.out.c1 R (by omega) kp (by omega)
          have f1a:=S1.out.f1 R (by omega) (kp+1) (by omega)
          have f1b:=S1.out.f1 R (by omega) kp (by omega)
          obtain ⟨u,c1c⟩:=S1.out.c2 R (by omega) (kp+1) kp (by omega) (by omega) (enc y)
          rw [← hiN] at c1c
          rw [← hjN] at c1c
          rw [← hx,← hiN] at c1a
          rw [← hy,← hjN] at c1b
          rw [← hiN] at f1a
          rw [← hjN] at f1b
          clear S1 hx hy hiN hjN
          go_wp2_with fail
          go_big_region_o
          clear c1a c1b c1c f1a f1b
          generalize ((wr.setCell ⟨blk,off+iN,none⟩ (enc y)).setCell ⟨blk,off+jN,none⟩ (enc x)).drew=w2 at S2 ⊢
          clear ea ec
          go_wp2
          go_roundg (kp - i)
          case measure=>omega
          case rel=>exact ⟨kp,by simp,by omega,by omega,Nat.le_refl _,by rw [show m - kp=m - (kp+1)+1 from by omega,yU,← hdk,show m - (m - (kp+1))=kp+1 from by omega,Nat.add_sub_cancel];exact S2⟩
        · go_wp2
          (try simp only [Exit.inBlock,Exit.then]);refine bodyPost_ret (results_none rfl _ _ _) rfl ?_
          have hk:k=i:=by omega
          subst hk
          have hbm:=HBM.out
          subst hbm
          refine ⟨rfl,_,S1.out,?_,?_⟩
          · rw [hdk];exact Sam.yU (n:=m - k) (by omega) (by omega) hb _ (Nat.le_refl _)
          · rw [hdk];exact apP HM.out hb ⟨h1,h3⟩ HA.out HB.out
end Go.Proofs.YtpondkggmcmpfaaGreatDoor.S
