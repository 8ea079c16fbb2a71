/- Joined by wip/tools/bundle.py out of: S06N. -/
import Derived.Test.YtpondkggmcmpfaaGreatDoorBPlanCovers3
import Derived.Deep.DeepCutAuto
namespace Go.Proofs.YtpondkggmcmpfaaGreatDoor.S
open Go.Shelf Go.RowKit Go.Lib Go.Sort
set_option linter.unusedVariables false
variable {α:Type} [Inhabited α]
set_option maxHeartbeats 16000000 in
set_option maxRecDepth 1000000 in
theorem aiS (enc:α→Value) (cf:α→α→Int) (g:Nat) (cb:Array Value) (key:α→Int) (idx:α→Nat) (blk off cap a m b:Nat) (d0 d:Array α) (w0 w:World)
    (eg:∀ args w,(callFunc g args).run Tryz.prog w = .ok (.enter g args) w) (hcmp:CmpLays1 Tryz.prog g cb enc cf blk off d0.size w0) (hcf:∀ x y,cf x y < 0↔key y < key x)
    (R:Row1 enc w0 blk off d0) (hs:d0.size=d.size) (S:SW enc w0 blk off d w) (ham:a+1 < m) (hmb:m+1 < b) (hb:b≤d.size) (hsz:d.size < 4611686018427387904) (hM:Mrg key idx d a m b)
    (ih:∀ (a' m' b':Nat) (d':Array α) (w':World),b' - a' < b - a→d0.size=d'.size→SW enc w0 blk off d' w'→a' < m'→m' < b'→b'≤d'.size→Mrg key idx d' a' m' b' →
      Calls Tryz.prog 183 #[.slice (some ⟨blk,off,none⟩) d'.size cap,.int .i64 a',.int .i64 m',.int .i64 b',.func (.func g) #[] cb] w' fun e w''=>e = .returned (.tuple #[])∧∃ d'',SW enc w0 blk off d'' w''∧Sam d' d'' a' b'∧Srt key idx d'' a' b') :
    Calls Tryz.prog 183 #[.slice (some ⟨blk,off,none⟩) d.size cap,.int .i64 a,.int .i64 m,.int .i64 b,.func (.func g) #[] cb] w fun e w'=>e = .returned (.tuple #[])∧∃ d',SW enc w0 blk off d' w'∧Sam d d' a b∧Srt key idx d' a b:=by
  have mixed:Tryz.prog.follows .mixedOrders=true:=by kernel_rfl
  have hcl0:=R.hO.cells
  simp only [Value.cells] at hcl0
  have hst:=R.hO.store Tryz.prog
  have HC:Aside _:=hcmp
  have HM:Aside (Mrg key idx d a m b):=hM
  have S0:Aside (SW enc w0 blk off d w):=S
  have HCF:Hid (∀ x y,cf x y < 0↔key y < key x):=hcf
  have IH:Aside _:=ih
  have eRO:∀ args w,(callFunc 191 args).run Tryz.prog w = .ok (.enter 191 args) w:=enters_of Tryz.func191 (by kernel_rfl) rfl
  have eSM:∀ args w,(callFunc 183 args).run Tryz.prog w = .ok (.enter 183 args) w:=enters_of Tryz.func183 (by kernel_rfl) rfl
  have e0:¬ ((m:Int) - (a:Int)=1):=by omega
  have n0:IntKind.i64.wrap ((m:Int) - (a:Int))=(m:Int) - (a:Int):=by rw [IntKind.wrap_i64];omega
  have e1:¬ ((b:Int) - (m:Int)=1):=by omega
  have n1:IntKind.i64.wrap ((b:Int) - (m:Int))=(b:Int) - (m:Int):=by rw [IntKind.wrap_i64];omega
  obtain ⟨mid,hmid⟩:∃ mid:Nat,mid=(a+b) / 2:=⟨_,rfl⟩
  have aBm:((a:Int)+(b:Int)) / 2=(mid:Int):=by omega
  have m1:a < mid:=by omega
  have m2:mid < b:=by omega
  obtain ⟨n,hn⟩:∃ n:Nat,n=mid+m:=⟨_,rfl⟩
  have zn:(mid:Int)+(m:Int)=(n:Int):=by omega
  obtain ⟨p,hp⟩:∃ p:Nat,n=p+1:=⟨n - 1,by omega⟩
  have zp:(n:Int) - 1=(p:Int):=by omega
  have HN:Hid (n=mid+m∧n=p+1):=⟨hn,hp⟩
  clear S hcmp hM hcf ih hmid hn hp
  have b0:((m:Int) - (a:Int) == 1)=false:=by simpa using e0
  have b1:((b:Int) - (m:Int) == 1)=false:=by simpa using e1
  go_enter Tryz.func183,Tryz.ntmps183
  go_upto_if 140 with fail
  go_cut [20,21] (fun v20 v21 wc=>∃ (lo hi:Nat),v20 = .int .i64 lo∧v21 = .int .i64 hi∧((mid < m∧lo+b=mid+m∧hi=mid)∨(m≤mid∧lo=a∧hi=m))∧Aside (SW enc w0 blk off d wc))
  case first=>as_aux_lemma =>
    by_cases c:mid < m
    · have c':(mid:Int) < (m:Int):=by omega
      have z1:(n:Int) - (b:Int)=((mid+m - b:Nat):Int):=by have:=HN.out;omega
      go_wp2
      go_meet
      case rel=>exact ⟨mid+m - b,mid,by first|rfl|rw [z1]|simp [z1],rfl,Or.inl ⟨c,by omega,rfl⟩,S0⟩
    · have c':¬ (mid:Int) < (m:Int):=by omega
      go_wp2
      go_meet
      case rel=>exact ⟨a,m,rfl,rfl,Or.inr ⟨by omega,rfl,rfl⟩,S0⟩
  case rest=>as_aux_lemma =>
    clear S0
    obtain ⟨lo,hi,rfl,rfl,hside,S0⟩:=hcut
    have hlo:a≤lo∧lo≤hi∧hi≤m∧hi≤mid∧n - hi≥m∧n - lo≤b:=by have:=HN.out;omega
    have ana:Hid ((lo=a∨n - lo=b)∧(hi=m∨n - hi=m)):=by
      have:=HN.out
      show _∧_
      constructor
      · rcases hside with h|h
        · exact Or.inr (by omega)
        · exact Or.inl h.2.1
      · rcases hside with h|h
        · exact Or.inr (by omega)
        · exact Or.inl h.2.2
    have hnb:n≤b+lo∧m+hi≤n:=by have:=HN.out;omega
    clear hside e0 e1 n0 n1
    go_upto_region 33 with fail
    go_loopg [20,21] (hi - lo) (fun kx s20 s21 wr=>∃ (i j:Nat),s20 = .int .i64 i∧s21 = .int .i64 j∧lo≤i∧i≤j∧j≤hi∧j - i≤kx∧Aside (SW enc w0 blk off d wr)∧Hid (i=lo∨Lx key idx d[i - 1]! d[n - i]!)∧Hid (j=hi∨Lx key idx d[n - 1 - j]! d[j]!))
    case atStart=>exact ⟨lo,hi,rfl,rfl,by omega,by omega,by omega,by omega,S0,Or.inl rfl,Or.inl rfl⟩
    case round =>
      clear S0
      obtain ⟨i,j,rfl,rfl,h1,h2,h3,hkx,S1,HA,HB⟩:=hrel
      by_cases hlt:(i:Int) < (j:Int)
      · go_wp2_with fail
        obtain ⟨h,hh⟩:∃ h:Nat,h=(i+j) / 2:=⟨_,rfl⟩
        have zh:((i:Int)+(j:Int)) / 2=(h:Int):=by omega
        have hi1:i≤h:=by omega
        have hi2:h < j:=by omega
        clear hh
        rw [zh]
        clear zh
        obtain ⟨q,hq⟩:∃ q:Nat,q=n - 1 - h:=⟨_,rfl⟩
        have hq2:m≤q∧q < b:=by have:=HN.out;omega
        have zq:(p:Int) - (h:Int)=(q:Int):=by have:=HN.out;omega
        have HQ:Hid (q=n - 1 - h):=hq
        clear hq
        obtain ⟨iN,hiN⟩:∃ q',q'=q:=⟨_,rfl⟩
        obtain ⟨jN,hjN⟩:∃ q',q'=h:=⟨_,rfl⟩
        have ea:(q:Int).toNat=iN:=by omega
        have pa:(0:Int)≤(q:Int):=by omega
        have ba:(q:Int) < (d.size:Int):=by omega
        have ra:IntKind.i64.wrap (q:Int)=(q:Int):=by rw [IntKind.wrap_i64];omega
        have ec:(h:Int).toNat=jN:=by omega
        have pc:(0:Int)≤(h:Int):=by omega
        have bc:(h:Int) < (d.size:Int):=by omega
        obtain ⟨x,hx⟩:∃ x,x=d[q]! := ⟨_,rfl⟩
        obtain ⟨y,hy⟩:∃ x,x=d[h]! := ⟨_,rfl⟩
        have HXY:Hid (cf x y < 0↔key y < key x):=HCF.out x y
        have HL:=ab1 (key:=key) (idx:=idx) (HM.out.2.2 h q (by omega) (by omega) hq2.1 hq2.2)
        have l1:=S1.out.cl R (by omega) q (by omega)
        have l2:=S1.out.cl R (by omega) h (by omega)
        rw [← hx,← hiN] at l1
        rw [← hy,← hjN] at l2
        have hc:=S1.out.cmp HC.out (by omega) x y
        have HL2:Hid ((cf x y < 0→Lx key idx d[q]! d[h]!)∧(¬ cf x y < 0→Lx key idx d[h]! d[q]!)):=by
          refine ⟨fun r=>HL.1.1 ?_,fun r=>HL.2.1 ?_⟩
          · rw [← hx,← hy];exact HXY.out.1 r
          · rw [← hx,← hy];exact fun r'=>r (HXY.out.2 r')
        clear hx hy hiN hjN HL HXY
        by_cases hv:cf x y < 0
        · have hd1:decide (cf x y < 0)=true:=decide_eq_true hv
          go_quiet_grown (first|(go_at_fn g;refine Calls.grown_of (hc _ _)))
          have S2:Aside (SW enc w0 blk off d (grow (wr.drewN nq) osq)):=S1.out.grown nq osq
          clear l1 l2 hc S1
          generalize grow (wr.drewN nq) osq=w2 at S2 ⊢
          clear nq osq ea ec
          go_wp2
          go_roundg (h - i)
          case measure=>omega
          case rel=>exact ⟨i,h,rfl,rfl,by omega,by omega,by omega,Nat.le_refl _,S2,HA,Or.inr (by rw [← HQ.out];exact HL2.out.1 hv)⟩
        · have hd1:decide (cf x y < 0)=false:=decide_eq_false hv
          go_quiet_grown (first|(go_at_fn g;refine Calls.grown_of (hc _ _)))
          have S2:Aside (SW enc w0 blk off d (grow (wr.drewN nq) osq)):=S1.out.grown nq osq
          clear l1 l2 hc S1
          generalize grow (wr.drewN nq) osq=w2 at S2 ⊢
          clear nq osq ea ec
          go_wp2
          go_roundg (j - (h+1))
          case measure=>omega
          case rel=>exact ⟨h+1,j,by simp,rfl,by omega,by omega,h3,Nat.le_refl _,S2,Or.inr (by rw [show n - (h+1)=q from by have:=HQ.out;omega];exact HL2.out.2 hv),HB⟩
      · have hij:i=j:=by omega
        subst hij
        obtain ⟨e,he⟩:∃ e:Nat,e=n - i:=⟨_,rfl⟩
        have ze:(n:Int) - (i:Int)=(e:Int):=by have:=HN.out;omega
        have he2:m≤e∧e≤b∧mid≤e:=by have:=HN.out;omega
        have hie:i≤m∧i≤mid∧a≤i:=by omega
        have T0:Hid ((i=a∨e=b∨Lx key idx d[i - 1]! d[e]!)∧(i=m∨e=m∨Lx key idx d[e - 1]! d[i]!)∧i+e=m+mid):=by
          have hn:=HN.out
          refine ⟨?_,?_,by omega⟩
          · rcases HA.out with h|h
            · rcases ana.out.1 with g|g
              · exact Or.inl (by omega)
              · exact Or.inr (Or.inl (by omega))
            · exact Or.inr (Or.inr (by rw [he];exact h))
          · rcases HB.out with h|h
            · rcases ana.out.2 with g|g
              · exact Or.inl (by omega)
              · exact Or.inr (Or.inl (by omega))
            · exact Or.inr (Or.inr (by rw [show e - 1=n - 1 - i from by omega];exact h))
        clear HA HB ana he hlo hnb h1 h3 zp zn
        go_upto_region 39 with fail
        go_cut [185] (fun awl wc=>awl = .bool (decide (i < m∧m < e))∧Aside (SW enc w0 blk off d wc))
        case first=>as_aux_lemma =>
          by_cases c1:i < m
          · have c1':(i:Int) < (m:Int):=by omega
            by_cases c2:m < e
            · have c2':(m:Int) < (e:Int):=by omega
              go_wp2
              go_meet
              case rel=>exact ⟨by rw [decide_eq_true ⟨c1,c2⟩],S1⟩
            · have c2':¬ (m:Int) < (e:Int):=by omega
              go_wp2
              go_meet
              case rel=>exact ⟨by rw [decide_eq_false (by omega)],S1⟩
          · have c1':¬ (i:Int) < (m:Int):=by omega
            go_wp2
            go_meet
            case rel=>exact ⟨by rw [decide_eq_false (by omega)],S1⟩
        case rest=>as_aux_lemma =>
          clear S1
          obtain ⟨rfl,S1⟩:=hcut
          go_upto_if 185 with fail
          go_cut [] (fun wc=>∃ d1,Aside (SW enc w0 blk off d1 wc)∧Hid (Sam d d1 a b∧Mrg key idx d1 a i mid∧Mrg key idx d1 mid e b∧∀ i j,a≤i→i < mid→mid≤j→j < b→Lx key idx d1[i]! d1[j]!))
          case first=>as_aux_lemma =>
            by_cases c:i < m∧m < e
            · have hcall:=apQ enc g cb blk off cap i m e d0 d w0 wc R hs S1.out c.1 c.2 (by omega) hsz
              have cd:decide (i < m∧m < e)=true:=decide_eq_true c
              clear S1
              go_wp2_with (go_at_fn 191;refine hcall.mono ?_;rintro e w1 ⟨rfl,S3⟩)
              go_meet
              case rel=>exact ⟨_,S3,turned HM.out (by omega) (by omega) T0.out.2.2 hb (by omega) T0.out.1 T0.out.2.1 (Or.inl ⟨c.1,c.2,by rw [show m - i+(e - m)=m - i+(e - m) from rfl]⟩)⟩
            · have cd:decide (i < m∧m < e)=false:=decide_eq_false c
              go_wp2
              go_meet
              case rel=>exact ⟨d,S1,turned HM.out (by omega) (by omega) T0.out.2.2 hb (by omega) T0.out.1 T0.out.2.1 (Or.inr ⟨by omega,rfl⟩)⟩
          case rest=>as_aux_lemma =>
            clear S1
            obtain ⟨d1,S1,TU⟩:=hcut
            have hs1:d1.size=d.size:=TU.out.1.1
            go_upto_region 41 with fail
            go_cut [199] (fun awm wc=>awm = .bool (decide (a < i∧i < mid))∧Aside (SW enc w0 blk off d1 wc))
            case first=>as_aux_lemma =>
              by_cases c1:a < i
              · have c1':(a:Int) < (i:Int):=by omega
                by_cases c2:i < mid
                · have c2':(i:Int) < (mid:Int):=by omega
                  go_wp2
                  go_meet
                  case rel=>exact ⟨by rw [decide_eq_true ⟨c1,c2⟩],S1⟩
                · have c2':¬ (i:Int) < (mid:Int):=by omega
                  go_wp2
                  go_meet
                  case rel=>exact ⟨by rw [decide_eq_false (by omega)],S1⟩
              · have c1':¬ (a:Int) < (i:Int):=by omega
                go_wp2
                go_meet
                case rel=>exact ⟨by rw [decide_eq_false (by omega)],S1⟩
            case rest=>as_aux_lemma =>
              clear S1
              obtain ⟨rfl,S1⟩:=hcut
              go_upto_if 199 with fail
              go_cut [] (fun wc=>∃ d2,Aside (SW enc w0 blk off d2 wc)∧Hid (Sam d1 d2 a mid∧Srt key idx d2 a mid))
              case first=>as_aux_lemma =>
                by_cases c:a < i∧i < mid
                · have hcall:=IH.out a i mid d1 wc (by omega) (by omega) S1.out c.1 c.2 (by omega) TU.out.2.1
                  rw [hs1] at hcall
                  have cd:decide (a < i∧i < mid)=true:=decide_eq_true c
                  clear S1
                  go_wp2_with (go_at_fn 183;refine hcall.mono ?_;rintro e w1 ⟨rfl,d2,S3,S4,S5⟩)
                  go_meet
                  case rel=>exact ⟨d2,S3,S4,S5⟩
                · have cd:decide (a < i∧i < mid)=false:=decide_eq_false c
                  go_wp2
                  go_meet
                  case rel =>
                    refine ⟨d1,S1,Sam.refl _ _ _,?_⟩
                    obtain ⟨t1,t2,t3⟩:=TU.out.2.1
                    by_cases c1:a < i
                    · have:i=mid:=by omega
                      rw [← this];exact t1
                    · have:i=a:=by omega
                      rw [this] at t2;exact t2
              case rest=>as_aux_lemma =>
                clear S1
                obtain ⟨d2,S1,TV⟩:=hcut
                have hs2:d2.size=d.size:=TV.out.1.1.trans hs1
                have M2:Hid (Mrg key idx d2 mid e b):=TU.out.2.2.1.as3 TV.out.1 (by omega) (Or.inr (Nat.le_refl _))
                have FIN:∀ d3,Sam d2 d3 mid b→Srt key idx d3 mid b→Sam d d3 a b∧Srt key idx d3 a b:=by
                  intro d3 h1 h2
                  have u1:=TV.out.1
                  refine ⟨(TU.out.1.trans (u1.wide (Nat.le_refl _) (by omega))).trans (h1.wide (by omega) (Nat.le_refl _)),Srt.join (h1.srt TV.out.2 (Or.inl (Nat.le_refl _))) h2 ?_⟩
                  intro x y x1 x2 y1 y2
                  rw [h1.2.1 x (Or.inl x2)]
                  obtain ⟨l,l1,l2,l3⟩:=u1.2.2.1 x x1 x2
                  rw [l3]
                  obtain ⟨k,k1,k2,k3⟩:=h1.2.2.1 y y1 y2
                  rw [k3,u1.2.1 k (Or.inr k1)]
                  exact TU.out.2.2.2 l k l1 l2 k1 k2
                have ate:Aside _:=FIN
                clear FIN
                go_upto_region 43 with fail
                go_cut [213] (fun awn wc=>awn = .bool (decide (mid < e∧e < b))∧Aside (SW enc w0 blk off d2 wc))
                case first=>as_aux_lemma =>
                  by_cases c1:mid < e
                  · have c1':(mid:Int) < (e:Int):=by omega
                    by_cases c2:e < b
                    · have c2':(e:Int) < (b:Int):=by omega
                      go_wp2
                      go_meet
                      case rel=>exact ⟨by rw [decide_eq_true ⟨c1,c2⟩],S1⟩
                    · have c2':¬ (e:Int) < (b:Int):=by omega
                      go_wp2
                      go_meet
                      case rel=>exact ⟨by rw [decide_eq_false (by omega)],S1⟩
                  · have c1':¬ (mid:Int) < (e:Int):=by omega
                    go_wp2
                    go_meet
                    case rel=>exact ⟨by rw [decide_eq_false (by omega)],S1⟩
                case rest=>as_aux_lemma =>
                  clear S1
                  obtain ⟨rfl,S1⟩:=hcut
                  by_cases c:mid < e∧e < b
                  · have hcall:=IH.out mid e b d2 wc (by omega) (by omega) S1.out c.1 c.2 (by omega) M2.out
                    rw [hs2] at hcall
                    have cd:decide (mid < e∧e < b)=true:=decide_eq_true c
                    clear S1
                    go_wp2_with (go_at_fn 183;refine hcall.mono ?_;rintro e w1 ⟨rfl,d3,S3,S4,S5⟩)
                    go_end0
                    exact ⟨rfl,d3,S3,ate.out d3 S4 S5⟩
                  · have cd:decide (mid < e∧e < b)=false:=decide_eq_false c
                    go_wp2
                    go_end0
                    refine ⟨rfl,d2,S1.out,ate.out d2 (Sam.refl _ _ _) ?_⟩
                    obtain ⟨t1,t2,t3⟩:=M2.out
                    by_cases c1:mid < e
                    · have:e=b:=by omega
                      rw [← this];exact t1
                    · have:e=mid:=by omega
                      rw [this] at t2;exact t2
set_option maxRecDepth 100000 in
theorem ag0 (enc:α→Value) (cf:α→α→Int) (g:Nat) (cb:Array Value) (key:α→Int) (idx:α→Nat) (blk off cap:Nat) (d0:Array α) (w0:World)
    (eg:∀ args w,(callFunc g args).run Tryz.prog w = .ok (.enter g args) w) (hcmp:CmpLays1 Tryz.prog g cb enc cf blk off d0.size w0) (hcf:∀ x y,cf x y < 0↔key y < key x)
    (R:Row1 enc w0 blk off d0) (hsz:d0.size < 4611686018427387904):∀ (f a m b:Nat) (d:Array α) (w:World),b - a < f→d0.size=d.size→SW enc w0 blk off d w→a < m→m < b→b≤d.size→Mrg key idx d a m b →
    Calls Tryz.prog 183 #[.slice (some ⟨blk,off,none⟩) d.size cap,.int .i64 a,.int .i64 m,.int .i64 b,.func (.func g) #[] cb] w fun e w'=>e = .returned (.tuple #[])∧∃ d',SW enc w0 blk off d' w'∧Sam d d' a b∧Srt key idx d' a b:=by
  intro f
  induction f with
  | zero=>intro a m b d w hf;omega
  | succ f ih =>
    intro a m b d w hf hs S ham hmb hb hM
    by_cases c1:m=a+1
    · exact akB enc cf g cb key idx blk off cap a m b d0 d w0 w eg hcmp hcf R hs S c1 hmb hb (by omega) hM
    by_cases c2:b=m+1
    · exact aiR enc cf g cb key idx blk off cap a m b d0 d w0 w eg hcmp hcf R hs S c2 (by omega) hb (by omega) hM
    exact aiS enc cf g cb key idx blk off cap a m b d0 d w0 w eg hcmp hcf R hs S (by omega) (by omega) hb (by omega) hM
      (fun a' m' b' d' w' h1 h2 h3 h4 h5 h6 h7=>ih a' m' b' d' w' (by omega) h2 h3 h4 h5 h6 h7)
end Go.Proofs.YtpondkggmcmpfaaGreatDoor.S
