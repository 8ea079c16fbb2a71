/- Joined by wip/tools/bundle.py out of: T1 TX. -/
import Derived.Test.YtpondkggmcmpfaaGreatDoorBPlanCovers1
import Derived.Test.YtpondkggmcmpfaaGreatDoorBPlanCovers8
import Derived.Handy
import Derived.Lib.SliceRun
import Derived.Test.YtpondkggmcmpfaaGreatDoorBPlanCovers0
import Derived.Test.YtpondkggmcmpfaaGreatDoorBPlanCovers10
namespace Go.Proofs.YtpondkggmcmpfaaGreatDoor.QA
open Go.RowKit Go.Proofs.YtpondkggmcmpfaaGreatDoorW.PrintWords Go.Proofs.YtpondkggmcmpfaaGreatDoorW.PrintLast Go.Proofs.YtpondkggmcmpfaaGreatDoorW.PrintMore Go.Proofs.YtpondkggmcmpfaaGreatDoor.T
set_option linter.unusedVariables false
set_option linter.unusedSimpArgs false
def aaV (o:S47):Prop:=0≤o.f0∧o.f0 < 4∧0≤o.f1∧o.f1 < 3∧(o.f0=3→1≤o.f7∧o.f7≤65536∧1≤o.f8∧o.f8≤65536∧0≤o.f6∧o.f6 < 3)
theorem anT (o:S47) (h:¬ aaV o):jH.f 1 o.f0 o.f1 o.f2 o.f3 o.f4 o.f5 o.f6 o.f7 o.f8=some false:=by
  unfold jH.f
  by_cases h0:o.f0 < 0
  · rw [if_pos h0,jH.j0,if_pos rfl]
  rw [if_neg h0]
  by_cases h1:o.f0≥4
  · rw [if_pos h1,jH.j0,if_pos rfl]
  rw [if_neg h1]
  by_cases h2:0≤o.f1∧o.f1 < 3
  rotate_left
  · have:oP.f o.f1=some (⟨#[]⟩:ByteArray):=by
      unfold oP.f
      rw [if_neg (by omega),if_neg (by omega),if_neg (by omega)]
      unfold pR.f
      by_cases c:o.f1 < 0
      · rw [if_pos c]
      · rw [if_neg c,if_pos (by omega)]
    rw [this,Option.bind_some,jH.j0,if_pos (by kernel_rfl)]
  obtain ⟨nm,hn,he⟩:∃ s,oP.f o.f1=some s∧(s.toList == ([]:List UInt8))=false:=by
    have:o.f1=0∨o.f1=1∨o.f1=2:=by omega
    rcases this with e|e|e
    · exact ⟨_,by rw [e];rfl,by kernel_rfl⟩
    · exact ⟨_,by rw [e];rfl,by kernel_rfl⟩
    · exact ⟨_,by rw [e];rfl,by kernel_rfl⟩
  rw [hn,Option.bind_some,he,jH.j0,if_neg (by decide)]
  by_cases h3:o.f0=3
  rotate_left
  · exact absurd ⟨by omega,by omega,h2.1,h2.2,fun c=>absurd c h3⟩ h
  rw [if_pos h3,nY,Option.bind_some]
  by_cases h4:1≤o.f7∧o.f7≤65536
  rotate_left
  · rw [decide_eq_false h4,if_neg (by decide)]
  rw [decide_eq_true h4,if_pos rfl,nY,Option.bind_some]
  by_cases h5:1≤o.f8∧o.f8≤65536
  rotate_left
  · rw [decide_eq_false h5,if_neg (by decide)]
  rw [decide_eq_true h5,if_pos rfl]
  by_cases h6:0≤o.f6∧o.f6 < 3
  · exact absurd ⟨by omega,by omega,h2.1,h2.2,fun _=>⟨h4.1,h4.2,h5.1,h5.2,h6.1,h6.2⟩⟩ h
  have:su.f o.f6=some (⟨#[]⟩:ByteArray):=by
    unfold su.f
    rw [if_neg (by omega),if_neg (by omega),if_neg (by omega)]
    unfold sV.f
    by_cases c:o.f6 < 0
    · rw [if_pos c]
    · rw [if_neg c,if_pos (by omega)]
  rw [this,Option.bind_some]
  exact congrArg some (by kernel_rfl)
theorem afB (f n m:Int):∀ i,(gq f n m i).n=n
  | 0=>rfl
  | i+1=>by simp [gq,Tab.add,afB f n m i]
theorem afC (n h:Int) (l:List Int):∀ i,(iL n h l i).n=n
  | 0=>rfl
  | i+1=>by simp [iL,Tab.add,afC n h l i]
def opI (o:S47):Prop:=I64 o.f0∧I64 o.f1∧I64 o.f2∧I64 o.f3∧(∀ z ∈ o.f4,I64 z)∧(∀ z ∈ o.f5,I64 z)∧I64 o.f6∧I64 o.f7∧I64 o.f8
theorem afD (l:List Int) (hl:l.length < 4611686018427387904):(∀ z ∈ (nO l).1,I64 z)∧(nO l).1.length < 4611686018427387904:=by
  unfold nO
  split
  · exact ⟨by simp,by simp⟩
  · refine ⟨fun z hz => ?_,by simpa using hl⟩
    obtain ⟨t,_,rfl⟩:=List.mem_map.1 hz
    exact qG _
end Go.Proofs.YtpondkggmcmpfaaGreatDoor.QA
namespace Go.Proofs.YtpondkggmcmpfaaGreatDoor.QA
open Go.RowKit Go.Proofs.YtpondkggmcmpfaaGreatDoorW.PrintWords Go.Proofs.YtpondkggmcmpfaaGreatDoorW.PrintLast Go.Proofs.YtpondkggmcmpfaaGreatDoorW.PrintMore Go.Proofs.YtpondkggmcmpfaaGreatDoor.T
set_option linter.unusedVariables false
set_option linter.unusedSimpArgs false
def jA (o:S47):List Int × List Int × Int :=
  if o.f0=0 then ((xB o.f2).1,(xB o.f2).1,(xB o.f2).2) else if o.f0=1 then ((aaj o.f3).1,(aaj o.f3).1,(aaj o.f3).2) else
    if (nO o.f4).2=0 then ((nO o.f4).1,(nO o.f5).1,(nO o.f5).2) else ([],[],(nO o.f4).2)
theorem ac0 (o:S47) (h:opI o) (l4:o.f4.length < 4611686018427387904) (l5:o.f5.length < 4611686018427387904):lK.f (2000+o.f4.length+o.f5.length) o.f0 o.f1 o.f2 o.f3 o.f4 o.f5 o.f6 o.f7 o.f8=some ((jA o).1,(jA o).2.1,(jA o).2.2)∧(∀ z ∈ (jA o).1,I64 z)∧(∀ z ∈ (jA o).2.1,I64 z)∧(jA o).1.length < 4611686018427387904∧(jA o).2.1.length < 4611686018427387904:=by
  obtain ⟨i0,i1,i2,i3,i4,i5,i6,i7,i8⟩:=h
  unfold lK.f jA
  by_cases h0:o.f0=0
  · rw [if_pos h0,aoI (by omega) i2,Option.bind_some]
    simp only [if_pos h0]
    have:(∀ z ∈ (xB o.f2).1,I64 z)∧(xB o.f2).1.length < 4611686018427387904:=by
      unfold xB
      split
      · exact ⟨by simp,by simp⟩
      · refine ⟨fun z hz => ?_,?_⟩
        · obtain ⟨t,_,rfl⟩:=List.mem_map.1 hz
          have:=asr o.f2 ((t:Int) - (3*o.f2+65535) / 65536)
          constructor <;> omega
        · unfold ags;rw [List.length_map,List.length_range];omega
    exact ⟨trivial,this.1,this.1,this.2,this.2⟩
  rw [if_neg h0]
  simp only [if_neg h0]
  by_cases h1:o.f0=1
  · rw [if_pos h1,arL (by omega) i3,Option.bind_some]
    simp only [if_pos h1]
    have:(∀ z ∈ (aaj o.f3).1,I64 z)∧(aaj o.f3).1.length < 4611686018427387904:=by
      unfold aaj
      split
      · exact ⟨by simp,by simp⟩
      · exact afD _ (by rw [List.length_replicate];omega)
    exact ⟨trivial,this.1,this.1,this.2,this.2⟩
  rw [if_neg h1,abo (by omega) l4 i4,Option.bind_some]
  simp only [if_neg h1]
  have a:=afD o.f4 l4
  have b:=afD o.f5 l5
  by_cases c:(nO o.f4).2=0
  · rw [if_pos c,abo (by omega) l5 i5,Option.bind_some]
    simp only [if_pos c]
    exact ⟨trivial,a.1,b.1,a.2,b.2⟩
  · rw [if_neg c]
    simp only [if_neg c]
    exact ⟨trivial,by simp,by simp,by simp,by simp⟩
def nZ (n:Int):Prop:=1≤n∧n≤65536
instance (n:Int):Decidable (nZ n):=by unfold nZ;exact inferInstance
instance (o:S47):Decidable (aaV o):=by unfold aaV;exact inferInstance
def nR (o:S47) (W:Int):Tab:=if o.f0=3 then gq o.f6 W o.f7 o.f7.toNat else iL W (((jA o).1.length / 2:Nat):Int) (iQ (jA o).1) W.toNat
def nS (o:S47) (H:Int):Tab:=if o.f0=3 then gq o.f6 H o.f8 o.f8.toNat else iL H (((jA o).2.1.length / 2:Nat):Int) (iQ (jA o).2.1) H.toNat
def ac1 (o:S47) (W:Int):Int:=if o.f0=3 then gX o.f6 W o.f7 0 o.f7.toNat else iT (jA o).1 W
def aeT (o:S47) (H:Int):Int:=if o.f0=3 then gX o.f6 H o.f8 0 o.f8.toNat else iT (jA o).2.1 H
def je (o:S47) (W H:Int):Int:=if aaV o∧nZ W∧nZ H then if o.f0≠3∧(jA o).2.2≠0 then (jA o).2.2 else if ac1 o W=0 then aeT o H else ac1 o W else 6
def aeU (o:S47) (W H:Int) (w:World) (e:Ending) (w':World):Prop:=if je o W H=0 then agv (nR o W) (nS o H) o.f1 w e w' else acZ (je o W H) w e w'
theorem wF {o:S47} {W H c:Int} (he:je o W H=c) (hc:c≠0) {w:World} {e:Ending} {w':World} (h:acZ c w e w'):aeU o W H w e w':=by unfold aeU;rw [if_neg (by rw [he];exact hc),he];exact h
theorem aio {o:S47} {W H:Int} {tx ty:Tab} {w:World} {e:Ending} {w':World} (he:je o W H=0) (hx:nR o W=tx) (hy:nS o H=ty) (h:agv tx ty o.f1 w e w'):aeU o W H w e w':=by unfold aeU;rw [if_pos he,hx,hy];exact h
theorem make_is (o:S47) (W H:Int) (A4:Option Addr) (c4:Nat) (A5:Option Addr) (c5:Nat) (w:World) (hG:GL w) (hI:opI o) (hx:Kd.C (Kd.int .i64) w A4 o.f4.length o.f4) (lx:o.f4.length≤c4) (hy:Kd.C (Kd.int .i64) w A5 o.f5.length o.f5) (ly:o.f5.length≤c5) (l4:o.f4.length < 4611686018427387904) (l5:o.f5.length < 4611686018427387904) :
    Calls Tryz.prog 51 #[opV o.f0 o.f1 o.f2 o.f3 A4 o.f4.length c4 A5 o.f5.length c5 o.f6 o.f7 o.f8,.int .i64 W,.int .i64 H] w (aeU o W H w):=by
  by_cases ho:aaV o
  rotate_left
  · exact (aoK o.f0 o.f1 o.f2 o.f3 A4 c4 o.f4 A5 c5 o.f5 o.f6 o.f7 o.f8 W H w hG hx lx hy ly (anT o ho)).mono (fun e w' h=>wF (by unfold je nZ;rw [if_neg (fun h=>ho h.1)]) (by decide) h)
  have hm:=acY 0 (k:=o.f0) (b:=o.f1) (s:=o.f2) (r:=o.f3) (x:=o.f4) (y:=o.f5) (f:=o.f6) (w:=o.f7) (h:=o.f8) ⟨ho.1,ho.2.1⟩ ⟨ho.2.2.1,ho.2.2.2.1⟩ ho.2.2.2.2
  by_cases hW:1≤W∧W≤65536
  rotate_left
  · exact (aoL o.f0 o.f1 o.f2 o.f3 A4 c4 o.f4 A5 c5 o.f5 o.f6 o.f7 o.f8 W H w hG hx lx hy ly hm hW).mono (fun e w' h=>wF (by unfold je nZ;rw [if_neg (fun h=>hW h.2.1)]) (by decide) h)
  by_cases hH:1≤H∧H≤65536
  rotate_left
  · exact (aoM o.f0 o.f1 o.f2 o.f3 A4 c4 o.f4 A5 c5 o.f5 o.f6 o.f7 o.f8 W H w hG hx lx hy ly hm hW hH).mono (fun e w' h=>wF (by unfold je nZ;rw [if_neg (fun h=>hH h.2.2)]) (by decide) h)
  obtain ⟨N1,rfl⟩:∃ N:Nat,W=N:=⟨W.toNat,by omega⟩
  obtain ⟨N2,rfl⟩:∃ N:Nat,H=N:=⟨H.toNat,by omega⟩
  by_cases h3:o.f0=3
  · obtain ⟨m1,m2,m3,m4,m5,m6⟩:=ho.2.2.2.2 h3
    obtain ⟨M1,e1⟩:∃ M:Nat,o.f7=M:=⟨o.f7.toNat,by omega⟩
    obtain ⟨M2,e2⟩:∃ M:Nat,o.f8=M:=⟨o.f8.toNat,by omega⟩
    have q1:okR o.f6 N1 M1:=⟨m5,m6,hW.1,hW.2,by omega,by omega⟩
    have q2:okR o.f6 N2 M2:=⟨m5,m6,hH.1,hH.2,by omega,by omega⟩
    have hs:je o N1 N2=if gX o.f6 N1 M1 0 M1=0 then gX o.f6 N2 M2 0 M2 else gX o.f6 N1 M1 0 M1:=by
      unfold je ac1 aeT
      rw [if_pos ⟨ho,hW,hH⟩,if_neg (fun h=>h.1 h3),if_pos h3,if_pos h3,e1,e2];rfl
    by_cases k1:gX o.f6 N1 M1 0 M1=0
    · rw [if_pos k1] at hs
      by_cases k2:gX o.f6 N2 M2 0 M2=0
      · refine (aeS o.f0 o.f1 o.f2 o.f3 A4 c4 o.f4 A5 c5 o.f5 o.f6 o.f7 o.f8 N1 N2 (gq o.f6 N1 M1 M1) (gq o.f6 N2 M2 M2) w hG hx lx hy ly hm hW hH (fun w' hb => ?_)).mono (fun e w' h=>aio (hs.trans k2) (by unfold nR;rw [if_pos h3,e1];rfl) (by unfold nS;rw [if_pos h3,e2];rfl) h)
        rw [h3,e1,e2]
        exact aaU o.f1 o.f2 o.f3 A4 _ c4 A5 _ c5 o.f6 N1 N2 M1 M2 w' (hG.below hb) q1 q2 k1 k2
      · refine (abr o.f0 o.f1 o.f2 o.f3 A4 c4 o.f4 A5 c5 o.f5 o.f6 o.f7 o.f8 N1 N2 _ w hG hx lx hy ly hm hW hH k2 (fun w' hb => ?_)).mono (fun e w' h=>wF hs k2 h)
        rw [h3,e1,e2]
        exact ae7 o.f1 o.f2 o.f3 A4 _ c4 A5 _ c5 o.f6 N1 N2 _ M1 M2 w' (hG.below hb) q1 q2 k1 rfl k2
    · rw [if_neg k1] at hs
      refine (abr o.f0 o.f1 o.f2 o.f3 A4 c4 o.f4 A5 c5 o.f5 o.f6 o.f7 o.f8 N1 N2 _ w hG hx lx hy ly hm hW hH k1 (fun w' hb => ?_)).mono (fun e w' h=>wF hs k1 h)
      rw [h3,e1,e2]
      exact ae6 o.f1 o.f2 o.f3 A4 _ c4 A5 _ c5 o.f6 N1 N2 _ M1 M2 w' (hG.below hb) q1 q2 rfl k1
  · obtain ⟨hw,hu,hv,lu,lv⟩:=ac0 o hI l4 l5
    have n1:1≤N1∧N1≤65536:=by omega
    have n2:1≤N2∧N2≤65536:=by omega
    have hs:je o N1 N2=if (jA o).2.2=0 then if iT (jA o).1 N1=0 then iT (jA o).2.1 N2 else iT (jA o).1 N1 else (jA o).2.2:=by
      unfold je ac1 aeT
      rw [if_pos ⟨ho,hW,hH⟩,if_neg h3,if_neg h3]
      by_cases c:(jA o).2.2=0
      · rw [if_neg (fun h=>h.2 c),if_pos c]
      · rw [if_pos ⟨h3,c⟩,if_neg c]
    have tx:nR o N1=iL N1 (((jA o).1.length / 2:Nat):Int) (iQ (jA o).1) N1:=by unfold nR;rw [if_neg h3];rfl
    have ty:nS o N2=iL N2 (((jA o).2.1.length / 2:Nat):Int) (iQ (jA o).2.1) N2:=by unfold nS;rw [if_neg h3];rfl
    generalize (jA o).1=u at *
    generalize (jA o).2.1=v at *
    generalize (jA o).2.2=c at *
    by_cases hc:c=0
    rotate_left
    · rw [if_neg hc] at hs
      exact (abr o.f0 o.f1 o.f2 o.f3 A4 c4 o.f4 A5 c5 o.f5 o.f6 o.f7 o.f8 N1 N2 c w hG hx lx hy ly hm hW hH hc (fun w' hb=>ae8 _ o.f0 o.f1 o.f2 o.f3 A4 c4 o.f4 A5 c5 o.f5 o.f6 o.f7 o.f8 c N1 N2 u v w' (Kd.bY hx hb) lx (Kd.bY hy hb) ly h3 hw hc)).mono (fun e w' h=>wF hs hc h)
    subst hc
    rw [if_pos rfl] at hs
    by_cases k1:iT u N1=0
    · rw [if_pos k1] at hs
      by_cases k2:iT v N2=0
      · exact (aeS o.f0 o.f1 o.f2 o.f3 A4 c4 o.f4 A5 c5 o.f5 o.f6 o.f7 o.f8 N1 N2 _ _ w hG hx lx hy ly hm hW hH (fun w' hb=>aiH _ o.f0 o.f1 o.f2 o.f3 A4 c4 o.f4 A5 c5 o.f5 o.f6 o.f7 o.f8 N1 N2 u v w' (Kd.bY hx hb) lx (Kd.bY hy hb) ly h3 hw hu hv lu lv n1 n2 k1 k2)).mono (fun e w' h=>aio (hs.trans k2) tx ty h)
      · exact (abr o.f0 o.f1 o.f2 o.f3 A4 c4 o.f4 A5 c5 o.f5 o.f6 o.f7 o.f8 N1 N2 _ w hG hx lx hy ly hm hW hH k2 (fun w' hb=>afa _ o.f0 o.f1 o.f2 o.f3 A4 c4 o.f4 A5 c5 o.f5 o.f6 o.f7 o.f8 _ N1 N2 u v w' (Kd.bY hx hb) lx (Kd.bY hy hb) ly h3 hu hv lu lv n1 n2 hw k1 rfl k2)).mono (fun e w' h=>wF hs k2 h)
    · rw [if_neg k1] at hs
      exact (abr o.f0 o.f1 o.f2 o.f3 A4 c4 o.f4 A5 c5 o.f5 o.f6 o.f7 o.f8 N1 N2 _ w hG hx lx hy ly hm hW hH k1 (fun w' hb=>ae9 _ o.f0 o.f1 o.f2 o.f3 A4 c4 o.f4 A5 c5 o.f5 o.f6 o.f7 o.f8 _ N1 N2 u v w' (Kd.bY hx hb) lx (Kd.bY hy hb) ly h3 hu hv lu lv n1 n2 hw rfl k1)).mono (fun e w' h=>wF hs k1 h)
end Go.Proofs.YtpondkggmcmpfaaGreatDoor.QA
