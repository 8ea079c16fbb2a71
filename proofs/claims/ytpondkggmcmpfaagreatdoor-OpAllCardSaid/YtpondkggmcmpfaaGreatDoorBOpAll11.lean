/- Joined by wip/tools/bundle.py out of: T1 TX TQ. -/
import Derived.Test.YtpondkggmcmpfaaGreatDoorBOpAll1
import Derived.Test.YtpondkggmcmpfaaGreatDoorBOpAll8
import Derived.Handy
import Derived.Lib.SliceRun
import Derived.Test.YtpondkggmcmpfaaGreatDoorBOpAll0
import Derived.Test.YtpondkggmcmpfaaGreatDoorBOpAll10
import Derived.Test.YtpondkggmcmpfaaGreatDoorBOpAll7
namespace Go.Proofs.YtpondkggmcmpfaaGreatDoor.QA
open Go.RowKit Go.Proofs.YtpondkggmcmpfaaGreatDoorW.PrintWords Go.Proofs.YtpondkggmcmpfaaGreatDoorW.PrintLast Go.Proofs.YtpondkggmcmpfaaGreatDoorW.PrintMore Go.Proofs.YtpondkggmcmpfaaGreatDoor.T
set_option linter.unusedVariables false
set_option linter.unusedSimpArgs false
def aov:Kd Tab where
  sz:=1
  E:=[122,71,2]
  K:=fun w t cs=>∃ b,cs=[.pointer (some ⟨b,0,none⟩)]∧vT w b t
  M:=fun w base ok t cs=>∃ b,cs=[.pointer (some ⟨b,0,none⟩)]∧ok b∧base≤b∧∃ v,w.heap[b]? = some (.cells #[.int .i64 t.n,v,.int .i64 t.most,.int .i64 t.size] 122 (0,0))∧k71.R 71 w base (fun k=>ok k∧k≠b) v t.lines
  wC:=by rintro w t cs ⟨b,rfl,_⟩;rfl
  xA:=by
   rintro w t cs ⟨b,rfl,_⟩ u hu
   rw [List.mem_singleton.1 hu];rfl
  qE:=by rintro w w1 t cs hb ⟨b,rfl,h⟩;exact ⟨b,rfl,h.below hb⟩
  qL:=by
   rintro w base ok t cs ⟨b,rfl,_,hb,v,h1,h2⟩
   obtain ⟨A,c,rfl,h3,h4⟩:=Kd.sW h2
   exact ⟨b,rfl,A,c,h1,h3,h4⟩
  lC:=by
   rintro w base ok ok' t cs hok ⟨b,rfl,h0,hb,v,h1,h2⟩
   exact ⟨b,rfl,hok b h0,hb,v,h1,Kd.dN h2 (fun k hk=>⟨hok k hk.1,hk.2⟩)⟩
  oD:=by
   rintro w base ok t cs ⟨b,rfl,h0,hb,v,h1,h2⟩
   refine ⟨b,rfl,⟨h0,hb,eF h1,_,List.mem_cons_self,_,h1⟩,hb,v,h1,Kd.dN (Kd.kH h2) ?_⟩
   rintro k ⟨⟨h3,h4⟩,h5,h6,q,hq,hc⟩
   exact ⟨⟨h3,h5,h6,q,List.mem_cons_of_mem _ (by simpa [k71,Kd.iso,Kd.pair,Kd.slice,Kd.int,Kd.scalar] using hq),hc⟩,h4⟩
  rD:=by
   rintro w w1 base ok t cs hm ⟨b,rfl,h0,hb,v,h1,h2⟩
   exact ⟨b,rfl,h0,hb,v,(hm b h0).trans h1,Kd.yx h2 (fun k hk=>hm k hk.1)⟩
  pV:=by
   rintro w base base' ok t cs hl ⟨b,rfl,h0,hb,v,h1,h2⟩
   exact ⟨b,rfl,h0,Nat.le_trans hl hb,v,h1,Kd.fQ h2 hl⟩
theorem alk {w:World} {base b:Nat} {t:Tab} (h:qO w base b t):aov.M w base (fun k=>base≤k∧k < w.heap.size) t [.pointer (some ⟨b,0,none⟩)]:=by
  obtain ⟨h0,v,h1,h2⟩:=h
  exact ⟨b,rfl,⟨h0,eF h1⟩,h0,v,h1,Kd.dN (Kd.kH h2) (fun k hk=>⟨⟨hk.2.1,hk.2.2.1⟩,hk.1⟩)⟩
structure Stg where
  x:Tab
  y:Tab
  bd:Int
def zT0:Tab:=⟨0,[],0,0⟩
def asa:Stg:=⟨zT0,zT0,0⟩
def acU:Kd Stg:=Kd.iso (Kd.pair aov (Kd.pair aov (Kd.int .i64))) (fun s:Stg=>(s.x,s.y,s.bd))
theorem anH {w:World} {s:Stg} {cs:List Value} (h:acU.K w s cs):∃ bx bz,cs=[.pointer (some ⟨bx,0,none⟩),.pointer (some ⟨bz,0,none⟩),.int .i64 s.bd]∧vT w bx s.x∧vT w bz s.y:=by
  obtain ⟨_,_,rfl,⟨bx,rfl,hx⟩,⟨_,_,rfl,⟨bz,rfl,hz⟩,rfl⟩⟩:=h
  exact ⟨bx,bz,rfl,hx,hz⟩
theorem aow {w:World} {base bx bz:Nat} {s:Stg} (hx:qO w base bx s.x) (hz:qO w base bz s.y):acU.M w base (fun k=>base≤k∧k < w.heap.size) s [.pointer (some ⟨bx,0,none⟩),.pointer (some ⟨bz,0,none⟩),.int .i64 s.bd] :=
  ⟨_,_,rfl,alk hx,⟨_,_,rfl,alk hz,rfl⟩⟩
def adI (ss:List Stg) (i:Int):Stg:=ss.getD i.toNat asa
theorem asb {w:World} {A:Option Addr} {n:Nat} {ss:List Stg} (h:Kd.C acU w A n ss) (i:Int) (h0:0≤i) (h1:i < n):∃ ad bx bz,A=some ad∧w.cell? (ad.add (i.toNat*3))=some (.pointer (some ⟨bx,0,none⟩))∧w.cell? ⟨(ad.add (i.toNat*3)).block,(ad.add (i.toNat*3)).off+1,none⟩=some (.pointer (some ⟨bz,0,none⟩))∧w.cell? ⟨(ad.add (i.toNat*3)).block,(ad.add (i.toNat*3)).off+2,none⟩=some (.int .i64 (adI ss i).bd)∧vT w bx (adI ss i).x∧vT w bz (adI ss i).y:=by
  obtain ⟨ad,c,e,_,hK,hc0⟩:=Kd.aeF h asa i h0 h1
  have hc:∀ j u,c[j]? = some u→w.cell? (ad.add (i.toNat*3+j))=some u:=hc0
  obtain ⟨bx,bz,rfl,hx,hz⟩:=anH hK
  exact ⟨ad,bx,bz,e,hc 0 _ rfl,by rw [← iL _ _ 1 (by omega)];exact hc 1 _ rfl,by rw [← iL _ _ 2 (by omega)];exact hc 2 _ rfl,hx,hz⟩
def abm (o:S47):Prop:=0≤o.f0∧o.f0 < 4∧0≤o.f1∧o.f1 < 3∧(o.f0=3→1≤o.f7∧o.f7≤65536∧1≤o.f8∧o.f8≤65536∧0≤o.f6∧o.f6 < 3)
theorem anI (o:S47) (h:¬ abm o):jH.f 1 o.f0 o.f1 o.f2 o.f3 o.f4 o.f5 o.f6 o.f7 o.f8=some false:=by
  unfold jH.f
  by_cases h0:o.f0 < 0
  · rw [if_pos h0,jH.j0,if_pos rfl]
  rw [if_neg h0]
  by_cases h1:o.f0≥4
  · rw [if_pos h1,jH.j0,if_pos rfl]
  rw [if_neg h1]
  by_cases h2:0≤o.f1∧o.f1 < 3
  rotate_left
  · have:oU.f o.f1=some (⟨#[]⟩:ByteArray):=by
      unfold oU.f
      rw [if_neg (by omega),if_neg (by omega),if_neg (by omega)]
      unfold pW.f
      by_cases c:o.f1 < 0
      · rw [if_pos c]
      · rw [if_neg c,if_pos (by omega)]
    rw [this,Option.bind_some,jH.j0,if_pos (by kernel_rfl)]
  obtain ⟨nm,hn,he⟩:∃ s,oU.f o.f1=some s∧(s.toList == ([]:List UInt8))=false:=by
    have:o.f1=0∨o.f1=1∨o.f1=2:=by omega
    rcases this with e|e|e
    · exact ⟨_,by rw [e];rfl,by kernel_rfl⟩
    · exact ⟨_,by rw [e];rfl,by kernel_rfl⟩
    · exact ⟨_,by rw [e];rfl,by kernel_rfl⟩
  rw [hn,Option.bind_some,he,jH.j0,if_neg (by decide)]
  by_cases h3:o.f0=3
  rotate_left
  · exact absurd ⟨by omega,by omega,h2.1,h2.2,fun c=>absurd c h3⟩ h
  rw [if_pos h3,oq,Option.bind_some]
  by_cases h4:1≤o.f7∧o.f7≤65536
  rotate_left
  · rw [decide_eq_false h4,if_neg (by decide)]
  rw [decide_eq_true h4,if_pos rfl,oq,Option.bind_some]
  by_cases h5:1≤o.f8∧o.f8≤65536
  rotate_left
  · rw [decide_eq_false h5,if_neg (by decide)]
  rw [decide_eq_true h5,if_pos rfl]
  by_cases h6:0≤o.f6∧o.f6 < 3
  · exact absurd ⟨by omega,by omega,h2.1,h2.2,fun _=>⟨h4.1,h4.2,h5.1,h5.2,h6.1,h6.2⟩⟩ h
  have:sJ.f o.f6=some (⟨#[]⟩:ByteArray):=by
    unfold sJ.f
    rw [if_neg (by omega),if_neg (by omega),if_neg (by omega)]
    unfold sZ.f
    by_cases c:o.f6 < 0
    · rw [if_pos c]
    · rw [if_neg c,if_pos (by omega)]
  rw [this,Option.bind_some]
  exact congrArg some (by kernel_rfl)
def uD (o:S47) (W H:Int):Int × Int:=if o.f0=3 then (o.f7,o.f8) else (W,H)
theorem afw (f n m:Int):∀ i,(gZ f n m i).n=n
  | 0=>rfl
  | i+1=>by simp [gZ,Tab.add,afw f n m i]
theorem afx (n h:Int) (l:List Int):∀ i,(iK n h l i).n=n
  | 0=>rfl
  | i+1=>by simp [iK,Tab.add,afx n h l i]
def opI (o:S47):Prop:=I64 o.f0∧I64 o.f1∧I64 o.f2∧I64 o.f3∧(∀ z ∈ o.f4,I64 z)∧(∀ z ∈ o.f5,I64 z)∧I64 o.f6∧I64 o.f7∧I64 o.f8
theorem afy (l:List Int) (hl:l.length < 4611686018427387904):(∀ z ∈ (nR l).1,I64 z)∧(nR l).1.length < 4611686018427387904:=by
  unfold nR
  split
  · exact ⟨by simp,by simp⟩
  · refine ⟨fun z hz => ?_,by simpa using hl⟩
    obtain ⟨t,_,rfl⟩:=List.mem_map.1 hz
    exact qM _
end Go.Proofs.YtpondkggmcmpfaaGreatDoor.QA
namespace Go.Proofs.YtpondkggmcmpfaaGreatDoor.QA
open Go.RowKit Go.Proofs.YtpondkggmcmpfaaGreatDoorW.PrintWords Go.Proofs.YtpondkggmcmpfaaGreatDoorW.PrintLast Go.Proofs.YtpondkggmcmpfaaGreatDoorW.PrintMore Go.Proofs.YtpondkggmcmpfaaGreatDoor.T
set_option linter.unusedVariables false
set_option linter.unusedSimpArgs false
def jy (o:S47):List Int × List Int × Int :=
  if o.f0=0 then ((xq o.f2).1,(xq o.f2).1,(xq o.f2).2) else if o.f0=1 then ((aai o.f3).1,(aai o.f3).1,(aai o.f3).2) else
    if (nR o.f4).2=0 then ((nR o.f4).1,(nR o.f5).1,(nR o.f5).2) else ([],[],(nR o.f4).2)
theorem acV (o:S47) (h:opI o) (l4:o.f4.length < 4611686018427387904) (l5:o.f5.length < 4611686018427387904):lT.f (2000+o.f4.length+o.f5.length) o.f0 o.f1 o.f2 o.f3 o.f4 o.f5 o.f6 o.f7 o.f8=some ((jy o).1,(jy o).2.1,(jy o).2.2)∧(∀ z ∈ (jy o).1,I64 z)∧(∀ z ∈ (jy o).2.1,I64 z)∧(jy o).1.length < 4611686018427387904∧(jy o).2.1.length < 4611686018427387904:=by
  obtain ⟨i0,i1,i2,i3,i4,i5,i6,i7,i8⟩:=h
  unfold lT.f jy
  by_cases h0:o.f0=0
  · rw [if_pos h0,aoq (by omega) i2,Option.bind_some]
    simp only [if_pos h0]
    have:(∀ z ∈ (xq o.f2).1,I64 z)∧(xq o.f2).1.length < 4611686018427387904:=by
      unfold xq
      split
      · exact ⟨by simp,by simp⟩
      · refine ⟨fun z hz => ?_,?_⟩
        · obtain ⟨t,_,rfl⟩:=List.mem_map.1 hz
          have:=ar6 o.f2 ((t:Int) - (3*o.f2+65535) / 65536)
          constructor <;> omega
        · unfold agj;rw [List.length_map,List.length_range];omega
    exact ⟨trivial,this.1,this.1,this.2,this.2⟩
  rw [if_neg h0]
  simp only [if_neg h0]
  by_cases h1:o.f0=1
  · rw [if_pos h1,arn (by omega) i3,Option.bind_some]
    simp only [if_pos h1]
    have:(∀ z ∈ (aai o.f3).1,I64 z)∧(aai o.f3).1.length < 4611686018427387904:=by
      unfold aai
      split
      · exact ⟨by simp,by simp⟩
      · exact afy _ (by rw [List.length_replicate];omega)
    exact ⟨trivial,this.1,this.1,this.2,this.2⟩
  rw [if_neg h1,abh (by omega) l4 i4,Option.bind_some]
  simp only [if_neg h1]
  have a:=afy o.f4 l4
  have b:=afy o.f5 l5
  by_cases c:(nR o.f4).2=0
  · rw [if_pos c,abh (by omega) l5 i5,Option.bind_some]
    simp only [if_pos c]
    exact ⟨trivial,a.1,b.1,a.2,b.2⟩
  · rw [if_neg c]
    simp only [if_neg c]
    exact ⟨trivial,by simp,by simp,by simp,by simp⟩
def oV (n:Int):Prop:=1≤n∧n≤65536
instance (n:Int):Decidable (oV n):=by unfold oV;exact inferInstance
instance (o:S47):Decidable (abm o):=by unfold abm;exact inferInstance
def pY (o:S47) (W:Int):Tab:=if o.f0=3 then gZ o.f6 W o.f7 o.f7.toNat else iK W (((jy o).1.length / 2:Nat):Int) (iQ (jy o).1) W.toNat
def qc (o:S47) (H:Int):Tab:=if o.f0=3 then gZ o.f6 H o.f8 o.f8.toNat else iK H (((jy o).2.1.length / 2:Nat):Int) (iQ (jy o).2.1) H.toNat
def acW (o:S47) (W:Int):Int:=if o.f0=3 then gY o.f6 W o.f7 0 o.f7.toNat else iT (jy o).1 W
def aeK (o:S47) (H:Int):Int:=if o.f0=3 then gY o.f6 H o.f8 0 o.f8.toNat else iT (jy o).2.1 H
def iV (o:S47) (W H:Int):Int:=if abm o∧oV W∧oV H then if o.f0≠3∧(jy o).2.2≠0 then (jy o).2.2 else if acW o W=0 then aeK o H else acW o W else 6
def aeL (o:S47) (W H:Int) (w:World) (e:Ending) (w':World):Prop:=if iV o W H=0 then ajL (pY o W) (qc o H) o.f1 w e w' else aeJ (iV o W H) w e w'
theorem vX {o:S47} {W H c:Int} (he:iV o W H=c) (hc:c≠0) {w:World} {e:Ending} {w':World} (h:aeJ c w e w'):aeL o W H w e w':=by unfold aeL;rw [if_neg (by rw [he];exact hc),he];exact h
theorem aif {o:S47} {W H:Int} {tx ty:Tab} {w:World} {e:Ending} {w':World} (he:iV o W H=0) (hx:pY o W=tx) (hy:qc o H=ty) (h:ajL tx ty o.f1 w e w'):aeL o W H w e w':=by unfold aeL;rw [if_pos he,hx,hy];exact h
theorem make_is (o:S47) (W H:Int) (A4:Option Addr) (c4:Nat) (A5:Option Addr) (c5:Nat) (w:World) (hG:GL w) (hI:opI o) (hx:Kd.C (Kd.int .i64) w A4 o.f4.length o.f4) (lx:o.f4.length≤c4) (hy:Kd.C (Kd.int .i64) w A5 o.f5.length o.f5) (ly:o.f5.length≤c5) (l4:o.f4.length < 4611686018427387904) (l5:o.f5.length < 4611686018427387904) :
    Calls Tryz.prog 51 #[opV o.f0 o.f1 o.f2 o.f3 A4 o.f4.length c4 A5 o.f5.length c5 o.f6 o.f7 o.f8,.int .i64 W,.int .i64 H] w (aeL o W H w):=by
  by_cases ho:abm o
  rotate_left
  · exact (aos o.f0 o.f1 o.f2 o.f3 A4 c4 o.f4 A5 c5 o.f5 o.f6 o.f7 o.f8 W H w hG hx lx hy ly (anI o ho)).mono (fun e w' h=>vX (by unfold iV oV;rw [if_neg (fun h=>ho h.1)]) (by decide) h)
  have hm:=agl 0 (k:=o.f0) (b:=o.f1) (s:=o.f2) (r:=o.f3) (x:=o.f4) (y:=o.f5) (f:=o.f6) (w:=o.f7) (h:=o.f8) ⟨ho.1,ho.2.1⟩ ⟨ho.2.2.1,ho.2.2.2.1⟩ ho.2.2.2.2
  by_cases hW:1≤W∧W≤65536
  rotate_left
  · exact (aot o.f0 o.f1 o.f2 o.f3 A4 c4 o.f4 A5 c5 o.f5 o.f6 o.f7 o.f8 W H w hG hx lx hy ly hm hW).mono (fun e w' h=>vX (by unfold iV oV;rw [if_neg (fun h=>hW h.2.1)]) (by decide) h)
  by_cases hH:1≤H∧H≤65536
  rotate_left
  · exact (aou o.f0 o.f1 o.f2 o.f3 A4 c4 o.f4 A5 c5 o.f5 o.f6 o.f7 o.f8 W H w hG hx lx hy ly hm hW hH).mono (fun e w' h=>vX (by unfold iV oV;rw [if_neg (fun h=>hH h.2.2)]) (by decide) h)
  obtain ⟨N1,rfl⟩:∃ N:Nat,W=N:=⟨W.toNat,by omega⟩
  obtain ⟨N2,rfl⟩:∃ N:Nat,H=N:=⟨H.toNat,by omega⟩
  by_cases h3:o.f0=3
  · obtain ⟨m1,m2,m3,m4,m5,m6⟩:=ho.2.2.2.2 h3
    obtain ⟨M1,e1⟩:∃ M:Nat,o.f7=M:=⟨o.f7.toNat,by omega⟩
    obtain ⟨M2,e2⟩:∃ M:Nat,o.f8=M:=⟨o.f8.toNat,by omega⟩
    have q1:okR o.f6 N1 M1:=⟨m5,m6,hW.1,hW.2,by omega,by omega⟩
    have q2:okR o.f6 N2 M2:=⟨m5,m6,hH.1,hH.2,by omega,by omega⟩
    have hs:iV o N1 N2=if gY o.f6 N1 M1 0 M1=0 then gY o.f6 N2 M2 0 M2 else gY o.f6 N1 M1 0 M1:=by
      unfold iV acW aeK
      rw [if_pos ⟨ho,hW,hH⟩,if_neg (fun h=>h.1 h3),if_pos h3,if_pos h3,e1,e2];rfl
    by_cases k1:gY o.f6 N1 M1 0 M1=0
    · rw [if_pos k1] at hs
      by_cases k2:gY o.f6 N2 M2 0 M2=0
      · refine (ahr o.f0 o.f1 o.f2 o.f3 A4 c4 o.f4 A5 c5 o.f5 o.f6 o.f7 o.f8 N1 N2 (gZ o.f6 N1 M1 M1) (gZ o.f6 N2 M2 M2) w hG hx lx hy ly hm hW hH (fun w' hb => ?_)).mono (fun e w' h=>aif (hs.trans k2) (by unfold pY;rw [if_pos h3,e1];rfl) (by unfold qc;rw [if_pos h3,e2];rfl) h)
        rw [h3,e1,e2]
        exact adq o.f1 o.f2 o.f3 A4 _ c4 A5 _ c5 o.f6 N1 N2 M1 M2 w' (hG.below hb) q1 q2 k1 k2
      · refine (abl o.f0 o.f1 o.f2 o.f3 A4 c4 o.f4 A5 c5 o.f5 o.f6 o.f7 o.f8 N1 N2 _ w hG hx lx hy ly hm hW hH k2 (fun w' hb => ?_)).mono (fun e w' h=>vX hs k2 h)
        rw [h3,e1,e2]
        exact ae2 o.f1 o.f2 o.f3 A4 _ c4 A5 _ c5 o.f6 N1 N2 _ M1 M2 w' (hG.below hb) q1 q2 k1 rfl k2
    · rw [if_neg k1] at hs
      refine (abl o.f0 o.f1 o.f2 o.f3 A4 c4 o.f4 A5 c5 o.f5 o.f6 o.f7 o.f8 N1 N2 _ w hG hx lx hy ly hm hW hH k1 (fun w' hb => ?_)).mono (fun e w' h=>vX hs k1 h)
      rw [h3,e1,e2]
      exact ae1 o.f1 o.f2 o.f3 A4 _ c4 A5 _ c5 o.f6 N1 N2 _ M1 M2 w' (hG.below hb) q1 q2 rfl k1
  · obtain ⟨hw,hu,hv,lu,lv⟩:=acV o hI l4 l5
    have n1:1≤N1∧N1≤65536:=by omega
    have n2:1≤N2∧N2≤65536:=by omega
    have hs:iV o N1 N2=if (jy o).2.2=0 then if iT (jy o).1 N1=0 then iT (jy o).2.1 N2 else iT (jy o).1 N1 else (jy o).2.2:=by
      unfold iV acW aeK
      rw [if_pos ⟨ho,hW,hH⟩,if_neg h3,if_neg h3]
      by_cases c:(jy o).2.2=0
      · rw [if_neg (fun h=>h.2 c),if_pos c]
      · rw [if_pos ⟨h3,c⟩,if_neg c]
    have tx:pY o N1=iK N1 (((jy o).1.length / 2:Nat):Int) (iQ (jy o).1) N1:=by unfold pY;rw [if_neg h3];rfl
    have ty:qc o N2=iK N2 (((jy o).2.1.length / 2:Nat):Int) (iQ (jy o).2.1) N2:=by unfold qc;rw [if_neg h3];rfl
    generalize (jy o).1=u at *
    generalize (jy o).2.1=v at *
    generalize (jy o).2.2=c at *
    by_cases hc:c=0
    rotate_left
    · rw [if_neg hc] at hs
      exact (abl o.f0 o.f1 o.f2 o.f3 A4 c4 o.f4 A5 c5 o.f5 o.f6 o.f7 o.f8 N1 N2 c w hG hx lx hy ly hm hW hH hc (fun w' hb=>ae3 _ o.f0 o.f1 o.f2 o.f3 A4 c4 o.f4 A5 c5 o.f5 o.f6 o.f7 o.f8 c N1 N2 u v w' (Kd.bI hx hb) lx (Kd.bI hy hb) ly h3 hw hc)).mono (fun e w' h=>vX hs hc h)
    subst hc
    rw [if_pos rfl] at hs
    by_cases k1:iT u N1=0
    · rw [if_pos k1] at hs
      by_cases k2:iT v N2=0
      · exact (ahr o.f0 o.f1 o.f2 o.f3 A4 c4 o.f4 A5 c5 o.f5 o.f6 o.f7 o.f8 N1 N2 _ _ w hG hx lx hy ly hm hW hH (fun w' hb=>aiB _ o.f0 o.f1 o.f2 o.f3 A4 c4 o.f4 A5 c5 o.f5 o.f6 o.f7 o.f8 N1 N2 u v w' (Kd.bI hx hb) lx (Kd.bI hy hb) ly h3 hw hu hv lu lv n1 n2 k1 k2)).mono (fun e w' h=>aif (hs.trans k2) tx ty h)
      · exact (abl o.f0 o.f1 o.f2 o.f3 A4 c4 o.f4 A5 c5 o.f5 o.f6 o.f7 o.f8 N1 N2 _ w hG hx lx hy ly hm hW hH k2 (fun w' hb=>ae5 _ o.f0 o.f1 o.f2 o.f3 A4 c4 o.f4 A5 c5 o.f5 o.f6 o.f7 o.f8 _ N1 N2 u v w' (Kd.bI hx hb) lx (Kd.bI hy hb) ly h3 hu hv lu lv n1 n2 hw k1 rfl k2)).mono (fun e w' h=>vX hs k2 h)
    · rw [if_neg k1] at hs
      exact (abl o.f0 o.f1 o.f2 o.f3 A4 c4 o.f4 A5 c5 o.f5 o.f6 o.f7 o.f8 N1 N2 _ w hG hx lx hy ly hm hW hH k1 (fun w' hb=>ae4 _ o.f0 o.f1 o.f2 o.f3 A4 c4 o.f4 A5 c5 o.f5 o.f6 o.f7 o.f8 _ N1 N2 u v w' (Kd.bI hx hb) lx (Kd.bI hy hb) ly h3 hu hv lu lv n1 n2 hw rfl k1)).mono (fun e w' h=>vX hs k1 h)
end Go.Proofs.YtpondkggmcmpfaaGreatDoor.QA
namespace Go.Proofs.YtpondkggmcmpfaaGreatDoor.QA
open Go.RowKit Go.Proofs.YtpondkggmcmpfaaGreatDoorW.PrintWords Go.Proofs.YtpondkggmcmpfaaGreatDoorW.PrintLast Go.Proofs.YtpondkggmcmpfaaGreatDoorW.PrintMore Go.Proofs.YtpondkggmcmpfaaGreatDoor.T
set_option linter.unusedVariables false
set_option linter.unusedSimpArgs false
theorem aro (o:S47) (W H:Int):aa6.f o.f0 o.f1 o.f2 o.f3 o.f4 o.f5 o.f6 o.f7 o.f8 W H=some ((uD o W H).1,(uD o W H).2):=by
  unfold aa6.f uD;split <;> rfl
def oK (l:List S47) (a b:Int):Nat→Int × Int
  | 0=>(a,b)
  | i+1=>uD (eY l i) (oK l a b i).1 (oK l a b i).2
theorem arp:(Tryz.prog.info? 38).map (fun i=>(i.zero,i.size,i.bytes))=some (some (.agg #[.pointer none,.pointer none,.int .i64 0]),3,24):=by kernel_rfl
theorem fits_any (a b c:Int):∃ r,lM.f a b c=some r:=by
  unfold lM.f
  repeat' split
  all_goals exact ⟨_,rfl⟩
def wJ (l:List S47) (a b:Int) (i:Nat):Stg:=⟨pY (eY l i) (oK l a b i).1,qc (eY l i) (oK l a b i).2,(eY l i).f1⟩
def yI (l:List S47) (a b:Int) (n:Nat):List Stg:=(List.range n).map (wJ l a b)
theorem agm (l:List S47) (a b:Int) (n:Nat):(yI l a b n).length=n:=by unfold yI;rw [List.length_map,List.length_range]
def yJ (a b c:Int):Bool:=(lM.f a b c).getD false
theorem alm (a b c:Int):lM.f a b c=some (yJ a b c):=by
  obtain ⟨r,h⟩:=fits_any a b c
  unfold yJ;rw [h];rfl
def rJ (l:List S47) (ch a b:Int):Nat→Nat→Int
  | _,0=>0
  | i,d+1=>if iV (eY l i) (oK l a b i).1 (oK l a b i).2=0 then if yJ (oK l a b (i+1)).1 (oK l a b (i+1)).2 ch=true then rJ l ch a b (i+1) d else 5 else iV (eY l i) (oK l a b i).1 (oK l a b i).2
def pG (l:List S47) (a b ch:Int):Int:=if (16:Int) < (l.length:Int) then 6 else if yJ a b ch=true then rJ l ch a b 0 l.length else 5
def al7 (l:List S47) (a b ch:Int) (w:World) (e:Ending) (w':World):Prop:=Below w.heap.size w w' ∧
  if pG l a b ch=0 then ∃ v,e = .returned (.tuple #[v,.int .i64 0])∧acU.R 38 w' w.heap.size (fun _=>True) v (yI l a b l.length) else e = .returned (.tuple #[.slice none 0 0,.int .i64 (pG l a b ch)])
theorem aeM {l:List S47} {a b ch c:Int} (he:pG l a b ch=c) (hc:c≠0) {w w':World} (hb:Below w.heap.size w w'):al7 l a b ch w (.returned (.tuple #[.slice none 0 0,.int .i64 c])) w':=⟨hb,by rw [if_neg (by rw [he];exact hc),he]⟩
theorem aox {l:List S47} {a b ch:Int} (he:pG l a b ch=0) {w w':World} (hb:Below w.heap.size w w') {v:Value} (hr:acU.R 38 w' w.heap.size (fun _=>True) v (yI l a b l.length)):al7 l a b ch w (.returned (.tuple #[v,.int .i64 0])) w':=⟨hb,by rw [if_pos he];exact ⟨v,rfl,hr⟩⟩
set_option maxHeartbeats 8000000 in
set_option maxRecDepth 100000 in
theorem asc (l:List S47) (A0:Option Addr) (c0:Nat) (a b ch:Int) (w:World) (hG:GL w) (hr:Kd.C k47 w A0 l.length l) (hc:l.length≤c0) (hI:∀ j:Nat,j < l.length→opI (eY l j)∧(eY l j).f4.length < 4611686018427387904∧(eY l j).f5.length < 4611686018427387904) :
    Calls Tryz.prog 14 #[.slice A0 l.length c0,.int .i64 a,.int .i64 b,.int .i64 ch] w (al7 l a b ch w):=by
  have HG:=aj.mk hG
  have HR:=aj.mk hr
  have HC:=aj.mk hc
  have HI:=aj.mk hI
  have lm:=hr.2.1
  clear hG hr hc hI
  have mixed:Tryz.prog.follows .mixedOrders=true:=by kernel_rfl
  by_cases h16:(16:Int) < (l.length:Int)
  · have b16:decide ((16:Int) < (l.length:Int))=true:=decide_eq_true h16
    have afz:decide (16 < l.length)=true:=decide_eq_true (by omega)
    go_enter Tryz.func14,Tryz.ntmps14
    go_wp2
    go_ret2
    exact aeM (by unfold pG;exact if_pos h16) (by decide) (Below.refl _ _)
  have b16:decide ((16:Int) < (l.length:Int))=false:=decide_eq_false h16
  have afz:decide (16 < l.length)=false:=decide_eq_false (by omega)
  have hf:=alm a b ch
  obtain ⟨r,hr⟩:∃ r,r=yJ a b ch:=⟨_,rfl⟩
  rw [← hr] at hf
  have HF:=aj.mk hf
  have HRR:=aj.mk hr
  have HNN:=aj.mk h16
  clear hf hr
  cases r
  · go_enter Tryz.func14,Tryz.ntmps14
    go_wp2_with (go_at_call 54;(with_reducible refine (lM.calls a b ch _ _ HF.out).mono ?_);rintro e w' ⟨rfl,⟨nd,rfl⟩⟩)
    go_ret2
    exact aeM (by unfold pG;rw [if_neg (by have:=HNN.out;omega),← HRR.out];rfl) (by decide) (by repeat (first|(with_reducible first|exact Below.refl _ _|apply aN|apply dA)|exact Below.refl _ _))
  go_enter Tryz.func14,Tryz.ntmps14
  go_wp2_with (go_at_call 54;(with_reducible refine (lM.calls a b ch _ _ HF.out).mono ?_);rintro e w' ⟨rfl,⟨nd,rfl⟩⟩)
  have HCD:=aj.mk (show pG l a b ch=rJ l ch a b 0 l.length by unfold pG;rw [if_neg (by have:=HNN.out;omega),← HRR.out];rfl)
  clear HF HRR HNN
  obtain ⟨n,hn⟩:∃ n,n=l.length:=⟨_,rfl⟩
  rw [← hn] at b16 afz h16 lm ⊢
  have HN:=aj.mk hn
  rw [← hn] at HCD
  clear hn b16 afz
  go_loopg [1,2,10,27] n (fun kx s1 s2 s10 s27 wr=>∃ (i:Nat) (W H:Int) (ss:List Stg),s27 = .int .i64 i∧s1 = .int .i64 W∧s2 = .int .i64 H∧i≤n∧n - i≤kx∧aj (oK l a b i=(W,H))∧aj (Below w.heap.size w wr)∧aj (acU.R 38 wr w.heap.size (fun _=>True) s10 ss)∧aj (ss=yI l a b i)∧aj (pG l a b ch=rJ l ch a b i (n - i)))
  case atStart =>
    refine ⟨0,a,b,[],rfl,rfl,rfl,by omega,by omega,⟨rfl⟩,⟨?_⟩,⟨Kd.jR _ _ _ _ _⟩,⟨rfl⟩,HCD⟩
    repeat (first|(with_reducible first|exact Below.refl _ _|apply aZ|apply aN|apply dA)|exact Below.refl _ _)
  case round =>
    obtain ⟨i,W,H,ss,rfl,rfl,rfl,i1,i2,HS,HB,HO,HL,HK⟩:=hrel
    have wi:IntKind.i64.wrap ((i:Int)+1)=(i:Int)+1:=by rw [qY];exact aC (by omega) (by omega)
    by_cases hlt:(i:Int) < (n:Int)
    rotate_left
    · have him:i=n:=by omega
      subst him
      have hz:pG l a b ch=0:=by rw [HK.out,Nat.sub_self];rfl
      have HZ:=aj.mk hz
      clear hz
      go_wp2
      go_ret2
      exact aox HZ.out HB.out (by rw [← HN.out,← HL.out];exact HO.out)
    have p1:(0≤(i:Int)):=by omega
    obtain ⟨hio,hi4,hi5⟩:=HI.out i (by have:=HN.out;omega)
    obtain ⟨ad,A4,c4,A5,c5,e0,x0,x1,x2,x3,x4,x5,x6,x7,x8,l4,g4,l5,g5⟩:=ajo (Kd.bI HR.out HB.out) (i:Int) p1 (by have:=HN.out;omega)
    cases e0
    obtain ⟨o,ho⟩:∃ o,o=eY l (i:Int):=⟨_,rfl⟩
    rw [← ho] at hio hi4 hi5 x0 x1 x2 x3 x4 x5 x6 x7 x8 l4 g4 l5 g5
    obtain ⟨p,hp⟩:∃ p,p=o.f4.length:=⟨_,rfl⟩
    obtain ⟨q,hq⟩:∃ q,q=o.f5.length:=⟨_,rfl⟩
    have hmk:=fun w' (hb:Below wr.heap.size wr w')=>make_is o W H A4 c4 A5 c5 w' (HG.out.below (ak HB.out hb)) hio (Kd.bI g4 hb) l4 (Kd.bI g5 hb) l5 hi4 hi5
    have hsz:=fun w' (hb:Below wr.heap.size wr w')=>aa6.calls o.f0 o.f1 o.f2 o.f3 A4 c4 o.f4 A5 c5 o.f5 o.f6 o.f7 o.f8 W H (uD o W H).1 (uD o W H).2 w' (Kd.bI g4 hb) l4 (Kd.bI g5 hb) l5 (aro o W H)
    rw [← hp,← hq] at hmk hsz
    rw [← hp] at x4
    rw [← hq] at x5
    have HMK:=aj.mk hmk
    have HSZ:=aj.mk hsz
    have HOO:=aj.mk ho
    rw [Int.toNat_natCast] at x0 x1 x2 x3 x4 x5 x6 x7 x8
    have q0:i < n:=by omega
    have qd:decide (i < n)=true:=decide_eq_true q0
    clear hmk hsz ho hp hq hio hi4 hi5 l4 g4 l5 g5
    unfold opV at HMK
    unfold aeL at HMK
    obtain ⟨c,hcc⟩:∃ c,c=iV o W H:=⟨_,rfl⟩
    rw [← hcc] at HMK
    have HCC:=aj.mk hcc
    have ajN:=aj.mk (show wJ l a b i=⟨pY o W,qc o H,o.f1⟩ by unfold wJ;rw [HS.out,← HOO.out])
    have hcd:rJ l ch a b i (n - i)=if c=0 then if yJ (uD o W H).1 (uD o W H).2 ch=true then rJ l ch a b (i+1) (n - (i+1)) else 5 else c:=by
      rw [show n - i=(n - (i+1))+1 by omega,rJ,oK,HS.out,← HOO.out,← HCC.out]
    have HCF:=aj.mk (HK.out.trans hcd)
    clear hcc hcd HK
    obtain ⟨tx,htx⟩:∃ t,t=pY o W:=⟨_,rfl⟩
    obtain ⟨ty,hty⟩:∃ t,t=qc o H:=⟨_,rfl⟩
    rw [← htx,← hty] at HMK ajN
    clear htx hty
    go_upto_region 9 with fail
    have hr:=heap_alloc_new wr (.cells #[.int .i64 o.f0,.int .i64 o.f1,.int .i64 o.f2,.int .i64 o.f3,.slice A4 p c4,.slice A5 q c5,.int .i64 o.f6,.int .i64 o.f7,.int .i64 o.f8] 47)
    have BA:=aj.mk (aZ (Below.refl wr.heap.size wr) (.cells #[.int .i64 o.f0,.int .i64 o.f1,.int .i64 o.f2,.int .i64 o.f3,.slice A4 p c4,.slice A5 q c5,.int .i64 o.f6,.int .i64 o.f7,.int .i64 o.f8] 47))
    obtain ⟨g,hg⟩:∃ g,g=wr.heap.size:=⟨_,rfl⟩
    rw [← hg] at hr ⊢
    generalize wr.alloc (.cells #[.int .i64 o.f0,.int .i64 o.f1,.int .i64 o.f2,.int .i64 o.f3,.slice A4 p c4,.slice A5 q c5,.int .i64 o.f6,.int .i64 o.f7,.int .i64 o.f8] 47)=w2 at hr BA ⊢
    have z0:w2.cell? ⟨g,0,none⟩=some (.int .i64 o.f0):=(au hr 0).trans rfl
    have z1:w2.cell? ⟨g,1,none⟩=some (.int .i64 o.f1):=(au hr 1).trans rfl
    have z2:w2.cell? ⟨g,2,none⟩=some (.int .i64 o.f2):=(au hr 2).trans rfl
    have z3:w2.cell? ⟨g,3,none⟩=some (.int .i64 o.f3):=(au hr 3).trans rfl
    have z4:w2.cell? ⟨g,4,none⟩=some (.slice A4 p c4):=(au hr 4).trans rfl
    have z5:w2.cell? ⟨g,5,none⟩=some (.slice A5 q c5):=(au hr 5).trans rfl
    have z6:w2.cell? ⟨g,6,none⟩=some (.int .i64 o.f6):=(au hr 6).trans rfl
    have z7:w2.cell? ⟨g,7,none⟩=some (.int .i64 o.f7):=(au hr 7).trans rfl
    have z8:w2.cell? ⟨g,8,none⟩=some (.int .i64 o.f8):=(au hr 8).trans rfl
    have HR2:=aj.mk hr
    have HGG:=aj.mk hg
    clear x0 x1 x2 x3 x4 x5 x6 x7 x8 hr hg
    by_cases hc0:c=0
    rotate_left
    · have bc1:(c == 0)=false:=by simpa using hc0
      have bc2:(c != 0)=true:=by simpa using hc0
      have HC0:=aj.mk hc0
      have HZ:=aj.mk (show pG l a b ch=c by rw [HCF.out,if_neg hc0])
      simp only [if_neg hc0] at HMK
      clear hc0
      go_upto_region 10 with (go_at_call 51;refine (HMK.out _ BA.out).mono ?_;rintro e w4 ⟨hb4,rfl⟩;have B4:=aj.mk (ak BA.out hb4);clear hb4)
      clear z0 z1 z2 z3 z4 z5 z6 z7 z8
      go_wp2
      go_ret2
      exact aeM HZ.out HC0.out (aZ (ak HB.out B4.out) _)
    simp only [if_pos hc0] at HMK
    rw [if_pos hc0] at HCF
    subst hc0
    go_upto_region 10 with (go_at_call 51;refine (HMK.out _ BA.out).mono ?_;rintro e w4 ⟨hb4,bx,bz,rfl,hx,hz⟩;have B4:=aj.mk (ak BA.out hb4);have HB4:=aj.mk hb4;have HXX:=aj.mk hx;have HZZ:=aj.mk hz;clear hb4 hx hz)
    clear z0 z1 z2 z3 z4 z5 z6 z7 z8
    have hx:=HXX.out
    have hz:=HZZ.out
    clear HXX HZZ
    obtain ⟨st,hst⟩:∃ st:Stg,st=⟨tx,ty,o.f1⟩:=⟨_,rfl⟩
    have hM:=aow (s:=⟨tx,ty,o.f1⟩) hx hz
    rw [← hst] at hM
    have hr5:=heap_alloc_new w4 (.cells #[.pointer (some ⟨bx,0,none⟩),.pointer (some ⟨bz,0,none⟩),.int .i64 o.f1] 38)
    have B5:=aj.mk (aZ HB4.out (.cells #[.pointer (some ⟨bx,0,none⟩),.pointer (some ⟨bz,0,none⟩),.int .i64 o.f1] 38))
    have HM5:=aj.mk (Kd.zk hM (aZ (Below.refl w4.heap.size w4) (.cells #[.pointer (some ⟨bx,0,none⟩),.pointer (some ⟨bz,0,none⟩),.int .i64 o.f1] 38)))
    have HST:=aj.mk hst
    obtain ⟨r,hrr⟩:∃ r,r=w4.heap.size:=⟨_,rfl⟩
    rw [← hrr] at hr5 ⊢
    generalize w4.alloc (.cells #[.pointer (some ⟨bx,0,none⟩),.pointer (some ⟨bz,0,none⟩),.int .i64 o.f1] 38)=w5 at hr5 B5 HM5 ⊢
    have HR5:=aj.mk hr5
    have hq5:=(B5.out.block g (eF HR2.out)).trans HR2.out
    have z0:w5.cell? ⟨g,0,none⟩=some (.int .i64 o.f0):=(au hq5 0).trans rfl
    have z1:w5.cell? ⟨g,1,none⟩=some (.int .i64 o.f1):=(au hq5 1).trans rfl
    have z2:w5.cell? ⟨g,2,none⟩=some (.int .i64 o.f2):=(au hq5 2).trans rfl
    have z3:w5.cell? ⟨g,3,none⟩=some (.int .i64 o.f3):=(au hq5 3).trans rfl
    have z4:w5.cell? ⟨g,4,none⟩=some (.slice A4 p c4):=(au hq5 4).trans rfl
    have z5:w5.cell? ⟨g,5,none⟩=some (.slice A5 q c5):=(au hq5 5).trans rfl
    have z6:w5.cell? ⟨g,6,none⟩=some (.int .i64 o.f6):=(au hq5 6).trans rfl
    have z7:w5.cell? ⟨g,7,none⟩=some (.int .i64 o.f7):=(au hq5 7).trans rfl
    have z8:w5.cell? ⟨g,8,none⟩=some (.int .i64 o.f8):=(au hq5 8).trans rfl
    obtain ⟨W1,hW1⟩:∃ W1,W1=(uD o W H).1:=⟨_,rfl⟩
    obtain ⟨H1,hH1⟩:∃ H1,H1=(uD o W H).2:=⟨_,rfl⟩
    rw [← hW1,← hH1] at HSZ HCF
    have HWH:=aj.mk (And.intro hW1 hH1)
    have hf:=alm W1 H1 ch
    obtain ⟨rb,hrb⟩:∃ r,r=yJ W1 H1 ch:=⟨_,rfl⟩
    rw [← hrb] at hf HCF
    have HF:=aj.mk hf
    clear hrb
    have HB5:=aj.mk (ak BA.out B5.out)
    clear hx hz hst hM hrr hr5 hq5 hW1 hH1 hf HMK B4
    cases rb
    · go_wp2_with (first
        | (go_at_call 55;(with_reducible refine (HSZ.out _ HB5.out).mono ?_);rintro e w6 ⟨rfl,hb6⟩;have HB6:=aj.mk (ak HB5.out hb6);clear hb6)
        | (go_at_call 54;(with_reducible refine (lM.calls W1 H1 ch _ _ HF.out).mono ?_);rintro e w' ⟨rfl,⟨nd2,rfl⟩⟩))
      go_ret2
      exact aeM (HCF.out.trans (by simp)) (by decide) (by repeat (first|(with_reducible first|exact ak HB.out HB6.out|apply aN|apply dA)|exact ak HB.out HB6.out))
    go_upto_region 15 with (first
        | (go_at_call 55;(with_reducible refine (HSZ.out _ HB5.out).mono ?_);rintro e w6 ⟨rfl,hb6⟩;have HB6:=aj.mk (ak HB5.out hb6);have hq6:=(hb6.block r (eF HR5.out)).trans HR5.out;have HQ6:=aj.mk hq6;have HM6:=aj.mk (Kd.zk HM5.out hb6);clear hb6 hq6)
        | (go_at_call 54;(with_reducible refine (lM.calls W1 H1 ch _ _ HF.out).mono ?_);rintro e w' ⟨rfl,⟨nd2,rfl⟩⟩))
    have hq7:(w6.drewN nd2).heap[r]? = some (.cells #[.pointer (some ⟨bx,0,none⟩),.pointer (some ⟨bz,0,none⟩),.int .i64 o.f1] 38 (0,0)):=by simpa using HQ6.out
    have B7:=aj.mk (aN HB6.out nd2)
    have HM7:=aj.mk (Kd.zk HM6.out (aN (Below.refl w6.heap.size w6) nd2))
    generalize w6.drewN nd2=w7 at hq7 B7 HM7 ⊢
    have y0:w7.cell? ⟨r,0,none⟩=some (.pointer (some ⟨bx,0,none⟩)):=(au hq7 0).trans rfl
    have y1:w7.cell? ⟨r,1,none⟩=some (.pointer (some ⟨bz,0,none⟩)):=(au hq7 1).trans rfl
    have y2:w7.cell? ⟨r,2,none⟩=some (.int .i64 o.f1):=(au hq7 2).trans rfl
    have HO7:=aj.mk (Kd.jA HO.out B7.out)
    have BW7:=aj.mk (ak HB.out B7.out)
    have HSS:=aj.mk (show ss.length≤16 by rw [HL.out,agm];omega)
    have HEQ:=aj.mk (show st.bd=o.f1 by rw [HST.out])
    have HPM:=aj.mk (show acU.M w7 w.heap.size (fun k=>w2.heap.size≤k∧k < w4.heap.size) st [.pointer (some ⟨bx,0,none⟩),.pointer (some ⟨bz,0,none⟩),.int .i64 o.f1] by have h:=acU.pV (Nat.le_trans HB.out.size BA.out.size) HM7.out;rw [HEQ.out] at h;exact h)
    have HOK:=aj.mk (show ∀ k,(w2.heap.size≤k∧k < w4.heap.size)→True∧some k≠u10.ownBlock by
      intro k hk
      refine ⟨trivial,fun h => ?_⟩
      have h1:=(Kd.kH HO.out).1 k h.symm
      have h2:=BA.out.size
      omega)
    clear z0 z1 z2 z3 z4 z5 z6 z7 z8 hq7
    go_upto_region 16 with (at_builtin;refine Kd.kJ acU (w0:=w) w.heap.size rfl (.tmp 53) (.tmp 55) 25 38 (.agg #[.pointer none,.pointer none,.int .i64 0]) 24 rfl Tryz.underlying25 arp rfl (by decide) (by omega) u10 ss st [.pointer (some ⟨bx,0,none⟩),.pointer (some ⟨bz,0,none⟩),.int .i64 o.f1] (fun _=>True) (fun k=>w2.heap.size≤k∧k < w4.heap.size) rfl rfl HPM.out HOK.out (fun _ _=>trivial) HO7.out BW7.out BW7.out.size (by have:=HSS.out;omega) ?_;intro v1 w8 ho8 hb8 hg8 ajO;have HO8:=aj.mk ho8;have HB8:=aj.mk hb8;clear ho8 hb8 hg8 ajO)
    go_wp2
    go_roundg (n - (i+1))
    case measure=>omega
    case rel =>
      refine ⟨i+1,W1,H1,ss ++ [st],by simp,rfl,rfl,by omega,Nat.le_refl _,⟨?_⟩,HB8,HO8,⟨?_⟩,⟨HCF.out.trans (by simp)⟩⟩
      · rw [oK,HS.out,← HOO.out,HWH.out.1,HWH.out.2]
      · rw [HL.out,HST.out,← ajN.out];unfold yI;rw [List.range_succ,List.map_append];rfl
end Go.Proofs.YtpondkggmcmpfaaGreatDoor.QA
