/- Joined by wip/tools/bundle.py out of: T1 TX TQ T15 T16 T17. -/
import Derived.Test.YtpondkggmcmpfaaGreatDoorBDirectFlat10
set_option maxHeartbeats 8000000
set_option maxRecDepth 100000
namespace Go.Proofs.YtpondkggmcmpfaaGreatDoor.QA
open Go.RowKit Go.Proofs.YtpondkggmcmpfaaGreatDoorW.PrintWords Go.Proofs.YtpondkggmcmpfaaGreatDoorW.PrintLast Go.Proofs.YtpondkggmcmpfaaGreatDoorW.PrintMore Go.Proofs.YtpondkggmcmpfaaGreatDoor.T
set_option linter.unusedVariables false
set_option linter.unusedSimpArgs false
def aqB:Kd Tab where
 sz:=1
 E:=[122,71,2]
 K:=fun w t cs=>∃ b,cs=[.pointer (some ⟨b,0,none⟩)]/\sO w b t
 M:=fun w base ok t cs=>∃ b,cs=[.pointer (some ⟨b,0,none⟩)]/\ok b/\base<=b/\∃ v,w.heap[b]? = some (.cells #[.int .i64 t.n,v,.int .i64 t.most,.int .i64 t.size] 122 (0,0))/\k71.R 71 w base (fun k=>ok k/\k≠b) v t.lines
 xJ:=by rintro w t cs ⟨b,rfl,_⟩;rfl
 yF:=by
  rintro w t cs ⟨b,rfl,_⟩ u hu;rw [List.mem_singleton.1 hu];rfl
 rM:=by rintro w w1 t cs hb ⟨b,rfl,h⟩;exact ⟨b,rfl,h.below hb⟩
 rY:=by
  rintro w base ok t cs ⟨b,rfl,_,hb,v,h1,h2⟩;obtain ⟨A,c,rfl,h3,h4⟩:=Kd.rO h2;exact ⟨b,rfl,A,c,h1,h3,h4⟩
 lX:=by
  rintro w base ok ok' t cs hok ⟨b,rfl,h0,hb,v,h1,h2⟩;exact ⟨b,rfl,hok b h0,hb,v,h1,Kd.dU h2 (fun k hk=>⟨hok k hk.1,hk.2⟩)⟩
 pI:=by
  rintro w base ok t cs ⟨b,rfl,h0,hb,v,h1,h2⟩;refine ⟨b,rfl,⟨h0,hb,bD h1,_,List.mem_cons_self,_,h1⟩,hb,v,h1,Kd.dU (Kd.jZ h2) ?_⟩;rintro k ⟨⟨h3,h4⟩,h5,h6,q,hq,hc⟩;exact ⟨⟨h3,h5,h6,q,List.mem_cons_of_mem _ (by simpa [k71,Kd.iso,Kd.pair,Kd.slice,Kd.int,Kd.scalar] using hq),hc⟩,h4⟩
 sU:=by
  rintro w w1 base ok t cs hm ⟨b,rfl,h0,hb,v,h1,h2⟩;exact ⟨b,rfl,h0,hb,v,(hm b h0).trans h1,Kd.zQ h2 (fun k hk=>hm k hk.1)⟩
 qP:=by
  rintro w base base' ok t cs hl ⟨b,rfl,h0,hb,v,h1,h2⟩;exact ⟨b,rfl,h0,Nat.le_trans hl hb,v,h1,Kd.fQ h2 hl⟩
theorem am5 {w:World} {base b:Nat} {t:Tab} (h:su w base b t):aqB.M w base (fun k=>base<=k/\k < w.heap.size) t [.pointer (some ⟨b,0,none⟩)]:=by
 obtain ⟨h0,v,h1,h2⟩:=h;exact ⟨b,rfl,⟨h0,bD h1⟩,h0,v,h1,Kd.dU (Kd.jZ h2) (fun k hk=>⟨⟨hk.2.1,hk.2.2.1⟩,hk.1⟩)⟩
structure Stg where
 x:Tab
 y:Tab
 bd:Int
def zT0:Tab:=⟨0,[],0,0⟩
def au4:Stg:=⟨zT0,zT0,0⟩
def acg:Kd Stg:=Kd.iso (Kd.pair aqB (Kd.pair aqB (Kd.int .i64))) (fun s:Stg=>(s.x,s.y,s.bd))
theorem apD {w:World} {s:Stg} {cs:List Value} (h:acg.K w s cs):∃ bx bz,cs=[.pointer (some ⟨bx,0,none⟩),.pointer (some ⟨bz,0,none⟩),.int .i64 s.bd]/\sO w bx s.x/\sO w bz s.y:=by
 obtain ⟨_,_,rfl,⟨bx,rfl,hx⟩,⟨_,_,rfl,⟨bz,rfl,hz⟩,rfl⟩⟩:=h;exact ⟨bx,bz,rfl,hx,hz⟩
theorem aqC {w:World} {base bx bz:Nat} {s:Stg} (hx:su w base bx s.x) (hz:su w base bz s.y):acg.M w base (fun k=>base<=k/\k < w.heap.size) s [.pointer (some ⟨bx,0,none⟩),.pointer (some ⟨bz,0,none⟩),.int .i64 s.bd] :=
 ⟨_,_,rfl,am5 hx,⟨_,_,rfl,am5 hz,rfl⟩⟩
def qY (ss:List Stg) (i:Int):Stg:=ss.getD i.toNat au4
theorem au5 {w:World} {A:Option Addr} {n:Nat} {ss:List Stg} (h:Kd.C acg w A n ss) (i:Int) (h0:0<=i) (h1:i < n):∃ ad bx bz,A=some ad/\w.cell? (ad.add (i.toNat*3))=some (.pointer (some ⟨bx,0,none⟩))/\w.cell? ⟨(ad.add (i.toNat*3)).block,(ad.add (i.toNat*3)).off+1,none⟩=some (.pointer (some ⟨bz,0,none⟩))/\w.cell? ⟨(ad.add (i.toNat*3)).block,(ad.add (i.toNat*3)).off+2,none⟩=some (.int .i64 (qY ss i).bd)/\sO w bx (qY ss i).x/\sO w bz (qY ss i).y:=by
 obtain ⟨ad,c,e,_,hK,hc0⟩:=Kd.ako h au4 i h0 h1;have hc:∀ j u,c[j]? = some u->w.cell? (ad.add (i.toNat*3+j))=some u:=hc0;obtain ⟨bx,bz,rfl,hx,hz⟩:=apD hK;exact ⟨ad,bx,bz,e,hc 0 _ rfl,by rw [<- jP _ _ 1 (by omega)];exact hc 1 _ rfl,by rw [<- jP _ _ 2 (by omega)];exact hc 2 _ rfl,hx,hz⟩
def aah (o:S47):Prop:=0<=o.f0/\o.f0 < 4/\0<=o.f1/\o.f1 < 3/\(o.f0=3->1<=o.f7/\o.f7<=65536/\1<=o.f8/\o.f8<=65536/\0<=o.f6/\o.f6 < 3)
theorem apE (o:S47) (h:¬ aah o):jR.f 1 o.f0 o.f1 o.f2 o.f3 o.f4 o.f5 o.f6 o.f7 o.f8=some false:=by
 unfold jR.f;by_cases h0:o.f0 < 0
 . rw [if_pos h0,jR.j0,if_pos rfl]
 rw [if_neg h0];by_cases h1:o.f0>=4
 . rw [if_pos h1,jR.j0,if_pos rfl]
 rw [if_neg h1];by_cases h2:0<=o.f1/\o.f1 < 3;rotate_left
 . have:nM.f o.f1=some (⟨#[]⟩:ByteArray):=by
     unfold nM.f;rw [if_neg (by omega),if_neg (by omega),if_neg (by omega)];unfold qQ.f;by_cases c:o.f1 < 0
     . rw [if_pos c]
     . rw [if_neg c,if_pos (by omega)]
   rw [this,Option.bind_some,jR.j0,if_pos (by kernel_rfl)]
 obtain ⟨nm,hn,he⟩:∃ s,nM.f o.f1=some s/\(s.toList == ([]:List UInt8))=false:=by
   have:o.f1=0\/o.f1=1\/o.f1=2:=(by omega);rcases this with e|e|e
   . exact ⟨_,by rw [e];rfl,by kernel_rfl⟩
   . exact ⟨_,by rw [e];rfl,by kernel_rfl⟩
   . exact ⟨_,by rw [e];rfl,by kernel_rfl⟩
 rw [hn,Option.bind_some,he,jR.j0,if_neg (by decide)];by_cases h3:o.f0=3;rotate_left
 . exact absurd ⟨by omega,by omega,h2.1,h2.2,fun c=>absurd c h3⟩ h
 rw [if_pos h3,o8,Option.bind_some];by_cases h4:1<=o.f7/\o.f7<=65536;rotate_left
 . rw [decide_eq_false h4,if_neg (by decide)]
 rw [decide_eq_true h4,if_pos rfl,o8,Option.bind_some];by_cases h5:1<=o.f8/\o.f8<=65536;rotate_left
 . rw [decide_eq_false h5,if_neg (by decide)]
 rw [decide_eq_true h5,if_pos rfl];by_cases h6:0<=o.f6/\o.f6 < 3
 . exact absurd ⟨by omega,by omega,h2.1,h2.2,fun _=>⟨h4.1,h4.2,h5.1,h5.2,h6.1,h6.2⟩⟩ h
 have:uG.f o.f6=some (⟨#[]⟩:ByteArray):=by
   unfold uG.f;rw [if_neg (by omega),if_neg (by omega),if_neg (by omega)];unfold uQ.f;by_cases c:o.f6 < 0
   . rw [if_pos c]
   . rw [if_neg c,if_pos (by omega)]
 rw [this,Option.bind_some];exact congrArg some (by kernel_rfl)
def o9 (o:S47) (W H:Int):Int × Int:=if o.f0=3 then (o.f7,o.f8) else (W,H)
theorem agL (f n m:Int):∀ i,(iC f n m i).n=n
  | 0=>rfl
  | i+1=>by simp [iC,Tab.add,agL f n m i]
theorem agM (n h:Int) (l:List Int):∀ i,(iK n h l i).n=n
  | 0=>rfl
  | i+1=>by simp [iK,Tab.add,agM n h l i]
def opI (o:S47):Prop:=I64 o.f0/\I64 o.f1/\I64 o.f2/\I64 o.f3/\(∀ z ∈ o.f4,I64 z)/\(∀ z ∈ o.f5,I64 z)/\I64 o.f6/\I64 o.f7/\I64 o.f8
theorem agN (l:List Int) (hl:l.length < 4611686018427387904):(∀ z ∈ (oM l).1,I64 z)/\(oM l).1.length < 4611686018427387904:=by
 unfold oM;split
 . exact ⟨by simp,by simp⟩
 . refine ⟨fun z hz => ?_,by simpa using hl⟩;obtain ⟨t,_,rfl⟩:=List.mem_map.1 hz;exact rZ _
def jl (o:S47):List Int × List Int × Int :=
 if o.f0=0 then ((yC o.f2).1,(yC o.f2).1,(yC o.f2).2) else if o.f0=1 then ((aag o.f3).1,(aag o.f3).1,(aag o.f3).2) else
   if (oM o.f4).2=0 then ((oM o.f4).1,(oM o.f5).1,(oM o.f5).2) else ([],[],(oM o.f4).2)
theorem abJ (o:S47) (h:opI o) (l4:o.f4.length < 4611686018427387904) (l5:o.f5.length < 4611686018427387904):kY.f (2000+o.f4.length+o.f5.length) o.f0 o.f1 o.f2 o.f3 o.f4 o.f5 o.f6 o.f7 o.f8=some ((jl o).1,(jl o).2.1,(jl o).2.2)/\(∀ z ∈ (jl o).1,I64 z)/\(∀ z ∈ (jl o).2.1,I64 z)/\(jl o).1.length < 4611686018427387904/\(jl o).2.1.length < 4611686018427387904:=by
 obtain ⟨i0,i1,i2,i3,i4,i5,i6,i7,i8⟩:=h;unfold kY.f jl;by_cases h0:o.f0=0
 . rw [if_pos h0,aqw (by omega) i2,Option.bind_some];simp only [if_pos h0];have:(∀ z ∈ (yC o.f2).1,I64 z)/\(yC o.f2).1.length < 4611686018427387904:=by
     unfold yC;split
     . exact ⟨by simp,by simp⟩
     . refine ⟨fun z hz => ?_,?_⟩
       . obtain ⟨t,_,rfl⟩:=List.mem_map.1 hz;have:=au0 o.f2 ((t:Int) - (3*o.f2+65535) / 65536);constructor <;> omega
       . unfold ahA;rw [List.length_map,List.length_range];omega
   exact ⟨trivial,this.1,this.1,this.2,this.2⟩
 rw [if_neg h0];simp only [if_neg h0];by_cases h1:o.f0=1
 . rw [if_pos h1,am1 (by omega) i3,Option.bind_some];simp only [if_pos h1];have:(∀ z ∈ (aag o.f3).1,I64 z)/\(aag o.f3).1.length < 4611686018427387904:=by
     unfold aag;split
     . exact ⟨by simp,by simp⟩
     . exact agN _ (by rw [List.length_replicate];omega)
   exact ⟨trivial,this.1,this.1,this.2,this.2⟩
 rw [if_neg h1,ab9 (by omega) l4 i4,Option.bind_some];simp only [if_neg h1];have a:=agN o.f4 l4;have b:=agN o.f5 l5;by_cases c:(oM o.f4).2=0
 . rw [if_pos c,ab9 (by omega) l5 i5,Option.bind_some];simp only [if_pos c];exact ⟨trivial,a.1,b.1,a.2,b.2⟩
 . rw [if_neg c];simp only [if_neg c];exact ⟨trivial,by simp,by simp,by simp,by simp⟩
def mM (n:Int):Prop:=1<=n/\n<=65536
instance (n:Int):Decidable (mM n):=by unfold mM;exact inferInstance
instance (o:S47):Decidable (aah o):=by unfold aah;exact inferInstance
def kD (o:S47) (W:Int):Tab:=if o.f0=3 then iC o.f6 W o.f7 o.f7.toNat else iK W (((jl o).1.length / 2:Nat):Int) (iM (jl o).1) W.toNat
def kE (o:S47) (H:Int):Tab:=if o.f0=3 then iC o.f6 H o.f8 o.f8.toNat else iK H (((jl o).2.1.length / 2:Nat):Int) (iM (jl o).2.1) H.toNat
def acM (o:S47) (W:Int):Int:=if o.f0=3 then gK o.f6 W o.f7 0 o.f7.toNat else iO (jl o).1 W
def adU (o:S47) (H:Int):Int:=if o.f0=3 then gK o.f6 H o.f8 0 o.f8.toNat else iO (jl o).2.1 H
def iR (o:S47) (W H:Int):Int:=if aah o/\mM W/\mM H then if o.f0≠3/\(jl o).2.2≠0 then (jl o).2.2 else if acM o W=0 then adU o H else acM o W else 6
def afY (o:S47) (W H:Int) (w:World) (e:Ending) (w':World):Prop:=if iR o W H=0 then ahC (kD o W) (kE o H) o.f1 w e w' else afX (iR o W H) w e w'
theorem xA {o:S47} {W H c:Int} (he:iR o W H=c) (hc:c≠0) {w:World} {e:Ending} {w':World} (h:afX c w e w'):afY o W H w e w':=by unfold afY;rw [if_neg (by rw [he];exact hc),he];exact h
theorem ajG {o:S47} {W H:Int} {tx ty:Tab} {w:World} {e:Ending} {w':World} (he:iR o W H=0) (hx:kD o W=tx) (hy:kE o H=ty) (h:ahC tx ty o.f1 w e w'):afY o W H w e w':=by unfold afY;rw [if_pos he,hx,hy];exact h
theorem make_is (o:S47) (W H:Int) (A4:Option Addr) (c4:Nat) (A5:Option Addr) (c5:Nat) (w:World) (hG:GL w) (hI:opI o) (hx:Kd.C (Kd.int .i64) w A4 o.f4.length o.f4) (lx:o.f4.length<=c4) (hy:Kd.C (Kd.int .i64) w A5 o.f5.length o.f5) (ly:o.f5.length<=c5) (l4:o.f4.length < 4611686018427387904) (l5:o.f5.length < 4611686018427387904) :
   Calls Tryz.prog 51 #[opV o.f0 o.f1 o.f2 o.f3 A4 o.f4.length c4 A5 o.f5.length c5 o.f6 o.f7 o.f8,.int .i64 W,.int .i64 H] w (afY o W H w):=by
 by_cases ho:aah o;rotate_left
 . exact (aqy o.f0 o.f1 o.f2 o.f3 A4 c4 o.f4 A5 c5 o.f5 o.f6 o.f7 o.f8 W H w hG hx lx hy ly (apE o ho)).mono (fun e w' h=>xA (by unfold iR mM;rw [if_neg (fun h=>ho h.1)]) (by decide) h)
 have hm:=adT 0 (k:=o.f0) (b:=o.f1) (s:=o.f2) (r:=o.f3) (x:=o.f4) (y:=o.f5) (f:=o.f6) (w:=o.f7) (h:=o.f8) ⟨ho.1,ho.2.1⟩ ⟨ho.2.2.1,ho.2.2.2.1⟩ ho.2.2.2.2;by_cases hW:1<=W/\W<=65536;rotate_left
 . exact (aqz o.f0 o.f1 o.f2 o.f3 A4 c4 o.f4 A5 c5 o.f5 o.f6 o.f7 o.f8 W H w hG hx lx hy ly hm hW).mono (fun e w' h=>xA (by unfold iR mM;rw [if_neg (fun h=>hW h.2.1)]) (by decide) h)
 by_cases hH:1<=H/\H<=65536;rotate_left
 . exact (aqA o.f0 o.f1 o.f2 o.f3 A4 c4 o.f4 A5 c5 o.f5 o.f6 o.f7 o.f8 W H w hG hx lx hy ly hm hW hH).mono (fun e w' h=>xA (by unfold iR mM;rw [if_neg (fun h=>hH h.2.2)]) (by decide) h)
 obtain ⟨N1,rfl⟩:∃ N:Nat,W=N:=⟨W.toNat,by omega⟩;obtain ⟨N2,rfl⟩:∃ N:Nat,H=N:=⟨H.toNat,by omega⟩;by_cases h3:o.f0=3
 . obtain ⟨m1,m2,m3,m4,m5,m6⟩:=ho.2.2.2.2 h3;obtain ⟨M1,e1⟩:∃ M:Nat,o.f7=M:=⟨o.f7.toNat,by omega⟩;obtain ⟨M2,e2⟩:∃ M:Nat,o.f8=M:=⟨o.f8.toNat,by omega⟩;have q1:okR o.f6 N1 M1:=⟨m5,m6,hW.1,hW.2,by omega,by omega⟩;have q2:okR o.f6 N2 M2:=⟨m5,m6,hH.1,hH.2,by omega,by omega⟩;have hs:iR o N1 N2=if gK o.f6 N1 M1 0 M1=0 then gK o.f6 N2 M2 0 M2 else gK o.f6 N1 M1 0 M1:=by
     unfold iR acM adU;rw [if_pos ⟨ho,hW,hH⟩,if_neg (fun h=>h.1 h3),if_pos h3,if_pos h3,e1,e2];rfl
   by_cases k1:gK o.f6 N1 M1 0 M1=0
   . rw [if_pos k1] at hs;by_cases k2:gK o.f6 N2 M2 0 M2=0
     . refine (afW o.f0 o.f1 o.f2 o.f3 A4 c4 o.f4 A5 c5 o.f5 o.f6 o.f7 o.f8 N1 N2 (iC o.f6 N1 M1 M1) (iC o.f6 N2 M2 M2) w hG hx lx hy ly hm hW hH (fun w' hb => ?_)).mono (fun e w' h=>ajG (hs.trans k2) (by unfold kD;rw [if_pos h3,e1];rfl) (by unfold kE;rw [if_pos h3,e2];rfl) h);rw [h3,e1,e2];exact aer o.f1 o.f2 o.f3 A4 _ c4 A5 _ c5 o.f6 N1 N2 M1 M2 w' (hG.below hb) q1 q2 k1 k2
     . refine (acf o.f0 o.f1 o.f2 o.f3 A4 c4 o.f4 A5 c5 o.f5 o.f6 o.f7 o.f8 N1 N2 _ w hG hx lx hy ly hm hW hH k2 (fun w' hb => ?_)).mono (fun e w' h=>xA hs k2 h);rw [h3,e1,e2];exact agi o.f1 o.f2 o.f3 A4 _ c4 A5 _ c5 o.f6 N1 N2 _ M1 M2 w' (hG.below hb) q1 q2 k1 rfl k2
   . rw [if_neg k1] at hs;refine (acf o.f0 o.f1 o.f2 o.f3 A4 c4 o.f4 A5 c5 o.f5 o.f6 o.f7 o.f8 N1 N2 _ w hG hx lx hy ly hm hW hH k1 (fun w' hb => ?_)).mono (fun e w' h=>xA hs k1 h);rw [h3,e1,e2];exact agh o.f1 o.f2 o.f3 A4 _ c4 A5 _ c5 o.f6 N1 N2 _ M1 M2 w' (hG.below hb) q1 q2 rfl k1
 . obtain ⟨hw,hu,hv,lu,lv⟩:=abJ o hI l4 l5;have n1:1<=N1/\N1<=65536:=(by omega);have n2:1<=N2/\N2<=65536:=(by omega);have hs:iR o N1 N2=if (jl o).2.2=0 then if iO (jl o).1 N1=0 then iO (jl o).2.1 N2 else iO (jl o).1 N1 else (jl o).2.2:=by
     unfold iR acM adU;rw [if_pos ⟨ho,hW,hH⟩,if_neg h3,if_neg h3];by_cases c:(jl o).2.2=0
     . rw [if_neg (fun h=>h.2 c),if_pos c]
     . rw [if_pos ⟨h3,c⟩,if_neg c]
   have tx:kD o N1=iK N1 (((jl o).1.length / 2:Nat):Int) (iM (jl o).1) N1:=(by unfold kD;rw [if_neg h3];rfl);have ty:kE o N2=iK N2 (((jl o).2.1.length / 2:Nat):Int) (iM (jl o).2.1) N2:=(by unfold kE;rw [if_neg h3];rfl);generalize (jl o).1=u at *
   generalize (jl o).2.1=v at *
   generalize (jl o).2.2=c at *
   by_cases hc:c=0;rotate_left
   . rw [if_neg hc] at hs;exact (acf o.f0 o.f1 o.f2 o.f3 A4 c4 o.f4 A5 c5 o.f5 o.f6 o.f7 o.f8 N1 N2 c w hG hx lx hy ly hm hW hH hc (fun w' hb=>agj _ o.f0 o.f1 o.f2 o.f3 A4 c4 o.f4 A5 c5 o.f5 o.f6 o.f7 o.f8 c N1 N2 u v w' (Kd.bQ hx hb) lx (Kd.bQ hy hb) ly h3 hw hc)).mono (fun e w' h=>xA hs hc h)
   subst hc;rw [if_pos rfl] at hs;by_cases k1:iO u N1=0
   . rw [if_pos k1] at hs;by_cases k2:iO v N2=0
     . exact (afW o.f0 o.f1 o.f2 o.f3 A4 c4 o.f4 A5 c5 o.f5 o.f6 o.f7 o.f8 N1 N2 _ _ w hG hx lx hy ly hm hW hH (fun w' hb=>aes _ o.f0 o.f1 o.f2 o.f3 A4 c4 o.f4 A5 c5 o.f5 o.f6 o.f7 o.f8 N1 N2 u v w' (Kd.bQ hx hb) lx (Kd.bQ hy hb) ly h3 hw hu hv lu lv n1 n2 k1 k2)).mono (fun e w' h=>ajG (hs.trans k2) tx ty h)
     . exact (acf o.f0 o.f1 o.f2 o.f3 A4 c4 o.f4 A5 c5 o.f5 o.f6 o.f7 o.f8 N1 N2 _ w hG hx lx hy ly hm hW hH k2 (fun w' hb=>agl _ o.f0 o.f1 o.f2 o.f3 A4 c4 o.f4 A5 c5 o.f5 o.f6 o.f7 o.f8 _ N1 N2 u v w' (Kd.bQ hx hb) lx (Kd.bQ hy hb) ly h3 hu hv lu lv n1 n2 hw k1 rfl k2)).mono (fun e w' h=>xA hs k2 h)
   . rw [if_neg k1] at hs;exact (acf o.f0 o.f1 o.f2 o.f3 A4 c4 o.f4 A5 c5 o.f5 o.f6 o.f7 o.f8 N1 N2 _ w hG hx lx hy ly hm hW hH k1 (fun w' hb=>agk _ o.f0 o.f1 o.f2 o.f3 A4 c4 o.f4 A5 c5 o.f5 o.f6 o.f7 o.f8 _ N1 N2 u v w' (Kd.bQ hx hb) lx (Kd.bQ hy hb) ly h3 hu hv lu lv n1 n2 hw rfl k1)).mono (fun e w' h=>xA hs k1 h)
theorem aua (o:S47) (W H:Int):abX.f o.f0 o.f1 o.f2 o.f3 o.f4 o.f5 o.f6 o.f7 o.f8 W H=some ((o9 o W H).1,(o9 o W H).2):=by
 unfold abX.f o9;split <;> rfl
def nP (l:List S47) (a b:Int):Nat->Int × Int
  | 0=>(a,b)
  | i+1=>o9 (dX l i) (nP l a b i).1 (nP l a b i).2
theorem aub:(Tryz.prog.info? 38).map (fun i=>(i.zero,i.size,i.bytes))=some (some (.agg #[.pointer none,.pointer none,.int .i64 0]),3,24):=by kernel_rfl
theorem fits_any (a b c:Int):∃ r,jX.f a b c=some r:=by
 unfold jX.f;repeat' split
 all_goals exact ⟨_,rfl⟩
def ahD (l:List S47) (a b:Int) (i:Nat):Stg:=⟨kD (dX l i) (nP l a b i).1,kE (dX l i) (nP l a b i).2,(dX l i).f1⟩
def gX (l:List S47) (a b:Int) (n:Nat):List Stg:=(List.range n).map (ahD l a b)
theorem adV (l:List S47) (a b:Int) (n:Nat):(gX l a b n).length=n:=by unfold gX;rw [List.length_map,List.length_range]
def aai (a b c:Int):Bool:=(jX.f a b c).getD false
theorem am6 (a b c:Int):jX.f a b c=some (aai a b c):=by
 obtain ⟨r,h⟩:=fits_any a b c;unfold aai;rw [h];rfl
def tC (l:List S47) (ch a b:Int):Nat->Nat->Int
  | _,0=>0
  | i,d+1=>if iR (dX l i) (nP l a b i).1 (nP l a b i).2=0 then if aai (nP l a b (i+1)).1 (nP l a b (i+1)).2 ch=true then tC l ch a b (i+1) d else 5 else iR (dX l i) (nP l a b i).1 (nP l a b i).2
def qj (l:List S47) (a b ch:Int):Int:=if (16:Int) < (l.length:Int) then 6 else if aai a b ch=true then tC l ch a b 0 l.length else 5
def an0 (l:List S47) (a b ch:Int) (w:World) (e:Ending) (w':World):Prop:=Below w.heap.size w w' /\
  if qj l a b ch=0 then ∃ v,e = .returned (.tuple #[v,.int .i64 0])/\acg.R 38 w' w.heap.size (fun _=>True) v (gX l a b l.length) else e = .returned (.tuple #[.slice none 0 0,.int .i64 (qj l a b ch)])
theorem afZ {l:List S47} {a b ch c:Int} (he:qj l a b ch=c) (hc:c≠0) {w w':World} (hb:Below w.heap.size w w'):an0 l a b ch w (.returned (.tuple #[.slice none 0 0,.int .i64 c])) w':=⟨hb,by rw [if_neg (by rw [he];exact hc),he]⟩
theorem aqD {l:List S47} {a b ch:Int} (he:qj l a b ch=0) {w w':World} (hb:Below w.heap.size w w') {v:Value} (hr:acg.R 38 w' w.heap.size (fun _=>True) v (gX l a b l.length)):an0 l a b ch w (.returned (.tuple #[v,.int .i64 0])) w':=⟨hb,by rw [if_pos he];exact ⟨v,rfl,hr⟩⟩
theorem au6 (l:List S47) (A0:Option Addr) (c0:Nat) (a b ch:Int) (w:World) (hG:GL w) (hr:Kd.C k47 w A0 l.length l) (hc:l.length<=c0) (hI:∀ j:Nat,j < l.length->opI (dX l j)/\(dX l j).f4.length < 4611686018427387904/\(dX l j).f5.length < 4611686018427387904) :
   Calls Tryz.prog 14 #[.slice A0 l.length c0,.int .i64 a,.int .i64 b,.int .i64 ch] w (an0 l a b ch w):=by
 have HG:=aj.mk hG;have HR:=aj.mk hr;have HC:=aj.mk hc;have HI:=aj.mk hI;have lm:=hr.2.1;clear hG hr hc hI;have mixed:Tryz.prog.follows .mixedOrders=true:=(by kernel_rfl);by_cases h16:(16:Int) < (l.length:Int)
 . have b16:decide ((16:Int) < (l.length:Int))=true:=decide_eq_true h16;have agO:decide (16 < l.length)=true:=decide_eq_true (by omega);go_enter Tryz.func14,Tryz.ntmps14;go_wp2;go_ret2;exact afZ (by unfold qj;exact if_pos h16) (by decide) (Below.refl _ _)
 have b16:decide ((16:Int) < (l.length:Int))=false:=decide_eq_false h16;have agO:decide (16 < l.length)=false:=decide_eq_false (by omega);have hf:=am6 a b ch;obtain ⟨r,hr⟩:∃ r,r=aai a b ch:=⟨_,rfl⟩;rw [<- hr] at hf;have HF:=aj.mk hf;have HRR:=aj.mk hr;have HNN:=aj.mk h16;clear hf hr;cases r
 . go_enter Tryz.func14,Tryz.ntmps14;go_wp2_with (go_at_call 54;(with_reducible refine (jX.calls a b ch _ _ HF.out).mono ?_);rintro e w' ⟨rfl,⟨nd,rfl⟩⟩);go_ret2;exact afZ (by unfold qj;rw [if_neg (by have:=HNN.out;omega),<- HRR.out];rfl) (by decide) (by repeat (first|(with_reducible first|exact Below.refl _ _|apply aI|apply aZ)|exact Below.refl _ _))
 go_enter Tryz.func14,Tryz.ntmps14;go_wp2_with (go_at_call 54;(with_reducible refine (jX.calls a b ch _ _ HF.out).mono ?_);rintro e w' ⟨rfl,⟨nd,rfl⟩⟩);have HCD:=aj.mk (show qj l a b ch=tC l ch a b 0 l.length by unfold qj;rw [if_neg (by have:=HNN.out;omega),<- HRR.out];rfl);clear HF HRR HNN;obtain ⟨n,hn⟩:∃ n,n=l.length:=⟨_,rfl⟩;rw [<- hn] at b16 agO h16 lm ⊢;have HN:=aj.mk hn;rw [<- hn] at HCD;clear hn b16 agO;go_loopg [1,2,10,27] n (fun kx s1 s2 s10 s27 wr=>∃ (i:Nat) (W H:Int) (ss:List Stg),s27 = .int .i64 i/\s1 = .int .i64 W/\s2 = .int .i64 H/\i<=n/\n - i<=kx/\aj (nP l a b i=(W,H))/\aj (Below w.heap.size w wr)/\aj (acg.R 38 wr w.heap.size (fun _=>True) s10 ss)/\aj (ss=gX l a b i)/\aj (qj l a b ch=tC l ch a b i (n - i)))
 case atStart =>
   refine ⟨0,a,b,[],rfl,rfl,rfl,by omega,by omega,⟨rfl⟩,⟨?_⟩,⟨Kd.jY _ _ _ _ _⟩,⟨rfl⟩,HCD⟩;repeat (first|(with_reducible first|exact Below.refl _ _|apply aT|apply aI|apply aZ)|exact Below.refl _ _)
 case round =>
   obtain ⟨i,W,H,ss,rfl,rfl,rfl,i1,i2,HS,HB,HO,HL,HK⟩:=hrel;have wi:IntKind.i64.wrap ((i:Int)+1)=(i:Int)+1:=(by rw [jS];exact aC (by omega) (by omega));by_cases hlt:(i:Int) < (n:Int);rotate_left
   . have him:i=n:=(by omega);subst him;have hz:qj l a b ch=0:=(by rw [HK.out,Nat.sub_self];rfl);have HZ:=aj.mk hz;clear hz;go_wp2;go_ret2;exact aqD HZ.out HB.out (by rw [<- HN.out,<- HL.out];exact HO.out)
   have p1:(0<=(i:Int)):=(by omega);obtain ⟨hio,hi4,hi5⟩:=HI.out i (by have:=HN.out;omega);obtain ⟨ad,A4,c4,A5,c5,e0,x0,x1,x2,x3,x4,x5,x6,x7,x8,l4,g4,l5,g5⟩:=akW (Kd.bQ HR.out HB.out) (i:Int) p1 (by have:=HN.out;omega);cases e0;obtain ⟨o,ho⟩:∃ o,o=dX l (i:Int):=⟨_,rfl⟩;rw [<- ho] at hio hi4 hi5 x0 x1 x2 x3 x4 x5 x6 x7 x8 l4 g4 l5 g5;obtain ⟨p,hp⟩:∃ p,p=o.f4.length:=⟨_,rfl⟩;obtain ⟨q,hq⟩:∃ q,q=o.f5.length:=⟨_,rfl⟩;have hmk:=fun w' (hb:Below wr.heap.size wr w')=>make_is o W H A4 c4 A5 c5 w' (HG.out.below (ak HB.out hb)) hio (Kd.bQ g4 hb) l4 (Kd.bQ g5 hb) l5 hi4 hi5;have hsz:=fun w' (hb:Below wr.heap.size wr w')=>abX.calls o.f0 o.f1 o.f2 o.f3 A4 c4 o.f4 A5 c5 o.f5 o.f6 o.f7 o.f8 W H (o9 o W H).1 (o9 o W H).2 w' (Kd.bQ g4 hb) l4 (Kd.bQ g5 hb) l5 (aua o W H);rw [<- hp,<- hq] at hmk hsz;rw [<- hp] at x4;rw [<- hq] at x5;have HMK:=aj.mk hmk;have HSZ:=aj.mk hsz;have HOO:=aj.mk ho;rw [Int.toNat_natCast] at x0 x1 x2 x3 x4 x5 x6 x7 x8;have q0:i < n:=(by omega);have qd:decide (i < n)=true:=decide_eq_true q0;clear hmk hsz ho hp hq hio hi4 hi5 l4 g4 l5 g5;unfold opV at HMK;unfold afY at HMK;obtain ⟨c,hcc⟩:∃ c,c=iR o W H:=⟨_,rfl⟩;rw [<- hcc] at HMK;have HCC:=aj.mk hcc;have alh:=aj.mk (show ahD l a b i=⟨kD o W,kE o H,o.f1⟩ by unfold ahD;rw [HS.out,<- HOO.out]);have hcd:tC l ch a b i (n - i)=if c=0 then if aai (o9 o W H).1 (o9 o W H).2 ch=true then tC l ch a b (i+1) (n - (i+1)) else 5 else c:=by
     rw [show n - i=(n - (i+1))+1 by omega,tC,nP,HS.out,<- HOO.out,<- HCC.out]
   have HCF:=aj.mk (HK.out.trans hcd);clear hcc hcd HK;obtain ⟨tx,htx⟩:∃ t,t=kD o W:=⟨_,rfl⟩;obtain ⟨ty,hty⟩:∃ t,t=kE o H:=⟨_,rfl⟩;rw [<- htx,<- hty] at HMK alh;clear htx hty;go_upto_region 9 with fail;have hr:=heap_alloc_new wr (.cells #[.int .i64 o.f0,.int .i64 o.f1,.int .i64 o.f2,.int .i64 o.f3,.slice A4 p c4,.slice A5 q c5,.int .i64 o.f6,.int .i64 o.f7,.int .i64 o.f8] 47);have BA:=aj.mk (aT (Below.refl wr.heap.size wr) (.cells #[.int .i64 o.f0,.int .i64 o.f1,.int .i64 o.f2,.int .i64 o.f3,.slice A4 p c4,.slice A5 q c5,.int .i64 o.f6,.int .i64 o.f7,.int .i64 o.f8] 47));obtain ⟨g,hg⟩:∃ g,g=wr.heap.size:=⟨_,rfl⟩;rw [<- hg] at hr ⊢;generalize wr.alloc (.cells #[.int .i64 o.f0,.int .i64 o.f1,.int .i64 o.f2,.int .i64 o.f3,.slice A4 p c4,.slice A5 q c5,.int .i64 o.f6,.int .i64 o.f7,.int .i64 o.f8] 47)=w2 at hr BA ⊢;have z0:w2.cell? ⟨g,0,none⟩=some (.int .i64 o.f0):=(au hr 0).trans rfl;have z1:w2.cell? ⟨g,1,none⟩=some (.int .i64 o.f1):=(au hr 1).trans rfl;have z2:w2.cell? ⟨g,2,none⟩=some (.int .i64 o.f2):=(au hr 2).trans rfl;have z3:w2.cell? ⟨g,3,none⟩=some (.int .i64 o.f3):=(au hr 3).trans rfl;have z4:w2.cell? ⟨g,4,none⟩=some (.slice A4 p c4):=(au hr 4).trans rfl;have z5:w2.cell? ⟨g,5,none⟩=some (.slice A5 q c5):=(au hr 5).trans rfl;have z6:w2.cell? ⟨g,6,none⟩=some (.int .i64 o.f6):=(au hr 6).trans rfl;have z7:w2.cell? ⟨g,7,none⟩=some (.int .i64 o.f7):=(au hr 7).trans rfl;have z8:w2.cell? ⟨g,8,none⟩=some (.int .i64 o.f8):=(au hr 8).trans rfl;have HR2:=aj.mk hr;have HGG:=aj.mk hg;clear x0 x1 x2 x3 x4 x5 x6 x7 x8 hr hg;by_cases hc0:c=0;rotate_left
   . have bc1:(c == 0)=false:=(by simpa using hc0);have bc2:(c != 0)=true:=(by simpa using hc0);have HC0:=aj.mk hc0;have HZ:=aj.mk (show qj l a b ch=c by rw [HCF.out,if_neg hc0]);simp only [if_neg hc0] at HMK;clear hc0;go_upto_region 10 with (go_at_call 51;refine (HMK.out _ BA.out).mono ?_;rintro e w4 ⟨hb4,rfl⟩;have B4:=aj.mk (ak BA.out hb4);clear hb4);clear z0 z1 z2 z3 z4 z5 z6 z7 z8;go_wp2;go_ret2;exact afZ HZ.out HC0.out (aT (ak HB.out B4.out) _)
   simp only [if_pos hc0] at HMK;rw [if_pos hc0] at HCF;subst hc0;go_upto_region 10 with (go_at_call 51;refine (HMK.out _ BA.out).mono ?_;rintro e w4 ⟨hb4,bx,bz,rfl,hx,hz⟩;have B4:=aj.mk (ak BA.out hb4);have HB4:=aj.mk hb4;have HXX:=aj.mk hx;have HZZ:=aj.mk hz;clear hb4 hx hz);clear z0 z1 z2 z3 z4 z5 z6 z7 z8;have hx:=HXX.out;have hz:=HZZ.out;clear HXX HZZ;obtain ⟨st,hst⟩:∃ st:Stg,st=⟨tx,ty,o.f1⟩:=⟨_,rfl⟩;have hM:=aqC (s:=⟨tx,ty,o.f1⟩) hx hz;rw [<- hst] at hM;have hr5:=heap_alloc_new w4 (.cells #[.pointer (some ⟨bx,0,none⟩),.pointer (some ⟨bz,0,none⟩),.int .i64 o.f1] 38);have B5:=aj.mk (aT HB4.out (.cells #[.pointer (some ⟨bx,0,none⟩),.pointer (some ⟨bz,0,none⟩),.int .i64 o.f1] 38));have HM5:=aj.mk (Kd.aaz hM (aT (Below.refl w4.heap.size w4) (.cells #[.pointer (some ⟨bx,0,none⟩),.pointer (some ⟨bz,0,none⟩),.int .i64 o.f1] 38)));have HST:=aj.mk hst;obtain ⟨r,hrr⟩:∃ r,r=w4.heap.size:=⟨_,rfl⟩;rw [<- hrr] at hr5 ⊢;generalize w4.alloc (.cells #[.pointer (some ⟨bx,0,none⟩),.pointer (some ⟨bz,0,none⟩),.int .i64 o.f1] 38)=w5 at hr5 B5 HM5 ⊢;have HR5:=aj.mk hr5;have hq5:=(B5.out.block g (bD HR2.out)).trans HR2.out;have z0:w5.cell? ⟨g,0,none⟩=some (.int .i64 o.f0):=(au hq5 0).trans rfl;have z1:w5.cell? ⟨g,1,none⟩=some (.int .i64 o.f1):=(au hq5 1).trans rfl;have z2:w5.cell? ⟨g,2,none⟩=some (.int .i64 o.f2):=(au hq5 2).trans rfl;have z3:w5.cell? ⟨g,3,none⟩=some (.int .i64 o.f3):=(au hq5 3).trans rfl;have z4:w5.cell? ⟨g,4,none⟩=some (.slice A4 p c4):=(au hq5 4).trans rfl;have z5:w5.cell? ⟨g,5,none⟩=some (.slice A5 q c5):=(au hq5 5).trans rfl;have z6:w5.cell? ⟨g,6,none⟩=some (.int .i64 o.f6):=(au hq5 6).trans rfl;have z7:w5.cell? ⟨g,7,none⟩=some (.int .i64 o.f7):=(au hq5 7).trans rfl;have z8:w5.cell? ⟨g,8,none⟩=some (.int .i64 o.f8):=(au hq5 8).trans rfl;obtain ⟨W1,hW1⟩:∃ W1,W1=(o9 o W H).1:=⟨_,rfl⟩;obtain ⟨H1,hH1⟩:∃ H1,H1=(o9 o W H).2:=⟨_,rfl⟩;rw [<- hW1,<- hH1] at HSZ HCF;have HWH:=aj.mk (And.intro hW1 hH1);have hf:=am6 W1 H1 ch;obtain ⟨rb,hrb⟩:∃ r,r=aai W1 H1 ch:=⟨_,rfl⟩;rw [<- hrb] at hf HCF;have HF:=aj.mk hf;clear hrb;have HB5:=aj.mk (ak BA.out B5.out);clear hx hz hst hM hrr hr5 hq5 hW1 hH1 hf HMK B4;cases rb
   . go_wp2_with (first
       | (go_at_call 55;(with_reducible refine (HSZ.out _ HB5.out).mono ?_);rintro e w6 ⟨rfl,hb6⟩;have HB6:=aj.mk (ak HB5.out hb6);clear hb6)
       | (go_at_call 54;(with_reducible refine (jX.calls W1 H1 ch _ _ HF.out).mono ?_);rintro e w' ⟨rfl,⟨nd2,rfl⟩⟩))
     go_ret2;exact afZ (HCF.out.trans (by simp)) (by decide) (by repeat (first|(with_reducible first|exact ak HB.out HB6.out|apply aI|apply aZ)|exact ak HB.out HB6.out))
   go_upto_region 15 with (first
       | (go_at_call 55;(with_reducible refine (HSZ.out _ HB5.out).mono ?_);rintro e w6 ⟨rfl,hb6⟩;have HB6:=aj.mk (ak HB5.out hb6);have hq6:=(hb6.block r (bD HR5.out)).trans HR5.out;have HQ6:=aj.mk hq6;have HM6:=aj.mk (Kd.aaz HM5.out hb6);clear hb6 hq6)
       | (go_at_call 54;(with_reducible refine (jX.calls W1 H1 ch _ _ HF.out).mono ?_);rintro e w' ⟨rfl,⟨nd2,rfl⟩⟩))
   have hq7:(w6.drewN nd2).heap[r]? = some (.cells #[.pointer (some ⟨bx,0,none⟩),.pointer (some ⟨bz,0,none⟩),.int .i64 o.f1] 38 (0,0)):=(by simpa using HQ6.out);have B7:=aj.mk (aI HB6.out nd2);have HM7:=aj.mk (Kd.aaz HM6.out (aI (Below.refl w6.heap.size w6) nd2));generalize w6.drewN nd2=w7 at hq7 B7 HM7 ⊢;have y0:w7.cell? ⟨r,0,none⟩=some (.pointer (some ⟨bx,0,none⟩)):=(au hq7 0).trans rfl;have y1:w7.cell? ⟨r,1,none⟩=some (.pointer (some ⟨bz,0,none⟩)):=(au hq7 1).trans rfl;have y2:w7.cell? ⟨r,2,none⟩=some (.int .i64 o.f1):=(au hq7 2).trans rfl;have HO7:=aj.mk (Kd.jc HO.out B7.out);have BW7:=aj.mk (ak HB.out B7.out);have HSS:=aj.mk (show ss.length<=16 by rw [HL.out,adV];omega);have HEQ:=aj.mk (show st.bd=o.f1 by rw [HST.out]);have HPM:=aj.mk (show acg.M w7 w.heap.size (fun k=>w2.heap.size<=k/\k < w4.heap.size) st [.pointer (some ⟨bx,0,none⟩),.pointer (some ⟨bz,0,none⟩),.int .i64 o.f1] by have h:=acg.qP (Nat.le_trans HB.out.size BA.out.size) HM7.out;rw [HEQ.out] at h;exact h)
   have HOK:=aj.mk (show ∀ k,(w2.heap.size<=k/\k < w4.heap.size)->True/\some k≠u10.ownBlock by
     intro k hk;refine ⟨trivial,fun h => ?_⟩;have h1:=(Kd.jZ HO.out).1 k h.symm;have h2:=BA.out.size;omega)
   clear z0 z1 z2 z3 z4 z5 z6 z7 z8 hq7;go_upto_region 16 with (at_builtin;refine Kd.kW acg (w0:=w) w.heap.size rfl (.tmp 53) (.tmp 55) 25 38 (.agg #[.pointer none,.pointer none,.int .i64 0]) 24 rfl Tryz.underlying25 aub rfl (by decide) (by omega) u10 ss st [.pointer (some ⟨bx,0,none⟩),.pointer (some ⟨bz,0,none⟩),.int .i64 o.f1] (fun _=>True) (fun k=>w2.heap.size<=k/\k < w4.heap.size) rfl rfl HPM.out HOK.out (fun _ _=>trivial) HO7.out BW7.out BW7.out.size (by have:=HSS.out;omega) ?_;intro v1 w8 ho8 hb8 hg8 ali;have HO8:=aj.mk ho8;have HB8:=aj.mk hb8;clear ho8 hb8 hg8 ali);go_wp2;go_roundg (n - (i+1))
   case measure=>omega
   case rel =>
     refine ⟨i+1,W1,H1,ss ++ [st],by simp,rfl,rfl,by omega,Nat.le_refl _,⟨?_⟩,HB8,HO8,⟨?_⟩,⟨HCF.out.trans (by simp)⟩⟩
     . rw [nP,HS.out,<- HOO.out,HWH.out.1,HWH.out.2]
     . rw [HL.out,HST.out,<- alh.out];unfold gX;rw [List.range_succ,List.map_append];rfl
theorem adz (x a b:Int):oV.f x a b=some (mx a (mn x b)):=rfl
def bat (p j n:Int):Int:=if n < 1\/n > 65536 then 0 else if p=0 then mx 0 (mn j (n - 1)) else if p=1 then mn (j % (2*n)) (2*n - 1 - j % (2*n)) else if p=2 then j % n else 0
theorem aeP {k:Nat} (hk:2<=k) {p j n:Int} (hj:I64 j) (hn:I64 n):nH.f k p j n=some (bat p j n):=by
 obtain ⟨k,rfl⟩:∃ m,k=m+1:=⟨k - 1,by omega⟩;unfold nH.f bat;simp only [nH.j0];by_cases h0:n < 1
 . rw [if_pos h0,if_pos trivial,if_pos (Or.inl h0)]
 rw [if_neg h0];by_cases h1:n > 65536
 . rw [if_pos (decide_eq_true h1),if_pos (Or.inr h1)]
 rw [if_neg (show ¬ (decide (n > 65536)=true) from by simpa using h1),if_neg (show ¬ (n < 1\/n > 65536) from by omega)];rw [aC (show -9223372036854775808<=n - 1 from by omega) (by omega),aC (show -9223372036854775808<=2*n from by omega) (by omega)];by_cases p0:p=0
 . rw [if_pos p0,if_pos p0,adz];rfl
 rw [if_neg p0,if_neg p0];by_cases p1:p=1
 . rw [if_pos p1,if_pos p1,ach (by omega) hj (by omega)];simp only [Option.bind_some];have e:md j (2*n)=j % (2*n):=(by unfold md;rw [if_neg (by omega),if_pos (by omega)]);have r0:=Int.emod_nonneg j (show 2*n≠0 from by omega);have r1:=Int.emod_lt_of_pos j (show 0 < 2*n from by omega);rw [e];generalize j % (2*n)=r at *
   rw [aC (show -9223372036854775808<=2*n - 1 from by omega) (by omega),aC (by omega) (by omega)]
 rw [if_neg p1,if_neg p1];by_cases p2:p=2
 . rw [if_pos p2,if_pos p2,ach (by omega) hj hn];simp only [Option.bind_some];unfold md;rw [if_neg (by omega),if_pos (by omega)]
 rw [if_neg p2,if_neg p2]
theorem apF {p j n:Int} (h0:1<=n) (h1:n<=65536):0<=bat p j n/\bat p j n < n:=by
 unfold bat mx mn;rw [if_neg (by omega)];have r0:=Int.emod_nonneg j (show 2*n≠0 from by omega);have r1:=Int.emod_lt_of_pos j (show 0 < 2*n from by omega);have s0:=Int.emod_nonneg j (show n≠0 from by omega);have s1:=Int.emod_lt_of_pos j (show 0 < n from by omega);generalize j % (2*n)=r at *
 generalize j % n=s at *
 split
 . split <;> split <;> omega
 . split
   . split <;> omega
   . split <;> omega
theorem apG {bd:Int} (hb:0<=bd/\bd < 3):∃ s,nM.f bd=some s/\s.toList.isEmpty=false:=by
 have:bd=0\/bd=1\/bd=2:=(by omega);rcases this with rfl|rfl|rfl
 . exact ⟨_,rfl,by kernel_rfl⟩
 . exact ⟨_,rfl,by kernel_rfl⟩
 . exact ⟨_,rfl,by kernel_rfl⟩
def stV (bx bz:Nat) (bd:Int):Value := .agg #[.pointer (some ⟨bx,0,none⟩),.pointer (some ⟨bz,0,none⟩),.int .i64 bd]
theorem ajH (b bx bz:Nat) (m:Img) (tx ty:Tab) (bd:Int) (w:World) (hG:GL w) (hI:qJ w b m) (hx:sO w bx tx) (hy:sO w bz ty) (e1:tx.n=m.w) (e2:ty.n=m.h) (hb:0<=bd/\bd < 3) :
   Calls Tryz.prog 39 #[.pointer (some ⟨b,0,none⟩),stV bx bz bd] w fun e w'=>e = .returned (.bool true)/\Below w.heap.size w w':=by
 obtain ⟨nm,n1,n3⟩:=apG hb;have n2:¬ nm.toList=[]:=fun h=>by rw [h] at n3;exact absurd n3 (by decide)
 have W1:=aj.mk (fun w' (h:Below w.heap.size w w')=>uV b m w' (hI.below h));have W2:=aj.mk (fun w' (h:Below w.heap.size w w')=>tH b m w' (hI.below h));have F1:=aj.mk (fun w' (h:Below w.heap.size w w')=>abI bx tx w' (hx.below h));have F2:=aj.mk (fun w' (h:Below w.heap.size w w')=>abI bz ty w' (hy.below h));have NM:=aj.mk (fun w' (h:Below w.heap.size w w')=>nM.calls bd nm w' (hG.below h) n1);rw [e1] at F1;rw [e2] at F2;have hr:=heap_alloc_new w (.cells #[.pointer (some ⟨bx,0,none⟩),.pointer (some ⟨bz,0,none⟩),.int .i64 bd] 38);have BX:=aj.mk (aT (Below.refl w.heap.size w) (.cells #[.pointer (some ⟨bx,0,none⟩),.pointer (some ⟨bz,0,none⟩),.int .i64 bd] 38));obtain ⟨mw,hmw⟩:∃ v,v=m.w:=⟨_,rfl⟩;obtain ⟨mh,hmh⟩:∃ v,v=m.h:=⟨_,rfl⟩;rw [<- hmw] at F1 W1;rw [<- hmh] at F2 W2;have HR:=aj.mk hr;clear hG hI hx hy e1 e2 hb n1 hr hmw hmh;unfold stV;go_enter Tryz.func39,Tryz.ntmps39;go_upto_region 1 with fail;obtain ⟨g,hg⟩:∃ g,g=w.heap.size:=⟨_,rfl⟩;rw [<- hg];have hr:=HR.out;rw [<- hg] at hr;clear hg HR;generalize w.alloc (.cells #[.pointer (some ⟨bx,0,none⟩),.pointer (some ⟨bz,0,none⟩),.int .i64 bd] 38)=w1 at hr BX ⊢;have z0:w1.cell? ⟨g,0,none⟩=some (.pointer (some ⟨bx,0,none⟩)):=(au hr 0).trans rfl;have z1:w1.cell? ⟨g,1,none⟩=some (.pointer (some ⟨bz,0,none⟩)):=(au hr 1).trans rfl;have z2:w1.cell? ⟨g,2,none⟩=some (.int .i64 bd):=(au hr 2).trans rfl;clear hr;have q1:(mw == mw)=true:=(by simp);have q2:(mh == mh)=true:=by simp
 go_wp2_with (first
   | (go_at_call 53;(with_reducible refine (F1.out _ BX.out).mono ?_);rintro e w' ⟨rfl,rfl⟩)
   | (go_at_call 53;(with_reducible refine (F2.out _ BX.out).mono ?_);rintro e w' ⟨rfl,rfl⟩)
   | (go_at_call 46;(with_reducible refine (W1.out _ BX.out).mono ?_);rintro e w' ⟨rfl,rfl⟩)
   | (go_at_call 45;(with_reducible refine (W2.out _ BX.out).mono ?_);rintro e w' ⟨rfl,rfl⟩)
   | (go_at_call 77;(with_reducible refine (NM.out _ BX.out).mono ?_);rintro e w' ⟨rfl,⟨nd,rfl⟩⟩))
 go_ret;exact ⟨rfl,aI BX.out nd⟩
theorem yZ (w:World) (o p:Obj):((w.alloc o).alloc p).heap[w.heap.size+1]? = some p:=vU _ _ _ (by simp)
theorem zf (w:World) (o p:Obj):((w.alloc o).alloc p).heap[w.heap.size]? = some o:=by rw [xw _ _ _ (by simp)];exact vU _ _ _ rfl
theorem ntl:∀ q,q ∈ 2 :: (Kd.int .i64).E->q≠71:=by intro q hq;simp [Kd.int,Kd.scalar] at hq;subst hq;decide
theorem set2 {w:World} {g:Nat} {t:TypeId} {a b:Value} (h:w.heap[g]? = some (.cells #[.int .i64 0,.slice none 0 0] t (0,0))):((w.setCell ⟨g,0,none⟩ a).setCell ⟨g,1,none⟩ b).heap[g]? = some (.cells #[a,b] t (0,0)):=(ig (ig h 0 a) 1 b).trans rfl
theorem an1 {w:World} {g k:Nat} {t:TypeId} {cs:Array Value} {a b:Value} (h:w.heap[g]? = some (.cells cs t (0,0))) (hne:g≠k):((w.setCell ⟨k,0,none⟩ a).setCell ⟨k,1,none⟩ b).heap[g]? = some (.cells cs t (0,0)):=kN (kN h hne a) hne b
def Rows (w:World) (x:Value) (xs:List Int):Prop:=∃ base,(Kd.int .i64).R 2 w base (fun _=>True) x xs
theorem Rows.reads {w:World} {A:Option Addr} {c:Nat} {xs:List Int} (h:Rows w (.slice A xs.length c) xs):Kd.C (Kd.int .i64) w A xs.length xs:=by obtain ⟨_,h⟩:=h;exact (Kd.dH h).2.2
theorem Rows.alloc {w:World} {x:Value} {xs:List Int} (h:Rows w x xs) (o:Obj):Rows (w.alloc o) x xs:=by obtain ⟨_,h⟩:=h;exact ⟨_,Kd.aK h o⟩
theorem Rows.set2 {x:Value} {xs:List Int} {w:World} {g:Nat} {a b:Value} (h:Rows w x xs) (hb:w.heap[g]? = some (.cells #[.int .i64 0,.slice none 0 0] 71 (0,0))):Rows ((w.setCell ⟨g,0,none⟩ a).setCell ⟨g,1,none⟩ b) x xs:=by
 obtain ⟨_,h⟩:=h;exact ⟨_,Kd.asP (Kd.asP h hb ntl 0 a) (ig hb 0 a) ntl 1 b⟩
def aeQ (m:Img) (bd fx row b c:Int) (ts:List Int) (a0:Int):Nat->Int
  | 0=>a0
  | i+1=>wrap64 (aeQ m bd fx row b c ts a0 i+wrap64 (wrap64 (rd ts (i:Int)*b)*wrap64 (atV m (bat bd (fx+i) m.w) row c)))
def aeR (m:Img) (bd fx fy c:Int) (tX tY:List Int):Nat->Int
  | 0=>0
  | k+1=>aeQ m bd fx (bat bd (fy+k) m.h) (rd tY (k:Int)) c tX (aeR m bd fx fy c tX tY k) tX.length
def adW (m:Img) (bd c:Int) (X Y:S71):Int:=aeR m bd X.f0 Y.f0 c X.f1 Y.f1 Y.f1.length
theorem auc (b bx bz:Nat) (m:Img) (tx ty:Tab) (bd x y c:Int) (X Y:S71) (w:World) (hG:GL w) (hI:qJ w b m) (hx:sO w bx tx) (hy:sO w bz ty) (e1:tx.n=m.w) (e2:ty.n=m.h) (hb:0<=bd/\bd < 3) (hc:0<=c/\c < m.c) (LX0:∀ w',Below w.heap.size w w'->Calls Tryz.prog 29 #[.pointer (some ⟨bx,0,none⟩),.int .i64 x] w' fun e w''=>∃ v,e = .returned (.agg #[.int .i64 X.f0,v])/\Kd.R (Kd.int .i64) 2 w'' w'.heap.size (fun _=>True) v X.f1/\Below w'.heap.size w' w'') (LY0:∀ w',Below w.heap.size w w'->Calls Tryz.prog 29 #[.pointer (some ⟨bz,0,none⟩),.int .i64 y] w' fun e w''=>∃ v,e = .returned (.agg #[.int .i64 Y.f0,v])/\Kd.R (Kd.int .i64) 2 w'' w'.heap.size (fun _=>True) v Y.f1/\Below w'.heap.size w' w'') (lx:X.f1.length<=2097152) (ly:Y.f1.length<=2097152) (B:pq m) (bx0 : -1099511627776<=X.f0/\X.f0<=1099511627776) (by0 : -1099511627776<=Y.f0/\Y.f0<=1099511627776) :
   Calls Tryz.prog 41 #[.pointer (some ⟨b,0,none⟩),stV bx bz bd,.int .i64 x,.int .i64 y,.int .i64 c] w fun e w'=>e = .returned (.int .i64 (adW m bd c X Y))/\Below w.heap.size w w':=by
 have HII:=aj.mk (fun w' (h:Below w.heap.size w w')=>hI.below h);have HBB:=aj.mk B;have SU:=aj.mk (fun w' (h:Below w.heap.size w w')=>ajH b bx bz m tx ty bd w' (hG.below h) (hI.below h) (hx.below h) (hy.below h) e1 e2 hb);have CH:=aj.mk (fun w' (h:Below w.heap.size w w')=>ni b m w' (hI.below h));have LX:=aj.mk LX0;have LY:=aj.mk LY0;obtain ⟨fx,hfx⟩:∃ v,v=X.f0:=⟨_,rfl⟩;obtain ⟨fy,hfy⟩:∃ v,v=Y.f0:=⟨_,rfl⟩;obtain ⟨tX,htX⟩:∃ v,v=X.f1:=⟨_,rfl⟩;obtain ⟨tY,htY⟩:∃ v,v=Y.f1:=⟨_,rfl⟩;unfold adW;rw [<- hfx,<- htX,<- hfy,<- htY];rw [<- hfx] at bx0;rw [<- hfy] at by0;rw [<- htX] at lx;rw [<- htY] at ly;rw [<- hfx,<- htX] at LX;rw [<- hfy,<- htY] at LY;have HLN:=aj.mk (And.intro lx (And.intro ly (And.intro bx0 by0)));obtain ⟨nX,hnX⟩:∃ n,n=tX.length:=⟨_,rfl⟩;obtain ⟨nY,hnY⟩:∃ n,n=tY.length:=⟨_,rfl⟩;have HNN:=aj.mk (And.intro hnX hnY);obtain ⟨c0,c1⟩:=hc;have cn:¬ c < 0:=(by omega);have cm:¬ m.c<=c:=(by omega);obtain ⟨mc,hmc⟩:∃ v,v=m.c:=⟨_,rfl⟩;rw [<- hmc] at CH cm;have hr:=heap_alloc_new w (.cells #[.pointer (some ⟨bx,0,none⟩),.pointer (some ⟨bz,0,none⟩),.int .i64 bd] 38);have BX:=aj.mk (aT (Below.refl w.heap.size w) (.cells #[.pointer (some ⟨bx,0,none⟩),.pointer (some ⟨bz,0,none⟩),.int .i64 bd] 38));have HR:=aj.mk hr;have mixed:Tryz.prog.follows .mixedOrders=true:=(by kernel_rfl);clear hG hI hx hy e1 e2 hb hr hmc c1 LX0 LY0 lx ly bx0 by0 B hfx hfy htX htY hnX hnY;unfold stV at SU ⊢;go_enter Tryz.func41,Tryz.ntmps41;go_upto_region 1 with fail;obtain ⟨g,hg⟩:∃ g,g=w.heap.size:=⟨_,rfl⟩;rw [<- hg];have hr:=HR.out;rw [<- hg] at hr;clear hg HR;generalize w.alloc (.cells #[.pointer (some ⟨bx,0,none⟩),.pointer (some ⟨bz,0,none⟩),.int .i64 bd] 38)=w1 at hr BX ⊢;have z0:w1.cell? ⟨g,0,none⟩=some (.pointer (some ⟨bx,0,none⟩)):=(au hr 0).trans rfl;have z1:w1.cell? ⟨g,1,none⟩=some (.pointer (some ⟨bz,0,none⟩)):=(au hr 1).trans rfl;have z2:w1.cell? ⟨g,2,none⟩=some (.int .i64 bd):=(au hr 2).trans rfl;have HRR:=aj.mk hr;clear hr
 go_upto_region 3 with (first
   | (go_at_call 39;refine (SU.out _ BX.out).mono ?_;rintro e w2 ⟨rfl,hb2⟩;have B2:=aj.mk (ak BX.out hb2);have H2:=aj.mk ((hb2.block g (bD HRR.out)).trans HRR.out);clear hb2)
   | (go_at_call 47;(with_reducible refine (CH.out _ B2.out).mono ?_);rintro e w3 ⟨rfl,rfl⟩))
 clear z0 z1 z2 SU CH BX HRR;have HK:=aj.mk (fun w' (hb:Below w3.heap.size w3 w')=>(show Below w3.heap.size w3 w'/\w'.cell? ⟨g,0,none⟩=some (.pointer (some ⟨bx,0,none⟩))/\w'.cell? ⟨g,1,none⟩=some (.pointer (some ⟨bz,0,none⟩)) from ⟨hb,(au ((hb.block g (bD H2.out)).trans H2.out) 0).trans rfl,(au ((hb.block g (bD H2.out)).trans H2.out) 1).trans rfl⟩));obtain ⟨-,z0,z1⟩:=HK.out _ (Below.refl _ _);have LX2:=aj.mk (fun w' (hb:Below w3.heap.size w3 w')=>LX.out w' (ak B2.out hb));have LY2:=aj.mk (fun w' (hb:Below w3.heap.size w3 w')=>LY.out w' (ak B2.out hb));have S0:=Below.refl w3.heap.size w3;have glw:g < w3.heap.size:=bD H2.out;have gnw:=Nat.ne_of_lt glw;clear LX LY;go_cut [11,12] (fun v11 v12 wc=>∃ (gx gy:Nat) (Ax:Option Addr) (cx:Nat) (Ay:Option Addr) (cy:Nat),v11 = .pointer (some ⟨gx,0,none⟩)/\v12 = .pointer (some ⟨gy,0,none⟩)/\aj (∃ A,wc.heap[gx]? = some (.cells A 71 (0,0))/\A[0]? = some (.int .i64 fx)/\A[1]? = some (.slice Ax nX cx))/\aj (∃ A,wc.heap[gy]? = some (.cells A 71 (0,0))/\A[0]? = some (.int .i64 fy)/\A[1]? = some (.slice Ay nY cy))/\aj (nX<=cx/\Kd.C (Kd.int .i64) wc Ax nX tX)/\aj (nY<=cy/\Kd.C (Kd.int .i64) wc Ay nY tY)/\aj (Below w3.heap.size w3 wc))
 case first =>
   go_region_held3 (fun w'=>Below w3.heap.size w3 w'/\w'.cell? ⟨g,0,none⟩=some (.pointer (some ⟨bx,0,none⟩))/\w'.cell? ⟨g,1,none⟩=some (.pointer (some ⟨bz,0,none⟩)))
     ((refine HK.out _ ?_;repeat (first|(with_reducible exact S0)|(with_reducible assumption)|(with_reducible apply aT)|(with_reducible apply aZ)|(refine Below.setCell ?_ (by first|exact Nat.le_refl _|exact hsx.size|exact hsy.size|exact Nat.le_succ_of_le (Nat.le_refl _)|exact Nat.le_succ_of_le hsx.size|exact Nat.le_succ_of_le hsy.size) _))))
     (first
   | (go_at_call 29;(with_reducible refine Calls.mono (LX2.out _ ?hh) ?_);(case hh=>repeat (first|(with_reducible exact S0)|(with_reducible assumption)|(with_reducible apply aT)|(with_reducible apply aI)|(with_reducible apply aZ)));rintro e wx ⟨vx,rfl,hRx,hbx⟩;have hsx:Below w3.heap.size w3 wx:=ak (by repeat (first|(with_reducible exact S0)|(with_reducible assumption)|(with_reducible apply aT)|(with_reducible apply aZ))) hbx;obtain ⟨-,z0x,z1x⟩:=HK.out _ hsx;have glx:g < wx.heap.size:=bD ((hsx.block g (bD H2.out)).trans H2.out);have gnx:=Nat.ne_of_lt glx;(try (have hq:Below (w3.alloc (.cells #[.int .i64 0,.slice none 0 0] 71)).heap.size (w3.alloc (.cells #[.int .i64 0,.slice none 0 0] 71)) wx:=(by with_reducible exact ak (aZ (Below.refl _ _)) hbx);have fx1:wx.heap[w3.heap.size]? = some (.cells #[.int .i64 0,.slice none 0 0] 71 (0,0)):=(hq.block _ (bD (heap_alloc_new w3 (.cells #[.int .i64 0,.slice none 0 0] 71)))).trans (heap_alloc_new w3 (.cells #[.int .i64 0,.slice none 0 0] 71));clear hq;have au7:wx.cell? ⟨w3.heap.size,0,none⟩=some (.int .i64 0):=(au fx1 0).trans rfl;have asW:=aN fx1 0;have au8:wx.cell? ⟨w3.heap.size,1,none⟩=some (.slice none 0 0):=(au fx1 1).trans rfl;have asX:=aN fx1 1;have alj:=bD fx1;have au9:=Nat.ne_of_lt alj));(try (have hq:Below ((w3.alloc (.cells #[.int .i64 0,.slice none 0 0] 71)).alloc (.cells #[.int .i64 0,.slice none 0 0] 71)).heap.size ((w3.alloc (.cells #[.int .i64 0,.slice none 0 0] 71)).alloc (.cells #[.int .i64 0,.slice none 0 0] 71)) wx:=(by with_reducible exact ak (aZ (Below.refl _ _)) hbx);have fx1:wx.heap[w3.heap.size]? = some (.cells #[.int .i64 0,.slice none 0 0] 71 (0,0)):=(hq.block _ (bD (zf w3 (.cells #[.int .i64 0,.slice none 0 0] 71) (.cells #[.int .i64 0,.slice none 0 0] 71)))).trans (zf w3 (.cells #[.int .i64 0,.slice none 0 0] 71) (.cells #[.int .i64 0,.slice none 0 0] 71));have fx2:wx.heap[w3.heap.size+1]? = some (.cells #[.int .i64 0,.slice none 0 0] 71 (0,0)):=(hq.block _ (bD (yZ w3 (.cells #[.int .i64 0,.slice none 0 0] 71) (.cells #[.int .i64 0,.slice none 0 0] 71)))).trans (yZ w3 (.cells #[.int .i64 0,.slice none 0 0] 71) (.cells #[.int .i64 0,.slice none 0 0] 71));clear hq;have au7:wx.cell? ⟨w3.heap.size,0,none⟩=some (.int .i64 0):=(au fx1 0).trans rfl;have asW:=aN fx1 0;have au8:wx.cell? ⟨w3.heap.size,1,none⟩=some (.slice none 0 0):=(au fx1 1).trans rfl;have asX:=aN fx1 1;have alj:=bD fx1;have au9:=Nat.ne_of_lt alj;have ayK:wx.cell? ⟨w3.heap.size+1,0,none⟩=some (.int .i64 0):=(au fx2 0).trans rfl;have awp:=aN fx2 0;have ayL:wx.cell? ⟨w3.heap.size+1,1,none⟩=some (.slice none 0 0):=(au fx2 1).trans rfl;have awq:=aN fx2 1;have aqE:=bD fx2;have ayM:=Nat.ne_of_lt aqE));(try (have hq:Below wy.heap.size wy wx:=(by with_reducible first|exact hbx|exact ak (aT (Below.refl _ _) _) hbx|exact ak (aT (aT (Below.refl _ _) _) _) hbx);have HQx:=aj.mk hq;(try (have fx1:=(hq.block _ (bD fy1)).trans fy1;have au7:wx.cell? ⟨w3.heap.size,0,none⟩=some (.int .i64 0):=(au fx1 0).trans rfl;have asW:=aN fx1 0;have au8:wx.cell? ⟨w3.heap.size,1,none⟩=some (.slice none 0 0):=(au fx1 1).trans rfl;have asX:=aN fx1 1;have alj:=bD fx1;have au9:=Nat.ne_of_lt alj));(try (have fx2:=(hq.block _ (bD fy2)).trans fy2;have ayK:wx.cell? ⟨w3.heap.size+1,0,none⟩=some (.int .i64 0):=(au fx2 0).trans rfl;have awp:=aN fx2 0;have ayL:wx.cell? ⟨w3.heap.size+1,1,none⟩=some (.slice none 0 0):=(au fx2 1).trans rfl;have awq:=aN fx2 1;have aqE:=bD fx2;have ayM:=Nat.ne_of_lt aqE));clear hq));(try (have hq:Below (wy.alloc (.cells #[.int .i64 0,.slice none 0 0] 71)).heap.size (wy.alloc (.cells #[.int .i64 0,.slice none 0 0] 71)) wx:=(by with_reducible exact hbx);have fx3:wx.heap[wy.heap.size]? = some (.cells #[.int .i64 0,.slice none 0 0] 71 (0,0)):=(hq.block _ (bD (heap_alloc_new wy (.cells #[.int .i64 0,.slice none 0 0] 71)))).trans (heap_alloc_new wy (.cells #[.int .i64 0,.slice none 0 0] 71));clear hq;have ayN:wx.cell? ⟨wy.heap.size,0,none⟩=some (.int .i64 0):=(au fx3 0).trans rfl;have awr:=aN fx3 0;have ayO:wx.cell? ⟨wy.heap.size,1,none⟩=some (.slice none 0 0):=(au fx3 1).trans rfl;have awt:=aN fx3 1;have aqF:=bD fx3;have ayP:=Nat.ne_of_lt aqF));(try (have hq:Below ((wy.alloc (.cells #[.int .i64 0,.slice none 0 0] 71)).alloc (.cells #[.int .i64 0,.slice none 0 0] 71)).heap.size ((wy.alloc (.cells #[.int .i64 0,.slice none 0 0] 71)).alloc (.cells #[.int .i64 0,.slice none 0 0] 71)) wx:=(by with_reducible exact hbx);have fx3:wx.heap[wy.heap.size]? = some (.cells #[.int .i64 0,.slice none 0 0] 71 (0,0)):=(hq.block _ (bD (zf wy (.cells #[.int .i64 0,.slice none 0 0] 71) (.cells #[.int .i64 0,.slice none 0 0] 71)))).trans (zf wy (.cells #[.int .i64 0,.slice none 0 0] 71) (.cells #[.int .i64 0,.slice none 0 0] 71));have fx4:wx.heap[wy.heap.size+1]? = some (.cells #[.int .i64 0,.slice none 0 0] 71 (0,0)):=(hq.block _ (bD (yZ wy (.cells #[.int .i64 0,.slice none 0 0] 71) (.cells #[.int .i64 0,.slice none 0 0] 71)))).trans (yZ wy (.cells #[.int .i64 0,.slice none 0 0] 71) (.cells #[.int .i64 0,.slice none 0 0] 71));clear hq;have ayN:wx.cell? ⟨wy.heap.size,0,none⟩=some (.int .i64 0):=(au fx3 0).trans rfl;have awr:=aN fx3 0;have ayO:wx.cell? ⟨wy.heap.size,1,none⟩=some (.slice none 0 0):=(au fx3 1).trans rfl;have awt:=aN fx3 1;have aqF:=bD fx3;have ayP:=Nat.ne_of_lt aqF;have aD4:wx.cell? ⟨wy.heap.size+1,0,none⟩=some (.int .i64 0):=(au fx4 0).trans rfl;have aBt:=aN fx4 0;have aD5:wx.cell? ⟨wy.heap.size+1,1,none⟩=some (.slice none 0 0):=(au fx4 1).trans rfl;have aBu:=aN fx4 1;have ayQ:=bD fx4;have aD6:=Nat.ne_of_lt ayQ));have HRx:=aj.mk hRx;obtain ⟨Ax,cx,rfl⟩:=Kd.gq hRx;rw [<- HNN.out.1];clear hRx)
   | (go_at_call 29;(with_reducible refine Calls.mono (LY2.out _ ?hh) ?_);(case hh=>repeat (first|(with_reducible exact S0)|(with_reducible assumption)|(with_reducible apply aT)|(with_reducible apply aI)|(with_reducible apply aZ)));rintro e wy ⟨vy,rfl,hRy,hby⟩;have hsy:Below w3.heap.size w3 wy:=ak (by repeat (first|(with_reducible exact S0)|(with_reducible assumption)|(with_reducible apply aT)|(with_reducible apply aZ))) hby;obtain ⟨-,z0y,z1y⟩:=HK.out _ hsy;have gly:g < wy.heap.size:=bD ((hsy.block g (bD H2.out)).trans H2.out);have gny:=Nat.ne_of_lt gly;(try (have hq:Below (w3.alloc (.cells #[.int .i64 0,.slice none 0 0] 71)).heap.size (w3.alloc (.cells #[.int .i64 0,.slice none 0 0] 71)) wy:=(by with_reducible exact ak (aZ (Below.refl _ _)) hby);have fy1:wy.heap[w3.heap.size]? = some (.cells #[.int .i64 0,.slice none 0 0] 71 (0,0)):=(hq.block _ (bD (heap_alloc_new w3 (.cells #[.int .i64 0,.slice none 0 0] 71)))).trans (heap_alloc_new w3 (.cells #[.int .i64 0,.slice none 0 0] 71));clear hq;have ava:wy.cell? ⟨w3.heap.size,0,none⟩=some (.int .i64 0):=(au fy1 0).trans rfl;have asY:=aN fy1 0;have avb:wy.cell? ⟨w3.heap.size,1,none⟩=some (.slice none 0 0):=(au fy1 1).trans rfl;have asZ:=aN fy1 1;have alk:=bD fy1;have avc:=Nat.ne_of_lt alk));(try (have hq:Below ((w3.alloc (.cells #[.int .i64 0,.slice none 0 0] 71)).alloc (.cells #[.int .i64 0,.slice none 0 0] 71)).heap.size ((w3.alloc (.cells #[.int .i64 0,.slice none 0 0] 71)).alloc (.cells #[.int .i64 0,.slice none 0 0] 71)) wy:=(by with_reducible exact ak (aZ (Below.refl _ _)) hby);have fy1:wy.heap[w3.heap.size]? = some (.cells #[.int .i64 0,.slice none 0 0] 71 (0,0)):=(hq.block _ (bD (zf w3 (.cells #[.int .i64 0,.slice none 0 0] 71) (.cells #[.int .i64 0,.slice none 0 0] 71)))).trans (zf w3 (.cells #[.int .i64 0,.slice none 0 0] 71) (.cells #[.int .i64 0,.slice none 0 0] 71));have fy2:wy.heap[w3.heap.size+1]? = some (.cells #[.int .i64 0,.slice none 0 0] 71 (0,0)):=(hq.block _ (bD (yZ w3 (.cells #[.int .i64 0,.slice none 0 0] 71) (.cells #[.int .i64 0,.slice none 0 0] 71)))).trans (yZ w3 (.cells #[.int .i64 0,.slice none 0 0] 71) (.cells #[.int .i64 0,.slice none 0 0] 71));clear hq;have ava:wy.cell? ⟨w3.heap.size,0,none⟩=some (.int .i64 0):=(au fy1 0).trans rfl;have asY:=aN fy1 0;have avb:wy.cell? ⟨w3.heap.size,1,none⟩=some (.slice none 0 0):=(au fy1 1).trans rfl;have asZ:=aN fy1 1;have alk:=bD fy1;have avc:=Nat.ne_of_lt alk;have ayR:wy.cell? ⟨w3.heap.size+1,0,none⟩=some (.int .i64 0):=(au fy2 0).trans rfl;have awu:=aN fy2 0;have ayS:wy.cell? ⟨w3.heap.size+1,1,none⟩=some (.slice none 0 0):=(au fy2 1).trans rfl;have awv:=aN fy2 1;have aqG:=bD fy2;have ayT:=Nat.ne_of_lt aqG));(try (have hq:Below wx.heap.size wx wy:=(by with_reducible first|exact hby|exact ak (aT (Below.refl _ _) _) hby|exact ak (aT (aT (Below.refl _ _) _) _) hby);have HQy:=aj.mk hq;(try (have fy1:=(hq.block _ (bD fx1)).trans fx1;have ava:wy.cell? ⟨w3.heap.size,0,none⟩=some (.int .i64 0):=(au fy1 0).trans rfl;have asY:=aN fy1 0;have avb:wy.cell? ⟨w3.heap.size,1,none⟩=some (.slice none 0 0):=(au fy1 1).trans rfl;have asZ:=aN fy1 1;have alk:=bD fy1;have avc:=Nat.ne_of_lt alk));(try (have fy2:=(hq.block _ (bD fx2)).trans fx2;have ayR:wy.cell? ⟨w3.heap.size+1,0,none⟩=some (.int .i64 0):=(au fy2 0).trans rfl;have awu:=aN fy2 0;have ayS:wy.cell? ⟨w3.heap.size+1,1,none⟩=some (.slice none 0 0):=(au fy2 1).trans rfl;have awv:=aN fy2 1;have aqG:=bD fy2;have ayT:=Nat.ne_of_lt aqG));clear hq));(try (have hq:Below (wx.alloc (.cells #[.int .i64 0,.slice none 0 0] 71)).heap.size (wx.alloc (.cells #[.int .i64 0,.slice none 0 0] 71)) wy:=(by with_reducible exact hby);have fy3:wy.heap[wx.heap.size]? = some (.cells #[.int .i64 0,.slice none 0 0] 71 (0,0)):=(hq.block _ (bD (heap_alloc_new wx (.cells #[.int .i64 0,.slice none 0 0] 71)))).trans (heap_alloc_new wx (.cells #[.int .i64 0,.slice none 0 0] 71));clear hq;have ayU:wy.cell? ⟨wx.heap.size,0,none⟩=some (.int .i64 0):=(au fy3 0).trans rfl;have aww:=aN fy3 0;have ayV:wy.cell? ⟨wx.heap.size,1,none⟩=some (.slice none 0 0):=(au fy3 1).trans rfl;have awx:=aN fy3 1;have aqH:=bD fy3;have ayW:=Nat.ne_of_lt aqH));(try (have hq:Below ((wx.alloc (.cells #[.int .i64 0,.slice none 0 0] 71)).alloc (.cells #[.int .i64 0,.slice none 0 0] 71)).heap.size ((wx.alloc (.cells #[.int .i64 0,.slice none 0 0] 71)).alloc (.cells #[.int .i64 0,.slice none 0 0] 71)) wy:=(by with_reducible exact hby);have fy3:wy.heap[wx.heap.size]? = some (.cells #[.int .i64 0,.slice none 0 0] 71 (0,0)):=(hq.block _ (bD (zf wx (.cells #[.int .i64 0,.slice none 0 0] 71) (.cells #[.int .i64 0,.slice none 0 0] 71)))).trans (zf wx (.cells #[.int .i64 0,.slice none 0 0] 71) (.cells #[.int .i64 0,.slice none 0 0] 71));have fy4:wy.heap[wx.heap.size+1]? = some (.cells #[.int .i64 0,.slice none 0 0] 71 (0,0)):=(hq.block _ (bD (yZ wx (.cells #[.int .i64 0,.slice none 0 0] 71) (.cells #[.int .i64 0,.slice none 0 0] 71)))).trans (yZ wx (.cells #[.int .i64 0,.slice none 0 0] 71) (.cells #[.int .i64 0,.slice none 0 0] 71));clear hq;have ayU:wy.cell? ⟨wx.heap.size,0,none⟩=some (.int .i64 0):=(au fy3 0).trans rfl;have aww:=aN fy3 0;have ayV:wy.cell? ⟨wx.heap.size,1,none⟩=some (.slice none 0 0):=(au fy3 1).trans rfl;have awx:=aN fy3 1;have aqH:=bD fy3;have ayW:=Nat.ne_of_lt aqH;have aD7:wy.cell? ⟨wx.heap.size+1,0,none⟩=some (.int .i64 0):=(au fy4 0).trans rfl;have aBv:=aN fy4 0;have aD8:wy.cell? ⟨wx.heap.size+1,1,none⟩=some (.slice none 0 0):=(au fy4 1).trans rfl;have aBw:=aN fy4 1;have ayX:=bD fy4;have aD9:=Nat.ne_of_lt ayX));have HRy:=aj.mk hRy;obtain ⟨Ay,cy,rfl⟩:=Kd.gq hRy;rw [<- HNN.out.2];clear hRy))
   all_goals (try simp only [Exit.inBlock,Exit.then])
   all_goals go_wp2
   all_goals go_meet
   all_goals (case rel =>
     have s1:=hbx.size;have s2:=hby.size
     (try simp only [wI,aaH,World.size_setCell] at s1)
     (try simp only [wI,aaH,World.size_setCell] at s2)
     have hxl:=hsx.size;have rx2:Rows _ _ _:=⟨_,Kd.jc HRx.out HQy.out⟩;have ry2:Rows _ _ _:=⟨_,HRy.out⟩;refine ⟨_,_,Ax,cx,Ay,cy,rfl,rfl,⟨#[.int .i64 fx,.slice Ax nX cx],?_,rfl,rfl⟩,⟨#[.int .i64 fy,.slice Ay nY cy],?_,rfl,rfl⟩,⟨?_⟩,⟨?_⟩,⟨?_⟩⟩
     . (repeat (first|(with_reducible assumption)|(with_reducible refine vU _ _ _ ?_;simp only [wI,aaH,World.size_setCell];done)|(with_reducible refine yV ?_ _)|(with_reducible refine set2 ?_)|(with_reducible refine an1 ?_ ?_;rotate_left;(focus omega))))
     . (repeat (first|(with_reducible assumption)|(with_reducible refine vU _ _ _ ?_;simp only [wI,aaH,World.size_setCell];done)|(with_reducible refine yV ?_ _)|(with_reducible refine set2 ?_)|(with_reducible refine an1 ?_ ?_;rotate_left;(focus omega))))
     . rw [HNN.out.1];refine ⟨(Kd.dH HRx.out).2.1,?_⟩;refine Rows.reads (c:=cx) ?_
       (repeat (first|with_reducible exact rx2|(with_reducible refine Rows.alloc ?_ _)|(with_reducible refine Rows.drew ?_)|(with_reducible refine Rows.set2 ?_ ?_;rotate_left;(focus (repeat (first|(with_reducible assumption)|(with_reducible refine vU _ _ _ ?_;simp only [wI,aaH,World.size_setCell];done)|(with_reducible refine yV ?_ _)|(with_reducible refine set2 ?_)|(with_reducible refine an1 ?_ ?_;rotate_left;(focus omega))))))))
     . rw [HNN.out.2];refine ⟨(Kd.dH HRy.out).2.1,?_⟩;refine Rows.reads (c:=cy) ?_
       (repeat (first|with_reducible exact ry2|(with_reducible refine Rows.alloc ?_ _)|(with_reducible refine Rows.drew ?_)|(with_reducible refine Rows.set2 ?_ ?_;rotate_left;(focus (repeat (first|(with_reducible assumption)|(with_reducible refine vU _ _ _ ?_;simp only [wI,aaH,World.size_setCell];done)|(with_reducible refine yV ?_ _)|(with_reducible refine set2 ?_)|(with_reducible refine an1 ?_ ?_;rotate_left;(focus omega))))))))
     . repeat (first|(with_reducible exact S0)|(with_reducible assumption)|(with_reducible apply aT)|(with_reducible apply aZ)|(refine Below.setCell ?_ (by first|exact Nat.le_refl _|exact hsx.size|exact hsy.size|exact Nat.le_succ_of_le (Nat.le_refl _)|exact Nat.le_succ_of_le hsx.size|exact Nat.le_succ_of_le hsy.size) _)))
 case rest =>
   obtain ⟨gx,gy,Ax,cx,Ay,cy,rfl,rfl,HX,HY,HCX,HCY,HBC⟩:=hcut;have HW:=aj.mk (ak B2.out HBC.out)
   have HKK:=aj.mk (fun w' (hb:Below wc.heap.size wc w')=>(show w'.cell? ⟨g,2,none⟩=some (.int .i64 bd)/\w'.cell? ⟨gy,0,none⟩=some (.int .i64 fy)/\w'.cell? ⟨gx,0,none⟩=some (.int .i64 fx)/\w'.cell? ⟨gy,1,none⟩=some (.slice Ay nY cy)/\w'.cell? ⟨gx,1,none⟩=some (.slice Ax nX cx) from by
     obtain ⟨CX,hgx,hx0,hx1⟩:=HX.out;obtain ⟨CY,hgy,hy0,hy1⟩:=HY.out;have e1:=(hb.block gx (bD hgx)).trans hgx;have e2:=(hb.block gy (bD hgy)).trans hgy;have e3:=(HBC.out.block g (bD H2.out)).trans H2.out;exact ⟨(au ((hb.block g (bD e3)).trans e3) 2).trans rfl,(au e2 0).trans hy0,(au e1 0).trans hx0,(au e2 1).trans hy1,(au e1 1).trans hx1⟩))
   obtain ⟨k1,k2,k3,k4,k5⟩:=HKK.out _ (Below.refl _ _);clear z0 z1 HK LX2 LY2 S0 glw gnw HX HY H2;have HHT:=aj.mk (fun w' (h:Below wc.heap.size wc w')=>tH b m w' (HII.out w' (ak HW.out h)));have HWT:=aj.mk (fun w' (h:Below wc.heap.size wc w')=>uV b m w' (HII.out w' (ak HW.out h)));have HAT:=aj.mk (fun X Y w' (h:Below wc.heap.size wc w')=>agu b m X Y c w' (HII.out w' (ak HW.out h)) HBB.out);obtain ⟨lx,ly,bx0,by0⟩:=HLN.out;rw [<- HNN.out.1] at lx;rw [<- HNN.out.2] at ly;go_wp2;clear k1 k2 k3 k4 k5;go_loopg [13,45] nY (fun kx s13 s45 wr=>∃ (k:Nat) (S:Int),s45 = .int .i64 k/\s13 = .int .i64 S/\k<=nY/\nY - k<=kx/\aj (S=aeR m bd fx fy c tX tY k)/\aj (Below wc.heap.size wc wr))
   case atStart=>exact ⟨0,0,rfl,rfl,by omega,by omega,⟨rfl⟩,⟨Below.refl _ _⟩⟩
   case round =>
     obtain ⟨k,S,rfl,rfl,j1,j2,HS,HB⟩:=hrel;have wi:IntKind.i64.wrap ((k:Int)+1)=(k:Int)+1:=(by rw [jS];exact aC (by omega) (by omega));by_cases hlt:(k:Int) < (nY:Int);rotate_left
     . have hk:k=nY:=(by omega);subst hk;go_wp2;go_ret;exact ⟨by rw [HS.out,HNN.out.2];rfl,ak HW.out HB.out⟩
     have p1:(0<=(k:Int)):=(by omega);have q0:k < nY:=(by omega);have qd:decide (k < nY)=true:=decide_eq_true q0;obtain ⟨ad,e0,x0⟩:=Kd.iZ (Kd.bQ HCY.out.2 HB.out) (k:Int) p1 hlt;subst e0;rw [Int.toNat_natCast] at x0;obtain ⟨b0,hb0⟩:∃ z,z=rd tY (k:Int):=⟨_,rfl⟩;rw [<- hb0] at x0;have HB0:=aj.mk hb0;clear hb0;obtain ⟨k1,k2,-,-,-⟩:=HKK.out _ HB.out;go_upto_region 8 with fail;have ws:IntKind.i64.wrap (fy+(k:Int))=fy+k:=(by rw [jS];exact aC (by omega) (by omega));have hj:=aeP (k:=2) (Nat.le_refl _) (p:=bd) (j:=fy+k) (n:=m.h) ⟨by omega,by omega⟩ ⟨by have:=HBB.out.h1;omega,by have:=HBB.out.h2;omega⟩;obtain ⟨row,hrow⟩:∃ z,z=bat bd (fy+k) m.h:=⟨_,rfl⟩;rw [<- hrow] at hj;have HJ:=aj.mk hj;have HRW:=aj.mk hrow;have HKR:=aj.mk (fun w' (hb:Below wr.heap.size wr w')=>(show w'.cell? ⟨g,2,none⟩=some (.int .i64 bd)/\w'.cell? ⟨gy,0,none⟩=some (.int .i64 fy) from ⟨(HKK.out w' (ak HB.out hb)).1,(HKK.out w' (ak HB.out hb)).2.1⟩));have S1:=Below.refl wr.heap.size wr;clear hj hrow x0
     go_region_held3 (fun w'=>w'.cell? ⟨g,2,none⟩=some (.int .i64 bd)/\w'.cell? ⟨gy,0,none⟩=some (.int .i64 fy))
       ((refine HKR.out _ ?_;repeat (first|(with_reducible exact S1)|(with_reducible assumption)|(with_reducible apply aZ))))
       (first
       | (go_at_call 45;(with_reducible refine (HHT.out _ ?hh).mono ?_);(case hh=>(refine ak HB.out ?_;repeat (first|(with_reducible exact S1)|(with_reducible assumption)|(with_reducible apply aZ))));rintro e w5 ⟨rfl,rfl⟩)
       | (go_at_call 80;(with_reducible refine (nH.calls 2 bd (fy+k) m.h row _ HJ.out).mono ?_);rintro e w6 ⟨rfl,hb6⟩;have hb7:Below wr.heap.size wr w6:=ak (by repeat (first|(with_reducible exact S1)|(with_reducible apply aZ))) hb6))
     (try simp only [Exit.inBlock,Exit.then])
     have HB6:=aj.mk (ak HB.out hb7);clear k1 k2 hb6 hb7 S1 HKR HJ ws;obtain ⟨-,-,-,-,k5⟩:=HKK.out _ HB6.out;go_wp2;clear k5;go_loopg [13,62] nX (fun kx s13 s62 wz=>∃ (i:Nat) (T:Int),s62 = .int .i64 i/\s13 = .int .i64 T/\i<=nX/\nX - i<=kx/\aj (T=aeQ m bd fx row b0 c tX S i)/\aj (Below w6.heap.size w6 wz))
     case atStart=>exact ⟨0,S,rfl,rfl,by omega,by omega,⟨rfl⟩,⟨Below.refl _ _⟩⟩
     case round =>
       obtain ⟨i,T,rfl,rfl,i1,i2,HT,HZ⟩:=hrel;have wj:IntKind.i64.wrap ((i:Int)+1)=(i:Int)+1:=(by rw [jS];exact aC (by omega) (by omega));have HZ2:=aj.mk (ak HB6.out HZ.out);by_cases hli:(i:Int) < (nX:Int);rotate_left
       . have hi:i=nX:=(by omega);subst hi;go_wp2;go_roundg (nY - (k+1))
         case measure=>omega
         case rel =>
           refine ⟨k+1,T,by simp,rfl,by omega,Nat.le_refl _,⟨?_⟩,HZ2⟩;rw [aeR,<- HS.out,<- HB0.out,<- HRW.out,HT.out,HNN.out.1]
       have p2:(0<=(i:Int)):=(by omega);have q2:i < nX:=(by omega);have qi:decide (i < nX)=true:=decide_eq_true q2;obtain ⟨ax,e0,x0⟩:=Kd.iZ (Kd.bQ HCX.out.2 HZ2.out) (i:Int) p2 hli;subst e0;rw [Int.toNat_natCast] at x0;obtain ⟨a0,ha0⟩:∃ z,z=rd tX (i:Int):=⟨_,rfl⟩;rw [<- ha0] at x0;have HA0:=aj.mk ha0;clear ha0;obtain ⟨k1,-,k3,-,-⟩:=HKK.out _ HZ2.out;go_upto_region 12 with fail;have ws:IntKind.i64.wrap (fx+(i:Int))=fx+i:=(by rw [jS];exact aC (by omega) (by omega));have hj:=aeP (k:=2) (Nat.le_refl _) (p:=bd) (j:=fx+i) (n:=m.w) ⟨by omega,by omega⟩ ⟨by have:=HBB.out.w1;omega,by have:=HBB.out.w2;omega⟩;obtain ⟨col,aqI⟩:∃ z,z=bat bd (fx+i) m.w:=⟨_,rfl⟩;rw [<- aqI] at hj;have HJ:=aj.mk hj;have HCL:=aj.mk aqI;have HKR:=aj.mk (fun w' (hb:Below wr.heap.size wr w')=>(show w'.cell? ⟨g,2,none⟩=some (.int .i64 bd)/\w'.cell? ⟨gx,0,none⟩=some (.int .i64 fx) from ⟨(HKK.out w' (ak HZ2.out hb)).1,(HKK.out w' (ak HZ2.out hb)).2.2.1⟩));have S1:=Below.refl wr.heap.size wr;clear hj aqI x0
       go_region_held3 (fun w'=>w'.cell? ⟨g,2,none⟩=some (.int .i64 bd)/\w'.cell? ⟨gx,0,none⟩=some (.int .i64 fx))
         ((refine HKR.out _ ?_;repeat (first|(with_reducible exact S1)|(with_reducible assumption)|(with_reducible apply aZ))))
         (first
         | (go_at_call 46;(with_reducible refine (HWT.out _ ?hh).mono ?_);(case hh=>(refine ak HZ2.out ?_;repeat (first|(with_reducible exact S1)|(with_reducible assumption)|(with_reducible apply aZ))));rintro e w5 ⟨rfl,rfl⟩)
         | (go_at_call 80;(with_reducible refine (nH.calls 2 bd (fx+i) m.w col _ HJ.out).mono ?_);rintro e w8 ⟨rfl,hb6⟩;have hb7:Below wr.heap.size wr w8:=ak (by repeat (first|(with_reducible exact S1)|(with_reducible apply aZ))) hb6))
       (try simp only [Exit.inBlock,Exit.then])
       have HB8:=aj.mk (ak HZ.out hb7);clear k1 k3 hb6 hb7 S1 HKR HJ ws;have avd:=aj.mk (HAT.out col row _ (ak HB6.out HB8.out));obtain ⟨av,hav⟩:∃ z,z=atV m col row c:=⟨_,rfl⟩;rw [<- hav] at avd;have HAV:=aj.mk hav;clear hav;go_wp2_with (go_at_call 71;(with_reducible refine avd.out.mono ?_);rintro e w9 ⟨rfl,⟨nd,rfl⟩⟩);go_roundg (nX - (i+1))
       case measure=>omega
       case rel =>
         refine ⟨i+1,_,by simp,rfl,by omega,Nat.le_refl _,⟨?_⟩,⟨by repeat (first|(with_reducible exact HB8.out)|(with_reducible apply aI)|(with_reducible apply aZ))⟩⟩;rw [aeQ,<- HT.out,<- HA0.out,<- HCL.out,<- HAV.out]
theorem apH (b bx bz:Nat) (m:Img) (tx ty:Tab) (bd x y c:Int) (w:World) (hG:GL w) (hI:qJ w b m) (hx:sO w bx tx) (hy:sO w bz ty) (e1:tx.n=m.w) (e2:ty.n=m.h) (hb:0<=bd/\bd < 3) (hc:0<=c/\c < m.c) (x0:0<=x/\x < tx.lines.length) (y0:0<=y/\y < ty.lines.length) (lx:(fV tx.lines x).f1.length<=2097152) (ly:(fV ty.lines y).f1.length<=2097152) (B:pq m) (bx0 : -1099511627776<=(fV tx.lines x).f0/\(fV tx.lines x).f0<=1099511627776) (by0 : -1099511627776<=(fV ty.lines y).f0/\(fV ty.lines y).f0<=1099511627776) :
   Calls Tryz.prog 41 #[.pointer (some ⟨b,0,none⟩),stV bx bz bd,.int .i64 x,.int .i64 y,.int .i64 c] w fun e w'=>e = .returned (.int .i64 (adW m bd c (fV tx.lines x) (fV ty.lines y)))/\Below w.heap.size w w' :=
 auc b bx bz m tx ty bd x y c _ _ w hG hI hx hy e1 e2 hb hc (fun w' h=>afV bx tx x w' (hx.below h) x0.1 x0.2 lx) (fun w' h=>afV bz ty y w' (hy.below h) y0.1 y0.2 ly) lx ly B bx0 by0
def aaj (s most:Int):Int:=mx 0 (mn (sh s 28) (mx 0 (mn most 65535)))
theorem ahE (s most:Int):0<=aaj s most/\aaj s most<=mx 0 (mn most 65535):=by unfold aaj mx mn;omega
theorem ahF {s most:Int} (hs:I64 s):uX.f s most=some (aaj s most):=by
 unfold uX.f;rw [xO hs (by constructor <;> omega),Option.bind_some,adz,Option.bind_some];have h:=ahE s most;have e:∀ z:Int,0<=z->z<=65535->IntKind.u16.wrap z=z:=by
   intro z h0 h1;unfold IntKind.wrap IntKind.bits IntKind.signed;simp;omega
 show some (IntKind.u16.wrap (aaj s most))=_
 rw [e _ h.1 (by unfold mx mn at h;omega)]
theorem ave (m:Img) (bd fx row b c:Int) (ts:List Int) (a0:Int) (h:I64 a0):∀ i,I64 (aeQ m bd fx row b c ts a0 i)
  | 0=>h
  | i+1=>by show I64 (wrap64 _);unfold wrap64;constructor <;> omega
theorem apI (m:Img) (bd fx fy c:Int) (tX tY:List Int):∀ k,I64 (aeR m bd fx fy c tX tY k)
  | 0=>by show I64 0;constructor <;> omega
  | k+1=>ave _ _ _ _ _ _ _ _ (apI m bd fx fy c tX tY k) _
theorem apJ (m:Img) (bd c:Int) (X Y:S71):I64 (adW m bd c X Y):=apI _ _ _ _ _ _ _ _
def aiN (m:Img) (bd:Int) (tx ty:Tab) (x y c:Nat):Int:=aaj (adW m bd c (fV tx.lines x) (fV ty.lines y)) m.most
def aiO (m:Img) (bd:Int) (tx ty:Tab) (C:Nat) (j:Nat):Int:=aiN m bd tx ty (j / C % tx.lines.length) (j / C / tx.lines.length) (j % C)
def ada (m:Img) (bd:Int) (tx ty:Tab) (C:Nat):List Int:=(List.range (tx.lines.length*ty.lines.length*C)).map (aiO m bd tx ty C)
structure abb (t:Tab):Prop where
 n1:1<=t.lines.length
 n2:t.lines.length<=65536
 all:∀ j:Nat,j < t.lines.length->(fV t.lines j).f1.length<=2097152 /\ -1099511627776<=(fV t.lines j).f0/\(fV t.lines j).f0<=1099511627776
structure yc (m:Img) (bd:Int) (tx ty:Tab) (C:Nat) (w wr:World) (g p:Nat) (l:List Int):Prop where
 len:l.length=tx.lines.length*ty.lines.length*C
 vals:∀ j:Nat,j < p->rd l (j:Int)=aiO m bd tx ty C j
 img:qm wr w.heap.size g ⟨tx.lines.length,ty.lines.length,m.c,m.most,l⟩
 bel:Below w.heap.size w wr
theorem aud (m:Img) (bd:Int) (tx ty:Tab) (C x y c:Nat) (hx:x < tx.lines.length) (hc:c < C):aiO m bd tx ty C ((y*tx.lines.length+x)*C+c)=aiN m bd tx ty x y c:=by
 unfold aiO;have hC:0 < C:=(by omega);have e1:((y*tx.lines.length+x)*C+c) / C=y*tx.lines.length+x:=(by rw [Nat.mul_comm,Nat.mul_add_div hC,Nat.div_eq_of_lt hc,Nat.add_zero]);have e2:((y*tx.lines.length+x)*C+c) % C=c:=(by rw [Nat.mul_comm,Nat.mul_add_mod,Nat.mod_eq_of_lt hc]);have e3:(y*tx.lines.length+x) % tx.lines.length=x:=(by rw [Nat.mul_comm,Nat.mul_add_mod,Nat.mod_eq_of_lt hx]);have e4:(y*tx.lines.length+x) / tx.lines.length=y:=(by rw [Nat.mul_comm,Nat.mul_add_div (by omega),Nat.div_eq_of_lt hx,Nat.add_zero]);rw [e1,e2,e3,e4]
theorem aue (o:List Int) (b:Nat) (v:Int) (hb:b < o.length) (j:Nat):rd (o.set b v) (j:Int)=if j=b then v else rd o (j:Int):=by
 unfold rd;rw [Int.toNat_natCast,List.getD_eq_getElem?_getD,List.getD_eq_getElem?_getD,List.getElem?_set];by_cases h:j=b
 . subst h;simp [hb]
 . rw [if_neg (fun e=>h e.symm),if_neg h]
theorem avf {l r:List Int} (h1:l.length=r.length) (h2:∀ j:Nat,j < l.length->rd l (j:Int)=rd r (j:Int)):l=r:=by
 apply List.ext_getElem h1;intro i hi hj;have:=h2 i hi;unfold rd at this;rw [Int.toNat_natCast,List.getD_eq_getElem?_getD,List.getD_eq_getElem?_getD,List.getElem?_eq_getElem hi,List.getElem?_eq_getElem hj] at this;simpa using this
theorem yc.step {m:Img} {bd:Int} {tx ty:Tab} {C x y c g:Nat} {w wr w7:World} {l:List Int} (Q:yc m bd tx ty C w wr g ((y*tx.lines.length+x)*C+c) l) (hC:m.c=C) (hx:x < tx.lines.length) (hy:y < ty.lines.length) (hc:c < C)
    (hi:qm w7 w.heap.size g (Img.put ⟨tx.lines.length,ty.lines.length,m.c,m.most,l⟩ (plV ⟨tx.lines.length,ty.lines.length,m.c,m.most,l⟩ x y c) (aiN m bd tx ty x y c))) (hb:Below w.heap.size w w7) :
    yc m bd tx ty C w w7 g ((y*tx.lines.length+x)*C+(c+1)) (l.set ((y*tx.lines.length+x)*C+c) (aiN m bd tx ty x y c)):=by
  have hp:(plV ⟨tx.lines.length,ty.lines.length,m.c,m.most,l⟩ x y c).toNat=(y*tx.lines.length+x)*C+c:=by
    show (((y:Int)*tx.lines.length+x)*m.c+c).toNat=_
    rw [hC];exact Int.toNat_natCast ((y*tx.lines.length+x)*C+c)
  have hl:(y*tx.lines.length+x)*C+c < l.length:=by
    rw [Q.len];have h1:y*tx.lines.length+x < tx.lines.length*ty.lines.length:=by
      calc y*tx.lines.length+x < y*tx.lines.length+tx.lines.length:=by omega
        _=(y+1)*tx.lines.length:=by rw [Nat.succ_mul]
        _<=ty.lines.length*tx.lines.length:=Nat.mul_le_mul_right _ hy
        _=_:=Nat.mul_comm _ _
    calc (y*tx.lines.length+x)*C+c < (y*tx.lines.length+x)*C+C:=by omega
      _=(y*tx.lines.length+x+1)*C:=by rw [Nat.succ_mul]
      _<=_:=Nat.mul_le_mul_right _ h1
  refine ⟨by rw [List.length_set];exact Q.len,fun j hj => ?_,?_,hb⟩
  . rw [aue _ _ _ hl];by_cases e:j=(y*tx.lines.length+x)*C+c
    . rw [if_pos e,e,aud _ _ _ _ _ _ _ _ hx hc]
    . rw [if_neg e];exact Q.vals j (by omega)
  . unfold Img.put at hi;rw [hp] at hi;exact hi
theorem yc.cast {m:Img} {bd:Int} {tx ty:Tab} {C g p q:Nat} {w wr:World} {l:List Int} (Q:yc m bd tx ty C w wr g p l) (h:p=q):yc m bd tx ty C w wr g q l:=h ▸ Q
theorem yc.below {m:Img} {bd:Int} {tx ty:Tab} {C g p:Nat} {w wr w7:World} {l:List Int} (Q:yc m bd tx ty C w wr g p l) (h:Below wr.heap.size wr w7):yc m bd tx ty C w w7 g p l:=⟨Q.len,Q.vals,Q.img.below h,ak Q.bel h⟩
theorem yc.done {m:Img} {bd:Int} {tx ty:Tab} {C g:Nat} {w wr:World} {l:List Int} (Q:yc m bd tx ty C w wr g (tx.lines.length*ty.lines.length*C) l):l=ada m bd tx ty C:=by
 refine avf (by rw [Q.len];simp [ada]) (fun j hj => ?_);rw [Q.vals j (by rw [<- Q.len];exact hj)];have:j < tx.lines.length*ty.lines.length*C:=(by rw [<- Q.len];exact hj);unfold ada rd;rw [Int.toNat_natCast,List.getD_eq_getElem?_getD,List.getElem?_map,List.getElem?_range this];rfl
theorem alm (b bx bz:Nat) (m:Img) (tx ty:Tab) (bd:Int) (C:Nat) (w:World) (hG:GL w) (hI:qJ w b m) (hx:sO w bx tx) (hy:sO w bz ty) (e1:tx.n=m.w) (e2:ty.n=m.h) (hb:0<=bd/\bd < 3) (B:pq m) (hC:m.c=C) (Lx:abb tx) (Ly:abb ty) (hn:(tx.lines.length:Int)*ty.lines.length*C<=268435456) :
   Calls Tryz.prog 36 #[.pointer (some ⟨b,0,none⟩),stV bx bz bd] w fun e w'=>∃ g,e = .returned (.tuple #[.pointer (some ⟨g,0,none⟩),.int .i64 0])/\qm w' w.heap.size g ⟨tx.lines.length,ty.lines.length,m.c,m.most,ada m bd tx ty C⟩/\Below w.heap.size w w':=by
 have SU:=aj.mk (fun w' (h:Below w.heap.size w w')=>ajH b bx bz m tx ty bd w' (hG.below h) (hI.below h) (hx.below h) (hy.below h) e1 e2 hb);have CH:=aj.mk (fun w' (h:Below w.heap.size w w')=>ni b m w' (hI.below h));have MO:=aj.mk (fun w' (h:Below w.heap.size w w')=>yH b m w' (hI.below h));have TX:=aj.mk (fun w' (h:Below w.heap.size w w')=>adS bx tx w' (hx.below h));have TY:=aj.mk (fun w' (h:Below w.heap.size w w')=>adS bz ty w' (hy.below h));have SM:=aj.mk (fun (x y c:Nat) (h1:x < tx.lines.length) (h2:y < ty.lines.length) (h3:c < C) w' (h:Below w.heap.size w w')=>apH b bx bz m tx ty bd x y c w' (hG.below h) (hI.below h) (hx.below h) (hy.below h) e1 e2 hb ⟨by omega,by omega⟩ ⟨by omega,by omega⟩ ⟨by omega,by omega⟩ (Lx.all x h1).1 (Ly.all y h2).1 B (Lx.all x h1).2 (Ly.all y h2).2);have NW:=aj.mk (fun w'=>aeS tx.lines.length ty.lines.length m.c m.most w' ⟨by have:=Lx.n1;omega,by have:=Lx.n2;omega⟩ ⟨by have:=Ly.n1;omega,by have:=Ly.n2;omega⟩ B.c1 ⟨B.m1,B.m2⟩ (by rw [hC];exact hn));have BN:∀ l:List Int,l.length=tx.lines.length*ty.lines.length*C->pq ⟨tx.lines.length,ty.lines.length,m.c,m.most,l⟩:=fun l hl=>⟨by show (1:Int)<=tx.lines.length;have:=Lx.n1;omega,by show (tx.lines.length:Int)<=65536;have:=Lx.n2;omega,by show (1:Int)<=ty.lines.length;have:=Ly.n1;omega,by show (ty.lines.length:Int)<=65536;have:=Ly.n2;omega,B.c1,B.m1,B.m2,by show (l.length:Int)=tx.lines.length*ty.lines.length*m.c;rw [hl,hC];simp,by show (tx.lines.length:Int)*ty.lines.length*m.c<=268435456;rw [hC];exact hn⟩;have HBN:=aj.mk BN;have HC3:1<=C/\C<=3:=(by have:=B.c1;omega);have HMB:=aj.mk (And.intro B.m1 B.m2);have HCC:=aj.mk hC;have hx1:=Lx.n1;have hx2:=Lx.n2;have hy1:=Ly.n1;have hy2:=Ly.n2;obtain ⟨X,hX⟩:∃ X,X=tx.lines.length:=⟨_,rfl⟩;obtain ⟨Y,hY⟩:∃ Y,Y=ty.lines.length:=⟨_,rfl⟩;have HXY:=aj.mk (And.intro hX hY);rw [<- hX] at TX hx1 hx2;rw [<- hY] at TY hy1 hy2;rw [<- hX,<- hY] at NW;have hr:=heap_alloc_new w (.cells #[.pointer (some ⟨bx,0,none⟩),.pointer (some ⟨bz,0,none⟩),.int .i64 bd] 38);have BX:=aj.mk (aT (Below.refl w.heap.size w) (.cells #[.pointer (some ⟨bx,0,none⟩),.pointer (some ⟨bz,0,none⟩),.int .i64 bd] 38));have HR:=aj.mk hr;have mixed:Tryz.prog.follows .mixedOrders=true:=(by kernel_rfl);clear hG hI hx hy e1 e2 hb hr B hC Lx Ly hn BN hX hY;unfold stV at SU SM ⊢;go_enter Tryz.func36,Tryz.ntmps36;go_upto_region 1 with fail;obtain ⟨g,hg⟩:∃ g,g=w.heap.size:=⟨_,rfl⟩;rw [<- hg];have hr:=HR.out;rw [<- hg] at hr;have HGG:=aj.mk hg;clear hg HR;generalize w.alloc (.cells #[.pointer (some ⟨bx,0,none⟩),.pointer (some ⟨bz,0,none⟩),.int .i64 bd] 38)=w1 at hr BX ⊢;have z0:w1.cell? ⟨g,0,none⟩=some (.pointer (some ⟨bx,0,none⟩)):=(au hr 0).trans rfl;have z1:w1.cell? ⟨g,1,none⟩=some (.pointer (some ⟨bz,0,none⟩)):=(au hr 1).trans rfl;have z2:w1.cell? ⟨g,2,none⟩=some (.int .i64 bd):=(au hr 2).trans rfl;have HRR:=aj.mk hr;clear hr;go_upto_region 3 with (go_at_call 39;refine (SU.out _ BX.out).mono ?_;rintro e w2 ⟨rfl,hb2⟩;have B2:=aj.mk (ak BX.out hb2);have H2:=aj.mk ((hb2.block g (bD HRR.out)).trans HRR.out);clear hb2);clear z0 z1 z2 SU BX HRR;have HK:=aj.mk (fun w' (hb:Below w2.heap.size w2 w')=>(show w'.cell? ⟨g,0,none⟩=some (.pointer (some ⟨bx,0,none⟩))/\w'.cell? ⟨g,1,none⟩=some (.pointer (some ⟨bz,0,none⟩)) from ⟨(au ((hb.block g (bD H2.out)).trans H2.out) 0).trans rfl,(au ((hb.block g (bD H2.out)).trans H2.out) 1).trans rfl⟩));obtain ⟨z0,z1⟩:=HK.out _ (Below.refl _ _);have S0:=Below.refl w2.heap.size w2
 go_region_held3 (fun w'=>w'.cell? ⟨g,0,none⟩=some (.pointer (some ⟨bx,0,none⟩))/\w'.cell? ⟨g,1,none⟩=some (.pointer (some ⟨bz,0,none⟩)))
   ((refine HK.out _ ?_;repeat (first|(with_reducible exact S0)|(with_reducible assumption)|(with_reducible apply aZ))))
   (first
   | (go_at_call 22;(with_reducible refine (TX.out _ ?hh).mono ?_);(case hh=>(refine ak B2.out ?_;repeat (first|(with_reducible exact S0)|(with_reducible assumption)|(with_reducible apply aZ))));rintro e w3 ⟨rfl,rfl⟩)
   | (go_at_call 22;(with_reducible refine (TY.out _ ?hh).mono ?_);(case hh=>(refine ak B2.out ?_;repeat (first|(with_reducible exact S0)|(with_reducible assumption)|(with_reducible apply aZ))));rintro e w3 ⟨rfl,rfl⟩)
   | (go_at_call 47;(with_reducible refine (CH.out _ ?hh).mono ?_);(case hh=>(refine ak B2.out ?_;repeat (first|(with_reducible exact S0)|(with_reducible assumption)|(with_reducible apply aZ))));rintro e w3 ⟨rfl,rfl⟩)
   | (go_at_call 44;(with_reducible refine (MO.out _ ?hh).mono ?_);(case hh=>(refine ak B2.out ?_;repeat (first|(with_reducible exact S0)|(with_reducible assumption)|(with_reducible apply aZ))));rintro e w3 ⟨rfl,rfl⟩)
   | (go_at_call 73;(with_reducible refine (NW.out _).mono ?_);rintro e w4 ⟨hb4,gi,rfl,hi⟩;have hb5:Below w2.heap.size w2 w4:=ak (by repeat (first|(with_reducible exact S0)|(with_reducible apply aZ))) hb4;have HI:=aj.mk hi;clear hi))
 (try simp only [Exit.inBlock,Exit.then])
 have Q0:yc m bd tx ty C w2 w4 gi ((0*tx.lines.length+0)*C+0) (List.replicate ((X:Int)*Y*m.c).toNat 0):=by
   refine ⟨?_,fun j hj=>absurd hj (by simp),?_,hb5⟩
   . rw [List.length_replicate,HCC.out,<- HXY.out.1,<- HXY.out.2];exact Int.toNat_natCast (X*Y*C)
   . rw [<- HXY.out.1,<- HXY.out.2];exact qm.lower HI.out (by simp)
 have HQ0:=aj.mk Q0
 have HGI:=aj.mk (fun (p:Nat) (l:List Int) (wr:World) (Q:yc m bd tx ty C w2 wr gi p l)=>(show (Calls Tryz.prog 45 #[.pointer (some ⟨gi,0,none⟩)] wr fun e w'=>e = .returned (.int .i64 Y)/\w'=wr)/\(Calls Tryz.prog 46 #[.pointer (some ⟨gi,0,none⟩)] wr fun e w'=>e = .returned (.int .i64 X)/\w'=wr)/\(Calls Tryz.prog 47 #[.pointer (some ⟨gi,0,none⟩)] wr fun e w'=>e = .returned (.int .i64 C)/\w'=wr) from by
   have h1:=tH gi _ wr Q.img.reads;have h2:=uV gi _ wr Q.img.reads;have h3:=ni gi _ wr Q.img.reads;simp only [HCC.out,<- HXY.out.1,<- HXY.out.2] at h1 h2 h3;exact ⟨h1,h2,h3⟩))
 clear z0 z1 S0 hb4 hb5 HK Q0 HI NW CH TX TY;go_upto_region 6 with fail;have HG0:=aj.mk (HGI.out _ _ _ HQ0.out);go_wp2_with (go_at_call 45;(with_reducible refine HG0.out.1.mono ?_);rintro e w5 ⟨rfl,rfl⟩);clear HG0;go_loopg [34] Y (fun kx s34 wr=>∃ (y:Nat) (l:List Int),s34 = .int .i64 y/\y<=Y/\Y - y<=kx/\aj (yc m bd tx ty C w2 wr gi ((y*tx.lines.length+0)*C+0) l))
 case atStart=>exact ⟨0,_,rfl,by omega,by omega,HQ0⟩
 case round =>
   obtain ⟨y,l,rfl,j1,j2,HQ⟩:=hrel;have wi:IntKind.i64.wrap ((y:Int)+1)=(y:Int)+1:=(by rw [jS];exact aC (by omega) (by omega));by_cases hlt:(y:Int) < (Y:Int);rotate_left
   . have hy:y=Y:=(by omega);subst hy;go_wp2;go_ret2;have Q:=HQ.out.cast (q:=tx.lines.length*ty.lines.length*C) (by rw [Nat.add_zero,Nat.add_zero,HXY.out.2,Nat.mul_comm ty.lines.length]);refine ⟨gi,rfl,?_,ak B2.out Q.bel⟩;have hi:=Q.img;rw [Q.done] at hi;exact qm.lower hi B2.out.size
   have HG1:=aj.mk (HGI.out _ _ _ HQ.out);go_wp2_with (go_at_call 46;(with_reducible refine HG1.out.2.1.mono ?_);rintro e w6 ⟨rfl,rfl⟩);clear HG1;go_loopg [39] X (fun kx s39 wx=>∃ (x:Nat) (l:List Int),s39 = .int .i64 x/\x<=X/\X - x<=kx/\aj (yc m bd tx ty C w2 wx gi ((y*tx.lines.length+x)*C+0) l))
   case atStart=>exact ⟨0,l,rfl,by omega,by omega,HQ⟩
   case round =>
     obtain ⟨x,l1,rfl,j3,j4,HQ1⟩:=hrel;have wj:IntKind.i64.wrap ((x:Int)+1)=(x:Int)+1:=(by rw [jS];exact aC (by omega) (by omega));by_cases hlx:(x:Int) < (X:Int);rotate_left
     . have hx:x=X:=(by omega);subst hx;go_wp2;go_roundg (Y - (y+1))
       case measure=>omega
       case rel=>exact ⟨y+1,l1,by simp,by omega,Nat.le_refl _,⟨HQ1.out.cast (by rw [<- HXY.out.1,Nat.succ_mul];simp)⟩⟩
     have HG1:=aj.mk (HGI.out _ _ _ HQ1.out);go_wp2_with (go_at_call 47;(with_reducible refine HG1.out.2.2.mono ?_);rintro e w7 ⟨rfl,rfl⟩);clear HG1;go_loopg [44] C (fun kx s44 wc=>∃ (c:Nat) (l:List Int),s44 = .int .i64 c/\c<=C/\C - c<=kx/\aj (yc m bd tx ty C w2 wc gi ((y*tx.lines.length+x)*C+c) l))
     case atStart=>exact ⟨0,l1,rfl,by omega,by omega,HQ1⟩
     case round =>
       obtain ⟨c,l2,rfl,j5,j6,HQ2⟩:=hrel;have wk:IntKind.i64.wrap ((c:Int)+1)=(c:Int)+1:=(by rw [jS];exact aC (by omega) (by omega));by_cases hlc:(c:Int) < (C:Int);rotate_left
       . have hc:c=C:=(by omega);subst hc;go_wp2;go_roundg (X - (x+1))
         case measure=>omega
         case rel=>exact ⟨x+1,l2,by simp,by omega,Nat.le_refl _,⟨HQ2.out.cast (by rw [Nat.add_zero,<- Nat.add_assoc,Nat.succ_mul])⟩⟩
       have hr2:=(HQ2.out.bel.block g (bD H2.out)).trans H2.out;have z0:wr.cell? ⟨g,0,none⟩=some (.pointer (some ⟨bx,0,none⟩)):=(au hr2 0).trans rfl;have z1:wr.cell? ⟨g,1,none⟩=some (.pointer (some ⟨bz,0,none⟩)):=(au hr2 1).trans rfl;have z2:wr.cell? ⟨g,2,none⟩=some (.int .i64 bd):=(au hr2 2).trans rfl;have hxl:x < tx.lines.length:=(by rw [<- HXY.out.1];omega);have hyl:y < ty.lines.length:=(by rw [<- HXY.out.2];omega);have hcl:c < C:=(by omega);have sm:=SM.out x y c hxl hyl hcl wr (ak B2.out HQ2.out.bel);obtain ⟨sv,hsv⟩:∃ z,z=adW m bd c (fV tx.lines x) (fV ty.lines y):=⟨_,rfl⟩;have hsi:I64 sv:=(by rw [hsv];exact apJ _ _ _ _ _);rw [<- hsv] at sm;obtain ⟨mo,hmo⟩:∃ z,z=m.most:=⟨_,rfl⟩;have hrd:=ahF (s:=sv) (most:=mo) hsi;obtain ⟨v,hv⟩:∃ z,z=aaj sv mo:=⟨_,rfl⟩;rw [<- hv] at hrd;have HV:=aj.mk (show v=aiN m bd tx ty x y c by rw [hv,hsv,hmo];rfl);have HVB:=aj.mk (show 0<=v/\v<=m.most by have h:=ahE sv mo;have h2:=HMB.out;rw [<- hv,hmo] at h;unfold mx mn at h;omega);have SM1:=aj.mk sm;have RD1:=aj.mk hrd;have MO1:=aj.mk (fun w' (h:Below wr.heap.size wr w')=>(show Calls Tryz.prog 44 #[.pointer (some ⟨b,0,none⟩)] w' fun e w''=>e = .returned (.int .i64 mo)/\w''=w' from by have h1:=MO.out w' (ak (ak B2.out HQ2.out.bel) h);rw [<- hmo] at h1;exact h1));have HXL:=aj.mk (And.intro hxl (And.intro hyl hcl));clear sm hrd hsv hmo hv hr2 hsi hxl hyl
       go_wp2_with (first
         | (go_at_call 41;(with_reducible refine SM1.out.mono ?_);rintro e w8 ⟨rfl,hb8⟩;have HB8:=aj.mk hb8;clear hb8)
         | (go_at_call 44;(with_reducible refine (MO1.out _ HB8.out).mono ?_);rintro e w9 ⟨rfl,rfl⟩)
         | (go_at_call 74;(with_reducible refine (uX.calls sv mo v _ RD1.out).mono ?_);rintro e w9 ⟨rfl,hb9⟩;have HB9:=aj.mk (ak HB8.out hb9);clear hb9)
         | (go_at_call 48;(with_reducible refine (ajI gi ⟨tx.lines.length,ty.lines.length,m.c,m.most,l2⟩ x y c v w2 _ ?h1 ?h2 ?h3 ?h4 ?h5).mono ?_);(case h1=>exact (HQ2.out.below HB9.out).bel);(case h2=>exact (HQ2.out.below HB9.out).img);(case h3=>exact HBN.out l2 HQ2.out.len);(case h4=>exact ⟨by omega,by have:=HXL.out;show (x:Int) < tx.lines.length;omega,by omega,by have:=HXL.out;show (y:Int) < ty.lines.length;omega,by omega,by have:=HXL.out;show (c:Int) < m.c;rw [HCC.out];omega⟩);(case h5=>exact HVB.out);rintro e w10 ⟨rfl,hi,avg⟩;have ayY:=aj.mk hi;have ayZ:=aj.mk avg;clear hi avg))
       go_roundg (C - (c+1))
       case measure=>omega
       case rel =>
         have hi:=ayY.out;rw [HV.out] at hi;exact ⟨c+1,_,by simp,by omega,Nat.le_refl _,⟨HQ2.out.step HCC.out HXL.out.1 HXL.out.2.1 HXL.out.2.2 hi ayZ.out⟩⟩
def aeT:Img:=aiP 2 1 3 255
theorem aln:pq aeT:=⟨by decide,by decide,by decide,by decide,.inr rfl,by decide,by decide,by decide,by decide⟩
theorem aj6 (w:World):Calls Tryz.prog 70 #[] w fun e w'=>e = .returned (.bool true)/\Below w.heap.size w w':=by
 have NW:=aj.mk (aeS 2 1 3 255 w (by decide) (by decide) (.inr rfl) (by decide) (by decide));have mixed:Tryz.prog.follows .mixedOrders=true:=(by kernel_rfl);go_enter Tryz.func70,Tryz.ntmps70;go_upto_region 2 with (go_at_call 73;refine NW.out.mono ?_;rintro e w1 ⟨hb1,g,rfl,hi⟩;have B1:=aj.mk hb1;have HI:=aj.mk (show qm w1 w.heap.size g aeT from hi);clear hb1 hi)
 go_wp2_with (first
   | (go_at_call 49;(with_reducible refine (aci g aeT _ HI.out.reads (by decide)).mono ?_);rintro e w2 ⟨v,rfl,hr2,hb2⟩;obtain ⟨A2,c2,rfl⟩:=Kd.gq hr2;have B2:=aj.mk (ak B1.out hb2);have I2:=aj.mk (HI.out.below hb2);clear hr2 hb2)
   | (go_at_call 48;(with_reducible refine (apK g aeT 1 0 2 256 _ I2.out.reads aln (by decide) (by decide)).mono ?_);rintro e w3 ⟨rfl,⟨nd,rfl⟩⟩)
   | (go_at_call 48;(with_reducible refine (ajI g aeT 1 0 2 255 w _ ?h1 ?h2 aln (by decide) (by decide)).mono ?_);(case h1=>exact aI B2.out nd);(case h2=>exact I2.out.below (aI (Below.refl _ _) nd));rintro e w4 ⟨rfl,hi4,hb4⟩;have B4:=aj.mk hb4;clear hi4 hb4))
 go_ret;exact ⟨rfl,B4.out⟩
def acN:List Int:=[214748365,214748365,214748365,214748365,214748365]
theorem auf (K:Nat) (hK:1400<=K):kY.f K 1 0 0 2 [] [] 0 0 0=some (acN,acN,0):=by
 unfold kY.f;rw [if_neg (by decide),if_pos rfl,am1 hK (by decide)];have:aag 2=(acN,0):=(by kernel_rfl);rw [this];rfl
def yI:Tab:=iK 1 2 (iM acN) 1
theorem an2 (w:World) (hG:GL w):Calls Tryz.prog 51 #[opV 1 0 0 2 none 0 0 none 0 0 0 0 0,.int .i64 1,.int .i64 1] w (ahC yI yI 0 w):=by
 refine afW 1 0 0 2 none 0 [] none 0 [] 0 0 0 1 1 _ _ w hG (ace w) (by decide) (ace w) (by decide) (adT 0 (by decide) (by decide) (by decide)) (by decide) (by decide) (fun w' hb2 => ?_);exact aes 1400 1 0 0 2 none 0 [] none 0 [] 0 0 0 1 1 acN acN w' (ace w') (by decide) (ace w') (by decide) (by decide) (auf 1400 (Nat.le_refl _)) (by intro z hz;simp [acN] at hz;subst hz;decide) (by intro z hz;simp [acN] at hz;subst hz;decide) (by decide) (by decide) (by decide) (by decide) (by kernel_rfl) (by kernel_rfl)
def aeU:Img:=⟨1,1,1,255,[7]⟩
theorem apL:pq aeU:=⟨by decide,by decide,by decide,by decide,.inl rfl,by decide,by decide,by decide,by decide⟩
theorem am7:abb yI:=⟨by decide,by decide,by
  intro j hj;have h1:yI.lines.length=1:=(by kernel_rfl);obtain rfl:j=0:=(by omega);have h2:(fV yI.lines ((0:Nat):Int)).f1.length=5:=(by kernel_rfl);have h3:(fV yI.lines ((0:Nat):Int)).f0 = -2:=(by kernel_rfl);rw [h2,h3];decide⟩
theorem awy:ada aeU 0 yI yI 1=[7]:=by kernel_rfl
theorem af0:yI.lines.length=1/\yI.n=1:=⟨by kernel_rfl,by kernel_rfl⟩
theorem aug (W:World) (l:List Int) (hm:l.length<=9223372036854775807):Kd.C (Kd.int .u16) (W.alloc (.cells (l.map (Value.int .u16)).toArray 79 (0,0))) (some ⟨W.heap.size,0,none⟩) l.length l:=by
 have h:=amV W W.heap.size 79 .u16 l (Nat.le_refl _) hm;exact (Kd.dH (Kd.uD (ok:=fun _=>True) h (fun _ _=>trivial))).2.2
theorem aj7 (w:World) (hG:GL w):Calls Tryz.prog 32 #[] w fun e w'=>e = .returned (.bool true)/\Below w.heap.size w w':=by
 have LV:=aj.mk (fun w' (hb:Below w.heap.size w w')=>aj3 w' (hG.below hb));have MK:=aj.mk (fun w' (hb:Below w.heap.size w w')=>an2 w' (hG.below hb));have IO:=aj.mk (alo 1 1 1 255 (some ⟨w.heap.size,0,none⟩) 1 [7] (w.alloc (.cells #[.int .u16 7] 79)) (by decide) (by decide) (.inl rfl) (by decide) (by decide) (aug w [7] (by decide)) (by decide) (by decide) (by decide) (by decide));have AP:=aj.mk (fun b bx bz w' (hb:Below w.heap.size w w') h1 h2 h3=>alm b bx bz aeU yI yI 0 1 w' (hG.below hb) h1 h2 h3 af0.2 af0.2 (by decide) apL rfl am7 am7 (by rw [af0.1];decide));have mixed:Tryz.prog.follows .mixedOrders=true:=(by kernel_rfl);have BA:=aj.mk (aT (Below.refl w.heap.size w) (.cells #[.int .u16 7] 79));clear hG;unfold opV at MK;unfold stV at AP;go_enter Tryz.func32,Tryz.ntmps32;go_upto_region 2 with (go_at_call 69;refine IO.out.mono ?_;rintro e w1 ⟨hb1,g,rfl,hi⟩;have B1:=aj.mk (ak BA.out hb1);have HI:=aj.mk (show qJ w1 g aeU from hi.reads);clear hb1 hi);go_upto_region 3 with (go_at_call 51;refine (MK.out _ B1.out).mono ?_;rintro e w2 ⟨hb2,bx,bz,rfl,hx,hz⟩;have B2:=aj.mk (ak B1.out hb2);have I2:=aj.mk (HI.out.below hb2);have TX:=aj.mk hx.reads;have TY:=aj.mk hz.reads;clear hb2 hx hz);have hr:=heap_alloc_new w2 (.cells #[.pointer (some ⟨bx,0,none⟩),.pointer (some ⟨bz,0,none⟩),.int .i64 0] 38);have ha:=aT (Below.refl w2.heap.size w2) (.cells #[.pointer (some ⟨bx,0,none⟩),.pointer (some ⟨bz,0,none⟩),.int .i64 0] 38);have TX2:=aj.mk (TX.out.below ha);have TY2:=aj.mk (TY.out.below ha);have I3:=aj.mk (I2.out.below ha);have B3:=aj.mk (ak B2.out ha);obtain ⟨q,hq⟩:∃ q,q=w2.heap.size:=⟨_,rfl⟩;rw [<- hq] at hr ⊢;clear ha hq TX TY;generalize w2.alloc (.cells #[.pointer (some ⟨bx,0,none⟩),.pointer (some ⟨bz,0,none⟩),.int .i64 0] 38)=w3 at hr TX2 TY2 I3 B3 ⊢;have HR:=aj.mk hr;clear hr
 go_upto_region 5 with (first
   | (go_at_call 70;refine (aj6 _).mono ?_;rintro e w4 ⟨rfl,hb4⟩;have B4:=aj.mk hb4;clear hb4)
   | (go_at_call 12;refine (LV.out _ (ak B3.out B4.out)).mono ?_;rintro e w5 ⟨rfl,hb5⟩;have B5:=aj.mk (ak B4.out hb5);clear hb5))
 have hr5:=(B5.out.block q (bD HR.out)).trans HR.out;have z0:w5.cell? ⟨q,0,none⟩=some (.pointer (some ⟨bx,0,none⟩)):=(au hr5 0).trans rfl;have z1:w5.cell? ⟨q,1,none⟩=some (.pointer (some ⟨bz,0,none⟩)):=(au hr5 1).trans rfl;have z2:w5.cell? ⟨q,2,none⟩=some (.int .i64 0):=(au hr5 2).trans rfl;have AP1:=aj.mk (AP.out g bx bz w5 (ak B3.out B5.out) (I3.out.below B5.out) (TX2.out.below B5.out) (TY2.out.below B5.out));clear hr5;have AT:=aj.mk (fun r w' (h:qJ w' r aeU)=>(show Calls Tryz.prog 71 #[.pointer (some ⟨r,0,none⟩),.int .i64 0,.int .i64 0,.int .i64 0] w' fun e w''=>e = .returned (.int .u16 7)/\dG w' w'' from by have h1:=agu r aeU 0 0 0 w' h apL;rw [show atV aeU 0 0 0=7 by decide] at h1;exact h1))
 go_wp2_with (first
   | (go_at_call 36;refine AP1.out.mono ?_;rintro e w6 ⟨r,rfl,hi6,hb6⟩;have B6:=aj.mk (ak (ak B3.out B5.out) hb6);have I6:=aj.mk (show qJ w6 r aeU from by have h:=hi6.reads;rw [awy,af0.1] at h;exact h);clear hi6 hb6)
   | (go_at_call 71;(with_reducible refine (AT.out r _ I6.out).mono ?_);rintro e w7 ⟨rfl,⟨nd,rfl⟩⟩))
 go_ret;exact ⟨rfl,aI B6.out nd⟩
end Go.Proofs.YtpondkggmcmpfaaGreatDoor.QA
