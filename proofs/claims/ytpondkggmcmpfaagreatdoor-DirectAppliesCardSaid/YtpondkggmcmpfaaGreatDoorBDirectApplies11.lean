/- Joined by wip/tools/bundle.py out of: T1 TX TQ T15 T16 T17 TW5. -/
import Derived.Test.YtpondkggmcmpfaaGreatDoorBDirectApplies10
set_option maxHeartbeats 8000000
set_option maxRecDepth 100000
namespace Go.Proofs.YtpondkggmcmpfaaGreatDoor.QA
open Go.RowKit Go.Proofs.YtpondkggmcmpfaaGreatDoorW.PrintWords Go.Proofs.YtpondkggmcmpfaaGreatDoorW.PrintLast Go.Proofs.YtpondkggmcmpfaaGreatDoorW.PrintMore Go.Proofs.YtpondkggmcmpfaaGreatDoor.T
set_option linter.unusedVariables false
set_option linter.unusedSimpArgs false
def aui:Kd Tab where
 sz:=1
 E:=[122,71,2]
 K:=fun w t cs=>∃ b,cs=[.pointer (some ⟨b,0,none⟩)]/\qN w b t
 M:=fun w base ok t cs=>∃ b,cs=[.pointer (some ⟨b,0,none⟩)]/\ok b/\base<=b/\∃ v,w.heap[b]? = some (.cells #[.int .i64 t.n,v,.int .i64 t.most,.int .i64 t.size] 122 (0,0))/\k71.R 71 w base (fun k=>ok k/\k≠b) v t.lines
 yL:=by rintro w t cs ⟨b,rfl,_⟩;rfl
 zX:=by
  rintro w t cs ⟨b,rfl,_⟩ u hu;rw [List.mem_singleton.1 hu];rfl
 sZ:=by rintro w w1 t cs hb ⟨b,rfl,h⟩;exact ⟨b,rfl,h.below hb⟩
 rH:=by
  rintro w base ok t cs ⟨b,rfl,_,hb,v,h1,h2⟩;obtain ⟨A,c,rfl,h3,h4⟩:=Kd.su h2;exact ⟨b,rfl,A,c,h1,h3,h4⟩
 ni:=by
  rintro w base ok ok' t cs hok ⟨b,rfl,h0,hb,v,h1,h2⟩;exact ⟨b,rfl,hok b h0,hb,v,h1,Kd.dY h2 (fun k hk=>⟨hok k hk.1,hk.2⟩)⟩
 qH:=by
  rintro w base ok t cs ⟨b,rfl,h0,hb,v,h1,h2⟩;refine ⟨b,rfl,⟨h0,hb,bI h1,_,List.mem_cons_self,_,h1⟩,hb,v,h1,Kd.dY (Kd.lg h2) ?_⟩;rintro k ⟨⟨h3,h4⟩,h5,h6,q,hq,hc⟩;exact ⟨⟨h3,h5,h6,q,List.mem_cons_of_mem _ (by simpa [k71,Kd.iso,Kd.pair,Kd.slice,Kd.int,Kd.scalar] using hq),hc⟩,h4⟩
 uI:=by
  rintro w w1 base ok t cs hm ⟨b,rfl,h0,hb,v,h1,h2⟩;exact ⟨b,rfl,h0,hb,v,(hm b h0).trans h1,Kd.aaA h2 (fun k hk=>hm k hk.1)⟩
 rZ:=by
  rintro w base base' ok t cs hl ⟨b,rfl,h0,hb,v,h1,h2⟩;exact ⟨b,rfl,h0,Nat.le_trans hl hb,v,h1,Kd.ig h2 hl⟩
theorem ap7 {w:World} {base b:Nat} {t:Tab} (h:uf w base b t):aui.M w base (fun k=>base<=k/\k < w.heap.size) t [.pointer (some ⟨b,0,none⟩)]:=by
 obtain ⟨h0,v,h1,h2⟩:=h;exact ⟨b,rfl,⟨h0,bI h1⟩,h0,v,h1,Kd.dY (Kd.lg h2) (fun k hk=>⟨⟨hk.2.1,hk.2.2.1⟩,hk.1⟩)⟩
structure Stg where
 x:Tab
 y:Tab
 bd:Int
def zT0:Tab:=⟨0,[],0,0⟩
def ayU:Stg:=⟨zT0,zT0,0⟩
def adP:Kd Stg:=Kd.iso (Kd.pair aui (Kd.pair aui (Kd.int .i64))) (fun s:Stg=>(s.x,s.y,s.bd))
theorem as5 {w:World} {s:Stg} {cs:List Value} (h:adP.K w s cs):∃ bx bz,cs=[.pointer (some ⟨bx,0,none⟩),.pointer (some ⟨bz,0,none⟩),.int .i64 s.bd]/\qN w bx s.x/\qN w bz s.y:=by
 obtain ⟨_,_,rfl,⟨bx,rfl,hx⟩,⟨_,_,rfl,⟨bz,rfl,hz⟩,rfl⟩⟩:=h;exact ⟨bx,bz,rfl,hx,hz⟩
theorem auj {w:World} {base bx bz:Nat} {s:Stg} (hx:uf w base bx s.x) (hz:uf w base bz s.y):adP.M w base (fun k=>base<=k/\k < w.heap.size) s [.pointer (some ⟨bx,0,none⟩),.pointer (some ⟨bz,0,none⟩),.int .i64 s.bd] :=
 ⟨_,_,rfl,ap7 hx,⟨_,_,rfl,ap7 hz,rfl⟩⟩
def gZ (ss:List Stg) (i:Int):Stg:=ss.getD i.toNat ayU
theorem ayV {w:World} {A:Option Addr} {n:Nat} {ss:List Stg} (h:Kd.C adP w A n ss) (i:Int) (h0:0<=i) (h1:i < n):∃ ad bx bz,A=some ad/\w.cell? (ad.add (i.toNat*3))=some (.pointer (some ⟨bx,0,none⟩))/\w.cell? ⟨(ad.add (i.toNat*3)).block,(ad.add (i.toNat*3)).off+1,none⟩=some (.pointer (some ⟨bz,0,none⟩))/\w.cell? ⟨(ad.add (i.toNat*3)).block,(ad.add (i.toNat*3)).off+2,none⟩=some (.int .i64 (gZ ss i).bd)/\qN w bx (gZ ss i).x/\qN w bz (gZ ss i).y:=by
 obtain ⟨ad,c,e,_,hK,hc0⟩:=Kd.ahM h ayU i h0 h1;have hc:∀ j u,c[j]? = some u->w.cell? (ad.add (i.toNat*3+j))=some u:=hc0;obtain ⟨bx,bz,rfl,hx,hz⟩:=as5 hK;exact ⟨ad,bx,bz,e,hc 0 _ rfl,by rw [<- jA _ _ 1 (by omega)];exact hc 1 _ rfl,by rw [<- jA _ _ 2 (by omega)];exact hc 2 _ rfl,hx,hz⟩
def ab6 (o:S47):Prop:=0<=o.f0/\o.f0 < 4/\0<=o.f1/\o.f1 < 3/\(o.f0=3->1<=o.f7/\o.f7<=65536/\1<=o.f8/\o.f8<=65536/\0<=o.f6/\o.f6 < 3)
theorem as6 (o:S47) (h:¬ ab6 o):kS.f 1 o.f0 o.f1 o.f2 o.f3 o.f4 o.f5 o.f6 o.f7 o.f8=some false:=by
 unfold kS.f;by_cases h0:o.f0 < 0
 . rw [if_pos h0,kS.j0,if_pos rfl]
 rw [if_neg h0];by_cases h1:o.f0>=4
 . rw [if_pos h1,kS.j0,if_pos rfl]
 rw [if_neg h1];by_cases h2:0<=o.f1/\o.f1 < 3;rotate_left
 . have:oN.f o.f1=some (⟨#[]⟩:ByteArray):=by
     unfold oN.f;rw [if_neg (by omega),if_neg (by omega),if_neg (by omega)];unfold sD.f;by_cases c:o.f1 < 0
     . rw [if_pos c]
     . rw [if_neg c,if_pos (by omega)]
   rw [this,Option.bind_some,kS.j0,if_pos (by kernel_rfl)]
 obtain ⟨nm,hn,he⟩:∃ s,oN.f o.f1=some s/\(s.toList == ([]:List UInt8))=false:=by
   have:o.f1=0\/o.f1=1\/o.f1=2:=(by omega);rcases this with e|e|e
   . exact ⟨_,by rw [e];rfl,by kernel_rfl⟩
   . exact ⟨_,by rw [e];rfl,by kernel_rfl⟩
   . exact ⟨_,by rw [e];rfl,by kernel_rfl⟩
 rw [hn,Option.bind_some,he,kS.j0,if_neg (by decide)];by_cases h3:o.f0=3;rotate_left
 . exact absurd ⟨by omega,by omega,h2.1,h2.2,fun c=>absurd c h3⟩ h
 rw [if_pos h3,qB,Option.bind_some];by_cases h4:1<=o.f7/\o.f7<=65536;rotate_left
 . rw [decide_eq_false h4,if_neg (by decide)]
 rw [decide_eq_true h4,if_pos rfl,qB,Option.bind_some];by_cases h5:1<=o.f8/\o.f8<=65536;rotate_left
 . rw [decide_eq_false h5,if_neg (by decide)]
 rw [decide_eq_true h5,if_pos rfl];by_cases h6:0<=o.f6/\o.f6 < 3
 . exact absurd ⟨by omega,by omega,h2.1,h2.2,fun _=>⟨h4.1,h4.2,h5.1,h5.2,h6.1,h6.2⟩⟩ h
 have:vT.f o.f6=some (⟨#[]⟩:ByteArray):=by
   unfold vT.f;rw [if_neg (by omega),if_neg (by omega),if_neg (by omega)];unfold wM.f;by_cases c:o.f6 < 0
   . rw [if_pos c]
   . rw [if_neg c,if_pos (by omega)]
 rw [this,Option.bind_some];exact congrArg some (by kernel_rfl)
def qC (o:S47) (W H:Int):Int × Int:=if o.f0=3 then (o.f7,o.f8) else (W,H)
theorem aiM (f n m:Int):∀ i,(jc f n m i).n=n
  | 0=>rfl
  | i+1=>by simp [jc,Tab.add,aiM f n m i]
theorem aiN (n h:Int) (l:List Int):∀ i,(jv n h l i).n=n
  | 0=>rfl
  | i+1=>by simp [jv,Tab.add,aiN n h l i]
def opI (o:S47):Prop:=I64 o.f0/\I64 o.f1/\I64 o.f2/\I64 o.f3/\(∀ z ∈ o.f4,I64 z)/\(∀ z ∈ o.f5,I64 z)/\I64 o.f6/\I64 o.f7/\I64 o.f8
theorem aiO (l:List Int) (hl:l.length < 4611686018427387904):(∀ z ∈ (pW l).1,I64 z)/\(pW l).1.length < 4611686018427387904:=by
 unfold pW;split
 . exact ⟨by simp,by simp⟩
 . refine ⟨fun z hz => ?_,by simpa using hl⟩;obtain ⟨t,_,rfl⟩:=List.mem_map.1 hz;exact tZ _
def kL (o:S47):List Int × List Int × Int :=
 if o.f0=0 then ((aaD o.f2).1,(aaD o.f2).1,(aaD o.f2).2) else if o.f0=1 then ((abB o.f3).1,(abB o.f3).1,(abB o.f3).2) else
   if (pW o.f4).2=0 then ((pW o.f4).1,(pW o.f5).1,(pW o.f5).2) else ([],[],(pW o.f4).2)
theorem afB (o:S47) (h:opI o) (l4:o.f4.length < 4611686018427387904) (l5:o.f5.length < 4611686018427387904):lW.f (2000+o.f4.length+o.f5.length) o.f0 o.f1 o.f2 o.f3 o.f4 o.f5 o.f6 o.f7 o.f8=some ((kL o).1,(kL o).2.1,(kL o).2.2)/\(∀ z ∈ (kL o).1,I64 z)/\(∀ z ∈ (kL o).2.1,I64 z)/\(kL o).1.length < 4611686018427387904/\(kL o).2.1.length < 4611686018427387904:=by
 obtain ⟨i0,i1,i2,i3,i4,i5,i6,i7,i8⟩:=h;unfold lW.f kL;by_cases h0:o.f0=0
 . rw [if_pos h0,auc (by omega) i2,Option.bind_some];simp only [if_pos h0];have:(∀ z ∈ (aaD o.f2).1,I64 z)/\(aaD o.f2).1.length < 4611686018427387904:=by
     unfold aaD;split
     . exact ⟨by simp,by simp⟩
     . refine ⟨fun z hz => ?_,?_⟩
       . obtain ⟨t,_,rfl⟩:=List.mem_map.1 hz;have:=ayQ o.f2 ((t:Int) - (3*o.f2+65535) / 65536);constructor <;> omega
       . unfold ajI;rw [List.length_map,List.length_range];omega
   exact ⟨trivial,this.1,this.1,this.2,this.2⟩
 rw [if_neg h0];simp only [if_neg h0];by_cases h1:o.f0=1
 . rw [if_pos h1,ap3 (by omega) i3,Option.bind_some];simp only [if_pos h1];have:(∀ z ∈ (abB o.f3).1,I64 z)/\(abB o.f3).1.length < 4611686018427387904:=by
     unfold abB;split
     . exact ⟨by simp,by simp⟩
     . exact aiO _ (by rw [List.length_replicate];omega)
   exact ⟨trivial,this.1,this.1,this.2,this.2⟩
 rw [if_neg h1,adK (by omega) l4 i4,Option.bind_some];simp only [if_neg h1];have a:=aiO o.f4 l4;have b:=aiO o.f5 l5;by_cases c:(pW o.f4).2=0
 . rw [if_pos c,adK (by omega) l5 i5,Option.bind_some];simp only [if_pos c];exact ⟨trivial,a.1,b.1,a.2,b.2⟩
 . rw [if_neg c];simp only [if_neg c];exact ⟨trivial,by simp,by simp,by simp,by simp⟩
def oW (n:Int):Prop:=1<=n/\n<=65536
instance (n:Int):Decidable (oW n):=by unfold oW;exact inferInstance
instance (o:S47):Decidable (ab6 o):=by unfold ab6;exact inferInstance
def mJ (o:S47) (W:Int):Tab:=if o.f0=3 then jc o.f6 W o.f7 o.f7.toNat else jv W (((kL o).1.length / 2:Nat):Int) (jB (kL o).1) W.toNat
def mM (o:S47) (H:Int):Tab:=if o.f0=3 then jc o.f6 H o.f8 o.f8.toNat else jv H (((kL o).2.1.length / 2:Nat):Int) (jB (kL o).2.1) H.toNat
def afC (o:S47) (W:Int):Int:=if o.f0=3 then iY o.f6 W o.f7 0 o.f7.toNat else jG (kL o).1 W
def ahS (o:S47) (H:Int):Int:=if o.f0=3 then iY o.f6 H o.f8 0 o.f8.toNat else jG (kL o).2.1 H
def jD (o:S47) (W H:Int):Int:=if ab6 o/\oW W/\oW H then if o.f0≠3/\(kL o).2.2≠0 then (kL o).2.2 else if afC o W=0 then ahS o H else afC o W else 6
def ahT (o:S47) (W H:Int) (w:World) (e:Ending) (w':World):Prop:=if jD o W H=0 then ajK (mJ o W) (mM o H) o.f1 w e w' else ahR (jD o W H) w e w'
theorem zo {o:S47} {W H c:Int} (he:jD o W H=c) (hc:c≠0) {w:World} {e:Ending} {w':World} (h:ahR c w e w'):ahT o W H w e w':=by unfold ahT;rw [if_neg (by rw [he];exact hc),he];exact h
theorem aml {o:S47} {W H:Int} {tx ty:Tab} {w:World} {e:Ending} {w':World} (he:jD o W H=0) (hx:mJ o W=tx) (hy:mM o H=ty) (h:ajK tx ty o.f1 w e w'):ahT o W H w e w':=by unfold ahT;rw [if_pos he,hx,hy];exact h
theorem make_is (o:S47) (W H:Int) (A4:Option Addr) (c4:Nat) (A5:Option Addr) (c5:Nat) (w:World) (hG:GL w) (hI:opI o) (hx:Kd.C (Kd.int .i64) w A4 o.f4.length o.f4) (lx:o.f4.length<=c4) (hy:Kd.C (Kd.int .i64) w A5 o.f5.length o.f5) (ly:o.f5.length<=c5) (l4:o.f4.length < 4611686018427387904) (l5:o.f5.length < 4611686018427387904) :
   Calls Tryz.prog 51 #[opV o.f0 o.f1 o.f2 o.f3 A4 o.f4.length c4 A5 o.f5.length c5 o.f6 o.f7 o.f8,.int .i64 W,.int .i64 H] w (ahT o W H w):=by
 by_cases ho:ab6 o;rotate_left
 . exact (auf o.f0 o.f1 o.f2 o.f3 A4 c4 o.f4 A5 c5 o.f5 o.f6 o.f7 o.f8 W H w hG hx lx hy ly (as6 o ho)).mono (fun e w' h=>zo (by unfold jD oW;rw [if_neg (fun h=>ho h.1)]) (by decide) h)
 have hm:=afA 0 (k:=o.f0) (b:=o.f1) (s:=o.f2) (r:=o.f3) (x:=o.f4) (y:=o.f5) (f:=o.f6) (w:=o.f7) (h:=o.f8) ⟨ho.1,ho.2.1⟩ ⟨ho.2.2.1,ho.2.2.2.1⟩ ho.2.2.2.2;by_cases hW:1<=W/\W<=65536;rotate_left
 . exact (aug o.f0 o.f1 o.f2 o.f3 A4 c4 o.f4 A5 c5 o.f5 o.f6 o.f7 o.f8 W H w hG hx lx hy ly hm hW).mono (fun e w' h=>zo (by unfold jD oW;rw [if_neg (fun h=>hW h.2.1)]) (by decide) h)
 by_cases hH:1<=H/\H<=65536;rotate_left
 . exact (auh o.f0 o.f1 o.f2 o.f3 A4 c4 o.f4 A5 c5 o.f5 o.f6 o.f7 o.f8 W H w hG hx lx hy ly hm hW hH).mono (fun e w' h=>zo (by unfold jD oW;rw [if_neg (fun h=>hH h.2.2)]) (by decide) h)
 obtain ⟨N1,rfl⟩:∃ N:Nat,W=N:=⟨W.toNat,by omega⟩;obtain ⟨N2,rfl⟩:∃ N:Nat,H=N:=⟨H.toNat,by omega⟩;by_cases h3:o.f0=3
 . obtain ⟨m1,m2,m3,m4,m5,m6⟩:=ho.2.2.2.2 h3;obtain ⟨M1,e1⟩:∃ M:Nat,o.f7=M:=⟨o.f7.toNat,by omega⟩;obtain ⟨M2,e2⟩:∃ M:Nat,o.f8=M:=⟨o.f8.toNat,by omega⟩;have q1:okR o.f6 N1 M1:=⟨m5,m6,hW.1,hW.2,by omega,by omega⟩;have q2:okR o.f6 N2 M2:=⟨m5,m6,hH.1,hH.2,by omega,by omega⟩;have hs:jD o N1 N2=if iY o.f6 N1 M1 0 M1=0 then iY o.f6 N2 M2 0 M2 else iY o.f6 N1 M1 0 M1:=by
     unfold jD afC ahS;rw [if_pos ⟨ho,hW,hH⟩,if_neg (fun h=>h.1 h3),if_pos h3,if_pos h3,e1,e2];rfl
   by_cases k1:iY o.f6 N1 M1 0 M1=0
   . rw [if_pos k1] at hs;by_cases k2:iY o.f6 N2 M2 0 M2=0
     . refine (ahQ o.f0 o.f1 o.f2 o.f3 A4 c4 o.f4 A5 c5 o.f5 o.f6 o.f7 o.f8 N1 N2 (jc o.f6 N1 M1 M1) (jc o.f6 N2 M2 M2) w hG hx lx hy ly hm hW hH (fun w' hb => ?_)).mono (fun e w' h=>aml (hs.trans k2) (by unfold mJ;rw [if_pos h3,e1];rfl) (by unfold mM;rw [if_pos h3,e2];rfl) h);rw [h3,e1,e2];exact af9 o.f1 o.f2 o.f3 A4 _ c4 A5 _ c5 o.f6 N1 N2 M1 M2 w' (hG.below hb) q1 q2 k1 k2
     . refine (adO o.f0 o.f1 o.f2 o.f3 A4 c4 o.f4 A5 c5 o.f5 o.f6 o.f7 o.f8 N1 N2 _ w hG hx lx hy ly hm hW hH k2 (fun w' hb => ?_)).mono (fun e w' h=>zo hs k2 h);rw [h3,e1,e2];exact aij o.f1 o.f2 o.f3 A4 _ c4 A5 _ c5 o.f6 N1 N2 _ M1 M2 w' (hG.below hb) q1 q2 k1 rfl k2
   . rw [if_neg k1] at hs;refine (adO o.f0 o.f1 o.f2 o.f3 A4 c4 o.f4 A5 c5 o.f5 o.f6 o.f7 o.f8 N1 N2 _ w hG hx lx hy ly hm hW hH k1 (fun w' hb => ?_)).mono (fun e w' h=>zo hs k1 h);rw [h3,e1,e2];exact aii o.f1 o.f2 o.f3 A4 _ c4 A5 _ c5 o.f6 N1 N2 _ M1 M2 w' (hG.below hb) q1 q2 rfl k1
 . obtain ⟨hw,hu,hv,lu,lv⟩:=afB o hI l4 l5;have n1:1<=N1/\N1<=65536:=(by omega);have n2:1<=N2/\N2<=65536:=(by omega);have hs:jD o N1 N2=if (kL o).2.2=0 then if jG (kL o).1 N1=0 then jG (kL o).2.1 N2 else jG (kL o).1 N1 else (kL o).2.2:=by
     unfold jD afC ahS;rw [if_pos ⟨ho,hW,hH⟩,if_neg h3,if_neg h3];by_cases c:(kL o).2.2=0
     . rw [if_neg (fun h=>h.2 c),if_pos c]
     . rw [if_pos ⟨h3,c⟩,if_neg c]
   have tx:mJ o N1=jv N1 (((kL o).1.length / 2:Nat):Int) (jB (kL o).1) N1:=(by unfold mJ;rw [if_neg h3];rfl);have ty:mM o N2=jv N2 (((kL o).2.1.length / 2:Nat):Int) (jB (kL o).2.1) N2:=(by unfold mM;rw [if_neg h3];rfl);generalize (kL o).1=u at *
   generalize (kL o).2.1=v at *
   generalize (kL o).2.2=c at *
   by_cases hc:c=0;rotate_left
   . rw [if_neg hc] at hs;exact (adO o.f0 o.f1 o.f2 o.f3 A4 c4 o.f4 A5 c5 o.f5 o.f6 o.f7 o.f8 N1 N2 c w hG hx lx hy ly hm hW hH hc (fun w' hb=>aik _ o.f0 o.f1 o.f2 o.f3 A4 c4 o.f4 A5 c5 o.f5 o.f6 o.f7 o.f8 c N1 N2 u v w' (Kd.bD hx hb) lx (Kd.bD hy hb) ly h3 hw hc)).mono (fun e w' h=>zo hs hc h)
   subst hc;rw [if_pos rfl] at hs;by_cases k1:jG u N1=0
   . rw [if_pos k1] at hs;by_cases k2:jG v N2=0
     . exact (ahQ o.f0 o.f1 o.f2 o.f3 A4 c4 o.f4 A5 c5 o.f5 o.f6 o.f7 o.f8 N1 N2 _ _ w hG hx lx hy ly hm hW hH (fun w' hb=>aga _ o.f0 o.f1 o.f2 o.f3 A4 c4 o.f4 A5 c5 o.f5 o.f6 o.f7 o.f8 N1 N2 u v w' (Kd.bD hx hb) lx (Kd.bD hy hb) ly h3 hw hu hv lu lv n1 n2 k1 k2)).mono (fun e w' h=>aml (hs.trans k2) tx ty h)
     . exact (adO o.f0 o.f1 o.f2 o.f3 A4 c4 o.f4 A5 c5 o.f5 o.f6 o.f7 o.f8 N1 N2 _ w hG hx lx hy ly hm hW hH k2 (fun w' hb=>ain _ o.f0 o.f1 o.f2 o.f3 A4 c4 o.f4 A5 c5 o.f5 o.f6 o.f7 o.f8 _ N1 N2 u v w' (Kd.bD hx hb) lx (Kd.bD hy hb) ly h3 hu hv lu lv n1 n2 hw k1 rfl k2)).mono (fun e w' h=>zo hs k2 h)
   . rw [if_neg k1] at hs;exact (adO o.f0 o.f1 o.f2 o.f3 A4 c4 o.f4 A5 c5 o.f5 o.f6 o.f7 o.f8 N1 N2 _ w hG hx lx hy ly hm hW hH k1 (fun w' hb=>ail _ o.f0 o.f1 o.f2 o.f3 A4 c4 o.f4 A5 c5 o.f5 o.f6 o.f7 o.f8 _ N1 N2 u v w' (Kd.bD hx hb) lx (Kd.bD hy hb) ly h3 hu hv lu lv n1 n2 hw rfl k1)).mono (fun e w' h=>zo hs k1 h)
theorem ax1 (o:S47) (W H:Int):adw.f o.f0 o.f1 o.f2 o.f3 o.f4 o.f5 o.f6 o.f7 o.f8 W H=some ((qC o W H).1,(qC o W H).2):=by
 unfold adw.f qC;split <;> rfl
def oQ (l:List S47) (a b:Int):Nat->Int × Int
  | 0=>(a,b)
  | i+1=>qC (fG l i) (oQ l a b i).1 (oQ l a b i).2
theorem ax2:(Tryz.prog.info? 38).map (fun i=>(i.zero,i.size,i.bytes))=some (some (.agg #[.pointer none,.pointer none,.int .i64 0]),3,24):=by kernel_rfl
theorem fits_any (a b c:Int):∃ r,kX.f a b c=some r:=by
 unfold kX.f;repeat' split
 all_goals exact ⟨_,rfl⟩
def ahU (l:List S47) (a b:Int) (i:Nat):Stg:=⟨mJ (fG l i) (oQ l a b i).1,mM (fG l i) (oQ l a b i).2,(fG l i).f1⟩
def jm (l:List S47) (a b:Int) (n:Nat):List Stg:=(List.range n).map (ahU l a b)
theorem ajL (l:List S47) (a b:Int) (n:Nat):(jm l a b n).length=n:=by unfold jm;rw [List.length_map,List.length_range]
def abC (a b c:Int):Bool:=(kX.f a b c).getD false
theorem ap8 (a b c:Int):kX.f a b c=some (abC a b c):=by
 obtain ⟨r,h⟩:=fits_any a b c;unfold abC;rw [h];rfl
def uT (l:List S47) (ch a b:Int):Nat->Nat->Int
  | _,0=>0
  | i,d+1=>if jD (fG l i) (oQ l a b i).1 (oQ l a b i).2=0 then if abC (oQ l a b (i+1)).1 (oQ l a b (i+1)).2 ch=true then uT l ch a b (i+1) d else 5 else jD (fG l i) (oQ l a b i).1 (oQ l a b i).2
def qW (l:List S47) (a b ch:Int):Int:=if (16:Int) < (l.length:Int) then 6 else if abC a b ch=true then uT l ch a b 0 l.length else 5
def aq6 (l:List S47) (a b ch:Int) (w:World) (e:Ending) (w':World):Prop:=Below w.heap.size w w' /\
  if qW l a b ch=0 then ∃ v,e = .returned (.tuple #[v,.int .i64 0])/\adP.R 38 w' w.heap.size (fun _=>True) v (jm l a b l.length) else e = .returned (.tuple #[.slice none 0 0,.int .i64 (qW l a b ch)])
theorem ahV {l:List S47} {a b ch c:Int} (he:qW l a b ch=c) (hc:c≠0) {w w':World} (hb:Below w.heap.size w w'):aq6 l a b ch w (.returned (.tuple #[.slice none 0 0,.int .i64 c])) w':=⟨hb,by rw [if_neg (by rw [he];exact hc),he]⟩
theorem auk {l:List S47} {a b ch:Int} (he:qW l a b ch=0) {w w':World} (hb:Below w.heap.size w w') {v:Value} (hr:adP.R 38 w' w.heap.size (fun _=>True) v (jm l a b l.length)):aq6 l a b ch w (.returned (.tuple #[v,.int .i64 0])) w':=⟨hb,by rw [if_pos he];exact ⟨v,rfl,hr⟩⟩
theorem ayW (l:List S47) (A0:Option Addr) (c0:Nat) (a b ch:Int) (w:World) (hG:GL w) (hr:Kd.C k47 w A0 l.length l) (hc:l.length<=c0) (hI:∀ j:Nat,j < l.length->opI (fG l j)/\(fG l j).f4.length < 4611686018427387904/\(fG l j).f5.length < 4611686018427387904) :
   Calls Tryz.prog 14 #[.slice A0 l.length c0,.int .i64 a,.int .i64 b,.int .i64 ch] w (aq6 l a b ch w):=by
 have HG:=aj.mk hG;have HR:=aj.mk hr;have HC:=aj.mk hc;have HI:=aj.mk hI;have lm:=hr.2.1;clear hG hr hc hI;have mixed:Tryz.prog.follows .mixedOrders=true:=(by kernel_rfl);by_cases h16:(16:Int) < (l.length:Int)
 . have b16:decide ((16:Int) < (l.length:Int))=true:=decide_eq_true h16;have aiP:decide (16 < l.length)=true:=decide_eq_true (by omega);go_enter Tryz.func14,Tryz.ntmps14;go_wp2;go_ret2;exact ahV (by unfold qW;exact if_pos h16) (by decide) (Below.refl _ _)
 have b16:decide ((16:Int) < (l.length:Int))=false:=decide_eq_false h16;have aiP:decide (16 < l.length)=false:=decide_eq_false (by omega);have hf:=ap8 a b ch;obtain ⟨r,hr⟩:∃ r,r=abC a b ch:=⟨_,rfl⟩;rw [<- hr] at hf;have HF:=aj.mk hf;have HRR:=aj.mk hr;have HNN:=aj.mk h16;clear hf hr;cases r
 . go_enter Tryz.func14,Tryz.ntmps14;go_wp2_with (go_at_call 54;(with_reducible refine (kX.calls a b ch _ _ HF.out).mono ?_);rintro e w' ⟨rfl,⟨nd,rfl⟩⟩);go_ret2;exact ahV (by unfold qW;rw [if_neg (by have:=HNN.out;omega),<- HRR.out];rfl) (by decide) (by repeat (first|(with_reducible first|exact Below.refl _ _|apply aJ|apply bC)|exact Below.refl _ _))
 go_enter Tryz.func14,Tryz.ntmps14;go_wp2_with (go_at_call 54;(with_reducible refine (kX.calls a b ch _ _ HF.out).mono ?_);rintro e w' ⟨rfl,⟨nd,rfl⟩⟩);have HCD:=aj.mk (show qW l a b ch=uT l ch a b 0 l.length by unfold qW;rw [if_neg (by have:=HNN.out;omega),<- HRR.out];rfl);clear HF HRR HNN;obtain ⟨n,hn⟩:∃ n,n=l.length:=⟨_,rfl⟩;rw [<- hn] at b16 aiP h16 lm ⊢;have HN:=aj.mk hn;rw [<- hn] at HCD;clear hn b16 aiP;go_loopg [1,2,10,27] n (fun kx s1 s2 s10 s27 wr=>∃ (i:Nat) (W H:Int) (ss:List Stg),s27 = .int .i64 i/\s1 = .int .i64 W/\s2 = .int .i64 H/\i<=n/\n - i<=kx/\aj (oQ l a b i=(W,H))/\aj (Below w.heap.size w wr)/\aj (adP.R 38 wr w.heap.size (fun _=>True) s10 ss)/\aj (ss=jm l a b i)/\aj (qW l a b ch=uT l ch a b i (n - i)))
 case atStart =>
   refine ⟨0,a,b,[],rfl,rfl,rfl,by omega,by omega,⟨rfl⟩,⟨?_⟩,⟨Kd.kJ _ _ _ _ _⟩,⟨rfl⟩,HCD⟩;repeat (first|(with_reducible first|exact Below.refl _ _|apply aK|apply aJ|apply bC)|exact Below.refl _ _)
 case round =>
   obtain ⟨i,W,H,ss,rfl,rfl,rfl,i1,i2,HS,HB,HO,HL,HK⟩:=hrel;have wi:IntKind.i64.wrap ((i:Int)+1)=(i:Int)+1:=(by rw [mX];exact aC (by omega) (by omega));by_cases hlt:(i:Int) < (n:Int);rotate_left
   . have him:i=n:=(by omega);subst him;have hz:qW l a b ch=0:=(by rw [HK.out,Nat.sub_self];rfl);have HZ:=aj.mk hz;clear hz;go_wp2;go_ret2;exact auk HZ.out HB.out (by rw [<- HN.out,<- HL.out];exact HO.out)
   have p1:(0<=(i:Int)):=(by omega);obtain ⟨hio,hi4,hi5⟩:=HI.out i (by have:=HN.out;omega);obtain ⟨ad,A4,c4,A5,c5,e0,x0,x1,x2,x3,x4,x5,x6,x7,x8,l4,g4,l5,g5⟩:=anT (Kd.bD HR.out HB.out) (i:Int) p1 (by have:=HN.out;omega);cases e0;obtain ⟨o,ho⟩:∃ o,o=fG l (i:Int):=⟨_,rfl⟩;rw [<- ho] at hio hi4 hi5 x0 x1 x2 x3 x4 x5 x6 x7 x8 l4 g4 l5 g5;obtain ⟨p,hp⟩:∃ p,p=o.f4.length:=⟨_,rfl⟩;obtain ⟨q,hq⟩:∃ q,q=o.f5.length:=⟨_,rfl⟩;have hmk:=fun w' (hb:Below wr.heap.size wr w')=>make_is o W H A4 c4 A5 c5 w' (HG.out.below (ak HB.out hb)) hio (Kd.bD g4 hb) l4 (Kd.bD g5 hb) l5 hi4 hi5;have hsz:=fun w' (hb:Below wr.heap.size wr w')=>adw.calls o.f0 o.f1 o.f2 o.f3 A4 c4 o.f4 A5 c5 o.f5 o.f6 o.f7 o.f8 W H (qC o W H).1 (qC o W H).2 w' (Kd.bD g4 hb) l4 (Kd.bD g5 hb) l5 (ax1 o W H);rw [<- hp,<- hq] at hmk hsz;rw [<- hp] at x4;rw [<- hq] at x5;have HMK:=aj.mk hmk;have HSZ:=aj.mk hsz;have HOO:=aj.mk ho;rw [Int.toNat_natCast] at x0 x1 x2 x3 x4 x5 x6 x7 x8;have q0:i < n:=(by omega);have qd:decide (i < n)=true:=decide_eq_true q0;clear hmk hsz ho hp hq hio hi4 hi5 l4 g4 l5 g5;unfold opV at HMK;unfold ahT at HMK;obtain ⟨c,hcc⟩:∃ c,c=jD o W H:=⟨_,rfl⟩;rw [<- hcc] at HMK;have HCC:=aj.mk hcc;have aoe:=aj.mk (show ahU l a b i=⟨mJ o W,mM o H,o.f1⟩ by unfold ahU;rw [HS.out,<- HOO.out]);have hcd:uT l ch a b i (n - i)=if c=0 then if abC (qC o W H).1 (qC o W H).2 ch=true then uT l ch a b (i+1) (n - (i+1)) else 5 else c:=by
     rw [show n - i=(n - (i+1))+1 by omega,uT,oQ,HS.out,<- HOO.out,<- HCC.out]
   have HCF:=aj.mk (HK.out.trans hcd);clear hcc hcd HK;obtain ⟨tx,htx⟩:∃ t,t=mJ o W:=⟨_,rfl⟩;obtain ⟨ty,hty⟩:∃ t,t=mM o H:=⟨_,rfl⟩;rw [<- htx,<- hty] at HMK aoe;clear htx hty;go_upto_region 9 with fail;have hr:=heap_alloc_new wr (.cells #[.int .i64 o.f0,.int .i64 o.f1,.int .i64 o.f2,.int .i64 o.f3,.slice A4 p c4,.slice A5 q c5,.int .i64 o.f6,.int .i64 o.f7,.int .i64 o.f8] 47);have BA:=aj.mk (aK (Below.refl wr.heap.size wr) (.cells #[.int .i64 o.f0,.int .i64 o.f1,.int .i64 o.f2,.int .i64 o.f3,.slice A4 p c4,.slice A5 q c5,.int .i64 o.f6,.int .i64 o.f7,.int .i64 o.f8] 47));obtain ⟨g,hg⟩:∃ g,g=wr.heap.size:=⟨_,rfl⟩;rw [<- hg] at hr ⊢;generalize wr.alloc (.cells #[.int .i64 o.f0,.int .i64 o.f1,.int .i64 o.f2,.int .i64 o.f3,.slice A4 p c4,.slice A5 q c5,.int .i64 o.f6,.int .i64 o.f7,.int .i64 o.f8] 47)=w2 at hr BA ⊢;have z0:w2.cell? ⟨g,0,none⟩=some (.int .i64 o.f0):=(au hr 0).trans rfl;have z1:w2.cell? ⟨g,1,none⟩=some (.int .i64 o.f1):=(au hr 1).trans rfl;have z2:w2.cell? ⟨g,2,none⟩=some (.int .i64 o.f2):=(au hr 2).trans rfl;have z3:w2.cell? ⟨g,3,none⟩=some (.int .i64 o.f3):=(au hr 3).trans rfl;have z4:w2.cell? ⟨g,4,none⟩=some (.slice A4 p c4):=(au hr 4).trans rfl;have z5:w2.cell? ⟨g,5,none⟩=some (.slice A5 q c5):=(au hr 5).trans rfl;have z6:w2.cell? ⟨g,6,none⟩=some (.int .i64 o.f6):=(au hr 6).trans rfl;have z7:w2.cell? ⟨g,7,none⟩=some (.int .i64 o.f7):=(au hr 7).trans rfl;have z8:w2.cell? ⟨g,8,none⟩=some (.int .i64 o.f8):=(au hr 8).trans rfl;have HR2:=aj.mk hr;have HGG:=aj.mk hg;clear x0 x1 x2 x3 x4 x5 x6 x7 x8 hr hg;by_cases hc0:c=0;rotate_left
   . have bc1:(c == 0)=false:=(by simpa using hc0);have bc2:(c != 0)=true:=(by simpa using hc0);have HC0:=aj.mk hc0;have HZ:=aj.mk (show qW l a b ch=c by rw [HCF.out,if_neg hc0]);simp only [if_neg hc0] at HMK;clear hc0;go_upto_region 10 with (go_at_call 51;refine (HMK.out _ BA.out).mono ?_;rintro e w4 ⟨hb4,rfl⟩;have B4:=aj.mk (ak BA.out hb4);clear hb4);clear z0 z1 z2 z3 z4 z5 z6 z7 z8;go_wp2;go_ret2;exact ahV HZ.out HC0.out (aK (ak HB.out B4.out) _)
   simp only [if_pos hc0] at HMK;rw [if_pos hc0] at HCF;subst hc0;go_upto_region 10 with (go_at_call 51;refine (HMK.out _ BA.out).mono ?_;rintro e w4 ⟨hb4,bx,bz,rfl,hx,hz⟩;have B4:=aj.mk (ak BA.out hb4);have HB4:=aj.mk hb4;have HXX:=aj.mk hx;have HZZ:=aj.mk hz;clear hb4 hx hz);clear z0 z1 z2 z3 z4 z5 z6 z7 z8;have hx:=HXX.out;have hz:=HZZ.out;clear HXX HZZ;obtain ⟨st,hst⟩:∃ st:Stg,st=⟨tx,ty,o.f1⟩:=⟨_,rfl⟩;have hM:=auj (s:=⟨tx,ty,o.f1⟩) hx hz;rw [<- hst] at hM;have hr5:=heap_alloc_new w4 (.cells #[.pointer (some ⟨bx,0,none⟩),.pointer (some ⟨bz,0,none⟩),.int .i64 o.f1] 38);have B5:=aj.mk (aK HB4.out (.cells #[.pointer (some ⟨bx,0,none⟩),.pointer (some ⟨bz,0,none⟩),.int .i64 o.f1] 38));have HM5:=aj.mk (Kd.abX hM (aK (Below.refl w4.heap.size w4) (.cells #[.pointer (some ⟨bx,0,none⟩),.pointer (some ⟨bz,0,none⟩),.int .i64 o.f1] 38)));have HST:=aj.mk hst;obtain ⟨r,hrr⟩:∃ r,r=w4.heap.size:=⟨_,rfl⟩;rw [<- hrr] at hr5 ⊢;generalize w4.alloc (.cells #[.pointer (some ⟨bx,0,none⟩),.pointer (some ⟨bz,0,none⟩),.int .i64 o.f1] 38)=w5 at hr5 B5 HM5 ⊢;have HR5:=aj.mk hr5;have hq5:=(B5.out.block g (bI HR2.out)).trans HR2.out;have z0:w5.cell? ⟨g,0,none⟩=some (.int .i64 o.f0):=(au hq5 0).trans rfl;have z1:w5.cell? ⟨g,1,none⟩=some (.int .i64 o.f1):=(au hq5 1).trans rfl;have z2:w5.cell? ⟨g,2,none⟩=some (.int .i64 o.f2):=(au hq5 2).trans rfl;have z3:w5.cell? ⟨g,3,none⟩=some (.int .i64 o.f3):=(au hq5 3).trans rfl;have z4:w5.cell? ⟨g,4,none⟩=some (.slice A4 p c4):=(au hq5 4).trans rfl;have z5:w5.cell? ⟨g,5,none⟩=some (.slice A5 q c5):=(au hq5 5).trans rfl;have z6:w5.cell? ⟨g,6,none⟩=some (.int .i64 o.f6):=(au hq5 6).trans rfl;have z7:w5.cell? ⟨g,7,none⟩=some (.int .i64 o.f7):=(au hq5 7).trans rfl;have z8:w5.cell? ⟨g,8,none⟩=some (.int .i64 o.f8):=(au hq5 8).trans rfl;obtain ⟨W1,hW1⟩:∃ W1,W1=(qC o W H).1:=⟨_,rfl⟩;obtain ⟨H1,hH1⟩:∃ H1,H1=(qC o W H).2:=⟨_,rfl⟩;rw [<- hW1,<- hH1] at HSZ HCF;have HWH:=aj.mk (And.intro hW1 hH1);have hf:=ap8 W1 H1 ch;obtain ⟨rb,hrb⟩:∃ r,r=abC W1 H1 ch:=⟨_,rfl⟩;rw [<- hrb] at hf HCF;have HF:=aj.mk hf;clear hrb;have HB5:=aj.mk (ak BA.out B5.out);clear hx hz hst hM hrr hr5 hq5 hW1 hH1 hf HMK B4;cases rb
   . go_wp2_with (first
       | (go_at_call 55;(with_reducible refine (HSZ.out _ HB5.out).mono ?_);rintro e w6 ⟨rfl,hb6⟩;have HB6:=aj.mk (ak HB5.out hb6);clear hb6)
       | (go_at_call 54;(with_reducible refine (kX.calls W1 H1 ch _ _ HF.out).mono ?_);rintro e w' ⟨rfl,⟨nd2,rfl⟩⟩))
     go_ret2;exact ahV (HCF.out.trans (by simp)) (by decide) (by repeat (first|(with_reducible first|exact ak HB.out HB6.out|apply aJ|apply bC)|exact ak HB.out HB6.out))
   go_upto_region 15 with (first
       | (go_at_call 55;(with_reducible refine (HSZ.out _ HB5.out).mono ?_);rintro e w6 ⟨rfl,hb6⟩;have HB6:=aj.mk (ak HB5.out hb6);have hq6:=(hb6.block r (bI HR5.out)).trans HR5.out;have HQ6:=aj.mk hq6;have HM6:=aj.mk (Kd.abX HM5.out hb6);clear hb6 hq6)
       | (go_at_call 54;(with_reducible refine (kX.calls W1 H1 ch _ _ HF.out).mono ?_);rintro e w' ⟨rfl,⟨nd2,rfl⟩⟩))
   have hq7:(w6.drewN nd2).heap[r]? = some (.cells #[.pointer (some ⟨bx,0,none⟩),.pointer (some ⟨bz,0,none⟩),.int .i64 o.f1] 38 (0,0)):=(by simpa using HQ6.out);have B7:=aj.mk (aJ HB6.out nd2);have HM7:=aj.mk (Kd.abX HM6.out (aJ (Below.refl w6.heap.size w6) nd2));generalize w6.drewN nd2=w7 at hq7 B7 HM7 ⊢;have y0:w7.cell? ⟨r,0,none⟩=some (.pointer (some ⟨bx,0,none⟩)):=(au hq7 0).trans rfl;have y1:w7.cell? ⟨r,1,none⟩=some (.pointer (some ⟨bz,0,none⟩)):=(au hq7 1).trans rfl;have y2:w7.cell? ⟨r,2,none⟩=some (.int .i64 o.f1):=(au hq7 2).trans rfl;have HO7:=aj.mk (Kd.jF HO.out B7.out);have BW7:=aj.mk (ak HB.out B7.out);have HSS:=aj.mk (show ss.length<=16 by rw [HL.out,ajL];omega);have HEQ:=aj.mk (show st.bd=o.f1 by rw [HST.out]);have HPM:=aj.mk (show adP.M w7 w.heap.size (fun k=>w2.heap.size<=k/\k < w4.heap.size) st [.pointer (some ⟨bx,0,none⟩),.pointer (some ⟨bz,0,none⟩),.int .i64 o.f1] by have h:=adP.rZ (Nat.le_trans HB.out.size BA.out.size) HM7.out;rw [HEQ.out] at h;exact h)
   have HOK:=aj.mk (show ∀ k,(w2.heap.size<=k/\k < w4.heap.size)->True/\some k≠u10.ownBlock by
     intro k hk;refine ⟨trivial,fun h => ?_⟩;have h1:=(Kd.lg HO.out).1 k h.symm;have h2:=BA.out.size;omega)
   clear z0 z1 z2 z3 z4 z5 z6 z7 z8 hq7;go_upto_region 16 with (at_builtin;refine Kd.lU adP (w0:=w) w.heap.size rfl (.tmp 53) (.tmp 55) 25 38 (.agg #[.pointer none,.pointer none,.int .i64 0]) 24 rfl Tryz.underlying25 ax2 rfl (by decide) (by omega) u10 ss st [.pointer (some ⟨bx,0,none⟩),.pointer (some ⟨bz,0,none⟩),.int .i64 o.f1] (fun _=>True) (fun k=>w2.heap.size<=k/\k < w4.heap.size) rfl rfl HPM.out HOK.out (fun _ _=>trivial) HO7.out BW7.out BW7.out.size (by have:=HSS.out;omega) ?_;intro v1 w8 ho8 hb8 hg8 aof;have HO8:=aj.mk ho8;have HB8:=aj.mk hb8;clear ho8 hb8 hg8 aof);go_wp2;go_roundg (n - (i+1))
   case measure=>omega
   case rel =>
     refine ⟨i+1,W1,H1,ss ++ [st],by simp,rfl,rfl,by omega,Nat.le_refl _,⟨?_⟩,HB8,HO8,⟨?_⟩,⟨HCF.out.trans (by simp)⟩⟩
     . rw [oQ,HS.out,<- HOO.out,HWH.out.1,HWH.out.2]
     . rw [HL.out,HST.out,<- aoe.out];unfold jm;rw [List.range_succ,List.map_append];rfl
theorem ae8 (x a b:Int):qo.f x a b=some (mx a (mn x b)):=rfl
def bat (p j n:Int):Int:=if n < 1\/n > 65536 then 0 else if p=0 then mx 0 (mn j (n - 1)) else if p=1 then mn (j % (2*n)) (2*n - 1 - j % (2*n)) else if p=2 then j % n else 0
theorem agA {k:Nat} (hk:2<=k) {p j n:Int} (hj:I64 j) (hn:I64 n):oJ.f k p j n=some (bat p j n):=by
 obtain ⟨k,rfl⟩:∃ m,k=m+1:=⟨k - 1,by omega⟩;unfold oJ.f bat;simp only [oJ.j0];by_cases h0:n < 1
 . rw [if_pos h0,if_pos trivial,if_pos (Or.inl h0)]
 rw [if_neg h0];by_cases h1:n > 65536
 . rw [if_pos (decide_eq_true h1),if_pos (Or.inr h1)]
 rw [if_neg (show ¬ (decide (n > 65536)=true) from by simpa using h1),if_neg (show ¬ (n < 1\/n > 65536) from by omega)];rw [aC (show -9223372036854775808<=n - 1 from by omega) (by omega),aC (show -9223372036854775808<=2*n from by omega) (by omega)];by_cases p0:p=0
 . rw [if_pos p0,if_pos p0,ae8];rfl
 rw [if_neg p0,if_neg p0];by_cases p1:p=1
 . rw [if_pos p1,if_pos p1,adQ (by omega) hj (by omega)];simp only [Option.bind_some];have e:md j (2*n)=j % (2*n):=(by unfold md;rw [if_neg (by omega),if_pos (by omega)]);have r0:=Int.emod_nonneg j (show 2*n≠0 from by omega);have r1:=Int.emod_lt_of_pos j (show 0 < 2*n from by omega);rw [e];generalize j % (2*n)=r at *
   rw [aC (show -9223372036854775808<=2*n - 1 from by omega) (by omega),aC (by omega) (by omega)]
 rw [if_neg p1,if_neg p1];by_cases p2:p=2
 . rw [if_pos p2,if_pos p2,adQ (by omega) hj hn];simp only [Option.bind_some];unfold md;rw [if_neg (by omega),if_pos (by omega)]
 rw [if_neg p2,if_neg p2]
theorem emod_self {j n:Int} (h0:0<=j) (h1:j < n):j % n=j:=Int.emod_eq_of_lt h0 h1
theorem as7 {bd:Int} (hb:0<=bd/\bd < 3):∃ s,oN.f bd=some s/\s.toList.isEmpty=false:=by
 have:bd=0\/bd=1\/bd=2:=(by omega);rcases this with rfl|rfl|rfl
 . exact ⟨_,rfl,by kernel_rfl⟩
 . exact ⟨_,rfl,by kernel_rfl⟩
 . exact ⟨_,rfl,by kernel_rfl⟩
def stV (bx bz:Nat) (bd:Int):Value := .agg #[.pointer (some ⟨bx,0,none⟩),.pointer (some ⟨bz,0,none⟩),.int .i64 bd]
theorem aei (b bx bz:Nat) (m:Img) (tx ty:Tab) (bd:Int) (w:World) (hG:GL w) (hI:qX w b m) (hx:qN w bx tx) (hy:qN w bz ty) (e1:tx.n=m.w) (e2:ty.n=m.h) (hb:0<=bd/\bd < 3) :
   Calls Tryz.prog 39 #[.pointer (some ⟨b,0,none⟩),stV bx bz bd] w fun e w'=>e = .returned (.bool true)/\Below w.heap.size w w':=by
 obtain ⟨nm,n1,n3⟩:=as7 hb;have n2:¬ nm.toList=[]:=fun h=>by rw [h] at n3;exact absurd n3 (by decide)
 have W1:=aj.mk (fun w' (h:Below w.heap.size w w')=>wR b m w' (hI.below h));have W2:=aj.mk (fun w' (h:Below w.heap.size w w')=>uU b m w' (hI.below h));have F1:=aj.mk (fun w' (h:Below w.heap.size w w')=>ac8 bx tx w' (hx.below h));have F2:=aj.mk (fun w' (h:Below w.heap.size w w')=>ac8 bz ty w' (hy.below h));have NM:=aj.mk (fun w' (h:Below w.heap.size w w')=>oN.calls bd nm w' (hG.below h) n1);rw [e1] at F1;rw [e2] at F2;have hr:=heap_alloc_new w (.cells #[.pointer (some ⟨bx,0,none⟩),.pointer (some ⟨bz,0,none⟩),.int .i64 bd] 38);have BX:=aj.mk (aK (Below.refl w.heap.size w) (.cells #[.pointer (some ⟨bx,0,none⟩),.pointer (some ⟨bz,0,none⟩),.int .i64 bd] 38));obtain ⟨mw,hmw⟩:∃ v,v=m.w:=⟨_,rfl⟩;obtain ⟨mh,hmh⟩:∃ v,v=m.h:=⟨_,rfl⟩;rw [<- hmw] at F1 W1;rw [<- hmh] at F2 W2;have HR:=aj.mk hr;clear hG hI hx hy e1 e2 hb n1 hr hmw hmh;unfold stV;go_enter Tryz.func39,Tryz.ntmps39;go_upto_region 1 with fail;obtain ⟨g,hg⟩:∃ g,g=w.heap.size:=⟨_,rfl⟩;rw [<- hg];have hr:=HR.out;rw [<- hg] at hr;clear hg HR;generalize w.alloc (.cells #[.pointer (some ⟨bx,0,none⟩),.pointer (some ⟨bz,0,none⟩),.int .i64 bd] 38)=w1 at hr BX ⊢;have z0:w1.cell? ⟨g,0,none⟩=some (.pointer (some ⟨bx,0,none⟩)):=(au hr 0).trans rfl;have z1:w1.cell? ⟨g,1,none⟩=some (.pointer (some ⟨bz,0,none⟩)):=(au hr 1).trans rfl;have z2:w1.cell? ⟨g,2,none⟩=some (.int .i64 bd):=(au hr 2).trans rfl;clear hr;have q1:(mw == mw)=true:=(by simp);have q2:(mh == mh)=true:=by simp
 go_wp2_with (first
   | (go_at_call 53;(with_reducible refine (F1.out _ BX.out).mono ?_);rintro e w' ⟨rfl,rfl⟩)
   | (go_at_call 53;(with_reducible refine (F2.out _ BX.out).mono ?_);rintro e w' ⟨rfl,rfl⟩)
   | (go_at_call 46;(with_reducible refine (W1.out _ BX.out).mono ?_);rintro e w' ⟨rfl,rfl⟩)
   | (go_at_call 45;(with_reducible refine (W2.out _ BX.out).mono ?_);rintro e w' ⟨rfl,rfl⟩)
   | (go_at_call 77;(with_reducible refine (NM.out _ BX.out).mono ?_);rintro e w' ⟨rfl,⟨nd,rfl⟩⟩))
 go_ret;exact ⟨rfl,aJ BX.out nd⟩
theorem aa1 (w:World) (o p:Obj):((w.alloc o).alloc p).heap[w.heap.size+1]? = some p:=uS _ _ _ (by simp)
theorem aa2 (w:World) (o p:Obj):((w.alloc o).alloc p).heap[w.heap.size]? = some o:=by rw [yw _ _ _ (by simp)];exact uS _ _ _ rfl
theorem ntl:∀ q,q ∈ 2 :: (Kd.int .i64).E->q≠71:=by intro q hq;simp [Kd.int,Kd.scalar] at hq;subst hq;decide
theorem set2 {w:World} {g:Nat} {t:TypeId} {a b:Value} (h:w.heap[g]? = some (.cells #[.int .i64 0,.slice none 0 0] t (0,0))):((w.setCell ⟨g,0,none⟩ a).setCell ⟨g,1,none⟩ b).heap[g]? = some (.cells #[a,b] t (0,0)):=(gW (gW h 0 a) 1 b).trans rfl
theorem aq7 {w:World} {g k:Nat} {t:TypeId} {cs:Array Value} {a b:Value} (h:w.heap[g]? = some (.cells cs t (0,0))) (hne:g≠k):((w.setCell ⟨k,0,none⟩ a).setCell ⟨k,1,none⟩ b).heap[g]? = some (.cells cs t (0,0)):=jV (jV h hne a) hne b
def Rows (w:World) (x:Value) (xs:List Int):Prop:=∃ base,(Kd.int .i64).R 2 w base (fun _=>True) x xs
theorem Rows.reads {w:World} {A:Option Addr} {c:Nat} {xs:List Int} (h:Rows w (.slice A xs.length c) xs):Kd.C (Kd.int .i64) w A xs.length xs:=by obtain ⟨_,h⟩:=h;exact (Kd.dL h).2.2
theorem Rows.alloc {w:World} {x:Value} {xs:List Int} (h:Rows w x xs) (o:Obj):Rows (w.alloc o) x xs:=by obtain ⟨_,h⟩:=h;exact ⟨_,Kd.aN h o⟩
theorem Rows.set2 {x:Value} {xs:List Int} {w:World} {g:Nat} {a b:Value} (h:Rows w x xs) (hb:w.heap[g]? = some (.cells #[.int .i64 0,.slice none 0 0] 71 (0,0))):Rows ((w.setCell ⟨g,0,none⟩ a).setCell ⟨g,1,none⟩ b) x xs:=by
 obtain ⟨_,h⟩:=h;exact ⟨_,Kd.awE (Kd.awE h hb ntl 0 a) (gW hb 0 a) ntl 1 b⟩
def agB (m:Img) (bd fx row b c:Int) (ts:List Int) (a0:Int):Nat->Int
  | 0=>a0
  | i+1=>wrap64 (agB m bd fx row b c ts a0 i+wrap64 (wrap64 (rd ts (i:Int)*b)*wrap64 (atV m (bat bd (fx+i) m.w) row c)))
def afD (m:Img) (bd fx fy c:Int) (tX tY:List Int):Nat->Int
  | 0=>0
  | k+1=>agB m bd fx (bat bd (fy+k) m.h) (rd tY (k:Int)) c tX (afD m bd fx fy c tX tY k) tX.length
def aaR (m:Img) (bd c:Int) (X Y:S71):Int:=afD m bd X.f0 Y.f0 c X.f1 Y.f1 Y.f1.length
theorem ap9 (b bx bz:Nat) (m:Img) (tx ty:Tab) (bd x y c:Int) (X Y:S71) (w:World) (hG:GL w) (hI:qX w b m) (hx:qN w bx tx) (hy:qN w bz ty) (e1:tx.n=m.w) (e2:ty.n=m.h) (hb:0<=bd/\bd < 3) (hc:0<=c/\c < m.c) (LX0:∀ w',Below w.heap.size w w'->Calls Tryz.prog 29 #[.pointer (some ⟨bx,0,none⟩),.int .i64 x] w' fun e w''=>∃ v,e = .returned (.agg #[.int .i64 X.f0,v])/\Kd.R (Kd.int .i64) 2 w'' w'.heap.size (fun _=>True) v X.f1/\Below w'.heap.size w' w'') (LY0:∀ w',Below w.heap.size w w'->Calls Tryz.prog 29 #[.pointer (some ⟨bz,0,none⟩),.int .i64 y] w' fun e w''=>∃ v,e = .returned (.agg #[.int .i64 Y.f0,v])/\Kd.R (Kd.int .i64) 2 w'' w'.heap.size (fun _=>True) v Y.f1/\Below w'.heap.size w' w'') (lx:X.f1.length<=2097152) (ly:Y.f1.length<=2097152) (B:sO m) (bx0 : -1099511627776<=X.f0/\X.f0<=1099511627776) (by0 : -1099511627776<=Y.f0/\Y.f0<=1099511627776) :
   Calls Tryz.prog 41 #[.pointer (some ⟨b,0,none⟩),stV bx bz bd,.int .i64 x,.int .i64 y,.int .i64 c] w fun e w'=>e = .returned (.int .i64 (aaR m bd c X Y))/\Below w.heap.size w w':=by
 have HII:=aj.mk (fun w' (h:Below w.heap.size w w')=>hI.below h);have HBB:=aj.mk B;have SU:=aj.mk (fun w' (h:Below w.heap.size w w')=>aei b bx bz m tx ty bd w' (hG.below h) (hI.below h) (hx.below h) (hy.below h) e1 e2 hb);have CH:=aj.mk (fun w' (h:Below w.heap.size w w')=>qI b m w' (hI.below h));have LX:=aj.mk LX0;have LY:=aj.mk LY0;obtain ⟨fx,hfx⟩:∃ v,v=X.f0:=⟨_,rfl⟩;obtain ⟨fy,hfy⟩:∃ v,v=Y.f0:=⟨_,rfl⟩;obtain ⟨tX,htX⟩:∃ v,v=X.f1:=⟨_,rfl⟩;obtain ⟨tY,htY⟩:∃ v,v=Y.f1:=⟨_,rfl⟩;unfold aaR;rw [<- hfx,<- htX,<- hfy,<- htY];rw [<- hfx] at bx0;rw [<- hfy] at by0;rw [<- htX] at lx;rw [<- htY] at ly;rw [<- hfx,<- htX] at LX;rw [<- hfy,<- htY] at LY;have HLN:=aj.mk (And.intro lx (And.intro ly (And.intro bx0 by0)));obtain ⟨nX,hnX⟩:∃ n,n=tX.length:=⟨_,rfl⟩;obtain ⟨nY,hnY⟩:∃ n,n=tY.length:=⟨_,rfl⟩;have HNN:=aj.mk (And.intro hnX hnY);obtain ⟨c0,c1⟩:=hc;have cn:¬ c < 0:=(by omega);have cm:¬ m.c<=c:=(by omega);obtain ⟨mc,hmc⟩:∃ v,v=m.c:=⟨_,rfl⟩;rw [<- hmc] at CH cm;have hr:=heap_alloc_new w (.cells #[.pointer (some ⟨bx,0,none⟩),.pointer (some ⟨bz,0,none⟩),.int .i64 bd] 38);have BX:=aj.mk (aK (Below.refl w.heap.size w) (.cells #[.pointer (some ⟨bx,0,none⟩),.pointer (some ⟨bz,0,none⟩),.int .i64 bd] 38));have HR:=aj.mk hr;have mixed:Tryz.prog.follows .mixedOrders=true:=(by kernel_rfl);clear hG hI hx hy e1 e2 hb hr hmc c1 LX0 LY0 lx ly bx0 by0 B hfx hfy htX htY hnX hnY;unfold stV at SU ⊢;go_enter Tryz.func41,Tryz.ntmps41;go_upto_region 1 with fail;obtain ⟨g,hg⟩:∃ g,g=w.heap.size:=⟨_,rfl⟩;rw [<- hg];have hr:=HR.out;rw [<- hg] at hr;clear hg HR;generalize w.alloc (.cells #[.pointer (some ⟨bx,0,none⟩),.pointer (some ⟨bz,0,none⟩),.int .i64 bd] 38)=w1 at hr BX ⊢;have z0:w1.cell? ⟨g,0,none⟩=some (.pointer (some ⟨bx,0,none⟩)):=(au hr 0).trans rfl;have z1:w1.cell? ⟨g,1,none⟩=some (.pointer (some ⟨bz,0,none⟩)):=(au hr 1).trans rfl;have z2:w1.cell? ⟨g,2,none⟩=some (.int .i64 bd):=(au hr 2).trans rfl;have HRR:=aj.mk hr;clear hr
 go_upto_region 3 with (first
   | (go_at_call 39;refine (SU.out _ BX.out).mono ?_;rintro e w2 ⟨rfl,hb2⟩;have B2:=aj.mk (ak BX.out hb2);have H2:=aj.mk ((hb2.block g (bI HRR.out)).trans HRR.out);clear hb2)
   | (go_at_call 47;(with_reducible refine (CH.out _ B2.out).mono ?_);rintro e w3 ⟨rfl,rfl⟩))
 clear z0 z1 z2 SU CH BX HRR;have HK:=aj.mk (fun w' (hb:Below w3.heap.size w3 w')=>(show Below w3.heap.size w3 w'/\w'.cell? ⟨g,0,none⟩=some (.pointer (some ⟨bx,0,none⟩))/\w'.cell? ⟨g,1,none⟩=some (.pointer (some ⟨bz,0,none⟩)) from ⟨hb,(au ((hb.block g (bI H2.out)).trans H2.out) 0).trans rfl,(au ((hb.block g (bI H2.out)).trans H2.out) 1).trans rfl⟩));obtain ⟨-,z0,z1⟩:=HK.out _ (Below.refl _ _);have LX2:=aj.mk (fun w' (hb:Below w3.heap.size w3 w')=>LX.out w' (ak B2.out hb));have LY2:=aj.mk (fun w' (hb:Below w3.heap.size w3 w')=>LY.out w' (ak B2.out hb));have S0:=Below.refl w3.heap.size w3;have glw:g < w3.heap.size:=bI H2.out;have gnw:=Nat.ne_of_lt glw;clear LX LY;go_cut [11,12] (fun v11 v12 wc=>∃ (gx gy:Nat) (Ax:Option Addr) (cx:Nat) (Ay:Option Addr) (cy:Nat),v11 = .pointer (some ⟨gx,0,none⟩)/\v12 = .pointer (some ⟨gy,0,none⟩)/\aj (∃ A,wc.heap[gx]? = some (.cells A 71 (0,0))/\A[0]? = some (.int .i64 fx)/\A[1]? = some (.slice Ax nX cx))/\aj (∃ A,wc.heap[gy]? = some (.cells A 71 (0,0))/\A[0]? = some (.int .i64 fy)/\A[1]? = some (.slice Ay nY cy))/\aj (nX<=cx/\Kd.C (Kd.int .i64) wc Ax nX tX)/\aj (nY<=cy/\Kd.C (Kd.int .i64) wc Ay nY tY)/\aj (Below w3.heap.size w3 wc))
 case first =>
   go_region_held3 (fun w'=>Below w3.heap.size w3 w'/\w'.cell? ⟨g,0,none⟩=some (.pointer (some ⟨bx,0,none⟩))/\w'.cell? ⟨g,1,none⟩=some (.pointer (some ⟨bz,0,none⟩)))
     ((refine HK.out _ ?_;repeat (first|(with_reducible exact S0)|(with_reducible assumption)|(with_reducible apply aK)|(with_reducible apply bC)|(refine Below.setCell ?_ (by first|exact Nat.le_refl _|exact hsx.size|exact hsy.size|exact Nat.le_succ_of_le (Nat.le_refl _)|exact Nat.le_succ_of_le hsx.size|exact Nat.le_succ_of_le hsy.size) _))))
     (first
   | (go_at_call 29;(with_reducible refine Calls.mono (LX2.out _ ?hh) ?_);(case hh=>repeat (first|(with_reducible exact S0)|(with_reducible assumption)|(with_reducible apply aK)|(with_reducible apply aJ)|(with_reducible apply bC)));rintro e wx ⟨vx,rfl,hRx,hbx⟩;have hsx:Below w3.heap.size w3 wx:=ak (by repeat (first|(with_reducible exact S0)|(with_reducible assumption)|(with_reducible apply aK)|(with_reducible apply bC))) hbx;obtain ⟨-,z0x,z1x⟩:=HK.out _ hsx;have glx:g < wx.heap.size:=bI ((hsx.block g (bI H2.out)).trans H2.out);have gnx:=Nat.ne_of_lt glx;(try (have hq:Below (w3.alloc (.cells #[.int .i64 0,.slice none 0 0] 71)).heap.size (w3.alloc (.cells #[.int .i64 0,.slice none 0 0] 71)) wx:=(by with_reducible exact ak (bC (Below.refl _ _)) hbx);have fx1:wx.heap[w3.heap.size]? = some (.cells #[.int .i64 0,.slice none 0 0] 71 (0,0)):=(hq.block _ (bI (heap_alloc_new w3 (.cells #[.int .i64 0,.slice none 0 0] 71)))).trans (heap_alloc_new w3 (.cells #[.int .i64 0,.slice none 0 0] 71));clear hq;have ayX:wx.cell? ⟨w3.heap.size,0,none⟩=some (.int .i64 0):=(au fx1 0).trans rfl;have awK:=aI fx1 0;have ayY:wx.cell? ⟨w3.heap.size,1,none⟩=some (.slice none 0 0):=(au fx1 1).trans rfl;have awL:=aI fx1 1;have aog:=bI fx1;have ayZ:=Nat.ne_of_lt aog));(try (have hq:Below ((w3.alloc (.cells #[.int .i64 0,.slice none 0 0] 71)).alloc (.cells #[.int .i64 0,.slice none 0 0] 71)).heap.size ((w3.alloc (.cells #[.int .i64 0,.slice none 0 0] 71)).alloc (.cells #[.int .i64 0,.slice none 0 0] 71)) wx:=(by with_reducible exact ak (bC (Below.refl _ _)) hbx);have fx1:wx.heap[w3.heap.size]? = some (.cells #[.int .i64 0,.slice none 0 0] 71 (0,0)):=(hq.block _ (bI (aa2 w3 (.cells #[.int .i64 0,.slice none 0 0] 71) (.cells #[.int .i64 0,.slice none 0 0] 71)))).trans (aa2 w3 (.cells #[.int .i64 0,.slice none 0 0] 71) (.cells #[.int .i64 0,.slice none 0 0] 71));have fx2:wx.heap[w3.heap.size+1]? = some (.cells #[.int .i64 0,.slice none 0 0] 71 (0,0)):=(hq.block _ (bI (aa1 w3 (.cells #[.int .i64 0,.slice none 0 0] 71) (.cells #[.int .i64 0,.slice none 0 0] 71)))).trans (aa1 w3 (.cells #[.int .i64 0,.slice none 0 0] 71) (.cells #[.int .i64 0,.slice none 0 0] 71));clear hq;have ayX:wx.cell? ⟨w3.heap.size,0,none⟩=some (.int .i64 0):=(au fx1 0).trans rfl;have awK:=aI fx1 0;have ayY:wx.cell? ⟨w3.heap.size,1,none⟩=some (.slice none 0 0):=(au fx1 1).trans rfl;have awL:=aI fx1 1;have aog:=bI fx1;have ayZ:=Nat.ne_of_lt aog;have aCY:wx.cell? ⟨w3.heap.size+1,0,none⟩=some (.int .i64 0):=(au fx2 0).trans rfl;have aAj:=aI fx2 0;have aCZ:wx.cell? ⟨w3.heap.size+1,1,none⟩=some (.slice none 0 0):=(au fx2 1).trans rfl;have aAk:=aI fx2 1;have aul:=bI fx2;have aC0:=Nat.ne_of_lt aul));(try (have hq:Below wy.heap.size wy wx:=(by with_reducible first|exact hbx|exact ak (aK (Below.refl _ _) _) hbx|exact ak (aK (aK (Below.refl _ _) _) _) hbx);have HQx:=aj.mk hq;(try (have fx1:=(hq.block _ (bI fy1)).trans fy1;have ayX:wx.cell? ⟨w3.heap.size,0,none⟩=some (.int .i64 0):=(au fx1 0).trans rfl;have awK:=aI fx1 0;have ayY:wx.cell? ⟨w3.heap.size,1,none⟩=some (.slice none 0 0):=(au fx1 1).trans rfl;have awL:=aI fx1 1;have aog:=bI fx1;have ayZ:=Nat.ne_of_lt aog));(try (have fx2:=(hq.block _ (bI fy2)).trans fy2;have aCY:wx.cell? ⟨w3.heap.size+1,0,none⟩=some (.int .i64 0):=(au fx2 0).trans rfl;have aAj:=aI fx2 0;have aCZ:wx.cell? ⟨w3.heap.size+1,1,none⟩=some (.slice none 0 0):=(au fx2 1).trans rfl;have aAk:=aI fx2 1;have aul:=bI fx2;have aC0:=Nat.ne_of_lt aul));clear hq));(try (have hq:Below (wy.alloc (.cells #[.int .i64 0,.slice none 0 0] 71)).heap.size (wy.alloc (.cells #[.int .i64 0,.slice none 0 0] 71)) wx:=(by with_reducible exact hbx);have fx3:wx.heap[wy.heap.size]? = some (.cells #[.int .i64 0,.slice none 0 0] 71 (0,0)):=(hq.block _ (bI (heap_alloc_new wy (.cells #[.int .i64 0,.slice none 0 0] 71)))).trans (heap_alloc_new wy (.cells #[.int .i64 0,.slice none 0 0] 71));clear hq;have aC1:wx.cell? ⟨wy.heap.size,0,none⟩=some (.int .i64 0):=(au fx3 0).trans rfl;have aAl:=aI fx3 0;have aC2:wx.cell? ⟨wy.heap.size,1,none⟩=some (.slice none 0 0):=(au fx3 1).trans rfl;have aAm:=aI fx3 1;have aum:=bI fx3;have aC3:=Nat.ne_of_lt aum));(try (have hq:Below ((wy.alloc (.cells #[.int .i64 0,.slice none 0 0] 71)).alloc (.cells #[.int .i64 0,.slice none 0 0] 71)).heap.size ((wy.alloc (.cells #[.int .i64 0,.slice none 0 0] 71)).alloc (.cells #[.int .i64 0,.slice none 0 0] 71)) wx:=(by with_reducible exact hbx);have fx3:wx.heap[wy.heap.size]? = some (.cells #[.int .i64 0,.slice none 0 0] 71 (0,0)):=(hq.block _ (bI (aa2 wy (.cells #[.int .i64 0,.slice none 0 0] 71) (.cells #[.int .i64 0,.slice none 0 0] 71)))).trans (aa2 wy (.cells #[.int .i64 0,.slice none 0 0] 71) (.cells #[.int .i64 0,.slice none 0 0] 71));have fx4:wx.heap[wy.heap.size+1]? = some (.cells #[.int .i64 0,.slice none 0 0] 71 (0,0)):=(hq.block _ (bI (aa1 wy (.cells #[.int .i64 0,.slice none 0 0] 71) (.cells #[.int .i64 0,.slice none 0 0] 71)))).trans (aa1 wy (.cells #[.int .i64 0,.slice none 0 0] 71) (.cells #[.int .i64 0,.slice none 0 0] 71));clear hq;have aC1:wx.cell? ⟨wy.heap.size,0,none⟩=some (.int .i64 0):=(au fx3 0).trans rfl;have aAl:=aI fx3 0;have aC2:wx.cell? ⟨wy.heap.size,1,none⟩=some (.slice none 0 0):=(au fx3 1).trans rfl;have aAm:=aI fx3 1;have aum:=bI fx3;have aC3:=Nat.ne_of_lt aum;have aIA:wx.cell? ⟨wy.heap.size+1,0,none⟩=some (.int .i64 0):=(au fx4 0).trans rfl;have aF4:=aI fx4 0;have aIB:wx.cell? ⟨wy.heap.size+1,1,none⟩=some (.slice none 0 0):=(au fx4 1).trans rfl;have aF5:=aI fx4 1;have aC4:=bI fx4;have aIC:=Nat.ne_of_lt aC4));have HRx:=aj.mk hRx;obtain ⟨Ax,cx,rfl⟩:=Kd.gG hRx;rw [<- HNN.out.1];clear hRx)
   | (go_at_call 29;(with_reducible refine Calls.mono (LY2.out _ ?hh) ?_);(case hh=>repeat (first|(with_reducible exact S0)|(with_reducible assumption)|(with_reducible apply aK)|(with_reducible apply aJ)|(with_reducible apply bC)));rintro e wy ⟨vy,rfl,hRy,hby⟩;have hsy:Below w3.heap.size w3 wy:=ak (by repeat (first|(with_reducible exact S0)|(with_reducible assumption)|(with_reducible apply aK)|(with_reducible apply bC))) hby;obtain ⟨-,z0y,z1y⟩:=HK.out _ hsy;have gly:g < wy.heap.size:=bI ((hsy.block g (bI H2.out)).trans H2.out);have gny:=Nat.ne_of_lt gly;(try (have hq:Below (w3.alloc (.cells #[.int .i64 0,.slice none 0 0] 71)).heap.size (w3.alloc (.cells #[.int .i64 0,.slice none 0 0] 71)) wy:=(by with_reducible exact ak (bC (Below.refl _ _)) hby);have fy1:wy.heap[w3.heap.size]? = some (.cells #[.int .i64 0,.slice none 0 0] 71 (0,0)):=(hq.block _ (bI (heap_alloc_new w3 (.cells #[.int .i64 0,.slice none 0 0] 71)))).trans (heap_alloc_new w3 (.cells #[.int .i64 0,.slice none 0 0] 71));clear hq;have ay0:wy.cell? ⟨w3.heap.size,0,none⟩=some (.int .i64 0):=(au fy1 0).trans rfl;have awM:=aI fy1 0;have ay1:wy.cell? ⟨w3.heap.size,1,none⟩=some (.slice none 0 0):=(au fy1 1).trans rfl;have awN:=aI fy1 1;have aoh:=bI fy1;have ay2:=Nat.ne_of_lt aoh));(try (have hq:Below ((w3.alloc (.cells #[.int .i64 0,.slice none 0 0] 71)).alloc (.cells #[.int .i64 0,.slice none 0 0] 71)).heap.size ((w3.alloc (.cells #[.int .i64 0,.slice none 0 0] 71)).alloc (.cells #[.int .i64 0,.slice none 0 0] 71)) wy:=(by with_reducible exact ak (bC (Below.refl _ _)) hby);have fy1:wy.heap[w3.heap.size]? = some (.cells #[.int .i64 0,.slice none 0 0] 71 (0,0)):=(hq.block _ (bI (aa2 w3 (.cells #[.int .i64 0,.slice none 0 0] 71) (.cells #[.int .i64 0,.slice none 0 0] 71)))).trans (aa2 w3 (.cells #[.int .i64 0,.slice none 0 0] 71) (.cells #[.int .i64 0,.slice none 0 0] 71));have fy2:wy.heap[w3.heap.size+1]? = some (.cells #[.int .i64 0,.slice none 0 0] 71 (0,0)):=(hq.block _ (bI (aa1 w3 (.cells #[.int .i64 0,.slice none 0 0] 71) (.cells #[.int .i64 0,.slice none 0 0] 71)))).trans (aa1 w3 (.cells #[.int .i64 0,.slice none 0 0] 71) (.cells #[.int .i64 0,.slice none 0 0] 71));clear hq;have ay0:wy.cell? ⟨w3.heap.size,0,none⟩=some (.int .i64 0):=(au fy1 0).trans rfl;have awM:=aI fy1 0;have ay1:wy.cell? ⟨w3.heap.size,1,none⟩=some (.slice none 0 0):=(au fy1 1).trans rfl;have awN:=aI fy1 1;have aoh:=bI fy1;have ay2:=Nat.ne_of_lt aoh;have aC5:wy.cell? ⟨w3.heap.size+1,0,none⟩=some (.int .i64 0):=(au fy2 0).trans rfl;have aAn:=aI fy2 0;have aC6:wy.cell? ⟨w3.heap.size+1,1,none⟩=some (.slice none 0 0):=(au fy2 1).trans rfl;have aAo:=aI fy2 1;have aun:=bI fy2;have aC7:=Nat.ne_of_lt aun));(try (have hq:Below wx.heap.size wx wy:=(by with_reducible first|exact hby|exact ak (aK (Below.refl _ _) _) hby|exact ak (aK (aK (Below.refl _ _) _) _) hby);have HQy:=aj.mk hq;(try (have fy1:=(hq.block _ (bI fx1)).trans fx1;have ay0:wy.cell? ⟨w3.heap.size,0,none⟩=some (.int .i64 0):=(au fy1 0).trans rfl;have awM:=aI fy1 0;have ay1:wy.cell? ⟨w3.heap.size,1,none⟩=some (.slice none 0 0):=(au fy1 1).trans rfl;have awN:=aI fy1 1;have aoh:=bI fy1;have ay2:=Nat.ne_of_lt aoh));(try (have fy2:=(hq.block _ (bI fx2)).trans fx2;have aC5:wy.cell? ⟨w3.heap.size+1,0,none⟩=some (.int .i64 0):=(au fy2 0).trans rfl;have aAn:=aI fy2 0;have aC6:wy.cell? ⟨w3.heap.size+1,1,none⟩=some (.slice none 0 0):=(au fy2 1).trans rfl;have aAo:=aI fy2 1;have aun:=bI fy2;have aC7:=Nat.ne_of_lt aun));clear hq));(try (have hq:Below (wx.alloc (.cells #[.int .i64 0,.slice none 0 0] 71)).heap.size (wx.alloc (.cells #[.int .i64 0,.slice none 0 0] 71)) wy:=(by with_reducible exact hby);have fy3:wy.heap[wx.heap.size]? = some (.cells #[.int .i64 0,.slice none 0 0] 71 (0,0)):=(hq.block _ (bI (heap_alloc_new wx (.cells #[.int .i64 0,.slice none 0 0] 71)))).trans (heap_alloc_new wx (.cells #[.int .i64 0,.slice none 0 0] 71));clear hq;have aC8:wy.cell? ⟨wx.heap.size,0,none⟩=some (.int .i64 0):=(au fy3 0).trans rfl;have aAp:=aI fy3 0;have aC9:wy.cell? ⟨wx.heap.size,1,none⟩=some (.slice none 0 0):=(au fy3 1).trans rfl;have aAq:=aI fy3 1;have auo:=bI fy3;have aDa:=Nat.ne_of_lt auo));(try (have hq:Below ((wx.alloc (.cells #[.int .i64 0,.slice none 0 0] 71)).alloc (.cells #[.int .i64 0,.slice none 0 0] 71)).heap.size ((wx.alloc (.cells #[.int .i64 0,.slice none 0 0] 71)).alloc (.cells #[.int .i64 0,.slice none 0 0] 71)) wy:=(by with_reducible exact hby);have fy3:wy.heap[wx.heap.size]? = some (.cells #[.int .i64 0,.slice none 0 0] 71 (0,0)):=(hq.block _ (bI (aa2 wx (.cells #[.int .i64 0,.slice none 0 0] 71) (.cells #[.int .i64 0,.slice none 0 0] 71)))).trans (aa2 wx (.cells #[.int .i64 0,.slice none 0 0] 71) (.cells #[.int .i64 0,.slice none 0 0] 71));have fy4:wy.heap[wx.heap.size+1]? = some (.cells #[.int .i64 0,.slice none 0 0] 71 (0,0)):=(hq.block _ (bI (aa1 wx (.cells #[.int .i64 0,.slice none 0 0] 71) (.cells #[.int .i64 0,.slice none 0 0] 71)))).trans (aa1 wx (.cells #[.int .i64 0,.slice none 0 0] 71) (.cells #[.int .i64 0,.slice none 0 0] 71));clear hq;have aC8:wy.cell? ⟨wx.heap.size,0,none⟩=some (.int .i64 0):=(au fy3 0).trans rfl;have aAp:=aI fy3 0;have aC9:wy.cell? ⟨wx.heap.size,1,none⟩=some (.slice none 0 0):=(au fy3 1).trans rfl;have aAq:=aI fy3 1;have auo:=bI fy3;have aDa:=Nat.ne_of_lt auo;have aID:wy.cell? ⟨wx.heap.size+1,0,none⟩=some (.int .i64 0):=(au fy4 0).trans rfl;have aF6:=aI fy4 0;have aIE:wy.cell? ⟨wx.heap.size+1,1,none⟩=some (.slice none 0 0):=(au fy4 1).trans rfl;have aF7:=aI fy4 1;have aDb:=bI fy4;have aIF:=Nat.ne_of_lt aDb));have HRy:=aj.mk hRy;obtain ⟨Ay,cy,rfl⟩:=Kd.gG hRy;rw [<- HNN.out.2];clear hRy))
   all_goals (try simp only [Exit.inBlock,Exit.then])
   all_goals go_wp2
   all_goals go_meet
   all_goals (case rel =>
     have s1:=hbx.size;have s2:=hby.size
     (try simp only [tu,yC,World.size_setCell] at s1)
     (try simp only [tu,yC,World.size_setCell] at s2)
     have hxl:=hsx.size;have rx2:Rows _ _ _:=⟨_,Kd.jF HRx.out HQy.out⟩;have ry2:Rows _ _ _:=⟨_,HRy.out⟩;refine ⟨_,_,Ax,cx,Ay,cy,rfl,rfl,⟨#[.int .i64 fx,.slice Ax nX cx],?_,rfl,rfl⟩,⟨#[.int .i64 fy,.slice Ay nY cy],?_,rfl,rfl⟩,⟨?_⟩,⟨?_⟩,⟨?_⟩⟩
     . (repeat (first|(with_reducible assumption)|(with_reducible refine uS _ _ _ ?_;simp only [tu,yC,World.size_setCell];done)|(with_reducible refine jM ?_ _)|(with_reducible refine set2 ?_)|(with_reducible refine aq7 ?_ ?_;rotate_left;(focus omega))))
     . (repeat (first|(with_reducible assumption)|(with_reducible refine uS _ _ _ ?_;simp only [tu,yC,World.size_setCell];done)|(with_reducible refine jM ?_ _)|(with_reducible refine set2 ?_)|(with_reducible refine aq7 ?_ ?_;rotate_left;(focus omega))))
     . rw [HNN.out.1];refine ⟨(Kd.dL HRx.out).2.1,?_⟩;refine Rows.reads (c:=cx) ?_
       (repeat (first|with_reducible exact rx2|(with_reducible refine Rows.alloc ?_ _)|(with_reducible refine Rows.drew ?_)|(with_reducible refine Rows.set2 ?_ ?_;rotate_left;(focus (repeat (first|(with_reducible assumption)|(with_reducible refine uS _ _ _ ?_;simp only [tu,yC,World.size_setCell];done)|(with_reducible refine jM ?_ _)|(with_reducible refine set2 ?_)|(with_reducible refine aq7 ?_ ?_;rotate_left;(focus omega))))))))
     . rw [HNN.out.2];refine ⟨(Kd.dL HRy.out).2.1,?_⟩;refine Rows.reads (c:=cy) ?_
       (repeat (first|with_reducible exact ry2|(with_reducible refine Rows.alloc ?_ _)|(with_reducible refine Rows.drew ?_)|(with_reducible refine Rows.set2 ?_ ?_;rotate_left;(focus (repeat (first|(with_reducible assumption)|(with_reducible refine uS _ _ _ ?_;simp only [tu,yC,World.size_setCell];done)|(with_reducible refine jM ?_ _)|(with_reducible refine set2 ?_)|(with_reducible refine aq7 ?_ ?_;rotate_left;(focus omega))))))))
     . repeat (first|(with_reducible exact S0)|(with_reducible assumption)|(with_reducible apply aK)|(with_reducible apply bC)|(refine Below.setCell ?_ (by first|exact Nat.le_refl _|exact hsx.size|exact hsy.size|exact Nat.le_succ_of_le (Nat.le_refl _)|exact Nat.le_succ_of_le hsx.size|exact Nat.le_succ_of_le hsy.size) _)))
 case rest =>
   obtain ⟨gx,gy,Ax,cx,Ay,cy,rfl,rfl,HX,HY,HCX,HCY,HBC⟩:=hcut;have HW:=aj.mk (ak B2.out HBC.out)
   have HKK:=aj.mk (fun w' (hb:Below wc.heap.size wc w')=>(show w'.cell? ⟨g,2,none⟩=some (.int .i64 bd)/\w'.cell? ⟨gy,0,none⟩=some (.int .i64 fy)/\w'.cell? ⟨gx,0,none⟩=some (.int .i64 fx)/\w'.cell? ⟨gy,1,none⟩=some (.slice Ay nY cy)/\w'.cell? ⟨gx,1,none⟩=some (.slice Ax nX cx) from by
     obtain ⟨CX,hgx,hx0,hx1⟩:=HX.out;obtain ⟨CY,hgy,hy0,hy1⟩:=HY.out;have e1:=(hb.block gx (bI hgx)).trans hgx;have e2:=(hb.block gy (bI hgy)).trans hgy;have e3:=(HBC.out.block g (bI H2.out)).trans H2.out;exact ⟨(au ((hb.block g (bI e3)).trans e3) 2).trans rfl,(au e2 0).trans hy0,(au e1 0).trans hx0,(au e2 1).trans hy1,(au e1 1).trans hx1⟩))
   obtain ⟨k1,k2,k3,k4,k5⟩:=HKK.out _ (Below.refl _ _);clear z0 z1 HK LX2 LY2 S0 glw gnw HX HY H2;have HHT:=aj.mk (fun w' (h:Below wc.heap.size wc w')=>uU b m w' (HII.out w' (ak HW.out h)));have HWT:=aj.mk (fun w' (h:Below wc.heap.size wc w')=>wR b m w' (HII.out w' (ak HW.out h)));have HAT:=aj.mk (fun X Y w' (h:Below wc.heap.size wc w')=>aiv b m X Y c w' (HII.out w' (ak HW.out h)) HBB.out);obtain ⟨lx,ly,bx0,by0⟩:=HLN.out;rw [<- HNN.out.1] at lx;rw [<- HNN.out.2] at ly;go_wp2;clear k1 k2 k3 k4 k5;go_loopg [13,45] nY (fun kx s13 s45 wr=>∃ (k:Nat) (S:Int),s45 = .int .i64 k/\s13 = .int .i64 S/\k<=nY/\nY - k<=kx/\aj (S=afD m bd fx fy c tX tY k)/\aj (Below wc.heap.size wc wr))
   case atStart=>exact ⟨0,0,rfl,rfl,by omega,by omega,⟨rfl⟩,⟨Below.refl _ _⟩⟩
   case round =>
     obtain ⟨k,S,rfl,rfl,j1,j2,HS,HB⟩:=hrel;have wi:IntKind.i64.wrap ((k:Int)+1)=(k:Int)+1:=(by rw [mX];exact aC (by omega) (by omega));by_cases hlt:(k:Int) < (nY:Int);rotate_left
     . have hk:k=nY:=(by omega);subst hk;go_wp2;go_ret;exact ⟨by rw [HS.out,HNN.out.2];rfl,ak HW.out HB.out⟩
     have p1:(0<=(k:Int)):=(by omega);have q0:k < nY:=(by omega);have qd:decide (k < nY)=true:=decide_eq_true q0;obtain ⟨ad,e0,x0⟩:=Kd.iZ (Kd.bD HCY.out.2 HB.out) (k:Int) p1 hlt;subst e0;rw [Int.toNat_natCast] at x0;obtain ⟨b0,hb0⟩:∃ z,z=rd tY (k:Int):=⟨_,rfl⟩;rw [<- hb0] at x0;have HB0:=aj.mk hb0;clear hb0;obtain ⟨k1,k2,-,-,-⟩:=HKK.out _ HB.out;go_upto_region 8 with fail;have ws:IntKind.i64.wrap (fy+(k:Int))=fy+k:=(by rw [mX];exact aC (by omega) (by omega));have hj:=agA (k:=2) (Nat.le_refl _) (p:=bd) (j:=fy+k) (n:=m.h) ⟨by omega,by omega⟩ ⟨by have:=HBB.out.h1;omega,by have:=HBB.out.h2;omega⟩;obtain ⟨row,hrow⟩:∃ z,z=bat bd (fy+k) m.h:=⟨_,rfl⟩;rw [<- hrow] at hj;have HJ:=aj.mk hj;have HRW:=aj.mk hrow;have HKR:=aj.mk (fun w' (hb:Below wr.heap.size wr w')=>(show w'.cell? ⟨g,2,none⟩=some (.int .i64 bd)/\w'.cell? ⟨gy,0,none⟩=some (.int .i64 fy) from ⟨(HKK.out w' (ak HB.out hb)).1,(HKK.out w' (ak HB.out hb)).2.1⟩));have S1:=Below.refl wr.heap.size wr;clear hj hrow x0
     go_region_held3 (fun w'=>w'.cell? ⟨g,2,none⟩=some (.int .i64 bd)/\w'.cell? ⟨gy,0,none⟩=some (.int .i64 fy))
       ((refine HKR.out _ ?_;repeat (first|(with_reducible exact S1)|(with_reducible assumption)|(with_reducible apply bC))))
       (first
       | (go_at_call 45;(with_reducible refine (HHT.out _ ?hh).mono ?_);(case hh=>(refine ak HB.out ?_;repeat (first|(with_reducible exact S1)|(with_reducible assumption)|(with_reducible apply bC))));rintro e w5 ⟨rfl,rfl⟩)
       | (go_at_call 80;(with_reducible refine (oJ.calls 2 bd (fy+k) m.h row _ HJ.out).mono ?_);rintro e w6 ⟨rfl,hb6⟩;have hb7:Below wr.heap.size wr w6:=ak (by repeat (first|(with_reducible exact S1)|(with_reducible apply bC))) hb6))
     (try simp only [Exit.inBlock,Exit.then])
     have HB6:=aj.mk (ak HB.out hb7);clear k1 k2 hb6 hb7 S1 HKR HJ ws;obtain ⟨-,-,-,-,k5⟩:=HKK.out _ HB6.out;go_wp2;clear k5;go_loopg [13,62] nX (fun kx s13 s62 wz=>∃ (i:Nat) (T:Int),s62 = .int .i64 i/\s13 = .int .i64 T/\i<=nX/\nX - i<=kx/\aj (T=agB m bd fx row b0 c tX S i)/\aj (Below w6.heap.size w6 wz))
     case atStart=>exact ⟨0,S,rfl,rfl,by omega,by omega,⟨rfl⟩,⟨Below.refl _ _⟩⟩
     case round =>
       obtain ⟨i,T,rfl,rfl,i1,i2,HT,HZ⟩:=hrel;have wj:IntKind.i64.wrap ((i:Int)+1)=(i:Int)+1:=(by rw [mX];exact aC (by omega) (by omega));have HZ2:=aj.mk (ak HB6.out HZ.out);by_cases hli:(i:Int) < (nX:Int);rotate_left
       . have hi:i=nX:=(by omega);subst hi;go_wp2;go_roundg (nY - (k+1))
         case measure=>omega
         case rel =>
           refine ⟨k+1,T,by simp,rfl,by omega,Nat.le_refl _,⟨?_⟩,HZ2⟩;rw [afD,<- HS.out,<- HB0.out,<- HRW.out,HT.out,HNN.out.1]
       have p2:(0<=(i:Int)):=(by omega);have q2:i < nX:=(by omega);have qi:decide (i < nX)=true:=decide_eq_true q2;obtain ⟨ax,e0,x0⟩:=Kd.iZ (Kd.bD HCX.out.2 HZ2.out) (i:Int) p2 hli;subst e0;rw [Int.toNat_natCast] at x0;obtain ⟨a0,ha0⟩:∃ z,z=rd tX (i:Int):=⟨_,rfl⟩;rw [<- ha0] at x0;have HA0:=aj.mk ha0;clear ha0;obtain ⟨k1,-,k3,-,-⟩:=HKK.out _ HZ2.out;go_upto_region 12 with fail;have ws:IntKind.i64.wrap (fx+(i:Int))=fx+i:=(by rw [mX];exact aC (by omega) (by omega));have hj:=agA (k:=2) (Nat.le_refl _) (p:=bd) (j:=fx+i) (n:=m.w) ⟨by omega,by omega⟩ ⟨by have:=HBB.out.w1;omega,by have:=HBB.out.w2;omega⟩;obtain ⟨col,alb⟩:∃ z,z=bat bd (fx+i) m.w:=⟨_,rfl⟩;rw [<- alb] at hj;have HJ:=aj.mk hj;have HCL:=aj.mk alb;have HKR:=aj.mk (fun w' (hb:Below wr.heap.size wr w')=>(show w'.cell? ⟨g,2,none⟩=some (.int .i64 bd)/\w'.cell? ⟨gx,0,none⟩=some (.int .i64 fx) from ⟨(HKK.out w' (ak HZ2.out hb)).1,(HKK.out w' (ak HZ2.out hb)).2.2.1⟩));have S1:=Below.refl wr.heap.size wr;clear hj alb x0
       go_region_held3 (fun w'=>w'.cell? ⟨g,2,none⟩=some (.int .i64 bd)/\w'.cell? ⟨gx,0,none⟩=some (.int .i64 fx))
         ((refine HKR.out _ ?_;repeat (first|(with_reducible exact S1)|(with_reducible assumption)|(with_reducible apply bC))))
         (first
         | (go_at_call 46;(with_reducible refine (HWT.out _ ?hh).mono ?_);(case hh=>(refine ak HZ2.out ?_;repeat (first|(with_reducible exact S1)|(with_reducible assumption)|(with_reducible apply bC))));rintro e w5 ⟨rfl,rfl⟩)
         | (go_at_call 80;(with_reducible refine (oJ.calls 2 bd (fx+i) m.w col _ HJ.out).mono ?_);rintro e w8 ⟨rfl,hb6⟩;have hb7:Below wr.heap.size wr w8:=ak (by repeat (first|(with_reducible exact S1)|(with_reducible apply bC))) hb6))
       (try simp only [Exit.inBlock,Exit.then])
       have HB8:=aj.mk (ak HZ.out hb7);clear k1 k3 hb6 hb7 S1 HKR HJ ws;have ay3:=aj.mk (HAT.out col row _ (ak HB6.out HB8.out));obtain ⟨av,hav⟩:∃ z,z=atV m col row c:=⟨_,rfl⟩;rw [<- hav] at ay3;have HAV:=aj.mk hav;clear hav;go_wp2_with (go_at_call 71;(with_reducible refine ay3.out.mono ?_);rintro e w9 ⟨rfl,⟨nd,rfl⟩⟩);go_roundg (nX - (i+1))
       case measure=>omega
       case rel =>
         refine ⟨i+1,_,by simp,rfl,by omega,Nat.le_refl _,⟨?_⟩,⟨by repeat (first|(with_reducible exact HB8.out)|(with_reducible apply aJ)|(with_reducible apply bC))⟩⟩;rw [agB,<- HT.out,<- HA0.out,<- HCL.out,<- HAV.out]
theorem as8 (b bx bz:Nat) (m:Img) (tx ty:Tab) (bd x y c:Int) (w:World) (hG:GL w) (hI:qX w b m) (hx:qN w bx tx) (hy:qN w bz ty) (e1:tx.n=m.w) (e2:ty.n=m.h) (hb:0<=bd/\bd < 3) (hc:0<=c/\c < m.c) (x0:0<=x/\x < tx.lines.length) (y0:0<=y/\y < ty.lines.length) (lx:(dI tx.lines x).f1.length<=2097152) (ly:(dI ty.lines y).f1.length<=2097152) (B:sO m) (bx0 : -1099511627776<=(dI tx.lines x).f0/\(dI tx.lines x).f0<=1099511627776) (by0 : -1099511627776<=(dI ty.lines y).f0/\(dI ty.lines y).f0<=1099511627776) :
   Calls Tryz.prog 41 #[.pointer (some ⟨b,0,none⟩),stV bx bz bd,.int .i64 x,.int .i64 y,.int .i64 c] w fun e w'=>e = .returned (.int .i64 (aaR m bd c (dI tx.lines x) (dI ty.lines y)))/\Below w.heap.size w w' :=
 ap9 b bx bz m tx ty bd x y c _ _ w hG hI hx hy e1 e2 hb hc (fun w' h=>ae6 bx tx x w' (hx.below h) x0.1 x0.2 lx) (fun w' h=>ae6 bz ty y w' (hy.below h) y0.1 y0.2 ly) lx ly B bx0 by0
def zu (s most:Int):Int:=mx 0 (mn (sh s 28) (mx 0 (mn most 65535)))
theorem ajM (s most:Int):0<=zu s most/\zu s most<=mx 0 (mn most 65535):=by unfold zu mx mn;omega
theorem ajN {s most:Int} (hs:I64 s):wS.f s most=some (zu s most):=by
 unfold wS.f;rw [aad hs (by constructor <;> omega),Option.bind_some,ae8,Option.bind_some];have h:=ajM s most;have e:∀ z:Int,0<=z->z<=65535->IntKind.u16.wrap z=z:=by
   intro z h0 h1;unfold IntKind.wrap IntKind.bits IntKind.signed;simp;omega
 show some (IntKind.u16.wrap (zu s most))=_
 rw [e _ h.1 (by unfold mx mn at h;omega)]
theorem ay4 (m:Img) (bd fx row b c:Int) (ts:List Int) (a0:Int) (h:I64 a0):∀ i,I64 (agB m bd fx row b c ts a0 i)
  | 0=>h
  | i+1=>by show I64 (wrap64 _);unfold wrap64;constructor <;> omega
theorem as9 (m:Img) (bd fx fy c:Int) (tX tY:List Int):∀ k,I64 (afD m bd fx fy c tX tY k)
  | 0=>by show I64 0;constructor <;> omega
  | k+1=>ay4 _ _ _ _ _ _ _ _ (as9 m bd fx fy c tX tY k) _
theorem ajO (m:Img) (bd c:Int) (X Y:S71):I64 (aaR m bd c X Y):=as9 _ _ _ _ _ _ _ _
def aoi (m:Img) (bd:Int) (tx ty:Tab) (x y c:Nat):Int:=zu (aaR m bd c (dI tx.lines x) (dI ty.lines y)) m.most
def aiQ (m:Img) (bd:Int) (tx ty:Tab) (C:Nat) (j:Nat):Int:=aoi m bd tx ty (j / C % tx.lines.length) (j / C / tx.lines.length) (j % C)
def ab7 (m:Img) (bd:Int) (tx ty:Tab) (C:Nat):List Int:=(List.range (tx.lines.length*ty.lines.length*C)).map (aiQ m bd tx ty C)
structure wU (t:Tab):Prop where
 n1:1<=t.lines.length
 n2:t.lines.length<=65536
 all:∀ j:Nat,j < t.lines.length->(dI t.lines j).f1.length<=2097152 /\ -1099511627776<=(dI t.lines j).f0/\(dI t.lines j).f0<=1099511627776
structure aas (m:Img) (bd:Int) (tx ty:Tab) (C:Nat) (w wr:World) (g p:Nat) (l:List Int):Prop where
 len:l.length=tx.lines.length*ty.lines.length*C
 vals:∀ j:Nat,j < p->rd l (j:Int)=aiQ m bd tx ty C j
 img:wW wr w.heap.size g ⟨tx.lines.length,ty.lines.length,m.c,m.most,l⟩
 bel:Below w.heap.size w wr
theorem aqa (m:Img) (bd:Int) (tx ty:Tab) (C x y c:Nat) (hx:x < tx.lines.length) (hc:c < C):aiQ m bd tx ty C ((y*tx.lines.length+x)*C+c)=aoi m bd tx ty x y c:=by
 unfold aiQ;have hC:0 < C:=(by omega);have e1:((y*tx.lines.length+x)*C+c) / C=y*tx.lines.length+x:=(by rw [Nat.mul_comm,Nat.mul_add_div hC,Nat.div_eq_of_lt hc,Nat.add_zero]);have e2:((y*tx.lines.length+x)*C+c) % C=c:=(by rw [Nat.mul_comm,Nat.mul_add_mod,Nat.mod_eq_of_lt hc]);have e3:(y*tx.lines.length+x) % tx.lines.length=x:=(by rw [Nat.mul_comm,Nat.mul_add_mod,Nat.mod_eq_of_lt hx]);have e4:(y*tx.lines.length+x) / tx.lines.length=y:=(by rw [Nat.mul_comm,Nat.mul_add_div (by omega),Nat.div_eq_of_lt hx,Nat.add_zero]);rw [e1,e2,e3,e4]
theorem ax3 (o:List Int) (b:Nat) (v:Int) (hb:b < o.length) (j:Nat):rd (o.set b v) (j:Int)=if j=b then v else rd o (j:Int):=by
 unfold rd;rw [Int.toNat_natCast,List.getD_eq_getElem?_getD,List.getD_eq_getElem?_getD,List.getElem?_set];by_cases h:j=b
 . subst h;simp [hb]
 . rw [if_neg (fun e=>h e.symm),if_neg h]
theorem ay5 {l r:List Int} (h1:l.length=r.length) (h2:∀ j:Nat,j < l.length->rd l (j:Int)=rd r (j:Int)):l=r:=by
 apply List.ext_getElem h1;intro i hi hj;have:=h2 i hi;unfold rd at this;rw [Int.toNat_natCast,List.getD_eq_getElem?_getD,List.getD_eq_getElem?_getD,List.getElem?_eq_getElem hi,List.getElem?_eq_getElem hj] at this;simpa using this
theorem aas.step {m:Img} {bd:Int} {tx ty:Tab} {C x y c g:Nat} {w wr w7:World} {l:List Int} (Q:aas m bd tx ty C w wr g ((y*tx.lines.length+x)*C+c) l) (hC:m.c=C) (hx:x < tx.lines.length) (hy:y < ty.lines.length) (hc:c < C)
    (hi:wW w7 w.heap.size g (Img.put ⟨tx.lines.length,ty.lines.length,m.c,m.most,l⟩ (plV ⟨tx.lines.length,ty.lines.length,m.c,m.most,l⟩ x y c) (aoi m bd tx ty x y c))) (hb:Below w.heap.size w w7) :
    aas m bd tx ty C w w7 g ((y*tx.lines.length+x)*C+(c+1)) (l.set ((y*tx.lines.length+x)*C+c) (aoi m bd tx ty x y c)):=by
  have hp:(plV ⟨tx.lines.length,ty.lines.length,m.c,m.most,l⟩ x y c).toNat=(y*tx.lines.length+x)*C+c:=by
    show (((y:Int)*tx.lines.length+x)*m.c+c).toNat=_
    rw [hC];exact Int.toNat_natCast ((y*tx.lines.length+x)*C+c)
  have hl:(y*tx.lines.length+x)*C+c < l.length:=by
    rw [Q.len];have h1:y*tx.lines.length+x < tx.lines.length*ty.lines.length:=by
      calc y*tx.lines.length+x < y*tx.lines.length+tx.lines.length:=by omega
        _=(y+1)*tx.lines.length:=by rw [Nat.succ_mul]
        _<=ty.lines.length*tx.lines.length:=Nat.mul_le_mul_right _ hy
        _=_:=Nat.mul_comm _ _
    calc (y*tx.lines.length+x)*C+c < (y*tx.lines.length+x)*C+C:=by omega
      _=(y*tx.lines.length+x+1)*C:=by rw [Nat.succ_mul]
      _<=_:=Nat.mul_le_mul_right _ h1
  refine ⟨by rw [List.length_set];exact Q.len,fun j hj => ?_,?_,hb⟩
  . rw [ax3 _ _ _ hl];by_cases e:j=(y*tx.lines.length+x)*C+c
    . rw [if_pos e,e,aqa _ _ _ _ _ _ _ _ hx hc]
    . rw [if_neg e];exact Q.vals j (by omega)
  . unfold Img.put at hi;rw [hp] at hi;exact hi
theorem aas.cast {m:Img} {bd:Int} {tx ty:Tab} {C g p q:Nat} {w wr:World} {l:List Int} (Q:aas m bd tx ty C w wr g p l) (h:p=q):aas m bd tx ty C w wr g q l:=h ▸ Q
theorem aas.below {m:Img} {bd:Int} {tx ty:Tab} {C g p:Nat} {w wr w7:World} {l:List Int} (Q:aas m bd tx ty C w wr g p l) (h:Below wr.heap.size wr w7):aas m bd tx ty C w w7 g p l:=⟨Q.len,Q.vals,Q.img.below h,ak Q.bel h⟩
theorem aas.done {m:Img} {bd:Int} {tx ty:Tab} {C g:Nat} {w wr:World} {l:List Int} (Q:aas m bd tx ty C w wr g (tx.lines.length*ty.lines.length*C) l):l=ab7 m bd tx ty C:=by
 refine ay5 (by rw [Q.len];simp [ab7]) (fun j hj => ?_);rw [Q.vals j (by rw [<- Q.len];exact hj)];have:j < tx.lines.length*ty.lines.length*C:=(by rw [<- Q.len];exact hj);unfold ab7 rd;rw [Int.toNat_natCast,List.getD_eq_getElem?_getD,List.getElem?_map,List.getElem?_range this];rfl
theorem aoj (b bx bz:Nat) (m:Img) (tx ty:Tab) (bd:Int) (C:Nat) (w:World) (hG:GL w) (hI:qX w b m) (hx:qN w bx tx) (hy:qN w bz ty) (e1:tx.n=m.w) (e2:ty.n=m.h) (hb:0<=bd/\bd < 3) (B:sO m) (hC:m.c=C) (Lx:wU tx) (Ly:wU ty) (hn:(tx.lines.length:Int)*ty.lines.length*C<=268435456) :
   Calls Tryz.prog 36 #[.pointer (some ⟨b,0,none⟩),stV bx bz bd] w fun e w'=>∃ g,e = .returned (.tuple #[.pointer (some ⟨g,0,none⟩),.int .i64 0])/\wW w' w.heap.size g ⟨tx.lines.length,ty.lines.length,m.c,m.most,ab7 m bd tx ty C⟩/\Below w.heap.size w w':=by
 have SU:=aj.mk (fun w' (h:Below w.heap.size w w')=>aei b bx bz m tx ty bd w' (hG.below h) (hI.below h) (hx.below h) (hy.below h) e1 e2 hb);have CH:=aj.mk (fun w' (h:Below w.heap.size w w')=>qI b m w' (hI.below h));have MO:=aj.mk (fun w' (h:Below w.heap.size w w')=>agb b m w' (hI.below h));have TX:=aj.mk (fun w' (h:Below w.heap.size w w')=>afz bx tx w' (hx.below h));have TY:=aj.mk (fun w' (h:Below w.heap.size w w')=>afz bz ty w' (hy.below h));have SM:=aj.mk (fun (x y c:Nat) (h1:x < tx.lines.length) (h2:y < ty.lines.length) (h3:c < C) w' (h:Below w.heap.size w w')=>as8 b bx bz m tx ty bd x y c w' (hG.below h) (hI.below h) (hx.below h) (hy.below h) e1 e2 hb ⟨by omega,by omega⟩ ⟨by omega,by omega⟩ ⟨by omega,by omega⟩ (Lx.all x h1).1 (Ly.all y h2).1 B (Lx.all x h1).2 (Ly.all y h2).2);have NW:=aj.mk (fun w'=>agC tx.lines.length ty.lines.length m.c m.most w' ⟨by have:=Lx.n1;omega,by have:=Lx.n2;omega⟩ ⟨by have:=Ly.n1;omega,by have:=Ly.n2;omega⟩ B.c1 ⟨B.m1,B.m2⟩ (by rw [hC];exact hn));have BN:∀ l:List Int,l.length=tx.lines.length*ty.lines.length*C->sO ⟨tx.lines.length,ty.lines.length,m.c,m.most,l⟩:=fun l hl=>⟨by show (1:Int)<=tx.lines.length;have:=Lx.n1;omega,by show (tx.lines.length:Int)<=65536;have:=Lx.n2;omega,by show (1:Int)<=ty.lines.length;have:=Ly.n1;omega,by show (ty.lines.length:Int)<=65536;have:=Ly.n2;omega,B.c1,B.m1,B.m2,by show (l.length:Int)=tx.lines.length*ty.lines.length*m.c;rw [hl,hC];simp,by show (tx.lines.length:Int)*ty.lines.length*m.c<=268435456;rw [hC];exact hn⟩;have HBN:=aj.mk BN;have HC3:1<=C/\C<=3:=(by have:=B.c1;omega);have HMB:=aj.mk (And.intro B.m1 B.m2);have HCC:=aj.mk hC;have hx1:=Lx.n1;have hx2:=Lx.n2;have hy1:=Ly.n1;have hy2:=Ly.n2;obtain ⟨X,hX⟩:∃ X,X=tx.lines.length:=⟨_,rfl⟩;obtain ⟨Y,hY⟩:∃ Y,Y=ty.lines.length:=⟨_,rfl⟩;have HXY:=aj.mk (And.intro hX hY);rw [<- hX] at TX hx1 hx2;rw [<- hY] at TY hy1 hy2;rw [<- hX,<- hY] at NW;have hr:=heap_alloc_new w (.cells #[.pointer (some ⟨bx,0,none⟩),.pointer (some ⟨bz,0,none⟩),.int .i64 bd] 38);have BX:=aj.mk (aK (Below.refl w.heap.size w) (.cells #[.pointer (some ⟨bx,0,none⟩),.pointer (some ⟨bz,0,none⟩),.int .i64 bd] 38));have HR:=aj.mk hr;have mixed:Tryz.prog.follows .mixedOrders=true:=(by kernel_rfl);clear hG hI hx hy e1 e2 hb hr B hC Lx Ly hn BN hX hY;unfold stV at SU SM ⊢;go_enter Tryz.func36,Tryz.ntmps36;go_upto_region 1 with fail;obtain ⟨g,hg⟩:∃ g,g=w.heap.size:=⟨_,rfl⟩;rw [<- hg];have hr:=HR.out;rw [<- hg] at hr;have HGG:=aj.mk hg;clear hg HR;generalize w.alloc (.cells #[.pointer (some ⟨bx,0,none⟩),.pointer (some ⟨bz,0,none⟩),.int .i64 bd] 38)=w1 at hr BX ⊢;have z0:w1.cell? ⟨g,0,none⟩=some (.pointer (some ⟨bx,0,none⟩)):=(au hr 0).trans rfl;have z1:w1.cell? ⟨g,1,none⟩=some (.pointer (some ⟨bz,0,none⟩)):=(au hr 1).trans rfl;have z2:w1.cell? ⟨g,2,none⟩=some (.int .i64 bd):=(au hr 2).trans rfl;have HRR:=aj.mk hr;clear hr;go_upto_region 3 with (go_at_call 39;refine (SU.out _ BX.out).mono ?_;rintro e w2 ⟨rfl,hb2⟩;have B2:=aj.mk (ak BX.out hb2);have H2:=aj.mk ((hb2.block g (bI HRR.out)).trans HRR.out);clear hb2);clear z0 z1 z2 SU BX HRR;have HK:=aj.mk (fun w' (hb:Below w2.heap.size w2 w')=>(show w'.cell? ⟨g,0,none⟩=some (.pointer (some ⟨bx,0,none⟩))/\w'.cell? ⟨g,1,none⟩=some (.pointer (some ⟨bz,0,none⟩)) from ⟨(au ((hb.block g (bI H2.out)).trans H2.out) 0).trans rfl,(au ((hb.block g (bI H2.out)).trans H2.out) 1).trans rfl⟩));obtain ⟨z0,z1⟩:=HK.out _ (Below.refl _ _);have S0:=Below.refl w2.heap.size w2
 go_region_held3 (fun w'=>w'.cell? ⟨g,0,none⟩=some (.pointer (some ⟨bx,0,none⟩))/\w'.cell? ⟨g,1,none⟩=some (.pointer (some ⟨bz,0,none⟩)))
   ((refine HK.out _ ?_;repeat (first|(with_reducible exact S0)|(with_reducible assumption)|(with_reducible apply bC))))
   (first
   | (go_at_call 22;(with_reducible refine (TX.out _ ?hh).mono ?_);(case hh=>(refine ak B2.out ?_;repeat (first|(with_reducible exact S0)|(with_reducible assumption)|(with_reducible apply bC))));rintro e w3 ⟨rfl,rfl⟩)
   | (go_at_call 22;(with_reducible refine (TY.out _ ?hh).mono ?_);(case hh=>(refine ak B2.out ?_;repeat (first|(with_reducible exact S0)|(with_reducible assumption)|(with_reducible apply bC))));rintro e w3 ⟨rfl,rfl⟩)
   | (go_at_call 47;(with_reducible refine (CH.out _ ?hh).mono ?_);(case hh=>(refine ak B2.out ?_;repeat (first|(with_reducible exact S0)|(with_reducible assumption)|(with_reducible apply bC))));rintro e w3 ⟨rfl,rfl⟩)
   | (go_at_call 44;(with_reducible refine (MO.out _ ?hh).mono ?_);(case hh=>(refine ak B2.out ?_;repeat (first|(with_reducible exact S0)|(with_reducible assumption)|(with_reducible apply bC))));rintro e w3 ⟨rfl,rfl⟩)
   | (go_at_call 73;(with_reducible refine (NW.out _).mono ?_);rintro e w4 ⟨hb4,gi,rfl,hi⟩;have hb5:Below w2.heap.size w2 w4:=ak (by repeat (first|(with_reducible exact S0)|(with_reducible apply bC))) hb4;have HI:=aj.mk hi;clear hi))
 (try simp only [Exit.inBlock,Exit.then])
 have Q0:aas m bd tx ty C w2 w4 gi ((0*tx.lines.length+0)*C+0) (List.replicate ((X:Int)*Y*m.c).toNat 0):=by
   refine ⟨?_,fun j hj=>absurd hj (by simp),?_,hb5⟩
   . rw [List.length_replicate,HCC.out,<- HXY.out.1,<- HXY.out.2];exact Int.toNat_natCast (X*Y*C)
   . rw [<- HXY.out.1,<- HXY.out.2];exact wW.lower HI.out (by simp)
 have HQ0:=aj.mk Q0
 have HGI:=aj.mk (fun (p:Nat) (l:List Int) (wr:World) (Q:aas m bd tx ty C w2 wr gi p l)=>(show (Calls Tryz.prog 45 #[.pointer (some ⟨gi,0,none⟩)] wr fun e w'=>e = .returned (.int .i64 Y)/\w'=wr)/\(Calls Tryz.prog 46 #[.pointer (some ⟨gi,0,none⟩)] wr fun e w'=>e = .returned (.int .i64 X)/\w'=wr)/\(Calls Tryz.prog 47 #[.pointer (some ⟨gi,0,none⟩)] wr fun e w'=>e = .returned (.int .i64 C)/\w'=wr) from by
   have h1:=uU gi _ wr Q.img.reads;have h2:=wR gi _ wr Q.img.reads;have h3:=qI gi _ wr Q.img.reads;simp only [HCC.out,<- HXY.out.1,<- HXY.out.2] at h1 h2 h3;exact ⟨h1,h2,h3⟩))
 clear z0 z1 S0 hb4 hb5 HK Q0 HI NW CH TX TY;go_upto_region 6 with fail;have HG0:=aj.mk (HGI.out _ _ _ HQ0.out);go_wp2_with (go_at_call 45;(with_reducible refine HG0.out.1.mono ?_);rintro e w5 ⟨rfl,rfl⟩);clear HG0;go_loopg [34] Y (fun kx s34 wr=>∃ (y:Nat) (l:List Int),s34 = .int .i64 y/\y<=Y/\Y - y<=kx/\aj (aas m bd tx ty C w2 wr gi ((y*tx.lines.length+0)*C+0) l))
 case atStart=>exact ⟨0,_,rfl,by omega,by omega,HQ0⟩
 case round =>
   obtain ⟨y,l,rfl,j1,j2,HQ⟩:=hrel;have wi:IntKind.i64.wrap ((y:Int)+1)=(y:Int)+1:=(by rw [mX];exact aC (by omega) (by omega));by_cases hlt:(y:Int) < (Y:Int);rotate_left
   . have hy:y=Y:=(by omega);subst hy;go_wp2;go_ret2;have Q:=HQ.out.cast (q:=tx.lines.length*ty.lines.length*C) (by rw [Nat.add_zero,Nat.add_zero,HXY.out.2,Nat.mul_comm ty.lines.length]);refine ⟨gi,rfl,?_,ak B2.out Q.bel⟩;have hi:=Q.img;rw [Q.done] at hi;exact wW.lower hi B2.out.size
   have HG1:=aj.mk (HGI.out _ _ _ HQ.out);go_wp2_with (go_at_call 46;(with_reducible refine HG1.out.2.1.mono ?_);rintro e w6 ⟨rfl,rfl⟩);clear HG1;go_loopg [39] X (fun kx s39 wx=>∃ (x:Nat) (l:List Int),s39 = .int .i64 x/\x<=X/\X - x<=kx/\aj (aas m bd tx ty C w2 wx gi ((y*tx.lines.length+x)*C+0) l))
   case atStart=>exact ⟨0,l,rfl,by omega,by omega,HQ⟩
   case round =>
     obtain ⟨x,l1,rfl,j3,j4,HQ1⟩:=hrel;have wj:IntKind.i64.wrap ((x:Int)+1)=(x:Int)+1:=(by rw [mX];exact aC (by omega) (by omega));by_cases hlx:(x:Int) < (X:Int);rotate_left
     . have hx:x=X:=(by omega);subst hx;go_wp2;go_roundg (Y - (y+1))
       case measure=>omega
       case rel=>exact ⟨y+1,l1,by simp,by omega,Nat.le_refl _,⟨HQ1.out.cast (by rw [<- HXY.out.1,Nat.succ_mul];simp)⟩⟩
     have HG1:=aj.mk (HGI.out _ _ _ HQ1.out);go_wp2_with (go_at_call 47;(with_reducible refine HG1.out.2.2.mono ?_);rintro e w7 ⟨rfl,rfl⟩);clear HG1;go_loopg [44] C (fun kx s44 wc=>∃ (c:Nat) (l:List Int),s44 = .int .i64 c/\c<=C/\C - c<=kx/\aj (aas m bd tx ty C w2 wc gi ((y*tx.lines.length+x)*C+c) l))
     case atStart=>exact ⟨0,l1,rfl,by omega,by omega,HQ1⟩
     case round =>
       obtain ⟨c,l2,rfl,j5,j6,HQ2⟩:=hrel;have wk:IntKind.i64.wrap ((c:Int)+1)=(c:Int)+1:=(by rw [mX];exact aC (by omega) (by omega));by_cases hlc:(c:Int) < (C:Int);rotate_left
       . have hc:c=C:=(by omega);subst hc;go_wp2;go_roundg (X - (x+1))
         case measure=>omega
         case rel=>exact ⟨x+1,l2,by simp,by omega,Nat.le_refl _,⟨HQ2.out.cast (by rw [Nat.add_zero,<- Nat.add_assoc,Nat.succ_mul])⟩⟩
       have hr2:=(HQ2.out.bel.block g (bI H2.out)).trans H2.out;have z0:wr.cell? ⟨g,0,none⟩=some (.pointer (some ⟨bx,0,none⟩)):=(au hr2 0).trans rfl;have z1:wr.cell? ⟨g,1,none⟩=some (.pointer (some ⟨bz,0,none⟩)):=(au hr2 1).trans rfl;have z2:wr.cell? ⟨g,2,none⟩=some (.int .i64 bd):=(au hr2 2).trans rfl;have hxl:x < tx.lines.length:=(by rw [<- HXY.out.1];omega);have hyl:y < ty.lines.length:=(by rw [<- HXY.out.2];omega);have hcl:c < C:=(by omega);have sm:=SM.out x y c hxl hyl hcl wr (ak B2.out HQ2.out.bel);obtain ⟨sv,hsv⟩:∃ z,z=aaR m bd c (dI tx.lines x) (dI ty.lines y):=⟨_,rfl⟩;have hsi:I64 sv:=(by rw [hsv];exact ajO _ _ _ _ _);rw [<- hsv] at sm;obtain ⟨mo,hmo⟩:∃ z,z=m.most:=⟨_,rfl⟩;have hrd:=ajN (s:=sv) (most:=mo) hsi;obtain ⟨v,hv⟩:∃ z,z=zu sv mo:=⟨_,rfl⟩;rw [<- hv] at hrd;have HV:=aj.mk (show v=aoi m bd tx ty x y c by rw [hv,hsv,hmo];rfl);have HVB:=aj.mk (show 0<=v/\v<=m.most by have h:=ajM sv mo;have h2:=HMB.out;rw [<- hv,hmo] at h;unfold mx mn at h;omega);have SM1:=aj.mk sm;have RD1:=aj.mk hrd;have MO1:=aj.mk (fun w' (h:Below wr.heap.size wr w')=>(show Calls Tryz.prog 44 #[.pointer (some ⟨b,0,none⟩)] w' fun e w''=>e = .returned (.int .i64 mo)/\w''=w' from by have h1:=MO.out w' (ak (ak B2.out HQ2.out.bel) h);rw [<- hmo] at h1;exact h1));have HXL:=aj.mk (And.intro hxl (And.intro hyl hcl));clear sm hrd hsv hmo hv hr2 hsi hxl hyl
       go_wp2_with (first
         | (go_at_call 41;(with_reducible refine SM1.out.mono ?_);rintro e w8 ⟨rfl,hb8⟩;have HB8:=aj.mk hb8;clear hb8)
         | (go_at_call 44;(with_reducible refine (MO1.out _ HB8.out).mono ?_);rintro e w9 ⟨rfl,rfl⟩)
         | (go_at_call 74;(with_reducible refine (wS.calls sv mo v _ RD1.out).mono ?_);rintro e w9 ⟨rfl,hb9⟩;have HB9:=aj.mk (ak HB8.out hb9);clear hb9)
         | (go_at_call 48;(with_reducible refine (amm gi ⟨tx.lines.length,ty.lines.length,m.c,m.most,l2⟩ x y c v w2 _ ?h1 ?h2 ?h3 ?h4 ?h5).mono ?_);(case h1=>exact (HQ2.out.below HB9.out).bel);(case h2=>exact (HQ2.out.below HB9.out).img);(case h3=>exact HBN.out l2 HQ2.out.len);(case h4=>exact ⟨by omega,by have:=HXL.out;show (x:Int) < tx.lines.length;omega,by omega,by have:=HXL.out;show (y:Int) < ty.lines.length;omega,by omega,by have:=HXL.out;show (c:Int) < m.c;rw [HCC.out];omega⟩);(case h5=>exact HVB.out);rintro e w10 ⟨rfl,hi,ay6⟩;have aDc:=aj.mk hi;have aDd:=aj.mk ay6;clear hi ay6))
       go_roundg (C - (c+1))
       case measure=>omega
       case rel =>
         have hi:=aDc.out;rw [HV.out] at hi;exact ⟨c+1,_,by simp,by omega,Nat.le_refl _,⟨HQ2.out.step HCC.out HXL.out.1 HXL.out.2.1 HXL.out.2.2 hi aDd.out⟩⟩
def agD:Img:=alc 2 1 3 255
theorem aok:sO agD:=⟨by decide,by decide,by decide,by decide,.inr rfl,by decide,by decide,by decide,by decide⟩
theorem amL (w:World):Calls Tryz.prog 70 #[] w fun e w'=>e = .returned (.bool true)/\Below w.heap.size w w':=by
 have NW:=aj.mk (agC 2 1 3 255 w (by decide) (by decide) (.inr rfl) (by decide) (by decide));have mixed:Tryz.prog.follows .mixedOrders=true:=(by kernel_rfl);go_enter Tryz.func70,Tryz.ntmps70;go_upto_region 2 with (go_at_call 73;refine NW.out.mono ?_;rintro e w1 ⟨hb1,g,rfl,hi⟩;have B1:=aj.mk hb1;have HI:=aj.mk (show wW w1 w.heap.size g agD from hi);clear hb1 hi)
 go_wp2_with (first
   | (go_at_call 49;(with_reducible refine (adR g agD _ HI.out.reads (by decide)).mono ?_);rintro e w2 ⟨v,rfl,hr2,hb2⟩;obtain ⟨A2,c2,rfl⟩:=Kd.gG hr2;have B2:=aj.mk (ak B1.out hb2);have I2:=aj.mk (HI.out.below hb2);clear hr2 hb2)
   | (go_at_call 48;(with_reducible refine (ata g agD 1 0 2 256 _ I2.out.reads aok (by decide) (by decide)).mono ?_);rintro e w3 ⟨rfl,⟨nd,rfl⟩⟩)
   | (go_at_call 48;(with_reducible refine (amm g agD 1 0 2 255 w _ ?h1 ?h2 aok (by decide) (by decide)).mono ?_);(case h1=>exact aJ B2.out nd);(case h2=>exact I2.out.below (aJ (Below.refl _ _) nd));rintro e w4 ⟨rfl,hi4,hb4⟩;have B4:=aj.mk hb4;clear hi4 hb4))
 go_ret;exact ⟨rfl,B4.out⟩
def aej:List Int:=[214748365,214748365,214748365,214748365,214748365]
theorem ax4 (K:Nat) (hK:1400<=K):lW.f K 1 0 0 2 [] [] 0 0 0=some (aej,aej,0):=by
 unfold lW.f;rw [if_neg (by decide),if_pos rfl,ap3 hK (by decide)];have:abB 2=(aej,0):=(by kernel_rfl);rw [this];rfl
def aaH:Tab:=jv 1 2 (jB aej) 1
theorem aq8 (w:World) (hG:GL w):Calls Tryz.prog 51 #[opV 1 0 0 2 none 0 0 none 0 0 0 0 0,.int .i64 1,.int .i64 1] w (ajK aaH aaH 0 w):=by
 refine ahQ 1 0 0 2 none 0 [] none 0 [] 0 0 0 1 1 _ _ w hG (adN w) (by decide) (adN w) (by decide) (afA 0 (by decide) (by decide) (by decide)) (by decide) (by decide) (fun w' hb2 => ?_);exact aga 1400 1 0 0 2 none 0 [] none 0 [] 0 0 0 1 1 aej aej w' (adN w') (by decide) (adN w') (by decide) (by decide) (ax4 1400 (Nat.le_refl _)) (by intro z hz;simp [aej] at hz;subst hz;decide) (by intro z hz;simp [aej] at hz;subst hz;decide) (by decide) (by decide) (by decide) (by decide) (by kernel_rfl) (by kernel_rfl)
def agE:Img:=⟨1,1,1,255,[7]⟩
theorem atb:sO agE:=⟨by decide,by decide,by decide,by decide,.inl rfl,by decide,by decide,by decide,by decide⟩
theorem aqb:wU aaH:=⟨by decide,by decide,by
  intro j hj;have h1:aaH.lines.length=1:=(by kernel_rfl);obtain rfl:j=0:=(by omega);have h2:(dI aaH.lines ((0:Nat):Int)).f1.length=5:=(by kernel_rfl);have h3:(dI aaH.lines ((0:Nat):Int)).f0 = -2:=(by kernel_rfl);rw [h2,h3];decide⟩
theorem aAr:ab7 agE 0 aaH aaH 1=[7]:=by kernel_rfl
theorem ahW:aaH.lines.length=1/\aaH.n=1:=⟨by kernel_rfl,by kernel_rfl⟩
theorem ax5 (W:World) (l:List Int) (hm:l.length<=9223372036854775807):Kd.C (Kd.int .u16) (W.alloc (.cells (l.map (Value.int .u16)).toArray 79 (0,0))) (some ⟨W.heap.size,0,none⟩) l.length l:=by
 have h:=apX W W.heap.size 79 .u16 l (Nat.le_refl _) hm;exact (Kd.dL (Kd.vS (ok:=fun _=>True) h (fun _ _=>trivial))).2.2
theorem amM (w:World) (hG:GL w):Calls Tryz.prog 32 #[] w fun e w'=>e = .returned (.bool true)/\Below w.heap.size w w':=by
 have LV:=aj.mk (fun w' (hb:Below w.heap.size w w')=>amK w' (hG.below hb));have MK:=aj.mk (fun w' (hb:Below w.heap.size w w')=>aq8 w' (hG.below hb));have IO:=aj.mk (aol 1 1 1 255 (some ⟨w.heap.size,0,none⟩) 1 [7] (w.alloc (.cells #[.int .u16 7] 79)) (by decide) (by decide) (.inl rfl) (by decide) (by decide) (ax5 w [7] (by decide)) (by decide) (by decide) (by decide) (by decide));have AP:=aj.mk (fun b bx bz w' (hb:Below w.heap.size w w') h1 h2 h3=>aoj b bx bz agE aaH aaH 0 1 w' (hG.below hb) h1 h2 h3 ahW.2 ahW.2 (by decide) atb rfl aqb aqb (by rw [ahW.1];decide));have mixed:Tryz.prog.follows .mixedOrders=true:=(by kernel_rfl);have BA:=aj.mk (aK (Below.refl w.heap.size w) (.cells #[.int .u16 7] 79));clear hG;unfold opV at MK;unfold stV at AP;go_enter Tryz.func32,Tryz.ntmps32;go_upto_region 2 with (go_at_call 69;refine IO.out.mono ?_;rintro e w1 ⟨hb1,g,rfl,hi⟩;have B1:=aj.mk (ak BA.out hb1);have HI:=aj.mk (show qX w1 g agE from hi.reads);clear hb1 hi);go_upto_region 3 with (go_at_call 51;refine (MK.out _ B1.out).mono ?_;rintro e w2 ⟨hb2,bx,bz,rfl,hx,hz⟩;have B2:=aj.mk (ak B1.out hb2);have I2:=aj.mk (HI.out.below hb2);have TX:=aj.mk hx.reads;have TY:=aj.mk hz.reads;clear hb2 hx hz);have hr:=heap_alloc_new w2 (.cells #[.pointer (some ⟨bx,0,none⟩),.pointer (some ⟨bz,0,none⟩),.int .i64 0] 38);have ha:=aK (Below.refl w2.heap.size w2) (.cells #[.pointer (some ⟨bx,0,none⟩),.pointer (some ⟨bz,0,none⟩),.int .i64 0] 38);have TX2:=aj.mk (TX.out.below ha);have TY2:=aj.mk (TY.out.below ha);have I3:=aj.mk (I2.out.below ha);have B3:=aj.mk (ak B2.out ha);obtain ⟨q,hq⟩:∃ q,q=w2.heap.size:=⟨_,rfl⟩;rw [<- hq] at hr ⊢;clear ha hq TX TY;generalize w2.alloc (.cells #[.pointer (some ⟨bx,0,none⟩),.pointer (some ⟨bz,0,none⟩),.int .i64 0] 38)=w3 at hr TX2 TY2 I3 B3 ⊢;have HR:=aj.mk hr;clear hr
 go_upto_region 5 with (first
   | (go_at_call 70;refine (amL _).mono ?_;rintro e w4 ⟨rfl,hb4⟩;have B4:=aj.mk hb4;clear hb4)
   | (go_at_call 12;refine (LV.out _ (ak B3.out B4.out)).mono ?_;rintro e w5 ⟨rfl,hb5⟩;have B5:=aj.mk (ak B4.out hb5);clear hb5))
 have hr5:=(B5.out.block q (bI HR.out)).trans HR.out;have z0:w5.cell? ⟨q,0,none⟩=some (.pointer (some ⟨bx,0,none⟩)):=(au hr5 0).trans rfl;have z1:w5.cell? ⟨q,1,none⟩=some (.pointer (some ⟨bz,0,none⟩)):=(au hr5 1).trans rfl;have z2:w5.cell? ⟨q,2,none⟩=some (.int .i64 0):=(au hr5 2).trans rfl;have AP1:=aj.mk (AP.out g bx bz w5 (ak B3.out B5.out) (I3.out.below B5.out) (TX2.out.below B5.out) (TY2.out.below B5.out));clear hr5;have AT:=aj.mk (fun r w' (h:qX w' r agE)=>(show Calls Tryz.prog 71 #[.pointer (some ⟨r,0,none⟩),.int .i64 0,.int .i64 0,.int .i64 0] w' fun e w''=>e = .returned (.int .u16 7)/\dA w' w'' from by have h1:=aiv r agE 0 0 0 w' h atb;rw [show atV agE 0 0 0=7 by decide] at h1;exact h1))
 go_wp2_with (first
   | (go_at_call 36;refine AP1.out.mono ?_;rintro e w6 ⟨r,rfl,hi6,hb6⟩;have B6:=aj.mk (ak (ak B3.out B5.out) hb6);have I6:=aj.mk (show qX w6 r agE from by have h:=hi6.reads;rw [aAr,ahW.1] at h;exact h);clear hi6 hb6)
   | (go_at_call 71;(with_reducible refine (AT.out r _ I6.out).mono ?_);rintro e w7 ⟨rfl,⟨nd,rfl⟩⟩))
 go_ret;exact ⟨rfl,aJ B6.out nd⟩
theorem atc (w:World) (bx bz:Nat) (bd:Int):Below w.heap.size w (w.alloc (.cells #[.pointer (some ⟨bx,0,none⟩),.pointer (some ⟨bz,0,none⟩),.int .i64 bd] 38)):=aK (Below.refl _ _) _
def aaI (t:Tab) (i:Int):S71:=if 0<=i/\i < t.lines.length then dI t.lines i else ⟨0,[]⟩
theorem aom (b:Nat) (t:Tab) (i:Int) (w:World) (h:qN w b t) (hl:∀ j:Nat,j < t.lines.length->(dI t.lines (j:Int)).f1.length<=2097152) :
   Calls Tryz.prog 29 #[.pointer (some ⟨b,0,none⟩),.int .i64 i] w fun e w'=>∃ v,e = .returned (.agg #[.int .i64 (aaI t i).f0,v])/\Kd.R (Kd.int .i64) 2 w' w.heap.size (fun _=>True) v (aaI t i).f1/\Below w.heap.size w w':=by
 unfold aaI;by_cases hi:0<=i/\i < t.lines.length
 . rw [if_pos hi];exact ae6 b t i w h hi.1 hi.2 (by have:=hl i.toNat (by omega);rwa [Int.toNat_of_nonneg hi.1] at this)
 . rw [if_neg hi];exact (aue b t i w h hi).mono (fun e w' q=>⟨.slice none 0 0,q.1,Kd.kJ _ _ _ _ _,q.2⟩)
theorem ahX {t:Tab} (T:wU t) (i:Int):(aaI t i).f1.length<=2097152 /\ -1099511627776<=(aaI t i).f0/\(aaI t i).f0<=1099511627776:=by
 unfold aaI;by_cases hi:0<=i/\i < t.lines.length
 . rw [if_pos hi];have:=T.all i.toNat (by omega);rwa [Int.toNat_of_nonneg hi.1] at this
 . rw [if_neg hi];decide
theorem aon (m:Img) (bd fx fy c:Int) (tY:List Int):∀ k,afD m bd fx fy c [] tY k=0
  | 0=>rfl
  | k+1=>aon m bd fx fy c tY k
def sumW (m:Img) (bd:Int) (tx ty:Tab) (x y c:Int):Int:=if 0<=c/\c < m.c then aaR m bd c (aaI tx x) (aaI ty y) else 0
def inB (m:Img) (tx ty:Tab) (x y c:Int):Prop:=(0<=x/\x < tx.lines.length)/\(0<=y/\y < ty.lines.length)/\0<=c/\c < m.c
theorem ax6 {m:Img} {bd:Int} {tx ty:Tab} {x y c:Int} (h:inB m tx ty x y c):sumW m bd tx ty x y c=aaR m bd c (dI tx.lines x) (dI ty.lines y):=by
 unfold sumW aaI;rw [if_pos h.2.2,if_pos h.1,if_pos h.2.1]
theorem aup {m:Img} {bd:Int} {tx ty:Tab} {x y c:Int} (h:¬ inB m tx ty x y c):sumW m bd tx ty x y c=0:=by
 unfold sumW;by_cases hc:0<=c/\c < m.c
 . rw [if_pos hc];by_cases hx:0<=x/\x < tx.lines.length
   . have hy:¬ (0<=y/\y < ty.lines.length):=fun q=>h ⟨hx,q,hc⟩;unfold aaI;rw [if_neg hy];rfl
   . unfold aaI;rw [if_neg hx];exact aon _ _ _ _ _ _ _
 . rw [if_neg hc]
theorem ax7 (b bx bz:Nat) (m:Img) (tx ty:Tab) (bd x y c:Int) (w:World) (hG:GL w) (hI:qX w b m) (hx:qN w bx tx) (hy:qN w bz ty) (e1:tx.n=m.w) (e2:ty.n=m.h) (hb:0<=bd/\bd < 3) (hc:¬ (0<=c/\c < m.c)) :
   Calls Tryz.prog 41 #[.pointer (some ⟨b,0,none⟩),stV bx bz bd,.int .i64 x,.int .i64 y,.int .i64 c] w fun e w'=>e = .returned (.int .i64 0)/\Below w.heap.size w w':=by
 have SU:=aj.mk (fun w' (h:Below w.heap.size w w')=>aei b bx bz m tx ty bd w' (hG.below h) (hI.below h) (hx.below h) (hy.below h) e1 e2 hb);have CH:=aj.mk (fun w' (h:Below w.heap.size w w')=>qI b m w' (hI.below h));have BX:=aj.mk (atc w bx bz bd);obtain ⟨mc,hmc⟩:∃ v,v=m.c:=⟨_,rfl⟩;rw [<- hmc] at CH hc;clear hG hI hx hy hmc e1 e2 hb;unfold stV at SU ⊢;by_cases hn:c < 0
 . go_enter Tryz.func41,Tryz.ntmps41;go_wp2_with (go_at_call 39;refine (SU.out _ BX.out).mono ?_;rintro e w2 ⟨rfl,hb2⟩;have B2:=aj.mk (ak BX.out hb2);clear hb2);go_ret;exact ⟨rfl,B2.out⟩
 . have cm:mc<=c:=(by omega);go_enter Tryz.func41,Tryz.ntmps41
   go_wp2_with (first
     | (go_at_call 39;refine (SU.out _ BX.out).mono ?_;rintro e w2 ⟨rfl,hb2⟩;have B2:=aj.mk (ak BX.out hb2);clear hb2)
     | (go_at_call 47;(with_reducible refine (CH.out _ B2.out).mono ?_);rintro e w3 ⟨rfl,rfl⟩))
   go_ret;exact ⟨rfl,B2.out⟩
theorem sum_any (b bx bz:Nat) (m:Img) (tx ty:Tab) (bd x y c:Int) (w:World) (hG:GL w) (hI:qX w b m) (hx:qN w bx tx) (hy:qN w bz ty) (e1:tx.n=m.w) (e2:ty.n=m.h) (hb:0<=bd/\bd < 3) (B:sO m) (X:wU tx) (Y:wU ty) :
   Calls Tryz.prog 41 #[.pointer (some ⟨b,0,none⟩),stV bx bz bd,.int .i64 x,.int .i64 y,.int .i64 c] w fun e w'=>e = .returned (.int .i64 (sumW m bd tx ty x y c))/\Below w.heap.size w w':=by
 unfold sumW;by_cases hc:0<=c/\c < m.c
 . rw [if_pos hc];exact ap9 b bx bz m tx ty bd x y c _ _ w hG hI hx hy e1 e2 hb hc (fun w' h=>aom bx tx x w' (hx.below h) (fun j hj=>(X.all j hj).1)) (fun w' h=>aom bz ty y w' (hy.below h) (fun j hj=>(Y.all j hj).1)) (ahX X x).1 (ahX Y y).1 B (ahX X x).2 (ahX Y y).2
 . rw [if_neg hc];exact ax7 b bx bz m tx ty bd x y c w hG hI hx hy e1 e2 hb hc
end Go.Proofs.YtpondkggmcmpfaaGreatDoor.QA
