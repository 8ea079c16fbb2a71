/- Joined by wip/tools/bundle.py out of: TLaid WSized. -/
import Derived.Test.YtpondkggmcmpfaaGreatDoorBPlanCovers0
import Derived.Test.YtpondkggmcmpfaaGreatDoorRows
import Derived.ProofKit
import Derived.OpenShut
import Derived.LaidMore
import Derived.Lay
import Derived.ChangeSame
import Derived.SizedLaws
import Derived.ChangeSlices
namespace Go.Proofs.YtpondkggmcmpfaaGreatDoor.T
open Go.ChangeShapes Go.WideShapes Go.ChangeAt Go.RowKit
theorem aob:Tryz.prog.globalNamed "smalto/raw.kinds"=some 1:=by kernel_rfl
theorem atc:(Tryz.prog.globals[1]?).map (·.type)=some 188:=by kernel_rfl
theorem cell_of {cs:List Value} {a b i:Nat} {v:Value} {ws:List Value} (hi:i < b) (h:((cs.drop a).take b)=ws) (hv:ws[i]? = some v):cs[a+i]? = some v:=by
  rw [← h] at hv
  rw [List.getElem?_take,if_pos hi,List.getElem?_drop] at hv
  exact hv
theorem str_eq {s:ByteArray} {l:List UInt8} (h:s.data.toList=l):s=⟨l.toArray⟩:=by
  cases s with|mk d=>simp only at h;rw [← h]
theorem adn {W:World} {m:Nat} {cs:List Value} {s:List UInt8} {n:Int} {x:DataW Unit × List MemPlace}
    (h:DataW.trod (fun _=>()) Tryz.prog W 0 (fun _=>true) false m 187 cs=some x) (hx:x.1 = .agg [.lit (.string s),.lit (.int .i64 n)]) :
    cs[0]? = some (.string ⟨s.toArray⟩)∧cs[1]? = some (.int .i64 n):=by
  obtain ⟨y0,y1,k,rfl,hl,h0,h1⟩:=trod_struct2 Tryz.underlying187 h
  simp only [DataW.agg.injEq,List.cons.injEq,and_true] at hx
  obtain ⟨z,e0,e1,_⟩:=DataW.trod_string Tryz.underlying9 h0
  obtain ⟨q,f0,f1,_⟩:=DataW.trod_int Tryz.underlying2 h1
  rw [e1,f1] at hx
  simp only [DataW.lit.injEq,Lit.string.injEq,Lit.int.injEq,true_and] at hx
  obtain ⟨hs,rfl⟩:=hx
  rw [str_eq hs] at e0
  constructor
  · simpa using cell_of (i:=0) (of_decide_eq_true (by kernel_rfl)) e0 rfl
  · simpa using cell_of (i:=0) (of_decide_eq_true (by kernel_rfl)) f0 rfl
set_option maxRecDepth 100000 in
theorem ak6 {W:World} {fuel:Nat} {cs:Array Value} {x:DataW Unit × List MemPlace} (hv:W.var? Tryz.prog "smalto/raw.kinds"=some cs)
    (h:DataW.trod (fun _=>()) Tryz.prog W 0 (fun _=>true) false fuel 188 cs.toList=some x) (hx:x.1=Rows.laid_smalto_raw_kinds):W.cell? ⟨1,0,none⟩=some (.string (⟨#[98,111,120]⟩:ByteArray))∧W.cell? ⟨1,1,none⟩=some (.int .i64 0)∧W.cell? ⟨1,2,none⟩=some (.string (⟨#[99,117,98,105,99]⟩:ByteArray))∧W.cell? ⟨1,3,none⟩=some (.int .i64 2)∧W.cell? ⟨1,4,none⟩=some (.string (⟨#[108,97,110,99,122,111,115]⟩:ByteArray))∧W.cell? ⟨1,5,none⟩=some (.int .i64 3):=by
  obtain ⟨xs,m,_,rfl,hl,hlen,hel⟩:=DataW.trod_array Tryz.underlying188 h
  have c2:Tryz.prog.cellsOf 187=2:=by kernel_rfl
  match xs,hlen with
  | [x0,x1,x2],_ =>
    have hx':=hx
    simp only [Rows.laid_smalto_raw_kinds,List.map_cons,List.map_nil,DataW.agg.injEq,List.cons.injEq,and_true] at hx'
    obtain ⟨k0,k1,k2⟩:=hx'
    have g0:=adn (hel 0 (by decide)) k0
    have g1:=adn (hel 1 (by decide)) k1
    have g2:=adn (hel 2 (by decide)) k2
    rw [c2] at g0 g1 g2
    simp only [List.getElem?_take,List.getElem?_drop] at g0 g1 g2
    simp at g0 g1 g2
    simp only [World.var?_cell aob hv]
    exact ⟨g0.1,g0.2,g1.1,g1.2,g2.1,g2.2⟩
theorem aoc:Tryz.prog.globalNamed "smalto/border.names"=some 0:=by kernel_rfl
theorem atd:(Tryz.prog.globals[0]?).map (·.type)=some 162:=by kernel_rfl
theorem afY {W:World} {v:Value} {n:Nat} {q:List MemPlace} {s:List UInt8} (h:DataW.trod (fun _=>()) Tryz.prog W 0 (fun _=>true) false n 9 [v]=some (.lit (.string s),q)):v = .string ⟨s.toArray⟩:=by
  obtain ⟨z,e0,e1,_⟩:=DataW.trod_string Tryz.underlying9 h
  simp only [Prod.mk.injEq,DataW.lit.injEq,Lit.string.injEq] at e1
  rw [str_eq e1.1.symm] at e0
  simpa using e0
theorem ak7 {W:World} {fuel:Nat} {cs:Array Value} {x:DataW Unit × List MemPlace} (hv:W.var? Tryz.prog "smalto/border.names"=some cs)
    (h:DataW.trod (fun _=>()) Tryz.prog W 0 (fun _=>true) false fuel 162 cs.toList=some x) (hx:x.1=Rows.laid_smalto_border_names) :
    ∃ (a:Addr) (c:Nat),3≤c∧W.cell? ⟨0,0,none⟩=some (.slice (some a) 3 c)∧W.cell? a=some (.string (⟨#[99,108,97,109,112]⟩:ByteArray))∧W.cell? ⟨a.block,a.off+1,none⟩=some (.string (⟨#[109,105,114,114,111,114]⟩:ByteArray))∧W.cell? ⟨a.block,a.off+2,none⟩=some (.string (⟨#[119,114,97,112]⟩:ByteArray)):=by
  obtain ⟨d,p⟩:=x
  simp only at hx
  subst hx
  obtain ⟨a,cap,e,hl,hc⟩:=open_row Tryz.underlying162 (show Tryz.prog.cellsOf 9=1 by kernel_rfl) h
  obtain ⟨v0,n0,q0,c0,t0⟩:=hc 0 _ rfl
  obtain ⟨v1,n1,q1,c1,t1⟩:=hc 1 _ rfl
  obtain ⟨v2,n2,q2,c2,t2⟩:=hc 2 _ rfl
  rw [afY t0] at c0
  rw [afY t1] at c1
  rw [afY t2] at c2
  have e0:a.add 0=a:=by cases a;rfl
  rw [e0] at c0
  have ec:cs[0]? = some (.slice (some a) 3 cap):=by
    have:=congrArg (fun l=>l[0]?) e
    simpa using this
  exact ⟨a,cap,hl,by rw [World.var?_cell aoc hv];exact ec,c0,c1,c2⟩
theorem alF {W:World} (h:laidMetH Tryz.prog [("smalto/border.names",Rows.laid_smalto_border_names),("smalto/raw.kinds",Rows.laid_smalto_raw_kinds)] W):GL W:=by
  rw [MakeChecks.laidMetH_plain _ _ _ (by kernel_rfl)] at h
  obtain ⟨ps,⟨g,t,cs,fuel,p,q,hg,ht,hv,hd,⟨g2,t2,cs2,fuel2,p2,q2,hg2,ht2,hv2,hd2,_,_⟩,_⟩,_,_⟩:=h
  obtain rfl:=Option.some.inj (aoc.symm.trans hg)
  obtain rfl:=Option.some.inj (atd.symm.trans ht)
  obtain rfl:=Option.some.inj (aob.symm.trans hg2)
  obtain rfl:=Option.some.inj (atc.symm.trans ht2)
  exact ⟨ak6 hv2 hd2 rfl,ak7 hv hd rfl⟩
theorem ajg (os:Os) (args:Array Value):laidMetH Tryz.prog [("smalto/border.names",Rows.laid_smalto_border_names),("smalto/raw.kinds",Rows.laid_smalto_raw_kinds)] ((World.laidAll Tryz.prog os [("smalto/border.names",Rows.laid_smalto_border_names),("smalto/raw.kinds",Rows.laid_smalto_raw_kinds)]).forCall (fun _ _=>0) ⟨#[],args,[]⟩).memory:=by
  rw [MakeChecks.laidMetH_plain _ _ _ (by kernel_rfl)]
  exact laidMet_laidAll _ (by kernel_rfl) (by kernel_rfl)
end Go.Proofs.YtpondkggmcmpfaaGreatDoor.T
namespace Go.Proofs.YtpondkggmcmpfaaGreatDoorW.PrintWords
open Go.ChangeShapes Go.WideShapes
end Go.Proofs.YtpondkggmcmpfaaGreatDoorW.PrintWords
