/- Each output pixel of a little operation's stage is in just one tile, which is found, and there are no others: no condition but that the laid tables of names hold what the row lists. -/
import Derived.Test.YtpondkggmcmpfaaGreatDoorRows
import Derived.Test.YtpondkggmcmpfaaGreatDoorBPlanCovers27
import Derived.Test.YtpondkggmcmpfaaGreatDoorBPlanCovers28
import Derived.Test.YtpondkggmcmpfaaGreatDoorCards
import Derived.Test.YtpondkggmcmpfaaGreatDoorTie
import Derived.LaidMore
import Derived.Lay
import Derived.SevenTiedAt
import Derived.ChangeSame
import Derived.WalkKit
import Derived.ProofKit
import Derived.OpenShut
import Derived.ShutString
import Derived.ChangeOld
import Derived.Below
import Derived.SizedLaws
namespace Go.Proofs.YtpondkggmcmpfaaGreatDoor.planCovers
open Go.ChangeShapes Go.WideShapes Go.ChangeAt Go.RowKit
open Go.ChangeMaps (open_string shut_string)
set_option linter.unusedVariables false
theorem own:ownKnob Tryz.prog.godebug=none:=by kernel_rfl
theorem laidOut:laidOutB Tryz.prog=true:=by kernel_rfl
def ayn (k:IntKind) (w:World) (a:Option Addr) (len cap:Nat) (zs:List Int):Prop :=
  (a=none∧len=0∧cap=0∧zs=[]) ∨
  ∃ x,a=some x∧len≤cap∧cap≤maxLen∧zs.length=cap∧(∀ i,i < zs.length→w.cell? (x.add i)=some (.int k (zs.getD i 0)))∧∀ n ∈ zs,(Lit.int k n).wf=true
set_option maxRecDepth 100000 in
theorem lifted (os:Os) (started:os.Started) (H:Type) (enc:TypeId × Value→H) :
    ReturnsInHanded {} Tryz.checked os 7 .any (fun w args=>(Rows.planCoversSpec.pre enc Tryz.prog Tryz.f7 Rows.planCoversRow.domain false w args∧laidMetH Tryz.prog [("smalto/border.names",Rows.laid_smalto_border_names),("smalto/raw.kinds",Rows.laid_smalto_raw_kinds)] w)∧sizedMet enc Tryz.prog Tryz.f7 (OpenSpec.ofChange Rows.planCoversSpec) false w args) (Rows.planCoversSpec.post enc Tryz.prog Tryz.f7 false true false false):=by
  refine returnsInHanded_of_change_and (C:=Tryz.checked) (X:=(fun w _=>laidMetH Tryz.prog [("smalto/border.names",Rows.laid_smalto_border_names),("smalto/raw.kinds",Rows.laid_smalto_raw_kinds)] w)) (fun _ _ _ hh h=>h.of_heap hh) own started (by kernel_rfl) Tryz.func7
    (ChangeSpec.witness_shaped (enc:=enc) (C:=Tryz.checked) (os:=os) (X:=(fun w _=>laidMetH Tryz.prog [("smalto/border.names",Rows.laid_smalto_border_names),("smalto/raw.kinds",Rows.laid_smalto_raw_kinds)] w)) false (World.laidAll Tryz.prog os [("smalto/border.names",Rows.laid_smalto_border_names),("smalto/raw.kinds",Rows.laid_smalto_raw_kinds)]) #[.agg #[.int .i64 0,.int .i64 0,.int .i64 0,.int .i64 0,.slice none 0 0,.slice none 0 0,.int .i64 0,.int .i64 0,.int .i64 0],.int .u8 0,.int .u8 0,.int .u8 0,.int .u8 0,.int .i64 0,.int .i64 0] 8 (World.laidAll_os _ _ _)
      (World.shaped_of_ZipB (by kernel_rfl) (by kernel_rfl)) (by kernel_rfl) (by kernel_rfl) (by kernel_rfl) (T.ajg os _)) ?_
  intro W base args ds gs before hval0 hW hcnd hsz0 hL _
  have hsz:(DataW.weightsEach Tryz.prog (Tryz.f7.params.toList ++ Rows.planCoversSpec.plain.varTypes Tryz.prog) (ds ++ gs)).all (·≤reachBytes)=true:=hsz0
  have hG:=T.alF hL
  have hval:∀ (j:Nat) t v,Tryz.f7.params[j]? = some t→args[j]? = some v→Value.okWide Tryz.prog W .any base t v:=hval0
  have hW':=hW
  obtain ⟨p,q,hA0,hV,rfl,hfz,hnd⟩:=hW
  have hA:DataW.TrodAll enc Tryz.prog W 0 (fun _=>true) true Tryz.f7.params.toList args.toList ds p:=hA0
  rw [Tryz.params7] at hA hval hsz
  obtain ⟨v0,vs0,d0,ds0,p0,q0,hargs,rfl,rfl,h0,r0⟩:=trodAll_cons hA
  obtain ⟨v1,vs1,d1,ds1,p1,q1,rfl,rfl,rfl,h1,r1⟩:=trodAll_cons r0
  obtain ⟨v2,vs2,d2,ds2,p2,q2,rfl,rfl,rfl,h2,r2⟩:=trodAll_cons r1
  obtain ⟨v3,vs3,d3,ds3,p3,q3,rfl,rfl,rfl,h3,r3⟩:=trodAll_cons r2
  obtain ⟨v4,vs4,d4,ds4,p4,q4,rfl,rfl,rfl,h4,r4⟩:=trodAll_cons r3
  obtain ⟨v5,vs5,d5,ds5,p5,q5,rfl,rfl,rfl,h5,r5⟩:=trodAll_cons r4
  obtain ⟨v6,vs6,d6,ds6,p6,q6,rfl,rfl,rfl,h6,r6⟩:=trodAll_cons r5
  obtain ⟨rfl,rfl,rfl⟩:=trodAll_nil r6
  obtain rfl:args = #[v0,v1,v2,v3,v4,v5,v6]:=by cases args;simp_all
  obtain ⟨rfl,rfl⟩:=trodVars_none hV
  obtain ⟨cs0,rfl,_⟩:=okWide_struct Tryz.underlying47 (hval 0 47 v0 rfl rfl)
  have k0:=h0
  have lt0:∀ x ∈ p0,x.block < W.heap.size:=by obtain ⟨m,hm⟩:=k0;exact DataW.trod_lt m _ _ _ hm
  obtain ⟨o0,A40,c40,A50,c50,rfl,i0,hx0,lx0,y0,ly0⟩:=QA.aoj h0
  obtain ⟨a1,rfl,rfl,rfl,w1⟩:=open_int Tryz.underlying5 (hval 1 5 v1 rfl rfl) h1
  obtain ⟨a2,rfl,rfl,rfl,w2⟩:=open_int Tryz.underlying5 (hval 2 5 v2 rfl rfl) h2
  obtain ⟨a3,rfl,rfl,rfl,w3⟩:=open_int Tryz.underlying5 (hval 3 5 v3 rfl rfl) h3
  obtain ⟨a4,rfl,rfl,rfl,w4⟩:=open_int Tryz.underlying5 (hval 4 5 v4 rfl rfl) h4
  obtain ⟨a5,rfl,rfl,rfl,w5⟩:=open_int Tryz.underlying3 (hval 5 3 v5 rfl rfl) h5
  obtain ⟨a6,rfl,rfl,rfl,w6⟩:=open_int Tryz.underlying3 (hval 6 3 v6 rfl rfl) h6
  clear hA0 hval0 hsz0 hsz
  refine (QA.afo o0 A40 c40 A50 c50 a1 a2 a3 a4 a5 a6 (T.alG w1) (T.alG w2) (T.alG w3) (T.alG w4) W hG i0 hx0 lx0 y0 ly0).mono fun e W' ⟨he,bel⟩ => ?_
  subst he
  exact ⟨_,rfl,_,_,_,[],_,[],hW',trodAll_mk1 (shut_bool Tryz.underlying4 _),(trodAll_cons_mk (Below.trod laidOut (by kernel_rfl) (of_decide_eq_true (by kernel_rfl)) k0 bel lt0) (trodAll_cons_mk (shut_int Tryz.underlying5 w1) (trodAll_cons_mk (shut_int Tryz.underlying5 w2) (trodAll_cons_mk (shut_int Tryz.underlying5 w3) (trodAll_cons_mk (shut_int Tryz.underlying5 w4) (trodAll_cons_mk (shut_int Tryz.underlying3 w5) (trodAll_cons_mk (shut_int Tryz.underlying3 w6) trodAll_mk0))))))),rfl,bel.frame _,fun h=>by cases h⟩
theorem over:Rows.planCoversRow.holds Tryz.pinned (OpenSpec.ofChange Rows.planCoversSpec) :=
  OpenClaim.holds_of_wide 7 Tryz.f7 rfl rfl rfl rfl rfl rfl rfl ⟨rfl,rfl,rfl,rfl,rfl⟩ rfl rfl rfl rfl rfl (by kernel_rfl) Tryz.func7 (by kernel_rfl)
    (of_decide_eq_true (by kernel_rfl)) (by unfold Func.isWrapper;first|(rw [if_pos (by decide +kernel)];kernel_rfl)|(rw [if_neg (by decide +kernel)];exact ⟨rfl,rfl⟩))
    (fun os started H enc _=>lifted os started H enc)
theorem proved:Rows.PlanCoversSaid:=over
theorem card:Rows.PlanCoversCardSaid :=
  Claim7.holds_tied_plain_at .later [] [.widerDeep,.data] true (true, "0218a7742358582213f6125ab700f1f36476d9e80d919f46203e6e60e53f4575") false proved (fun _ h=>by cases h) (by kernel_rfl) (fun _ h=>by cases h) planCovers_row_tie rfl ⟨rfl,rfl⟩ (by kernel_rfl) rfl
    (fun f fn hf hfn=>by
      obtain rfl:f=7:=Option.some.inj ((show Tryz.prog.funcNamed "smalto/smaltolaw14.PlanCovers"=some 7 by kernel_rfl).symm.trans hf) |>.symm
      obtain rfl:fn=Tryz.f7:=(Option.some.inj (Tryz.func7.symm.trans hfn)).symm
      exact ⟨by kernel_rfl,fun j t ht=>by
        rw [Tryz.params7] at ht
        have hm:t ∈ [47,5,5,5,5,3,3]:=by simpa using Array.mem_of_getElem? ht
        have hall:([47,5,5,5,5,3,3].all fun u => !Tryz.prog.wantsStandIn u)=true:=by kernel_rfl
        exact (show Tryz.prog.wantsStandIn t=false by simpa using List.all_eq_true.1 hall t hm)⟩)
    (by kernel_rfl)
#print axioms proved
#print axioms card
end Go.Proofs.YtpondkggmcmpfaaGreatDoor.planCovers
namespace Go.Proofs.YtpondkggmcmpfaaGreatDoor
theorem aok:Rows.PlanCoversSaid:=planCovers.proved
theorem planCovers_card_holds:Rows.PlanCoversCardSaid:=planCovers.card
end Go.Proofs.YtpondkggmcmpfaaGreatDoor
