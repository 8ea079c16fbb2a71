/- Operations, one behind the other, are each done on what the one ahead made, as the document says: no condition but that the laid tables of names hold what the row lists. -/
import Derived.Test.YtpondkggmcmpfaaGreatDoorBDirectComposes25
import Derived.Test.YtpondkggmcmpfaaGreatDoorCards
import Derived.Test.YtpondkggmcmpfaaGreatDoorTie
import Derived.ShutString
set_option maxHeartbeats 8000000
set_option maxRecDepth 100000
namespace Go.Proofs.YtpondkggmcmpfaaGreatDoor.directComposes
open Go.ChangeShapes Go.WideShapes Go.ChangeAt Go.RowKit
open Go.ChangeMaps (open_string shut_string)
set_option linter.unusedVariables false
theorem own:ownKnob Tryz.prog.godebug=none:=by kernel_rfl
theorem laidOut:laidOutB Tryz.prog=true:=by kernel_rfl
def aFO (k:IntKind) (w:World) (a:Option Addr) (len cap:Nat) (zs:List Int):Prop :=
  (a=none∧len=0∧cap=0∧zs=[]) ∨
  ∃ x,a=some x∧len≤cap∧cap≤maxLen∧zs.length=cap∧(∀ i,i < zs.length→w.cell? (x.add i)=some (.int k (zs.getD i 0)))∧∀ n ∈ zs,(Lit.int k n).wf=true
theorem lifted (os:Os) (started:os.Started) (H:Type) (enc:TypeId × Value→H) :
    ReturnsInHanded {} Tryz.checked os 9 .any (fun w args=>(Rows.directComposesSpec.pre enc Tryz.prog Tryz.f9 Rows.directComposesRow.domain false w args∧laidMetH Tryz.prog [("smalto/border.names",Rows.laid_smalto_border_names),("smalto/raw.kinds",Rows.laid_smalto_raw_kinds)] w)∧sizedMet enc Tryz.prog Tryz.f9 (OpenSpec.ofChange Rows.directComposesSpec) false w args) (Rows.directComposesSpec.post enc Tryz.prog Tryz.f9 false true false false):=by
  refine returnsInHanded_of_change_and (C:=Tryz.checked) (X:=(fun w _=>laidMetH Tryz.prog [("smalto/border.names",Rows.laid_smalto_border_names),("smalto/raw.kinds",Rows.laid_smalto_raw_kinds)] w)) (fun _ _ _ hh h=>h.of_heap hh) own started (by kernel_rfl) Tryz.func9
    (ChangeSpec.witness_shaped (enc:=enc) (C:=Tryz.checked) (os:=os) (X:=(fun w _=>laidMetH Tryz.prog [("smalto/border.names",Rows.laid_smalto_border_names),("smalto/raw.kinds",Rows.laid_smalto_raw_kinds)] w)) false (World.laidAll Tryz.prog os [("smalto/border.names",Rows.laid_smalto_border_names),("smalto/raw.kinds",Rows.laid_smalto_raw_kinds)]) #[.agg #[.int .u16 0,.int .u16 0,.int .u16 0,.int .u16 0,.slice none 0 0],.slice none 0 0] 8 (World.laidAll_os _ _ _)
      (World.shaped_of_ZipB (by kernel_rfl) (by kernel_rfl)) (by kernel_rfl) (by kernel_rfl) (by kernel_rfl) (T.anB os _)) ?_
  intro W base args ds gs before hval0 hW hcnd hsz0 hL _;have hsz:(DataW.weightsEach Tryz.prog (Tryz.f9.params.toList ++ Rows.directComposesSpec.plain.varTypes Tryz.prog) (ds ++ gs)).all (·≤reachBytes)=true:=hsz0;have hG:=T.aqy hL;have hval:∀ (j:Nat) t v,Tryz.f9.params[j]? = some t→args[j]? = some v→Value.okWide Tryz.prog W .any base t v:=hval0;have hW':=hW;obtain ⟨p,q,hA0,hV,rfl,hfz,hnd⟩:=hW;have hA:DataW.TrodAll enc Tryz.prog W 0 (fun _=>true) true Tryz.f9.params.toList args.toList ds p:=hA0;rw [Tryz.params9] at hA hval hsz;obtain ⟨v0,vs0,d0,ds0,p0,q0,hargs,rfl,rfl,h0,r0⟩:=trodAll_cons hA;obtain ⟨v1,vs1,d1,ds1,p1,q1,rfl,rfl,rfl,h1,r1⟩:=trodAll_cons r0;obtain ⟨rfl,rfl,rfl⟩:=trodAll_nil r1;obtain rfl:args = #[v0,v1]:=(by cases args;simp_all);obtain ⟨rfl,rfl⟩:=trodVars_none hV;obtain ⟨cs0,rfl,_⟩:=okWide_struct Tryz.underlying82 (hval 0 82 v0 rfl rfl);have k0:=h0;have lt0:∀ x ∈ p0,x.block < W.heap.size:=(by obtain ⟨m,hm⟩:=k0;exact DataW.trod_lt m _ _ _ hm);obtain ⟨x0,x1,x2,x3,a0,l0,cap0,rfl,b0,b1,b2,b3,w0,y0,i0⟩:=QA.atB h0;obtain ⟨a1,len1,cap1,rfl⟩:=okWide_slice Tryz.underlying22 (hval 1 22 v1 rfl rfl);have k1:=h1;have lt1:∀ x ∈ p1,x.block < W.heap.size:=(by obtain ⟨m,hm⟩:=k1;exact DataW.trod_lt m _ _ _ hm);obtain ⟨l1,e1,w1,y1,i1⟩:=QA.atC h1;subst e1;clear hA0 hval0 hsz0 hsz;refine (QA.afa x0 x1 x2 x3 a0 cap0 l0 l1 a1 cap1 W hG w1 y1 i1 b0 b1 b2 b3 w0 y0 i0).mono fun e W' ⟨he,bel⟩ => ?_;subst he;exact ⟨_,rfl,_,_,_,[],_,[],hW',trodAll_mk1 (shut_bool Tryz.underlying4 _),(trodAll_cons_mk (Below.trod laidOut (by kernel_rfl) (of_decide_eq_true (by kernel_rfl)) k0 bel lt0) (trodAll_cons_mk (Below.trod laidOut (by kernel_rfl) (of_decide_eq_true (by kernel_rfl)) k1 bel lt1) trodAll_mk0)),rfl,bel.frame _,fun h=>by cases h⟩
theorem over:Rows.directComposesRow.holds Tryz.pinned (OpenSpec.ofChange Rows.directComposesSpec) :=
  OpenClaim.holds_of_wide 9 Tryz.f9 rfl rfl rfl rfl rfl rfl rfl ⟨rfl,rfl,rfl,rfl,rfl⟩ rfl rfl rfl rfl rfl (by kernel_rfl) Tryz.func9 (by kernel_rfl)
    (of_decide_eq_true (by kernel_rfl)) (by unfold Func.isWrapper;first|(rw [if_pos (by decide +kernel)];kernel_rfl)|(rw [if_neg (by decide +kernel)];exact ⟨rfl,rfl⟩))
    (fun os started H enc _=>lifted os started H enc)
theorem proved:Rows.DirectComposesSaid:=over
theorem card:Rows.DirectComposesCardSaid :=
  Claim7.holds_tied_plain_at .later [] [.widerDeep,.data] true (true, "0218a7742358582213f6125ab700f1f36476d9e80d919f46203e6e60e53f4575") false proved (fun _ h=>by cases h) (by kernel_rfl) (fun _ h=>by cases h) directComposes_row_tie rfl ⟨rfl,rfl⟩ (by kernel_rfl) rfl
    (fun f fn hf hfn=>by
      obtain rfl:f=9:=Option.some.inj ((show Tryz.prog.funcNamed "smalto/smaltolaw15.DirectComposes"=some 9 by kernel_rfl).symm.trans hf) |>.symm
      obtain rfl:fn=Tryz.f9:=(Option.some.inj (Tryz.func9.symm.trans hfn)).symm
      exact ⟨by kernel_rfl,fun j t ht=>by
        rw [Tryz.params9] at ht;have hm:t ∈ [82,22]:=(by simpa using Array.mem_of_getElem? ht);have hall:([82,22].all fun u => !Tryz.prog.wantsStandIn u)=true:=(by kernel_rfl);exact (show Tryz.prog.wantsStandIn t=false by simpa using List.all_eq_true.1 hall t hm)⟩)
    (by kernel_rfl)
#print axioms proved
#print axioms card
end Go.Proofs.YtpondkggmcmpfaaGreatDoor.directComposes
namespace Go.Proofs.YtpondkggmcmpfaaGreatDoor
theorem aqz:Rows.DirectComposesSaid:=directComposes.proved
theorem directComposes_card_holds:Rows.DirectComposesCardSaid:=directComposes.card
end Go.Proofs.YtpondkggmcmpfaaGreatDoor
