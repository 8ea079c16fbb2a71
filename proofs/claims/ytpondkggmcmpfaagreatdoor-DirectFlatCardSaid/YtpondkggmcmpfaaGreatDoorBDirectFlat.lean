/- a picture of one sample stays so through all stages -/
import Derived.Test.YtpondkggmcmpfaaGreatDoorBDirectFlat22
import Derived.Test.YtpondkggmcmpfaaGreatDoorCards
import Derived.Test.YtpondkggmcmpfaaGreatDoorTie
import Derived.ShutString
set_option maxHeartbeats 8000000
set_option maxRecDepth 100000
namespace Go.Proofs.YtpondkggmcmpfaaGreatDoor.directFlat
open Go.ChangeShapes Go.WideShapes Go.ChangeAt Go.RowKit
open Go.ChangeMaps (open_string shut_string)
set_option linter.unusedVariables false
theorem own:ownKnob Tryz.prog.godebug=none:=by kernel_rfl
theorem laidOut:laidOutB Tryz.prog=true:=by kernel_rfl
def aBr (k:IntKind) (w:World) (a:Option Addr) (len cap:Nat) (zs:List Int):Prop :=
 (a=none/\len=0/\cap=0/\zs=[]) \/
 ∃ x,a=some x/\len<=cap/\cap<=maxLen/\zs.length=cap/\(∀ i,i < zs.length->w.cell? (x.add i)=some (.int k (zs.getD i 0)))/\∀ n ∈ zs,(Lit.int k n).wf=true
theorem lifted (os:Os) (started:os.Started) (H:Type) (enc:TypeId × Value->H) :
   ReturnsInHanded {} Tryz.checked os 10 .any (fun w args=>(Rows.directFlatSpec.pre enc Tryz.prog Tryz.f10 Rows.directFlatRow.domain false w args∧laidMetH Tryz.prog [("smalto/border.names",Rows.laid_smalto_border_names),("smalto/raw.kinds",Rows.laid_smalto_raw_kinds)] w)∧sizedMet enc Tryz.prog Tryz.f10 (OpenSpec.ofChange Rows.directFlatSpec) false w args) (Rows.directFlatSpec.post enc Tryz.prog Tryz.f10 false true false false):=by
 refine returnsInHanded_of_change_and (C:=Tryz.checked) (X:=(fun w _=>laidMetH Tryz.prog [("smalto/border.names",Rows.laid_smalto_border_names),("smalto/raw.kinds",Rows.laid_smalto_raw_kinds)] w)) (fun _ _ _ hh h=>h.of_heap hh) own started (by kernel_rfl) Tryz.func10
   (ChangeSpec.witness_shaped (enc:=enc) (C:=Tryz.checked) (os:=os) (X:=(fun w _=>laidMetH Tryz.prog [("smalto/border.names",Rows.laid_smalto_border_names),("smalto/raw.kinds",Rows.laid_smalto_raw_kinds)] w)) false (World.laidAll Tryz.prog os [("smalto/border.names",Rows.laid_smalto_border_names),("smalto/raw.kinds",Rows.laid_smalto_raw_kinds)]) #[.agg #[.int .u16 0,.int .u16 0,.int .u16 0,.int .u16 0,.slice none 0 0],.slice none 0 0,.int .u16 0] 8 (World.laidAll_os _ _ _)
     (World.shaped_of_ZipB (by kernel_rfl) (by kernel_rfl)) (by kernel_rfl) (by kernel_rfl) (by kernel_rfl) (T.akN os _)) ?_
 intro W base args ds gs before hval0 hW hcnd hsz0 hL _;have hsz:(DataW.weightsEach Tryz.prog (Tryz.f10.params.toList ++ Rows.directFlatSpec.plain.varTypes Tryz.prog) (ds ++ gs)).all (·<=reachBytes)=true:=hsz0;have hG:=T.anz hL;have hval:∀ (j:Nat) t v,Tryz.f10.params[j]? = some t->args[j]? = some v->Value.okWide Tryz.prog W .any base t v:=hval0;have hW':=hW;obtain ⟨p,q,hA0,hV,rfl,hfz,hnd⟩:=hW;have hA:DataW.TrodAll enc Tryz.prog W 0 (fun _=>true) true Tryz.f10.params.toList args.toList ds p:=hA0;rw [Tryz.params10] at hA hval hsz;obtain ⟨v0,vs0,d0,ds0,p0,q0,hargs,rfl,rfl,h0,r0⟩:=trodAll_cons hA;obtain ⟨v1,vs1,d1,ds1,p1,q1,rfl,rfl,rfl,h1,r1⟩:=trodAll_cons r0;obtain ⟨v2,vs2,d2,ds2,p2,q2,rfl,rfl,rfl,h2,r2⟩:=trodAll_cons r1;obtain ⟨rfl,rfl,rfl⟩:=trodAll_nil r2;obtain rfl:args = #[v0,v1,v2]:=(by cases args;simp_all);obtain ⟨rfl,rfl⟩:=trodVars_none hV;obtain ⟨cs0,rfl,_⟩:=okWide_struct Tryz.underlying82 (hval 0 82 v0 rfl rfl);have k0:=h0;have lt0:∀ x ∈ p0,x.block < W.heap.size:=(by obtain ⟨m,hm⟩:=k0;exact DataW.trod_lt m _ _ _ hm);obtain ⟨x0,x1,x2,x3,a0,l0,cap0,rfl,b0,b1,b2,b3,w0,y0,i0⟩:=QA.ap7 h0;obtain ⟨a1,len1,cap1,rfl⟩:=okWide_slice Tryz.underlying22 (hval 1 22 v1 rfl rfl);have k1:=h1;have lt1:∀ x ∈ p1,x.block < W.heap.size:=(by obtain ⟨m,hm⟩:=k1;exact DataW.trod_lt m _ _ _ hm);obtain ⟨l1,e1,w1,y1,i1⟩:=QA.ap8 h1;subst e1;obtain ⟨a2,rfl,rfl,rfl,w2⟩:=open_int Tryz.underlying79 (hval 2 79 v2 rfl rfl) h2;clear hA0 hval0 hsz0 hsz;refine (QA.agA x0 x1 x2 x3 a0 cap0 l0 l1 a1 cap1 a2 W hG w1 y1 i1 b0 b1 b2 b3 w0 y0 i0 (T.afP w2)).mono fun e W' ⟨he,bel⟩ => ?_;subst he;exact ⟨_,rfl,_,_,_,[],_,[],hW',trodAll_mk1 (shut_bool Tryz.underlying4 _),(trodAll_cons_mk (Below.trod laidOut (by kernel_rfl) (of_decide_eq_true (by kernel_rfl)) k0 bel lt0) (trodAll_cons_mk (Below.trod laidOut (by kernel_rfl) (of_decide_eq_true (by kernel_rfl)) k1 bel lt1) (trodAll_cons_mk (shut_int Tryz.underlying79 w2) trodAll_mk0))),rfl,bel.frame _,fun h=>by cases h⟩
theorem over:Rows.directFlatRow.holds Tryz.pinned (OpenSpec.ofChange Rows.directFlatSpec) :=
 OpenClaim.holds_of_wide 10 Tryz.f10 rfl rfl rfl rfl rfl rfl rfl ⟨rfl,rfl,rfl,rfl,rfl⟩ rfl rfl rfl rfl rfl (by kernel_rfl) Tryz.func10 (by kernel_rfl)
   (of_decide_eq_true (by kernel_rfl)) (by unfold Func.isWrapper;first|(rw [if_pos (by decide +kernel)];kernel_rfl)|(rw [if_neg (by decide +kernel)];exact ⟨rfl,rfl⟩))
   (fun os started H enc _=>lifted os started H enc)
theorem proved:Rows.DirectFlatSaid:=over
theorem card:Rows.DirectFlatCardSaid :=
 Claim7.holds_tied_plain_at .later [] [.widerDeep,.data] true (true, "0218a7742358582213f6125ab700f1f36476d9e80d919f46203e6e60e53f4575") false proved (fun _ h=>by cases h) (by kernel_rfl) (fun _ h=>by cases h) directFlat_row_tie rfl ⟨rfl,rfl⟩ (by kernel_rfl) rfl
   (fun f fn hf hfn=>by
     obtain rfl:f=10:=Option.some.inj ((show Tryz.prog.funcNamed "smalto/smaltolaw15.DirectFlat"=some 10 by kernel_rfl).symm.trans hf) |>.symm
     obtain rfl:fn=Tryz.f10:=(Option.some.inj (Tryz.func10.symm.trans hfn)).symm
     exact ⟨by kernel_rfl,fun j t ht=>by
       rw [Tryz.params10] at ht;have hm:t ∈ [82,22,79]:=(by simpa using Array.mem_of_getElem? ht);have hall:([82,22,79].all fun u => !Tryz.prog.wantsStandIn u)=true:=(by kernel_rfl);exact (show Tryz.prog.wantsStandIn t=false by simpa using List.all_eq_true.1 hall t hm)⟩)
   (by kernel_rfl)
#print axioms proved
#print axioms card
end Go.Proofs.YtpondkggmcmpfaaGreatDoor.directFlat
namespace Go.Proofs.YtpondkggmcmpfaaGreatDoor
theorem ap9:Rows.DirectFlatSaid:=directFlat.proved
theorem directFlat_card_holds:Rows.DirectFlatCardSaid:=directFlat.card
end Go.Proofs.YtpondkggmcmpfaaGreatDoor
