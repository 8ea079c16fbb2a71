/- Joined by wip/tools/bundle.py out of: TP TF4. -/
import Derived.Test.YtpondkggmcmpfaaGreatDoorBPlanCovers1
import Derived.Test.YtpondkggmcmpfaaGreatDoorBPlanCovers14
import Derived.Handy
import Derived.Lib.SliceRun
import Derived.Test.YtpondkggmcmpfaaGreatDoorBPlanCovers0
import Derived.Test.YtpondkggmcmpfaaGreatDoorBPlanCovers8
import Derived.Test.YtpondkggmcmpfaaGreatDoorBPlanCovers10
import Derived.Test.YtpondkggmcmpfaaGreatDoorBPlanCovers15
import Derived.Test.YtpondkggmcmpfaaGreatDoorBPlanCovers21
import Derived.Maps.RangeRun
namespace Go.Proofs.YtpondkggmcmpfaaGreatDoor.QA
open Go.RowKit Go.Proofs.YtpondkggmcmpfaaGreatDoorW.PrintWords Go.Proofs.YtpondkggmcmpfaaGreatDoorW.PrintLast Go.Proofs.YtpondkggmcmpfaaGreatDoorW.PrintMore Go.Proofs.YtpondkggmcmpfaaGreatDoor.T
set_option linter.unusedVariables false
set_option linter.unusedSimpArgs false
theorem am4 {n s j:Int} (h3:1≤s) (h:j*s+s < n):j+1 < dh n s:=by
  have q:j+2≤dh n s:=(Int.le_ediv_iff_mul_le (by omega)).2 (by rw [Int.add_mul];omega)
  omega
theorem an4 {n s:Int} (h3:1≤s):n≤dh n s*s:=by
  have h1:=Int.emod_add_mul_ediv (n+s - 1) s
  have h2:=Int.emod_lt_of_pos (n+s - 1) (show 0 < s by omega)
  have e:dh n s*s=s*((n+s - 1) / s):=by rw [Int.mul_comm];rfl
  rw [e];omega
theorem row_step {c i:Int} (hc:0 < c):(i % c+1=c→(i+1) % c=0∧(i+1) / c=i / c+1)∧(i % c+1≠c→(i+1) % c=i % c+1∧(i+1) / c=i / c):=by
  have h1:=Int.emod_add_mul_ediv i c
  have h2:=Int.emod_lt_of_pos i hc
  have h3:=Int.emod_nonneg i (show c≠0 by omega)
  refine ⟨fun h => ?_,fun h => ?_⟩
  · have:=(Int.ediv_emod_unique (a:=i+1) (b:=c) (r:=0) (q:=i / c+1) hc).2 ⟨by rw [Int.mul_add];omega,by omega,by omega⟩
    exact ⟨this.2,this.1⟩
  · have:=(Int.ediv_emod_unique (a:=i+1) (b:=c) (r:=i % c+1) (q:=i / c) hc).2 ⟨by omega,by omega,by omega⟩
    exact ⟨this.2,this.1⟩
theorem an5 {tx ty:Tab} {tw th i:Int} (B:sS tw th tx ty):((tx.lines.length:Int)≤jO tx tw i+tw→jO tx tw (i+1)=0∧jP tx tw th (i+1)=jP tx tw th i+th)∧(¬ (tx.lines.length:Int)≤jO tx tw i+tw→jO tx tw (i+1)=jO tx tw i+tw∧jP tx tw th (i+1)=jP tx tw th i):=by
  have b1:=oV (n:=(tx.lines.length:Int)) (s:=tw) (by have:=B.x1;omega) (by have:=B.x2;omega) B.w1 B.w2
  have w1:=B.w1
  have hl:=Int.emod_lt_of_pos i (show 0 < dh tx.lines.length tw by omega)
  have hs:=row_step (c:=dh tx.lines.length tw) (i:=i) (by omega)
  have hn:=am4 (n:=(tx.lines.length:Int)) (s:=tw) (j:=i % dh tx.lines.length tw) w1
  have hp:=afW (n:=(tx.lines.length:Int)) (s:=tw) (j:=i % dh tx.lines.length tw+1) w1
  rw [Int.add_mul] at hp
  unfold jO jP
  refine ⟨fun h => ?_,fun h => ?_⟩
  · have hc:i % dh tx.lines.length tw+1=dh tx.lines.length tw:=by omega
    rw [(hs.1 hc).1,(hs.1 hc).2,Int.add_mul];exact ⟨Int.zero_mul _,by omega⟩
  · have hc:i % dh tx.lines.length tw+1≠dh tx.lines.length tw:=by have:=hn (by omega);omega
    rw [(hs.2 hc).1,(hs.2 hc).2,Int.add_mul];exact ⟨by omega,rfl⟩
theorem akw (tx:Tab) (tw th:Int):jO tx tw 0=0∧jP tx tw th 0=0:=by unfold jO jP;rw [Int.zero_emod,Int.zero_ediv];exact ⟨Int.zero_mul _,Int.zero_mul _⟩
theorem arU {tx ty:Tab} {tw th:Int} (B:sS tw th tx ty):jO tx tw (dh tx.lines.length tw*dh ty.lines.length th)=0∧(ty.lines.length:Int)≤jP tx tw th (dh tx.lines.length tw*dh ty.lines.length th):=by
  have b1:=oV (n:=(tx.lines.length:Int)) (s:=tw) (by have:=B.x1;omega) (by have:=B.x2;omega) B.w1 B.w2
  unfold jO jP
  rw [Int.mul_emod_right,Int.mul_ediv_cancel_left _ (by omega)]
  exact ⟨Int.zero_mul _,an4 B.h1⟩
end Go.Proofs.YtpondkggmcmpfaaGreatDoor.QA
namespace Go.Proofs.YtpondkggmcmpfaaGreatDoor.QA
open Go.RowKit Go.Proofs.YtpondkggmcmpfaaGreatDoorW.PrintWords Go.Proofs.YtpondkggmcmpfaaGreatDoorW.PrintLast Go.Proofs.YtpondkggmcmpfaaGreatDoorW.PrintMore Go.Proofs.YtpondkggmcmpfaaGreatDoor.T
set_option linter.unusedVariables false
set_option linter.unusedSimpArgs false
def rcV (x y:Int):Value := .agg #[.int .i64 x,.int .i64 y,.int .i64 0,.int .i64 0]
theorem am5 (w:World) (a b c d:Int):(Op.equal 56 (rcV a b) (rcV c d)).run Tryz.prog w = .ok (decide (a=c∧b=d)) w:=by
  unfold rcV
  show (Op.equalIn (9999+1) _ _ _).run _ _=_
  refine asf Tryz.underlying56 (by kernel_rfl) ?_
  by_cases h1:a=c <;> by_cases h2:b=d <;> simp [Op.eqFields,go_sem,Tryz.underlying3,h1,h2]
theorem afX (em:Bool) (x y:Int) (w:World):(Instr.checkKey em 10000 56 (rcV x y)).run Tryz.prog w = .ok () w:=by kernel_rfl
theorem ahW (x y:Int) (w:World):∀ (E:List MapEntry) (i:Nat),(∀ e ∈ E,∃ a b,e.key=rcV a b∧¬ (x=a∧y=b))→(Instr.findAsking 56 (rcV x y) E i).run Tryz.prog w = .ok none w
  | [],i,_=>by simp [Instr.findAsking]
  | e :: r,i,h=>by
    obtain ⟨a,b,hk,hn⟩:=h e (List.mem_cons_self ..)
    have ih:=ahW x y w r (i+1) (fun z hz=>h z (List.mem_cons_of_mem _ hz))
    simp only [Instr.findAsking,hk,Sem.run_bind,am5,Result.andThen,decide_eq_false hn]
    exact ih
theorem alx (x y:Int) (v:Value) (n:Nat) (w:World):∀ (E:List MapEntry) (i:Nat),(∀ e ∈ E,∃ a b,e.key=rcV a b∧¬ (x=a∧y=b))→(Instr.findAsking 56 (rcV x y) (E ++ [⟨rcV x y,v,n⟩]) i).run Tryz.prog w = .ok (some (i+E.length,v)) w
  | [],i,_=>by
    show (Instr.findAsking 56 (rcV x y) [⟨rcV x y,v,n⟩] i).run _ _=_
    simp only [Instr.findAsking,Sem.run_bind,am5,Result.andThen,decide_eq_true (show x=x∧y=y from ⟨rfl,rfl⟩)]
    rfl
  | e :: r,i,h=>by
    obtain ⟨a,b,hk,hn⟩:=h e (List.mem_cons_self ..)
    have ih:=alx x y v n w r (i+1) (fun z hz=>h z (List.mem_cons_of_mem _ hz))
    rw [List.cons_append]
    simp only [Instr.findAsking,hk,Sem.run_bind,am5,Result.andThen,decide_eq_false hn]
    have hl:i+(e :: r).length=i+1+r.length:=by rw [List.length_cons];omega
    rw [hl,← ih]
    rfl
theorem ahX (x y:Int) (w:World) (E:List MapEntry) (r:Option (Nat × Value)) (h:(Instr.findAsking 56 (rcV x y) E 0).run Tryz.prog w = .ok r w):(Instr.findKey 56 (rcV x y) E).run Tryz.prog w = .ok r w:=by
  cases E with
  | nil=>simpa [Instr.findKey,run_underlying Tryz.underlying56,Instr.findAsking,Instr.findNow,Result.andThen] using h
  | cons e r=>simpa [Instr.findKey,run_underlying Tryz.underlying56,Instr.findNow,Instr.sameNow,rcV,Result.andThen] using h
def rcE (x y v:Int) (n:Nat):MapEntry:=⟨rcV x y,.int .i64 v,n⟩
def xk (w:World) (b n:Nat) (P:Int→Int→Prop):Prop:=∃ E:List MapEntry,w.heap[b]? = some (.map E.toArray n)∧E.length=n∧(∀ e ∈ E,∃ x y,e.key=rcV x y∧P x y)∧(∀ e ∈ E,e.val = .int .i64 1)∧(∀ e ∈ E,e.born < n)∧(E.map (·.born)).Nodup
theorem xk.at {w w':World} {b n:Nat} {P:Int→Int→Prop} (h:xk w b n P) (e:w'.heap[b]? = w.heap[b]?):xk w' b n P:=by
  obtain ⟨E,hb,r⟩:=h
  exact ⟨E,e.trans hb,r⟩
theorem xk.mono {w:World} {b n:Nat} {P Q:Int→Int→Prop} (h:xk w b n P) (i:∀ x y,P x y→Q x y):xk w b n Q:=by
  obtain ⟨E,hb,hl,hk,r⟩:=h
  exact ⟨E,hb,hl,fun e he=>by obtain ⟨x,y,e1,e2⟩:=hk e he;exact ⟨x,y,e1,i x y e2⟩,r⟩
theorem xk.lt {w:World} {b n:Nat} {P:Int→Int→Prop} (h:xk w b n P):b < w.heap.size:=by
  obtain ⟨E,hb,-⟩:=h
  exact (Array.getElem?_eq_some_iff.1 hb).1
theorem agZ {α:Type} (f:α→α) (a:α):∀ l:List α,(l ++ [a]).modify l.length f=l ++ [f a]
  | []=>rfl
  | b :: r=>by simp [List.modify_succ_cons,agZ f a r]
theorem akx (n:Nat) (z:MapEntry) (hz:z.born=n):∀ (l:List MapEntry),(∀ e ∈ l,e.born < n)→(l ++ [z]).findIdx? (fun e=>((e.born:Nat):Int) == ((n:Nat):Int))=some l.length
  | [],_=>by simp [List.findIdx?_cons,hz]
  | e :: r,h=>by
    have h0:=h e (List.mem_cons_self ..)
    have ih:=akx n z hz r (fun x hx=>h x (List.mem_cons_of_mem _ hx))
    have hne:(((e.born:Nat):Int) == ((n:Nat):Int))=false:=by rw [beq_eq_false_iff_ne];omega
    rw [List.cons_append,List.findIdx?_cons,hne,ih]
    rfl
theorem ap0 {w:World} {b n:Nat} {P:Int→Int→Prop} {x y:Int} (h:xk w b n P) (hp:¬ P x y):∃ o1 o2:Obj,
    (∀ u:World,u.heap[b]? = w.heap[b]? → (Instr.lookup 75 (.map (some b)) (rcV x y) false).run Tryz.prog u = .ok (.int .i64 0) u) ∧
    (∀ u:World,u.heap[b]? = w.heap[b]? → (Instr.mapEntry 75 (.map (some b)) (rcV x y)).run Tryz.prog u = .ok (.tuple #[.int .i64 0,.int .i64 (n:Int)]) (ChangeMaps.setBlock u b o1)) ∧
    (∀ u:World,u.heap[b]? = some o1→(Instr.lookup 75 (.map (some b)) (rcV x y) false).run Tryz.prog u = .ok (.int .i64 0) u) ∧
    (∀ u:World,u.heap[b]? = some o1→(Instr.entryStore 75 (.map (some b)) (.int .i64 (n:Int)) (.int .i64 1)).run Tryz.prog u = .ok () (ChangeMaps.setBlock u b o2)) ∧
    (∀ u:World,u.heap[b]? = some o2→xk u b (n+1) (fun a c=>P a c∨(a=x∧c=y))):=by
  obtain ⟨E,hb,hl,hk,hv,hbo,hn⟩:=h
  have hno:∀ e ∈ E,∃ a c,e.key=rcV a c∧¬ (x=a∧y=c):=fun e he=>by
    obtain ⟨a,c,e1,e2⟩:=hk e he
    exact ⟨a,c,e1,fun q=>hp (by rw [q.1,q.2];exact e2)⟩
  have zE:∀ u:World,(zeroValue 3).run Tryz.prog u = .ok (.int .i64 0) u:=fun u=>by kernel_rfl
  refine ⟨.map (E ++ [rcE x y 0 n]).toArray (n+1),.map (E ++ [rcE x y 1 n]).toArray (n+1),fun u hu => ?_,fun u hu => ?_,fun u hu => ?_,fun u hu => ?_,fun u hu => ?_⟩
  · have hf:=ahX x y u E none (ahW x y u E 0 hno)
    simp [Instr.lookup,run_underlying Tryz.underlying75,MapKept.run_getObj_map (hu.trans hb),afX,hf,zE,Result.andThen]
  · have hf:=ahX x y u E none (ahW x y u E 0 hno)
    simp [Instr.mapEntry,run_underlying Tryz.underlying75,MapKept.run_getObj_map (hu.trans hb),afX,hf,zE,MapKept.run_setObj_map _ (hu.trans hb),Result.andThen,ChangeMaps.setBlock,goInt,rcE]
  · have hf:=ahX x y u _ _ (alx x y (.int .i64 0) n u E 0 hno)
    have hf2:(Instr.findKey 56 (rcV x y) (E ++ [rcE x y 0 n])).run Tryz.prog u = .ok (some (0+E.length,.int .i64 0)) u:=hf
    simp [Instr.lookup,run_underlying Tryz.underlying75,MapKept.run_getObj_map hu,afX,hf2,Result.andThen]
  · have hi:(E ++ [rcE x y 0 n]).toArray.findIdx? (fun e=>((e.born:Nat):Int) == ((n:Nat):Int))=some E.length:=by
      rw [List.findIdx?_toArray];exact akx n _ rfl E hbo
    have hm:(E ++ [rcE x y 0 n]).toArray.modify E.length (fun e=>{ e with val := .int .i64 1 })=(E ++ [rcE x y 1 n]).toArray:=by
      rw [List.modify_toArray,agZ];rfl
    have hi2:=hi
    simp at hi2
    simp [Instr.entryStore,MapKept.run_getObj_map hu,asInt,asIntOf,Result.andThen,hi,hi2,hm,MapKept.run_setObj_map _ hu,ChangeMaps.setBlock]
  · refine ⟨_,hu,by simp [hl],fun e he => ?_,fun e he => ?_,fun e he => ?_,?_⟩
    · rcases List.mem_append.1 he with he|he
      · obtain ⟨a,c,e1,e2⟩:=hk e he;exact ⟨a,c,e1,.inl e2⟩
      · rw [List.mem_singleton.1 he];exact ⟨x,y,rfl,.inr ⟨rfl,rfl⟩⟩
    · rcases List.mem_append.1 he with he|he
      · exact hv e he
      · rw [List.mem_singleton.1 he];rfl
    · rcases List.mem_append.1 he with he|he
      · exact Nat.lt_succ_of_lt (hbo e he)
      · rw [List.mem_singleton.1 he];exact Nat.lt_succ_self n
    · rw [List.map_append]
      refine List.nodup_append.2 ⟨hn,by simp,fun a ha c hc e1 => ?_⟩
      obtain ⟨z,hz,rfl⟩:=List.mem_map.1 ha
      have:=hbo z hz
      simp [rcE] at hc
      omega
theorem aes (u:World) (b:Nat) (o:Obj) (h:b < u.heap.size):(ChangeMaps.setBlock u b o).heap[b]? = some o:=by
  unfold ChangeMaps.setBlock;simp [h]
theorem aad (u:World) (b:Nat) (o:Obj) {k:Nat} (h:k≠b):(ChangeMaps.setBlock u b o).heap[k]? = u.heap[k]? := by
  unfold ChangeMaps.setBlock;simp [Array.getElem?_setIfInBounds,Ne.symm h]
theorem adl (u:World) (b:Nat) (o:Obj):(ChangeMaps.setBlock u b o).heap.size=u.heap.size:=by unfold ChangeMaps.setBlock;simp
theorem an6 {B:Nat} {w u:World} (h:Below B w u) {b:Nat} (hb:B≤b) (o:Obj):Below B w (ChangeMaps.setBlock u b o):=⟨h.os,h.tape,h.output,by rw [adl];exact h.size,fun k hk=>(aad u b o (by omega)).trans (h.block k hk)⟩
theorem aly {w:World} {b n:Nat} {P:Int→Int→Prop} (h:xk w b n P) (ty:TypeId):(Builtin.len_ #[75] ty #[.map (some b)]).run Tryz.prog w = .ok (.int .i64 (n:Int)) w:=by
  obtain ⟨E,hb,hl,-⟩:=h
  simp [Builtin.len_,run_underlying Tryz.underlying75,MapKept.run_getObj_map hb,Result.andThen,goInt,hl]
def am6 (w:World) (b r n cnt:Nat):Prop:=∃ (E:List MapEntry) (seen:Array Nat),w.heap[b]? = some (.map E.toArray n)∧(∀ e ∈ E,∃ x y,e.key=rcV x y)∧(∀ e ∈ E,e.val = .int .i64 1)∧(∀ e ∈ E,e.born < n)∧(E.map (·.born)).Nodup∧w.heap[r]? = some (.mapIter (some b) n seen n)∧(leftOf E.toArray seen).size=cnt
theorem an7 {w:World} {b n:Nat} {P:Int→Int→Prop} (h:xk w b n P):∃ w',(Instr.range 75 (.map (some b))).run Tryz.prog w = .ok (.pointer (some ⟨w.heap.size,0,none⟩)) w'∧(∃ cnt,am6 w' b w.heap.size n cnt)∧xk w' b n P∧Below w.heap.size w w':=by
  have hlt:=h.lt
  have h0:=h
  obtain ⟨E,hb,hl,hk,hv,hbo,hn⟩:=h
  refine ⟨_,run_range_map w _ _ _ b E.toArray n Tryz.underlying75 hb,⟨_,E,#[],(heap_alloc_old w _ hlt).trans hb,fun e he=>by obtain ⟨x,y,e1,_⟩:=hk e he;exact ⟨x,y,e1⟩,hv,hbo,hn,heap_alloc_new w _,rfl⟩,h0.at (heap_alloc_old w _ hlt),aT (Below.refl _ _) _⟩
theorem ap1 {w:World} {b r n cnt:Nat} (h:am6 w b r n cnt) (ty:TypeId) :
    ((Instr.next (.pointer (some ⟨r,0,none⟩)) false ty).run Tryz.prog w = .ok (.tuple #[.bool false]) w) ∨
    ∃ x y w' cnt',(Instr.next (.pointer (some ⟨r,0,none⟩)) false ty).run Tryz.prog w = .ok (.tuple #[.bool true,rcV x y,.int .i64 1]) w'∧(Instr.entry (.pointer (some ⟨r,0,none⟩))).run Tryz.prog w' = .ok (.tuple #[rcV x y,.int .i64 1]) w'∧am6 w' b r n cnt'∧cnt' < cnt∧w'.heap[b]? = w.heap[b]? ∧ ∀ B,B≤r→Below B w w':=by
  obtain ⟨E,seen,hb,hk,hv,hbo,hn,hr,rfl⟩:=h
  have hne:r≠b:=fun e=>by rw [e,hb] at hr;cases hr
  rcases run_next_at (P:=Tryz.prog) w ty r b n n seen E.toArray n hr hb (fun x hx=>hbo x (by simpa using hx)) (Nat.le_refl n) with ⟨-,hrun⟩|⟨e,he,w1,hal,hrun⟩
  · exact .inl hrun
  · have hem:e ∈ E:=by have:=(mem_left he).1;simpa using this
    obtain ⟨x,y,e1⟩:=hk e hem
    rw [e1,hv e hem] at hrun
    have hr1:w1.heap[r]? = some (.mapIter (some b) n seen n):=by rcases hal with rfl|rfl <;> exact hr
    have hb1:w1.heap[b]? = some (.map E.toArray n):=by rcases hal with rfl|rfl <;> exact hb
    have hrl:r < w1.heap.size:=(Array.getElem?_eq_some_iff.1 hr1).1
    have hr2:=aes w1 r (.mapIter (some b) n (seen.push e.born) n) hrl
    have hb2:=(aad w1 r (.mapIter (some b) n (seen.push e.born) n) (Ne.symm hne)).trans hb1
    have hen:=run_entry_at (P:=Tryz.prog) _ r b n seen E.toArray n e hr2 hb2 (by simpa using hem) (by simpa using hn)
    rw [e1,hv e hem] at hen
    refine .inr ⟨x,y,_,_,hrun,hen,⟨E,seen.push e.born,hb2,hk,hv,hbo,hn,hr2,rfl⟩,left_shrinks _ seen e he,?_,fun B hB => ?_⟩
    · rw [hb2,hb]
    · refine an6 (b:=r) ?_ hB _
      rcases hal with rfl|rfl
      · exact Below.refl _ _
      · exact bg (Below.refl _ _)
def fdV (c tw th x y:Int):Int:=y / th*c+x / tw
def PT (c tw th X Y i dx dy x y:Int):Prop:=fdV c tw th x y < i∨(fdV c tw th x y=i∧(x < X+dx∨(x=X+dx∧y < Y+dy)))
theorem an8 {tx ty:Tab} {tw th i dx dy:Int} (B:sS tw th tx ty) (dx0:0≤dx) (dx1:dx < tw) (dy0:0≤dy) (dy1:dy < th):fdV (dh tx.lines.length tw) tw th (jO tx tw i+dx) (jP tx tw th i+dy)=i:=by
  have w1:=B.w1;have h1:=B.h1
  have e1:(jO tx tw i+dx) / tw=i % dh tx.lines.length tw:=by
    unfold jO
    rw [Int.add_comm,Int.add_mul_ediv_right _ _ (by omega),Int.ediv_eq_zero_of_lt dx0 dx1,Int.zero_add]
  have e2:(jP tx tw th i+dy) / th=i / dh tx.lines.length tw:=by
    unfold jP
    rw [Int.add_comm,Int.add_mul_ediv_right _ _ (by omega),Int.ediv_eq_zero_of_lt dy0 dy1,Int.zero_add]
  unfold fdV
  rw [e1,e2,Int.mul_comm]
  have:=Int.emod_add_mul_ediv i (dh tx.lines.length tw)
  omega
def aeu (tx ty:Tab) (tw th i:Int):Int:=min (jP tx tw th i) ty.lines.length*tx.lines.length+jO tx tw i*pX tx ty tw th i
theorem an9 {tx ty:Tab} {tw th:Int}:aeu tx ty tw th 0=0:=by
  unfold aeu
  rw [(akw tx tw th).1,(akw tx tw th).2,Int.zero_mul,Int.add_zero,show min (0:Int) (ty.lines.length:Int)=0 by omega,Int.zero_mul]
theorem aoa {tx ty:Tab} {tw th i:Int} (B:sS tw th tx ty) (i0:0≤i) (i1:i < dh tx.lines.length tw*dh ty.lines.length th):aeu tx ty tw th i+outW tx tw i*pX tx ty tw th i=aeu tx ty tw th (i+1):=by
  have nt:=an5 (i:=i) B
  have xb:=adi (i:=i) B
  have yb:=adk (i:=i) B i0 i1
  have w1:=B.w1;have h1:=B.h1
  unfold aeu
  by_cases h:(tx.lines.length:Int)≤jO tx tw i+tw
  · obtain ⟨a1,a2⟩:=nt.1 h
    rw [a1,a2,Int.zero_mul,Int.add_zero]
    have e1:outW tx tw i=tx.lines.length - jO tx tw i:=by unfold outW;omega
    have e2:min (jP tx tw th i+th) ty.lines.length=jP tx tw th i+pX tx ty tw th i:=by unfold pX;omega
    have e3:min (jP tx tw th i) ty.lines.length=jP tx tw th i:=by omega
    rw [e1,e2,e3,Int.add_mul,Int.sub_mul,Int.mul_comm (pX tx ty tw th i)]
    omega
  · obtain ⟨a1,a2⟩:=nt.2 h
    have e1:outW tx tw i=tw:=by unfold outW;omega
    have e2:pX tx ty tw th (i+1)=pX tx ty tw th i:=by unfold pX;rw [a2]
    rw [a1,a2,e1,e2,Int.add_mul]
    omega
theorem ap2 {tx ty:Tab} {tw th:Int} (B:sS tw th tx ty):aeu tx ty tw th (dh tx.lines.length tw*dh ty.lines.length th)=tx.lines.length*ty.lines.length:=by
  have oe:=arU B
  unfold aeu
  rw [oe.1,Int.zero_mul,Int.add_zero,show min (jP tx tw th (dh tx.lines.length tw*dh ty.lines.length th)) (ty.lines.length:Int)=ty.lines.length by omega,Int.mul_comm]
set_option maxHeartbeats 8000000 in
set_option maxRecDepth 100000 in
theorem ap3 (bp bx bz:Nat) (bd tw th:Int) (tx ty:Tab) (x y:Int) (w:World) (h:qM w bp bx bz bd tw th tx ty) (hx:x < 0∨(tx.lines.length:Int)≤x∨y < 0∨(ty.lines.length:Int)≤y) :
    Calls Tryz.prog 31 #[.pointer (some ⟨bp,0,none⟩),.int .i64 x,.int .i64 y] w fun e w'=>e = .returned (.tuple #[.int .i64 0,.bool false])∧w'=w:=by
  obtain ⟨h0,htx,hty⟩:=h
  obtain ⟨c0,c1,c2,c3,c4⟩:=ou h0
  have TX:=aj.mk (lY bx tx w htx)
  have TY:=aj.mk (lY bz ty w hty)
  obtain ⟨nx,hnx⟩:∃ v:Int,v=tx.lines.length:=⟨_,rfl⟩
  obtain ⟨ny,hny⟩:∃ v:Int,v=ty.lines.length:=⟨_,rfl⟩
  rw [← hnx] at TX hx
  rw [← hny] at TY hx
  clear h0 htx hty hnx hny
  by_cases x0:x < 0
  · have d0:decide (x < 0)=true:=decide_eq_true x0
    clear hx
    go_enter Tryz.func31,Tryz.ntmps31
    go_wp2
    go_ret2
    exact ⟨rfl,rfl⟩
  have d0:decide (x < 0)=false:=decide_eq_false x0
  by_cases x1:nx≤x
  · have d1:decide (nx≤x)=true:=decide_eq_true x1
    clear hx
    go_enter Tryz.func31,Tryz.ntmps31
    go_wp2_with (go_at_call 22;(with_reducible refine TX.out.mono ?_);rintro e w1 ⟨rfl,rfl⟩)
    go_ret2
    exact ⟨rfl,rfl⟩
  have d1:decide (nx≤x)=false:=decide_eq_false x1
  by_cases y0:y < 0
  · have d2:decide (y < 0)=true:=decide_eq_true y0
    clear hx
    go_enter Tryz.func31,Tryz.ntmps31
    go_wp2_with (go_at_call 22;(with_reducible refine TX.out.mono ?_);rintro e w1 ⟨rfl,rfl⟩)
    go_ret2
    exact ⟨rfl,rfl⟩
  have d2:decide (y < 0)=false:=decide_eq_false y0
  have y1:ny≤y:=by omega
  have d3:decide (ny≤y)=true:=decide_eq_true y1
  clear hx
  go_enter Tryz.func31,Tryz.ntmps31
  go_wp2_with (first
    | (go_at_call 22;(with_reducible refine TX.out.mono ?_);rintro e w1 ⟨rfl,rfl⟩)
    | (go_at_call 22;(with_reducible refine TY.out.mono ?_);rintro e w1 ⟨rfl,rfl⟩))
  go_ret2
  exact ⟨rfl,rfl⟩
set_option maxHeartbeats 8000000 in
set_option maxRecDepth 100000 in
theorem alz (bp bx bz:Nat) (bd tw th:Int) (tx ty:Tab) (x y:Int) (w:World) (h:qM w bp bx bz bd tw th tx ty) (B:sS tw th tx ty) (x0:0≤x) (x1:x < tx.lines.length) (y0:0≤y) (y1:y < ty.lines.length) :
    Calls Tryz.prog 31 #[.pointer (some ⟨bp,0,none⟩),.int .i64 x,.int .i64 y] w fun e w'=>e = .returned (.tuple #[.int .i64 (fdV (dh tx.lines.length tw) tw th x y),.bool true])∧dw w w':=by
  have CO:=aj.mk (fun n=>aa0 bp bx bz bd tw th tx ty (w.drewN n) (h.drewN n) B)
  obtain ⟨h0,htx,hty⟩:=h
  obtain ⟨c0,c1,c2,c3,c4⟩:=ou h0
  have TX:=aj.mk (lY bx tx w htx)
  have TY:=aj.mk (lY bz ty w hty)
  have b1:=oV (n:=(tx.lines.length:Int)) (s:=tw) (by have:=B.x1;omega) (by have:=B.x2;omega) B.w1 B.w2
  have hw1:=B.w1;have hw2:=B.w2;have hh1:=B.h1;have hh2:=B.h2;have hx2:=B.x2;have hy2:=B.y2
  obtain ⟨nx,hnx⟩:∃ v:Int,v=tx.lines.length:=⟨_,rfl⟩
  obtain ⟨ny,hny⟩:∃ v:Int,v=ty.lines.length:=⟨_,rfl⟩
  obtain ⟨cs,hcs⟩:∃ u,u=dh tx.lines.length tw:=⟨_,rfl⟩
  rw [← hcs] at CO b1 ⊢
  rw [← hnx] at TX x1
  rw [← hny] at TY y1
  have k1:nx≤70000:=by omega
  have k2:ny≤70000:=by omega
  have d0:decide (x < 0)=false:=decide_eq_false (by omega)
  have d1:decide (nx≤x)=false:=decide_eq_false (by omega)
  have d2:decide (y < 0)=false:=decide_eq_false (by omega)
  have d3:decide (ny≤y)=false:=decide_eq_false (by omega)
  have n0:¬ x < 0:=by omega
  have n1:¬ nx≤x:=by omega
  have n2:¬ y < 0:=by omega
  have n3:¬ ny≤y:=by omega
  have e1:Int.tdiv x tw=x / tw:=Int.tdiv_eq_ediv_of_nonneg x0
  have e2:Int.tdiv y th=y / th:=Int.tdiv_eq_ediv_of_nonneg y0
  have qx0:0≤x / tw:=Int.ediv_nonneg x0 (by omega)
  have qx1:x / tw≤x:=Int.ediv_le_self _ x0
  have qy0:0≤y / th:=Int.ediv_nonneg y0 (by omega)
  have qy1:y / th≤y:=Int.ediv_le_self _ y0
  have m0:0≤y / th*cs:=Int.mul_nonneg qy0 (by omega)
  have m1:y / th*cs≤70000*70000:=Int.le_trans (Int.mul_le_mul_of_nonneg_right (by omega:y / th≤70000) (by omega)) (Int.mul_le_mul_of_nonneg_left b1.2 (by decide))
  have q1:IntKind.i64.wrap (x / tw)=x / tw:=by rw [kU];exact aC (by omega) (by omega)
  have q2:IntKind.i64.wrap (y / th)=y / th:=by rw [kU];exact aC (by omega) (by omega)
  have q3:IntKind.i64.wrap (y / th*cs)=y / th*cs:=by rw [kU];exact aC (by omega) (by omega)
  have q4:IntKind.i64.wrap (y / th*cs+x / tw)=y / th*cs+x / tw:=by rw [kU];exact aC (by omega) (by omega)
  have q1':wrap64 (x / tw)=x / tw:=aC (by omega) (by omega)
  have q2':wrap64 (y / th)=y / th:=aC (by omega) (by omega)
  have z1:tw≠0:=by omega
  have z2:th≠0:=by omega
  have z3:(tw == 0)=false:=by rw [beq_eq_false_iff_ne];omega
  have z4:(th == 0)=false:=by rw [beq_eq_false_iff_ne];omega
  have z5:(tw != 0)=true:=by rw [bne_iff_ne];omega
  have z6:(th != 0)=true:=by rw [bne_iff_ne];omega
  unfold fdV
  clear h0 htx hty hnx hny hcs B b1 hw1 hw2 hh1 hh2 hx2 hy2 x0 x1 y0 y1 k1 k2 qx0 qx1 qy0 qy1 m0 m1
  go_enter Tryz.func31,Tryz.ntmps31
  go_wp2_with (first
    | (go_at_call 22;(with_reducible refine TX.out.mono ?_);rintro e w1 ⟨rfl,rfl⟩)
    | (go_at_call 22;(with_reducible refine TY.out.mono ?_);rintro e w1 ⟨rfl,rfl⟩))
  go_quiet (first
    | (go_at_call 64;exact xE (CO.out _)))
  go_wp2
  go_ret2
  exact ⟨rfl,⟨⟨nq,rfl⟩⟩⟩
end Go.Proofs.YtpondkggmcmpfaaGreatDoor.QA
