/- Joined by wip/tools/bundle.py out of: TP TR4. -/
import Derived.Test.YtpondkggmcmpfaaGreatDoorBPlanTiles1
import Derived.Test.YtpondkggmcmpfaaGreatDoorBPlanTiles14
import Derived.Handy
import Derived.Lib.SliceRun
import Derived.Test.YtpondkggmcmpfaaGreatDoorBPlanTiles0
import Derived.Test.YtpondkggmcmpfaaGreatDoorBPlanTiles8
import Derived.Test.YtpondkggmcmpfaaGreatDoorBPlanTiles10
import Derived.Test.YtpondkggmcmpfaaGreatDoorBPlanTiles16
import Derived.Test.YtpondkggmcmpfaaGreatDoorBPlanTiles22
import Derived.Test.YtpondkggmcmpfaaGreatDoorBPlanTiles9
import Derived.Test.YtpondkggmcmpfaaGreatDoorBPlanTiles15
namespace Go.Proofs.YtpondkggmcmpfaaGreatDoor.QA
open Go.RowKit Go.Proofs.YtpondkggmcmpfaaGreatDoorW.PrintWords Go.Proofs.YtpondkggmcmpfaaGreatDoorW.PrintLast Go.Proofs.YtpondkggmcmpfaaGreatDoorW.PrintMore Go.Proofs.YtpondkggmcmpfaaGreatDoor.T
set_option linter.unusedVariables false
set_option linter.unusedSimpArgs false
theorem ajz {n s:Int} (h3:1≤s):n≤dU n s*s:=by
  have h1:=Int.emod_add_mul_ediv (n+s - 1) s
  have h2:=Int.emod_lt_of_pos (n+s - 1) (show 0 < s by omega)
  have e:dU n s*s=s*((n+s - 1) / s):=by rw [Int.mul_comm];rfl
  rw [e];omega
end Go.Proofs.YtpondkggmcmpfaaGreatDoor.QA
namespace Go.Proofs.YtpondkggmcmpfaaGreatDoor.QA
open Go.RowKit Go.Proofs.YtpondkggmcmpfaaGreatDoorW.PrintWords Go.Proofs.YtpondkggmcmpfaaGreatDoorW.PrintLast Go.Proofs.YtpondkggmcmpfaaGreatDoorW.PrintMore Go.Proofs.YtpondkggmcmpfaaGreatDoor.T
set_option linter.unusedVariables false
set_option linter.unusedSimpArgs false
theorem ahY {t:Tab} (T:Told t) (i k:Int):∀ q,t.lines.length*4194400+1≤q→aU.f q (t.lines.map toR) i k=some (qI i k 0 (0,0,false) (t.lines.map toR)):=by
  intro q hq
  unfold aU.f
  have hl:(t.lines.map toR).length=t.lines.length:=List.length_map ..
  have h:=alG 4194400 (Nat.le_refl _) i k (t.lines.map toR) (by rw [hl];exact T.n) (fun o ho=>by
    rw [hl] at ho
    rw [ave _ ho]
    have:=(T.l o ho).1
    exact ⟨this.2.1,this.2.2.1,this.2.2.2⟩) t.lines.length 0 (0,0,false) (by rw [hl];omega) q hq
  exact h
theorem ahZ {t:Tab} (T:Told t) (i k:Int):(qI i k 0 (0,0,false) (t.lines.map toR)).1=(dD t i k).1∧wrap64 ((qI i k 0 (0,0,false) (t.lines.map toR)).2.1 - (qI i k 0 (0,0,false) (t.lines.map toR)).1)=(dD t i k).2:=by
  rcases aoy t.lines t rfl i k T.n (fun o ho=>(T.l o ho).1) with ⟨-,lo,hi,e1,e2,-⟩|⟨e1,e2⟩
  · rw [e1,e2];exact ⟨rfl,rfl⟩
  · rw [e1,e2];exact ⟨rfl,show wrap64 ((0:Int) - 0)=0 from by unfold wrap64;decide⟩
theorem abK (ws:List iL) (hn:ws.length≤70000):∀ (d o:Nat) (m:Int),o+d=ws.length→∀ q,d+1≤q→gG.l0 q m ws (ws.length:Int) (o:Int)=some ((ws.drop o).foldl (fun m x=>mx m (x.f1.length:Int)) m)
  | 0,o,m,h,q,hq=>by
    obtain ⟨q,rfl⟩:∃ m,q=m+1:=⟨q - 1,by omega⟩
    rw [gG.l0,if_neg (by omega),List.drop_eq_nil_of_le (by omega)];rfl
  | d+1,o,m,h,q,hq=>by
    obtain ⟨q,rfl⟩:∃ m,q=m+1:=⟨q - 1,by omega⟩
    have hlt:o < ws.length:=by omega
    have w1:wrap64 ((o:Int)+1)=((o+1:Nat):Int):=by rw [aC (by omega) (by omega)];simp
    rw [gG.l0,if_pos (by omega),if_pos (by omega),if_pos (by omega),w1,alF ws hlt,List.foldl_cons]
    by_cases c:((eX ws (o:Int)).f1.length:Int) > m
    · rw [if_pos c,abK ws hn d (o+1) _ (by omega) q (by omega)]
      congr 2
      unfold mx;split <;> omega
    · rw [if_neg c,abK ws hn d (o+1) _ (by omega) q (by omega)]
      congr 2
      unfold mx;split <;> omega
theorem aoH {t:Tab} (T:Told t):∀ q,t.lines.length*4194400+1≤q→gG.f q (t.lines.map toR)=some t.most:=by
  intro q hq
  unfold gG.f
  have hl:(t.lines.map toR).length=t.lines.length:=List.length_map ..
  have h:=abK (t.lines.map toR) (by rw [hl];exact T.n) t.lines.length 0 0 (by rw [hl];omega) q (by omega)
  rw [show ((0:Nat):Int)=0 from rfl] at h
  rw [h,T.m,List.drop_zero,List.foldl_map];rfl
theorem atY {tx:Tab} {tw th:Int} {c r:Nat} {C:Int} (hC:C=dU tx.lines.length tw) (hc:(c:Int) < C) (x y:Int) (hx:x=c*tw) (hy:y=r*th):qc tx tw (r*C+c)=x∧qY tx tw th (r*C+c)=y:=by
  unfold qc qY
  have h1:((r:Int)*C+c) % C=c:=by rw [Int.mul_comm,Int.mul_add_emod_self_left];exact Int.emod_eq_of_lt (by omega) hc
  have h2:((r:Int)*C+c) / C=r:=by rw [Int.mul_comm,Int.mul_add_ediv_left _ _ (by omega),Int.ediv_eq_zero_of_lt (by omega) hc];omega
  rw [← hC,h1,h2];exact ⟨hx.symm,hy.symm⟩
theorem alR {tx ty:Tab} (X:Told tx) (Y:Told ty) {tw th:Int} (B:xG tw th tx ty) (C R:Nat) (hC:(C:Int)=dU tx.lines.length tw) (hR:(R:Int)=dU ty.lines.length th) (hm:C*R≤100000) (x2 x3 x4:Int) (Z:Option (List S67)) (K r:Nat) (hr:r < R) (y:Int) (hy:y=r*th)
    (rQ:∀ i k q,K≤q→aU.f q (tx.lines.map toR) i k=some (qI i k 0 (0,0,false) (tx.lines.map toR))) (rP:∀ i k q,K≤q→aU.f q (ty.lines.map toR) i k=some (qI i k 0 (0,0,false) (ty.lines.map toR))) (mQ:∀ q,K≤q→gG.f q (ty.lines.map toR)=some ty.most) (hZ:∀ q,K≤q→bQ.l0 q tw th (nD tx ty tw th ((r+1)*C)) (y+th) (tx.lines.map toR) (ty.lines.map toR) x2 x3 x4=Z) :
    ∀ (d c:Nat) (x:Int),c+d=C→x=c*tw→∀ q,K+2*d+1≤q→bQ.l1 q tw th (nD tx ty tw th (r*C+c)) y x (tx.lines.map toR) (ty.lines.map toR) x2 x3 x4=Z
  | 0,c,x,h,hx,q,hq=>by
    obtain ⟨q,rfl⟩:∃ m,q=m+1:=⟨q - 1,by omega⟩
    have hl:(tx.lines.map toR).length=tx.lines.length:=List.length_map ..
    have he:=ajz (n:=(tx.lines.length:Int)) B.w1
    rw [← hC,show C=c by omega,← hx] at he
    have yl:y≤ty.lines.length - 1:=by rw [hy];exact aaR B.h1 (by rw [← hR];omega)
    have y0:0≤y:=by rw [hy];exact Int.mul_nonneg (by omega) (by have:=B.h1;omega)
    have:=B.y2;have:=B.h2;have:=B.h1
    rw [bQ.l1,hl,if_neg (by omega),aC (by omega) (by omega),show r*C+c=(r+1)*C by rw [Nat.add_mul];omega]
    exact hZ q (by omega)
  | d+1,c,x,h,hx,q,hq=>by
    obtain ⟨q,rfl⟩:∃ m,q=m+2:=⟨q - 2,by omega⟩
    have hl:(tx.lines.map toR).length=tx.lines.length:=List.length_map ..
    have hl2:(ty.lines.map toR).length=ty.lines.length:=List.length_map ..
    have xl:x≤tx.lines.length - 1:=by rw [hx];exact aaR B.w1 (by rw [← hC];omega)
    have x0:0≤x:=by rw [hx];exact Int.mul_nonneg (by omega) (by have:=B.w1;omega)
    have yl:y≤ty.lines.length - 1:=by rw [hy];exact aaR B.h1 (by rw [← hR];omega)
    have y0:0≤y:=by rw [hy];exact Int.mul_nonneg (by omega) (by have:=B.h1;omega)
    have bx2:=B.x2;have by2:=B.y2;have bh2:=B.h2;have bh1:=B.h1;have bw1:=B.w1;have bw2:=B.w2
    have hno:((r*C+c:Nat):Int)=(r:Int)*(C:Int)+c:=by simp
    have hto:=atY (th:=th) (c:=c) (r:=r) hC (by omega) x y hx hy
    rw [← hno] at hto
    have hlen:(nD tx ty tw th (r*C+c)).length=r*C+c:=wO ..
    have hrc:(r+1)*C≤R*C:=Nat.mul_le_mul_right _ hr
    rw [Nat.add_mul,Nat.mul_comm R C] at hrc
    have wx:wrap64 (x+tw)=x+tw:=aC (by omega) (by omega)
    have wy:wrap64 (y+th)=y+th:=aC (by omega) (by omega)
    have wnx:wrap64 ((tx.lines.length:Int) - x)=tx.lines.length - x:=aC (by omega) (by omega)
    have wny:wrap64 ((ty.lines.length:Int) - y)=ty.lines.length - y:=aC (by omega) (by omega)
    have ih:=alR X Y B C R hC hR hm x2 x3 x4 Z K r hr y hy rQ rP mQ hZ d (c+1) (x+tw) (by omega) (by rw [hx];simp [Int.add_mul]) q (by omega)
    have hst:nD tx ty tw th (r*C+(c+1))=nD tx ty tw th (r*C+c) ++ [abU tx ty tw th ((r*C+c:Nat):Int)]:=by
      rw [← Nat.add_assoc];unfold nD;rw [List.range_succ,List.map_append];rfl
    obtain ⟨Wd,hWd⟩:∃ v,v=outW tx tw ((r*C+c:Nat):Int):=⟨_,rfl⟩
    obtain ⟨Ht,hHt⟩:∃ v,v=yh tx ty tw th ((r*C+c:Nat):Int):=⟨_,rfl⟩
    have eW:Wd=if x+tw > (tx.lines.length:Int) then (tx.lines.length:Int) - x else tw:=by rw [hWd,outW,hto.1];split <;> omega
    have eH:Ht=if y+th > (ty.lines.length:Int) then (ty.lines.length:Int) - y else th:=by rw [hHt,yh,hto.2];split <;> omega
    have gW0:0≤Wd∧Wd≤4096:=by rw [eW];split <;> omega
    have gW:wrap64 (x+Wd)=x+Wd:=aC (by omega) (by omega)
    have gH0:0≤Ht∧Ht≤4096:=by rw [eH];split <;> omega
    have gH:wrap64 (y+Ht)=y+Ht:=aC (by omega) (by omega)
    have rX:=rQ x (x+Wd) q (by omega)
    have rY:=rP y (y+Ht) q (by omega)
    have pX:=ahZ X x (x+Wd)
    have pY:=ahZ Y y (y+Ht)
    have hT:abU tx ty tw th ((r*C+c:Nat):Int)=⟨((r*C+c:Nat):Int),x,y,Wd,Ht,(dD tx x (x+Wd)).1,(dD ty y (y+Ht)).1,(dD tx x (x+Wd)).2,(dD ty y (y+Ht)).2,ty.most⟩:=by
      unfold abU;rw [hto.1,hto.2,← hWd,← hHt]
    have hj:∀ W H:Int,W=Wd→H=(if y+th > (ty.lines.length:Int) then th else Ht)→bQ.j2 (q+1) tw th (nD tx ty tw th (r*C+c)) y x (tx.lines.map toR) (ty.lines.map toR) x2 x3 x4 ((r*C+c:Nat):Int) x y W H 0 0 0 0 ty.most=Z:=by
      intro W H e1 e2
      subst e1
      rw [bQ.j2,wy,hl2]
      by_cases cy:y+th > (ty.lines.length:Int)
      · rw [if_pos cy] at eH e2
        rw [if_pos cy,wny,gW,rX,Option.bind_some,← eH,gH,rY,Option.bind_some,hlen,if_pos (by omega),wx,pX.2,pX.1,pY.2,pY.1,← hT,← hst]
        exact ih
      · rw [if_neg cy] at eH e2
        rw [if_neg cy,e2,gW,rX,Option.bind_some,gH,rY,Option.bind_some,hlen,if_pos (by omega),wx,pX.2,pX.1,pY.2,pY.1,← hT,← hst]
        exact ih
    rw [bQ.l1,hl,if_pos (by omega),mQ (q+1) (by omega),Option.bind_some,wx,hlen]
    have hH:th=(if y+th > (ty.lines.length:Int) then th else Ht):=by
      by_cases cy:y+th > (ty.lines.length:Int)
      · rw [if_pos cy]
      · rw [if_neg cy] at eH;rw [if_neg cy,eH]
    by_cases cx:x+tw > (tx.lines.length:Int)
    · rw [if_pos cx] at eW
      rw [if_pos cx,wnx]
      exact hj _ _ eW.symm hH
    · rw [if_neg cx] at eW
      rw [if_neg cx]
      exact hj _ _ eW.symm hH
theorem alS {tx ty:Tab} (X:Told tx) (Y:Told ty) {tw th:Int} (B:xG tw th tx ty) (C R:Nat) (hC:(C:Int)=dU tx.lines.length tw) (hR:(R:Int)=dU ty.lines.length th) (hm:C*R≤100000) (x2 x3 x4:Int) (M:Nat) (rQ:∀ i k q,M≤q→aU.f q (tx.lines.map toR) i k=some (qI i k 0 (0,0,false) (tx.lines.map toR))) (rP:∀ i k q,M≤q→aU.f q (ty.lines.map toR) i k=some (qI i k 0 (0,0,false) (ty.lines.map toR))) (mQ:∀ q,M≤q→gG.f q (ty.lines.map toR)=some ty.most) :
    ∀ (d r:Nat) (y:Int),r+d=R→y=r*th→∀ q,M+(2*C+2)*d+1≤q→bQ.l0 q tw th (nD tx ty tw th (r*C)) y (tx.lines.map toR) (ty.lines.map toR) x2 x3 x4=some (nD tx ty tw th (R*C))
  | 0,r,y,h,hy,q,hq=>by
    obtain ⟨q,rfl⟩:∃ m,q=m+1:=⟨q - 1,by omega⟩
    have hl:(ty.lines.map toR).length=ty.lines.length:=List.length_map ..
    have he:=ajz (n:=(ty.lines.length:Int)) B.h1
    rw [← hR,show R=r by omega,← hy] at he
    rw [bQ.l0,hl,if_neg (by omega),show r=R by omega]
  | d+1,r,y,h,hy,q,hq=>by
    obtain ⟨q,rfl⟩:∃ m,q=m+1:=⟨q - 1,by omega⟩
    have hl:(ty.lines.map toR).length=ty.lines.length:=List.length_map ..
    have yl:y≤ty.lines.length - 1:=by rw [hy];exact aaR B.h1 (by rw [← hR];omega)
    rw [Nat.mul_add] at hq
    have ih:=alS X Y B C R hC hR hm x2 x3 x4 M rQ rP mQ d (r+1) (y+th) (by omega) (by rw [hy];simp [Int.add_mul])
    rw [bQ.l0,hl,if_pos (by omega)]
    exact alR X Y B C R hC hR hm x2 x3 x4 _ (M+(2*C+2)*d+1) r (by omega) y hy (fun i k q hq=>rQ i k q (by omega)) (fun i k q hq=>rP i k q (by omega)) (fun q hq=>mQ q (by omega)) ih C 0 0 (by omega) (by simp) q (by omega)
theorem alT {tx ty:Tab} (X:Told tx) (Y:Told ty) {tw th:Int} (B:xG tw th tx ty) (n:Nat) (hn:(n:Int)=dU tx.lines.length tw*dU ty.lines.length th) (hm:n≤100000) (x2 x3 x4:Int):∃ K,bQ.f K (tx.lines.map toR) (ty.lines.map toR) x2 x3 x4 tw th=some (nD tx ty tw th n):=by
  have b1:=rF (n:=(tx.lines.length:Int)) (s:=tw) (by have:=B.x1;omega) (by have:=B.x2;omega) B.w1 B.w2
  have b2:=rF (n:=(ty.lines.length:Int)) (s:=th) (by have:=B.y1;omega) (by have:=B.y2;omega) B.h1 B.h2
  obtain ⟨C,hC⟩:∃ C:Nat,(C:Int)=dU tx.lines.length tw:=⟨(dU tx.lines.length tw).toNat,by omega⟩
  obtain ⟨R,hR⟩:∃ C:Nat,(C:Int)=dU ty.lines.length th:=⟨(dU ty.lines.length th).toNat,by omega⟩
  rw [← hC,← hR] at hn
  have e:n=R*C:=by rw [Nat.mul_comm];exact Int.ofNat.inj (by rw [Int.ofNat_eq_natCast,Int.ofNat_eq_natCast,hn];simp)
  have q1:=ahY X
  have q2:=ahY Y
  have q3:=aoH Y
  generalize tx.lines.length*4194400=u at q1
  generalize ty.lines.length*4194400=v at q2 q3
  have h:=alS X Y B C R hC hR (by rw [Nat.mul_comm];omega) x2 x3 x4 (u+v+1) (fun i k q hq=>q1 i k q (by omega)) (fun i k q hq=>q2 i k q (by omega)) (fun q hq=>q3 q (by omega)) R 0 0 (by omega) (by simp) _ (Nat.le_refl _)
  refine ⟨u+v+1+(2*C+2)*R+1,?_⟩
  rw [e];unfold bQ.f
  rw [Nat.zero_mul] at h
  exact h
end Go.Proofs.YtpondkggmcmpfaaGreatDoor.QA
