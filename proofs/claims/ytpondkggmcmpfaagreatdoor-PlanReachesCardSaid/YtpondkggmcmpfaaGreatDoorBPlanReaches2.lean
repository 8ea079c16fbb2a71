/- Joined by wip/tools/bundle.py out of: S06P S06W QAx5 QAx6 QAx7 QAx8. -/
import Derived.Sort.Defs
import Derived.Sort.Row
import Derived.Sort.WalkC
import Derived.Test.YtpondkggmcmpfaaGreatDoorProg
import Derived.Shelf.SlSortCmp.Kit1
import Derived.Sort.WalkA
import Derived.Sort.WalkB2
import Derived.Sort.WalkB12
import Derived.Deep.LoopGhost
import Derived.KernelRfl
import Derived.Test.YtpondkggmcmpfaaGreatDoorBPlanReaches0
import Derived.Test.YtpondkggmcmpfaaGreatDoorBPlanReaches1
namespace Go.Proofs.YtpondkggmcmpfaaGreatDoor.S
open Go.Sort
variable {α:Type} [Inhabited α]
set_option linter.unusedVariables false
set_option linter.unusedSectionVars false
theorem swp_size (d:Array α) (i j:Nat):(swp d i j).size=d.size:=by unfold swp;simp
theorem swp_get (d:Array α) {i j:Nat} (hi:i < d.size) (hj:j < d.size) (k:Nat):(swp d i j)[k]! = if k=j then d[i]! else if k=i then d[j]! else d[k]! := by
  unfold swp
  by_cases h:k=j
  · subst h;rw [if_pos rfl,getElem!_set_same _ _ _ (by simpa using hj)]
  · rw [if_neg h,getElem!_set_other _ _ _ _ h]
    by_cases g:k=i
    · subst g;rw [if_pos rfl,getElem!_set_same _ _ _ hi]
    · rw [if_neg g,getElem!_set_other _ _ _ _ g]
def lq (d:Array α) (a b:Nat):Nat→Array α
  | 0=>d
  | n+1=>swp (lq d a b n) (a+n) (b+n)
theorem kE (d:Array α) (a b:Nat):∀ n,(lq d a b n).size=d.size
  | 0=>rfl
  | n+1=>by rw [lq,swp_size,kE d a b n]
theorem abv (d:Array α) (a b:Nat):∀ n,a+n≤b→b+n≤d.size→∀ k,(lq d a b n)[k]! = if a≤k∧k < a+n then d[k - a+b]! else if b≤k∧k < b+n then d[k - b+a]! else d[k]! := by
  intro n
  induction n with
  | zero=>intro h1 h2 k;rw [if_neg (by omega),if_neg (by omega)];rfl
  | succ n ih =>
    intro h1 h2 k
    have hz:=kE d a b n
    rw [lq,swp_get _ (by omega) (by omega)]
    have i1:=ih (by omega) (by omega)
    by_cases c1:k=b+n
    · rw [if_pos c1,i1,if_neg (by omega),if_neg (by omega),if_neg (by omega),if_pos (by omega)]
      exact congrArg (fun q=>d[q]!) (by omega)
    rw [if_neg c1]
    by_cases c2:k=a+n
    · rw [if_pos c2,i1,if_neg (by omega),if_neg (by omega),if_pos (by omega)]
      exact congrArg (fun q=>d[q]!) (by omega)
    rw [if_neg c2,i1]
    by_cases c3:a≤k∧k < a+n
    · rw [if_pos c3,if_pos (by omega)]
    rw [if_neg c3,if_neg (show ¬ (a≤k∧k < a+(n+1)) from by omega)]
    by_cases c4:b≤k∧k < b+n
    · rw [if_pos c4,if_pos (by omega)]
    rw [if_neg c4,if_neg (by omega)]
def lJ (m:Nat):Nat→Array α→Nat→Nat→Array α
  | 0,d,i,_=>lq d (m - i) m i
  | f+1,d,i,j=>if i=j then lq d (m - i) m i else if j < i then lJ m f (lq d (m - i) m j) (i - j) j else lJ m f (lq d (m - i) (m+j - i) i) i (j - i)
theorem aki (m:Nat):∀ f (d:Array α) i j,(lJ m f d i j).size=d.size:=by
  intro f
  induction f with
  | zero=>intro d i j;exact kE _ _ _ _
  | succ f ih =>
    intro d i j
    rw [lJ]
    split
    · exact kE _ _ _ _
    · split
      · rw [ih,kE]
      · rw [ih,kE]
theorem afb (m:Nat):∀ f (d:Array α) i j,i+j≤f+1→1≤i→1≤j→i≤m→m+j≤d.size→∀ k,(lJ m f d i j)[k]! = if m - i≤k∧k < m - i+j then d[k+i]! else if m - i+j≤k∧k < m+j then d[k - j]! else d[k]! := by
  intro f
  induction f with
  | zero=>intro d i j hf hi hj;omega
  | succ f ih =>
    intro d i j hf hi hj him hmj k
    rw [lJ]
    by_cases c:i=j
    · subst c
      rw [if_pos rfl,abv _ _ _ _ (by omega) (by omega)]
      by_cases c1:m - i≤k∧k < m - i+i
      · rw [if_pos c1,if_pos c1];exact congrArg (fun q=>d[q]!) (by omega)
      rw [if_neg c1,if_neg c1]
      by_cases c2:m≤k∧k < m+i
      · rw [if_pos c2,if_pos (by omega)];exact congrArg (fun q=>d[q]!) (by omega)
      rw [if_neg c2,if_neg (by omega)]
    rw [if_neg c]
    by_cases c0:j < i
    · rw [if_pos c0,ih _ _ _ (by omega) (by omega) hj (by omega) (by rw [kE];omega)]
      have g:=abv d (m - i) m j (by omega) (by omega)
      by_cases c1:m - (i - j)≤k∧k < m - (i - j)+j
      · rw [if_pos c1,g,if_neg (show ¬ (m - i≤k+(i - j)∧k+(i - j) < m - i+j) from by omega),if_pos (show m≤k+(i - j)∧k+(i - j) < m+j from by omega),
          if_neg (show ¬ (m - i≤k∧k < m - i+j) from by omega),if_pos (show m - i+j≤k∧k < m+j from by omega)]
        exact congrArg (fun q=>d[q]!) (by omega)
      rw [if_neg c1]
      by_cases c2:m - (i - j)+j≤k∧k < m+j
      · rw [if_pos c2,g,if_neg (show ¬ (m - i≤k - j∧k - j < m - i+j) from by omega),if_neg (show ¬ (m≤k - j∧k - j < m+j) from by omega),
          if_neg (show ¬ (m - i≤k∧k < m - i+j) from by omega),if_pos (show m - i+j≤k∧k < m+j from by omega)]
      rw [if_neg c2,g]
      by_cases c3:m - i≤k∧k < m - i+j
      · rw [if_pos c3,if_pos c3];exact congrArg (fun q=>d[q]!) (by omega)
      rw [if_neg c3,if_neg c3,if_neg (show ¬ (m≤k∧k < m+j) from by omega),if_neg (show ¬ (m - i+j≤k∧k < m+j) from by omega)]
    · rw [if_neg c0,ih _ _ _ (by omega) hi (by omega) (by omega) (by rw [kE];omega)]
      have g:=abv d (m - i) (m+j - i) i (by omega) (by omega)
      by_cases c1:m - i≤k∧k < m - i+(j - i)
      · rw [if_pos c1,g,if_neg (show ¬ (m - i≤k+i∧k+i < m - i+i) from by omega),if_neg (show ¬ (m+j - i≤k+i∧k+i < m+j - i+i) from by omega),if_pos (show m - i≤k∧k < m - i+j from by omega)]
      rw [if_neg c1]
      by_cases c2:m - i+(j - i)≤k∧k < m+(j - i)
      · rw [if_pos c2,g,if_pos (show m - i≤k - (j - i)∧k - (j - i) < m - i+i from by omega),if_pos (show m - i≤k∧k < m - i+j from by omega)]
        exact congrArg (fun q=>d[q]!) (by omega)
      rw [if_neg c2,g]
      by_cases c4:m - i+j≤k∧k < m+j
      · rw [if_neg (show ¬ (m - i≤k∧k < m - i+i) from by omega),if_pos (show m+j - i≤k∧k < m+j - i+i from by omega),if_neg (show ¬ (m - i≤k∧k < m - i+j) from by omega),if_pos c4]
        exact congrArg (fun q=>d[q]!) (by omega)
      rw [if_neg (show ¬ (m - i≤k∧k < m - i+i) from by omega),if_neg (show ¬ (m+j - i≤k∧k < m+j - i+i) from by omega),if_neg (show ¬ (m - i≤k∧k < m - i+j) from by omega),if_neg c4]
def Lx (key:α→Int) (idx:α→Nat) (x y:α):Prop:=key y < key x∨key x=key y∧idx x < idx y
theorem Lx.trans {key:α→Int} {idx:α→Nat} {x y z:α} (h:Lx key idx x y) (g:Lx key idx y z):Lx key idx x z:=by
  unfold Lx at *;omega
def Srt (key:α→Int) (idx:α→Nat) (d:Array α) (a b:Nat):Prop:=∀ i j,a≤i→i < j→j < b→Lx key idx d[i]! d[j]!
def Sam (d d':Array α) (a b:Nat):Prop:=d'.size=d.size∧(∀ k,k < a∨b≤k→d'[k]! = d[k]!)∧(∀ k,a≤k→k < b→∃ l,a≤l∧l < b∧d'[k]! = d[l]!)∧(∀ k,a≤k→k < b→∃ l,a≤l∧l < b∧d[k]! = d'[l]!)
theorem Sam.refl (d:Array α) (a b:Nat):Sam d d a b:=⟨rfl,fun _ _=>rfl,fun k h1 h2=>⟨k,h1,h2,rfl⟩,fun k h1 h2=>⟨k,h1,h2,rfl⟩⟩
theorem Sam.trans {d d' d'':Array α} {a b:Nat} (h:Sam d d' a b) (g:Sam d' d'' a b):Sam d d'' a b:=by
  obtain ⟨h1,h2,h3,h4⟩:=h
  obtain ⟨g1,g2,g3,g4⟩:=g
  refine ⟨g1.trans h1,fun k hk=>(g2 k hk).trans (h2 k hk),fun k a1 a2 => ?_,fun k a1 a2 => ?_⟩
  · obtain ⟨l,l1,l2,l3⟩:=g3 k a1 a2
    obtain ⟨m,m1,m2,m3⟩:=h3 l l1 l2
    exact ⟨m,m1,m2,l3.trans m3⟩
  · obtain ⟨l,l1,l2,l3⟩:=h4 k a1 a2
    obtain ⟨m,m1,m2,m3⟩:=g4 l l1 l2
    exact ⟨m,m1,m2,l3.trans m3⟩
theorem Sam.wide {d d':Array α} {a b c e:Nat} (h:Sam d d' a b) (hc:c≤a) (he:b≤e):Sam d d' c e:=by
  obtain ⟨h1,h2,h3,h4⟩:=h
  refine ⟨h1,fun k hk=>h2 k (by omega),fun k a1 a2 => ?_,fun k a1 a2 => ?_⟩
  · by_cases c1:a≤k∧k < b
    · obtain ⟨l,l1,l2,l3⟩:=h3 k c1.1 c1.2;exact ⟨l,by omega,by omega,l3⟩
    · exact ⟨k,a1,a2,h2 k (by omega)⟩
  · by_cases c1:a≤k∧k < b
    · obtain ⟨l,l1,l2,l3⟩:=h4 k c1.1 c1.2;exact ⟨l,by omega,by omega,l3⟩
    · exact ⟨k,a1,a2,(h2 k (by omega)).symm⟩
theorem Sam.srt {key:α→Int} {idx:α→Nat} {d d':Array α} {a b c e:Nat} (h:Sam d d' a b) (hs:Srt key idx d c e) (hd:e≤a∨b≤c):Srt key idx d' c e:=by
  intro i j h1 h2 h3
  rw [h.2.1 i (by omega),h.2.1 j (by omega)];exact hs i j h1 h2 h3
theorem Sam.swp {d:Array α} {a b i j:Nat} (hi:a≤i∧i < b) (hj:a≤j∧j < b) (hb:b≤d.size):Sam d (swp d i j) a b:=by
  have g:=swp_get d (i:=i) (j:=j) (by omega) (by omega)
  refine ⟨swp_size _ _ _,fun k hk => ?_,fun k a1 a2 => ?_,fun k a1 a2 => ?_⟩
  · rw [g,if_neg (by omega),if_neg (by omega)]
  · rw [g]
    by_cases c:k=j
    · rw [if_pos c];exact ⟨i,hi.1,hi.2,rfl⟩
    · rw [if_neg c]
      by_cases c2:k=i
      · rw [if_pos c2];exact ⟨j,hj.1,hj.2,rfl⟩
      · rw [if_neg c2];exact ⟨k,a1,a2,rfl⟩
  · by_cases c:k=i
    · subst c;exact ⟨j,hj.1,hj.2,by rw [g,if_pos rfl]⟩
    · by_cases c2:k=j
      · subst c2
        refine ⟨i,hi.1,hi.2,?_⟩
        rw [g,if_neg (by omega),if_pos rfl]
      · exact ⟨k,a1,a2,by rw [g,if_neg c2,if_neg c]⟩
theorem Sam.rot {d:Array α} {m i j:Nat} (hi:1≤i) (hj:1≤j) (him:i≤m) (hmj:m+j≤d.size):Sam d (lJ m (i+j) d i j) (m - i) (m+j):=by
  have g:=afb m (i+j) d i j (by omega) hi hj him hmj
  refine ⟨aki _ _ _ _ _,fun k hk => ?_,fun k a1 a2 => ?_,fun k a1 a2 => ?_⟩
  · rw [g,if_neg (by omega),if_neg (by omega)]
  · rw [g]
    by_cases c:m - i≤k∧k < m - i+j
    · rw [if_pos c];exact ⟨k+i,by omega,by omega,rfl⟩
    · rw [if_neg c,if_pos (by omega)];exact ⟨k - j,by omega,by omega,rfl⟩
  · by_cases c:k < m
    · refine ⟨k+j,by omega,by omega,?_⟩
      rw [g,if_neg (by omega),if_pos (by omega)];exact congrArg (fun q=>d[q]!) (by omega)
    · refine ⟨k - i,by omega,by omega,?_⟩
      rw [g,if_pos (by omega)];exact congrArg (fun q=>d[q]!) (by omega)
def Mrg (key:α→Int) (idx:α→Nat) (d:Array α) (a m b:Nat):Prop :=
  Srt key idx d a m∧Srt key idx d m b∧(∀ i j,a≤i→i < m→m≤j→j < b→idx d[i]! < idx d[j]!)
theorem abT {key:α→Int} {idx:α→Nat} {x y:α} (h:idx x < idx y):(key x < key y↔Lx key idx y x)∧(¬ key x < key y↔Lx key idx x y):=by
  unfold Lx;omega
theorem Srt.join {key:α→Int} {idx:α→Nat} {d:Array α} {a m b:Nat} (h1:Srt key idx d a m) (h2:Srt key idx d m b) (h:∀ i j,a≤i→i < m→m≤j→j < b→Lx key idx d[i]! d[j]!):Srt key idx d a b:=by
  intro i j hi hij hj
  by_cases c:j < m
  · exact h1 i j hi hij c
  · by_cases c2:m≤i
    · exact h2 i j c2 hij hj
    · exact h i j hi (by omega) (by omega) hj
def yN (a:Nat):Nat→Array α→Array α
  | 0,d=>d
  | n+1,d=>swp (yN a n d) (a+n) (a+n+1)
theorem abU (a:Nat):∀ n (d:Array α),(yN a n d).size=d.size
  | 0,_=>rfl
  | n+1,d=>by rw [yN,swp_size,abU a n d]
theorem aps (a:Nat) (d:Array α):∀ n,a+n < d.size→∀ k,(yN a n d)[k]! = if a≤k∧k < a+n then d[k+1]! else if k=a+n then d[a]! else d[k]! := by
  intro n
  induction n with
  | zero =>
    intro h k
    rw [if_neg (by omega)]
    by_cases c:k=a+0
    · rw [if_pos c];subst c;rfl
    · rw [if_neg c];rfl
  | succ n ih =>
    intro h k
    have hz:=abU a n d
    have i1:=ih (by omega)
    rw [yN,swp_get _ (by omega) (by omega)]
    by_cases c1:k=a+n+1
    · rw [if_pos c1,i1,if_neg (by omega),if_pos rfl,if_neg (by omega),if_pos (by omega)]
    rw [if_neg c1]
    by_cases c2:k=a+n
    · rw [if_pos c2,i1,if_neg (by omega),if_neg (by omega),if_pos (by omega)];exact congrArg (fun q=>d[q]!) (by omega)
    rw [if_neg c2,i1]
    by_cases c3:a≤k∧k < a+n
    · rw [if_pos c3,if_pos (by omega)]
    rw [if_neg c3,if_neg (by omega),if_neg (by omega),if_neg (by omega)]
def yO (m:Nat):Nat→Array α→Array α
  | 0,d=>d
  | n+1,d=>swp (yO m n d) (m - n) (m - n - 1)
theorem abV (m:Nat):∀ n (d:Array α),(yO m n d).size=d.size
  | 0,_=>rfl
  | n+1,d=>by rw [yO,swp_size,abV m n d]
theorem apt (m:Nat) (d:Array α) (hm:m < d.size):∀ n,n≤m→∀ k,(yO m n d)[k]! = if m - n < k∧k≤m then d[k - 1]! else if k=m - n then d[m]! else d[k]! := by
  intro n
  induction n with
  | zero =>
    intro h k
    rw [if_neg (by omega)]
    by_cases c:k=m - 0
    · rw [if_pos c];subst c;rfl
    · rw [if_neg c];rfl
  | succ n ih =>
    intro h k
    have hz:=abV m n d
    have i1:=ih (by omega)
    rw [yO,swp_get _ (by omega) (by omega)]
    by_cases c1:k=m - n - 1
    · rw [if_pos c1,i1,if_neg (by omega),if_pos rfl,if_neg (by omega),if_pos (by omega)]
    rw [if_neg c1]
    by_cases c2:k=m - n
    · rw [if_pos c2,i1,if_neg (by omega),if_neg (by omega),if_pos (by omega)];exact congrArg (fun q=>d[q]!) (by omega)
    rw [if_neg c2,i1]
    by_cases c3:m - n < k∧k≤m
    · rw [if_pos c3,if_pos (by omega)]
    rw [if_neg c3,if_neg (by omega),if_neg (by omega),if_neg (by omega)]
theorem Sam.yN {d:Array α} {a n b:Nat} (hn:a+n < b) (hb:b≤d.size):∀ q,q≤n→Sam d (yN a q d) a b
  | 0,_=>Sam.refl _ _ _
  | q+1,h=>(Sam.yN hn hb q (by omega)).trans (Sam.swp ⟨by omega,by omega⟩ ⟨by omega,by omega⟩ (by rw [abU];exact hb))
theorem Sam.yO {d:Array α} {a m n b:Nat} (hn:a+n≤m) (hm:m < b) (hb:b≤d.size):∀ q,q≤n→Sam d (yO m q d) a b
  | 0,_=>Sam.refl _ _ _
  | q+1,h=>(Sam.yO hn hm hb q (by omega)).trans (Sam.swp ⟨by omega,by omega⟩ ⟨by omega,by omega⟩ (by rw [abV];exact hb))
theorem anJ {key:α→Int} {idx:α→Nat} {d:Array α} {a b i:Nat} (hM:Mrg key idx d a (a+1) b) (hb:b≤d.size) (hi:a+1≤i∧i≤b)
    (h1:i=a+1∨Lx key idx d[i - 1]! d[a]!) (h2:i=b∨Lx key idx d[a]! d[i]!):Srt key idx (yN a (i - 1 - a) d) a b:=by
  obtain ⟨_,s2,_⟩:=hM
  have g:=aps a d (i - 1 - a) (by omega)
  have lo:∀ k,a+1≤k→k < i→Lx key idx d[k]! d[a]! := by
    intro k k1 k2
    rcases h1 with h|h
    · omega
    · by_cases c:k=i - 1
      · subst c;exact h
      · exact (s2 k (i - 1) k1 (by omega) (by omega)).trans h
  have hi2:∀ k,i≤k→k < b→Lx key idx d[a]! d[k]! := by
    intro k k1 k2
    rcases h2 with h|h
    · omega
    · by_cases c:k=i
      · subst c;exact h
      · exact h.trans (s2 i k (by omega) (by omega) k2)
  intro p q hp hpq hq
  rw [g,g]
  by_cases c1:a≤p∧p < a+(i - 1 - a)
  · rw [if_pos c1]
    by_cases c2:a≤q∧q < a+(i - 1 - a)
    · rw [if_pos c2];exact s2 _ _ (by omega) (by omega) (by omega)
    · rw [if_neg c2]
      by_cases c3:q=a+(i - 1 - a)
      · rw [if_pos c3];exact lo _ (by omega) (by omega)
      · rw [if_neg c3];exact s2 _ _ (by omega) (by omega) (by omega)
  · rw [if_neg c1,if_neg (show ¬ (a≤q∧q < a+(i - 1 - a)) from by omega),if_neg (show ¬ q=a+(i - 1 - a) from by omega)]
    by_cases c3:p=a+(i - 1 - a)
    · rw [if_pos c3];exact hi2 _ (by omega) hq
    · rw [if_neg c3];exact s2 _ _ (by omega) (by omega) hq
theorem apu {key:α→Int} {idx:α→Nat} {d:Array α} {a m i:Nat} (hM:Mrg key idx d a m (m+1)) (hb:m+1≤d.size) (hi:a≤i∧i≤m)
    (h1:i=a∨Lx key idx d[i - 1]! d[m]!) (h2:i=m∨Lx key idx d[m]! d[i]!):Srt key idx (yO m (m - i) d) a (m+1):=by
  obtain ⟨s1,_,_⟩:=hM
  have g:=apt m d (by omega) (m - i) (by omega)
  have lo:∀ k,a≤k→k < i→Lx key idx d[k]! d[m]! := by
    intro k k1 k2
    rcases h1 with h|h
    · omega
    · by_cases c:k=i - 1
      · subst c;exact h
      · exact (s1 k (i - 1) k1 (by omega) (by omega)).trans h
  have hi2:∀ k,i≤k→k < m→Lx key idx d[m]! d[k]! := by
    intro k k1 k2
    rcases h2 with h|h
    · omega
    · by_cases c:k=i
      · subst c;exact h
      · exact h.trans (s1 i k (by omega) (by omega) k2)
  intro p q hp hpq hq
  rw [g,g]
  by_cases c1:m - (m - i) < p∧p≤m
  · rw [if_pos c1,if_pos (by omega)];exact s1 _ _ (by omega) (by omega) (by omega)
  · rw [if_neg c1]
    by_cases c3:p=m - (m - i)
    · rw [if_pos c3,if_pos (by omega)];exact hi2 _ (by omega) (by omega)
    · rw [if_neg c3]
      by_cases c2:m - (m - i) < q∧q≤m
      · rw [if_pos c2];exact s1 _ _ (by omega) (by omega) (by omega)
      · rw [if_neg c2]
        by_cases c4:q=m - (m - i)
        · rw [if_pos c4];exact lo _ hp (by omega)
        · rw [if_neg c4];exact s1 _ _ (by omega) (by omega) (by omega)
theorem turned {key:α→Int} {idx:α→Nat} {d d':Array α} {a m b mid s e:Nat} (hM:Mrg key idx d a m b) (ha:a≤s∧s≤m) (he:m≤e∧e≤b) (hse:s+e=m+mid) (hb:b≤d.size)
    (hmid:a≤mid∧mid≤b) (h1:s=a∨e=b∨Lx key idx d[s - 1]! d[e]!) (h2:s=m∨e=m∨Lx key idx d[e - 1]! d[s]!)
    (hd:(s < m∧m < e∧d'=lJ m (m - s+(e - m)) d (m - s) (e - m))∨((s=m∨e=m)∧d'=d)) :
    Sam d d' a b∧Mrg key idx d' a s mid∧Mrg key idx d' mid e b∧∀ i j,a≤i→i < mid→mid≤j→j < b→Lx key idx d'[i]! d'[j]! := by
  obtain ⟨s1,s2,s3⟩:=hM
  have A1:∀ k l,a≤k→k < s→e≤l→l < b→Lx key idx d[k]! d[l]! := by
    intro k l k1 k2 l1 l2
    rcases h1 with h|h|h
    · omega
    · omega
    · have x:Lx key idx d[k]! d[e]! := by
        by_cases c:k=s - 1
        · subst c;exact h
        · exact (s1 k (s - 1) k1 (by omega) (by omega)).trans h
      by_cases c:l=e
      · subst c;exact x
      · exact x.trans (s2 e l (by omega) (by omega) l2)
  have A2:∀ k l,m≤k→k < e→s≤l→l < m→Lx key idx d[k]! d[l]! := by
    intro k l k1 k2 l1 l2
    rcases h2 with h|h|h
    · omega
    · omega
    · have x:Lx key idx d[k]! d[s]! := by
        by_cases c:k=e - 1
        · subst c;exact h
        · exact (s2 k (e - 1) k1 (by omega) (by omega)).trans h
      by_cases c:l=s
      · subst c;exact x
      · exact x.trans (s1 s l (by omega) (by omega) l2)
  have G:Sam d d' a b∧∀ k,d'[k]! = if s≤k∧k < mid then d[k+m - s]! else if mid≤k∧k < e then d[k+s - mid]! else d[k]! := by
    rcases hd with ⟨c1,c2,rfl⟩|⟨c1,rfl⟩
    · have g:=afb m (m - s+(e - m)) d (m - s) (e - m) (by omega) (by omega) (by omega) (by omega) (by omega)
      refine ⟨(Sam.rot (d:=d) (m:=m) (i:=m - s) (j:=e - m) (by omega) (by omega) (by omega) (by omega)).wide (by omega) (by omega),fun k => ?_⟩
      rw [g]
      by_cases x1:s≤k∧k < mid
      · rw [if_pos x1,if_pos (by omega)];exact congrArg (fun q=>d[q]!) (by omega)
      rw [if_neg x1,if_neg (by omega)]
      by_cases x2:mid≤k∧k < e
      · rw [if_pos x2,if_pos (by omega)];exact congrArg (fun q=>d[q]!) (by omega)
      rw [if_neg x2,if_neg (by omega)]
    · refine ⟨Sam.refl _ _ _,fun k => ?_⟩
      by_cases x1:s≤k∧k < mid
      · rw [if_pos x1];exact congrArg (fun q=>d'[q]!) (by omega)
      rw [if_neg x1]
      by_cases x2:mid≤k∧k < e
      · rw [if_pos x2];exact congrArg (fun q=>d'[q]!) (by omega)
      rw [if_neg x2]
  obtain ⟨GS,g⟩:=G
  have p1:∀ k,a≤k→k < s→d'[k]! = d[k]! := fun k k1 k2=>by rw [g,if_neg (by omega),if_neg (by omega)]
  have p2:∀ k,s≤k→k < mid→d'[k]! = d[k+m - s]! := fun k k1 k2=>by rw [g,if_pos (by omega)]
  have p3:∀ k,mid≤k→k < e→d'[k]! = d[k+s - mid]! := fun k k1 k2=>by rw [g,if_neg (by omega),if_pos (by omega)]
  have p4:∀ k,e≤k→k < b→d'[k]! = d[k]! := fun k k1 k2=>by rw [g,if_neg (by omega),if_neg (by omega)]
  refine ⟨GS,⟨?_,?_,?_⟩,⟨?_,?_,?_⟩,?_⟩
  · intro i j i1 i2 i3;rw [p1 i i1 (by omega),p1 j (by omega) i3];exact s1 i j i1 i2 (by omega)
  · intro i j i1 i2 i3;rw [p2 i i1 (by omega),p2 j (by omega) i3];exact s2 _ _ (by omega) (by omega) (by omega)
  · intro i j i1 i2 i3 i4;rw [p1 i i1 i2,p2 j i3 i4];exact s3 _ _ i1 (by omega) (by omega) (by omega)
  · intro i j i1 i2 i3;rw [p3 i i1 (by omega),p3 j (by omega) i3];exact s1 _ _ (by omega) (by omega) (by omega)
  · intro i j i1 i2 i3;rw [p4 i i1 (by omega),p4 j (by omega) i3];exact s2 _ _ (by omega) (by omega) (by omega)
  · intro i j i1 i2 i3 i4;rw [p3 i i1 i2,p4 j i3 i4];exact s3 _ _ (by omega) (by omega) (by omega) (by omega)
  · intro i j i1 i2 i3 i4
    by_cases x1:i < s
    · rw [p1 i i1 x1]
      by_cases x2:j < e
      · rw [p3 j i3 x2];exact s1 _ _ i1 (by omega) (by omega)
      · rw [p4 j (by omega) i4];exact A1 _ _ i1 x1 (by omega) i4
    · rw [p2 i (by omega) i2]
      by_cases x2:j < e
      · rw [p3 j i3 x2];exact A2 _ _ (by omega) (by omega) (by omega) (by omega)
      · rw [p4 j (by omega) i4];exact s2 _ _ (by omega) (by omega) i4
theorem Mrg.asB {key:α→Int} {idx:α→Nat} {d d':Array α} {a m b c e:Nat} (h:Mrg key idx d a m b) (g:Sam d d' c e) (hm:a≤m∧m≤b) (hd:b≤c∨e≤a):Mrg key idx d' a m b:=by
  obtain ⟨s1,s2,s3⟩:=h
  have q:∀ k,a≤k→k < b→d'[k]! = d[k]! := fun k k1 k2=>g.2.1 k (by omega)
  refine ⟨fun i j i1 i2 i3 => ?_,fun i j i1 i2 i3 => ?_,fun i j i1 i2 i3 i4 => ?_⟩
  · rw [q i i1 (by omega),q j (by omega) (by omega)];exact s1 i j i1 i2 i3
  · rw [q i (by omega) (by omega),q j (by omega) i3];exact s2 i j i1 i2 i3
  · rw [q i i1 (by omega),q j (by omega) i4];exact s3 i j i1 i2 i3 i4
end Go.Proofs.YtpondkggmcmpfaaGreatDoor.S
namespace Go.Proofs.YtpondkggmcmpfaaGreatDoor.S
open Go.Shelf Go.RowKit Go.Lib Go.Sort
set_option linter.unusedVariables false
variable {α:Type} [Inhabited α]
set_option maxHeartbeats 4000000 in
set_option maxRecDepth 1000000 in
theorem ace (enc:α→Value) (g:Nat) (cb:Array Value) (blk off cap a b n:Nat) (d0 d:Array α) (w0 w:World)
    (R:Row1 enc w0 blk off d0) (hs:d0.size=d.size) (S:SW enc w0 blk off d w) (ha:a+n≤d.size) (hb:b+n≤d.size) (hsz:d.size < 4611686018427387904) :
    Calls Tryz.prog 192 #[.slice (some ⟨blk,off,none⟩) d.size cap,.int .i64 a,.int .i64 b,.int .i64 n,.func (.func g) #[] cb] w fun e w'=>e = .returned (.tuple #[])∧SW enc w0 blk off (lq d a b n) w':=by
  have mixed:Tryz.prog.follows .mixedOrders=true:=by kernel_rfl
  have hcl0:=R.hO.cells
  simp only [Value.cells] at hcl0
  have hst:=R.hO.store Tryz.prog
  have S0:Aside (SW enc w0 blk off d w):=S
  clear S
  go_enter Tryz.func192,Tryz.ntmps192
  go_wp2
  go_loopg [10] n (fun kx s10 wr=>∃ (i:Nat),s10 = .int .i64 i∧i≤n∧n - i≤kx∧Aside (SW enc w0 blk off (lq d a b i) wr))
  case atStart=>exact ⟨0,rfl,by omega,by omega,S0⟩
  case round =>
    clear S0
    obtain ⟨i,rfl,hin,hkx,S1⟩:=hrel
    have hds:(lq d a b i).size=d.size:=kE _ _ _ _
    obtain ⟨dk,hdk⟩:∃ dk,dk=lq d a b i:=⟨_,rfl⟩
    rw [← hdk] at S1 hds
    by_cases hlt:(i:Int) < (n:Int)
    · go_wp2_with fail
      obtain ⟨iN,hiN⟩:∃ q,q=a+i:=⟨_,rfl⟩
      obtain ⟨jN,hjN⟩:∃ q,q=b+i:=⟨_,rfl⟩
      have ea:((a:Int)+(i:Int)).toNat=iN:=by omega
      have pa:(0:Int)≤(a:Int)+(i:Int):=by omega
      have ba:(a:Int)+(i:Int) < (d.size:Int):=by omega
      have ra:IntKind.i64.wrap ((a:Int)+(i:Int))=(a:Int)+(i:Int):=by rw [IntKind.wrap_i64];omega
      have ec:((b:Int)+(i:Int)).toNat=jN:=by omega
      have pc:(0:Int)≤(b:Int)+(i:Int):=by omega
      have bc:(b:Int)+(i:Int) < (d.size:Int):=by omega
      have rc:IntKind.i64.wrap ((b:Int)+(i:Int))=(b:Int)+(i:Int):=by rw [IntKind.wrap_i64];omega
      obtain ⟨x,hx⟩:∃ x,x=dk[a+i]! := ⟨_,rfl⟩
      obtain ⟨y,hy⟩:∃ x,x=dk[b+i]! := ⟨_,rfl⟩
      have S2:Aside (SW enc w0 blk off (swp dk (a+i) (b+i)) ((wr.setCell ⟨blk,off+iN,none⟩ (enc y)).setCell ⟨blk,off+jN,none⟩ (enc x)).drew):=by rw [hiN,hjN,hx,hy];exact S1.out.swapped R (a+i) (b+i) (by omega) (by omega)
      have c1a:=S1.out.c1 R (by omega) (a+i) (by omega)
      have c1b:=S1.out.c1 R (by omega) (b+i) (by omega)
      have f1a:=S1.out.f1 R (by omega) (a+i) (by omega)
      have f1b:=S1.out.f1 R (by omega) (b+i) (by omega)
      obtain ⟨u,c1c⟩:=S1.out.c2 R (by omega) (a+i) (b+i) (by omega) (by omega) (enc y)
      rw [← hjN,← hiN] at c1c
      rw [← hx,← hiN] at c1a
      rw [← hy,← hjN] at c1b
      rw [← hiN] at f1a
      rw [← hjN] at f1b
      clear S1 hx hy hiN hjN
      go_wp2_with fail
      go_big_region_o
      clear c1a c1b c1c f1a f1b
      generalize ((wr.setCell ⟨blk,off+iN,none⟩ (enc y)).setCell ⟨blk,off+jN,none⟩ (enc x)).drew=w2 at S2 ⊢
      clear ea ec
      go_wp2
      go_roundg (n - (i+1))
      case measure=>omega
      case rel=>exact ⟨i+1,by simp,by omega,Nat.le_refl _,by rw [lq,← hdk];exact S2⟩
    · go_wp2
      go_end0
      have:i=n:=by omega
      subst this
      exact ⟨rfl,by rw [← hdk];exact S1.out⟩
set_option maxHeartbeats 4000000 in
set_option maxRecDepth 1000000 in
theorem apv (enc:α→Value) (g:Nat) (cb:Array Value) (blk off cap a m b:Nat) (d0 d:Array α) (w0 w:World)
    (R:Row1 enc w0 blk off d0) (hs:d0.size=d.size) (S:SW enc w0 blk off d w) (ha:a < m) (hm:m < b) (hb:b≤d.size) (hsz:d.size < 4611686018427387904) :
    Calls Tryz.prog 191 #[.slice (some ⟨blk,off,none⟩) d.size cap,.int .i64 a,.int .i64 m,.int .i64 b,.func (.func g) #[] cb] w fun e w'=>e = .returned (.tuple #[])∧SW enc w0 blk off (lJ m (m - a+(b - m)) d (m - a) (b - m)) w':=by
  have mixed:Tryz.prog.follows .mixedOrders=true:=by kernel_rfl
  have hcl0:=R.hO.cells
  simp only [Value.cells] at hcl0
  have hst:=R.hO.store Tryz.prog
  have S0:Aside (SW enc w0 blk off d w):=S
  clear S
  have eSR:∀ args w,(callFunc 192 args).run Tryz.prog w = .ok (.enter 192 args) w:=enters_of Tryz.func192 (by kernel_rfl) rfl
  have e1:((m - a:Nat):Int)=(m:Int) - (a:Int):=by omega
  have e2:((b - m:Nat):Int)=(b:Int) - (m:Int):=by omega
  have n1:IntKind.i64.wrap ((m:Int) - (a:Int))=(m:Int) - (a:Int):=by rw [IntKind.wrap_i64];omega
  have n2:IntKind.i64.wrap ((b:Int) - (m:Int))=(b:Int) - (m:Int):=by rw [IntKind.wrap_i64];omega
  go_enter Tryz.func191,Tryz.ntmps191
  go_wp2
  go_loopg [10,11] (m - a+(b - m)) (fun kx s10 s11 wr=>∃ (i j:Nat) (dk:Array α),s10 = .int .i64 i∧s11 = .int .i64 j∧1≤i∧1≤j∧i≤m∧m+j≤d.size∧i+j≤kx+1∧dk.size=d.size∧Aside (SW enc w0 blk off dk wr) ∧
    Hid (lJ m kx dk i j=lJ m (m - a+(b - m)) d (m - a) (b - m)))
  case atStart=>exact ⟨m - a,b - m,d,by simp [e1],by simp [e2],by omega,by omega,by omega,by omega,by omega,rfl,S0,rfl⟩
  case round =>
    clear S0 n1 n2 e1 e2
    obtain ⟨i,j,dk,rfl,rfl,hi,hj,him,hmj,hkx,hds,S1,HE⟩:=hrel
    have zmi:((m - i:Nat):Int)=(m:Int) - (i:Int):=by omega
    have wmi:IntKind.i64.wrap ((m:Int) - (i:Int))=(m:Int) - (i:Int):=by rw [IntKind.wrap_i64];omega
    by_cases hij:i=j
    · subst hij
      have hneq:¬ ((i:Int)≠(i:Int)):=by omega
      have hcall:=ace enc g cb blk off cap (m - i) m i d0 dk w0 wr R (by omega) S1.out (by omega) (by omega) (by omega)
      rw [hds,zmi] at hcall
      have hend:lJ m gk dk i i=lq dk (m - i) m i:=by
        cases gk with
        | zero=>rfl
        | succ f=>rw [lJ,if_pos rfl]
      clear S1
      go_wp2_with (go_at_fn 192;refine hcall.mono ?_;rintro e w1 ⟨rfl,S3⟩)
      go_end0
      refine ⟨rfl,?_⟩
      rw [← HE.out,hend];exact S3
    · have hneq:¬ ((i:Int)=(j:Int)):=by omega
      cases gk with
      | zero=>omega
      | succ f =>
        by_cases hlt:j < i
        · have hgt:(j:Int) < (i:Int):=by omega
          have zij:((i - j:Nat):Int)=(i:Int) - (j:Int):=by omega
          have hcall:=ace enc g cb blk off cap (m - i) m j d0 dk w0 wr R (by omega) S1.out (by omega) (by omega) (by omega)
          rw [hds,zmi] at hcall
          have hstep:lJ m (f+1) dk i j=lJ m f (lq dk (m - i) m j) (i - j) j:=by rw [lJ,if_neg hij,if_pos hlt]
          rw [hstep] at HE
          clear S1
          go_wp2_with (go_at_fn 192;refine hcall.mono ?_;rintro e w1 ⟨rfl,S3⟩)
          go_roundg f
          case measure=>omega
          case rel=>exact ⟨i - j,j,_,by first|rw [zij]|simp [zij],rfl,by omega,hj,by omega,hmj,by omega,by rw [kE];exact hds,S3,HE⟩
        · have hgt:¬ (j:Int) < (i:Int):=by omega
          have zji:((j - i:Nat):Int)=(j:Int) - (i:Int):=by omega
          have wmj:IntKind.i64.wrap ((m:Int)+(j:Int))=(m:Int)+(j:Int):=by rw [IntKind.wrap_i64];omega
          have aAW:IntKind.i64.wrap ((m:Int)+(j:Int) - (i:Int))=(m:Int)+(j:Int) - (i:Int):=by rw [IntKind.wrap_i64];omega
          have avN:((m+j - i:Nat):Int)=(m:Int)+(j:Int) - (i:Int):=by omega
          have hcall:=ace enc g cb blk off cap (m - i) (m+j - i) i d0 dk w0 wr R (by omega) S1.out (by omega) (by omega) (by omega)
          rw [hds,zmi,avN] at hcall
          have hstep:lJ m (f+1) dk i j=lJ m f (lq dk (m - i) (m+j - i) i) i (j - i):=by rw [lJ,if_neg hij,if_neg hlt]
          rw [hstep] at HE
          clear S1
          go_wp2_with (go_at_fn 192;refine hcall.mono ?_;rintro e w1 ⟨rfl,S3⟩)
          go_roundg f
          case measure=>omega
          case rel=>exact ⟨i,j - i,_,rfl,by first|rw [zji]|simp [zji],hi,by omega,him,by omega,by omega,by rw [kE];exact hds,S3,HE⟩
end Go.Proofs.YtpondkggmcmpfaaGreatDoor.S
namespace Go.Proofs.YtpondkggmcmpfaaGreatDoor.QA
open Go.Proofs.YtpondkggmcmpfaaGreatDoor.T
open Go.RowKit Go.Proofs.YtpondkggmcmpfaaGreatDoorW.PrintWords Go.Proofs.YtpondkggmcmpfaaGreatDoorW.PrintLast Go.Proofs.YtpondkggmcmpfaaGreatDoorW.PrintMore
attribute [local go_sem] dV dQ dR eP eX
set_option linter.unusedVariables false
set_option linter.unusedSimpArgs false
def cZ.j0:Nat→Int→Int→Bool→Bool→Option (Int)
 | 0,_,_,_,_=>none
 | k+1,x0,x1,x2,x7=>if x7=true then (some (-9223372036854775808)) else (if x2=true then (some (wrap64 (IntKind.u64.wrap (-x1)))) else (if x0 > 0 then (some 9223372036854775807) else (if x1 > 9223372036854775807 then (some 9223372036854775807) else (some (wrap64 (x1))))))
def cZ.f (k:Nat) (a0 a1:Int) (a2:Bool):Option (Int):=if a2=true then (if a0 > 0 then (cZ.j0 k a0 a1 a2 true) else (cZ.j0 k a0 a1 a2 (decide (a1 > 9223372036854775808)))) else (cZ.j0 k a0 a1 a2 false)
theorem cZ.iT:∀ k,(∀ y0 y1 y2 y3,LeO (cZ.j0 k y0 y1 y2 y3) (cZ.j0 (k+1) y0 y1 y2 y3))
 | 0=>fun _ _ _ _ r h=>by simp [cZ.j0] at h
 | k+1=>by
  have ih0:=cZ.iT k
  ·intro y0 y1 y2 y3
   unfold cZ.j0
   repeat' (with_reducible first|exact ih0 _ _ _ _|exact zM|refine LeO.ite ?_ ?_|refine LeO.bind ?_ (fun _ => ?_))
theorem cZ.mono:∀ a0 a1 a2 k,LeO (cZ.f k a0 a1 a2) (cZ.f (k+1) a0 a1 a2):=by
 intro a0 a1 a2 k
 have ih0:=cZ.iT k
 unfold cZ.f
 repeat' (with_reducible first|exact ih0 _ _ _ _|exact zM|refine LeO.ite ?_ ?_|refine LeO.bind ?_ (fun _ => ?_))
set_option maxHeartbeats 8000000 in
set_option maxRecDepth 100000 in
theorem cZ.calls (k:Nat) (a0 a1:Int) (a2:Bool) (r:Int) (w:World) (h:cZ.f k a0 a1 a2=some r) :
  Calls Tryz.prog 156 #[.int .u64 a0,.int .u64 a1,.bool a2] w fun e w'=>e = .returned (.int .i64 r)∧dw w w':=by
 have H:=h
 clear h
 unfold cZ.f at H
 have HC4:=aj.mk H
 clear H
 go_enter Tryz.func156,Tryz.ntmps156
 go_upto_region 1 with (fail)
 go_cut [7] (fun v7 wc=>∃ (kq:Nat) (yK:Bool),v7 = .bool yK∧aj (cZ.j0 kq a0 a1 a2 yK=some r)∧aj (kq≤k)∧dw w wc)
 case first =>
  have H:=HC4.out
  clear HC4
  by_cases c5:a2=true
  ·subst c5
   rw [if_pos rfl] at H;try dsimp only at H
   by_cases c6:a0 > 0
   ·rw [if_pos c6] at H
    have iw:=decide_eq_true c6
    clear c6
    (first|rw [iw]|(simp only [bZ,dA];rw [iw])|skip)
    have H':=aj.mk H
    clear H
    go_wp2
    go_meet
    case rel=>exact ⟨_,(true),zT,H',⟨by first|omega|exact Nat.le_refl _⟩,zW⟩
   ·rw [if_neg c6] at H
    have iw:=decide_eq_false c6
    clear c6
    (first|rw [iw]|(simp only [bZ,dA];rw [iw])|skip)
    have H':=aj.mk H
    clear H
    go_wp2
    go_meet
    case rel=>exact ⟨_,(decide (a1 > 9223372036854775808)),zT,H',⟨by first|omega|exact Nat.le_refl _⟩,zW⟩
  ·replace c5:=Bool.eq_false_iff.mpr c5
   subst c5
   rw [if_neg (show ¬ (false=true) by decide)] at H;try dsimp only at H
   have H':=aj.mk H
   clear H
   go_wp2
   go_meet
   case rel=>exact ⟨_,(false),zT,H',⟨by first|omega|exact Nat.le_refl _⟩,zW⟩
 case rest =>
  clear HC4
  obtain ⟨kq,yK,rfl,HA,HJ3,⟨mc3,rfl⟩⟩:=hcut
  cases kq with
  | zero=>exact absurd HA.out (by simp [cZ.j0])
  | succ kj3 =>
   have H:=HA.out
   clear HA
   simp only [cZ.j0] at H
   by_cases c7:yK=true
   ·subst c7
    rw [if_pos rfl] at H;try dsimp only at H
    obtain rfl:=Option.some.inj H
    go_wp2
    go_ret
    exact ⟨zT,zW⟩
   ·replace c7:=Bool.eq_false_iff.mpr c7
    subst c7
    rw [if_neg (show ¬ (false=true) by decide)] at H;try dsimp only at H
    by_cases c8:a2=true
    ·subst c8
     rw [if_pos rfl] at H;try dsimp only at H
     obtain rfl:=Option.some.inj H
     go_wp2
     go_ret
     exact ⟨zT,zW⟩
    ·replace c8:=Bool.eq_false_iff.mpr c8
     subst c8
     rw [if_neg (show ¬ (false=true) by decide)] at H;try dsimp only at H
     by_cases c9:a0 > 0
     ·rw [if_pos c9] at H
      have qJ:=decide_eq_true c9
      clear c9
      obtain rfl:=Option.some.inj H
      go_wp2
      go_ret
      exact ⟨zT,zW⟩
     ·rw [if_neg c9] at H
      have qJ:=decide_eq_false c9
      clear c9
      by_cases c10:a1 > 9223372036854775807
      ·rw [if_pos c10] at H
       have pR:=decide_eq_true c10
       clear c10
       obtain rfl:=Option.some.inj H
       go_wp2
       go_ret
       exact ⟨zT,zW⟩
      ·rw [if_neg c10] at H
       have pR:=decide_eq_false c10
       clear c10
       obtain rfl:=Option.some.inj H
       go_wp2
       go_ret
       exact ⟨zT,zW⟩
def bits_LeadingZeros64.f (a0:Int):Option (Int):=if 0≤a0 then (if a0≤18446744073709551615 then (some (64 - (Lib.bitLen a0.toNat:Int))) else (none)) else (none)
theorem bits_LeadingZeros64.calls (a0 r:Int) (w:World) (h:bits_LeadingZeros64.f a0=some r) :
  Calls Tryz.prog 179 #[.int .u64 a0] w fun e w'=>e = .returned (.int .i64 r)∧dw w w':=by
 unfold bits_LeadingZeros64.f at h
 by_cases h0:0≤a0
 ·rw [if_pos h0] at h
  by_cases h1:a0≤18446744073709551615
  ·rw [if_pos h1] at h
   obtain rfl:=Option.some.inj h
   exact (Tryz.bits_LeadingZeros64 a0 w h0 h1).mono fun e w' ⟨he,hw⟩=>⟨he,by rw [hw];exact dw.refl _⟩
  ·rw [if_neg h1] at h;exact absurd h (by simp)
 ·rw [if_neg h0] at h;exact absurd h (by simp)
end Go.Proofs.YtpondkggmcmpfaaGreatDoor.QA
namespace Go.Proofs.YtpondkggmcmpfaaGreatDoor.QA
open Go.Proofs.YtpondkggmcmpfaaGreatDoor.T
open Go.RowKit Go.Proofs.YtpondkggmcmpfaaGreatDoorW.PrintWords Go.Proofs.YtpondkggmcmpfaaGreatDoorW.PrintLast Go.Proofs.YtpondkggmcmpfaaGreatDoorW.PrintMore
attribute [local go_sem] dV dQ dR eP eX
set_option linter.unusedVariables false
set_option linter.unusedSimpArgs false
mutual
def aV.j2:Nat→Int→Int→Int→Int→Int→Int→Int→Int→Option (Int × Int)
 | 0,_,_,_,_,_,_,_,_=>none
 | k+1,x2,x8,x9,x10,x11,x13,x14,x15=>if x9=0 then (none) else (aV.l1 k x2 x8 x9 x10 x14 x15 (IntKind.u64.wrap ((IntKind.u64.wrap ((IntKind.u64.wrap ((IntKind.u64.wrap (x11*4294967296))+x13)) - (IntKind.u64.wrap (x15*x2)))) - (IntKind.u64.wrap ((IntKind.u64.wrap (Int.tdiv (IntKind.u64.wrap ((IntKind.u64.wrap ((IntKind.u64.wrap (x11*4294967296))+x13)) - (IntKind.u64.wrap (x15*x2)))) x9))*x9)))) (IntKind.u64.wrap ((IntKind.u64.wrap ((IntKind.u64.wrap (x11*4294967296))+x13)) - (IntKind.u64.wrap (x15*x2)))) (IntKind.u64.wrap (Int.tdiv (IntKind.u64.wrap ((IntKind.u64.wrap ((IntKind.u64.wrap (x11*4294967296))+x13)) - (IntKind.u64.wrap (x15*x2)))) x9)))
def aV.l1:Nat→Int→Int→Int→Int→Int→Int→Int→Int→Int→Option (Int × Int)
 | 0,_,_,_,_,_,_,_,_,_=>none
 | k+1,x2,x8,x9,x10,x14,x15,x16,x17,x18=>if x18≥4294967296 then (aV.j4 k x2 x8 x9 x10 x14 x15 x16 x17 x18 true) else (aV.j4 k x2 x8 x9 x10 x14 x15 x16 x17 x18 (decide ((IntKind.u64.wrap (x18*x10)) > (IntKind.u64.wrap ((IntKind.u64.wrap (4294967296*x16))+x14)))))
def aV.j4:Nat→Int→Int→Int→Int→Int→Int→Int→Int→Int→Bool→Option (Int × Int)
 | 0,_,_,_,_,_,_,_,_,_,_=>none
 | k+1,x2,x8,x9,x10,x14,x15,x16,x17,x18,x113=>if x113=true then (if (IntKind.u64.wrap (x16+x9))≥4294967296 then (if 0≤x8 then (some (IntKind.u64.wrap ((IntKind.u64.wrap (x15*4294967296))+(IntKind.u64.wrap (x18 - 1))),shr .u64 (IntKind.u64.wrap ((IntKind.u64.wrap ((IntKind.u64.wrap (x17*4294967296))+x14)) - (IntKind.u64.wrap ((IntKind.u64.wrap (x18 - 1))*x2)))) x8)) else (none)) else (aV.l1 k x2 x8 x9 x10 x14 x15 (IntKind.u64.wrap (x16+x9)) x17 (IntKind.u64.wrap (x18 - 1)))) else (if 0≤x8 then (some (IntKind.u64.wrap ((IntKind.u64.wrap (x15*4294967296))+x18),shr .u64 (IntKind.u64.wrap ((IntKind.u64.wrap ((IntKind.u64.wrap (x17*4294967296))+x14)) - (IntKind.u64.wrap (x18*x2)))) x8)) else (none))
def aV.l0:Nat→Int→Int→Int→Int→Int→Int→Int→Int→Int→Option (Int × Int)
 | 0,_,_,_,_,_,_,_,_,_=>none
 | k+1,x2,x8,x9,x10,x11,x13,x14,x15,x16=>if x15≥4294967296 then (aV.j1 k x2 x8 x9 x10 x11 x13 x14 x15 x16 true) else (aV.j1 k x2 x8 x9 x10 x11 x13 x14 x15 x16 (decide ((IntKind.u64.wrap (x15*x10)) > (IntKind.u64.wrap ((IntKind.u64.wrap (4294967296*x16))+x13)))))
def aV.j1:Nat→Int→Int→Int→Int→Int→Int→Int→Int→Int→Bool→Option (Int × Int)
 | 0,_,_,_,_,_,_,_,_,_,_=>none
 | k+1,x2,x8,x9,x10,x11,x13,x14,x15,x16,x78=>if x78=true then (if (IntKind.u64.wrap (x16+x9))≥4294967296 then (aV.j2 k x2 x8 x9 x10 x11 x13 x14 (IntKind.u64.wrap (x15 - 1))) else (aV.l0 k x2 x8 x9 x10 x11 x13 x14 (IntKind.u64.wrap (x15 - 1)) (IntKind.u64.wrap (x16+x9)))) else (aV.j2 k x2 x8 x9 x10 x11 x13 x14 x15)
end
def aV.f (k:Nat) (a0 a1 a2:Int):Option (Int × Int):=if a2=0 then (none) else (if a2≤a0 then (none) else (if a0=0 then (some (IntKind.u64.wrap (Int.tdiv a1 a2),Int.tmod a1 a2)) else ((bits_LeadingZeros64.f a2).bind fun pI=>(if 0≤(IntKind.u64.wrap (pI)) then (if 0≤(IntKind.u64.wrap (64 - (IntKind.u64.wrap (pI)))) then (if ((shl .u64 a2 (IntKind.u64.wrap (pI))) / 4294967296)=0 then (none) else (aV.l0 k (shl .u64 a2 (IntKind.u64.wrap (pI))) (IntKind.u64.wrap (pI)) ((shl .u64 a2 (IntKind.u64.wrap (pI))) / 4294967296) (Go.bits .and .u64 (shl .u64 a2 (IntKind.u64.wrap (pI))) 4294967295) (Go.bits .or .u64 (shl .u64 a0 (IntKind.u64.wrap (pI))) (shr .u64 a1 (IntKind.u64.wrap (64 - (IntKind.u64.wrap (pI)))))) ((shl .u64 a1 (IntKind.u64.wrap (pI))) / 4294967296) (Go.bits .and .u64 (shl .u64 a1 (IntKind.u64.wrap (pI))) 4294967295) (IntKind.u64.wrap (Int.tdiv (Go.bits .or .u64 (shl .u64 a0 (IntKind.u64.wrap (pI))) (shr .u64 a1 (IntKind.u64.wrap (64 - (IntKind.u64.wrap (pI)))))) ((shl .u64 a2 (IntKind.u64.wrap (pI))) / 4294967296))) (IntKind.u64.wrap ((Go.bits .or .u64 (shl .u64 a0 (IntKind.u64.wrap (pI))) (shr .u64 a1 (IntKind.u64.wrap (64 - (IntKind.u64.wrap (pI)))))) - (IntKind.u64.wrap ((IntKind.u64.wrap (Int.tdiv (Go.bits .or .u64 (shl .u64 a0 (IntKind.u64.wrap (pI))) (shr .u64 a1 (IntKind.u64.wrap (64 - (IntKind.u64.wrap (pI)))))) ((shl .u64 a2 (IntKind.u64.wrap (pI))) / 4294967296)))*((shl .u64 a2 (IntKind.u64.wrap (pI))) / 4294967296))))))) else (none)) else (none)))))
theorem aV.iT:∀ k,(∀ y0 y1 y2 y3 y4 y5 y6 y7,LeO (aV.j2 k y0 y1 y2 y3 y4 y5 y6 y7) (aV.j2 (k+1) y0 y1 y2 y3 y4 y5 y6 y7))∧(∀ y0 y1 y2 y3 y4 y5 y6 y7 y8,LeO (aV.l1 k y0 y1 y2 y3 y4 y5 y6 y7 y8) (aV.l1 (k+1) y0 y1 y2 y3 y4 y5 y6 y7 y8))∧(∀ y0 y1 y2 y3 y4 y5 y6 y7 y8 y9,LeO (aV.j4 k y0 y1 y2 y3 y4 y5 y6 y7 y8 y9) (aV.j4 (k+1) y0 y1 y2 y3 y4 y5 y6 y7 y8 y9))∧(∀ y0 y1 y2 y3 y4 y5 y6 y7 y8,LeO (aV.l0 k y0 y1 y2 y3 y4 y5 y6 y7 y8) (aV.l0 (k+1) y0 y1 y2 y3 y4 y5 y6 y7 y8))∧(∀ y0 y1 y2 y3 y4 y5 y6 y7 y8 y9,LeO (aV.j1 k y0 y1 y2 y3 y4 y5 y6 y7 y8 y9) (aV.j1 (k+1) y0 y1 y2 y3 y4 y5 y6 y7 y8 y9))
 | 0=>⟨fun _ _ _ _ _ _ _ _ r h=>by simp [aV.j2] at h,fun _ _ _ _ _ _ _ _ _ r h=>by simp [aV.l1] at h,fun _ _ _ _ _ _ _ _ _ _ r h=>by simp [aV.j4] at h,fun _ _ _ _ _ _ _ _ _ r h=>by simp [aV.l0] at h,fun _ _ _ _ _ _ _ _ _ _ r h=>by simp [aV.j1] at h⟩
 | k+1=>by
  obtain ⟨ih0,ih1,ih2,ih3,ih4⟩:=aV.iT k
  refine ⟨?_,?_,?_,?_,?_⟩
  ·intro y0 y1 y2 y3 y4 y5 y6 y7
   unfold aV.j2
   repeat' (with_reducible first|exact ih0 _ _ _ _ _ _ _ _|exact ih1 _ _ _ _ _ _ _ _ _|exact ih2 _ _ _ _ _ _ _ _ _ _|exact ih3 _ _ _ _ _ _ _ _ _|exact ih4 _ _ _ _ _ _ _ _ _ _|exact zM|refine LeO.ite ?_ ?_|refine LeO.bind ?_ (fun _ => ?_))
  ·intro y0 y1 y2 y3 y4 y5 y6 y7 y8
   unfold aV.l1
   repeat' (with_reducible first|exact ih0 _ _ _ _ _ _ _ _|exact ih1 _ _ _ _ _ _ _ _ _|exact ih2 _ _ _ _ _ _ _ _ _ _|exact ih3 _ _ _ _ _ _ _ _ _|exact ih4 _ _ _ _ _ _ _ _ _ _|exact zM|refine LeO.ite ?_ ?_|refine LeO.bind ?_ (fun _ => ?_))
  ·intro y0 y1 y2 y3 y4 y5 y6 y7 y8 y9
   unfold aV.j4
   repeat' (with_reducible first|exact ih0 _ _ _ _ _ _ _ _|exact ih1 _ _ _ _ _ _ _ _ _|exact ih2 _ _ _ _ _ _ _ _ _ _|exact ih3 _ _ _ _ _ _ _ _ _|exact ih4 _ _ _ _ _ _ _ _ _ _|exact zM|refine LeO.ite ?_ ?_|refine LeO.bind ?_ (fun _ => ?_))
  ·intro y0 y1 y2 y3 y4 y5 y6 y7 y8
   unfold aV.l0
   repeat' (with_reducible first|exact ih0 _ _ _ _ _ _ _ _|exact ih1 _ _ _ _ _ _ _ _ _|exact ih2 _ _ _ _ _ _ _ _ _ _|exact ih3 _ _ _ _ _ _ _ _ _|exact ih4 _ _ _ _ _ _ _ _ _ _|exact zM|refine LeO.ite ?_ ?_|refine LeO.bind ?_ (fun _ => ?_))
  ·intro y0 y1 y2 y3 y4 y5 y6 y7 y8 y9
   unfold aV.j1
   repeat' (with_reducible first|exact ih0 _ _ _ _ _ _ _ _|exact ih1 _ _ _ _ _ _ _ _ _|exact ih2 _ _ _ _ _ _ _ _ _ _|exact ih3 _ _ _ _ _ _ _ _ _|exact ih4 _ _ _ _ _ _ _ _ _ _|exact zM|refine LeO.ite ?_ ?_|refine LeO.bind ?_ (fun _ => ?_))
theorem aV.mono:∀ a0 a1 a2 k,LeO (aV.f k a0 a1 a2) (aV.f (k+1) a0 a1 a2):=by
 intro a0 a1 a2 k
 obtain ⟨ih0,ih1,ih2,ih3,ih4⟩:=aV.iT k
 unfold aV.f
 repeat' (with_reducible first|exact ih0 _ _ _ _ _ _ _ _|exact ih1 _ _ _ _ _ _ _ _ _|exact ih2 _ _ _ _ _ _ _ _ _ _|exact ih3 _ _ _ _ _ _ _ _ _|exact ih4 _ _ _ _ _ _ _ _ _ _|exact zM|refine LeO.ite ?_ ?_|refine LeO.bind ?_ (fun _ => ?_))
set_option maxHeartbeats 8000000 in
set_option maxRecDepth 100000 in
theorem aV.calls (k:Nat) (a0 a1 a2 r1 r2:Int) (w:World) (h:aV.f k a0 a1 a2=some (r1,r2)) :
  Calls Tryz.prog 157 #[.int .u64 a0,.int .u64 a1,.int .u64 a2] w fun e w'=>e = .returned (.tuple #[.int .u64 r1,.int .u64 r2])∧dw w w':=by
 have H:=h
 clear h
 unfold aV.f at H
 by_cases c4:a2=0
 ·rw [if_pos c4] at H
  exact absurd H (by simp)
 ·rw [if_neg c4] at H
  have fU:(a2 == 0)=false:=beq_eq_false_iff_ne.mpr c4
  have acK:(a2 != 0)=true:=bne_iff_ne.mpr c4
  by_cases c5:a2≤a0
  ·rw [if_pos c5] at H
   exact absurd H (by simp)
  ·rw [if_neg c5] at H
   have iL:=decide_eq_false c5
   clear c5
   by_cases c6:a0=0
   ·rw [if_pos c6] at H
    have iw:(a0 == 0)=true:=beq_iff_eq.mpr c6
    have um:(a0 != 0)=false:=bne_eq_false_iff_eq.mpr c6
    clear c6
    simp only [Option.some.injEq,Prod.mk.injEq] at H
    obtain ⟨rfl,rfl⟩:=H
    go_enter Tryz.func157,Tryz.ntmps157
    go_wp2
    repeat (go_quiet (fail);try go_wp2)
    go_ret2
    exact ⟨zT,zW⟩
   ·rw [if_neg c6] at H
    have iw:(a0 == 0)=false:=beq_eq_false_iff_ne.mpr c6
    have um:(a0 != 0)=true:=bne_iff_ne.mpr c6
    replace H:=zO H
    obtain ⟨pI,A7,H⟩:=H
    try dsimp only at H
    obtain ⟨ji8,pJ⟩:∃ j_:Int,(IntKind.u64.wrap (pI))=j_:=⟨_,rfl⟩
    replace H:(if 0≤(ji8) then (if 0≤(IntKind.u64.wrap (64 - (ji8))) then (if ((shl .u64 a2 (ji8)) / 4294967296)=0 then (none) else (aV.l0 k (shl .u64 a2 (ji8)) ji8 ((shl .u64 a2 (ji8)) / 4294967296) (Go.bits .and .u64 (shl .u64 a2 (ji8)) 4294967295) (Go.bits .or .u64 (shl .u64 a0 (ji8)) (shr .u64 a1 (IntKind.u64.wrap (64 - (ji8))))) ((shl .u64 a1 (ji8)) / 4294967296) (Go.bits .and .u64 (shl .u64 a1 (ji8)) 4294967295) (IntKind.u64.wrap (Int.tdiv (Go.bits .or .u64 (shl .u64 a0 (ji8)) (shr .u64 a1 (IntKind.u64.wrap (64 - (ji8))))) ((shl .u64 a2 (ji8)) / 4294967296))) (IntKind.u64.wrap ((Go.bits .or .u64 (shl .u64 a0 (ji8)) (shr .u64 a1 (IntKind.u64.wrap (64 - (ji8))))) - (IntKind.u64.wrap ((IntKind.u64.wrap (Int.tdiv (Go.bits .or .u64 (shl .u64 a0 (ji8)) (shr .u64 a1 (IntKind.u64.wrap (64 - (ji8))))) ((shl .u64 a2 (ji8)) / 4294967296)))*((shl .u64 a2 (ji8)) / 4294967296))))))) else (none)) else (none))=some (r1,r2):=by first|(rw [pJ] at H;exact H)|(simp only [pJ] at H ⊢;exact H)
    (try rw [pJ] at A7)
    by_cases c9:0≤(ji8)
    ·rw [if_pos c9] at H
     have qJ:=eq_true c9
     have afl:=decide_eq_true c9
     clear c9
     obtain ⟨dF,jJ⟩:∃ j_:Int,(shl .u64 a2 (ji8))=j_:=⟨_,rfl⟩
     replace H:(if 0≤(IntKind.u64.wrap (64 - (ji8))) then (if ((dF) / 4294967296)=0 then (none) else (aV.l0 k dF ji8 ((dF) / 4294967296) (Go.bits .and .u64 (dF) 4294967295) (Go.bits .or .u64 (shl .u64 a0 (ji8)) (shr .u64 a1 (IntKind.u64.wrap (64 - (ji8))))) ((shl .u64 a1 (ji8)) / 4294967296) (Go.bits .and .u64 (shl .u64 a1 (ji8)) 4294967295) (IntKind.u64.wrap (Int.tdiv (Go.bits .or .u64 (shl .u64 a0 (ji8)) (shr .u64 a1 (IntKind.u64.wrap (64 - (ji8))))) ((dF) / 4294967296))) (IntKind.u64.wrap ((Go.bits .or .u64 (shl .u64 a0 (ji8)) (shr .u64 a1 (IntKind.u64.wrap (64 - (ji8))))) - (IntKind.u64.wrap ((IntKind.u64.wrap (Int.tdiv (Go.bits .or .u64 (shl .u64 a0 (ji8)) (shr .u64 a1 (IntKind.u64.wrap (64 - (ji8))))) ((dF) / 4294967296)))*((dF) / 4294967296))))))) else (none))=some (r1,r2):=by first|(rw [jJ] at H;exact H)|(simp only [jJ] at H ⊢;exact H)
     (try rw [jJ] at A7)
     have akj:(IntKind.u64.wrap (a2*2 ^ min (ji8).toNat 64))=dF:=jJ
     have anK:(ji8)≤64→(IntKind.u64.wrap (a2*2 ^ (ji8).toNat))=dF:=xR jJ
     have iO:=eq_true (of_decide_eq_true (by first|(with_reducible assumption)|assumption):0≤(ji8))
     obtain ⟨jK,sJ⟩:∃ j_:Int,(shl .u64 a0 (ji8))=j_:=⟨_,rfl⟩
     replace H:(if 0≤(IntKind.u64.wrap (64 - (ji8))) then (if ((dF) / 4294967296)=0 then (none) else (aV.l0 k dF ji8 ((dF) / 4294967296) (Go.bits .and .u64 (dF) 4294967295) (Go.bits .or .u64 (jK) (shr .u64 a1 (IntKind.u64.wrap (64 - (ji8))))) ((shl .u64 a1 (ji8)) / 4294967296) (Go.bits .and .u64 (shl .u64 a1 (ji8)) 4294967295) (IntKind.u64.wrap (Int.tdiv (Go.bits .or .u64 (jK) (shr .u64 a1 (IntKind.u64.wrap (64 - (ji8))))) ((dF) / 4294967296))) (IntKind.u64.wrap ((Go.bits .or .u64 (jK) (shr .u64 a1 (IntKind.u64.wrap (64 - (ji8))))) - (IntKind.u64.wrap ((IntKind.u64.wrap (Int.tdiv (Go.bits .or .u64 (jK) (shr .u64 a1 (IntKind.u64.wrap (64 - (ji8))))) ((dF) / 4294967296)))*((dF) / 4294967296))))))) else (none))=some (r1,r2):=by first|(rw [sJ] at H;exact H)|(simp only [sJ] at H ⊢;exact H)
     (try rw [sJ] at A7)
     have axP:(IntKind.u64.wrap (a0*2 ^ min (ji8).toNat 64))=jK:=sJ
     have axQ:(ji8)≤64→(IntKind.u64.wrap (a0*2 ^ (ji8).toNat))=jK:=xR sJ
     obtain ⟨acf,agK⟩:∃ j_:Int,(IntKind.u64.wrap (64 - (ji8)))=j_:=⟨_,rfl⟩
     replace H:(if 0≤(acf) then (if ((dF) / 4294967296)=0 then (none) else (aV.l0 k dF ji8 ((dF) / 4294967296) (Go.bits .and .u64 (dF) 4294967295) (Go.bits .or .u64 (jK) (shr .u64 a1 (acf))) ((shl .u64 a1 (ji8)) / 4294967296) (Go.bits .and .u64 (shl .u64 a1 (ji8)) 4294967295) (IntKind.u64.wrap (Int.tdiv (Go.bits .or .u64 (jK) (shr .u64 a1 (acf))) ((dF) / 4294967296))) (IntKind.u64.wrap ((Go.bits .or .u64 (jK) (shr .u64 a1 (acf))) - (IntKind.u64.wrap ((IntKind.u64.wrap (Int.tdiv (Go.bits .or .u64 (jK) (shr .u64 a1 (acf))) ((dF) / 4294967296)))*((dF) / 4294967296))))))) else (none))=some (r1,r2):=by first|(rw [agK] at H;exact H)|(simp only [agK] at H ⊢;exact H)
     (try rw [agK] at A7)
     by_cases c14:0≤(acf)
     ·rw [if_pos c14] at H
      have abP:=eq_true c14
      have amG:=decide_eq_true c14
      clear c14
      obtain ⟨oG,yP⟩:∃ j_:Int,(shr .u64 a1 (acf))=j_:=⟨_,rfl⟩
      replace H:(if ((dF) / 4294967296)=0 then (none) else (aV.l0 k dF ji8 ((dF) / 4294967296) (Go.bits .and .u64 (dF) 4294967295) (Go.bits .or .u64 (jK) (oG)) ((shl .u64 a1 (ji8)) / 4294967296) (Go.bits .and .u64 (shl .u64 a1 (ji8)) 4294967295) (IntKind.u64.wrap (Int.tdiv (Go.bits .or .u64 (jK) (oG)) ((dF) / 4294967296))) (IntKind.u64.wrap ((Go.bits .or .u64 (jK) (oG)) - (IntKind.u64.wrap ((IntKind.u64.wrap (Int.tdiv (Go.bits .or .u64 (jK) (oG)) ((dF) / 4294967296)))*((dF) / 4294967296)))))))=some (r1,r2):=by first|(rw [yP] at H;exact H)|(simp only [yP] at H ⊢;exact H)
      (try rw [yP] at A7)
      have axR:(a1 / 2 ^ min (acf).toNat 64)=oG:=yP
      have axS:(acf)≤64→(a1 / 2 ^ (acf).toNat)=oG:=oM yP
      have azZ:=eq_true (of_decide_eq_true (by first|(with_reducible assumption)|assumption):0≤(ji8))
      obtain ⟨mO,yQ⟩:∃ j_:Int,(shl .u64 a1 (ji8))=j_:=⟨_,rfl⟩
      replace H:(if ((dF) / 4294967296)=0 then (none) else (aV.l0 k dF ji8 ((dF) / 4294967296) (Go.bits .and .u64 (dF) 4294967295) (Go.bits .or .u64 (jK) (oG)) ((mO) / 4294967296) (Go.bits .and .u64 (mO) 4294967295) (IntKind.u64.wrap (Int.tdiv (Go.bits .or .u64 (jK) (oG)) ((dF) / 4294967296))) (IntKind.u64.wrap ((Go.bits .or .u64 (jK) (oG)) - (IntKind.u64.wrap ((IntKind.u64.wrap (Int.tdiv (Go.bits .or .u64 (jK) (oG)) ((dF) / 4294967296)))*((dF) / 4294967296)))))))=some (r1,r2):=by first|(rw [yQ] at H;exact H)|(simp only [yQ] at H ⊢;exact H)
      (try rw [yQ] at A7)
      have axT:(IntKind.u64.wrap (a1*2 ^ min (ji8).toNat 64))=mO:=yQ
      have axU:(ji8)≤64→(IntKind.u64.wrap (a1*2 ^ (ji8).toNat))=mO:=xR yQ
      by_cases c18:((dF) / 4294967296)=0
      ·rw [if_pos c18] at H
       exact absurd H (by simp)
      ·rw [if_neg c18] at H
       have az0:(((dF) / 4294967296) == 0)=false:=beq_eq_false_iff_ne.mpr c18
       have az1:(((dF) / 4294967296) != 0)=true:=bne_iff_ne.mpr c18
       have apw:=aj.mk H
       clear H
       go_enter Tryz.func157,Tryz.ntmps157
       go_upto_block 0 with (first|(go_at_call 179;(with_reducible refine (bits_LeadingZeros64.calls a2 pI _ A7.out).mono ?_);rintro e w' ⟨rfl,⟨nd,rfl⟩⟩;(try exact ⟨rfl,_,zN⟩)))
       repeat (go_quiet (first|(go_at_call 179;(with_reducible refine (bits_LeadingZeros64.calls a2 pI _ A7.out).mono ?_);rintro e w' ⟨rfl,⟨nd,rfl⟩⟩;(try exact ⟨rfl,_,zN⟩)));go_upto_block 0 with (first|(go_at_call 179;(with_reducible refine (bits_LeadingZeros64.calls a2 pI _ A7.out).mono ?_);rintro e w' ⟨rfl,⟨nd,rfl⟩⟩;(try exact ⟨rfl,_,zN⟩))))
       (try simp only [Act.put,List.setIfInBounds_toArray,List.set_cons_zero,List.set_cons_succ])
       go_cut [15] (fun v15 wc=>∃ (kq:Nat) (oz:Int),v15 = .int .u64 oz∧aj (aV.j2 kq dF ji8 ((dF) / 4294967296) (Go.bits .and .u64 (dF) 4294967295) (Go.bits .or .u64 (jK) (oG)) ((mO) / 4294967296) (Go.bits .and .u64 (mO) 4294967295) oz=some (r1,r2))∧aj (kq≤k)∧dw w wc)
       case first =>
        have H:=apw.out
        clear apw
        have H':=aj.mk H
        clear H
        go_wp2
        repeat (go_quiet (fail);try go_wp2)
        go_loopg [15,16] k (fun kq v15 v16 w'=>∃ (aa1:Int) (xu:Int),v15 = .int .u64 aa1∧v16 = .int .u64 xu∧aj (aV.l0 kq dF ji8 ((dF) / 4294967296) (Go.bits .and .u64 (dF) 4294967295) (Go.bits .or .u64 (jK) (oG)) ((mO) / 4294967296) (Go.bits .and .u64 (mO) 4294967295) aa1 xu=some (r1,r2))∧aj (kq≤k)∧dw w w')
        case atStart=>exact ⟨(IntKind.u64.wrap (Int.tdiv (Go.bits .or .u64 (jK) (oG)) ((dF) / 4294967296))),(IntKind.u64.wrap ((Go.bits .or .u64 (jK) (oG)) - (IntKind.u64.wrap ((IntKind.u64.wrap (Int.tdiv (Go.bits .or .u64 (jK) (oG)) ((dF) / 4294967296)))*((dF) / 4294967296))))),(by first|rfl|(simp;done)|(simp only [← jJ,← sJ,← yP] <;> (first|rfl|simp))|(simp [*];done)),(by first|rfl|(simp;done)|(simp only [← jJ,← sJ,← yP] <;> (first|rfl|simp))|(simp [*];done)),H',⟨Nat.le_refl _⟩,zW⟩
        case round =>
         clear H'
         obtain ⟨aa1,xu,rfl,rfl,HA,HK1,⟨m1,rfl⟩⟩:=hrel
         cases gk with
         | zero=>exact absurd HA.out (by simp [aV.l0])
         | succ k1 =>
          have H:=HA.out
          clear HA
          simp only [aV.l0] at H
          have apx:=aj.mk H
          clear H
          go_upto_region 17 with (fail)
          repeat (go_quiet (fail);go_upto_region 17 with (fail))
          go_cut [78] (fun v78 wc=>∃ (kq:Nat) (agL:Bool),v78 = .bool agL∧aj (aV.j1 kq dF ji8 ((dF) / 4294967296) (Go.bits .and .u64 (dF) 4294967295) (Go.bits .or .u64 (jK) (oG)) ((mO) / 4294967296) (Go.bits .and .u64 (mO) 4294967295) aa1 xu agL=some (r1,r2))∧aj (kq≤k1)∧dw w wc)
          case first =>
           have H:=apx.out
           clear apx
           by_cases c21:aa1≥4294967296
           ·rw [if_pos c21] at H
            have ac2:=decide_eq_true c21
            clear c21
            (first|rw [ac2]|(simp only [bZ,dA];rw [ac2])|skip)
            have H':=aj.mk H
            clear H
            go_wp2
            repeat (go_quiet (fail);try go_wp2)
            go_meet
            case rel=>exact ⟨_,(true),zT,H',⟨by have:=HK1.out;first|omega|exact Nat.le_refl _⟩,zW⟩
           ·rw [if_neg c21] at H
            have ac2:=decide_eq_false c21
            clear c21
            (first|rw [ac2]|(simp only [bZ,dA];rw [ac2])|skip)
            have H':=aj.mk H
            clear H
            go_wp2
            repeat (go_quiet (fail);try go_wp2)
            go_meet
            case rel=>exact ⟨_,(decide ((IntKind.u64.wrap (aa1*(Go.bits .and .u64 (dF) 4294967295))) > (IntKind.u64.wrap ((IntKind.u64.wrap (4294967296*xu))+((mO) / 4294967296))))),(by first|rfl|(simp;done)|(simp only [← jJ,← yQ] <;> (first|rfl|simp))|(simp [*];done)),H',⟨by have:=HK1.out;first|omega|exact Nat.le_refl _⟩,zW⟩
          case rest =>
           clear apx
           obtain ⟨kq,agL,rfl,HA,amM,⟨aAX,rfl⟩⟩:=hcut
           cases kq with
           | zero=>exact absurd HA.out (by simp [aV.j1])
           | succ avO =>
            have H:=HA.out
            clear HA
            simp only [aV.j1] at H
            by_cases c22:agL=true
            ·subst c22
             rw [if_pos rfl] at H;try dsimp only at H
             by_cases c23:(IntKind.u64.wrap (xu+((dF) / 4294967296)))≥4294967296
             ·rw [if_pos c23] at H
              have amx:=decide_eq_true c23
              clear c23
              have H':=aj.mk H
              clear H
              go_wp2
              repeat (go_quiet (fail);try go_wp2)
              go_meet
              case rel=>exact ⟨_,(IntKind.u64.wrap (aa1 - 1)),zT,H',⟨by have:=HK1.out;have:=amM.out;first|omega|exact Nat.le_refl _⟩,zW⟩
             ·rw [if_neg c23] at H
              have amx:=decide_eq_false c23
              clear c23
              have H':=aj.mk H
              clear H
              go_wp2
              repeat (go_quiet (fail);try go_wp2)
              go_roundg avO
              case measure=>have:=HK1.out;have:=amM.out;omega
              case rel=>exact ⟨(IntKind.u64.wrap (aa1 - 1)),(IntKind.u64.wrap (xu+((dF) / 4294967296))),zT,(by first|rfl|(simp;done)|(simp only [← jJ] <;> (first|rfl|simp))|(simp [*];done)),H',⟨by have:=HK1.out;have:=amM.out;omega⟩,zW⟩
            ·replace c22:=Bool.eq_false_iff.mpr c22
             subst c22
             rw [if_neg (show ¬ (false=true) by decide)] at H;try dsimp only at H
             have H':=aj.mk H
             clear H
             go_wp2
             repeat (go_quiet (fail);try go_wp2)
             go_meet
             case rel=>exact ⟨_,(aa1),zT,H',⟨by have:=HK1.out;have:=amM.out;first|omega|exact Nat.le_refl _⟩,zW⟩
       case rest =>
        clear apw
        obtain ⟨kq,oz,rfl,HA,amN,⟨aAY,rfl⟩⟩:=hcut
        cases kq with
        | zero=>exact absurd HA.out (by simp [aV.j2])
        | succ asC =>
         have H:=HA.out
         clear HA
         simp only [aV.j2] at H
         by_cases c24:((dF) / 4294967296)=0
         ·rw [if_pos c24] at H
          exact absurd H (by simp)
         ·rw [if_neg c24] at H
          have auq:(((dF) / 4294967296) == 0)=false:=beq_eq_false_iff_ne.mpr c24
          have az2:(((dF) / 4294967296) != 0)=true:=bne_iff_ne.mpr c24
          have H':=aj.mk H
          clear H
          go_wp2
          repeat (go_quiet (fail);try go_wp2)
          go_loopg [16,18] asC (fun kq v16 v18 w'=>∃ (ac7:Int) (uG:Int),v16 = .int .u64 ac7∧v18 = .int .u64 uG∧aj (aV.l1 kq dF ji8 ((dF) / 4294967296) (Go.bits .and .u64 (dF) 4294967295) (Go.bits .and .u64 (mO) 4294967295) oz ac7 (IntKind.u64.wrap ((IntKind.u64.wrap ((IntKind.u64.wrap ((Go.bits .or .u64 (jK) (oG))*4294967296))+((mO) / 4294967296))) - (IntKind.u64.wrap (oz*dF)))) uG=some (r1,r2))∧aj (kq≤asC)∧dw w w')
          case atStart=>exact ⟨(IntKind.u64.wrap ((IntKind.u64.wrap ((IntKind.u64.wrap ((IntKind.u64.wrap ((Go.bits .or .u64 (jK) (oG))*4294967296))+((mO) / 4294967296))) - (IntKind.u64.wrap (oz*dF)))) - (IntKind.u64.wrap ((IntKind.u64.wrap (Int.tdiv (IntKind.u64.wrap ((IntKind.u64.wrap ((IntKind.u64.wrap ((Go.bits .or .u64 (jK) (oG))*4294967296))+((mO) / 4294967296))) - (IntKind.u64.wrap (oz*dF)))) ((dF) / 4294967296)))*((dF) / 4294967296))))),(IntKind.u64.wrap (Int.tdiv (IntKind.u64.wrap ((IntKind.u64.wrap ((IntKind.u64.wrap ((Go.bits .or .u64 (jK) (oG))*4294967296))+((mO) / 4294967296))) - (IntKind.u64.wrap (oz*dF)))) ((dF) / 4294967296))),(by first|rfl|(simp;done)|(simp only [← jJ,← sJ,← yP,← yQ] <;> (first|rfl|simp))|(simp [*];done)),(by first|rfl|(simp;done)|(simp only [← jJ,← sJ,← yP,← yQ] <;> (first|rfl|simp))|(simp [*];done)),H',⟨Nat.le_refl _⟩,zW⟩
          case round =>
           clear H'
           obtain ⟨ac7,uG,rfl,rfl,HA,HK2,⟨m2,rfl⟩⟩:=hrel
           cases gk with
           | zero=>exact absurd HA.out (by simp [aV.l1])
           | succ k2 =>
            have H:=HA.out
            clear HA
            simp only [aV.l1] at H
            have apy:=aj.mk H
            clear H
            go_upto_region 24 with (fail)
            repeat (go_quiet (fail);go_upto_region 24 with (fail))
            go_cut [113] (fun avP wc=>∃ (kq:Nat) (aeR:Bool),avP = .bool aeR∧aj (aV.j4 kq dF ji8 ((dF) / 4294967296) (Go.bits .and .u64 (dF) 4294967295) (Go.bits .and .u64 (mO) 4294967295) oz ac7 (IntKind.u64.wrap ((IntKind.u64.wrap ((IntKind.u64.wrap ((Go.bits .or .u64 (jK) (oG))*4294967296))+((mO) / 4294967296))) - (IntKind.u64.wrap (oz*dF)))) uG aeR=some (r1,r2))∧aj (kq≤k2)∧dw w wc)
            case first =>
             have H:=apy.out
             clear apy
             by_cases c26:uG≥4294967296
             ·rw [if_pos c26] at H
              have aeQ:=decide_eq_true c26
              clear c26
              (first|rw [aeQ]|(simp only [bZ,dA];rw [aeQ])|skip)
              have H':=aj.mk H
              clear H
              go_wp2
              repeat (go_quiet (fail);try go_wp2)
              go_meet
              case rel=>exact ⟨_,(true),zT,H',⟨by have:=amN.out;have:=HK2.out;first|omega|exact Nat.le_refl _⟩,zW⟩
             ·rw [if_neg c26] at H
              have aeQ:=decide_eq_false c26
              clear c26
              (first|rw [aeQ]|(simp only [bZ,dA];rw [aeQ])|skip)
              have H':=aj.mk H
              clear H
              go_wp2
              repeat (go_quiet (fail);try go_wp2)
              go_meet
              case rel=>exact ⟨_,(decide ((IntKind.u64.wrap (uG*(Go.bits .and .u64 (dF) 4294967295))) > (IntKind.u64.wrap ((IntKind.u64.wrap (4294967296*ac7))+(Go.bits .and .u64 (mO) 4294967295))))),(by first|rfl|(simp;done)|(simp only [← jJ,← yQ] <;> (first|rfl|simp))|(simp [*];done)),H',⟨by have:=amN.out;have:=HK2.out;first|omega|exact Nat.le_refl _⟩,zW⟩
            case rest =>
             clear apy
             obtain ⟨kq,aeR,rfl,HA,asD,⟨aAZ,rfl⟩⟩:=hcut
             cases kq with
             | zero=>exact absurd HA.out (by simp [aV.j4])
             | succ avQ =>
              have H:=HA.out
              clear HA
              simp only [aV.j4] at H
              by_cases c27:aeR=true
              ·subst c27
               rw [if_pos rfl] at H;try dsimp only at H
               by_cases c28:(IntKind.u64.wrap (ac7+((dF) / 4294967296)))≥4294967296
               ·rw [if_pos c28] at H
                have amy:=decide_eq_true c28
                clear c28
                by_cases c29:0≤ji8
                ·rw [if_pos c29] at H
                 have ama:=eq_true c29
                 have az3:=decide_eq_true c29
                 clear c29
                 obtain ⟨apz,agM⟩:∃ j_:Int,(shr .u64 (IntKind.u64.wrap ((IntKind.u64.wrap ((IntKind.u64.wrap ((IntKind.u64.wrap ((IntKind.u64.wrap ((IntKind.u64.wrap ((Go.bits .or .u64 (jK) (oG))*4294967296))+((mO) / 4294967296))) - (IntKind.u64.wrap (oz*dF))))*4294967296))+(Go.bits .and .u64 (mO) 4294967295))) - (IntKind.u64.wrap ((IntKind.u64.wrap (uG - 1))*dF)))) ji8)=j_:=⟨_,rfl⟩
                 replace H:(some (IntKind.u64.wrap ((IntKind.u64.wrap (oz*4294967296))+(IntKind.u64.wrap (uG - 1))),apz))=some (r1,r2):=by first|(rw [agM] at H;exact H)|(simp only [agM] at H ⊢;exact H)
                 have axV:((IntKind.u64.wrap ((IntKind.u64.wrap ((IntKind.u64.wrap ((IntKind.u64.wrap ((IntKind.u64.wrap ((IntKind.u64.wrap ((Go.bits .or .u64 (jK) (oG))*4294967296))+((mO) / 4294967296))) - (IntKind.u64.wrap (oz*dF))))*4294967296))+(Go.bits .and .u64 (mO) 4294967295))) - (IntKind.u64.wrap ((IntKind.u64.wrap (uG - 1))*dF)))) / 2 ^ min ji8.toNat 64)=apz:=agM
                 have axW:ji8≤64→((IntKind.u64.wrap ((IntKind.u64.wrap ((IntKind.u64.wrap ((IntKind.u64.wrap ((IntKind.u64.wrap ((IntKind.u64.wrap ((Go.bits .or .u64 (jK) (oG))*4294967296))+((mO) / 4294967296))) - (IntKind.u64.wrap (oz*dF))))*4294967296))+(Go.bits .and .u64 (mO) 4294967295))) - (IntKind.u64.wrap ((IntKind.u64.wrap (uG - 1))*dF)))) / 2 ^ ji8.toNat)=apz:=oM agM
                 simp only [Option.some.injEq,Prod.mk.injEq] at H
                 obtain ⟨rfl,rfl⟩:=H
                 go_wp2
                 repeat (go_quiet (fail);try go_wp2)
                 go_ret2
                 exact ⟨by first|rfl|(simp;done)|(simp only [← pJ,← jJ,← sJ,← agK,← yP,← yQ,← agM] <;> (first|rfl|simp))|(simp [*];done),zW⟩
                ·rw [if_neg c29] at H
                 exact absurd H (by simp)
               ·rw [if_neg c28] at H
                have amy:=decide_eq_false c28
                clear c28
                have H':=aj.mk H
                clear H
                go_wp2
                repeat (go_quiet (fail);try go_wp2)
                go_roundg avQ
                case measure=>have:=amN.out;have:=HK2.out;have:=asD.out;omega
                case rel=>exact ⟨(IntKind.u64.wrap (ac7+((dF) / 4294967296))),(IntKind.u64.wrap (uG - 1)),(by first|rfl|(simp;done)|(simp only [← jJ] <;> (first|rfl|simp))|(simp [*];done)),zT,H',⟨by have:=amN.out;have:=HK2.out;have:=asD.out;omega⟩,zW⟩
              ·replace c27:=Bool.eq_false_iff.mpr c27
               subst c27
               rw [if_neg (show ¬ (false=true) by decide)] at H;try dsimp only at H
               by_cases c31:0≤ji8
               ·rw [if_pos c31] at H
                have az4:=eq_true c31
                have az5:=decide_eq_true c31
                clear c31
                obtain ⟨apA,agN⟩:∃ j_:Int,(shr .u64 (IntKind.u64.wrap ((IntKind.u64.wrap ((IntKind.u64.wrap ((IntKind.u64.wrap ((IntKind.u64.wrap ((IntKind.u64.wrap ((Go.bits .or .u64 (jK) (oG))*4294967296))+((mO) / 4294967296))) - (IntKind.u64.wrap (oz*dF))))*4294967296))+(Go.bits .and .u64 (mO) 4294967295))) - (IntKind.u64.wrap (uG*dF)))) ji8)=j_:=⟨_,rfl⟩
                replace H:(some (IntKind.u64.wrap ((IntKind.u64.wrap (oz*4294967296))+uG),apA))=some (r1,r2):=by first|(rw [agN] at H;exact H)|(simp only [agN] at H ⊢;exact H)
                have axX:((IntKind.u64.wrap ((IntKind.u64.wrap ((IntKind.u64.wrap ((IntKind.u64.wrap ((IntKind.u64.wrap ((IntKind.u64.wrap ((Go.bits .or .u64 (jK) (oG))*4294967296))+((mO) / 4294967296))) - (IntKind.u64.wrap (oz*dF))))*4294967296))+(Go.bits .and .u64 (mO) 4294967295))) - (IntKind.u64.wrap (uG*dF)))) / 2 ^ min ji8.toNat 64)=apA:=agN
                have axY:ji8≤64→((IntKind.u64.wrap ((IntKind.u64.wrap ((IntKind.u64.wrap ((IntKind.u64.wrap ((IntKind.u64.wrap ((IntKind.u64.wrap ((Go.bits .or .u64 (jK) (oG))*4294967296))+((mO) / 4294967296))) - (IntKind.u64.wrap (oz*dF))))*4294967296))+(Go.bits .and .u64 (mO) 4294967295))) - (IntKind.u64.wrap (uG*dF)))) / 2 ^ ji8.toNat)=apA:=oM agN
                simp only [Option.some.injEq,Prod.mk.injEq] at H
                obtain ⟨rfl,rfl⟩:=H
                go_wp2
                repeat (go_quiet (fail);try go_wp2)
                go_ret2
                exact ⟨by first|rfl|(simp;done)|(simp only [← pJ,← jJ,← sJ,← agK,← yP,← yQ,← agN] <;> (first|rfl|simp))|(simp [*];done),zW⟩
               ·rw [if_neg c31] at H
                exact absurd H (by simp)
     ·rw [if_neg c14] at H
      exact absurd H (by simp)
    ·rw [if_neg c9] at H
     exact absurd H (by simp)
end Go.Proofs.YtpondkggmcmpfaaGreatDoor.QA
namespace Go.Proofs.YtpondkggmcmpfaaGreatDoor.QA
open Go.Proofs.YtpondkggmcmpfaaGreatDoor.T
open Go.RowKit Go.Proofs.YtpondkggmcmpfaaGreatDoorW.PrintWords Go.Proofs.YtpondkggmcmpfaaGreatDoorW.PrintLast Go.Proofs.YtpondkggmcmpfaaGreatDoorW.PrintMore
attribute [local go_sem] dV dQ dR eP eX
set_option linter.unusedVariables false
set_option linter.unusedSimpArgs false
def aZ.j0:Nat→Bool→Int→Int→Bool→Option (Int)
 | 0,_,_,_,_=>none
 | k+1,x9,x11,x14,x60=>if x60=true then ((cZ.f k (oO x11 1 0) (oN x11 1 0) x9).bind fun akk=>(some akk)) else ((cZ.f k (oO x11 x14 0) (oN x11 x14 0) x9).bind fun t138=>(some t138))
def aZ.f (k:Nat) (a0 a1 a2:Int):Option (Int):=if a2=0 then (some 0) else ((jW.f a0 a1).bind fun xG=>((mW.f a2).bind fun wS=>(if xG.1≥wS then ((cZ.f k 1 0 (xG.2.2 != (decide (a2 < 0)))).bind fun apB=>(some apB)) else ((aV.f k xG.1 xG.2.1 wS).bind fun yR=>(if (xG.2.2 != (decide (a2 < 0)))=true then (if yR.2 > (IntKind.u64.wrap (wS - yR.2)) then (aZ.j0 k (xG.2.2 != (decide (a2 < 0))) yR.1 0 true) else (if ((xG.2.2 != (decide (a2 < 0)))=true) then (aZ.j0 k (xG.2.2 != (decide (a2 < 0))) yR.1 0 false) else (aZ.j0 k (xG.2.2 != (decide (a2 < 0))) yR.1 0 (decide (yR.2≥(IntKind.u64.wrap (wS - yR.2))))))) else (if ((xG.2.2 != (decide (a2 < 0)))=true) then (aZ.j0 k (xG.2.2 != (decide (a2 < 0))) yR.1 0 false) else (aZ.j0 k (xG.2.2 != (decide (a2 < 0))) yR.1 0 (decide (yR.2≥(IntKind.u64.wrap (wS - yR.2)))))))))))
theorem aZ.iT:∀ k,(∀ y0 y1 y2 y3,LeO (aZ.j0 k y0 y1 y2 y3) (aZ.j0 (k+1) y0 y1 y2 y3))
 | 0=>fun _ _ _ _ r h=>by simp [aZ.j0] at h
 | k+1=>by
  have ih0:=aZ.iT k
  ·intro y0 y1 y2 y3
   unfold aZ.j0
   repeat' (with_reducible first|exact ih0 _ _ _ _|exact aV.mono _ _ _ _|exact cZ.mono _ _ _ _|exact zM|refine LeO.ite ?_ ?_|refine LeO.bind ?_ (fun _ => ?_))
theorem aZ.mono:∀ a0 a1 a2 k,LeO (aZ.f k a0 a1 a2) (aZ.f (k+1) a0 a1 a2):=by
 intro a0 a1 a2 k
 have ih0:=aZ.iT k
 unfold aZ.f
 repeat' (with_reducible first|exact ih0 _ _ _ _|exact aV.mono _ _ _ _|exact cZ.mono _ _ _ _|exact zM|refine LeO.ite ?_ ?_|refine LeO.bind ?_ (fun _ => ?_))
set_option maxHeartbeats 8000000 in
set_option maxRecDepth 100000 in
theorem aZ.calls (k:Nat) (a0 a1 a2 r:Int) (w:World) (h:aZ.f k a0 a1 a2=some r) :
  Calls Tryz.prog 130 #[.int .i64 a0,.int .i64 a1,.int .i64 a2] w fun e w'=>e = .returned (.int .i64 r)∧dw w w':=by
 have H:=h
 clear h
 unfold aZ.f at H
 by_cases c4:a2=0
 ·rw [if_pos c4] at H
  have fU:(a2 == 0)=true:=beq_iff_eq.mpr c4
  have acK:(a2 != 0)=false:=bne_eq_false_iff_eq.mpr c4
  clear c4
  obtain rfl:=Option.some.inj H
  go_enter Tryz.func130,Tryz.ntmps130
  go_wp2
  go_ret
  exact ⟨zT,zW⟩
 ·rw [if_neg c4] at H
  have fU:(a2 == 0)=false:=beq_eq_false_iff_ne.mpr c4
  have acK:(a2 != 0)=true:=bne_iff_ne.mpr c4
  replace H:=zO H
  obtain ⟨⟨t130,t131,lK⟩,A5,H⟩:=H
  try dsimp only at H
  replace H:=zO H
  obtain ⟨wS,A6,H⟩:=H
  try dsimp only at H
  by_cases c7:t130≥wS
  ·rw [if_pos c7] at H
   have jr:=decide_eq_true c7
   clear c7
   replace H:=zO H
   obtain ⟨apB,A8,H⟩:=H
   try dsimp only at H
   obtain rfl:=Option.some.inj H
   go_enter Tryz.func130,Tryz.ntmps130
   go_wp2_with (first|((with_reducible refine aA (f:=154) rfl ?_);refine aH (some 21) rfl rfl Tryz.func154 (by kernel_rfl) rfl #[.int .i64 a0,.int .i64 a1] rfl zL ?_;(with_reducible refine (jW.calls a0 a1 t130 t131 lK _ A5.out).mono ?_);rintro e w' ⟨rfl,⟨nd,rfl⟩⟩;refine ⟨_,rfl,?_⟩)|((with_reducible refine aA (f:=155) rfl ?_);refine aH (some 26) rfl rfl Tryz.func155 (by kernel_rfl) rfl #[.int .i64 a2] rfl zL ?_;(with_reducible refine (mW.calls a2 wS _ A6.out).mono ?_);rintro e w' ⟨rfl,⟨nd,rfl⟩⟩;refine ⟨_,rfl,?_⟩)|((with_reducible refine aA (f:=156) rfl ?_);refine aH (some 35) rfl rfl Tryz.func156 (by kernel_rfl) rfl #[.int .u64 1,.int .u64 0,.bool (lK != (decide (a2 < 0)))] rfl zL ?_;(with_reducible refine (cZ.calls k 1 0 (lK != (decide (a2 < 0))) apB _ A8.out).mono ?_);rintro e w' ⟨rfl,⟨nd,rfl⟩⟩;refine ⟨_,rfl,?_⟩))
   go_ret
   exact ⟨zT,zW⟩
  ·rw [if_neg c7] at H
   have jr:=decide_eq_false c7
   clear c7
   replace H:=zO H
   obtain ⟨⟨tK,ahM⟩,A9,H⟩:=H
   try dsimp only at H
   rcases Bool.eq_false_or_eq_true (lK != (decide (a2 < 0))) with hsv|hsv
   ·have rH:(lK != (decide (a2 < 0)))=true:=hsv
    have amo:(lK == (decide (a2 < 0)))=false:=by simpa using hsv
    have afM:=aj.mk H
    clear H
    go_enter Tryz.func130,Tryz.ntmps130
    go_upto_region 11 with (first|((with_reducible refine aA (f:=154) rfl ?_);refine aH (some 21) rfl rfl Tryz.func154 (by kernel_rfl) rfl #[.int .i64 a0,.int .i64 a1] rfl zL ?_;(with_reducible refine (jW.calls a0 a1 t130 t131 lK _ A5.out).mono ?_);rintro e w' ⟨rfl,⟨nd,rfl⟩⟩;refine ⟨_,rfl,?_⟩)|((with_reducible refine aA (f:=155) rfl ?_);refine aH (some 26) rfl rfl Tryz.func155 (by kernel_rfl) rfl #[.int .i64 a2] rfl zL ?_;(with_reducible refine (mW.calls a2 wS _ A6.out).mono ?_);rintro e w' ⟨rfl,⟨nd,rfl⟩⟩;refine ⟨_,rfl,?_⟩)|((with_reducible refine aA (f:=157) rfl ?_);refine aH (some 40) rfl rfl Tryz.func157 (by kernel_rfl) rfl #[.int .u64 t130,.int .u64 t131,.int .u64 wS] rfl zL ?_;(with_reducible refine (aV.calls k t130 t131 wS tK ahM _ A9.out).mono ?_);rintro e w' ⟨rfl,⟨nd,rfl⟩⟩;refine ⟨_,rfl,?_⟩))
    (try simp only [Act.put,List.setIfInBounds_toArray,List.set_cons_zero,List.set_cons_succ])
    go_cut [60] (fun v60 wc=>∃ (kq:Nat) (aa2:Bool),v60 = .bool aa2∧aj (aZ.j0 kq (lK != (decide (a2 < 0))) tK 0 aa2=some r)∧aj (kq≤k)∧dw w wc)
    case first =>
     have H:=afM.out
     clear afM
     by_cases c11:(lK != (decide (a2 < 0)))=true
     ·rw [if_pos c11] at H
      have iO:(lK != (decide (a2 < 0)))=true:=c11
      (try (have yE:decide (lK=(decide (a2 < 0)))=false:=by simpa using c11))
      (try (have amq:(lK == (decide (a2 < 0)))=false:=by simpa using c11))
      (try (have auo:¬ (lK=(decide (a2 < 0))):=by simpa using c11))
      clear c11
      (first|rw [iO]|(simp only [bZ,dA];rw [iO])|skip)
      by_cases c12:ahM > (IntKind.u64.wrap (wS - ahM))
      ·rw [if_pos c12] at H
       have aaY:=decide_eq_true c12
       clear c12
       have H':=aj.mk H
       clear H
       go_wp2
       go_meet
       case rel=>exact ⟨_,(true),zT,H',⟨by first|omega|exact Nat.le_refl _⟩,zW⟩
      ·rw [if_neg c12] at H
       have aaY:=decide_eq_false c12
       clear c12
       by_cases c13:((lK != (decide (a2 < 0)))=true)
       ·rw [if_pos c13] at H
        have abO:(lK != (decide (a2 < 0)))=true:=c13
        (try (have amO:decide (lK=(decide (a2 < 0)))=false:=by simpa using c13))
        (try (have az6:(lK == (decide (a2 < 0)))=false:=by simpa using c13))
        (try (have az7:¬ (lK=(decide (a2 < 0))):=by simpa using c13))
        clear c13
        have H':=aj.mk H
        clear H
        go_wp2
        go_meet
        case rel=>exact ⟨_,(false),zT,H',⟨by first|omega|exact Nat.le_refl _⟩,zW⟩
       ·rw [if_neg c13] at H
        have abO:(lK != (decide (a2 < 0)))=false:=by simpa using c13
        exact absurd (rH.symm.trans abO) (by decide)
     ·rw [if_neg c11] at H
      have iO:(lK != (decide (a2 < 0)))=false:=by simpa using c11
      exact absurd (rH.symm.trans iO) (by decide)
    case rest =>
     clear afM
     obtain ⟨kq,aa2,rfl,HA,HJ9,⟨mc9,rfl⟩⟩:=hcut
     cases kq with
     | zero=>exact absurd HA.out (by simp [aZ.j0])
     | succ kj9 =>
      have H:=HA.out
      clear HA
      simp only [aZ.j0] at H
      by_cases c15:aa2=true
      ·subst c15
       rw [if_pos rfl] at H;try dsimp only at H
       replace H:=zO H
       obtain ⟨akk,A16,H⟩:=H
       try dsimp only at H
       obtain rfl:=Option.some.inj H
       go_wp2_with (first|((with_reducible refine aA (f:=156) rfl ?_);refine aH (some 70) rfl rfl Tryz.func156 (by kernel_rfl) rfl #[.int .u64 (oO tK 1 0),.int .u64 (oN tK 1 0),.bool true] rfl zL ?_;(with_reducible refine (cZ.calls kj9 (oO tK 1 0) (oN tK 1 0) true akk _ (by have h:=A16.out;rw [rH] at h;exact h)).mono ?_);rintro e w' ⟨rfl,⟨nd,rfl⟩⟩;refine ⟨_,rfl,?_⟩))
       go_ret
       exact ⟨zT,zW⟩
      ·replace c15:=Bool.eq_false_iff.mpr c15
       subst c15
       rw [if_neg (show ¬ (false=true) by decide)] at H;try dsimp only at H
       replace H:=zO H
       obtain ⟨t138,A17,H⟩:=H
       try dsimp only at H
       obtain rfl:=Option.some.inj H
       go_wp2_with (first|((with_reducible refine aA (f:=156) rfl ?_);refine aH (some 70) rfl rfl Tryz.func156 (by kernel_rfl) rfl #[.int .u64 (oO tK 0 0),.int .u64 (oN tK 0 0),.bool true] rfl zL ?_;(with_reducible refine (cZ.calls kj9 (oO tK 0 0) (oN tK 0 0) true t138 _ (by have h:=A17.out;rw [rH] at h;exact h)).mono ?_);rintro e w' ⟨rfl,⟨nd,rfl⟩⟩;refine ⟨_,rfl,?_⟩))
       go_ret
       exact ⟨zT,zW⟩
   ·have rH:(lK != (decide (a2 < 0)))=false:=hsv
    have amo:(lK == (decide (a2 < 0)))=true:=by simpa using hsv
    have afM:=aj.mk H
    clear H
    go_enter Tryz.func130,Tryz.ntmps130
    go_upto_region 11 with (first|((with_reducible refine aA (f:=154) rfl ?_);refine aH (some 21) rfl rfl Tryz.func154 (by kernel_rfl) rfl #[.int .i64 a0,.int .i64 a1] rfl zL ?_;(with_reducible refine (jW.calls a0 a1 t130 t131 lK _ A5.out).mono ?_);rintro e w' ⟨rfl,⟨nd,rfl⟩⟩;refine ⟨_,rfl,?_⟩)|((with_reducible refine aA (f:=155) rfl ?_);refine aH (some 26) rfl rfl Tryz.func155 (by kernel_rfl) rfl #[.int .i64 a2] rfl zL ?_;(with_reducible refine (mW.calls a2 wS _ A6.out).mono ?_);rintro e w' ⟨rfl,⟨nd,rfl⟩⟩;refine ⟨_,rfl,?_⟩)|((with_reducible refine aA (f:=157) rfl ?_);refine aH (some 40) rfl rfl Tryz.func157 (by kernel_rfl) rfl #[.int .u64 t130,.int .u64 t131,.int .u64 wS] rfl zL ?_;(with_reducible refine (aV.calls k t130 t131 wS tK ahM _ A9.out).mono ?_);rintro e w' ⟨rfl,⟨nd,rfl⟩⟩;refine ⟨_,rfl,?_⟩))
    (try simp only [Act.put,List.setIfInBounds_toArray,List.set_cons_zero,List.set_cons_succ])
    go_cut [60] (fun v60 wc=>∃ (kq:Nat) (aa2:Bool),v60 = .bool aa2∧aj (aZ.j0 kq (lK != (decide (a2 < 0))) tK 0 aa2=some r)∧aj (kq≤k)∧dw w wc)
    case first =>
     have H:=afM.out
     clear afM
     by_cases c11:(lK != (decide (a2 < 0)))=true
     ·rw [if_pos c11] at H
      have iO:(lK != (decide (a2 < 0)))=true:=c11
      exact absurd (rH.symm.trans iO) (by decide)
     ·rw [if_neg c11] at H
      have iO:(lK != (decide (a2 < 0)))=false:=by simpa using c11
      (try (have yE:decide (lK=(decide (a2 < 0)))=true:=by simpa using c11))
      (try (have amq:(lK == (decide (a2 < 0)))=true:=by simpa using c11))
      clear c11
      (first|rw [iO]|(simp only [bZ,dA];rw [iO])|skip)
      by_cases c14:((lK != (decide (a2 < 0)))=true)
      ·rw [if_pos c14] at H
       have abP:(lK != (decide (a2 < 0)))=true:=c14
       exact absurd (rH.symm.trans abP) (by decide)
      ·rw [if_neg c14] at H
       have abP:(lK != (decide (a2 < 0)))=false:=by simpa using c14
       (try (have amG:decide (lK=(decide (a2 < 0)))=true:=by simpa using c14))
       (try (have az8:(lK == (decide (a2 < 0)))=true:=by simpa using c14))
       clear c14
       have H':=aj.mk H
       clear H
       go_wp2
       go_meet
       case rel=>exact ⟨_,(decide (ahM≥(IntKind.u64.wrap (wS - ahM)))),zT,H',⟨by first|omega|exact Nat.le_refl _⟩,zW⟩
    case rest =>
     clear afM
     obtain ⟨kq,aa2,rfl,HA,HJ9,⟨mc9,rfl⟩⟩:=hcut
     cases kq with
     | zero=>exact absurd HA.out (by simp [aZ.j0])
     | succ kj9 =>
      have H:=HA.out
      clear HA
      simp only [aZ.j0] at H
      by_cases c15:aa2=true
      ·subst c15
       rw [if_pos rfl] at H;try dsimp only at H
       replace H:=zO H
       obtain ⟨akk,A16,H⟩:=H
       try dsimp only at H
       obtain rfl:=Option.some.inj H
       go_wp2_with (first|((with_reducible refine aA (f:=156) rfl ?_);refine aH (some 70) rfl rfl Tryz.func156 (by kernel_rfl) rfl #[.int .u64 (oO tK 1 0),.int .u64 (oN tK 1 0),.bool false] rfl zL ?_;(with_reducible refine (cZ.calls kj9 (oO tK 1 0) (oN tK 1 0) false akk _ (by have h:=A16.out;rw [rH] at h;exact h)).mono ?_);rintro e w' ⟨rfl,⟨nd,rfl⟩⟩;refine ⟨_,rfl,?_⟩))
       go_ret
       exact ⟨zT,zW⟩
      ·replace c15:=Bool.eq_false_iff.mpr c15
       subst c15
       rw [if_neg (show ¬ (false=true) by decide)] at H;try dsimp only at H
       replace H:=zO H
       obtain ⟨t138,A17,H⟩:=H
       try dsimp only at H
       obtain rfl:=Option.some.inj H
       go_wp2_with (first|((with_reducible refine aA (f:=156) rfl ?_);refine aH (some 70) rfl rfl Tryz.func156 (by kernel_rfl) rfl #[.int .u64 (oO tK 0 0),.int .u64 (oN tK 0 0),.bool false] rfl zL ?_;(with_reducible refine (cZ.calls kj9 (oO tK 0 0) (oN tK 0 0) false t138 _ (by have h:=A17.out;rw [rH] at h;exact h)).mono ?_);rintro e w' ⟨rfl,⟨nd,rfl⟩⟩;refine ⟨_,rfl,?_⟩))
       go_ret
       exact ⟨zT,zW⟩
def fH.j0:Nat→Int→Int→Bool→Option (Int)
 | 0,_,_,_=>none
 | k+1,x0,x1,x23=>if x23=true then (some 0) else (if (mx x0 (wrap64 (-x0)))≥x1 then ((aZ.f k (wrap64 ((wrap64 ((wrap64 ((wrap64 ((wrap64 ((wrap64 (-(mx x0 (wrap64 (-x0)))))*(mx x0 (wrap64 (-x0)))))*(mx x0 (wrap64 (-x0)))))+(wrap64 ((wrap64 ((wrap64 (5*(mx x0 (wrap64 (-x0)))))*(mx x0 (wrap64 (-x0)))))*x1)))) - (wrap64 ((wrap64 ((wrap64 (8*(mx x0 (wrap64 (-x0)))))*x1))*x1))))+(wrap64 ((wrap64 ((wrap64 (4*x1))*x1))*x1)))) 1073741824 (wrap64 ((wrap64 ((wrap64 (2*x1))*x1))*x1))).bind fun t139=>(some t139)) else ((aZ.f k (wrap64 ((wrap64 ((wrap64 ((wrap64 ((wrap64 (3*(mx x0 (wrap64 (-x0)))))*(mx x0 (wrap64 (-x0)))))*(mx x0 (wrap64 (-x0))))) - (wrap64 ((wrap64 ((wrap64 (5*(mx x0 (wrap64 (-x0)))))*(mx x0 (wrap64 (-x0)))))*x1))))+(wrap64 ((wrap64 ((wrap64 (2*x1))*x1))*x1)))) 1073741824 (wrap64 ((wrap64 ((wrap64 (2*x1))*x1))*x1))).bind fun akl=>(some akl)))
def fH.f (k:Nat) (a0 a1:Int):Option (Int):=if a1 < 1 then (fH.j0 k a0 a1 true) else (if a1 > 262144 then (fH.j0 k a0 a1 true) else (if a0≥(wrap64 (2*a1)) then (fH.j0 k a0 a1 true) else (fH.j0 k a0 a1 (decide (a0≤(wrap64 ((-2)*a1)))))))
theorem fH.iT:∀ k,(∀ y0 y1 y2,LeO (fH.j0 k y0 y1 y2) (fH.j0 (k+1) y0 y1 y2))
 | 0=>fun _ _ _ r h=>by simp [fH.j0] at h
 | k+1=>by
  have ih0:=fH.iT k
  ·intro y0 y1 y2
   unfold fH.j0
   repeat' (with_reducible first|exact ih0 _ _ _|exact aZ.mono _ _ _ _|exact zM|refine LeO.ite ?_ ?_|refine LeO.bind ?_ (fun _ => ?_))
theorem fH.mono:∀ a0 a1 k,LeO (fH.f k a0 a1) (fH.f (k+1) a0 a1):=by
 intro a0 a1 k
 have ih0:=fH.iT k
 unfold fH.f
 repeat' (with_reducible first|exact ih0 _ _ _|exact aZ.mono _ _ _ _|exact zM|refine LeO.ite ?_ ?_|refine LeO.bind ?_ (fun _ => ?_))
set_option maxHeartbeats 8000000 in
set_option maxRecDepth 100000 in
theorem fH.calls (k:Nat) (a0 a1 r:Int) (w:World) (h:fH.f k a0 a1=some r) :
  Calls Tryz.prog 108 #[.int .i64 a0,.int .i64 a1] w fun e w'=>e = .returned (.int .i64 r)∧Below w.heap.size w w':=by
 have HB:=aj.mk (Below.refl w.heap.size w)
 have H:=h
 clear h
 unfold fH.f at H
 have HC3:=aj.mk H
 clear H
 go_enter Tryz.func108,Tryz.ntmps108
 go_upto_region 1 with (fail)
 go_cut [23] (fun v23 wc=>∃ (kq:Nat) (ai1:Bool),v23 = .bool ai1∧aj (fH.j0 kq a0 a1 ai1=some r)∧aj (kq≤k)∧aj (Below w.heap.size w wc))
 case first =>
  have H:=HC3.out
  clear HC3
  by_cases c4:a1 < 1
  ·rw [if_pos c4] at H
   have fU:=decide_eq_true c4
   clear c4
   (first|rw [fU]|(simp only [bZ,dA];rw [fU])|skip)
   have H':=aj.mk H
   clear H
   go_wp2
   go_meet
   case rel=>exact ⟨_,(true),zT,H',⟨by first|omega|exact Nat.le_refl _⟩,⟨zB⟩⟩
  ·rw [if_neg c4] at H
   have fU:=decide_eq_false c4
   clear c4
   (first|rw [fU]|(simp only [bZ,dA];rw [fU])|skip)
   by_cases c5:a1 > 262144
   ·rw [if_pos c5] at H
    have iL:=decide_eq_true c5
    clear c5
    have H':=aj.mk H
    clear H
    go_wp2
    go_meet
    case rel=>exact ⟨_,(true),zT,H',⟨by first|omega|exact Nat.le_refl _⟩,⟨zB⟩⟩
   ·rw [if_neg c5] at H
    have iL:=decide_eq_false c5
    clear c5
    by_cases c6:a0≥(wrap64 (2*a1))
    ·rw [if_pos c6] at H
     have iw:=decide_eq_true c6
     clear c6
     have H':=aj.mk H
     clear H
     go_wp2
     go_meet
     case rel=>exact ⟨_,(true),zT,H',⟨by first|omega|exact Nat.le_refl _⟩,⟨zB⟩⟩
    ·rw [if_neg c6] at H
     have iw:=decide_eq_false c6
     clear c6
     have H':=aj.mk H
     clear H
     go_wp2
     go_meet
     case rel=>exact ⟨_,(decide (a0≤(wrap64 ((-2)*a1)))),zT,H',⟨by first|omega|exact Nat.le_refl _⟩,⟨zB⟩⟩
 case rest =>
  clear HC3
  obtain ⟨kq,ai1,rfl,HA,HJ2,HB⟩:=hcut
  cases kq with
  | zero=>exact absurd HA.out (by simp [fH.j0])
  | succ kj2 =>
   have H:=HA.out
   clear HA
   simp only [fH.j0] at H
   by_cases c7:ai1=true
   ·subst c7
    rw [if_pos rfl] at H;try dsimp only at H
    obtain rfl:=Option.some.inj H
    go_wp2
    go_ret
    exact ⟨zS,zB⟩
   ·replace c7:=Bool.eq_false_iff.mpr c7
    subst c7
    rw [if_neg (show ¬ (false=true) by decide)] at H;try dsimp only at H
    obtain ⟨ji8,pJ⟩:∃ j_:Int,(mx a0 (wrap64 (-a0)))=j_:=⟨_,rfl⟩
    replace H:(if (ji8)≥a1 then ((aZ.f kj2 (wrap64 ((wrap64 ((wrap64 ((wrap64 ((wrap64 ((wrap64 (-(ji8)))*(ji8)))*(ji8)))+(wrap64 ((wrap64 ((wrap64 (5*(ji8)))*(ji8)))*a1)))) - (wrap64 ((wrap64 ((wrap64 (8*(ji8)))*a1))*a1))))+(wrap64 ((wrap64 ((wrap64 (4*a1))*a1))*a1)))) 1073741824 (wrap64 ((wrap64 ((wrap64 (2*a1))*a1))*a1))).bind fun t139=>(some t139)) else ((aZ.f kj2 (wrap64 ((wrap64 ((wrap64 ((wrap64 ((wrap64 (3*(ji8)))*(ji8)))*(ji8))) - (wrap64 ((wrap64 ((wrap64 (5*(ji8)))*(ji8)))*a1))))+(wrap64 ((wrap64 ((wrap64 (2*a1))*a1))*a1)))) 1073741824 (wrap64 ((wrap64 ((wrap64 (2*a1))*a1))*a1))).bind fun akl=>(some akl)))=some r:=by first|(rw [pJ] at H;exact H)|(simp only [pJ] at H ⊢;exact H)
    have aqF:(if a0 < (wrap64 (-a0)) then (wrap64 (-a0)) else a0)=ji8:=pJ
    by_cases c9:(ji8)≥a1
    ·rw [if_pos c9] at H
     have qJ:=decide_eq_true c9
     clear c9
     replace H:=zO H
     obtain ⟨t139,A10,H⟩:=H
     try dsimp only at H
     obtain rfl:=Option.some.inj H
     go_wp2_with (first|((with_reducible refine aA (f:=130) rfl ?_);refine aH (some 85) rfl rfl Tryz.func130 (by kernel_rfl) rfl #[.int .i64 (wrap64 ((wrap64 ((wrap64 ((wrap64 ((wrap64 ((wrap64 (-(ji8)))*(ji8)))*(ji8)))+(wrap64 ((wrap64 ((wrap64 (5*(ji8)))*(ji8)))*a1)))) - (wrap64 ((wrap64 ((wrap64 (8*(ji8)))*a1))*a1))))+(wrap64 ((wrap64 ((wrap64 (4*a1))*a1))*a1)))),.int .i64 1073741824,.int .i64 (wrap64 ((wrap64 ((wrap64 (2*a1))*a1))*a1))] rfl (by (try simp only [List.map_toArray,List.map_cons,List.map_nil]);first|done|(simp only [pJ];rfl)|(simp only [Int.tdiv_eq_ediv_of_nonneg hji8l];rfl)|rfl|(simp only [List.length_drop,List.length_take];rfl)) ?_;(with_reducible refine (aZ.calls kj2 (wrap64 ((wrap64 ((wrap64 ((wrap64 ((wrap64 ((wrap64 (-(ji8)))*(ji8)))*(ji8)))+(wrap64 ((wrap64 ((wrap64 (5*(ji8)))*(ji8)))*a1)))) - (wrap64 ((wrap64 ((wrap64 (8*(ji8)))*a1))*a1))))+(wrap64 ((wrap64 ((wrap64 (4*a1))*a1))*a1)))) 1073741824 (wrap64 ((wrap64 ((wrap64 (2*a1))*a1))*a1)) t139 _ A10.out).mono ?_);rintro e w' ⟨rfl,⟨nd,rfl⟩⟩;refine ⟨_,rfl,?_⟩))
     go_ret
     exact ⟨by first|rfl|(simp [bG,bH] <;> rfl)|(simp only [← pJ];first|rfl|(simp [bG,bH] <;> rfl))|(simp [*,bG,bH] <;> rfl),zB⟩
    ·rw [if_neg c9] at H
     have qJ:=decide_eq_false c9
     clear c9
     replace H:=zO H
     obtain ⟨akl,A11,H⟩:=H
     try dsimp only at H
     obtain rfl:=Option.some.inj H
     go_wp2_with (first|((with_reducible refine aA (f:=130) rfl ?_);refine aH (some 85) rfl rfl Tryz.func130 (by kernel_rfl) rfl #[.int .i64 (wrap64 ((wrap64 ((wrap64 ((wrap64 ((wrap64 (3*(ji8)))*(ji8)))*(ji8))) - (wrap64 ((wrap64 ((wrap64 (5*(ji8)))*(ji8)))*a1))))+(wrap64 ((wrap64 ((wrap64 (2*a1))*a1))*a1)))),.int .i64 1073741824,.int .i64 (wrap64 ((wrap64 ((wrap64 (2*a1))*a1))*a1))] rfl (by (try simp only [List.map_toArray,List.map_cons,List.map_nil]);first|done|(simp only [pJ];rfl)|(simp only [Int.tdiv_eq_ediv_of_nonneg hji8l];rfl)|rfl|(simp only [List.length_drop,List.length_take];rfl)) ?_;(with_reducible refine (aZ.calls kj2 (wrap64 ((wrap64 ((wrap64 ((wrap64 ((wrap64 (3*(ji8)))*(ji8)))*(ji8))) - (wrap64 ((wrap64 ((wrap64 (5*(ji8)))*(ji8)))*a1))))+(wrap64 ((wrap64 ((wrap64 (2*a1))*a1))*a1)))) 1073741824 (wrap64 ((wrap64 ((wrap64 (2*a1))*a1))*a1)) akl _ A11.out).mono ?_);rintro e w' ⟨rfl,⟨nd,rfl⟩⟩;refine ⟨_,rfl,?_⟩))
     go_ret
     exact ⟨by first|rfl|(simp [bG,bH] <;> rfl)|(simp only [← pJ];first|rfl|(simp [bG,bH] <;> rfl))|(simp [*,bG,bH] <;> rfl),zB⟩
end Go.Proofs.YtpondkggmcmpfaaGreatDoor.QA
namespace Go.Proofs.YtpondkggmcmpfaaGreatDoor.QA
open Go.Proofs.YtpondkggmcmpfaaGreatDoor.T
open Go.RowKit Go.Proofs.YtpondkggmcmpfaaGreatDoorW.PrintWords Go.Proofs.YtpondkggmcmpfaaGreatDoorW.PrintLast Go.Proofs.YtpondkggmcmpfaaGreatDoorW.PrintMore
attribute [local go_sem] dV dQ dR eP eX
set_option linter.unusedVariables false
set_option linter.unusedSimpArgs false
def mg.f (a0 a1:Int):Option (Int):=if a1≤0 then (some a0) else (if a1≥64 then (some 0) else (if 0≤a1 then (if 0≤(wrap64 (a1 - 1)) then (some (wrap64 ((shr .i64 a0 a1)+(Go.bits .and .i64 (shr .i64 a0 (wrap64 (a1 - 1))) 1)))) else (none)) else (none)))
set_option maxHeartbeats 8000000 in
set_option maxRecDepth 100000 in
theorem mg.calls (a0 a1 r:Int) (w:World) (h:mg.f a0 a1=some r) :
  Calls Tryz.prog 100 #[.int .i64 a0,.int .i64 a1] w fun e w'=>e = .returned (.int .i64 r)∧dw w w':=by
 have H:=h
 clear h
 unfold mg.f at H
 by_cases c3:a1≤0
 ·rw [if_pos c3] at H
  have fO:=decide_eq_true c3
  clear c3
  obtain rfl:=Option.some.inj H
  go_enter Tryz.func100,Tryz.ntmps100
  go_wp2
  repeat (go_quiet (fail);try go_wp2)
  go_ret
  exact ⟨zT,zW⟩
 ·rw [if_neg c3] at H
  have fO:=decide_eq_false c3
  clear c3
  by_cases c4:a1≥64
  ·rw [if_pos c4] at H
   have fU:=decide_eq_true c4
   clear c4
   obtain rfl:=Option.some.inj H
   go_enter Tryz.func100,Tryz.ntmps100
   go_wp2
   repeat (go_quiet (fail);try go_wp2)
   go_ret
   exact ⟨zT,zW⟩
  ·rw [if_neg c4] at H
   have fU:=decide_eq_false c4
   clear c4
   by_cases c5:0≤a1
   ·rw [if_pos c5] at H
    have iL:=eq_true c5
    have abt:=decide_eq_true c5
    clear c5
    obtain ⟨ji6,wU⟩:∃ j_:Int,(shr .i64 a0 a1)=j_:=⟨_,rfl⟩
    replace H:(if 0≤(wrap64 (a1 - 1)) then (some (wrap64 ((ji6)+(Go.bits .and .i64 (shr .i64 a0 (wrap64 (a1 - 1))) 1)))) else (none))=some r:=by first|(rw [wU] at H;exact H)|(simp only [wU] at H ⊢;exact H)
    have auE:(a0 / 2 ^ min a1.toNat 64)=ji6:=wU
    have auF:a1≤64→(a0 / 2 ^ a1.toNat)=ji6:=oM wU
    obtain ⟨ji7,wW⟩:∃ j_:Int,(wrap64 (a1 - 1))=j_:=⟨_,rfl⟩
    replace H:(if 0≤(ji7) then (some (wrap64 ((ji6)+(Go.bits .and .i64 (shr .i64 a0 (ji7)) 1)))) else (none))=some r:=by first|(rw [wW] at H;exact H)|(simp only [wW] at H ⊢;exact H)
    have az9:(IntKind.i64.wrap (a1 - 1))=ji7:=(bZ _).trans wW
    by_cases c8:0≤(ji7)
    ·rw [if_pos c8] at H
     have vT:=eq_true c8
     have acH:=decide_eq_true c8
     clear c8
     obtain ⟨ji9,l9⟩:∃ j_:Int,(shr .i64 a0 (ji7))=j_:=⟨_,rfl⟩
     replace H:(some (wrap64 ((ji6)+(Go.bits .and .i64 (ji9) 1))))=some r:=by first|(rw [l9] at H;exact H)|(simp only [l9] at H ⊢;exact H)
     have alL:(a0 / 2 ^ min (ji7).toNat 64)=ji9:=l9
     have auG:(ji7)≤64→(a0 / 2 ^ (ji7).toNat)=ji9:=oM l9
     obtain rfl:=Option.some.inj H
     go_enter Tryz.func100,Tryz.ntmps100
     go_wp2
     repeat (go_quiet (fail);try go_wp2)
     go_ret
     exact ⟨by first|rfl|(simp;done)|(simp only [← wU,← wW,← l9] <;> (first|rfl|simp))|(simp [*];done),zW⟩
    ·rw [if_neg c8] at H
     exact absurd H (by simp)
   ·rw [if_neg c5] at H
    exact absurd H (by simp)
def vV.f (a0 a1:Int):Option (Bool):=if a1≥1 then (if a1≤1048576 then (if a0≥(wrap64 ((-4)*a1)) then (some (decide (a0≤(wrap64 (4*a1))))) else (some false)) else (some false)) else (some false)
set_option maxHeartbeats 8000000 in
set_option maxRecDepth 100000 in
theorem vV.calls (a0 a1:Int) (r:Bool) (w:World) (h:vV.f a0 a1=some r) :
  Calls Tryz.prog 174 #[.int .i64 a0,.int .i64 a1] w fun e w'=>e = .returned (.bool r)∧dw w w':=by
 have H:=h
 clear h
 unfold vV.f at H
 by_cases c3:a1≥1
 ·rw [if_pos c3] at H
  have fO:=decide_eq_true c3
  clear c3
  by_cases c4:a1≤1048576
  ·rw [if_pos c4] at H
   have fU:=decide_eq_true c4
   clear c4
   by_cases c5:a0≥(wrap64 ((-4)*a1))
   ·rw [if_pos c5] at H
    have iL:=decide_eq_true c5
    clear c5
    obtain rfl:=Option.some.inj H
    go_enter Tryz.func174,Tryz.ntmps174
    go_wp2
    go_ret
    exact ⟨zT,zW⟩
   ·rw [if_neg c5] at H
    have iL:=decide_eq_false c5
    clear c5
    obtain rfl:=Option.some.inj H
    go_enter Tryz.func174,Tryz.ntmps174
    go_wp2
    go_ret
    exact ⟨zT,zW⟩
  ·rw [if_neg c4] at H
   have fU:=decide_eq_false c4
   clear c4
   obtain rfl:=Option.some.inj H
   go_enter Tryz.func174,Tryz.ntmps174
   go_wp2
   go_ret
   exact ⟨zT,zW⟩
 ·rw [if_neg c3] at H
  have fO:=decide_eq_false c3
  clear c3
  obtain rfl:=Option.some.inj H
  go_enter Tryz.func174,Tryz.ntmps174
  go_wp2
  go_ret
  exact ⟨zT,zW⟩
def qW.f (a0:Int):Option (Int):=some (mx a0 (wrap64 (-a0)))
set_option maxHeartbeats 8000000 in
set_option maxRecDepth 100000 in
theorem qW.calls (a0 r:Int) (w:World) (h:qW.f a0=some r) :
  Calls Tryz.prog 175 #[.int .i64 a0] w fun e w'=>e = .returned (.int .i64 r)∧Below w.heap.size w w':=by
 have HB:=aj.mk (Below.refl w.heap.size w)
 have H:=h
 clear h
 unfold qW.f at H
 obtain ⟨ji2,zJ⟩:∃ j_:Int,(mx a0 (wrap64 (-a0)))=j_:=⟨_,rfl⟩
 replace H:(some ji2)=some r:=by first|(rw [zJ] at H;exact H)|(simp only [zJ] at H ⊢;exact H)
 have auH:(if a0 < (wrap64 (-a0)) then (wrap64 (-a0)) else a0)=ji2:=zJ
 obtain rfl:=Option.some.inj H
 go_enter Tryz.func175,Tryz.ntmps175
 go_wp2
 go_ret
 exact ⟨by first|rfl|(simp [bG,bH] <;> rfl)|(simp only [← zJ];first|rfl|(simp [bG,bH] <;> rfl))|(simp [*,bG,bH] <;> rfl),zB⟩
def nN.f (a0 a1 a2:Int):Option (Int × Int):=if a2≥64 then (if 0≤(wrap64 (a2 - 64)) then (some (0,shr .u64 a0 (wrap64 (a2 - 64)))) else (none)) else (if 0≤a2 then (if 0≤(wrap64 (64 - a2)) then (some (shr .u64 a0 a2,Go.bits .or .u64 (shr .u64 a1 a2) (shl .u64 a0 (wrap64 (64 - a2))))) else (none)) else (none))
set_option maxHeartbeats 8000000 in
set_option maxRecDepth 100000 in
theorem nN.calls (a0 a1 a2 r1 r2:Int) (w:World) (h:nN.f a0 a1 a2=some (r1,r2)) :
  Calls Tryz.prog 188 #[.int .u64 a0,.int .u64 a1,.int .i64 a2] w fun e w'=>e = .returned (.tuple #[.int .u64 r1,.int .u64 r2])∧dw w w':=by
 have H:=h
 clear h
 unfold nN.f at H
 by_cases c4:a2≥64
 ·rw [if_pos c4] at H
  have fU:=decide_eq_true c4
  clear c4
  obtain ⟨ji5,amP⟩:∃ j_:Int,(wrap64 (a2 - 64))=j_:=⟨_,rfl⟩
  replace H:(if 0≤(ji5) then (some (0,shr .u64 a0 (ji5))) else (none))=some (r1,r2):=by first|(rw [amP] at H;exact H)|(simp only [amP] at H ⊢;exact H)
  have aAa:(IntKind.i64.wrap (a2 - 64))=ji5:=(bZ _).trans amP
  by_cases c6:0≤(ji5)
  ·rw [if_pos c6] at H
   have iw:=eq_true c6
   have um:=decide_eq_true c6
   clear c6
   obtain ⟨ji7,wW⟩:∃ j_:Int,(shr .u64 a0 (ji5))=j_:=⟨_,rfl⟩
   replace H:(some (0,ji7))=some (r1,r2):=by first|(rw [wW] at H;exact H)|(simp only [wW] at H ⊢;exact H)
   have auI:(a0 / 2 ^ min (ji5).toNat 64)=ji7:=wW
   have aAb:(ji5)≤64→(a0 / 2 ^ (ji5).toNat)=ji7:=oM wW
   simp only [Option.some.injEq,Prod.mk.injEq] at H
   obtain ⟨rfl,rfl⟩:=H
   go_enter Tryz.func188,Tryz.ntmps188
   go_wp2
   repeat (go_quiet (fail);try go_wp2)
   go_ret2
   exact ⟨by first|rfl|(simp;done)|(simp only [← amP,← wW] <;> (first|rfl|simp))|(simp [*];done),zW⟩
  ·rw [if_neg c6] at H
   exact absurd H (by simp)
 ·rw [if_neg c4] at H
  have fU:=decide_eq_false c4
  clear c4
  by_cases c8:0≤a2
  ·rw [if_pos c8] at H
   have vT:=eq_true c8
   have acH:=decide_eq_true c8
   clear c8
   obtain ⟨ji9,l9⟩:∃ j_:Int,(shr .u64 a0 a2)=j_:=⟨_,rfl⟩
   replace H:(if 0≤(wrap64 (64 - a2)) then (some (ji9,Go.bits .or .u64 (shr .u64 a1 a2) (shl .u64 a0 (wrap64 (64 - a2))))) else (none))=some (r1,r2):=by first|(rw [l9] at H;exact H)|(simp only [l9] at H ⊢;exact H)
   have alL:(a0 / 2 ^ min a2.toNat 64)=ji9:=l9
   have auG:a2≤64→(a0 / 2 ^ a2.toNat)=ji9:=oM l9
   have pR:=eq_true (of_decide_eq_true (by first|(with_reducible assumption)|assumption):0≤a2)
   obtain ⟨ac8,yS⟩:∃ j_:Int,(shr .u64 a1 a2)=j_:=⟨_,rfl⟩
   replace H:(if 0≤(wrap64 (64 - a2)) then (some (ji9,Go.bits .or .u64 (ac8) (shl .u64 a0 (wrap64 (64 - a2))))) else (none))=some (r1,r2):=by first|(rw [yS] at H;exact H)|(simp only [yS] at H ⊢;exact H)
   have asE:(a1 / 2 ^ min a2.toNat 64)=ac8:=yS
   have asF:a2≤64→(a1 / 2 ^ a2.toNat)=ac8:=oM yS
   obtain ⟨jK,sJ⟩:∃ j_:Int,(wrap64 (64 - a2))=j_:=⟨_,rfl⟩
   replace H:(if 0≤(jK) then (some (ji9,Go.bits .or .u64 (ac8) (shl .u64 a0 (jK)))) else (none))=some (r1,r2):=by first|(rw [sJ] at H;exact H)|(simp only [sJ] at H ⊢;exact H)
   have axZ:(IntKind.i64.wrap (64 - a2))=jK:=(bZ _).trans sJ
   by_cases c13:0≤(jK)
   ·rw [if_pos c13] at H
    have abO:=eq_true c13
    have amO:=decide_eq_true c13
    clear c13
    obtain ⟨apC,agO⟩:∃ j_:Int,(shl .u64 a0 (jK))=j_:=⟨_,rfl⟩
    replace H:(some (ji9,Go.bits .or .u64 (ac8) (apC)))=some (r1,r2):=by first|(rw [agO] at H;exact H)|(simp only [agO] at H ⊢;exact H)
    have ax0:(IntKind.u64.wrap (a0*2 ^ min (jK).toNat 64))=apC:=agO
    have ax1:(jK)≤64→(IntKind.u64.wrap (a0*2 ^ (jK).toNat))=apC:=xR agO
    simp only [Option.some.injEq,Prod.mk.injEq] at H
    obtain ⟨rfl,rfl⟩:=H
    go_enter Tryz.func188,Tryz.ntmps188
    go_wp2
    repeat (go_quiet (fail);try go_wp2)
    go_ret2
    exact ⟨by first|rfl|(simp;done)|(simp only [← l9,← yS,← sJ,← agO] <;> (first|rfl|simp))|(simp [*];done),zW⟩
   ·rw [if_neg c13] at H
    exact absurd H (by simp)
  ·rw [if_neg c8] at H
   exact absurd H (by simp)
def qU.f (a0 a1 a2:Int):Option (Bool):=if a2≥64 then (if a1=0 then (if 0≤(wrap64 (128 - a2)) then (some ((shl .u64 a0 (wrap64 (128 - a2))) == 0)) else (none)) else (some false)) else (if 0≤(wrap64 (64 - a2)) then (some ((shl .u64 a1 (wrap64 (64 - a2))) == 0)) else (none))
set_option maxHeartbeats 8000000 in
set_option maxRecDepth 100000 in
theorem qU.calls (a0 a1 a2:Int) (r:Bool) (w:World) (h:qU.f a0 a1 a2=some r) :
  Calls Tryz.prog 189 #[.int .u64 a0,.int .u64 a1,.int .i64 a2] w fun e w'=>e = .returned (.bool r)∧dw w w':=by
 have H:=h
 clear h
 unfold qU.f at H
 by_cases c4:a2≥64
 ·rw [if_pos c4] at H
  have fU:=decide_eq_true c4
  clear c4
  by_cases c5:a1=0
  ·rw [if_pos c5] at H
   have iL:(a1 == 0)=true:=beq_iff_eq.mpr c5
   have abt:(a1 != 0)=false:=bne_eq_false_iff_eq.mpr c5
   clear c5
   obtain ⟨ji6,wU⟩:∃ j_:Int,(wrap64 (128 - a2))=j_:=⟨_,rfl⟩
   replace H:(if 0≤(ji6) then (some ((shl .u64 a0 (ji6)) == 0)) else (none))=some r:=by first|(rw [wU] at H;exact H)|(simp only [wU] at H ⊢;exact H)
   have aAc:(IntKind.i64.wrap (128 - a2))=ji6:=(bZ _).trans wU
   by_cases c7:0≤(ji6)
   ·rw [if_pos c7] at H
    have jr:=eq_true c7
    have abd:=decide_eq_true c7
    clear c7
    obtain ⟨ji8,pJ⟩:∃ j_:Int,(shl .u64 a0 (ji6))=j_:=⟨_,rfl⟩
    replace H:(some ((ji8) == 0))=some r:=by first|(rw [pJ] at H;exact H)|(simp only [pJ] at H ⊢;exact H)
    have aqF:(IntKind.u64.wrap (a0*2 ^ min (ji6).toNat 64))=ji8:=pJ
    have aAd:(ji6)≤64→(IntKind.u64.wrap (a0*2 ^ (ji6).toNat))=ji8:=xR pJ
    obtain rfl:=Option.some.inj H
    go_enter Tryz.func189,Tryz.ntmps189
    go_wp2
    go_ret
    exact ⟨by first|rfl|(simp;done)|(simp only [← wU,← pJ] <;> (first|rfl|simp))|(simp [*];done),zW⟩
   ·rw [if_neg c7] at H
    exact absurd H (by simp)
  ·rw [if_neg c5] at H
   have iL:(a1 == 0)=false:=beq_eq_false_iff_ne.mpr c5
   have abt:(a1 != 0)=true:=bne_iff_ne.mpr c5
   obtain rfl:=Option.some.inj H
   go_enter Tryz.func189,Tryz.ntmps189
   go_wp2
   go_ret
   exact ⟨zT,zW⟩
 ·rw [if_neg c4] at H
  have fU:=decide_eq_false c4
  clear c4
  obtain ⟨ji9,l9⟩:∃ j_:Int,(wrap64 (64 - a2))=j_:=⟨_,rfl⟩
  replace H:(if 0≤(ji9) then (some ((shl .u64 a1 (ji9)) == 0)) else (none))=some r:=by first|(rw [l9] at H;exact H)|(simp only [l9] at H ⊢;exact H)
  have aAe:(IntKind.i64.wrap (64 - a2))=ji9:=(bZ _).trans l9
  by_cases c10:0≤(ji9)
  ·rw [if_pos c10] at H
   have pR:=eq_true c10
   have aqA:=decide_eq_true c10
   clear c10
   obtain ⟨ac8,yS⟩:∃ j_:Int,(shl .u64 a1 (ji9))=j_:=⟨_,rfl⟩
   replace H:(some ((ac8) == 0))=some r:=by first|(rw [yS] at H;exact H)|(simp only [yS] at H ⊢;exact H)
   have asE:(IntKind.u64.wrap (a1*2 ^ min (ji9).toNat 64))=ac8:=yS
   have asF:(ji9)≤64→(IntKind.u64.wrap (a1*2 ^ (ji9).toNat))=ac8:=xR yS
   obtain rfl:=Option.some.inj H
   go_enter Tryz.func189,Tryz.ntmps189
   go_wp2
   go_ret
   exact ⟨by first|rfl|(simp;done)|(simp only [← l9,← yS] <;> (first|rfl|simp))|(simp [*];done),zW⟩
  ·rw [if_neg c10] at H
   exact absurd H (by simp)
end Go.Proofs.YtpondkggmcmpfaaGreatDoor.QA
