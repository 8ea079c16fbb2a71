/- Joined by wip/tools/bundle.py out of: S06P S06W QAx5 QAx6 QAx7 QAx8. -/
import Derived.Sort.Defs
import Derived.Sort.Row
import Derived.Sort.WalkC
import Derived.Test.YtpondkggmcmpfaaGreatDoorProg
import Derived.Shelf.SlSortCmp.Kit1
import Derived.Sort.WalkA
import Derived.Sort.WalkB2
import Derived.Sort.WalkB12
import Derived.Deep.LoopGhost
import Derived.KernelRfl
import Derived.Test.YtpondkggmcmpfaaGreatDoorBOpAll0
import Derived.Test.YtpondkggmcmpfaaGreatDoorBOpAll1
namespace Go.Proofs.YtpondkggmcmpfaaGreatDoor.S
open Go.Sort
variable {α:Type} [Inhabited α]
set_option linter.unusedVariables false
set_option linter.unusedSectionVars false
theorem swp_size (d:Array α) (i j:Nat):(swp d i j).size=d.size:=by unfold swp;simp
theorem swp_get (d:Array α) {i j:Nat} (hi:i < d.size) (hj:j < d.size) (k:Nat):(swp d i j)[k]! = if k=j then d[i]! else if k=i then d[j]! else d[k]! := by
  unfold swp
  by_cases h:k=j
  · subst h;rw [if_pos rfl,getElem!_set_same _ _ _ (by simpa using hj)]
  · rw [if_neg h,getElem!_set_other _ _ _ _ h]
    by_cases g:k=i
    · subst g;rw [if_pos rfl,getElem!_set_same _ _ _ hi]
    · rw [if_neg g,getElem!_set_other _ _ _ _ g]
def lK (d:Array α) (a b:Nat):Nat→Array α
  | 0=>d
  | n+1=>swp (lK d a b n) (a+n) (b+n)
theorem kP (d:Array α) (a b:Nat):∀ n,(lK d a b n).size=d.size
  | 0=>rfl
  | n+1=>by rw [lK,swp_size,kP d a b n]
theorem aby (d:Array α) (a b:Nat):∀ n,a+n≤b→b+n≤d.size→∀ k,(lK d a b n)[k]! = if a≤k∧k < a+n then d[k - a+b]! else if b≤k∧k < b+n then d[k - b+a]! else d[k]! := by
  intro n
  induction n with
  | zero=>intro h1 h2 k;rw [if_neg (by omega),if_neg (by omega)];rfl
  | succ n ih =>
    intro h1 h2 k
    have hz:=kP d a b n
    rw [lK,swp_get _ (by omega) (by omega)]
    have i1:=ih (by omega) (by omega)
    by_cases c1:k=b+n
    · rw [if_pos c1,i1,if_neg (by omega),if_neg (by omega),if_neg (by omega),if_pos (by omega)]
      exact congrArg (fun q=>d[q]!) (by omega)
    rw [if_neg c1]
    by_cases c2:k=a+n
    · rw [if_pos c2,i1,if_neg (by omega),if_neg (by omega),if_pos (by omega)]
      exact congrArg (fun q=>d[q]!) (by omega)
    rw [if_neg c2,i1]
    by_cases c3:a≤k∧k < a+n
    · rw [if_pos c3,if_pos (by omega)]
    rw [if_neg c3,if_neg (show ¬ (a≤k∧k < a+(n+1)) from by omega)]
    by_cases c4:b≤k∧k < b+n
    · rw [if_pos c4,if_pos (by omega)]
    rw [if_neg c4,if_neg (by omega)]
def lY (m:Nat):Nat→Array α→Nat→Nat→Array α
  | 0,d,i,_=>lK d (m - i) m i
  | f+1,d,i,j=>if i=j then lK d (m - i) m i else if j < i then lY m f (lK d (m - i) m j) (i - j) j else lY m f (lK d (m - i) (m+j - i) i) i (j - i)
theorem akt (m:Nat):∀ f (d:Array α) i j,(lY m f d i j).size=d.size:=by
  intro f
  induction f with
  | zero=>intro d i j;exact kP _ _ _ _
  | succ f ih =>
    intro d i j
    rw [lY]
    split
    · exact kP _ _ _ _
    · split
      · rw [ih,kP]
      · rw [ih,kP]
theorem aff (m:Nat):∀ f (d:Array α) i j,i+j≤f+1→1≤i→1≤j→i≤m→m+j≤d.size→∀ k,(lY m f d i j)[k]! = if m - i≤k∧k < m - i+j then d[k+i]! else if m - i+j≤k∧k < m+j then d[k - j]! else d[k]! := by
  intro f
  induction f with
  | zero=>intro d i j hf hi hj;omega
  | succ f ih =>
    intro d i j hf hi hj him hmj k
    rw [lY]
    by_cases c:i=j
    · subst c
      rw [if_pos rfl,aby _ _ _ _ (by omega) (by omega)]
      by_cases c1:m - i≤k∧k < m - i+i
      · rw [if_pos c1,if_pos c1];exact congrArg (fun q=>d[q]!) (by omega)
      rw [if_neg c1,if_neg c1]
      by_cases c2:m≤k∧k < m+i
      · rw [if_pos c2,if_pos (by omega)];exact congrArg (fun q=>d[q]!) (by omega)
      rw [if_neg c2,if_neg (by omega)]
    rw [if_neg c]
    by_cases c0:j < i
    · rw [if_pos c0,ih _ _ _ (by omega) (by omega) hj (by omega) (by rw [kP];omega)]
      have g:=aby d (m - i) m j (by omega) (by omega)
      by_cases c1:m - (i - j)≤k∧k < m - (i - j)+j
      · rw [if_pos c1,g,if_neg (show ¬ (m - i≤k+(i - j)∧k+(i - j) < m - i+j) from by omega),if_pos (show m≤k+(i - j)∧k+(i - j) < m+j from by omega),
          if_neg (show ¬ (m - i≤k∧k < m - i+j) from by omega),if_pos (show m - i+j≤k∧k < m+j from by omega)]
        exact congrArg (fun q=>d[q]!) (by omega)
      rw [if_neg c1]
      by_cases c2:m - (i - j)+j≤k∧k < m+j
      · rw [if_pos c2,g,if_neg (show ¬ (m - i≤k - j∧k - j < m - i+j) from by omega),if_neg (show ¬ (m≤k - j∧k - j < m+j) from by omega),
          if_neg (show ¬ (m - i≤k∧k < m - i+j) from by omega),if_pos (show m - i+j≤k∧k < m+j from by omega)]
      rw [if_neg c2,g]
      by_cases c3:m - i≤k∧k < m - i+j
      · rw [if_pos c3,if_pos c3];exact congrArg (fun q=>d[q]!) (by omega)
      rw [if_neg c3,if_neg c3,if_neg (show ¬ (m≤k∧k < m+j) from by omega),if_neg (show ¬ (m - i+j≤k∧k < m+j) from by omega)]
    · rw [if_neg c0,ih _ _ _ (by omega) hi (by omega) (by omega) (by rw [kP];omega)]
      have g:=aby d (m - i) (m+j - i) i (by omega) (by omega)
      by_cases c1:m - i≤k∧k < m - i+(j - i)
      · rw [if_pos c1,g,if_neg (show ¬ (m - i≤k+i∧k+i < m - i+i) from by omega),if_neg (show ¬ (m+j - i≤k+i∧k+i < m+j - i+i) from by omega),if_pos (show m - i≤k∧k < m - i+j from by omega)]
      rw [if_neg c1]
      by_cases c2:m - i+(j - i)≤k∧k < m+(j - i)
      · rw [if_pos c2,g,if_pos (show m - i≤k - (j - i)∧k - (j - i) < m - i+i from by omega),if_pos (show m - i≤k∧k < m - i+j from by omega)]
        exact congrArg (fun q=>d[q]!) (by omega)
      rw [if_neg c2,g]
      by_cases c4:m - i+j≤k∧k < m+j
      · rw [if_neg (show ¬ (m - i≤k∧k < m - i+i) from by omega),if_pos (show m+j - i≤k∧k < m+j - i+i from by omega),if_neg (show ¬ (m - i≤k∧k < m - i+j) from by omega),if_pos c4]
        exact congrArg (fun q=>d[q]!) (by omega)
      rw [if_neg (show ¬ (m - i≤k∧k < m - i+i) from by omega),if_neg (show ¬ (m+j - i≤k∧k < m+j - i+i) from by omega),if_neg (show ¬ (m - i≤k∧k < m - i+j) from by omega),if_neg c4]
def Lx (key:α→Int) (idx:α→Nat) (x y:α):Prop:=key y < key x∨key x=key y∧idx x < idx y
theorem Lx.trans {key:α→Int} {idx:α→Nat} {x y z:α} (h:Lx key idx x y) (g:Lx key idx y z):Lx key idx x z:=by
  unfold Lx at *;omega
def Srt (key:α→Int) (idx:α→Nat) (d:Array α) (a b:Nat):Prop:=∀ i j,a≤i→i < j→j < b→Lx key idx d[i]! d[j]!
def Sam (d d':Array α) (a b:Nat):Prop:=d'.size=d.size∧(∀ k,k < a∨b≤k→d'[k]! = d[k]!)∧(∀ k,a≤k→k < b→∃ l,a≤l∧l < b∧d'[k]! = d[l]!)∧(∀ k,a≤k→k < b→∃ l,a≤l∧l < b∧d[k]! = d'[l]!)
theorem Sam.refl (d:Array α) (a b:Nat):Sam d d a b:=⟨rfl,fun _ _=>rfl,fun k h1 h2=>⟨k,h1,h2,rfl⟩,fun k h1 h2=>⟨k,h1,h2,rfl⟩⟩
theorem Sam.trans {d d' d'':Array α} {a b:Nat} (h:Sam d d' a b) (g:Sam d' d'' a b):Sam d d'' a b:=by
  obtain ⟨h1,h2,h3,h4⟩:=h
  obtain ⟨g1,g2,g3,g4⟩:=g
  refine ⟨g1.trans h1,fun k hk=>(g2 k hk).trans (h2 k hk),fun k a1 a2 => ?_,fun k a1 a2 => ?_⟩
  · obtain ⟨l,l1,l2,l3⟩:=g3 k a1 a2
    obtain ⟨m,m1,m2,m3⟩:=h3 l l1 l2
    exact ⟨m,m1,m2,l3.trans m3⟩
  · obtain ⟨l,l1,l2,l3⟩:=h4 k a1 a2
    obtain ⟨m,m1,m2,m3⟩:=g4 l l1 l2
    exact ⟨m,m1,m2,l3.trans m3⟩
theorem Sam.wide {d d':Array α} {a b c e:Nat} (h:Sam d d' a b) (hc:c≤a) (he:b≤e):Sam d d' c e:=by
  obtain ⟨h1,h2,h3,h4⟩:=h
  refine ⟨h1,fun k hk=>h2 k (by omega),fun k a1 a2 => ?_,fun k a1 a2 => ?_⟩
  · by_cases c1:a≤k∧k < b
    · obtain ⟨l,l1,l2,l3⟩:=h3 k c1.1 c1.2;exact ⟨l,by omega,by omega,l3⟩
    · exact ⟨k,a1,a2,h2 k (by omega)⟩
  · by_cases c1:a≤k∧k < b
    · obtain ⟨l,l1,l2,l3⟩:=h4 k c1.1 c1.2;exact ⟨l,by omega,by omega,l3⟩
    · exact ⟨k,a1,a2,(h2 k (by omega)).symm⟩
theorem Sam.srt {key:α→Int} {idx:α→Nat} {d d':Array α} {a b c e:Nat} (h:Sam d d' a b) (hs:Srt key idx d c e) (hd:e≤a∨b≤c):Srt key idx d' c e:=by
  intro i j h1 h2 h3
  rw [h.2.1 i (by omega),h.2.1 j (by omega)];exact hs i j h1 h2 h3
theorem Sam.swp {d:Array α} {a b i j:Nat} (hi:a≤i∧i < b) (hj:a≤j∧j < b) (hb:b≤d.size):Sam d (swp d i j) a b:=by
  have g:=swp_get d (i:=i) (j:=j) (by omega) (by omega)
  refine ⟨swp_size _ _ _,fun k hk => ?_,fun k a1 a2 => ?_,fun k a1 a2 => ?_⟩
  · rw [g,if_neg (by omega),if_neg (by omega)]
  · rw [g]
    by_cases c:k=j
    · rw [if_pos c];exact ⟨i,hi.1,hi.2,rfl⟩
    · rw [if_neg c]
      by_cases c2:k=i
      · rw [if_pos c2];exact ⟨j,hj.1,hj.2,rfl⟩
      · rw [if_neg c2];exact ⟨k,a1,a2,rfl⟩
  · by_cases c:k=i
    · subst c;exact ⟨j,hj.1,hj.2,by rw [g,if_pos rfl]⟩
    · by_cases c2:k=j
      · subst c2
        refine ⟨i,hi.1,hi.2,?_⟩
        rw [g,if_neg (by omega),if_pos rfl]
      · exact ⟨k,a1,a2,by rw [g,if_neg c2,if_neg c]⟩
theorem Sam.rot {d:Array α} {m i j:Nat} (hi:1≤i) (hj:1≤j) (him:i≤m) (hmj:m+j≤d.size):Sam d (lY m (i+j) d i j) (m - i) (m+j):=by
  have g:=aff m (i+j) d i j (by omega) hi hj him hmj
  refine ⟨akt _ _ _ _ _,fun k hk => ?_,fun k a1 a2 => ?_,fun k a1 a2 => ?_⟩
  · rw [g,if_neg (by omega),if_neg (by omega)]
  · rw [g]
    by_cases c:m - i≤k∧k < m - i+j
    · rw [if_pos c];exact ⟨k+i,by omega,by omega,rfl⟩
    · rw [if_neg c,if_pos (by omega)];exact ⟨k - j,by omega,by omega,rfl⟩
  · by_cases c:k < m
    · refine ⟨k+j,by omega,by omega,?_⟩
      rw [g,if_neg (by omega),if_pos (by omega)];exact congrArg (fun q=>d[q]!) (by omega)
    · refine ⟨k - i,by omega,by omega,?_⟩
      rw [g,if_pos (by omega)];exact congrArg (fun q=>d[q]!) (by omega)
def Mrg (key:α→Int) (idx:α→Nat) (d:Array α) (a m b:Nat):Prop :=
  Srt key idx d a m∧Srt key idx d m b∧(∀ i j,a≤i→i < m→m≤j→j < b→idx d[i]! < idx d[j]!)
theorem abZ {key:α→Int} {idx:α→Nat} {x y:α} (h:idx x < idx y):(key x < key y↔Lx key idx y x)∧(¬ key x < key y↔Lx key idx x y):=by
  unfold Lx;omega
theorem Srt.join {key:α→Int} {idx:α→Nat} {d:Array α} {a m b:Nat} (h1:Srt key idx d a m) (h2:Srt key idx d m b) (h:∀ i j,a≤i→i < m→m≤j→j < b→Lx key idx d[i]! d[j]!):Srt key idx d a b:=by
  intro i j hi hij hj
  by_cases c:j < m
  · exact h1 i j hi hij c
  · by_cases c2:m≤i
    · exact h2 i j c2 hij hj
    · exact h i j hi (by omega) (by omega) hj
def yR (a:Nat):Nat→Array α→Array α
  | 0,d=>d
  | n+1,d=>swp (yR a n d) (a+n) (a+n+1)
theorem ab1 (a:Nat):∀ n (d:Array α),(yR a n d).size=d.size
  | 0,_=>rfl
  | n+1,d=>by rw [yR,swp_size,ab1 a n d]
theorem apz (a:Nat) (d:Array α):∀ n,a+n < d.size→∀ k,(yR a n d)[k]! = if a≤k∧k < a+n then d[k+1]! else if k=a+n then d[a]! else d[k]! := by
  intro n
  induction n with
  | zero =>
    intro h k
    rw [if_neg (by omega)]
    by_cases c:k=a+0
    · rw [if_pos c];subst c;rfl
    · rw [if_neg c];rfl
  | succ n ih =>
    intro h k
    have hz:=ab1 a n d
    have i1:=ih (by omega)
    rw [yR,swp_get _ (by omega) (by omega)]
    by_cases c1:k=a+n+1
    · rw [if_pos c1,i1,if_neg (by omega),if_pos rfl,if_neg (by omega),if_pos (by omega)]
    rw [if_neg c1]
    by_cases c2:k=a+n
    · rw [if_pos c2,i1,if_neg (by omega),if_neg (by omega),if_pos (by omega)];exact congrArg (fun q=>d[q]!) (by omega)
    rw [if_neg c2,i1]
    by_cases c3:a≤k∧k < a+n
    · rw [if_pos c3,if_pos (by omega)]
    rw [if_neg c3,if_neg (by omega),if_neg (by omega),if_neg (by omega)]
def yS (m:Nat):Nat→Array α→Array α
  | 0,d=>d
  | n+1,d=>swp (yS m n d) (m - n) (m - n - 1)
theorem ab3 (m:Nat):∀ n (d:Array α),(yS m n d).size=d.size
  | 0,_=>rfl
  | n+1,d=>by rw [yS,swp_size,ab3 m n d]
theorem apA (m:Nat) (d:Array α) (hm:m < d.size):∀ n,n≤m→∀ k,(yS m n d)[k]! = if m - n < k∧k≤m then d[k - 1]! else if k=m - n then d[m]! else d[k]! := by
  intro n
  induction n with
  | zero =>
    intro h k
    rw [if_neg (by omega)]
    by_cases c:k=m - 0
    · rw [if_pos c];subst c;rfl
    · rw [if_neg c];rfl
  | succ n ih =>
    intro h k
    have hz:=ab3 m n d
    have i1:=ih (by omega)
    rw [yS,swp_get _ (by omega) (by omega)]
    by_cases c1:k=m - n - 1
    · rw [if_pos c1,i1,if_neg (by omega),if_pos rfl,if_neg (by omega),if_pos (by omega)]
    rw [if_neg c1]
    by_cases c2:k=m - n
    · rw [if_pos c2,i1,if_neg (by omega),if_neg (by omega),if_pos (by omega)];exact congrArg (fun q=>d[q]!) (by omega)
    rw [if_neg c2,i1]
    by_cases c3:m - n < k∧k≤m
    · rw [if_pos c3,if_pos (by omega)]
    rw [if_neg c3,if_neg (by omega),if_neg (by omega),if_neg (by omega)]
theorem Sam.yR {d:Array α} {a n b:Nat} (hn:a+n < b) (hb:b≤d.size):∀ q,q≤n→Sam d (yR a q d) a b
  | 0,_=>Sam.refl _ _ _
  | q+1,h=>(Sam.yR hn hb q (by omega)).trans (Sam.swp ⟨by omega,by omega⟩ ⟨by omega,by omega⟩ (by rw [ab1];exact hb))
theorem Sam.yS {d:Array α} {a m n b:Nat} (hn:a+n≤m) (hm:m < b) (hb:b≤d.size):∀ q,q≤n→Sam d (yS m q d) a b
  | 0,_=>Sam.refl _ _ _
  | q+1,h=>(Sam.yS hn hm hb q (by omega)).trans (Sam.swp ⟨by omega,by omega⟩ ⟨by omega,by omega⟩ (by rw [ab3];exact hb))
theorem anR {key:α→Int} {idx:α→Nat} {d:Array α} {a b i:Nat} (hM:Mrg key idx d a (a+1) b) (hb:b≤d.size) (hi:a+1≤i∧i≤b)
    (h1:i=a+1∨Lx key idx d[i - 1]! d[a]!) (h2:i=b∨Lx key idx d[a]! d[i]!):Srt key idx (yR a (i - 1 - a) d) a b:=by
  obtain ⟨_,s2,_⟩:=hM
  have g:=apz a d (i - 1 - a) (by omega)
  have lo:∀ k,a+1≤k→k < i→Lx key idx d[k]! d[a]! := by
    intro k k1 k2
    rcases h1 with h|h
    · omega
    · by_cases c:k=i - 1
      · subst c;exact h
      · exact (s2 k (i - 1) k1 (by omega) (by omega)).trans h
  have hi2:∀ k,i≤k→k < b→Lx key idx d[a]! d[k]! := by
    intro k k1 k2
    rcases h2 with h|h
    · omega
    · by_cases c:k=i
      · subst c;exact h
      · exact h.trans (s2 i k (by omega) (by omega) k2)
  intro p q hp hpq hq
  rw [g,g]
  by_cases c1:a≤p∧p < a+(i - 1 - a)
  · rw [if_pos c1]
    by_cases c2:a≤q∧q < a+(i - 1 - a)
    · rw [if_pos c2];exact s2 _ _ (by omega) (by omega) (by omega)
    · rw [if_neg c2]
      by_cases c3:q=a+(i - 1 - a)
      · rw [if_pos c3];exact lo _ (by omega) (by omega)
      · rw [if_neg c3];exact s2 _ _ (by omega) (by omega) (by omega)
  · rw [if_neg c1,if_neg (show ¬ (a≤q∧q < a+(i - 1 - a)) from by omega),if_neg (show ¬ q=a+(i - 1 - a) from by omega)]
    by_cases c3:p=a+(i - 1 - a)
    · rw [if_pos c3];exact hi2 _ (by omega) hq
    · rw [if_neg c3];exact s2 _ _ (by omega) (by omega) hq
theorem apB {key:α→Int} {idx:α→Nat} {d:Array α} {a m i:Nat} (hM:Mrg key idx d a m (m+1)) (hb:m+1≤d.size) (hi:a≤i∧i≤m)
    (h1:i=a∨Lx key idx d[i - 1]! d[m]!) (h2:i=m∨Lx key idx d[m]! d[i]!):Srt key idx (yS m (m - i) d) a (m+1):=by
  obtain ⟨s1,_,_⟩:=hM
  have g:=apA m d (by omega) (m - i) (by omega)
  have lo:∀ k,a≤k→k < i→Lx key idx d[k]! d[m]! := by
    intro k k1 k2
    rcases h1 with h|h
    · omega
    · by_cases c:k=i - 1
      · subst c;exact h
      · exact (s1 k (i - 1) k1 (by omega) (by omega)).trans h
  have hi2:∀ k,i≤k→k < m→Lx key idx d[m]! d[k]! := by
    intro k k1 k2
    rcases h2 with h|h
    · omega
    · by_cases c:k=i
      · subst c;exact h
      · exact h.trans (s1 i k (by omega) (by omega) k2)
  intro p q hp hpq hq
  rw [g,g]
  by_cases c1:m - (m - i) < p∧p≤m
  · rw [if_pos c1,if_pos (by omega)];exact s1 _ _ (by omega) (by omega) (by omega)
  · rw [if_neg c1]
    by_cases c3:p=m - (m - i)
    · rw [if_pos c3,if_pos (by omega)];exact hi2 _ (by omega) (by omega)
    · rw [if_neg c3]
      by_cases c2:m - (m - i) < q∧q≤m
      · rw [if_pos c2];exact s1 _ _ (by omega) (by omega) (by omega)
      · rw [if_neg c2]
        by_cases c4:q=m - (m - i)
        · rw [if_pos c4];exact lo _ hp (by omega)
        · rw [if_neg c4];exact s1 _ _ (by omega) (by omega) (by omega)
theorem turned {key:α→Int} {idx:α→Nat} {d d':Array α} {a m b mid s e:Nat} (hM:Mrg key idx d a m b) (ha:a≤s∧s≤m) (he:m≤e∧e≤b) (hse:s+e=m+mid) (hb:b≤d.size)
    (hmid:a≤mid∧mid≤b) (h1:s=a∨e=b∨Lx key idx d[s - 1]! d[e]!) (h2:s=m∨e=m∨Lx key idx d[e - 1]! d[s]!)
    (hd:(s < m∧m < e∧d'=lY m (m - s+(e - m)) d (m - s) (e - m))∨((s=m∨e=m)∧d'=d)) :
    Sam d d' a b∧Mrg key idx d' a s mid∧Mrg key idx d' mid e b∧∀ i j,a≤i→i < mid→mid≤j→j < b→Lx key idx d'[i]! d'[j]! := by
  obtain ⟨s1,s2,s3⟩:=hM
  have A1:∀ k l,a≤k→k < s→e≤l→l < b→Lx key idx d[k]! d[l]! := by
    intro k l k1 k2 l1 l2
    rcases h1 with h|h|h
    · omega
    · omega
    · have x:Lx key idx d[k]! d[e]! := by
        by_cases c:k=s - 1
        · subst c;exact h
        · exact (s1 k (s - 1) k1 (by omega) (by omega)).trans h
      by_cases c:l=e
      · subst c;exact x
      · exact x.trans (s2 e l (by omega) (by omega) l2)
  have A2:∀ k l,m≤k→k < e→s≤l→l < m→Lx key idx d[k]! d[l]! := by
    intro k l k1 k2 l1 l2
    rcases h2 with h|h|h
    · omega
    · omega
    · have x:Lx key idx d[k]! d[s]! := by
        by_cases c:k=e - 1
        · subst c;exact h
        · exact (s2 k (e - 1) k1 (by omega) (by omega)).trans h
      by_cases c:l=s
      · subst c;exact x
      · exact x.trans (s1 s l (by omega) (by omega) l2)
  have G:Sam d d' a b∧∀ k,d'[k]! = if s≤k∧k < mid then d[k+m - s]! else if mid≤k∧k < e then d[k+s - mid]! else d[k]! := by
    rcases hd with ⟨c1,c2,rfl⟩|⟨c1,rfl⟩
    · have g:=aff m (m - s+(e - m)) d (m - s) (e - m) (by omega) (by omega) (by omega) (by omega) (by omega)
      refine ⟨(Sam.rot (d:=d) (m:=m) (i:=m - s) (j:=e - m) (by omega) (by omega) (by omega) (by omega)).wide (by omega) (by omega),fun k => ?_⟩
      rw [g]
      by_cases x1:s≤k∧k < mid
      · rw [if_pos x1,if_pos (by omega)];exact congrArg (fun q=>d[q]!) (by omega)
      rw [if_neg x1,if_neg (by omega)]
      by_cases x2:mid≤k∧k < e
      · rw [if_pos x2,if_pos (by omega)];exact congrArg (fun q=>d[q]!) (by omega)
      rw [if_neg x2,if_neg (by omega)]
    · refine ⟨Sam.refl _ _ _,fun k => ?_⟩
      by_cases x1:s≤k∧k < mid
      · rw [if_pos x1];exact congrArg (fun q=>d'[q]!) (by omega)
      rw [if_neg x1]
      by_cases x2:mid≤k∧k < e
      · rw [if_pos x2];exact congrArg (fun q=>d'[q]!) (by omega)
      rw [if_neg x2]
  obtain ⟨GS,g⟩:=G
  have p1:∀ k,a≤k→k < s→d'[k]! = d[k]! := fun k k1 k2=>by rw [g,if_neg (by omega),if_neg (by omega)]
  have p2:∀ k,s≤k→k < mid→d'[k]! = d[k+m - s]! := fun k k1 k2=>by rw [g,if_pos (by omega)]
  have p3:∀ k,mid≤k→k < e→d'[k]! = d[k+s - mid]! := fun k k1 k2=>by rw [g,if_neg (by omega),if_pos (by omega)]
  have p4:∀ k,e≤k→k < b→d'[k]! = d[k]! := fun k k1 k2=>by rw [g,if_neg (by omega),if_neg (by omega)]
  refine ⟨GS,⟨?_,?_,?_⟩,⟨?_,?_,?_⟩,?_⟩
  · intro i j i1 i2 i3;rw [p1 i i1 (by omega),p1 j (by omega) i3];exact s1 i j i1 i2 (by omega)
  · intro i j i1 i2 i3;rw [p2 i i1 (by omega),p2 j (by omega) i3];exact s2 _ _ (by omega) (by omega) (by omega)
  · intro i j i1 i2 i3 i4;rw [p1 i i1 i2,p2 j i3 i4];exact s3 _ _ i1 (by omega) (by omega) (by omega)
  · intro i j i1 i2 i3;rw [p3 i i1 (by omega),p3 j (by omega) i3];exact s1 _ _ (by omega) (by omega) (by omega)
  · intro i j i1 i2 i3;rw [p4 i i1 (by omega),p4 j (by omega) i3];exact s2 _ _ (by omega) (by omega) (by omega)
  · intro i j i1 i2 i3 i4;rw [p3 i i1 i2,p4 j i3 i4];exact s3 _ _ (by omega) (by omega) (by omega) (by omega)
  · intro i j i1 i2 i3 i4
    by_cases x1:i < s
    · rw [p1 i i1 x1]
      by_cases x2:j < e
      · rw [p3 j i3 x2];exact s1 _ _ i1 (by omega) (by omega)
      · rw [p4 j (by omega) i4];exact A1 _ _ i1 x1 (by omega) i4
    · rw [p2 i (by omega) i2]
      by_cases x2:j < e
      · rw [p3 j i3 x2];exact A2 _ _ (by omega) (by omega) (by omega) (by omega)
      · rw [p4 j (by omega) i4];exact s2 _ _ (by omega) (by omega) i4
theorem Mrg.asU {key:α→Int} {idx:α→Nat} {d d':Array α} {a m b c e:Nat} (h:Mrg key idx d a m b) (g:Sam d d' c e) (hm:a≤m∧m≤b) (hd:b≤c∨e≤a):Mrg key idx d' a m b:=by
  obtain ⟨s1,s2,s3⟩:=h
  have q:∀ k,a≤k→k < b→d'[k]! = d[k]! := fun k k1 k2=>g.2.1 k (by omega)
  refine ⟨fun i j i1 i2 i3 => ?_,fun i j i1 i2 i3 => ?_,fun i j i1 i2 i3 i4 => ?_⟩
  · rw [q i i1 (by omega),q j (by omega) (by omega)];exact s1 i j i1 i2 i3
  · rw [q i (by omega) (by omega),q j (by omega) i3];exact s2 i j i1 i2 i3
  · rw [q i i1 (by omega),q j (by omega) i4];exact s3 i j i1 i2 i3 i4
end Go.Proofs.YtpondkggmcmpfaaGreatDoor.S
namespace Go.Proofs.YtpondkggmcmpfaaGreatDoor.S
open Go.Shelf Go.RowKit Go.Lib Go.Sort
set_option linter.unusedVariables false
variable {α:Type} [Inhabited α]
set_option maxHeartbeats 4000000 in
set_option maxRecDepth 1000000 in
theorem acj (enc:α→Value) (g:Nat) (cb:Array Value) (blk off cap a b n:Nat) (d0 d:Array α) (w0 w:World)
    (R:Row1 enc w0 blk off d0) (hs:d0.size=d.size) (S:SW enc w0 blk off d w) (ha:a+n≤d.size) (hb:b+n≤d.size) (hsz:d.size < 4611686018427387904) :
    Calls Tryz.prog 192 #[.slice (some ⟨blk,off,none⟩) d.size cap,.int .i64 a,.int .i64 b,.int .i64 n,.func (.func g) #[] cb] w fun e w'=>e = .returned (.tuple #[])∧SW enc w0 blk off (lK d a b n) w':=by
  have mixed:Tryz.prog.follows .mixedOrders=true:=by kernel_rfl
  have hcl0:=R.hO.cells
  simp only [Value.cells] at hcl0
  have hst:=R.hO.store Tryz.prog
  have S0:Aside (SW enc w0 blk off d w):=S
  clear S
  go_enter Tryz.func192,Tryz.ntmps192
  go_wp2
  go_loopg [10] n (fun kx s10 wr=>∃ (i:Nat),s10 = .int .i64 i∧i≤n∧n - i≤kx∧Aside (SW enc w0 blk off (lK d a b i) wr))
  case atStart=>exact ⟨0,rfl,by omega,by omega,S0⟩
  case round =>
    clear S0
    obtain ⟨i,rfl,hin,hkx,S1⟩:=hrel
    have hds:(lK d a b i).size=d.size:=kP _ _ _ _
    obtain ⟨dk,hdk⟩:∃ dk,dk=lK d a b i:=⟨_,rfl⟩
    rw [← hdk] at S1 hds
    by_cases hlt:(i:Int) < (n:Int)
    · go_wp2_with fail
      obtain ⟨iN,hiN⟩:∃ q,q=a+i:=⟨_,rfl⟩
      obtain ⟨jN,hjN⟩:∃ q,q=b+i:=⟨_,rfl⟩
      have ea:((a:Int)+(i:Int)).toNat=iN:=by omega
      have pa:(0:Int)≤(a:Int)+(i:Int):=by omega
      have ba:(a:Int)+(i:Int) < (d.size:Int):=by omega
      have ra:IntKind.i64.wrap ((a:Int)+(i:Int))=(a:Int)+(i:Int):=by rw [IntKind.wrap_i64];omega
      have ec:((b:Int)+(i:Int)).toNat=jN:=by omega
      have pc:(0:Int)≤(b:Int)+(i:Int):=by omega
      have bc:(b:Int)+(i:Int) < (d.size:Int):=by omega
      have rc:IntKind.i64.wrap ((b:Int)+(i:Int))=(b:Int)+(i:Int):=by rw [IntKind.wrap_i64];omega
      obtain ⟨x,hx⟩:∃ x,x=dk[a+i]! := ⟨_,rfl⟩
      obtain ⟨y,hy⟩:∃ x,x=dk[b+i]! := ⟨_,rfl⟩
      have S2:Aside (SW enc w0 blk off (swp dk (a+i) (b+i)) ((wr.setCell ⟨blk,off+iN,none⟩ (enc y)).setCell ⟨blk,off+jN,none⟩ (enc x)).drew):=by rw [hiN,hjN,hx,hy];exact S1.out.swapped R (a+i) (b+i) (by omega) (by omega)
      have c1a:=S1.out.c1 R (by omega) (a+i) (by omega)
      have c1b:=S1.out.c1 R (by omega) (b+i) (by omega)
      have f1a:=S1.out.f1 R (by omega) (a+i) (by omega)
      have f1b:=S1.out.f1 R (by omega) (b+i) (by omega)
      obtain ⟨u,c1c⟩:=S1.out.c2 R (by omega) (a+i) (b+i) (by omega) (by omega) (enc y)
      rw [← hjN,← hiN] at c1c
      rw [← hx,← hiN] at c1a
      rw [← hy,← hjN] at c1b
      rw [← hiN] at f1a
      rw [← hjN] at f1b
      clear S1 hx hy hiN hjN
      go_wp2_with fail
      go_big_region_o
      clear c1a c1b c1c f1a f1b
      generalize ((wr.setCell ⟨blk,off+iN,none⟩ (enc y)).setCell ⟨blk,off+jN,none⟩ (enc x)).drew=w2 at S2 ⊢
      clear ea ec
      go_wp2
      go_roundg (n - (i+1))
      case measure=>omega
      case rel=>exact ⟨i+1,by simp,by omega,Nat.le_refl _,by rw [lK,← hdk];exact S2⟩
    · go_wp2
      go_end0
      have:i=n:=by omega
      subst this
      exact ⟨rfl,by rw [← hdk];exact S1.out⟩
set_option maxHeartbeats 4000000 in
set_option maxRecDepth 1000000 in
theorem apC (enc:α→Value) (g:Nat) (cb:Array Value) (blk off cap a m b:Nat) (d0 d:Array α) (w0 w:World)
    (R:Row1 enc w0 blk off d0) (hs:d0.size=d.size) (S:SW enc w0 blk off d w) (ha:a < m) (hm:m < b) (hb:b≤d.size) (hsz:d.size < 4611686018427387904) :
    Calls Tryz.prog 191 #[.slice (some ⟨blk,off,none⟩) d.size cap,.int .i64 a,.int .i64 m,.int .i64 b,.func (.func g) #[] cb] w fun e w'=>e = .returned (.tuple #[])∧SW enc w0 blk off (lY m (m - a+(b - m)) d (m - a) (b - m)) w':=by
  have mixed:Tryz.prog.follows .mixedOrders=true:=by kernel_rfl
  have hcl0:=R.hO.cells
  simp only [Value.cells] at hcl0
  have hst:=R.hO.store Tryz.prog
  have S0:Aside (SW enc w0 blk off d w):=S
  clear S
  have eSR:∀ args w,(callFunc 192 args).run Tryz.prog w = .ok (.enter 192 args) w:=enters_of Tryz.func192 (by kernel_rfl) rfl
  have e1:((m - a:Nat):Int)=(m:Int) - (a:Int):=by omega
  have e2:((b - m:Nat):Int)=(b:Int) - (m:Int):=by omega
  have n1:IntKind.i64.wrap ((m:Int) - (a:Int))=(m:Int) - (a:Int):=by rw [IntKind.wrap_i64];omega
  have n2:IntKind.i64.wrap ((b:Int) - (m:Int))=(b:Int) - (m:Int):=by rw [IntKind.wrap_i64];omega
  go_enter Tryz.func191,Tryz.ntmps191
  go_wp2
  go_loopg [10,11] (m - a+(b - m)) (fun kx s10 s11 wr=>∃ (i j:Nat) (dk:Array α),s10 = .int .i64 i∧s11 = .int .i64 j∧1≤i∧1≤j∧i≤m∧m+j≤d.size∧i+j≤kx+1∧dk.size=d.size∧Aside (SW enc w0 blk off dk wr) ∧
    Hid (lY m kx dk i j=lY m (m - a+(b - m)) d (m - a) (b - m)))
  case atStart=>exact ⟨m - a,b - m,d,by simp [e1],by simp [e2],by omega,by omega,by omega,by omega,by omega,rfl,S0,rfl⟩
  case round =>
    clear S0 n1 n2 e1 e2
    obtain ⟨i,j,dk,rfl,rfl,hi,hj,him,hmj,hkx,hds,S1,HE⟩:=hrel
    have zmi:((m - i:Nat):Int)=(m:Int) - (i:Int):=by omega
    have wmi:IntKind.i64.wrap ((m:Int) - (i:Int))=(m:Int) - (i:Int):=by rw [IntKind.wrap_i64];omega
    by_cases hij:i=j
    · subst hij
      have hneq:¬ ((i:Int)≠(i:Int)):=by omega
      have hcall:=acj enc g cb blk off cap (m - i) m i d0 dk w0 wr R (by omega) S1.out (by omega) (by omega) (by omega)
      rw [hds,zmi] at hcall
      have hend:lY m gk dk i i=lK dk (m - i) m i:=by
        cases gk with
        | zero=>rfl
        | succ f=>rw [lY,if_pos rfl]
      clear S1
      go_wp2_with (go_at_fn 192;refine hcall.mono ?_;rintro e w1 ⟨rfl,S3⟩)
      go_end0
      refine ⟨rfl,?_⟩
      rw [← HE.out,hend];exact S3
    · have hneq:¬ ((i:Int)=(j:Int)):=by omega
      cases gk with
      | zero=>omega
      | succ f =>
        by_cases hlt:j < i
        · have hgt:(j:Int) < (i:Int):=by omega
          have zij:((i - j:Nat):Int)=(i:Int) - (j:Int):=by omega
          have hcall:=acj enc g cb blk off cap (m - i) m j d0 dk w0 wr R (by omega) S1.out (by omega) (by omega) (by omega)
          rw [hds,zmi] at hcall
          have hstep:lY m (f+1) dk i j=lY m f (lK dk (m - i) m j) (i - j) j:=by rw [lY,if_neg hij,if_pos hlt]
          rw [hstep] at HE
          clear S1
          go_wp2_with (go_at_fn 192;refine hcall.mono ?_;rintro e w1 ⟨rfl,S3⟩)
          go_roundg f
          case measure=>omega
          case rel=>exact ⟨i - j,j,_,by first|rw [zij]|simp [zij],rfl,by omega,hj,by omega,hmj,by omega,by rw [kP];exact hds,S3,HE⟩
        · have hgt:¬ (j:Int) < (i:Int):=by omega
          have zji:((j - i:Nat):Int)=(j:Int) - (i:Int):=by omega
          have wmj:IntKind.i64.wrap ((m:Int)+(j:Int))=(m:Int)+(j:Int):=by rw [IntKind.wrap_i64];omega
          have aA2:IntKind.i64.wrap ((m:Int)+(j:Int) - (i:Int))=(m:Int)+(j:Int) - (i:Int):=by rw [IntKind.wrap_i64];omega
          have avW:((m+j - i:Nat):Int)=(m:Int)+(j:Int) - (i:Int):=by omega
          have hcall:=acj enc g cb blk off cap (m - i) (m+j - i) i d0 dk w0 wr R (by omega) S1.out (by omega) (by omega) (by omega)
          rw [hds,zmi,avW] at hcall
          have hstep:lY m (f+1) dk i j=lY m f (lK dk (m - i) (m+j - i) i) i (j - i):=by rw [lY,if_neg hij,if_neg hlt]
          rw [hstep] at HE
          clear S1
          go_wp2_with (go_at_fn 192;refine hcall.mono ?_;rintro e w1 ⟨rfl,S3⟩)
          go_roundg f
          case measure=>omega
          case rel=>exact ⟨i,j - i,_,rfl,by first|rw [zji]|simp [zji],hi,by omega,him,by omega,by omega,by rw [kP];exact hds,S3,HE⟩
end Go.Proofs.YtpondkggmcmpfaaGreatDoor.S
namespace Go.Proofs.YtpondkggmcmpfaaGreatDoor.QA
open Go.Proofs.YtpondkggmcmpfaaGreatDoor.T
open Go.RowKit Go.Proofs.YtpondkggmcmpfaaGreatDoorW.PrintWords Go.Proofs.YtpondkggmcmpfaaGreatDoorW.PrintLast Go.Proofs.YtpondkggmcmpfaaGreatDoorW.PrintMore
attribute [local go_sem] dZ dS dU fK fM
set_option linter.unusedVariables false
set_option linter.unusedSimpArgs false
def cO.j0:Nat→Int→Int→Bool→Bool→Option (Int)
 | 0,_,_,_,_=>none
 | k+1,x0,x1,x2,x7=>if x7=true then (some (-9223372036854775808)) else (if x2=true then (some (wrap64 (IntKind.u64.wrap (-x1)))) else (if x0 > 0 then (some 9223372036854775807) else (if x1 > 9223372036854775807 then (some 9223372036854775807) else (some (wrap64 (x1))))))
def cO.f (k:Nat) (a0 a1:Int) (a2:Bool):Option (Int):=if a2=true then (if a0 > 0 then (cO.j0 k a0 a1 a2 true) else (cO.j0 k a0 a1 a2 (decide (a1 > 9223372036854775808)))) else (cO.j0 k a0 a1 a2 false)
theorem cO.iU:∀ k,(∀ y0 y1 y2 y3,LeO (cO.j0 k y0 y1 y2 y3) (cO.j0 (k+1) y0 y1 y2 y3))
 | 0=>fun _ _ _ _ r h=>by simp [cO.j0] at h
 | k+1=>by
  have ih0:=cO.iU k
  ·intro y0 y1 y2 y3
   unfold cO.j0
   repeat' (with_reducible first|exact ih0 _ _ _ _|exact zM|refine LeO.ite ?_ ?_|refine LeO.bind ?_ (fun _ => ?_))
theorem cO.mono:∀ a0 a1 a2 k,LeO (cO.f k a0 a1 a2) (cO.f (k+1) a0 a1 a2):=by
 intro a0 a1 a2 k
 have ih0:=cO.iU k
 unfold cO.f
 repeat' (with_reducible first|exact ih0 _ _ _ _|exact zM|refine LeO.ite ?_ ?_|refine LeO.bind ?_ (fun _ => ?_))
set_option maxHeartbeats 8000000 in
set_option maxRecDepth 100000 in
theorem cO.calls (k:Nat) (a0 a1:Int) (a2:Bool) (r:Int) (w:World) (h:cO.f k a0 a1 a2=some r) :
  Calls Tryz.prog 156 #[.int .u64 a0,.int .u64 a1,.bool a2] w fun e w'=>e = .returned (.int .i64 r)∧dw w w':=by
 have H:=h
 clear h
 unfold cO.f at H
 have HC4:=aj.mk H
 clear H
 go_enter Tryz.func156,Tryz.ntmps156
 go_upto_region 1 with (fail)
 go_cut [7] (fun v7 wc=>∃ (kq:Nat) (yO:Bool),v7 = .bool yO∧aj (cO.j0 kq a0 a1 a2 yO=some r)∧aj (kq≤k)∧dw w wc)
 case first =>
  have H:=HC4.out
  clear HC4
  by_cases c5:a2=true
  ·subst c5
   rw [if_pos rfl] at H;try dsimp only at H
   by_cases c6:a0 > 0
   ·rw [if_pos c6] at H
    have gQ:=decide_eq_true c6
    clear c6
    (first|rw [gQ]|(simp only [bY,cZ];rw [gQ])|skip)
    have H':=aj.mk H
    clear H
    go_wp2
    go_meet
    case rel=>exact ⟨_,(true),zT,H',⟨by first|omega|exact Nat.le_refl _⟩,zW⟩
   ·rw [if_neg c6] at H
    have gQ:=decide_eq_false c6
    clear c6
    (first|rw [gQ]|(simp only [bY,cZ];rw [gQ])|skip)
    have H':=aj.mk H
    clear H
    go_wp2
    go_meet
    case rel=>exact ⟨_,(decide (a1 > 9223372036854775808)),zT,H',⟨by first|omega|exact Nat.le_refl _⟩,zW⟩
  ·replace c5:=Bool.eq_false_iff.mpr c5
   subst c5
   rw [if_neg (show ¬ (false=true) by decide)] at H;try dsimp only at H
   have H':=aj.mk H
   clear H
   go_wp2
   go_meet
   case rel=>exact ⟨_,(false),zT,H',⟨by first|omega|exact Nat.le_refl _⟩,zW⟩
 case rest =>
  clear HC4
  obtain ⟨kq,yO,rfl,HA,HJ3,⟨mc3,rfl⟩⟩:=hcut
  cases kq with
  | zero=>exact absurd HA.out (by simp [cO.j0])
  | succ kj3 =>
   have H:=HA.out
   clear HA
   simp only [cO.j0] at H
   by_cases c7:yO=true
   ·subst c7
    rw [if_pos rfl] at H;try dsimp only at H
    obtain rfl:=Option.some.inj H
    go_wp2
    go_ret
    exact ⟨zT,zW⟩
   ·replace c7:=Bool.eq_false_iff.mpr c7
    subst c7
    rw [if_neg (show ¬ (false=true) by decide)] at H;try dsimp only at H
    by_cases c8:a2=true
    ·subst c8
     rw [if_pos rfl] at H;try dsimp only at H
     obtain rfl:=Option.some.inj H
     go_wp2
     go_ret
     exact ⟨zT,zW⟩
    ·replace c8:=Bool.eq_false_iff.mpr c8
     subst c8
     rw [if_neg (show ¬ (false=true) by decide)] at H;try dsimp only at H
     by_cases c9:a0 > 0
     ·rw [if_pos c9] at H
      have pz:=decide_eq_true c9
      clear c9
      obtain rfl:=Option.some.inj H
      go_wp2
      go_ret
      exact ⟨zT,zW⟩
     ·rw [if_neg c9] at H
      have pz:=decide_eq_false c9
      clear c9
      by_cases c10:a1 > 9223372036854775807
      ·rw [if_pos c10] at H
       have pX:=decide_eq_true c10
       clear c10
       obtain rfl:=Option.some.inj H
       go_wp2
       go_ret
       exact ⟨zT,zW⟩
      ·rw [if_neg c10] at H
       have pX:=decide_eq_false c10
       clear c10
       obtain rfl:=Option.some.inj H
       go_wp2
       go_ret
       exact ⟨zT,zW⟩
def bits_LeadingZeros64.f (a0:Int):Option (Int):=if 0≤a0 then (if a0≤18446744073709551615 then (some (64 - (Lib.bitLen a0.toNat:Int))) else (none)) else (none)
theorem bits_LeadingZeros64.calls (a0 r:Int) (w:World) (h:bits_LeadingZeros64.f a0=some r) :
  Calls Tryz.prog 179 #[.int .u64 a0] w fun e w'=>e = .returned (.int .i64 r)∧dw w w':=by
 unfold bits_LeadingZeros64.f at h
 by_cases h0:0≤a0
 ·rw [if_pos h0] at h
  by_cases h1:a0≤18446744073709551615
  ·rw [if_pos h1] at h
   obtain rfl:=Option.some.inj h
   exact (Tryz.bits_LeadingZeros64 a0 w h0 h1).mono fun e w' ⟨he,hw⟩=>⟨he,by rw [hw];exact dw.refl _⟩
  ·rw [if_neg h1] at h;exact absurd h (by simp)
 ·rw [if_neg h0] at h;exact absurd h (by simp)
end Go.Proofs.YtpondkggmcmpfaaGreatDoor.QA
namespace Go.Proofs.YtpondkggmcmpfaaGreatDoor.QA
open Go.Proofs.YtpondkggmcmpfaaGreatDoor.T
open Go.RowKit Go.Proofs.YtpondkggmcmpfaaGreatDoorW.PrintWords Go.Proofs.YtpondkggmcmpfaaGreatDoorW.PrintLast Go.Proofs.YtpondkggmcmpfaaGreatDoorW.PrintMore
attribute [local go_sem] dZ dS dU fK fM
set_option linter.unusedVariables false
set_option linter.unusedSimpArgs false
mutual
def aT.j2:Nat→Int→Int→Int→Int→Int→Int→Int→Int→Option (Int × Int)
 | 0,_,_,_,_,_,_,_,_=>none
 | k+1,x2,x8,x9,x10,x11,x13,x14,x15=>if x9=0 then (none) else (aT.l1 k x2 x8 x9 x10 x14 x15 (IntKind.u64.wrap ((IntKind.u64.wrap ((IntKind.u64.wrap ((IntKind.u64.wrap (x11*4294967296))+x13)) - (IntKind.u64.wrap (x15*x2)))) - (IntKind.u64.wrap ((IntKind.u64.wrap (Int.tdiv (IntKind.u64.wrap ((IntKind.u64.wrap ((IntKind.u64.wrap (x11*4294967296))+x13)) - (IntKind.u64.wrap (x15*x2)))) x9))*x9)))) (IntKind.u64.wrap ((IntKind.u64.wrap ((IntKind.u64.wrap (x11*4294967296))+x13)) - (IntKind.u64.wrap (x15*x2)))) (IntKind.u64.wrap (Int.tdiv (IntKind.u64.wrap ((IntKind.u64.wrap ((IntKind.u64.wrap (x11*4294967296))+x13)) - (IntKind.u64.wrap (x15*x2)))) x9)))
def aT.l1:Nat→Int→Int→Int→Int→Int→Int→Int→Int→Int→Option (Int × Int)
 | 0,_,_,_,_,_,_,_,_,_=>none
 | k+1,x2,x8,x9,x10,x14,x15,x16,x17,x18=>if x18≥4294967296 then (aT.j4 k x2 x8 x9 x10 x14 x15 x16 x17 x18 true) else (aT.j4 k x2 x8 x9 x10 x14 x15 x16 x17 x18 (decide ((IntKind.u64.wrap (x18*x10)) > (IntKind.u64.wrap ((IntKind.u64.wrap (4294967296*x16))+x14)))))
def aT.j4:Nat→Int→Int→Int→Int→Int→Int→Int→Int→Int→Bool→Option (Int × Int)
 | 0,_,_,_,_,_,_,_,_,_,_=>none
 | k+1,x2,x8,x9,x10,x14,x15,x16,x17,x18,x113=>if x113=true then (if (IntKind.u64.wrap (x16+x9))≥4294967296 then (if 0≤x8 then (some (IntKind.u64.wrap ((IntKind.u64.wrap (x15*4294967296))+(IntKind.u64.wrap (x18 - 1))),shr .u64 (IntKind.u64.wrap ((IntKind.u64.wrap ((IntKind.u64.wrap (x17*4294967296))+x14)) - (IntKind.u64.wrap ((IntKind.u64.wrap (x18 - 1))*x2)))) x8)) else (none)) else (aT.l1 k x2 x8 x9 x10 x14 x15 (IntKind.u64.wrap (x16+x9)) x17 (IntKind.u64.wrap (x18 - 1)))) else (if 0≤x8 then (some (IntKind.u64.wrap ((IntKind.u64.wrap (x15*4294967296))+x18),shr .u64 (IntKind.u64.wrap ((IntKind.u64.wrap ((IntKind.u64.wrap (x17*4294967296))+x14)) - (IntKind.u64.wrap (x18*x2)))) x8)) else (none))
def aT.l0:Nat→Int→Int→Int→Int→Int→Int→Int→Int→Int→Option (Int × Int)
 | 0,_,_,_,_,_,_,_,_,_=>none
 | k+1,x2,x8,x9,x10,x11,x13,x14,x15,x16=>if x15≥4294967296 then (aT.j1 k x2 x8 x9 x10 x11 x13 x14 x15 x16 true) else (aT.j1 k x2 x8 x9 x10 x11 x13 x14 x15 x16 (decide ((IntKind.u64.wrap (x15*x10)) > (IntKind.u64.wrap ((IntKind.u64.wrap (4294967296*x16))+x13)))))
def aT.j1:Nat→Int→Int→Int→Int→Int→Int→Int→Int→Int→Bool→Option (Int × Int)
 | 0,_,_,_,_,_,_,_,_,_,_=>none
 | k+1,x2,x8,x9,x10,x11,x13,x14,x15,x16,x78=>if x78=true then (if (IntKind.u64.wrap (x16+x9))≥4294967296 then (aT.j2 k x2 x8 x9 x10 x11 x13 x14 (IntKind.u64.wrap (x15 - 1))) else (aT.l0 k x2 x8 x9 x10 x11 x13 x14 (IntKind.u64.wrap (x15 - 1)) (IntKind.u64.wrap (x16+x9)))) else (aT.j2 k x2 x8 x9 x10 x11 x13 x14 x15)
end
def aT.f (k:Nat) (a0 a1 a2:Int):Option (Int × Int):=if a2=0 then (none) else (if a2≤a0 then (none) else (if a0=0 then (some (IntKind.u64.wrap (Int.tdiv a1 a2),Int.tmod a1 a2)) else ((bits_LeadingZeros64.f a2).bind fun qj=>(if 0≤(IntKind.u64.wrap (qj)) then (if 0≤(IntKind.u64.wrap (64 - (IntKind.u64.wrap (qj)))) then (if ((shl .u64 a2 (IntKind.u64.wrap (qj))) / 4294967296)=0 then (none) else (aT.l0 k (shl .u64 a2 (IntKind.u64.wrap (qj))) (IntKind.u64.wrap (qj)) ((shl .u64 a2 (IntKind.u64.wrap (qj))) / 4294967296) (Go.bits .and .u64 (shl .u64 a2 (IntKind.u64.wrap (qj))) 4294967295) (Go.bits .or .u64 (shl .u64 a0 (IntKind.u64.wrap (qj))) (shr .u64 a1 (IntKind.u64.wrap (64 - (IntKind.u64.wrap (qj)))))) ((shl .u64 a1 (IntKind.u64.wrap (qj))) / 4294967296) (Go.bits .and .u64 (shl .u64 a1 (IntKind.u64.wrap (qj))) 4294967295) (IntKind.u64.wrap (Int.tdiv (Go.bits .or .u64 (shl .u64 a0 (IntKind.u64.wrap (qj))) (shr .u64 a1 (IntKind.u64.wrap (64 - (IntKind.u64.wrap (qj)))))) ((shl .u64 a2 (IntKind.u64.wrap (qj))) / 4294967296))) (IntKind.u64.wrap ((Go.bits .or .u64 (shl .u64 a0 (IntKind.u64.wrap (qj))) (shr .u64 a1 (IntKind.u64.wrap (64 - (IntKind.u64.wrap (qj)))))) - (IntKind.u64.wrap ((IntKind.u64.wrap (Int.tdiv (Go.bits .or .u64 (shl .u64 a0 (IntKind.u64.wrap (qj))) (shr .u64 a1 (IntKind.u64.wrap (64 - (IntKind.u64.wrap (qj)))))) ((shl .u64 a2 (IntKind.u64.wrap (qj))) / 4294967296)))*((shl .u64 a2 (IntKind.u64.wrap (qj))) / 4294967296))))))) else (none)) else (none)))))
theorem aT.iU:∀ k,(∀ y0 y1 y2 y3 y4 y5 y6 y7,LeO (aT.j2 k y0 y1 y2 y3 y4 y5 y6 y7) (aT.j2 (k+1) y0 y1 y2 y3 y4 y5 y6 y7))∧(∀ y0 y1 y2 y3 y4 y5 y6 y7 y8,LeO (aT.l1 k y0 y1 y2 y3 y4 y5 y6 y7 y8) (aT.l1 (k+1) y0 y1 y2 y3 y4 y5 y6 y7 y8))∧(∀ y0 y1 y2 y3 y4 y5 y6 y7 y8 y9,LeO (aT.j4 k y0 y1 y2 y3 y4 y5 y6 y7 y8 y9) (aT.j4 (k+1) y0 y1 y2 y3 y4 y5 y6 y7 y8 y9))∧(∀ y0 y1 y2 y3 y4 y5 y6 y7 y8,LeO (aT.l0 k y0 y1 y2 y3 y4 y5 y6 y7 y8) (aT.l0 (k+1) y0 y1 y2 y3 y4 y5 y6 y7 y8))∧(∀ y0 y1 y2 y3 y4 y5 y6 y7 y8 y9,LeO (aT.j1 k y0 y1 y2 y3 y4 y5 y6 y7 y8 y9) (aT.j1 (k+1) y0 y1 y2 y3 y4 y5 y6 y7 y8 y9))
 | 0=>⟨fun _ _ _ _ _ _ _ _ r h=>by simp [aT.j2] at h,fun _ _ _ _ _ _ _ _ _ r h=>by simp [aT.l1] at h,fun _ _ _ _ _ _ _ _ _ _ r h=>by simp [aT.j4] at h,fun _ _ _ _ _ _ _ _ _ r h=>by simp [aT.l0] at h,fun _ _ _ _ _ _ _ _ _ _ r h=>by simp [aT.j1] at h⟩
 | k+1=>by
  obtain ⟨ih0,ih1,ih2,ih3,ih4⟩:=aT.iU k
  refine ⟨?_,?_,?_,?_,?_⟩
  ·intro y0 y1 y2 y3 y4 y5 y6 y7
   unfold aT.j2
   repeat' (with_reducible first|exact ih0 _ _ _ _ _ _ _ _|exact ih1 _ _ _ _ _ _ _ _ _|exact ih2 _ _ _ _ _ _ _ _ _ _|exact ih3 _ _ _ _ _ _ _ _ _|exact ih4 _ _ _ _ _ _ _ _ _ _|exact zM|refine LeO.ite ?_ ?_|refine LeO.bind ?_ (fun _ => ?_))
  ·intro y0 y1 y2 y3 y4 y5 y6 y7 y8
   unfold aT.l1
   repeat' (with_reducible first|exact ih0 _ _ _ _ _ _ _ _|exact ih1 _ _ _ _ _ _ _ _ _|exact ih2 _ _ _ _ _ _ _ _ _ _|exact ih3 _ _ _ _ _ _ _ _ _|exact ih4 _ _ _ _ _ _ _ _ _ _|exact zM|refine LeO.ite ?_ ?_|refine LeO.bind ?_ (fun _ => ?_))
  ·intro y0 y1 y2 y3 y4 y5 y6 y7 y8 y9
   unfold aT.j4
   repeat' (with_reducible first|exact ih0 _ _ _ _ _ _ _ _|exact ih1 _ _ _ _ _ _ _ _ _|exact ih2 _ _ _ _ _ _ _ _ _ _|exact ih3 _ _ _ _ _ _ _ _ _|exact ih4 _ _ _ _ _ _ _ _ _ _|exact zM|refine LeO.ite ?_ ?_|refine LeO.bind ?_ (fun _ => ?_))
  ·intro y0 y1 y2 y3 y4 y5 y6 y7 y8
   unfold aT.l0
   repeat' (with_reducible first|exact ih0 _ _ _ _ _ _ _ _|exact ih1 _ _ _ _ _ _ _ _ _|exact ih2 _ _ _ _ _ _ _ _ _ _|exact ih3 _ _ _ _ _ _ _ _ _|exact ih4 _ _ _ _ _ _ _ _ _ _|exact zM|refine LeO.ite ?_ ?_|refine LeO.bind ?_ (fun _ => ?_))
  ·intro y0 y1 y2 y3 y4 y5 y6 y7 y8 y9
   unfold aT.j1
   repeat' (with_reducible first|exact ih0 _ _ _ _ _ _ _ _|exact ih1 _ _ _ _ _ _ _ _ _|exact ih2 _ _ _ _ _ _ _ _ _ _|exact ih3 _ _ _ _ _ _ _ _ _|exact ih4 _ _ _ _ _ _ _ _ _ _|exact zM|refine LeO.ite ?_ ?_|refine LeO.bind ?_ (fun _ => ?_))
theorem aT.mono:∀ a0 a1 a2 k,LeO (aT.f k a0 a1 a2) (aT.f (k+1) a0 a1 a2):=by
 intro a0 a1 a2 k
 obtain ⟨ih0,ih1,ih2,ih3,ih4⟩:=aT.iU k
 unfold aT.f
 repeat' (with_reducible first|exact ih0 _ _ _ _ _ _ _ _|exact ih1 _ _ _ _ _ _ _ _ _|exact ih2 _ _ _ _ _ _ _ _ _ _|exact ih3 _ _ _ _ _ _ _ _ _|exact ih4 _ _ _ _ _ _ _ _ _ _|exact zM|refine LeO.ite ?_ ?_|refine LeO.bind ?_ (fun _ => ?_))
set_option maxHeartbeats 8000000 in
set_option maxRecDepth 100000 in
theorem aT.calls (k:Nat) (a0 a1 a2 r1 r2:Int) (w:World) (h:aT.f k a0 a1 a2=some (r1,r2)) :
  Calls Tryz.prog 157 #[.int .u64 a0,.int .u64 a1,.int .u64 a2] w fun e w'=>e = .returned (.tuple #[.int .u64 r1,.int .u64 r2])∧dw w w':=by
 have H:=h
 clear h
 unfold aT.f at H
 by_cases c4:a2=0
 ·rw [if_pos c4] at H
  exact absurd H (by simp)
 ·rw [if_neg c4] at H
  have fE:(a2 == 0)=false:=beq_eq_false_iff_ne.mpr c4
  have zy:(a2 != 0)=true:=bne_iff_ne.mpr c4
  by_cases c5:a2≤a0
  ·rw [if_pos c5] at H
   exact absurd H (by simp)
  ·rw [if_neg c5] at H
   have iw:=decide_eq_false c5
   clear c5
   by_cases c6:a0=0
   ·rw [if_pos c6] at H
    have gQ:(a0 == 0)=true:=beq_iff_eq.mpr c6
    have uw:(a0 != 0)=false:=bne_eq_false_iff_eq.mpr c6
    clear c6
    simp only [Option.some.injEq,Prod.mk.injEq] at H
    obtain ⟨rfl,rfl⟩:=H
    go_enter Tryz.func157,Tryz.ntmps157
    go_wp2
    repeat (go_quiet (fail);try go_wp2)
    go_ret2
    exact ⟨zT,zW⟩
   ·rw [if_neg c6] at H
    have gQ:(a0 == 0)=false:=beq_eq_false_iff_ne.mpr c6
    have uw:(a0 != 0)=true:=bne_iff_ne.mpr c6
    replace H:=zO H
    obtain ⟨qj,A7,H⟩:=H
    try dsimp only at H
    obtain ⟨ji8,qm⟩:∃ j_:Int,(IntKind.u64.wrap (qj))=j_:=⟨_,rfl⟩
    replace H:(if 0≤(ji8) then (if 0≤(IntKind.u64.wrap (64 - (ji8))) then (if ((shl .u64 a2 (ji8)) / 4294967296)=0 then (none) else (aT.l0 k (shl .u64 a2 (ji8)) ji8 ((shl .u64 a2 (ji8)) / 4294967296) (Go.bits .and .u64 (shl .u64 a2 (ji8)) 4294967295) (Go.bits .or .u64 (shl .u64 a0 (ji8)) (shr .u64 a1 (IntKind.u64.wrap (64 - (ji8))))) ((shl .u64 a1 (ji8)) / 4294967296) (Go.bits .and .u64 (shl .u64 a1 (ji8)) 4294967295) (IntKind.u64.wrap (Int.tdiv (Go.bits .or .u64 (shl .u64 a0 (ji8)) (shr .u64 a1 (IntKind.u64.wrap (64 - (ji8))))) ((shl .u64 a2 (ji8)) / 4294967296))) (IntKind.u64.wrap ((Go.bits .or .u64 (shl .u64 a0 (ji8)) (shr .u64 a1 (IntKind.u64.wrap (64 - (ji8))))) - (IntKind.u64.wrap ((IntKind.u64.wrap (Int.tdiv (Go.bits .or .u64 (shl .u64 a0 (ji8)) (shr .u64 a1 (IntKind.u64.wrap (64 - (ji8))))) ((shl .u64 a2 (ji8)) / 4294967296)))*((shl .u64 a2 (ji8)) / 4294967296))))))) else (none)) else (none))=some (r1,r2):=by first|(rw [qm] at H;exact H)|(simp only [qm] at H ⊢;exact H)
    (try rw [qm] at A7)
    by_cases c9:0≤(ji8)
    ·rw [if_pos c9] at H
     have pz:=eq_true c9
     have abe:=decide_eq_true c9
     clear c9
     obtain ⟨dB,jI⟩:∃ j_:Int,(shl .u64 a2 (ji8))=j_:=⟨_,rfl⟩
     replace H:(if 0≤(IntKind.u64.wrap (64 - (ji8))) then (if ((dB) / 4294967296)=0 then (none) else (aT.l0 k dB ji8 ((dB) / 4294967296) (Go.bits .and .u64 (dB) 4294967295) (Go.bits .or .u64 (shl .u64 a0 (ji8)) (shr .u64 a1 (IntKind.u64.wrap (64 - (ji8))))) ((shl .u64 a1 (ji8)) / 4294967296) (Go.bits .and .u64 (shl .u64 a1 (ji8)) 4294967295) (IntKind.u64.wrap (Int.tdiv (Go.bits .or .u64 (shl .u64 a0 (ji8)) (shr .u64 a1 (IntKind.u64.wrap (64 - (ji8))))) ((dB) / 4294967296))) (IntKind.u64.wrap ((Go.bits .or .u64 (shl .u64 a0 (ji8)) (shr .u64 a1 (IntKind.u64.wrap (64 - (ji8))))) - (IntKind.u64.wrap ((IntKind.u64.wrap (Int.tdiv (Go.bits .or .u64 (shl .u64 a0 (ji8)) (shr .u64 a1 (IntKind.u64.wrap (64 - (ji8))))) ((dB) / 4294967296)))*((dB) / 4294967296))))))) else (none))=some (r1,r2):=by first|(rw [jI] at H;exact H)|(simp only [jI] at H ⊢;exact H)
     (try rw [jI] at A7)
     have ajP:(IntKind.u64.wrap (a2*2 ^ min (ji8).toNat 64))=dB:=jI
     have anJ:(ji8)≤64→(IntKind.u64.wrap (a2*2 ^ (ji8).toNat))=dB:=xU jI
     have iH:=eq_true (of_decide_eq_true (by first|(with_reducible assumption)|assumption):0≤(ji8))
     obtain ⟨jM,sV⟩:∃ j_:Int,(shl .u64 a0 (ji8))=j_:=⟨_,rfl⟩
     replace H:(if 0≤(IntKind.u64.wrap (64 - (ji8))) then (if ((dB) / 4294967296)=0 then (none) else (aT.l0 k dB ji8 ((dB) / 4294967296) (Go.bits .and .u64 (dB) 4294967295) (Go.bits .or .u64 (jM) (shr .u64 a1 (IntKind.u64.wrap (64 - (ji8))))) ((shl .u64 a1 (ji8)) / 4294967296) (Go.bits .and .u64 (shl .u64 a1 (ji8)) 4294967295) (IntKind.u64.wrap (Int.tdiv (Go.bits .or .u64 (jM) (shr .u64 a1 (IntKind.u64.wrap (64 - (ji8))))) ((dB) / 4294967296))) (IntKind.u64.wrap ((Go.bits .or .u64 (jM) (shr .u64 a1 (IntKind.u64.wrap (64 - (ji8))))) - (IntKind.u64.wrap ((IntKind.u64.wrap (Int.tdiv (Go.bits .or .u64 (jM) (shr .u64 a1 (IntKind.u64.wrap (64 - (ji8))))) ((dB) / 4294967296)))*((dB) / 4294967296))))))) else (none))=some (r1,r2):=by first|(rw [sV] at H;exact H)|(simp only [sV] at H ⊢;exact H)
     (try rw [sV] at A7)
     have axS:(IntKind.u64.wrap (a0*2 ^ min (ji8).toNat 64))=jM:=sV
     have axT:(ji8)≤64→(IntKind.u64.wrap (a0*2 ^ (ji8).toNat))=jM:=xU sV
     obtain ⟨acn,agQ⟩:∃ j_:Int,(IntKind.u64.wrap (64 - (ji8)))=j_:=⟨_,rfl⟩
     replace H:(if 0≤(acn) then (if ((dB) / 4294967296)=0 then (none) else (aT.l0 k dB ji8 ((dB) / 4294967296) (Go.bits .and .u64 (dB) 4294967295) (Go.bits .or .u64 (jM) (shr .u64 a1 (acn))) ((shl .u64 a1 (ji8)) / 4294967296) (Go.bits .and .u64 (shl .u64 a1 (ji8)) 4294967295) (IntKind.u64.wrap (Int.tdiv (Go.bits .or .u64 (jM) (shr .u64 a1 (acn))) ((dB) / 4294967296))) (IntKind.u64.wrap ((Go.bits .or .u64 (jM) (shr .u64 a1 (acn))) - (IntKind.u64.wrap ((IntKind.u64.wrap (Int.tdiv (Go.bits .or .u64 (jM) (shr .u64 a1 (acn))) ((dB) / 4294967296)))*((dB) / 4294967296))))))) else (none))=some (r1,r2):=by first|(rw [agQ] at H;exact H)|(simp only [agQ] at H ⊢;exact H)
     (try rw [agQ] at A7)
     by_cases c14:0≤(acn)
     ·rw [if_pos c14] at H
      have abO:=eq_true c14
      have amO:=decide_eq_true c14
      clear c14
      obtain ⟨oQ,yT⟩:∃ j_:Int,(shr .u64 a1 (acn))=j_:=⟨_,rfl⟩
      replace H:(if ((dB) / 4294967296)=0 then (none) else (aT.l0 k dB ji8 ((dB) / 4294967296) (Go.bits .and .u64 (dB) 4294967295) (Go.bits .or .u64 (jM) (oQ)) ((shl .u64 a1 (ji8)) / 4294967296) (Go.bits .and .u64 (shl .u64 a1 (ji8)) 4294967295) (IntKind.u64.wrap (Int.tdiv (Go.bits .or .u64 (jM) (oQ)) ((dB) / 4294967296))) (IntKind.u64.wrap ((Go.bits .or .u64 (jM) (oQ)) - (IntKind.u64.wrap ((IntKind.u64.wrap (Int.tdiv (Go.bits .or .u64 (jM) (oQ)) ((dB) / 4294967296)))*((dB) / 4294967296)))))))=some (r1,r2):=by first|(rw [yT] at H;exact H)|(simp only [yT] at H ⊢;exact H)
      (try rw [yT] at A7)
      have axU:(a1 / 2 ^ min (acn).toNat 64)=oQ:=yT
      have axV:(acn)≤64→(a1 / 2 ^ (acn).toNat)=oQ:=o8 yT
      have aAa:=eq_true (of_decide_eq_true (by first|(with_reducible assumption)|assumption):0≤(ji8))
      obtain ⟨nD,yU⟩:∃ j_:Int,(shl .u64 a1 (ji8))=j_:=⟨_,rfl⟩
      replace H:(if ((dB) / 4294967296)=0 then (none) else (aT.l0 k dB ji8 ((dB) / 4294967296) (Go.bits .and .u64 (dB) 4294967295) (Go.bits .or .u64 (jM) (oQ)) ((nD) / 4294967296) (Go.bits .and .u64 (nD) 4294967295) (IntKind.u64.wrap (Int.tdiv (Go.bits .or .u64 (jM) (oQ)) ((dB) / 4294967296))) (IntKind.u64.wrap ((Go.bits .or .u64 (jM) (oQ)) - (IntKind.u64.wrap ((IntKind.u64.wrap (Int.tdiv (Go.bits .or .u64 (jM) (oQ)) ((dB) / 4294967296)))*((dB) / 4294967296)))))))=some (r1,r2):=by first|(rw [yU] at H;exact H)|(simp only [yU] at H ⊢;exact H)
      (try rw [yU] at A7)
      have axW:(IntKind.u64.wrap (a1*2 ^ min (ji8).toNat 64))=nD:=yU
      have axX:(ji8)≤64→(IntKind.u64.wrap (a1*2 ^ (ji8).toNat))=nD:=xU yU
      by_cases c18:((dB) / 4294967296)=0
      ·rw [if_pos c18] at H
       exact absurd H (by simp)
      ·rw [if_neg c18] at H
       have aAb:(((dB) / 4294967296) == 0)=false:=beq_eq_false_iff_ne.mpr c18
       have aAc:(((dB) / 4294967296) != 0)=true:=bne_iff_ne.mpr c18
       have apD:=aj.mk H
       clear H
       go_enter Tryz.func157,Tryz.ntmps157
       go_upto_block 0 with (first|(go_at_call 179;(with_reducible refine (bits_LeadingZeros64.calls a2 qj _ A7.out).mono ?_);rintro e w' ⟨rfl,⟨nd,rfl⟩⟩;(try exact ⟨rfl,_,zN⟩)))
       repeat (go_quiet (first|(go_at_call 179;(with_reducible refine (bits_LeadingZeros64.calls a2 qj _ A7.out).mono ?_);rintro e w' ⟨rfl,⟨nd,rfl⟩⟩;(try exact ⟨rfl,_,zN⟩)));go_upto_block 0 with (first|(go_at_call 179;(with_reducible refine (bits_LeadingZeros64.calls a2 qj _ A7.out).mono ?_);rintro e w' ⟨rfl,⟨nd,rfl⟩⟩;(try exact ⟨rfl,_,zN⟩))))
       (try simp only [Act.put,List.setIfInBounds_toArray,List.set_cons_zero,List.set_cons_succ])
       go_cut [15] (fun v15 wc=>∃ (kq:Nat) (oM:Int),v15 = .int .u64 oM∧aj (aT.j2 kq dB ji8 ((dB) / 4294967296) (Go.bits .and .u64 (dB) 4294967295) (Go.bits .or .u64 (jM) (oQ)) ((nD) / 4294967296) (Go.bits .and .u64 (nD) 4294967295) oM=some (r1,r2))∧aj (kq≤k)∧dw w wc)
       case first =>
        have H:=apD.out
        clear apD
        have H':=aj.mk H
        clear H
        go_wp2
        repeat (go_quiet (fail);try go_wp2)
        go_loopg [15,16] k (fun kq v15 v16 w'=>∃ (aaX:Int) (xB:Int),v15 = .int .u64 aaX∧v16 = .int .u64 xB∧aj (aT.l0 kq dB ji8 ((dB) / 4294967296) (Go.bits .and .u64 (dB) 4294967295) (Go.bits .or .u64 (jM) (oQ)) ((nD) / 4294967296) (Go.bits .and .u64 (nD) 4294967295) aaX xB=some (r1,r2))∧aj (kq≤k)∧dw w w')
        case atStart=>exact ⟨(IntKind.u64.wrap (Int.tdiv (Go.bits .or .u64 (jM) (oQ)) ((dB) / 4294967296))),(IntKind.u64.wrap ((Go.bits .or .u64 (jM) (oQ)) - (IntKind.u64.wrap ((IntKind.u64.wrap (Int.tdiv (Go.bits .or .u64 (jM) (oQ)) ((dB) / 4294967296)))*((dB) / 4294967296))))),(by first|rfl|(simp;done)|(simp only [← jI,← sV,← yT] <;> (first|rfl|simp))|(simp [*];done)),(by first|rfl|(simp;done)|(simp only [← jI,← sV,← yT] <;> (first|rfl|simp))|(simp [*];done)),H',⟨Nat.le_refl _⟩,zW⟩
        case round =>
         clear H'
         obtain ⟨aaX,xB,rfl,rfl,HA,HK1,⟨m1,rfl⟩⟩:=hrel
         cases gk with
         | zero=>exact absurd HA.out (by simp [aT.l0])
         | succ k1 =>
          have H:=HA.out
          clear HA
          simp only [aT.l0] at H
          have apE:=aj.mk H
          clear H
          go_upto_region 17 with (fail)
          repeat (go_quiet (fail);go_upto_region 17 with (fail))
          go_cut [78] (fun v78 wc=>∃ (kq:Nat) (agR:Bool),v78 = .bool agR∧aj (aT.j1 kq dB ji8 ((dB) / 4294967296) (Go.bits .and .u64 (dB) 4294967295) (Go.bits .or .u64 (jM) (oQ)) ((nD) / 4294967296) (Go.bits .and .u64 (nD) 4294967295) aaX xB agR=some (r1,r2))∧aj (kq≤k1)∧dw w wc)
          case first =>
           have H:=apE.out
           clear apE
           by_cases c21:aaX≥4294967296
           ·rw [if_pos c21] at H
            have ac4:=decide_eq_true c21
            clear c21
            (first|rw [ac4]|(simp only [bY,cZ];rw [ac4])|skip)
            have H':=aj.mk H
            clear H
            go_wp2
            repeat (go_quiet (fail);try go_wp2)
            go_meet
            case rel=>exact ⟨_,(true),zT,H',⟨by have:=HK1.out;first|omega|exact Nat.le_refl _⟩,zW⟩
           ·rw [if_neg c21] at H
            have ac4:=decide_eq_false c21
            clear c21
            (first|rw [ac4]|(simp only [bY,cZ];rw [ac4])|skip)
            have H':=aj.mk H
            clear H
            go_wp2
            repeat (go_quiet (fail);try go_wp2)
            go_meet
            case rel=>exact ⟨_,(decide ((IntKind.u64.wrap (aaX*(Go.bits .and .u64 (dB) 4294967295))) > (IntKind.u64.wrap ((IntKind.u64.wrap (4294967296*xB))+((nD) / 4294967296))))),(by first|rfl|(simp;done)|(simp only [← jI,← yU] <;> (first|rfl|simp))|(simp [*];done)),H',⟨by have:=HK1.out;first|omega|exact Nat.le_refl _⟩,zW⟩
          case rest =>
           clear apE
           obtain ⟨kq,agR,rfl,HA,amT,⟨aA3,rfl⟩⟩:=hcut
           cases kq with
           | zero=>exact absurd HA.out (by simp [aT.j1])
           | succ avX =>
            have H:=HA.out
            clear HA
            simp only [aT.j1] at H
            by_cases c22:agR=true
            ·subst c22
             rw [if_pos rfl] at H;try dsimp only at H
             by_cases c23:(IntKind.u64.wrap (xB+((dB) / 4294967296)))≥4294967296
             ·rw [if_pos c23] at H
              have amG:=decide_eq_true c23
              clear c23
              have H':=aj.mk H
              clear H
              go_wp2
              repeat (go_quiet (fail);try go_wp2)
              go_meet
              case rel=>exact ⟨_,(IntKind.u64.wrap (aaX - 1)),zT,H',⟨by have:=HK1.out;have:=amT.out;first|omega|exact Nat.le_refl _⟩,zW⟩
             ·rw [if_neg c23] at H
              have amG:=decide_eq_false c23
              clear c23
              have H':=aj.mk H
              clear H
              go_wp2
              repeat (go_quiet (fail);try go_wp2)
              go_roundg avX
              case measure=>have:=HK1.out;have:=amT.out;omega
              case rel=>exact ⟨(IntKind.u64.wrap (aaX - 1)),(IntKind.u64.wrap (xB+((dB) / 4294967296))),zT,(by first|rfl|(simp;done)|(simp only [← jI] <;> (first|rfl|simp))|(simp [*];done)),H',⟨by have:=HK1.out;have:=amT.out;omega⟩,zW⟩
            ·replace c22:=Bool.eq_false_iff.mpr c22
             subst c22
             rw [if_neg (show ¬ (false=true) by decide)] at H;try dsimp only at H
             have H':=aj.mk H
             clear H
             go_wp2
             repeat (go_quiet (fail);try go_wp2)
             go_meet
             case rel=>exact ⟨_,(aaX),zT,H',⟨by have:=HK1.out;have:=amT.out;first|omega|exact Nat.le_refl _⟩,zW⟩
       case rest =>
        clear apD
        obtain ⟨kq,oM,rfl,HA,amU,⟨aA4,rfl⟩⟩:=hcut
        cases kq with
        | zero=>exact absurd HA.out (by simp [aT.j2])
        | succ asV =>
         have H:=HA.out
         clear HA
         simp only [aT.j2] at H
         by_cases c24:((dB) / 4294967296)=0
         ·rw [if_pos c24] at H
          exact absurd H (by simp)
         ·rw [if_neg c24] at H
          have auN:(((dB) / 4294967296) == 0)=false:=beq_eq_false_iff_ne.mpr c24
          have aAd:(((dB) / 4294967296) != 0)=true:=bne_iff_ne.mpr c24
          have H':=aj.mk H
          clear H
          go_wp2
          repeat (go_quiet (fail);try go_wp2)
          go_loopg [16,18] asV (fun kq v16 v18 w'=>∃ (ada:Int) (uJ:Int),v16 = .int .u64 ada∧v18 = .int .u64 uJ∧aj (aT.l1 kq dB ji8 ((dB) / 4294967296) (Go.bits .and .u64 (dB) 4294967295) (Go.bits .and .u64 (nD) 4294967295) oM ada (IntKind.u64.wrap ((IntKind.u64.wrap ((IntKind.u64.wrap ((Go.bits .or .u64 (jM) (oQ))*4294967296))+((nD) / 4294967296))) - (IntKind.u64.wrap (oM*dB)))) uJ=some (r1,r2))∧aj (kq≤asV)∧dw w w')
          case atStart=>exact ⟨(IntKind.u64.wrap ((IntKind.u64.wrap ((IntKind.u64.wrap ((IntKind.u64.wrap ((Go.bits .or .u64 (jM) (oQ))*4294967296))+((nD) / 4294967296))) - (IntKind.u64.wrap (oM*dB)))) - (IntKind.u64.wrap ((IntKind.u64.wrap (Int.tdiv (IntKind.u64.wrap ((IntKind.u64.wrap ((IntKind.u64.wrap ((Go.bits .or .u64 (jM) (oQ))*4294967296))+((nD) / 4294967296))) - (IntKind.u64.wrap (oM*dB)))) ((dB) / 4294967296)))*((dB) / 4294967296))))),(IntKind.u64.wrap (Int.tdiv (IntKind.u64.wrap ((IntKind.u64.wrap ((IntKind.u64.wrap ((Go.bits .or .u64 (jM) (oQ))*4294967296))+((nD) / 4294967296))) - (IntKind.u64.wrap (oM*dB)))) ((dB) / 4294967296))),(by first|rfl|(simp;done)|(simp only [← jI,← sV,← yT,← yU] <;> (first|rfl|simp))|(simp [*];done)),(by first|rfl|(simp;done)|(simp only [← jI,← sV,← yT,← yU] <;> (first|rfl|simp))|(simp [*];done)),H',⟨Nat.le_refl _⟩,zW⟩
          case round =>
           clear H'
           obtain ⟨ada,uJ,rfl,rfl,HA,HK2,⟨m2,rfl⟩⟩:=hrel
           cases gk with
           | zero=>exact absurd HA.out (by simp [aT.l1])
           | succ k2 =>
            have H:=HA.out
            clear HA
            simp only [aT.l1] at H
            have apF:=aj.mk H
            clear H
            go_upto_region 24 with (fail)
            repeat (go_quiet (fail);go_upto_region 24 with (fail))
            go_cut [113] (fun avY wc=>∃ (kq:Nat) (aeS:Bool),avY = .bool aeS∧aj (aT.j4 kq dB ji8 ((dB) / 4294967296) (Go.bits .and .u64 (dB) 4294967295) (Go.bits .and .u64 (nD) 4294967295) oM ada (IntKind.u64.wrap ((IntKind.u64.wrap ((IntKind.u64.wrap ((Go.bits .or .u64 (jM) (oQ))*4294967296))+((nD) / 4294967296))) - (IntKind.u64.wrap (oM*dB)))) uJ aeS=some (r1,r2))∧aj (kq≤k2)∧dw w wc)
            case first =>
             have H:=apF.out
             clear apF
             by_cases c26:uJ≥4294967296
             ·rw [if_pos c26] at H
              have aeR:=decide_eq_true c26
              clear c26
              (first|rw [aeR]|(simp only [bY,cZ];rw [aeR])|skip)
              have H':=aj.mk H
              clear H
              go_wp2
              repeat (go_quiet (fail);try go_wp2)
              go_meet
              case rel=>exact ⟨_,(true),zT,H',⟨by have:=amU.out;have:=HK2.out;first|omega|exact Nat.le_refl _⟩,zW⟩
             ·rw [if_neg c26] at H
              have aeR:=decide_eq_false c26
              clear c26
              (first|rw [aeR]|(simp only [bY,cZ];rw [aeR])|skip)
              have H':=aj.mk H
              clear H
              go_wp2
              repeat (go_quiet (fail);try go_wp2)
              go_meet
              case rel=>exact ⟨_,(decide ((IntKind.u64.wrap (uJ*(Go.bits .and .u64 (dB) 4294967295))) > (IntKind.u64.wrap ((IntKind.u64.wrap (4294967296*ada))+(Go.bits .and .u64 (nD) 4294967295))))),(by first|rfl|(simp;done)|(simp only [← jI,← yU] <;> (first|rfl|simp))|(simp [*];done)),H',⟨by have:=amU.out;have:=HK2.out;first|omega|exact Nat.le_refl _⟩,zW⟩
            case rest =>
             clear apF
             obtain ⟨kq,aeS,rfl,HA,asW,⟨aA5,rfl⟩⟩:=hcut
             cases kq with
             | zero=>exact absurd HA.out (by simp [aT.j4])
             | succ avZ =>
              have H:=HA.out
              clear HA
              simp only [aT.j4] at H
              by_cases c27:aeS=true
              ·subst c27
               rw [if_pos rfl] at H;try dsimp only at H
               by_cases c28:(IntKind.u64.wrap (ada+((dB) / 4294967296)))≥4294967296
               ·rw [if_pos c28] at H
                have amH:=decide_eq_true c28
                clear c28
                by_cases c29:0≤ji8
                ·rw [if_pos c29] at H
                 have amh:=eq_true c29
                 have aAe:=decide_eq_true c29
                 clear c29
                 obtain ⟨apG,agS⟩:∃ j_:Int,(shr .u64 (IntKind.u64.wrap ((IntKind.u64.wrap ((IntKind.u64.wrap ((IntKind.u64.wrap ((IntKind.u64.wrap ((IntKind.u64.wrap ((Go.bits .or .u64 (jM) (oQ))*4294967296))+((nD) / 4294967296))) - (IntKind.u64.wrap (oM*dB))))*4294967296))+(Go.bits .and .u64 (nD) 4294967295))) - (IntKind.u64.wrap ((IntKind.u64.wrap (uJ - 1))*dB)))) ji8)=j_:=⟨_,rfl⟩
                 replace H:(some (IntKind.u64.wrap ((IntKind.u64.wrap (oM*4294967296))+(IntKind.u64.wrap (uJ - 1))),apG))=some (r1,r2):=by first|(rw [agS] at H;exact H)|(simp only [agS] at H ⊢;exact H)
                 have axY:((IntKind.u64.wrap ((IntKind.u64.wrap ((IntKind.u64.wrap ((IntKind.u64.wrap ((IntKind.u64.wrap ((IntKind.u64.wrap ((Go.bits .or .u64 (jM) (oQ))*4294967296))+((nD) / 4294967296))) - (IntKind.u64.wrap (oM*dB))))*4294967296))+(Go.bits .and .u64 (nD) 4294967295))) - (IntKind.u64.wrap ((IntKind.u64.wrap (uJ - 1))*dB)))) / 2 ^ min ji8.toNat 64)=apG:=agS
                 have axZ:ji8≤64→((IntKind.u64.wrap ((IntKind.u64.wrap ((IntKind.u64.wrap ((IntKind.u64.wrap ((IntKind.u64.wrap ((IntKind.u64.wrap ((Go.bits .or .u64 (jM) (oQ))*4294967296))+((nD) / 4294967296))) - (IntKind.u64.wrap (oM*dB))))*4294967296))+(Go.bits .and .u64 (nD) 4294967295))) - (IntKind.u64.wrap ((IntKind.u64.wrap (uJ - 1))*dB)))) / 2 ^ ji8.toNat)=apG:=o8 agS
                 simp only [Option.some.injEq,Prod.mk.injEq] at H
                 obtain ⟨rfl,rfl⟩:=H
                 go_wp2
                 repeat (go_quiet (fail);try go_wp2)
                 go_ret2
                 exact ⟨by first|rfl|(simp;done)|(simp only [← qm,← jI,← sV,← agQ,← yT,← yU,← agS] <;> (first|rfl|simp))|(simp [*];done),zW⟩
                ·rw [if_neg c29] at H
                 exact absurd H (by simp)
               ·rw [if_neg c28] at H
                have amH:=decide_eq_false c28
                clear c28
                have H':=aj.mk H
                clear H
                go_wp2
                repeat (go_quiet (fail);try go_wp2)
                go_roundg avZ
                case measure=>have:=amU.out;have:=HK2.out;have:=asW.out;omega
                case rel=>exact ⟨(IntKind.u64.wrap (ada+((dB) / 4294967296))),(IntKind.u64.wrap (uJ - 1)),(by first|rfl|(simp;done)|(simp only [← jI] <;> (first|rfl|simp))|(simp [*];done)),zT,H',⟨by have:=amU.out;have:=HK2.out;have:=asW.out;omega⟩,zW⟩
              ·replace c27:=Bool.eq_false_iff.mpr c27
               subst c27
               rw [if_neg (show ¬ (false=true) by decide)] at H;try dsimp only at H
               by_cases c31:0≤ji8
               ·rw [if_pos c31] at H
                have aAf:=eq_true c31
                have aAg:=decide_eq_true c31
                clear c31
                obtain ⟨apH,agT⟩:∃ j_:Int,(shr .u64 (IntKind.u64.wrap ((IntKind.u64.wrap ((IntKind.u64.wrap ((IntKind.u64.wrap ((IntKind.u64.wrap ((IntKind.u64.wrap ((Go.bits .or .u64 (jM) (oQ))*4294967296))+((nD) / 4294967296))) - (IntKind.u64.wrap (oM*dB))))*4294967296))+(Go.bits .and .u64 (nD) 4294967295))) - (IntKind.u64.wrap (uJ*dB)))) ji8)=j_:=⟨_,rfl⟩
                replace H:(some (IntKind.u64.wrap ((IntKind.u64.wrap (oM*4294967296))+uJ),apH))=some (r1,r2):=by first|(rw [agT] at H;exact H)|(simp only [agT] at H ⊢;exact H)
                have ax0:((IntKind.u64.wrap ((IntKind.u64.wrap ((IntKind.u64.wrap ((IntKind.u64.wrap ((IntKind.u64.wrap ((IntKind.u64.wrap ((Go.bits .or .u64 (jM) (oQ))*4294967296))+((nD) / 4294967296))) - (IntKind.u64.wrap (oM*dB))))*4294967296))+(Go.bits .and .u64 (nD) 4294967295))) - (IntKind.u64.wrap (uJ*dB)))) / 2 ^ min ji8.toNat 64)=apH:=agT
                have ax1:ji8≤64→((IntKind.u64.wrap ((IntKind.u64.wrap ((IntKind.u64.wrap ((IntKind.u64.wrap ((IntKind.u64.wrap ((IntKind.u64.wrap ((Go.bits .or .u64 (jM) (oQ))*4294967296))+((nD) / 4294967296))) - (IntKind.u64.wrap (oM*dB))))*4294967296))+(Go.bits .and .u64 (nD) 4294967295))) - (IntKind.u64.wrap (uJ*dB)))) / 2 ^ ji8.toNat)=apH:=o8 agT
                simp only [Option.some.injEq,Prod.mk.injEq] at H
                obtain ⟨rfl,rfl⟩:=H
                go_wp2
                repeat (go_quiet (fail);try go_wp2)
                go_ret2
                exact ⟨by first|rfl|(simp;done)|(simp only [← qm,← jI,← sV,← agQ,← yT,← yU,← agT] <;> (first|rfl|simp))|(simp [*];done),zW⟩
               ·rw [if_neg c31] at H
                exact absurd H (by simp)
     ·rw [if_neg c14] at H
      exact absurd H (by simp)
    ·rw [if_neg c9] at H
     exact absurd H (by simp)
end Go.Proofs.YtpondkggmcmpfaaGreatDoor.QA
namespace Go.Proofs.YtpondkggmcmpfaaGreatDoor.QA
open Go.Proofs.YtpondkggmcmpfaaGreatDoor.T
open Go.RowKit Go.Proofs.YtpondkggmcmpfaaGreatDoorW.PrintWords Go.Proofs.YtpondkggmcmpfaaGreatDoorW.PrintLast Go.Proofs.YtpondkggmcmpfaaGreatDoorW.PrintMore
attribute [local go_sem] dZ dS dU fK fM
set_option linter.unusedVariables false
set_option linter.unusedSimpArgs false
def aX.j0:Nat→Bool→Int→Int→Bool→Option (Int)
 | 0,_,_,_,_=>none
 | k+1,x9,x11,x14,x60=>if x60=true then ((cO.f k (pq x11 1 0) (o9 x11 1 0) x9).bind fun aku=>(some aku)) else ((cO.f k (pq x11 x14 0) (o9 x11 x14 0) x9).bind fun t138=>(some t138))
def aX.f (k:Nat) (a0 a1 a2:Int):Option (Int):=if a2=0 then (some 0) else ((ku.f a0 a1).bind fun xH=>((nI.f a2).bind fun wX=>(if xH.1≥wX then ((cO.f k 1 0 (xH.2.2 != (decide (a2 < 0)))).bind fun apI=>(some apI)) else ((aT.f k xH.1 xH.2.1 wX).bind fun yV=>(if (xH.2.2 != (decide (a2 < 0)))=true then (if yV.2 > (IntKind.u64.wrap (wX - yV.2)) then (aX.j0 k (xH.2.2 != (decide (a2 < 0))) yV.1 0 true) else (if ((xH.2.2 != (decide (a2 < 0)))=true) then (aX.j0 k (xH.2.2 != (decide (a2 < 0))) yV.1 0 false) else (aX.j0 k (xH.2.2 != (decide (a2 < 0))) yV.1 0 (decide (yV.2≥(IntKind.u64.wrap (wX - yV.2))))))) else (if ((xH.2.2 != (decide (a2 < 0)))=true) then (aX.j0 k (xH.2.2 != (decide (a2 < 0))) yV.1 0 false) else (aX.j0 k (xH.2.2 != (decide (a2 < 0))) yV.1 0 (decide (yV.2≥(IntKind.u64.wrap (wX - yV.2)))))))))))
theorem aX.iU:∀ k,(∀ y0 y1 y2 y3,LeO (aX.j0 k y0 y1 y2 y3) (aX.j0 (k+1) y0 y1 y2 y3))
 | 0=>fun _ _ _ _ r h=>by simp [aX.j0] at h
 | k+1=>by
  have ih0:=aX.iU k
  ·intro y0 y1 y2 y3
   unfold aX.j0
   repeat' (with_reducible first|exact ih0 _ _ _ _|exact aT.mono _ _ _ _|exact cO.mono _ _ _ _|exact zM|refine LeO.ite ?_ ?_|refine LeO.bind ?_ (fun _ => ?_))
theorem aX.mono:∀ a0 a1 a2 k,LeO (aX.f k a0 a1 a2) (aX.f (k+1) a0 a1 a2):=by
 intro a0 a1 a2 k
 have ih0:=aX.iU k
 unfold aX.f
 repeat' (with_reducible first|exact ih0 _ _ _ _|exact aT.mono _ _ _ _|exact cO.mono _ _ _ _|exact zM|refine LeO.ite ?_ ?_|refine LeO.bind ?_ (fun _ => ?_))
set_option maxHeartbeats 8000000 in
set_option maxRecDepth 100000 in
theorem aX.calls (k:Nat) (a0 a1 a2 r:Int) (w:World) (h:aX.f k a0 a1 a2=some r) :
  Calls Tryz.prog 130 #[.int .i64 a0,.int .i64 a1,.int .i64 a2] w fun e w'=>e = .returned (.int .i64 r)∧dw w w':=by
 have H:=h
 clear h
 unfold aX.f at H
 by_cases c4:a2=0
 ·rw [if_pos c4] at H
  have fE:(a2 == 0)=true:=beq_iff_eq.mpr c4
  have zy:(a2 != 0)=false:=bne_eq_false_iff_eq.mpr c4
  clear c4
  obtain rfl:=Option.some.inj H
  go_enter Tryz.func130,Tryz.ntmps130
  go_wp2
  go_ret
  exact ⟨zT,zW⟩
 ·rw [if_neg c4] at H
  have fE:(a2 == 0)=false:=beq_eq_false_iff_ne.mpr c4
  have zy:(a2 != 0)=true:=bne_iff_ne.mpr c4
  replace H:=zO H
  obtain ⟨⟨t130,t131,lZ⟩,A5,H⟩:=H
  try dsimp only at H
  replace H:=zO H
  obtain ⟨wX,A6,H⟩:=H
  try dsimp only at H
  by_cases c7:t130≥wX
  ·rw [if_pos c7] at H
   have jc:=decide_eq_true c7
   clear c7
   replace H:=zO H
   obtain ⟨apI,A8,H⟩:=H
   try dsimp only at H
   obtain rfl:=Option.some.inj H
   go_enter Tryz.func130,Tryz.ntmps130
   go_wp2_with (first|((with_reducible refine ay (f:=154) rfl ?_);refine aH (some 21) rfl rfl Tryz.func154 (by kernel_rfl) rfl #[.int .i64 a0,.int .i64 a1] rfl zL ?_;(with_reducible refine (ku.calls a0 a1 t130 t131 lZ _ A5.out).mono ?_);rintro e w' ⟨rfl,⟨nd,rfl⟩⟩;refine ⟨_,rfl,?_⟩)|((with_reducible refine ay (f:=155) rfl ?_);refine aH (some 26) rfl rfl Tryz.func155 (by kernel_rfl) rfl #[.int .i64 a2] rfl zL ?_;(with_reducible refine (nI.calls a2 wX _ A6.out).mono ?_);rintro e w' ⟨rfl,⟨nd,rfl⟩⟩;refine ⟨_,rfl,?_⟩)|((with_reducible refine ay (f:=156) rfl ?_);refine aH (some 35) rfl rfl Tryz.func156 (by kernel_rfl) rfl #[.int .u64 1,.int .u64 0,.bool (lZ != (decide (a2 < 0)))] rfl zL ?_;(with_reducible refine (cO.calls k 1 0 (lZ != (decide (a2 < 0))) apI _ A8.out).mono ?_);rintro e w' ⟨rfl,⟨nd,rfl⟩⟩;refine ⟨_,rfl,?_⟩))
   go_ret
   exact ⟨zT,zW⟩
  ·rw [if_neg c7] at H
   have jc:=decide_eq_false c7
   clear c7
   replace H:=zO H
   obtain ⟨⟨tX,ahS⟩,A9,H⟩:=H
   try dsimp only at H
   rcases Bool.eq_false_or_eq_true (lZ != (decide (a2 < 0))) with hsv|hsv
   ·have rX:(lZ != (decide (a2 < 0)))=true:=hsv
    have amy:(lZ == (decide (a2 < 0)))=false:=by simpa using hsv
    have afS:=aj.mk H
    clear H
    go_enter Tryz.func130,Tryz.ntmps130
    go_upto_region 11 with (first|((with_reducible refine ay (f:=154) rfl ?_);refine aH (some 21) rfl rfl Tryz.func154 (by kernel_rfl) rfl #[.int .i64 a0,.int .i64 a1] rfl zL ?_;(with_reducible refine (ku.calls a0 a1 t130 t131 lZ _ A5.out).mono ?_);rintro e w' ⟨rfl,⟨nd,rfl⟩⟩;refine ⟨_,rfl,?_⟩)|((with_reducible refine ay (f:=155) rfl ?_);refine aH (some 26) rfl rfl Tryz.func155 (by kernel_rfl) rfl #[.int .i64 a2] rfl zL ?_;(with_reducible refine (nI.calls a2 wX _ A6.out).mono ?_);rintro e w' ⟨rfl,⟨nd,rfl⟩⟩;refine ⟨_,rfl,?_⟩)|((with_reducible refine ay (f:=157) rfl ?_);refine aH (some 40) rfl rfl Tryz.func157 (by kernel_rfl) rfl #[.int .u64 t130,.int .u64 t131,.int .u64 wX] rfl zL ?_;(with_reducible refine (aT.calls k t130 t131 wX tX ahS _ A9.out).mono ?_);rintro e w' ⟨rfl,⟨nd,rfl⟩⟩;refine ⟨_,rfl,?_⟩))
    (try simp only [Act.put,List.setIfInBounds_toArray,List.set_cons_zero,List.set_cons_succ])
    go_cut [60] (fun v60 wc=>∃ (kq:Nat) (aaY:Bool),v60 = .bool aaY∧aj (aX.j0 kq (lZ != (decide (a2 < 0))) tX 0 aaY=some r)∧aj (kq≤k)∧dw w wc)
    case first =>
     have H:=afS.out
     clear afS
     by_cases c11:(lZ != (decide (a2 < 0)))=true
     ·rw [if_pos c11] at H
      have iH:(lZ != (decide (a2 < 0)))=true:=c11
      (try (have wF:decide (lZ=(decide (a2 < 0)))=false:=by simpa using c11))
      (try (have amA:(lZ == (decide (a2 < 0)))=false:=by simpa using c11))
      (try (have auL:¬ (lZ=(decide (a2 < 0))):=by simpa using c11))
      clear c11
      (first|rw [iH]|(simp only [bY,cZ];rw [iH])|skip)
      by_cases c12:ahS > (IntKind.u64.wrap (wX - ahS))
      ·rw [if_pos c12] at H
       have aal:=decide_eq_true c12
       clear c12
       have H':=aj.mk H
       clear H
       go_wp2
       go_meet
       case rel=>exact ⟨_,(true),zT,H',⟨by first|omega|exact Nat.le_refl _⟩,zW⟩
      ·rw [if_neg c12] at H
       have aal:=decide_eq_false c12
       clear c12
       by_cases c13:((lZ != (decide (a2 < 0)))=true)
       ·rw [if_pos c13] at H
        have abV:(lZ != (decide (a2 < 0)))=true:=c13
        (try (have amV:decide (lZ=(decide (a2 < 0)))=false:=by simpa using c13))
        (try (have aAh:(lZ == (decide (a2 < 0)))=false:=by simpa using c13))
        (try (have aAi:¬ (lZ=(decide (a2 < 0))):=by simpa using c13))
        clear c13
        have H':=aj.mk H
        clear H
        go_wp2
        go_meet
        case rel=>exact ⟨_,(false),zT,H',⟨by first|omega|exact Nat.le_refl _⟩,zW⟩
       ·rw [if_neg c13] at H
        have abV:(lZ != (decide (a2 < 0)))=false:=by simpa using c13
        exact absurd (rX.symm.trans abV) (by decide)
     ·rw [if_neg c11] at H
      have iH:(lZ != (decide (a2 < 0)))=false:=by simpa using c11
      exact absurd (rX.symm.trans iH) (by decide)
    case rest =>
     clear afS
     obtain ⟨kq,aaY,rfl,HA,HJ9,⟨mc9,rfl⟩⟩:=hcut
     cases kq with
     | zero=>exact absurd HA.out (by simp [aX.j0])
     | succ kj9 =>
      have H:=HA.out
      clear HA
      simp only [aX.j0] at H
      by_cases c15:aaY=true
      ·subst c15
       rw [if_pos rfl] at H;try dsimp only at H
       replace H:=zO H
       obtain ⟨aku,A16,H⟩:=H
       try dsimp only at H
       obtain rfl:=Option.some.inj H
       go_wp2_with (first|((with_reducible refine ay (f:=156) rfl ?_);refine aH (some 70) rfl rfl Tryz.func156 (by kernel_rfl) rfl #[.int .u64 (pq tX 1 0),.int .u64 (o9 tX 1 0),.bool true] rfl zL ?_;(with_reducible refine (cO.calls kj9 (pq tX 1 0) (o9 tX 1 0) true aku _ (by have h:=A16.out;rw [rX] at h;exact h)).mono ?_);rintro e w' ⟨rfl,⟨nd,rfl⟩⟩;refine ⟨_,rfl,?_⟩))
       go_ret
       exact ⟨zT,zW⟩
      ·replace c15:=Bool.eq_false_iff.mpr c15
       subst c15
       rw [if_neg (show ¬ (false=true) by decide)] at H;try dsimp only at H
       replace H:=zO H
       obtain ⟨t138,A17,H⟩:=H
       try dsimp only at H
       obtain rfl:=Option.some.inj H
       go_wp2_with (first|((with_reducible refine ay (f:=156) rfl ?_);refine aH (some 70) rfl rfl Tryz.func156 (by kernel_rfl) rfl #[.int .u64 (pq tX 0 0),.int .u64 (o9 tX 0 0),.bool true] rfl zL ?_;(with_reducible refine (cO.calls kj9 (pq tX 0 0) (o9 tX 0 0) true t138 _ (by have h:=A17.out;rw [rX] at h;exact h)).mono ?_);rintro e w' ⟨rfl,⟨nd,rfl⟩⟩;refine ⟨_,rfl,?_⟩))
       go_ret
       exact ⟨zT,zW⟩
   ·have rX:(lZ != (decide (a2 < 0)))=false:=hsv
    have amy:(lZ == (decide (a2 < 0)))=true:=by simpa using hsv
    have afS:=aj.mk H
    clear H
    go_enter Tryz.func130,Tryz.ntmps130
    go_upto_region 11 with (first|((with_reducible refine ay (f:=154) rfl ?_);refine aH (some 21) rfl rfl Tryz.func154 (by kernel_rfl) rfl #[.int .i64 a0,.int .i64 a1] rfl zL ?_;(with_reducible refine (ku.calls a0 a1 t130 t131 lZ _ A5.out).mono ?_);rintro e w' ⟨rfl,⟨nd,rfl⟩⟩;refine ⟨_,rfl,?_⟩)|((with_reducible refine ay (f:=155) rfl ?_);refine aH (some 26) rfl rfl Tryz.func155 (by kernel_rfl) rfl #[.int .i64 a2] rfl zL ?_;(with_reducible refine (nI.calls a2 wX _ A6.out).mono ?_);rintro e w' ⟨rfl,⟨nd,rfl⟩⟩;refine ⟨_,rfl,?_⟩)|((with_reducible refine ay (f:=157) rfl ?_);refine aH (some 40) rfl rfl Tryz.func157 (by kernel_rfl) rfl #[.int .u64 t130,.int .u64 t131,.int .u64 wX] rfl zL ?_;(with_reducible refine (aT.calls k t130 t131 wX tX ahS _ A9.out).mono ?_);rintro e w' ⟨rfl,⟨nd,rfl⟩⟩;refine ⟨_,rfl,?_⟩))
    (try simp only [Act.put,List.setIfInBounds_toArray,List.set_cons_zero,List.set_cons_succ])
    go_cut [60] (fun v60 wc=>∃ (kq:Nat) (aaY:Bool),v60 = .bool aaY∧aj (aX.j0 kq (lZ != (decide (a2 < 0))) tX 0 aaY=some r)∧aj (kq≤k)∧dw w wc)
    case first =>
     have H:=afS.out
     clear afS
     by_cases c11:(lZ != (decide (a2 < 0)))=true
     ·rw [if_pos c11] at H
      have iH:(lZ != (decide (a2 < 0)))=true:=c11
      exact absurd (rX.symm.trans iH) (by decide)
     ·rw [if_neg c11] at H
      have iH:(lZ != (decide (a2 < 0)))=false:=by simpa using c11
      (try (have wF:decide (lZ=(decide (a2 < 0)))=true:=by simpa using c11))
      (try (have amA:(lZ == (decide (a2 < 0)))=true:=by simpa using c11))
      clear c11
      (first|rw [iH]|(simp only [bY,cZ];rw [iH])|skip)
      by_cases c14:((lZ != (decide (a2 < 0)))=true)
      ·rw [if_pos c14] at H
       have abO:(lZ != (decide (a2 < 0)))=true:=c14
       exact absurd (rX.symm.trans abO) (by decide)
      ·rw [if_neg c14] at H
       have abO:(lZ != (decide (a2 < 0)))=false:=by simpa using c14
       (try (have amO:decide (lZ=(decide (a2 < 0)))=true:=by simpa using c14))
       (try (have aAj:(lZ == (decide (a2 < 0)))=true:=by simpa using c14))
       clear c14
       have H':=aj.mk H
       clear H
       go_wp2
       go_meet
       case rel=>exact ⟨_,(decide (ahS≥(IntKind.u64.wrap (wX - ahS)))),zT,H',⟨by first|omega|exact Nat.le_refl _⟩,zW⟩
    case rest =>
     clear afS
     obtain ⟨kq,aaY,rfl,HA,HJ9,⟨mc9,rfl⟩⟩:=hcut
     cases kq with
     | zero=>exact absurd HA.out (by simp [aX.j0])
     | succ kj9 =>
      have H:=HA.out
      clear HA
      simp only [aX.j0] at H
      by_cases c15:aaY=true
      ·subst c15
       rw [if_pos rfl] at H;try dsimp only at H
       replace H:=zO H
       obtain ⟨aku,A16,H⟩:=H
       try dsimp only at H
       obtain rfl:=Option.some.inj H
       go_wp2_with (first|((with_reducible refine ay (f:=156) rfl ?_);refine aH (some 70) rfl rfl Tryz.func156 (by kernel_rfl) rfl #[.int .u64 (pq tX 1 0),.int .u64 (o9 tX 1 0),.bool false] rfl zL ?_;(with_reducible refine (cO.calls kj9 (pq tX 1 0) (o9 tX 1 0) false aku _ (by have h:=A16.out;rw [rX] at h;exact h)).mono ?_);rintro e w' ⟨rfl,⟨nd,rfl⟩⟩;refine ⟨_,rfl,?_⟩))
       go_ret
       exact ⟨zT,zW⟩
      ·replace c15:=Bool.eq_false_iff.mpr c15
       subst c15
       rw [if_neg (show ¬ (false=true) by decide)] at H;try dsimp only at H
       replace H:=zO H
       obtain ⟨t138,A17,H⟩:=H
       try dsimp only at H
       obtain rfl:=Option.some.inj H
       go_wp2_with (first|((with_reducible refine ay (f:=156) rfl ?_);refine aH (some 70) rfl rfl Tryz.func156 (by kernel_rfl) rfl #[.int .u64 (pq tX 0 0),.int .u64 (o9 tX 0 0),.bool false] rfl zL ?_;(with_reducible refine (cO.calls kj9 (pq tX 0 0) (o9 tX 0 0) false t138 _ (by have h:=A17.out;rw [rX] at h;exact h)).mono ?_);rintro e w' ⟨rfl,⟨nd,rfl⟩⟩;refine ⟨_,rfl,?_⟩))
       go_ret
       exact ⟨zT,zW⟩
def fF.j0:Nat→Int→Int→Bool→Option (Int)
 | 0,_,_,_=>none
 | k+1,x0,x1,x23=>if x23=true then (some 0) else (if (mx x0 (wrap64 (-x0)))≥x1 then ((aX.f k (wrap64 ((wrap64 ((wrap64 ((wrap64 ((wrap64 ((wrap64 (-(mx x0 (wrap64 (-x0)))))*(mx x0 (wrap64 (-x0)))))*(mx x0 (wrap64 (-x0)))))+(wrap64 ((wrap64 ((wrap64 (5*(mx x0 (wrap64 (-x0)))))*(mx x0 (wrap64 (-x0)))))*x1)))) - (wrap64 ((wrap64 ((wrap64 (8*(mx x0 (wrap64 (-x0)))))*x1))*x1))))+(wrap64 ((wrap64 ((wrap64 (4*x1))*x1))*x1)))) 1073741824 (wrap64 ((wrap64 ((wrap64 (2*x1))*x1))*x1))).bind fun t139=>(some t139)) else ((aX.f k (wrap64 ((wrap64 ((wrap64 ((wrap64 ((wrap64 (3*(mx x0 (wrap64 (-x0)))))*(mx x0 (wrap64 (-x0)))))*(mx x0 (wrap64 (-x0))))) - (wrap64 ((wrap64 ((wrap64 (5*(mx x0 (wrap64 (-x0)))))*(mx x0 (wrap64 (-x0)))))*x1))))+(wrap64 ((wrap64 ((wrap64 (2*x1))*x1))*x1)))) 1073741824 (wrap64 ((wrap64 ((wrap64 (2*x1))*x1))*x1))).bind fun akv=>(some akv)))
def fF.f (k:Nat) (a0 a1:Int):Option (Int):=if a1 < 1 then (fF.j0 k a0 a1 true) else (if a1 > 262144 then (fF.j0 k a0 a1 true) else (if a0≥(wrap64 (2*a1)) then (fF.j0 k a0 a1 true) else (fF.j0 k a0 a1 (decide (a0≤(wrap64 ((-2)*a1)))))))
theorem fF.iU:∀ k,(∀ y0 y1 y2,LeO (fF.j0 k y0 y1 y2) (fF.j0 (k+1) y0 y1 y2))
 | 0=>fun _ _ _ r h=>by simp [fF.j0] at h
 | k+1=>by
  have ih0:=fF.iU k
  ·intro y0 y1 y2
   unfold fF.j0
   repeat' (with_reducible first|exact ih0 _ _ _|exact aX.mono _ _ _ _|exact zM|refine LeO.ite ?_ ?_|refine LeO.bind ?_ (fun _ => ?_))
theorem fF.mono:∀ a0 a1 k,LeO (fF.f k a0 a1) (fF.f (k+1) a0 a1):=by
 intro a0 a1 k
 have ih0:=fF.iU k
 unfold fF.f
 repeat' (with_reducible first|exact ih0 _ _ _|exact aX.mono _ _ _ _|exact zM|refine LeO.ite ?_ ?_|refine LeO.bind ?_ (fun _ => ?_))
set_option maxHeartbeats 8000000 in
set_option maxRecDepth 100000 in
theorem fF.calls (k:Nat) (a0 a1 r:Int) (w:World) (h:fF.f k a0 a1=some r) :
  Calls Tryz.prog 108 #[.int .i64 a0,.int .i64 a1] w fun e w'=>e = .returned (.int .i64 r)∧Below w.heap.size w w':=by
 have HB:=aj.mk (Below.refl w.heap.size w)
 have H:=h
 clear h
 unfold fF.f at H
 have HC3:=aj.mk H
 clear H
 go_enter Tryz.func108,Tryz.ntmps108
 go_upto_region 1 with (fail)
 go_cut [23] (fun v23 wc=>∃ (kq:Nat) (ai9:Bool),v23 = .bool ai9∧aj (fF.j0 kq a0 a1 ai9=some r)∧aj (kq≤k)∧aj (Below w.heap.size w wc))
 case first =>
  have H:=HC3.out
  clear HC3
  by_cases c4:a1 < 1
  ·rw [if_pos c4] at H
   have fE:=decide_eq_true c4
   clear c4
   (first|rw [fE]|(simp only [bY,cZ];rw [fE])|skip)
   have H':=aj.mk H
   clear H
   go_wp2
   go_meet
   case rel=>exact ⟨_,(true),zT,H',⟨by first|omega|exact Nat.le_refl _⟩,⟨zB⟩⟩
  ·rw [if_neg c4] at H
   have fE:=decide_eq_false c4
   clear c4
   (first|rw [fE]|(simp only [bY,cZ];rw [fE])|skip)
   by_cases c5:a1 > 262144
   ·rw [if_pos c5] at H
    have iw:=decide_eq_true c5
    clear c5
    have H':=aj.mk H
    clear H
    go_wp2
    go_meet
    case rel=>exact ⟨_,(true),zT,H',⟨by first|omega|exact Nat.le_refl _⟩,⟨zB⟩⟩
   ·rw [if_neg c5] at H
    have iw:=decide_eq_false c5
    clear c5
    by_cases c6:a0≥(wrap64 (2*a1))
    ·rw [if_pos c6] at H
     have gQ:=decide_eq_true c6
     clear c6
     have H':=aj.mk H
     clear H
     go_wp2
     go_meet
     case rel=>exact ⟨_,(true),zT,H',⟨by first|omega|exact Nat.le_refl _⟩,⟨zB⟩⟩
    ·rw [if_neg c6] at H
     have gQ:=decide_eq_false c6
     clear c6
     have H':=aj.mk H
     clear H
     go_wp2
     go_meet
     case rel=>exact ⟨_,(decide (a0≤(wrap64 ((-2)*a1)))),zT,H',⟨by first|omega|exact Nat.le_refl _⟩,⟨zB⟩⟩
 case rest =>
  clear HC3
  obtain ⟨kq,ai9,rfl,HA,HJ2,HB⟩:=hcut
  cases kq with
  | zero=>exact absurd HA.out (by simp [fF.j0])
  | succ kj2 =>
   have H:=HA.out
   clear HA
   simp only [fF.j0] at H
   by_cases c7:ai9=true
   ·subst c7
    rw [if_pos rfl] at H;try dsimp only at H
    obtain rfl:=Option.some.inj H
    go_wp2
    go_ret
    exact ⟨zS,zB⟩
   ·replace c7:=Bool.eq_false_iff.mpr c7
    subst c7
    rw [if_neg (show ¬ (false=true) by decide)] at H;try dsimp only at H
    obtain ⟨ji8,qm⟩:∃ j_:Int,(mx a0 (wrap64 (-a0)))=j_:=⟨_,rfl⟩
    replace H:(if (ji8)≥a1 then ((aX.f kj2 (wrap64 ((wrap64 ((wrap64 ((wrap64 ((wrap64 ((wrap64 (-(ji8)))*(ji8)))*(ji8)))+(wrap64 ((wrap64 ((wrap64 (5*(ji8)))*(ji8)))*a1)))) - (wrap64 ((wrap64 ((wrap64 (8*(ji8)))*a1))*a1))))+(wrap64 ((wrap64 ((wrap64 (4*a1))*a1))*a1)))) 1073741824 (wrap64 ((wrap64 ((wrap64 (2*a1))*a1))*a1))).bind fun t139=>(some t139)) else ((aX.f kj2 (wrap64 ((wrap64 ((wrap64 ((wrap64 ((wrap64 (3*(ji8)))*(ji8)))*(ji8))) - (wrap64 ((wrap64 ((wrap64 (5*(ji8)))*(ji8)))*a1))))+(wrap64 ((wrap64 ((wrap64 (2*a1))*a1))*a1)))) 1073741824 (wrap64 ((wrap64 ((wrap64 (2*a1))*a1))*a1))).bind fun akv=>(some akv)))=some r:=by first|(rw [qm] at H;exact H)|(simp only [qm] at H ⊢;exact H)
    have aqJ:(if a0 < (wrap64 (-a0)) then (wrap64 (-a0)) else a0)=ji8:=qm
    by_cases c9:(ji8)≥a1
    ·rw [if_pos c9] at H
     have pz:=decide_eq_true c9
     clear c9
     replace H:=zO H
     obtain ⟨t139,A10,H⟩:=H
     try dsimp only at H
     obtain rfl:=Option.some.inj H
     go_wp2_with (first|((with_reducible refine ay (f:=130) rfl ?_);refine aH (some 85) rfl rfl Tryz.func130 (by kernel_rfl) rfl #[.int .i64 (wrap64 ((wrap64 ((wrap64 ((wrap64 ((wrap64 ((wrap64 (-(ji8)))*(ji8)))*(ji8)))+(wrap64 ((wrap64 ((wrap64 (5*(ji8)))*(ji8)))*a1)))) - (wrap64 ((wrap64 ((wrap64 (8*(ji8)))*a1))*a1))))+(wrap64 ((wrap64 ((wrap64 (4*a1))*a1))*a1)))),.int .i64 1073741824,.int .i64 (wrap64 ((wrap64 ((wrap64 (2*a1))*a1))*a1))] rfl (by (try simp only [List.map_toArray,List.map_cons,List.map_nil]);first|done|(simp only [qm];rfl)|(simp only [Int.tdiv_eq_ediv_of_nonneg hji8l];rfl)|rfl|(simp only [List.length_drop,List.length_take];rfl)) ?_;(with_reducible refine (aX.calls kj2 (wrap64 ((wrap64 ((wrap64 ((wrap64 ((wrap64 ((wrap64 (-(ji8)))*(ji8)))*(ji8)))+(wrap64 ((wrap64 ((wrap64 (5*(ji8)))*(ji8)))*a1)))) - (wrap64 ((wrap64 ((wrap64 (8*(ji8)))*a1))*a1))))+(wrap64 ((wrap64 ((wrap64 (4*a1))*a1))*a1)))) 1073741824 (wrap64 ((wrap64 ((wrap64 (2*a1))*a1))*a1)) t139 _ A10.out).mono ?_);rintro e w' ⟨rfl,⟨nd,rfl⟩⟩;refine ⟨_,rfl,?_⟩))
     go_ret
     exact ⟨by first|rfl|(simp [bK,bM] <;> rfl)|(simp only [← qm];first|rfl|(simp [bK,bM] <;> rfl))|(simp [*,bK,bM] <;> rfl),zB⟩
    ·rw [if_neg c9] at H
     have pz:=decide_eq_false c9
     clear c9
     replace H:=zO H
     obtain ⟨akv,A11,H⟩:=H
     try dsimp only at H
     obtain rfl:=Option.some.inj H
     go_wp2_with (first|((with_reducible refine ay (f:=130) rfl ?_);refine aH (some 85) rfl rfl Tryz.func130 (by kernel_rfl) rfl #[.int .i64 (wrap64 ((wrap64 ((wrap64 ((wrap64 ((wrap64 (3*(ji8)))*(ji8)))*(ji8))) - (wrap64 ((wrap64 ((wrap64 (5*(ji8)))*(ji8)))*a1))))+(wrap64 ((wrap64 ((wrap64 (2*a1))*a1))*a1)))),.int .i64 1073741824,.int .i64 (wrap64 ((wrap64 ((wrap64 (2*a1))*a1))*a1))] rfl (by (try simp only [List.map_toArray,List.map_cons,List.map_nil]);first|done|(simp only [qm];rfl)|(simp only [Int.tdiv_eq_ediv_of_nonneg hji8l];rfl)|rfl|(simp only [List.length_drop,List.length_take];rfl)) ?_;(with_reducible refine (aX.calls kj2 (wrap64 ((wrap64 ((wrap64 ((wrap64 ((wrap64 (3*(ji8)))*(ji8)))*(ji8))) - (wrap64 ((wrap64 ((wrap64 (5*(ji8)))*(ji8)))*a1))))+(wrap64 ((wrap64 ((wrap64 (2*a1))*a1))*a1)))) 1073741824 (wrap64 ((wrap64 ((wrap64 (2*a1))*a1))*a1)) akv _ A11.out).mono ?_);rintro e w' ⟨rfl,⟨nd,rfl⟩⟩;refine ⟨_,rfl,?_⟩))
     go_ret
     exact ⟨by first|rfl|(simp [bK,bM] <;> rfl)|(simp only [← qm];first|rfl|(simp [bK,bM] <;> rfl))|(simp [*,bK,bM] <;> rfl),zB⟩
end Go.Proofs.YtpondkggmcmpfaaGreatDoor.QA
namespace Go.Proofs.YtpondkggmcmpfaaGreatDoor.QA
open Go.Proofs.YtpondkggmcmpfaaGreatDoor.T
open Go.RowKit Go.Proofs.YtpondkggmcmpfaaGreatDoorW.PrintWords Go.Proofs.YtpondkggmcmpfaaGreatDoorW.PrintLast Go.Proofs.YtpondkggmcmpfaaGreatDoorW.PrintMore
attribute [local go_sem] dZ dS dU fK fM
set_option linter.unusedVariables false
set_option linter.unusedSimpArgs false
def mQ.f (a0 a1:Int):Option (Int):=if a1≤0 then (some a0) else (if a1≥64 then (some 0) else (if 0≤a1 then (if 0≤(wrap64 (a1 - 1)) then (some (wrap64 ((shr .i64 a0 a1)+(Go.bits .and .i64 (shr .i64 a0 (wrap64 (a1 - 1))) 1)))) else (none)) else (none)))
set_option maxHeartbeats 8000000 in
set_option maxRecDepth 100000 in
theorem mQ.calls (a0 a1 r:Int) (w:World) (h:mQ.f a0 a1=some r) :
  Calls Tryz.prog 100 #[.int .i64 a0,.int .i64 a1] w fun e w'=>e = .returned (.int .i64 r)∧dw w w':=by
 have H:=h
 clear h
 unfold mQ.f at H
 by_cases c3:a1≤0
 ·rw [if_pos c3] at H
  have fP:=decide_eq_true c3
  clear c3
  obtain rfl:=Option.some.inj H
  go_enter Tryz.func100,Tryz.ntmps100
  go_wp2
  repeat (go_quiet (fail);try go_wp2)
  go_ret
  exact ⟨zT,zW⟩
 ·rw [if_neg c3] at H
  have fP:=decide_eq_false c3
  clear c3
  by_cases c4:a1≥64
  ·rw [if_pos c4] at H
   have fE:=decide_eq_true c4
   clear c4
   obtain rfl:=Option.some.inj H
   go_enter Tryz.func100,Tryz.ntmps100
   go_wp2
   repeat (go_quiet (fail);try go_wp2)
   go_ret
   exact ⟨zT,zW⟩
  ·rw [if_neg c4] at H
   have fE:=decide_eq_false c4
   clear c4
   by_cases c5:0≤a1
   ·rw [if_pos c5] at H
    have iw:=eq_true c5
    have abo:=decide_eq_true c5
    clear c5
    obtain ⟨ji6,wR⟩:∃ j_:Int,(shr .i64 a0 a1)=j_:=⟨_,rfl⟩
    replace H:(if 0≤(wrap64 (a1 - 1)) then (some (wrap64 ((ji6)+(Go.bits .and .i64 (shr .i64 a0 (wrap64 (a1 - 1))) 1)))) else (none))=some r:=by first|(rw [wR] at H;exact H)|(simp only [wR] at H ⊢;exact H)
    have atv:(a0 / 2 ^ min a1.toNat 64)=ji6:=wR
    have atw:a1≤64→(a0 / 2 ^ a1.toNat)=ji6:=o8 wR
    obtain ⟨ji7,wY⟩:∃ j_:Int,(wrap64 (a1 - 1))=j_:=⟨_,rfl⟩
    replace H:(if 0≤(ji7) then (some (wrap64 ((ji6)+(Go.bits .and .i64 (shr .i64 a0 (ji7)) 1)))) else (none))=some r:=by first|(rw [wY] at H;exact H)|(simp only [wY] at H ⊢;exact H)
    have aAk:(IntKind.i64.wrap (a1 - 1))=ji7:=(bY _).trans wY
    by_cases c8:0≤(ji7)
    ·rw [if_pos c8] at H
     have uy:=eq_true c8
     have abd:=decide_eq_true c8
     clear c8
     obtain ⟨ji9,mP⟩:∃ j_:Int,(shr .i64 a0 (ji7))=j_:=⟨_,rfl⟩
     replace H:(some (wrap64 ((ji6)+(Go.bits .and .i64 (ji9) 1))))=some r:=by first|(rw [mP] at H;exact H)|(simp only [mP] at H ⊢;exact H)
     have alP:(a0 / 2 ^ min (ji7).toNat 64)=ji9:=mP
     have auZ:(ji7)≤64→(a0 / 2 ^ (ji7).toNat)=ji9:=o8 mP
     obtain rfl:=Option.some.inj H
     go_enter Tryz.func100,Tryz.ntmps100
     go_wp2
     repeat (go_quiet (fail);try go_wp2)
     go_ret
     exact ⟨by first|rfl|(simp;done)|(simp only [← wR,← wY,← mP] <;> (first|rfl|simp))|(simp [*];done),zW⟩
    ·rw [if_neg c8] at H
     exact absurd H (by simp)
   ·rw [if_neg c5] at H
    exact absurd H (by simp)
def vO.f (a0 a1:Int):Option (Bool):=if a1≥1 then (if a1≤1048576 then (if a0≥(wrap64 ((-4)*a1)) then (some (decide (a0≤(wrap64 (4*a1))))) else (some false)) else (some false)) else (some false)
set_option maxHeartbeats 8000000 in
set_option maxRecDepth 100000 in
theorem vO.calls (a0 a1:Int) (r:Bool) (w:World) (h:vO.f a0 a1=some r) :
  Calls Tryz.prog 174 #[.int .i64 a0,.int .i64 a1] w fun e w'=>e = .returned (.bool r)∧dw w w':=by
 have H:=h
 clear h
 unfold vO.f at H
 by_cases c3:a1≥1
 ·rw [if_pos c3] at H
  have fP:=decide_eq_true c3
  clear c3
  by_cases c4:a1≤1048576
  ·rw [if_pos c4] at H
   have fE:=decide_eq_true c4
   clear c4
   by_cases c5:a0≥(wrap64 ((-4)*a1))
   ·rw [if_pos c5] at H
    have iw:=decide_eq_true c5
    clear c5
    obtain rfl:=Option.some.inj H
    go_enter Tryz.func174,Tryz.ntmps174
    go_wp2
    go_ret
    exact ⟨zT,zW⟩
   ·rw [if_neg c5] at H
    have iw:=decide_eq_false c5
    clear c5
    obtain rfl:=Option.some.inj H
    go_enter Tryz.func174,Tryz.ntmps174
    go_wp2
    go_ret
    exact ⟨zT,zW⟩
  ·rw [if_neg c4] at H
   have fE:=decide_eq_false c4
   clear c4
   obtain rfl:=Option.some.inj H
   go_enter Tryz.func174,Tryz.ntmps174
   go_wp2
   go_ret
   exact ⟨zT,zW⟩
 ·rw [if_neg c3] at H
  have fP:=decide_eq_false c3
  clear c3
  obtain rfl:=Option.some.inj H
  go_enter Tryz.func174,Tryz.ntmps174
  go_wp2
  go_ret
  exact ⟨zT,zW⟩
def rH.f (a0:Int):Option (Int):=some (mx a0 (wrap64 (-a0)))
set_option maxHeartbeats 8000000 in
set_option maxRecDepth 100000 in
theorem rH.calls (a0 r:Int) (w:World) (h:rH.f a0=some r) :
  Calls Tryz.prog 175 #[.int .i64 a0] w fun e w'=>e = .returned (.int .i64 r)∧Below w.heap.size w w':=by
 have HB:=aj.mk (Below.refl w.heap.size w)
 have H:=h
 clear h
 unfold rH.f at H
 obtain ⟨ji2,aad⟩:∃ j_:Int,(mx a0 (wrap64 (-a0)))=j_:=⟨_,rfl⟩
 replace H:(some ji2)=some r:=by first|(rw [aad] at H;exact H)|(simp only [aad] at H ⊢;exact H)
 have au0:(if a0 < (wrap64 (-a0)) then (wrap64 (-a0)) else a0)=ji2:=aad
 obtain rfl:=Option.some.inj H
 go_enter Tryz.func175,Tryz.ntmps175
 go_wp2
 go_ret
 exact ⟨by first|rfl|(simp [bK,bM] <;> rfl)|(simp only [← aad];first|rfl|(simp [bK,bM] <;> rfl))|(simp [*,bK,bM] <;> rfl),zB⟩
def nY.f (a0 a1 a2:Int):Option (Int × Int):=if a2≥64 then (if 0≤(wrap64 (a2 - 64)) then (some (0,shr .u64 a0 (wrap64 (a2 - 64)))) else (none)) else (if 0≤a2 then (if 0≤(wrap64 (64 - a2)) then (some (shr .u64 a0 a2,Go.bits .or .u64 (shr .u64 a1 a2) (shl .u64 a0 (wrap64 (64 - a2))))) else (none)) else (none))
set_option maxHeartbeats 8000000 in
set_option maxRecDepth 100000 in
theorem nY.calls (a0 a1 a2 r1 r2:Int) (w:World) (h:nY.f a0 a1 a2=some (r1,r2)) :
  Calls Tryz.prog 188 #[.int .u64 a0,.int .u64 a1,.int .i64 a2] w fun e w'=>e = .returned (.tuple #[.int .u64 r1,.int .u64 r2])∧dw w w':=by
 have H:=h
 clear h
 unfold nY.f at H
 by_cases c4:a2≥64
 ·rw [if_pos c4] at H
  have fE:=decide_eq_true c4
  clear c4
  obtain ⟨ji5,amW⟩:∃ j_:Int,(wrap64 (a2 - 64))=j_:=⟨_,rfl⟩
  replace H:(if 0≤(ji5) then (some (0,shr .u64 a0 (ji5))) else (none))=some (r1,r2):=by first|(rw [amW] at H;exact H)|(simp only [amW] at H ⊢;exact H)
  have aAl:(IntKind.i64.wrap (a2 - 64))=ji5:=(bY _).trans amW
  by_cases c6:0≤(ji5)
  ·rw [if_pos c6] at H
   have gQ:=eq_true c6
   have uw:=decide_eq_true c6
   clear c6
   obtain ⟨ji7,wY⟩:∃ j_:Int,(shr .u64 a0 (ji5))=j_:=⟨_,rfl⟩
   replace H:(some (0,ji7))=some (r1,r2):=by first|(rw [wY] at H;exact H)|(simp only [wY] at H ⊢;exact H)
   have au1:(a0 / 2 ^ min (ji5).toNat 64)=ji7:=wY
   have aAm:(ji5)≤64→(a0 / 2 ^ (ji5).toNat)=ji7:=o8 wY
   simp only [Option.some.injEq,Prod.mk.injEq] at H
   obtain ⟨rfl,rfl⟩:=H
   go_enter Tryz.func188,Tryz.ntmps188
   go_wp2
   repeat (go_quiet (fail);try go_wp2)
   go_ret2
   exact ⟨by first|rfl|(simp;done)|(simp only [← amW,← wY] <;> (first|rfl|simp))|(simp [*];done),zW⟩
  ·rw [if_neg c6] at H
   exact absurd H (by simp)
 ·rw [if_neg c4] at H
  have fE:=decide_eq_false c4
  clear c4
  by_cases c8:0≤a2
  ·rw [if_pos c8] at H
   have uy:=eq_true c8
   have abd:=decide_eq_true c8
   clear c8
   obtain ⟨ji9,mP⟩:∃ j_:Int,(shr .u64 a0 a2)=j_:=⟨_,rfl⟩
   replace H:(if 0≤(wrap64 (64 - a2)) then (some (ji9,Go.bits .or .u64 (shr .u64 a1 a2) (shl .u64 a0 (wrap64 (64 - a2))))) else (none))=some (r1,r2):=by first|(rw [mP] at H;exact H)|(simp only [mP] at H ⊢;exact H)
   have alP:(a0 / 2 ^ min a2.toNat 64)=ji9:=mP
   have auZ:a2≤64→(a0 / 2 ^ a2.toNat)=ji9:=o8 mP
   have pX:=eq_true (of_decide_eq_true (by first|(with_reducible assumption)|assumption):0≤a2)
   obtain ⟨adb,yX⟩:∃ j_:Int,(shr .u64 a1 a2)=j_:=⟨_,rfl⟩
   replace H:(if 0≤(wrap64 (64 - a2)) then (some (ji9,Go.bits .or .u64 (adb) (shl .u64 a0 (wrap64 (64 - a2))))) else (none))=some (r1,r2):=by first|(rw [yX] at H;exact H)|(simp only [yX] at H ⊢;exact H)
   have asX:(a1 / 2 ^ min a2.toNat 64)=adb:=yX
   have asY:a2≤64→(a1 / 2 ^ a2.toNat)=adb:=o8 yX
   obtain ⟨jM,sV⟩:∃ j_:Int,(wrap64 (64 - a2))=j_:=⟨_,rfl⟩
   replace H:(if 0≤(jM) then (some (ji9,Go.bits .or .u64 (adb) (shl .u64 a0 (jM)))) else (none))=some (r1,r2):=by first|(rw [sV] at H;exact H)|(simp only [sV] at H ⊢;exact H)
   have ax2:(IntKind.i64.wrap (64 - a2))=jM:=(bY _).trans sV
   by_cases c13:0≤(jM)
   ·rw [if_pos c13] at H
    have abV:=eq_true c13
    have amV:=decide_eq_true c13
    clear c13
    obtain ⟨apJ,agU⟩:∃ j_:Int,(shl .u64 a0 (jM))=j_:=⟨_,rfl⟩
    replace H:(some (ji9,Go.bits .or .u64 (adb) (apJ)))=some (r1,r2):=by first|(rw [agU] at H;exact H)|(simp only [agU] at H ⊢;exact H)
    have ax3:(IntKind.u64.wrap (a0*2 ^ min (jM).toNat 64))=apJ:=agU
    have ax4:(jM)≤64→(IntKind.u64.wrap (a0*2 ^ (jM).toNat))=apJ:=xU agU
    simp only [Option.some.injEq,Prod.mk.injEq] at H
    obtain ⟨rfl,rfl⟩:=H
    go_enter Tryz.func188,Tryz.ntmps188
    go_wp2
    repeat (go_quiet (fail);try go_wp2)
    go_ret2
    exact ⟨by first|rfl|(simp;done)|(simp only [← mP,← yX,← sV,← agU] <;> (first|rfl|simp))|(simp [*];done),zW⟩
   ·rw [if_neg c13] at H
    exact absurd H (by simp)
  ·rw [if_neg c8] at H
   exact absurd H (by simp)
def rG.f (a0 a1 a2:Int):Option (Bool):=if a2≥64 then (if a1=0 then (if 0≤(wrap64 (128 - a2)) then (some ((shl .u64 a0 (wrap64 (128 - a2))) == 0)) else (none)) else (some false)) else (if 0≤(wrap64 (64 - a2)) then (some ((shl .u64 a1 (wrap64 (64 - a2))) == 0)) else (none))
set_option maxHeartbeats 8000000 in
set_option maxRecDepth 100000 in
theorem rG.calls (a0 a1 a2:Int) (r:Bool) (w:World) (h:rG.f a0 a1 a2=some r) :
  Calls Tryz.prog 189 #[.int .u64 a0,.int .u64 a1,.int .i64 a2] w fun e w'=>e = .returned (.bool r)∧dw w w':=by
 have H:=h
 clear h
 unfold rG.f at H
 by_cases c4:a2≥64
 ·rw [if_pos c4] at H
  have fE:=decide_eq_true c4
  clear c4
  by_cases c5:a1=0
  ·rw [if_pos c5] at H
   have iw:(a1 == 0)=true:=beq_iff_eq.mpr c5
   have abo:(a1 != 0)=false:=bne_eq_false_iff_eq.mpr c5
   clear c5
   obtain ⟨ji6,wR⟩:∃ j_:Int,(wrap64 (128 - a2))=j_:=⟨_,rfl⟩
   replace H:(if 0≤(ji6) then (some ((shl .u64 a0 (ji6)) == 0)) else (none))=some r:=by first|(rw [wR] at H;exact H)|(simp only [wR] at H ⊢;exact H)
   have aAn:(IntKind.i64.wrap (128 - a2))=ji6:=(bY _).trans wR
   by_cases c7:0≤(ji6)
   ·rw [if_pos c7] at H
    have jc:=eq_true c7
    have abb:=decide_eq_true c7
    clear c7
    obtain ⟨ji8,qm⟩:∃ j_:Int,(shl .u64 a0 (ji6))=j_:=⟨_,rfl⟩
    replace H:(some ((ji8) == 0))=some r:=by first|(rw [qm] at H;exact H)|(simp only [qm] at H ⊢;exact H)
    have aqJ:(IntKind.u64.wrap (a0*2 ^ min (ji6).toNat 64))=ji8:=qm
    have aAo:(ji6)≤64→(IntKind.u64.wrap (a0*2 ^ (ji6).toNat))=ji8:=xU qm
    obtain rfl:=Option.some.inj H
    go_enter Tryz.func189,Tryz.ntmps189
    go_wp2
    go_ret
    exact ⟨by first|rfl|(simp;done)|(simp only [← wR,← qm] <;> (first|rfl|simp))|(simp [*];done),zW⟩
   ·rw [if_neg c7] at H
    exact absurd H (by simp)
  ·rw [if_neg c5] at H
   have iw:(a1 == 0)=false:=beq_eq_false_iff_ne.mpr c5
   have abo:(a1 != 0)=true:=bne_iff_ne.mpr c5
   obtain rfl:=Option.some.inj H
   go_enter Tryz.func189,Tryz.ntmps189
   go_wp2
   go_ret
   exact ⟨zT,zW⟩
 ·rw [if_neg c4] at H
  have fE:=decide_eq_false c4
  clear c4
  obtain ⟨ji9,mP⟩:∃ j_:Int,(wrap64 (64 - a2))=j_:=⟨_,rfl⟩
  replace H:(if 0≤(ji9) then (some ((shl .u64 a1 (ji9)) == 0)) else (none))=some r:=by first|(rw [mP] at H;exact H)|(simp only [mP] at H ⊢;exact H)
  have aAp:(IntKind.i64.wrap (64 - a2))=ji9:=(bY _).trans mP
  by_cases c10:0≤(ji9)
  ·rw [if_pos c10] at H
   have pX:=eq_true c10
   have amu:=decide_eq_true c10
   clear c10
   obtain ⟨adb,yX⟩:∃ j_:Int,(shl .u64 a1 (ji9))=j_:=⟨_,rfl⟩
   replace H:(some ((adb) == 0))=some r:=by first|(rw [yX] at H;exact H)|(simp only [yX] at H ⊢;exact H)
   have asX:(IntKind.u64.wrap (a1*2 ^ min (ji9).toNat 64))=adb:=yX
   have asY:(ji9)≤64→(IntKind.u64.wrap (a1*2 ^ (ji9).toNat))=adb:=xU yX
   obtain rfl:=Option.some.inj H
   go_enter Tryz.func189,Tryz.ntmps189
   go_wp2
   go_ret
   exact ⟨by first|rfl|(simp;done)|(simp only [← mP,← yX] <;> (first|rfl|simp))|(simp [*];done),zW⟩
  ·rw [if_neg c10] at H
   exact absurd H (by simp)
end Go.Proofs.YtpondkggmcmpfaaGreatDoor.QA
