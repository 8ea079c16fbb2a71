/- Joined by wip/tools/bundle.py out of: TR5 TY5. -/
import Derived.Test.YtpondkggmcmpfaaGreatDoorBDirectApplies16
set_option maxHeartbeats 8000000
set_option maxRecDepth 100000
namespace Go.Proofs.YtpondkggmcmpfaaGreatDoor.QA
open Go.RowKit Go.Proofs.YtpondkggmcmpfaaGreatDoorW.PrintWords Go.Proofs.YtpondkggmcmpfaaGreatDoorW.PrintLast Go.Proofs.YtpondkggmcmpfaaGreatDoorW.PrintMore Go.Proofs.YtpondkggmcmpfaaGreatDoor.T
set_option linter.unusedVariables false
set_option linter.unusedSimpArgs false
theorem aix {k:Nat} (hk:6<=k) {p j n:Int} (hj:I64 j) (hn:I64 n):bT.f k p j n=some (bat p j n):=by
 obtain ⟨k,rfl⟩:∃ m,k=m+4:=⟨k - 4,by omega⟩;unfold bT.f bat;simp only [bT.j0];by_cases h0:n < 1
 . rw [if_pos h0,if_pos trivial,if_pos (Or.inl h0)]
 rw [if_neg h0];by_cases h1:n > 65536
 . rw [if_pos h1,if_pos trivial,if_pos (Or.inr h1)]
 rw [if_neg h1,if_neg (show ¬ (n < 1\/n > 65536) from by omega)];by_cases h2:p < 0
 . rw [if_pos h2,if_pos trivial,if_neg (by omega),if_neg (by omega),if_neg (by omega)]
 rw [if_neg h2];by_cases h3:p > 2
 . rw [if_pos (decide_eq_true h3),if_neg (by omega),if_neg (by omega),if_neg (by omega)]
 rw [if_neg (show ¬ (decide (p > 2)=true) from by simpa using h3)];by_cases hin:0<=j/\j < n
 . rw [if_pos hin.1];simp only [bT.j1];rw [if_pos (decide_eq_true hin.2)];congr 1
   rw [emod_self hin.1 (show j < 2*n from by omega),emod_self hin.1 hin.2];unfold mx mn;split
   . split <;> split <;> omega
   . split
     . split <;> omega
     . split <;> omega
 have ej:(if j>=0 then bT.j1 (k+3) p j n (decide (j < n)) else bT.j1 (k+3) p j n false)=bT.j1 (k+3) p j n false:=by
   split
   . rw [decide_eq_false (by omega)]
   . rfl
 rw [ej];simp only [bT.j1];rw [if_neg (show ¬ (false=true) from by decide)];rw [aC (show -9223372036854775808<=n - 1 from by omega) (by omega),aC (show -9223372036854775808<=2*n from by omega) (by omega)];by_cases p0:p=0
 . rw [if_pos p0,if_pos p0];unfold mx mn;split
   . congr 1;split <;> split <;> omega
   . congr 1;split <;> split <;> omega
 rw [if_neg p0,if_neg p0,if_neg (by omega),aja j (by omega)];have r0:=Int.emod_nonneg j (show 2*n≠0 from by omega);have r1:=Int.emod_lt_of_pos j (show 0 < 2*n from by omega);have es:j % n=j % (2*n) % n:=(Int.emod_emod_of_dvd j ⟨2,by omega⟩).symm;rw [es];generalize j % (2*n)=r at *
 have fin:∀ m,bT.l0 (m+1) p n r=some (if p=1 then mn r (2*n - 1 - r) else if p=2 then r % n else 0):=by
   intro m;simp only [bT.l0];rw [if_neg (by omega),aC (show -9223372036854775808<=2*n from by omega) (by omega),aC (show -9223372036854775808<=2*n - 1 from by omega) (by omega),aC (show -9223372036854775808<=2*n - 1 - r from by omega) (by omega),aC (show -9223372036854775808<=r - n from by omega) (by omega)];by_cases c:r < n
   . rw [if_pos c,emod_self r0 c];congr 1
     unfold mn;split
     . split <;> omega
     . rw [if_pos (by omega)]
   . rw [if_neg c];by_cases p2:p=2
     . rw [if_pos p2,if_neg (by omega),if_pos p2];congr 1
       exact (xP (q:=1) (r:=r - n) (by omega) (by omega) (by omega)).2.symm
     . rw [if_neg p2,if_pos (by omega)];congr 1;unfold mn;split <;> omega
 split
 . exact fin _
 . rw [bT.l0,if_pos (by omega),aC (show -9223372036854775808<=2*n from by omega) (by omega),show r - 2*n+2*n=r from by omega,aC (by omega) (by omega)];exact fin _
theorem abS (x:Int):wrap64 x % 18446744073709551616=x % 18446744073709551616:=by unfold wrap64;omega
theorem alX {x y:Int} (h:x % 18446744073709551616=y % 18446744073709551616):wrap64 x=wrap64 y:=by unfold wrap64;omega
theorem ah9 {x x' y y':Int} (h:wrap64 x=wrap64 x') (g:wrap64 y=wrap64 y'):wrap64 (x+y)=wrap64 (x'+y'):=by
 have:=abS x;have:=abS x';have:=abS y;have:=abS y';rw [h] at *;rw [g] at *
 apply alX;omega
theorem adp (x:Int):wrap64 (wrap64 x)=wrap64 x:=alX (abS x)
theorem alY {x x' y y':Int} (h:wrap64 x=wrap64 x') (g:wrap64 y=wrap64 y'):wrap64 (x*y)=wrap64 (x'*y'):=by
 have h1:x % 18446744073709551616=x' % 18446744073709551616:=(by rw [<- abS x,h,abS]);have g1:y % 18446744073709551616=y' % 18446744073709551616:=(by rw [<- abS y,g,abS]);apply alX;rw [Int.mul_emod x y,h1,g1,<- Int.mul_emod]
theorem ajb {f g:Nat->Int}:∀ n,(∀ i,i < n->f i=g i)->dH f n=dH g n
  | 0,_=>rfl
  | n+1,h=>by rw [dH,dH,ajb n (fun i hi=>h i (by omega)),h n (by omega)]
theorem atu (f g:Nat->Int):∀ n,dH (fun i=>f i+g i) n=dH f n+dH g n
  | 0=>rfl
  | n+1=>by rw [dH,dH,dH,atu f g n];omega
theorem atv (c:Int) (f:Nat->Int):∀ n,dH (fun i=>c*f i) n=c*dH f n
  | 0=>by simp [dH]
  | n+1=>by rw [dH,dH,atv c f n,Int.mul_add]
theorem aqw:∀ n,dH (fun _=>0) n=0
  | 0=>rfl
  | n+1=>by rw [dH,aqw n];rfl
theorem aqx (f:Nat->Nat->Int) (m:Nat):∀ n,dH (fun i=>dH (fun k=>f i k) m) n=dH (fun k=>dH (fun i=>f i k) n) m
  | 0=>(aqw m).symm
  | n+1=>by rw [dH,aqx f m n,<- atu];rfl
def ahA (m:Img) (bd fx fy c:Int) (k i:Nat):Int:=atV m (bat bd (fx+i) m.w) (bat bd (fy+k) m.h) c
theorem apc (m:Img) (bd fx row b c:Int) (ts:List Int) (a0:Int):∀ n,wrap64 (agB m bd fx row b c ts a0 n)=wrap64 (a0+dH (fun i=>rd ts (i:Int)*b*atV m (bat bd (fx+i) m.w) row c) n)
  | 0=>by rw [agB,dH,Int.add_zero]
  | n+1=>by
    rw [agB,adp,dH,<- Int.add_assoc];exact ah9 (apc m bd fx row b c ts a0 n) ((adp _).trans (alY (adp _) (adp _)))
theorem apd (m:Img) (bd fx fy c:Int) (tX tY:List Int):∀ n,wrap64 (afD m bd fx fy c tX tY n)=wrap64 (dH (fun k=>dH (fun i=>rd tX (i:Int)*rd tY (k:Int)*ahA m bd fx fy c k i) tX.length) n)
  | 0=>by rw [afD,dH]
  | n+1=>by
    rw [afD,apc,dH];exact ah9 (apd m bd fx fy c tX tY n) rfl
def avU (m:Img) (bd c:Int) (X Y:S71):Int:=dH (fun k=>dH (fun i=>rd X.f1 (i:Int)*rd Y.f1 (k:Int)*ahA m bd X.f0 Y.f0 c k i) X.f1.length) Y.f1.length
theorem azP (m:Img) (bd c:Int) (X Y:S71):wrap64 (aaR m bd c X Y)=wrap64 (avU m bd c X Y):=apd _ _ _ _ _ _ _ _
theorem azQ (m:Img) (bd c:Int) (X Y:S71):avU m bd c X Y=dH (fun i=>rd X.f1 (i:Int)*dH (fun k=>rd Y.f1 (k:Int)*ahA m bd X.f0 Y.f0 c k i) Y.f1.length) X.f1.length:=by
 unfold avU;rw [aqx (fun k i=>rd X.f1 (i:Int)*rd Y.f1 (k:Int)*ahA m bd X.f0 Y.f0 c k i) X.f1.length Y.f1.length];exact ajb _ (fun i _=>by rw [<- atv];exact ajb _ (fun k _=>Int.mul_assoc _ _ _))
theorem apR {m:Img} (B:sO m) (x y c:Int):nS.f m.w m.h m.c m.most m.l x y c=some (atV m x y c):=by
 have hin:pR.f m.w m.h m.c m.most m.l x y c=some (decide (inI m x y c)):=by
   unfold pR.f inI;by_cases h1:x>=0 <;> by_cases h2:y>=0 <;> by_cases h3:c>=0 <;> by_cases h4:x < m.w <;> by_cases h5:y < m.h <;> by_cases h6:c < m.c <;> simp [h1,h2,h3,h4,h5,h6]
 unfold nS.f atV;rw [hin,Option.bind_some];by_cases h:inI m x y c
 . rw [decide_eq_true h,if_pos rfl,if_pos h];obtain ⟨p1,p2,p3,p4,p5,p6⟩:=ahB B h;obtain ⟨i1,i2,i3,i4,i5,i6⟩:=h;have c3:1<=m.c/\m.c<=3:=by rcases B.c1 with h|h <;> omega
   have e1:(y*m.w+x)*m.c=y*m.w*m.c+x*m.c:=Int.add_mul _ _ _;have q1:0<=x*m.c:=Int.mul_nonneg i1 (by omega);have q2:0<=y*m.w*m.c:=Int.mul_nonneg p1 (by omega);have w1:wrap64 (y*m.w)=y*m.w:=aC (by omega) (by omega);have w2:wrap64 (y*m.w*m.c)=y*m.w*m.c:=aC (by omega) (by omega);have w3:wrap64 (x*m.c)=x*m.c:=aC (by omega) (by omega);have w4:wrap64 (y*m.w*m.c+x*m.c)=(y*m.w+x)*m.c:=(by rw [<- e1];exact aC (by omega) (by omega));have w5:wrap64 ((y*m.w+x)*m.c+c)=plV m x y c:=aC (by unfold plV at p5 p6;omega) (by omega);rw [w1,w2,w3,w4,w5,if_pos p5,if_pos p6]
 . rw [decide_eq_false h,if_neg (by decide),if_neg h]
def ajc (m:Img) (bd fx fy c:Int) (tY:List Int) (i:Nat):Nat->Int
  | 0=>0
  | k+1=>wrap64 (ajc m bd fx fy c tY i k+wrap64 (rd tY (k:Int)*wrap64 (ahA m bd fx fy c k i)))
def ajd (m:Img) (bd fx fy c:Int) (tX tY:List Int):Nat->Int
  | 0=>0
  | i+1=>wrap64 (ajd m bd fx fy c tX tY i+wrap64 (rd tX (i:Int)*ajc m bd fx fy c tY i tY.length))
theorem ape (m:Img) (bd fx fy c:Int) (tY:List Int) (i:Nat):∀ n,wrap64 (ajc m bd fx fy c tY i n)=wrap64 (dH (fun k=>rd tY (k:Int)*ahA m bd fx fy c k i) n)
  | 0=>rfl
  | n+1=>by
    rw [ajc,dH,adp];exact ah9 (ape m bd fx fy c tY i n) ((adp _).trans (alY rfl (adp _)))
theorem apf (m:Img) (bd fx fy c:Int) (tX tY:List Int):∀ n,wrap64 (ajd m bd fx fy c tX tY n)=wrap64 (dH (fun i=>rd tX (i:Int)*dH (fun k=>rd tY (k:Int)*ahA m bd fx fy c k i) tY.length) n)
  | 0=>rfl
  | n+1=>by
    rw [ajd,dH,adp];exact ah9 (apf m bd fx fy c tX tY n) ((adp _).trans (alY rfl (ape m bd fx fy c tY n tY.length)))
theorem azR (m:Img) (bd fx fy c:Int) (tX tY:List Int):∀ n,I64 (ajd m bd fx fy c tX tY n)
  | 0=>by show I64 0;constructor <;> decide
  | n+1=>by show I64 (wrap64 _);unfold wrap64;constructor <;> omega
theorem azS (m:Img) (bd c:Int) (X Y:S71) (hs:I64 (aaR m bd c X Y)):ajd m bd X.f0 Y.f0 c X.f1 Y.f1 X.f1.length=aaR m bd c X Y:=by
 have h1:=apf m bd X.f0 Y.f0 c X.f1 Y.f1 X.f1.length;rw [<- azQ,<- azP] at h1;have h2:=azR m bd X.f0 Y.f0 c X.f1 Y.f1 X.f1.length;rwa [aC h2.1 h2.2,aC hs.1 hs.2] at h1
theorem apg {m:Img} (B:sO m) {tx ty:Tab} (nx ny bd c S a col:Int) (tX:List Int) (x y i:Nat) (hx:x < tx.lines.length) (hy:y < ty.lines.length) (X Y:S71) (hX:X=dI tx.lines (x:Int)) (hY:Y=dI ty.lines (y:Int)) (alb:col=bat bd (X.f0+i) m.w)
    (ly:Y.f1.length<=2097152) (by0 : -1099511627776<=Y.f0/\Y.f0<=1099511627776) (R:Option Int) (K:Nat) (hK:6<=K)
    (hR:∀ q,K<=q->dK.l0 q (x:Int) (y:Int) c (wrap64 (S+wrap64 (a*ajc m bd X.f0 Y.f0 c Y.f1 i Y.f1.length))) tX (tX.length:Int) (wrap64 ((i:Int)+1)) m.w m.h m.c m.most m.l (tx.lines.map toR) (ty.lines.map toR) nx ny bd=R) :
    ∀ (d k:Nat),k+d=Y.f1.length->∀ q,K+d+1<=q->dK.l1 q (x:Int) (y:Int) c S a col (ajc m bd X.f0 Y.f0 c Y.f1 i k) tX (tX.length:Int) (i:Int) Y.f1 (Y.f1.length:Int) (k:Int) m.w m.h m.c m.most m.l (tx.lines.map toR) (ty.lines.map toR) nx ny bd=R
  | 0,k,h,q,hq=>by
    obtain ⟨q,rfl⟩:∃ m,q=m+1:=⟨q - 1,by omega⟩;rw [dK.l1,if_neg (by omega),show k=Y.f1.length by omega];exact hR q (by omega)
  | d+1,k,h,q,hq=>by
    obtain ⟨q,rfl⟩:∃ m,q=m+1:=⟨q - 1,by omega⟩;have hl:((ty.lines.map toR).length:Int)=ty.lines.length:=(by rw [List.length_map]);have e1:(iQ (ty.lines.map toR) (y:Int)).f0=Y.f0:=(by rw [akA _ hy,hY];rfl);have wf:wrap64 (Y.f0+(k:Int))=Y.f0+k:=aC (by omega) (by omega);have hb:=aix (k:=q) (by omega) (p:=bd) (j:=Y.f0+k) (n:=m.h) ⟨by omega,by omega⟩ ⟨by have:=B.h1;omega,by have:=B.h2;omega⟩;have wk:wrap64 ((k:Int)+1)=((k+1:Nat):Int):=(by rw [aC (by omega) (by omega)];simp);have c1:(k:Int) < (Y.f1.length:Int):=Int.ofNat_lt.2 (by omega);have c2:(0:Int)<=(k:Int):=Int.natCast_nonneg _;have c3:(0:Int)<=(y:Int):=Int.natCast_nonneg _;have c4:(y:Int) < ((ty.lines.map toR).length:Int):=(by rw [hl];exact Int.ofNat_lt.2 hy);rw [dK.l1,if_pos c1,if_pos c2,if_pos c1,if_pos c3,if_pos c4,e1,wf,hb,Option.bind_some,apR B,Option.bind_some,wk];have ih:=apg B nx ny bd c S a col tX x y i hx hy X Y hX hY alb ly by0 R K hK hR d (k+1) (by omega) q (by omega);rw [ajc,ahA,<- alb] at ih;exact ih
theorem aph {m:Img} (B:sO m) {tx ty:Tab} (nx ny bd c:Int) (x y:Nat) (hx:x < tx.lines.length) (hy:y < ty.lines.length) (X Y:S71) (hX:X=dI tx.lines (x:Int)) (hY:Y=dI ty.lines (y:Int))
    (lx:X.f1.length<=2097152) (bx0 : -1099511627776<=X.f0/\X.f0<=1099511627776) (ly:Y.f1.length<=2097152) (by0 : -1099511627776<=Y.f0/\Y.f0<=1099511627776) :
    ∀ (d i:Nat),i+d=X.f1.length->∀ q,(Y.f1.length+2)*d+8<=q->dK.l0 q (x:Int) (y:Int) c (ajd m bd X.f0 Y.f0 c X.f1 Y.f1 i) X.f1 (X.f1.length:Int) (i:Int) m.w m.h m.c m.most m.l (tx.lines.map toR) (ty.lines.map toR) nx ny bd=some (ajd m bd X.f0 Y.f0 c X.f1 Y.f1 X.f1.length)
  | 0,i,h,q,hq=>by
    obtain ⟨q,rfl⟩:∃ m,q=m+1:=⟨q - 1,by omega⟩;rw [dK.l0,if_neg (by omega),show i=X.f1.length by omega]
  | d+1,i,h,q,hq=>by
    rw [Nat.mul_add,Nat.mul_one] at hq;obtain ⟨q,rfl⟩:∃ m,q=m+1:=⟨q - 1,by omega⟩;have hlx:((tx.lines.map toR).length:Int)=tx.lines.length:=(by rw [List.length_map]);have hly:((ty.lines.map toR).length:Int)=ty.lines.length:=(by rw [List.length_map]);have e1:(iQ (tx.lines.map toR) (x:Int)).f0=X.f0:=(by rw [akA _ hx,hX];rfl);have e2:(iQ (ty.lines.map toR) (y:Int)).f1=Y.f1:=(by rw [akA _ hy,hY];rfl);have wf:wrap64 (X.f0+(i:Int))=X.f0+i:=aC (by omega) (by omega);have hb:=aix (k:=q) (by omega) (p:=bd) (j:=X.f0+i) (n:=m.w) ⟨by omega,by omega⟩ ⟨by have:=B.w1;omega,by have:=B.w2;omega⟩;have wk:wrap64 ((i:Int)+1)=((i+1:Nat):Int):=(by rw [aC (by omega) (by omega)];simp);have c1:(i:Int) < (X.f1.length:Int):=Int.ofNat_lt.2 (by omega);have c2:(0:Int)<=(i:Int):=Int.natCast_nonneg _;have c3:(0:Int)<=(x:Int):=Int.natCast_nonneg _;have c4:(x:Int) < ((tx.lines.map toR).length:Int):=(by rw [hlx];exact Int.ofNat_lt.2 hx);have c5:(0:Int)<=(y:Int):=Int.natCast_nonneg _;have c6:(y:Int) < ((ty.lines.map toR).length:Int):=(by rw [hly];exact Int.ofNat_lt.2 hy);rw [dK.l0,if_pos c1,if_pos c2,if_pos c1,if_pos c3,if_pos c4,e1,wf,hb,Option.bind_some,if_pos c5,if_pos c6,e2];refine apg B nx ny bd c _ _ _ X.f1 x y i hx hy X Y hX hY rfl ly by0 _ ((Y.f1.length+2)*d+8) (by omega) (fun q hq => ?_) Y.f1.length 0 (by omega) q (by omega);rw [wk];exact aph B nx ny bd c x y hx hy X Y hX hY lx bx0 ly by0 d (i+1) (by omega) q hq
theorem ahC {m:Img} (B:sO m) {tx ty:Tab} (nx ny bd c:Int) (x y:Nat) (hx:x < tx.lines.length) (hy:y < ty.lines.length) (Lx:(dI tx.lines (x:Int)).f1.length<=2097152 /\ -1099511627776<=(dI tx.lines (x:Int)).f0/\(dI tx.lines (x:Int)).f0<=1099511627776) (Ly:(dI ty.lines (y:Int)).f1.length<=2097152 /\ -1099511627776<=(dI ty.lines (y:Int)).f0/\(dI ty.lines (y:Int)).f0<=1099511627776)
    (hs:I64 (aaR m bd c (dI tx.lines (x:Int)) (dI ty.lines (y:Int)))):∀ q,((dI ty.lines (y:Int)).f1.length+2)*(dI tx.lines (x:Int)).f1.length+8<=q->dK.f q m.w m.h m.c m.most m.l (tx.lines.map toR) (ty.lines.map toR) nx ny bd (x:Int) (y:Int) c=some (aaR m bd c (dI tx.lines (x:Int)) (dI ty.lines (y:Int))):=by
  intro q hq;have hlx:((tx.lines.map toR).length:Int)=tx.lines.length:=(by rw [List.length_map]);have e2:(iQ (tx.lines.map toR) (x:Int)).f1=(dI tx.lines (x:Int)).f1:=(by rw [akA _ hx];rfl);unfold dK.f;rw [if_pos (by omega),if_pos (by rw [hlx];omega),e2];have h:=aph B nx ny bd c x y hx hy _ _ rfl rfl Lx.1 Lx.2 Ly.1 Ly.2 _ 0 (Nat.zero_add _) q hq;rw [azS m bd c _ _ hs] at h;exact h
theorem akJ {k:Nat} (hk:60000<=k) {s most:Int} (hs:I64 s):dU.f k s most=some (zu s most):=by
 obtain ⟨k,rfl⟩:∃ n,k=n+2:=⟨k - 2,by omega⟩;unfold dU.f;rw [aam (by omega) hs (by constructor <;> omega),Option.bind_some];have u:∀ z:Int,0<=z->z<=65535->IntKind.u16.wrap z=z:=by
   intro z h0 h1;unfold IntKind.wrap IntKind.bits IntKind.signed;simp;omega
 unfold zu;generalize sh s 28=v;have j1:∀ x:Int,0<=x->x<=65535->dU.j1 (k+1) x v=some (mx 0 (mn v x)):=by
   intro x h0 h1;rw [dU.j1];by_cases c:v < 0
   . rw [if_pos c];unfold mx mn;congr 1;omega
   rw [if_neg c];by_cases d:v > x
   . rw [if_pos d,u _ h0 h1];unfold mx mn;congr 1;omega
   . rw [if_neg d,u _ (by omega) (by omega)];unfold mx mn;congr 1;omega
 by_cases c:most < 0
 . rw [if_pos c,dU.j0,if_neg (by decide),j1 0 (by decide) (by decide)];congr 2;unfold mx mn;omega
 rw [if_neg c,dU.j0];by_cases d:most > 65535
 . rw [if_pos d,j1 65535 (by decide) (by decide)];congr 2;unfold mx mn;omega
 . rw [if_neg d,j1 most (by omega) (by omega)];congr 2;unfold mx mn;omega
theorem asi (a b:Nat) (ha:a<=2097152) (hb:b<=2097152):(a+2)*b+8<=2097154*2097152+8:=Nat.add_le_add_right (Nat.mul_le_mul (by omega) hb) 8
def ad5 (m:Img) (bd:Int) (tx ty:Tab) (C p:Nat):List Int:=(List.range p).map (aiQ m bd tx ty C)
theorem avV (m:Img) (bd:Int) (tx ty:Tab) (C p:Nat):(ad5 m bd tx ty C p).length=p:=by unfold ad5;rw [List.length_map,List.length_range]
theorem atw (m:Img) (bd:Int) (tx ty:Tab) (C p:Nat):ad5 m bd tx ty C (p+1)=ad5 m bd tx ty C p ++ [aiQ m bd tx ty C p]:=by unfold ad5;rw [List.range_succ,List.map_append];rfl
section
variable {m:Img} {tx ty:Tab} {nx ny bd:Int} {C F:Nat}
structure RA (m:Img) (tx ty:Tab) (nx ny bd:Int) (C F:Nat):Prop where
 c:m.c=C
 C3:C<=3
 X:tx.lines.length<=65536
 Y:ty.lines.length<=65536
 n:tx.lines.length*ty.lines.length*C<=268435456
 sum:∀ x y:Nat,x < tx.lines.length->y < ty.lines.length->∀ (c:Int) q,F<=q->dK.f q m.w m.h m.c m.most m.l (tx.lines.map toR) (ty.lines.map toR) nx ny bd (x:Int) (y:Int) c=some (aaR m bd c (dI tx.lines (x:Int)) (dI ty.lines (y:Int)))
 rnd:∀ s,I64 s->∀ q,F<=q->dU.f q s m.most=some (zu s m.most)
theorem apj (n:Nat) (h:n<=1000000):wrap64 ((n:Int)+1)=((n+1:Nat):Int):=by rw [aC (by omega) (by omega)];simp
theorem azT (x y c X Y C:Nat) (hx:x < X) (hy:y < Y) (hc:c < C):(y*X+x)*C+c < X*Y*C:=by
 have h1:y*X+x+1<=X*Y:=by
   have:(y+1)*X<=Y*X:=Nat.mul_le_mul_right _ hy;rw [Nat.add_mul,Nat.one_mul,Nat.mul_comm Y X] at this;omega
 have h2:(y*X+x+1)*C<=X*Y*C:=Nat.mul_le_mul_right _ h1;rw [Nat.add_mul,Nat.one_mul] at h2;omega
theorem aCq (A:RA m tx ty nx ny bd C F) (Z:Option (Int × Int × Int × Int × List Int)) (x y:Nat) (hx:x < tx.lines.length) (hy:y < ty.lines.length) (K:Nat) (hK:F<=K)
    (hZ:∀ q,K<=q->bn.l1 q (y:Int) (ty.lines.length:Int) (y:Int) (tx.lines.length:Int) (wrap64 ((x:Int)+1)) m.w m.h m.c m.most m.l (tx.lines.map toR) (ty.lines.map toR) nx ny bd (tx.lines.length:Int) (ty.lines.length:Int) m.c m.most (ad5 m bd tx ty C ((y*tx.lines.length+(x+1))*C))=Z) :
    ∀ (d c:Nat),c+d=C->∀ q,K+d+1<=q->bn.l2 q (y:Int) (x:Int) (ty.lines.length:Int) (y:Int) (tx.lines.length:Int) (x:Int) m.c (c:Int) m.w m.h m.c m.most m.l (tx.lines.map toR) (ty.lines.map toR) nx ny bd (tx.lines.length:Int) (ty.lines.length:Int) m.c m.most (ad5 m bd tx ty C ((y*tx.lines.length+x)*C+c))=Z:=by
  intro d;induction d with
  | zero =>
    intro c h q hq;obtain ⟨q,rfl⟩:∃ m,q=m+1:=⟨q - 1,by omega⟩;have hc:¬ (c:Int) < m.c:=(by rw [A.c];omega);rw [bn.l2,if_neg hc,show (y*tx.lines.length+x)*C+c=(y*tx.lines.length+(x+1))*C by rw [<- Nat.add_assoc,Nat.add_mul (y*tx.lines.length+x) 1 C];omega];exact hZ q (by omega)
  | succ d ih =>
    intro c h q hq;have hcC:c < C:=(by omega);have hq1:1<=q:=(by omega);have ih:=ih (c+1) (by omega);obtain ⟨q,rfl⟩:∃ m,q=m+1:=⟨q - 1,by omega⟩;have hq2:F<=q:=(by omega);have ih:=ih q (by omega);clear hq hq1 h hZ hK;have hc:(c:Int) < m.c:=(by rw [A.c];exact Int.ofNat_lt.2 hcC);have hs:=A.sum x y hx hy (c:Int) q hq2;have hr:=A.rnd _ (ajO m bd (c:Int) (dI tx.lines (x:Int)) (dI ty.lines (y:Int))) q hq2;have hp:=azT x y c _ _ _ hx hy hcC;have wk:wrap64 ((c:Int)+1)=((c+1:Nat):Int):=apj c (Nat.le_trans (Nat.le_of_lt hcC) (Nat.le_trans A.C3 (by decide)));have hl:(ad5 m bd tx ty C ((y*tx.lines.length+x)*C+c)).length < 70368744177664:=(by rw [avV];exact Nat.lt_of_lt_of_le (Nat.lt_of_lt_of_le hp A.n) (by decide));have hv:zu (aaR m bd (c:Int) (dI tx.lines (x:Int)) (dI ty.lines (y:Int))) m.most=aiQ m bd tx ty C ((y*tx.lines.length+x)*C+c):=(aqa m bd tx ty C x y c hx hcC).symm;rw [bn.l2,if_pos hc,hs,Option.bind_some,hr,Option.bind_some,if_pos hl,wk,hv,<- atw];exact ih
theorem aCr (A:RA m tx ty nx ny bd C F) (Z:Option (Int × Int × Int × Int × List Int)) (y:Nat) (hy:y < ty.lines.length) (K:Nat) (hK:F<=K)
    (hZ:∀ q,K<=q->bn.l0 q (ty.lines.length:Int) (wrap64 ((y:Int)+1)) m.w m.h m.c m.most m.l (tx.lines.map toR) (ty.lines.map toR) nx ny bd (tx.lines.length:Int) (ty.lines.length:Int) m.c m.most (ad5 m bd tx ty C (((y+1)*tx.lines.length)*C))=Z) :
    ∀ (d x:Nat),x+d=tx.lines.length->∀ q,K+(C+2)*d+1<=q->bn.l1 q (y:Int) (ty.lines.length:Int) (y:Int) (tx.lines.length:Int) (x:Int) m.w m.h m.c m.most m.l (tx.lines.map toR) (ty.lines.map toR) nx ny bd (tx.lines.length:Int) (ty.lines.length:Int) m.c m.most (ad5 m bd tx ty C ((y*tx.lines.length+x)*C))=Z:=by
  intro d;induction d with
  | zero =>
    intro x h q hq;obtain ⟨q,rfl⟩:∃ m,q=m+1:=⟨q - 1,by omega⟩;have hc:¬ (x:Int) < (tx.lines.length:Int):=(by omega);rw [bn.l1,if_neg hc,show (y*tx.lines.length+x)=(y+1)*tx.lines.length by rw [Nat.add_mul];omega];exact hZ q (by omega)
  | succ d ih =>
    intro x h q hq;have hxl:x < tx.lines.length:=(by omega);have ih:=ih (x+1) (by omega);rw [Nat.mul_add,Nat.mul_one] at hq;obtain ⟨q,rfl⟩:∃ m,q=m+1:=⟨q - 1,by omega⟩;have hK2:F<=K+(C+2)*d+1:=(by omega);have hq2:(K+(C+2)*d+1)+C+1<=q:=(by omega);clear hq h hZ hK;have hc:(x:Int) < (tx.lines.length:Int):=Int.ofNat_lt.2 hxl;have wk:wrap64 ((x:Int)+1)=((x+1:Nat):Int):=apj x (Nat.le_trans (Nat.le_of_lt hxl) (Nat.le_trans A.X (by decide)));have h2:=aCq A Z x y hxl hy (K+(C+2)*d+1) hK2 (fun q hq=>by rw [wk];exact ih q hq) C 0 (Nat.zero_add _) q hq2;rw [bn.l1,if_pos hc];exact h2
theorem aCs (A:RA m tx ty nx ny bd C F):∀ (d y:Nat),y+d=ty.lines.length->∀ q,F+((C+2)*tx.lines.length+2)*d+1<=q->bn.l0 q (ty.lines.length:Int) (y:Int) m.w m.h m.c m.most m.l (tx.lines.map toR) (ty.lines.map toR) nx ny bd (tx.lines.length:Int) (ty.lines.length:Int) m.c m.most (ad5 m bd tx ty C ((y*tx.lines.length)*C))=some ((tx.lines.length:Int),(ty.lines.length:Int),m.c,m.most,ab7 m bd tx ty C):=by
 intro d;induction d with
 | zero =>
   intro y h q hq;obtain ⟨q,rfl⟩:∃ m,q=m+1:=⟨q - 1,by omega⟩;have hc:¬ (y:Int) < (ty.lines.length:Int):=(by omega);rw [bn.l0,if_neg hc,show y=ty.lines.length by omega,Nat.mul_comm ty.lines.length];rfl
 | succ d ih =>
   intro y h q hq;have hyl:y < ty.lines.length:=(by omega);have ih:=ih (y+1) (by omega);rw [Nat.mul_add,Nat.mul_one] at hq;obtain ⟨q,rfl⟩:∃ m,q=m+1:=⟨q - 1,by omega⟩;have hK2:F<=F+((C+2)*tx.lines.length+2)*d+1:=(by omega);have hq2:(F+((C+2)*tx.lines.length+2)*d+1)+(C+2)*tx.lines.length+1<=q:=(by omega);clear hq h;have hc:(y:Int) < (ty.lines.length:Int):=Int.ofNat_lt.2 hyl;have wk:wrap64 ((y:Int)+1)=((y+1:Nat):Int):=apj y (Nat.le_trans (Nat.le_of_lt hyl) (Nat.le_trans A.Y (by decide)));have hl:((tx.lines.map toR).length:Int)=tx.lines.length:=(by rw [List.length_map]);have h2:=aCr A (some ((tx.lines.length:Int),(ty.lines.length:Int),m.c,m.most,ab7 m bd tx ty C)) y hyl (F+((C+2)*tx.lines.length+2)*d+1) hK2 (fun q hq=>by rw [wk];exact ih q hq) tx.lines.length 0 (Nat.zero_add _) q hq2;rw [bn.l0,if_pos hc,hl];exact h2
end
theorem afh {m:Img} (B:sO m) {tx ty:Tab} (nx ny bd:Int) (X:wU tx) (Y:wU ty) (hn:(tx.lines.length:Int)*ty.lines.length*m.c.toNat<=268435456):∃ K,bn.f K m.w m.h m.c m.most m.l (tx.lines.map toR) (ty.lines.map toR) nx ny bd=some ((tx.lines.length:Int),(ty.lines.length:Int),m.c,m.most,ab7 m bd tx ty m.c.toNat):=by
 obtain ⟨F,hF⟩:∃ F:Nat,2097154*2097152+8<=F/\60000<=F:=⟨2097154*2097152+8,by decide⟩;have hc:m.c=(m.c.toNat:Int):=by rcases B.c1 with h|h <;> rw [h] <;> rfl
 have A:RA m tx ty nx ny bd m.c.toNat F:=⟨hc,by rcases B.c1 with h|h <;> rw [h] <;> decide,X.n2,Y.n2,by
   have:((tx.lines.length*ty.lines.length*m.c.toNat:Nat):Int)<=268435456:=(by simpa using hn);omega,fun x y hx hy c q hq=>ahC B nx ny bd c x y hx hy (X.all x hx) (Y.all y hy) (ajO _ _ _ _ _) q (Nat.le_trans (asi _ _ (Y.all y hy).1 (X.all x hx).1) (Nat.le_trans hF.1 hq)),fun s hs q hq=>akJ (Nat.le_trans hF.2 hq) hs⟩
 have h:=aCs A ty.lines.length 0 (by omega) _ (Nat.le_refl _);refine ⟨F+((m.c.toNat+2)*tx.lines.length+2)*ty.lines.length+1,?_⟩;unfold bn.f;rw [List.length_map,List.length_map];rw [Nat.zero_mul,Nat.zero_mul] at h;exact h
end Go.Proofs.YtpondkggmcmpfaaGreatDoor.QA
