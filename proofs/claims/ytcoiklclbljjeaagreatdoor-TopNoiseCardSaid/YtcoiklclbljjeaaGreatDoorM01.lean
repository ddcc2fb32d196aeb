/- Lemmas of the card's proof. -/
set_option linter.unusedVariables false
set_option linter.unusedSimpArgs false
set_option maxRecDepth 100000
set_option maxHeartbeats 16000000
namespace Go.Proofs.YtcoiklclbljjeaaGreatDoor.R
structure CS where
 s:Nat→Rat
 c:∀e:Rat,0<e→∃N,∀m n,N≤m→N≤n→s m-s n≤e
theorem y6 {e:Rat} (h:0<e):0<e / 2:=by grind
theorem zf7 {x y B d:Rat} (h1:-B≤x) (h2:x≤B) (h3:-d≤y) (h4:y≤d):x*y≤B*d:=by
 have a:=Rat.mul_nonneg (show 0≤B-x by grind) (show 0≤d+y by grind);have b:=Rat.mul_nonneg (show 0≤B+x by grind) (show 0≤d-y by grind)
 grind
theorem CS.bd (a:CS):∃(B:Rat) (N:Nat),0<B∧∀n,N≤n→-B≤a.s n∧a.s n≤B:=by
 obtain ⟨N,h⟩:=a.c 1 (by grind)
 by_cases hs:0≤a.s N
 ·refine ⟨a.s N+1,N,by grind,fun n hn=>?_⟩
  have h1:=h n N hn (Nat.le_refl _);have h2:=h N n (Nat.le_refl _) hn;constructor<;>grind
 ·refine ⟨1-a.s N,N,by grind,fun n hn=>?_⟩
  have h1:=h n N hn (Nat.le_refl _);have h2:=h N n (Nat.le_refl _) hn;constructor<;>grind
def Eqv (a b:CS):Prop:=∀e:Rat,0<e→∃N,∀n,N≤n→a.s n-b.s n≤e∧b.s n-a.s n≤e
theorem Eqv.rfl' (a:CS):Eqv a a:=fun e he=>⟨0,fun n _=>by constructor<;>grind⟩
theorem Eqv.symm' {a b:CS} (h:Eqv a b):Eqv b a:=fun e he=>(h e he).imp fun _ h n hn=>(h n hn).symm
theorem Eqv.trans' {a b c:CS} (h:Eqv a b) (k:Eqv b c):Eqv a c:=fun e he=>by
 obtain ⟨N,h⟩:=h (e / 2) (y6 he);obtain ⟨M,k⟩:=k (e / 2) (y6 he);refine ⟨N+M,fun n hn=>?_⟩;have:=h n (by omega);have:=k n (by omega);constructor<;>grind
instance st : Setoid CS := ⟨Eqv, Eqv.rfl', Eqv.symm', Eqv.trans'⟩
def CS.con (q:Rat):CS:=⟨fun _=>q,fun e he=>⟨0,fun _ _ _ _=>by grind⟩⟩
def CS.add (a b:CS):CS:=⟨fun n=>a.s n+b.s n,fun e he=>by
 obtain ⟨N,h⟩:=a.c (e / 2) (y6 he);obtain ⟨M,k⟩:=b.c (e / 2) (y6 he);refine ⟨N+M,fun m n hm hn=>?_⟩;have:=h m n (by omega) (by omega);have:=k m n (by omega) (by omega)
 grind⟩
def CS.neg (a:CS):CS:=⟨fun n=>-a.s n,fun e he=>by
 obtain ⟨N,h⟩:=a.c e he;refine ⟨N,fun m n hm hn=>?_⟩;have:=h n m hn hm
 grind⟩
theorem zc9 {e B:Rat} (he:0<e) (hB:0<B):∃d,0<d∧B*d≤e:=by
 refine ⟨e / B,?_,?_⟩
 ·rw [Rat.div_def];exact Rat.mul_pos he (Rat.inv_pos.mpr hB)
 ·have:B*(e / B)=e:=by grind
  grind
def CS.mul (a b:CS):CS:=⟨fun n=>a.s n*b.s n,fun e he=>by
 obtain ⟨A,N1,hA,ha⟩:=a.bd;obtain ⟨B,N2,hB,hb⟩:=b.bd;obtain ⟨d1,hd1,e1⟩:=zc9 (y6 he) hA;obtain ⟨d2,hd2,e2⟩:=zc9 (y6 he) hB;obtain ⟨N,h⟩:=a.c d2 hd2;obtain ⟨M,k⟩:=b.c d1 hd1;refine ⟨N+M+N1+N2,fun m n hm hn=>?_⟩;have p1:=zf7 (ha m (by omega)).1 (ha m (by omega)).2 (show -d1≤b.s m-b.s n by have:=k n m (by omega) (by omega);grind) (k m n (by omega) (by omega))
 have p2:=zf7 (hb n (by omega)).1 (hb n (by omega)).2 (show -d2≤a.s m-a.s n by have:=h n m (by omega) (by omega);grind) (h m n (by omega) (by omega))
 grind⟩
theorem zkz {a b c d:CS} (h:Eqv a c) (k:Eqv b d):Eqv (a.add b) (c.add d):=fun e he=>by
 obtain ⟨N,h⟩:=h (e / 2) (y6 he);obtain ⟨M,k⟩:=k (e / 2) (y6 he);refine ⟨N+M,fun n hn=>?_⟩;have:=h n (by omega);have:=k n (by omega);simp only [CS.add];constructor<;>grind
theorem zkb {a b:CS} (h:Eqv a b):Eqv a.neg b.neg:=fun e he=>by
 obtain ⟨N,h⟩:=h e he;refine ⟨N,fun n hn=>?_⟩;have:=h n hn;simp only [CS.neg];constructor<;>grind
theorem zkf {a b c d:CS} (h:Eqv a c) (k:Eqv b d):Eqv (a.mul b) (c.mul d):=fun e he=>by
 obtain ⟨A,N1,hA,ha⟩:=a.bd;obtain ⟨D,N2,hD,hd⟩:=d.bd;obtain ⟨d1,hd1,e1⟩:=zc9 (y6 he) hA;obtain ⟨d2,hd2,e2⟩:=zc9 (y6 he) hD;obtain ⟨N,h⟩:=h d2 hd2;obtain ⟨M,k⟩:=k d1 hd1;refine ⟨N+M+N1+N2,fun n hn=>?_⟩;have kn:=k n (by omega);have hn':=h n (by omega);have an:=ha n (by omega);have dn:=hd n (by omega);have p1:=zf7 an.1 an.2 (show -d1≤b.s n-d.s n by grind) kn.1
 have p1':=zf7 an.1 an.2 (show -d1≤d.s n-b.s n by grind) kn.2;have p2:=zf7 dn.1 dn.2 (show -d2≤a.s n-c.s n by grind) hn'.1;have p2':=zf7 dn.1 dn.2 (show -d2≤c.s n-a.s n by grind) hn'.2;simp only [CS.mul];constructor<;>grind
def Real:Type:=Quotient st
namespace Real
def mk (a:CS):Real:=Quotient.mk st a
theorem sound {a b:CS} (h:Eqv a b):mk a=mk b:=Quotient.sound h
theorem exact {a b:CS} (h:mk a=mk b):Eqv a b:=Quotient.exact h
theorem ex (x:Real):∃a,x=mk a:=Quotient.ind (motive:=fun x=>∃a,x=mk a) (fun a=>⟨a,rfl⟩) x
instance : Add Real := ⟨Quotient.lift₂ (fun a b => mk (a.add b)) fun _ _ _ _ h k => sound (zkz h k)⟩
instance : Mul Real := ⟨Quotient.lift₂ (fun a b => mk (a.mul b)) fun _ _ _ _ h k => sound (zkf h k)⟩
instance : Neg Real := ⟨Quotient.lift (fun a => mk a.neg) fun _ _ h => sound (zkb h)⟩
instance : Sub Real := ⟨fun x y => x + -y⟩
def q (r:Rat):Real:=mk (CS.con r)
instance : Zero Real := ⟨q 0⟩
instance : One Real := ⟨q 1⟩
theorem sub_def (x y:Real):x-y=x+-y:=rfl
theorem pt {a b:CS} (h:∀n,a.s n=b.s n):mk a=mk b:=sound fun e he=>⟨0,fun n _=>by rw [h n];constructor<;>grind⟩
theorem add_comm (x y:Real):x+y=y+x:=by
 obtain ⟨a,rfl⟩:=ex x;obtain ⟨b,rfl⟩:=ex y;exact pt fun n=>by simp only [CS.add];grind
theorem add_assoc (x y z:Real):x+y+z=x+(y+z):=by
 obtain ⟨a,rfl⟩:=ex x;obtain ⟨b,rfl⟩:=ex y;obtain ⟨c,rfl⟩:=ex z;exact pt fun n=>by simp only [CS.add];grind
theorem mul_comm (x y:Real):x*y=y*x:=by
 obtain ⟨a,rfl⟩:=ex x;obtain ⟨b,rfl⟩:=ex y;exact pt fun n=>by simp only [CS.mul];grind
theorem mul_assoc (x y z:Real):x*y*z=x*(y*z):=by
 obtain ⟨a,rfl⟩:=ex x;obtain ⟨b,rfl⟩:=ex y;obtain ⟨c,rfl⟩:=ex z;exact pt fun n=>by simp only [CS.mul];grind
theorem mul_add (x y z:Real):x*(y+z)=x*y+x*z:=by
 obtain ⟨a,rfl⟩:=ex x;obtain ⟨b,rfl⟩:=ex y;obtain ⟨c,rfl⟩:=ex z;exact pt fun n=>by simp only [CS.mul,CS.add];grind
theorem add_zero (x:Real):x+0=x:=by
 obtain ⟨a,rfl⟩:=ex x;exact pt fun n=>by simp only [CS.add,CS.con];grind
theorem mul_one (x:Real):x*1=x:=by
 obtain ⟨a,rfl⟩:=ex x;exact pt fun n=>by simp only [CS.mul,CS.con];grind
theorem Zc (x:Real):x*0=0:=by
 obtain ⟨a,rfl⟩:=ex x;exact pt fun n=>by simp only [CS.mul,CS.con];grind
theorem zbv (x:Real):x+-x=0:=by
 obtain ⟨a,rfl⟩:=ex x;exact pt fun n=>by simp only [CS.add,CS.neg,CS.con];grind
theorem zkK (a b:Rat):q (a+b)=q a+q b:=pt fun _=>rfl
theorem zde (a b:Rat):q (a*b)=q a*q b:=pt fun _=>rfl
theorem zlm (a:Rat):q (-a)=-q a:=pt fun _=>rfl
def leC (a b:CS):Prop:=∀e:Rat,0<e→∃N,∀n,N≤n→a.s n≤b.s n+e
theorem zg6 {a b c d:CS} (h:Eqv a c) (k:Eqv b d) (l:leC a b):leC c d:=fun e he=>by
 obtain ⟨N1,h⟩:=h (e / 2 / 2) (y6 (y6 he));obtain ⟨N2,k⟩:=k (e / 2 / 2) (y6 (y6 he));obtain ⟨N3,l⟩:=l (e / 2) (y6 he);refine ⟨N1+N2+N3,fun n hn=>?_⟩;have:=h n (by omega);have:=k n (by omega);have:=l n (by omega)
 grind
instance : LE Real := ⟨Quotient.lift₂ leC fun _ _ _ _ h k => propext ⟨zg6 h k, zg6 (Eqv.symm' h) (Eqv.symm' k)⟩⟩
theorem le_refl (x:Real):x≤x:=by
 obtain ⟨a,rfl⟩:=ex x;exact fun e he=>⟨0,fun n _=>by grind⟩
theorem le_trans {x y z:Real}:x≤y→y≤z→x≤z:=by
 obtain ⟨a,rfl⟩:=ex x;obtain ⟨b,rfl⟩:=ex y;obtain ⟨c,rfl⟩:=ex z;intro h k e he;obtain ⟨N,h⟩:=h (e / 2) (y6 he);obtain ⟨M,k⟩:=k (e / 2) (y6 he);refine ⟨N+M,fun n hn=>?_⟩;have:=h n (by omega);have:=k n (by omega)
 grind
theorem le_antisymm {x y:Real}:x≤y→y≤x→x=y:=by
 obtain ⟨a,rfl⟩:=ex x;obtain ⟨b,rfl⟩:=ex y;intro h k;refine sound fun e he=>?_;obtain ⟨N,h⟩:=h e he;obtain ⟨M,k⟩:=k e he;refine ⟨N+M,fun n hn=>?_⟩;have:=h n (by omega);have:=k n (by omega);constructor<;>grind
theorem YW {a b:CS} (h:¬leC a b):∃d:Rat,0<d∧∃N,∀n,N≤n→b.s n+d≤a.s n:=by
 unfold leC at h;simp only [Classical.not_forall,not_exists] at h;obtain ⟨e,he,h⟩:=h;obtain ⟨N1,h1⟩:=a.c (e / 2 / 2) (y6 (y6 he));obtain ⟨N2,h2⟩:=b.c (e / 2 / 2) (y6 (y6 he));obtain ⟨n,hn,hgt⟩:=h (N1+N2);refine ⟨e / 2,y6 he,N1+N2,fun m hm=>?_⟩;have:=h1 n m (by omega) (by omega);have:=h2 m n (by omega) (by omega)
 grind
theorem QD (x y:Real):x≤y∨y≤x:=by
 obtain ⟨a,rfl⟩:=ex x;obtain ⟨b,rfl⟩:=ex y
 by_cases h:leC a b
 ·exact Or.inl h
 ·right
  obtain ⟨d,hd,N,hN⟩:=YW h;intro e he;exact ⟨N,fun n hn=>by have:=hN n hn;grind⟩
theorem j3 {x y z u:Real}:x≤y→z≤u→x+z≤y+u:=by
 obtain ⟨a,rfl⟩:=ex x;obtain ⟨b,rfl⟩:=ex y;obtain ⟨c,rfl⟩:=ex z;obtain ⟨d,rfl⟩:=ex u;intro h k e he;obtain ⟨N,h⟩:=h (e / 2) (y6 he);obtain ⟨M,k⟩:=k (e / 2) (y6 he);refine ⟨N+M,fun n hn=>?_⟩;have:=h n (by omega);have:=k n (by omega);simp only [CS.add]
 grind
theorem mul_nonneg {x y:Real}:0≤x→0≤y→0≤x*y:=by
 obtain ⟨a,rfl⟩:=ex x;obtain ⟨b,rfl⟩:=ex y;intro h k e he;obtain ⟨A,N1,hA,ha⟩:=a.bd;obtain ⟨B,N2,hB,hb⟩:=b.bd;obtain ⟨d,hd,e1⟩:=zc9 he (show 0<A+B+1 by grind)
 obtain ⟨d', hd', hdd,hd1⟩:∃d':Rat,0<d'∧d'≤d∧d'≤1:=by
  by_cases h:d≤1
  ·exact ⟨d,hd,by grind,h⟩
  ·exact ⟨1,by grind,by grind,by grind⟩
 obtain ⟨N3,h⟩:=h d' hd';obtain ⟨N4,k⟩:=k d' hd';refine ⟨N1+N2+N3+N4,fun n hn=>?_⟩;have h0:=h n (by omega);have k0:=k n (by omega);have an:=ha n (by omega);have bn:=hb n (by omega);simp only [CS.con,CS.mul] at *;have p:=Rat.mul_nonneg (show 0≤a.s n+d' by grind) (show 0≤b.s n+d' by grind);have p2:=Rat.mul_nonneg (show 0≤A+B+1 by grind) (show 0≤d-d' by grind)
 have p3:=Rat.mul_nonneg (show 0≤d' by grind) (show 0≤A-a.s n by grind);have p4:=Rat.mul_nonneg (show 0≤d' by grind) (show 0≤B-b.s n by grind);have p5:=Rat.mul_nonneg (show 0≤d' by grind) (show 0≤1-d' by grind)
 grind
theorem zdW {a b:Rat}:q a≤q b↔a≤b:=by
 constructor
 ·intro h
  by_cases hh:a≤b
  ·exact hh
  ·exfalso
   obtain ⟨N,h⟩:=h ((a-b) / 2) (by grind);have:=h N (Nat.le_refl _);simp only [CS.con] at this
   grind
 ·intro h e he
  exact ⟨0,fun n _=>by simp only [CS.con];grind⟩
end Real
end Go.Proofs.YtcoiklclbljjeaaGreatDoor.R
namespace Go.Proofs.YtcoiklclbljjeaaGreatDoor.R
namespace Real
theorem sqn (x:Rat):0≤x*x:=by
 by_cases h:0≤x
 ·exact Rat.mul_nonneg h h
 ·have:=Rat.mul_nonneg (show 0≤-x by grind) (show 0≤-x by grind)
  grind
theorem Yd {x:Real} (h:x≤0):0≤-x:=by
 have:=j3 h (le_refl (-x));rw [zbv,add_comm,add_zero] at this;exact this
theorem zlO {a:CS} (h:mk a≠0):∃d:Rat,0<d∧∃N,∀n,N≤n→d*d≤a.s n*a.s n:=by
 by_cases l:leC a (CS.con 0)
 ·have l2:¬leC (CS.con 0) a:=fun k=>h (le_antisymm (x:=mk a) (y:=0) l k)
  obtain ⟨d,hd,N,hN⟩:=YW l2;refine ⟨d,hd,N,fun n hn=>?_⟩;have:=hN n hn;simp only [CS.con] at this;have p:=Rat.mul_nonneg (show 0≤-a.s n-d by grind) (show 0≤-a.s n+d by grind)
  grind
 ·obtain ⟨d,hd,N,hN⟩:=YW l
  refine ⟨d,hd,N,fun n hn=>?_⟩;have:=hN n hn;simp only [CS.con] at this;have p:=Rat.mul_nonneg (show 0≤a.s n-d by grind) (show 0≤a.s n+d by grind)
  grind
theorem zeb {x:Real} (h:x≠0):∃y,x*y=1:=by
 obtain ⟨a,rfl⟩:=ex x;obtain ⟨d,hd,N,hN⟩:=zlO h;have hdd:0<d*d:=Rat.mul_pos hd hd;have h0:∀n,N≤n→a.s n≠0:=fun n hn e=>by have:=hN n hn;rw [e] at this;grind
 refine ⟨mk ⟨fun n=>(a.s n)⁻¹,fun e he=>?_⟩,?_⟩
 ·obtain ⟨M,hM⟩:=a.c (e*(d*d)) (Rat.mul_pos he hdd)
  refine ⟨N+M,fun m n hm hn=>?_⟩;have am:=h0 m (by omega);have an:=h0 n (by omega);have k1:=hM n m (by omega) (by omega);have k2:=hM m n (by omega) (by omega);have g1:=hN m (by omega);have g2:=hN n (by omega);have eqn:(a.s m)⁻¹-(a.s n)⁻¹=(a.s n-a.s m)*((a.s m)⁻¹*(a.s n)⁻¹):=by grind
  rw [eqn];generalize hx:(a.s m)⁻¹=u at *;generalize hy:(a.s n)⁻¹=v at *;have hu:a.s m*u=1:=by rw [←hx];grind
  have hv:a.s n*v=1:=by rw [←hy];grind
  have eu:a.s m*a.s m*(u*u)=1:=by
   have:a.s m*a.s m*(u*u)=(a.s m*u)*(a.s m*u):=by grind
   rw [this,hu];grind
  have ev:a.s n*a.s n*(v*v)=1:=by
   have:a.s n*a.s n*(v*v)=(a.s n*v)*(a.s n*v):=by grind
   rw [this,hv];grind
  have bu:u*u*(d*d)≤1:=by
   have:=Rat.mul_nonneg (show 0≤a.s m*a.s m-d*d by grind) (sqn u);rw [show (a.s m*a.s m-d*d)*(u*u)=a.s m*a.s m*(u*u)-u*u*(d*d) by grind,eu] at this
   grind
  have bv:v*v*(d*d)≤1:=by
   have:=Rat.mul_nonneg (show 0≤a.s n*a.s n-d*d by grind) (sqn v);rw [show (a.s n*a.s n-d*d)*(v*v)=a.s n*a.s n*(v*v)-v*v*(d*d) by grind,ev] at this
   grind
  have b1:u*v*(d*d)≤1:=by
   have:=Rat.mul_nonneg (sqn (u-v)) (show 0≤d*d by grind)
   grind
  have b2:-1≤u*v*(d*d):=by
   have:=Rat.mul_nonneg (sqn (u+v)) (show 0≤d*d by grind)
   grind
  have e1:(a.s n-a.s m)*(u*v)*(d*d)≤e*(d*d):=by
   have:=zf7 (x:=u*v*(d*d)) (y:=a.s n-a.s m) (B:=1) (d:=e*(d*d)) (by grind) b1 (by grind) k1
   grind
  have:=Rat.le_of_mul_le_mul_right e1 hdd;exact this
 ·refine sound fun e he=>⟨N,fun n hn=>?_⟩
  have an:=h0 n hn;simp only [CS.mul,CS.con];have:a.s n*(a.s n)⁻¹=1:=by grind
  constructor<;>grind
theorem zc8 (x : Rat) (hx : 0 ≤ x) (k : Nat) : ∃ s : Rat, 0 ≤ s ∧ s * s ≤ x ∧ x ≤ (s + 1 / ((k : Rat) + 1)) * (s + 1 / ((k : Rat) + 1)) := by
  have hk : (0 : Rat) < (k : Rat) + 1 := by have : (0 : Rat) ≤ (k : Rat) := by exact_mod_cast Nat.zero_le k
                                            grind
  obtain ⟨t, ht, ht0⟩ : ∃ t, t = 1 / ((k : Rat) + 1) ∧ 0 < t := ⟨_, rfl, by rw [Rat.div_def]; have := Rat.inv_pos.mpr hk; grind⟩
  rw [← ht]
  have big : ∃ m : Nat, x ≤ ((m : Rat) * t) * ((m : Rat) * t) := by
    have hz : ∃ m : Nat, x / t + 1 ≤ (m : Rat) ∧ 1 / t + 1 ≤ (m : Rat) := by
      refine ⟨(x / t + 1).ceil.toNat + (1 / t + 1).ceil.toNat, ?_, ?_⟩
      · have h1 := Rat.le_ceil (x := x / t + 1)
        have h2 : (((x / t + 1).ceil : Int) : Rat) ≤ (((x / t + 1).ceil.toNat + (1 / t + 1).ceil.toNat : Nat) : Rat) := by
          have : (x / t + 1).ceil ≤ (((x / t + 1).ceil.toNat + (1 / t + 1).ceil.toNat : Nat) : Int) := by omega
          exact_mod_cast this
        exact Rat.le_trans h1 h2
      · have h1 := Rat.le_ceil (x := 1 / t + 1)
        have h2 : (((1 / t + 1).ceil : Int) : Rat) ≤ (((x / t + 1).ceil.toNat + (1 / t + 1).ceil.toNat : Nat) : Rat) := by
          have : (1 / t + 1).ceil ≤ (((x / t + 1).ceil.toNat + (1 / t + 1).ceil.toNat : Nat) : Int) := by omega
          exact_mod_cast this
        exact Rat.le_trans h1 h2
    obtain ⟨m, h1, h2⟩ := hz;refine ⟨m, ?_⟩;generalize (m : Rat) = M at *
    have p1 : x + t ≤ M * t := by
      have := Rat.mul_le_mul_of_nonneg_right h1 (Rat.le_of_lt ht0);have e : (x / t + 1) * t = x + t := by grind
      grind
    have p2 : 1 + t ≤ M * t := by
      have := Rat.mul_le_mul_of_nonneg_right h2 (Rat.le_of_lt ht0);have e : (1 / t + 1) * t = 1 + t := by grind
      grind
    generalize M * t = z at *;have := Rat.mul_nonneg (show 0 ≤ z - 1 by grind) (show 0 ≤ z by grind)
    grind
  obtain ⟨m, hm⟩ := big
  induction m with
  | zero =>
    refine ⟨0, by grind, by grind, ?_⟩;have : x ≤ 0 := by grind
    have := Rat.mul_nonneg (Rat.le_of_lt ht0) (Rat.le_of_lt ht0)
    grind
  | succ m ih =>
    by_cases h : x ≤ ((m : Rat) * t) * ((m : Rat) * t)
    · exact ih h
    · refine ⟨(m : Rat) * t, Rat.mul_nonneg (by exact_mod_cast Nat.zero_le m) (Rat.le_of_lt ht0), by grind, ?_⟩
      have e : ((m + 1 : Nat) : Rat) = (m : Rat) + 1 := by simp
      rw [e] at hm
      grind
end Real
end Go.Proofs.YtcoiklclbljjeaaGreatDoor.R
namespace Go.Proofs.YtcoiklclbljjeaaGreatDoor.R
namespace Real
theorem zlP {d:Rat} (hd:0<d):∃N:Nat,∀n:Nat,N≤n→1 / ((n:Rat)+1)≤d:=by
 refine ⟨(1 / d).ceil.toNat,fun n hn=>?_⟩;have h1:=Rat.le_ceil (x:=1 / d)
 have h2:(((1 / d).ceil:Int):Rat)≤((n:Nat):Rat):=by
  have:(1 / d).ceil≤((n:Nat):Int):=by omega
  exact_mod_cast this
 have h3:1 / d≤(n:Rat):=Rat.le_trans h1 h2
 have hk:(0:Rat)<(n:Rat)+1:=by
  have:(0:Rat)≤(n:Rat):=by exact_mod_cast Nat.zero_le n
  grind
 generalize (n:Rat)=M at *;have p:=Rat.mul_le_mul_of_nonneg_right h3 (Rat.le_of_lt hd);have e:1 / d*d=1:=by grind
 have h5:1≤d*(M+1):=by grind
 have e2:1 / (M+1)*(M+1)=1:=by grind
 have:1 / (M+1)*(M+1)≤d*(M+1):=by grind
 exact Rat.le_of_mul_le_mul_right this hk
theorem zll {x y:Rat} (hx:0≤x) (hy:0≤y) (h:x*x≤y*y):x≤y:=by
 by_cases hh:x≤y
 ·exact hh
 ·exfalso
  have h1:0<x-y:=by grind
  have h2:0<x+y:=by grind
  have:=Rat.mul_pos h1 h2
  grind
theorem zdP {x:Real} (h:0≤x):∃y,0≤y∧y*y=x:=by
 obtain ⟨a,rfl⟩:=ex x;replace h:leC (CS.con 0) a:=h;obtain ⟨A,N0,hA,ha⟩:=a.bd
 have hu:∃u:Nat→Rat,(∀n,0≤u n)∧∀n,u n=a.s n∨(u n=0∧a.s n≤0):=by
  refine ⟨fun n=>if a.s n≤0 then 0 else a.s n,fun n=>?_,fun n=>?_⟩
  ·by_cases hh:a.s n≤0
   ·simp [hh]
   ·simp only [hh,if_false];grind
  ·by_cases hh:a.s n≤0
   ·right;simp [hh]
   ·left;simp [hh]
 obtain ⟨u,hu0,hu⟩:=hu
 have hs:∃s:Nat→Rat,∀n,0≤s n∧s n*s n≤u n∧u n≤(s n+1 / ((n:Rat)+1))*(s n+1 / ((n:Rat)+1)) :=
  ⟨fun n=>Classical.choose (zc8 (u n) (hu0 n) n),fun n=>Classical.choose_spec (zc8 (u n) (hu0 n) n)⟩
 obtain ⟨s,hs⟩:=hs
 have sb:∀n,N0≤n→s n≤A+1:=fun n hn=>by
  have:=ha n hn;have h2:u n≤A:=by have:=hu n;grind
  refine zll (hs n).1 (by grind) ?_;have:=(hs n).2.1;have:=Rat.mul_nonneg (Rat.le_of_lt hA) (Rat.le_of_lt hA)
  grind
 have near:∀e:Rat,0<e→∃N,∀n,N≤n→u n≤s n*s n+e:=fun e he=>by
  obtain ⟨d,hd,e1⟩:=zc9 he (show 0<2*(A+1)+1 by grind)
  obtain ⟨d', hd', hdd,hd1⟩:∃d':Rat,0<d'∧d'≤d∧d'≤1:=by
   by_cases h:d≤1
   ·exact ⟨d,hd,by grind,h⟩
   ·exact ⟨1,by grind,by grind,by grind⟩
  obtain ⟨N,hN⟩:=zlP hd';refine ⟨N+N0,fun n hn=>?_⟩;have t1:=hN n (by omega)
  have t0:0≤1 / ((n:Rat)+1):=by
   have hk:(0:Rat)<(n:Rat)+1:=by
    have:(0:Rat)≤(n:Rat):=by exact_mod_cast Nat.zero_le n
    grind
   have:=Rat.inv_pos.mpr hk;rw [Rat.div_def];grind
  have hh:=(hs n).2.2;have s0:=(hs n).1;have s1:=sb n (by omega);generalize 1 / ((n:Rat)+1)=t at *;have p1:=Rat.mul_nonneg (show 0≤(A+1)-s n by grind) t0;have p2:=Rat.mul_nonneg (show 0≤A+1 by grind) (show 0≤d'-t by grind);have p3:=Rat.mul_nonneg t0 (show 0≤d'-t by grind);have p4:=Rat.mul_nonneg (Rat.le_of_lt hd') (show 0≤1-t by grind);have p5:=Rat.mul_nonneg (show 0≤A+1 by grind) (show 0≤d-d' by grind)
  grind
 have hc:∀e:Rat,0<e→∃N,∀m n,N≤m→N≤n→s m-s n≤e:=fun e he=>by
  have hee:0<e*e:=Rat.mul_pos he he;obtain ⟨N1,h1⟩:=a.c (e*e / 2 / 2) (y6 (y6 hee));obtain ⟨N2,h2⟩:=near (e*e / 2) (y6 hee);refine ⟨N1+N2+N0,fun m n hm hn=>?_⟩
  by_cases hh:s m-s n≤e
  ·exact hh
  ·exfalso
   have p:=h2 n (by omega);have q:=h1 m n (by omega) (by omega);have um:=hu m;have un:=hu n;have um0:=hu0 m;have un0:=hu0 n;have sm:=(hs m).2.1;have s0:=(hs n).1;have s1:=(hs m).1;have p1:=Rat.mul_pos (show 0<s m-s n-e by grind) (show 0<s m+s n by grind);have p2:=Rat.mul_nonneg (show 0≤s m+s n-e by grind) (Rat.le_of_lt he)
   grind
 refine ⟨mk ⟨s,hc⟩,?_,?_⟩
 ·show leC (CS.con 0) ⟨s,hc⟩
  exact fun e he=>⟨0,fun n _=>by have:=(hs n).1;simp only [CS.con];grind⟩
 ·refine sound fun e he=>?_
  obtain ⟨N2,h2⟩:=near (e / 2) (y6 he);obtain ⟨N3,h3⟩:=h (e / 2) (y6 he);refine ⟨N2+N3,fun n hn=>?_⟩;have p:=h2 n (by omega);have q:=h3 n (by omega);have un:=hu n;have sm:=(hs n).2.1;simp only [CS.mul,CS.con] at *;constructor<;>grind
end Real
end Go.Proofs.YtcoiklclbljjeaaGreatDoor.R
namespace Go.Proofs.YtcoiklclbljjeaaGreatDoor.R
namespace Real
theorem zero_add (x:Real):0+x=x:=by rw [add_comm,add_zero]
theorem zero_mul (x:Real):0*x=0:=by rw [mul_comm,Zc]
theorem one_mul (x:Real):1*x=x:=by rw [mul_comm,mul_one]
theorem zi7 (x:Real):-x+x=0:=by rw [add_comm,zbv]
theorem neg_neg (x:Real):- -x=x:=by
 obtain ⟨a,rfl⟩:=ex x;exact pt fun n=>by simp only [CS.neg];grind
theorem zkc (x y:Real):-(x+y)=-x+-y:=by
 obtain ⟨a,rfl⟩:=ex x;obtain ⟨b,rfl⟩:=ex y;exact pt fun n=>by simp only [CS.neg,CS.add];grind
theorem neg_mul (x y:Real):-x*y=-(x*y):=by
 obtain ⟨a,rfl⟩:=ex x;obtain ⟨b,rfl⟩:=ex y;exact pt fun n=>by simp only [CS.neg,CS.mul];grind
theorem mul_neg (x y:Real):x*-y=-(x*y):=by rw [mul_comm,neg_mul,mul_comm]
theorem zbV:-(0:Real)=0:=pt fun n=>by simp only [CS.neg,CS.con];grind
theorem sub_self (x:Real):x-x=0:=zbv x
theorem sub_zero (x:Real):x-0=x:=by rw [sub_def,zbV,add_zero]
theorem zgS (x y:Real):x-y+y=x:=by rw [sub_def,add_assoc,zi7,add_zero]
theorem QF {x y:Real} (h:x-y=0):x=y:=by rw [←zgS x y,h,zero_add]
theorem Qa (x y z:Real):x*(y-z)=x*y-x*z:=by rw [sub_def,mul_add,mul_neg,sub_def]
theorem zj6 (x y z:Real):(x-y)*z=x*z-y*z:=by rw [mul_comm,Qa,mul_comm z,mul_comm z]
theorem le_of_eq {x y:Real} (h:x=y):x≤y:=h▸le_refl x
theorem QP {x y:Real}:0≤y-x↔x≤y:=by
 constructor
 ·intro h
  have:=j3 h (le_refl x);rw [zero_add,zgS] at this;exact this
 ·intro h
  have:=j3 h (le_refl (-x));rw [zbv] at this;exact this
theorem neg_le {x y:Real} (h:x≤y):-y≤-x:=by
 refine QP.mp ?_;rw [sub_def,neg_neg,add_comm];exact QP.mpr h
theorem vw {x y z:Real} (hz:0≤z) (h:x≤y):z*x≤z*y:=by
 refine QP.mp ?_;rw [←Qa];exact mul_nonneg hz (QP.mpr h)
theorem yR {x y z:Real} (hz:0≤z) (h:x≤y):x*z≤y*z:=by
 rw [mul_comm x,mul_comm y];exact vw hz h
theorem vf {x y z:Real} (hz:z≤0) (h:x≤y):z*y≤z*x:=by
 have:=vw (Yd hz) h;rw [neg_mul,neg_mul] at this;have:=neg_le this;rw [neg_neg,neg_neg] at this;exact this
theorem zaa (x:Real):0≤x*x:=by
 rcases QD 0 x with h|h
 ·exact mul_nonneg h h
 ·have:=mul_nonneg (Yd h) (Yd h)
  rw [neg_mul,mul_neg,neg_neg] at this;exact this
theorem VA {a b x c m:Real} (h1:a≤x) (h2:x≤b) (k1:m≤c*a) (k2:m≤c*b):m≤c*x:=by
 rcases QD 0 c with h|h
 ·exact le_trans k1 (vw h h1)
 ·exact le_trans k2 (vf h h2)
theorem JM {a b x c m:Real} (h1:a≤x) (h2:x≤b) (k1:c*a≤m) (k2:c*b≤m):c*x≤m:=by
 rcases QD 0 c with h|h
 ·exact le_trans (vw h h2) k2
 ·exact le_trans (vf h h1) k1
theorem v8 {x y:Real} (h:x*y=0) (hx:x≠0):y=0:=by
 obtain ⟨u,hu⟩:=zeb hx;have:u*(x*y)=y:=by rw [←mul_assoc,mul_comm u,hu,one_mul]
 rw [←this,h,Zc]
theorem zgT {x:Real} (h:x*x=0):x=0:=by
 by_cases hx:x=0
 ·exact hx
 ·exact v8 h hx
theorem zak {x y z:Real} (hz:0≤z) (hn:z≠0) (h:x*z≤y*z):x≤y:=by
 rcases QD x y with k|k
 ·exact k
 ·have e:=le_antisymm h (yR hz k)
  have:z*(x-y)=0:=by rw [Qa,mul_comm z,mul_comm z,e,sub_self]
  rw [QF (v8 this hn)];exact le_refl y
theorem Vj {x y:Real} (hy:0≤y) (h:x*x≤y*y):x≤y:=by
 rcases QD x y with k|k
 ·exact k
 ·have hx:=le_trans hy k
  have e:=le_antisymm h (le_trans (vw hy k) (yR hx k));have k1:y*y≤x*y:=yR hy k;have k2:x*y≤x*x:=vw hx k;have e2:x*y=y*y:=le_antisymm (e▸k2) k1
  have:(x-y)*(x-y)=0:=by
   rw [zj6,Qa,Qa,mul_comm y x,e,e2,sub_self]
  rw [QF (zgT this)];exact le_refl y
noncomputable def inv (x:Real):Real:=open Classical in if h:x≠0 then Classical.choose (zeb h) else 0
noncomputable instance:Div Real:=⟨fun x y=>x*inv y⟩
theorem yq (x:Real) {y:Real} (h:y≠0):x / y*y=x:=by
 show x*inv y*y=x;have:y*inv y=1:=by unfold inv;rw [dif_pos h];exact Classical.choose_spec (zeb h)
 rw [mul_assoc,mul_comm _ y,this,mul_one]
theorem zjw {x y z:Real} (h:y≠0) (e:z*y=x):z=x / y:=by
 have:y*(z-x / y)=0:=by rw [Qa,mul_comm y,mul_comm y,yq _ h,e,sub_self]
 exact QF (v8 this h)
noncomputable def zbb (x:Real):Real:=open Classical in if h:0≤x then Classical.choose (zdP h) else 0
theorem JC (x:Real):0≤zbb x:=by
 unfold zbb
 split
 ·rename_i h;exact (Classical.choose_spec (zdP h)).1
 ·exact le_refl 0
theorem Vi {x:Real} (h:0≤x):zbb x*zbb x=x:=by
 unfold zbb;rw [dif_pos h];exact (Classical.choose_spec (zdP h)).2
def Sig (n:Nat) (f:Nat→Real):Real:=match n with
 | 0=>0
 | n+1=>Sig n f+f n
theorem qm {n:Nat} {f g:Nat→Real} (h:∀i,i<n→f i=g i):Sig n f=Sig n g:=by
 induction n with
 | zero=>rfl
 | succ n ih=>show Sig n f+f n=Sig n g+g n;rw [ih (fun i hi=>h i (by omega)),h n (by omega)]
theorem zlR (a b c d:Real):a+b+(c+d)=a+c+(b+d):=by rw [add_assoc,add_assoc,←add_assoc b,add_comm b,add_assoc c]
theorem zho (n:Nat) (f g:Nat→Real):Sig n (fun i=>f i+g i)=Sig n f+Sig n g:=by
 induction n with
 | zero=>show (0:Real)=0+0;rw [add_zero]
 | succ n ih=>show Sig n _+(f n+g n)=Sig n f+f n+(Sig n g+g n);rw [ih,zlR]
theorem VW {n:Nat} {f:Nat→Real} (h:∀i,i<n→f i=0):Sig n f=0:=by
 induction n with
 | zero=>rfl
 | succ n ih=>show Sig n f+f n=0;rw [ih (fun i hi=>h i (by omega)),h n (by omega),add_zero]
theorem Qb (n:Nat) (c:Real) (f:Nat→Real):c*Sig n f=Sig n fun i=>c*f i:=by
 induction n with
 | zero=>exact Zc c
 | succ n ih=>show c*(Sig n f+f n)=Sig n _+c*f n;rw [mul_add,ih]
theorem VZ (n:Nat) (c:Real) (f:Nat→Real):Sig n f*c=Sig n fun i=>f i*c:=by
 rw [mul_comm,Qb];exact qm fun i _=>mul_comm _ _
theorem zkD (n:Nat) (f:Nat→Real):(Sig n fun i=>-f i)=-Sig n f:=by
 induction n with
 | zero=>exact zbV.symm
 | succ n ih=>show Sig n _+-f n=-(Sig n f+f n);rw [ih,zkc]
theorem zkC (n:Nat) (f g:Nat→Real):(Sig n fun i=>f i-g i)=Sig n f-Sig n g:=by
 show (Sig n fun i=>f i+-g i)=_;rw [zho,zkD];rfl
theorem VY (n m:Nat) (f:Nat→Nat→Real):(Sig n fun i=>Sig m fun j=>f i j)=Sig m fun j=>Sig n fun i=>f i j:=by
 induction n with
 | zero=>exact (VW fun j _=>rfl).symm
 | succ n ih=>show Sig n _+Sig m _=Sig m fun j=>Sig n _+f n j;rw [ih,←zho]
theorem zhn {n k:Nat} (hk:k<n) {f:Nat→Real} (h:∀i,i<n→i≠k→f i=0):Sig n f=f k:=by
 induction n with
 | zero=>omega
 | succ n ih =>
  show Sig n f+f n=f k
  by_cases e:k=n
  ·subst e;rw [VW (fun i hi=>h i (by omega) (by omega)),zero_add]
  ·rw [ih (by omega) (fun i hi=>h i (by omega)),h n (by omega) (by omega),add_zero]
theorem zdD (k m:Nat) (f:Nat→Real):Sig (k+m) f=Sig k f+Sig m fun i=>f (k+i):=by
 induction m with
 | zero=>show Sig k f=Sig k f+0;rw [add_zero]
 | succ m ih=>show Sig (k+m) f+f (k+m)=Sig k f+(Sig m _+f (k+m));rw [ih,add_assoc]
theorem zdE (n:Nat) (f:Nat→Real):Sig (n+1) f=f 0+Sig n fun i=>f (i+1):=by
 have:=zdD 1 n f;rw [Nat.add_comm 1 n] at this;rw [this];show 0+f 0+_=_;rw [zero_add];exact congrArg _ (qm fun i _=>by rw [Nat.add_comm])
theorem zcF {n:Nat} {f:Nat→Real} (h:∀i,i<n→0≤f i):0≤Sig n f:=by
 induction n with
 | zero=>exact le_refl 0
 | succ n ih =>
  have:=j3 (ih fun i hi=>h i (by omega)) (h n (by omega));rw [add_zero] at this;exact this
theorem YM {x y:Real} (hx:0≤x) (hy:0≤y) (h:x+y=0):x=0∧y=0:=by
 have h1:x≤0:=by
  have:=j3 (le_refl x) hy;rw [h,add_zero] at this;exact this
 have e:=le_antisymm h1 hx;exact ⟨e,by rw [e,zero_add] at h;exact h⟩
theorem zez {n:Nat} {f:Nat→Real} (h:∀i,i<n→0≤f i) (e:Sig n f=0):∀i,i<n→f i=0:=by
 induction n with
 | zero=>intro i hi;omega
 | succ n ih =>
  have:=YM (zcF fun i hi=>h i (by omega)) (h n (by omega)) e;intro i hi
  by_cases hh:i=n
  ·rw [hh];exact this.2
  ·exact ih (fun i hi=>h i (by omega)) this.1 i (by omega)
end Real
end Go.Proofs.YtcoiklclbljjeaaGreatDoor.R
namespace Go.Proofs.YtcoiklclbljjeaaGreatDoor.R
namespace Real
theorem zkE {x y:Real} (h:x+x=y+y):x=y:=by
 obtain ⟨u,hu⟩:=zeb (x:=(1+1:Real)) (fun e=>by
  have h1:(1:Real)+1=q (1+1):=(zkK 1 1).symm;have h2:q (1+1)≤q 0:=by rw [←h1,e];exact le_refl _
  have:=zdW.mp h2
  grind)
 have e:∀z:Real,(z+z)*u=z:=fun z=>by
  have:z+z=z*(1+1):=by rw [mul_add,mul_one]
  rw [this,mul_assoc,hu,mul_one]
 rw [←e x,h,e y]
def dot (n:Nat) (f g:Nat→Real):Real:=Sig n fun i=>f i*g i
theorem jN (n:Nat) (f g:Nat→Real):dot n f g=dot n g f:=qm fun _ _=>mul_comm _ _
theorem Yn (n:Nat) (f g h:Nat→Real):dot n f (fun i=>g i-h i)=dot n f g-dot n f h:=by
 unfold dot;rw [←zkC];exact qm fun _ _=>Qa _ _ _
theorem Ya (n:Nat) (f g h:Nat→Real):dot n (fun i=>g i-h i) f=dot n g f-dot n h f:=by
 rw [jN,Yn,jN n f,jN n f]
theorem zer (n:Nat) (f g:Nat→Real) (t:Real):dot n f (fun i=>g i*t)=dot n f g*t:=by
 unfold dot;rw [VZ];exact qm fun _ _=>(mul_assoc _ _ _).symm
theorem zd1 (n:Nat) (f g:Nat→Real) (t:Real):dot n (fun i=>g i*t) f=dot n g f*t:=by
 rw [jN,zer,jN]
theorem ye {n:Nat} {f g f' g':Nat→Real} (h:∀i,i<n→f i=f' i) (k:∀i,i<n→g i=g' i):dot n f g=dot n f' g' :=
 qm fun i hi=>by rw [h i hi,k i hi]
theorem r1 (wu tu wv tw uv q:Real):wu-wv*tu-(uv*tw-q*tw*tu)=wu+(tw*(q*tu)-tw*uv-tu*wv):=by
 obtain ⟨a,rfl⟩:=ex wu;obtain ⟨b,rfl⟩:=ex tu;obtain ⟨c,rfl⟩:=ex wv;obtain ⟨d,rfl⟩:=ex tw;obtain ⟨e,rfl⟩:=ex uv;obtain ⟨f,rfl⟩:=ex q;exact pt fun n=>by simp only [CS.mul,CS.add,CS.neg];grind
theorem r2 (tw tu q:Real):tw*(q*tu)+tw*(q*tu)-tw*(q*tu)-tu*(q*tw)=0:=by
 obtain ⟨b,rfl⟩:=ex tu;obtain ⟨d,rfl⟩:=ex tw;obtain ⟨f,rfl⟩:=ex q;exact pt fun n=>by simp only [CS.mul,CS.add,CS.neg,CS.con];grind
theorem r3 (x y z:Real):x-y-z+(x-y-z)=x+x-(y+y)-(z+z):=by
 obtain ⟨b,rfl⟩:=ex x;obtain ⟨d,rfl⟩:=ex y;obtain ⟨f,rfl⟩:=ex z;exact pt fun n=>by simp only [CS.add,CS.neg];grind
theorem zg1 (x y:Real):x*y+x*y=x*(y+y):=(mul_add x y y).symm
noncomputable def mir (n:Nat) (v w:Nat→Real):Nat→Real:=fun i=>w i-v i*((dot n w v+dot n w v) / dot n v v)
theorem YK {n:Nat} {v:Nat→Real} (h:dot n v v=0):∀i,i<n→v i=0:=fun i hi =>
 zgT (zez (fun i _=>zaa (v i)) h i hi)
theorem zkg (n:Nat) (v w u:Nat→Real):dot n (mir n v w) (mir n v u)=dot n w u:=by
 by_cases hq:dot n v v=0
 ·have hv:=YK hq
  exact ye (fun i hi=>by show w i-v i*_=_;rw [hv i hi,zero_mul,sub_zero]) (fun i hi=>by show u i-v i*_=_;rw [hv i hi,zero_mul,sub_zero])
 ·obtain ⟨tw,ht⟩:∃tw,(dot n w v+dot n w v) / dot n v v=tw:=⟨_,rfl⟩
  obtain ⟨tu,hu⟩:∃tu,(dot n u v+dot n u v) / dot n v v=tu:=⟨_,rfl⟩
  have e1:dot n v v*tw=dot n w v+dot n w v:=by rw [←ht,mul_comm,yq _ hq]
  have e2:dot n v v*tu=dot n u v+dot n u v:=by rw [←hu,mul_comm,yq _ hq]
  unfold mir;rw [ht,hu,Ya,Yn,zer,Yn,zer,zd1,zd1,jN n v u,r1,e2]
  have:tw*(dot n u v+dot n u v)-tw*dot n u v-tu*dot n w v=0:=by
   refine zkE ?_;rw [r3,zg1 tw (dot n u v),zg1 tu (dot n w v),←e1,←e2,r2,add_zero]
  rw [this,add_zero]
def tip (p:Real):Nat→Real:=fun i=>if i=0 then p else 0
theorem zhg {n:Nat} (hn:1≤n) (f:Nat→Real) (p:Real):dot n f (tip p)=f 0*p:=by
 unfold dot;rw [zhn (k:=0) (by omega) (fun i _ hi=>by unfold tip;rw [if_neg hi,Zc])];rfl
theorem r4 (a b c:Real):a-b-(b-a)=(a-b)+(a-b):=by
 obtain ⟨x,rfl⟩:=ex a;obtain ⟨y,rfl⟩:=ex b;exact pt fun n=>by simp only [CS.add,CS.neg];grind
theorem r5 (a b c:Real):a-(b-c)=a+(c-b):=by
 obtain ⟨x,rfl⟩:=ex a;obtain ⟨y,rfl⟩:=ex b;obtain ⟨z,rfl⟩:=ex c;exact pt fun n=>by simp only [CS.add,CS.neg];grind
theorem r8 (a b c:Real):(b-a)*c+(b-a)*c=-((a-b+(a-b))*c):=by
 obtain ⟨x,rfl⟩:=ex a;obtain ⟨y,rfl⟩:=ex b;obtain ⟨z,rfl⟩:=ex c;exact pt fun n=>by simp only [CS.add,CS.neg,CS.mul];grind
theorem r9 (a b c d:Real):a-b*c+(a-b*c)=a+a-(b*c+b*c):=by
 obtain ⟨x,rfl⟩:=ex a;obtain ⟨y,rfl⟩:=ex b;obtain ⟨z,rfl⟩:=ex c;exact pt fun n=>by simp only [CS.add,CS.neg,CS.mul];grind
theorem r10 (a b:Real):a+a - -(b-a+(b-a))=b+b:=by
 obtain ⟨x,rfl⟩:=ex a;obtain ⟨y,rfl⟩:=ex b;exact pt fun n=>by simp only [CS.add,CS.neg];grind
theorem zg3 {n:Nat} (hn:1≤n) (x w:Nat→Real) (p:Real) (hp:p*p=dot n x x) :
  dot n (mir n (fun i=>x i-tip p i) w) (tip p)=dot n w x:=by
 obtain ⟨v,hv⟩:∃v:Nat→Real,(fun i=>x i-tip p i)=v:=⟨_,rfl⟩
 rw [hv];have hpp:dot n (tip p) (tip p)=p*p:=by rw [zhg hn];rfl
 have e0:dot n v (tip p)=dot n x (tip p)-p*p:=by rw [←hv,Ya,hpp]
 have e1:dot n v v=dot n v x-dot n v (tip p):=by
  have:dot n v v=dot n v (fun i=>x i-tip p i):=by rw [hv]
  rw [this,Yn]
 have e2:dot n v x=p*p-dot n x (tip p):=by rw [←hv,Ya,hp,jN n (tip p)]
 have eq2:dot n v v=(p*p-dot n x (tip p))+(p*p-dot n x (tip p)):=by rw [e1,e2,e0,r4 _ _ 0]
 have wv:dot n w v=dot n w x-dot n w (tip p):=by rw [←hv,Yn]
 by_cases hq:dot n v v=0
 ·have hz:=YK hq
  refine ye (fun i hi=>by show w i-v i*_=_;rw [hz i hi,zero_mul,sub_zero]) (fun i hi=>?_);have:=hz i hi;rw [←hv] at this;exact (QF this).symm
 ·obtain ⟨tw,ht⟩:∃tw,(dot n w v+dot n w v) / dot n v v=tw:=⟨_,rfl⟩
  have e3:dot n v v*tw=dot n w v+dot n w v:=by rw [←ht,mul_comm,yq _ hq]
  unfold mir;rw [ht,Ya,zd1,e0];refine zkE ?_;rw [r9 _ _ _ 0,r8,←eq2,e3,wv,r10]
end Real
end Go.Proofs.YtcoiklclbljjeaaGreatDoor.R
namespace Go.Proofs.YtcoiklclbljjeaaGreatDoor.R
namespace Real
theorem Yo (k m:Nat) (f g:Nat→Real):dot (k+m) f g=dot k f g+dot m (fun j=>f (k+j)) (fun j=>g (k+j)):=zdD k m _
theorem J4 {n:Nat} {f:Nat→Real} (g:Nat→Real) (h:∀i,i<n→f i=0):dot n f g=0:=VW fun i hi=>by rw [h i hi,zero_mul]
noncomputable def jj (c k:Nat) (p:Real) (A:Nat→Nat→Real):Nat→Nat→Real:=fun i j =>
 if i<k∨j<k then A i j
 else if i=k then tip p (j-k)
 else mir (c-k) (fun j=>A k (k+j)-tip p j) (fun j=>A i (k+j)) (j-k)
theorem zfR {c k:Nat} {p:Real} {A:Nat→Nat→Real} (hk:k<c) (hz:∀i,i<k→∀j,i<j→j<c→A i j=0)
  (hp:p*p=dot (c-k) (fun j=>A k (k+j)) (fun j=>A k (k+j))) (i l:Nat) :
  dot c (jj c k p A i) (jj c k p A l)=dot c (A i) (A l):=by
 obtain ⟨m,rfl⟩:∃m,c=k+m:=⟨c-k,by omega⟩
 have hm:k+m-k=m:=by omega
 rw [hm] at hp;have lo:∀i j,j<k→jj (k+m) k p A i j=A i j:=fun i j hj=>if_pos (.inr hj);have up:∀i,i<k→∀j,jj (k+m) k p A i j=A i j:=fun i hi j=>if_pos (.inl hi)
 have tp:∀j,jj (k+m) k p A k (k+j)=tip p j:=fun j=>by
  unfold jj;rw [if_neg (by omega),if_pos rfl,show k+j-k=j by omega]
 have dn:∀i,k<i→∀j,jj (k+m) k p A i (k+j)=mir m (fun j=>A k (k+j)-tip p j) (fun j=>A i (k+j)) j:=fun i hi j=>by
  unfold jj;rw [if_neg (by omega),if_neg (by omega),show k+j-k=j by omega,hm]
 rw [Yo,Yo];rw [show dot k (jj (k+m) k p A i) (jj (k+m) k p A l)=dot k (A i) (A l) from ye (fun j hj=>lo i j hj) (fun j hj=>lo l j hj)];refine congrArg _ ?_;have z:∀i,i<k→∀j,j<m→A i (k+j)=0:=fun i hi j hj=>hz i hi _ (by omega) (by omega)
 by_cases hi:i<k
 ·rw [J4 _ (fun j hj=>by rw [up i hi,z i hi j hj]),J4 _ (fun j hj=>z i hi j hj)]
 ·by_cases hl:l<k
  ·rw [jN,J4 _ (fun j hj=>by rw [up l hl,z l hl j hj]),jN,J4 _ (fun j hj=>z l hl j hj)]
  ·by_cases ei:i=k
   ·subst ei
    by_cases el:l=i
    ·subst el
     rw [show dot m (fun j=>jj (l+m) l p A l (l+j)) (fun j=>jj (l+m) l p A l (l+j))=dot m (tip p) (tip p) from ye (fun j _=>tp j) (fun j _=>tp j),zhg (by omega),←hp];rfl
    ·rw [show dot m (fun j=>jj (i+m) i p A i (i+j)) (fun j=>jj (i+m) i p A l (i+j))=dot m (tip p) (mir m (fun j=>A i (i+j)-tip p j) (fun j=>A l (i+j))) from ye (fun j _=>tp j) (fun j _=>dn l (by omega) j),jN,zg3 (by omega) _ _ p hp,jN]
   ·by_cases el:l=k
    ·subst el
     rw [show dot m (fun j=>jj (l+m) l p A i (l+j)) (fun j=>jj (l+m) l p A l (l+j))=dot m (mir m (fun j=>A l (l+j)-tip p j) (fun j=>A i (l+j))) (tip p) from ye (fun j _=>dn i (by omega) j) (fun j _=>tp j),zg3 (by omega) _ _ p hp]
    ·rw [show dot m (fun j=>jj (k+m) k p A i (k+j)) (fun j=>jj (k+m) k p A l (k+j))=dot m (mir m (fun j=>A k (k+j)-tip p j) (fun j=>A i (k+j))) (mir m (fun j=>A k (k+j)-tip p j) (fun j=>A l (k+j))) from ye (fun j _=>dn i (by omega) j) (fun j _=>dn l (by omega) j),zkg]
theorem zfQ {c k:Nat} {p:Real} {A:Nat→Nat→Real} (hz:∀i,i<k→∀j,i<j→j<c→A i j=0):∀i,i<k+1→∀j,i<j→j<c→jj c k p A i j=0:=by
 intro i hi j hij hj;unfold jj
 by_cases h:i<k
 ·rw [if_pos (.inl h)];exact hz i h j hij hj
 ·rw [if_neg (by omega),if_pos (by omega)]
  unfold tip;rw [if_neg (by omega)]
theorem zfV {n:Nat} {L S:Nat→Nat→Real} (neg:Nat→Prop) [DecidablePred neg] (hz:∀i,i<n→∀j,i<j→j<n→L i j=0)
  (hS:∀i j,S i j=if i<j then 0 else if neg j then -(L i j) else L i j) {i l:Nat} (hi:i<n) (hl:l<n) :
  dot n (S i) (S l)=dot n (L i) (L l):=by
 refine qm fun j hj=>?_;rw [hS,hS]
 by_cases h1:i<j
 ·rw [if_pos h1,hz i hi j h1 hj,zero_mul,zero_mul]
 ·by_cases h2:l<j
  ·rw [if_pos h2,hz l hl j h2 hj,Zc,Zc]
  ·rw [if_neg h1,if_neg h2]
   by_cases h:neg j
   ·rw [if_pos h,if_pos h,neg_mul,mul_neg,neg_neg]
   ·rw [if_neg h,if_neg h]
end Real
end Go.Proofs.YtcoiklclbljjeaaGreatDoor.R
