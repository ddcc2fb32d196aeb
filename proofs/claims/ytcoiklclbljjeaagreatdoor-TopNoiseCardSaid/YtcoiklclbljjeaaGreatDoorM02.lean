/- Lemmas of the card's proof. -/
import Derived.Test.YtcoiklclbljjeaaGreatDoorM01
set_option linter.unusedVariables false
set_option linter.unusedSimpArgs false
set_option maxRecDepth 100000
set_option maxHeartbeats 16000000
namespace Go.Proofs.YtcoiklclbljjeaaGreatDoor.R
namespace Real
structure CSt where
 A:Nat→Nat→Real
 E:Nat→Real
 a:Real
noncomputable def VK (a b:Real):Real:=zbb (a / b)
noncomputable def VM (w a b:Real):Real:=w / zbb (a*b)
noncomputable def Yw (n:Nat) (w:Nat→Real) (j:Nat) (s:CSt):CSt :=
 ⟨fun i m=>if m=j∧j≤i then s.A i j*VK s.a (s.a+w j*w j)-s.E i*VM (w j) s.a (s.a+w j*w j) else s.A i m,
  fun i=>if j≤i then s.E i+s.A i j*w j else s.E i,s.a+w j*w j⟩
noncomputable def zb5 (n:Nat) (w:Nat→Real) (s:CSt):Nat→CSt
 | 0=>s
 | k+1=>Yw n w (n-1-k) (zb5 n w s k)
def Pos (a:Real):Prop:=0≤a∧a≠0
theorem Pos.add {a b:Real} (h:Pos a) (k:0≤b):Pos (a+b):=by
 refine ⟨by have:=j3 h.1 k;rw [add_zero] at this;exact this,fun e=>h.2 (YM h.1 k e).1⟩
theorem Pos.mul {a b:Real} (h:Pos a) (k:Pos b):Pos (a*b):=⟨mul_nonneg h.1 k.1,fun e=>k.2 (v8 e h.2)⟩
theorem zbX {x y z:Real} (hz:z≠0) (h:x*z=y*z):x=y:=by
 have:z*(x-y)=0:=by rw [Qa,mul_comm z,mul_comm z,h,sub_self]
 exact QF (v8 this hz)
theorem zkU {x y:Real} (hx:0≤x) (hy:0≤y) (h:x*x=y*y):x=y:=le_antisymm (Vj hy (le_of_eq h)) (Vj hx (le_of_eq h.symm))
theorem Pos.div {a b:Real} (h:Pos a) (k:Pos b):0≤a / b:=by
 rcases QD 0 (a / b) with e|e
 ·exact e
 ·have:=yR k.1 e
  rw [yq _ k.2,zero_mul] at this;exact absurd (le_antisymm this h.1) h.2
theorem q1 (d g c b:Real):d*c*b*(g*g)=(d*g)*(c*g)*b:=by
 obtain ⟨x,rfl⟩:=ex d;obtain ⟨y,rfl⟩:=ex g;obtain ⟨z,rfl⟩:=ex c;obtain ⟨u,rfl⟩:=ex b;exact pt fun n=>by simp only [CS.mul];grind
theorem q2 (a w b:Real):a*w*b=w*(a*b):=by
 obtain ⟨y,rfl⟩:=ex a;obtain ⟨z,rfl⟩:=ex w;obtain ⟨u,rfl⟩:=ex b;exact pt fun n=>by simp only [CS.mul];grind
theorem q3 (x y:Real):x*y*(x*y)=x*x*(y*y):=by
 obtain ⟨a,rfl⟩:=ex x;obtain ⟨b,rfl⟩:=ex y;exact pt fun n=>by simp only [CS.mul];grind
theorem q4 (x a b:Real):x*(a*b)=x*b*a:=by
 obtain ⟨c,rfl⟩:=ex x;obtain ⟨d,rfl⟩:=ex a;obtain ⟨e,rfl⟩:=ex b;exact pt fun n=>by simp only [CS.mul];grind
theorem ziq {a b w:Real} (ha:Pos a) (hb:Pos b) :
  VK a b*VK a b*b=a∧VK a b*VM w a b*b=w∧VM w a b*VM w a b*(a*b)=w*w:=by
 have hab:=ha.mul hb;obtain ⟨g,hg⟩:∃g,zbb (a*b)=g:=⟨_,rfl⟩
 obtain ⟨d,hd⟩:∃d,zbb (a / b)=d:=⟨_,rfl⟩
 have gg:g*g=a*b:=by rw [←hg];exact Vi hab.1
 have dd:d*d=a / b:=by rw [←hd];exact Vi (ha.div hb)
 have g0:0≤g:=hg▸JC _;have d0:0≤d:=hd▸JC _;have gn:g≠0:=fun e=>by rw [e,Zc] at gg;exact hab.2 gg.symm
 have ddb:d*d*b=a:=by rw [dd,yq _ hb.2]
 have cg:w / g*g=w:=yq _ gn
 have dg:d*g=a:=by
  refine zkU (mul_nonneg d0 g0) ha.1 ?_;rw [q3,gg,q4,ddb]
 unfold VK VM;rw [hg,hd];refine ⟨ddb,?_,?_⟩
 ·refine zbX (z:=g*g) (by rw [gg];exact hab.2) ?_
  rw [q1,dg,cg,q2,gg]
 ·rw [←gg,←q3,cg]
theorem q5 (si sl ei el d c a b:Real):(si*d-ei*c)*(sl*d-el*c)*(a*b)=si*sl*(d*d*b)*a-(si*el+ei*sl)*(d*c*b)*a+ei*el*(c*c*(a*b)):=by
 obtain ⟨si,rfl⟩:=ex si;obtain ⟨sl,rfl⟩:=ex sl;obtain ⟨ei,rfl⟩:=ex ei;obtain ⟨el,rfl⟩:=ex el;obtain ⟨d,rfl⟩:=ex d;obtain ⟨c,rfl⟩:=ex c;obtain ⟨a,rfl⟩:=ex a;obtain ⟨b,rfl⟩:=ex b;exact pt fun n=>by simp only [CS.mul,CS.add,CS.neg];grind
theorem q6 (x qq rr a b:Real):(x-qq+rr)*(a*b)=x*a*b-qq*b*a+rr*a*b:=by
 obtain ⟨x,rfl⟩:=ex x;obtain ⟨q,rfl⟩:=ex qq;obtain ⟨r,rfl⟩:=ex rr;obtain ⟨a,rfl⟩:=ex a;obtain ⟨b,rfl⟩:=ex b;exact pt fun n=>by simp only [CS.mul,CS.add,CS.neg];grind
theorem q7 (si sl ei el a w:Real):si*sl*a*a-(si*el+ei*sl)*w*a+ei*el*(w*w)=si*sl*a*(a+w*w)-(ei+si*w)*(el+sl*w)*a+ei*el*(a+w*w):=by
 obtain ⟨si,rfl⟩:=ex si;obtain ⟨sl,rfl⟩:=ex sl;obtain ⟨ei,rfl⟩:=ex ei;obtain ⟨el,rfl⟩:=ex el;obtain ⟨a,rfl⟩:=ex a;obtain ⟨w,rfl⟩:=ex w;exact pt fun n=>by simp only [CS.mul,CS.add,CS.neg];grind
theorem zjL {a w:Real} (ha:Pos a) (hb:Pos (a+w*w)) (si sl ei el:Real) :
  (si*VK a (a+w*w)-ei*VM w a (a+w*w))*(sl*VK a (a+w*w)-el*VM w a (a+w*w))
   = si*sl-(ei+si*w)*(el+sl*w) / (a+w*w)+ei*el / a:=by
 obtain ⟨b,eb⟩:∃b,a+w*w=b:=⟨_,rfl⟩
 rw [eb] at hb ⊢;obtain ⟨h1,h2,h3⟩:=ziq (w:=w) ha hb;refine zbX (ha.mul hb).2 ?_;rw [q5,h1,h2,h3,q6,yq _ hb.2,yq _ ha.2,←eb,q7]
theorem zbw (n:Nat) (f:Nat→Real):Sig n (fun t=>f (n-1-t))=Sig n f:=by
 induction n with
 | zero=>rfl
 | succ n ih =>
  rw [zdE];show f (n+1-1-0)+_=Sig n f+f n;rw [add_comm,←ih];have:Sig n (fun i=>f (n+1-1-(i+1)))=Sig n (fun t=>f (n-1-t)):=qm fun i _=>by rw [show n+1-1-(i+1)=n-1-i by omega]
  rw [this];rfl
theorem q8 (x y s q r:Real):x-y+(s-q+y)=x+s-q:=by
 obtain ⟨x,rfl⟩:=ex x;obtain ⟨y,rfl⟩:=ex y;obtain ⟨s,rfl⟩:=ex s;obtain ⟨q,rfl⟩:=ex q;exact pt fun n=>by simp only [CS.add,CS.neg];grind
structure zj1 (n:Nat) (S:Nat→Nat→Real) (w:Nat→Real) (r:Real) (k:Nat) (s:CSt):Prop where
 a:s.a=r+Sig k fun t=>w (n-1-t)*w (n-1-t)
 pos:Pos s.a
 E:∀i,i<n→s.E i=Sig k fun t=>S i (n-1-t)*w (n-1-t)
 low:∀i m,m+k<n→s.A i m=S i m
 tri:∀i m,i<m→m<n→s.A i m=0
 gram:∀i l,i<n→l<n→(Sig k fun t=>s.A i (n-1-t)*s.A l (n-1-t))=(Sig k fun t=>S i (n-1-t)*S l (n-1-t))-s.E i*s.E l / s.a
theorem zfb {n:Nat} {S:Nat→Nat→Real} {w:Nat→Real} {r:Real} (hr:Pos r) (hS:∀i m,i<m→m<n→S i m=0) (k:Nat) (hk:k≤n) :
  zj1 n S w r k (zb5 n w ⟨S,fun _=>0,r⟩ k):=by
 induction k with
 | zero =>
  refine ⟨(add_zero r).symm,hr,fun i _=>rfl,fun i m _=>rfl,hS,fun i l _ _=>?_⟩;show (0:Real)=0-0*0 / r;have:(0:Real)*0 / r=0:=by rw [Zc];exact (zjw hr.2 (zero_mul r)).symm
  rw [this,sub_zero]
 | succ k ih =>
  have h:=ih (by omega);obtain ⟨s,hs⟩:∃s,zb5 n w ⟨S,fun _=>0,r⟩ k=s:=⟨_,rfl⟩
  obtain ⟨j,hj⟩:∃j,n-1-k=j:=⟨_,rfl⟩
  show zj1 n S w r (k+1) (Yw n w (n-1-k) (zb5 n w ⟨S,fun _=>0,r⟩ k));rw [hs] at h;rw [hs,hj];have hjn:j<n:=by omega
  have hsj:∀i,s.A i j=S i j:=fun i=>h.low i j (by omega);have hb:Pos (s.a+w j*w j):=h.pos.add (zaa _)
  have e0:∀i,i<j→s.E i=0:=fun i hi=>by
   rw [h.E i (by omega)];exact VW fun t ht=>by rw [hS i _ (by omega) (by omega),zero_mul]
  have hE:∀i,i<n→(Yw n w j s).E i=s.E i+S i j*w j:=fun i hi=>by
   show (if j≤i then s.E i+s.A i j*w j else s.E i)=_
   by_cases hh:j≤i
   ·rw [if_pos hh,hsj]
   ·rw [if_neg hh,hS i j (by omega) hjn,zero_mul,add_zero]
  have hA:∀i,i<n→(Yw n w j s).A i j=S i j*VK s.a (s.a+w j*w j)-s.E i*VM (w j) s.a (s.a+w j*w j):=fun i hi=>by
   show (if j=j∧j≤i then s.A i j*_-s.E i*_ else s.A i j)=_
   by_cases hh:j≤i
   ·rw [if_pos ⟨rfl,hh⟩,hsj]
   ·rw [if_neg (fun h=>hh h.2),hsj,hS i j (by omega) hjn,e0 i (by omega),zero_mul,zero_mul,sub_zero]
  have hA':∀i m,m≠j→(Yw n w j s).A i m=s.A i m:=fun i m hm=>if_neg (fun h=>hm h.1);refine ⟨?_,hb,fun i hi=>?_,fun i m hm=>?_,fun i m him hm=>?_,fun i l hi hl=>?_⟩
  ·show s.a+w j*w j=r+(Sig k _+w (n-1-k)*w (n-1-k))
   rw [hj,h.a,add_assoc]
  ·rw [hE i hi,h.E i hi]
   show _=Sig k _+S i (n-1-k)*w (n-1-k);rw [hj]
  ·rw [hA' i m (by omega)];exact h.low i m (by omega)
  ·by_cases e:m=j
   ·subst e
    rw [hA i (by omega),hS i m him hm,e0 i him,zero_mul,zero_mul,sub_zero]
   ·rw [hA' i m e];exact h.tri i m him hm
  ·show (Sig k _+(Yw n w j s).A i (n-1-k)*(Yw n w j s).A l (n-1-k))=Sig k _+S i (n-1-k)*S l (n-1-k)-_
   rw [hj];have g:=h.gram i l hi hl
   have:(Sig k fun t=>(Yw n w j s).A i (n-1-t)*(Yw n w j s).A l (n-1-t))=Sig k fun t=>s.A i (n-1-t)*s.A l (n-1-t) :=
    qm fun t ht=>by rw [hA' i _ (by omega),hA' l _ (by omega)]
   rw [this,g,hA i hi,hA l hl,zjL h.pos hb,hE i hi,hE l hl];exact q8 _ _ _ _ 0
theorem zkt {n:Nat} {S:Nat→Nat→Real} {w:Nat→Real} {r:Real} (hr:Pos r) (hS:∀i m,i<m→m<n→S i m=0) :
  let s:=zb5 n w ⟨S,fun _=>0,r⟩ n
  s.a=r+dot n w w∧Pos s.a∧(∀i,i<n→s.E i=dot n (S i) w)∧(∀i m,i<m→m<n→s.A i m=0) ∧
   ∀i l,i<n→l<n→dot n (s.A i) (s.A l)=dot n (S i) (S l)-s.E i*s.E l / s.a:=by
 intro s;have h:zj1 n S w r n s:=zfb hr hS n (Nat.le_refl n);refine ⟨?_,h.pos,fun i hi=>?_,h.tri,fun i l hi hl=>?_⟩
 ·rw [h.a];exact congrArg _ (zbw n fun j=>w j*w j)
 ·rw [h.E i hi];exact zbw n fun j=>S i j*w j
 ·have:=h.gram i l hi hl
  rw [zbw n (fun j=>s.A i j*s.A l j),zbw n (fun j=>S i j*S l j)] at this;exact this
theorem zdy (n:Nat) (S:Nat→Nat→Real) (h:Nat→Real) (i:Nat) :
  dot n (S i) (fun j=>dot n (fun m=>S m j) h)=dot n (fun m=>dot n (S i) (S m)) h:=by
 unfold dot;rw [show (Sig n fun j=>S i j*Sig n fun m=>S m j*h m)=Sig n fun j=>Sig n fun m=>S i j*(S m j*h m) from qm fun j _=>Qb _ _ _,VY];refine qm fun m _=>?_;rw [VZ];exact qm fun j _=>(mul_assoc _ _ _).symm
theorem zjK (n:Nat) (S:Nat→Nat→Real) (h:Nat→Real) :
  dot n (fun j=>dot n (fun m=>S m j) h) (fun j=>dot n (fun m=>S m j) h)=dot n h (fun i=>dot n (fun m=>dot n (S i) (S m)) h):=by
 have e:(fun i=>dot n (fun m=>dot n (S i) (S m)) h)=fun i=>dot n (S i) (fun j=>dot n (fun m=>S m j) h):=funext fun i=>(zdy n S h i).symm;rw [e];obtain ⟨w,hw⟩:∃w,(fun j=>dot n (fun m=>S m j) h)=w:=⟨_,rfl⟩
 have hwj:∀j,w j=Sig n fun m=>S m j*h m:=fun j=>by rw [←hw];rfl
 rw [hw];unfold dot;rw [show (Sig n fun i=>w i*w i)=Sig n fun i=>Sig n fun m=>S m i*h m*w i from qm fun i _=>by rw [←VZ,←hwj],VY];refine qm fun m _=>?_;rw [Qb];exact qm fun j _=>by rw [mul_comm (S m j),mul_assoc]
theorem q9 (p ki ul kl ui hu r a:Real):p-ki*ul-kl*(ui-ki*hu)+ki*r*kl=p-ki*ul-kl*ui+ki*kl*(hu+r):=by
 obtain ⟨p,rfl⟩:=ex p;obtain ⟨ki,rfl⟩:=ex ki;obtain ⟨ul,rfl⟩:=ex ul;obtain ⟨kl,rfl⟩:=ex kl;obtain ⟨ui,rfl⟩:=ex ui;obtain ⟨hu,rfl⟩:=ex hu;obtain ⟨r,rfl⟩:=ex r;exact pt fun n=>by simp only [CS.mul,CS.add,CS.neg];grind
theorem q10 (p ki kl a:Real):p-ki*(kl*a)-kl*(ki*a)+ki*kl*a=p-ki*kl*a:=by
 obtain ⟨p,rfl⟩:=ex p;obtain ⟨ki,rfl⟩:=ex ki;obtain ⟨kl,rfl⟩:=ex kl;obtain ⟨a,rfl⟩:=ex a;exact pt fun n=>by simp only [CS.mul,CS.add,CS.neg];grind
theorem q11 (ki kl a:Real):ki*kl*a*a=ki*a*(kl*a):=by
 obtain ⟨ki,rfl⟩:=ex ki;obtain ⟨kl,rfl⟩:=ex kl;obtain ⟨a,rfl⟩:=ex a;exact pt fun n=>by simp only [CS.mul];grind
def Jy (i l:Nat):Real:=if i=l then 1 else 0
theorem zeF {n i:Nat} (hi:i<n) (f:Nat→Real):dot n (Jy i) f=f i:=by
 unfold dot;rw [zhn hi (fun m _ hm=>by unfold Jy;rw [if_neg (Ne.symm hm),zero_mul])];unfold Jy;rw [if_pos rfl,one_mul]
theorem zk5 {n:Nat} {P:Nat→Nat→Real} {h:Nat→Real} {r:Real} (hs:∀i l,i<n→l<n→P i l=P l i)
  {u k:Nat→Real} {a:Real} (hu:∀i,i<n→u i=dot n (P i) h) (ea:a=dot n h u+r) (ha:a≠0) (hk:∀i,i<n→k i=u i / a)
  {M:Nat→Nat→Real} (hM:∀i j,i<n→j<n→M i j=Jy i j-k i*h j) {i l:Nat} (hi:i<n) (hl:l<n) :
  dot n (fun m=>dot n (M i) (fun j=>P j m)) (M l)+k i*r*k l=P i l-u i*u l / a:=by
 have e1:∀m,m<n→dot n (M i) (fun j=>P j m)=P i m-k i*u m:=fun m hm=>by
  rw [ye (fun j hj=>hM i j hi hj) (fun j _=>rfl),Ya,zeF hi];refine congrArg _ ?_;rw [hu m hm];unfold dot;rw [Qb];exact qm fun j hj=>by show k i*h j*P j m=_;rw [hs j m hj hm,mul_assoc,mul_comm (h j)]
 have e2:dot n (fun m=>dot n (M i) (fun j=>P j m)) (M l)=P i l-k i*u l-k l*(u i-k i*dot n h u):=by
  rw [ye e1 (fun j hj=>hM l j hl hj),Yn,jN n _ (Jy l),zeF hl];refine congrArg _ ?_
  have:dot n (fun m=>P i m-k i*u m) (fun j=>k l*h j)=k l*dot n (fun m=>P i m-k i*u m) h:=by
   unfold dot;rw [Qb];exact qm fun j _=>by show _*(k l*h j)=k l*(_*h j);rw [mul_comm,mul_assoc,mul_comm (h j)]
  rw [this,Ya,hu i hi];refine congrArg _ (congrArg _ ?_);unfold dot;rw [Qb];exact qm fun j _=>by show k i*u j*h j=_;rw [mul_assoc,mul_comm (u j)]
 have ki:k i*a=u i:=by rw [hk i hi,yq _ ha]
 have kl:k l*a=u l:=by rw [hk l hl,yq _ ha]
 rw [e2,q9 _ _ _ _ _ _ _ 0,←ea,←ki,←kl,q10];refine congrArg _ (zjw ha (q11 _ _ _))
end Real
end Go.Proofs.YtcoiklclbljjeaaGreatDoor.R
