/- Lemmas of the card's proof. -/
import Derived.Lib.Hide
import Derived.Test.YtcoiklclbljjeaaGreatDoorM00
set_option linter.unusedVariables false
set_option linter.unusedSimpArgs false
set_option maxRecDepth 100000
set_option maxHeartbeats 16000000
namespace Go.Proofs.YtcoiklclbljjeaaGreatDoor.L
open Go.RowKit
structure Dig (u d v1 v0 q r:Int):Prop where
 eq:u=q*v1+r
 r0:0≤r
 q0:0≤q
 q1:q≤4294967297
 up:u*4294967296+d<(q+1)*(v1*4294967296+v0)
theorem Dig.start {u d v1 v0:Int} (hu:0≤u) (hv:u<v1*4294967296+v0) (h1:2147483648≤v1) (h1':v1<4294967296) (h0:0≤v0) (h0':v0<4294967296) (hd:0≤d) (hd':d<4294967296) :
  Dig u d v1 v0 (u / v1) (u-u / v1*v1):=by
 have e:=Int.mul_ediv_add_emod u v1;have m0:=Int.emod_nonneg u (show v1≠0 by omega);have m1:=Int.emod_lt_of_pos u (show 0<v1 by omega);have er:u-u / v1*v1=u%v1:=by rw [Int.mul_comm];omega
 have hq0:0≤u / v1:=Int.ediv_nonneg hu (by omega)
 have hq1:u / v1≤4294967297:=by
  have:u / v1<4294967298:=Int.ediv_lt_of_lt_mul (by omega) (by omega);omega
 rw [er];refine ⟨?_,m0,hq0,hq1,?_⟩
 ·rw [Int.mul_comm (u / v1)];omega
 ·generalize u / v1=q at *
  generalize u%v1=r at *;have h2:0≤q*v0:=Int.mul_nonneg hq0 h0;have e2:(q+1)*(v1*4294967296+v0)=(v1*q)*4294967296+v1*4294967296+q*v0+v0:=by grind
  rw [e2];omega
theorem Dig.less {u d v1 v0 q r:Int} (h:Dig u d v1 v0 q r) (hv:u<v1*4294967296+v0) (h1:2147483648≤v1) (h0:0≤v0) (hd:0≤d) (hd':d<4294967296)
  (hc:4294967296≤q∨4294967296*r+d<q*v0):Dig u d v1 v0 (q-1) (r+v1):=by
 obtain ⟨e,r0,q0,q1,up⟩:=h
 have hp:u*4294967296+d<q*(v1*4294967296+v0):=by
  rcases hc with hc|hc
  ·have a:(u+1)*4294967296≤(v1*4294967296+v0)*4294967296:=Int.mul_le_mul_of_nonneg_right (by omega) (by decide)
   have b:(v1*4294967296+v0)*4294967296≤(v1*4294967296+v0)*q:=Int.mul_le_mul_of_nonneg_left hc (by omega);have c:=Int.mul_comm (v1*4294967296+v0) q;omega
  ·have e2:q*(v1*4294967296+v0)=(q*v1)*4294967296+q*v0:=by grind
   rw [e2];omega
 have hq:1≤q:=by
  rcases Int.lt_or_le 0 q with h|h
  ·omega
  ·have:q=0:=by omega
   subst this;rcases hc with hc|hc<;>omega
 refine ⟨by grind,by omega,by omega,by omega,?_⟩;have e3:q-1+1=q:=by omega
 rw [e3];exact hp
theorem Dig.done {u d v1 v0 q r:Int} (h:Dig u d v1 v0 q r) (h1:2147483648≤v1) (h0:0≤v0) (hc:q*v0≤4294967296*r+d) :
  (u*4294967296+d) / (v1*4294967296+v0)=q:=by
 obtain ⟨e,r0,q0,q1,up⟩:=h;have e2:q*(v1*4294967296+v0)=(q*v1)*4294967296+q*v0:=by grind
 have lo:q*(v1*4294967296+v0)≤u*4294967296+d:=by rw [e2];omega
 have hv:0<v1*4294967296+v0:=by omega
 apply Int.le_antisymm
 ·have:=Int.ediv_lt_of_lt_mul hv up
  omega
 ·exact (Int.le_ediv_iff_mul_le hv).mpr lo
theorem Dig.far {u d v1 v0 q r:Int} (h:Dig u d v1 v0 q r) (hq:q≤4294967296) (h1:2147483648≤v1) (h0:0≤v0) (h0':v0<4294967296) (hd:0≤d) (hr:4294967296≤r) :
  (u*4294967296+d) / (v1*4294967296+v0)=q:=by
 refine h.done h1 h0 ?_;have a:q*v0≤4294967296*v0:=Int.mul_le_mul_of_nonneg_right hq h0;omega
end Go.Proofs.YtcoiklclbljjeaaGreatDoor.L
