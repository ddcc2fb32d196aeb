/- Lemmas of the card's proof. -/
import Derived.Test.YtcoiklclbljjeaaGreatDoorM28
set_option linter.unusedVariables false
set_option linter.unusedSimpArgs false
set_option maxRecDepth 100000
set_option maxHeartbeats 16000000
namespace Go.Proofs.YtcoiklclbljjeaaGreatDoor.L
open Go.RowKit
section
attribute [local go_sem] Oper.semAt_some ve
def Ze (n k:Nat) (X:List (List Num)):List (List Num) :=
 let xs:=X.getD k []
 let x:=xs.drop k
 let p:=zch x
 let v:=zcg x p
 (yx (zcf k v (Zf v v)) X (k+1) n).set k ((qT k xs (xs.length-k)).set k p)
def zdt (n:Nat) (X:List (List Num)):Nat→List (List Num)
 | 0=>X
 | k+1=>Ze n k (zdt n X k)
def j1 (r c:Nat) (l:List Num):List (List Num):=(List.range r).map (qz c l)
def Jm (r c:Nat) (l:List Num):List Num:=(zdt r (j1 r c l) r).flatMap (List.take r)
def zhb (r c:Nat) (l:List Num):List Num:=Qq r (zab r (Jm r c l))
theorem zgu {k n:Nat} {R:List Row} {r:Row} (hr:R[k]?=some r):(Ja k n R r).map Row.xs=Ze n k (R.map Row.xs):=by
 unfold Ja Ze;have h:(R.map Row.xs).getD k []=r.xs:=Zp (by rw [List.getElem?_map,hr];rfl);simp only [h,List.map_set,zgQ]
theorem zh5 {k n:Nat} {R:List Row} {r:Row} (hr:R[k]?=some r):(Ja k n R r).map Row.g=R.map Row.g:=by
 unfold Ja;simp only [List.map_set,YQ];exact zeL (by rw [List.getElem?_map,hr];rfl)
theorem zh4 {k c:Nat} {v:List Num} {q:Num} {i:Nat} {xs:List Num} (hx:xs.length=c) (hv:v.length=c-k) (hk:k≤c):(zcf k v q i xs).length=c:=by
 unfold zcf L.vB qr;simp only [List.length_append,List.length_take,List.length_map,List.length_zip,List.length_drop];omega
theorem zem {n k c:Nat} {X:List (List Num)} (hX:X.length=n) (hc:∀x,x∈X→x.length=c) (hk:k<n) (hkc:k<c):(Ze n k X).length=n∧∀x,x∈Ze n k X→x.length=c:=by
 unfold Ze;obtain ⟨y,hy⟩:∃y,X[k]?=some y:=⟨_,List.getElem?_eq_getElem (by omega)⟩
 have hyl:=hc y (List.mem_of_getElem? hy);simp only [Zp hy];refine ⟨by rw [List.length_set,ZB,hX],fun x hx=>?_⟩;rcases List.mem_or_eq_of_mem_set hx with h|h
 ·obtain ⟨i,hi⟩:=List.getElem?_of_mem h
  rw [yt] at hi;obtain ⟨z,hz,he⟩:=Option.map_eq_some_iff.1 hi;have hzl:=hc z (List.mem_of_getElem? hz)
  by_cases h2:k+1≤i∧i<n
  ·rw [if_pos h2] at he
   rw [←he];exact zh4 hzl (by unfold zcg;rw [List.length_set,List.length_drop,hyl]) (by omega)
  ·rw [if_neg h2] at he;rw [←he];exact hzl
 ·rw [h,List.length_set]
  exact zaY (by omega) hyl
theorem zap {n c:Nat} {X:List (List Num)} (hX:X.length=n) (hc:∀x,x∈X→x.length=c) (hnc:n≤c):∀k,k≤n→(zdt n X k).length=n∧∀x,x∈zdt n X k→x.length=c
 | 0,_=>⟨hX,hc⟩
 | k+1,hk=>have ih:=zap hX hc hnc k (by omega);zem ih.1 ih.2 (by omega) (by omega)
theorem yL {r c:Nat} {l:List Num} (h:zt r c l):(j1 r c l).length=r∧∀x,x∈j1 r c l→x.length=c:=by
 refine ⟨by simp [j1],fun x hx=>?_⟩;obtain ⟨i,hi,rfl⟩:=List.mem_map.1 hx;exact qj h (List.mem_range.1 hi)
theorem Qn {r c:Nat} (hrc:r≤c):∀(X:List (List Num)),(∀x,x∈X→x.length=c)→(X.flatMap (List.take r)).length=X.length*r
 | [],_=>by simp
 | x::X,h=>by
  have ih:=Qn hrc X (fun y hy=>h y (List.mem_cons_of_mem _ hy));have hx:=h x List.mem_cons_self;rw [List.flatMap_cons,List.length_append,ih,List.length_take,List.length_cons,Nat.add_mul];omega
theorem zcj {r c:Nat} (hrc:r≤c) (R:List Row) (h:∀s,s∈R→s.xs.length=c):(R.flatMap fun s=>s.xs.take r).length=R.length*r:=by
 have:=Qn hrc (R.map Row.xs) (fun x hx=>by obtain ⟨s,hs,rfl⟩:=List.mem_map.1 hx;exact h s hs)
 rwa [List.flatMap_map,List.length_map] at this
theorem zt.fold0 {r c:Nat} {l:List Num} (h:zt r c l) (hrc:r≤c):zt r r (Jm r c l):=by
 refine ⟨h.r1,h.r2,h.r1,h.r2,?_⟩;have hf:=zap (yL h).1 (yL h).2 hrc r (Nat.le_refl _);unfold Jm;rw [Qn hrc _ hf.2,hf.1]
theorem Off.touch_above {lo hi N:Nat} {G:List Nat} {p:World→Prop} {W W':World} (h:Off [] lo hi N p W) (k:zD G W W') (hG:∀q,q∈G→N≤q):Off [] lo hi N p W' :=
 h.sim ⟨k.os,k.tape,k.output,k.size,fun i hi _ _=>k.block i (Nat.lt_of_lt_of_le hi h.top) (fun hq=>by have:=hG i hq;omega)⟩
theorem zP.touch_above {G:List Nat} {g:Nat} {l:List (TypeId×Array Value)} {W W':World} (h:zP W g l) (k:zD G W W') (hG:∀q,q∈G→g+l.length≤q):zP W' g l:=h.mono fun b _ _ h1 h2 a=>(k.block b a.lt (fun hq=>by have:=hG b hq;omega)).trans a
theorem qy.not_obj {W:World} {B k D:Nat} {v:Value} {R:List Row} {o:Obj} (h:qy W B v R k) (hD:W.heap[D]?=some o) (ho:o.isCells=false):D∉R.map Row.g:=fun hm=>by
 obtain ⟨r,hr,rfl⟩:=List.mem_map.1 hm;rcases (h.rows r hr).2 with ⟨e,_⟩|⟨g,cap,cur,e,_,hgb,_⟩
 ·cases e
 ·obtain rfl:r.g=g:=by simpa [Row.v] using (Value.slice.inj e).1
  rw [hgb] at hD;cases hD;cases ho
theorem zgq (r c : Nat) (A : Option Addr) (m cp : Nat) (l : List Num) (hs : zt r c l) (hrc : r ≤ c) (hr4 : r ≤ 4) (w : World) (hl : zk w A m cp l) : Calls Tryz.prog 153 #[zE r c A m cp] w (qM r r (zhb r c l) w) := by
 have hu := Tryz.underlying65;have hu1 := Tryz.underlying71;have hu2 := Tryz.underlying63;have hu3 := Tryz.underlying131;have RI := za (show ∀ W, Calls Tryz.prog 119 #[zE r c A m cp] W fun e w' => e = .returned (.bool true) ∧ Below W.heap.size W w' from fun W => by have := qI r c A m cp W; rw [hs.right hl.1] at this; exact this);have AL := za (fun W => vT r c A m cp W);have NW := za (fun (Q : Option Addr) (a b : Nat) (W : World) (h : zk W Q a b (Jm r c l)) => vE r r Q a b _ (hs.fold0 hrc) W h)
 have SG := za (fun (Q : Option Addr) (a b : Nat) (W : World) (h : zk W Q a b (Jm r c l)) => zfi r Q a b _ (hs.fold0 hrc) W h);have CL := za (fun (Q : Option Addr) (a b : Nat) (W : World) (h : zk W Q a b (zab r (Jm r c l))) => zbI r Q a b _ (hs.fold0 hrc).signs W h);have HL := za hl;have hc16 := hs.c2;have hr1 := hs.r1;have hrcI : (r : Int) ≤ (c : Int) := by omega
 clear hl;unfold zE at RI AL NW SG CL;unfold zE;refine (callsIn_wide (n := 9)).1 ?_;refine callsIn_of_wp_marks Tryz.func153 rfl trivial ?_ rfl;simp only [Tryz.ntmps153, List.size_toArray, List.length_cons, List.length_nil, Nat.reduceAdd, Nat.reduceSub, Array.replicate_succ, Array.replicate_zero, List.push_toArray, List.append_toArray, List.nil_append, List.cons_append];gi_wp2_with fail;obtain ⟨W0, hW0⟩ := zc (((w.alloc (.cells #[.int .i64 (r : Int), .int .i64 (c : Int), .slice A m cp] 65)).alloc (.cells #[.int .i64 0, .int .i64 0, .slice none 0 0] 65)))
 obtain ⟨bx, b0, hsz⟩ := y7 hW0;rw [hW0];clear hW0;have F := za ((Off.start b0 hsz).argN b0 (HL.out));have BX := za bx;clear bx b0 hsz;obtain ⟨g, hg⟩ := zc (w.heap.size);rw [hg] at F BX
 try simp only [hg]
 refine (zw 8 (RI.out W0)).mono ?_;rintro e w1 ⟨rfl, hb⟩;replace F := zd F hb;replace BX := ze BX hb;clear hb;have p0 := (BX.out.1).cell 0;have p1 := (BX.out.1).cell 1;have p2 := (BX.out.1).cell 2;have q0 := ((BX.out.1).alloc (.cells #[.slice none 0 0] 131)).cell 0;have q1 := ((BX.out.1).alloc (.cells #[.slice none 0 0] 131)).cell 1;have q2 := ((BX.out.1).alloc (.cells #[.slice none 0 0] 131)).cell 2
 gi_wp2_with fail;refine (zw 8 (AL.out _)).mono ?_;rintro e w2 ⟨rfl, rfl⟩;clear p0 p1 p2 q0 q1 q2;replace F := za F.out.now;obtain ⟨V0, hV0⟩ := zc (((w1.alloc (.cells #[.slice none 0 0] 131)).alloc (.cells #[.int .i64 (r : Int), .int .i64 (c : Int), .slice A m cp] 65)));obtain ⟨bx, b0, hsz⟩ := y7 hV0;rw [hV0];have lh := F.out.hiw;simp only [World.size_alloc];replace F := zd F b0;replace BX := ze BX b0
 have LB := za bx.1;have AM := za bx.2.1;obtain ⟨h, hh⟩ := zc (w1.heap.size);rw [hh] at F lh LB AM hsz
 try simp only [hh]
 clear bx b0 hh hV0;obtain ⟨S, hSd⟩ : ∃ S : Nat → Prop, S = fun k => k < V0.heap.size ∧ k ≠ h := ⟨_, rfl⟩
 have hS : ∀ k, S k → k < V0.heap.size := fun k h => by rw [hSd] at h; exact h.1
 have hSo : ¬ S h := fun h => by rw [hSd] at h; exact h.2 rfl
 have hSi : ∀ k, k < V0.heap.size → k ≠ h → S k := fun k h1 h2 => by rw [hSd]; exact ⟨h1, h2⟩
 clear hSd;gi_wp2_with fail;have hSN : ∀ q, q < h → q < g ∨ g + 2 ≤ q → q ∉ ([] : List Nat) → S q := fun q h1 _ _ => hSi q (by omega) (by omega);have hhV : h < V0.heap.size := by omega
 refine jS rfl (by decide) (gf := 124) (lb := #[.pointer (some ⟨h + 1, 0, none⟩)]) rfl trivial yw
  (y9 6 S (h + 1) r c A m cp l hs V0 (hSi _ (by omega) (by omega)) AM.out (fun W' q => (F.out.kb (q) hSN).out.2)) (fun s W0 args s' W1 h => (V3.size _ _ _ _ _ h).trans rfl)
  (fun i W => ∃ R v, R.map Row.xs = j1 i c l ∧ zcE S V0 h R v W) (fun _ _ ⟨_, _, _, k⟩ => k.kb) (fun _ _ _ _ ⟨R, v, e, k⟩ hgr hr => ⟨R, v, e, k.grown hS hgr hr⟩) (fun _ _ _ ⟨R, v, e, k⟩ hb => ⟨R, v, e, k.below hS hb⟩)
  ⟨[], .slice none 0 0, rfl, LB.out, qy.nil _ _, KB.refl S V0⟩ ?round ?done
 case round =>
  rintro lp i i' args V1 V2 hlp ⟨R, v, hRx, hv⟩ ⟨rl, hrl⟩ hb ⟨hir, rfl, row, rfl, hrow⟩;have H1 := za (hv.below hS hb);have HR := za hrow;have HRX := za hRx;have hvu : ∀ q, v.ownBlock = some q → q < V1.heap.size := fun q e => (World.ownsRow.lt hv.tab.box q e).2;have hru : ∀ s, s ∈ R → s.g < V1.heap.size := fun s hs => (ZE (hv.tab.rows s hs)).2;have hV01 := hv.kb.size;obtain ⟨ra, rn, rc, rfl⟩ := zS hrow
  clear hv hrow hrl hb hRx;gi_wp2_with fail;refine ⟨KeepsFrom.refl _ _, fun W2 hgr ho _ => ?_⟩;have H := za (H1.out.grown hS hgr (fun r e => by cases e; exact ⟨hlp, ho⟩));have HR2 := za (j7 HR.out hgr (fun r e => by cases e; exact ho));have hrn : c = rn := by have := zL HR.out; rw [qj hs hir] at this; exact this.symm
  subst hrn;clear hgr ho H1 HR;obtain ⟨q, rc', e, hq1, hq2, _⟩ := qk HR2.out (by rw [qj hs hir]; exact hs.c1);rw [qj hs hir] at e;cases e;have hvq : v.ownBlock ≠ some q := fun e => by have := hvu q e; omega
  have hrq : ∀ s, s ∈ R → s.g ≠ q := fun s hs e => by have := hru s hs; omega
  have hRl : R.length = i := by have := congrArg List.length HRX.out; simpa [j1] using this
  have e0 := H.out.box.cell 0;have hown := H.out.tab.box;have HOW := za (show W2.ownsRow V0.heap.size 63 1 v (R.map Row.v).length (R.map Row.v) by have := H.out.tab.box; rw [Nat.add_zero, List.replicate_zero, List.append_nil] at this; rw [List.length_map]; exact this);clear hown;gi_wp2_with (gi_at_builtin; refine qC (yp _) rfl rfl (fun K hK => ?_); refine zbA (.tmp 28) (.tmp 30) rfl V0.heap.size v (R.map Row.v) (.slice (some ⟨q, 0, none⟩) c rc) _ rfl (World.ownsRow.kept HOW.out (zN ((Below.refl _ _).alloc (Nat.le_refl _) _)) (by cases v.ownBlock <;> simp)) rfl (At.new' (by simp)) rfl (by rw [List.length_map, hRl]; omega) (by have := H.out.kb.size; simp at this ⊢; omega) ?_; intro v9 w9 hown hgrow hat; refine hK _ _ ?_; clear hK K; rw [List.length_map] at hown; obtain ⟨g9, c9, rfl, _, _, _⟩ := qk hown (Nat.succ_pos _); have H9 := za (H.out.app hS hSo hhV HR2.out (by omega) hrq hvq hown hgrow hat); have KF9 := za (((zB (B := V0.heap.size) ((Below.refl W2.heap.size W2).alloc (Nat.le_refl _) (.cells #[.slice (some ⟨q, 0, none⟩) c rc] 63))).trans (JO (World.ownsRow.kept HOW.out (zN ((Below.refl _ _).alloc (Nat.le_refl _) _)) (by cases v.ownBlock <;> simp)) hgrow)).trans (zV _ _ ⟨h, 0, none⟩ (.slice (some ⟨g9, 0, none⟩) (R.length + 1) c9))); have hnb : some h ≠ v.ownBlock := (fun e => by have := (World.ownsRow.lt H.out.tab.box h e.symm).1; omega); have e9 := ((H.out.box.alloc _).grown hgrow hnb).cell 0; have z9 := ((H.out.box.alloc _).grown hgrow hnb).frozen 0; clear hown hgrow hat e0 hnb)
  rw [hRl] at H9 KF9;exact ⟨KF9.out, R ++ [⟨q, rc, qz c l i⟩], _, by rw [List.map_append, HRX.out]; unfold j1; rw [List.range_succ, List.map_append]; rfl, H9.out⟩
 case done =>
  rintro D i' W hD hrr ⟨R, v, hRx, hv⟩ hK;rw [show i' = r from hrr] at hRx;have hRl : R.length = r := by have := congrArg List.length hRx; simpa [j1] using this
  obtain ⟨vg, vc, e, _, _, _⟩ := qk hv.tab.box (by omega);rw [hRl] at e;simp only [Nat.add_zero] at e;subst e;obtain ⟨Gs, hGs⟩ := zc (R.map Row.g);have hGV : ∀ q, q ∈ Gs → V0.heap.size ≤ q := fun q hq => by rw [← hGs] at hq; obtain ⟨s, hs, rfl⟩ := List.mem_map.1 hq; exact (ZE (hv.tab.rows s hs)).1
  have hDG : D ∉ Gs := by rw [← hGs]; exact hv.tab.not_obj hK rfl
  have HK := za hK;have TB := za hv.tab;have TX := za hv.box;have HRX := za hRx;have HGS := za hGs;replace BX := za (BX.out.kb hv.kb (fun q h1 h2 => hSi q (by simp at h2; omega) (by simp at h2; omega)));replace F := za (F.out.kb hv.kb hSN);have hDW : D < W.heap.size := (Array.getElem?_eq_some_iff.1 hK).1;have hhW : h < W.heap.size := hv.box.lt;have hX := zap (yL hs).1 (yL hs).2 hrc;have FO := za (fun (k : Nat) (R' : List Row) (s : Row) (h1 : R'.length = r) (h2 : ∀ s, s ∈ R' → s.xs.length = c) (hk : k < r) (hr : R'[k]? = some s) (W : World) (hT : qy W V0.heap.size (.slice (some ⟨vg, 0, none⟩) r vc) R' 0) => zgp r c k R' s vg vc V0.heap.size hr4 hc16 h1 h2 hk (by omega) hr W hT)
  clear hv hK hRx hGs;have p0 := (BX.out.1).cell 0;gi_wp2_with fail;clear p0
  gi_loopw [7, 34] (fun _ z wx => ∃ (k : Nat) (R' : List Row), k ≤ r ∧ z = .int .i64 k ∧ R'.map Row.xs = zdt r (j1 r c l) k ∧ R'.map Row.g = Gs ∧ Hid (zD Gs W wx) ∧ Hid (qy wx V0.heap.size (.slice (some ⟨vg, 0, none⟩) r vc) R' 0)) (fun _ z _ => r - (intOf z).toNat)
  case atStart => exact ⟨0, R, by omega, rfl, HRX.out, HGS.out, za (zD.refl _ _), TB⟩
  case round =>
   obtain ⟨k, R', hk, rfl, hx', hg', HT, HTB⟩ := hrel;have hTX : At wr h 131 #[.slice (some ⟨vg, 0, none⟩) r vc] := (HT.out.block h hhW (fun hq => by have := hGV h hq; omega)).trans TX.out;have hlen := hX k hk;have hR'l : R'.length = r := by rw [← List.length_map (f := Row.xs), hx']; exact hlen.1
   have hR'c : ∀ s, s ∈ R' → s.xs.length = c := fun s hs => hlen.2 _ (by rw [← hx']; exact List.mem_map_of_mem hs);have HX' := za hx';have HG' := za hg';clear hx' hg' hlen
   by_cases hlt : k < r
   ·have hltI : (k : Int) < (r : Int) := by omega
    obtain ⟨s, hs'⟩ : ∃ s, R'[k]? = some s := ⟨_, List.getElem?_eq_getElem (by omega)⟩
    have hFO := za (FO.out k R' s hR'l hR'c hlt hs' wr HTB.out);have hxx := zgu (n := r) hs';have hgg := zh5 (n := r) hs';rw [HX'.out] at hxx;rw [HG'.out] at hgg;have HXX := za hxx;have HGG := za hgg;clear hxx hgg;have t0 := hTX.cell 0;clear hTX;gi_wp2_with fail;refine (zw 8 hFO.out).mono ?_;rintro e w5 ⟨rfl, hT5, hK5⟩;rw [HG'.out] at hK5;have HT5 := za (HT.out.trans hK5);have HTB5 := za hT5;clear hT5 hK5 t0
    gi_wp2_with fail;refine ⟨⟨k + 1, _, by omega, by go_num, HXX.out, HGG.out, HT5, HTB5⟩, ?_⟩;simp [intOf]; omega
   ·obtain rfl : r = k := by omega
    replace F := za (F.out.touch_above HT.out (fun q hq => by have := hGV q hq; omega));replace BX := za (BX.out.touch_above HT.out (fun q hq => by have := hGV q hq; simp; omega));replace HK := za ((HT.out.block D hDW hDG).trans HK.out);have HFL := za (show R'.flatMap (fun s => s.xs.take r) = Jm r c l by unfold Jm; rw [← HX'.out, List.flatMap_map]);have t0 := hTX.cell 0;clear hTX HT;gi_wp2_with fail
    clear t0
    gi_loopw [8, 10, 43] (fun v2 _ z wx => ∃ k : Nat, k ≤ r ∧ z = .int .i64 k ∧ Hid (zH wx wr.heap.size v2 ((R'.take k).flatMap (fun s => s.xs.take r))) ∧ Hid (Below wr.heap.size wr wx)) (fun _ _ z _ => r - (intOf z).toNat)
    case atStart => exact ⟨0, by omega, rfl, za (zH.nil_ _ _), za (Below.refl _ _)⟩
    case round =>
     obtain ⟨k, hk, rfl, HO, HB⟩ := hrel
     by_cases hlt : k < r
     ·have hltI : (k : Int) < (r : Int) := by omega
      obtain ⟨s, hs'⟩ : ∃ s, R'[k]? = some s := ⟨_, List.getElem?_eq_getElem (by omega)⟩
      have hsc := hR'c s (List.mem_of_getElem? hs');have TBy := HTB.out.below HB.out;have t0 := TBy.cell hs';rw [hsc] at t0;have hcap : r ≤ s.cap := by have := (Row.nums (TBy.rows s (List.mem_of_getElem? hs'))).2.1; omega
      have NT := za ((Row.nums (TBy.rows s (List.mem_of_getElem? hs'))).take r (by omega));have hrcap : (r : Int) ≤ (s.cap : Int) := by omega
      have HT := za (show (R'.take k).flatMap (fun s => s.xs.take r) ++ s.xs.take r = (R'.take (k + 1)).flatMap (fun s => s.xs.take r) by rw [jT hs', List.flatMap_append]; simp);obtain ⟨L, hL⟩ := zc ((R'.take k).flatMap (fun s => s.xs.take r))
      have HLL := za (show L.length ≤ 100 by
       rw [← hL, zcj (c := c) hrc _ (fun s hs => hR'c s (List.mem_of_mem_take hs)), List.length_take];have := Nat.mul_le_mul (show min k R'.length ≤ 4 by omega) hr4;omega)
      rw [hL] at HO HT;have p0 := ((BX.out.call HB.out).1).cell 0;have hbz := HB.out.size;clear hL TBy;obtain ⟨v2, hv2⟩ : ∃ v2, v2 = u8 := ⟨_, rfl⟩
      subst hv2;gi_wp2_with (gi_at_builtin; refine qC qJ rfl rfl (fun K hK => ?_); refine jE (.tmp 47) (.tmp 51) rfl _ v2 L (s.xs.take r) (some ⟨s.g, 0, none⟩) r s.cap rfl HO.out rfl (by omega) NT.out (by have := HLL.out; omega) hbz ?_; intro v3 w3 hown hgrow hat; refine hK _ _ ?_; clear hK K; have O3 := za hown; have K3 := za (vn HB.out HO.out hgrow); clear hown hgrow hat)
      rw [HT.out] at O3;refine ⟨⟨k + 1, by omega, by go_num, O3, K3⟩, ?_⟩;simp [intOf]; omega
     ·obtain rfl : r = k := by omega
      rw [List.take_of_length_le (by omega), HFL.out] at HO;obtain ⟨Q0, n0, c0, rfl⟩ := zS HO.out;replace F := za ((F.out.plus (zgY HK.out (by omega) (by simp))).gotO HB.out HO.out);replace BX := ze BX HB.out;clear HO HB HTB;have q0 := (BX.out.1).cell 0;have q1 := (BX.out.1).cell 1;have q2 := (BX.out.1).cell 2;gi_wp2_with fail;refine (zw 8 (NW.out Q0 n0 c0 _ F.out.out.2)).mono ?_;rintro e w61 ⟨Q1, a1, b1, rfl, hq, hb, hfr⟩
      unfold zE;replace F := za (F.out.gotN hb hq hfr);replace BX := ze BX hb;clear hb hq hfr q0 q1 q2;gi_wp2_with fail;replace F := za F.out.now;obtain ⟨Xbs, hXbs⟩ := zc (w61.alloc (.cells #[.int .i64 (r : Int), .int .i64 (r : Int), .slice Q1 a1 b1] 65));obtain ⟨bx, b0, hsz⟩ := z6 hXbs;rw [hXbs];have lbs := F.out.hiw;replace F := zd F b0;replace BX := ze BX b0;have S11 := za bx.1;obtain ⟨bs, hbs⟩ := zc (w61.heap.size)
      rw [hbs] at F lbs S11
      try simp only [hbs]
      clear bx b0 hsz hbs hXbs;refine (zw 8 (SG.out Q1 a1 b1 _ F.out.out.2)).mono ?_;rintro e w62 ⟨Q2, a2, b2, rfl, hq, hb, hfr⟩;unfold zE;have fN2 : ∀ b o, Q2 = some ⟨b, o, none⟩ → g + 2 ≤ b := fun b o e => Nat.le_trans F.out.hiw (hfr b o e);replace F := zd F hb;replace BX := ze BX hb;replace S11 := za (S11.out.below hb);have N2 := za hq;clear hb hq hfr;have s0 := (S11.out).cell 0;have zs0 := (S11.out).frozen 0
      have s1 := (S11.out).cell 1;have zs1 := (S11.out).frozen 1;have s2 := (S11.out).cell 2;have zs2 := (S11.out).frozen 2;gi_wp2_with fail;replace F := za (F.out.set3 (g := bs) (.inr (by omega)) (.int .i64 (r : Int)) (.int .i64 (r : Int)) (.slice Q2 a2 b2));replace BX := za (BX.out.far3 (show g + 2 ≤ bs by omega) (.int .i64 (r : Int)) (.int .i64 (r : Int)) (.slice Q2 a2 b2));replace N2 := za (N2.out.set3 (w := w) S11.out (qQ S11.out) (.int .i64 (r : Int)) (.int .i64 (r : Int)) (.slice Q2 a2 b2))
      replace S11 := za (S11.out.set3 (.int .i64 (r : Int)) (.int .i64 (r : Int)) (.slice Q2 a2 b2));obtain ⟨w63, hw63⟩ := zc ((((w62.setCell ⟨bs, 0, none⟩ (.int .i64 (r : Int))).setCell ⟨bs, 1, none⟩ (.int .i64 (r : Int))).setCell ⟨bs, 2, none⟩ (.slice Q2 a2 b2)));rw [hw63] at F BX S11 N2 ⊢;clear hw63;replace F := za (F.out.plus (S11.out.off (.inr (by omega))));clear S11;replace F := za (F.out.plus (N2.out.off (fun b o e _ => .inr (fN2 b o e))))
      clear N2;clear s0 zs0 s1 zs1 s2 zs2;have s0 := (F.out.out.1.2).cell 0;have s1 := (F.out.out.1.2).cell 1;have s2 := (F.out.out.1.2).cell 2;gi_wp2_with fail;refine (zw 8 (CL.out Q2 a2 b2 _ F.out.out.2)).mono ?_;rintro e w64 ⟨Q3, a3, b3, rfl, hq, hb, hfr⟩;unfold zE;have fN3 : ∀ b o, Q3 = some ⟨b, o, none⟩ → g + 2 ≤ b := fun b o e => Nat.le_trans F.out.hiw (hfr b o e);replace F := za (F.out.gotN hb hq hfr)
      replace BX := ze BX hb;clear hb hq hfr s0 s1 s2;have r0 := (BX.out.2.1).cell 0;have zr0 := (BX.out.2.1).frozen 0;have r1 := (BX.out.2.1).cell 1;have zr1 := (BX.out.2.1).frozen 1;have r2 := (BX.out.2.1).cell 2;have zr2 := (BX.out.2.1).frozen 2;gi_wp2_with fail;have F9 := F.out.set3 (g := g + 1) (.inl (by omega)) (.int .i64 (r : Int)) (.int .i64 (r : Int)) (.slice Q3 a3 b3);have K9 := F9.out.1.1.1.1.1.2
      obtain ⟨d0, d1, d2⟩ := (qf ((BX.out.2.1).set3 (.int .i64 (r : Int)) (.int .i64 (r : Int)) (.slice Q3 a3 b3)) (grownBy_putObj' _ D (.deferred none)) (fun r e => by cases e; exact ⟨_, K9, rfl⟩)).three;refine ⟨by simp, .inl ⟨_, _, rfl, run_takeDeferred K9, ?_⟩⟩;exact ⟨.tuple #[.agg #[.int .i64 (r : Int), .int .i64 (r : Int), .slice Q3 a3 b3], .bool true], (by simp only [results, Tryz.results153]; simp [go_sem, d0, d1, d2]), Q3, a3, b3, rfl, yf F9.out.2 (.deferred none) K9 rfl, by rw [hg]; exact qu F9.out.1.1.1.1.1.1.1 (Nat.le_trans F9.le F9.hiw) (by omega) _, fun b o e => by rw [hg]; have := fN3 b o e; omega⟩
end
section
attribute [local go_sem] Oper.semAt_some
def zdd (n:Nat) (xs f:List Num):List Num:=jO n n f xs
def Vq (n:Nat) (s f q:List Num):List Num:=VO n n n (vK n n n f s) q
def zbR (n:Nat) (s f q:List Num):List Num:=zhb n (n+n) (Vq n s f q)
theorem zt.bes {n:Nat} {s f q:List Num} (hn:n≤4) (hs:zt n n s) (hf:zt n n f) (hq:zt n n q):zt n (n+n) (Vq n s f q):=(hf.mul hs).beside hq (by omega)
theorem zdU (n:Nat) (hn:n≤4) (A0:Option Addr) (c0:Nat) (A1:Option Addr) (m1 c1:Nat) (A2:Option Addr) (m2 c2:Nat) (A3:Option Addr) (m3 c3:Nat) (xs s f q:List Num) (hs:zt n n s) (hf:zt n n f) (hq:zt n n q) (w:World) (h0:zk w A0 n c0 xs) (h1:zk w A1 m1 c1 s) (h2:zk w A2 m2 c2 f) (h3:zk w A3 m3 c3 q) :
  Calls Tryz.prog 136 #[yW A0 n c0 n n A1 m1 c1,zE n n A2 m2 c2,zE n n A3 m3 c3] w (V4 n (zdd n xs f) (zbR n s f q) w):=by
 have hu:=Tryz.underlying65;have hu1:=Tryz.underlying69;obtain ⟨d,hd⟩:=zc (n+n);have hsb:=zt.bes hn hs hf hq;have AP:=za (fun (W:World) (k1:zk W A2 m2 c2 f) (k2:zk W A0 n c0 xs)=>zai n n A2 m2 c2 f hf A0 n c0 xs rfl W k1 k2);have MU:=za (fun (W:World) (k1:zk W A2 m2 c2 f) (k2:zk W A1 m1 c1 s)=>QC n n n A2 m2 c2 f A1 m1 c1 s hf hs W k1 k2);have RI:=za (fun (W:World)=>ZF n A0 c0 A1 m1 c1 s hn hs h1.1 W)
 have RG:=za (show ∀W,Calls Tryz.prog 119 #[zE n n A3 m3 c3] W fun e w'=>e=.returned (.bool true)∧Below W.heap.size W w' from fun W=>by have:=qI n n A3 m3 c3 W;rw [hq.right h3.1] at this;exact this);have BE:=za (fun (Q:Option Addr) (a b:Nat) (W:World) (k1:zk W Q a b (vK n n n f s)) (k2:zk W A3 m3 c3 q)=>show Calls Tryz.prog 152 #[zE n n Q a b,zE n n A3 m3 c3] W (qM n d (Vq n s f q) W) from by have:=ze9 n n n Q a b _ A3 m3 c3 q (hf.mul hs) hq (by omega) W k1 k2;rw [hd] at this;exact this)
 have FO:=za (fun (Q:Option Addr) (a b:Nat) (W:World) (k:zk W Q a b (Vq n s f q))=>show Calls Tryz.prog 153 #[zE n d Q a b] W (qM n n (zbR n s f q) W) from by have:=zgq n (n+n) Q a b _ hsb (by omega) hn W k;rw [hd] at this;rw [show zbR n s f q=zhb n d (Vq n s f q) by unfold zbR;rw [hd]];exact this);have H0:=za h0;have H1:=za h1;have H2:=za h2;have H3:=za h3;clear h0 h1 h2 h3 hsb hd
 unfold zE at AP MU RG BE FO;unfold yW at RI;unfold zE yW;go_enter Tryz.func136,Tryz.ntmps136;go_wp2_with fail;obtain ⟨W0,hW0⟩:=zc (((((w.alloc (.cells #[.slice A0 n c0,.int .i64 (n:Int),.int .i64 (n:Int),.slice A1 m1 c1] 69)).alloc (.cells #[.int .i64 (n:Int),.int .i64 (n:Int),.slice A2 m2 c2] 65)).alloc (.cells #[.int .i64 (n:Int),.int .i64 (n:Int),.slice A3 m3 c3] 65)).alloc (.cells #[.slice none 0 0,.int .i64 0,.int .i64 0,.slice none 0 0] 69)))
 obtain ⟨bx,b0,hsz⟩:=zhi hW0;rw [hW0];clear hW0;have F:=za (((((Off.start b0 hsz).argN b0 (H0.out)).argN b0 (H1.out)).argN b0 (H2.out)).argN b0 (H3.out));have BX:=za bx;clear bx b0 hsz;obtain ⟨g,hg⟩:=zc (w.heap.size);rw [hg] at F BX
 try simp only [hg]
 have x0:=(BX.out.1).cell 0;have x1:=(BX.out.1).cell 1;have x2:=(BX.out.1).cell 2;have x3:=(BX.out.1).cell 3;have f0:=(BX.out.2.1).cell 0;have f1:=(BX.out.2.1).cell 1;have f2:=(BX.out.2.1).cell 2;go_wp2_with fail;refine (AP.out _ F.out.out.1.2 F.out.out.1.1.1.2).mono ?_;rintro e w1 ⟨Q2,a2,b2,rfl,ho,hb⟩;have hn2:n=a2:=by have:=zL ho;unfold jO at this;rw [List.length_map,List.length_range] at this;exact this.symm
 subst hn2;have fN5:∀b o,Q2=some ⟨b,o,none⟩→g+4≤b:=fun b o e=>Nat.le_trans F.out.hiw (zY ho b o e);replace F:=za (F.out.gotO hb ho );replace BX:=ze BX hb;clear hb ho x0 x1 x2 x3 f0 f1 f2;have x0:=(BX.out.1).cell 0;have x1:=(BX.out.1).cell 1;have x2:=(BX.out.1).cell 2;have x3:=(BX.out.1).cell 3;have f0:=(BX.out.2.1).cell 0;have f1:=(BX.out.2.1).cell 1;have f2:=(BX.out.2.1).cell 2
 go_wp2_with fail;refine (MU.out _ F.out.out.1.1.2 F.out.out.1.1.1.2).mono ?_;rintro e w2 ⟨Q1,a1,b1,rfl,hq,hb,hfr⟩;unfold zE;replace F:=za (F.out.gotN hb hq hfr);replace BX:=ze BX hb;clear hb hq hfr x0 x1 x2 x3 f0 f1 f2;have x0:=((BX.out.1).alloc (.cells #[.int .i64 (n:Int),.int .i64 (n:Int),.slice Q1 a1 b1] 65)).cell 0;have x1:=((BX.out.1).alloc (.cells #[.int .i64 (n:Int),.int .i64 (n:Int),.slice Q1 a1 b1] 65)).cell 1
 have x2:=((BX.out.1).alloc (.cells #[.int .i64 (n:Int),.int .i64 (n:Int),.slice Q1 a1 b1] 65)).cell 2;have x3:=((BX.out.1).alloc (.cells #[.int .i64 (n:Int),.int .i64 (n:Int),.slice Q1 a1 b1] 65)).cell 3;go_wp2_with fail;obtain ⟨Xh,hXh⟩:=zc (w2.alloc (.cells #[.int .i64 (n:Int),.int .i64 (n:Int),.slice Q1 a1 b1] 65));obtain ⟨bx,b0,hsz⟩:=z6 hXh;rw [hXh];have lh:=F.out.hiw
 replace F:=za (F.out.gotA b0 bx );replace BX:=ze BX b0;obtain ⟨h,hh⟩:=zc (w2.heap.size);rw [hh] at F lh
 try simp only [hh]
 clear bx b0 hsz hh hXh;refine (RI.out _).mono ?_;rintro e w3 ⟨rfl,hb⟩;replace F:=zd F hb;replace BX:=ze BX hb;clear hb x0 x1 x2 x3;have f0:=(BX.out.2.1).cell 0;have f1:=(BX.out.2.1).cell 1;have f2:=(BX.out.2.1).cell 2;have q0:=(BX.out.2.2.1).cell 0;have q1:=(BX.out.2.2.1).cell 1;have q2:=(BX.out.2.2.1).cell 2;go_wp2_with fail;refine (RG.out _).mono ?_;rintro e w4 ⟨rfl,hb⟩;replace F:=zd F hb
 replace BX:=ze BX hb;clear hb f0 f1 f2 q0 q1 q2;have q0:=(BX.out.2.2.1).cell 0;have q1:=(BX.out.2.2.1).cell 1;have q2:=(BX.out.2.2.1).cell 2;have e0:=(F.out.out.2).cell 0;have e1:=(F.out.out.2).cell 1;have e2:=(F.out.out.2).cell 2;go_wp2_with fail;refine (BE.out Q1 a1 b1 _ F.out.out.1.2 F.out.out.1.1.1.2).mono ?_;rintro e w5 ⟨Q3,a3,b3,rfl,hq,hb,hfr⟩;unfold zE;replace F:=za (F.out.gotN hb hq hfr)
 replace BX:=ze BX hb;clear hb hq hfr q0 q1 q2 e0 e1 e2;go_wp2_with fail;obtain ⟨Xi,hXi⟩:=zc (w5.alloc (.cells #[.int .i64 (n:Int),.int .i64 (d:Int),.slice Q3 a3 b3] 65));obtain ⟨bx,b0,hsz⟩:=z6 hXi;rw [hXi];have li:=F.out.hiw;replace F:=za (F.out.gotA b0 bx );replace BX:=ze BX b0;obtain ⟨i,hi⟩:=zc (w5.heap.size);rw [hi] at F li
 try simp only [hi]
 clear bx b0 hsz hi hXi;refine (FO.out Q3 a3 b3 _ F.out.out.1.2).mono ?_;rintro e w6 ⟨Q4,a4,b4,rfl,hq,hb,hfr⟩;unfold zE;have fN7:∀b o,Q4=some ⟨b,o,none⟩→g+4≤b:=fun b o e=>Nat.le_trans F.out.hiw (hfr b o e);replace F:=za (F.out.gotN hb hq hfr);replace BX:=ze BX hb;clear hb hq hfr;have r0:=((BX.out.2.2.2.1).alloc (.cells #[.int .i64 (n:Int),.int .i64 (n:Int),.slice Q4 a4 b4] 65)).cell 0
 have zr0:=((BX.out.2.2.2.1).alloc (.cells #[.int .i64 (n:Int),.int .i64 (n:Int),.slice Q4 a4 b4] 65)).frozen 0;have r1:=((BX.out.2.2.2.1).alloc (.cells #[.int .i64 (n:Int),.int .i64 (n:Int),.slice Q4 a4 b4] 65)).cell 1;have zr1:=((BX.out.2.2.2.1).alloc (.cells #[.int .i64 (n:Int),.int .i64 (n:Int),.slice Q4 a4 b4] 65)).frozen 1;have r2:=((BX.out.2.2.2.1).alloc (.cells #[.int .i64 (n:Int),.int .i64 (n:Int),.slice Q4 a4 b4] 65)).cell 2
 have zr2:=((BX.out.2.2.2.1).alloc (.cells #[.int .i64 (n:Int),.int .i64 (n:Int),.slice Q4 a4 b4] 65)).frozen 2;have r3:=((BX.out.2.2.2.1).alloc (.cells #[.int .i64 (n:Int),.int .i64 (n:Int),.slice Q4 a4 b4] 65)).cell 3;have zr3:=((BX.out.2.2.2.1).alloc (.cells #[.int .i64 (n:Int),.int .i64 (n:Int),.slice Q4 a4 b4] 65)).frozen 3;go_wp2_with fail;clear r0 zr0 r1 zr1 r2 zr2 r3 zr3
 obtain ⟨Xj,hXj⟩:=zc (w6.alloc (.cells #[.int .i64 (n:Int),.int .i64 (n:Int),.slice Q4 a4 b4] 65));obtain ⟨bx,b0,hsz⟩:=z6 hXj;rw [hXj];have lj:=F.out.hiw;replace F:=za (F.out.gotA b0 bx );replace BX:=ze BX b0;obtain ⟨j,hj⟩:=zc (w6.heap.size);rw [hj] at F lj
 try simp only [hj]
 clear bx b0 hsz hj hXj;have F9:=F.out.set4 (g:=g+1+1+1) (.inl (by omega)) (.slice Q2 n b2) (.int .i64 (n:Int)) (.int .i64 (n:Int)) (.slice Q4 a4 b4);obtain ⟨d0,d1,d2,d3⟩:=((BX.out.2.2.2.1).set4 (.slice Q2 n b2) (.int .i64 (n:Int)) (.int .i64 (n:Int)) (.slice Q4 a4 b4)).four;exact bodyPost_ret (v:=.tuple #[.agg #[.slice Q2 n b2,.int .i64 (n:Int),.int .i64 (n:Int),.slice Q4 a4 b4],.bool true]) (by simp [results,Tryz.results136,go_sem,d0,d1,d2,d3]) rfl ⟨Q2,n,b2,Q4,a4,b4,rfl,F9.out.1.1.1.1.1.1.2,F9.out.1.2,by rw [hg];exact F9.out.1.1.1.1.1.1.1.1.1.1.1,fun b o e=>by rw [hg];have:=fN5 b o e;omega,fun b o e=>by rw [hg];have:=fN7 b o e;omega⟩
end
end Go.Proofs.YtcoiklclbljjeaaGreatDoor.L
