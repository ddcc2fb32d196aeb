/- Lemmas of the card's proof. -/
import Derived.Test.YtcoiklclbljjeaaGreatDoorM15
set_option linter.unusedVariables false
set_option linter.unusedSimpArgs false
set_option maxRecDepth 100000
set_option maxHeartbeats 16000000
namespace Go.Proofs.YtcoiklclbljjeaaGreatDoor.L
open Go.RowKit
def zj3 (F:Nat) (f:List Num→List Num→List Num):Prop:=∀(A A':Option Addr) (m c m' c':Nat) (xs ys:List Num),m≤1000→m'≤1000→∀w:World,zk w A m c xs→zk w A' m' c' ys→Calls Tryz.prog F #[.slice A m c,.slice A' m' c'] w (jl (f xs ys) w)
theorem zdk (F:Nat) (f:List Num→List Num→List Num) (hf:zj3 F f) (heF:∀(args:Array Value) (W:World),(callFunc F args).run Tryz.prog W=.ok (.enter F args) W) (r c:Nat) (A:Option Addr) (n cp:Nat) (l:List Num) (A':Option Addr) (n' cp':Nat) (l':List Num) (hs:zt r c l) (hs':zt r c l') (w:World) (hl:zk w A n cp l) (hl':zk w A' n' cp' l') :
  Calls Tryz.prog 175 #[zE r c A n cp,zE r c A' n' cp', .func (.func F) #[] #[]] w (qM r c (f l l') w):=by
 have hu:=Tryz.underlying65;have hu1:=Tryz.underlying71;have R:=za (show ∀W,Calls Tryz.prog 119 #[zE r c A n cp] W fun e w'=>e=.returned (.bool true)∧Below W.heap.size W w' from fun W=>by have:=qI r c A n cp W;rw [hs.right hl.1] at this;exact this);have R':=za (show ∀W,Calls Tryz.prog 119 #[zE r c A' n' cp'] W fun e w'=>e=.returned (.bool true)∧Below W.heap.size W w' from fun W=>by have:=qI r c A' n' cp' W;rw [hs'.right hl'.1] at this;exact this)
 have hn:n≤1000:=by rw [←hl.1,hs.len];have:=hs.prod;omega
 have hn':n'≤1000:=by rw [←hl'.1,hs'.len];have:=hs'.prod;omega
 have HF:=za (fun W h1 h2=>hf A A' n cp n' cp' l l' hn hn' W h1 h2);have HL:=za hl;have HL':=za hl';clear hl hl' hf;unfold zE at R R';unfold zE;go_enter Tryz.func175,Tryz.ntmps175;go_wp2_with fail;have A0:=za (((At.new w 65 #[.int .i64 (r:Int),.int .i64 (c:Int),.slice A n cp]).alloc (.cells #[.int .i64 (r:Int),.int .i64 (c:Int),.slice A' n' cp'] 65)).alloc (.cells #[.int .i64 0,.int .i64 0,.slice none 0 0] 65))
 have A1:=za ((At.new (w.alloc (.cells #[.int .i64 (r:Int),.int .i64 (c:Int),.slice A n cp] 65)) 65 #[.int .i64 (r:Int),.int .i64 (c:Int),.slice A' n' cp']).alloc (.cells #[.int .i64 0,.int .i64 0,.slice none 0 0] 65));have A2:=za (At.new ((w.alloc (.cells #[.int .i64 (r:Int),.int .i64 (c:Int),.slice A n cp] 65)).alloc (.cells #[.int .i64 (r:Int),.int .i64 (c:Int),.slice A' n' cp'] 65)) 65 #[.int .i64 0,.int .i64 0,.slice none 0 0])
 have B0:=za (zg (zg (zg (Below.refl w.heap.size w) (.cells #[.int .i64 (r:Int),.int .i64 (c:Int),.slice A n cp] 65)) (.cells #[.int .i64 (r:Int),.int .i64 (c:Int),.slice A' n' cp'] 65)) (.cells #[.int .i64 0,.int .i64 0,.slice none 0 0] 65));obtain ⟨W0,hW0⟩:=zc ((((w.alloc (.cells #[.int .i64 (r:Int),.int .i64 (c:Int),.slice A n cp] 65)).alloc (.cells #[.int .i64 (r:Int),.int .i64 (c:Int),.slice A' n' cp'] 65)).alloc (.cells #[.int .i64 0,.int .i64 0,.slice none 0 0] 65)))
 simp only [World.size_alloc] at A1 A2;have hWg:=za (show W0.heap.size=w.heap.size+3 by rw [←hW0];simp);rw [hW0] at A0 A1 A2 B0 ⊢;clear hW0;obtain ⟨g,hg⟩:=zc (w.heap.size);rw [hg] at A0 A1 A2 B0 hWg
 try simp only [hg]
 refine (R.out W0).mono ?_;rintro e w1 ⟨rfl,hb1⟩;have B1:=za (zq B0.out (by rw [hWg.out];omega) hb1);have A0':=za (A0.out.below hb1);have A1':=za (A1.out.below hb1);have A2':=za (A2.out.below hb1);have hs1:=za (show g+3≤w1.heap.size by have:=hb1.size;rw [hWg.out] at this;exact this);clear hb1 A0 A1 A2 B0 hWg;obtain ⟨p0,p1,p2⟩:=A0'.out.three;obtain ⟨q0,q1,q2⟩:=A1'.out.three
 go_wp2_with fail;refine (R'.out w1).mono ?_;rintro e w2 ⟨rfl,hb2⟩;have hsz1:=hs1.out;have B2:=za (zq B1.out (by omega) hb2);have C0:=za (A0'.out.below hb2);have C1:=za (A1'.out.below hb2);have C2:=za (A2'.out.below hb2);have hs2:=za (Nat.le_trans hsz1 hb2.size);clear hb2 A0' A1' A2' B1 p0 p1 p2 q0 q1 q2 hsz1 hs1;have N1:=za (HL.out.below (by rw [hg];exact B2.out));have N2:=za (HL'.out.below (by rw [hg];exact B2.out))
 have hsz:=hs2.out;obtain ⟨p0,p1,p2⟩:=C0.out.three;obtain ⟨q0,q1,q2⟩:=C1.out.three;go_wp2_with fail;refine je [g+1+1] [0,1,2,3,4,5,6,7,8] [9,10,11,12] (.cons rfl (.cons rfl (.cons rfl (.cons rfl (.cons rfl (.cons rfl (.cons rfl (.cons rfl (.cons rfl .nil))))))))) (.cons rfl (.cons rfl (.cons rfl (.cons rfl .nil)))) (by kernel_rfl) (by kernel_rfl) (fun c a d v w h=>by cases d<;>exact h) ?_
 have kp0:=fun x=>But.cell (G:=[g+1+1]) p0 (by simp<;>omega) x;have kp1:=fun x=>But.cell (G:=[g+1+1]) p1 (by simp<;>omega) x;have kp2:=fun x=>But.cell (G:=[g+1+1]) p2 (by simp<;>omega) x;have kq2:=fun x=>But.cell (G:=[g+1+1]) q2 (by simp<;>omega) x
 repeat (go_big_quiet_step (fail))
 refine wpQuiet_nil ?_;clear kp0 kp1 kp2 kq2;refine zp rfl (fun K hK=>?_);go_simp;refine (HF.out _ N1.out.drew N2.out.drew).mono ?_;rintro e w3 ⟨Q,m,p,rfl,ho,hb3⟩;replace hb3:=qi hb3;have HO:=za (jW ho (B':=w2.heap.size) (Nat.le_refl _));have C2':=za (C2.out.below hb3);have B3:=za (zq B2.out (by omega) hb3);have hb3':=za hb3;clear ho hb3;refine hK _ _ (zI ((zC.refl _ _).call hb3'.out)) ?_
 clear hK K;refine zp rfl (fun K hK=>?_);go_simp;refine hK _ _ (zI ((zC.refl _ _).call hb3'.out)) ?_;clear hK K;have r0:=C2'.out.cell 0;have r1:=C2'.out.cell 1;have r2:=C2'.out.cell 2;have z0:=C2'.out.frozen 0;have z1:=C2'.out.frozen 1;have z2:=C2'.out.frozen 2;refine zp rfl (fun K hK=>?_);go_simp;refine hK _ _ (zI ((((((zC.refl _ _).call hb3'.out).set (.inl (by simp)) _ _).set (.inl (by simp)) _ _).set (.inl (by simp)) _ _))) ?_
 clear hK K;refine zZ rfl (fun K hK=>?_);go_simp;refine hK _ _ ?_;clear hK K;go_wp2_with fail;have NR:=za (HO.out.nums.set3 (w:=w) C2'.out (qQ C2'.out) (.int .i64 (r:Int)) (.int .i64 (c:Int)) (.slice Q m p));obtain ⟨d0,d1,d2⟩:=(C2'.out.set3 (.int .i64 (r:Int)) (.int .i64 (c:Int)) (.slice Q m p)).three;refine bodyPost_ret (v:=.tuple #[.agg #[.int .i64 (r:Int),.int .i64 (c:Int),.slice Q m p],.bool true]) (by simp [results,Tryz.results175,go_sem,d0,d1,d2]) rfl ⟨Q,m,p,rfl,NR.out,?_,fun b o e=>Nat.le_trans (show w.heap.size≤w2.heap.size by omega) (zY HO.out b o e)⟩
 rw [hg];exact jd B3.out (by omega) _ _ _
theorem zij (args:Array Value) (W:World):(callFunc 158 args).run Tryz.prog W=.ok (.enter 158 args) W:=enters_of Tryz.func158 (by kernel_rfl) rfl args W
theorem zjf (r c:Nat) (A:Option Addr) (n cp:Nat) (l:List Num) (A':Option Addr) (n' cp':Nat) (l':List Num) (hs:zt r c l) (hs':zt r c l') (w:World) (hl:zk w A n cp l) (hl':zk w A' n' cp' l') :
  Calls Tryz.prog 171 #[zE r c A n cp,zE r c A' n' cp'] w (qM r c (Zg l l') w):=by
 have hu:=Tryz.underlying65;have E:=za (fun W h1 h2=>zdk 158 Zg (fun A A' m c m' c' xs ys h1 h2 w hx hy=>zdK A A' m c m' c' xs ys h1 h2 w hx hy) zij r c A n cp l A' n' cp' l' hs hs' W h1 h2);have HL:=za hl;have HL':=za hl';clear hl hl';unfold zE at E;unfold zE;go_enter Tryz.func171,Tryz.ntmps171;go_wp2_with fail;have A0:=za (((At.new w 65 #[.int .i64 (r:Int),.int .i64 (c:Int),.slice A n cp]).alloc (.cells #[.int .i64 (r:Int),.int .i64 (c:Int),.slice A' n' cp'] 65)).alloc (.cells #[.int .i64 0,.int .i64 0,.slice none 0 0] 65))
 have A1:=za ((At.new (w.alloc (.cells #[.int .i64 (r:Int),.int .i64 (c:Int),.slice A n cp] 65)) 65 #[.int .i64 (r:Int),.int .i64 (c:Int),.slice A' n' cp']).alloc (.cells #[.int .i64 0,.int .i64 0,.slice none 0 0] 65));have A2:=za (At.new ((w.alloc (.cells #[.int .i64 (r:Int),.int .i64 (c:Int),.slice A n cp] 65)).alloc (.cells #[.int .i64 (r:Int),.int .i64 (c:Int),.slice A' n' cp'] 65)) 65 #[.int .i64 0,.int .i64 0,.slice none 0 0])
 have B0:=za (zg (zg (zg (Below.refl w.heap.size w) (.cells #[.int .i64 (r:Int),.int .i64 (c:Int),.slice A n cp] 65)) (.cells #[.int .i64 (r:Int),.int .i64 (c:Int),.slice A' n' cp'] 65)) (.cells #[.int .i64 0,.int .i64 0,.slice none 0 0] 65));obtain ⟨W0,hW0⟩:=zc ((((w.alloc (.cells #[.int .i64 (r:Int),.int .i64 (c:Int),.slice A n cp] 65)).alloc (.cells #[.int .i64 (r:Int),.int .i64 (c:Int),.slice A' n' cp'] 65)).alloc (.cells #[.int .i64 0,.int .i64 0,.slice none 0 0] 65)))
 simp only [World.size_alloc] at A1 A2;have hWg:=za (show W0.heap.size=w.heap.size+3 by rw [←hW0];simp);rw [hW0] at A0 A1 A2 B0 ⊢;clear hW0;obtain ⟨g,hg⟩:=zc (w.heap.size);rw [hg] at A0 A1 A2 B0 hWg
 try simp only [hg]
 refine (E.out W0 (HL.out.below (by rw [hg];exact B0.out)) (HL'.out.below (by rw [hg];exact B0.out))).mono ?_;rintro e w1 ⟨Q,m,p,rfl,hq,hb1,hfr⟩;unfold zE;have B1:=za (zq B0.out (by rw [hWg.out];omega) hb1);have C2:=za (A2.out.below hb1);have HQ:=za hq;have hsz:=hWg.out;clear hb1 hq;obtain ⟨r0,r1,r2⟩:=C2.out.three;have z0:=C2.out.frozen 0;have z1:=C2.out.frozen 1;have z2:=C2.out.frozen 2
 go_wp2_with fail;have NR:=za (HQ.out.set3 (w:=w) C2.out (qQ C2.out) (.int .i64 (r:Int)) (.int .i64 (c:Int)) (.slice Q m p));obtain ⟨d0,d1,d2⟩:=(C2.out.set3 (.int .i64 (r:Int)) (.int .i64 (c:Int)) (.slice Q m p)).three;refine bodyPost_ret (v:=.tuple #[.agg #[.int .i64 (r:Int),.int .i64 (c:Int),.slice Q m p],.bool true]) (by simp [results,Tryz.results171,go_sem,d0,d1,d2]) rfl ⟨Q,m,p,rfl,NR.out,?_,fun b o e=>Nat.le_trans (show w.heap.size≤W0.heap.size by omega) (hfr b o e)⟩
 rw [hg];exact jd B1.out (by omega) _ _ _
theorem zig (args:Array Value) (W:World):(callFunc 176 args).run Tryz.prog W=.ok (.enter 176 args) W:=enters_of Tryz.func176 (by kernel_rfl) rfl args W
theorem zje (r c:Nat) (A:Option Addr) (n cp:Nat) (l:List Num) (A':Option Addr) (n' cp':Nat) (l':List Num) (hs:zt r c l) (hs':zt r c l') (w:World) (hl:zk w A n cp l) (hl':zk w A' n' cp' l') :
  Calls Tryz.prog 156 #[zE r c A n cp,zE r c A' n' cp'] w (qM r c (vB l l') w):=by
 have hu:=Tryz.underlying65;have E:=za (fun W h1 h2=>zdk 176 vB (fun A A' m c m' c' xs ys h1 h2 w hx hy=>zgP A A' m c m' c' xs ys h1 h2 w hx hy) zig r c A n cp l A' n' cp' l' hs hs' W h1 h2);have HL:=za hl;have HL':=za hl';clear hl hl';unfold zE at E;unfold zE;go_enter Tryz.func156,Tryz.ntmps156;go_wp2_with fail;have A0:=za (((At.new w 65 #[.int .i64 (r:Int),.int .i64 (c:Int),.slice A n cp]).alloc (.cells #[.int .i64 (r:Int),.int .i64 (c:Int),.slice A' n' cp'] 65)).alloc (.cells #[.int .i64 0,.int .i64 0,.slice none 0 0] 65))
 have A1:=za ((At.new (w.alloc (.cells #[.int .i64 (r:Int),.int .i64 (c:Int),.slice A n cp] 65)) 65 #[.int .i64 (r:Int),.int .i64 (c:Int),.slice A' n' cp']).alloc (.cells #[.int .i64 0,.int .i64 0,.slice none 0 0] 65));have A2:=za (At.new ((w.alloc (.cells #[.int .i64 (r:Int),.int .i64 (c:Int),.slice A n cp] 65)).alloc (.cells #[.int .i64 (r:Int),.int .i64 (c:Int),.slice A' n' cp'] 65)) 65 #[.int .i64 0,.int .i64 0,.slice none 0 0])
 have B0:=za (zg (zg (zg (Below.refl w.heap.size w) (.cells #[.int .i64 (r:Int),.int .i64 (c:Int),.slice A n cp] 65)) (.cells #[.int .i64 (r:Int),.int .i64 (c:Int),.slice A' n' cp'] 65)) (.cells #[.int .i64 0,.int .i64 0,.slice none 0 0] 65));obtain ⟨W0,hW0⟩:=zc ((((w.alloc (.cells #[.int .i64 (r:Int),.int .i64 (c:Int),.slice A n cp] 65)).alloc (.cells #[.int .i64 (r:Int),.int .i64 (c:Int),.slice A' n' cp'] 65)).alloc (.cells #[.int .i64 0,.int .i64 0,.slice none 0 0] 65)))
 simp only [World.size_alloc] at A1 A2;have hWg:=za (show W0.heap.size=w.heap.size+3 by rw [←hW0];simp);rw [hW0] at A0 A1 A2 B0 ⊢;clear hW0;obtain ⟨g,hg⟩:=zc (w.heap.size);rw [hg] at A0 A1 A2 B0 hWg
 try simp only [hg]
 refine (E.out W0 (HL.out.below (by rw [hg];exact B0.out)) (HL'.out.below (by rw [hg];exact B0.out))).mono ?_;rintro e w1 ⟨Q,m,p,rfl,hq,hb1,hfr⟩;unfold zE;have B1:=za (zq B0.out (by rw [hWg.out];omega) hb1);have C2:=za (A2.out.below hb1);have HQ:=za hq;have hsz:=hWg.out;clear hb1 hq;obtain ⟨r0,r1,r2⟩:=C2.out.three;have z0:=C2.out.frozen 0;have z1:=C2.out.frozen 1;have z2:=C2.out.frozen 2
 go_wp2_with fail;have NR:=za (HQ.out.set3 (w:=w) C2.out (qQ C2.out) (.int .i64 (r:Int)) (.int .i64 (c:Int)) (.slice Q m p));obtain ⟨d0,d1,d2⟩:=(C2.out.set3 (.int .i64 (r:Int)) (.int .i64 (c:Int)) (.slice Q m p)).three;refine bodyPost_ret (v:=.tuple #[.agg #[.int .i64 (r:Int),.int .i64 (c:Int),.slice Q m p],.bool true]) (by simp [results,Tryz.results156,go_sem,d0,d1,d2]) rfl ⟨Q,m,p,rfl,NR.out,?_,fun b o e=>Nat.le_trans (show w.heap.size≤W0.heap.size by omega) (hfr b o e)⟩
 rw [hg];exact jd B1.out (by omega) _ _ _
theorem zge (r c:Nat) (A:Option Addr) (n cp:Nat) (l:List Int) (hs:zt r c (jC l)) (w:World) (hl:zU w A n cp l):Calls Tryz.prog 174 #[.int .i64 (r:Int),.int .i64 (c:Int),.slice A n cp] w (qM r c (jC l) w):=by
 have hu:=Tryz.underlying65;have hn:n≤1000:=by rw [←hl.1];have h:=hs.len;have:=hs.prod;unfold jC at h;rw [List.length_map] at h;omega
 have V:=za (fun (W:World) (h:zU W A n cp l)=>zc5 A n cp l hn W h);have N:=za (fun (Q:Option Addr) (m p:Nat) (W:World) (h:zk W Q m p (jC l))=>vE r c Q m p _ hs W h);have HL:=za hl;clear hl;go_enter Tryz.func174,Tryz.ntmps174;go_wp2_with fail;have A0:=za (At.new w 65 #[.int .i64 0,.int .i64 0,.slice none 0 0]);have B0:=za (zg (Below.refl w.heap.size w) (.cells #[.int .i64 0,.int .i64 0,.slice none 0 0] 65))
 obtain ⟨W0,hW0⟩:=zc ((w.alloc (.cells #[.int .i64 0,.int .i64 0,.slice none 0 0] 65)));have hWg:=za (show W0.heap.size=w.heap.size+1 by rw [←hW0];simp);rw [hW0] at A0 B0 ⊢;clear hW0;obtain ⟨g,hg⟩:=zc (w.heap.size);rw [hg] at A0 B0 hWg
 try simp only [hg]
 refine (V.out W0 (HL.out.below (by rw [hg];exact B0.out))).mono ?_;rintro e w1 ⟨Q,m,p,rfl,ho,hb1⟩;have B1:=za (zq B0.out (by rw [hWg.out];omega) hb1);have C0:=za (A0.out.below hb1);have HO:=za ho.nums;have hs1:=za (show g+1≤w1.heap.size by have:=hb1.size;rw [hWg.out] at this;exact this);clear ho hb1;go_wp2_with fail;refine (N.out _ _ _ w1 HO.out).mono ?_;rintro e w2 ⟨Q2,m2,p2,rfl,hq,hb2,hfr⟩
 unfold zE;have hsz:=hs1.out;have B2:=za (zq B1.out (by omega) hb2);have D0:=za (C0.out.below hb2);have HQ:=za hq;clear hq hb2;obtain ⟨r0,r1,r2⟩:=D0.out.three;have z0:=D0.out.frozen 0;have z1:=D0.out.frozen 1;have z2:=D0.out.frozen 2;go_wp2_with fail;have NR:=za (HQ.out.set3 (w:=w) D0.out (qQ D0.out) (.int .i64 (r:Int)) (.int .i64 (c:Int)) (.slice Q2 m2 p2));obtain ⟨d0,d1,d2⟩:=(D0.out.set3 (.int .i64 (r:Int)) (.int .i64 (c:Int)) (.slice Q2 m2 p2)).three
 refine bodyPost_ret (v:=.tuple #[.agg #[.int .i64 (r:Int),.int .i64 (c:Int),.slice Q2 m2 p2],.bool true]) (by simp [results,Tryz.results174,go_sem,d0,d1,d2]) rfl ⟨Q2,m2,p2,rfl,NR.out,?_,fun b o e=>Nat.le_trans (show w.heap.size≤w1.heap.size by omega) (hfr b o e)⟩;rw [hg];exact jd B2.out (by omega) _ _ _
def jA (xs:List Int):Array Value:=(xs.map (.int .i64)).toArray
theorem VD (xs:List Int) (k:Nat):(jA xs)[k]?=(xs[k]?).map (.int .i64):=by simp [jA]
theorem zed (xs:List Int) (i:Nat) (v:Int):(jA xs).setIfInBounds i v=jA (xs.set i v):=by simp [jA,List.map_set]
theorem zcX (n:Nat):madeCells #[.int .i64 0] n=jA (List.replicate n 0):=by
 apply Array.ext';rw [toList_madeCells_one];simp [jA]
theorem At.ints {W:World} {g:Nat} {xs:List Int} (h:At W g 3 (jA xs)) (n:Nat) (hn:xs.length=n):zU W (some ⟨g,0,none⟩) n n xs :=
 ⟨hn,Nat.le_refl _,fun _=>⟨g,0,rfl,fun k x hx=>by rw [Nat.zero_add,h.cell,VD,hx];rfl⟩⟩
theorem zdn (n:Nat) (hn:n≤100000) (W:World):(Instr.makeSlice 22 (.int .i64 (n:Int)) (.int .i64 (n:Int))).run Tryz.prog W=.ok (.slice (some ⟨W.heap.size,0,none⟩) n n) (W.alloc (.cells (jA (List.replicate n 0)) 3)):=by
 obtain ⟨i,hi,hzz⟩:=Option.map_eq_some_iff.1 zkL;simp only [Prod.mk.injEq] at hzz;obtain ⟨h1,h2,h3⟩:=hzz;have h:=run_make (P:=Tryz.prog) W 22 3 i (.int .i64 0) Tryz.underlying22 hi h1 .i64 .i64 (n:Int) (n:Int) (by omega) (Int.le_refl _) (by rw [h3];omega) (by omega);rw [h,h2,Int.toNat_natCast,Nat.mul_one,show Value.cells (.int .i64 0)=#[.int .i64 0] from rfl,zcX]
def ZC (n k:Nat):List Int:=(List.range (n*n)).map fun i=>if i%(n+1)=0∧i / (n+1)<k then 1 else 0
theorem zc6 (n k:Nat):(ZC n k).length=n*n:=by simp [ZC]
theorem zfM (n:Nat):ZC n 0=List.replicate (n*n) 0:=by
 unfold ZC;apply List.ext_getElem
 ·simp
 ·intro i h1 h2;simp
theorem zhw (n k:Nat):(ZC n k).set (k*n+k) 1=ZC n (k+1):=by
 unfold ZC;apply List.ext_getElem
 ·simp
 ·intro i h1 h2
  have e:k*n+k=k*(n+1):=by rw [Nat.mul_add,Nat.mul_one]
  simp only [List.getElem_set,List.getElem_map,List.getElem_range,e]
  by_cases hi:k*(n+1)=i
  ·have a:i%(n+1)=0:=by rw [←hi];exact Nat.mul_mod_left _ _
   have b:i / (n+1)=k:=by rw [←hi];exact Nat.mul_div_cancel _ (by omega)
   simp [hi,a,b]
  ·have:i%(n+1)=0→i / (n+1)≠k:=fun h h'=>hi (by
    have:=Nat.div_add_mod i (n+1);rw [h,h', Nat.add_zero,Nat.mul_comm] at this;exact this)
   by_cases h:i%(n+1)=0
   ·have:=this h
    have e2:(i / (n+1)<k+1)=(i / (n+1)<k):=by apply propext;omega
    simp [hi,h,e2]
   ·simp [hi,h]
def Z5 (n:Nat):List Num:=jC (ZC n n)
theorem zt.unit {n:Nat} (h1:1≤n) (h2:n≤16):zt n n (Z5 n):=⟨h1,h2,h1,h2,by simp [Z5,jC,ZC]⟩
theorem zhR (n:Nat) (h1:1≤n) (h2:n≤16) (w:World):Calls Tryz.prog 155 #[.int .i64 (n:Int)] w (qM n n (Z5 n) w):=by
 have hu:=Tryz.underlying65;have V:=za (fun (g m:Nat) (W:World) (h:zU W (some ⟨g,0,none⟩) m m (ZC n n))=>zge n n (some ⟨g,0,none⟩) m m (ZC n n) (zt.unit h1 h2) W h);obtain ⟨m,hm⟩:=zc (n*n);have hmm:(n:Int)*(n:Int)=(m:Int):=by rw [←hm];simp
 have hm256:m≤256:=by rw [←hm];exact Nat.mul_le_mul h2 h2
 have hm1:1≤m:=by rw [←hm];exact Nat.mul_le_mul h1 h1
 have hn1:(1:Int)≤(n:Int):=by omega
 have hn2:(n:Int)≤16:=by omega
 have hmk:=zdn m (by omega);have HM:=za hm;clear hm;go_enter Tryz.func155,Tryz.ntmps155;go_wp2_with fail;have A0:=za ((At.new w 65 #[.int .i64 0,.int .i64 0,.slice none 0 0]).alloc (.cells (jA (List.replicate m 0)) 3));have A1:=za (At.new (w.alloc (.cells #[.int .i64 0,.int .i64 0,.slice none 0 0] 65)) 3 (jA (List.replicate m 0)));have B0:=za (zg (zg (Below.refl w.heap.size w) (.cells #[.int .i64 0,.int .i64 0,.slice none 0 0] 65)) (.cells (jA (List.replicate m 0)) 3))
 obtain ⟨W0,hW0⟩:=zc (((w.alloc (.cells #[.int .i64 0,.int .i64 0,.slice none 0 0] 65)).alloc (.cells (jA (List.replicate m 0)) 3)));simp only [World.size_alloc] at A1;have hWg:=za (show W0.heap.size=w.heap.size+2 by rw [←hW0];simp);rw [hW0] at A0 A1 B0 ⊢;clear hW0;obtain ⟨g,hg⟩:=zc (w.heap.size);rw [hg] at A0 A1 B0 hWg
 try simp only [hg]
 have hsz:=hWg.out
 go_loopw [18] (fun i wr=>∃k:Nat,k≤n∧i=.int .i64 k∧Hid (At wr (g+1) 3 (jA (ZC n k)))∧Hid (Below (g+1) W0 wr)) (fun i _=>n-(intOf i).toNat)
 case atStart=>exact ⟨0,by omega,rfl,za (by rw [zfM,HM.out];exact A1.out),za (Below.refl _ _)⟩
 case round =>
  obtain ⟨k,hk,rfl,HA,HB⟩:=hrel
  by_cases hlt:k<n
  ·have hlt':(k:Int)<(n:Int):=by omega
   have hidx:=zgo hlt hlt;rw [HM.out] at hidx;obtain ⟨p,hp⟩:=zc (k*n);have hpi:(k:Int)*(n:Int)=(p:Int):=by rw [←hp];simp
   have HP:=za hp;rw [hp] at hidx;clear hp;obtain ⟨x,hx⟩:∃x,(ZC n k)[p+k]?=some x:=⟨_,List.getElem?_eq_getElem (by rw [zc6,HM.out];exact hidx)⟩
   have c0:wr.cell? ⟨g+1,p+k,none⟩=some (.int .i64 x):=by rw [HA.out.cell,VD,hx];rfl
   have z0:=HA.out.frozen (p+k);have hi0:(0:Int)≤(p:Int)+(k:Int):=by omega
   have hi1:(p:Int)+(k:Int)<(m:Int):=by omega
   have HA2:=za (HA.out.set (p+k) (.int .i64 1) (zed _ _ _));have HB2:=za (zj HB.out (Nat.le_refl _) (p+k) (.int .i64 1));rw [←HP.out,zhw,HP.out] at HA2;clear hx;go_wp2_with fail;go_roundw
   case rel=>exact ⟨k+1,by omega,by go_num,HA2,HB2⟩
   case measure=>simp [intOf];omega
  ·obtain rfl:k=n:=by omega
   go_wp2_with fail;refine (V.out (g+1) m wr (HA.out.ints m (by rw [zc6,HM.out]))).mono ?_;rintro e w1 ⟨Q,a,b,rfl,hq,hb1,hfr⟩;unfold zE;have B2:=za (zq (B0.out.trans (HB.out.mono (by omega))) (by have:=HB.out.size;omega) hb1);have D0:=za (At.below (w:=wr) ((HB.out.block g (by omega)).trans A0.out) hb1);have HQ:=za hq;clear hq hb1;obtain ⟨r0,r1,r2⟩:=D0.out.three;have z0:=D0.out.frozen 0
   have z1:=D0.out.frozen 1;have z2:=D0.out.frozen 2;go_wp2_with fail;have NR:=za (HQ.out.set3 (w:=w) D0.out (qQ D0.out) (.int .i64 (k:Int)) (.int .i64 (k:Int)) (.slice Q a b));obtain ⟨d0,d1,d2⟩:=(D0.out.set3 (.int .i64 (k:Int)) (.int .i64 (k:Int)) (.slice Q a b)).three;refine bodyPost_ret (v:=.tuple #[.agg #[.int .i64 (k:Int),.int .i64 (k:Int),.slice Q a b],.bool true]) (by simp [results,Tryz.results155,go_sem,d0,d1,d2]) rfl ⟨Q,a,b,rfl,NR.out,?_,fun b o e=>Nat.le_trans (show w.heap.size≤wr.heap.size by have:=HB.out.size;omega) (hfr b o e)⟩
   rw [hg];exact jd B2.out (by omega) _ _ _
section
attribute [local go_sem] Oper.semAt_some ve
theorem zfN {W w:World} {row:Option Nat} (h:W.drew.grownBy w row):W.grownBy w row:=⟨h.os,h.tape,h.output,h.size,h.block⟩
theorem jE {o:Oper} {a:Act} {K:Act→World→Prop} {Q:Exit→Act→World→Prop} {w:World} (s x:Operand)
  (ho:o.op=.call { callee:=.builtin .append,args:=#[s,x],argTypes:=#[63,63] }) (B:Nat) (v:Value) (xs ys:List Num) (A:Option Addr) (n c:Nat) (hs:a.eval s=v) (hown:zH w B v xs)
  (hx:a.eval x=.slice A n c) (hA:0<n) (hy:zk w A n c ys) (hl:xs.length+n≤2000) (hB:B≤w.heap.size)
  (h:∀v' w', zH w' B v' (xs++ys)→w.grownBy w' v.ownBlock→(v'.ownBlock=v.ownBlock∨v'.ownBlock=some w.heap.size)→K (a.put o.dst v') w'):o.wp Tryz.prog a w K Q:=by
 obtain ⟨i0,hi,hz0,hz1,hz2⟩:=info_parts Y7;obtain ⟨b,o', rfl,hc⟩:=hy.2.2 hA
 obtain ⟨v', w', hr,h2,h3,_,hat⟩:=run_append_own_at (P:=Tryz.prog) w B 63 o.type 71 i0 _ 4 32 Tryz.underlying63 hi hz0 hz1 hz2 rfl (by decide) v xs.length (xs.flatMap Num.cs) hown ⟨b,o', none⟩ n c (ys.flatMap Num.cs) (by rw [jB,hy.1])
  (fun j u hj=>zk.cells (n:=n) (c:=c) hc j u hj) (zjJ ys) (by unfold maxLen;omega) (by omega) hB
 rw [←List.flatMap_append] at h2;unfold Oper.wp execOp;simp only [ho,resolve,invoke,builtin,Sem.run_bind,Sem.run_pure,Result.andThen_ok,List.map_toArray,List.map_cons,List.map_nil,hs,hx,hr];exact h v' w' (by unfold zH;rw [List.length_append,hy.1];exact h2) h3 hat
def VQ (c k:Nat) (l l':List Num) (i:Nat):List Num:=(List.range i).flatMap fun j=>qz c l j++qz k l' j
def VO (r c k:Nat) (l l':List Num):List Num:=VQ c k l l' r
theorem zcA (c k:Nat) (l l':List Num) (i:Nat):VQ c k l l' (i+1)=VQ c k l l' i++qz c l i++qz k l' i:=by unfold VQ;rw [List.range_succ,List.flatMap_append];simp
theorem qj {r c:Nat} {l:List Num} (h:zt r c l) {i:Nat} (hi:i<r):(qz c l i).length=c:=by
 unfold qz;rw [List.length_take,List.length_drop,h.len];have:(i+1)*c≤r*c:=Nat.mul_le_mul_right _ hi;rw [Nat.add_mul,Nat.one_mul] at this;omega
theorem zdz {r c k:Nat} {l l':List Num} (h:zt r c l) (h':zt r k l') {i:Nat} (hi:i≤r):(VQ c k l l' i).length=i*(c+k):=by
 induction i with
 | zero=>simp [VQ]
 | succ i ih=>rw [zcA,List.length_append,List.length_append,ih (by omega),qj h (by omega),qj h' (by omega),Nat.add_mul,Nat.one_mul];omega
theorem zt.beside {r c k:Nat} {l l':List Num} (h:zt r c l) (h':zt r k l') (hc:c+k≤16):zt r (c+k) (VO r c k l l'):=⟨h.r1,h.r2,by have:=h.c1;omega,hc,zdz h h' (Nat.le_refl r)⟩
theorem ze9 (r c k : Nat) (A : Option Addr) (n cp : Nat) (l : List Num) (A' : Option Addr) (n' cp' : Nat) (l' : List Num) (hs : zt r c l) (hs' : zt r k l') (hck : c + k ≤ 16) (w : World) (hl : zk w A n cp l) (hl' : zk w A' n' cp' l') :
  Calls Tryz.prog 152 #[zE r c A n cp, zE r k A' n' cp'] w (qM r (c + k) (VO r c k l l') w) := by
 have hu := Tryz.underlying65;have hu1 := Tryz.underlying71;have R := za (show ∀ W, Calls Tryz.prog 119 #[zE r c A n cp] W fun e w' => e = .returned (.bool true) ∧ Below W.heap.size W w' from fun W => by have := qI r c A n cp W; rw [hs.right hl.1] at this; exact this);have R' := za (show ∀ W, Calls Tryz.prog 119 #[zE r k A' n' cp'] W fun e w' => e = .returned (.bool true) ∧ Below W.heap.size W w' from fun W => by have := qI r k A' n' cp' W; rw [hs'.right hl'.1] at this; exact this)
 have AL := za (fun W => vT r c A n cp W);have RW := za (fun (i : Nat) (hi : i < r) (W : World) (h : zk W A' n' cp' l') => zg4 r k A' n' cp' l' hs' i hi W h);have NW := za (fun (Q : Option Addr) (m p : Nat) (W : World) (h : zk W Q m p (VO r c k l l')) => vE r (c + k) Q m p _ (hs.beside hs' hck) W h);have HL := za hl;have HL' := za hl';have hr16 := hs.r2;have hc16 := hs.c2;have hk16 := hs'.c2;have hc1 := hs.c1
 have hk1 := hs'.c1;obtain ⟨d, hd⟩ := zc (c + k);have hcd : (c : Int) + (k : Int) = (d : Int) := by omega
 have hd16 : d ≤ 16 := by omega
 rw [hd] at NW ⊢;have HD := za hd;clear hl hl' hd;unfold zE at R R' AL RW;unfold zE;refine (callsIn_wide (n := 9)).1 ?_;refine callsIn_of_wp_marks Tryz.func152 rfl trivial ?_ rfl;simp only [Tryz.ntmps152, List.size_toArray, List.length_cons, List.length_nil, Nat.reduceAdd, Nat.reduceSub, Array.replicate_succ, Array.replicate_zero, List.push_toArray, List.append_toArray, List.nil_append, List.cons_append]
 gi_wp2_with fail;have A0 := za (((At.new w 65 #[.int .i64 (r : Int), .int .i64 (c : Int), .slice A n cp]).alloc (.cells #[.int .i64 (r : Int), .int .i64 (k : Int), .slice A' n' cp'] 65)).alloc (.cells #[.int .i64 0, .int .i64 0, .slice none 0 0] 65));have A1 := za ((At.new (w.alloc (.cells #[.int .i64 (r : Int), .int .i64 (c : Int), .slice A n cp] 65)) 65 #[.int .i64 (r : Int), .int .i64 (k : Int), .slice A' n' cp']).alloc (.cells #[.int .i64 0, .int .i64 0, .slice none 0 0] 65))
 have A2 := za (At.new ((w.alloc (.cells #[.int .i64 (r : Int), .int .i64 (c : Int), .slice A n cp] 65)).alloc (.cells #[.int .i64 (r : Int), .int .i64 (k : Int), .slice A' n' cp'] 65)) 65 #[.int .i64 0, .int .i64 0, .slice none 0 0]);have B0 := za (zg (zg (zg (Below.refl w.heap.size w) (.cells #[.int .i64 (r : Int), .int .i64 (c : Int), .slice A n cp] 65)) (.cells #[.int .i64 (r : Int), .int .i64 (k : Int), .slice A' n' cp'] 65)) (.cells #[.int .i64 0, .int .i64 0, .slice none 0 0] 65))
 obtain ⟨W0, hW0⟩ := zc ((((w.alloc (.cells #[.int .i64 (r : Int), .int .i64 (c : Int), .slice A n cp] 65)).alloc (.cells #[.int .i64 (r : Int), .int .i64 (k : Int), .slice A' n' cp'] 65)).alloc (.cells #[.int .i64 0, .int .i64 0, .slice none 0 0] 65)));simp only [World.size_alloc] at A1 A2;have hWg := za (show W0.heap.size = w.heap.size + 3 by rw [← hW0]; simp);rw [hW0] at A0 A1 A2 B0 ⊢;clear hW0
 obtain ⟨g, hg⟩ := zc (w.heap.size);rw [hg] at A0 A1 A2 B0 hWg
 try simp only [hg]
 refine (zw 8 (R.out W0)).mono ?_;rintro e w1 ⟨rfl, hb1⟩;have B1 := za (zq B0.out (by rw [hWg.out]; omega) hb1);have A0' := za (A0.out.below hb1);have A1' := za (A1.out.below hb1);have A2' := za (A2.out.below hb1);have hs1 := za (show g + 3 ≤ w1.heap.size by have := hb1.size; rw [hWg.out] at this; exact this);clear hb1 A0 A1 A2 B0;obtain ⟨p0, p1, p2⟩ := A0'.out.three;obtain ⟨q0, q1, q2⟩ := A1'.out.three
 gi_wp2_with fail;refine (zw 8 (R'.out w1)).mono ?_;rintro e w2 ⟨rfl, hb2⟩;have hsz1 := hs1.out;have B2 := za (zq B1.out (by omega) hb2);have C0 := za (A0'.out.below hb2);have C1 := za (A1'.out.below hb2);have C2 := za (A2'.out.below hb2);have hs2 := za (Nat.le_trans hsz1 hb2.size);clear hb2 A0' A1' A2' B1 p0 p1 p2 q0 q1 q2 hsz1 hs1;obtain ⟨p0, p1, p2⟩ := C0.out.three;obtain ⟨q0, q1, q2⟩ := C1.out.three
 obtain ⟨s0, s1, s2⟩ := (C0.out.alloc (.cells #[.slice none 0 0] 63)).three;gi_wp2_with fail;refine (zw 8 (AL.out _)).mono ?_;rintro e w3 ⟨rfl, rfl⟩;have D0 := za ((At.new w2 63 #[.slice none 0 0]).alloc (.cells #[.int .i64 (r : Int), .int .i64 (c : Int), .slice A n cp] 65));have D1 := za (At.new (w2.alloc (.cells #[.slice none 0 0] 63)) 65 #[.int .i64 (r : Int), .int .i64 (c : Int), .slice A n cp])
 have E0 := za (zg (zg (Below.refl w2.heap.size w2) (.cells #[.slice none 0 0] 63)) (.cells #[.int .i64 (r : Int), .int .i64 (c : Int), .slice A n cp] 65));obtain ⟨V0, hV0⟩ := zc (((w2.alloc (.cells #[.slice none 0 0] 63)).alloc (.cells #[.int .i64 (r : Int), .int .i64 (c : Int), .slice A n cp] 65)));simp only [World.size_alloc] at D1;have hV := za (show V0.heap.size = w2.heap.size + 2 by rw [← hV0]; simp)
 rw [hV0] at D0 D1 E0 ⊢;clear hV0;obtain ⟨h, hh⟩ := zc (w2.heap.size);rw [hh] at D0 D1 E0 hV
 try simp only [hh]
 simp only [World.size_alloc];simp only [hh];have F0 := za (C0.out.below (by rw [hh]; exact E0.out));have F1 := za (C1.out.below (by rw [hh]; exact E0.out));have F2 := za (C2.out.below (by rw [hh]; exact E0.out));have hgh : g + 3 ≤ h := by have := hs2.out; rw [hh] at this; exact this
 have hsz := hV.out;have B3 := za (zq B2.out (by omega) (by rw [hh]; exact E0.out));have hBw : Below w.heap.size w V0 := by rw [hg]; exact B3.out
 clear C0 C1 C2 B2 E0 p0 p1 p2 q0 q1 q2 s0 s1 s2 hs2 hWg;obtain ⟨S, hSd⟩ : ∃ S : Nat → Prop, S = fun k => k < V0.heap.size ∧ k ≠ h := ⟨_, rfl⟩
 have hS : ∀ k, S k → k < V0.heap.size := fun k h => by rw [hSd] at h; exact h.1
 have hSo : ¬ S h := fun h => by rw [hSd] at h; exact h.2 rfl
 have hSi : ∀ k, k < V0.heap.size → k ≠ h → S k := fun k h1 h2 => by rw [hSd]; exact ⟨h1, h2⟩
 clear hSd;have hSw : ∀ k, k < w.heap.size → S k := fun k hk => hSi k (by omega) (by omega);gi_wp2_with fail
 refine jS rfl (by decide) (gf := 124) (lb := #[.pointer (some ⟨h + 1, 0, none⟩)]) rfl trivial yw
  (y9 6 S (h + 1) r c A n cp l hs V0 (hSi _ (by omega) (by omega)) D1.out (fun W' q => q.nums HL.out hBw hSw)) (fun s W0 args s' W1 h => (V3.size _ _ _ _ _ h).trans rfl)
  (fun i W => ∃ v, jD S V0 h (VQ c k l l' i) v W) (fun _ _ ⟨_, k⟩ => k.kb) (fun _ _ _ _ ⟨v, k⟩ hgr hr => ⟨v, k.grown hS hgr hr⟩) (fun _ _ _ ⟨v, k⟩ hb => ⟨v, k.below hS hb⟩)
  ⟨.slice none 0 0, D0.out, zH.nil_ _ _, KB.refl S V0⟩ ?round ?done
 case round =>
  rintro lp i i' args V1 V2 hlp ⟨v, hv⟩ ⟨rl, hrl⟩ hb ⟨hir, rfl, row, rfl, hrow⟩;have H1 := za (hv.below hS hb);have HR := za hrow;have hvu : ∀ q, v.ownBlock = some q → q < V1.heap.size := fun q e => (World.ownsRow.lt hv.own q e).2;obtain ⟨ra, rn, rc, rfl⟩ := zS hrow;clear hv hrow hrl hb;gi_wp2_with fail;refine ⟨KeepsFrom.refl _ _, fun W2 hgr ho _ => ?_⟩;have H := za (H1.out.grown hS hgr (fun r e => by cases e; exact ⟨hlp, ho⟩))
  have HR2 := za (j7 HR.out hgr (fun r e => by cases e; exact ho)).nums;have hrn : rn = c := by have := zL HR.out; rw [qj hs hir] at this; exact this
  have o0 := H.out.box.cell 0;obtain ⟨p0, p1, p2⟩ := (H.out.kb.at_ (hSi (g + 1) (by omega) (by omega)) F1.out).three;have hgo : some h ≠ v.ownBlock := jP H.out.own (by omega);have hg1 : some (g + 1) ≠ v.ownBlock := jP H.out.own (by omega);have hsW := H.out.kb.size
  have hll : (VQ c k l l' i).length ≤ 600 := by
   rw [zdz hs hs' (by omega)];exact Nat.le_trans (Nat.mul_le_mul (Nat.le_trans (Nat.le_of_lt hir) hr16) hck) (by decide)
  have hrowS : ∀ k, v.ownBlock = some k → ¬ S k := fun k e hk => by have := (World.ownsRow.lt H.out.own k e).1; have := hS k hk; omega
  clear hgr ho H1;gi_wp2_with fail;refine jV (by kernel_rfl) (by kernel_rfl) (by rintro ⟨a, w, h⟩; exact h) (jH v.ownBlock.toList [0, 1, 3, 4] [2, 5, 6, 7] (.cons rfl (.cons rfl (.cons rfl (.cons rfl .nil)))) (.cons rfl (.cons rfl (.cons rfl (.cons rfl .nil)))) (by kernel_rfl) (fun c a d v w h => h) ?_);have ko0 := fun x => But.cell o0 (zO hgo) x;have kp0 := fun x => But.cell p0 (zO hg1) x;have kp1 := fun x => But.cell p1 (zO hg1) x
  have kp2 := fun x => But.cell p2 (zO hg1) x
  repeat (go_big_quiet_step (fail))
  refine wpQuiet_nil ?_;clear ko0 kp0 kp1 kp2;refine zp rfl (fun K hK => ?_);refine jE (.tmp 29) (.tmp 30) rfl V0.heap.size v (VQ c k l l' i) (qz c l i) ra rn rc rfl H.out.own.drew rfl (by omega) HR2.out.drew (by omega) hsW ?_;intro v1 w3 hown3 hgrow3 hat3;replace hgrow3 := zfN hgrow3;replace hat3 : v1.ownBlock = v.ownBlock ∨ v1.ownBlock = some W2.heap.size := hat3;refine hK _ _ (zI ((zC.refl _ _).grown (hgrow3) (fun k e => .inl (qR k e)))) ?_
  clear hK K;have hSW : ∀ k, S k → k < W2.heap.size := fun k hk => Nat.lt_of_lt_of_le (hS k hk) hsW;have K3 := za ((KB.refl S W2).grown hSW hgrow3 hrowS);have X3 := za (H.out.box.grown hgrow3 hgo);have P3 := za ((zC.refl W2 v.ownBlock.toList).grown hgrow3 (fun k e => .inl (qR k e)));have F3 := za (jF (B := V0.heap.size) H.out.own hgrow3)
  have hg3 : ∀ q, v1.ownBlock = some q → q ∈ v.ownBlock.toList ∨ W2.heap.size ≤ q := fun q e => by
   rcases hat3 with e' | e'
   ·exact .inl (qR q (by rw [← e']; exact e))
   ·exact .inr (by rw [e'] at e; cases e; exact Nat.le_refl _)
  have hS3 : ∀ q, v1.ownBlock = some q → ¬ S q := fun q e => by
   rcases hat3 with e' | e'
   ·exact hrowS q (by rw [← e']; exact e)
   ·rw [e'] at e; cases e; exact fun hk => by have := hS _ hk; omega
  have O3 := za hown3;clear hown3 hgrow3 hat3;refine zp rfl (fun K hK => ?_);go_simp;refine (RW.out i hir w3 ((H.out.kb.trans K3.out).nums HL'.out hBw hSw)).mono ?_;rintro e w4 ⟨Q4, n4, c4, rfl, ho4, hb4⟩;refine hK _ _ (zI (P3.out.call hb4)) ?_;clear hK K;have hn4 : n4 = k := by have := zL ho4; rw [show (List.take k (List.drop (i * k) l')) = qz k l' i from rfl, qj hs' hir] at this; exact this
  refine zp rfl (fun K hK => ?_);refine jE (.tmp 31) (.tmp 34) rfl V0.heap.size v1 _ (qz k l' i) Q4 n4 c4 rfl (O3.out.below hb4) rfl (by omega) ho4.nums (by rw [List.length_append, qj hs hir]; omega) (by have := K3.out.size; have := hb4.size; omega) ?_;intro v2 w5 hown5 hgrow5 hat5;obtain ⟨Q5, n5, c5, rfl⟩ := zS hown5;have P5 := za ((P3.out.call hb4).grown hgrow5 hg3);refine hK _ _ (zI P5.out) ?_;clear hK K
  have K5 := za ((K3.out.call hSW hb4).grown hSW hgrow5 hS3);have X5 := za ((X3.out.below hb4).grown hgrow5 (jP O3.out (by omega)));have F5 := za ((F3.out.trans (zB hb4)).trans (jF (O3.out.below hb4) hgrow5));have O5 := za hown5;clear hown5 hgrow5 hat5 hb4 ho4;have e0 := X5.out.cell 0;have z0 := X5.out.frozen 0;refine zZ rfl (fun K hK => ?_);go_simp;refine hK _ _ ?_;clear hK K;refine ⟨F5.out.trans (zV _ _ _ _), .slice Q5 n5 c5, X5.out.set 0 _ rfl, ?_, (H.out.kb.trans K5.out).set hSo _ _⟩
  rw [zcA];have hlt5 := fun q e => (World.ownsRow.lt O5.out q e).1;exact O5.out.kept (jv w5 h 0 _) (.inr (fun e => by have := hlt5 h e; omega))
 case done =>
  rintro D r' W hD hrr ⟨v, hv⟩ hK;rw [show r' = r from hrr] at hv;have HK := za hK;have H := za hv;have hD' := za hD;obtain ⟨Q1, n1, c1, rfl⟩ := zS hv.own;clear hv hK hD;have s0 := H.out.box.cell 0;obtain ⟨p0, p1, p2⟩ := (H.out.kb.at_ (hSi g (by omega) (by omega)) F0.out).three;obtain ⟨q0, q1, q2⟩ := (H.out.kb.at_ (hSi (g + 1) (by omega) (by omega)) F1.out).three;have A2r := za (H.out.kb.at_ (hSi (g + 1 + 1) (by omega) (by omega)) F2.out)
  have hDl : D < W.heap.size := (Array.getElem?_eq_some_iff.1 HK.out).1;gi_wp2_with fail;refine (zw 8 (NW.out Q1 n1 c1 W H.out.own.nums)).mono ?_;rintro e w4 ⟨Q4, n4, c4, rfl, hq4, hb4, hfr⟩;unfold zE;have HK4 := za ((hb4.block D hDl).trans HK.out);have A2w := za (A2r.out.below hb4);have hV0W := H.out.kb.size;have B4 := za (zq (B3.out.trans (H.out.kb.below (fun k hk => hSi k (by omega) (by omega)))) (by omega) hb4)
  have HQ4 := za hq4;have hs4 := za hb4.size;clear hq4 hb4;obtain ⟨r0, r1, r2⟩ := A2w.out.three;have z0 := A2w.out.frozen 0;have z1 := A2w.out.frozen 1;have z2 := A2w.out.frozen 2;gi_wp2_with fail;have hne : D ≠ g + 1 + 1 := by have := hD'.out; omega
  have HK3 := za (zdq HK4.out hne (.int .i64 (r : Int)) (.int .i64 (d : Int)) (.slice Q4 n4 c4));have A3r := za (qf (A2w.out.set3 (.int .i64 (r : Int)) (.int .i64 (d : Int)) (.slice Q4 n4 c4)) (grownBy_putObj' _ D (.deferred none)) (fun r e => by cases e; exact ⟨_, HK3.out, rfl⟩));have NR := za (yf (HQ4.out.set3 (w := w) A2w.out (qQ A2w.out) (.int .i64 (r : Int)) (.int .i64 (d : Int)) (.slice Q4 n4 c4)) (.deferred none) HK3.out rfl)
  obtain ⟨d0, d1, d2⟩ := A3r.out.three;refine ⟨by simp, .inl ⟨_, _, rfl, run_takeDeferred HK3.out, ?_⟩⟩;refine ⟨.tuple #[.agg #[.int .i64 (r : Int), .int .i64 (d : Int), .slice Q4 n4 c4], .bool true], (by simp only [results, Tryz.results152]; simp [go_sem, d0, d1, d2]), Q4, n4, c4, rfl, NR.out, ?_, fun b o e => Nat.le_trans (show w.heap.size ≤ W.heap.size by omega) (hfr b o e)⟩;rw [hg];exact qu (jd B4.out (by omega) _ _ _) (by have := hs4.out; simp [World.setCell]; omega) (by have := hD'.out; omega) _
end
structure zD (G:List Nat) (w w':World):Prop where
 os:w'.os=w.os
 tape:w'.tape=w.tape
 output:w'.output=w.output
 size:w.heap.size≤w'.heap.size
 block:∀k,k<w.heap.size→k∉G→w'.heap[k]?=w.heap[k]?
theorem zD.refl (G:List Nat) (w:World):zD G w w:=⟨rfl,rfl,rfl,Nat.le_refl _,fun _ _ _=>rfl⟩
theorem zD.trans {G:List Nat} {a b c:World} (h:zD G a b) (k:zD G b c):zD G a c:=⟨k.os.trans h.os,k.tape.trans h.tape,k.output.trans h.output,Nat.le_trans h.size k.size,fun i hi hG=>(k.block i (Nat.lt_of_lt_of_le hi h.size) hG).trans (h.block i hi hG)⟩
theorem zD.of_below {G:List Nat} {w w':World} (h:Below w.heap.size w w'):zD G w w':=⟨h.os,h.tape,h.output,h.size,fun k hk _=>h.block k hk⟩
theorem zD.below {G:List Nat} {a b c:World} (h:zD G a b) (k:Below b.heap.size b c):zD G a c:=h.trans (zD.of_below k)
theorem zD.set {G:List Nat} {a b:World} (h:zD G a b) {g:Nat} (hg:g∈G∨a.heap.size≤g) (i:Nat) (u:Value):zD G a (b.setCell ⟨g,i,none⟩ u) :=
 ⟨h.os,h.tape,h.output,by have:=h.size;simpa [World.setCell] using this,fun k hk hkG=>(Below.heap_setCell b ⟨g,i,none⟩ u k (fun e=>by
  change k=g at e;subst e;rcases hg with hg|hg
  ·exact hkG hg
  ·omega)).trans (h.block k hk hkG)⟩
theorem zD.mono {G H:List Nat} {a b:World} (h:zD G a b) (hs:∀k,k∈G→k∈H):zD H a b:=⟨h.os,h.tape,h.output,h.size,fun k hk hH=>h.block k hk (fun hG=>hH (hs k hG))⟩
theorem zD.low {G:List Nat} {B:Nat} {a b c:World} (h:Below B a b) (hB:B≤b.heap.size) (k:zD G b c) (hG:∀q,q∈G→B≤q):Below B a c :=
 ⟨k.os.trans h.os,k.tape.trans h.tape,k.output.trans h.output,Nat.le_trans h.size k.size,fun i hi=>(k.block i (by omega) (fun hq=>by have:=hG i hq;omega)).trans (h.block i hi)⟩
structure Row where
 g:Nat
 cap:Nat
 xs:List Num
def Row.v (r:Row):Value:=.slice (some ⟨r.g,0,none⟩) r.xs.length r.cap
structure qy (W:World) (B:Nat) (v:Value) (R:List Row) (k:Nat):Prop where
 box:W.ownsRow B 63 1 v (R.length+k) (R.map Row.v++List.replicate k (.slice none 0 0))
 rows:∀r,r∈R→zH W B r.v r.xs
 apart:(R.map Row.g).Nodup
theorem ZE {W:World} {B:Nat} {r:Row} (h:zH W B r.v r.xs):B≤r.g∧r.g<W.heap.size:=World.ownsRow.lt h r.g rfl
theorem zgC {W:World} {B B' n:Nat} {v:Value} {cs:List Value} {r:Row} (h:W.ownsRow B 63 1 v n cs) (hr:zH W B' r.v r.xs):v.ownBlock≠some r.g:=by
 intro e;rcases h.2 with ⟨rfl,_⟩|⟨g,cap,cur,rfl,_,hgb,_⟩
 ·cases e
 ·have e1:g=r.g:=by simpa [Value.ownBlock] using e
  subst e1;rcases hr.2 with ⟨e2,_⟩|⟨g', cap', cur', e2,_,hgb', _⟩
  ·cases e2
  ·have e3:r.g=g':=by simp [Row.v] at e2;exact e2.1
   rw [←e3] at hgb';rw [hgb] at hgb';simp at hgb'
theorem zag {w w':World} {B e s n:Nat} {v:Value} {xs:List Value} (h:w.ownsRow B e s v n xs) (hs:∀k,v.ownBlock=some k→w'.heap[k]?=w.heap[k]?):w'.ownsRow B e s v n xs:=by
 exact XaM
theorem qy.same {W W':World} {B:Nat} {v:Value} {R:List Row} {k:Nat} (h:qy W B v R k) (hb:∀q,v.ownBlock=some q→W'.heap[q]?=W.heap[q]?) (hr:∀r,r∈R→W'.heap[r.g]?=W.heap[r.g]?):qy W' B v R k :=
 ⟨zag h.box hb,fun r hm=>vZ (h.rows r hm) (fun q e=>by cases e;exact hr r hm),h.apart⟩
theorem qy.below {W W':World} {B:Nat} {v:Value} {R:List Row} {k:Nat} (h:qy W B v R k) (hb:Below W.heap.size W W'):qy W' B v R k :=
 h.same (fun q e=>hb.block q (World.ownsRow.lt h.box q e).2) (fun r hm=>hb.block _ (ZE (h.rows r hm)).2)
theorem zjt (xs:List Num):∀(j:Nat) (y:Num),j<xs.length→(((((xs.flatMap Num.cs).set (j*4) y.v).set (j*4+1) y.l).set (j*4+2) y.h).set (j*4+3) y.bad)=(xs.set j y).flatMap Num.cs:=by
 induction xs with
 | nil=>intro j y h;exact absurd h (Nat.not_lt_zero _)
 | cons x xs ih =>
  intro j y h;cases j with
  | zero=>simp [Num.cs]
  | succ j =>
   have e:=ih j y (by simpa using h);have e4:∀i:Nat,(j+1)*4+i=(j*4+i)+4:=fun i=>by omega
   have e0:(j+1)*4=(j*4)+4:=by omega
   rw [List.set_cons_succ,List.flatMap_cons,List.flatMap_cons,←e];have hs:∀(l:List Value) (i:Nat) (u:Value),(x.cs++l).set (i+4) u=x.cs++l.set i u:=fun l i u=>by simp [Num.cs]
   rw [e4 1,e4 2,e4 3,e0,hs,hs,hs,hs]
theorem zH.put {W:World} {B g n c:Nat} {xs:List Num} (h:zH W B (.slice (some ⟨g,0,none⟩) n c) xs) (j:Nat) (hj:j<xs.length) (y:Num):zH ((((W.setCell ⟨g,j*4,none⟩ y.v).setCell ⟨g,j*4+1,none⟩ y.l).setCell ⟨g,j*4+2,none⟩ y.h).setCell ⟨g,j*4+3,none⟩ y.bad) B (.slice (some ⟨g,0,none⟩) n c) (xs.set j y):=by
 obtain rfl:n=xs.length:=zL h;unfold zH at h ⊢;have h4:=((((h.stored (j*4) y.v).1.stored (j*4+1) y.l).1.stored (j*4+2) y.h).1.stored (j*4+3) y.bad).1;rw [zjt xs j y hj] at h4;rw [List.length_set];exact h4
theorem zka {R:List Row} (h:(R.map Row.g).Nodup) {i q:Nat} {r s:Row} (hi:R[i]?=some r) (hq:R[q]?=some s) (hne:i≠q):r.g≠s.g:=fun e=>by
 have h1:(R.map Row.g)[i]?=some r.g:=by rw [List.getElem?_map,hi];rfl
 have h2:(R.map Row.g)[q]?=some s.g:=by rw [List.getElem?_map,hq];rfl
 obtain ⟨l1,e1⟩:=List.getElem?_eq_some_iff.1 h1;obtain ⟨l2,e2⟩:=List.getElem?_eq_some_iff.1 h2;exact hne ((List.getElem_inj h).1 (e1.trans (e.trans e2.symm)))
theorem qy.at_ {W:World} {B:Nat} {v:Value} {R:List Row} {k i:Nat} {r:Row} (h:qy W B v R k) (hi:R[i]?=some r):∃q cap,v=.slice (some ⟨q,0,none⟩) (R.length+k) cap∧W.cell? ⟨q,i,none⟩=some (.slice (some ⟨r.g,0,none⟩) r.xs.length r.cap)∧W.frozen? ⟨q,i,none⟩=false:=by
 have hlt:i<R.length:=(List.getElem?_eq_some_iff.1 hi).1;obtain ⟨q,cap,rfl,_,_,_⟩:=qk h.box (by omega);refine ⟨q,cap,rfl,?_,h.box.frozenAt i⟩;rw [h.box.cellAt i (by omega),List.getElem?_append_left (by simpa using hlt),List.getElem?_map,hi];rfl
theorem qy.num {W:World} {B:Nat} {v:Value} {R:List Row} {k i j:Nat} {r:Row} {x:Num} (h:qy W B v R k) (hi:R[i]?=some r) (hx:r.xs[j]?=some x) :
  W.cell? ⟨r.g,j*4,none⟩=some (.int .i64 x.v)∧W.cell? ⟨r.g,j*4+1,none⟩=some (.int .i64 x.l)∧W.cell? ⟨r.g,j*4+2,none⟩=some (.int .i64 x.h)∧W.cell? ⟨r.g,j*4+3,none⟩=some (.bool x.bad):=by
 have hn:=zH.nums (show zH W B (.slice (some ⟨r.g,0,none⟩) r.xs.length r.cap) r.xs from h.rows r (List.mem_of_getElem? hi));obtain ⟨b,o,e,hc⟩:=hn.2.2 (by have:=(List.getElem?_eq_some_iff.1 hx).1;omega);cases e;have:=hc j x hx
 simpa using this
theorem qy.frozen {W:World} {B:Nat} {v:Value} {R:List Row} {k i:Nat} {r:Row} (h:qy W B v R k) (hi:R[i]?=some r) (a:Nat):W.frozen? ⟨r.g,a,none⟩=false :=
 World.ownsRow.frozenAt (show W.ownsRow B 71 4 (.slice (some ⟨r.g,0,none⟩) r.xs.length r.cap) r.xs.length (r.xs.flatMap Num.cs) from h.rows r (List.mem_of_getElem? hi)) a
theorem Row.nums {W:World} {B:Nat} {r:Row} (h:zH W B r.v r.xs):zk W (some ⟨r.g,0,none⟩) r.xs.length r.cap r.xs:=zH.nums (show zH W B (.slice (some ⟨r.g,0,none⟩) r.xs.length r.cap) r.xs from h)
theorem zk.take {W:World} {g n c:Nat} {xs:List Num} (h:zk W (some ⟨g,0,none⟩) n c xs) (a:Nat) (ha:a≤n):zk W (some ⟨g,0,none⟩) a c (xs.take a) :=
 ⟨by rw [List.length_take,h.1];omega,by have:=h.2.1;omega,fun hn=>by
  obtain ⟨b,o,e,hc⟩:=h.2.2 (by omega)
  exact ⟨b,o,e,fun k x hx=>hc k x (by
   have hk:k<a:=by have:=(List.getElem?_eq_some_iff.1 hx).1;rw [List.length_take] at this;omega
   rwa [List.getElem?_take_of_lt hk] at hx)⟩⟩
theorem zk.drop {W:World} {g n c:Nat} {xs:List Num} (h:zk W (some ⟨g,0,none⟩) n c xs) (a:Nat) (ha:a≤n):zk W (some ⟨g,a*4,none⟩) (n-a) (c-a) (xs.drop a) :=
 ⟨by rw [List.length_drop,h.1],by have:=h.2.1;omega,fun hn=>by
  obtain ⟨b,o,e,hc⟩:=h.2.2 (by omega);cases e;refine ⟨g,a*4,rfl,fun k x hx=>?_⟩;rw [List.getElem?_drop] at hx;have:=hc _ _ hx;rw [Nat.add_mul] at this
  simpa using this⟩
end Go.Proofs.YtcoiklclbljjeaaGreatDoor.L
