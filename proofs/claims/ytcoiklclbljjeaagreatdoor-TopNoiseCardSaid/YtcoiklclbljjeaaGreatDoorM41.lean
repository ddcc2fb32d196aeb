/- Lemmas of the card's proof. -/
import Derived.Test.YtcoiklclbljjeaaGreatDoorM40
set_option linter.unusedVariables false
set_option linter.unusedSimpArgs false
set_option maxRecDepth 100000
set_option maxHeartbeats 16000000
namespace Go.Proofs.YtcoiklclbljjeaaGreatDoor.L
open Go.RowKit
section
attribute [local go_sem] Oper.semAt_some
theorem zeR (h q:Int) (a:Option Addr) (n c:Nat) (b:Option Addr) (m d:Nat) (a':Option Addr) (n' c':Nat) (b':Option Addr) (m' d':Nat) (X D:List Int) (hX:X.length≤9223372036854775807) (hD:D.length≤9223372036854775807) (w:World) (h1:zU w a n c X) (h2:zU w b m d D) (h3:zU w a' n' c' X) (h4:zU w b' m' d' D) :
  Calls Tryz.prog 28 #[.agg #[h,q,.slice a n c,.slice b m d],.agg #[h,q,.slice a' n' c', .slice b' m' d']] w fun e w'=>e=.returned (.bool true)∧Below w.heap.size w w':=by
 have hu:=Tryz.underlying49;have hn:n≤9223372036854775807:=by rw [←h1.1];exact hX
 have hm:m≤9223372036854775807:=by rw [←h2.1];exact hD
 have H1:=za h1;have H2:=za h2;have H3:=za h3;have H4:=za h4;have EQ:=za (fun (A A':Option Addr) (n c n' c':Nat) (xs:List Int) hn (w:World) hx hy=>Vl A A' n c n' c' xs hn w hx hy);clear h1 h2 h3 h4 hX hD;go_enter Tryz.func28,Tryz.ntmps28;go_wp2_with fail;obtain ⟨W0,hW0⟩:=zc (((w.alloc (.cells #[h,q,.slice a n c,.slice b m d] 49)).alloc (.cells #[h,q,.slice a' n' c', .slice b' m' d'] 49)))
 obtain ⟨bx,b0,hsz⟩:=y7 hW0;rw [hW0];clear hW0;have F:=za (((((Off.start b0 hsz).argI b0 (H1.out)).argI b0 (H2.out)).argI b0 (H3.out)).argI b0 (H4.out));have BX:=za bx;clear bx b0 hsz;obtain ⟨g,hg⟩:=zc (w.heap.size);rw [hg] at F BX
 try simp only [hg]
 try go_wp2_with fail
 have x0:=(BX.out.1).cell 0;have x1:=(BX.out.1).cell 1;have x2:=(BX.out.1).cell 2;have x3:=(BX.out.1).cell 3;have y0:=(BX.out.2.1).cell 0;have y1:=(BX.out.2.1).cell 1;have y2:=(BX.out.2.1).cell 2;have y3:=(BX.out.2.1).cell 3;go_wp2_with fail;refine (EQ.out _ _ _ _ _ _ X hn _ F.out.out.1.1.1.2 F.out.out.1.2).mono ?_;rintro e w1 ⟨rfl,hb⟩;replace F:=zd F hb;replace BX:=ze BX hb;clear hb x0 x1 x2 x3 y0 y1 y2 y3
 have x0:=(BX.out.1).cell 0;have x1:=(BX.out.1).cell 1;have x2:=(BX.out.1).cell 2;have x3:=(BX.out.1).cell 3;have y0:=(BX.out.2.1).cell 0;have y1:=(BX.out.2.1).cell 1;have y2:=(BX.out.2.1).cell 2;have y3:=(BX.out.2.1).cell 3;go_wp2_with fail;refine (EQ.out _ _ _ _ _ _ D hm _ F.out.out.1.1.2 F.out.out.2).mono ?_;rintro e w2 ⟨rfl,hb⟩;replace F:=zd F hb;replace BX:=ze BX hb;clear hb x0 x1 x2 x3 y0 y1 y2 y3
 go_wp2_with fail;go_ret;exact ⟨rfl,by first | exact F.out.out.1.1.1.1|(rw [hg];exact F.out.out.1.1.1.1)⟩
structure NS where
 A:Option Addr
 n:Nat
 c:Nat
 xs:List Num
def zj2 (W:World) (g:Nat) (L:List NS):Prop:=∀i q,L[i]?=some q→W.cell? ⟨g,i,none⟩=some (.slice q.A q.n q.c)∧zk W q.A q.n q.c q.xs∧q.n≤1000
theorem zj2.below {W W':World} {g:Nat} {L:List NS} (h:zj2 W g L) (hb:Below W.heap.size W W'):zj2 W' g L:=fun i q hq=>⟨zR hb _ _ _ (h i q hq).1,(h i q hq).2.1.below hb,(h i q hq).2.2⟩
theorem zhD (v l h:Int) (b:Bool) (w:World):(binOp .neq 71 (.agg #[v,l,h,b]) (.agg #[v,l,h,b])).run Tryz.prog w=.ok (.bool false) w:=by
 rw [run_neq_struct,zjx 9998 v l h b w];rfl
theorem zhE (a b c e:Num) (w:World):(binOp .eql 74 (.agg (a.cs++b.cs++c.cs++e.cs).toArray) (.agg (a.cs++b.cs++c.cs++e.cs).toArray)).run Tryz.prog w=.ok (.bool true) w:=by
 rw [run_eql_struct,zlw 9996 a b c e w];rfl
theorem zfW (av al ah bv bl bh cv cl ch dv dl dh:Int) (ab bb cb db:Bool) (w:World):(binOp .eql 74 (.agg #[av,al,ah,ab,bv,bl,bh,bb,cv,cl,ch,cb,dv,dl,dh,db]) (.agg #[av,al,ah,ab,bv,bl,bh,bb,cv,cl,ch,cb,dv,dl,dh,db])).run Tryz.prog w=.ok (.bool true) w:=zhE ⟨av,al,ah,ab⟩ ⟨bv,bl,bh,bb⟩ ⟨cv,cl,ch,cb⟩ ⟨dv,dl,dh,db⟩ w
attribute [local go_sem high] zhD zfW
theorem zgg (n:Nat) (A0:Option Addr) (c0:Nat) (A1:Option Addr) (m1 c1:Nat) (B0:Option Addr) (d0:Nat) (B1:Option Addr) (k1 d1:Nat) (A0':Option Addr) (c0':Nat) (A1':Option Addr) (c1':Nat) (B0':Option Addr) (d0':Nat) (B1':Option Addr) (d1':Nat) (x p y s:List Num) (a b c d:Num) (hn:n≤1000) (hm:m1≤1000) (hk:k1≤1000) (w:World)
  (h0:zk w A0 n c0 x) (h1:zk w A1 m1 c1 p) (h2:zk w B0 n d0 y) (h3:zk w B1 k1 d1 s) (h4:zk w A0' n c0' x) (h5:zk w A1' m1 c1' p) (h6:zk w B0' n d0' y) (h7:zk w B1' k1 d1' s) :
  Calls Tryz.prog 29 #[j6 n A0 c0 A1 m1 c1 B0 d0 B1 k1 d1 a b c d,j6 n A0' c0' A1' m1 c1' B0' d0' B1' k1 d1' a b c d] w fun e w'=>e=.returned (.bool true)∧Below w.heap.size w w':=by
 have hu:=Tryz.underlying76;have hu1:=Tryz.underlying67;have hu2:=Tryz.underlying69;have hu3:=Tryz.underlying65;have hu4:=Tryz.underlying71;have hu5:=Tryz.underlying131
 have L1:=za (show ∀W g,At W g 63 #[.slice A0 n c0,.slice A1 m1 c1,.slice B0 n d0,.slice B1 k1 d1]→Below w.heap.size w W→zj2 W g [⟨A0,n,c0,x⟩,⟨A1,m1,c1,p⟩,⟨B0,n,d0,y⟩,⟨B1,k1,d1,s⟩] from fun W g hA hb i q hq=>by
  match i,hq with
  | 0,hq=>cases hq;exact ⟨hA.cell 0,h0.below hb,hn⟩
  | 1,hq=>cases hq;exact ⟨hA.cell 1,h1.below hb,hm⟩
  | 2,hq=>cases hq;exact ⟨hA.cell 2,h2.below hb,hn⟩
  | 3,hq=>cases hq;exact ⟨hA.cell 3,h3.below hb,hk⟩
  | i+4,hq=>simp at hq)
 have L2:=za (show ∀W g,At W g 63 #[.slice A0' n c0', .slice A1' m1 c1', .slice B0' n d0', .slice B1' k1 d1']→Below w.heap.size w W→zj2 W g [⟨A0', n,c0', x⟩,⟨A1', m1,c1', p⟩,⟨B0', n,d0', y⟩,⟨B1', k1,d1', s⟩] from fun W g hA hb i q hq=>by
  match i,hq with
  | 0,hq=>cases hq;exact ⟨hA.cell 0,h4.below hb,hn⟩
  | 1,hq=>cases hq;exact ⟨hA.cell 1,h5.below hb,hm⟩
  | 2,hq=>cases hq;exact ⟨hA.cell 2,h6.below hb,hn⟩
  | 3,hq=>cases hq;exact ⟨hA.cell 3,h7.below hb,hk⟩
  | i+4,hq=>simp at hq)
 have LQ:=za (show ∀(i:Nat) (q:NS),([⟨A0,n,c0,x⟩,⟨A1,m1,c1,p⟩,⟨B0,n,d0,y⟩,⟨B1,k1,d1,s⟩]:List NS)[i]?=some q→∃(A:Option Addr) (c:Nat),([⟨A0', n,c0', x⟩,⟨A1', m1,c1', p⟩,⟨B0', n,d0', y⟩,⟨B1', k1,d1', s⟩]:List NS)[i]?=some (⟨A,q.n,c,q.xs⟩:NS) from fun i q hq=>by
  match i,hq with
  | 0,hq=>cases hq;exact ⟨_,_,rfl⟩
  | 1,hq=>cases hq;exact ⟨_,_,rfl⟩
  | 2,hq=>cases hq;exact ⟨_,_,rfl⟩
  | 3,hq=>cases hq;exact ⟨_,_,rfl⟩
  | i+4,hq=>simp at hq)
 clear h0 h1 h2 h3 h4 h5 h6 h7 hn hm hk;obtain ⟨av,al,ah,ab⟩:=a;obtain ⟨bv,bl,bh,bb⟩:=b;obtain ⟨cv,cl,ch,cb⟩:=c;obtain ⟨dv,dl,dh,db⟩:=d;unfold j6;dsimp only;go_enter Tryz.func29,Tryz.ntmps29;go_wp2_with (first | (show wpList _ _ _ (⟨some 2,.box 76 _,_,_,_,none⟩::_) _ _;refine qX rfl 76 _ rfl _ rfl ?_;intro W8 hW8;have b8:=At.of_new hW8;have z8:=Zr hW8)|(show wpList _ _ _ (⟨some 3,.box 76 _,_,_,_,none⟩::_) _ _;refine qX rfl 76 _ rfl _ rfl ?_;intro W9 hW9;have b9:=At.of_new hW9;have z9:=Zr hW9;replace b8:=b8.below z9;have p0:=b8.cell 0;have p3:=b8.cell 3;have p4:=b8.cell 4;have p7:=b8.cell 7;have q0:=(b9.alloc (.cells #[.slice A0 n c0,.slice A1 m1 c1,.slice B0 n d0,.slice B1 k1 d1] 63)).cell 0;have q3:=(b9.alloc (.cells #[.slice A0 n c0,.slice A1 m1 c1,.slice B0 n d0,.slice B1 k1 d1] 63)).cell 3;have q4:=(b9.alloc (.cells #[.slice A0 n c0,.slice A1 m1 c1,.slice B0 n d0,.slice B1 k1 d1] 63)).cell 4;have q7:=(b9.alloc (.cells #[.slice A0 n c0,.slice A1 m1 c1,.slice B0 n d0,.slice B1 k1 d1] 63)).cell 7))
 clear p0 p3 p4 p7 q0 q3 q4 q7 hW8 hW9;obtain ⟨V,hV⟩:=zc ((W9.alloc (.cells #[.slice A0 n c0,.slice A1 m1 c1,.slice B0 n d0,.slice B1 k1 d1] 63)).alloc (.cells #[.slice A0' n c0', .slice A1' m1 c1', .slice B0' n d0', .slice B1' k1 d1'] 63));have v1:At V W9.heap.size 63 #[.slice A0 n c0,.slice A1 m1 c1,.slice B0 n d0,.slice B1 k1 d1]:=by rw [←hV];exact (At.new W9 63 _).alloc _
 have v2:At V (W9.heap.size+1) 63 #[.slice A0' n c0', .slice A1' m1 c1', .slice B0' n d0', .slice B1' k1 d1']:=by rw [←hV];exact At.new' (by simp)
 have zb:Below W9.heap.size W9 V:=by rw [←hV];exact zg (zg (Below.refl _ W9) _) _
 try simp only [World.size_alloc]
 rw [hV];have z0:Below w.heap.size w V:=zi (zi z8 z9) zb;have K1:=za (L1.out V _ v1 z0);have K2:=za (L2.out V _ v2 z0);have P8:=za (b8.below zb);have P9:=za (b9.below zb);have Z0:=za z0;obtain ⟨g8,hg8⟩:∃q,w.heap.size=q:=⟨_,rfl⟩
 obtain ⟨g9,hg9⟩:∃q,W8.heap.size=q:=⟨_,rfl⟩
 obtain ⟨h9,hh9⟩:∃q,W9.heap.size=q:=⟨_,rfl⟩
 rw [hg8] at P8;rw [hg9] at P9;rw [hh9] at K1 K2
 try simp only [hg8,hg9,hh9]
 clear v1 v2 zb z0 z8 z9 b8 b9 hV L1 L2;obtain ⟨QA,hQA⟩:∃Q,([⟨A0,n,c0,x⟩,⟨A1,m1,c1,p⟩,⟨B0,n,d0,y⟩,⟨B1,k1,d1,s⟩]:List NS)=Q:=⟨_,rfl⟩
 obtain ⟨QB,hQB⟩:∃Q,([⟨A0', n,c0', x⟩,⟨A1', m1,c1', p⟩,⟨B0', n,d0', y⟩,⟨B1', k1,d1', s⟩]:List NS)=Q:=⟨_,rfl⟩
 have hl4:QA.length=4:=by rw [←hQA];rfl
 rw [hQA] at K1 LQ;rw [hQB] at K2 LQ;clear hQA hQB
 go_loopw [7,8,41,60] (fun _ _ i _ wr=>∃j:Nat,j≤4∧i=.int .i64 j∧Hid (Below V.heap.size V wr)) (fun _ _ i _ _=>4-(intOf i).toNat)
 case atStart=>exact ⟨0,by omega,rfl,za (Below.refl _ _)⟩
 case round =>
  obtain ⟨j,hj,rfl,HB⟩:=hrel
  by_cases hlt:j<4
  ·have hltI:(j:Int)<4:=by omega
   obtain ⟨q,hq⟩:∃q,QA[j]?=some q:=⟨_,List.getElem?_eq_getElem (by omega)⟩
   obtain ⟨A9,c9,hq'⟩:=LQ.out j q hq;obtain ⟨e1,e2,e3⟩:=(K1.out.below HB.out) j q hq;obtain ⟨f1,f2,f3⟩:=(K2.out.below HB.out) j _ hq';have N1:=za e2;have N2:=za f2;obtain ⟨qA,qn,qc,qx⟩:=q;dsimp only at e1 e3 f1 N1 N2;have lx:=N1.out.1;clear hq hq' e2 f2 f3;go_wp2_with fail
   go_quiet (fail)
   have hbd:Below wr.heap.size wr (wr.drewN nq):=⟨rfl,rfl,rfl,Nat.le_refl _,fun _ _=>rfl⟩
   obtain ⟨wd,hwd⟩:∃X,wr.drewN nq=X:=⟨_,rfl⟩
   rw [hwd] at hbd;rw [hwd];replace N1:=za (N1.out.below hbd);replace N2:=za (N2.out.below hbd);have HD:=za (zi HB.out hbd);have E1:=za (zR hbd _ _ _ e1);have F1:=za (zR hbd _ _ _ f1);replace e1:=E1.out;replace f1:=F1.out;clear hbd hwd;go_wp2_with fail
   go_loopw [8,60] (fun _ i wk=>∃k:Nat,k≤qn∧i=.int .i64 k∧Hid (Below wd.heap.size wd wk)) (fun _ i _=>qn-(intOf i).toNat)
   case atStart=>exact ⟨0,by omega,rfl,za (Below.refl _ _)⟩
   case round =>
    obtain ⟨k,hk,rfl,HC⟩:=hrel
    by_cases hkl:k<qn
    ·have hklI:(k:Int)<(qn:Int):=by omega
     obtain ⟨bq,oq,u,rfl,hu9,x0,x1,x2,x3⟩:=(N1.out.below HC.out).at_ (k:=k) hkl;obtain ⟨br,or,u', rfl,hu8,y0,y1,y2,y3⟩:=(N2.out.below HC.out).at_ (k:=k) hkl;obtain rfl:u=u':=Option.some.inj (hu9.symm.trans hu8);obtain ⟨uv,ul,uh,ub⟩:=u;have g1:=zR HC.out _ _ _ E1.out;have g2:=zR HC.out _ _ _ F1.out;have hkc:k<qc:=by have:=N1.out.2.1;omega
     have hkc':k<c9:=by have:=N2.out.2.1;omega
     dsimp only at x0 x1 x2 x3 y0 y1 y2 y3;clear hu9 hu8 e1 f1;go_wp2_with fail
     go_quiet (fail)
     have HC2:=za (HC.out.grown (row:=none) ⟨rfl,rfl,rfl,Nat.le_refl _,fun _ _ _=>rfl⟩ HC.out.size (fun r e=>by cases e):Below wd.heap.size wd (wr.drewN nq));go_wp2_with fail;go_roundw
     case rel=>exact ⟨k+1,by omega,by go_num,HC2⟩
     case measure=>simp [intOf];omega
    ·obtain rfl:qn=k:=by omega
     have HB3:=za (zi HD.out HC.out);go_wp2_with fail;go_roundw
     case rel=>exact ⟨j+1,by omega,by go_num,HB3⟩
     case measure=>simp [intOf];omega
  ·obtain rfl:j=4:=by omega
   have l1:=zgf (P8.out.below HB.out);have l2:=zgf (P9.out.below HB.out);have HBF:=za (zi Z0.out HB.out);go_wp2_with (first | (show wpList _ _ _ (⟨some 81,.load 74 _,_,_,_,none⟩::_) _ _;refine qg rfl 74 _ rfl _ _ _ rfl l1 ?_)|(show wpList _ _ _ (⟨some 83,.load 74 _,_,_,_,none⟩::_) _ _;refine qg rfl 74 _ rfl _ _ _ rfl l2 ?_))
   go_ret;exact ⟨rfl,by first | exact HBF.out|(rw [hg8];exact HBF.out)⟩
end
def Jn (l:List Int):List Int:=l.flatMap fun x=>jh x 8
theorem zdu (tl:List Int):∀(l:List Int) (i:Nat) (x:Int),l[i]?=some x→((Jn l++tl).take (8*i+8)).drop (8*i)=jh x 8
 | [],i,x,h=>by simp at h
 | y::l,0,x,h=>by
  simp at h;subst h;have e:Jn (y::l)++tl=jh y 8++(Jn l++tl):=by unfold Jn;rw [List.flatMap_cons,List.append_assoc]
  rw [e,List.take_append_of_le_length (by rw [jz];omega),List.take_of_length_le (by rw [jz];omega)];rfl
 | y::l,i+1,x,h=>by
  have h':l[i]?=some x:=by simpa using h
  have e:Jn (y::l)++tl=jh y 8++(Jn l++tl):=by unfold Jn;rw [List.flatMap_cons,List.append_assoc]
  rw [e,show 8*(i+1)+8=(jh y 8).length+(8*i+8) by rw [jz];omega,List.take_length_add_append,show 8*(i+1)=(jh y 8).length+8*i by rw [jz];omega,List.drop_length_add_append];exact zdu tl l i x h'
theorem zjM (k s n:Int) (l:List Int):y8 k s n l=[78,86,k%256,n%256]++(jh s 4++Jn l):=by unfold y8 Jn;rw [List.append_assoc]
theorem zgy (k s n:Int) (l:List Int):∃t,zK k s n l=[78,86,k%256,n%256]++(jh s 4++(Jn l++t)) :=
 ⟨jh (n32 (Qt (y8 k s n l))) 4,by
  show y8 k s n l++jh (n32 (Qt (y8 k s n l))) 4=_;generalize jh (n32 (Qt (y8 k s n l))) 4=T;rw [zjM,List.append_assoc,List.append_assoc]⟩
theorem zc1 (A X:List Int) (a i j:Nat) (h:A.length=a):((A++X).take (a+j)).drop (a+i)=(X.take j).drop i:=by
 subst h;rw [List.take_length_add_append,List.drop_length_add_append]
theorem zhh {k s n:Int} {l:List Int} (h:zQ k s n l=true) :
  yN (zK k s n l)=0∧(zK k s n l).getD 0 0=78∧(zK k s n l).getD 1 0=86∧(zK k s n l).getD 2 0=k∧ZW (zK k s n l)=s∧(zK k s n l).getD 3 0=n∧dL (zK k s n l)=l∧jL k n=l.length∧l.length≠0:=by
 obtain ⟨hn1,hn4,hs0,hs1,hF,hk⟩:=zX h
 have hm:jL k n=l.length∧l.length≠0:=by
  have h':=h;unfold zQ at h';simp only [Bool.and_eq_true,decide_eq_true_eq] at h';omega
 have hk3:1≤k∧k≤3:=by rcases hk with hk|hk|hk<;>omega
 have hkm:k%256=k:=by omega
 have hnm:n%256=n:=by omega
 have hlen:=vm k s n l;obtain ⟨t,ht⟩:=zgy k s n l;have g0:(zK k s n l).getD 0 0=78:=by rw [ht];rfl
 have g1:(zK k s n l).getD 1 0=86:=by rw [ht];rfl
 have g2:(zK k s n l).getD 2 0=k:=by rw [ht];show k%256=k;exact hkm
 have g3:(zK k s n l).getD 3 0=n:=by rw [ht];show n%256=n;exact hnm
 have hM:zaZ (zK k s n l)=l.length:=by unfold zaZ;rw [g2,g3];exact hm.1
 have hE:zfw (zK k s n l)=8*l.length+8:=by unfold zfw;rw [hM,Int.toNat_natCast]
 have hS:ZW (zK k s n l)=s:=by
  unfold ZW;rw [ht]
  have e:(([78,86,k%256,n%256]++(jh s 4++(Jn l++t))).take 8).drop 4=jh s 4:=by
   rw [show 8=([78,86,k%256,n%256]:List Int).length+4 from rfl,List.take_length_add_append,show 4=([78,86,k%256,n%256]:List Int).length from rfl,List.drop_left];rw [show ([78,86,k%256,n%256]:List Int).length=4 from rfl,List.take_append_of_le_length (by rw [jz];omega),List.take_of_length_le (by rw [jz];omega)]
  rw [e];exact zds hs0 (by omega)
 have hL:dL (zK k s n l)=l:=by
  unfold dL;rw [hM,Int.toNat_natCast];unfold dUp;apply List.ext_getElem?;intro i
  by_cases hi:i<l.length
  ·rw [List.getElem?_map,List.getElem?_range hi]
   have hx:l[i]?=some l[i]:=List.getElem?_eq_getElem hi;rw [hx,Option.map_some]
   congr 1
   rw [ht]
   have e:(([78,86,k%256,n%256]++(jh s 4++(Jn l++t))).take (8*i+16)).drop (8*i+8)=jh l[i] 8:=by
    rw [←List.append_assoc,show 8*i+16=8+(8*i+8) by omega,show 8*i+8=8+8*i by omega,zc1 _ _ 8 _ _ (by rw [List.length_append,jz];rfl),show 8+8*i=8*i+8 by omega];exact zdu t l i _ hx
   rw [e];have hf:=hF _ (List.getElem_mem hi);unfold inF at hf;simp only [Bool.and_eq_true,decide_eq_true_eq] at hf;exact zh1 (by omega) (by omega)
  ·rw [List.getElem?_eq_none (by simp;omega),List.getElem?_eq_none (by omega)]
 refine ⟨?_,g0,g1,g2,hS,g3,hL,hm.1,hm.2⟩
 have hbl:(y8 k s n l).length=8*l.length+8:=by
  have e:zK k s n l=y8 k s n l++jh (n32 (Qt (y8 k s n l))) 4:=rfl;rw [e,List.length_append,jz] at hlen;omega
 unfold yN;rw [if_neg (by omega),if_neg (by rw [g0];decide),if_neg (by rw [g1];decide),if_neg (by rw [hM];omega),if_neg (by rw [hE];omega),if_neg (by rw [hE];omega),hE,g2,g3,hS,hL];have e1:(zK k s n l).drop (8*l.length+8)=jh (n32 (Qt (y8 k s n l))) 4:=by rw [←hbl];exact List.drop_left
 have e2:(zK k s n l).take (8*l.length+8)=y8 k s n l:=by rw [←hbl];exact List.take_left
 rw [e1,e2,if_neg (by
  rw [zds (zi9 _) (zi8 _)];simp),if_pos h]
theorem zhC {k s n:Int} {l:List Int} (h:zQ k s n l=true) (r:List Int):yy (zK k s n l++r)=(zK k s n l).length:=by
 obtain ⟨_,g0,g1,g2,_,g3,_,hm,h0⟩:=zhh h;have hl:=vm k s n l
 have gd:∀i,i<4→(zK k s n l++r).getD i 0=(zK k s n l).getD i 0:=fun i hi=>by
  rw [List.getD_eq_getElem?_getD,List.getD_eq_getElem?_getD,List.getElem?_append_left (by omega)]
 unfold yy sizeOf;rw [if_neg (by rw [List.length_append];omega),gd 0 (by omega),gd 1 (by omega),gd 2 (by omega),gd 3 (by omega),g0,g1,g2,g3,if_pos ⟨rfl,rfl⟩,if_neg (by rw [hm];omega),hm,hl];omega
theorem zf3 {k s n:Int} {l:List Int} (h:zQ k s n l=true) (r:List Int):qD (zK k s n l++r)=zK k s n l::qD r:=by
 have hl:=vm k s n l;have hk:=zhC h r;have e1:(zK k s n l++r).take (yy (zK k s n l++r))=zK k s n l:=by rw [hk];exact List.take_left
 have e2:(zK k s n l++r).drop (yy (zK k s n l++r))=r:=by rw [hk];exact List.drop_left
 rw [zaP (by intro e;have:=congrArg List.length e;rw [List.length_append,List.length_nil] at this;omega),e1,e2];rw [e1,hk,(zhh h).1,List.length_append];omega
theorem ziW {x:Int} (hx:x≠78) (r:List Int):yy (x::r)=0:=by
 unfold yy sizeOf
 split
 ·rfl
 ·rw [if_neg (by show ¬(x=78∧_);omega)];rfl
theorem QU:∀(z r:List Int),(∀x∈z,x≠78)→qD (z++r)=qD r
 | [],r,_=>rfl
 | x::z,r,h=>by
  rw [List.cons_append,zaQ (by simp) (.inl (ziW (h x (by simp)) _))];exact QU z r (fun y hy=>h y (by simp [hy]))
def jg (z:List Int) (L:List FrR):List Int:=L.flatMap fun f=>z++zK f.k f.s f.n f.l
theorem zeY (z:List Int) (L:List FrR) (f:FrR):jg z (L++[f])=jg z L++z++zK f.k f.s f.n f.l:=by unfold jg;simp
def zcp (L:List FrR):List (List Int):=L.map fun f=>zK f.k f.s f.n f.l
theorem Qk (z:List Int) (hz:∀x∈z,x≠78):∀(L:List FrR) (r:List Int),L.all FrR.ok=true→qD (jg z L++r)=zcp L++qD r
 | [],r,_=>rfl
 | f::L,r,h=>by
  rw [List.all_cons,Bool.and_eq_true] at h;have e:jg z (f::L)++r=z++(zK f.k f.s f.n f.l++(jg z L++r)):=by unfold jg;rw [List.flatMap_cons];simp only [List.append_assoc]
  rw [e,QU z _ hz,zf3 h.1,Qk z hz L r h.2];rfl
theorem zdX (L:List FrR) (h:L.all FrR.ok=true):qD (yB L)=zcp L:=by
 have e:yB L=jg [] L++[]:=by unfold yB jg;simp
 rw [e,Qk [] (by simp) L [] h,YT,List.append_nil]
theorem zcP (z:List Int) (hz:∀x∈z,x≠78) (L:List FrR) (h:L.all FrR.ok=true):qD (jg z L++z)=zcp L:=by
 have e:qD z=[]:=by have:=QU z [] hz;rw [List.append_nil] at this;rw [this,YT]
 rw [Qk z hz L z h,e,List.append_nil]
theorem Xa1 {P:Prop} (h:P:=by
 rcases QT ep hj with ⟨rfl,rfl⟩|⟨rfl,rfl⟩|⟨rfl,rfl⟩|⟨rfl,rfl⟩
 ·have:=n0.low r o e hn;omega
 ·have:=n1.low r o e hn;omega
 ·have:=n2.low r o e hn;omega
 ·have:=n3.low r o e hn;omega) : P := h
section
theorem zD.row {G:List Nat} {V W W':World} {row:Option Nat} (h:zD G V W) (hg:W.grownBy W' row) (hr:∀r,row=some r→V.heap.size≤r):zD G V W' :=
 ⟨hg.os.trans h.os,hg.tape.trans h.tape,hg.output.trans h.output,Nat.le_trans h.size hg.size,fun k hk hG=>(hg.block k (Nat.lt_of_lt_of_le hk h.size) (fun e=>by have:=hr k e.symm;omega)).trans (h.block k hk hG)⟩
theorem qt.grown {W W':World} {A:Option Addr} {n c:Nat} {xs:List Int} {row:Option Nat} (h:qt W A n c xs) (hg:W.grownBy W' row) (hr:∀q o,A=some ⟨q,o,none⟩→0<n→some q≠row):qt W' A n c xs :=
 ⟨h.1,h.2.1,fun hn=>by
  obtain ⟨b,o,e,hc⟩:=h.2.2 hn
  exact ⟨b,o,e,fun i x hx=>by
   have hv:=hc i x hx;rw [jb (hg.block b (World.block_lt_of_cell? W ⟨b,o+i,none⟩ hv) (hr b o e hn))];exact hv⟩⟩
theorem yF.touch {G:List Nat} {W W':World} {B:Nat} {v:Value} {xs:List Int} (h:yF W B v xs) (k:zD G W W') (hG:∀q,v.ownBlock=some q→q∉G):yF W' B v xs:=by
 refine ⟨h.1,?_⟩;rcases h.2 with h0|⟨g,cap,cur,e,hg,hb,r⟩
 ·exact .inl h0
 ·exact .inr ⟨g,cap,cur,e,hg,(k.block g (Array.getElem?_eq_some_iff.1 hb).1 (hG g (by rw [e];rfl))).trans hb,r⟩
theorem zj8 {n:Nat} {A0:Option Addr} {c0:Nat} {A1:Option Addr} {m1 c1:Nat} {B0:Option Addr} {d0:Nat} {B1:Option Addr} {k1 d1:Nat} {a b c d:Num} {pc:Array Value} (e:Value.agg pc=j6 n A0 c0 A1 m1 c1 B0 d0 B1 k1 d1 a b c d):pc[0]?=some (.slice A0 n c0)∧pc[3]?=some (.slice A1 m1 c1)∧pc[4]?=some (.slice B0 n d0)∧pc[7]?=some (.slice B1 k1 d1):=by
 unfold j6 at e;injection e with e;subst e;exact ⟨rfl,rfl,rfl,rfl⟩
section
variable {E r:Nat} {bd:Int} {x:ES} {W W':World}
theorem ApE.same (h:ApE E r W) (hE:W'.heap[E]?=W.heap[E]?):ApE E r W':=fun i A n c hc=>h i A n c (by rw [←jb hE];exact hc)
theorem ApE.off {on:Bool} {pn ps m st:Int} (hA:At W E 98 (qU on pn ps ZPC m st bd)):ApE E r W:=fun i A n c hc hn o e=>by
 rw [hA.cell] at hc;obtain ⟨j,rfl,hj⟩:=zat rfl hc;obtain ⟨A0,c0,A1,m1,c1,B0,d0,B1,k1,d1,ep,n0,n1,n2,n3,_⟩:=Qr.zero W 0;have h0:=n0.1;have h1:=n1.1;have h3:=n3.1;simp [Jt] at h0 h1 h3;rcases QT ep hj with ⟨rfl,rfl⟩|⟨rfl,rfl⟩|⟨rfl,rfl⟩|⟨rfl,rfl⟩
 ·simp [Jt] at hn
 ·omega
 ·simp [Jt] at hn
 ·omega
theorem ApE.new (h:jY E bd x W) (hr:W.heap.size≤r):ApE E r W:=by
 obtain ⟨pc,hp,hA,hO,hZ⟩:=h;intro i A n c hc hn o e;rw [hA.cell] at hc;obtain ⟨j,rfl,hj⟩:=zat hp hc;cases ho:x.on with
 | true =>
  obtain ⟨_,A0,c0,A1,m1,c1,B0,d0,B1,k1,d1,ep,n0,n1,n2,n3,_⟩:=hO ho;exact Xa1
 | false =>
  rw [hZ ho] at hj;obtain ⟨A0,c0,A1,m1,c1,B0,d0,B1,k1,d1,ep,n0,n1,n2,n3,_⟩:=Qr.zero W 0;exact Xa1
theorem jY.same (h:jY E bd x W) (hE:W'.heap[E]?=W.heap[E]?) (hk:∀q,q<W.heap.size→W'.heap[q]?=W.heap[q]?∨ApE E q W):jY E bd x W':=by
 obtain ⟨pc,hp,hA,hO,hZ⟩:=h;refine ⟨pc,hp,hE.trans hA,fun ho=>?_,hZ⟩;obtain ⟨hok,A0,c0,A1,m1,c1,B0,d0,B1,k1,d1,ep,n0,n1,n2,n3,f⟩:=hO ho
 have key:∀(i:Nat) (A:Option Addr) (m c:Nat) (xs:List Num),pc[i]?=some (.slice A m c)→i<24→zk W A m c xs→zk W' A m c xs:=fun i A m c xs hi hl hn=>⟨hn.1,hn.2.1,fun h0=>by
  obtain ⟨b,o,e,hc⟩:=hn.2.2 h0;have hb:=hn.low b o e h0;have hs:W'.heap[b]?=W.heap[b]?:=(hk b hb).resolve_right fun ha=>ha (3+i) A m c (by rw [hA.cell,vH hp i hl];exact hi) h0 o e;exact ⟨b,o,e,fun j y hy=>by simp only [jb hs];exact hc j y hy⟩⟩
 obtain ⟨e0,e1,e2,e3⟩:=zj8 ep;exact ⟨hok,A0,c0,A1,m1,c1,B0,d0,B1,k1,d1,ep,key 0 _ _ _ _ e0 (by decide) n0,key 3 _ _ _ _ e1 (by decide) n1,key 4 _ _ _ _ e2 (by decide) n2,key 7 _ _ _ _ e3 (by decide) n3,f⟩
theorem jY.app {row:Option Nat} (h:jY E bd x W) (hg:W.grownBy W' row) (hr:∀r,row=some r→E≠r∧ApE E r W):jY E bd x W':=by
 have hl:E<W.heap.size:=by obtain ⟨_,_,a,_⟩:=h;exact a.lt
 refine h.same (hg.block E hl fun e=>(hr E e.symm).1 rfl) fun q hq=>?_
 by_cases e:row=some q
 ·exact .inr (hr q e).2
 ·exact .inl (hg.block q hq fun e'=>e e'.symm)
theorem jY.touch {G:List Nat} (h:jY E bd x W) (k:zD G W W') (hE:E∉G) (hG:∀r,r∈G→ApE E r W):jY E bd x W':=by
 have hl:E<W.heap.size:=by obtain ⟨_,_,a,_⟩:=h;exact a.lt
 refine h.same (k.block E hl hE) fun q hq=>?_
 by_cases e:q∈G
 ·exact .inr (hG q e)
 ·exact .inl (k.block q hq e)
def qE (x:ES):PR:=if x.on=true then x.r else Jt
theorem jY.q (h:jY E bd x W) (hk:OkE x):∃pc:Array Value,pc.size=24∧At W E 98 (qU x.on x.pn x.ps pc x.m x.st bd)∧Qr W (E+1) (qE x) (.agg pc)∧(qE x).n≤4∧(qE x).p.length≤1000∧(qE x).s.length≤1000:=by
 obtain ⟨pc,hp,hA,hO,hZ⟩:=h;cases ho:x.on with
 | true =>
  have hq:qE x=x.r:=by unfold qE;rw [if_pos ho]
  have hr:=hk.pr ho;have h16:x.r.n*x.r.n≤4*4:=Nat.mul_le_mul hr.1 hr.1;rw [hq];exact ⟨pc,hp,by rw [←ho];exact hA,(hO ho).2,hr.1,by have:=hr.2.1.len;omega,by have:=hr.2.2.len;omega⟩
 | false =>
  have hq:qE x=Jt:=by unfold qE;rw [if_neg (by rw [ho];decide)]
  rw [hq];exact ⟨pc,hp,by rw [←ho];exact hA,by rw [hZ ho];exact Qr.zero W _,by decide,by decide,by decide⟩
end
theorem StK.app {E:Nat} {bd:Int} {x0:ES} {b1 b2:Nat} {A:Option Addr} {n c:Nat} {xs:List Int} {s:List (List Int)} {W W':World} {row:Option Nat} (h:StK E bd x0 b1 b2 A n c xs s W) (hg:W.grownBy W' row)
  (hr:∀r,row=some r→0<r∧E≠r∧b1≠r∧b2≠r∧(∀b o,A=some ⟨b,o,none⟩→0<n→b≠r)∧ApE E r W):StK E bd x0 b1 b2 A n c xs s W' :=
 ⟨fun i hi=>by
  have hv:=h.1 i hi;rw [jb (hg.block 0 (World.block_lt_of_cell? W ⟨0,i,none⟩ hv) (fun e=>by have:=(hr 0 e.symm).1;omega))];exact hv,h.2.1.grown hg (fun e=>(hr b1 e.symm).2.2.1 rfl),h.2.2.1.grown hg (fun e=>(hr b2 e.symm).2.2.2.1 rfl),h.2.2.2.1.grown hg (fun q o e hn e'=>(hr q e'.symm).2.2.2.2.1 q o e hn rfl),h.2.2.2.2.app hg (fun r e=>⟨(hr r e).2.1,(hr r e).2.2.2.2.2⟩)⟩
def JF (x:ES) (s:List (List Int)):List zeA:=(List.range s.length).map fun i=>zaO (yk x (s.take i)) (s.getD i [])
theorem zaf (x:ES) (s:List (List Int)):(JF x s).length=s.length:=by unfold JF;simp
theorem zbS (x:ES) (s:List (List Int)) (ys:List Int):JF x (s++[ys])=JF x s++[zaO (yk x s) ys]:=by
 unfold JF;rw [List.length_append,List.length_singleton,List.range_succ,List.map_append]
 congr 1
 ·refine List.map_congr_left fun i hi=>?_
  have hl:i<s.length:=List.mem_range.1 hi;rw [List.take_append_of_le_length (by omega),List.getD_eq_getElem?_getD,List.getD_eq_getElem?_getD,List.getElem?_append_left hl]
 ·simp
theorem YY (z:List Int):∀L:List FrR,L.all FrR.ok=true→(jg z L).length≤(268+z.length)*L.length
 | [],_=>Nat.le_refl _
 | f::L,h=>by
  rw [List.all_cons,Bool.and_eq_true] at h;have h1:=YY z L h.2;have h2:=zd0 h.1;have e:jg z (f::L)=(z++zK f.k f.s f.n f.l)++jg z L:=rfl;rw [e,List.length_append,List.length_append,vm,List.length_cons,Nat.mul_add];omega
theorem zg7 (k s n:Int) (l:List Int):IsB (zK k s n l):=fun x hx=>by
 rcases List.mem_append.1 hx with h|h
 ·exact zfh _ _ _ _ x h
 ·exact zea _ _ x h
theorem zhY {z:List Int} (hz:IsB z) (L:List FrR):IsB (jg z L):=fun x hx=>by
 obtain ⟨f,_,h⟩:=List.mem_flatMap.1 hx;rcases List.mem_append.1 h with h|h
 ·exact hz x h
 ·exact zg7 _ _ _ _ x h
theorem zhZ (L:List FrR):IsB (yB L):=fun x hx=>by
 obtain ⟨f,_,h⟩:=List.mem_flatMap.1 hx;exact zg7 _ _ _ _ x h
theorem qt.low {W:World} {A:Option Addr} {n c:Nat} {xs:List Int} (h:qt W A n c xs) (q o:Nat) (e:A=some ⟨q,o,none⟩) (hn:0<n):q<W.heap.size:=by
 obtain ⟨b,o', x,e', _,h4⟩:=h.at_ (k:=0) hn;rw [e] at e';cases e';exact World.block_lt_of_cell? W ⟨q,o+0,none⟩ h4
theorem RV.ok.below {W W':World} {N:Nat} {x:RV} (h:x.ok W N) (hb:Below W.heap.size W W'):x.ok W' N:=⟨h.X.below hb,h.D.below hb,h.fa,h.fb,h.lX,h.lD⟩
theorem RV.ok.row {W W':World} {N:Nat} {x:RV} {row:Option Nat} (h:x.ok W N) (hg:W.grownBy W' row) (hr:∀r,row=some r→∃o:Obj,W.heap[r]?=some o∧o.isCells=false):x.ok W' N:=⟨h.X.keep (JQ hg hr),h.D.keep (JQ hg hr),h.fa,h.fb,h.lX,h.lD⟩
theorem JN {W W':World} {B C e z n:Nat} {v:Value} {xs:List Value} {o:Obj} (h:W.ownsRow B e z v n xs) (hg:(W.alloc o).grownBy W' v.ownBlock):KeepsFrom C (W.alloc o) W' :=
 ⟨hg.size,fun k o' _ ho hc=>(hg.block k (Array.getElem?_eq_some_iff.1 ho).1 (fun e'=>by
  rcases h.2 with ⟨rfl,_⟩|⟨g,cap,cur,rfl,_,hgb,_⟩
  ·cases e'
  ·have:k=g:=by simpa [Value.ownBlock] using e'
   subst this;rw [Below.heap_alloc W o k (Array.getElem?_eq_some_iff.1 hgb).1,hgb] at ho;cases ho;cases hc)).trans ho⟩
theorem Yv {o:Oper} {a:Act} {K:Act→World→Prop} {Q:Exit→Act→World→Prop} {w:World} (s x:Operand)
  (ho:o.op=.call { callee:=.builtin .append,args:=#[s,x],argTypes:=#[41,41] }) (B:Nat) (v:Value) (xs ys:List Int) (A:Option Addr) (n c:Nat) (hs:a.eval s=v) (hown:yF w B v xs)
  (hx:a.eval x=.slice A n c) (hA:A=none→c=0) (hy:qt w A n c ys) (hl:xs.length+n≤1000000) (hB:B≤w.heap.size)
  (h:∀v' w', yF w' B v' (xs++ys)→w.grownBy w' v.ownBlock→(v'.ownBlock=v.ownBlock∨v'.ownBlock=some w.heap.size)→K (a.put o.dst v') w'):o.wp Tryz.prog a w K Q:=by
 by_cases hn:0<n
 ·exact QK s x ho B v xs ys A n c hs hown hx hn hy hl hB h
 obtain rfl:n=0:=by omega
 obtain rfl:ys=[]:=List.eq_nil_of_length_eq_zero hy.1;obtain ⟨i0,hi,hz0,hz1,hz2⟩:=info_parts zgm;cases A with
 | none =>
  obtain rfl:=hA rfl;have hr:=run_append_owned_none (P:=Tryz.prog) (w:=w) B 41 o.type 5 i0 1 Tryz.underlying41 hi v xs.length (xs.map (.int .u8)) hown;unfold Oper.wp execOp;simp only [ho,resolve,invoke,builtin,Sem.run_bind,Sem.run_pure,Result.andThen_ok,List.map_toArray,List.map_cons,List.map_nil,hs,hx,hr];exact h v w (by rw [List.append_nil];exact hown) ⟨rfl,rfl,rfl,Nat.le_refl _,fun _ _ _=>rfl⟩ (.inl rfl)
 | some q =>
  obtain ⟨v', w', hr,h2,h3,_,hat⟩:=run_append_own_at (P:=Tryz.prog) w B 41 o.type 5 i0 (.int .u8 0) 1 1 Tryz.underlying41 hi hz0 hz1 hz2 rfl (by decide) v xs.length (xs.map (.int .u8)) hown q 0 c [] rfl
   (fun j u hj=>by simp at hj) (fun u hu=>by cases hu) (by unfold maxLen;omega) (by omega) hB
  unfold Oper.wp execOp;simp only [ho,resolve,invoke,builtin,Sem.run_bind,Sem.run_pure,Result.andThen_ok,List.map_toArray,List.map_cons,List.map_nil,hs,hx,hr];exact h v' w' (by rw [List.append_nil] at h2 ⊢;exact h2) h3 hat
theorem zlx (d:Nat) (a b c e:Int) (w:World):(Op.equalIn (d+2) 61 (.agg #[a,b,c,e]) (.agg #[a,b,c,e])).run Tryz.prog w=.ok true w :=
 zju Tryz.underlying61 (by kernel_rfl) (YH (by rfl) (by kernel_rfl) (by kernel_rfl) (zgx d a w) (YH (by rfl) (by kernel_rfl) (by kernel_rfl) (zgx d b w) (YH (by rfl) (by kernel_rfl) (by kernel_rfl) (zgx d c w) (YH (by rfl) (by kernel_rfl) (by kernel_rfl) (zgx d e w) zjv))))
theorem zhF (a b c e:Int) (w:World):(binOp .eql 61 (.agg #[a,b,c,e]) (.agg #[a,b,c,e])).run Tryz.prog w=.ok (.bool true) w:=by
 rw [run_eql_struct,zlx 9998 a b c e w];rfl
theorem zfc {w:World} {B B':Nat} {r:PR} {v v':Value} (h:Qr w B r v) (h':Qr w B' r v') (hn:r.n≤1000) (hp:r.p.length≤1000) (hs:r.s.length≤1000):Calls Tryz.prog 29 #[v,v'] w fun e w'=>e=.returned (.bool true)∧Below w.heap.size w w':=by
 obtain ⟨A0,c0,A1,m1,c1,B0,d0,B1,k1,d1,rfl,n0,n1,n2,n3,_⟩:=h;obtain ⟨A0', c0', A1', m1', c1', B0', d0', B1', k1', d1', rfl,n0', n1', n2', n3', _⟩:=h';obtain rfl:m1'=m1:=by rw [←n1.1,←n1'.1]
 obtain rfl:k1'=k1:=by rw [←n3.1,←n3'.1]
 exact zgg _ _ _ _ _ _ _ _ _ _ _ _ _ _ _ _ _ _ _ _ _ _ _ _ _ _ _ hn (by rw [←n1.1];exact hp) (by rw [←n3.1];exact hs) w n0 n1 n2 n3 n0' n1' n2' n3'
end
end Go.Proofs.YtcoiklclbljjeaaGreatDoor.L
