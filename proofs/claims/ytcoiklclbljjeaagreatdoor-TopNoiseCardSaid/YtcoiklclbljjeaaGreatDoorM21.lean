/- Lemmas of the card's proof. -/
import Derived.Test.YtcoiklclbljjeaaGreatDoorM20
set_option linter.unusedVariables false
set_option linter.unusedSimpArgs false
set_option maxRecDepth 100000
set_option maxHeartbeats 16000000
namespace Go.Proofs.YtcoiklclbljjeaaGreatDoor.L
open Go.RowKit
theorem Xbb {P:Prop} (h:P:=by
 intro y hy;unfold jh at hy;obtain ⟨i,_,rfl⟩:=List.mem_map.1 hy;unfold Vc;exact ⟨Int.emod_nonneg _ (by omega),Int.emod_lt_of_pos _ (by omega)⟩) : P := h
theorem Xbi {P:Prop} (h:P:=by
 intro t
 induction t with
 | nil=>rfl
 | cons y t ih=>rw [List.flatMap_cons,List.length_append,ih,jz,List.length_cons];omega) : P := h
section
attribute [local go_sem] Oper.semAt_some
theorem yF.new4 {W:World} {g B:Nat} {a b c d:Int} (h:At W g 5 #[.int .u8 a,.int .u8 b,.int .u8 c,.int .u8 d]) (hB:B≤g):yF W B (.slice (some ⟨g,0,none⟩) 4 4) [a,b,c,d] :=
 ⟨rfl,.inr ⟨g,4,_,rfl,hB,h,by show (4:Nat)≤4;omega,by unfold maxLen;omega,rfl,rfl⟩⟩
theorem za6.under {B:Nat} {v v':Value} {w0 W W':World} {xs ys:List Int} (h:za6 B v W xs v' W') (hO:yF W B v ys) (hb:Below B w0 W) (hB:B≤W.heap.size):Below B w0 W':=hb.grown h.2.1 hB (fun k hk=>(World.ownsRow.lt hO k hk).1)
theorem Zu {w:World} {B:Nat} {v:Value} {xs:List Int} (h:yF w B v xs):∃A c,v=.slice A xs.length c∧qt w A xs.length c xs:=by
 rcases h.2 with ⟨rfl,h0⟩|⟨g,cap,cur,rfl,_,hb,hc,_,hs,ht⟩
 ·refine ⟨none,0,by rw [h0],by rw [h0],by omega,by omega⟩
 ·refine ⟨_,_,rfl,rfl,hc,fun _=>⟨g,0,rfl,fun k x hk=>?_⟩⟩
  have e:(xs.map (Value.int .u8))[k]?=some (.int .u8 x):=by rw [List.getElem?_map,hk];rfl
  have hk2:k<xs.length:=(List.getElem?_eq_some_iff.1 hk).1;have e2:(List.take (xs.length*1) cur.toList)[k]?=some (.int .u8 x):=by rw [ht];exact e
  rw [List.getElem?_take_of_lt (by omega)] at e2;simp [World.cell?,hb]
  simpa using e2
theorem zhM {w:World} {B B':Nat} {v:Value} {xs:List Int} (h:yF w B v xs) (hB:B'≤B):yF w B' v xs:=by
 exact XaI
def y8 (k s n:Int) (l:List Int):List Int:=[78,86,k%256,n%256]++jh s 4++l.flatMap fun x=>jh x 8
def zK (k s n:Int) (l:List Int):List Int:=y8 k s n l++jh (n32 (Qt (y8 k s n l))) 4
theorem zea (x:Int) (k:Nat):IsB (jh x k):=by
 exact Xbb
theorem zfh (k s n:Int) (l:List Int):IsB (y8 k s n l):=by
 intro y hy;unfold y8 at hy;rcases List.mem_append.1 hy with hy|hy
 ·rcases List.mem_append.1 hy with hy|hy
  ·simp only [List.mem_cons,List.not_mem_nil,or_false] at hy
   rcases hy with rfl|rfl|rfl|rfl<;>omega
  ·exact zea _ _ y hy
 ·obtain ⟨x,_,hx⟩:=List.mem_flatMap.1 hy
  exact zea _ _ y hx
theorem zjE (k s n:Int) (l:List Int) (j:Nat) (h:l.length≤1000):([78,86,k%256,n%256]++jh s 4++(l.take j).flatMap fun x=>jh x 8).length≤100000:=by
 have e:∀t:List Int,(t.flatMap fun x=>jh x 8).length=t.length*8:=by
  exact Xbi
 rw [List.length_append,List.length_append,jz,e,List.length_take];simp only [List.length_cons,List.length_nil];omega
theorem VF (k s n:Int) (A:Option Addr) (m c:Nat) (l:List Int) (hm:m≤1000) (w:World) (hT:Tab w) (hx:zU w A m c l) (hok:zQ k s n l=true) :
  Calls Tryz.prog 13 #[qV k s n A m c] w fun e w'=>∃v,e=.returned (.tuple #[v,.int .i64 0])∧yF w' w.heap.size v (zK k s n l)∧Below w.heap.size w w':=by
 have HX:=za hx;have LX:=za hx.1;have hcap:=hx.2.1;have HT:=za hT;clear hx hT;have R:=za (fun W h=>Zd k s n A m c l (by omega) W h);rw [hok] at R
 have hs:0≤s∧s≤4294967295∧l.any (fun x=>!inF x)=false:=by
  unfold zQ at hok;simp only [Bool.and_eq_true,decide_eq_true_eq,Bool.not_eq_true'] at hok;exact ⟨hok.2.2.1,hok.2.2.2.1,hok.2.2.2.2⟩
 obtain ⟨hs0,hs1,hin⟩:=hs;have HIN:=za hin;clear hin hok;have hu:=Tryz.underlying47;unfold qV at R;unfold qV;go_enter Tryz.func13,Tryz.ntmps13;go_wp2_with fail;have A0:=za (At.new w 47 #[k,s,n,.slice A m c]);have B0:=za (zg (Below.refl w.heap.size w) (.cells #[k,s,n,.slice A m c] 47));obtain ⟨W0,hW0⟩:=zc ((w.alloc (.cells #[k,s,n,.slice A m c] 47)));have hWg:=za (show W0.heap.size=w.heap.size+1 by rw [←hW0];simp)
 rw [hW0] at A0 B0 ⊢;clear hW0;obtain ⟨g,hg⟩:=zc (w.heap.size);rw [hg] at A0 B0 hWg
 try simp only [hg]
 have A00:=za A0.out;obtain ⟨x0,x1,x2,x3⟩:=A0.out.four;have hsz:=hWg.out;go_wp2_with fail;refine (R.out W0 (HX.out.below (by rw [hg];exact B0.out))).mono ?_;rintro e w1 ⟨rfl,hb1⟩;replace A0:=za (A0.out.below hb1);have K1:=za hb1;clear x0 x1 x2 x3 hb1;obtain ⟨x0,x1,x2,x3⟩:=A0.out.four;have hsz1:=K1.out.size;have y1:=(A0.out.alloc (.cells #[.int .u8 78,.int .u8 86,.int .u8 (k%256),.int .u8 (n%256)] 5)).cell 1
 go_wp2_with fail;have O1:=za (yF.new4 (At.new w1 5 #[.int .u8 78,.int .u8 86,.int .u8 (k%256),.int .u8 (n%256)]) hsz1);have K2:=za (zg K1.out (.cells #[.int .u8 78,.int .u8 86,.int .u8 (k%256),.int .u8 (n%256)] 5));replace A0:=za (A0.out.alloc (.cells #[.int .u8 78,.int .u8 86,.int .u8 (k%256),.int .u8 (n%256)] 5));clear x0 x1 x2 x3 y1 K1;obtain ⟨W1,hW1⟩:=zc (w1.alloc (.cells #[.int .u8 78,.int .u8 86,.int .u8 (k%256),.int .u8 (n%256)] 5))
 rw [hW1] at O1 K2 A0 ⊢;clear hW1;have hsz2:=K2.out.size;refine (zan W0.heap.size _ _ s 4 (by omega) (by simp) W1 O1.out hsz2 (by omega) (by omega)).mono ?_;rintro e w2 ⟨v2,rfl,hG⟩;have K3:=za (hG.under O1.out K2.out hsz2);have O2:=za hG.1;clear hG K2 O1 hsz2;replace A0:=za ((show At W0 g 47 #[k,s,n,.slice A m c] from A00.out).below K3.out);obtain ⟨x0,x1,x2,x3⟩:=A0.out.four;have hsz3:=K3.out.size
 go_wp2_with fail;clear x0 x1 x2 x3
 go_loopw [4,6,23] (fun v _ i wr=>∃j:Nat,j≤m∧i=.int .i64 j∧Hid (yF wr W0.heap.size v ([78,86,k%256,n%256]++jh s 4++(l.take j).flatMap fun x=>jh x 8))∧Hid (Below W0.heap.size W0 wr)) (fun _ _ i _=>m-(intOf i).toNat)
 case atStart=>exact ⟨0,by omega,rfl,by simpa [Hid] using O2.out,K3⟩
 case round =>
  obtain ⟨j,hj,rfl,HO,HB⟩:=hrel;have hszr:=HB.out.size
  by_cases hlt:j<m
  ·obtain ⟨b,o,x,rfl,hxj,x0⟩:=((HX.out.below (by rw [hg];exact B0.out)).below HB.out).at_ (k:=j) hlt
   have hxi:inF x=true:=by
    have h:=HIN.out;rw [List.any_eq_false] at h
    simpa using h x (List.mem_of_getElem? hxj)
   have hxb:-1125899906842624≤x∧x≤1125899906842624:=by simpa [inF] using hxi
   obtain ⟨hxb0,hxb1⟩:=hxb;have HTK:=za (show ([78,86,k%256,n%256]++jh s 4++(l.take j).flatMap fun x=>jh x 8)++jh x 8=[78,86,k%256,n%256]++jh s 4++(l.take (j+1)).flatMap fun x=>jh x 8 by rw [jT hxj];simp);obtain ⟨L,hL⟩:=zc (([78,86,k%256,n%256]++jh s 4++(l.take j).flatMap fun x=>jh x 8));have HLL:=za (show L.length≤100000 by rw [←hL];exact zjE k s n l j (by rw [LX.out];omega))
   rw [hL] at HO HTK;clear hxj hxi hL;go_wp2_with fail;refine (zan W0.heap.size _ L x 8 (by omega) HLL.out wr HO.out hszr (by omega) (by omega)).mono ?_;rintro e w3 ⟨v3,rfl,hG⟩;have K4:=za (hG.under HO.out HB.out hszr);have O4:=za hG.1;rw [HTK.out] at O4;clear hG x0;go_wp2_with fail;go_roundw
   case rel=>exact ⟨j+1,by omega,by go_num,O4,K4⟩
   case measure=>simp [intOf];omega
  ·have e:l.take j=l:=List.take_of_length_le (by rw [LX.out];omega)
   rw [e] at HO;clear e;have HO':=za (show yF wr W0.heap.size _ (y8 k s n l) from HO.out);have HLL:=za (show (y8 k s n l).length≤100000 by have h:=zjE k s n l l.length (by rw [LX.out];omega);rw [List.take_length] at h;exact h);have HE:=za (show zK k s n l=y8 k s n l++jh (n32 (Qt (y8 k s n l))) 4 from rfl);have HISB:=za (zfh k s n l);obtain ⟨L,hL⟩:=zc (y8 k s n l);rw [hL] at HO' HLL HE HISB
   clear HO hL;obtain ⟨A1,c1,rfl,hby⟩:=Zu HO'.out;have S:=za (ziS A1 L.length c1 L wr ((HT.out.below (by rw [hg];exact B0.out)).below HB.out) hby HISB.out (by have:=HLL.out;omega));clear hby;obtain ⟨z,hz,hz0,hz1⟩:=YZ (Qt L);rw [←hz] at S HE;clear hz;go_wp2_with fail;refine S.out.mono ?_;rintro e w' ⟨rfl,rfl⟩;go_wp2_with fail;refine (zan W0.heap.size _ L z 4 (by omega) HLL.out wr HO'.out hszr (by omega) (by omega)).mono ?_
   rintro e w3 ⟨v3,rfl,hG⟩;have K4:=za (hG.under HO'.out HB.out hszr);have O4:=za hG.1;rw [←HE.out] at O4;clear hG;go_wp2_with fail
   go_ret2
   exact ⟨v3,rfl,zhM O4.out (by omega),by first | exact B0.out.trans (K4.out.mono (by omega))|(rw [hg];exact B0.out.trans (K4.out.mono (by omega)))⟩
theorem zbe (k s n:Int) (A:Option Addr) (m c:Nat) (l:List Int) (hm:m≤1000) (w:World) (hx:zU w A m c l) (hok:zQ k s n l=false) :
  Calls Tryz.prog 13 #[qV k s n A m c] w fun e w'=>e=.returned (.tuple #[.slice none 0 0,.int .i64 1])∧Below w.heap.size w w':=by
 have HX:=za hx;clear hx;have R:=za (fun W h=>Zd k s n A m c l (by omega) W h);rw [hok] at R;clear hok;have hu:=Tryz.underlying47;unfold qV at R;unfold qV;go_enter Tryz.func13,Tryz.ntmps13;go_wp2_with fail;have A0:=za (At.new w 47 #[k,s,n,.slice A m c]);have B0:=za (zg (Below.refl w.heap.size w) (.cells #[k,s,n,.slice A m c] 47));obtain ⟨W0,hW0⟩:=zc ((w.alloc (.cells #[k,s,n,.slice A m c] 47)))
 have hWg:=za (show W0.heap.size=w.heap.size+1 by rw [←hW0];simp);rw [hW0] at A0 B0 ⊢;clear hW0;obtain ⟨g,hg⟩:=zc (w.heap.size);rw [hg] at A0 B0 hWg
 try simp only [hg]
 obtain ⟨x0,x1,x2,x3⟩:=A0.out.four;have hsz:=hWg.out;go_wp2_with fail;refine (R.out W0 (HX.out.below (by rw [hg];exact B0.out))).mono ?_;rintro e w1 ⟨rfl,hb1⟩;have K1:=za hb1;clear x0 x1 x2 x3 hb1;go_wp2_with fail
 go_ret2
 exact ⟨rfl,by first | exact B0.out.trans (K1.out.mono (by omega))|(rw [hg];exact B0.out.trans (K1.out.mono (by omega)))⟩
end
theorem XaD {P:Prop} (h:P:=by
 obtain ⟨hl,hc,hx⟩:=h;refine ⟨by rw [List.length_drop,List.length_take];omega,by omega,fun hn=>⟨b,o+i,rfl,fun k x hk=>?_⟩⟩;obtain ⟨b', o', e,hx⟩:=hx (by omega);obtain ⟨rfl,rfl⟩:b=b'∧o=o':=by injection e with e;injection e with e1 e2;exact ⟨e1,e2⟩
 rw [List.getElem?_drop,List.getElem?_take] at hk
 split at hk
 ·have:=hx (i+k) x hk
  rwa [←Nat.add_assoc] at this
 ·exact absurd hk (by simp)) : P := h
theorem qt.part {w:World} {b o n c:Nat} {xs:List Int} (h:qt w (some ⟨b,o,none⟩) n c xs) (i j:Nat) (hij:i≤j) (hj:j≤n):qt w (some ⟨b,o+i,none⟩) (j-i) (c-i) ((xs.take j).drop i):=by
 exact XaD
theorem Va (A:Option Addr) (n c:Nat) (h:n<12) (w:World) :
  Calls Tryz.prog 39 #[.slice A n c] w fun e w'=>e=.returned (.tuple #[qV 0 0 0 none 0 0,.int .i64 2])∧Below w.heap.size w w':=by
 have hu:=Tryz.underlying47;unfold qV;go_enter Tryz.func39,Tryz.ntmps39;go_wp2_with fail;obtain ⟨d0,d1,d2,d3⟩:=(At.new w 47 #[.int .i64 0,.int .i64 0,.int .i64 0,.slice none 0 0]).four;exact bodyPost_ret (v:=.tuple #[.agg #[.int .i64 0,.int .i64 0,.int .i64 0,.slice none 0 0],.int .i64 2]) (by simp [results,Tryz.results39,go_sem,d0,d1,d2,d3]) rfl ⟨rfl,zg (Below.refl _ _) _⟩
theorem Xao {P:Prop} (h:P:=by
 go_wp2_with fail;have F9:=F.out.set4 (g:=g) (.inl (by omega)) (.int .i64 0) (.int .i64 0) (.int .i64 0) (.slice none 0 0);obtain ⟨d0,d1,d2,d3⟩:=((BX.out.1).set4 (.int .i64 0) (.int .i64 0) (.int .i64 0) (.slice none 0 0)).four;exact bodyPost_ret (v:=.tuple #[.agg #[.int .i64 0,.int .i64 0,.int .i64 0,.slice none 0 0],.int .i64 4]) (by simp [results,Tryz.results39,go_sem,d0,d1,d2,d3]) rfl (yP.no (by decide) E rfl (by rw [hg];exact F9.out))) : P := h
section
attribute [local go_sem] Oper.semAt_some
theorem zky (w:World):(Instr.alloc 47 true (.tuple #[])).run Tryz.prog w=.ok (.pointer (some ⟨w.heap.size,0,none⟩)) (w.alloc (.cells #[.int .i64 0,.int .i64 0,.int .i64 0,.slice none 0 0] 47)):=by
 have hu:=Tryz.underlying47;simp [Instr.alloc,go_sem,hu]
theorem zbC {o:Oper} {a:Act} {K:Act→World→Prop} {Q:Exit→Act→World→Prop} {w:World} (s x:Operand)
  (ho:o.op=.call { callee:=.builtin .append,args:=#[s,x],argTypes:=#[22,22] }) (B:Nat) (v:Value) (xs:List Int) (y:Int) (g:Nat) (hs:a.eval s=v) (hown:qH w B v xs)
  (hx:a.eval x=.slice (some ⟨g,0,none⟩) 1 1) (hy:At w g 3 #[.int .i64 y]) (hl:xs.length≤1000) (hB:B≤w.heap.size)
  (h:∀g' c w', qH w' B (.slice (some ⟨g', 0,none⟩) (xs.length+1) c) (xs++[y])→w.grownBy w' v.ownBlock→(v.ownBlock=some g'∨g'=w.heap.size)→B≤g'→K (a.put o.dst (.slice (some ⟨g', 0,none⟩) (xs.length+1) c)) w'):o.wp Tryz.prog a w K Q:=by
 obtain ⟨i0,hi,hz0,hz1,hz2⟩:=info_parts zgn
 obtain ⟨v', w', hr,h2,h3,_,hat⟩:=run_append_own_at (P:=Tryz.prog) w B 22 o.type 3 i0 (.int .i64 0) 1 8 Tryz.underlying22 hi hz0 hz1 hz2 rfl (by decide) v xs.length (xs.map (.int .i64)) hown ⟨g,0,none⟩ 1 1 [.int .i64 y] rfl
  (fun j u hj=>by
   match j,hj with
   | 0,hj=>simp at hj;subst hj;exact hy.cell 0
   | j+1,hj=>simp at hj) (fun u hu=>by simp at hu;subst hu;rfl) (by unfold maxLen;omega) (by omega) hB
 have e:xs.map (Value.int .i64)++[.int .i64 y]=(xs++[y]).map (.int .i64):=by simp
 rw [e] at h2;obtain ⟨g', cap,rfl,hg,hlt,hc⟩:=qk h2 (by omega);unfold Oper.wp execOp;simp only [ho,resolve,invoke,builtin,Sem.run_bind,Sem.run_pure,Result.andThen_ok,List.map_toArray,List.map_cons,List.map_nil,hs,hx,hr];refine h g' cap w' (by unfold qH;simpa using h2) h3 ?_ hg;exact XaO
theorem vu {w:World} {B:Nat} {v:Value} {xs:List Int} (h:qH w B v xs):∃A c,v=.slice A xs.length c:=by
 rcases h.2 with ⟨rfl,h0⟩|⟨g,cap,cur,rfl,_⟩
 ·exact ⟨_,_,by rw [h0]⟩
 ·exact ⟨_,_,rfl⟩
theorem jy {w:World} {B n c:Nat} {A:Option Addr} {xs:List Int} (h:qH w B (.slice A n c) xs):∀b o,A=some ⟨b,o,none⟩→B≤b:=fun b o e=>by subst e;exact (World.ownsRow.lt h b rfl).1
theorem zi6 {w:World} {B q:Nat} {v:Value} {xs:List Int} (h:qH w B v xs) (hq:q<B):some q≠v.ownBlock:=fun e=>by have:=(World.ownsRow.lt h q e.symm).1;omega
def zaZ (xs:List Int):Int:=jL (xs.getD 2 0) (xs.getD 3 0)
def ZW (xs:List Int):Int:=VE ((xs.take 8).drop 4)
def dUp (xs:List Int) (j:Nat):List Int:=(List.range j).map fun i=>VE ((xs.take (8*i+16)).drop (8*i+8))
def dL (xs:List Int):List Int:=dUp xs (zaZ xs).toNat
def zfw (xs:List Int):Nat:=8*(zaZ xs).toNat+8
def yN (xs:List Int):Int :=
 if xs.length<12 then 2 else if ¬xs.getD 0 0=78 then 4 else if ¬xs.getD 1 0=86 then 4 else if zaZ xs=0 then 4 else if xs.length<zfw xs+4 then 2 else if zfw xs+4<xs.length then 5
 else if ¬VE (xs.drop (zfw xs))=n32 (Qt (xs.take (zfw xs))) then 6 else if zQ (xs.getD 2 0) (ZW xs) (xs.getD 3 0) (dL xs)=true then 0 else 3
theorem zjI (xs:List Int) (j:Nat):dUp xs (j+1)=dUp xs j++[VE ((xs.take (8*j+16)).drop (8*j+8))]:=by unfold dUp;rw [List.range_succ];simp
theorem zet (xs:List Int) (j:Nat):(dUp xs j).length=j:=by simp [dUp]
def yP (xs:List Int) (w:World) (e:Ending) (w':World):Prop :=
 (yN xs≠0∧e=.returned (.tuple #[qV 0 0 0 none 0 0,.int .i64 (yN xs)])∧Below w.heap.size w w') ∨
 (yN xs=0∧∃A m c,e=.returned (.tuple #[qV (xs.getD 2 0) (ZW xs) (xs.getD 3 0) A m c,.int .i64 0])∧zU w' A m c (dL xs)∧Below w.heap.size w w'∧∀b o,A=some ⟨b,o,none⟩→w.heap.size≤b)
theorem yP.no {xs:List Int} {w w':World} {e:Ending} {r:Int} (hr:r≠0) (hd:yN xs=r) (he:e=.returned (.tuple #[qV 0 0 0 none 0 0,r])) (hb:Below w.heap.size w w'):yP xs w e w':=.inl ⟨by rw [hd];exact hr,by rw [hd];exact he,hb⟩
theorem qt.upto {w:World} {b o n c:Nat} {xs:List Int} (h:qt w (some ⟨b,o,none⟩) n c xs) (j:Nat) (hj:j≤n):qt w (some ⟨b,o,none⟩) j c (xs.take j):=by
 have:=h.part 0 j (by omega) hj
 simpa using this
theorem qt.rest {w:World} {b o n c:Nat} {xs:List Int} (h:qt w (some ⟨b,o,none⟩) n c xs) (i k:Nat) (hi:i+k=n):qt w (some ⟨b,o+i,none⟩) k (c-i) (xs.drop i):=by
 have:=h.part i n (by omega) (Nat.le_refl _)
 rwa [List.take_of_length_le (by rw [h.1];exact Nat.le_refl _),show n-i=k by omega] at this
theorem qt.mid {w:World} {b o n c:Nat} {xs:List Int} (h:qt w (some ⟨b,o,none⟩) n c xs) (i k:Nat) (hi:i+k≤n):qt w (some ⟨b,o+i,none⟩) k (c-i) ((xs.take (i+k)).drop i):=by
 have:=h.part i (i+k) (by omega) hi
 rwa [show i+k-i=k by omega] at this
theorem qt.drew {w:World} {A:Option Addr} {n c:Nat} {xs:List Int} (h:qt w A n c xs):qt w.drew A n c xs:=h.keep fun _ _ _ h=>h
theorem IsB.upto {xs:List Int} (h:IsB xs) (j:Nat):IsB (xs.take j):=fun x hx=>h x (List.mem_of_mem_take hx)
structure zlI (S:Nat→Prop) (W0:World) (h:Nat) (k s n:Int) (ys:List Int) (v:Value) (W:World):Prop where
 box:At W h 47 #[k,s,n,v]
 own:qH W W0.heap.size v ys
 kb:KB S W0 W
theorem zek (A : Option Addr) (n c : Nat) (xs : List Int) (hn : n ≤ 10000) (hb : IsB xs) (w : World) (hT : Tab w) (hx : qt w A n c xs) :
  Calls Tryz.prog 39 #[.slice A n c] w (yP xs w) := by
 have hcap := hx.2.1;have hlen := hx.1
 by_cases h12 : n < 12
 ·refine (Va A n c h12 w).mono ?_
  rintro e w' ⟨rfl, hb⟩;exact yP.no (by decide) (by unfold yN; rw [if_pos (by omega)]) rfl hb
 obtain ⟨b, o, rfl, hc⟩ := hx.2.2 (by omega);have HX := za hx;have HT := za hT;have HI := za hb;have LX := za hlen;obtain ⟨y0, h0⟩ : ∃ y, xs[0]? = some y := ⟨_, List.getElem?_eq_getElem (by omega)⟩
 obtain ⟨y1, h1⟩ : ∃ y, xs[1]? = some y := ⟨_, List.getElem?_eq_getElem (by omega)⟩
 obtain ⟨y2, h2⟩ : ∃ y, xs[2]? = some y := ⟨_, List.getElem?_eq_getElem (by omega)⟩
 obtain ⟨y3, h3⟩ : ∃ y, xs[3]? = some y := ⟨_, List.getElem?_eq_getElem (by omega)⟩
 have r0 := hb y0 (List.mem_of_getElem? h0);have r1 := hb y1 (List.mem_of_getElem? h1);obtain ⟨r2, r2'⟩ := hb y2 (List.mem_of_getElem? h2);obtain ⟨r3, r3'⟩ := hb y3 (List.mem_of_getElem? h3);obtain ⟨s, hs⟩ := zc (ZW xs);have GS := za (fun (W : World) (h : qt W (some ⟨b, o + 4, none⟩) 4 (c - 4) ((xs.take 8).drop 4)) => zao _ _ _ _ (by omega) W h);simp only [show VE ((xs.take 8).drop 4) = s from hs] at GS
 have e0 : (UInt8.ofNat y0.toNat == 78) = decide (y0 = 78) := zbs (k := 78) (by omega) r0.1 r0.2;have e1 : (UInt8.ofNat y1.toNat == 86) = decide (y1 = 86) := zbs (k := 86) (by omega) r1.1 r1.2;obtain ⟨q, hq⟩ := zc (jL y2 y3);have hml := Y4 y2 y3;rw [hq] at hml;obtain ⟨p, rfl⟩ : ∃ p : Nat, q = (p : Int) := ⟨q.toNat, by omega⟩
 obtain ⟨hm0, hm1⟩ := hml;have hp32 : p ≤ 32 := by omega
 have M := za (fun W => Y9 y2 y3 W);simp only [hq] at M;have hdm : zaZ xs = (p : Int) := by unfold zaZ; rw [List.getD_eq_getElem?_getD, List.getD_eq_getElem?_getD, h2, h3]; exact hq
 have hde : zfw xs = 8 * p + 8 := by unfold zfw; rw [hdm]; rfl
 have D := za (show yN xs = if ¬ y0 = 78 then 4 else if ¬ y1 = 86 then 4 else if (p : Int) = 0 then 4 else if n < 8 * p + 8 + 4 then 2 else if 8 * p + 8 + 4 < n then 5
  else if ¬ VE (xs.drop (8 * p + 8)) = n32 (Qt (xs.take (8 * p + 8))) then 6 else if zQ y2 s y3 (dUp xs p) = true then 0 else 3 by
  unfold yN dL;rw [if_neg (by omega), hde, hdm, hlen, hs];simp only [List.getD_eq_getElem?_getD, h0, h1, h2, h3, Option.getD_some, Int.toNat_natCast])
 have Z := za (show ∀ (A : Option Addr) (m c : Nat), qV (xs.getD 2 0) (ZW xs) (xs.getD 3 0) A m c = qV y2 s y3 A m c ∧ dL xs = dUp xs p from fun A m c => by
  constructor
  ·rw [hs]; simp only [List.getD_eq_getElem?_getD, h2, h3, Option.getD_some]
  ·unfold dL; rw [hdm]; rfl)
 clear hx hT hb hlen hc hdm hde hq hs;have H0 := za h0;have H1 := za h1;have H2 := za h2;have H3 := za h3;clear h0 h1 h2 h3;have hu := Tryz.underlying47;have h12' : ¬ (n : Int) < 12 := by omega
 unfold qV at Z;go_enter Tryz.func39, Tryz.ntmps39;go_wp2_with fail;obtain ⟨W0, hW0⟩ := zc ((w.alloc (.cells #[.int .i64 0, .int .i64 0, .int .i64 0, .slice none 0 0] 47)));obtain ⟨bx, b0, hsz⟩ := z6 hW0;rw [hW0];clear hW0;have F := za (Off.start b0 hsz);have BX := za bx;clear bx b0 hsz;obtain ⟨g, hg⟩ := zc (w.heap.size);rw [hg] at F BX
 try simp only [hg]
 have c2 : World.cell? W0 ⟨b, o + 2, none⟩ = some (.int .u8 y2) := by
  obtain ⟨b', o', e, hc⟩ := (HX.out.below (by rw [hg]; exact F.out.out)).2.2 (by omega);cases e;exact hc 2 _ H2.out
 have c3 : World.cell? W0 ⟨b, o + 3, none⟩ = some (.int .u8 y3) := by
  obtain ⟨b', o', e, hc⟩ := (HX.out.below (by rw [hg]; exact F.out.out)).2.2 (by omega);cases e;exact hc 3 _ H3.out
 replace F := za F.out.now;have hstart := F.out.hiw;refine zG [] (.rd (i := 0) rfl (.rd (i := 1) rfl (.rd (i := 2) rfl (.rd (i := 3) rfl (.rd (i := 4) rfl (.rd (i := 5) rfl (.rd (i := 6) rfl (.rd (i := 7) rfl (.rd (i := 8) rfl (.rd (i := 9) rfl (.tl (i := 10) rfl (.rd (i := 11) rfl (.fl (i := 12) (st := none) rfl rfl zky (.tl (i := 13) rfl .nil)))))))))))))) (by kernel_rfl) (by kernel_rfl) (fun c a d v w h => by cases d <;> exact h) (fun c a d v w h => by cases d <;> exact h) (by simp) ?_
 have kc2 := fun x => But.cell (G := []) c2 (by simp) x;have kc3 := fun x => But.cell (G := []) c3 (by simp) x;iterate 10 (refine zf ?_;go_big_quiet_step (fail);refine wpQuiet_nil ?_)
 clear kc2 kc3;refine zm rfl (fun w1 hb K hK => ?_);replace hb := qi hb;go_simp;replace F := zd F hb;replace BX := ze BX hb;clear hb;refine (GS.out _ ((HX.out.below (by rw [hg]; exact F.out.out)).part 4 8 (by omega) (by omega))).mono ?_;rintro e w2 ⟨rfl, hb⟩;refine hK _ _ ((zC.refl _ _).call hb) ?_;clear hK K;replace F := zd F hb;replace BX := ze BX hb;clear hb c2 c3;refine zf ?_;go_big_quiet_step (fail)
 refine wpQuiet_nil ?_;refine zT (fun w3 h hb hat lh nh => ?_)
 try simp at nh
 replace F := zd F hb;replace BX := ze BX hb;have Y := za hat;clear hat hb;refine zJ rfl (fun w4 hb K hK => ?_);replace F := zd F hb;replace BX := ze BX hb;replace Y := za (Y.out.below hb);clear hb;have rr0 := (Y.out).cell 0;have zrr0 := (Y.out).frozen 0;have rr1 := (Y.out).cell 1;have zrr1 := (Y.out).frozen 1;have rr2 := (Y.out).cell 2;have zrr2 := (Y.out).frozen 2;have rr3 := (Y.out).cell 3;have zrr3 := (Y.out).frozen 3
 go_simp;refine hK _ _ ?_;clear hK K rr0 zrr0 rr1 zrr1 rr2 zrr2 rr3 zrr3;replace F := za (F.out.set4 (g := h) (.inr (by omega)) y2 s y3 (.slice none 0 0));replace BX := za (BX.out.far4 (show g + 1 ≤ h by omega) y2 s y3 (.slice none 0 0));replace Y := za (Y.out.set4 y2 s y3 (.slice none 0 0));obtain ⟨w5, hw5⟩ := zc (((((w4.setCell ⟨h, 0, none⟩ y2).setCell ⟨h, 1, none⟩ s).setCell ⟨h, 2, none⟩ y3).setCell ⟨h, 3, none⟩ (.slice none 0 0)))
 rw [hw5] at F BX Y ⊢;clear hw5;have y0 := (Y.out).cell 0;have y1 := (Y.out).cell 1;have y2 := (Y.out).cell 2;have y3 := (Y.out).cell 3;go_wp2_with fail;refine (M.out _).mono ?_;rintro e w' ⟨rfl, rfl⟩;clear y0 y1 y2 y3
 have c0 : World.cell? w5 ⟨b, o + 0, none⟩ = some (.int .u8 y0) := by
  obtain ⟨b', o', e, hc⟩ := (HX.out.below (by rw [hg]; exact F.out.out)).2.2 (by omega);cases e;exact hc 0 _ H0.out
 have c1 : World.cell? w5 ⟨b, o + 1, none⟩ = some (.int .u8 y1) := by
  obtain ⟨b', o', e, hc⟩ := (HX.out.below (by rw [hg]; exact F.out.out)).2.2 (by omega);cases e;exact hc 1 _ H1.out
 rw [Nat.add_zero] at c0
 have hcv := run_convert_bytes_arg (P := Tryz.prog) w5 41 5 Tryz.underlying41 Tryz.underlying5 b o 2 c [y0, y1] rfl (fun i hi => by
  match i, hi with
  | 0, _ => exact c0
  | 1, _ => exact c1) 9 Tryz.underlying9
 have hstr : strOfNums [y0, y1] = { data := #[UInt8.ofNat y0.toNat, UInt8.ofNat y1.toNat] } := rfl;rw [hstr] at hcv;clear hstr
 by_cases k0 : y0 = 78
 case neg =>
  have z0 := (BX.out.1).cell 0;have zz0 := (BX.out.1).frozen 0;have z1 := (BX.out.1).cell 1;have zz1 := (BX.out.1).frozen 1;have z2 := (BX.out.1).cell 2;have zz2 := (BX.out.1).frozen 2;have z3 := (BX.out.1).cell 3;have zz3 := (BX.out.1).frozen 3;have E := D.out;rw [if_pos k0] at E;rw [decide_eq_false k0] at e0;exact Xao
 by_cases k1 : y1 = 86
 case neg =>
  have z0 := (BX.out.1).cell 0;have zz0 := (BX.out.1).frozen 0;have z1 := (BX.out.1).cell 1;have zz1 := (BX.out.1).frozen 1;have z2 := (BX.out.1).cell 2;have zz2 := (BX.out.1).frozen 2;have z3 := (BX.out.1).cell 3;have zz3 := (BX.out.1).frozen 3;have E := D.out;rw [if_neg (by omega), if_pos k1] at E;rw [decide_eq_false k1] at e1;exact Xao
 rw [decide_eq_true k0] at e0;rw [decide_eq_true k1] at e1
 by_cases k2 : (p : Int) = 0
 case pos =>
  have z0 := (BX.out.1).cell 0;have zz0 := (BX.out.1).frozen 0;have z1 := (BX.out.1).cell 1;have zz1 := (BX.out.1).frozen 1;have z2 := (BX.out.1).cell 2;have zz2 := (BX.out.1).frozen 2;have z3 := (BX.out.1).cell 3;have zz3 := (BX.out.1).frozen 3;have E := D.out;rw [if_neg (by omega), if_neg (by omega), if_pos k2] at E;have k2' : ((p : Int) == 0) = true := beq_iff_eq.mpr k2;exact Xao
 have k2' : ((p : Int) == 0) = false := beq_eq_false_iff_ne.mpr k2
 by_cases k3 : n < 8 * p + 8 + 4
 case pos =>
  have z0 := (BX.out.1).cell 0;have zz0 := (BX.out.1).frozen 0;have z1 := (BX.out.1).cell 1;have zz1 := (BX.out.1).frozen 1;have z2 := (BX.out.1).cell 2;have zz2 := (BX.out.1).frozen 2;have z3 := (BX.out.1).cell 3;have zz3 := (BX.out.1).frozen 3;have E := D.out;rw [if_neg (by omega), if_neg (by omega), if_neg k2, if_pos k3] at E;go_wp2_with fail;have F9 := F.out.set4 (g := g) (.inl (by omega)) (.int .i64 0) (.int .i64 0) (.int .i64 0) (.slice none 0 0)
  obtain ⟨d0, d1, d2, d3⟩ := ((BX.out.1).set4 (.int .i64 0) (.int .i64 0) (.int .i64 0) (.slice none 0 0)).four;exact bodyPost_ret (v := .tuple #[.agg #[.int .i64 0, .int .i64 0, .int .i64 0, .slice none 0 0], .int .i64 2]) (by simp [results, Tryz.results39, go_sem, d0, d1, d2, d3]) rfl (yP.no (by decide) E rfl (by rw [hg]; exact F9.out))
 by_cases k4 : 8 * p + 8 + 4 < n
 case pos =>
  have z0 := (BX.out.1).cell 0;have zz0 := (BX.out.1).frozen 0;have z1 := (BX.out.1).cell 1;have zz1 := (BX.out.1).frozen 1;have z2 := (BX.out.1).cell 2;have zz2 := (BX.out.1).frozen 2;have z3 := (BX.out.1).cell 3;have zz3 := (BX.out.1).frozen 3;have E := D.out;rw [if_neg (by omega), if_neg (by omega), if_neg k2, if_neg k3, if_pos k4] at E;go_wp2_with fail;have F9 := F.out.set4 (g := g) (.inl (by omega)) (.int .i64 0) (.int .i64 0) (.int .i64 0) (.slice none 0 0)
  obtain ⟨d0, d1, d2, d3⟩ := ((BX.out.1).set4 (.int .i64 0) (.int .i64 0) (.int .i64 0) (.slice none 0 0)).four;exact bodyPost_ret (v := .tuple #[.agg #[.int .i64 0, .int .i64 0, .int .i64 0, .slice none 0 0], .int .i64 5]) (by simp [results, Tryz.results39, go_sem, d0, d1, d2, d3]) rfl (yP.no (by decide) E rfl (by rw [hg]; exact F9.out))
 obtain rfl : n = 8 * p + 8 + 4 := by omega
 have D2 := za (show yN xs = if ¬ VE (xs.drop (8 * p + 8)) = n32 (Qt (xs.take (8 * p + 8))) then 6 else if zQ y2 s y3 (dUp xs p) = true then 0 else 3 by
  have E := D.out
  rwa [if_neg (by omega), if_neg (by omega), if_neg k2, if_neg k3, if_neg k4] at E)
 clear D;have D := D2;clear D2;go_wp2_with fail;obtain ⟨m, hm⟩ := zc (8 * p + 8);rw [show (8 : Int) + 8 * (p : Int) = (m : Int) by omega, show (8 : Int) * (p : Int) + 8 = (m : Int) by omega];rw [hm] at D HX LX hn hcap ⊢;clear hcv c0 c1;obtain ⟨u, hu1⟩ := zc (VE (xs.drop m));obtain ⟨z, hz, hz0, hz1⟩ := YZ (Qt (xs.take m));have GU := za (fun (W : World) (h : qt W (some ⟨b, o + m, none⟩) 4 (c - m) (xs.drop m)) => zao _ _ _ _ (by omega) W h)
 have SU := za (fun (W : World) (hT : Tab W) (h : qt W (some ⟨b, o, none⟩) m c (xs.take m)) => ziS _ _ _ _ W hT h (HI.out.upto _) (by omega));simp only [hu1] at GU;simp only [← hz] at SU;rw [hu1, ← hz] at D;clear hu1 hz;refine qW (by kernel_rfl) (by kernel_rfl) ?_
 repeat (go_big_quiet_step (first | (go_at_call 74; exact Calls.ext _ (GU.out _ (((HX.out.below (by rw [hg]; exact F.out.out)).below (Ext.below _)).rest m 4 (by omega)))) | (go_at_call 38; exact Calls.ext_same _ (SU.out _ ((HT.out.below (by rw [hg]; exact F.out.out)).below (Ext.below _)) (((HX.out.below (by rw [hg]; exact F.out.out)).below (Ext.below _)).upto m (by omega))))))
 refine wpQuiet_nil ?_;rintro _ ⟨x6, rfl⟩;have hb := x6.below;obtain ⟨w6, hx6⟩ : ∃ W, x6.w = W := ⟨_, rfl⟩
 rw [hx6] at hb ⊢;clear hx6;replace F := za F.out.now;replace F := zd F hb;replace BX := ze BX hb;replace Y := za (Y.out.below hb);clear hb;clear GU SU
 by_cases k5 : u = z
 case neg =>
  have z0 := (BX.out.1).cell 0;have zz0 := (BX.out.1).frozen 0;have z1 := (BX.out.1).cell 1;have zz1 := (BX.out.1).frozen 1;have z2 := (BX.out.1).cell 2;have zz2 := (BX.out.1).frozen 2;have z3 := (BX.out.1).cell 3;have zz3 := (BX.out.1).frozen 3;have E := D.out;rw [if_pos k5] at E;have k5' : (u != z) = true := bne_iff_ne.mpr k5;go_wp2_with fail;have F9 := F.out.set4 (g := g) (.inl (by omega)) (.int .i64 0) (.int .i64 0) (.int .i64 0) (.slice none 0 0)
  obtain ⟨d0, d1, d2, d3⟩ := ((BX.out.1).set4 (.int .i64 0) (.int .i64 0) (.int .i64 0) (.slice none 0 0)).four;exact bodyPost_ret (v := .tuple #[.agg #[.int .i64 0, .int .i64 0, .int .i64 0, .slice none 0 0], .int .i64 6]) (by simp [results, Tryz.results39, go_sem, d0, d1, d2, d3]) rfl (yP.no (by decide) E rfl (by rw [hg]; exact F9.out))
 have D2 := za (show yN xs = if zQ y2 s y3 (dUp xs p) = true then 0 else 3 by
  have E := D.out
  rwa [if_neg (by omega)] at E)
 clear D;have k5' : (u != z) = false := by rw [k5]; exact bne_self_eq_false _
 go_wp2_with fail;simp only [k5', Int.lt_irrefl, decide_false];rw [k5];clear k5 k5';obtain ⟨V, hV⟩ := zc (w6);rw [hV] at F BX Y ⊢;clear hV;have hlt := Y.out.lt;obtain ⟨S, hSd⟩ : ∃ S : Nat → Prop, S = fun k => k < V.heap.size ∧ k ≠ h := ⟨_, rfl⟩
 have hS : ∀ k, S k → k < V.heap.size := fun k h => by rw [hSd] at h; exact h.1
 have hSo : ¬ S h := fun h => by rw [hSd] at h; exact h.2 rfl
 have hSi : ∀ k, k < V.heap.size → k ≠ h → S k := fun k h1 h2 => by rw [hSd]; exact ⟨h1, h2⟩
 clear hSd;have hiw := F.out.hiw;have hBw : Below w.heap.size w V := by rw [hg]; exact F.out.out
 have hSw : ∀ k, k < w.heap.size → S k := fun k hk => hSi k (by have := hBw.size; omega) (by omega)
 go_loopw [7] (fun i wr => ∃ j : Nat, j ≤ p ∧ i = .int .i64 ((8 * j + 8 : Nat) : Int) ∧ ∃ v, Hid (zlI S V h y2 s y3 (dUp xs j) v wr)) (fun i _ => m - (intOf i).toNat)
 case atStart => exact ⟨0, by omega, rfl, _, za ⟨Y.out, qH.nil_ _ _, KB.refl S V⟩⟩
 case round =>
  obtain ⟨j, hj, rfl, v, H⟩ := hrel;obtain ⟨a, ha⟩ := zc (8 * j + 8);rw [ha]
  by_cases hjp : j < p
  ·have ham : a + 8 ≤ m := by omega
   have ham' : (a : Int) < (m : Int) := by omega
   obtain ⟨r, hr⟩ := zc (VE ((xs.take (a + 8)).drop a));have HT9 := za (show dUp xs j ++ [r] = dUp xs (j + 1) by rw [zjI, ← hr, ← ha]);have HLL := za (show (dUp xs j).length ≤ 1000 by rw [zet]; omega);have GJ := za (fun (W : World) (h : qt W (some ⟨b, o + a, none⟩) 8 (c - a) ((xs.take (a + 8)).drop a)) => zao _ _ _ _ (by omega) W h);simp only [hr] at GJ;have HN := za (qt.mid (H.out.kb.bytes HX.out hBw hSw) a 8 (by omega))
   obtain ⟨L, hL⟩ := zc (dUp xs j);rw [hL] at HT9 HLL H;clear hr hL;have o3 := H.out.box.cell 3;have hgo : some h ≠ v.ownBlock := zi6 H.out.own hlt;go_wp2_with fail;refine je v.ownBlock.toList [0, 1, 2, 3, 4, 5, 6] [7, 8, 9, 10, 11] (.cons rfl (.cons rfl (.cons rfl (.cons rfl (.cons rfl (.cons rfl (.cons rfl .nil))))))) (.cons rfl (.cons rfl (.cons rfl (.cons rfl (.cons rfl .nil))))) (by kernel_rfl) (by kernel_rfl) (fun c a d v w h => by cases d <;> exact h) ?_
   have ko3 := fun x => But.cell o3 (zO hgo) x
   repeat (go_big_quiet_step (fail))
   refine wpQuiet_nil ?_;clear ko3;refine zp rfl (fun K hK => ?_);go_simp;refine (GJ.out _ (qt.drew HN.out)).mono ?_;rintro e w3 ⟨rfl, hb3⟩;replace hb3 := qi hb3;refine hK _ _ (zI ((zC.refl _ _).call hb3)) ?_;clear hK K;refine zp rfl (fun K hK => ?_);go_simp;refine hK _ _ (zI (((zC.refl _ _).call hb3).alloc _)) ?_;clear hK K;refine zp rfl (fun K hK => ?_);have hsW := H.out.kb.size;refine zbC (.tmp 74) (.tmp 81) rfl V.heap.size v L r _ rfl ((H.out.own.below hb3).kept (zN (zg (Below.refl _ _) _)) (by cases v.ownBlock <;> simp)) rfl (At.new' (by simp)) HLL.out (by have := hb3.size; simp; omega) ?_
   intro g1 cc1 w4 hown4 hgrow4 hat4 hg1';refine hK _ _ (zI ((((zC.refl _ _).call hb3).alloc _).grown hgrow4 (fun k e => .inl (qR k e)))) ?_;clear hK K;have hbx := za ((((H.out.box.below hb3).alloc _).grown hgrow4 hgo));have e3 := hbx.out.cell 3;have z3 := hbx.out.frozen 3;have hrowS : ∀ k, v.ownBlock = some k → ¬ S k := fun k e hk => by have := (World.ownsRow.lt H.out.own k e).1; have := hS k hk; omega
   have hSW : ∀ k, S k → k < wr.heap.size := fun k hk => Nat.lt_of_lt_of_le (hS k hk) hsW;have hkb := za (((((KB.refl S wr).call hSW hb3).call hSW (zg (Below.refl _ _) _)).grown hSW hgrow4 hrowS));have HO := za hown4;have HB := za (((((zC.refl wr v.ownBlock.toList).call hb3).alloc (.cells #[r] 3)).grown hgrow4 (fun k e => .inl (qR k e))));clear hown4 hgrow4 hat4 hb3;refine zp rfl (fun K hK => ?_);go_simp
   refine hK _ _ (zI HB.out) ?_;clear hK K;refine zZ rfl (fun K hK => ?_);go_simp;refine hK _ _ ?_;clear hK K;have HF := za (show zlI S V h y2 s y3 (dUp xs (j + 1)) (.slice (some ⟨g1, 0, none⟩) (L.length + 1) cc1) (w4.setCell ⟨h, 3, none⟩ (.slice (some ⟨g1, 0, none⟩) (L.length + 1) cc1)) from ⟨hbx.out.set 3 _ rfl, by rw [← HT9.out]; exact HO.out.kept (jv w4 h 3 _) (.inr (by simp [Value.ownBlock]; omega)), (H.out.kb.trans hkb.out).set hSo _ _⟩)
   clear e3 z3 hbx hkb HO HB;exact XaZ
  ·obtain rfl : j = p := by omega
   have ham' : ¬ (a : Int) < (m : Int) := by omega
   obtain ⟨A1, c1, rfl⟩ := vu H.out.own;rw [zet] at H;have R := za (Zd y2 s y3 A1 j c1 _ (by omega) wr H.out.own.ints);obtain ⟨r, hr⟩ := zc (zQ y2 s y3 (dUp xs j));rw [hr] at R D2;clear hr;unfold qV at R;have Z0 := za (H.out.kb.at_ (hSi g (by omega) (by omega)) BX.out.1);have HB := za (F.out.out.trans (H.out.kb.below (N := g) (fun k hk => hSi k (by omega) (by omega))));have hsW := H.out.kb.size;obtain ⟨x0, x1, x2, x3⟩ := H.out.box.four
   go_wp2_with fail;refine R.out.mono ?_;rintro e w5 ⟨rfl, hb5⟩;replace Z0 := za (Z0.out.below hb5);replace HB := za (zq HB.out (by omega) hb5);have X5 := za (H.out.box.below hb5);have O5 := za (qH.below H.out.own hb5);clear x0 x1 x2 x3 hb5;obtain ⟨x0, x1, x2, x3⟩ := X5.out.four;obtain ⟨z0, z1, z2, z3⟩ := Z0.out.four;have f0 := Z0.out.frozen 0;have f1 := Z0.out.frozen 1;have f2 := Z0.out.frozen 2;have f3 := Z0.out.frozen 3
   cases r
   ·have E := D2.out
    rw [if_neg (by simp)] at E;go_wp2_with fail;obtain ⟨d0, d1, d2, d3⟩ := (Z0.out.set4 (.int .i64 0) (.int .i64 0) (.int .i64 0) (.slice none 0 0)).four;exact bodyPost_ret (v := .tuple #[.agg #[.int .i64 0, .int .i64 0, .int .i64 0, .slice none 0 0], .int .i64 3]) (by simp [results, Tryz.results39, go_sem, d0, d1, d2, d3]) rfl (yP.no (by decide) E rfl (by rw [hg]; exact zj (zj (zj (zj HB.out (Nat.le_refl _) _ _) (Nat.le_refl _) _ _) (Nat.le_refl _) _ _) (Nat.le_refl _) _ _))
   ·have E := D2.out
    rw [if_pos rfl] at E;go_wp2_with fail;obtain ⟨d0, d1, d2, d3⟩ := (Z0.out.set4 y2 s y3 (.slice A1 j c1)).four
    have hne : ∀ W : World, (Value.slice A1 j c1).ownBlock = none ∨ (Value.slice A1 j c1).ownBlock ≠ some g := fun _ => by
     cases hq : (Value.slice A1 j c1).ownBlock with
     | none => exact .inl rfl
     | some q => exact .inr (fun e => by have := (World.ownsRow.lt O5.out q hq).1; injection e with e; omega)
    refine bodyPost_ret (v := .tuple #[.agg #[y2, s, y3, .slice A1 j c1], .int .i64 0]) (by simp [results, Tryz.results39, go_sem, d0, d1, d2, d3]) rfl (.inr ⟨E, A1, j, c1, ?_, ?_, ?_, ?_⟩)
    ·unfold qV; rw [(Z.out _ _ _).1]
    ·rw [(Z.out none 0 0).2]
     exact ((((O5.out.kept (jv _ g 0 _) (hne w5)).kept (jv _ g 1 _) (hne w5)).kept (jv _ g 2 _) (hne w5)).kept (jv _ g 3 _) (hne w5)).ints
    ·rw [hg]; exact zj (zj (zj (zj HB.out (Nat.le_refl _) _ _) (Nat.le_refl _) _ _) (Nat.le_refl _) _ _) (Nat.le_refl _) _ _
    ·exact fun b o e => Nat.le_trans (by omega) (jy O5.out b o e)
end
section
attribute [local go_sem] Oper.semAt_some
theorem qH.made {B:Nat} (w:World) (hB:B≤w.heap.size):qH (w.alloc (.cells #[] 3)) B (.slice (some ⟨w.heap.size,0,none⟩) 0 0) []:=World.ownsRow_made w #[] 0 hB (by decide) rfl
theorem za9 {ops:Array Oper} {rest:List Oper} {o:Oper} {a:Act} {Q:Exit→Act→World→Prop} {w:World} (hgd:o.guard=none) (s x:Operand)
  (ho:o.op=.call { callee:=.builtin .append,args:=#[s,x],argTypes:=#[22,22] }) (B:Nat) (v:Value) (xs ys:List Int) (b q n c:Nat) (hs:a.eval s=v) (hown:qH w B v xs)
  (hx:a.eval x=.slice (some ⟨b,q,none⟩) n c) (hy:zU w (some ⟨b,q,none⟩) n c ys) (hl:xs.length+n≤2000) (hB:B≤w.heap.size)
  (h:∀v' w', qH w' B v' (xs++ys)→w.grownBy w' v.ownBlock→(v'.ownBlock=v.ownBlock∨v'.ownBlock=some w.heap.size)→wpList Tryz.prog ops Q rest (a.put o.dst v') w'):wpList Tryz.prog ops Q (o::rest) a w:=by
 obtain ⟨i0,hi,hz0,hz1,hz2⟩:=info_parts zgn
 refine wpList_append_own_at w hgd s x 22 ho B 3 i0 (.int .i64 0) 1 8 Tryz.underlying22 hi hz0 hz1 hz2 rfl (by decide) v xs.length (xs.map (.int .i64)) hs hown ⟨b,q,none⟩ n c (ys.map (.int .i64)) hx (by rw [List.length_map,hy.1];omega)
  (fun j u hj=>?_) (fun u hu=>by simp at hu;obtain ⟨z,_,rfl⟩:=hu;rfl) (by unfold maxLen;omega) (by omega) hB ?_
 ·rw [zjW]
  rw [List.getElem?_map] at hj;obtain ⟨y,hy1,rfl⟩:=Option.map_eq_some_iff.1 hj;have hlt:j<ys.length:=(List.getElem?_eq_some_iff.1 hy1).1;obtain ⟨b', o', e,hc⟩:=hy.2.2 (by have:=hy.1;omega);cases e;exact hc j y hy1
 ·intro v' w' hown' hgrow _ hat
  rw [←List.map_append] at hown';exact h v' w' (by unfold qH;rw [List.length_append,hy.1];exact hown') hgrow hat
def zhq (ys:List Int) (w:World) (e:Ending) (w':World):Prop:=∃v,e=.returned v∧qH w' w.heap.size v ys∧Below w.heap.size w w'
theorem zcO (b q n c:Nat) (xs:List Int) (hn:n≤1000) (w:World) (hx:zU w (some ⟨b,q,none⟩) n c xs):Calls Tryz.prog 147 #[.slice (some ⟨b,q,none⟩) n c] w (zhq xs w):=by
 have q22:∀(w:World) (a:Option Addr) (n c n' c':Nat),(binOp .eql 22 (.slice a n c) (.slice none n' c')).run Tryz.prog w=.ok a.isNone w:=fun w a n c n' c'=>Lib.run_eql_slice_nil w _ _ a n c n' c' Tryz.underlying22;have HX:=za hx;clear hx;go_enter Tryz.func147,Tryz.ntmps147;go_wp2_with (at_builtin;go_loud (refine za9 rfl (.tmp 5) (.tmp 6) rfl w.heap.size _ [] xs b q n c rfl (qH.made w (Nat.le_refl _)) rfl (HX.out.below (zg (Below.refl _ _) _)) (by simp;omega) (by simp) ?_);intro v1 w1 hown hgrow hat;have HO:=za hown;have HG:=za hgrow;clear hown hgrow hat)
 have HB:=za ((zg (Below.refl w.heap.size w) (.cells #[] 3)).grown HG.out (by simp) (fun k hk=>by cases hk;exact Nat.le_refl _));go_ret;exact ⟨_,rfl,by simpa using HO.out,HB.out⟩
theorem zee {W:World} {b:Nat} {es:Array MapEntry} {clk:Nat} (q:Int) (v:Value) (hb:W.heap[b]?=some (.map es clk)) (hn:Instr.findNow (.int .i64) q es.toList 0=some none) :
  ∃X,(Instr.mapUpdate 212 (.map (some b)) q v).run Tryz.prog W=.ok () X∧X.heap[b]?=some (.map (es.push ⟨.int .i64 q,v,clk⟩) (clk+1))∧W.grownBy X (some b)∧X.heap.size=W.heap.size:=by
 have hlt:b<W.heap.size:=(Array.getElem?_eq_some_iff.1 hb).1;refine ⟨W.putObj b (.map (es.push ⟨.int .i64 q,v,clk⟩) (clk+1)),?_,by simp [World.putObj,hlt],grownBy_putObj' _ _ _,by simp⟩;have hck:(Instr.checkKey false 10000 3 q).run Tryz.prog W=.ok () W:=MapKept.run_checkKey (kt:=3) Tryz.underlying3 (k:=.int .i64 q) (d:=.int .i64) (by simp [MapKept.IsKey]) false 9999;unfold Instr.mapUpdate
 simp only [Sem.run_bind,run_underlying Tryz.underlying212,Result.andThen,MapKept.run_getObj_map hb,hck,MapKept.run_findKey (kt:=3) Tryz.underlying3 hn,MapKept.run_setObj_map _ hb];rfl
theorem zjg {W:World} {b:Nat} {es:Array MapEntry} {clk:Nat} (q:Int) (v:Value) (i:Nat) (hb:W.heap[b]?=some (.map es clk)) (hn:Instr.findNow (.int .i64) q es.toList 0=some (some (i,v))) :
  (Instr.lookup 212 (.map (some b)) q false).run Tryz.prog W=.ok v W:=by
 have hck:(Instr.checkKey es.isEmpty 10000 3 q).run Tryz.prog W=.ok () W:=MapKept.run_checkKey (kt:=3) Tryz.underlying3 (k:=.int .i64 q) (d:=.int .i64) (by simp [MapKept.IsKey]) es.isEmpty 9999;unfold Instr.lookup;simp only [Sem.run_bind,run_underlying Tryz.underlying212,Result.andThen,MapKept.run_getObj_map hb,Sem.run_pure,hck,MapKept.run_findKey (kt:=3) Tryz.underlying3 hn];rfl
end
end Go.Proofs.YtcoiklclbljjeaaGreatDoor.L
