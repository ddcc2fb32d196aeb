/- Lemmas of the card's proof. -/
import Derived.Test.YtcoiklclbljjeaaGreatDoorM41
set_option linter.unusedVariables false
set_option linter.unusedSimpArgs false
set_option maxRecDepth 100000
set_option maxHeartbeats 16000000
namespace Go.Proofs.YtcoiklclbljjeaaGreatDoor.L
open Go.RowKit
theorem XaG {P:Prop} (h:P:=by
 gi_wp2_with fail;refine ⟨trivial,(zw 29 (TH.out _ HT0.out)).mono ?_⟩;rintro e w9 ⟨rfl,hb9⟩;gi_wp2_with fail;exact ⟨.bool true,(by simp [results,Tryz.results5,go_sem]),rfl,zq BW0.out BW0.out.size hb9⟩) : P := h
theorem Xa7 {P:Prop} (h:P:=by
 exact ⟨h1.row hgr hr2,⟨v,R,qf h2 hgr hr2,h3.row' (Nat.le_refl _) hgr hr2,h4,fun q e=>(h5 q e).same hEW⟩,fun r hl=>(h6 r hl).same hEW,h7.row hgr (fun r e=>(hr r e).1)⟩) : P := h
theorem Xbo {P:Prop} (h:P:=by
 exact ⟨h1.below hb,⟨v,R,h2.below hb,h3.below (Nat.le_refl _) hb,h4,fun q e=>(h5 q e).same hEW⟩,fun r hl=>(h6 r hl).same hEW,h7.below hb⟩) : P := h
theorem XbD {P:Prop} (h:P:=by
 obtain ⟨t,ht⟩:=hpre;have h1:=congrArg List.length ht;simp only [List.length_append,List.length_singleton] at h1;omega) : P := h
section
attribute [local go_sem] Oper.semAt_some
attribute [local go_sem] ZD
attribute [local go_sem high] zhF
theorem zhy (bd:Int) (A:Option Addr) (n c:Nat) (L:List FrR) (A':Option Addr) (n' c':Nat) (z:List Int) (w:World) (hT:Tab w) (hx:zdF w A n c L) (hz:qt w A' n' c' z) (hzB:IsB z) (hz0:A'=none→c'=0) :
  Calls Tryz.prog 5 #[bd,.slice A n c,.slice A' n' c'] w fun e w'=>e=.returned (.bool true)∧Below w.heap.size w w':=by
 have hu:=Tryz.underlying47;have hu1:=Tryz.underlying49;have hu2:=Tryz.underlying61;have hu3:=Tryz.underlying82;have hu4:=Tryz.underlying41;have hu5:=Tryz.underlying85;have HT:=za hT;have HX:=za hx;have HZ:=za hz;have HZB:=za hzB;have LX:=hx.1;have hlenL:L.length=n:=hx.1;have hcap:=hx.2.1;have LZ:=hz.1;have hcz:=hz.2.1;have TH:=za ziM;clear hT hx hz hzB
 by_cases hbd:bd<0∨1048576<bd
 ·have NW:=za (fun W=>zc0 bd hbd W)
  clear hbd;refine (callsIn_wide (n:=30)).1 ?_;refine callsIn_of_wp_marks Tryz.func5 rfl trivial ?_ rfl;simp only [Tryz.ntmps5,List.size_toArray,List.length_cons,List.length_nil,Nat.reduceAdd,Nat.reduceSub,Array.replicate_succ,Array.replicate_zero,List.push_toArray,List.append_toArray,List.nil_append,List.cons_append];iterate 2 (gi_wp2_with fail;refine ⟨trivial,(zw 29 (NW.out _)).mono ?_⟩;rintro e w1 ⟨rfl,rfl⟩)
  gi_wp2_with fail;refine ⟨trivial,?_⟩;gi_wp2_with fail;refine ⟨trivial,(zw 29 (TH.out _ HT.out)).mono ?_⟩;rintro e w9 ⟨rfl,hb9⟩;gi_wp2_with fail;exact ⟨.bool true,(by simp [results,Tryz.results5,go_sem]),rfl,hb9⟩
 ·have NW:=za (fun W=>zco bd (by omega) (by omega) W)
  clear hbd;refine (callsIn_wide (n:=30)).1 ?_;refine callsIn_of_wp_marks Tryz.func5 rfl trivial ?_ rfl;simp only [Tryz.ntmps5,List.size_toArray,List.length_cons,List.length_nil,Nat.reduceAdd,Nat.reduceSub,Array.replicate_succ,Array.replicate_zero,List.push_toArray,List.append_toArray,List.nil_append,List.cons_append];iterate 2 (gi_wp2_with fail;refine ⟨trivial,(zw 29 (NW.out _)).mono ?_⟩;rintro e w1 ⟨rfl,rfl⟩)
  obtain ⟨E,hE⟩:=zc (w.heap.size);have hEpos:0<E:=by rw [←hE];exact World.block_lt_of_cell? w ⟨0,0,none⟩ (HT.out 0 (by decide))
  obtain ⟨W0,hW0⟩:=zc ((w.alloc (.cells (qU false 0 0 ZPC 0 0 bd) 98)).alloc (.cells (qU false 0 0 ZPC 0 0 bd) 98));have B0:Below E w W0:=by rw [←hW0,←hE];exact zg (zg (Below.refl _ w) _) _
  have P1:At W0 E 98 (qU false 0 0 ZPC 0 0 bd):=by rw [←hW0,←hE];exact (At.new w 98 _).alloc _
  have P2:At W0 (E+1) 98 (qU false 0 0 ZPC 0 0 bd):=by rw [←hW0];exact At.new' (by simp [hE])
  have hsz0:W0.heap.size=E+2:=by rw [←hW0];simp [hE]
  rw [hW0]
  try simp only [World.size_alloc,hE]
  have HB0:=za B0;have BW0:=za (show Below w.heap.size w W0 by rw [hE];exact B0);have HP1:=za P1;have HP2:=za P2;have HT0:=za (HT.out.below BW0.out);have HX0:=za (HX.out)
  have FW:=za (zhT A n c L W0 (show zdF W0 A n c L from ⟨HX.out.1,HX.out.2.1,fun hn=>by
   obtain ⟨b,o,e,h⟩:=HX.out.2.2 hn
   exact ⟨b,o,e,fun i f hf=>by
    obtain ⟨h0,h1,h2,h3,h4⟩:=h i f hf;exact ⟨zR BW0.out _ _ _ h0,zR BW0.out _ _ _ h1,zR BW0.out _ _ _ h2,zR BW0.out _ _ _ h3,h4.below BW0.out⟩⟩⟩))
  clear hW0 B0 P1 P2 NW HX0;gi_wp2_with fail;refine ⟨trivial,(zw 29 FW.out).mono ?_⟩;rintro e w1 ⟨⟨r,rfl,hr⟩,rfl⟩;clear FW;cases r with
  | false =>
   exact XaG
  | true =>
   obtain ⟨hn12,hm40⟩:=hr rfl;have HF:=za (HX.out.few hm40);clear hr hm40
   by_cases h20:20<n'
   ·have h20I:(20:Int)<(n':Int):=by omega
    exact XaG
   ·have h20I:¬(20:Int)<(n':Int):=by omega
    gi_wp2_with fail
    gi_loopw [10,46] (fun _ i wr=>∃j:Nat,j≤n'∧i=.int .i64 j∧W0=wr∧Hid (∀(i:Nat) (x:Int),i<j→z[i]?=some x→x≠78)) (fun _ i _=>n'-(intOf i).toNat)
    case atStart=>exact ⟨0,by omega,rfl,by trivial,za (fun i x h=>by omega)⟩
    case round =>
     obtain ⟨j,hj,rfl,rfl,HJ⟩:=hrel
     by_cases hlt:j<n'
     ·have hltI:(j:Int)<(n':Int):=by omega
      obtain ⟨b,o,x,rfl,hxk,x0⟩:=(HZ.out.below BW0.out).at_ (k:=j) hlt;have hcj:j<c':=by omega
      by_cases h78:x=78
      ·subst h78
       exact XaG
      ·have h78b:(x==78)=false:=beq_eq_false_iff_ne.mpr h78
       have HJ1:=za (show ∀(i:Nat) (y:Int),i<j+1→z[i]?=some y→y≠78 from fun i y hi hy=>by
        by_cases e:i=j
        ·subst e
         rw [hxk] at hy;cases hy;exact h78
        ·exact HJ.out i y (by omega) hy)
       clear hxk;gi_wp2_with fail;go_roundw
       case rel=>exact ⟨j+1,by omega,by go_num,by trivial,HJ1⟩
       case measure=>simp [intOf];omega
     ·obtain rfl:n'=j:=by omega
      have HNZ:=za (show ∀x∈z,x≠78 from fun x hx=>by
       obtain ⟨i,hi,e⟩:=List.mem_iff_getElem.1 hx;exact HJ.out i x (by omega) (by rw [List.getElem?_eq_getElem hi,e]))
      clear HJ;gi_wp2_with fail;refine ⟨trivial,(zw 29 (zdb A n c L (by omega) _ HT0.out (HF.out.below BW0.out))).mono ?_⟩;rintro e w1 ⟨(⟨hok,va,rfl,hoa⟩|⟨hno,rfl⟩),hb1⟩
      case inr =>
       gi_wp2_with fail;refine ⟨trivial,(zw 29 (TH.out _ (HT0.out.below hb1))).mono ?_⟩;rintro e w9 ⟨rfl,hb9⟩;gi_wp2_with fail;exact ⟨.bool true,(by simp [results,Tryz.results5,go_sem]),rfl,zq (zq BW0.out BW0.out.size hb1) (Nat.le_trans BW0.out.size hb1.size) hb9⟩
      gi_wp2_with fail;obtain ⟨Aa,ca,rfl,hbya⟩:=Zu hoa;have hla:=zal L hok;rw [hlenL] at hla;have BW1:=za (zq BW0.out BW0.out.size hb1);have HA1:=za hbya;have HFa:=za (fun q (e:(Value.slice Aa (yB L).length ca).ownBlock=some q)=>(World.ownsRow.lt hoa q e).1);have Q1:=za (HP1.out.below hb1);have Q2:=za (HP2.out.below hb1);have hs1:=hb1.size;have HOK:=za hok;clear hbya hoa hb1 hok
      gi_loopw [13,15,16,17,64] (fun v _ _ _ i wr=>∃j:Nat,j≤n∧i=.int .i64 j∧Hid (yF wr w1.heap.size v (jg z (L.take j)))∧Hid (Below w1.heap.size w1 wr)) (fun _ _ _ _ i _=>n-(intOf i).toNat)
      case atStart=>exact ⟨0,by omega,rfl,za (yF.none _ _),za (Below.refl _ _)⟩
      case round =>
       obtain ⟨k,hk,rfl,HO,HB⟩:=hrel;have HBW:=za (zi BW1.out HB.out)
       by_cases hkn:k<n
       ·have hknI:(k:Int)<(n:Int):=by omega
        obtain ⟨f,hf⟩:∃f,L[k]?=some f:=⟨_,List.getElem?_eq_getElem (by omega)⟩
        obtain ⟨bq,oq,rfl,hc⟩:=(HF.out.below HBW.out).2.2 (by omega);obtain ⟨x0,x1,x2,x3,hi,hm⟩:=hc k f hf;have HI:=za hi;have hfo:f.ok=true:=List.all_eq_true.1 HOK.out f (List.mem_of_getElem? hf);have hkc:k<c:=by omega
        have ht1:L.take (k+1)=L.take k++[f]:=jT hf;have HJ:=za (show jg z (L.take (k+1))=jg z (L.take k)++z++zK f.k f.s f.n f.l by rw [ht1,zeY])
        have hnl:=YY z (L.take k) (by
         rw [List.all_eq_true];intro g hg;exact List.all_eq_true.1 HOK.out g (List.mem_of_mem_take hg))
        rw [List.length_take] at hnl;have h32:=zd0 hfo;clear hc hi;obtain ⟨fk,fs,fn,Af,mf,cf,l⟩:=f;dsimp only at x0 x1 x2 x3 HI hm h32 HJ;have hfo:zQ fk fs fn l=true:=hfo;have hle:(zK fk fs fn l).length=12+8*l.length:=vm _ _ _ _;clear ht1 hf;obtain ⟨y0,y1,y2,y3⟩:=(At.new wr 47 #[fk,fs,fn,.slice Af mf cf]).four;gi_wp2_with fail;have HW:=za (zg HB.out (.cells #[fk,fs,fn,.slice Af mf cf] 47))
        have HI1:=za (HI.out.below (zg (Below.refl _ wr) (.cells #[fk,fs,fn,.slice Af mf cf] 47)));have HO1:=za (YV HO.out (.cells #[fk,fs,fn,.slice Af mf cf] 47));obtain ⟨wa,hwa⟩:=zc (wr.alloc (.cells #[fk,fs,fn,.slice Af mf cf] 47));rw [hwa] at HW HI1 HO1 ⊢;clear hwa y0 y1 y2 y3 x0 x1 x2 x3;have HWW:=za (zi BW1.out HW.out);refine ⟨trivial,(zw 29 (VF fk fs fn Af mf cf l hm wa (HT.out.below HWW.out) HI1.out hfo)).mono ?_⟩
        rintro e w2 ⟨v1,rfl,ho,hb⟩;have HB2:=za (zi HW.out hb);have HO2:=za (HO1.out.below hb);have HZ2:=za (HZ.out.below (zi BW1.out HB2.out));obtain ⟨A1,c1,rfl,hby⟩:=Zu ho;have HY:=za hby;have HFy:=za (fun q o (e:A1=some ⟨q,o,none⟩)=>(World.ownsRow.lt ho q (by rw [e];rfl)).1);obtain ⟨J1,hJ1⟩:=zc (jg z (L.take (k+1)));obtain ⟨J0,hJ0⟩:=zc (jg z (L.take k));obtain ⟨E0,hE0⟩:=zc (zK fk fs fn l)
        rw [hJ1,hJ0,hE0] at HJ;rw [hJ0] at HO2 hnl;rw [hE0] at HY hle;obtain ⟨ne,hne⟩:=zc (E0.length);have hsz2:=HB2.out.size;have hne0:0<ne:=by omega
        have hbig1:J0.length+n'≤1000000:=by
         have h1:(268+z.length)*min k L.length≤(268+z.length)*12:=Nat.mul_le_mul_left _ (by omega);omega
        have hbig2:(J0++z).length+ne≤1000000:=by
         have h1:(268+z.length)*min k L.length≤(268+z.length)*12:=Nat.mul_le_mul_left _ (by omega);rw [List.length_append];omega
        rw [hne] at HY;rw [hE0,hne];have hvl:∀q,u13.ownBlock=some q→q<wa.heap.size:=fun q e=>(World.ownsRow.lt HO1.out q e).2;clear hb ho hby hle h32 hfo;gi_wp2_with (first | (gi_at_builtin;refine qC qJ rfl rfl (fun K hK=>?_);refine Yv (.tmp 73) (.tmp 74) rfl w1.heap.size u13 J0 z A' n' c' rfl HO2.out rfl hz0 HZ2.out hbig1 hsz2 ?_;intro v3 w3 hown3 hgrow3 hat3;refine hK _ _ ?_;clear hK K;have O3:=za hown3;have K3:=za (HB2.out.grown hgrow3 hsz2 (fun q e=>(World.ownsRow.lt HO2.out q e).1));have Y3:=za (HY.out.grown hgrow3 (fun q o e _ e'=>by have h1:=hvl q e'.symm;have h2:=HFy.out q o e;omega));clear hown3 hgrow3 hat3)|(gi_at_builtin;refine qC qJ rfl rfl (fun K hK=>?_);refine QK (.tmp 75) (.tmp 76) rfl w1.heap.size v3 (J0++z) E0 A1 ne c1 rfl O3.out rfl hne0 Y3.out hbig2 K3.out.size ?_;intro v5 w5 hown5 hgrow5 hat5;refine hK _ _ ?_;clear hK K;have O5:=za hown5;have K5:=za (K3.out.grown hgrow5 K3.out.size (fun q e=>(World.ownsRow.lt O3.out q e).1));clear hown5 hgrow5 hat5))
        rw [←HJ.out,←hJ1] at O5;go_roundw
        case rel=>exact ⟨k+1,by omega,by go_num,O5,K5⟩
        case measure=>simp [intOf];omega
       ·obtain rfl:n=k:=by omega
        rw [List.take_of_length_le (by omega)] at HO;gi_wp2_with fail;refine ⟨trivial,(zw 29 (Qo E Aa _ ca _)).mono ?_⟩;rintro e w3 ⟨rfl,rfl⟩;unfold Vh;gi_wp2_with fail;obtain ⟨NA,hNA⟩:∃q,(yB L).length=q:=⟨_,rfl⟩
        rw [hNA] at HA1 HFa hla
        try rw [hNA]
        obtain ⟨V0,hV0⟩:=zc (((((wr.alloc (.cells #[.slice none 0 0] 85)).alloc (.cells #[.slice none 0 0] 85)).alloc (.cells #[.pointer (some ⟨E,0,none⟩)] 26)).alloc (.cells #[.slice Aa NA ca] 41)));have hbv:Below wr.heap.size wr V0:=by rw [←hV0];exact zg (zg (zg (zg (Below.refl _ wr) _) _) _) _
        have p0:At V0 wr.heap.size 85 #[.slice none 0 0]:=by rw [←hV0];exact (((At.new wr 85 _).alloc _).alloc _).alloc _
        have p1:At V0 (wr.heap.size+1) 85 #[.slice none 0 0]:=by rw [←hV0];exact (show At ((wr.alloc (.cells #[.slice none 0 0] 85)).alloc (.cells #[.slice none 0 0] 85)) (wr.heap.size+1) 85 #[.slice none 0 0] from At.new' (by simp)).alloc _ |>.alloc _
        have p2:At V0 (wr.heap.size+1+1) 26 #[.pointer (some ⟨E,0,none⟩)]:=by rw [←hV0];exact (show At (((wr.alloc (.cells #[.slice none 0 0] 85)).alloc (.cells #[.slice none 0 0] 85)).alloc (.cells #[.pointer (some ⟨E,0,none⟩)] 26)) (wr.heap.size+1+1) 26 #[.pointer (some ⟨E,0,none⟩)] from At.new' (by simp)).alloc _
        have p3:At V0 (wr.heap.size+1+1+1) 41 #[.slice Aa NA ca]:=by rw [←hV0];exact At.new' (by simp)
        have hsv:V0.heap.size=wr.heap.size+4:=by rw [←hV0];simp
        try simp only [World.size_alloc]
        rw [hV0];have BV:=za (zi HB.out hbv);have BVW:=za (zi BW1.out BV.out);have HOV:=za (HO.out.below hbv);have HOl:=fun q e=>(World.ownsRow.lt HO.out q e)
        have hszr:=HB.out.size;obtain ⟨g,hg⟩:=zc (wr.heap.size);rw [hg] at p0 p1 p2 p3 hsv hszr
        try simp only [hg]
        have AV:=za (HA1.out.below BV.out);have PJ:=zdX L HOK.out;have hPJl:(qD (yB L)).length≤12:=by rw [PJ];unfold zcp;rw [List.length_map];omega
        have hBJ:IsB (yB L):=zhZ L;have hNA5:NA≤10000:=by omega
        have Q1v:=za (Q1.out.below BV.out);have Q2v:=za (Q2.out.below BV.out);have AP0:=za (fun r (_:r<V0.heap.size)=>(ApE.off Q1v.out:ApE E r V0));have hAa:∀q o,Aa=some ⟨q,o,none⟩→W0.heap.size≤q:=fun q o e=>HFa.out q (by rw [e];rfl);have hAl:∀q o,Aa=some ⟨q,o,none⟩→0<NA→q≠g∧q<V0.heap.size:=fun q o e hn=>by have:=HA1.out.low q o e hn;omega
        have S0:StK E bd E00 (g+1+1) (g+1+1+1) Aa NA ca (yB L) [] V0:=⟨HT.out.below BVW.out,p2,p3,AV.out,ZPC,rfl,Q1v.out,fun h=>(by cases h),fun _=>rfl⟩
        clear hV0 hbv Q1v AV
        refine Ju rfl (by omega) (gf:=60) (lb:=#[.pointer (some ⟨g+1+1,0,none⟩),.pointer (some ⟨g+1+1+1,0,none⟩)]) rfl trivial zcm
         (V9 20 E bd E00 zgO (g+1+1) (g+1+1+1) Aa NA ca (yB L) hNA5 hBJ) (fun s W0 args s' W1 h=>by obtain ⟨_,_,_,_,_,_,hk,_⟩:=h;exact hk) (fun s W W' h=>qO h) (fun s W0 args s' W1 h=>(StY.size _ _ _ _ _ h).trans rfl)
         (fun N s W=>StK E bd E00 (g+1+1) (g+1+1+1) Aa NA ca (yB L) s W∧(∃v R,At W g 85 #[v]∧vo W N N v R∧R.map RV.r=JF E00 s∧∀q,v.ownBlock=some q→ApE E q W)∧(∀r,r<V0.heap.size→ApE E r W)∧zD [E,g] V0 W)
         (fun N s W h=>h.1) ?hI ?hIZ (fun N _=>⟨S0,⟨_,[],p0,vo.nil_ _ _ _,rfl,fun q e=>(by cases e)⟩,AP0.out,zD.refl _ _⟩) ?round ?done
        case hI =>
         rintro N s W W' row ⟨h1,⟨v,R,h2,h3,h4,h5⟩,h6,h7⟩ hgr hr;have hr2:=fun r e=>(hr r e).2.2;obtain ⟨_,_,hEA,_⟩:=h1.2.2.2.2;have hEW:W'.heap[E]?=W.heap[E]?:=(qf hEA hgr hr2).trans hEA.symm;exact Xa7
        case hIZ =>
         rintro N s W W' _ ⟨h1,⟨v,R,h2,h3,h4,h5⟩,h6,h7⟩ hb;obtain ⟨_,_,hEA,_⟩:=h1.2.2.2.2;have hEW:W'.heap[E]?=W.heap[E]?:=hb.block E hEA.lt;exact Xbo
        case round =>
         rintro l N s s' args Wa Wb hl hl2 hN hNa ⟨hS,⟨v,R,hbx,hrc,hmap,hapv⟩,hap,htc⟩ ⟨rr,hrr⟩ ⟨ys,u,rfl,hpre,hde,ht,hkf,hng,rfl,hrec,hape⟩
         have hsl:s.length≤12:=by
          exact XbD
         have hRs:R.length≤1000:=by
          have h1:=congrArg List.length hmap;rw [zaf,List.length_map] at h1;omega
         obtain ⟨v1,v2,hu9,ho1,ho2⟩:=hrec;obtain ⟨a1,a2,a3,rfl⟩:=j2 ho1;obtain ⟨d1,d2,d3,rfl⟩:=j2 ho2;have hrs:JF E00 (s++[ys])=JF E00 s++[JA (yk E00 s) (ys.getD 2 0) (ZW ys) (ys.getD 3 0) (dL ys)]:=zbS E00 s ys;obtain ⟨rp,hrp⟩:=zc (JA (yk E00 s) (ys.getD 2 0) (ZW ys) (ys.getD 3 0) (dL ys));rw [hrp] at hu9 ho1 ho2 hrs;obtain ⟨er,her⟩:=zc (yi (yk E00 s) (ys.getD 2 0) (ZW ys) (ys.getD 3 0) (dL ys))
         rw [her];subst hu9;obtain ⟨Av,cv,rfl⟩:=hrc.form;have hvl:∀q,(Value.slice Av R.length cv).ownBlock=some q→N≤q∧q<Wa.heap.size:=fun q e=>World.ownsRow.lt hrc.row q e;have hEl:E<g:=by omega
         have hszW:=ht.size;have S1:=za (hS.next ht (by omega) (by omega) (by omega) (fun q o e=>by have:=hAa q o e;omega) hng);have C1:=za (ht.at_ hbx (by simp;omega));have R1:=za (hrc.touch (Nat.le_refl _) ht (fun q hq=>by simp at hq;omega));have AP:=za (fun r (hr:r<V0.heap.size)=>hape r (by omega) (hap r hr));have AV:=za (fun q (e:(Value.slice Av R.length cv).ownBlock=some q)=>hape q (hvl q e).2 (hapv q e))
         have T1:=za (htc.trans (ht.mono (fun q hq=>by simp at hq;simp [hq])));have XO:=za (show RV.ok Wb N ⟨rp,a1,a2,a3,d1,d2,d3⟩ from ⟨ho1.ints,ho2.ints,fun q o e=>Nat.le_trans hNa (jy ho1 q o e),fun q o e=>Nat.le_trans hNa (jy ho2 q o e),ho1.maxlen,ho2.maxlen⟩);have XF:=za (show ∀q o,(a1=some ⟨q,o,none⟩→0<a2→(Value.slice Av R.length cv).ownBlock≠some q)∧(d1=some ⟨q,o,none⟩→0<d2→(Value.slice Av R.length cv).ownBlock≠some q) from fun q o=>⟨fun e _ e'=>by have h1:=jy ho1 q o e;have h2:=(hvl q e').2;omega,fun e _ e'=>by have h1:=jy ho2 q o e;have h2:=(hvl q e').2;omega⟩)
         obtain ⟨rh,rq,rX,rD⟩:=rp;have hbn:=zg (Below.refl _ Wb) (.cells #[rh,rq,.slice a1 a2 a3,.slice d1 d2 d3] 49);have D0:=za (show At (Wb.alloc (.cells #[rh,rq,.slice a1 a2 a3,.slice d1 d2 d3] 49)) Wb.heap.size 49 #[rh,rq,.slice a1 a2 a3,.slice d1 d2 d3] from At.new _ _ _);clear hS hbx hrc hapv hap htc hpre hde ht hkf hng hape ho1 ho2 her hrp;gi_wp2_with fail;refine ⟨qO hbn,fun W3 hgr ho hlr=>?_⟩
         have hrow:∀r,some l=some r→∃o:Obj,(Wb.alloc (.cells #[rh,rq,.slice a1 a2 a3,.slice d1 d2 d3] 49)).heap[r]?=some o∧o.isCells=false:=fun r e=>by cases e;exact ho
         replace S1:=za ((S1.out.below hbn).row hgr hrow);replace C1:=za (qf (C1.out.below hbn) hgr hrow);replace R1:=za ((R1.out.below (Nat.le_refl _) hbn).row' (Nat.le_refl _) hgr hrow);replace D0:=za (qf D0.out hgr hrow);replace T1:=za ((T1.out.below hbn).row hgr (fun r e=>by cases e;exact hl));replace XO:=za ((XO.out.below hbn).row hgr hrow);have K3:=za (fun k (hk:k≠l) (hk2:k<Wb.heap.size)=>(hgr.block k (by have:=hbn.size;omega) (fun e=>by cases e;exact hk rfl)).trans (hbn.block k hk2))
         have hszW3:Wb.heap.size+1≤W3.heap.size:=by have:=hgr.size;simpa using this
         have hEb:E<Wb.heap.size:=by omega
         replace AP:=za (fun r hr=>(AP.out r hr).same (K3.out E (by omega) hEb));replace AV:=za (fun q e=>(AV.out q e).same (K3.out E (by omega) hEb));clear hgr hrow ho hbn;obtain ⟨e0,e1,e2,e3⟩:=D0.out.four;have c0:=C1.out.one;have hNW:N≤(W3.alloc (.cells #[rh,rq,.slice a1 a2 a3,.slice d1 d2 d3] 49)).heap.size:=by simp;omega
         have hvg:some g≠(Value.slice Av R.length cv).ownBlock:=fun e=>by have:=(hvl g e.symm).1;omega
         gi_wp2_with (gi_at_builtin;(refine qC (yp _) rfl rfl (fun K hK=>?_);refine zbB (.tmp 84) (.tmp 86) rfl N (.slice Av R.length cv) R ⟨⟨rh,rq,rX,rD⟩,a1,a2,a3,d1,d2,d3⟩ _ rfl (World.ownsRow.alloc R1.out.row _) rfl (At.new _ _ _) hRs hNW ?_;intro v4 w4 hown4 hgrow4 hat4;obtain ⟨g4,cc4,rfl,_⟩:=qk hown4 (by omega);refine hK _ _ ?_);clear hK K;have C4:=za ((C1.out.alloc (.cells #[rh,rq,.slice a1 a2 a3,.slice d1 d2 d3] 49)).grown hgrow4 hvg);have c4:=C4.out.one;have z4:=C4.out.frozen 0;have HOW:=za hown4;have HGW:=za hgrow4;have HAT:=za hat4;clear hown4 hgrow4 hat4)
         have ba:=zg (Below.refl _ W3) (.cells #[rh,rq,.slice a1 a2 a3,.slice d1 d2 d3] 49);have OB:=z7.set g 0 w4 (.slice (some ⟨g4,0,none⟩) (R.length+1) cc4);have S2:=S1.out.below ba;have hEA:E<W3.heap.size:=by omega
         have hr4:∀r,(Value.slice Av R.length cv).ownBlock=some r→N≤r:=fun r e=>(hvl r e).1;have hE4:(w4.setCell ⟨g,0,none⟩ (.slice (some ⟨g4,0,none⟩) (R.length+1) cc4)).heap[E]?=(W3.alloc (.cells #[rh,rq,.slice a1 a2 a3,.slice d1 d2 d3] 49)).heap[E]?:=(OB.block E (by omega)).trans (HGW.out.block E (by simp;omega) (fun e=>by have:=hr4 E e.symm;omega));have hE3:(W3.alloc (.cells #[rh,rq,.slice a1 a2 a3,.slice d1 d2 d3] 49)).heap[E]?=W3.heap[E]?:=ba.block E hEA
         have S4:=S2.app HGW.out (fun r e=>by
          have h1:=hr4 r e;exact ⟨by omega,by omega,by omega,by omega,fun q o e' hn=>by have:=hAl q o e' hn;omega,(AV.out r e).same hE3⟩)
         refine ⟨(qO ba).trans ((JN R1.out.row HGW.out).trans (zV _ _ _ _)),⟨S4.nob (NoB.sl C4.out) OB (by omega) (by omega) (by omega) (by omega) (fun q o e hn=>by have:=hAl q o e hn;omega),⟨_,R++[⟨⟨rh,rq,rX,rD⟩,a1,a2,a3,d1,d2,d3⟩],C4.out.set1 _,(R1.out.app (Nat.le_refl _) XO.out XF.out HOW.out HGW.out HAT.out).only (Nat.le_refl _) OB (by omega),by rw [List.map_append,hmap,hrs];rfl,fun q e=>?_⟩,fun r hr=>(AP.out r hr).same (hE4.trans hE3),?_⟩,fun k h1 h2=>?_⟩
         ·rcases HAT.out with e'|e'
          ·exact (AV.out q (by rw [←e', e])).same (hE4.trans hE3)
          ·rw [e'] at e
           have hq:=Option.some.inj e;exact (ApE.new S2.2.2.2.2 (Nat.le_of_eq hq)).same hE4
         ·exact ((T1.out.below ba).row HGW.out (fun r e=>by have:=hr4 r e;omega)).trans (OB.touch (by simp))
         ·exact (OB.block k (by omega)).trans ((HGW.out.block k (by simp;omega) (fun e=>by have:=hr4 k e.symm;omega)).trans ((ba.block k (by omega)).trans (K3.out k (by omega) (by omega))))
        case done =>
         rintro D N s W hD hD2 hT9 ⟨hS,⟨v,R,hbx,hrc,hmap,hapv⟩,hap,htc⟩ hdf;have hT9:s=zcp L:=hT9.trans PJ;subst hT9;have hszW:=htc.size;have hGG:∀q,q∈[E,g]→q=E∨q=g:=fun q hq=>by simpa using hq
         have N1:=za hS.2.2.2.2;have TW:=za hS.1;have P2:=za (htc.at_ Q2v.out (fun h=>by have:=hGG _ h;omega));have G1:=za hbx;have G2:=za (htc.at_ p1 (fun h=>by have:=hGG _ h;omega));have HOW:=za (HOV.out.touch htc (fun q e h=>by have h1:=HOl q e;have:=hGG _ h;omega));have BW:=za (zD.low BVW.out BVW.out.size htc (fun q hq=>by have:=hGG _ hq;omega));have HZW:=za (HZ.out.below BW.out)
         have R1:=za hrc;have AP1:=za hap;have HD:=za hdf;have hDW:=(Array.getElem?_eq_some_iff.1 hdf).1;have hnl:=YY z L HOK.out;rw [hlenL] at hnl;have hnl2:(268+z.length)*n≤(268+z.length)*12:=Nat.mul_le_mul_left _ (by omega);have hbig:(jg z L).length+n'≤1000000:=by omega
         have hszB:w1.heap.size≤W.heap.size:=by omega
         have hEW:E<W.heap.size:=by omega
         have HMAP:=za hmap;clear hS hbx hrc hapv hap hdf hT9 hmap S0 p0 p1 p2 p3;gi_wp2_with (gi_at_builtin;refine qC qJ rfl rfl (fun K hK=>?_);refine Yv (.tmp 89) (.tmp 90) rfl w1.heap.size u13 (jg z L) z A' n' c' rfl HOW.out rfl hz0 HZW.out hbig hszB ?_;intro v5 w5 hown5 hgrow5 hat5;obtain ⟨A5,c5,hv5,hby5⟩:=Zu hown5;obtain ⟨N5,hN5⟩:∃q,(jg z L++z).length=q:=⟨_,rfl⟩;rw [hN5] at hv5 hby5;subst hv5;have HN5:=za hN5;clear hN5;refine hK _ _ ?_;clear hK K;have HO5:=za hown5;have HG5:=za hgrow5;have HT5:=za hat5;have HY5:=za hby5;clear hown5 hgrow5 hat5 hby5)
         refine ⟨trivial,(zw 29 (Qo (E+1) A5 _ c5 _)).mono ?_⟩;rintro e w6 ⟨rfl,rfl⟩;unfold Vh;gi_wp2_with fail;have hN5l:N5≤10000:=by rw [←HN5.out,List.length_append];omega
         have hs5:=HG5.out.size;have ho5:∀q,(Value.slice A5 N5 c5).ownBlock=some q→w1.heap.size≤q∧q<w5.heap.size:=fun q e=>World.ownsRow.lt HO5.out q e;have hr5:∀r,u13.ownBlock=some r→w1.heap.size≤r∧r<g:=fun r e=>by have:=HOl r e;omega
         have hb5:∀q,q<W.heap.size→(∀r,u13.ownBlock=some r→q≠r)→w5.heap[q]?=W.heap[q]?:=fun q hq hn=>HG5.out.block q hq (fun e=>hn q e.symm rfl);obtain ⟨V1,hV1⟩:=zc (((w5.alloc (.cells #[.pointer (some ⟨E+1,0,none⟩)] 26)).alloc (.cells #[.slice A5 N5 c5] 41)));have hbv:Below w5.heap.size w5 V1:=by rw [←hV1];exact zg (zg (Below.refl _ w5) _) _
         have p2:At V1 w5.heap.size 26 #[.pointer (some ⟨E+1,0,none⟩)]:=by rw [←hV1];exact (At.new w5 26 _).alloc _
         have p3:At V1 (w5.heap.size+1) 41 #[.slice A5 N5 c5]:=by rw [←hV1];exact At.new' (by simp)
         have hsv1:V1.heap.size=w5.heap.size+2:=by rw [←hV1];simp
         try simp only [World.size_alloc]
         rw [hV1];have N2:=za ((N1.out.app HG5.out (fun r e=>by have:=hr5 r e;exact ⟨by omega,AP1.out r (by omega)⟩)).row (zN hbv) (fun r e=>by cases e));have hE5:V1.heap[E]?=W.heap[E]?:=(hbv.block E (by omega)).trans (hb5 E hEW (fun r e=>by have:=hr5 r e;omega));have AP2:=za (fun r (hr:r<V0.heap.size)=>(AP1.out r hr).same hE5);have R2:=za ((R1.out.same (Nat.le_refl _) (fun q hq hl _=>hb5 q hl (fun r e=>by have:=hr5 r e;omega)):vo w5 N N v R).below (Nat.le_refl _) hbv)
         have G3:=za (show At V1 g 85 #[v] from (hbv.block g (by omega)).trans ((hb5 g (by omega) (fun r e=>by have:=hr5 r e;omega)).trans G1.out));have G4:=za (show At V1 (g+1) 85 #[.slice none 0 0] from (hbv.block (g+1) (by omega)).trans ((hb5 (g+1) (by omega) (fun r e=>by have:=hr5 r e;omega)).trans G2.out));have P3:=za (show At V1 (E+1) 98 (qU false 0 0 ZPC 0 0 bd) from (hbv.block (E+1) (by omega)).trans ((hb5 (E+1) (by omega) (fun r e=>by have:=hr5 r e;omega)).trans P2.out))
         have D5:=za (show V1.heap[D]?=_ from (hbv.block D (by omega)).trans ((hb5 D hDW (fun r e=>by have:=hr5 r e;omega)).trans HD.out));have BV1:=za ((BW.out.grown HG5.out BW.out.size (fun r e=>by have:=hr5 r e;omega)).trans (hbv.mono (by omega)));have T5:Tab V1:=HT.out.below BV1.out;have Y5:=za (HY5.out.below hbv);have hPJ2:qD (jg z L++z)=zcp L:=zcP z HNZ.out L HOK.out
         have hPJl2:(qD (jg z L++z)).length≤12:=by rw [hPJ2];unfold zcp;rw [List.length_map];omega
         have hBJ2:IsB (jg z L++z):=fun x hx=>(List.mem_append.1 hx).elim (fun h=>zhY HZB.out L x h) (fun h=>HZB.out x h);have AP3:=za (fun r (_:r<V1.heap.size)=>(ApE.off P3.out:ApE (E+1) r V1));have hAa2:∀q o,A5=some ⟨q,o,none⟩→W0.heap.size≤q:=fun q o e=>by have:=ho5 q (by rw [e];rfl);omega
         have hAl2:∀q o,A5=some ⟨q,o,none⟩→0<N5→q≠g+1∧q<V1.heap.size:=fun q o e hn=>by
          have h1:=ho5 q (by rw [e];rfl);rcases HT5.out with h2|h2
          ·rw [e] at h2
           have h3:=hr5 q h2.symm;omega
          ·rw [e] at h2
           have h3:q=W.heap.size:=Option.some.inj h2;omega
         obtain ⟨h5,hh5⟩:∃q,w5.heap.size=q:=⟨_,rfl⟩
         rw [hh5] at p2 p3 hsv1 hs5
         try simp only [hh5]
         have S0:StK (E+1) bd E00 h5 (h5+1) A5 N5 c5 (jg z L++z) [] V1:=⟨T5,p2,p3,Y5.out,ZPC,rfl,P3.out,fun h=>(by cases h),fun _=>rfl⟩
         clear hV1 hbv Y5 N1 P2 G1 G2 HOW BW HZW R1 AP1 HO5 HG5 HT5 HY5 hb5 ho5 hr5 hAa hAl HD hE5
         refine Ju rfl (by omega) (gf:=60) (lb:=#[.pointer (some ⟨h5,0,none⟩),.pointer (some ⟨h5+1,0,none⟩)]) rfl trivial zcm
          (V9 20 (E+1) bd E00 zgO h5 (h5+1) A5 N5 c5 (jg z L++z) hN5l hBJ2) (fun s W0 args s' W1 h=>by obtain ⟨_,_,_,_,_,_,hk,_⟩:=h;exact hk) (fun s W W' h=>qO h) (fun s W0 args s' W1 h=>(StY.size _ _ _ _ _ h).trans rfl)
          (fun N s W=>StK (E+1) bd E00 h5 (h5+1) A5 N5 c5 (jg z L++z) s W∧(∃v R,At W (g+1) 85 #[v]∧vo W N N v R∧R.map RV.r=JF E00 s∧∀q,v.ownBlock=some q→ApE (E+1) q W)∧(∀r,r<V1.heap.size→ApE (E+1) r W)∧zD [E+1,g+1] V1 W)
          (fun N s W h=>h.1) ?hI ?hIZ (fun N _=>⟨S0,⟨_,[],G4.out,vo.nil_ _ _ _,rfl,fun q e=>(by cases e)⟩,AP3.out,zD.refl _ _⟩) ?round ?done
         case hI =>
          rintro N s W W' row ⟨h1,⟨v,R,h2,h3,h4,h5⟩,h6,h7⟩ hgr hr;have hr2:=fun r e=>(hr r e).2.2;obtain ⟨_,_,hEA,_⟩:=h1.2.2.2.2;have hEW:W'.heap[E+1]?=W.heap[E+1]?:=(qf hEA hgr hr2).trans hEA.symm;exact Xa7
         case hIZ =>
          rintro N s W W' _ ⟨h1,⟨v,R,h2,h3,h4,h5⟩,h6,h7⟩ hb;obtain ⟨_,_,hEA,_⟩:=h1.2.2.2.2;have hEW:W'.heap[E+1]?=W.heap[E+1]?:=hb.block (E+1) hEA.lt;exact Xbo
         case round =>
          clear hPJ2;rintro l N s s' args Wa Wb hl hl2 hN hNa ⟨hS,⟨v,R,hbx,hrc,hmap,hapv⟩,hap,htc⟩ ⟨rr,hrr⟩ ⟨ys,u,rfl,hpre,hde,ht,hkf,hng,rfl,hrec,hape⟩
          have hsl:s.length≤12:=by
           exact XbD
          have hRs:R.length≤1000:=by
           have h1:=congrArg List.length hmap;rw [zaf,List.length_map] at h1;omega
          obtain ⟨v1,v2,hu9,ho1,ho2⟩:=hrec;obtain ⟨a1,a2,a3,rfl⟩:=j2 ho1;obtain ⟨d1,d2,d3,rfl⟩:=j2 ho2;have hrs:JF E00 (s++[ys])=JF E00 s++[JA (yk E00 s) (ys.getD 2 0) (ZW ys) (ys.getD 3 0) (dL ys)]:=zbS E00 s ys;obtain ⟨rp,hrp⟩:=zc (JA (yk E00 s) (ys.getD 2 0) (ZW ys) (ys.getD 3 0) (dL ys));rw [hrp] at hu9 ho1 ho2 hrs;obtain ⟨er,her⟩:=zc (yi (yk E00 s) (ys.getD 2 0) (ZW ys) (ys.getD 3 0) (dL ys))
          rw [her];subst hu9;obtain ⟨Av,cv,rfl⟩:=hrc.form;have hvl:∀q,(Value.slice Av R.length cv).ownBlock=some q→N≤q∧q<Wa.heap.size:=fun q e=>World.ownsRow.lt hrc.row q e;have hEl:(E+1)<(g+1):=by omega
          have hszW:=ht.size;have S1:=za (hS.next ht (by omega) (by omega) (by omega) (fun q o e=>by have:=hAa2 q o e;omega) hng);have C1:=za (ht.at_ hbx (by simp;omega));have R1:=za (hrc.touch (Nat.le_refl _) ht (fun q hq=>by simp at hq;omega));have AP:=za (fun r (hr:r<V1.heap.size)=>hape r (by omega) (hap r hr));have AV:=za (fun q (e:(Value.slice Av R.length cv).ownBlock=some q)=>hape q (hvl q e).2 (hapv q e))
          have T1:=za (htc.trans (ht.mono (fun q hq=>by simp at hq;simp [hq])));have XO:=za (show RV.ok Wb N ⟨rp,a1,a2,a3,d1,d2,d3⟩ from ⟨ho1.ints,ho2.ints,fun q o e=>Nat.le_trans hNa (jy ho1 q o e),fun q o e=>Nat.le_trans hNa (jy ho2 q o e),ho1.maxlen,ho2.maxlen⟩);have XF:=za (show ∀q o,(a1=some ⟨q,o,none⟩→0<a2→(Value.slice Av R.length cv).ownBlock≠some q)∧(d1=some ⟨q,o,none⟩→0<d2→(Value.slice Av R.length cv).ownBlock≠some q) from fun q o=>⟨fun e _ e'=>by have h1:=jy ho1 q o e;have h2:=(hvl q e').2;omega,fun e _ e'=>by have h1:=jy ho2 q o e;have h2:=(hvl q e').2;omega⟩)
          obtain ⟨rh,rq,rX,rD⟩:=rp;have hbn:=zg (Below.refl _ Wb) (.cells #[rh,rq,.slice a1 a2 a3,.slice d1 d2 d3] 49);have D0:=za (show At (Wb.alloc (.cells #[rh,rq,.slice a1 a2 a3,.slice d1 d2 d3] 49)) Wb.heap.size 49 #[rh,rq,.slice a1 a2 a3,.slice d1 d2 d3] from At.new _ _ _);clear hS hbx hrc hapv hap htc hpre hde ht hkf hng hape ho1 ho2 her hrp;gi_wp2_with fail;refine ⟨qO hbn,fun W3 hgr ho hlr=>?_⟩
          have hrow:∀r,some l=some r→∃o:Obj,(Wb.alloc (.cells #[rh,rq,.slice a1 a2 a3,.slice d1 d2 d3] 49)).heap[r]?=some o∧o.isCells=false:=fun r e=>by cases e;exact ho
          replace S1:=za ((S1.out.below hbn).row hgr hrow);replace C1:=za (qf (C1.out.below hbn) hgr hrow);replace R1:=za ((R1.out.below (Nat.le_refl _) hbn).row' (Nat.le_refl _) hgr hrow);replace D0:=za (qf D0.out hgr hrow);replace T1:=za ((T1.out.below hbn).row hgr (fun r e=>by cases e;exact hl));replace XO:=za ((XO.out.below hbn).row hgr hrow);have K3:=za (fun k (hk:k≠l) (hk2:k<Wb.heap.size)=>(hgr.block k (by have:=hbn.size;omega) (fun e=>by cases e;exact hk rfl)).trans (hbn.block k hk2))
          have hszW3:Wb.heap.size+1≤W3.heap.size:=by have:=hgr.size;simpa using this
          have hEb:(E+1)<Wb.heap.size:=by omega
          replace AP:=za (fun r hr=>(AP.out r hr).same (K3.out (E+1) (by omega) hEb));replace AV:=za (fun q e=>(AV.out q e).same (K3.out (E+1) (by omega) hEb));clear hgr hrow ho hbn;obtain ⟨e0,e1,e2,e3⟩:=D0.out.four;have c0:=C1.out.one;have hNW:N≤(W3.alloc (.cells #[rh,rq,.slice a1 a2 a3,.slice d1 d2 d3] 49)).heap.size:=by simp;omega
          have hvg:some (g+1)≠(Value.slice Av R.length cv).ownBlock:=fun e=>by have:=(hvl (g+1) e.symm).1;omega
          gi_wp2_with (gi_at_builtin;(refine qC (yp _) rfl rfl (fun K hK=>?_);refine zbB (.tmp 95) (.tmp 97) rfl N (.slice Av R.length cv) R ⟨⟨rh,rq,rX,rD⟩,a1,a2,a3,d1,d2,d3⟩ _ rfl (World.ownsRow.alloc R1.out.row _) rfl (At.new _ _ _) hRs hNW ?_;intro v4 w4 hown4 hgrow4 hat4;obtain ⟨g4,cc4,rfl,_⟩:=qk hown4 (by omega);refine hK _ _ ?_);clear hK K;have C4:=za ((C1.out.alloc (.cells #[rh,rq,.slice a1 a2 a3,.slice d1 d2 d3] 49)).grown hgrow4 hvg);have c4:=C4.out.one;have z4:=C4.out.frozen 0;have HOW:=za hown4;have HGW:=za hgrow4;have HAT:=za hat4;clear hown4 hgrow4 hat4)
          have ba:=zg (Below.refl _ W3) (.cells #[rh,rq,.slice a1 a2 a3,.slice d1 d2 d3] 49);have OB:=z7.set (g+1) 0 w4 (.slice (some ⟨g4,0,none⟩) (R.length+1) cc4);have S2:=S1.out.below ba;have hEA:(E+1)<W3.heap.size:=by omega
          have hr4:∀r,(Value.slice Av R.length cv).ownBlock=some r→N≤r:=fun r e=>(hvl r e).1;have hE4:(w4.setCell ⟨(g+1),0,none⟩ (.slice (some ⟨g4,0,none⟩) (R.length+1) cc4)).heap[(E+1)]?=(W3.alloc (.cells #[rh,rq,.slice a1 a2 a3,.slice d1 d2 d3] 49)).heap[(E+1)]?:=(OB.block (E+1) (by omega)).trans (HGW.out.block (E+1) (by simp;omega) (fun e=>by have:=hr4 (E+1) e.symm;omega))
          have hE3:(W3.alloc (.cells #[rh,rq,.slice a1 a2 a3,.slice d1 d2 d3] 49)).heap[(E+1)]?=W3.heap[(E+1)]?:=ba.block (E+1) hEA
          have S4:=S2.app HGW.out (fun r e=>by
           have h1:=hr4 r e;exact ⟨by omega,by omega,by omega,by omega,fun q o e' hn=>by have:=hAl2 q o e' hn;omega,(AV.out r e).same hE3⟩)
          refine ⟨(qO ba).trans ((JN R1.out.row HGW.out).trans (zV _ _ _ _)),⟨S4.nob (NoB.sl C4.out) OB (by omega) (by omega) (by omega) (by omega) (fun q o e hn=>by have:=hAl2 q o e hn;omega),⟨_,R++[⟨⟨rh,rq,rX,rD⟩,a1,a2,a3,d1,d2,d3⟩],C4.out.set1 _,(R1.out.app (Nat.le_refl _) XO.out XF.out HOW.out HGW.out HAT.out).only (Nat.le_refl _) OB (by omega),by rw [List.map_append,hmap,hrs];rfl,fun q e=>?_⟩,fun r hr=>(AP.out r hr).same (hE4.trans hE3),?_⟩,fun k h1 h2=>?_⟩
          ·rcases HAT.out with e'|e'
           ·exact (AV.out q (by rw [←e', e])).same (hE4.trans hE3)
           ·rw [e'] at e
            have hq:=Option.some.inj e;exact (ApE.new S2.2.2.2.2 (Nat.le_of_eq hq)).same hE4
          ·exact ((T1.out.below ba).row HGW.out (fun r e=>by have:=hr4 r e;omega)).trans (OB.touch (by simp))
          ·exact (OB.block k (by omega)).trans ((HGW.out.block k (by simp;omega) (fun e=>by have:=hr4 k e.symm;omega)).trans ((ba.block k (by omega)).trans (K3.out k (by omega) (by omega))))
         case done =>
          rintro D9 N9 s9 W9 hD9 hD92 hT9 ⟨hS,⟨v9,R9,hbx,hrc,hmap9,hapv9⟩,hap9,htc⟩ hdf9;have hT9:s9=zcp L:=hT9.trans hPJ2;subst hT9;have hGG9:∀q,q∈[E+1,g+1]→q=E+1∨q=g+1:=fun q hq=>by simpa using hq
          have hsz9:=htc.size;have X2:=za hS.2.2.2.2;have X1:=za (N2.out.touch htc (fun h=>by have:=hGG9 _ h;omega) (fun r hr=>AP2.out r (by have:=hGG9 _ hr;omega)));have RA:=za (R2.out.touch (Nat.le_refl _) htc (fun q hq=>by have:=hGG9 _ hq;omega));have RB:=za hrc;have GA:=za (htc.at_ G3.out (fun h=>by have:=hGG9 _ h;omega));have GB:=za hbx;have BF:=za (zD.low BV1.out BV1.out.size htc (fun q hq=>by have:=hGG9 _ hq;omega))
          have DA:=za ((htc.block D (by omega) (fun h=>by have:=hGG9 _ h;omega)).trans D5.out);have DB:=za hdf9;have hDD:D≠D9:=by omega
          have hMM:R9.map RV.r=R.map RV.r:=hmap9.trans HMAP.out.symm;have hlen9:R9.length=R.length:=by have:=congrArg List.length hMM;simpa using this
          have hR12:R.length≤12:=by
           have h1:=congrArg List.length HMAP.out;rw [zaf,List.length_map] at h1;rw [h1];unfold zcp;rw [List.length_map];omega
          obtain ⟨Av,cv,rfl⟩:=RA.out.form;obtain ⟨Aw,cw,rfl⟩:=RB.out.form;rw [hlen9] at RB GB;obtain ⟨M,hM⟩:=zc (R.length);rw [hM] at RA RB GA GB hR12 hlen9;have HMM:=za hMM;have HM:=za hM;have HM9:=za hlen9;clear hS hbx hrc hmap9 hapv9 hap9 htc hdf9 hPJ2 N2 AP2 R2 G3 G4 P3 D5 hMM hM hlen9;have a0:=GA.out.one;have b0:=GB.out.one;gi_wp2_with fail
          gi_loopw [22,106] (fun _ i wr=>∃j:Nat,j≤M∧i=.int .i64 j∧Hid (Below W9.heap.size W9 wr)) (fun _ i _=>M-(intOf i).toNat)
          case atStart=>exact ⟨0,by omega,rfl,za (Below.refl _ _)⟩
          case round =>
           obtain ⟨j,hj,rfl,HB⟩:=hrel;clear a0 b0
           by_cases hlt:j<M
           ·have hltI:(j:Int)<(M:Int):=by omega
            have hjR:j<R.length:=by rw [HM.out];exact hlt
            have hjR9:j<R9.length:=by rw [HM9.out];exact hlt
            obtain ⟨x,hx⟩:∃x,R[j]?=some x:=⟨_,List.getElem?_eq_getElem hjR⟩
            obtain ⟨y,hy⟩:∃y,R9[j]?=some y:=⟨_,List.getElem?_eq_getElem hjR9⟩
            have hxy:y.r=x.r:=by
             have h1:=congrArg (fun l=>l[j]?) HMM.out;simp only [List.getElem?_map,hx,hy,Option.map_some] at h1;exact Option.some.inj h1
            have RA1:=RA.out.below (Nat.le_refl _) HB.out;have RB1:=RB.out.below (Nat.le_refl _) HB.out;obtain ⟨ga,rfl,hca,x0,x1,x2,x3⟩:=RA1.at_ hx;obtain ⟨gb,rfl,hcb,y0,y1,y2,y3⟩:=RB1.at_ hy;have xo:=RA1.ok x (List.mem_of_getElem? hx);have yo:=RB1.ok y (List.mem_of_getElem? hy);rw [hxy] at y0 y1;have yX:zU wr y.a y.n y.c x.r.X:=by rw [←hxy];exact yo.X
            have yD:zU wr y.b y.m y.d x.r.D:=by rw [←hxy];exact yo.D
            have XX:=za xo.X;have XD:=za xo.D;have YX:=za yX;have YD:=za yD;have lX:=xo.lX;have lD:=xo.lD;have a0:=(GA.out.below HB.out).one;have b0:=(GB.out.below HB.out).one;have hjc:j<cv:=by omega
            have hjd:j<cw:=by omega
            obtain ⟨⟨rh,rq,rX,rD⟩,xa,xn,xc,xb,xm,xd⟩:=x;obtain ⟨yr,ya,yn,yc,yb,ym,yd⟩:=y;dsimp only at x0 x1 x2 x3 y0 y1 y2 y3 XX XD YX YD lX lD;clear hx hy hxy RA1 RB1 xo yo yX yD hjR hjR9;gi_wp2_with fail;refine Zn qJ 8 (by kernel_rfl) (by kernel_rfl) (by kernel_rfl) ?_;simp only [List.take_succ_cons,List.take_zero,List.drop_succ_cons,List.drop_zero]
            repeat (go_big_quiet_step (fail))
            refine wpQuiet_nil ?_;have hdr:Below wr.heap.size wr wr.drew:=⟨rfl,rfl,rfl,Nat.le_refl _,fun _ _=>rfl⟩
            clear x0 x1 x2 x3 y0 y1 y2 y3 a0 b0;gi_wp2_with fail;refine ⟨trivial,(zw 29 (zeR rh rq xa xn xc xb xm xd ya yn yc yb ym yd rX rD lX lD wr.drew (XX.out.below hdr) (XD.out.below hdr) (YX.out.below hdr) (YD.out.below hdr))).mono ?_⟩;rintro e w4 ⟨rfl,hb4⟩;have HB4:=za (zi (zi HB.out hdr) hb4);clear hb4 hdr;gi_wp2_with fail;go_roundw
            case rel=>exact ⟨j+1,by omega,by go_num,HB4⟩
            case measure=>simp [intOf];omega
           ·obtain rfl:M=j:=by omega
            have hokX:OkE (yk E00 (zcp L)):=zdT zgO _;obtain ⟨X,hX⟩:=zc (yk E00 (zcp L));rw [hX] at X1 X2 hokX;clear hX;have X1r:=za (X1.out.row (zN HB.out) (fun r e=>by cases e));have X2r:=za (X2.out.row (zN HB.out) (fun r e=>by cases e));have HQ:=za (fun (E:Nat) (W:World) (h:jY E bd X W)=>h.q hokX);have hq4:(qE X).n≤1000∧(qE X).p.length≤1000∧(qE X).s.length≤1000:=by obtain ⟨_,_,_,_,h1,h2,h3⟩:=X1r.out.q hokX;exact ⟨by omega,h2,h3⟩
            obtain ⟨pc1,hp1,hA1,hq1,hn1,hpl1,hsl1⟩:=HQ.out E _ X1r.out;gi_wp2_with fail;refine ⟨trivial,(zw 29 (JY E _ _ _ pc1 _ _ bd hp1 (qE X) _ hn1 hpl1 hsl1 wr hA1 hq1)).mono ?_⟩;rintro e w4 ⟨⟨u1,rfl,hv1⟩,hb4⟩;obtain ⟨qc1,rfl,_,_⟩:=hv1.agg;have B4:=za (zi HB.out hb4);have X2s:=X2r.out.row (zN hb4) (fun r e=>by cases e);have V1q:=za hv1;clear hA1 hq1 hb4 hv1;obtain ⟨pc2,hp2,hA2,hq2,hn2,hpl2,hsl2⟩:=HQ.out (E+1) _ X2s
            clear X2s;gi_wp2_with fail;refine ⟨trivial,(zw 29 (JY (E+1) _ _ _ pc2 _ _ bd hp2 (qE X) _ hn2 hpl2 hsl2 w4 hA2 hq2)).mono ?_⟩;rintro e w5 ⟨⟨u2,rfl,hv2⟩,hb5⟩;obtain ⟨qc2,rfl,_,_⟩:=hv2.agg;have B5:=za (zi B4.out hb5);have V2q:=za hv2;have V3q:=za (show Qr w5 _ (qE X) (.agg qc1) from qB.below V1q.out hb5);clear hA2 hq2 hb5 hv2;gi_wp2_with fail;refine ⟨trivial,(zw 29 (zfc V3q.out V2q.out hq4.1 hq4.2.1 hq4.2.2)).mono ?_⟩
            rintro e w6 ⟨rfl,hb6⟩;have B6:=za (zi B5.out hb6);clear hb6 V1q V2q V3q;obtain ⟨pd1,hd1,hA3,_⟩:=HQ.out E _ (X1.out.row (zN B6.out) (fun r e=>by cases e));gi_wp2_with fail;refine ⟨trivial,(zw 29 (VI E _ _ _ pd1 _ _ bd hd1 w6 hA3)).mono ?_⟩;rintro e w7 ⟨rfl,hb7⟩;have B7:=za (zi B6.out hb7);clear hb7 hA3;obtain ⟨pd2,hd2,hA4,_⟩:=HQ.out (E+1) _ (X2.out.row (zN B7.out) (fun r e=>by cases e))
            gi_wp2_with fail;refine ⟨trivial,(zw 29 (VI (E+1) _ _ _ pd2 _ _ bd hd2 w7 hA4)).mono ?_⟩;rintro e w8 ⟨rfl,hb8⟩;have B8:=za (zi B7.out hb8);clear hb8 hA4;unfold yG;have BFW:=za (zq BF.out BF.out.size B8.out);gi_wp2_with fail;refine ⟨trivial,(zw 29 (TH.out _ (HT.out.below BFW.out))).mono ?_⟩;rintro e w9 ⟨rfl,hb9⟩;have B9:=za (zi B8.out hb9);have BFF:=za (zq BFW.out BFW.out.size hb9)
            clear hb9;gi_wp2_with fail;have KA:=(B9.out.block D (Array.getElem?_eq_some_iff.1 DA.out).1).trans DA.out;have KB:=(B9.out.block D9 (Array.getElem?_eq_some_iff.1 DB.out).1).trans DB.out;have KA':=(World.putObj_heap_other (w:=w9) (o:=.deferred none) hDD).trans KA;refine ⟨by simp,.inl ⟨_,_,rfl,run_takeDeferred KB,⟨by simp,.inl ⟨_,_,rfl,run_takeDeferred KA', ?_⟩⟩⟩⟩;exact ⟨.bool true,(by simp [results,Tryz.results5,go_sem]),rfl,qu (qu BFF.out BFF.out.size (by omega) _) (by simp only [World.putObj,Array.size_setIfInBounds];exact BFF.out.size) (by omega) _⟩
end
end Go.Proofs.YtcoiklclbljjeaaGreatDoor.L
