/- Texts of one proof, merged: RofD10. -/
import Derived.Test.YtfihfjbakfadkaaGreatDoorMvO
import Derived.Test.YtfihfjbakfadkaaGreatDoorMvQ
import Derived.Test.YtfihfjbakfadkaaGreatDoorMvR
namespace Go.Proofs.YtfihfjbakfadkaaGreatDoor
open Go.RowKit Go.BigFrame
set_option maxRecDepth 100000
set_option linter.unusedVariables false
theorem VwS.farR {w w':World} {V:Vw} {A:Option Addr} {c X:Nat} {n hs hg:Int} {vc vr sl si:Value} {leaf:Bool} {lv:Lw} {iv:Vw} (h:VwS w V A c) (hX:Blk w X 48 (pgA n hs hg vc vr leaf lv sl iv si)) (hsl:∃ A n c,sl=.slice A n c) (hsi:∃ A n c,si=.slice A n c) (hvr:∃ A n c,vr=.slice A n c) (hf:Fr (only X) w w'):VwS w' V A c:=
  ⟨h.toVwIn.farR hX hsl hsi hvr hf,own_fr h.own hf (fun k hk e=>own_blk_ne h.own hX (by decide) (by rw [hk,show k=X from e]))⟩
theorem VwS.farZR {w w':World} {V:Vw} {A:Option Addr} {c X:Nat} (h:VwS w V A c) (hX:Blk w X 48 pgZ) (hf:Fr (only X) w w'):VwS w' V A c:=
  ⟨h.toVwIn.farZR hX hf,own_fr h.own hf (fun k hk e=>own_blk_ne h.own hX (by decide) (by rw [hk,show k=X from e]))⟩
def ROfPostD (bq:Nat) (n hs hg:Int) (vc vr:Value) (l:List Rc) (w:World) (e:Ending) (w':World):Prop:=
  (∃ leaf lv iv A c B d,ofM l=some (leaf,lv,iv)∧e=.returned (.tuple #[.agg (pgA n hs hg vc vr leaf lv (.slice A lv.rows.length c) iv (.slice B iv.ents.length d)),.int .i64 0])∧lv.Ok∧LwRd bq w' lv A c∧VwS w' iv B d∧Fr none_ w w') ∨
  (∃ k:Int,CodeOf l k∧e=.returned (.tuple #[.agg pgZ,.int .i64 k])∧Fr none_ w w')
set_option maxHeartbeats 8000000 in
theorem rof_okD (bq:Nat) (n hs hg:Int) (A:Option Addr) (m cap:Nat) (L:List Ch) (RA:Option Addr) (rn rc:Nat) (w:World) (h:ChReads w A m L) (hn:m≤400) (hs7:RwOkL L) (hcp:RwCap L) (he:∀ C ∈ L,C.R.ents.length≤500) (hbq:bq≤w.heap.size) (hrow:∀ C ∈ L,w.ownsRow bq 143 2 (.slice C.A C.R.rows.length C.c) C.R.rows.length (rwFlat C.R.rows)) (hent:∀ C ∈ L,w.ownsRow 0 59 2 (.slice C.B C.R.ents.length C.d) C.R.ents.length (etFlat C.R.ents)) :
  Calls Tryz.prog 10 #[.int .i64 n,.agg #[.int .i64 hs,.int .i64 hg],.slice A m cap,.slice RA rn rc] w (ROfPostD bq n hs hg (.slice A m cap) (.slice RA rn rc) (L.map (·.R)) w):=by
 have HROW:=hid_ hrow
 have HENT:=hid_ hent
 clear hrow hent
 have hln:=h.1
 obtain ⟨w0,hw0⟩:∃ z,z=(w.alloc (.cells #[.int .i64 hs,.int .i64 hg] 23)).alloc (.cells pgZ 48):=⟨_,rfl⟩
 have f0:Fr none_ w w0:=by rw [hw0];exact ((Fr.refl none_ w).alloc _).alloc _
 have BR:Hid (Blk w0 w.heap.size 23 #[.int .i64 hs,.int .i64 hg]):=hid_ (by rw [hw0];exact (Blk.new w _ _).alloc _)
 have BO:Hid (Blk w0 (w.heap.size+1) 48 pgZ):=hid_ (by rw [hw0];exact Blk.new7 _ _ (by simp))
 have F0:=hid_ f0
 have H:=hid_ h
 have HS:=hid_ (And.intro hs7 (And.intro hcp he))
 have hsz0:w.heap.size+1 < w0.heap.size:=BO.out.lt
 clear h f0 hs7 hcp he
 go_enter Tryz.func10,Tryz.ntmps10
 go_upto_region 1 with fail
 change Code.wp _ _ _ _ ((w.alloc (.cells #[.int .i64 hs,.int .i64 hg] 23)).alloc (.cells pgZ 48))
 rw [← hw0]
 clear hw0
 have c0:w0.cell? ⟨w.heap.size,0,none⟩=some (.int .i64 hs):=BR.out.cell' rfl
 have c1:w0.cell? ⟨w.heap.size,1,none⟩=some (.int .i64 hg):=BR.out.cell' rfl
 go_upto_region 2 with (refine wpList_store_mid rfl 48 (.tmp 10) (.tmp 19) rfl w0.heap.size 0 (pgA n hs hg (.slice A m cap) (.slice RA rn rc) false Lw.zero (.slice none 0 0) Vw.zero (.slice none 0 0)) rfl rfl (new_there w0 _ pgZ) rpage_size (by simp [Value.oneCell']) ?_;obtain ⟨w1,hw1⟩:∃ w1,w1=(w0.alloc (.cells pgZ 48)).setCells w0.heap.size 0 (pgA n hs hg (.slice A m cap) (.slice RA rn rc) false Lw.zero (.slice none 0 0) Vw.zero (.slice none 0 0)).toList:=⟨_,rfl⟩;change wpList _ _ _ _ _ ((w0.alloc (.cells pgZ 48)).setCells w0.heap.size 0 (pgA n hs hg (.slice A m cap) (.slice RA rn rc) false Lw.zero (.slice none 0 0) Vw.zero (.slice none 0 0)).toList);rw [← hw1];have P1:Hid (Blk w1 w0.heap.size 48 (pgA n hs hg (.slice A m cap) (.slice RA rn rc) false Lw.zero (.slice none 0 0) Vw.zero (.slice none 0 0))∧Fr none_ w0 w1):=hid_ (by rw [hw1];exact new_copy w0 _ pgZ _ rfl);clear hw1)
 clear c0 c1
 have BO1:=hid_ (BO.out.fr P1.out.2 id)
 have F1:=hid_ (F0.out.then_none P1.out.2)
 have BX:=hid_ P1.out.1
 have hsz1:=P1.out.2.size
 obtain ⟨X,hX⟩:∃ X,X=w0.heap.size:=⟨_,rfl⟩
 rw [← hX] at BX
 rw [← hX]
 have hXw:w.heap.size+1 < X:=by omega
 clear hX P1 BO F0 BR
 (try go_frame)
 go_cut [32] (fun v wq=>v=.bool (leafB (L.map (·.R)))∧wq=w1)
 case first =>
  rcases Nat.eq_zero_or_pos m with h0 | h0
  ·subst h0
   obtain rfl:L=[]:=List.eq_nil_of_length_eq_zero hln
   go_wp2_with fail
   go_meet
   case rel=>exact ⟨rfl,rfl⟩
  ·obtain ⟨q,rfl⟩:∃ q,m=q+1:=⟨m - 1,by omega⟩
   obtain ⟨D,hD⟩:∃ D,L[q]?=some D:=⟨_,List.getElem?_eq_getElem (by omega)⟩
   obtain ⟨b,off,rfl,hb,hR,hO⟩:=(H.out.keep F1.out).at_ hD
   have k0:w1.cell? ⟨b,off+q * 15,none⟩=some (.int .i64 D.R.kind):=hR 0 _ rfl
   have hlf:leafB (L.map (·.R))=(D.R.kind==1):=by
    unfold leafB
    rw [show (L.map (·.R))[(L.map (·.R)).length - 1]?=some D.R by rw [List.length_map,hln,show q+1 - 1=q from rfl];exact ch_at hD]
    by_cases h:D.R.kind=1 <;> simp [h]
   have HLF:=hid_ hlf
   have hi0:(0:Int)≤(q:Int):=Int.natCast_nonneg _
   have hi2:(q:Int) < (q:Int)+1:=by omega
   have hw1:IntKind.i64.wrap ((q:Int)+1 - 1)=(q:Int):=by rw [show (q:Int)+1 - 1=(q:Int) by omega];exact IntWalk.i64_in _ (by omega)
   have hg0:decide ((0:Int) < (q:Int)+1)=true:=decide_eq_true (by omega)
   clear hlf hD hR hO
   go_wp2_with fail
   go_meet
   case rel=>exact ⟨by rw [HLF.out],rfl⟩
 case rest =>
 obtain ⟨rfl,rfl⟩:=hcut
 obtain ⟨w1,rfl⟩:∃ z:World,z=wc:=⟨_,rfl⟩
 cases hB:leafB (L.map (·.R)) with
 | true =>
  have HB:=hid_ hB
  clear hB
  go_wp2_with fail
  refine (rfoldL_okC bq A m cap L w1 (H.out.keep F1.out) hn HS.out.1 HS.out.2.1 (Nat.le_trans hbq F1.out.size) (fun C hC=>own_none (HROW.out C hC) F1.out)).mono ?_
  rintro e w2 (⟨V,A',c',hkd,hfo,rfl,hvin,hf2⟩ | ⟨q,hq,rfl,hf2⟩)
  ·have VI:=hid_ hvin
   have HOF:Hid (ofM (L.map (·.R))=some (true,V,Vw.zero)):=hid_ (by unfold ofM;rw [if_pos HB.out,hfo];rfl)
   clear hvin hfo hkd
   have F2:=hid_ (F1.out.then_none hf2)
   have BX2:=hid_ (BX.out.fr hf2 id)
   have BO2:=hid_ (BO1.out.fr hf2 id)
   have hsz2:=hf2.size
   have hbx2:=BX.out.lt
   go_upto_region 4 with (refine wpList_store_mid rfl 45 (.tmp 11) (.tmp 36) rfl w2.heap.size 0 (lwA V (.slice A' V.rows.length c')) rfl rfl (new_there w2 _ lwZ) rview_size7 (by simp [Value.oneCell']) ?_;obtain ⟨w3,hw3⟩:∃ z,z=(w2.alloc (.cells lwZ 45)).setCells w2.heap.size 0 (lwA V (.slice A' V.rows.length c')).toList:=⟨_,rfl⟩;change wpList _ _ _ _ _ ((w2.alloc (.cells lwZ 45)).setCells w2.heap.size 0 (lwA V (.slice A' V.rows.length c')).toList);rw [← hw3];have P3:Hid (Blk w3 w2.heap.size 45 (lwA V (.slice A' V.rows.length c'))∧Fr none_ w2 w3):=hid_ (by rw [hw3];exact new_copy w2 _ lwZ _ rfl);clear hw3)
   have F3:=hid_ (F2.out.then_none P3.out.2)
   have BX3:=hid_ (BX2.out.fr P3.out.2 id)
   have BO3:=hid_ (BO2.out.fr P3.out.2 id)
   clear BX2 BO2 F2
   have x5:w3.cell? ⟨X,5,none⟩=some (.bool false):=BX3.out.cell' rfl
   have y5:=BX3.out.frozen 5
   go_upto_region 7 with fail
   obtain ⟨w4,hw4⟩:∃ z,z=w3.setCell ⟨X,5,none⟩ (.bool true):=⟨_,rfl⟩
   have f4:Fr (only X) w3 w4:=by rw [hw4];exact Fr.only1 w3 ⟨X,5,none⟩ _
   have BX4:Hid (Blk w4 X 48 (pgA n hs hg (.slice A m cap) (.slice RA rn rc) true Lw.zero (.slice none 0 0) Vw.zero (.slice none 0 0))):=hid_ (by rw [hw4];exact BX3.out.set_ 5 _)
   change Code.wp _ _ _ _ (w3.setCell ⟨X,5,none⟩ (.bool true))
   rw [← hw4]
   clear hw4 x5 y5
   have PV:=hid_ (P3.out.1.fr f4 (only_ne (by omega)))
   have a0:w4.cell? ⟨w2.heap.size,0,none⟩=some (.string V.low):=PV.out.cell' rfl
   have a1:w4.cell? ⟨w2.heap.size,1,none⟩=some (.string V.high):=PV.out.cell' rfl
   have a2:w4.cell? ⟨w2.heap.size,2,none⟩=some (.bool V.unb):=PV.out.cell' rfl
   have a3:w4.cell? ⟨w2.heap.size,3,none⟩=some (.int .i64 V.right):=PV.out.cell' rfl
   have a4:w4.cell? ⟨w2.heap.size,4,none⟩=some (.slice A' V.rows.length c'):=PV.out.cell' rfl
   have a5:w4.cell? ⟨w2.heap.size,5,none⟩=some (.bool V.gone):=PV.out.cell' rfl
   have x6:w4.cell? ⟨X,6,none⟩=some (.string nilS):=BX4.out.cell' rfl
   have zx6:=BX4.out.frozen 6
   have x7:w4.cell? ⟨X,7,none⟩=some (.string nilS):=BX4.out.cell' rfl
   have zx7:=BX4.out.frozen 7
   have x8:w4.cell? ⟨X,8,none⟩=some (.bool false):=BX4.out.cell' rfl
   have zx8:=BX4.out.frozen 8
   have x9:w4.cell? ⟨X,9,none⟩=some (.int .i64 0):=BX4.out.cell' rfl
   have zx9:=BX4.out.frozen 9
   have x10:w4.cell? ⟨X,10,none⟩=some (.slice none 0 0):=BX4.out.cell' rfl
   have zx10:=BX4.out.frozen 10
   have x11:w4.cell? ⟨X,11,none⟩=some (.bool false):=BX4.out.cell' rfl
   have zx11:=BX4.out.frozen 11
   go_upto_region 8 with fail
   obtain ⟨w5,hw5⟩:∃ z,z=((((((w4.setCell ⟨X,6,none⟩ (.string V.low)).setCell ⟨X,7,none⟩ (.string V.high)).setCell ⟨X,8,none⟩ (.bool V.unb)).setCell ⟨X,9,none⟩ (.int .i64 V.right)).setCell ⟨X,10,none⟩ (.slice A' V.rows.length c')).setCell ⟨X,11,none⟩ (.bool V.gone)):=⟨_,rfl⟩
   have f5:Fr (only X) w4 w5:=by rw [hw5];exact frOnly7 (frOnly7 (frOnly7 (frOnly7 (frOnly7 (frOnly7 (Fr.refl (only X) w4) _) _) _) _) _) _
   have BX5:Hid (Blk w5 X 48 (pgA n hs hg (.slice A m cap) (.slice RA rn rc) true V (.slice A' V.rows.length c') Vw.zero (.slice none 0 0))):=hid_ (by
    rw [hw5]
    have e:=((((((BX4.out.set_ 6 (.string V.low)).set_ 7 (.string V.high)).set_ 8 (.bool V.unb)).set_ 9 (.int .i64 V.right)).set_ 10 (.slice A' V.rows.length c')).set_ 11 (.bool V.gone))
    simp only [List.setIfInBounds_toArray,List.set_cons_zero,List.set_cons_succ] at e
    exact e)
   change Code.wp _ _ _ _ (((((((w4.setCell ⟨X,6,none⟩ (.string V.low)).setCell ⟨X,7,none⟩ (.string V.high)).setCell ⟨X,8,none⟩ (.bool V.unb)).setCell ⟨X,9,none⟩ (.int .i64 V.right)).setCell ⟨X,10,none⟩ (.slice A' V.rows.length c')).setCell ⟨X,11,none⟩ (.bool V.gone)))
   rw [← hw5]
   clear hw5 a0 a1 a2 a3 a4 a5 x6 zx6 x7 zx7 x8 zx8 x9 zx9 x10 zx10 x11 zx11
   have hf35:Fr (only X) w3 w5:=f4.then_only f5 (.inl rfl)
   have BO5:=hid_ (BO3.out.fr hf35 (only_ne (by omega)))
   have F5:=hid_ (F3.out.then_only hf35 (.inr (by omega)))
   have VI5L:=hid_ ((VI.out.keep P3.out.2).far BX3.out (by decide) (by omega) hf35)
   clear f4 f5 hf35
   go_wp2_with (first | (refine wpList_load_mid rfl 48 (.tmp 10) rfl X 0 rfl (pgA n hs hg (.slice A m cap) (.slice RA rn rc) true V (.slice A' V.rows.length c') Vw.zero (.slice none 0 0)).toList _ (Blk.range7 (l:=(pgA n hs hg (.slice A m cap) (.slice RA rn rc) true V (.slice A' V.rows.length c') Vw.zero (.slice none 0 0)).toList) BX5.out) Tryz.underlying48 rfl rpage_size ?_) | (refine wpList_store_mid rfl 48 (.tmp 8) (.tmp 45) rfl (w.heap.size+1) 0 (pgA n hs hg (.slice A m cap) (.slice RA rn rc) true V (.slice A' V.rows.length c') Vw.zero (.slice none 0 0)) rfl rfl (BO5.out.there7 rfl) rpage_size (by simp [Value.oneCell']) ?_;have ov:=BO5.out.over7 (pgA n hs hg (.slice A m cap) (.slice RA rn rc) true V (.slice A' V.rows.length c') Vw.zero (.slice none 0 0)).toList rfl;obtain ⟨w9,hw9⟩:∃ z,z=w5.setCells (w.heap.size+1) 0 (pgA n hs hg (.slice A m cap) (.slice RA rn rc) true V (.slice A' V.rows.length c') Vw.zero (.slice none 0 0)).toList:=⟨_,rfl⟩;rw [← hw9] at ov;change wpList _ _ _ _ _ (w5.setCells (w.heap.size+1) 0 (pgA n hs hg (.slice A m cap) (.slice RA rn rc) true V (.slice A' V.rows.length c') Vw.zero (.slice none 0 0)).toList);rw [← hw9];have OV:=hid_ ov;clear hw9 ov))
   refine bodyPost_ret (results_cell_tmp7 _ _ rfl (w.heap.size+1) 0 (pgA n hs hg (.slice A m cap) (.slice RA rn rc) true V (.slice A' V.rows.length c') Vw.zero (.slice none 0 0)).toList _ rfl (Blk.range7 (l:=(pgA n hs hg (.slice A m cap) (.slice RA rn rc) true V (.slice A' V.rows.length c') Vw.zero (.slice none 0 0)).toList) OV.out.1) Tryz.underlying48 rfl rpage_size) rfl (.inl ⟨true,V,Vw.zero,A',c',none,0,HOF.out,rfl,VI.out.ok,(VI5L.out.far BO5.out (by decide) (by omega) OV.out.2),⟨VwIn.zero _,World.ownsRow_nil _ _ _ _⟩,F5.out.then_only OV.out.2 (.inr (by omega))⟩)
  ·have HCO:=hid_ (codeL HB.out hq)
   have hq0:q=9∨q=10:=hq.imp (fun h=>h.1) (fun h=>h.1)
   clear hq
   have F2:=hid_ (F1.out.then_none hf2)
   have BX2:=hid_ (BX.out.fr hf2 id)
   have BO2:=hid_ (BO1.out.fr hf2 id)
   have hsz2:=hf2.size
   have hbx2:=BX.out.lt
   go_upto_region 4 with (refine wpList_store_mid rfl 45 (.tmp 11) (.tmp 36) rfl w2.heap.size 0 (lwA Lw.zero (.slice none 0 0)) rfl rfl (new_there w2 _ lwZ) rview_size7 (by simp [Value.oneCell']) ?_;obtain ⟨w3,hw3⟩:∃ z,z=(w2.alloc (.cells lwZ 45)).setCells w2.heap.size 0 (lwA Lw.zero (.slice none 0 0)).toList:=⟨_,rfl⟩;change wpList _ _ _ _ _ ((w2.alloc (.cells lwZ 45)).setCells w2.heap.size 0 (lwA Lw.zero (.slice none 0 0)).toList);rw [← hw3];have P3:Hid (Blk w3 w2.heap.size 45 (lwA Lw.zero (.slice none 0 0))∧Fr none_ w2 w3):=hid_ (by rw [hw3];exact new_copy w2 _ lwZ _ rfl);clear hw3)
   have F3:=hid_ (F2.out.then_none P3.out.2)
   have BX3:=hid_ (BX2.out.fr P3.out.2 id)
   have BO3:=hid_ (BO2.out.fr P3.out.2 id)
   clear BX2 BO2 F2
   rcases hq0 with rfl | rfl
   ·skip
    go_wp2_with (refine wpList_store_mid rfl 48 (.tmp 8) (.tmp 40) rfl (w.heap.size+1) 0 pgZ rfl rfl (BO3.out.there7 rfl) rpage_size (by simp [Value.oneCell']) ?_;have ov:=BO3.out.over7 (pgZ).toList rfl;obtain ⟨w9,hw9⟩:∃ z,z=w3.setCells (w.heap.size+1) 0 (pgZ).toList:=⟨_,rfl⟩;rw [← hw9] at ov;change wpList _ _ _ _ _ (w3.setCells (w.heap.size+1) 0 (pgZ).toList);rw [← hw9];have OV:=hid_ ov;clear hw9 ov)
    refine bodyPost_ret (results_cell_tmp7 _ _ rfl (w.heap.size+1) 0 (pgZ).toList _ rfl (Blk.range7 (l:=(pgZ).toList) OV.out.1) Tryz.underlying48 rfl rpage_size) rfl (.inr ⟨_,HCO.out,rfl,F3.out.then_only OV.out.2 (.inr (by omega))⟩)
   ·skip
    go_wp2_with (refine wpList_store_mid rfl 48 (.tmp 8) (.tmp 40) rfl (w.heap.size+1) 0 pgZ rfl rfl (BO3.out.there7 rfl) rpage_size (by simp [Value.oneCell']) ?_;have ov:=BO3.out.over7 (pgZ).toList rfl;obtain ⟨w9,hw9⟩:∃ z,z=w3.setCells (w.heap.size+1) 0 (pgZ).toList:=⟨_,rfl⟩;rw [← hw9] at ov;change wpList _ _ _ _ _ (w3.setCells (w.heap.size+1) 0 (pgZ).toList);rw [← hw9];have OV:=hid_ ov;clear hw9 ov)
    refine bodyPost_ret (results_cell_tmp7 _ _ rfl (w.heap.size+1) 0 (pgZ).toList _ rfl (Blk.range7 (l:=(pgZ).toList) OV.out.1) Tryz.underlying48 rfl rpage_size) rfl (.inr ⟨_,HCO.out,rfl,F3.out.then_only OV.out.2 (.inr (by omega))⟩)
 | false =>
  have HB:=hid_ hB
  clear hB
  go_wp2_with fail
  refine (rfoldU_okB A m cap L w1 (H.out.keep F1.out) hn HS.out.2.2 (fun C hC=>own_none (HENT.out C hC) F1.out)).mono ?_
  rintro e w2 (⟨V,A',c',hkd,hfo,rfl,hvin,hf2⟩ | ⟨q,hq,rfl,hf2⟩)
  ·have VI:=hid_ hvin
   have HOF:Hid (ofM (L.map (·.R))=some (false,Lw.zero,V)):=hid_ (by unfold ofM;rw [if_neg (by rw [HB.out];decide),hfo];rfl)
   clear hvin hfo hkd
   have F2:=hid_ (F1.out.then_none hf2)
   have BX2:=hid_ (BX.out.fr hf2 id)
   have BO2:=hid_ (BO1.out.fr hf2 id)
   have hsz2:=hf2.size
   have hbx2:=BX.out.lt
   go_upto_region 10 with (refine wpList_store_mid rfl 46 (.tmp 13) (.tmp 49) rfl w2.heap.size 0 (vwA V (.slice A' V.ents.length c')) rfl rfl (new_there w2 _ vwZ8) rvw_size8 (by simp [Value.oneCell']) ?_;obtain ⟨w3,hw3⟩:∃ z,z=(w2.alloc (.cells vwZ8 46)).setCells w2.heap.size 0 (vwA V (.slice A' V.ents.length c')).toList:=⟨_,rfl⟩;change wpList _ _ _ _ _ ((w2.alloc (.cells vwZ8 46)).setCells w2.heap.size 0 (vwA V (.slice A' V.ents.length c')).toList);rw [← hw3];have P3:Hid (Blk w3 w2.heap.size 46 (vwA V (.slice A' V.ents.length c'))∧Fr none_ w2 w3):=hid_ (by rw [hw3];exact new_copy w2 _ vwZ8 _ rfl);clear hw3)
   have F3:=hid_ (F2.out.then_none P3.out.2)
   have BX3:=hid_ (BX2.out.fr P3.out.2 id)
   have BO3:=hid_ (BO2.out.fr P3.out.2 id)
   clear BX2 BO2 F2
   have x12:w3.cell? ⟨X,12,none⟩=some (.string nilS):=BX3.out.cell' rfl
   have zx12:=BX3.out.frozen 12
   have x13:w3.cell? ⟨X,13,none⟩=some (.string nilS):=BX3.out.cell' rfl
   have zx13:=BX3.out.frozen 13
   have x14:w3.cell? ⟨X,14,none⟩=some (.bool false):=BX3.out.cell' rfl
   have zx14:=BX3.out.frozen 14
   have x15:w3.cell? ⟨X,15,none⟩=some (.int .i64 0):=BX3.out.cell' rfl
   have zx15:=BX3.out.frozen 15
   have x16:w3.cell? ⟨X,16,none⟩=some (.slice none 0 0):=BX3.out.cell' rfl
   have zx16:=BX3.out.frozen 16
   have x17:w3.cell? ⟨X,17,none⟩=some (.bool false):=BX3.out.cell' rfl
   have zx17:=BX3.out.frozen 17
   have x18:w3.cell? ⟨X,18,none⟩=some (.int .i64 0):=BX3.out.cell' rfl
   have zx18:=BX3.out.frozen 18
   have x19:w3.cell? ⟨X,19,none⟩=some (.int .i64 0):=BX3.out.cell' rfl
   have zx19:=BX3.out.frozen 19
   have x20:w3.cell? ⟨X,20,none⟩=some (.string nilS):=BX3.out.cell' rfl
   have zx20:=BX3.out.frozen 20
   go_upto_region 13 with (refine wpList_load_mid rfl 46 (.tmp 13) rfl w2.heap.size 0 rfl (vwA V (.slice A' V.ents.length c')).toList _ (Blk.range7 (l:=(vwA V (.slice A' V.ents.length c')).toList) P3.out.1) Tryz.underlying46 rfl rvw_size8 ?_)
   obtain ⟨w5,hw5⟩:∃ z,z=(((((((((w3.setCell ⟨X,12,none⟩ (.string V.low)).setCell ⟨X,13,none⟩ (.string V.high)).setCell ⟨X,14,none⟩ (.bool V.unb)).setCell ⟨X,15,none⟩ (.int .i64 V.right)).setCell ⟨X,16,none⟩ (.slice A' V.ents.length c')).setCell ⟨X,17,none⟩ (.bool V.held)).setCell ⟨X,18,none⟩ (.int .i64 V.hp)).setCell ⟨X,19,none⟩ (.int .i64 V.hl)).setCell ⟨X,20,none⟩ (.string V.hk)):=⟨_,rfl⟩
   have f5:Fr (only X) w3 w5:=by rw [hw5];exact frOnly7 (frOnly7 (frOnly7 (frOnly7 (frOnly7 (frOnly7 (frOnly7 (frOnly7 (frOnly7 (Fr.refl (only X) w3) _) _) _) _) _) _) _) _) _
   have BX5:Hid (Blk w5 X 48 (pgA n hs hg (.slice A m cap) (.slice RA rn rc) false Lw.zero (.slice none 0 0) V (.slice A' V.ents.length c'))):=hid_ (by
    rw [hw5]
    have e:=(((((((((BX3.out.set_ 12 (.string V.low)).set_ 13 (.string V.high)).set_ 14 (.bool V.unb)).set_ 15 (.int .i64 V.right)).set_ 16 (.slice A' V.ents.length c')).set_ 17 (.bool V.held)).set_ 18 (.int .i64 V.hp)).set_ 19 (.int .i64 V.hl)).set_ 20 (.string V.hk))
    simp only [List.setIfInBounds_toArray,List.set_cons_zero,List.set_cons_succ] at e
    exact e)
   change Code.wp _ _ _ _ ((((((((((w3.setCell ⟨X,12,none⟩ (.string V.low)).setCell ⟨X,13,none⟩ (.string V.high)).setCell ⟨X,14,none⟩ (.bool V.unb)).setCell ⟨X,15,none⟩ (.int .i64 V.right)).setCell ⟨X,16,none⟩ (.slice A' V.ents.length c')).setCell ⟨X,17,none⟩ (.bool V.held)).setCell ⟨X,18,none⟩ (.int .i64 V.hp)).setCell ⟨X,19,none⟩ (.int .i64 V.hl)).setCell ⟨X,20,none⟩ (.string V.hk)))
   rw [← hw5]
   clear hw5 x12 zx12 x13 zx13 x14 zx14 x15 zx15 x16 zx16 x17 zx17 x18 zx18 x19 zx19 x20 zx20
   have BO5:=hid_ (BO3.out.fr f5 (only_ne (by omega)))
   have VI5:Hid (VwS w5 V A' c'):=hid_ ((VI.out.keep P3.out.2).farR BX3.out ⟨_,_,_,rfl⟩ ⟨_,_,_,rfl⟩ ⟨_,_,_,rfl⟩ f5)
   have F5:=hid_ (F3.out.then_only f5 (.inr (by omega)))
   clear f5
   go_wp2_with (first | (refine wpList_load_mid rfl 48 (.tmp 10) rfl X 0 rfl (pgA n hs hg (.slice A m cap) (.slice RA rn rc) false Lw.zero (.slice none 0 0) V (.slice A' V.ents.length c')).toList _ (Blk.range7 (l:=(pgA n hs hg (.slice A m cap) (.slice RA rn rc) false Lw.zero (.slice none 0 0) V (.slice A' V.ents.length c')).toList) BX5.out) Tryz.underlying48 rfl rpage_size ?_) | (refine wpList_store_mid rfl 48 (.tmp 8) (.tmp 57) rfl (w.heap.size+1) 0 (pgA n hs hg (.slice A m cap) (.slice RA rn rc) false Lw.zero (.slice none 0 0) V (.slice A' V.ents.length c')) rfl rfl (BO5.out.there7 rfl) rpage_size (by simp [Value.oneCell']) ?_;have ov:=BO5.out.over7 (pgA n hs hg (.slice A m cap) (.slice RA rn rc) false Lw.zero (.slice none 0 0) V (.slice A' V.ents.length c')).toList rfl;obtain ⟨w9,hw9⟩:∃ z,z=w5.setCells (w.heap.size+1) 0 (pgA n hs hg (.slice A m cap) (.slice RA rn rc) false Lw.zero (.slice none 0 0) V (.slice A' V.ents.length c')).toList:=⟨_,rfl⟩;rw [← hw9] at ov;change wpList _ _ _ _ _ (w5.setCells (w.heap.size+1) 0 (pgA n hs hg (.slice A m cap) (.slice RA rn rc) false Lw.zero (.slice none 0 0) V (.slice A' V.ents.length c')).toList);rw [← hw9];have OV:=hid_ ov;clear hw9 ov))
   refine bodyPost_ret (results_cell_tmp7 _ _ rfl (w.heap.size+1) 0 (pgA n hs hg (.slice A m cap) (.slice RA rn rc) false Lw.zero (.slice none 0 0) V (.slice A' V.ents.length c')).toList _ rfl (Blk.range7 (l:=(pgA n hs hg (.slice A m cap) (.slice RA rn rc) false Lw.zero (.slice none 0 0) V (.slice A' V.ents.length c')).toList) OV.out.1) Tryz.underlying48 rfl rpage_size) rfl (.inl ⟨false,Lw.zero,V,none,0,A',c',HOF.out,rfl,(LwRd.zero 0 w).ok,LwRd.zero bq _,VI5.out.farZR BO5.out OV.out.2,F5.out.then_only OV.out.2 (.inr (by omega))⟩)
  ·have HCO:=hid_ (codeU HB.out hq)
   have hq0:q=9∨q=10:=hq.imp (fun h=>h.1) (fun h=>h.1)
   clear hq
   have F2:=hid_ (F1.out.then_none hf2)
   have BX2:=hid_ (BX.out.fr hf2 id)
   have BO2:=hid_ (BO1.out.fr hf2 id)
   have hsz2:=hf2.size
   have hbx2:=BX.out.lt
   go_upto_region 10 with (refine wpList_store_mid rfl 46 (.tmp 13) (.tmp 49) rfl w2.heap.size 0 (vwA Vw.zero (.slice none 0 0)) rfl rfl (new_there w2 _ vwZ8) rvw_size8 (by simp [Value.oneCell']) ?_;obtain ⟨w3,hw3⟩:∃ z,z=(w2.alloc (.cells vwZ8 46)).setCells w2.heap.size 0 (vwA Vw.zero (.slice none 0 0)).toList:=⟨_,rfl⟩;change wpList _ _ _ _ _ ((w2.alloc (.cells vwZ8 46)).setCells w2.heap.size 0 (vwA Vw.zero (.slice none 0 0)).toList);rw [← hw3];have P3:Hid (Blk w3 w2.heap.size 46 (vwA Vw.zero (.slice none 0 0))∧Fr none_ w2 w3):=hid_ (by rw [hw3];exact new_copy w2 _ vwZ8 _ rfl);clear hw3)
   have F3:=hid_ (F2.out.then_none P3.out.2)
   have BX3:=hid_ (BX2.out.fr P3.out.2 id)
   have BO3:=hid_ (BO2.out.fr P3.out.2 id)
   clear BX2 BO2 F2
   rcases hq0 with rfl | rfl
   ·skip
    go_wp2_with (refine wpList_store_mid rfl 48 (.tmp 8) (.tmp 53) rfl (w.heap.size+1) 0 pgZ rfl rfl (BO3.out.there7 rfl) rpage_size (by simp [Value.oneCell']) ?_;have ov:=BO3.out.over7 (pgZ).toList rfl;obtain ⟨w9,hw9⟩:∃ z,z=w3.setCells (w.heap.size+1) 0 (pgZ).toList:=⟨_,rfl⟩;rw [← hw9] at ov;change wpList _ _ _ _ _ (w3.setCells (w.heap.size+1) 0 (pgZ).toList);rw [← hw9];have OV:=hid_ ov;clear hw9 ov)
    refine bodyPost_ret (results_cell_tmp7 _ _ rfl (w.heap.size+1) 0 (pgZ).toList _ rfl (Blk.range7 (l:=(pgZ).toList) OV.out.1) Tryz.underlying48 rfl rpage_size) rfl (.inr ⟨_,HCO.out,rfl,F3.out.then_only OV.out.2 (.inr (by omega))⟩)
   ·skip
    go_wp2_with (refine wpList_store_mid rfl 48 (.tmp 8) (.tmp 53) rfl (w.heap.size+1) 0 pgZ rfl rfl (BO3.out.there7 rfl) rpage_size (by simp [Value.oneCell']) ?_;have ov:=BO3.out.over7 (pgZ).toList rfl;obtain ⟨w9,hw9⟩:∃ z,z=w3.setCells (w.heap.size+1) 0 (pgZ).toList:=⟨_,rfl⟩;rw [← hw9] at ov;change wpList _ _ _ _ _ (w3.setCells (w.heap.size+1) 0 (pgZ).toList);rw [← hw9];have OV:=hid_ ov;clear hw9 ov)
    refine bodyPost_ret (results_cell_tmp7 _ _ rfl (w.heap.size+1) 0 (pgZ).toList _ rfl (Blk.range7 (l:=(pgZ).toList) OV.out.1) Tryz.underlying48 rfl rpage_size) rfl (.inr ⟨_,HCO.out,rfl,F3.out.then_only OV.out.2 (.inr (by omega))⟩)
end Go.Proofs.YtfihfjbakfadkaaGreatDoor
