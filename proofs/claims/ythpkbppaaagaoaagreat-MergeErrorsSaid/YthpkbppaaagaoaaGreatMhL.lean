/- Texts of one proof, merged: Hs13. -/
import Derived.Test.YthpkbppaaagaoaaGreatMhK
namespace Go.Proofs.YthpkbppaaagaoaaGreat
open Go.RowKit Go.BigFrame
set_option maxRecDepth 100000
set_option linter.unusedVariables false

def BoolE (e:Ending):Prop:=∃ b,e=.returned (.bool b)
set_option maxHeartbeats 8000000 in
theorem loaded_go {w:World} {h g:Nat} {H:Hm} {s:LdS} {V:Lw} {Q:Ending→World→Prop} (hb:HpB w h H) (hl:H.lv=.pointer (some ⟨g,0,none⟩)) (ht:H.tv=goingF h)
  (hp:Calls Tryz.prog 79 #[.pointer (some ⟨g,0,none⟩)] w fun e w'=>∃ v,e=.returned v∧LdMadeL w.heap.size V s w v w')
  (hth:∀ (w1:World) (C:Option Addr) (nc x:Nat) (D:Option Addr) (nr y:Nat) (A:Option Addr) (c:Nat),Fr none_ w w1→LwIn w.heap.size w1 V A c→Calls Tryz.prog 74 #[.pointer (some ⟨h,0,none⟩),.agg (lfA s.n s.hs s.hg (.slice C nc x) (.slice D nr y) V A c)] w1 Q) (hQ:∀ e w',Q e w'→BoolE e) :
  Calls Tryz.prog 46 #[.pointer (some ⟨h,0,none⟩)] w Q:=by
 have HB:=hid_ hb
 have HT:=hid_ ht
 have HP:=hid_ hp
 have TH:=hid_ hth
 have HQ:=hid_ hQ
 have c7:w.cell? ⟨h,7,none⟩=some (.pointer (some ⟨g,0,none⟩)):=by rw [← hl];exact hb.cell' rfl
 clear hb hl ht hp hth hQ
 go_enter Tryz.func46,Tryz.ntmps46
 go_wp2_with fail
 refine HP.out.mono ?_
 rintro e w1 ⟨v,rfl,⟨A,c,C,x,D,y,nc,nr,rfl,hv⟩,hf1⟩
 have HB1:=hid_ (HB.out.fr hf1 id)
 have LV:=hid_ hv
 have F1:=hid_ hf1
 clear hf1 hv c7
 go_upto_region 2 with (refine wpList_store_mid rfl 140 (.tmp 3) (.tmp 11) rfl w1.heap.size 0 (lfA s.n s.hs s.hg (.slice C nc x) (.slice D nr y) V A c) rfl rfl (new_there w1 _ pgZ) page_size (by simp [Value.oneCell']) ?_;obtain ⟨w2,hw2⟩:∃ z,z=(w1.alloc (.cells pgZ 140)).setCells w1.heap.size 0 (lfA s.n s.hs s.hg (.slice C nc x) (.slice D nr y) V A c).toList:=⟨_,rfl⟩;change wpList _ _ _ _ _ ((w1.alloc (.cells pgZ 140)).setCells w1.heap.size 0 (lfA s.n s.hs s.hg (.slice C nc x) (.slice D nr y) V A c).toList);rw [← hw2];have P2:Hid (Blk w2 w1.heap.size 140 (lfA s.n s.hs s.hg (.slice C nc x) (.slice D nr y) V A c)∧Fr none_ w1 w2):=hid_ (by rw [hw2];exact new_copy w1 _ pgZ (lfA s.n s.hs s.hg (.slice C nc x) (.slice D nr y) V A c).toList rfl);clear hw2)
 have BP2:=hid_ P2.out.1
 have HB2:=hid_ (HB1.out.fr P2.out.2 id)
 have F2:=hid_ (F1.out.then_none P2.out.2)
 have LV2:=hid_ (LV.out.keep P2.out.2)
 clear P2 HB1 F1 LV
 have p5:w2.cell? ⟨w1.heap.size,5,none⟩=some (.bool true):=BP2.out.cell' rfl
 go_upto_region 6 with fail
 have hS0:(fun w':World=>HpB w' h H∧Blk w' w1.heap.size 140 (lfA s.n s.hs s.hg (.slice C nc x) (.slice D nr y) V A c)) w2.drew:=⟨HB2.out.drew,BP2.out.drew⟩
 refine wp_region_u 5 (fun w':World=>HpB w' h H∧Blk w' w1.heap.size 140 (lfA s.n s.hs s.hg (.slice C nc x) (.slice D nr y) V A c)) (by kernel_rfl) ?_
 refine u_take 0 (some 26) (.pointer (some ⟨h,0,none⟩)) rfl rfl (by kernel_rfl) (by kernel_rfl) (by kernel_rfl) (by kernel_rfl) (fun _ _ _ h=>h) (y_val (by kernel_rfl) (fun w' hS=>by kernel_rfl)) hS0 ?_
 go_frame
 refine u_take 1 (some 27) (.pointer (some ⟨h,0,none⟩)) rfl rfl (by kernel_rfl) (by kernel_rfl) (by kernel_rfl) (by kernel_rfl) (fun _ _ _ h=>h) (y_val (by kernel_rfl) (fun w' hS=>by kernel_rfl)) hS0 ?_
 go_frame
 refine u_take 2 (some 28) (.pointer (some ⟨h,9,none⟩)) rfl rfl (by kernel_rfl) (by kernel_rfl) (by kernel_rfl) (by kernel_rfl) (fun _ _ _ h=>h) (y_val (by kernel_rfl) (fun w' hS=>by kernel_rfl)) hS0 ?_
 go_frame
 refine u_take 3 (some 29) (goingF h) rfl rfl (by kernel_rfl) (by kernel_rfl) (by kernel_rfl) (by kernel_rfl) (fun _ _ _ h=>h) (y_cell 99 (.tmp 28) ⟨h,9,none⟩ _ (by kernel_rfl) rfl (by kernel_rfl) (fun w' hS=>by rw [← HT.out];exact hS.1.cell' rfl) Tryz.underlying99 rfl) hS0 ?_
 go_frame
 refine u_take 4 (some 30) (.agg (lfA s.n s.hs s.hg (.slice C nc x) (.slice D nr y) V A c)) rfl rfl (by kernel_rfl) (by kernel_rfl) (by kernel_rfl) (by kernel_rfl) (fun _ _ _ h=>h) (yieldsIf_load_mid (by kernel_rfl) 140 (.tmp 3) rfl w1.heap.size 0 (by kernel_rfl) (lfA s.n s.hs s.hg (.slice C nc x) (.slice D nr y) V A c).toList _ (fun w' hS=>hS.2.all13) Tryz.underlying140 rfl page_size) hS0 ?_
 go_frame
 clear hS0 p5
 refine u_callN 5 (some 31) 74 #[.pointer (some ⟨h,0,none⟩),.agg (lfA s.n s.hs s.hg (.slice C nc x) (.slice D nr y) V A c)] (fun v w'=>(∃ b,v=.bool b)∧Q (.returned v) w') rfl rfl (by kernel_rfl) (by kernel_rfl) (by kernel_rfl) (by decide) ((TH.out w2.drew C nc x D nr y A c F2.out.drew (LV2.out.keep (Fr.refl none_ w2).drew)).mono (fun e w' hh=>?_)) ?_
 ·obtain ⟨b,rfl⟩:=HQ.out _ _ hh
  exact ⟨_,rfl,⟨b,rfl⟩,hh⟩
 rintro v w3 ⟨⟨b,rfl⟩,hq⟩
 have HX:=hid_ hq
 clear hq
 go_frame
 refine u_run 6 (some 2) (.bool b) w3 rfl rfl (by kernel_rfl) (by kernel_rfl) (by kernel_rfl) (.inl (by decide)) ?_
 go_frame
 refine u_done (by kernel_rfl) ?_
 go_wp2_with fail
 exact HX.out
set_option maxHeartbeats 8000000 in
theorem loaded_ta {w:World} {h g:Nat} {H:Hm} {s:LdS} {V:Lw} {Q:Ending→World→Prop} (hb:HpB w h H) (hl:H.lv=.pointer (some ⟨g,0,none⟩)) (ht:H.tv=takingF h)
  (hp:Calls Tryz.prog 79 #[.pointer (some ⟨g,0,none⟩)] w fun e w'=>∃ v,e=.returned v∧LdMadeL w.heap.size V s w v w')
  (hth:∀ (w1:World) (C:Option Addr) (nc x:Nat) (D:Option Addr) (nr y:Nat) (A:Option Addr) (c:Nat),Fr none_ w w1→LwIn w.heap.size w1 V A c→Calls Tryz.prog 106 #[.pointer (some ⟨h,0,none⟩),.agg (lfA s.n s.hs s.hg (.slice C nc x) (.slice D nr y) V A c)] w1 Q) (hQ:∀ e w',Q e w'→BoolE e) :
  Calls Tryz.prog 46 #[.pointer (some ⟨h,0,none⟩)] w Q:=by
 have HB:=hid_ hb
 have HT:=hid_ ht
 have HP:=hid_ hp
 have TH:=hid_ hth
 have HQ:=hid_ hQ
 have c7:w.cell? ⟨h,7,none⟩=some (.pointer (some ⟨g,0,none⟩)):=by rw [← hl];exact hb.cell' rfl
 clear hb hl ht hp hth hQ
 go_enter Tryz.func46,Tryz.ntmps46
 go_wp2_with fail
 refine HP.out.mono ?_
 rintro e w1 ⟨v,rfl,⟨A,c,C,x,D,y,nc,nr,rfl,hv⟩,hf1⟩
 have HB1:=hid_ (HB.out.fr hf1 id)
 have LV:=hid_ hv
 have F1:=hid_ hf1
 clear hf1 hv c7
 go_upto_region 2 with (refine wpList_store_mid rfl 140 (.tmp 3) (.tmp 11) rfl w1.heap.size 0 (lfA s.n s.hs s.hg (.slice C nc x) (.slice D nr y) V A c) rfl rfl (new_there w1 _ pgZ) page_size (by simp [Value.oneCell']) ?_;obtain ⟨w2,hw2⟩:∃ z,z=(w1.alloc (.cells pgZ 140)).setCells w1.heap.size 0 (lfA s.n s.hs s.hg (.slice C nc x) (.slice D nr y) V A c).toList:=⟨_,rfl⟩;change wpList _ _ _ _ _ ((w1.alloc (.cells pgZ 140)).setCells w1.heap.size 0 (lfA s.n s.hs s.hg (.slice C nc x) (.slice D nr y) V A c).toList);rw [← hw2];have P2:Hid (Blk w2 w1.heap.size 140 (lfA s.n s.hs s.hg (.slice C nc x) (.slice D nr y) V A c)∧Fr none_ w1 w2):=hid_ (by rw [hw2];exact new_copy w1 _ pgZ (lfA s.n s.hs s.hg (.slice C nc x) (.slice D nr y) V A c).toList rfl);clear hw2)
 have BP2:=hid_ P2.out.1
 have HB2:=hid_ (HB1.out.fr P2.out.2 id)
 have F2:=hid_ (F1.out.then_none P2.out.2)
 have LV2:=hid_ (LV.out.keep P2.out.2)
 clear P2 HB1 F1 LV
 have p5:w2.cell? ⟨w1.heap.size,5,none⟩=some (.bool true):=BP2.out.cell' rfl
 go_upto_region 6 with fail
 have hS0:(fun w':World=>HpB w' h H∧Blk w' w1.heap.size 140 (lfA s.n s.hs s.hg (.slice C nc x) (.slice D nr y) V A c)) w2.drew:=⟨HB2.out.drew,BP2.out.drew⟩
 refine wp_region_u 5 (fun w':World=>HpB w' h H∧Blk w' w1.heap.size 140 (lfA s.n s.hs s.hg (.slice C nc x) (.slice D nr y) V A c)) (by kernel_rfl) ?_
 refine u_take 0 (some 26) (.pointer (some ⟨h,0,none⟩)) rfl rfl (by kernel_rfl) (by kernel_rfl) (by kernel_rfl) (by kernel_rfl) (fun _ _ _ h=>h) (y_val (by kernel_rfl) (fun w' hS=>by kernel_rfl)) hS0 ?_
 go_frame
 refine u_take 1 (some 27) (.pointer (some ⟨h,0,none⟩)) rfl rfl (by kernel_rfl) (by kernel_rfl) (by kernel_rfl) (by kernel_rfl) (fun _ _ _ h=>h) (y_val (by kernel_rfl) (fun w' hS=>by kernel_rfl)) hS0 ?_
 go_frame
 refine u_take 2 (some 28) (.pointer (some ⟨h,9,none⟩)) rfl rfl (by kernel_rfl) (by kernel_rfl) (by kernel_rfl) (by kernel_rfl) (fun _ _ _ h=>h) (y_val (by kernel_rfl) (fun w' hS=>by kernel_rfl)) hS0 ?_
 go_frame
 refine u_take 3 (some 29) (takingF h) rfl rfl (by kernel_rfl) (by kernel_rfl) (by kernel_rfl) (by kernel_rfl) (fun _ _ _ h=>h) (y_cell 99 (.tmp 28) ⟨h,9,none⟩ _ (by kernel_rfl) rfl (by kernel_rfl) (fun w' hS=>by rw [← HT.out];exact hS.1.cell' rfl) Tryz.underlying99 rfl) hS0 ?_
 go_frame
 refine u_take 4 (some 30) (.agg (lfA s.n s.hs s.hg (.slice C nc x) (.slice D nr y) V A c)) rfl rfl (by kernel_rfl) (by kernel_rfl) (by kernel_rfl) (by kernel_rfl) (fun _ _ _ h=>h) (yieldsIf_load_mid (by kernel_rfl) 140 (.tmp 3) rfl w1.heap.size 0 (by kernel_rfl) (lfA s.n s.hs s.hg (.slice C nc x) (.slice D nr y) V A c).toList _ (fun w' hS=>hS.2.all13) Tryz.underlying140 rfl page_size) hS0 ?_
 go_frame
 clear hS0 p5
 refine u_callN 5 (some 31) 106 #[.pointer (some ⟨h,0,none⟩),.agg (lfA s.n s.hs s.hg (.slice C nc x) (.slice D nr y) V A c)] (fun v w'=>(∃ b,v=.bool b)∧Q (.returned v) w') rfl rfl (by kernel_rfl) (by kernel_rfl) (by kernel_rfl) (by decide) ((TH.out w2.drew C nc x D nr y A c F2.out.drew (LV2.out.keep (Fr.refl none_ w2).drew)).mono (fun e w' hh=>?_)) ?_
 ·obtain ⟨b,rfl⟩:=HQ.out _ _ hh
  exact ⟨_,rfl,⟨b,rfl⟩,hh⟩
 rintro v w3 ⟨⟨b,rfl⟩,hq⟩
 have HX:=hid_ hq
 clear hq
 go_frame
 refine u_run 6 (some 2) (.bool b) w3 rfl rfl (by kernel_rfl) (by kernel_rfl) (by kernel_rfl) (.inl (by decide)) ?_
 go_frame
 refine u_done (by kernel_rfl) ?_
 go_wp2_with fail
 exact HX.out
set_option maxHeartbeats 8000000 in
theorem hstep_load {w:World} {h g m:Nat} {H:Hm} {R:Bool→World→Prop} {Q:Ending→World→Prop} (hb:HpB w h H) (ho:H.over=false) (hl:H.lv=.pointer (some ⟨g,0,none⟩))
    (hst:Calls Tryz.prog 45 #[.pointer (some ⟨g,0,none⟩),.pointer (some ⟨m,0,none⟩)] w fun e w1=>∃ b,e=.returned (.bool b)∧R b w1)
    (hmore:∀ w1,R false w1→Q (.returned (.bool false)) w1) (hov:∀ w1,R true w1→Calls Tryz.prog 46 #[.pointer (some ⟨h,0,none⟩)] w1 Q) (hQ:∀ e w',Q e w'→BoolE e) :
    Calls Tryz.prog 18 #[.pointer (some ⟨h,0,none⟩),.pointer (some ⟨m,0,none⟩)] w Q:=by
  have HB:=hid_ hb
  have ST:=hid_ hst
  have HM:=hid_ hmore
  have HV:=hid_ hov
  have HQ:=hid_ hQ
  have HO:=hid_ ho
  have c7:w.cell? ⟨h,7,none⟩=some (.pointer (some ⟨g,0,none⟩)):=by rw [← hl];exact hb.cell' rfl
  clear hb hl hst hmore hov hQ ho
  go_enter Tryz.func18,Tryz.ntmps18
  go_wp2_with fail
  refine (mover_ok HB.out).mono ?_
  rintro e w0 ⟨rfl,rfl⟩
  rw [HO.out]
  go_wp2_with fail
  refine ST.out.mono ?_
  rintro e w1 ⟨b,rfl,hr⟩
  cases b with
  | false =>
    have HR:=hid_ (HM.out _ hr)
    clear hr c7
    go_wp2_with fail
    exact HR.out
  | true =>
    have HR:=hid_ hr
    clear hr c7
    go_wp2_with fail
    refine (HV.out _ HR.out).mono ?_
    intro e w2 hq
    obtain ⟨b,rfl⟩:=HQ.out _ _ hq
    have HX:=hid_ hq
    clear hq
    go_wp2_with fail
    exact HX.out
set_option maxHeartbeats 8000000 in
theorem hstep_gone {w:World} {h i m bx:Nat} {H:Hm} {R R2:Bool→World→Prop} {Q:Ending→World→Prop} (hb:HpB w h H) (ho:H.over=false) (hl:H.lv=.pointer none) (hj:H.jv=.pointer (some ⟨i,0,none⟩)) (hf:H.fv=.func (.func 97) #[] #[.pointer (some ⟨bx,0,none⟩)])
    (hst:Calls Tryz.prog 47 #[.pointer (some ⟨i,0,none⟩),.pointer (some ⟨m,0,none⟩)] w fun e w1=>∃ b,e=.returned (.bool b)∧R b w1)
    (hmore:∀ w1,R false w1→Q (.returned (.bool false)) w1) (hk:∀ w1,R true w1→HpB w1 h H)
    (hdn:∀ w1,R true w1→Calls Tryz.prog 48 #[.pointer (some ⟨i,0,none⟩)] w1 fun e w2=>∃ ok,e=.returned (.tuple #[.bool ok,.nilIface])∧R2 ok w2) (hk2:∀ ok w2,R2 ok w2→HpB w2 h H)
    (haf:∀ ok w2,R2 ok w2→Calls Tryz.prog 97 #[.bool ok,.pointer (some ⟨bx,0,none⟩)] w2 Q) (hQ:∀ e w',Q e w'→BoolE e) :
    Calls Tryz.prog 18 #[.pointer (some ⟨h,0,none⟩),.pointer (some ⟨m,0,none⟩)] w Q:=by
  have HB:=hid_ hb
  have ST:=hid_ hst
  have HM:=hid_ hmore
  have HK:=hid_ hk
  have HD:=hid_ hdn
  have HK2:=hid_ hk2
  have HA:=hid_ haf
  have HQ:=hid_ hQ
  have HO:=hid_ ho
  have HJ:=hid_ hj
  have HF:=hid_ hf
  have c7:w.cell? ⟨h,7,none⟩=some (.pointer none):=by rw [← hl];exact hb.cell' rfl
  have c8:w.cell? ⟨h,8,none⟩=some (.pointer (some ⟨i,0,none⟩)):=by rw [← hj];exact hb.cell' rfl
  clear hb hl hst hmore hk hdn hk2 haf hQ ho hj hf
  go_enter Tryz.func18,Tryz.ntmps18
  go_wp2_with fail
  refine (mover_ok HB.out).mono ?_
  rintro e w0 ⟨rfl,rfl⟩
  rw [HO.out]
  go_wp2_with fail
  refine ST.out.mono ?_
  rintro e w1 ⟨b,rfl,hr⟩
  cases b with
  | false =>
    have HR:=hid_ (HM.out _ hr)
    clear hr c7 c8
    go_wp2_with fail
    exact HR.out
  | true =>
    have HR:=hid_ hr
    have HB1:=hid_ (HK.out _ hr)
    clear hr c7 c8
    have c8:w1.cell? ⟨h,8,none⟩=some (.pointer (some ⟨i,0,none⟩)):=by rw [← HJ.out];exact HB1.out.cell' rfl
    go_wp2_with fail
    refine (HD.out _ HR.out).mono ?_
    rintro e w2 ⟨ok,rfl,hr2⟩
    have HR2:=hid_ hr2
    have HB2:=hid_ (HK2.out _ _ hr2)
    clear hr2 c8
    have c10:w2.cell? ⟨h,10,none⟩=some (.func (.func 97) #[] #[.pointer (some ⟨bx,0,none⟩)]):=by rw [← HF.out];exact HB2.out.cell' rfl
    go_wp2_with fail
    refine (HA.out _ _ HR2.out).mono ?_
    intro e w3 hq
    obtain ⟨b,rfl⟩:=HQ.out _ _ hq
    have HX:=hid_ hq
    clear hq
    go_wp2_with fail
    exact HX.out
set_option maxHeartbeats 8000000 in
theorem hstep_merge {w:World} {h i m bx:Nat} {H:Hm} {R R2:Bool→World→Prop} {Q:Ending→World→Prop} (hb:HpB w h H) (ho:H.over=false) (hl:H.lv=.pointer none) (hj:H.jv=.pointer (some ⟨i,0,none⟩)) (hf:H.fv=.func (.func 114) #[] #[.pointer (some ⟨bx,0,none⟩)])
    (hst:Calls Tryz.prog 47 #[.pointer (some ⟨i,0,none⟩),.pointer (some ⟨m,0,none⟩)] w fun e w1=>∃ b,e=.returned (.bool b)∧R b w1)
    (hmore:∀ w1,R false w1→Q (.returned (.bool false)) w1) (hk:∀ w1,R true w1→HpB w1 h H)
    (hdn:∀ w1,R true w1→Calls Tryz.prog 48 #[.pointer (some ⟨i,0,none⟩)] w1 fun e w2=>∃ ok,e=.returned (.tuple #[.bool ok,.nilIface])∧R2 ok w2) (hk2:∀ ok w2,R2 ok w2→HpB w2 h H)
    (haf:∀ ok w2,R2 ok w2→Calls Tryz.prog 114 #[.bool ok,.pointer (some ⟨bx,0,none⟩)] w2 Q) (hQ:∀ e w',Q e w'→BoolE e) :
    Calls Tryz.prog 18 #[.pointer (some ⟨h,0,none⟩),.pointer (some ⟨m,0,none⟩)] w Q:=by
  have HB:=hid_ hb
  have ST:=hid_ hst
  have HM:=hid_ hmore
  have HK:=hid_ hk
  have HD:=hid_ hdn
  have HK2:=hid_ hk2
  have HA:=hid_ haf
  have HQ:=hid_ hQ
  have HO:=hid_ ho
  have HJ:=hid_ hj
  have HF:=hid_ hf
  have c7:w.cell? ⟨h,7,none⟩=some (.pointer none):=by rw [← hl];exact hb.cell' rfl
  have c8:w.cell? ⟨h,8,none⟩=some (.pointer (some ⟨i,0,none⟩)):=by rw [← hj];exact hb.cell' rfl
  clear hb hl hst hmore hk hdn hk2 haf hQ ho hj hf
  go_enter Tryz.func18,Tryz.ntmps18
  go_wp2_with fail
  refine (mover_ok HB.out).mono ?_
  rintro e w0 ⟨rfl,rfl⟩
  rw [HO.out]
  go_wp2_with fail
  refine ST.out.mono ?_
  rintro e w1 ⟨b,rfl,hr⟩
  cases b with
  | false =>
    have HR:=hid_ (HM.out _ hr)
    clear hr c7 c8
    go_wp2_with fail
    exact HR.out
  | true =>
    have HR:=hid_ hr
    have HB1:=hid_ (HK.out _ hr)
    clear hr c7 c8
    have c8:w1.cell? ⟨h,8,none⟩=some (.pointer (some ⟨i,0,none⟩)):=by rw [← HJ.out];exact HB1.out.cell' rfl
    go_wp2_with fail
    refine (HD.out _ HR.out).mono ?_
    rintro e w2 ⟨ok,rfl,hr2⟩
    have HR2:=hid_ hr2
    have HB2:=hid_ (HK2.out _ _ hr2)
    clear hr2 c8
    have c10:w2.cell? ⟨h,10,none⟩=some (.func (.func 114) #[] #[.pointer (some ⟨bx,0,none⟩)]):=by rw [← HF.out];exact HB2.out.cell' rfl
    go_wp2_with fail
    refine (HA.out _ _ HR2.out).mono ?_
    intro e w3 hq
    obtain ⟨b,rfl⟩:=HQ.out _ _ hq
    have HX:=hid_ hq
    clear hq
    go_wp2_with fail
    exact HX.out
set_option maxHeartbeats 8000000 in
theorem hstep_third {w:World} {h i m bx:Nat} {H:Hm} {R R2:Bool→World→Prop} {Q:Ending→World→Prop} (hb:HpB w h H) (ho:H.over=false) (hl:H.lv=.pointer none) (hj:H.jv=.pointer (some ⟨i,0,none⟩)) (hf:H.fv=.func (.func 125) #[] #[.pointer (some ⟨bx,0,none⟩)])
    (hst:Calls Tryz.prog 47 #[.pointer (some ⟨i,0,none⟩),.pointer (some ⟨m,0,none⟩)] w fun e w1=>∃ b,e=.returned (.bool b)∧R b w1)
    (hmore:∀ w1,R false w1→Q (.returned (.bool false)) w1) (hk:∀ w1,R true w1→HpB w1 h H)
    (hdn:∀ w1,R true w1→Calls Tryz.prog 48 #[.pointer (some ⟨i,0,none⟩)] w1 fun e w2=>∃ ok,e=.returned (.tuple #[.bool ok,.nilIface])∧R2 ok w2) (hk2:∀ ok w2,R2 ok w2→HpB w2 h H)
    (haf:∀ ok w2,R2 ok w2→Calls Tryz.prog 125 #[.bool ok,.pointer (some ⟨bx,0,none⟩)] w2 Q) (hQ:∀ e w',Q e w'→BoolE e) :
    Calls Tryz.prog 18 #[.pointer (some ⟨h,0,none⟩),.pointer (some ⟨m,0,none⟩)] w Q:=by
  have HB:=hid_ hb
  have ST:=hid_ hst
  have HM:=hid_ hmore
  have HK:=hid_ hk
  have HD:=hid_ hdn
  have HK2:=hid_ hk2
  have HA:=hid_ haf
  have HQ:=hid_ hQ
  have HO:=hid_ ho
  have HJ:=hid_ hj
  have HF:=hid_ hf
  have c7:w.cell? ⟨h,7,none⟩=some (.pointer none):=by rw [← hl];exact hb.cell' rfl
  have c8:w.cell? ⟨h,8,none⟩=some (.pointer (some ⟨i,0,none⟩)):=by rw [← hj];exact hb.cell' rfl
  clear hb hl hst hmore hk hdn hk2 haf hQ ho hj hf
  go_enter Tryz.func18,Tryz.ntmps18
  go_wp2_with fail
  refine (mover_ok HB.out).mono ?_
  rintro e w0 ⟨rfl,rfl⟩
  rw [HO.out]
  go_wp2_with fail
  refine ST.out.mono ?_
  rintro e w1 ⟨b,rfl,hr⟩
  cases b with
  | false =>
    have HR:=hid_ (HM.out _ hr)
    clear hr c7 c8
    go_wp2_with fail
    exact HR.out
  | true =>
    have HR:=hid_ hr
    have HB1:=hid_ (HK.out _ hr)
    clear hr c7 c8
    have c8:w1.cell? ⟨h,8,none⟩=some (.pointer (some ⟨i,0,none⟩)):=by rw [← HJ.out];exact HB1.out.cell' rfl
    go_wp2_with fail
    refine (HD.out _ HR.out).mono ?_
    rintro e w2 ⟨ok,rfl,hr2⟩
    have HR2:=hid_ hr2
    have HB2:=hid_ (HK2.out _ _ hr2)
    clear hr2 c8
    have c10:w2.cell? ⟨h,10,none⟩=some (.func (.func 125) #[] #[.pointer (some ⟨bx,0,none⟩)]):=by rw [← HF.out];exact HB2.out.cell' rfl
    go_wp2_with fail
    refine (HA.out _ _ HR2.out).mono ?_
    intro e w3 hq
    obtain ⟨b,rfl⟩:=HQ.out _ _ hq
    have HX:=hid_ hq
    clear hq
    go_wp2_with fail
    exact HX.out
set_option maxHeartbeats 8000000 in
theorem hstep_over {w:World} {h:Nat} {H:Hm} (v:Value) (hb:HpB w h H) (ho:H.over=true):Calls Tryz.prog 18 #[.pointer (some ⟨h,0,none⟩),v] w fun e w'=>e=.returned (.bool true)∧w=w':=by
  have HB:=hid_ hb
  have HO:=hid_ ho
  clear hb ho
  go_enter Tryz.func18,Tryz.ntmps18
  go_wp2_with fail
  refine (mover_ok HB.out).mono ?_
  rintro e w0 ⟨rfl,rfl⟩
  rw [HO.out]
  go_wp2_with fail
  go_ret
  exact ⟨rfl,rfl⟩
end Go.Proofs.YthpkbppaaagaoaaGreat
