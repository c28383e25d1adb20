/- Texts of one proof, merged: LdrC13, LdrD13, LdL13, Ins, Ins2, Ins3, FwdA, FwdB, Step12, StepI13, MadeP13, BegP13, Hp13, Hq13, Has13, Hr13, Ht13. -/
import Derived.BigQuiet
import Derived.BigRegion
import Derived.Deep.DeepCutAuto
import Derived.Test.YthpkbppaaagaoaaGreatMhB
import Derived.Test.YthpkbppaaagaoaaGreatMhI
import Derived.Test.YthpkbppaaagaoaaGreatMhJ
namespace Go.Proofs.YthpkbppaaagaoaaGreat
set_option maxRecDepth 100000
set_option linter.unusedVariables false
open Go.RowKit Go.BigFrame
abbrev toCh (C:Cr):Ch:=⟨C.R,C.A,C.c,C.B,C.d⟩
structure RcOk (R:Rc):Prop where
  low:SzOk R.low
  high:SzOk R.high
  key:SzOk R.key
  hkey:SzOk R.hkey
  ents:EtsOk R.ents
theorem flat_toCh (L:List Cr):recFlat (L.map toCh)=crFlat L:=by
  induction L with
  | nil=>rfl
  | cons C t ih=>simp only [recFlat,crFlat,List.map_cons,List.flatten_cons] at ih ⊢;rw [ih]
theorem map_toCh (L:List Cr):(L.map toCh).map (·.R)=L.map (·.R):=by induction L with
  | nil=>rfl
  | cons C t ih=>simp only [List.map_cons];rw [ih]
theorem Ldr.ch {b0 g:Nat} {w:World} {s:LdS} (h:Ldr b0 w g s) (hs:∀ C ∈ s.L,RcOk C.R):ChReads w s.A s.L.length (s.L.map toCh):=by
  refine chReads_own (Cs:=s.L.map toCh) (base:=b0) (c:=s.c) (by rw [flat_toCh];exact h.l) (by simp) (fun C hC=>?_)
  obtain ⟨D,hD,rfl⟩:=List.mem_map.1 hC
  have hk:=hs D hD
  exact ChOwn.ok ⟨(h.own D hD).base (Nat.zero_le _),hk.low,hk.high,hk.key,hk.hkey,hk.ents⟩
def LdMadeL (b0:Nat) (V:Lw) (s:LdS) (w:World) (v:Value) (w':World):Prop:=
  (∃ A c C x D y nc nr,v=.tuple #[.agg (pgA s.n s.hs s.hg (.slice C nc x) (.slice D nr y) true V (.slice A V.rows.length c) Vw.zero (.slice none 0 0)),.nilIface]∧LwIn b0 w' V A c)∧Fr none_ w w'
theorem LdMadeL.only {b0:Nat} {V:Lw} {s:LdS} {w w1 w':World} {v:Value} {X:Nat} (h:LdMadeL b0 V s w v w1) (hX:Blk w1 X 140 pgZ) (hf:Fr (only X) w1 w') (hn:w.heap.size≤X):LdMadeL b0 V s w v w':=by
  obtain ⟨⟨A,c,C,x,D,y,nc,nr,h1,h2⟩,hf0⟩:=h
  exact ⟨⟨A,c,C,x,D,y,nc,nr,h1,h2.far hX (by decide) hf⟩,hf0.then_only hf (.inr hn)⟩
theorem LdMadeL.of {b0:Nat} {V:Lw} {s:LdS} {w w1 w':World} {v:Value} (h:OfPostL s.n s.hs s.hg V w1 (.returned v) w') (hf:Fr none_ w w1) (hb:b0≤w1.heap.size):LdMadeL b0 V s w v w':=by
  obtain ⟨A,c,C,x,D,y,nc,nr,h1,h2,h3⟩:=h
  exact ⟨⟨A,c,C,x,D,y,nc,nr,Ending.returned.inj h1,h2.base hb⟩,hf.then_none h3⟩
theorem LdMadeL.shape {b0:Nat} {V:Lw} {s:LdS} {w w':World} {v:Value} (h:LdMadeL b0 V s w v w'):∃ (pv:Array Value) (ev:Value),v=.tuple #[.agg pv,ev]∧pv.size=21∧pv.all (·.oneCell')=true:=by
  obtain ⟨⟨A,c,C,x,D,y,nc,nr,h1,h2⟩,_⟩:=h
  exact ⟨_,_,h1,rfl,by simp [Value.oneCell']⟩
theorem LdMadeL.wide {b0 b1:Nat} {V:Lw} {s:LdS} {w w1 w':World} {v:Value} (h:LdMadeL b1 V s w1 v w') (hf:Fr none_ w w1) (hb:b0≤b1):LdMadeL b0 V s w v w':=by
  obtain ⟨⟨A,c,C,x,D,y,nc,nr,h1,h2⟩,hf0⟩:=h
  exact ⟨⟨A,c,C,x,D,y,nc,nr,h1,h2.base hb⟩,hf.then_none hf0⟩
theorem ld_range3 {w:World} {g:Nat} {s:LdS} (h:Blk w g 135 (ldA s)):w.rangeAt g 3 [.int .i64 s.hs,.int .i64 s.hg]:=fun j v hv=>by
  match j,hv with
  | 0,hv=>have e:some _=some v:=hv;rw [← e];exact h.cell' rfl
  | 1,hv=>have e:some _=some v:=hv;rw [← e];exact h.cell' rfl
  | k+2,hv=>simp at hv
set_option maxHeartbeats 4000000 in
theorem ldMadeL_ok {b0 g bx:Nat} {w:World} {s:LdS} (h:Ldr b0 w g s) (hx:Blk w bx 97 #[.pointer (some ⟨g,0,none⟩)]) (hs:∀ C ∈ s.L,RcOk C.R) (hl:s.L.length≤400) (h7:RwOkL (s.L.map toCh)) (he:∀ C ∈ s.L.map toCh,C.R.ents.length≤500) (hr:s.refs.length≤5000) (V0:Lw) (hlf:leafB (s.L.map (·.R))=true) (hfl:foldL (s.L.map (·.R))=some V0) :
  Calls Tryz.prog 99 #[.pointer (some ⟨bx,0,none⟩)] w fun e w'=>∃ v,e=.returned v∧LdMadeL w.heap.size V0 s w v w':=by
 obtain ⟨w0,hw0⟩:∃ z,z=w.alloc (.cells pgZ 140):=⟨_,rfl⟩
 have f0:Fr none_ w w0:=by rw [hw0];exact (Fr.refl none_ w).alloc _
 have BZ:Hid (Blk w0 w.heap.size 140 pgZ):=hid_ (by rw [hw0];exact Blk.new w _ _)
 have H:=hid_ (h.keep f0)
 have BX:=hid_ (hx.fr f0 id)
 have F0:=hid_ f0
 have HS:=hid_ (And.intro hs (And.intro hl (And.intro h7 (And.intro he (And.intro hr (And.intro hlf hfl))))))
 have hsz0:=BZ.out.lt
 clear h hx hs hl h7 he hr hlf hfl f0
 go_enter Tryz.func99,Tryz.ntmps99
 go_upto_region 1 with fail
 change Code.wp _ _ _ _ (w.alloc (.cells pgZ 140))
 rw [← hw0]
 clear hw0
 have hS0:(fun w':World=>Blk w' g 135 (ldA s)∧Blk w' bx 97 #[.pointer (some ⟨g,0,none⟩)]) w0.drew:=⟨H.out.b.drew,BX.out.drew⟩
 refine wp_region_u 21 (fun w':World=>Blk w' g 135 (ldA s)∧Blk w' bx 97 #[.pointer (some ⟨g,0,none⟩)]) (by kernel_rfl) ?_
 refine u_take 0 (some 3) (.pointer (some ⟨g,0,none⟩)) rfl rfl (by kernel_rfl) (by kernel_rfl) (by kernel_rfl) (by kernel_rfl) (fun _ _ _ h=>h) (y_cell 97 (.tmp 0) ⟨bx,0,none⟩ _ (by kernel_rfl) rfl (by kernel_rfl) (fun w' hS=>hS.2.cell' rfl) Tryz.underlying97 rfl) hS0 ?_
 go_frame
 refine u_take 1 (some 4) (.pointer (some ⟨g,0,none⟩)) rfl rfl (by kernel_rfl) (by kernel_rfl) (by kernel_rfl) (by kernel_rfl) (fun _ _ _ h=>h) (y_val (by kernel_rfl) (fun w' hS=>by kernel_rfl)) hS0 ?_
 go_frame
 refine u_take 2 (some 5) (.pointer (some ⟨g,0,none⟩)) rfl rfl (by kernel_rfl) (by kernel_rfl) (by kernel_rfl) (by kernel_rfl) (fun _ _ _ h=>h) (y_val (by kernel_rfl) (fun w' hS=>by kernel_rfl)) hS0 ?_
 go_frame
 refine u_take 3 (some 6) (.int .i64 s.n) rfl rfl (by kernel_rfl) (by kernel_rfl) (by kernel_rfl) (by kernel_rfl) (fun _ _ _ h=>h) (y_cell 3 (.tmp 5) ⟨g,0,none⟩ _ (by kernel_rfl) rfl (by kernel_rfl) (fun w' hS=>hS.1.cell' rfl) Tryz.underlying3 rfl) hS0 ?_
 go_frame
 refine u_take 4 (some 7) (.pointer (some ⟨g,0,none⟩)) rfl rfl (by kernel_rfl) (by kernel_rfl) (by kernel_rfl) (by kernel_rfl) (fun _ _ _ h=>h) (y_cell 97 (.tmp 0) ⟨bx,0,none⟩ _ (by kernel_rfl) rfl (by kernel_rfl) (fun w' hS=>hS.2.cell' rfl) Tryz.underlying97 rfl) hS0 ?_
 go_frame
 refine u_take 5 (some 8) (.pointer (some ⟨g,0,none⟩)) rfl rfl (by kernel_rfl) (by kernel_rfl) (by kernel_rfl) (by kernel_rfl) (fun _ _ _ h=>h) (y_val (by kernel_rfl) (fun w' hS=>by kernel_rfl)) hS0 ?_
 go_frame
 refine u_take 6 (some 9) (.pointer (some ⟨g,3,none⟩)) rfl rfl (by kernel_rfl) (by kernel_rfl) (by kernel_rfl) (by kernel_rfl) (fun _ _ _ h=>h) (y_val (by kernel_rfl) (fun w' hS=>by kernel_rfl)) hS0 ?_
 go_frame
 refine u_take 7 (some 10) (.agg #[.int .i64 s.hs,.int .i64 s.hg]) rfl rfl (by kernel_rfl) (by kernel_rfl) (by kernel_rfl) (by kernel_rfl) (fun _ _ _ h=>h) (yieldsIf_load_mid (by kernel_rfl) 36 (.tmp 9) rfl g 3 (by kernel_rfl) [.int .i64 s.hs,.int .i64 s.hg] _ (fun w' hS=>ld_range3 hS.1) Tryz.underlying36 rfl ref_size9) hS0 ?_
 go_frame
 refine u_take 8 (some 11) (.pointer (some ⟨g,0,none⟩)) rfl rfl (by kernel_rfl) (by kernel_rfl) (by kernel_rfl) (by kernel_rfl) (fun _ _ _ h=>h) (y_cell 97 (.tmp 0) ⟨bx,0,none⟩ _ (by kernel_rfl) rfl (by kernel_rfl) (fun w' hS=>hS.2.cell' rfl) Tryz.underlying97 rfl) hS0 ?_
 go_frame
 refine u_take 9 (some 12) (.pointer (some ⟨g,0,none⟩)) rfl rfl (by kernel_rfl) (by kernel_rfl) (by kernel_rfl) (by kernel_rfl) (fun _ _ _ h=>h) (y_val (by kernel_rfl) (fun w' hS=>by kernel_rfl)) hS0 ?_
 go_frame
 refine u_take 10 (some 13) (.pointer (some ⟨g,7,none⟩)) rfl rfl (by kernel_rfl) (by kernel_rfl) (by kernel_rfl) (by kernel_rfl) (fun _ _ _ h=>h) (y_val (by kernel_rfl) (fun w' hS=>by kernel_rfl)) hS0 ?_
 go_frame
 refine u_take 11 (some 14) (.slice s.A s.L.length s.c) rfl rfl (by kernel_rfl) (by kernel_rfl) (by kernel_rfl) (by kernel_rfl) (fun _ _ _ h=>h) (y_cell 67 (.tmp 13) ⟨g,7,none⟩ _ (by kernel_rfl) rfl (by kernel_rfl) (fun w' hS=>hS.1.cell' rfl) Tryz.underlying67 rfl) hS0 ?_
 go_frame
 refine u_take 12 (some 15) (.pointer (some ⟨g,0,none⟩)) rfl rfl (by kernel_rfl) (by kernel_rfl) (by kernel_rfl) (by kernel_rfl) (fun _ _ _ h=>h) (y_cell 97 (.tmp 0) ⟨bx,0,none⟩ _ (by kernel_rfl) rfl (by kernel_rfl) (fun w' hS=>hS.2.cell' rfl) Tryz.underlying97 rfl) hS0 ?_
 go_frame
 refine u_take 13 (some 16) (.pointer (some ⟨g,0,none⟩)) rfl rfl (by kernel_rfl) (by kernel_rfl) (by kernel_rfl) (by kernel_rfl) (fun _ _ _ h=>h) (y_val (by kernel_rfl) (fun w' hS=>by kernel_rfl)) hS0 ?_
 go_frame
 refine u_take 14 (some 17) (.pointer (some ⟨g,8,none⟩)) rfl rfl (by kernel_rfl) (by kernel_rfl) (by kernel_rfl) (by kernel_rfl) (fun _ _ _ h=>h) (y_val (by kernel_rfl) (fun w' hS=>by kernel_rfl)) hS0 ?_
 go_frame
 refine u_take 15 (some 18) (.slice s.B s.refs.length s.e) rfl rfl (by kernel_rfl) (by kernel_rfl) (by kernel_rfl) (by kernel_rfl) (fun _ _ _ h=>h) (y_cell 68 (.tmp 17) ⟨g,8,none⟩ _ (by kernel_rfl) rfl (by kernel_rfl) (fun w' hS=>hS.1.cell' rfl) Tryz.underlying68 rfl) hS0 ?_
 go_frame
 clear hS0
 refine u_callE 16 (some 19) 100 #[.int .i64 s.n,.agg #[.int .i64 s.hs,.int .i64 s.hg],.slice s.A s.L.length s.c,.slice s.B s.refs.length s.e] (fun v w'=>LdMadeL w.heap.size V0 s w v w'∧Fr none_ w0 w') rfl rfl (by kernel_rfl) (by kernel_rfl) (by kernel_rfl) ((of_okL s.n s.hs s.hg s.A s.L.length s.c (s.L.map toCh) s.refs s.B s.e w0.drew ((H.out.ch HS.out.1).keep (Fr.refl none_ w0).drew) HS.out.2.1 HS.out.2.2.1 HS.out.2.2.2.1 (Reads.of_own (own_none H.out.r (Fr.refl none_ w0).drew)) HS.out.2.2.2.2.1 V0 (by rw [map_toCh];exact HS.out.2.2.2.2.2.1) (by rw [map_toCh];exact HS.out.2.2.2.2.2.2)).mono (fun e w' hh=>?_)) ?_
 ·have hfr:Fr none_ w0.drew w':=by obtain ⟨_,_,_,_,_,_,_,_,_,_,h4⟩:=hh;exact h4
  have he:∃ v,e=.returned v:=by obtain ⟨_,_,_,_,_,_,_,_,h2,_⟩:=hh;exact ⟨_,h2⟩
  obtain ⟨v,rfl⟩:=he
  exact ⟨v,rfl,LdMadeL.of hh (F0.out.then_none (Fr.refl none_ w0).drew) (by have:=F0.out.size;simp;omega),(Fr.refl none_ w0).drew.then_none hfr⟩
 intro v w5 hh
 obtain ⟨pv,ev,rfl,hps,hpo⟩:=hh.1.shape
 have LM:=hid_ hh.1
 have BZ5:=hid_ (BZ.out.fr hh.2 id)
 have hS5:(fun w':World=>Blk w' g 135 (ldA s)∧Blk w' bx 97 #[.pointer (some ⟨g,0,none⟩)]) w5:=⟨H.out.b.fr hh.2 id,BX.out.fr hh.2 id⟩
 have FR5:=hid_ hh.2
 have hsz5:=hh.2.size
 clear hh
 refine ⟨hS5,?_⟩
 go_frame
 refine u_take 17 (some 20) (.agg pv) rfl rfl (by kernel_rfl) (by kernel_rfl) (by kernel_rfl) (by kernel_rfl) (fun _ _ _ h=>h) (y_val (by kernel_rfl) (fun w' hS=>by kernel_rfl)) hS5 ?_
 go_frame
 refine u_take 18 (some 21) (ev) rfl rfl (by kernel_rfl) (by kernel_rfl) (by kernel_rfl) (by kernel_rfl) (fun _ _ _ h=>h) (y_val (by kernel_rfl) (fun w' hS=>by kernel_rfl)) hS5 ?_
 go_frame
 clear hS5
 have S5:Hid ((fun w':World=>Blk w' g 135 (ldA s)∧Blk w' bx 97 #[.pointer (some ⟨g,0,none⟩)]) w5):=hid_ ⟨H.out.b.fr FR5.out id,BX.out.fr FR5.out id⟩
 refine u_store 19 140 (.tmp 1) (.tmp 20) w.heap.size 0 pv rfl rfl (by kernel_rfl) (by kernel_rfl) rfl (by kernel_rfl) (by kernel_rfl) (by rw [hps];exact BZ5.out.there7 rfl) (by rw [hps];exact page_size) hpo ?_
 intro w6 hw6
 have ov:=BZ5.out.over7 pv.toList (by simp [hps])
 rw [← hw6] at ov
 have OV:=hid_ ov
 have LM6:=hid_ (LM.out.only BZ5.out ov.2 (Nat.le_refl _))
 have S6:Hid ((fun w':World=>Blk w' g 135 (ldA s)∧Blk w' bx 97 #[.pointer (some ⟨g,0,none⟩)]) w6):=hid_ ⟨S5.out.1.fr ov.2 (only_ne (Blk.ne_ S5.out.1 BZ5.out (by decide))),S5.out.2.fr ov.2 (only_ne (Blk.ne_ S5.out.2 BZ5.out (by decide)))⟩
 clear hw6 ov
 refine ⟨S6.out,?_⟩
 refine u_run 20 (some 2) ev w6 rfl rfl (by kernel_rfl) (by kernel_rfl) (by kernel_rfl) (.inr S6.out) ?_
 go_frame
 refine u_done (by kernel_rfl) ?_
 go_wp2_with fail
 refine bodyPost_ret (results_cell_tmp7 _ _ rfl w.heap.size 0 pv.toList _ rfl (Blk.range7 (l:=pv.toList) (by simpa using OV.out.1)) Tryz.underlying140 rfl (by rw [Array.length_toList,hps];exact page_size)) rfl ⟨_,rfl,?_⟩
 simpa using LM6.out
open Go.RowKit Go.BigFrame
theorem page_boxes (w:World) (v:Value):∃ w0,w0=(w.alloc (.cells #[v] 97)).alloc (.cells pgZ 140)∧Fr none_ w w0∧Blk w0 w.heap.size 97 #[v]∧Blk w0 (w.heap.size+1) 140 pgZ:=
  ⟨_,rfl,((Fr.refl none_ w).alloc _).alloc _,(Blk.new w _ _).alloc _,Blk.new7 _ _ (by simp)⟩
set_option maxHeartbeats 4000000 in
theorem ldPageL_made {b0 g:Nat} {w:World} {s:LdS} (h:Ldr b0 w g s) (ho:s.over=true) (hv:s.ve=.nilIface) (hs:∀ C ∈ s.L,RcOk C.R) (hl:s.L.length≤400) (h7:RwOkL (s.L.map toCh)) (he:∀ C ∈ s.L.map toCh,C.R.ents.length≤500) (hr:s.refs.length≤5000) (V0:Lw) (hlf:leafB (s.L.map (·.R))=true) (hfl:foldL (s.L.map (·.R))=some V0) :
    Calls Tryz.prog 79 #[.pointer (some ⟨g,0,none⟩)] w fun e w'=>∃ v,e=.returned v∧LdMadeL w.heap.size V0 s w v w':=by
  obtain ⟨w0,hw0,f0,bx,bz⟩:=page_boxes w (.pointer (some ⟨g,0,none⟩))
  have BX:=hid_ bx
  have BZ:=hid_ bz
  have F0:=hid_ f0
  have H:=hid_ (h.keep f0)
  have HS:=hid_ (And.intro hs (And.intro hl (And.intro h7 (And.intro he (And.intro hr (And.intro hlf hfl))))))
  have x0:w0.cell? ⟨w.heap.size,0,none⟩=some (.pointer (some ⟨g,0,none⟩)):=bx.cell' rfl
  have g2:w0.cell? ⟨g,2,none⟩=some (.bool true):=by rw [← ho];exact H.out.b.cell' rfl
  have g9:w0.cell? ⟨g,9,none⟩=some .nilIface:=by rw [← hv];exact H.out.b.cell' rfl
  have hsz0:=f0.size
  have hbl:=bz.lt
  clear bx bz f0 h ho hv hs hl h7 he hr hlf hfl
  go_enter Tryz.func79,Tryz.ntmps79
  go_upto_region 1 with fail
  change Code.wp _ _ _ _ ((w.alloc (.cells #[.pointer (some ⟨g,0,none⟩)] 97)).alloc (.cells pgZ 140))
  rw [← hw0]
  clear hw0
  go_wp2_with fail
  refine (ldMadeL_ok H.out BX.out HS.out.1 HS.out.2.1 HS.out.2.2.1 HS.out.2.2.2.1 HS.out.2.2.2.2.1 V0 HS.out.2.2.2.2.2.1 HS.out.2.2.2.2.2.2).mono ?_
  rintro e w5 ⟨v,rfl,hm⟩
  obtain ⟨pv,ev,rfl,hps,hpo⟩:=hm.shape
  have LM:=hid_ hm
  have BZ5:=hid_ (BZ.out.fr hm.2 id)
  clear hm x0 g2 g9
  go_wp2_with (refine wpList_store_mid rfl 140 (.tmp 2) (.tmp 32) rfl (w.heap.size+1) 0 pv rfl rfl (by rw [hps];exact BZ5.out.there7 rfl) (by rw [hps];exact page_size) hpo ?_;have ov:=BZ5.out.over7 pv.toList (by simp [hps]);obtain ⟨w9,hw9⟩:∃ z,z=w5.setCells (w.heap.size+1) 0 pv.toList:=⟨_,rfl⟩;rw [← hw9] at ov;change wpList _ _ _ _ _ (w5.setCells (w.heap.size+1) 0 pv.toList);rw [← hw9];have OV:=hid_ ov;clear hw9 ov)
  refine bodyPost_ret (results_cell_tmp7 _ _ rfl (w.heap.size+1) 0 pv.toList _ rfl (Blk.range7 (l:=pv.toList) (by simpa using OV.out.1)) Tryz.underlying140 rfl (by rw [Array.length_toList,hps];exact page_size)) rfl ⟨_,rfl,?_⟩
  have hfin:=(LM.out.wide F0.out hsz0).only BZ5.out OV.out.2 (by omega)
  simpa using hfin
open Go.RowKit Go.BigFrame
structure LdPh (ss:List Sl) (js:List Nat) (n s0 g0:Int) (p:Nat) (s:LdS):Prop where
  nn:s.n=n
  bg:s.begun=decide (0 < p)
  ov:s.over=decide (p=js.length+1)
  le:p≤js.length+1
  hd:0 < p→s.hs=s0∧s.hg=g0
  ls:s.L.map (·.R)=(js.take (p - 1)).map (recOf ss)
  rs:s.refs=(js.take (p - 1)).map (refOf ss)
  nx:0 < p→Links ss (js.drop (p - 1)) s.ns s.ng
  ve:s.ve=.nilIface
theorem LdPh.new (ss:List Sl) (js:List Nat) (n s0 g0:Int):LdPh ss js n s0 g0 0 (LdS.new n):=
  ⟨rfl,rfl,by simp,Nat.zero_le _,fun h=>absurd h (Nat.lt_irrefl 0),rfl,rfl,fun h=>absurd h (Nat.lt_irrefl 0),rfl⟩
theorem LdPh.len {ss:List Sl} {js:List Nat} {n s0 g0:Int} {p:Nat} {s:LdS} (h:LdPh ss js n s0 g0 p s):s.L.length=p - 1∧s.refs.length=p - 1:=by
  have hle:=h.le
  refine ⟨?_,?_⟩
  · have:=congrArg List.length h.ls
    simp only [List.length_map,List.length_take] at this
    omega
  · have:=congrArg List.length h.rs
    simp only [List.length_map,List.length_take] at this
    omega
theorem links_zero {ss:List Sl}:∀ {js:List Nat} {s g:Int},Links ss js s g→(s=0∧g=0 ↔ js=[])
  | [],s,g,h=>⟨fun _=>rfl,fun _=>h⟩
  | j :: r,s,g,h=>by
    obtain ⟨h1,_⟩:=h
    constructor
    · rintro ⟨h2,_⟩;omega
    · intro h2;cases h2
theorem load_links {ss:List Sl} {j:Nat} {r:List Nat} {s g:Int} {R:Rc} {k:Int} (h:Links ss (j :: r) s g) (hl:LoadR ss s g R k):k=0∧R=recOf ss j∧(s,g)=refOf ss j∧Links ss r R.nslot R.ngen:=by
  obtain ⟨h1,y,h2,h3,h4,h5⟩:=h
  rcases hl with ⟨i,t,e1,e2,e3,e4,e5,e6⟩ | ⟨e,_⟩
  · have hij:i=j:=by omega
    subst hij
    have ht:t=y:=by rw [h2] at e2;exact (Option.some.inj e2).symm
    subst ht
    refine ⟨e5,by rw [e6];unfold recOf;rw [slotD h2],?_,by rw [e6];exact h5⟩
    unfold refOf
    rw [slotD h2,h1,h4]
  · exfalso
    refine e ?_
    rcases atC_cases ss s g with ⟨e0,hno⟩ | ⟨i,z,f1,f2,f3⟩
    · have hlt:=(List.getElem?_eq_some_iff.1 h2).1
      omega
    · have hij:i=j:=by omega
      subst hij
      have ht:z=y:=by rw [h2] at f2;exact (Option.some.inj f2).symm
      subst ht
      rcases f3 with ⟨_,f4⟩ | ⟨f3,_⟩
      · exact absurd ⟨h3,h4⟩ f4
      · exact f3
def OwnStep (s s':LdS) (w:World):Prop:=
  (∀ k,(Value.slice s'.A s'.L.length s'.c).ownBlock=some k→(Value.slice s.A s.L.length s.c).ownBlock=some k∨w.heap.size≤k) ∧
  (∀ k,(Value.slice s'.B s'.refs.length s'.e).ownBlock=some k→(Value.slice s.B s.refs.length s.e).ownBlock=some k∨w.heap.size≤k)
set_option maxHeartbeats 4000000 in
theorem step_ph {b0 g m:Nat} {k:Int} {l:Lm} {x:St} {w:World} {s:LdS} {js:List Nat} {n s0 g0:Int} {p:Nat} (h:Ldr b0 w g s) (hm:Mm w m k l x) (hb:∀ i,mall m x i→i < b0) (h0:0≤k) (h1:k≤100000) (ph:LdPh x.ss js n s0 g0 p s) (hp:p≤js.length)
  (hpg:∃ i:Nat,n=(i:Int)∧x.ps[i]?=some (true,s0,g0)) (hl:Links x.ss js s0 g0) (hne:js≠[]) (hls:js.length≤l.s) (hl2:js.length≤4000) :
  Calls Tryz.prog 45 #[.pointer (some ⟨g,0,none⟩),.pointer (some ⟨m,0,none⟩)] w fun e w'=>∃ s',e=.returned (.bool (decide (p=js.length)))∧LdPh x.ss js n s0 g0 (p+1) s'∧Ldr b0 w' g s'∧Mm w' m (k+1) l x∧Fr (lown m x g s) w w'∧OwnStep s s' w:=by
 have hlen:0 < js.length:=List.length_pos_iff.2 hne
 have hov:s.over=false:=by rw [ph.ov];exact decide_eq_false (by omega)
 cases p with
 | zero =>
  have hbg:s.begun=false:=by rw [ph.bg];rfl
  refine (step_firstO h hm hb h0 h1 hov hbg).mono ?_
  rintro e w' ⟨a,b,c,v,hd,_,hmm,hf,hcase⟩
  obtain ⟨i,hi,hpi⟩:=hpg
  obtain ⟨rfl,rfl,rfl⟩:a=s0∧b=g0∧c=0:=by
   rw [ph.nn] at hd
   rcases hd with ⟨j,e1,e2,e3⟩ | ⟨e,_⟩
   ·have hij:i=j:=by omega
    subst hij
    have e4:(true,s0,g0)=(true,a,b):=Option.some.inj (hpi.symm.trans e2)
    simp only [Prod.mk.injEq] at e4
    exact ⟨e4.2.1.symm,e4.2.2.symm,e3⟩
   ·exact absurd (by rw [hi];exact pgC_used hpi) e
  rcases hcase with ⟨e1,_⟩ | ⟨_,e1,e2,_⟩ | ⟨_,_,e1,e2⟩
  ·exact absurd rfl e1
  ·exact absurd ((links_zero hl).1 ⟨e1,e2⟩) hne
  ·refine ⟨{ s with begun:=true,hs:=a,hg:=b,ns:=a,ng:=b },by rw [e1,show decide (0=js.length)=false from decide_eq_false (by omega)],⟨ph.nn,rfl,?_,by omega,fun _=>⟨rfl,rfl⟩,ph.ls,ph.rs,fun _=>hl,ph.ve⟩,e2,hmm,hf,fun k hk=>.inl hk,fun k hk=>.inl hk⟩
   show s.over=_
   rw [hov]
   exact (decide_eq_false (by omega)).symm
 | succ q =>
  have hbg:s.begun=true:=by rw [ph.bg];exact decide_eq_true (by omega)
  have hlq:=ph.len
  simp only [Nat.add_sub_cancel] at hlq
  refine (step_nextO h hm hb h0 h1 hov hbg (by omega) (by omega)).mono ?_
  rintro e w' ⟨R,A,c,B,d,kk,v,hld,_,hmm,hf,hcase⟩
  have hq:q < js.length:=by omega
  have hnx:=ph.nx (by omega)
  simp only [Nat.add_sub_cancel] at hnx
  rw [List.drop_eq_getElem_cons hq] at hnx
  obtain ⟨rfl,hR,hrf,hrest⟩:=load_links hnx hld
  rcases hcase with ⟨e1,_⟩ | ⟨_,A',c',B',d',ov,ve,e1,e2,ho1,ho2,hc⟩
  ·exact absurd rfl e1
  have hfin:ov=decide (q+1=js.length)∧ve=.nilIface:=by
   have hz:=links_zero hrest
   have hdl:js.drop (q+1)=[] ↔ js.length≤q+1:=List.drop_eq_nil_iff
   rcases hc with ⟨z1,z2,z3,z4⟩ | ⟨z1,z2,_,_⟩ | ⟨z1,_,z3,z4⟩
   ·have:=hdl.1 (hz.1 ⟨z1,z2⟩)
    exact ⟨by rw [z3];exact (decide_eq_true (by omega)).symm,z4⟩
   ·exfalso
    have:¬ js.length≤q+1:=fun hle=>z1 (hz.2 (hdl.2 hle))
    omega
   ·have:¬ js.length≤q+1:=fun hle=>z1 (hz.2 (hdl.2 hle))
    exact ⟨by rw [z3];exact (decide_eq_false (by omega)).symm,by rw [z4];exact ph.ve⟩
  refine ⟨⟨s.n,s.begun,ov,s.hs,s.hg,R.nslot,R.ngen,A',c',s.L ++ [⟨R,A,c,B,d⟩],B',d',s.refs ++ [(s.ns,s.ng)],ve⟩,by rw [e1,hfin.1],⟨ph.nn,?_,?_,by omega,fun _=>ph.hd (by omega),?_,?_,fun _=>by simpa using hrest,hfin.2⟩,e2,hmm,hf,fun k hk=>ho1 k (by simpa using hk),fun k hk=>ho2 k (by simpa using hk)⟩
  ·show s.begun=_
   rw [hbg]
   exact (decide_eq_true (by omega)).symm
  ·show ov=_
   rw [hfin.1]
   simp
  ·have hls':=ph.ls
   simp only [Nat.add_sub_cancel] at hls' ⊢
   rw [List.take_add_one,List.getElem?_eq_getElem hq,List.map_append,List.map_append,hls']
   simp [hR]
  ·have hrs':=ph.rs
   simp only [Nat.add_sub_cancel] at hrs' ⊢
   rw [List.take_add_one,List.getElem?_eq_getElem hq,List.map_append,hrs']
   simp [hrf]
theorem links_used {ss:List Sl}:∀ {js:List Nat} {s g:Int},Links ss js s g→∀ j ∈ js,∃ y,ss[j]?=some y∧y.used=true
  | [],_,_,_,j,hj=>by cases hj
  | i :: r,s,g,h,j,hj=>by
    obtain ⟨_,z,h2,h3,_,h5⟩:=h
    rcases List.mem_cons.1 hj with rfl | hj
    · exact ⟨z,h2,h3⟩
    · exact links_used h5 j hj
structure PRec (R:Rc):Prop where
  ok:RcOk R
  val:SzOk R.val
  rows:RwsOk R.rows
  zr:R.rows.length≤500
  ze:R.ents.length≤500
theorem LdPh.done {ss:List Sl} {js:List Nat} {n s0 g0:Int} {s:LdS} (h:LdPh ss js n s0 g0 (js.length+1) s):s.over=true∧s.ve=.nilIface∧s.hs=s0∧s.hg=g0∧s.L.map (·.R)=js.map (recOf ss)∧s.refs=js.map (refOf ss):=by
  have h1:=h.ls
  have h2:=h.rs
  simp only [Nat.add_sub_cancel,List.take_length] at h1 h2
  exact ⟨by rw [h.ov];simp,h.ve,(h.hd (by omega)).1,(h.hd (by omega)).2,h1,h2⟩
theorem LdPh.recs {ss:List Sl} {js:List Nat} {n s0 g0:Int} {p:Nat} {s:LdS} (h:LdPh ss js n s0 g0 p s) (hr:∀ j ∈ js,PRec (recOf ss j)):∀ C ∈ s.L,PRec C.R:=fun C hC=>by
  have hm:C.R ∈ s.L.map (·.R):=List.mem_map.2 ⟨C,hC,rfl⟩
  rw [h.ls] at hm
  obtain ⟨j,hj,e⟩:=List.mem_map.1 hm
  rw [← e]
  exact hr j (List.mem_of_mem_take hj)
set_option maxHeartbeats 4000000 in
theorem step_phK {b0 g m:Nat} {k:Int} {l:Lm} {x:St} {w:World} {s:LdS} {js:List Nat} {n s0 g0:Int} {p:Nat} (h:Ldr b0 w g s) (hm:Mm w m k l x) (hb:∀ i,mall m x i→i < b0) (h0:0≤k) (h1:k≤100000) (ph:LdPh x.ss js n s0 g0 p s) (hp:p≤js.length)
    (hp1:0 < p) (hl:Links x.ss js s0 g0) (hne:js≠[]) (hls:js.length≤l.s) (hl2:js.length≤4000) :
    Calls Tryz.prog 45 #[.pointer (some ⟨g,0,none⟩),.pointer (some ⟨m,0,none⟩)] w fun e w'=>∃ s',e=.returned (.bool (decide (p=js.length)))∧LdPh x.ss js n s0 g0 (p+1) s'∧Ldr b0 w' g s'∧Mm w' m (k+1) l x∧Fr (lown m x g s) w w'∧OwnStep s s' w:=by
  have hlen:0 < js.length:=List.length_pos_iff.2 hne
  have hov:s.over=false:=by rw [ph.ov];exact decide_eq_false (by omega)
  cases p with
  | zero=>exact absurd hp1 (Nat.lt_irrefl 0)
  | succ q =>
    have hbg:s.begun=true:=by rw [ph.bg];exact decide_eq_true (by omega)
    have hlq:=ph.len
    simp only [Nat.add_sub_cancel] at hlq
    refine (step_nextO h hm hb h0 h1 hov hbg (by omega) (by omega)).mono ?_
    rintro e w' ⟨R,A,c,B,d,kk,v,hld,_,hmm,hf,hcase⟩
    have hq:q < js.length:=by omega
    have hnx:=ph.nx (by omega)
    simp only [Nat.add_sub_cancel] at hnx
    rw [List.drop_eq_getElem_cons hq] at hnx
    obtain ⟨rfl,hR,hrf,hrest⟩:=load_links hnx hld
    rcases hcase with ⟨e1,_⟩ | ⟨_,A',c',B',d',ov,ve,e1,e2,ho1,ho2,hc⟩
    · exact absurd rfl e1
    have hfin:ov=decide (q+1=js.length)∧ve=.nilIface:=by
      have hz:=links_zero hrest
      have hdl:js.drop (q+1)=[] ↔ js.length≤q+1:=List.drop_eq_nil_iff
      rcases hc with ⟨z1,z2,z3,z4⟩ | ⟨z1,z2,_,_⟩ | ⟨z1,_,z3,z4⟩
      · have:=hdl.1 (hz.1 ⟨z1,z2⟩)
        exact ⟨by rw [z3];exact (decide_eq_true (by omega)).symm,z4⟩
      · exfalso
        have:¬ js.length≤q+1:=fun hle=>z1 (hz.2 (hdl.2 hle))
        omega
      · have:¬ js.length≤q+1:=fun hle=>z1 (hz.2 (hdl.2 hle))
        exact ⟨by rw [z3];exact (decide_eq_false (by omega)).symm,by rw [z4];exact ph.ve⟩
    refine ⟨⟨s.n,s.begun,ov,s.hs,s.hg,R.nslot,R.ngen,A',c',s.L ++ [⟨R,A,c,B,d⟩],B',d',s.refs ++ [(s.ns,s.ng)],ve⟩,by rw [e1,hfin.1],⟨ph.nn,?_,?_,by omega,fun _=>ph.hd (by omega),?_,?_,fun _=>by simpa using hrest,hfin.2⟩,e2,hmm,hf,fun k hk=>ho1 k (by simpa using hk),fun k hk=>ho2 k (by simpa using hk)⟩
    · show s.begun=_
      rw [hbg]
      exact (decide_eq_true (by omega)).symm
    · show ov=_
      rw [hfin.1]
      simp
    · have hls':=ph.ls
      simp only [Nat.add_sub_cancel] at hls' ⊢
      rw [List.take_add_one,List.getElem?_eq_getElem hq,List.map_append,List.map_append,hls']
      simp [hR]
    · have hrs':=ph.rs
      simp only [Nat.add_sub_cancel] at hrs' ⊢
      rw [List.take_add_one,List.getElem?_eq_getElem hq,List.map_append,hrs']
      simp [hrf]
theorem phL_page {b0 g:Nat} {w:World} {s:LdS} {ss:List Sl} {js:List Nat} {n s0 g0:Int} (h:Ldr b0 w g s) (ph:LdPh ss js n s0 g0 (js.length+1) s) (hr:∀ j ∈ js,PRec (recOf ss j)) (hl:js.length≤400) (V0:Lw) (hlf:leafB (js.map (recOf ss))=true) (hfl:foldL (js.map (recOf ss))=some V0) :
    Calls Tryz.prog 79 #[.pointer (some ⟨g,0,none⟩)] w fun e w'=>∃ v,e=.returned v∧LdMadeL w.heap.size V0 s w v w':=by
  obtain ⟨ho,hv,_⟩:=ph.done
  have hLs:s.L.map (·.R)=js.map (recOf ss):=by have:=ph.ls;rw [Nat.add_sub_cancel,List.take_length] at this;exact this
  have hlen:=ph.len
  have hrec:=ph.recs hr
  simp only [Nat.add_sub_cancel] at hlen
  refine ldPageL_made h ho hv (fun C hC=>(hrec C hC).ok) (by omega) (fun D hD=>?_) (fun D hD=>?_) (by omega) V0 (by rw [hLs];exact hlf) (by rw [hLs];exact hfl)
  · obtain ⟨C,hC,rfl⟩:=List.mem_map.1 hD
    exact ⟨(hrec C hC).val,(hrec C hC).rows,(hrec C hC).zr⟩
  · obtain ⟨C,hC,rfl⟩:=List.mem_map.1 hD
    exact (hrec C hC).ze
open Go.RowKit

structure Dt where
  page:Int
  os:Int
  og:Int
  news:Int
  stage:Int
  pages:List Int
  bases:List Rc
  head:Rc
  refs:List (Int × Int)
  at_:Int
  done:Bool
  err:Int
structure Ia where
  mv:Value
  pv:Value
  bv:Value
  rv:Value
  Cs:List Cr
  hvr:Value
  hve:Value
  ev:Value
abbrev inA (D:Dt) (a:Ia):Array Value:=#[.int .i64 D.page,.int .i64 D.os,.int .i64 D.og,.int .i64 D.news,a.mv,.int .i64 D.stage,a.pv,a.bv,.int .i64 D.head.kind,.string D.head.low,.string D.head.high,.bool D.head.unb,.int .i64 D.head.right,a.hvr,a.hve,.string D.head.key,.string D.head.val,.int .i64 D.head.page,.int .i64 D.head.hpage,.int .i64 D.head.hleft,.string D.head.hkey,.int .i64 D.head.nslot,.int .i64 D.head.ngen,a.rv,.int .i64 D.at_,.bool D.done,a.ev]
abbrev intF (l:List Int):List Value:=l.map fun n=>Value.int .i64 n
def Er (w:World) (v:Value) (c:Int):Prop:=v=errOf c∨∃ p s,Ev w v p s c
theorem Er.shape {w:World} {v:Value} {c:Int} (h:Er w v c):v=.nilIface∨∃ t x,v=.iface t x:=by
  rcases h with rfl | ⟨p,s,⟨_,rfl⟩ | ⟨_,b,rfl,_⟩⟩
  · unfold errOf;split
    · exact .inl rfl
    · exact .inr ⟨_,_,rfl⟩
  · exact .inl rfl
  · exact .inr ⟨_,_,rfl⟩
theorem Er.fr {w w':World} {v:Value} {c:Int} {S:Nat→Prop} (h:Er w v c) (hf:Fr S w w') (hS:∀ b cs,Blk w b 158 cs→¬ S b):Er w' v c:=by
  rcases h with h | ⟨p,s,h⟩
  · exact .inl h
  · exact .inr ⟨p,s,h.fr hf hS⟩
theorem Er.only {w w':World} {v:Value} {c:Int} {g:Nat} {t:TypeId} {cs:Array Value} (h:Er w v c) (hf:Fr (only g) w w') (hg:Blk w g t cs) (hne:158≠t):Er w' v c:=
  h.fr hf (fun b _ hb=>only_ne (Blk.ne_ hb hg hne))
theorem Ev.er {w:World} {v:Value} {p:ByteArray} {s c:Int} (h:Ev w v p s c):Er w v c:=.inr ⟨p,s,h⟩
def RowsOk (R:Rc):Prop:=R.rows.length≤1000∧R.ents.length≤1000
structure Inst (w:World) (B i:Nat) (D:Dt) (a:Ia):Prop where
  b:Blk w i 147 (inA D a)
  p:w.ownsRow B 3 1 a.pv D.pages.length (intF D.pages)
  bs:w.ownsRow B 51 15 a.bv a.Cs.length (crFlat a.Cs)
  cs:a.Cs.map (·.R)=D.bases
  bo:∀ C ∈ a.Cs,RecOwn w 0 C.R (.slice C.A C.R.rows.length C.c) (.slice C.B C.R.ents.length C.d)
  r:w.ownsRow B 36 2 a.rv D.refs.length (rf9Flat D.refs)
  h:RecOwn w 0 D.head a.hvr a.hve
  e:Er w a.ev D.err
  le:B≤i
  zb:∀ R ∈ D.bases,RowsOk R
  zh:RowsOk D.head
  zp:D.pages.length≤4∧D.bases.length≤4∧D.refs.length≤5
def foot (i:Nat) (a:Ia):Nat→Prop:=fun k=>k=i∨a.pv.ownBlock=some k∨a.bv.ownBlock=some k∨a.rv.ownBlock=some k
theorem own_blk {w:World} {base:Nat} {e:TypeId} {size n:Nat} {v:Value} {xs:List Value} (h:w.ownsRow base e size v n xs) {k:Nat} (hk:v.ownBlock=some k):base≤k∧∃ cs,Blk w k e cs:=by
  rcases h.2 with ⟨rfl,rfl⟩ | ⟨g,cap,cur,rfl,hb,hh,hc,hm,hs,ht⟩
  · simp [Value.ownBlock] at hk
  · obtain rfl:g=k:=by simpa [Value.ownBlock] using hk
    exact ⟨hb,cur,hh⟩
section
variable {w w':World} {B i:Nat} {D:Dt} {a:Ia} {S:Nat→Prop}
theorem Inst.foot_le (h:Inst w B i D a) {k:Nat} (hk:foot i a k):B≤k:=by
  rcases hk with rfl | hk | hk | hk
  · exact h.le
  · exact (own_blk h.p hk).1
  · exact (own_blk h.bs hk).1
  · exact (own_blk h.r hk).1
theorem Inst.foot_blk (h:Inst w B i D a) {k:Nat} (hk:foot i a k):∃ t cs,Blk w k t cs∧(t=147∨t=3∨t=51∨t=36):=by
  rcases hk with rfl | hk | hk | hk
  · exact ⟨_,_,h.b,.inl rfl⟩
  · obtain ⟨_,cs,hb⟩:=own_blk h.p hk
    exact ⟨_,cs,hb,.inr (.inl rfl)⟩
  · obtain ⟨_,cs,hb⟩:=own_blk h.bs hk
    exact ⟨_,cs,hb,.inr (.inr (.inl rfl))⟩
  · obtain ⟨_,cs,hb⟩:=own_blk h.r hk
    exact ⟨_,cs,hb,.inr (.inr (.inr rfl))⟩
theorem Inst.fr (h:Inst w B i D a) (hf:Fr S w w') (h1:∀ k,foot i a k→¬ S k) (h2:∀ k t cs,Blk w k t cs→(t=25∨t=132∨t=158)→¬ S k):Inst w' B i D a:=by
  have hrec:∀ R vr ve,RecOwn w 0 R vr ve→RecOwn w' 0 R vr ve:=fun R vr ve hR =>
    hR.fr hf (fun k hk=>by obtain ⟨_,cs,hb⟩:=own_blk hR.r hk;exact h2 k _ cs hb (.inl rfl)) (fun k hk=>by obtain ⟨_,cs,hb⟩:=own_blk hR.e hk;exact h2 k _ cs hb (.inr (.inl rfl)))
  exact ⟨h.b.fr hf (h1 i (.inl rfl)),own_fr h.p hf (fun k hk=>h1 k (.inr (.inl hk))),own_fr h.bs hf (fun k hk=>h1 k (.inr (.inr (.inl hk)))),h.cs,
    fun C hC=>hrec _ _ _ (h.bo C hC),own_fr h.r hf (fun k hk=>h1 k (.inr (.inr (.inr hk)))),hrec _ _ _ h.h,h.e.fr hf (fun b cs hb=>h2 b _ cs hb (.inr (.inr rfl))),h.le,h.zb,h.zh,h.zp⟩
theorem Inst.keep (h:Inst w B i D a) (hf:Fr none_ w w'):Inst w' B i D a:=h.fr hf (fun _ _=>id) (fun _ _ _ _ _=>id)
theorem Inst.beside (h:Inst w B i D a) {g:Nat} {t:TypeId} {cs:Array Value} (hf:Fr (only g) w w') (hg:Blk w g t cs) (hn:t≠147∧t≠3∧t≠51∧t≠25∧t≠132∧t≠158) (hr:t=36→a.rv.ownBlock≠some g):Inst w' B i D a:=by
  refine h.fr hf (fun k hk=>?_) (fun k t' cs' hb ht=>?_)
  · refine only_ne ?_
    rintro rfl
    obtain ⟨t',cs',hb,ht⟩:=h.foot_blk hk
    obtain ⟨rfl,_⟩:=hb.uniq hg
    rcases ht with rfl | rfl | rfl | rfl
    · exact hn.1 rfl
    · exact hn.2.1 rfl
    · exact hn.2.2.1 rfl
    · rcases hk with rfl | hk | hk | hk
      · exact absurd (h.b.uniq hg).1 (by decide)
      · obtain ⟨_,cs2,hb2⟩:=own_blk h.p hk
        exact absurd (hb2.uniq hg).1 (by decide)
      · obtain ⟨_,cs2,hb2⟩:=own_blk h.bs hk
        exact absurd (hb2.uniq hg).1 (by decide)
      · exact hr rfl hk
  · refine only_ne ?_
    rintro rfl
    obtain ⟨rfl,_⟩:=hb.uniq hg
    rcases ht with rfl | rfl | rfl
    · exact hn.2.2.2.1 rfl
    · exact hn.2.2.2.2.1 rfl
    · exact hn.2.2.2.2.2 rfl
end
theorem Mm.mall_ty {w:World} {m:Nat} {k:Int} {l:Lm} {x:St} (h:Mm w m k l x) {b:Nat} {t:TypeId} {cs:Array Value} (hb:Blk w b t cs) (hn:t≠111∧t≠164∧t≠155∧t≠179):¬ mall m x b:=by
  obtain ⟨cs,hG,_⟩:=h.ar.hG
  obtain ⟨cap,cur,hT0,hH,_⟩:=id h.tb
  rintro (e | e | e | e | e)
  · exact Blk.ne_ hb h.b hn.1 e
  · exact Blk.ne_ hb hG hn.2.1 e
  · exact Blk.ne_ hb hH hn.2.2.1 e
  · exact Blk.ne_ hb h.ck.hC hn.2.2.2 e
  · exact h.ck.mne hb e.symm
theorem Inst.mall {w w':World} {B i:Nat} {D:Dt} {a:Ia} {m:Nat} {k:Int} {l:Lm} {x:St} (h:Inst w B i D a) (hM:Mm w m k l x) (hf:Fr (mall m x) w w'):Inst w' B i D a:=by
  refine h.fr hf (fun b hb=>?_) (fun b t cs hb ht=>?_)
  · obtain ⟨t,cs,hbb,ht⟩:=h.foot_blk hb
    refine hM.mall_ty hbb ?_
    rcases ht with rfl | rfl | rfl | rfl <;> decide
  · refine hM.mall_ty hb ?_
    rcases ht with rfl | rfl | rfl <;> decide
theorem Mm.beside {w w':World} {m:Nat} {k:Int} {l:Lm} {x:St} (h:Mm w m k l x) {g:Nat} {t:TypeId} {cs:Array Value} (hf:Fr (only g) w w') (hg:Blk w g t cs) (hn:t≠111∧t≠164∧t≠155∧t≠179) (hn2:t≠161∧t≠168∧t≠25∧t≠132):Mm w' m k l x:=by
  obtain ⟨cs',hG,_⟩:=h.ar.hG
  obtain ⟨cap,cur,hT0,hH,_⟩:=id h.tb
  exact ⟨h.b.fr hf (only_ne (Blk.ne_ h.b hg hn.1.symm)),h.ar.beside hf hg hn2.2.2.1.symm hn2.2.2.2.symm (Blk.ne_ h.ar.hA hg hn2.1.symm) (Blk.ne_ hG hg hn.2.1.symm),h.tb.fr hf (only_ne (Blk.ne_ hT0 hg hn2.2.1.symm)) (only_ne (Blk.ne_ hH hg hn.2.2.1.symm)),h.ck.fr hf (only_ne (Blk.ne_ h.ck.hC hg hn.2.2.2.symm)) (only_ne (h.ck.mne hg))⟩
open Go.RowKit

theorem Inst.reb {w w':World} {B i:Nat} {D D':Dt} {a a':Ia} (h:Inst w B i D a) (hf:Fr (only i) w w') (hb:Blk w' i 147 (inA D' a')) (hp:D'.pages=D.pages∧D'.bases=D.bases∧D'.refs=D.refs∧D'.head=D.head) (ha:a'.pv=a.pv∧a'.bv=a.bv∧a'.rv=a.rv∧a'.Cs=a.Cs∧a'.hvr=a.hvr∧a'.hve=a.hve) (he:Er w' a'.ev D'.err):Inst w' B i D' a':=by
  obtain ⟨p1,p2,p3,p4⟩:=hp
  obtain ⟨a1,a2,a3,a4,a5,a6⟩:=ha
  have hrec:∀ R vr ve,RecOwn w 0 R vr ve→RecOwn w' 0 R vr ve:=fun R vr ve hR=>hR.only hf h.b (by decide) (by decide)
  refine ⟨hb,?_,?_,?_,?_,?_,?_,he,h.le,?_,?_,?_⟩
  · rw [p1,a1];exact own_fr h.p hf (fun k hk e=>own_blk_ne h.p h.b (by decide) (by rw [hk,show k=i from e]))
  · rw [a2,a4];exact own_fr h.bs hf (fun k hk e=>own_blk_ne h.bs h.b (by decide) (by rw [hk,show k=i from e]))
  · rw [a4,p2];exact h.cs
  · rw [a4];exact fun C hC=>hrec _ _ _ (h.bo C hC)
  · rw [a3,p3];exact own_fr h.r hf (fun k hk e=>own_blk_ne h.r h.b (by decide) (by rw [hk,show k=i from e]))
  · rw [p4,a5,a6];exact hrec _ _ _ h.h
  · rw [p2];exact h.zb
  · rw [p4];exact h.zh
  · rw [p1,p2,p3];exact h.zp
theorem Inst.shapes {w:World} {B i:Nat} {D:Dt} {a:Ia} (h:Inst w B i D a):∃ A c A' c' A'' c'',a.pv=.slice A D.pages.length c∧a.rv=.slice A' D.refs.length c'∧a.bv=.slice A'' D.bases.length c'':=by
  obtain ⟨A,c,h1⟩:=h.p.shape
  obtain ⟨A',c',h2⟩:=h.r.shape
  obtain ⟨A'',c'',h3⟩:=h.bs.shape
  refine ⟨A,c,A',c',A'',c'',h1,h2,?_⟩
  have hl:=congrArg List.length h.cs
  rw [List.length_map] at hl
  rw [h3,hl]
theorem Blk.there_at {w:World} {g o n:Nat} {t:TypeId} {cs:Array Value} (h:Blk w g t cs) (hn:o+n≤cs.size):w.there g o n:=by
  intro j hj
  refine ⟨?_,h.frozen _⟩
  rw [h.cell,Array.getElem?_eq_getElem (by omega)]
  rfl
theorem setA_head (D:Dt) (a:Ia) (hd:Rc) (vr ve:Value):setA (inA D a) 8 (recA hd vr ve).toList=inA { D with head:=hd } { a with hvr:=vr,hve:=ve }:=by
  simp only [setA,List.setIfInBounds_toArray,List.set_cons_zero,List.set_cons_succ]
theorem Inst.rehead {w w':World} {B i:Nat} {D:Dt} {a:Ia} (h:Inst w B i D a) (hf:Fr (only i) w w') {hd:Rc} {vr ve:Value} {s t:Int} (hb:Blk w' i 147 (inA { D with head:=hd,stage:=s,at_:=t } { a with hvr:=vr,hve:=ve })) (hr:RecOwn w 0 hd vr ve) (hz:RowsOk hd):Inst w' B i { D with head:=hd,stage:=s,at_:=t } { a with hvr:=vr,hve:=ve }:=by
  have hrec:∀ R vr ve,RecOwn w 0 R vr ve→RecOwn w' 0 R vr ve:=fun R vr ve hR=>hR.only hf h.b (by decide) (by decide)
  exact ⟨hb,own_fr h.p hf (fun k hk e=>own_blk_ne h.p h.b (by decide) (by rw [hk,show k=i from e])),own_fr h.bs hf (fun k hk e=>own_blk_ne h.bs h.b (by decide) (by rw [hk,show k=i from e])),h.cs,fun C hC=>hrec _ _ _ (h.bo C hC),own_fr h.r hf (fun k hk e=>own_blk_ne h.r h.b (by decide) (by rw [hk,show k=i from e])),hrec _ _ _ hr,h.e.only hf h.b (by decide),h.le,h.zb,hz,h.zp⟩
theorem over_ok {w:World} {B i:Nat} {D:Dt} {a:Ia} (h:Inst w B i D a):Calls Tryz.prog 80 #[.pointer (some ⟨i,0,none⟩)] w fun e w'=>e=.returned (.bool (D.stage==7))∧w=w':=by
  have c5:w.cell? ⟨i,5,none⟩=some (.int .i64 D.stage):=h.b.cell' rfl
  clear h
  go_enter Tryz.func80,Tryz.ntmps80
  go_wp2
  go_ret
  exact ⟨rfl,rfl⟩
def undoD (D:Dt) (c:Int):Dt:={ D with err:=c,stage:=if D.refs.length=0 then (if D.pages.length=0 then 7 else 6) else 5 }
set_option maxHeartbeats 2000000 in
theorem undo_n {w:World} {B i:Nat} {D:Dt} {a:Ia} (c:Int) (h:Inst w B i D a) (hv:Er w .nilIface c):Calls Tryz.prog 105 #[.pointer (some ⟨i,0,none⟩),.nilIface] w fun e w'=>e=.returned (.bool ((undoD D c).stage==7))∧Inst w' B i (undoD D c) { a with ev:=.nilIface }∧Fr (only i) w w':=by
 obtain ⟨A,c1,A',c2,A'',c3,e1,e2,e3⟩:=h.shapes
 have H:=hid_ h
 have HV:=hid_ hv
 have i5:w.cell? ⟨i,5,none⟩=some (.int .i64 D.stage):=h.b.cell' rfl
 have i6:w.cell? ⟨i,6,none⟩=some (.slice A D.pages.length c1):=by rw [← e1];exact h.b.cell' rfl
 have i23:w.cell? ⟨i,23,none⟩=some (.slice A' D.refs.length c2):=by rw [← e2];exact h.b.cell' rfl
 have i26:w.cell? ⟨i,26,none⟩=some a.ev:=h.b.cell' rfl
 have y5:=h.b.frozen 5
 have y26:=h.b.frozen 26
 have B5:=h.b.set_ 26 .nilIface
 have E1:=hid_ e1
 have E2:=hid_ e2
 clear h hv e1 e2 e3
 have fr0:Fr (only i) w (w.setCell ⟨i,26,none⟩ .nilIface):=Fr.only1 w ⟨i,26,none⟩ .nilIface
 have done:∀ (s:Int) (w':World),Fr (only i) w w'→Blk w' i 147 (inA { D with err:=c,stage:=s } { a with ev:=.nilIface })→undoD D c={ D with err:=c,stage:=s }→(Inst w' B i (undoD D c) { a with ev:=.nilIface }∧Fr (only i) w w'):=fun s w' hf hb e =>
  ⟨by rw [e];exact H.out.reb hf hb ⟨rfl,rfl,rfl,rfl⟩ ⟨rfl,rfl,rfl,rfl,rfl,rfl⟩ (HV.out.only hf H.out.b (by decide)),hf⟩
 have DN:=hid_ done
 have HB:=hid_ B5
 have HF:=hid_ fr0
 clear done B5 fr0
 by_cases hr:D.refs.length=0
 ·have z1:((D.refs.length:Int)==0)=true:=by simp [hr]
  by_cases hp:D.pages.length=0
  ·have z2:((D.pages.length:Int)==0)=true:=by simp [hp]
   have hu:undoD D c={ D with err:=c,stage:=7 }:=by simp [undoD,hr,hp]
   have HU:=hid_ hu
   clear hr hp hu
   go_enter Tryz.func105,Tryz.ntmps105
   go_upto_region 4 with fail
   obtain ⟨w1,hw1⟩:∃ z,z=((w.setCell ⟨i,26,none⟩ .nilIface).setCell ⟨i,5,none⟩ (.int .i64 5)).setCell ⟨i,5,none⟩ (.int .i64 6):=⟨_,rfl⟩
   have B1:=hid_ ((HB.out.set_ 5 (.int .i64 5)).set_ 5 (.int .i64 6))
   have F1:Hid (Fr (only i) w w1):=hid_ (by rw [hw1];exact (HF.out.trans (Fr.only1 _ ⟨i,5,none⟩ (.int .i64 5)) (fun _ _=>id) (fun _ _=>id)).trans (Fr.only1 _ ⟨i,5,none⟩ (.int .i64 6)) (fun _ _=>id) (fun _ _=>id))
   rw [← hw1] at B1
   change Code.wp _ _ _ _ (((w.setCell ⟨i,26,none⟩ .nilIface).setCell ⟨i,5,none⟩ (.int .i64 5)).setCell ⟨i,5,none⟩ (.int .i64 6))
   rw [← hw1]
   clear hw1 i5 i6 i23 i26 y5 y26
   have i5:w1.cell? ⟨i,5,none⟩=some (.int .i64 6):=B1.out.cell' rfl
   have i6:w1.cell? ⟨i,6,none⟩=some (.slice A D.pages.length c1):=B1.out.cell' (by rw [← E1.out];rfl)
   have i23:w1.cell? ⟨i,23,none⟩=some (.slice A' D.refs.length c2):=B1.out.cell' (by rw [← E2.out];rfl)
   have y5:=B1.out.frozen 5
   go_wp2_with fail
   have HI:=hid_ (DN.out 7 _ (F1.out.trans (Fr.only1 _ ⟨i,5,none⟩ (.int .i64 7)) (fun _ _=>id) (fun _ _=>id)) (B1.out.set_ 5 (.int .i64 7)) HU.out)
   refine (over_ok HI.out.1).mono ?_
   rintro e w1 ⟨rfl,rfl⟩
   go_wp2_with fail
   go_ret
   exact ⟨rfl,HI.out.1,HI.out.2⟩
  ·have z2:((D.pages.length:Int)==0)=false:=by simp [hp]
   have hu:undoD D c={ D with err:=c,stage:=6 }:=by simp [undoD,hr,hp]
   have HU:=hid_ hu
   clear hr hp hu
   go_enter Tryz.func105,Tryz.ntmps105
   go_wp2_with fail
   have HI:=hid_ (DN.out 6 _ ((HF.out.trans (Fr.only1 _ ⟨i,5,none⟩ (.int .i64 5)) (fun _ _=>id) (fun _ _=>id)).trans (Fr.only1 _ ⟨i,5,none⟩ (.int .i64 6)) (fun _ _=>id) (fun _ _=>id)) ((HB.out.set_ 5 (.int .i64 5)).set_ 5 (.int .i64 6)) HU.out)
   refine (over_ok HI.out.1).mono ?_
   rintro e w1 ⟨rfl,rfl⟩
   go_wp2_with fail
   go_ret
   exact ⟨rfl,HI.out.1,HI.out.2⟩
 ·have z1:((D.refs.length:Int)==0)=false:=by simp [hr]
  have hu:undoD D c={ D with err:=c,stage:=5 }:=by simp [undoD,hr]
  have HU:=hid_ hu
  clear hr hu
  go_enter Tryz.func105,Tryz.ntmps105
  go_wp2_with fail
  have HI:=hid_ (DN.out 5 _ (HF.out.trans (Fr.only1 _ ⟨i,5,none⟩ (.int .i64 5)) (fun _ _=>id) (fun _ _=>id)) (HB.out.set_ 5 (.int .i64 5)) HU.out)
  refine (over_ok HI.out.1).mono ?_
  rintro e w1 ⟨rfl,rfl⟩
  go_wp2_with fail
  go_ret
  exact ⟨rfl,HI.out.1,HI.out.2⟩
set_option maxHeartbeats 2000000 in
theorem undo_i {w:World} {B i:Nat} {D:Dt} {a:Ia} (tv:TypeId) (xv:Value) (c:Int) (h:Inst w B i D a) (hv:Er w (.iface tv xv) c):Calls Tryz.prog 105 #[.pointer (some ⟨i,0,none⟩),(.iface tv xv)] w fun e w'=>e=.returned (.bool ((undoD D c).stage==7))∧Inst w' B i (undoD D c) { a with ev:=(.iface tv xv) }∧Fr (only i) w w':=by
 obtain ⟨A,c1,A',c2,A'',c3,e1,e2,e3⟩:=h.shapes
 have H:=hid_ h
 have HV:=hid_ hv
 have i5:w.cell? ⟨i,5,none⟩=some (.int .i64 D.stage):=h.b.cell' rfl
 have i6:w.cell? ⟨i,6,none⟩=some (.slice A D.pages.length c1):=by rw [← e1];exact h.b.cell' rfl
 have i23:w.cell? ⟨i,23,none⟩=some (.slice A' D.refs.length c2):=by rw [← e2];exact h.b.cell' rfl
 have i26:w.cell? ⟨i,26,none⟩=some a.ev:=h.b.cell' rfl
 have y5:=h.b.frozen 5
 have y26:=h.b.frozen 26
 have B5:=h.b.set_ 26 (.iface tv xv)
 have E1:=hid_ e1
 have E2:=hid_ e2
 clear h hv e1 e2 e3
 have fr0:Fr (only i) w (w.setCell ⟨i,26,none⟩ (.iface tv xv)):=Fr.only1 w ⟨i,26,none⟩ (.iface tv xv)
 have done:∀ (s:Int) (w':World),Fr (only i) w w'→Blk w' i 147 (inA { D with err:=c,stage:=s } { a with ev:=(.iface tv xv) })→undoD D c={ D with err:=c,stage:=s }→(Inst w' B i (undoD D c) { a with ev:=(.iface tv xv) }∧Fr (only i) w w'):=fun s w' hf hb e =>
  ⟨by rw [e];exact H.out.reb hf hb ⟨rfl,rfl,rfl,rfl⟩ ⟨rfl,rfl,rfl,rfl,rfl,rfl⟩ (HV.out.only hf H.out.b (by decide)),hf⟩
 have DN:=hid_ done
 have HB:=hid_ B5
 have HF:=hid_ fr0
 clear done B5 fr0
 by_cases hr:D.refs.length=0
 ·have z1:((D.refs.length:Int)==0)=true:=by simp [hr]
  by_cases hp:D.pages.length=0
  ·have z2:((D.pages.length:Int)==0)=true:=by simp [hp]
   have hu:undoD D c={ D with err:=c,stage:=7 }:=by simp [undoD,hr,hp]
   have HU:=hid_ hu
   clear hr hp hu
   go_enter Tryz.func105,Tryz.ntmps105
   go_upto_region 4 with fail
   obtain ⟨w1,hw1⟩:∃ z,z=((w.setCell ⟨i,26,none⟩ (.iface tv xv)).setCell ⟨i,5,none⟩ (.int .i64 5)).setCell ⟨i,5,none⟩ (.int .i64 6):=⟨_,rfl⟩
   have B1:=hid_ ((HB.out.set_ 5 (.int .i64 5)).set_ 5 (.int .i64 6))
   have F1:Hid (Fr (only i) w w1):=hid_ (by rw [hw1];exact (HF.out.trans (Fr.only1 _ ⟨i,5,none⟩ (.int .i64 5)) (fun _ _=>id) (fun _ _=>id)).trans (Fr.only1 _ ⟨i,5,none⟩ (.int .i64 6)) (fun _ _=>id) (fun _ _=>id))
   rw [← hw1] at B1
   change Code.wp _ _ _ _ (((w.setCell ⟨i,26,none⟩ (.iface tv xv)).setCell ⟨i,5,none⟩ (.int .i64 5)).setCell ⟨i,5,none⟩ (.int .i64 6))
   rw [← hw1]
   clear hw1 i5 i6 i23 i26 y5 y26
   have i5:w1.cell? ⟨i,5,none⟩=some (.int .i64 6):=B1.out.cell' rfl
   have i6:w1.cell? ⟨i,6,none⟩=some (.slice A D.pages.length c1):=B1.out.cell' (by rw [← E1.out];rfl)
   have i23:w1.cell? ⟨i,23,none⟩=some (.slice A' D.refs.length c2):=B1.out.cell' (by rw [← E2.out];rfl)
   have y5:=B1.out.frozen 5
   go_wp2_with fail
   have HI:=hid_ (DN.out 7 _ (F1.out.trans (Fr.only1 _ ⟨i,5,none⟩ (.int .i64 7)) (fun _ _=>id) (fun _ _=>id)) (B1.out.set_ 5 (.int .i64 7)) HU.out)
   refine (over_ok HI.out.1).mono ?_
   rintro e w1 ⟨rfl,rfl⟩
   go_wp2_with fail
   go_ret
   exact ⟨rfl,HI.out.1,HI.out.2⟩
  ·have z2:((D.pages.length:Int)==0)=false:=by simp [hp]
   have hu:undoD D c={ D with err:=c,stage:=6 }:=by simp [undoD,hr,hp]
   have HU:=hid_ hu
   clear hr hp hu
   go_enter Tryz.func105,Tryz.ntmps105
   go_wp2_with fail
   have HI:=hid_ (DN.out 6 _ ((HF.out.trans (Fr.only1 _ ⟨i,5,none⟩ (.int .i64 5)) (fun _ _=>id) (fun _ _=>id)).trans (Fr.only1 _ ⟨i,5,none⟩ (.int .i64 6)) (fun _ _=>id) (fun _ _=>id)) ((HB.out.set_ 5 (.int .i64 5)).set_ 5 (.int .i64 6)) HU.out)
   refine (over_ok HI.out.1).mono ?_
   rintro e w1 ⟨rfl,rfl⟩
   go_wp2_with fail
   go_ret
   exact ⟨rfl,HI.out.1,HI.out.2⟩
 ·have z1:((D.refs.length:Int)==0)=false:=by simp [hr]
  have hu:undoD D c={ D with err:=c,stage:=5 }:=by simp [undoD,hr]
  have HU:=hid_ hu
  clear hr hu
  go_enter Tryz.func105,Tryz.ntmps105
  go_wp2_with fail
  have HI:=hid_ (DN.out 5 _ (HF.out.trans (Fr.only1 _ ⟨i,5,none⟩ (.int .i64 5)) (fun _ _=>id) (fun _ _=>id)) (HB.out.set_ 5 (.int .i64 5)) HU.out)
  refine (over_ok HI.out.1).mono ?_
  rintro e w1 ⟨rfl,rfl⟩
  go_wp2_with fail
  go_ret
  exact ⟨rfl,HI.out.1,HI.out.2⟩
theorem undo_ok {w:World} {B i:Nat} {D:Dt} {a:Ia} (v:Value) (c:Int) (h:Inst w B i D a) (hv:Er w v c):Calls Tryz.prog 105 #[.pointer (some ⟨i,0,none⟩),v] w fun e w'=>e=.returned (.bool ((undoD D c).stage==7))∧Inst w' B i (undoD D c) { a with ev:=v }∧Fr (only i) w w':=by
  rcases hv.shape with rfl | ⟨tv,xv,rfl⟩
  · exact undo_n c h hv
  · exact undo_i tv xv c h hv
open Go.RowKit

def OffMem (t:TypeId):Prop:=t≠111∧t≠164∧t≠155∧t≠179∧t≠161∧t≠168∧t≠25∧t≠132
instance (t:TypeId):Decidable (OffMem t):=by unfold OffMem;infer_instance
theorem Mm.ty {w w':World} {m:Nat} {k:Int} {l:Lm} {x:St} {S:Nat→Prop} (h:Mm w m k l x) (hf:Fr S w w') (hS:∀ b,S b→∃ t cs,Blk w b t cs∧OffMem t):Mm w' m k l x:=by
  obtain ⟨cs',hG,hc⟩:=h.ar.hG
  obtain ⟨cap,cur,hT0,hH,_⟩:=id h.tb
  have no:∀ {g:Nat} {t:TypeId} {cs:Array Value},Blk w g t cs→¬ OffMem t→¬ S g:=fun hb hn hs=>by
    obtain ⟨t',cs',hb',ho⟩:=hS _ hs
    obtain ⟨rfl,_⟩:=hb.uniq hb'
    exact hn ho
  have hrec:∀ R vr ve,RecOwn w 0 R vr ve→RecOwn w' 0 R vr ve:=fun R vr ve hR =>
    hR.fr hf (fun k hk=>by obtain ⟨_,cs,hb⟩:=own_blk hR.r hk;exact no hb (by decide)) (fun k hk=>by obtain ⟨_,cs,hb⟩:=own_blk hR.e hk;exact no hb (by decide))
  refine ⟨h.b.fr hf (no h.b (by decide)),⟨h.ar.hA.fr hf (no h.ar.hA (by decide)),⟨cs',hG.fr hf (no hG (by decide)),hc⟩,fun i s hs=>hrec _ _ _ (h.ar.own i s hs),h.ar.l40,h.ar.len,h.ar.gen,h.ar.sz⟩,h.tb.fr hf (no hT0 (by decide)) (no hH (by decide)),h.ck.fr hf (no h.ck.hC (by decide)) ?_⟩
  intro hs
  obtain ⟨t,cs,hb,_⟩:=hS _ hs
  exact h.ck.mne hb rfl
theorem Inst.off {w:World} {B i:Nat} {D:Dt} {a:Ia} (h:Inst w B i D a):∀ b,foot i a b→∃ t cs,Blk w b t cs∧OffMem t:=fun b hb=>by
  obtain ⟨t,cs,hbb,ht⟩:=h.foot_blk hb
  refine ⟨t,cs,hbb,?_⟩
  rcases ht with rfl | rfl | rfl | rfl <;> decide
theorem Er.grown {w w':World} {v:Value} {c:Int} (h:Er w v c) {b size n:Nat} {e:TypeId} {u:Value} {xs:List Value} (ho:w.ownsRow b e size u n xs) (hne:158≠e) (hg:w.grownBy w' u.ownBlock):Er w' v c:=by
  rcases h with h | ⟨p,s,h | ⟨h,bb,hv,hb⟩⟩
  · exact .inl h
  · exact .inr ⟨p,s,.inl h⟩
  · refine .inr ⟨p,s,.inr ⟨h,bb,hv,hb.grown hg ?_⟩⟩
    exact (own_blk_ne ho hb (Ne.symm hne)).symm
theorem Inst.pushR {w w1:World} {B i:Nat} {D:Dt} {a:Ia} (h:Inst w B i D a) {v':Value} {s g:Int} (ho:w1.ownsRow B 36 2 v' (D.refs.length+1) (rf9Flat D.refs ++ [.int .i64 s,.int .i64 g])) (hg:w.grownBy w1 a.rv.ownBlock) (hn:D.refs.length≤4):Inst (w1.setCell ⟨i,23,none⟩ v') B i { D with refs:=D.refs ++ [(s,g)] } { a with rv:=v' }∧Fr (foot i a) w (w1.setCell ⟨i,23,none⟩ v'):=by
  have f1:Fr (only i) w1 (w1.setCell ⟨i,23,none⟩ v'):=Fr.only1 w1 ⟨i,23,none⟩ v'
  have hb1:Blk w1 i 147 (inA D a):=h.b.grown hg (Ne.symm (own_blk_ne h.r h.b (by decide)))
  have hrec:∀ R vr ve,RecOwn w 0 R vr ve→RecOwn (w1.setCell ⟨i,23,none⟩ v') 0 R vr ve:=fun R vr ve hR=>(hR.grown h.r (by decide) (by decide) hg).only f1 hb1 (by decide) (by decide)
  refine ⟨⟨hb1.set_ 23 v',own_fr (own_kept h.p h.r (by decide) hg) f1 (fun k hk e=>own_blk_ne (own_kept h.p h.r (by decide) hg) hb1 (by decide) (by rw [hk,show k=i from e])),own_fr (own_kept h.bs h.r (by decide) hg) f1 (fun k hk e=>own_blk_ne (own_kept h.bs h.r (by decide) hg) hb1 (by decide) (by rw [hk,show k=i from e])),h.cs,fun E hE=>hrec _ _ _ (h.bo E hE),by have:=own_fr ho f1 (fun k hk e=>own_blk_ne ho hb1 (by decide) (by rw [hk,show k=i from e]));simpa [rf9Flat_snoc] using this,hrec _ _ _ h.h,(h.e.grown h.r (by decide) hg).only f1 hb1 (by decide),h.le,h.zb,h.zh,⟨h.zp.1,h.zp.2.1,by simp;omega⟩⟩,?_⟩
  exact (Fr.grown (Fr.refl (foot i a) w) hg (fun k hk=>.inl (.inr (.inr (.inr hk))))).setCell (p:=⟨i,23,none⟩) (.inl (.inl (Eq.refl i))) v'
def FootLe (i:Nat) (a a':Ia) (w:World):Prop:=∀ k,foot i a' k→foot i a k∨w.heap.size≤k
theorem FootLe.refl (i:Nat) (a:Ia) (w:World):FootLe i a a w:=fun k h=>.inl h
theorem FootLe.push {i:Nat} {a a':Ia} {w w1:World} (hs:w.heap.size≤w1.heap.size) (h:(a'.pv=a.pv∨a'.pv.ownBlock=a.pv.ownBlock∨a'.pv.ownBlock=some w1.heap.size)∧(a'.bv=a.bv∨a'.bv.ownBlock=a.bv.ownBlock∨a'.bv.ownBlock=some w1.heap.size)∧(a'.rv=a.rv∨a'.rv.ownBlock=a.rv.ownBlock∨a'.rv.ownBlock=some w1.heap.size)):FootLe i a a' w:=fun k hk=>by
  have one:∀ {u v:Value},(u=v∨u.ownBlock=v.ownBlock∨u.ownBlock=some w1.heap.size)→u.ownBlock=some k→v.ownBlock=some k∨w.heap.size≤k:=by
    rintro u v (rfl | e | e) hk
    · exact .inl hk
    · exact .inl (e ▸ hk)
    · rw [hk] at e
      injection e with e
      exact .inr (by omega)
  rcases hk with rfl | hk | hk | hk
  · exact .inl (.inl rfl)
  · exact (one h.1 hk).imp (fun h=>.inr (.inl h)) id
  · exact (one h.2.1 hk).imp (fun h=>.inr (.inr (.inl h))) id
  · exact (one h.2.2 hk).imp (fun h=>.inr (.inr (.inr h))) id
def mf (m:Nat) (x:St) (i:Nat) (a:Ia):Nat→Prop:=fun k=>mall m x k∨foot i a k
theorem mf_m {m:Nat} {x:St} {i:Nat} {a:Ia} {w w':World} (h:Fr (mall m x) w w'):Fr (mf m x i a) w w':=h.mono (fun _ _=>.inl)
theorem mf_f {m:Nat} {x:St} {i:Nat} {a:Ia} {w w':World} (h:Fr (foot i a) w w'):Fr (mf m x i a) w w':=h.mono (fun _ _=>.inr)
theorem mf_i {m:Nat} {x:St} {i:Nat} {a:Ia} {w w':World} (h:Fr (only i) w w'):Fr (mf m x i a) w w':=h.mono (fun _ _ e=>.inr (.inl e))
theorem mf_tr {m:Nat} {x:St} {i:Nat} {a:Ia} {b c d:World} (h:Fr (mf m x i a) b c) (k:Fr (mf m x i a) c d):Fr (mf m x i a) b d:=h.trans k (fun _ _=>id) (fun _ _=>id)
theorem Ev.nil_iff {w:World} {v:Value} {p:ByteArray} {s c:Int} (h:Ev w v p s c):(c=0∧v=.nilIface)∨(c≠0∧∃ b,v=.iface 156 (.pointer (some ⟨b,0,none⟩))):=by
  rcases h with h | ⟨h,b,hv,_⟩
  · exact .inl h
  · exact .inr ⟨h,b,hv⟩
def putD (D:Dt) (kk sl gn:Int):Dt:=if kk=0 then { D with refs:=D.refs ++ [(sl,gn)] } else D
def PutPost (m:Nat) (k:Int) (l:Lm) (x:St) (B i:Nat) (D:Dt) (a:Ia) (R:Rc) (w:World) (e:Ending) (w':World):Prop:=
  ∃ sl gn kk ss' v a',e=.returned v∧AllocR l.n x.ss R sl gn kk ss'∧Ev w' v sArena9 0 kk∧Mm w' m (k+1) l { x with ss:=ss' }∧Inst w' B i (putD D kk sl gn) a'∧Fr (mf m x i a) w w'∧FootLe i a a' w∧(a'.pv=a.pv∧a'.bv=a.bv∧a'.Cs=a.Cs∧a'.mv=a.mv∧a'.hvr=a.hvr∧a'.hve=a.hve)
set_option maxHeartbeats 4000000 in
theorem put_ok {w:World} {m:Nat} {k:Int} {l:Lm} {x:St} {B i:Nat} {D:Dt} {a:Ia} (h:Inst w B i D a) (hM:Mm w m k l x) (h0:0≤k) (h1:k≤100000) (R:Rc) (A:Option Addr) (c:Nat) (E:Option Addr) (d:Nat) (hR:RecOwn w 0 R (.slice A R.rows.length c) (.slice E R.ents.length d)) (hz:RowsOk R) (hn:D.refs.length≤4) (hB:B≤w.heap.size) :
  Calls Tryz.prog 104 #[.pointer (some ⟨i,0,none⟩),.pointer (some ⟨m,0,none⟩),recV R (.slice A R.rows.length c) (.slice E R.ents.length d)] w (PutPost m k l x B i D a R w):=by
 obtain ⟨Ap,cp,A2,c2,A3,c3,e1,e2,e3⟩:=h.shapes
 have E2:=hid_ e2
 clear e1 e3
 obtain ⟨j0,hj0,hy0,ht0,hc0⟩:=info_parts ref_info9
 have Hj:=hid_ (And.intro hj0 (And.intro hy0 (And.intro ht0 hc0)))
 have HS:=hid_ (And.intro hz (And.intro hn hB))
 clear hj0 hy0 ht0 hc0
 have I0:=hid_ h
 have M0:=hid_ hM
 have O0:=hid_ hR
 have F:=hid_ (Fr.refl none_ w)
 clear h hM hR e2
 go_enter Tryz.func104,Tryz.ntmps104
 go_upto_region 1 with fail
 obtain ⟨w0,hw0⟩:∃ z,z=w.alloc (.cells (recA R (.slice A R.rows.length c) (.slice E R.ents.length d)) 51):=⟨_,rfl⟩
 have fw0:Fr none_ w w0:=by rw [hw0];exact (Fr.refl none_ w).alloc _
 have BR:Hid (Blk w0 w.heap.size 51 (recA R (.slice A R.rows.length c) (.slice E R.ents.length d))):=hid_ (by rw [hw0];exact Blk.new w _ _)
 replace I0:=hid_ (I0.out.keep fw0)
 replace M0:=hid_ (M0.out.keep fw0)
 replace O0:=hid_ (O0.out.keep fw0)
 replace F:=hid_ (F.out.then_none fw0)
 change Code.wp _ _ _ _ (w.alloc (.cells (recA R (.slice A R.rows.length c) (.slice E R.ents.length d)) 51))
 rw [← hw0]
 clear hw0 fw0
 have r0:w0.cell? ⟨w.heap.size,0,none⟩=some (.int .i64 R.kind):=BR.out.cell' rfl
 have r1:w0.cell? ⟨w.heap.size,1,none⟩=some (.string R.low):=BR.out.cell' rfl
 have r2:w0.cell? ⟨w.heap.size,2,none⟩=some (.string R.high):=BR.out.cell' rfl
 have r3:w0.cell? ⟨w.heap.size,3,none⟩=some (.bool R.unb):=BR.out.cell' rfl
 have r4:w0.cell? ⟨w.heap.size,4,none⟩=some (.int .i64 R.right):=BR.out.cell' rfl
 have r5:w0.cell? ⟨w.heap.size,5,none⟩=some (.slice A R.rows.length c):=BR.out.cell' rfl
 have r6:w0.cell? ⟨w.heap.size,6,none⟩=some (.slice E R.ents.length d):=BR.out.cell' rfl
 have r7:w0.cell? ⟨w.heap.size,7,none⟩=some (.string R.key):=BR.out.cell' rfl
 have r8:w0.cell? ⟨w.heap.size,8,none⟩=some (.string R.val):=BR.out.cell' rfl
 have r9:w0.cell? ⟨w.heap.size,9,none⟩=some (.int .i64 R.page):=BR.out.cell' rfl
 have r10:w0.cell? ⟨w.heap.size,10,none⟩=some (.int .i64 R.hpage):=BR.out.cell' rfl
 have r11:w0.cell? ⟨w.heap.size,11,none⟩=some (.int .i64 R.hleft):=BR.out.cell' rfl
 have r12:w0.cell? ⟨w.heap.size,12,none⟩=some (.string R.hkey):=BR.out.cell' rfl
 have r13:w0.cell? ⟨w.heap.size,13,none⟩=some (.int .i64 R.nslot):=BR.out.cell' rfl
 have r14:w0.cell? ⟨w.heap.size,14,none⟩=some (.int .i64 R.ngen):=BR.out.cell' rfl
 go_wp2_with fail
 refine (memAlloc_any m k l x _ M0.out h0 h1 R A c E d (fun w' hf=>(O0.out.only hf M0.out.b (by decide) (by decide)).reads) HS.out.1).mono ?_
 rintro e w1 ⟨sl,gn,kk,ss',v,rfl,hA,hev,hM1,hf1⟩
 have RA:=hid_ hA
 have EV:=hid_ hev
 have I1:=hid_ (I0.out.mall M0.out hf1)
 have M1:=hid_ hM1
 have F1:Hid (Fr (mall m x) w w1):=hid_ ((F.out.mono (fun _ _ e=>e.elim)).trans (S':=mall m x) (S'':=mall m x) hf1 (fun _ _=>id) (fun _ _=>id))
 have NX:Hid (∀ k,a.rv.ownBlock=some k→k < w1.heap.size):=hid_ (fun k hk=>(own_blk I1.out.r hk).2.elim fun _ hb=>hb.lt)
 clear hA hev hM1 hf1 I0 M0 O0 BR F
 clear r0 r1 r2 r3 r4 r5 r6 r7 r8 r9 r10 r11 r12 r13 r14
 go_upto_region 2 with fail
 obtain ⟨w2,hw2⟩:∃ z,z=w1.alloc (.cells #[.int .i64 sl,.int .i64 gn] 36):=⟨_,rfl⟩
 have fw2:Fr none_ w1 w2:=by rw [hw2];exact (Fr.refl none_ w1).alloc _
 have BX:Hid (Blk w2 w1.heap.size 36 (#[.int .i64 sl,.int .i64 gn])):=hid_ (by rw [hw2];exact Blk.new w1 _ _)
 replace EV:=hid_ (EV.out.keep fw2)
 replace I1:=hid_ (I1.out.keep fw2)
 replace M1:=hid_ (M1.out.keep fw2)
 replace F1:=hid_ (F1.out.then_none fw2)
 change Code.wp _ _ _ _ (w1.alloc (.cells #[.int .i64 sl,.int .i64 gn] 36))
 rw [← hw2]
 clear hw2 fw2
 have hsw:=F1.out.size
 rcases EV.out.nil_iff with ⟨rfl,rfl⟩ | ⟨hkk,b,rfl⟩
 rotate_left
 ·have hq:=HS
  have HK:=hid_ hkk
  clear hkk hq
  go_wp2_with fail
  go_ret
  exact ⟨sl,gn,kk,ss',_,a,rfl,RA.out,EV.out,M1.out,by rw [show putD D kk sl gn=D from if_neg HK.out];exact I1.out,mf_m F1.out,FootLe.refl _ _ _,rfl,rfl,rfl,rfl,rfl,rfl⟩
 go_upto_region 3 with fail
 have i23:w2.cell? ⟨i,23,none⟩=some (.slice A2 D.refs.length c2):=by rw [← E2.out];exact I1.out.b.cell' rfl
 have x0:w2.cell? ⟨w1.heap.size,0,none⟩=some (.int .i64 sl):=BX.out.cell' rfl
 have x1:w2.cell? ⟨w1.heap.size,1,none⟩=some (.int .i64 gn):=BX.out.cell' rfl
 clear i23 x0 x1
 have hS0:(fun w':World=>Blk w' i 147 (inA D a)∧Blk w' w1.heap.size 36 #[.int .i64 sl,.int .i64 gn]) w2.drew:=⟨I1.out.b.drew,BX.out.drew⟩
 refine wp_region_U (m:=8) (S:=(fun w':World=>Blk w' i 147 (inA D a)∧Blk w' w1.heap.size 36 #[.int .i64 sl,.int .i64 gn])) (by kernel_rfl) ?_
 refine wpAnyU_take2 (i:=0) (v:=_) rfl (by kernel_rfl) (by kernel_rfl) (by kernel_rfl) (by kernel_rfl) (fun _ _ _ h=>h) (.inl ⟨by kernel_rfl,fun w' hS=>by go_simp;rfl⟩) hS0 ?_
 refine wpAnyU_take2 (i:=1) (v:=_) rfl (by kernel_rfl) (by kernel_rfl) (by kernel_rfl) (by kernel_rfl) (fun _ _ _ h=>h) (.inl ⟨by kernel_rfl,fun w' hS=>by go_simp;rfl⟩) hS0 ?_
 refine wpAnyU_take2 (i:=2) (v:=_) rfl (by kernel_rfl) (by kernel_rfl) (by kernel_rfl) (by kernel_rfl) (fun _ _ _ h=>h) (.inl ⟨by kernel_rfl,fun w' hS=>by go_simp;rfl⟩) hS0 ?_
 refine wpAnyU_take2 (i:=3) (v:=_) rfl (by kernel_rfl) (by kernel_rfl) (by kernel_rfl) (by kernel_rfl) (fun _ _ _ h=>h) (.inl ⟨by kernel_rfl,fun w' hS=>by go_simp;rfl⟩) hS0 ?_
 refine wpAnyU_take2 (i:=4) (v:=_) rfl (by kernel_rfl) (by kernel_rfl) (by kernel_rfl) (by kernel_rfl) (fun _ _ _ h=>h) (.inl ⟨by kernel_rfl,fun w' hS=>by have s_:w'.cell? ⟨i,23,none⟩=some (.slice A2 D.refs.length c2):=(by rw [← E2.out];exact hS.1.cell' rfl);go_simp;rfl⟩) hS0 ?_
 refine wpAnyU_take2 (i:=5) (v:=_) rfl (by kernel_rfl) (by kernel_rfl) (by kernel_rfl) (by kernel_rfl) (fun _ _ _ h=>h) (.inl ⟨by kernel_rfl,fun w' hS=>by have s_0:w'.cell? ⟨w1.heap.size,0,none⟩=some (.int .i64 sl):=hS.2.cell' rfl;have s_1:w'.cell? ⟨w1.heap.size,1,none⟩=some (.int .i64 gn):=hS.2.cell' rfl;go_simp;rfl⟩) hS0 ?_
 refine wpAnyU_oneW (i:=6) rfl (by kernel_rfl) (by kernel_rfl) ?_
 go_simp
 refine ⟨⟨hS0.1.alloc _,hS0.2.alloc _⟩,?_⟩
 obtain ⟨w3,hw3⟩:∃ z,z=w2.drew.alloc (.cells #[.int .i64 sl,.int .i64 gn] 36):=⟨_,rfl⟩
 have f3:Fr none_ w2 w3:=by rw [hw3];exact (Fr.refl none_ w2).drew.alloc _
 have PR:Hid (Blk w3 w2.heap.size 36 #[.int .i64 sl,.int .i64 gn]):=hid_ (by rw [hw3];exact Blk.new w2.drew _ _)
 replace EV:=hid_ (EV.out.keep f3)
 replace I1:=hid_ (I1.out.keep f3)
 replace M1:=hid_ (M1.out.keep f3)
 replace F1:=hid_ (F1.out.then_none f3)
 replace BX:=hid_ (BX.out.fr f3 id)
 change wpAnyU _ _ _ _ _ _ _ _ _ (w2.drew.alloc (.cells #[.int .i64 sl,.int .i64 gn] 36))
 rw [← hw3]
 clear hw3 f3 hS0
 refine wpAnyU_oneW (i:=7) rfl (by kernel_rfl) (by kernel_rfl) ?_
 refine wp_append_at _ (.tmp 21) (.tmp 23) 68 rfl B 36 j0 _ 2 16 Tryz.underlying68 Hj.out.1 Hj.out.2.1 Hj.out.2.2.1 Hj.out.2.2.2 rfl (by omega) (.slice A2 D.refs.length c2) D.refs.length (rf9Flat D.refs) rfl (by rw [← E2.out];exact I1.out.r) (some ⟨w2.heap.size,0,none⟩) 1 1 [.int .i64 sl,.int .i64 gn] rfl (reads_blk9 PR.out) (by simp [Value.oneCell']) (by have:=HS.out.2.1;simp only [maxLen];omega) (by have:=HS.out.2.1;omega) (by have:=HS.out.2.2;have:=F1.out.size;omega) ?_
 intro v' w4 hown hgr hat
 rw [← E2.out] at hgr hat
 refine ⟨.inr ⟨I1.out.b.grown hgr (Ne.symm (own_blk_ne I1.out.r I1.out.b (by decide))),BX.out.grown hgr ?_⟩,?_⟩
 ·exact fun e=>absurd (NX.out _ e.symm) (Nat.lt_irrefl _)
 have i23:∃ u,w4.cell? ⟨i,23,none⟩=some u:=⟨_,(I1.out.b.grown hgr (Ne.symm (own_blk_ne I1.out.r I1.out.b (by decide)))).cell' rfl⟩
 obtain ⟨u23,i23⟩:=i23
 have y23:=(I1.out.b.grown hgr (Ne.symm (own_blk_ne I1.out.r I1.out.b (by decide)))).frozen 23
 have hp:=I1.out.pushR hown hgr HS.out.2.1
 obtain ⟨A5,c5,rfl⟩:=hown.shape
 have hpM:=M1.out.ty hp.2 I1.out.off
 have HP:=hid_ (And.intro hp.1 (And.intro hpM (And.intro hp.2 hat)))
 clear hp hpM hown hgr hat PR
 refine wpAnyU_oneW (i:=8) rfl (by kernel_rfl) (by kernel_rfl) ?_
 go_simp
 refine wpAnyU_oneW (i:=9) rfl (by kernel_rfl) (by kernel_rfl) ?_
 go_simp
 refine wpAnyU_oneW (i:=10) rfl (by kernel_rfl) (by kernel_rfl) ?_
 go_simp
 refine wpAnyU_done (by kernel_rfl) ?_ _
 go_wp2_with fail
 go_ret
 refine ⟨sl,gn,0,ss',_,{ a with rv:=.slice A5 (D.refs.length+1) c5 },rfl,RA.out,.inl ⟨rfl,rfl⟩,HP.out.2.1,by rw [show putD D 0 sl gn={ D with refs:=D.refs ++ [(sl,gn)] } from if_pos rfl];exact HP.out.1,mf_tr (mf_m F1.out) (mf_f HP.out.2.2.1),FootLe.push (w1:=w3) F1.out.size ⟨.inl rfl,.inl rfl,.inr HP.out.2.2.2⟩,rfl,rfl,rfl,rfl,rfl,rfl⟩
open Go.RowKit

theorem Inst.setStage {w:World} {B i:Nat} {D:Dt} {a:Ia} (h:Inst w B i D a) (s:Int):Inst (w.setCell ⟨i,5,none⟩ (.int .i64 s)) B i { D with stage:=s } a∧Fr (only i) w (w.setCell ⟨i,5,none⟩ (.int .i64 s)):=by
  have f1:=Fr.only1 w ⟨i,5,none⟩ (.int .i64 s)
  exact ⟨h.reb f1 (h.b.set_ 5 _) ⟨rfl,rfl,rfl,rfl⟩ ⟨rfl,rfl,rfl,rfl,rfl,rfl⟩ (h.e.only f1 h.b (by decide)),f1⟩
theorem Inst.setEnd {w:World} {B i:Nat} {D:Dt} {a:Ia} (h:Inst w B i D a):Inst ((w.setCell ⟨i,5,none⟩ (.int .i64 7)).setCell ⟨i,25,none⟩ (.bool true)) B i { D with stage:=7,done:=true } a∧Fr (only i) w ((w.setCell ⟨i,5,none⟩ (.int .i64 7)).setCell ⟨i,25,none⟩ (.bool true)):=by
  have f1:Fr (only i) w ((w.setCell ⟨i,5,none⟩ (.int .i64 7)).setCell ⟨i,25,none⟩ (.bool true)):=(Fr.only1 w ⟨i,5,none⟩ (.int .i64 7)).trans (Fr.only1 _ ⟨i,25,none⟩ (.bool true)) (fun _ _=>id) (fun _ _=>id)
  exact ⟨h.reb f1 ((h.b.set_ 5 _).set_ 25 _) ⟨rfl,rfl,rfl,rfl⟩ ⟨rfl,rfl,rfl,rfl,rfl,rfl⟩ (h.e.only f1 h.b (by decide)),f1⟩
theorem Inst.only_off {w:World} {B i:Nat} {D:Dt} {a:Ia} (h:Inst w B i D a):∀ b,only i b→∃ t cs,Blk w b t cs∧OffMem t:=by
  rintro b e
  obtain rfl:b=i:=e
  exact ⟨_,_,h.b,by decide⟩
def SameIa (a a':Ia):Prop:=a'.mv=a.mv∧a'.pv=a.pv∧a'.bv=a.bv∧a'.Cs=a.Cs
def fwd3D (D:Dt) (kk sl gn:Int):Dt:=if kk=0 then { D with refs:=D.refs ++ [(sl,gn)],stage:=4 } else undoD D kk
def Fwd3 (m:Nat) (k:Int) (l:Lm) (x:St) (B i:Nat) (D:Dt) (a:Ia) (w:World) (e:Ending) (w':World):Prop:=
  ∃ sl gn kk ss' a',e=.returned (.bool ((fwd3D D kk sl gn).stage==7))∧AllocR l.n x.ss D.head sl gn kk ss'∧Mm w' m (k+1) l { x with ss:=ss' }∧Inst w' B i (fwd3D D kk sl gn) a'∧Fr (mf m x i a) w w'∧FootLe i a a' w∧SameIa a a'
set_option maxHeartbeats 8000000 in
theorem fwd3 {w:World} {m:Nat} {k:Int} {l:Lm} {x:St} {B i:Nat} {D:Dt} {a:Ia} (h:Inst w B i D a) (hM:Mm w m k l x) (h0:0≤k) (h1:k≤100000) (hs:D.stage=3) (hn:D.refs.length≤4) (hB:B≤w.heap.size) :
  Calls Tryz.prog 83 #[.pointer (some ⟨i,0,none⟩),.pointer (some ⟨m,0,none⟩)] w (Fwd3 m k l x B i D a w):=by
 obtain ⟨Ah,ch,Eh,dh,eh1,eh2⟩:=h.h.shape
 have E1:=hid_ (And.intro eh1 (And.intro eh2 hs))
 have HN:=hid_ (And.intro hn hB)
 have I0:=hid_ h
 have M0:=hid_ hM
 have i5:w.cell? ⟨i,5,none⟩=some (.int .i64 3):=by rw [← hs];exact h.b.cell' rfl
 have i8:w.cell? ⟨i,8,none⟩=some (.int .i64 D.head.kind):=h.b.cell' rfl
 have i9:w.cell? ⟨i,9,none⟩=some (.string D.head.low):=h.b.cell' rfl
 have i10:w.cell? ⟨i,10,none⟩=some (.string D.head.high):=h.b.cell' rfl
 have i11:w.cell? ⟨i,11,none⟩=some (.bool D.head.unb):=h.b.cell' rfl
 have i12:w.cell? ⟨i,12,none⟩=some (.int .i64 D.head.right):=h.b.cell' rfl
 have i13:w.cell? ⟨i,13,none⟩=some (.slice Ah D.head.rows.length ch):=by rw [← eh1];exact h.b.cell' rfl
 have i14:w.cell? ⟨i,14,none⟩=some (.slice Eh D.head.ents.length dh):=by rw [← eh2];exact h.b.cell' rfl
 have i15:w.cell? ⟨i,15,none⟩=some (.string D.head.key):=h.b.cell' rfl
 have i16:w.cell? ⟨i,16,none⟩=some (.string D.head.val):=h.b.cell' rfl
 have i17:w.cell? ⟨i,17,none⟩=some (.int .i64 D.head.page):=h.b.cell' rfl
 have i18:w.cell? ⟨i,18,none⟩=some (.int .i64 D.head.hpage):=h.b.cell' rfl
 have i19:w.cell? ⟨i,19,none⟩=some (.int .i64 D.head.hleft):=h.b.cell' rfl
 have i20:w.cell? ⟨i,20,none⟩=some (.string D.head.hkey):=h.b.cell' rfl
 have i21:w.cell? ⟨i,21,none⟩=some (.int .i64 D.head.nslot):=h.b.cell' rfl
 have i22:w.cell? ⟨i,22,none⟩=some (.int .i64 D.head.ngen):=h.b.cell' rfl
 have O0:=hid_ h.h
 rw [eh1,eh2] at O0
 have zh:=h.zh
 clear h hM hs hn hB eh1 eh2
 go_enter Tryz.func83,Tryz.ntmps83
 go_wp2_with fail
 refine (put_ok I0.out M0.out h0 h1 D.head Ah ch Eh dh O0.out zh HN.out.1 HN.out.2).mono ?_
 rintro e w1 ⟨sl,gn,kk,ss',v,a',rfl,hA,hev,hM1,hI1,hf1,hfl,hsm⟩
 have R1:=hid_ hA
 have EV:=hid_ hev
 have M1:=hid_ hM1
 have I1:=hid_ hI1
 have F1:=hid_ (And.intro hf1 (And.intro hfl hsm))
 clear hA hev hM1 hI1 hf1 hfl hsm O0 zh i5 i8 i9 i10 i11 i12 i13 i14 i15 i16 i17 i18 i19 i20 i21 i22
 rcases EV.out.nil_iff with ⟨rfl,rfl⟩ | ⟨hkk,b,rfl⟩
 ·replace I1:=hid_ (show Inst w1 B i { D with refs:=D.refs ++ [(sl,gn)] } a' from (by have hq:=I1.out;rwa [show putD D 0 sl gn={ D with refs:=D.refs ++ [(sl,gn)] } from if_pos rfl] at hq))
  have y5:=I1.out.b.frozen 5
  have i5:w1.cell? ⟨i,5,none⟩=some (.int .i64 D.stage):=I1.out.b.cell' rfl
  go_wp2_with fail
  have I2:=hid_ (I1.out.setStage 4)
  refine (over_ok I2.out.1).mono ?_
  rintro e w3 ⟨rfl,rfl⟩
  go_wp2_with fail
  go_ret
  have ef:fwd3D D 0 sl gn={ D with refs:=D.refs ++ [(sl,gn)],stage:=4 }:=if_pos rfl
  refine ⟨sl,gn,0,ss',a',by rw [ef];rfl,R1.out,M1.out.ty I2.out.2 I1.out.only_off,by rw [ef];exact I2.out.1,mf_tr F1.out.1 (mf_i I2.out.2),F1.out.2.1,F1.out.2.2.2.2.2.1,F1.out.2.2.1,F1.out.2.2.2.1,F1.out.2.2.2.2.1⟩
 ·have HK:=hid_ hkk
  clear hkk
  replace I1:=hid_ (show Inst w1 B i D a' from (by have hq:=I1.out;rwa [show putD D kk sl gn=D from if_neg HK.out] at hq))
  go_wp2_with fail
  refine (undo_ok _ kk I1.out EV.out.er).mono ?_
  rintro e w3 ⟨rfl,hI3,hf3⟩
  have I3:=hid_ (And.intro hI3 hf3)
  clear hI3 hf3
  go_wp2_with fail
  go_ret
  have ef:fwd3D D kk sl gn=undoD D kk:=if_neg HK.out
  refine ⟨sl,gn,kk,ss',{ a' with ev:=.iface 156 (.pointer (some ⟨b,0,none⟩)) },by rw [ef];rfl,R1.out,M1.out.ty I3.out.2 I1.out.only_off,by rw [ef];exact I3.out.1,mf_tr F1.out.1 (mf_i I3.out.2),F1.out.2.1,F1.out.2.2.2.2.2.1,F1.out.2.2.1,F1.out.2.2.2.1,F1.out.2.2.2.2.1⟩
open Go.RowKit

def fwd4D (D:Dt) (ok:Bool) (c:Int):Dt:=if ok=true then { D with stage:=7,done:=true } else undoD D c
def Fwd4 (m:Nat) (k:Int) (l:Lm) (x:St) (B i:Nat) (D:Dt) (a:Ia) (s g:Int) (w:World) (e:Ending) (w':World):Prop:=
  ∃ ok c ps' a',e=.returned (.bool ((fwd4D D ok c).stage==7))∧SwapR x.ps D.page D.os D.og s g ok c ps'∧Mm w' m (k+1) l { x with ps:=ps' }∧Inst w' B i (fwd4D D ok c) a'∧Fr (mf m x i a) w w'∧FootLe i a a' w∧(SameIa a a'∧a'.rv=a.rv)
theorem SwapR.err {ps:List Pg} {n a b c d:Int} {ok:Bool} {k:Int} {ps':List Pg} (h:SwapR ps n a b c d ok k ps') (hk:k≠0):ok=false:=by
  rcases h with ⟨i,s,g,_,_,_,h,_⟩ | ⟨_,h,_⟩
  · exact absurd h hk
  · exact h
theorem rf9_get:∀ (l:List (Int × Int)) (j:Nat) (p:Int × Int),l[j]?=some p→(rf9Flat l)[j * 2]?=some (.int .i64 p.1)∧(rf9Flat l)[j * 2+1]?=some (.int .i64 p.2)
  | [],j,p,h=>by simp at h
  | q :: l,0,p,h=>by
    obtain rfl:q=p:=by simpa using h
    simp [rf9Flat]
  | q :: l,j+1,p,h=>by
    have:=rf9_get l j p (by simpa using h)
    rw [show (j+1) * 2=j * 2+1+1 by omega]
    simpa [rf9Flat] using this
theorem last_row {l:List (Int × Int)} {j:Nat} {s g:Int} (hl:l.length=j+1) (hj:l[j]?=some (s,g)):(rf9Flat l)[j * 2]?=some (.int .i64 s)∧(rf9Flat l)[j * 2+1]?=some (.int .i64 g):=rf9_get l j (s,g) hj
set_option maxHeartbeats 8000000 in
theorem fwd4 {w:World} {m:Nat} {k:Int} {l:Lm} {x:St} {B i:Nat} {D:Dt} {a:Ia} (h:Inst w B i D a) (hM:Mm w m k l x) (h0:0≤k) (h1:k≤100000) (hs:D.stage=4) {j:Nat} {s g:Int} (hl:D.refs.length=j+1) (hj:D.refs[j]?=some (s,g)) :
  Calls Tryz.prog 83 #[.pointer (some ⟨i,0,none⟩),.pointer (some ⟨m,0,none⟩)] w (Fwd4 m k l x B i D a s g w):=by
 obtain ⟨A2,c2,e2,hcap,-,hcells⟩:=own_parts h.r
 obtain ⟨gb,rfl,hgb,hcc⟩:=hcells (by omega)
 have hz9:=h.zp.2.2
 have E1:=hid_ (And.intro e2 hs)
 have I0:=hid_ h
 have M0:=hid_ hM
 have i5:w.cell? ⟨i,5,none⟩=some (.int .i64 4):=by rw [← hs];exact h.b.cell' rfl
 have i0:w.cell? ⟨i,0,none⟩=some (.int .i64 D.page):=h.b.cell' rfl
 have i1:w.cell? ⟨i,1,none⟩=some (.int .i64 D.os):=h.b.cell' rfl
 have i2:w.cell? ⟨i,2,none⟩=some (.int .i64 D.og):=h.b.cell' rfl
 have i23:w.cell? ⟨i,23,none⟩=some (.slice (some ⟨gb,0,none⟩) (j+1) c2):=by rw [← hl,← e2];exact h.b.cell' rfl
 have g0:w.cell? ⟨gb,j * 2,none⟩=some (.int .i64 s):=hcc _ _ (last_row hl hj).1
 have g1:w.cell? ⟨gb,j * 2+1,none⟩=some (.int .i64 g):=hcc _ _ (last_row hl hj).2
 have hwj:IntKind.i64.wrap (j:Int)=(j:Int):=IntWalk.i64_in _ (by have:=h.zp.2.2;omega)
 have nI:¬ mall m x i∧¬ mall m x gb:=⟨hM.mall_ty h.b (by decide),by
  have hgk:a.rv.ownBlock=some gb:=by rw [e2];rfl
  obtain ⟨_,cs,hb⟩:=own_blk h.r hgk
  exact hM.mall_ty hb (by decide)⟩
 rw [hl] at hcap hz9
 clear h hM hs hl hj e2 hcc
 go_enter Tryz.func83,Tryz.ntmps83
 go_upto_region 4 with fail
 have hS0:(fun w':World=>Fr (mall m x) w w') w.drew:=(Fr.refl _ w).drew
 refine wp_region_U (m:=29) (S:=fun w':World=>Fr (mall m x) w w') (by kernel_rfl) ?_
 refine wpAnyU_take2 (i:=0) (v:=_) rfl (by kernel_rfl) (by kernel_rfl) (by kernel_rfl) (by kernel_rfl) (fun _ _ _ h=>h) (.inl ⟨by kernel_rfl,fun w' hS=>by go_simp;rfl⟩) hS0 ?_
 refine wpAnyU_take2 (i:=1) (v:=_) rfl (by kernel_rfl) (by kernel_rfl) (by kernel_rfl) (by kernel_rfl) (fun _ _ _ h=>h) (.inl ⟨by kernel_rfl,fun w' hS=>by go_simp;rfl⟩) hS0 ?_
 refine wpAnyU_take2 (i:=2) (v:=_) rfl (by kernel_rfl) (by kernel_rfl) (by kernel_rfl) (by kernel_rfl) (fun _ _ _ h=>h) (.inl ⟨by kernel_rfl,fun w' hS=>by go_simp;rfl⟩) hS0 ?_
 refine wpAnyU_take2 (i:=3) (v:=_) rfl (by kernel_rfl) (by kernel_rfl) (by kernel_rfl) (by kernel_rfl) (fun _ _ _ h=>h) (.inl ⟨by kernel_rfl,fun w' hS=>by go_simp;rfl⟩) hS0 ?_
 refine wpAnyU_take2 (i:=4) (v:=_) rfl (by kernel_rfl) (by kernel_rfl) (by kernel_rfl) (by kernel_rfl) (fun _ _ _ h=>h) (.inl ⟨by kernel_rfl,fun w' hS=>by go_simp;rfl⟩) hS0 ?_
 refine wpAnyU_take2 (i:=5) (v:=_) rfl (by kernel_rfl) (by kernel_rfl) (by kernel_rfl) (by kernel_rfl) (fun _ _ _ h=>h) (.inl ⟨by kernel_rfl,fun w' hS=>by have s_:=cellFrS i0 hS nI.1;go_simp;rfl⟩) hS0 ?_
 refine wpAnyU_take2 (i:=6) (v:=_) rfl (by kernel_rfl) (by kernel_rfl) (by kernel_rfl) (by kernel_rfl) (fun _ _ _ h=>h) (.inl ⟨by kernel_rfl,fun w' hS=>by go_simp;rfl⟩) hS0 ?_
 refine wpAnyU_take2 (i:=7) (v:=_) rfl (by kernel_rfl) (by kernel_rfl) (by kernel_rfl) (by kernel_rfl) (fun _ _ _ h=>h) (.inl ⟨by kernel_rfl,fun w' hS=>by go_simp;rfl⟩) hS0 ?_
 refine wpAnyU_take2 (i:=8) (v:=_) rfl (by kernel_rfl) (by kernel_rfl) (by kernel_rfl) (by kernel_rfl) (fun _ _ _ h=>h) (.inl ⟨by kernel_rfl,fun w' hS=>by go_simp;rfl⟩) hS0 ?_
 refine wpAnyU_take2 (i:=9) (v:=_) rfl (by kernel_rfl) (by kernel_rfl) (by kernel_rfl) (by kernel_rfl) (fun _ _ _ h=>h) (.inl ⟨by kernel_rfl,fun w' hS=>by go_simp;rfl⟩) hS0 ?_
 refine wpAnyU_take2 (i:=10) (v:=_) rfl (by kernel_rfl) (by kernel_rfl) (by kernel_rfl) (by kernel_rfl) (fun _ _ _ h=>h) (.inl ⟨by kernel_rfl,fun w' hS=>by have s_0:=cellFrS i1 hS nI.1;have s_1:=cellFrS i2 hS nI.1;go_simp;rfl⟩) hS0 ?_
 refine wpAnyU_take2 (i:=11) (v:=_) rfl (by kernel_rfl) (by kernel_rfl) (by kernel_rfl) (by kernel_rfl) (fun _ _ _ h=>h) (.inl ⟨by kernel_rfl,fun w' hS=>by go_simp;rfl⟩) hS0 ?_
 refine wpAnyU_take2 (i:=12) (v:=_) rfl (by kernel_rfl) (by kernel_rfl) (by kernel_rfl) (by kernel_rfl) (fun _ _ _ h=>h) (.inl ⟨by kernel_rfl,fun w' hS=>by go_simp;rfl⟩) hS0 ?_
 refine wpAnyU_take2 (i:=13) (v:=_) rfl (by kernel_rfl) (by kernel_rfl) (by kernel_rfl) (by kernel_rfl) (fun _ _ _ h=>h) (.inl ⟨by kernel_rfl,fun w' hS=>by go_simp;rfl⟩) hS0 ?_
 refine wpAnyU_take2 (i:=14) (v:=_) rfl (by kernel_rfl) (by kernel_rfl) (by kernel_rfl) (by kernel_rfl) (fun _ _ _ h=>h) (.inl ⟨by kernel_rfl,fun w' hS=>by have s_:=cellFrS i23 hS nI.1;go_simp;rfl⟩) hS0 ?_
 refine wpAnyU_take2 (i:=15) (v:=_) rfl (by kernel_rfl) (by kernel_rfl) (by kernel_rfl) (by kernel_rfl) (fun _ _ _ h=>h) (.inl ⟨by kernel_rfl,fun w' hS=>by go_simp;rfl⟩) hS0 ?_
 refine wpAnyU_take2 (i:=16) (v:=_) rfl (by kernel_rfl) (by kernel_rfl) (by kernel_rfl) (by kernel_rfl) (fun _ _ _ h=>h) (.inl ⟨by kernel_rfl,fun w' hS=>by go_simp;rfl⟩) hS0 ?_
 refine wpAnyU_take2 (i:=17) (v:=_) rfl (by kernel_rfl) (by kernel_rfl) (by kernel_rfl) (by kernel_rfl) (fun _ _ _ h=>h) (.inl ⟨by kernel_rfl,fun w' hS=>by go_simp;rfl⟩) hS0 ?_
 refine wpAnyU_take2 (i:=18) (v:=_) rfl (by kernel_rfl) (by kernel_rfl) (by kernel_rfl) (by kernel_rfl) (fun _ _ _ h=>h) (.inl ⟨by kernel_rfl,fun w' hS=>by have s_:=cellFrS i23 hS nI.1;go_simp;rfl⟩) hS0 ?_
 refine wpAnyU_take2 (i:=19) (v:=_) rfl (by kernel_rfl) (by kernel_rfl) (by kernel_rfl) (by kernel_rfl) (fun _ _ _ h=>h) (.inl ⟨by kernel_rfl,fun w' hS=>by go_simp;rfl⟩) hS0 ?_
 refine wpAnyU_take2 (i:=20) (v:=_) rfl (by kernel_rfl) (by kernel_rfl) (by kernel_rfl) (by kernel_rfl) (fun _ _ _ h=>h) (.inl ⟨by kernel_rfl,fun w' hS=>by have s_w:=hwj;go_simp;rfl⟩) hS0 ?_
 refine wpAnyU_take2 (i:=21) (v:=_) rfl (by kernel_rfl) (by kernel_rfl) (by kernel_rfl) (by kernel_rfl) (fun _ _ _ h=>h) (.inl ⟨by kernel_rfl,fun w' hS=>by have s_w:=hwj;have s_l:(j:Int) < (j:Int)+1:=Int.lt_succ _;go_simp;rfl⟩) hS0 ?_
 refine wpAnyU_take2 (i:=22) (v:=_) rfl (by kernel_rfl) (by kernel_rfl) (by kernel_rfl) (by kernel_rfl) (fun _ _ _ h=>h) (.inl ⟨by kernel_rfl,fun w' hS=>by have s_0:=cellFrS g0 hS nI.2;have s_1:=cellFrS g1 hS nI.2;go_simp;rfl⟩) hS0 ?_
 clear i0 i1 i2 i5 i23 g0 g1 hwj
 refine wpAnyU_oneW (i:=23) rfl (by kernel_rfl) (by kernel_rfl) ?_
 go_simp
 refine (memSwap_any m k l x _ (M0.out.keep (Fr.refl none_ w).drew) h0 h1 D.page D.os D.og s g).mono ?_
 rintro e w1 ⟨ok,c,ps',v,rfl,hR,hev,hM1,hf1⟩
 have R1:=hid_ hR
 have EV:=hid_ hev
 have M1:=hid_ hM1
 have fS:Fr (mall m x) w w1:=(Fr.refl (mall m x) w).drew.trans hf1 (fun _ _=>id) (fun _ _=>id)
 have I1:=hid_ (I0.out.mall M0.out fS)
 refine ⟨fS,?_⟩
 clear hR hev hM1 hf1 hS0
 refine wpAnyU_take2 (i:=24) (v:=_) rfl (by kernel_rfl) (by kernel_rfl) (by kernel_rfl) (by kernel_rfl) (fun _ _ _ h=>h) (.inl ⟨by kernel_rfl,fun w' hS=>by go_simp;rfl⟩) fS ?_
 refine wpAnyU_take2 (i:=25) (v:=_) rfl (by kernel_rfl) (by kernel_rfl) (by kernel_rfl) (by kernel_rfl) (fun _ _ _ h=>h) (.inl ⟨by kernel_rfl,fun w' hS=>by go_simp;rfl⟩) fS ?_
 refine wpAnyU_take2 (i:=26) (v:=_) rfl (by kernel_rfl) (by kernel_rfl) (by kernel_rfl) (by kernel_rfl) (fun _ _ _ h=>h) (.inl ⟨by kernel_rfl,fun w' hS=>by go_simp;rfl⟩) fS ?_
 refine wpAnyU_take2 (i:=27) (v:=_) rfl (by kernel_rfl) (by kernel_rfl) (by kernel_rfl) (by kernel_rfl) (fun _ _ _ h=>h) (.inl ⟨by kernel_rfl,fun w' hS=>by go_simp;rfl⟩) fS ?_
 refine wpAnyU_take2 (i:=28) (v:=_) rfl (by kernel_rfl) (by kernel_rfl) (by kernel_rfl) (by kernel_rfl) (fun _ _ _ h=>h) (.inl ⟨by kernel_rfl,fun w' hS=>by go_simp;rfl⟩) fS ?_
 refine wpAnyU_done (by kernel_rfl) ?_ _
 have FS:=hid_ fS
 clear fS
 cases ok with
 | true =>
  obtain rfl:c=0:=by
   rcases Int.decEq c 0 with hc | hc
   ·exact absurd (R1.out.err hc) (by simp)
   ·exact hc
  obtain rfl:v=.nilIface:=by
   rcases EV.out.nil_iff with ⟨_,h⟩ | ⟨h,_⟩
   ·exact h
   ·exact absurd rfl h
  have y5:=I1.out.b.frozen 5
  have y25:=I1.out.b.frozen 25
  have i5:w1.cell? ⟨i,5,none⟩=some (.int .i64 D.stage):=I1.out.b.cell' rfl
  have i25:w1.cell? ⟨i,25,none⟩=some (.bool D.done):=I1.out.b.cell' rfl
  go_wp2_with fail
  have I2:=hid_ I1.out.setEnd
  refine (over_ok I2.out.1).mono ?_
  rintro e w3 ⟨rfl,rfl⟩
  go_wp2_with fail
  go_ret
  have ef:fwd4D D true 0={ D with stage:=7,done:=true }:=if_pos rfl
  exact ⟨true,0,ps',a,by rw [ef];rfl,R1.out,M1.out.ty I2.out.2 I1.out.only_off,by rw [ef];exact I2.out.1,mf_tr (mf_m FS.out) (mf_i I2.out.2),FootLe.refl _ _ _,⟨rfl,rfl,rfl,rfl⟩,rfl⟩
 | false =>
  have ef:fwd4D D false c=undoD D c:=if_neg (by simp)
  rcases EV.out.nil_iff with ⟨rfl,rfl⟩ | ⟨hkk,b,rfl⟩
  ·go_wp2_with fail
   refine (undo_ok _ _ I1.out EV.out.er).mono ?_
   rintro e w3 ⟨rfl,hI3,hf3⟩
   have I3:=hid_ (And.intro hI3 hf3)
   clear hI3 hf3
   go_wp2_with fail
   go_ret
   exact ⟨false,0,ps',{ a with ev:=.nilIface },by rw [ef];rfl,R1.out,M1.out.ty I3.out.2 I1.out.only_off,by rw [ef];exact I3.out.1,mf_tr (mf_m FS.out) (mf_i I3.out.2),FootLe.refl _ _ _,⟨rfl,rfl,rfl,rfl⟩,rfl⟩
  ·go_wp2_with fail
   refine (undo_ok _ _ I1.out EV.out.er).mono ?_
   rintro e w3 ⟨rfl,hI3,hf3⟩
   have I3:=hid_ (And.intro hI3 hf3)
   clear hI3 hf3
   go_wp2_with fail
   go_ret
   exact ⟨false,c,ps',{ a with ev:=.iface 156 (.pointer (some ⟨b,0,none⟩)) },by rw [ef];rfl,R1.out,M1.out.ty I3.out.2 I1.out.only_off,by rw [ef];exact I3.out.1,mf_tr (mf_m FS.out) (mf_i I3.out.2),FootLe.refl _ _ _,⟨rfl,rfl,rfl,rfl⟩,rfl⟩
open Go.RowKit

theorem step_fwd {w:World} {B i:Nat} {D:Dt} {a:Ia} {v:Value} {Post:Ending→World→Prop} (h:Inst w B i D a) (h7:D.stage≠7) (h5:D.stage≠5) (h6:D.stage≠6) (hf:Calls Tryz.prog 83 #[.pointer (some ⟨i,0,none⟩),v] w Post) (hp:∀ e w',Post e w'→∃ b,e=.returned (.bool b)):Calls Tryz.prog 47 #[.pointer (some ⟨i,0,none⟩),v] w Post:=by
  have H:=hid_ h
  have HF:=hid_ hf
  have HP:=hid_ hp
  have d7:(D.stage==7)=false:=by simp [h7]
  have d5:(D.stage==5)=false:=by simp [h5]
  have d6:(D.stage==6)=false:=by simp [h6]
  have i5:w.cell? ⟨i,5,none⟩=some (.int .i64 D.stage):=h.b.cell' rfl
  clear h h7 h5 h6 hf hp
  go_enter Tryz.func47,Tryz.ntmps47
  go_wp2_with fail
  refine (over_ok H.out).mono ?_
  rintro e w1 ⟨rfl,rfl⟩
  go_wp2_with fail
  refine HF.out.mono ?_
  intro e w2 h2
  obtain ⟨b,rfl⟩:=HP.out e w2 h2
  have H2:=hid_ h2
  clear h2
  go_wp2_with fail
  exact H2.out
theorem done_ok {w:World} {B i:Nat} {D:Dt} {a:Ia} (h:Inst w B i D a) (hs:D.stage=7):Calls Tryz.prog 48 #[.pointer (some ⟨i,0,none⟩)] w fun e w'=>e=.returned (.tuple #[.bool D.done,a.ev])∧Fr none_ w w':=by
  have H:=hid_ h
  have ho:(D.stage==7)=true:=by simp [hs]
  have i25:w.cell? ⟨i,25,none⟩=some (.bool D.done):=h.b.cell' rfl
  have i26:w.cell? ⟨i,26,none⟩=some a.ev:=h.b.cell' rfl
  have hsh:=h.e.shape
  clear h hs
  rcases hsh with h | ⟨t,x,h⟩
  all_goals
    rw [h] at i26 ⊢
    clear h
    go_enter Tryz.func48,Tryz.ntmps48
    go_wp2_with fail
    refine (over_ok H.out).mono ?_
    rintro e w1 ⟨rfl,rfl⟩
    go_wp2_with fail
    go_quiet (fail)
    go_wp2_with fail
    go_ret2
    exact ⟨rfl,by first | exact Fr.refl _ _ | exact (Fr.refl _ _).drew | exact (Fr.refl _ _).drewN _⟩
theorem ihead_ok {w:World} {B i:Nat} {D:Dt} {a:Ia} (h:Inst w B i D a) (hd:D.done=true) {j:Nat} {s g:Int} (hl:D.refs.length=j+1) (hj:D.refs[j]?=some (s,g)):Calls Tryz.prog 98 #[.pointer (some ⟨i,0,none⟩)] w fun e w'=>e=.returned (.agg #[.int .i64 s,.int .i64 g])∧Fr none_ w w':=by
 obtain ⟨A2,c2,e2,hcap,-,hcells⟩:=own_parts h.r
 obtain ⟨gb,rfl,hgb,hcc⟩:=hcells (by omega)
 have hwj:IntKind.i64.wrap (j:Int)=(j:Int):=IntWalk.i64_in _ (by have:=h.zp.2.2;omega)
 have f0:Fr none_ w (w.alloc (.cells #[.int .i64 0,.int .i64 0] 36)):=(Fr.refl none_ w).alloc _
 have i23:w.cell? ⟨i,23,none⟩=some (.slice (some ⟨gb,0,none⟩) (j+1) c2):=by rw [← hl,← e2];exact h.b.cell' rfl
 have i25:w.cell? ⟨i,25,none⟩=some (.bool true):=by rw [← hd];exact h.b.cell' rfl
 have g0:w.cell? ⟨gb,j * 2,none⟩=some (.int .i64 s):=hcc _ _ (last_row hl hj).1
 have g1:w.cell? ⟨gb,j * 2+1,none⟩=some (.int .i64 g):=hcc _ _ (last_row hl hj).2
 replace i23:=cellFr i23 f0
 replace i25:=cellFr i25 f0
 replace g0:=cellFr g0 f0
 replace g1:=cellFr g1 f0
 have K:=Blk.new w 36 #[.int .i64 0,.int .i64 0]
 have KK:=hid_ K
 have hcap2:j+1≤c2:=by rw [hl] at hcap;exact hcap
 clear h hd hl hj e2 hcc hcap K
 obtain ⟨w0,hw0⟩:∃ z,z=w.alloc (.cells #[.int .i64 0,.int .i64 0] 36):=⟨_,rfl⟩
 have F0:=hid_ f0
 rw [← hw0] at i23 i25 g0 g1 KK F0
 clear f0
 go_enter Tryz.func98,Tryz.ntmps98
 go_upto_region 1 with fail
 change Code.wp _ _ _ _ (w.alloc (.cells #[.int .i64 0,.int .i64 0] 36))
 rw [← hw0]
 clear hw0
 go_upto_region 3 with fail
 have hS0:(fun w':World=>Fr none_ w0 w') w0.drew:=(Fr.refl none_ w0).drew
 refine wp_region_U (m:=12) (S:=fun w':World=>Fr none_ w0 w') (by kernel_rfl) ?_
 refine wpAnyU_take2 (i:=0) (v:=_) rfl (by kernel_rfl) (by kernel_rfl) (by kernel_rfl) (by kernel_rfl) (fun _ _ _ h=>h) (.inl ⟨by kernel_rfl,fun w' hS=>by go_simp;rfl⟩) hS0 ?_
 refine wpAnyU_take2 (i:=1) (v:=_) rfl (by kernel_rfl) (by kernel_rfl) (by kernel_rfl) (by kernel_rfl) (fun _ _ _ h=>h) (.inl ⟨by kernel_rfl,fun w' hS=>by go_simp;rfl⟩) hS0 ?_
 refine wpAnyU_take2 (i:=2) (v:=_) rfl (by kernel_rfl) (by kernel_rfl) (by kernel_rfl) (by kernel_rfl) (fun _ _ _ h=>h) (.inl ⟨by kernel_rfl,fun w' hS=>by go_simp;rfl⟩) hS0 ?_
 refine wpAnyU_take2 (i:=3) (v:=_) rfl (by kernel_rfl) (by kernel_rfl) (by kernel_rfl) (by kernel_rfl) (fun _ _ _ h=>h) (.inl ⟨by kernel_rfl,fun w' hS=>by have s_:=cellFr i23 hS;go_simp;rfl⟩) hS0 ?_
 refine wpAnyU_take2 (i:=4) (v:=_) rfl (by kernel_rfl) (by kernel_rfl) (by kernel_rfl) (by kernel_rfl) (fun _ _ _ h=>h) (.inl ⟨by kernel_rfl,fun w' hS=>by go_simp;rfl⟩) hS0 ?_
 refine wpAnyU_take2 (i:=5) (v:=_) rfl (by kernel_rfl) (by kernel_rfl) (by kernel_rfl) (by kernel_rfl) (fun _ _ _ h=>h) (.inl ⟨by kernel_rfl,fun w' hS=>by go_simp;rfl⟩) hS0 ?_
 refine wpAnyU_take2 (i:=6) (v:=_) rfl (by kernel_rfl) (by kernel_rfl) (by kernel_rfl) (by kernel_rfl) (fun _ _ _ h=>h) (.inl ⟨by kernel_rfl,fun w' hS=>by go_simp;rfl⟩) hS0 ?_
 refine wpAnyU_take2 (i:=7) (v:=_) rfl (by kernel_rfl) (by kernel_rfl) (by kernel_rfl) (by kernel_rfl) (fun _ _ _ h=>h) (.inl ⟨by kernel_rfl,fun w' hS=>by have s_:=cellFr i23 hS;go_simp;rfl⟩) hS0 ?_
 refine wpAnyU_take2 (i:=8) (v:=_) rfl (by kernel_rfl) (by kernel_rfl) (by kernel_rfl) (by kernel_rfl) (fun _ _ _ h=>h) (.inl ⟨by kernel_rfl,fun w' hS=>by go_simp;rfl⟩) hS0 ?_
 refine wpAnyU_take2 (i:=9) (v:=_) rfl (by kernel_rfl) (by kernel_rfl) (by kernel_rfl) (by kernel_rfl) (fun _ _ _ h=>h) (.inl ⟨by kernel_rfl,fun w' hS=>by have s_w:=hwj;go_simp;rfl⟩) hS0 ?_
 refine wpAnyU_take2 (i:=10) (v:=_) rfl (by kernel_rfl) (by kernel_rfl) (by kernel_rfl) (by kernel_rfl) (fun _ _ _ h=>h) (.inl ⟨by kernel_rfl,fun w' hS=>by have s_w:=hwj;have s_l:(j:Int) < (j:Int)+1:=Int.lt_succ _;go_simp;rfl⟩) hS0 ?_
 refine wpAnyU_take2 (i:=11) (v:=_) rfl (by kernel_rfl) (by kernel_rfl) (by kernel_rfl) (by kernel_rfl) (fun _ _ _ h=>h) (.inl ⟨by kernel_rfl,fun w' hS=>by have s_0:=cellFr g0 hS;have s_1:=cellFr g1 hS;go_simp;rfl⟩) hS0 ?_
 clear hS0 i23 i25 g0 g1 hwj
 have y0:=KK.out.frozen 0
 have y1:=KK.out.frozen 1
 have z0:w0.cell? ⟨w.heap.size,0,none⟩=some (.int .i64 0):=KK.out.cell' rfl
 have z1:w0.cell? ⟨w.heap.size,1,none⟩=some (.int .i64 0):=KK.out.cell' rfl
 refine wpAnyU_oneW (i:=12) rfl (by kernel_rfl) (by kernel_rfl) ?_
 go_simp
 clear y0 y1 z0 z1
 obtain ⟨qb,qf⟩:=box2 KK.out (.int .i64 s) (.int .i64 g)
 obtain ⟨w5,hw5⟩:∃ z,z=((w0.setCell ⟨w.heap.size,0,none⟩ (.int .i64 s)).setCell ⟨w.heap.size,1,none⟩ (.int .i64 g)).drew:=⟨_,rfl⟩
 have qb2:Blk w5 w.heap.size 36 #[.int .i64 s,.int .i64 g]:=by rw [hw5];exact qb.drew
 have HQ:Hid (Fr (only w.heap.size) w0 w5):=hid_ (by rw [hw5];exact qf.drew)
 rw [← hw5]
 clear hw5 qb qf
 have q0:=qb2.cell' (i:=0) rfl
 have q1:=qb2.cell' (i:=1) rfl
 refine wpAnyU_done (by kernel_rfl) ?_ _
 go_wp2_with fail
 refine bodyPost_ret (v:=.agg #[.int .i64 s,.int .i64 g]) ?_ rfl ⟨rfl,F0.out.then_only HQ.out (.inr (Nat.le_refl _))⟩
 simp [results,Tryz.results98,go_sem,q0,q1]
open Go.RowKit

theorem own_prefix12 {w:World} {base size n m c:Nat} {e:TypeId} {A:Option Addr} {xs:List Value} (h:w.ownsRow base e size (.slice A n c) n xs) (hm:m≤n):w.ownsRow base e size (.slice A m c) m (xs.take (m * size)):=by
  have hl:=Nat.mul_le_mul_right size hm
  refine ⟨by rw [List.length_take,h.1];omega,?_⟩
  rcases h.2 with ⟨hv,h0⟩ | ⟨g,cap,cur,hv,hb,hh,hc,hmx,hs,ht⟩
  · injection hv with h1 _ h3
    subst h1
    subst h3
    have:m=0:=by omega
    exact .inl ⟨by rw [this],this⟩
  · injection hv with h1 _ h3
    subst h1
    subst h3
    exact .inr ⟨g,c,cur,rfl,hb,hh,by omega,hmx,hs,by rw [← ht,List.take_take,Nat.min_eq_left hl]⟩
theorem snoc_of {α:Type} {l:List α} {a:α} (h:l.getLast?=some a):l=l.dropLast ++ [a]:=by
  have hne:l≠[]:=by rintro rfl;simp at h
  have e:=List.dropLast_concat_getLast hne
  rw [List.getLast?_eq_some_getLast hne] at h
  rw [← Option.some.inj h]
  exact e.symm
theorem last_get {α:Type} {l:List α} {j:Nat} {a:α} (hl:l.length=j+1) (hj:l[j]?=some a):l.getLast?=some a:=by
  rw [List.getLast?_eq_getElem?,hl]
  exact hj
theorem rf9_len:∀ l:List (Int × Int),(rf9Flat l).length=l.length * 2
  | []=>rfl
  | p :: l=>by
    have:=rf9_len l
    unfold rf9Flat at this ⊢
    simp at this ⊢
    omega
theorem Inst.popR {w:World} {B i:Nat} {D:Dt} {a:Ia} (h:Inst w B i D a) {A:Option Addr} {j c:Nat} (hrv:a.rv=.slice A (j+1) c) (hl:D.refs.length=j+1):Inst (w.setCell ⟨i,23,none⟩ (.slice A j c)) B i { D with refs:=D.refs.dropLast } { a with rv:=.slice A j c }∧Fr (only i) w (w.setCell ⟨i,23,none⟩ (.slice A j c)):=by
  have f1:=Fr.only1 w ⟨i,23,none⟩ (.slice A j c)
  have hrec:∀ R vr ve,RecOwn w 0 R vr ve→RecOwn (w.setCell ⟨i,23,none⟩ (.slice A j c)) 0 R vr ve:=fun R vr ve hR=>hR.only f1 h.b (by decide) (by decide)
  obtain ⟨z,hz⟩:∃ z,D.refs.getLast?=some z:=⟨_,List.getLast?_eq_some_getLast (by intro e;rw [e] at hl;simp at hl)⟩
  have hs:=snoc_of hz
  have hdl:D.refs.dropLast.length=j:=by simp;omega
  have hr:w.ownsRow B 36 2 (.slice A j c) D.refs.dropLast.length (rf9Flat D.refs.dropLast):=by
    have h1:=h.r
    rw [hrv,hl] at h1
    have h2:=own_prefix12 h1 (m:=j) (by omega)
    rw [hdl]
    have e:(rf9Flat D.refs).take (j * 2)=rf9Flat D.refs.dropLast:=by
      have e1:(rf9Flat D.refs.dropLast).length=j * 2:=by rw [rf9_len,hdl]
      conv=>lhs;rw [hs,rf9Flat_snoc]
      rw [← e1,List.take_left']
      rfl
    rw [← e]
    exact h2
  have hb':∀ k,(Value.slice A j c).ownBlock=some k→a.rv.ownBlock=some k:=fun k hk=>by rw [hrv];cases A <;> exact hk
  exact ⟨⟨h.b.set_ 23 _,own_fr h.p f1 (fun k hk e=>own_blk_ne h.p h.b (by decide) (by rw [hk,show k=i from e])),own_fr h.bs f1 (fun k hk e=>own_blk_ne h.bs h.b (by decide) (by rw [hk,show k=i from e])),h.cs,fun C hC=>hrec _ _ _ (h.bo C hC),own_fr hr f1 (fun k hk e=>own_blk_ne hr h.b (by decide) (by rw [hk,show k=i from e])),hrec _ _ _ h.h,h.e.only f1 h.b (by decide),h.le,h.zb,h.zh,⟨h.zp.1,h.zp.2.1,by have:=h.zp.2.2;show D.refs.dropLast.length≤5;omega⟩⟩,f1⟩
theorem Inst.ref_at {w:World} {B i:Nat} {D:Dt} {a:Ia} (h:Inst w B i D a) {j:Nat} {p:Int × Int} (hj:D.refs[j]?=some p):∃ (g c:Nat),a.rv=.slice (some ⟨g,0,none⟩) D.refs.length c∧D.refs.length≤c∧w.cell? ⟨g,j * 2,none⟩=some (.int .i64 p.1)∧w.cell? ⟨g,j * 2+1,none⟩=some (.int .i64 p.2):=by
  have hjl:=(List.getElem?_eq_some_iff.1 hj).1
  obtain ⟨A',c',e,hcap,_,hp⟩:=own_parts h.r
  obtain ⟨g,hg,hlt,hcell⟩:=hp (by omega)
  exact ⟨g,c',by rw [e,hg],hcap,hcell _ _ (rf9_get _ _ _ hj).1,hcell _ _ (rf9_get _ _ _ hj).2⟩
theorem FootLe.blk {i:Nat} {a a':Ia} (w:World) (h1:a'.pv.ownBlock=a.pv.ownBlock) (h2:a'.bv.ownBlock=a.bv.ownBlock) (h3:a'.rv.ownBlock=a.rv.ownBlock):FootLe i a a' w:=fun k h=>by
  unfold foot at h ⊢
  rw [h1,h2,h3] at h
  exact .inl h
def FreePostP (m:Nat) (k:Int) (l:Lm) (x:St) (B i:Nat) (D:Dt) (a:Ia) (s0 g0:Int) (w:World) (e:Ending) (w':World):Prop:=
  ∃ c ss' a',e=.returned (.bool true)∧FreeR x.ss s0 g0 c ss'∧Inst w' B i { D with refs:=[],stage:=7 } a'∧Mm w' m (k+1) l { x with ss:=ss' }∧Fr (mf m x i a) w w'∧FootLe i a a' w∧a'.mv=a.mv
set_option maxHeartbeats 8000000 in
theorem stepFreeP {w:World} {m:Nat} {k:Int} {l:Lm} {x:St} {B i:Nat} {D:Dt} {a:Ia} (h:Inst w B i D a) (hM:Mm w m k l x) (h0:0≤k) (h1:k≤100000) (hs:D.stage=5) {s0 g0:Int} (hrf:D.refs=[(s0,g0)]) (hpg:D.pages=[]) :
  Calls Tryz.prog 47 #[.pointer (some ⟨i,0,none⟩),.pointer (some ⟨m,0,none⟩)] w (FreePostP m k l x B i D a s0 g0 w):=by
 have hj:D.refs[0]?=some (s0,g0):=by rw [hrf];rfl
 have hl:D.refs.length=0+1:=by rw [hrf];rfl
 have hlast:=last_get hl hj
 obtain ⟨gb,cc,hv,hcap,r0,r1⟩:=h.ref_at hj
 rw [hl] at hv hcap
 have HI:=hid_ h
 have HM:=hid_ hM
 have HK:=hid_ (And.intro h0 h1)
 have HRF:=hid_ (And.intro hrf hpg)
 have S5:=hid_ (And.intro hs (And.intro hl hlast))
 have HV:=hid_ hv
 have i5:w.cell? ⟨i,5,none⟩=some (.int .i64 5):=by rw [← hs];exact h.b.cell' rfl
 have iv:w.cell? ⟨i,23,none⟩=some (.slice (some ⟨gb,0,none⟩) (0+1) cc):=by rw [← hv];exact h.b.cell' rfl
 have hwj:IntKind.i64.wrap ((0:Nat):Int)=((0:Nat):Int):=rfl
 have hi0:(0:Int)≤((0:Nat):Int):=Int.natCast_nonneg _
 have hi1:((0:Nat):Int) < ((0:Nat):Int)+1:=Int.lt_succ _
 have hi2:((0:Nat):Int)≤(cc:Int):=by omega
 have d7:(D.stage==7)=false:=by rw [hs];rfl
 clear h hM h0 h1 hs hl hj hlast hv hrf hpg
 go_enter Tryz.func47,Tryz.ntmps47
 go_wp2_with fail
 refine (over_ok HI.out).mono ?_
 rintro e w1 ⟨rfl,rfl⟩
 go_wp2_with fail
 refine (memFree_any m k l x _ HM.out HK.out.1 HK.out.2 s0 g0).mono ?_
 rintro e w1 ⟨c,ss',v,rfl,hR,hev,hM1,hf1⟩
 have RR:=hid_ hR
 have M1:=hid_ hM1
 have F1:=hid_ hf1
 have I1:=hid_ (HI.out.mall HM.out hf1)
 clear hR hev hM1 hf1 i5 iv r0 r1
 have iv:w1.cell? ⟨i,23,none⟩=some (.slice (some ⟨gb,0,none⟩) (0+1) cc):=by rw [← HV.out];exact I1.out.b.cell' rfl
 have yv:=I1.out.b.frozen 23
 have I2:=hid_ (I1.out.popR HV.out S5.out.2.1)
 have M2:=hid_ (M1.out.ty I2.out.2 I1.out.only_off)
 have F2:=hid_ (mf_tr (mf_m F1.out) (mf_i (a:=a) I2.out.2))
 go_upto_region 9 with fail
 obtain ⟨w2,hw2⟩:∃ z,z=w1.setCell ⟨i,23,none⟩ (.slice (some ⟨gb,0,none⟩) 0 cc):=⟨_,rfl⟩
 rw [← hw2] at I2 M2 F2
 change Code.wp _ _ _ _ (w1.setCell ⟨i,23,none⟩ (.slice (some ⟨gb,0,none⟩) 0 cc))
 rw [← hw2]
 clear hw2 iv yv hwj hi0 hi1 hi2
 have i5:w2.cell? ⟨i,5,none⟩=some (.int .i64 5):=by rw [← S5.out.1];exact I2.out.1.b.cell' rfl
 have y5:=I2.out.1.b.frozen 5
 have FLb:=hid_ (show FootLe i a { a with rv:=.slice (some ⟨gb,0,none⟩) 0 cc } w from FootLe.blk w rfl rfl (by rw [HV.out];rfl))
 obtain ⟨Ap,cp,_,_,_,_,e1,_,_⟩:=I2.out.1.shapes
 have i6:w2.cell? ⟨i,6,none⟩=some (.slice Ap D.pages.length cp):=by rw [← e1];exact I2.out.1.b.cell' rfl
 clear e1
 have hp:D.pages.length=0:=by rw [HRF.out.2];rfl
 have hp2:((D.pages.length:Int)==0)=true:=by simp [hp]
 have HP:=hid_ hp
 clear hp
 go_wp2_with fail
 have I3:=I2.out.1.setStage 6
 have I4a:=I3.1.setStage 7
 have f3:Fr (only i) w2 _:=I3.2.trans I4a.2 (fun _ _=>id) (fun _ _=>id)
 have I4:=hid_ I4a.1
 have M4:=hid_ (M2.out.ty f3 I2.out.1.only_off)
 have F4:=hid_ (mf_tr F2.out (mf_i f3))
 clear I3 I4a f3
 refine (over_ok I4.out).mono ?_
 rintro e w6 ⟨rfl,rfl⟩
 go_wp2_with fail
 go_ret
 refine ⟨_,_,{ a with rv:=.slice (some ⟨gb,0,none⟩) 0 cc },rfl,RR.out,?_,M4.out,F4.out,FLb.out,rfl⟩
 have:=I4.out
 rw [HRF.out.1] at this
 exact this
open Go.RowKit

def MadePostP (B i:Nat) (D:Dt) (a:Ia) (hd:Rc) (w:World) (e:Ending) (w':World):Prop:=
  ∃ vr ve,e=.returned (.tuple #[])∧Inst w' B i { D with head:=hd,stage:=3,at_:=0 } { a with hvr:=vr,hve:=ve }∧Fr (only i) w w'
set_option maxHeartbeats 8000000 in
theorem madeP {w:World} {B i:Nat} {D:Dt} {a:Ia} (h:Inst w B i D a) (bc:Nat) (hmv:a.mv=.func (.func 108) #[] #[.pointer (some ⟨bc,0,none⟩)]) (hnews:D.news=0) (hpg:D.pages=[]) (hd:Rc) (hz:RowsOk hd)
  (hcall:∀ (w1:World) (u:Value),Fr none_ w w1→Calls Tryz.prog 108 #[u,.pointer (some ⟨bc,0,none⟩)] w1 fun e w2=>∃ Ar cr Ae ce,e=.returned (.tuple #[.slice none 0 0,recV hd (.slice Ar hd.rows.length cr) (.slice Ae hd.ents.length ce)])∧RecOwn w2 0 hd (.slice Ar hd.rows.length cr) (.slice Ae hd.ents.length ce)∧Fr none_ w1 w2) :
  Calls Tryz.prog 103 #[.pointer (some ⟨i,0,none⟩)] w (MadePostP B i D a hd w):=by
 obtain ⟨Ap,cp,A2,c2,A3,c3,e1,e2,e3⟩:=h.shapes
 replace e1:a.pv=.slice Ap 0 cp:=by simpa [hpg] using e1
 obtain ⟨j0,hj0,hy0,ht0,hc0⟩:=info_parts (show (Tryz.prog.info? 3).map (fun i=>(i.zero,i.size,i.bytes))=some (some (.int .i64 0),1,8) by kernel_rfl)
 have Hj:=hid_ (And.intro hj0 (And.intro hy0 (And.intro ht0 hc0)))
 have HC:=hid_ hcall
 have E1:=hid_ (And.intro e1 (And.intro hmv hnews))
 have HZ:=hid_ hz
 clear hj0 hy0 ht0 hc0 e2 e3 hcall hpg hz e1 hmv hnews
 have I0:=hid_ h
 clear h
 go_enter Tryz.func103,Tryz.ntmps103
 go_upto_region 0 with fail
 go_cut [2,3] (fun u v wq=>∃ (b:Nat) (Ar:Option Addr) (cr:Nat) (Ae:Option Addr) (ce:Nat),u=.slice none 0 0∧v=.pointer (some ⟨b,0,none⟩)∧w.heap.size≤b∧Blk wq b 51 (recA hd (.slice Ar hd.rows.length cr) (.slice Ae hd.ents.length ce))∧RecOwn wq 0 hd (.slice Ar hd.rows.length cr) (.slice Ae hd.ents.length ce)∧Fr none_ w wq)
 case first =>
  have hS:(fun w':World=>Blk w' i 147 (inA D a)) w.drew:=I0.out.b.drew
  refine wp_region_U (m:=18) (S:=(fun w':World=>Blk w' i 147 (inA D a))) (by kernel_rfl) ?_
  refine wpAnyU_take2 (i:=0) (v:=_) rfl (by kernel_rfl) (by kernel_rfl) (by kernel_rfl) (by kernel_rfl) (fun _ _ _ h=>h) (.inl ⟨by kernel_rfl,fun w' hS=>by go_simp;rfl⟩) hS ?_
  refine wpAnyU_take2 (i:=1) (v:=_) rfl (by kernel_rfl) (by kernel_rfl) (by kernel_rfl) (by kernel_rfl) (fun _ _ _ h=>h) (.inl ⟨by kernel_rfl,fun w' hS=>by go_simp;rfl⟩) hS ?_
  refine wpAnyU_take2 (i:=2) (v:=_) rfl (by kernel_rfl) (by kernel_rfl) (by kernel_rfl) (by kernel_rfl) (fun _ _ _ h=>h) (.inl ⟨by kernel_rfl,fun w' hS=>by go_simp;rfl⟩) hS ?_
  refine wpAnyU_take2 (i:=3) (v:=_) rfl (by kernel_rfl) (by kernel_rfl) (by kernel_rfl) (by kernel_rfl) (fun _ _ _ h=>h) (.inl ⟨by kernel_rfl,fun w' hS=>by go_simp;rfl⟩) hS ?_
  refine wpAnyU_take2 (i:=4) (v:=_) rfl (by kernel_rfl) (by kernel_rfl) (by kernel_rfl) (by kernel_rfl) (fun _ _ _ h=>h) (.inl ⟨by kernel_rfl,fun w' hS=>by have s_:w'.cell? ⟨i,4,none⟩=some (.func (.func 108) #[] #[.pointer (some ⟨bc,0,none⟩)]):=(by rw [← E1.out.2.1];exact hS.cell' rfl);go_simp;rfl⟩) hS ?_
  refine wpAnyU_take2 (i:=6) (v:=_) rfl (by kernel_rfl) (by kernel_rfl) (by kernel_rfl) (by kernel_rfl) (fun _ _ _ h=>h) (.inl ⟨by kernel_rfl,fun w' hS=>by go_simp;rfl⟩) hS ?_
  refine wpAnyU_take2 (i:=7) (v:=_) rfl (by kernel_rfl) (by kernel_rfl) (by kernel_rfl) (by kernel_rfl) (fun _ _ _ h=>h) (.inl ⟨by kernel_rfl,fun w' hS=>by go_simp;rfl⟩) hS ?_
  refine wpAnyU_take2 (i:=8) (v:=_) rfl (by kernel_rfl) (by kernel_rfl) (by kernel_rfl) (by kernel_rfl) (fun _ _ _ h=>h) (.inl ⟨by kernel_rfl,fun w' hS=>by go_simp;rfl⟩) hS ?_
  refine wpAnyU_take2 (i:=9) (v:=_) rfl (by kernel_rfl) (by kernel_rfl) (by kernel_rfl) (by kernel_rfl) (fun _ _ _ h=>h) (.inl ⟨by kernel_rfl,fun w' hS=>by have s_:w'.cell? ⟨i,6,none⟩=some (.slice Ap 0 cp):=(by rw [← E1.out.1];exact hS.cell' rfl);go_simp;rfl⟩) hS ?_
  have FQ:Fr none_ w w.drew:=(Fr.refl none_ w).drew
  refine wpAnyU_two (i:=5) (j:=15) rfl rfl rfl rfl (by kernel_rfl) ?_ ?_
  ·skip
   go_simp
   obtain ⟨u1,hz⟩:∃ z,z=w.drew.alloc (.cells #[] 3):=⟨_,rfl⟩
   have fz:Fr none_ w.drew u1:=by rw [hz];exact (Fr.refl none_ w.drew).alloc _
   have OW:Hid (u1.ownsRow w.heap.size 3 1 (.slice (some ⟨w.drew.heap.size,0,none⟩) 0 0) 0 []):=hid_ (by rw [hz];exact own_empty w.drew 3 1 w.heap.size FQ.size)
   refine ⟨by have:=hS.fr fz id;rw [hz] at this;exact this,?_⟩
   change wpAnyU _ _ _ _ _ _ _ _ _ (w.drew.alloc (.cells #[] 3))
   rw [← hz]
   replace hS:=hS.fr fz id
   replace FQ:=FQ.then_none fz
   clear hz fz
   refine wpAnyU_two (i:=10) (j:=15) rfl rfl rfl rfl (by kernel_rfl) ?_ ?_
   ·skip
    refine wp_append_any _ (.tmp 12) (.tmp 16) 83 rfl w.heap.size 3 j0 _ 1 8 Tryz.underlying83 Hj.out.1 Hj.out.2.1 Hj.out.2.2.1 Hj.out.2.2.2 rfl (by omega) (.slice (some ⟨w.drew.heap.size,0,none⟩) 0 0) 0 [] rfl OW.out Ap 0 cp [] rfl Reads.nil_ (by simp) (by simp only [maxLen];omega) (by omega) FQ.size ?_
    intro A9 c9 u2 hown hgr
    have FQ9:=FQ.grown hgr (fun k hk=>.inr (own_blk OW.out hk).1)
    have hS9:Blk u2 i 147 (inA D a):=hS.grown hgr (Ne.symm (own_blk_ne OW.out hS (by decide)))
    refine ⟨.inr hS9,?_⟩
    replace hS:=hS9
    replace FQ:=FQ9
    clear hown hgr OW hS9 FQ9
    refine wpAnyU_two (i:=11) (j:=15) rfl rfl rfl rfl (by kernel_rfl) ?_ ?_
    ·skip
     go_simp
     refine (HC.out u2 _ FQ).mono ?_
     rintro e u3 ⟨Ar,cr,Ae,ce,rfl,hro,hfc⟩
     have RO:=hid_ hro
     have FQ9:=FQ.then_none hfc
     have hS9:Blk u3 i 147 (inA D a):=hS.fr hfc id
     refine ⟨hS9,?_⟩
     replace hS:=hS9
     replace FQ:=FQ9
     clear hro hfc hS9 FQ9
     refine wpAnyU_take2 (i:=12) (v:=_) rfl (by kernel_rfl) (by kernel_rfl) (by kernel_rfl) (by kernel_rfl) (fun _ _ _ h=>h) (.inl ⟨by kernel_rfl,fun w' hS=>by go_simp;rfl⟩) hS ?_
     refine wpAnyU_take2 (i:=13) (v:=_) rfl (by kernel_rfl) (by kernel_rfl) (by kernel_rfl) (by kernel_rfl) (fun _ _ _ h=>h) (.inl ⟨by kernel_rfl,fun w' hS=>by go_simp;rfl⟩) hS ?_
     refine wpAnyU_take2 (i:=14) (v:=_) rfl (by kernel_rfl) (by kernel_rfl) (by kernel_rfl) (by kernel_rfl) (fun _ _ _ h=>h) (.inl ⟨by kernel_rfl,fun w' hS=>by go_simp;rfl⟩) hS ?_
     refine wpAnyU_oneW (i:=15) rfl (by kernel_rfl) (by kernel_rfl) ?_
     go_simp
     obtain ⟨u4,hz⟩:∃ z,z=u3.alloc (.cells recZ 51):=⟨_,rfl⟩
     have fz:Fr none_ u3 u4:=by rw [hz];exact (Fr.refl none_ u3).alloc _
     have BA:Hid (Blk u4 u3.heap.size 51 recZ):=hid_ (by rw [hz];exact Blk.new u3 _ _)
     have hba:=FQ.size
     refine ⟨by have:=hS.fr fz id;rw [hz] at this;exact this,?_⟩
     change wpAnyU _ _ _ _ _ _ _ _ _ (u3.alloc (.cells recZ 51))
     rw [← hz]
     replace hS:=hS.fr fz id
     replace FQ:=FQ.then_none fz
     replace RO:=hid_ (RO.out.keep fz)
     clear hz fz
     refine wpAnyU_take2 (i:=16) (v:=_) rfl (by kernel_rfl) (by kernel_rfl) (by kernel_rfl) (by kernel_rfl) (fun _ _ _ h=>h) (.inl ⟨by kernel_rfl,fun w' hS=>by go_simp;rfl⟩) hS ?_
     refine wpAnyU_oneW (i:=17) rfl (by kernel_rfl) (by kernel_rfl) ?_
     refine wp_store_mid 51 (.tmp 3) (.tmp 20) rfl (u3.heap.size) 0 (recA hd (.slice Ar hd.rows.length cr) (.slice Ae hd.ents.length ce)) rfl rfl (BA.out.there9 rfl) rec_size (by simp [Value.oneCell']) ?_
     obtain ⟨w5,hw5⟩:∃ z,z=u4.setCells (u3.heap.size) 0 (recA hd (.slice Ar hd.rows.length cr) (.slice Ae hd.ents.length ce)).toList:=⟨_,rfl⟩
     have ov:=BA.out.over9 (recA hd (.slice Ar hd.rows.length cr) (.slice Ae hd.ents.length ce)).toList rfl
     rw [← hw5] at ov
     have Q5:=hid_ (show Blk w5 (u3.heap.size) 51 (recA hd (.slice Ar hd.rows.length cr) (.slice Ae hd.ents.length ce)) from ov.1)
     have O5:=hid_ (RO.out.only ov.2 BA.out (by decide) (by decide))
     have F5:=FQ.then_only ov.2 (.inr hba)
     refine ⟨.inr (by rw [← hw5];exact hS.fr ov.2 (only_ne (Blk.ne_ hS BA.out (by decide)))),?_⟩
     change wpAnyU _ _ _ _ _ _ _ _ _ (u4.setCells (u3.heap.size) 0 (recA hd (.slice Ar hd.rows.length cr) (.slice Ae hd.ents.length ce)).toList)
     rw [← hw5]
     clear hw5 ov
     refine wpAnyU_done (by kernel_rfl) ?_ _
     go_wp2_with fail
     go_meet
     exact ⟨_,Ar,cr,Ae,ce,rfl,rfl,hba,Q5.out,O5.out,F5⟩
    ·skip
     go_simp
     obtain ⟨u5,hz⟩:∃ z,z=u2.alloc (.cells recZ 51):=⟨_,rfl⟩
     have fz:Fr none_ u2 u5:=by rw [hz];exact (Fr.refl none_ u2).alloc _
     have BA:Hid (Blk u5 u2.heap.size 51 recZ):=hid_ (by rw [hz];exact Blk.new u2 _ _)
     have hba:=FQ.size
     refine ⟨by have:=hS.fr fz id;rw [hz] at this;exact this,?_⟩
     change wpAnyU _ _ _ _ _ _ _ _ _ (u2.alloc (.cells recZ 51))
     rw [← hz]
     replace hS:=hS.fr fz id
     replace FQ:=FQ.then_none fz
     clear hz fz
     refine wpAnyU_oneW (i:=11) rfl (by kernel_rfl) (by kernel_rfl) ?_
     go_simp
     refine (HC.out u5 _ FQ).mono ?_
     rintro e u6 ⟨Ar,cr,Ae,ce,rfl,hro,hfc⟩
     have RO:=hid_ hro
     have FQ9:=FQ.then_none hfc
     have hS9:Blk u6 i 147 (inA D a):=hS.fr hfc id
     replace BA:=hid_ (BA.out.fr hfc id)
     refine ⟨hS9,?_⟩
     replace hS:=hS9
     replace FQ:=FQ9
     clear hro hfc hS9 FQ9
     refine wpAnyU_take2 (i:=12) (v:=_) rfl (by kernel_rfl) (by kernel_rfl) (by kernel_rfl) (by kernel_rfl) (fun _ _ _ h=>h) (.inl ⟨by kernel_rfl,fun w' hS=>by go_simp;rfl⟩) hS ?_
     refine wpAnyU_take2 (i:=13) (v:=_) rfl (by kernel_rfl) (by kernel_rfl) (by kernel_rfl) (by kernel_rfl) (fun _ _ _ h=>h) (.inl ⟨by kernel_rfl,fun w' hS=>by go_simp;rfl⟩) hS ?_
     refine wpAnyU_take2 (i:=14) (v:=_) rfl (by kernel_rfl) (by kernel_rfl) (by kernel_rfl) (by kernel_rfl) (fun _ _ _ h=>h) (.inl ⟨by kernel_rfl,fun w' hS=>by go_simp;rfl⟩) hS ?_
     refine wpAnyU_take2 (i:=16) (v:=_) rfl (by kernel_rfl) (by kernel_rfl) (by kernel_rfl) (by kernel_rfl) (fun _ _ _ h=>h) (.inl ⟨by kernel_rfl,fun w' hS=>by go_simp;rfl⟩) hS ?_
     refine wpAnyU_oneW (i:=17) rfl (by kernel_rfl) (by kernel_rfl) ?_
     refine wp_store_mid 51 (.tmp 3) (.tmp 20) rfl (u2.heap.size) 0 (recA hd (.slice Ar hd.rows.length cr) (.slice Ae hd.ents.length ce)) rfl rfl (BA.out.there9 rfl) rec_size (by simp [Value.oneCell']) ?_
     obtain ⟨w5,hw5⟩:∃ z,z=u6.setCells (u2.heap.size) 0 (recA hd (.slice Ar hd.rows.length cr) (.slice Ae hd.ents.length ce)).toList:=⟨_,rfl⟩
     have ov:=BA.out.over9 (recA hd (.slice Ar hd.rows.length cr) (.slice Ae hd.ents.length ce)).toList rfl
     rw [← hw5] at ov
     have Q5:=hid_ (show Blk w5 (u2.heap.size) 51 (recA hd (.slice Ar hd.rows.length cr) (.slice Ae hd.ents.length ce)) from ov.1)
     have O5:=hid_ (RO.out.only ov.2 BA.out (by decide) (by decide))
     have F5:=FQ.then_only ov.2 (.inr hba)
     refine ⟨.inr (by rw [← hw5];exact hS.fr ov.2 (only_ne (Blk.ne_ hS BA.out (by decide)))),?_⟩
     change wpAnyU _ _ _ _ _ _ _ _ _ (u6.setCells (u2.heap.size) 0 (recA hd (.slice Ar hd.rows.length cr) (.slice Ae hd.ents.length ce)).toList)
     rw [← hw5]
     clear hw5 ov
     refine wpAnyU_done (by kernel_rfl) ?_ _
     go_wp2_with fail
     go_meet
     exact ⟨_,Ar,cr,Ae,ce,rfl,rfl,hba,Q5.out,O5.out,F5⟩
   ·skip
    go_simp
    obtain ⟨u7,hz⟩:∃ z,z=u1.alloc (.cells recZ 51):=⟨_,rfl⟩
    have fz:Fr none_ u1 u7:=by rw [hz];exact (Fr.refl none_ u1).alloc _
    have BA:Hid (Blk u7 u1.heap.size 51 recZ):=hid_ (by rw [hz];exact Blk.new u1 _ _)
    have hba:=FQ.size
    refine ⟨by have:=hS.fr fz id;rw [hz] at this;exact this,?_⟩
    change wpAnyU _ _ _ _ _ _ _ _ _ (u1.alloc (.cells recZ 51))
    rw [← hz]
    replace hS:=hS.fr fz id
    replace FQ:=FQ.then_none fz
    replace OW:=hid_ (own_none OW.out fz)
    clear hz fz
    refine wpAnyU_oneW (i:=10) rfl (by kernel_rfl) (by kernel_rfl) ?_
    refine wp_append_any _ (.tmp 12) (.tmp 16) 83 rfl w.heap.size 3 j0 _ 1 8 Tryz.underlying83 Hj.out.1 Hj.out.2.1 Hj.out.2.2.1 Hj.out.2.2.2 rfl (by omega) (.slice (some ⟨w.drew.heap.size,0,none⟩) 0 0) 0 [] rfl OW.out Ap 0 cp [] rfl Reads.nil_ (by simp) (by simp only [maxLen];omega) (by omega) FQ.size ?_
    intro A9 c9 u8 hown hgr
    have FQ9:=FQ.grown hgr (fun k hk=>.inr (own_blk OW.out hk).1)
    have hS9:Blk u8 i 147 (inA D a):=hS.grown hgr (Ne.symm (own_blk_ne OW.out hS (by decide)))
    replace BA:=hid_ (BA.out.grown hgr (Ne.symm (own_blk_ne OW.out BA.out (by decide))))
    refine ⟨.inr hS9,?_⟩
    replace hS:=hS9
    replace FQ:=FQ9
    clear hown hgr OW hS9 FQ9
    refine wpAnyU_oneW (i:=11) rfl (by kernel_rfl) (by kernel_rfl) ?_
    go_simp
    refine (HC.out u8 _ FQ).mono ?_
    rintro e u9 ⟨Ar,cr,Ae,ce,rfl,hro,hfc⟩
    have RO:=hid_ hro
    have FQ9:=FQ.then_none hfc
    have hS9:Blk u9 i 147 (inA D a):=hS.fr hfc id
    replace BA:=hid_ (BA.out.fr hfc id)
    refine ⟨hS9,?_⟩
    replace hS:=hS9
    replace FQ:=FQ9
    clear hro hfc hS9 FQ9
    refine wpAnyU_take2 (i:=12) (v:=_) rfl (by kernel_rfl) (by kernel_rfl) (by kernel_rfl) (by kernel_rfl) (fun _ _ _ h=>h) (.inl ⟨by kernel_rfl,fun w' hS=>by go_simp;rfl⟩) hS ?_
    refine wpAnyU_take2 (i:=13) (v:=_) rfl (by kernel_rfl) (by kernel_rfl) (by kernel_rfl) (by kernel_rfl) (fun _ _ _ h=>h) (.inl ⟨by kernel_rfl,fun w' hS=>by go_simp;rfl⟩) hS ?_
    refine wpAnyU_take2 (i:=14) (v:=_) rfl (by kernel_rfl) (by kernel_rfl) (by kernel_rfl) (by kernel_rfl) (fun _ _ _ h=>h) (.inl ⟨by kernel_rfl,fun w' hS=>by go_simp;rfl⟩) hS ?_
    refine wpAnyU_take2 (i:=16) (v:=_) rfl (by kernel_rfl) (by kernel_rfl) (by kernel_rfl) (by kernel_rfl) (fun _ _ _ h=>h) (.inl ⟨by kernel_rfl,fun w' hS=>by go_simp;rfl⟩) hS ?_
    refine wpAnyU_oneW (i:=17) rfl (by kernel_rfl) (by kernel_rfl) ?_
    refine wp_store_mid 51 (.tmp 3) (.tmp 20) rfl (u1.heap.size) 0 (recA hd (.slice Ar hd.rows.length cr) (.slice Ae hd.ents.length ce)) rfl rfl (BA.out.there9 rfl) rec_size (by simp [Value.oneCell']) ?_
    obtain ⟨w5,hw5⟩:∃ z,z=u9.setCells (u1.heap.size) 0 (recA hd (.slice Ar hd.rows.length cr) (.slice Ae hd.ents.length ce)).toList:=⟨_,rfl⟩
    have ov:=BA.out.over9 (recA hd (.slice Ar hd.rows.length cr) (.slice Ae hd.ents.length ce)).toList rfl
    rw [← hw5] at ov
    have Q5:=hid_ (show Blk w5 (u1.heap.size) 51 (recA hd (.slice Ar hd.rows.length cr) (.slice Ae hd.ents.length ce)) from ov.1)
    have O5:=hid_ (RO.out.only ov.2 BA.out (by decide) (by decide))
    have F5:=FQ.then_only ov.2 (.inr hba)
    refine ⟨.inr (by rw [← hw5];exact hS.fr ov.2 (only_ne (Blk.ne_ hS BA.out (by decide)))),?_⟩
    change wpAnyU _ _ _ _ _ _ _ _ _ (u9.setCells (u1.heap.size) 0 (recA hd (.slice Ar hd.rows.length cr) (.slice Ae hd.ents.length ce)).toList)
    rw [← hw5]
    clear hw5 ov
    refine wpAnyU_done (by kernel_rfl) ?_ _
    go_wp2_with fail
    go_meet
    exact ⟨_,Ar,cr,Ae,ce,rfl,rfl,hba,Q5.out,O5.out,F5⟩
  ·skip
   go_simp
   obtain ⟨u10,hz⟩:∃ z,z=w.drew.alloc (.cells recZ 51):=⟨_,rfl⟩
   have fz:Fr none_ w.drew u10:=by rw [hz];exact (Fr.refl none_ w.drew).alloc _
   have BA:Hid (Blk u10 w.drew.heap.size 51 recZ):=hid_ (by rw [hz];exact Blk.new w.drew _ _)
   have hba:=FQ.size
   refine ⟨by have:=hS.fr fz id;rw [hz] at this;exact this,?_⟩
   change wpAnyU _ _ _ _ _ _ _ _ _ (w.drew.alloc (.cells recZ 51))
   rw [← hz]
   replace hS:=hS.fr fz id
   replace FQ:=FQ.then_none fz
   clear hz fz
   refine wpAnyU_oneW (i:=5) rfl (by kernel_rfl) (by kernel_rfl) ?_
   go_simp
   obtain ⟨u11,hz⟩:∃ z,z=u10.alloc (.cells #[] 3):=⟨_,rfl⟩
   have fz:Fr none_ u10 u11:=by rw [hz];exact (Fr.refl none_ u10).alloc _
   have OW:Hid (u11.ownsRow w.heap.size 3 1 (.slice (some ⟨u10.heap.size,0,none⟩) 0 0) 0 []):=hid_ (by rw [hz];exact own_empty u10 3 1 w.heap.size FQ.size)
   refine ⟨by have:=hS.fr fz id;rw [hz] at this;exact this,?_⟩
   change wpAnyU _ _ _ _ _ _ _ _ _ (u10.alloc (.cells #[] 3))
   rw [← hz]
   replace hS:=hS.fr fz id
   replace FQ:=FQ.then_none fz
   replace BA:=hid_ (BA.out.fr fz id)
   clear hz fz
   refine wpAnyU_oneW (i:=10) rfl (by kernel_rfl) (by kernel_rfl) ?_
   refine wp_append_any _ (.tmp 12) (.tmp 16) 83 rfl w.heap.size 3 j0 _ 1 8 Tryz.underlying83 Hj.out.1 Hj.out.2.1 Hj.out.2.2.1 Hj.out.2.2.2 rfl (by omega) (.slice (some ⟨u10.heap.size,0,none⟩) 0 0) 0 [] rfl OW.out Ap 0 cp [] rfl Reads.nil_ (by simp) (by simp only [maxLen];omega) (by omega) FQ.size ?_
   intro A9 c9 u12 hown hgr
   have FQ9:=FQ.grown hgr (fun k hk=>.inr (own_blk OW.out hk).1)
   have hS9:Blk u12 i 147 (inA D a):=hS.grown hgr (Ne.symm (own_blk_ne OW.out hS (by decide)))
   replace BA:=hid_ (BA.out.grown hgr (Ne.symm (own_blk_ne OW.out BA.out (by decide))))
   refine ⟨.inr hS9,?_⟩
   replace hS:=hS9
   replace FQ:=FQ9
   clear hown hgr OW hS9 FQ9
   refine wpAnyU_oneW (i:=11) rfl (by kernel_rfl) (by kernel_rfl) ?_
   go_simp
   refine (HC.out u12 _ FQ).mono ?_
   rintro e u13 ⟨Ar,cr,Ae,ce,rfl,hro,hfc⟩
   have RO:=hid_ hro
   have FQ9:=FQ.then_none hfc
   have hS9:Blk u13 i 147 (inA D a):=hS.fr hfc id
   replace BA:=hid_ (BA.out.fr hfc id)
   refine ⟨hS9,?_⟩
   replace hS:=hS9
   replace FQ:=FQ9
   clear hro hfc hS9 FQ9
   refine wpAnyU_take2 (i:=12) (v:=_) rfl (by kernel_rfl) (by kernel_rfl) (by kernel_rfl) (by kernel_rfl) (fun _ _ _ h=>h) (.inl ⟨by kernel_rfl,fun w' hS=>by go_simp;rfl⟩) hS ?_
   refine wpAnyU_take2 (i:=13) (v:=_) rfl (by kernel_rfl) (by kernel_rfl) (by kernel_rfl) (by kernel_rfl) (fun _ _ _ h=>h) (.inl ⟨by kernel_rfl,fun w' hS=>by go_simp;rfl⟩) hS ?_
   refine wpAnyU_take2 (i:=14) (v:=_) rfl (by kernel_rfl) (by kernel_rfl) (by kernel_rfl) (by kernel_rfl) (fun _ _ _ h=>h) (.inl ⟨by kernel_rfl,fun w' hS=>by go_simp;rfl⟩) hS ?_
   refine wpAnyU_take2 (i:=16) (v:=_) rfl (by kernel_rfl) (by kernel_rfl) (by kernel_rfl) (by kernel_rfl) (fun _ _ _ h=>h) (.inl ⟨by kernel_rfl,fun w' hS=>by go_simp;rfl⟩) hS ?_
   refine wpAnyU_oneW (i:=17) rfl (by kernel_rfl) (by kernel_rfl) ?_
   refine wp_store_mid 51 (.tmp 3) (.tmp 20) rfl (w.drew.heap.size) 0 (recA hd (.slice Ar hd.rows.length cr) (.slice Ae hd.ents.length ce)) rfl rfl (BA.out.there9 rfl) rec_size (by simp [Value.oneCell']) ?_
   obtain ⟨w5,hw5⟩:∃ z,z=u13.setCells (w.drew.heap.size) 0 (recA hd (.slice Ar hd.rows.length cr) (.slice Ae hd.ents.length ce)).toList:=⟨_,rfl⟩
   have ov:=BA.out.over9 (recA hd (.slice Ar hd.rows.length cr) (.slice Ae hd.ents.length ce)).toList rfl
   rw [← hw5] at ov
   have Q5:=hid_ (show Blk w5 (w.drew.heap.size) 51 (recA hd (.slice Ar hd.rows.length cr) (.slice Ae hd.ents.length ce)) from ov.1)
   have O5:=hid_ (RO.out.only ov.2 BA.out (by decide) (by decide))
   have F5:=FQ.then_only ov.2 (.inr hba)
   refine ⟨.inr (by rw [← hw5];exact hS.fr ov.2 (only_ne (Blk.ne_ hS BA.out (by decide)))),?_⟩
   change wpAnyU _ _ _ _ _ _ _ _ _ (u13.setCells (w.drew.heap.size) 0 (recA hd (.slice Ar hd.rows.length cr) (.slice Ae hd.ents.length ce)).toList)
   rw [← hw5]
   clear hw5 ov
   refine wpAnyU_done (by kernel_rfl) ?_ _
   go_wp2_with fail
   go_meet
   exact ⟨_,Ar,cr,Ae,ce,rfl,rfl,hba,Q5.out,O5.out,F5⟩
 case rest =>
  obtain ⟨b,Ar,cr,Ae,ce,rfl,rfl,hb,hbb,hro,hf⟩:=hcut
  have BH:=hid_ hbb
  have RO:=hid_ hro
  have F:=hid_ hf
  have I1:=hid_ (I0.out.keep hf)
  clear hbb hro hf I0
  have i3:wc.cell? ⟨i,3,none⟩=some (.int .i64 0):=by rw [← E1.out.2.2];exact I1.out.b.cell' rfl
  go_wp2_with fail
  go_loopw [26] (fun u wr=>u=.int .i64 0∧wc=wr) (fun _ _=>0)
  case atStart=>exact ⟨rfl,rfl⟩
  case round =>
   obtain ⟨rfl,rfl⟩:=hrel
   have r0:wc.cell? ⟨b,0,none⟩=some (.int .i64 hd.kind):=BH.out.cell' rfl
   have r1:wc.cell? ⟨b,1,none⟩=some (.string hd.low):=BH.out.cell' rfl
   have r2:wc.cell? ⟨b,2,none⟩=some (.string hd.high):=BH.out.cell' rfl
   have r3:wc.cell? ⟨b,3,none⟩=some (.bool hd.unb):=BH.out.cell' rfl
   have r4:wc.cell? ⟨b,4,none⟩=some (.int .i64 hd.right):=BH.out.cell' rfl
   have r5:wc.cell? ⟨b,5,none⟩=some (.slice Ar hd.rows.length cr):=BH.out.cell' rfl
   have r6:wc.cell? ⟨b,6,none⟩=some (.slice Ae hd.ents.length ce):=BH.out.cell' rfl
   have r7:wc.cell? ⟨b,7,none⟩=some (.string hd.key):=BH.out.cell' rfl
   have r8:wc.cell? ⟨b,8,none⟩=some (.string hd.val):=BH.out.cell' rfl
   have r9:wc.cell? ⟨b,9,none⟩=some (.int .i64 hd.page):=BH.out.cell' rfl
   have r10:wc.cell? ⟨b,10,none⟩=some (.int .i64 hd.hpage):=BH.out.cell' rfl
   have r11:wc.cell? ⟨b,11,none⟩=some (.int .i64 hd.hleft):=BH.out.cell' rfl
   have r12:wc.cell? ⟨b,12,none⟩=some (.string hd.hkey):=BH.out.cell' rfl
   have r13:wc.cell? ⟨b,13,none⟩=some (.int .i64 hd.nslot):=BH.out.cell' rfl
   have r14:wc.cell? ⟨b,14,none⟩=some (.int .i64 hd.ngen):=BH.out.cell' rfl
   have HT:wc.there i 8 15:=I1.out.b.there_at (by show 8+15≤27;decide)
   go_wp2_with (refine wpList_store_mid rfl 51 (.tmp 53) (.tmp 51) rfl i 8 (recA hd (.slice Ar hd.rows.length cr) (.slice Ae hd.ents.length ce)) rfl rfl HT rec_size (by simp [Value.oneCell']) ?_;obtain ⟨w5,hw5⟩:∃ z,z=wc.setCells i 8 (recA hd (.slice Ar hd.rows.length cr) (.slice Ae hd.ents.length ce)).toList:=⟨_,rfl⟩;have B5:Hid (Blk w5 i 147 (inA { D with head:=hd } { a with hvr:=.slice Ar hd.rows.length cr,hve:=.slice Ae hd.ents.length ce })):=hid_ (by rw [hw5];have hq:=I1.out.b.setCells (recA hd (.slice Ar hd.rows.length cr) (.slice Ae hd.ents.length ce)).toList 8;rwa [setA_head] at hq);have F5:Hid (Fr (only i) wc w5):=hid_ (by rw [hw5];exact Fr.setCells (recA hd (.slice Ar hd.rows.length cr) (.slice Ae hd.ents.length ce)).toList 8 wc (Fr.refl _ _) (.inl (Eq.refl i)));change wpList _ _ _ _ _ (wc.setCells i 8 (recA hd (.slice Ar hd.rows.length cr) (.slice Ae hd.ents.length ce)).toList);rw [← hw5];clear hw5 HT i3 r0 r1 r2 r3 r4 r5 r6 r7 r8 r9 r10 r11 r12 r13 r14;have i3:w5.cell? ⟨i,3,none⟩=some (.int .i64 0):=(by rw [← E1.out.2.2];exact B5.out.cell' rfl);have i5:∃ u,w5.cell? ⟨i,5,none⟩=some u:=⟨_,B5.out.cell' rfl⟩;obtain ⟨u5,i5⟩:=i5;have i24:∃ u,w5.cell? ⟨i,24,none⟩=some u:=⟨_,B5.out.cell' rfl⟩;obtain ⟨u24,i24⟩:=i24;have y5:=B5.out.frozen 5;have y24:=B5.out.frozen 24)
   have B9:=((B5.out.set_ 5 (.int .i64 1)).set_ 24 (.int .i64 0)).set_ 5 (.int .i64 3)
   have F9:=((F5.out.trans (Fr.only1 w5 ⟨i,5,none⟩ (.int .i64 1)) (fun _ _=>id) (fun _ _=>id)).trans (Fr.only1 _ ⟨i,24,none⟩ (.int .i64 0)) (fun _ _=>id) (fun _ _=>id)).trans (Fr.only1 _ ⟨i,5,none⟩ (.int .i64 3)) (S'':=only i) (fun _ _=>id) (fun _ _=>id)
   exact bodyPost_end (v:=.tuple #[]) (by simp [results,Tryz.results103,go_sem]) rfl ⟨_,_,rfl,I1.out.rehead F9 B9 RO.out HZ.out,(F.out.mono (fun _ _ e=>e.elim)).trans F9 (fun _ _=>id) (fun _ _=>id)⟩
open Go.RowKit

theorem eq_func (f:Fn) (a b:Array Value) (w:World):(binOp .eql 143 (.func f a b) .nilFunc).run Tryz.prog w=.ok (.bool false) w:=by rfl
theorem eq_nilf (w:World):(binOp .eql 143 .nilFunc .nilFunc).run Tryz.prog w=.ok (.bool true) w:=by rfl
abbrev dt0 (page os og news stage:Int) (hd:Rc) (err:Int):Dt:=⟨page,os,og,news,stage,[],[],hd,[],0,false,err⟩
abbrev ia0 (mv vr ve ev:Value):Ia:=⟨mv,.slice none 0 0,.slice none 0 0,.slice none 0 0,[],vr,ve,ev⟩
theorem inst_new {w:World} {B i:Nat} (page os og news stage:Int) (mv ev:Value) (err:Int) (hB:B≤i) (hb:Blk w i 147 (inA (dt0 page os og news stage Rc.zero err) (ia0 mv (.slice none 0 0) (.slice none 0 0) ev))) (he:Er w ev err):Inst w B i (dt0 page os og news stage Rc.zero err) (ia0 mv (.slice none 0 0) (.slice none 0 0) ev):=
  ⟨hb,World.ownsRow_nil _ _ _ _,World.ownsRow_nil _ _ _ _,rfl,(fun C hC=>by cases hC),World.ownsRow_nil _ _ _ _,RecOwn.zero _ _,he,hB,(fun R hR=>by cases hR),⟨Nat.zero_le _,Nat.zero_le _⟩,⟨Nat.zero_le _,Nat.zero_le _,Nat.zero_le _⟩⟩
def BegPostP (page os og:Int) (mv:Value) (hd:Rc) (w:World) (e:Ending) (w':World):Prop:=
  ∃ i vr ve,e=.returned (.pointer (some ⟨i,0,none⟩))∧Inst w' w.heap.size i (dt0 page os og 0 3 hd 0) (ia0 mv vr ve .nilIface)∧Fr none_ w w'
set_option maxHeartbeats 8000000 in
theorem beginP {w:World} (page os og:Int) (bc:Nat) (hd:Rc) (hz:RowsOk hd)
  (hcall:∀ (w1:World) (u:Value),Fr none_ w w1→Calls Tryz.prog 108 #[u,.pointer (some ⟨bc,0,none⟩)] w1 fun e w2=>∃ Ar cr Ae ce,e=.returned (.tuple #[.slice none 0 0,recV hd (.slice Ar hd.rows.length cr) (.slice Ae hd.ents.length ce)])∧RecOwn w2 0 hd (.slice Ar hd.rows.length cr) (.slice Ae hd.ents.length ce)∧Fr none_ w1 w2) :
  Calls Tryz.prog 107 #[.agg #[.int .i64 page,.int .i64 os,.int .i64 og,.int .i64 0,(.func (.func 108) #[] #[.pointer (some ⟨bc,0,none⟩)])]] w (BegPostP page os og (.func (.func 108) #[] #[.pointer (some ⟨bc,0,none⟩)]) hd w):=by
 have HC:=hid_ hcall
 have HZ:=hid_ hz
 clear hcall hz
 have F:=hid_ (Fr.refl none_ w)
 have qf1:=eq_func
 have qf2:=eq_nilf
 go_enter Tryz.func107,Tryz.ntmps107
 go_upto_region 1 with fail
 obtain ⟨w0,hw0⟩:∃ z,z=w.alloc (.cells #[.int .i64 page,.int .i64 os,.int .i64 og,.int .i64 0,(.func (.func 108) #[] #[.pointer (some ⟨bc,0,none⟩)])] 145):=⟨_,rfl⟩
 have fw0:Fr none_ w w0:=by rw [hw0];exact (Fr.refl none_ w).alloc _
 have BJ:Hid (Blk w0 w.heap.size 145 (#[.int .i64 page,.int .i64 os,.int .i64 og,.int .i64 0,(.func (.func 108) #[] #[.pointer (some ⟨bc,0,none⟩)])])):=hid_ (by rw [hw0];exact Blk.new w _ _)
 replace F:=hid_ (F.out.then_none fw0)
 change Code.wp _ _ _ _ (w.alloc (.cells #[.int .i64 page,.int .i64 os,.int .i64 og,.int .i64 0,(.func (.func 108) #[] #[.pointer (some ⟨bc,0,none⟩)])] 145))
 rw [← hw0]
 clear hw0 fw0
 have j0:w0.cell? ⟨w.heap.size,0,none⟩=some (.int .i64 page):=BJ.out.cell' rfl
 have j1:w0.cell? ⟨w.heap.size,1,none⟩=some (.int .i64 os):=BJ.out.cell' rfl
 have j2:w0.cell? ⟨w.heap.size,2,none⟩=some (.int .i64 og):=BJ.out.cell' rfl
 have j3:w0.cell? ⟨w.heap.size,3,none⟩=some (.int .i64 0):=BJ.out.cell' rfl
 have j4:w0.cell? ⟨w.heap.size,4,none⟩=some (.func (.func 108) #[] #[.pointer (some ⟨bc,0,none⟩)]):=BJ.out.cell' rfl
 have HL:=hid_ (Nat.le_of_lt BJ.out.lt)
 go_upto_region 2 with fail
 clear j0 j1 j2 j3 j4
 obtain ⟨w1,hw1⟩:∃ z,z=w0.alloc (.cells (inA (dt0 page os og 0 0 Rc.zero 0) (ia0 (.func (.func 108) #[] #[.pointer (some ⟨bc,0,none⟩)]) (.slice none 0 0) (.slice none 0 0) .nilIface)) 147):=⟨_,rfl⟩
 have fw1:Fr none_ w0 w1:=by rw [hw1];exact (Fr.refl none_ w0).alloc _
 have BI:Hid (Blk w1 w0.heap.size 147 (inA (dt0 page os og 0 0 Rc.zero 0) (ia0 (.func (.func 108) #[] #[.pointer (some ⟨bc,0,none⟩)]) (.slice none 0 0) (.slice none 0 0) .nilIface))):=hid_ (by rw [hw1];exact Blk.new w0 _ _)
 replace F:=hid_ (F.out.then_none fw1)
 replace BJ:=hid_ (BJ.out.fr fw1 id)
 change Code.wp _ _ _ _ (w0.alloc (.cells (inA (dt0 page os og 0 0 Rc.zero 0) (ia0 (.func (.func 108) #[] #[.pointer (some ⟨bc,0,none⟩)]) (.slice none 0 0) (.slice none 0 0) .nilIface)) 147))
 rw [← hw1]
 clear hw1 fw1
 have j3:w1.cell? ⟨w.heap.size,3,none⟩=some (.int .i64 0):=BJ.out.cell' rfl
 have j4:w1.cell? ⟨w.heap.size,4,none⟩=some (.func (.func 108) #[] #[.pointer (some ⟨bc,0,none⟩)]):=BJ.out.cell' rfl
 have I1:=hid_ (inst_new (B:=w.heap.size) page os og 0 0 (.func (.func 108) #[] #[.pointer (some ⟨bc,0,none⟩)]) .nilIface 0 HL.out BI.out (.inl rfl))
 go_wp2_with fail
 refine (madeP I1.out bc rfl rfl rfl hd HZ.out (fun w2 u hf=>HC.out w2 u (F.out.then_none hf))).mono ?_
 rintro e w2 ⟨vr,ve,rfl,hI,hf⟩
 have I2:=hid_ (And.intro hI (F.out.then_only hf (.inr HL.out)))
 clear hI hf j3 j4
 go_wp2_with fail
 go_ret
 exact ⟨_,vr,ve,rfl,I2.out.1,I2.out.2⟩
open Go.RowKit Go.BigFrame

theorem run_storeVar_one {P:Program} (w:World) (b o:Nat) (ty:TypeId) (v:Value) (ht:w.there b o 1) (hi:(P.info? ty).map (·.size)=some 1) (hc:v.cells=#[v]) (h1:v.oneCell'=true) :
    (storeVar ty ⟨b,o,none⟩ v).run P w=.ok () (w.setCells b o [v]):=by
  have:=run_storeCells_cells (P:=P) b o [v] 0 w (fun j hj=>by simpa using (ht j (by simpa using hj)).1) (fun j hj=>by simpa using (ht j (by simpa using hj)).2)
    (fun u hu=>(List.mem_singleton.1 hu) ▸ h1)
  cases hq:P.info? ty with
  | none=>simp [hq] at hi
  | some i =>
    have hs:i.size=1:=by simpa [hq] using hi
    simp only [Nat.add_zero] at this
    simp [storeVar,sizeOf,typeInfo,hq,hc,hs,this]
theorem wpList_store_one {P:Program} {ops:Array Oper} {rest:List Oper} {op:Oper} {a:Act} {w:World} {Q:Exit→Act→World→Prop} (hgd:op.guard=none) (ty:TypeId) (x y:Operand) (ho:op.op=.store ty x y)
    (b o:Nat) (v:Value) (hx:a.eval x=.pointer (some ⟨b,o,none⟩)) (hy:a.eval y=v)
    (ht:w.there b o 1) (hi:(P.info? ty).map (·.size)=some 1) (hc:v.cells=#[v]) (h1:v.oneCell'=true)
    (h:wpList P ops Q rest (a.put op.dst undef) (w.setCell ⟨b,o,none⟩ v)):wpList P ops Q (op :: rest) a w:=
  wpList_plain hgd fun _ hK=>by
    unfold Oper.wp execOp
    simp only [ho,hx,hy,Instr.storeAt,Instr.sureAddr,Sem.run_bind,Sem.run_pure,Result.andThen_ok,run_storeVar_one w b o ty v ht hi hc h1]
    exact hK _ _ h
structure Hm where
  n:Int
  hs:Int
  hg:Int
  hp:Int
  hl:Int
  hk:ByteArray
  left:Int
  lv:Value
  jv:Value
  tv:Value
  fv:Value
  gone:Lw
  gr:Value
  as_:Int
  ag:Int
  over:Bool
  done:Bool
  ev:Value
abbrev hmA (H:Hm):Array Value:=#[.int .i64 H.n,.int .i64 H.hs,.int .i64 H.hg,.int .i64 H.hp,.int .i64 H.hl,.string H.hk,.int .i64 H.left,H.lv,H.jv,H.tv,H.fv,.string H.gone.low,.string H.gone.high,.bool H.gone.unb,.int .i64 H.gone.right,H.gr,.bool H.gone.gone,.int .i64 H.as_,.int .i64 H.ag,.bool H.over,.bool H.done,H.ev]
abbrev HpB (w:World) (h:Nat) (H:Hm):Prop:=Blk w h 103 (hmA H)
abbrev goingF (h:Nat):Value:=.func (.func 74) #[.pointer (some ⟨h,0,none⟩)] #[]
abbrev takingF (h:Nat):Value:=.func (.func 106) #[.pointer (some ⟨h,0,none⟩)] #[]
theorem Blk.one13 {w:World} {g:Nat} {t:TypeId} {cs:Array Value} (h:Blk w g t cs) {i:Nat} (hi:i < cs.size):w.there g i 1:=fun j hj=>by
  obtain rfl:j=0:=by omega
  exact ⟨by rw [Nat.add_zero,h.cell,Array.getElem?_eq_getElem hi];rfl,by rw [Nat.add_zero];exact h.frozen i⟩
theorem fn_size:(Tryz.prog.info? 99).map (·.size)=some 1∧(Tryz.prog.info? 100).map (·.size)=some 1:=⟨by kernel_rfl,by kernel_rfl⟩
theorem frO13 {b o:Nat} {w w':World} (h:Fr (only b) w w') (u:Value):Fr (only b) w (w'.setCell ⟨b,o,none⟩ u):=Fr.setCell (p:=⟨b,o,none⟩) h (.inl rfl) u
theorem Ldr.base {b0 b1 g:Nat} {w:World} {s:LdS} (h:Ldr b1 w g s) (hb:b0≤b1):Ldr b0 w g s:=⟨h.b,Nat.le_trans hb h.lb,own_base h.l hb,own_base h.r hb,fun C hC=>(h.own C hC).base hb⟩
theorem Ldr.fr_off {b0 g:Nat} {w w':World} {s:LdS} {h:Nat} (hl:Ldr b0 w g s) (hf:Fr (only h) w w') (hh:h < b0):Ldr b0 w' g s:=hl.fr hf (fun i e=>by rw [show i=h from e];exact hh)
theorem mend_ok {w:World} {h:Nat} {H:Hm} (d:Bool) (v:Value) (hv:v=.nilIface∨∃ t u,v=.iface t u) (hb:HpB w h H):Calls Tryz.prog 49 #[.pointer (some ⟨h,0,none⟩),.bool d,v] w fun e w'=>e=.returned (.bool true)∧HpB w' h { H with over:=true,done:=d,ev:=v }∧Fr (only h) w w':=by
  have HB:=hid_ hb
  have c19:w.cell? ⟨h,19,none⟩=some (.bool H.over):=hb.cell' rfl
  have c20:w.cell? ⟨h,20,none⟩=some (.bool H.done):=hb.cell' rfl
  have c21:w.cell? ⟨h,21,none⟩=some H.ev:=hb.cell' rfl
  have y19:=hb.frozen 19
  have y20:=hb.frozen 20
  have y21:=hb.frozen 21
  clear hb
  go_enter Tryz.func49,Tryz.ntmps49
  rcases hv with rfl | ⟨t,u,rfl⟩
  · go_wp2
    go_ret
    exact ⟨rfl,((HB.out.set_ 19 (.bool true)).set_ 20 (.bool d)).set_ 21 .nilIface,frO13 (frO13 (Fr.only1 w ⟨h,19,none⟩ _) _) _⟩
  · go_wp2
    go_ret
    exact ⟨rfl,((HB.out.set_ 19 (.bool true)).set_ 20 (.bool d)).set_ 21 (.iface t u),frO13 (frO13 (Fr.only1 w ⟨h,19,none⟩ _) _) _⟩
def SeePost (h:Nat) (H:Hm) (n:Int) (f:Value) (w:World) (e:Ending) (w':World):Prop:=
  ∃ g,e=.returned (.bool false)∧HpB w' h { H with lv:=.pointer (some ⟨g,0,none⟩),jv:=.pointer none,tv:=f }∧Ldr w.heap.size w' g (LdS.new n)∧Fr (only h) w w'
set_option maxHeartbeats 4000000 in
theorem see_ok {w:World} {h:Nat} {H:Hm} (n:Int) (fn:Fn) (xs:Array Value) (hb:HpB w h H):Calls Tryz.prog 73 #[.pointer (some ⟨h,0,none⟩),.int .i64 n,.func fn xs #[]] w (SeePost h H n (.func fn xs #[]) w):=by
  have HB:=hid_ hb
  have hlt:=hb.lt
  clear hb
  go_enter Tryz.func73,Tryz.ntmps73
  go_wp2_with fail
  refine (ldBegin_ok n w).mono ?_
  rintro e w1 ⟨rfl,hl,hf⟩
  have HB1:=hid_ (HB.out.fr hf id)
  have L1:=hid_ hl
  have F1:=hid_ hf
  clear hl hf
  have c7:w1.cell? ⟨h,7,none⟩=some H.lv:=HB1.out.cell' rfl
  have c8:w1.cell? ⟨h,8,none⟩=some H.jv:=HB1.out.cell' rfl
  have y7:=HB1.out.frozen 7
  have y8:=HB1.out.frozen 8
  have B2:=hid_ ((HB1.out.set_ 7 (.pointer (some ⟨w.heap.size,0,none⟩))).set_ 8 (.pointer none))
  go_wp2_with (refine wpList_store_one rfl 99 (.tmp 18) (.tmp 12) rfl h 9 (.func fn xs #[]) rfl rfl (B2.out.one13 (by simp)) fn_size.1 rfl rfl ?_)
  have B3:=B2.out.set_ 9 (.func fn xs #[])
  have F3:Fr (only h) w1 _:=frO13 (o:=9) (frO13 (o:=8) (Fr.only1 w1 ⟨h,7,none⟩ (.pointer (some ⟨w.heap.size,0,none⟩))) (.pointer none)) (.func fn xs #[])
  go_ret
  exact ⟨w.heap.size,rfl,B3,L1.out.fr_off F3 (by omega),(F1.out.mono (fun _ _ e=>e.elim)).then_only F3 (.inl rfl)⟩
theorem mfirst_ok {w:World} {h:Nat} {H:Hm} (hb:HpB w h H):Calls Tryz.prog 44 #[.pointer (some ⟨h,0,none⟩)] w (SeePost h H H.hp (goingF h) w):=by
  have HB:=hid_ hb
  have c3:w.cell? ⟨h,3,none⟩=some (.int .i64 H.hp):=hb.cell' rfl
  have hmf:∀ (fn:Fn) (first cap:Array Value) (w:World),(Instr.makeFunc fn first cap).run Tryz.prog w=.ok (.func fn first cap) w:=fun _ _ _ _=>rfl
  clear hb
  go_enter Tryz.func44,Tryz.ntmps44
  go_wp2_with fail
  refine (see_ok H.hp _ _ HB.out).mono ?_
  rintro e w1 ⟨g,rfl,h1,h2,h3⟩
  go_wp2_with fail
  go_ret
  exact ⟨g,rfl,h1,h2,h3⟩
theorem msecond_ok {w:World} {h:Nat} {H:Hm} (hb:HpB w h H):Calls Tryz.prog 95 #[.pointer (some ⟨h,0,none⟩)] w (SeePost h H H.left (takingF h) w):=by
  have HB:=hid_ hb
  have c3:w.cell? ⟨h,6,none⟩=some (.int .i64 H.left):=hb.cell' rfl
  have hmf:∀ (fn:Fn) (first cap:Array Value) (w:World),(Instr.makeFunc fn first cap).run Tryz.prog w=.ok (.func fn first cap) w:=fun _ _ _ _=>rfl
  clear hb
  go_enter Tryz.func95,Tryz.ntmps95
  go_wp2_with fail
  refine (see_ok H.left _ _ HB.out).mono ?_
  rintro e w1 ⟨g,rfl,h1,h2,h3⟩
  go_wp2_with fail
  go_ret
  exact ⟨g,rfl,h1,h2,h3⟩
theorem mover_ok {w:World} {h:Nat} {H:Hm} (hb:HpB w h H):Calls Tryz.prog 28 #[.pointer (some ⟨h,0,none⟩)] w fun e w'=>e=.returned (.bool H.over)∧w=w':=by
  have c19:w.cell? ⟨h,19,none⟩=some (.bool H.over):=hb.cell' rfl
  clear hb
  go_enter Tryz.func28,Tryz.ntmps28
  go_wp2
  go_ret
  exact ⟨rfl,rfl⟩
theorem mdone_ok {w:World} {h:Nat} {H:Hm} (hb:HpB w h H) (ho:H.over=true) (hv:H.ev=.nilIface∨∃ t u,H.ev=.iface t u):Calls Tryz.prog 24 #[.pointer (some ⟨h,0,none⟩)] w fun e w'=>e=.returned (.tuple #[.bool H.done,H.ev])∧Fr none_ w w':=by
  have c19:w.cell? ⟨h,19,none⟩=some (.bool true):=by rw [← ho];exact hb.cell' rfl
  have c20:w.cell? ⟨h,20,none⟩=some (.bool H.done):=hb.cell' rfl
  have c21:w.cell? ⟨h,21,none⟩=some H.ev:=hb.cell' rfl
  clear hb
  go_enter Tryz.func24,Tryz.ntmps24
  rcases hv with hv | ⟨t,u,hv⟩
  · rw [hv] at c21 ⊢
    go_wp2_with fail
    go_quiet (fail)
    go_wp2_with fail
    go_ret2
    exact ⟨rfl,(Fr.refl none_ w).drewN _⟩
  · rw [hv] at c21 ⊢
    go_wp2_with fail
    go_quiet (fail)
    go_wp2_with fail
    go_ret2
    exact ⟨rfl,(Fr.refl none_ w).drewN _⟩
def BegPost13 (n hs hg hp hl:Int) (hk:ByteArray) (w:World) (e:Ending) (w':World):Prop:=
  ∃ h g,e=.returned (.pointer (some ⟨h,0,none⟩))∧w.heap.size≤h∧HpB w' h ⟨n,hs,hg,hp,hl,hk,hl,.pointer (some ⟨g,0,none⟩),.pointer none,goingF h,.nilFunc,Lw.zero,.slice none 0 0,0,0,false,false,.nilIface⟩∧Ldr w.heap.size w' g (LdS.new hp)∧h≠g∧Fr none_ w w'
theorem mbegin_ok (n hs hg hp hl:Int) (hk:ByteArray) (w:World):Calls Tryz.prog 17 #[.int .i64 n,.agg #[.int .i64 hs,.int .i64 hg],.agg #[.int .i64 hp,.int .i64 hl,.string hk]] w (BegPost13 n hs hg hp hl hk w):=by
  go_enter Tryz.func17,Tryz.ntmps17
  go_upto_region 1 with fail
  obtain ⟨w0,hw0⟩:∃ z,z=(w.alloc (.cells #[.int .i64 hs,.int .i64 hg] 36)).alloc (.cells #[.int .i64 hp,.int .i64 hl,.string hk] 38):=⟨_,rfl⟩
  have f0:Fr none_ w w0:=by rw [hw0];exact ((Fr.refl none_ w).alloc _).alloc _
  have B0:Blk w0 w.heap.size 36 #[.int .i64 hs,.int .i64 hg]:=by rw [hw0];exact (Blk.new w _ _).alloc _
  have B1:Blk w0 (w.heap.size+1) 38 #[.int .i64 hp,.int .i64 hl,.string hk]:=by rw [hw0];exact Blk.new7 _ _ (by simp)
  have F0:=hid_ f0
  have hs0:=f0.size
  have a0:w0.cell? ⟨w.heap.size,0,none⟩=some (.int .i64 hs):=B0.cell' rfl
  have a1:w0.cell? ⟨w.heap.size,1,none⟩=some (.int .i64 hg):=B0.cell' rfl
  have b0:w0.cell? ⟨w.heap.size+1,0,none⟩=some (.int .i64 hp):=B1.cell' rfl
  have b1:w0.cell? ⟨w.heap.size+1,1,none⟩=some (.int .i64 hl):=B1.cell' rfl
  have b2:w0.cell? ⟨w.heap.size+1,2,none⟩=some (.string hk):=B1.cell' rfl
  change Code.wp _ _ _ _ ((w.alloc (.cells #[.int .i64 hs,.int .i64 hg] 36)).alloc (.cells #[.int .i64 hp,.int .i64 hl,.string hk] 38))
  rw [← hw0]
  clear hw0 f0 B0 B1
  go_upto_region 2 with fail
  obtain ⟨w1,hw1⟩:∃ z,z=w0.alloc (.cells (hmA ⟨n,hs,hg,hp,hl,hk,hl,.pointer none,.pointer none,.nilFunc,.nilFunc,Lw.zero,.slice none 0 0,0,0,false,false,.nilIface⟩) 103):=⟨_,rfl⟩
  have f1:Fr none_ w0 w1:=by rw [hw1];exact (Fr.refl none_ w0).alloc _
  have HB:=hid_ (show HpB w1 w0.heap.size ⟨n,hs,hg,hp,hl,hk,hl,.pointer none,.pointer none,.nilFunc,.nilFunc,Lw.zero,.slice none 0 0,0,0,false,false,.nilIface⟩ by rw [hw1];exact Blk.new w0 _ _)
  have F1:=hid_ (F0.out.then_none f1)
  have hs1:=f1.size
  change Code.wp _ _ _ _ (w0.alloc (.cells (hmA ⟨n,hs,hg,hp,hl,hk,hl,.pointer none,.pointer none,.nilFunc,.nilFunc,Lw.zero,.slice none 0 0,0,0,false,false,.nilIface⟩) 103))
  rw [← hw1]
  clear hw1 f1 a0 a1 b0 b1 b2
  go_wp2_with fail
  refine (mfirst_ok HB.out).mono ?_
  rintro e w2 ⟨g,rfl,h1,h2,h3⟩
  have HX:=hid_ (And.intro h1 (And.intro h2 h3))
  clear h1 h2 h3
  go_wp2_with fail
  go_ret
  have hl1:=HB.out.lt
  exact ⟨w0.heap.size,g,rfl,by omega,HX.out.1,HX.out.2.1.base (by omega),by have:=HX.out.2.1.lb;omega,F1.out.then_only HX.out.2.2 (.inr (by omega))⟩
open Go.RowKit Go.BigFrame

section
variable {P:Program} {md:Region.Mode} {ops:Array Oper} {Q:Exit→Act→World→Prop} {S:World→Prop} {m fuel:Nat} {listed:Array Bool} {a:Act} {w:World} {oi:Oper}
theorem u_callN (i:Nat) (d:Option Tmp) (f:FuncId) (vs:Array Value) (F:Value→World→Prop) (hi:ops[i]?=some oi) (hd:oi.dst=d) (hw:Region.wanted oi (yielded ops a.tmps)=true) (hr:Region.ready md ops listed=[i])
    (hx:(execOp a.eval oi).run P w=.ok (.enter f vs) w) (hm:m≤i) (hc:Calls P f vs w (fun e w'=>∃ v,e=.returned v∧F v w'))
    (h:∀ v w',F v w'→UwA P md ops Q S m fuel (listed.setIfInBounds i true) (a.put d v) w'):UwA P md ops Q S m (fuel+1) listed a w:=by
  subst hd
  refine u_one i hi hw hr ?_
  unfold Oper.wp
  rw [hx,Oper.upon_enter]
  refine hc.mono ?_
  rintro e w' ⟨v,rfl,hF⟩
  exact ⟨.inl hm,h v w' hF⟩
end
theorem Inst.base {w:World} {B B' i:Nat} {D:Dt} {a:Ia} (h:Inst w B i D a) (hb:B'≤B):Inst w B' i D a:=
  ⟨h.b,own_base h.p hb,own_base h.bs hb,h.cs,h.bo,own_base h.r hb,h.h,h.e,Nat.le_trans hb h.le,h.zb,h.zh,h.zp⟩
abbrev hang (R:Rc) (s g:Int):Rc:={ R with nslot:=s,ngen:=g }
theorem RecOwn.hang {w:World} {b:Nat} {R:Rc} {vr ve:Value} (h:RecOwn w b R vr ve) (s g:Int):RecOwn w b (hang R s g) vr ve:=⟨h.r,h.e⟩
theorem Blk.all13 {w:World} {g:Nat} {t:TypeId} {cs:Array Value} (h:Blk w g t cs):w.rangeAt g 0 cs.toList:=fun j v hv=>by
  rw [Nat.zero_add]
  exact h.cell' (by simpa using hv)
set_option maxHeartbeats 4000000 in
theorem putc_ok {w:World} {bc:Nat} {R:Rc} {A E:Option Addr} {c d:Nat} (u:Value) (h:Blk w bc 51 (recA R (.slice A R.rows.length c) (.slice E R.ents.length d))) (ho:RecOwn w 0 R (.slice A R.rows.length c) (.slice E R.ents.length d)):Calls Tryz.prog 108 #[u,.pointer (some ⟨bc,0,none⟩)] w fun e w2=>∃ Ar cr Ae ce,e=.returned (.tuple #[.slice none 0 0,recV R (.slice Ar R.rows.length cr) (.slice Ae R.ents.length ce)])∧RecOwn w2 0 R (.slice Ar R.rows.length cr) (.slice Ae R.ents.length ce)∧Fr none_ w w2:=by
 have HB:=hid_ (h.alloc (.cells recZ 51))
 have BZ:=hid_ (Blk.new w 51 recZ)
 have hb:=h.lt
 obtain ⟨w0,hw0⟩:∃ z,z=w.alloc (.cells recZ 51):=⟨_,rfl⟩
 have f0:Fr none_ w w0:=by rw [hw0];exact (Fr.refl none_ w).alloc _
 rw [← hw0] at HB BZ
 have RO:=hid_ (ho.keep f0)
 clear h ho
 go_enter Tryz.func108,Tryz.ntmps108
 go_upto_region 1 with fail
 change Code.wp _ _ _ _ (w.alloc (.cells recZ 51))
 rw [← hw0]
 clear hw0
 have hS0:(fun w':World=>Fr (only w.heap.size) w0 w') w0.drew:=(Fr.refl _ w0).drew
 have hne:¬ only w.heap.size bc:=only_ne (by omega)
 refine wp_region_U (m:=2) (S:=fun w':World=>Fr (only w.heap.size) w0 w') (by kernel_rfl) ?_
 refine wpAnyU_take2 (i:=0) (v:=_) rfl (by kernel_rfl) (by kernel_rfl) (by kernel_rfl) (by kernel_rfl) (fun _ _ _ h=>h) (yieldsIf_load_mid (by kernel_rfl) 51 (.tmp 1) rfl bc 0 rfl (recA R (.slice A R.rows.length c) (.slice E R.ents.length d)).toList _ (fun w' hS=>(HB.out.fr hS hne).all13) Tryz.underlying51 rfl rec_size) hS0 ?_
 refine wpAnyU_take2 (i:=1) (v:=_) rfl (by kernel_rfl) (by kernel_rfl) (by kernel_rfl) (by kernel_rfl) (fun _ _ _ h=>h) (.inl ⟨by kernel_rfl,fun w' hS=>by go_simp;rfl⟩) hS0 ?_
 refine wpAnyU_oneW (i:=2) rfl (by kernel_rfl) (by kernel_rfl) ?_
 refine wp_store_mid 51 (.tmp 4) (.tmp 5) rfl w.heap.size 0 (recA R (.slice A R.rows.length c) (.slice E R.ents.length d)) rfl rfl (BZ.out.drew.there9 rfl) rec_size (by simp [Value.oneCell']) ?_
 obtain ⟨w5,hw5⟩:∃ z,z=w0.drew.setCells w.heap.size 0 (recA R (.slice A R.rows.length c) (.slice E R.ents.length d)).toList:=⟨_,rfl⟩
 have ov:=BZ.out.drew.over9 (recA R (.slice A R.rows.length c) (.slice E R.ents.length d)).toList rfl
 rw [← hw5] at ov
 have Q5:=hid_ (show Blk w5 w.heap.size 51 (recA R (.slice A R.rows.length c) (.slice E R.ents.length d)) from ov.1)
 have F5:=hid_ (f0.drew.then_only ov.2 (.inr (Nat.le_refl _)))
 have RO5:=hid_ ((RO.out.keep (Fr.refl none_ w0).drew).only ov.2 BZ.out.drew (by decide) (by decide))
 refine ⟨.inl (by decide),?_⟩
 change wpAnyU _ _ _ _ _ _ _ _ _ (w0.drew.setCells w.heap.size 0 (recA R (.slice A R.rows.length c) (.slice E R.ents.length d)).toList)
 rw [← hw5]
 clear hw5 ov hS0
 refine wpAnyU_done (by kernel_rfl) ?_ _
 go_wp2_with fail
 have q0:=Q5.out.cell' (i:=0) rfl
 have q1:=Q5.out.cell' (i:=1) rfl
 have q2:=Q5.out.cell' (i:=2) rfl
 have q3:=Q5.out.cell' (i:=3) rfl
 have q4:=Q5.out.cell' (i:=4) rfl
 have q5:=Q5.out.cell' (i:=5) rfl
 have q6:=Q5.out.cell' (i:=6) rfl
 have q7:=Q5.out.cell' (i:=7) rfl
 have q8:=Q5.out.cell' (i:=8) rfl
 have q9:=Q5.out.cell' (i:=9) rfl
 have q10:=Q5.out.cell' (i:=10) rfl
 have q11:=Q5.out.cell' (i:=11) rfl
 have q12:=Q5.out.cell' (i:=12) rfl
 have q13:=Q5.out.cell' (i:=13) rfl
 have q14:=Q5.out.cell' (i:=14) rfl
 refine bodyPost_ret (v:=.tuple #[.slice none 0 0,recV R (.slice A R.rows.length c) (.slice E R.ents.length d)]) ?_ rfl ⟨A,c,E,d,rfl,RO5.out,F5.out⟩
 simp [results,Tryz.results108,go_sem,q0,q1,q2,q3,q4,q5,q6,q7,q8,q9,q10,q11,q12,q13,q14]
def PutPost13 (h:Nat) (H:Hm) (n s g:Int) (R:Rc) (f:Value) (w:World) (e:Ending) (w':World):Prop:=
  ∃ i mv vr ve,e=.returned (.bool false)∧HpB w' h { H with lv:=.pointer none,jv:=.pointer (some ⟨i,0,none⟩),fv:=f }∧Inst w' w.heap.size i (dt0 n s g 0 3 (hang R s g) 0) (ia0 mv vr ve .nilIface)∧Fr (only h) w w'
set_option maxHeartbeats 8000000 in
theorem mput_ok {w:World} {h:Nat} {H:Hm} (n s g:Int) (R:Rc) (A:Option Addr) (c:Nat) (E:Option Addr) (d:Nat) (fn:Fn) (xs cs:Array Value) (hb:HpB w h H) (ho:RecOwn w 0 R (.slice A R.rows.length c) (.slice E R.ents.length d)) (hz:RowsOk R) :
  Calls Tryz.prog 96 #[.pointer (some ⟨h,0,none⟩),.int .i64 n,.agg #[.int .i64 s,.int .i64 g],recV R (.slice A R.rows.length c) (.slice E R.ents.length d),.func fn xs cs] w (PutPost13 h H n s g R (.func fn xs cs) w):=by
 have hmf:∀ (fn:Fn) (first cap:Array Value) (w:World),(Instr.makeFunc fn first cap).run Tryz.prog w=.ok (.func fn first cap) w:=fun _ _ _ _=>rfl
 obtain ⟨w0,hw0⟩:∃ z,z=(w.alloc (.cells #[.int .i64 s,.int .i64 g] 36)).alloc (.cells (recA R (.slice A R.rows.length c) (.slice E R.ents.length d)) 51):=⟨_,rfl⟩
 have f0:Fr none_ w w0:=by rw [hw0];exact ((Fr.refl none_ w).alloc _).alloc _
 have BX:=hid_ (show Blk w0 w.heap.size 36 #[.int .i64 s,.int .i64 g] by rw [hw0];exact (Blk.new w _ _).alloc _)
 have BR:=hid_ (show Blk w0 (w.heap.size+1) 51 (recA R (.slice A R.rows.length c) (.slice E R.ents.length d)) by rw [hw0];exact Blk.new7 _ _ (by simp))
 have HB:=hid_ (hb.fr f0 id)
 have RO:=hid_ (ho.keep f0)
 have HZ:=hid_ hz
 have F0:=hid_ f0
 have hlt:=hb.lt
 have hs0:=BR.out.lt
 clear hb ho hz f0
 go_enter Tryz.func96,Tryz.ntmps96
 go_upto_region 1 with fail
 change Code.wp _ _ _ _ ((w.alloc (.cells #[.int .i64 s,.int .i64 g] 36)).alloc (.cells (recA R (.slice A R.rows.length c) (.slice E R.ents.length d)) 51))
 rw [← hw0]
 clear hw0
 have x0:w0.cell? ⟨w.heap.size,0,none⟩=some (.int .i64 s):=BX.out.cell' rfl
 have x1:w0.cell? ⟨w.heap.size,1,none⟩=some (.int .i64 g):=BX.out.cell' rfl
 have z13:w0.cell? ⟨w.heap.size+1,13,none⟩=some (.int .i64 R.nslot):=BR.out.cell' rfl
 have z14:w0.cell? ⟨w.heap.size+1,14,none⟩=some (.int .i64 R.ngen):=BR.out.cell' rfl
 have y13:=BR.out.frozen 13
 have y14:=BR.out.frozen 14
 go_upto_region 2 with fail
 obtain ⟨w1,hw1⟩:∃ z,z=(w0.setCell ⟨w.heap.size+1,13,none⟩ (.int .i64 s)).setCell ⟨w.heap.size+1,14,none⟩ (.int .i64 g):=⟨_,rfl⟩
 have f1:Fr (only (w.heap.size+1)) w0 w1:=by rw [hw1];exact frO13 (o:=14) (Fr.only1 w0 ⟨w.heap.size+1,13,none⟩ (.int .i64 s)) (.int .i64 g)
 have BR1:=hid_ (show Blk w1 (w.heap.size+1) 51 (recA (hang R s g) (.slice A R.rows.length c) (.slice E R.ents.length d)) by rw [hw1];exact (BR.out.set_ 13 (.int .i64 s)).set_ 14 (.int .i64 g))
 change Code.wp _ _ _ _ ((w0.setCell ⟨w.heap.size+1,13,none⟩ (.int .i64 s)).setCell ⟨w.heap.size+1,14,none⟩ (.int .i64 g))
 rw [← hw1]
 clear hw1 x0 x1 z13 z14 y13 y14
 have BX1:=hid_ (BX.out.fr f1 (only_ne (by omega)))
 have HB1:=hid_ (HB.out.fr f1 (only_ne (by omega)))
 have RO1:=hid_ ((RO.out.only f1 BR.out (by decide) (by decide)).hang s g)
 have F1:=hid_ (F0.out.then_only f1 (.inr (by omega)))
 clear f1 BX BR HB RO F0
 have x0:w1.cell? ⟨w.heap.size,0,none⟩=some (.int .i64 s):=BX1.out.cell' rfl
 have x1:w1.cell? ⟨w.heap.size,1,none⟩=some (.int .i64 g):=BX1.out.cell' rfl
 go_wp2_with fail
 refine (beginP n s g (w.heap.size+1) (hang R s g) HZ.out (fun w2 u hf=>putc_ok (R:=hang R s g) u (BR1.out.fr hf id) (RO1.out.keep hf))).mono ?_
 rintro e w2 ⟨i,vr,ve,rfl,hI,hf⟩
 have HB2:=hid_ (HB1.out.fr hf id)
 have hsz:=F1.out.size
 have I2:=hid_ (hI.base hsz)
 have F2:=hid_ (F1.out.then_none hf)
 clear hI hf x0 x1 BX1 HB1 RO1 BR1 F1
 have c7:w2.cell? ⟨h,7,none⟩=some H.lv:=HB2.out.cell' rfl
 have c8:w2.cell? ⟨h,8,none⟩=some H.jv:=HB2.out.cell' rfl
 have y7:=HB2.out.frozen 7
 have y8:=HB2.out.frozen 8
 have B3:=hid_ ((HB2.out.set_ 8 (.pointer (some ⟨i,0,none⟩))).set_ 7 (.pointer none))
 go_wp2_with (refine wpList_store_one rfl 100 (.tmp 27) (.tmp 23) rfl h 10 (.func fn xs cs) rfl rfl (B3.out.one13 (by simp)) fn_size.2 rfl rfl ?_)
 have B4:=B3.out.set_ 10 (.func fn xs cs)
 have F4:Fr (only h) w2 _:=frO13 (o:=10) (frO13 (o:=7) (Fr.only1 w2 ⟨h,8,none⟩ (.pointer (some ⟨i,0,none⟩))) (.pointer none)) (.func fn xs cs)
 go_ret
 exact ⟨i,_,vr,ve,rfl,B4,I2.out.beside F4 HB2.out (by decide) (fun e=>absurd e (by decide)),(F2.out.mono (fun _ _ e=>e.elim)).then_only F4 (.inl rfl)⟩
theorem ref_range13 {w:World} {h:Nat} {H:Hm} (hb:HpB w h H):w.rangeAt h 1 [.int .i64 H.hs,.int .i64 H.hg]:=fun j v hv=>by
  match j,hv with
  | 0,hv=>have e:some _=some v:=hv;rw [← e];exact hb.cell' rfl
  | 1,hv=>have e:some _=some v:=hv;rw [← e];exact hb.cell' rfl
  | k+2,hv=>simp at hv
abbrev kindC (k:Int):Rc:={ Rc.zero with kind:=k }
abbrev thirdF (bx:Nat):Value:=.func (.func 125) #[] #[.pointer (some ⟨bx,0,none⟩)]
set_option maxHeartbeats 8000000 in
theorem mthird_ok {w:World} {h:Nat} {H:Hm} (hb:HpB w h H):Calls Tryz.prog 112 #[.pointer (some ⟨h,0,none⟩)] w fun e w'=>∃ bx,PutPost13 h H H.n H.hs H.hg (kindC 11) (thirdF bx) w e w'∧Blk w' bx 41 #[.pointer (some ⟨h,0,none⟩)]:=by
 obtain ⟨w0,hw0⟩:∃ z,z=w.alloc (.cells #[.pointer (some ⟨h,0,none⟩)] 41):=⟨_,rfl⟩
 have f0:Fr none_ w w0:=by rw [hw0];exact (Fr.refl none_ w).alloc _
 have BX:=hid_ (show Blk w0 w.heap.size 41 #[.pointer (some ⟨h,0,none⟩)] by rw [hw0];exact Blk.new w _ _)
 have HB:=hid_ (hb.fr f0 id)
 have F0:=hid_ f0
 have hlt:=hb.lt
 clear hb f0
 go_enter Tryz.func112,Tryz.ntmps112
 go_upto_region 1 with fail
 change Code.wp _ _ _ _ (w.alloc (.cells #[.pointer (some ⟨h,0,none⟩)] 41))
 rw [← hw0]
 clear hw0
 have hS0:(fun w':World=>HpB w' h H∧Blk w' w.heap.size 41 #[.pointer (some ⟨h,0,none⟩)]) w0.drew:=⟨HB.out.drew,BX.out.drew⟩
 refine wp_region_u 11 (fun w':World=>HpB w' h H∧Blk w' w.heap.size 41 #[.pointer (some ⟨h,0,none⟩)]) (by kernel_rfl) ?_
 refine u_take 0 (some 3) (.pointer (some ⟨h,0,none⟩)) rfl rfl (by kernel_rfl) (by kernel_rfl) (by kernel_rfl) (by kernel_rfl) (fun _ _ _ h=>h) (y_cell 41 (.tmp 1) ⟨w.heap.size,0,none⟩ _ (by kernel_rfl) rfl (by kernel_rfl) (fun w' hS=>hS.2.cell' rfl) Tryz.underlying41 rfl) hS0 ?_
 go_frame
 refine u_take 1 (some 4) (.pointer (some ⟨h,0,none⟩)) rfl rfl (by kernel_rfl) (by kernel_rfl) (by kernel_rfl) (by kernel_rfl) (fun _ _ _ h=>h) (y_cell 41 (.tmp 1) ⟨w.heap.size,0,none⟩ _ (by kernel_rfl) rfl (by kernel_rfl) (fun w' hS=>hS.2.cell' rfl) Tryz.underlying41 rfl) hS0 ?_
 go_frame
 refine u_take 2 (some 5) (.pointer (some ⟨h,0,none⟩)) rfl rfl (by kernel_rfl) (by kernel_rfl) (by kernel_rfl) (by kernel_rfl) (fun _ _ _ h=>h) (y_val (by kernel_rfl) (fun w' hS=>by kernel_rfl)) hS0 ?_
 go_frame
 refine u_take 3 (some 6) (.pointer (some ⟨h,0,none⟩)) rfl rfl (by kernel_rfl) (by kernel_rfl) (by kernel_rfl) (by kernel_rfl) (fun _ _ _ h=>h) (y_val (by kernel_rfl) (fun w' hS=>by kernel_rfl)) hS0 ?_
 go_frame
 refine u_take 4 (some 7) (.int .i64 H.n) rfl rfl (by kernel_rfl) (by kernel_rfl) (by kernel_rfl) (by kernel_rfl) (fun _ _ _ h=>h) (y_cell 3 (.tmp 6) ⟨h,0,none⟩ _ (by kernel_rfl) rfl (by kernel_rfl) (fun w' hS=>hS.1.cell' rfl) Tryz.underlying3 rfl) hS0 ?_
 go_frame
 refine u_take 5 (some 8) (.pointer (some ⟨h,0,none⟩)) rfl rfl (by kernel_rfl) (by kernel_rfl) (by kernel_rfl) (by kernel_rfl) (fun _ _ _ h=>h) (y_cell 41 (.tmp 1) ⟨w.heap.size,0,none⟩ _ (by kernel_rfl) rfl (by kernel_rfl) (fun w' hS=>hS.2.cell' rfl) Tryz.underlying41 rfl) hS0 ?_
 go_frame
 refine u_take 6 (some 9) (.pointer (some ⟨h,0,none⟩)) rfl rfl (by kernel_rfl) (by kernel_rfl) (by kernel_rfl) (by kernel_rfl) (fun _ _ _ h=>h) (y_val (by kernel_rfl) (fun w' hS=>by kernel_rfl)) hS0 ?_
 go_frame
 refine u_take 7 (some 10) (.pointer (some ⟨h,1,none⟩)) rfl rfl (by kernel_rfl) (by kernel_rfl) (by kernel_rfl) (by kernel_rfl) (fun _ _ _ h=>h) (y_val (by kernel_rfl) (fun w' hS=>by kernel_rfl)) hS0 ?_
 go_frame
 refine u_take 8 (some 11) (.agg #[.int .i64 H.hs,.int .i64 H.hg]) rfl rfl (by kernel_rfl) (by kernel_rfl) (by kernel_rfl) (by kernel_rfl) (fun _ _ _ h=>h) (yieldsIf_load_mid (by kernel_rfl) 36 (.tmp 10) rfl h 1 (by kernel_rfl) [.int .i64 H.hs,.int .i64 H.hg] _ (fun w' hS=>ref_range13 hS.1) Tryz.underlying36 rfl ref_size9) hS0 ?_
 go_frame
 refine u_take 9 (some 12) (recV (kindC 11) (.slice none 0 0) (.slice none 0 0)) rfl rfl (by kernel_rfl) (by kernel_rfl) (by kernel_rfl) (by kernel_rfl) (fun _ _ _ h=>h) (y_val (by kernel_rfl) (fun w' hS=>by kernel_rfl)) hS0 ?_
 go_frame
 refine u_take 10 (some 13) (thirdF w.heap.size) rfl rfl (by kernel_rfl) (by kernel_rfl) (by kernel_rfl) (by kernel_rfl) (fun _ _ _ h=>h) (y_val (by kernel_rfl) (fun w' hS=>by kernel_rfl)) hS0 ?_
 go_frame
 clear hS0
 refine u_callN 11 (some 14) 96 #[.pointer (some ⟨h,0,none⟩),.int .i64 H.n,.agg #[.int .i64 H.hs,.int .i64 H.hg],recV (kindC 11) (.slice none 0 0) (.slice none 0 0),thirdF w.heap.size] (fun v w'=>v=.bool false∧PutPost13 h H H.n H.hs H.hg (kindC 11) (thirdF w.heap.size) w0.drew (.returned (.bool false)) w') rfl rfl (by kernel_rfl) (by kernel_rfl) (by kernel_rfl) (by decide) ((mput_ok H.n H.hs H.hg (kindC 11) none 0 none 0 (.func 125) #[] #[.pointer (some ⟨w.heap.size,0,none⟩)] HB.out.drew ⟨World.ownsRow_nil _ _ _ _,World.ownsRow_nil _ _ _ _⟩ ⟨Nat.zero_le _,Nat.zero_le _⟩).mono (fun e w' hh=>?_)) ?_
 ·obtain ⟨i,mv,vr,ve,rfl,h1,h2,h3⟩:=hh
  exact ⟨_,rfl,rfl,i,mv,vr,ve,rfl,h1,h2,h3⟩
 rintro v w5 ⟨rfl,i,mv,vr,ve,-,h1,h2,h3⟩
 have HX:=hid_ (And.intro h1 (And.intro h2 h3))
 have BX5:=hid_ (BX.out.drew.fr h3 (only_ne (by omega)))
 clear h1 h2 h3
 go_frame
 refine u_run 12 (some 2) (.bool false) w5 rfl rfl (by kernel_rfl) (by kernel_rfl) (by kernel_rfl) (.inl (by decide)) ?_
 go_frame
 refine u_done (by kernel_rfl) ?_
 go_wp2_with fail
 go_ret
 have hsz:=F0.out.size
 exact ⟨w.heap.size,⟨i,mv,vr,ve,rfl,HX.out.1,HX.out.2.1.base (by simpa using hsz),((F0.out.drew).mono (fun _ _ e=>e.elim)).then_only HX.out.2.2 (.inl rfl)⟩,BX5.out⟩
open Go.RowKit Go.BigFrame

structure Pz where
  n:Int
  hs:Int
  hg:Int
  C:Option Addr
  nc:Nat
  x:Nat
  vr:Value
  leaf:Bool
  lv:Lw
  A:Option Addr
  c:Nat
  iv:Vw
  B:Option Addr
  d:Nat
abbrev pzA (P:Pz):Array Value:=pgA P.n P.hs P.hg (.slice P.C P.nc P.x) P.vr P.leaf P.lv (.slice P.A P.lv.rows.length P.c) P.iv (.slice P.B P.iv.ents.length P.d)
def Pz.low (P:Pz):ByteArray:=if P.leaf then P.lv.low else P.iv.low
def Pz.high (P:Pz):ByteArray:=if P.leaf then P.lv.high else P.iv.high
def Pz.unb (P:Pz):Bool:=if P.leaf then P.lv.unb else P.iv.unb
def Pz.right (P:Pz):Int:=if P.leaf then P.lv.right else P.iv.right
def Pz.size (P:Pz):Nat:=P.lv.rows.length+P.iv.ents.length
theorem results_tmp4 {fn:Func} {t u v x:Tmp} (h:fn.results=#[.tmp t,.tmp u,.tmp v,.tmp x]) (tmps:Array Value) (P:Program) (w:World) :
    (results fn tmps).run P w=.ok (.tuple #[tmps.getD t undef,tmps.getD u undef,tmps.getD v undef,tmps.getD x undef]) w:=by
  simp [results,h]
abbrev RetQ (v:Value) (w:World) (e:Ending) (w':World):Prop:=e=.returned v∧Fr none_ w w'
set_option maxHeartbeats 4000000 in
theorem bounds_ok (P:Pz) (w:World):Calls Tryz.prog 123 #[.agg (pzA P)] w (RetQ (.tuple #[.string P.low,.string P.high,.bool P.unb,.int .i64 P.right]) w):=by
  obtain ⟨w0,hw0⟩:∃ z,z=w.alloc (.cells (pzA P) 140):=⟨_,rfl⟩
  have f0:Fr none_ w w0:=by rw [hw0];exact (Fr.refl none_ w).alloc _
  have B0:Hid (Blk w0 w.heap.size 140 (pzA P)):=hid_ (by rw [hw0];exact Blk.new w _ _)
  have F0:=hid_ f0
  clear f0
  go_enter Tryz.func123,Tryz.ntmps123
  go_upto_region 1 with fail
  change Code.wp _ _ _ _ (w.alloc (.cells (pzA P) 140))
  rw [← hw0]
  clear hw0
  have p5:w0.cell? ⟨w.heap.size,5,none⟩=some (.bool P.leaf):=B0.out.cell' rfl
  have p6:w0.cell? ⟨w.heap.size,6,none⟩=some (.string P.lv.low):=B0.out.cell' rfl
  have p7:w0.cell? ⟨w.heap.size,7,none⟩=some (.string P.lv.high):=B0.out.cell' rfl
  have p8:w0.cell? ⟨w.heap.size,8,none⟩=some (.bool P.lv.unb):=B0.out.cell' rfl
  have p9:w0.cell? ⟨w.heap.size,9,none⟩=some (.int .i64 P.lv.right):=B0.out.cell' rfl
  have p12:w0.cell? ⟨w.heap.size,12,none⟩=some (.string P.iv.low):=B0.out.cell' rfl
  have p13:w0.cell? ⟨w.heap.size,13,none⟩=some (.string P.iv.high):=B0.out.cell' rfl
  have p14:w0.cell? ⟨w.heap.size,14,none⟩=some (.bool P.iv.unb):=B0.out.cell' rfl
  have p15:w0.cell? ⟨w.heap.size,15,none⟩=some (.int .i64 P.iv.right):=B0.out.cell' rfl
  cases hl:P.leaf with
  | true =>
    rw [hl] at p5
    have HL:=hid_ hl
    clear hl
    go_wp2_with fail
    go_quiet (fail)
    go_wp2
    (try simp only [Exit.inBlock,Exit.then])
    refine bodyPost_ret (results_tmp4 rfl _ _ _) rfl ?_
    exact ⟨by simp [Pz.low,Pz.high,Pz.unb,Pz.right,HL.out],by repeat (first | exact F0.out | apply Fr.drewN | apply Fr.drew)⟩
  | false =>
    rw [hl] at p5
    have HL:=hid_ hl
    clear hl
    go_wp2_with fail
    go_quiet (fail)
    go_wp2
    (try simp only [Exit.inBlock,Exit.then])
    refine bodyPost_ret (results_tmp4 rfl _ _ _) rfl ?_
    exact ⟨by simp [Pz.low,Pz.high,Pz.unb,Pz.right,HL.out],by repeat (first | exact F0.out | apply Fr.drewN | apply Fr.drew)⟩
set_option maxHeartbeats 4000000 in
theorem phas_ok (P:Pz) (key:ByteArray) (w:World) (h1:SzOk P.low) (h2:SzOk P.high) (h3:SzOk key):Calls Tryz.prog 111 #[.agg (pzA P),.string key] w (RetQ (.bool (inS P.low P.high P.unb key)) w):=by
  obtain ⟨w0,hw0⟩:∃ z,z=w.alloc (.cells (pzA P) 140):=⟨_,rfl⟩
  have f0:Fr none_ w w0:=by rw [hw0];exact (Fr.refl none_ w).alloc _
  have B0:Hid (Blk w0 w.heap.size 140 (pzA P)):=hid_ (by rw [hw0];exact Blk.new w _ _)
  have F0:=hid_ f0
  have HS:=hid_ (And.intro h1 (And.intro h2 h3))
  clear f0 h1 h2 h3
  go_enter Tryz.func111,Tryz.ntmps111
  go_upto_region 1 with fail
  change Code.wp _ _ _ _ (w.alloc (.cells (pzA P) 140))
  rw [← hw0]
  clear hw0
  go_wp2_with (refine wpList_load_mid rfl 140 (.tmp 2) rfl w.heap.size 0 rfl (pzA P).toList _ (Blk.range7 (l:=(pzA P).toList) B0.out) Tryz.underlying140 rfl page_size ?_)
  refine (bounds_ok P w0).mono ?_
  rintro e w1 ⟨rfl,hf⟩
  replace F0:=hid_ (F0.out.then_none hf)
  clear hf
  go_wp2_with fail
  refine (in_ok P.low P.high P.unb key _ HS.out.1.le HS.out.2.1.le HS.out.2.2.le).mono ?_
  rintro e w2 ⟨rfl,q,rfl⟩
  go_wp2
  go_ret
  exact ⟨rfl,F0.out.drewN q⟩
open Go.RowKit Go.BigFrame

theorem Blk.range13 {w:World} {g o:Nat} {t:TypeId} {cs:Array Value} {l:List Value} (h:Blk w g t cs) (hl:∀ (j:Nat) (v:Value),l[j]?=some v→cs[o+j]?=some v):w.rangeAt g o l:=fun j v hv=>h.cell' (hl j v hv)
theorem Blk.put13 {w w':World} {g o:Nat} {t:TypeId} {cs cs':Array Value} {vs:List Value} (h:Blk w g t cs) (hw:w'=w.setCells g o vs) (he:setA cs o vs=cs'):Blk w' g t cs'∧Fr (only g) w w':=by
  subst hw
  subst he
  exact ⟨Blk.setCells vs o _ _ h,Fr.setCells _ _ _ (Fr.refl _ _) (.inl rfl)⟩
theorem lv_size13:(Tryz.prog.info? 101).map (·.size)=some 6:=by kernel_rfl
def mergeR (V:Lw):Rc:={ Rc.zero with kind:=6,key:=V.low,high:=V.high,unb:=V.unb,right:=V.right,rows:=V.rows }
set_option maxHeartbeats 8000000 in
theorem leafMerge_ok {w:World} (b0:Nat) (V:Lw) (A:Option Addr) (c:Nat) (hg:V.gone=true) (hv:LwIn b0 w V A c):Calls Tryz.prog 113 #[lwV V (.slice A V.rows.length c)] w fun e w'=>∃ A' c',e=.returned (.tuple #[recV (mergeR V) (.slice A' V.rows.length c') (.slice none 0 0),.nilIface])∧RecOwn w' 0 (mergeR V) (.slice A' V.rows.length c') (.slice none 0 0)∧Fr none_ w w':=by
 obtain ⟨w0,hw0⟩:∃ z,z=(w.alloc (.cells (lwA V (.slice A V.rows.length c)) 101)).alloc (.cells recZ 51):=⟨_,rfl⟩
 have f0:Fr none_ w w0:=by rw [hw0];exact ((Fr.refl none_ w).alloc _).alloc _
 have BV:=hid_ (show Blk w0 w.heap.size 101 (lwA V (.slice A V.rows.length c)) by rw [hw0];exact (Blk.new w _ _).alloc _)
 have BZ:=hid_ (show Blk w0 (w.heap.size+1) 51 recZ by rw [hw0];exact Blk.new7 _ _ (by simp))
 have HV:=hid_ (hv.keep f0)
 have F0:=hid_ f0
 have hs0:=BZ.out.lt
 have v5:w0.cell? ⟨w.heap.size,5,none⟩=some (.bool true):=by rw [← hg];exact BV.out.cell' rfl
 clear hv f0 hg
 go_enter Tryz.func113,Tryz.ntmps113
 go_upto_region 1 with fail
 change Code.wp _ _ _ _ ((w.alloc (.cells (lwA V (.slice A V.rows.length c)) 101)).alloc (.cells recZ 51))
 rw [← hw0]
 clear hw0
 go_wp2_with fail
 have hS0:(fun w':World=>Blk w' w.heap.size 101 (lwA V (.slice A V.rows.length c))) w0.drew:=BV.out.drew
 refine wp_region_u 14 (fun w':World=>Blk w' w.heap.size 101 (lwA V (.slice A V.rows.length c))) (by kernel_rfl) ?_
 refine u_take 0 (some 9) (.pointer (some ⟨w.heap.size,0,none⟩)) rfl rfl (by kernel_rfl) (by kernel_rfl) (by kernel_rfl) (by kernel_rfl) (fun _ _ _ h=>h) (y_val (by kernel_rfl) (fun w' hS=>by kernel_rfl)) hS0 ?_
 go_frame
 refine u_take 1 (some 10) (.string V.low) rfl rfl (by kernel_rfl) (by kernel_rfl) (by kernel_rfl) (by kernel_rfl) (fun _ _ _ h=>h) (y_cell 9 (.tmp 9) ⟨w.heap.size,0,none⟩ _ (by kernel_rfl) rfl (by kernel_rfl) (fun w' hS=>hS.cell' rfl) Tryz.underlying9 rfl) hS0 ?_
 go_frame
 refine u_take 2 (some 11) (.pointer (some ⟨w.heap.size,1,none⟩)) rfl rfl (by kernel_rfl) (by kernel_rfl) (by kernel_rfl) (by kernel_rfl) (fun _ _ _ h=>h) (y_val (by kernel_rfl) (fun w' hS=>by kernel_rfl)) hS0 ?_
 go_frame
 refine u_take 3 (some 12) (.string V.high) rfl rfl (by kernel_rfl) (by kernel_rfl) (by kernel_rfl) (by kernel_rfl) (fun _ _ _ h=>h) (y_cell 9 (.tmp 11) ⟨w.heap.size,1,none⟩ _ (by kernel_rfl) rfl (by kernel_rfl) (fun w' hS=>hS.cell' rfl) Tryz.underlying9 rfl) hS0 ?_
 go_frame
 refine u_take 4 (some 13) (.pointer (some ⟨w.heap.size,2,none⟩)) rfl rfl (by kernel_rfl) (by kernel_rfl) (by kernel_rfl) (by kernel_rfl) (fun _ _ _ h=>h) (y_val (by kernel_rfl) (fun w' hS=>by kernel_rfl)) hS0 ?_
 go_frame
 refine u_take 5 (some 14) (.bool V.unb) rfl rfl (by kernel_rfl) (by kernel_rfl) (by kernel_rfl) (by kernel_rfl) (fun _ _ _ h=>h) (y_cell 4 (.tmp 13) ⟨w.heap.size,2,none⟩ _ (by kernel_rfl) rfl (by kernel_rfl) (fun w' hS=>hS.cell' rfl) Tryz.underlying4 rfl) hS0 ?_
 go_frame
 refine u_take 6 (some 15) (.pointer (some ⟨w.heap.size,3,none⟩)) rfl rfl (by kernel_rfl) (by kernel_rfl) (by kernel_rfl) (by kernel_rfl) (fun _ _ _ h=>h) (y_val (by kernel_rfl) (fun w' hS=>by kernel_rfl)) hS0 ?_
 go_frame
 refine u_take 7 (some 16) (.int .i64 V.right) rfl rfl (by kernel_rfl) (by kernel_rfl) (by kernel_rfl) (by kernel_rfl) (fun _ _ _ h=>h) (y_cell 3 (.tmp 15) ⟨w.heap.size,3,none⟩ _ (by kernel_rfl) rfl (by kernel_rfl) (fun w' hS=>hS.cell' rfl) Tryz.underlying3 rfl) hS0 ?_
 go_frame
 refine u_take 8 (some 17) (.pointer (some ⟨w.heap.size,4,none⟩)) rfl rfl (by kernel_rfl) (by kernel_rfl) (by kernel_rfl) (by kernel_rfl) (fun _ _ _ h=>h) (y_val (by kernel_rfl) (fun w' hS=>by kernel_rfl)) hS0 ?_
 go_frame
 refine u_take 9 (some 18) (.slice A V.rows.length c) rfl rfl (by kernel_rfl) (by kernel_rfl) (by kernel_rfl) (by kernel_rfl) (fun _ _ _ h=>h) (y_cell 22 (.tmp 17) ⟨w.heap.size,4,none⟩ _ (by kernel_rfl) rfl (by kernel_rfl) (fun w' hS=>hS.cell' rfl) Tryz.underlying22 rfl) hS0 ?_
 go_frame
 clear hS0
 refine u_callE 10 (some 19) 116 #[.slice A V.rows.length c] (fun v w'=>∃ A' c',v=.slice A' V.rows.length c'∧w'.ownsRow w0.drew.heap.size 25 2 (.slice A' V.rows.length c') V.rows.length (rwFlat V.rows)∧Fr none_ w0.drew w') rfl rfl (by kernel_rfl) (by kernel_rfl) (by kernel_rfl) ((copyR_ok V.rows A c w0.drew (HV.out.keep (Fr.refl none_ w0).drew).rd HV.out.ok.rows.1).mono (fun e w' hh=>?_)) ?_
 ·obtain ⟨A',c',rfl,h1,h2⟩:=hh
  exact ⟨_,rfl,A',c',rfl,h1,h2⟩
 rintro v w5 ⟨A',c',rfl,h1,h2⟩
 have O5:=hid_ h1
 have F5:=hid_ h2
 have BZ5:=hid_ (BZ.out.drew.fr h2 id)
 have hS5:(fun w':World=>Blk w' w.heap.size 101 (lwA V (.slice A V.rows.length c))) w5:=BV.out.drew.fr h2 id
 clear h1 h2
 refine ⟨hS5,?_⟩
 go_frame
 refine u_take 11 (some 20) (recV (mergeR V) (.slice A' V.rows.length c') (.slice none 0 0)) rfl rfl (by kernel_rfl) (by kernel_rfl) (by kernel_rfl) (by kernel_rfl) (fun _ _ _ h=>h) (y_val (by kernel_rfl) (fun w' hS=>by kernel_rfl)) hS5 ?_
 go_frame
 refine u_store 12 51 (.tmp 2) (.tmp 20) (w.heap.size+1) 0 (recA (mergeR V) (.slice A' V.rows.length c') (.slice none 0 0)) rfl rfl (by kernel_rfl) (by kernel_rfl) rfl (by kernel_rfl) (by kernel_rfl) (BZ5.out.there9 rfl) rec_size (by simp [Value.oneCell']) ?_
 intro w6 hw6
 have ov:=BZ5.out.over9 ((recA (mergeR V) (.slice A' V.rows.length c') (.slice none 0 0))).toList rfl
 rw [← hw6] at ov
 have Q6:=hid_ (show Blk w6 (w.heap.size+1) 51 (recA (mergeR V) (.slice A' V.rows.length c') (.slice none 0 0)) from ov.1)
 have O6:=hid_ (own_fr O5.out ov.2 (fun k hk e=>own_blk_ne O5.out BZ5.out (by decide) (by rw [hk,show k=w.heap.size+1 from e])))
 have F6:=hid_ (((F0.out.drew).then_none F5.out).then_only ov.2 (.inr (by omega)))
 have hS6:(fun w':World=>Blk w' w.heap.size 101 (lwA V (.slice A V.rows.length c))) w6:=hS5.fr ov.2 (only_ne (by omega))
 clear hw6 ov hS5
 refine ⟨hS6,?_⟩
 refine u_run 13 (some 3) .nilIface w6 rfl rfl (by kernel_rfl) (by kernel_rfl) (by kernel_rfl) (.inr hS6) ?_
 go_frame
 refine u_done (by kernel_rfl) ?_
 go_wp2_with fail
 have q0:=Q6.out.cell' (i:=0) rfl
 have q1:=Q6.out.cell' (i:=1) rfl
 have q2:=Q6.out.cell' (i:=2) rfl
 have q3:=Q6.out.cell' (i:=3) rfl
 have q4:=Q6.out.cell' (i:=4) rfl
 have q5:=Q6.out.cell' (i:=5) rfl
 have q6:=Q6.out.cell' (i:=6) rfl
 have q7:=Q6.out.cell' (i:=7) rfl
 have q8:=Q6.out.cell' (i:=8) rfl
 have q9:=Q6.out.cell' (i:=9) rfl
 have q10:=Q6.out.cell' (i:=10) rfl
 have q11:=Q6.out.cell' (i:=11) rfl
 have q12:=Q6.out.cell' (i:=12) rfl
 have q13:=Q6.out.cell' (i:=13) rfl
 have q14:=Q6.out.cell' (i:=14) rfl
 refine bodyPost_ret (v:=.tuple #[recV (mergeR V) (.slice A' V.rows.length c') (.slice none 0 0),.nilIface]) ?_ rfl ⟨A',c',rfl,⟨own_base O6.out (Nat.zero_le _),World.ownsRow_nil _ _ _ _⟩,F6.out⟩
 simp [results,Tryz.results113,go_sem,q0,q1,q2,q3,q4,q5,q6,q7,q8,q9,q10,q11,q12,q13,q14]
theorem SeePost.after {h:Nat} {H:Hm} {n:Int} {f:Value} {w w1:World} {e:Ending} {w':World} (hf:Fr (only h) w w1) (hp:SeePost h H n f w1 e w'):SeePost h H n f w e w':=by
  obtain ⟨g,h1,h2,h3,h4⟩:=hp
  exact ⟨g,h1,h2,h3.base hf.size,hf.trans h4 (fun _ _=>id) (fun _ _=>id)⟩
theorem PutPost13.after {h:Nat} {H:Hm} {n s g:Int} {R:Rc} {f:Value} {w w1:World} {e:Ending} {w':World} (hf:Fr (only h) w w1) (hp:PutPost13 h H n s g R f w1 e w'):PutPost13 h H n s g R f w e w':=by
  obtain ⟨i,mv,vr,ve,h1,h2,h3,h4⟩:=hp
  exact ⟨i,mv,vr,ve,h1,h2,h3.base hf.size,hf.trans h4 (fun _ _=>id) (fun _ _=>id)⟩
abbrev goneF (bx:Nat):Value:=.func (.func 97) #[] #[.pointer (some ⟨bx,0,none⟩)]
abbrev mergeF (bx:Nat):Value:=.func (.func 114) #[] #[.pointer (some ⟨bx,0,none⟩)]
abbrev lfA (n hs hg:Int) (vc vr:Value) (V:Lw) (A:Option Addr) (c:Nat):Array Value:=pgA n hs hg vc vr true V (.slice A V.rows.length c) Vw.zero (.slice none 0 0)
abbrev goH (H:Hm) (V:Lw) (A:Option Addr) (c:Nat) (hs hg:Int):Hm:={ H with gone:={ V with gone:=true },gr:=.slice A V.rows.length c,as_:=hs,ag:=hg }
def GoPost (h:Nat) (H:Hm) (n hs hg:Int) (V:Lw) (A:Option Addr) (c:Nat) (w:World) (e:Ending) (w':World):Prop:=
  (V.gone=true∧SeePost h (goH H V A c hs hg) H.left (takingF h) w e w')∨(V.gone=false∧∃ bx,PutPost13 h (goH H V A c hs hg) n hs hg (kindC 5) (goneF bx) w e w'∧Blk w' bx 41 #[.pointer (some ⟨h,0,none⟩)])
theorem box_two13 (w:World) (v:Value) (vs:Array Value):∃ w0,w0=(w.alloc (.cells #[v] 41)).alloc (.cells vs 140)∧Fr none_ w w0∧Blk w0 w.heap.size 41 #[v]∧Blk w0 (w.heap.size+1) 140 vs:=
  ⟨_,rfl,((Fr.refl none_ w).alloc _).alloc _,(Blk.new w _ _).alloc _,Blk.new7 _ _ (by simp)⟩
set_option maxHeartbeats 8000000 in
theorem going_ok {w:World} {h:Nat} {H:Hm} (n hs hg:Int) (vC:Option Addr) (nc xc:Nat) (vD:Option Addr) (nr yc:Nat) (V:Lw) (A:Option Addr) (c:Nat) (hb:HpB w h H) :
  Calls Tryz.prog 74 #[.pointer (some ⟨h,0,none⟩),.agg (lfA n hs hg (.slice vC nc xc) (.slice vD nr yc) V A c)] w (GoPost h H n hs hg V A c w):=by
 have hmf:∀ (fn:Fn) (first cap:Array Value) (w:World),(Instr.makeFunc fn first cap).run Tryz.prog w=.ok (.func fn first cap) w:=fun _ _ _ _=>rfl
 obtain ⟨w0,hw0,f0,bx,bp⟩:=box_two13 w (.pointer (some ⟨h,0,none⟩)) (lfA n hs hg (.slice vC nc xc) (.slice vD nr yc) V A c)
 have BX:=hid_ bx
 have BP:=hid_ bp
 have HB:=hid_ (hb.fr f0 id)
 have F0:=hid_ f0
 have hlt:=hb.lt
 have hs0:=bp.lt
 clear hb f0 bx bp
 go_enter Tryz.func74,Tryz.ntmps74
 go_upto_region 1 with fail
 change Code.wp _ _ _ _ ((w.alloc (.cells #[.pointer (some ⟨h,0,none⟩)] 41)).alloc (.cells (lfA n hs hg (.slice vC nc xc) (.slice vD nr yc) V A c) 140))
 rw [← hw0]
 clear hw0
 have hS0:(fun w':World=>Blk w' w.heap.size 41 #[.pointer (some ⟨h,0,none⟩)]∧Blk w' (w.heap.size+1) 140 (lfA n hs hg (.slice vC nc xc) (.slice vD nr yc) V A c)) w0.drew:=⟨BX.out.drew,BP.out.drew⟩
 refine wp_region_u 12 (fun w':World=>Blk w' w.heap.size 41 #[.pointer (some ⟨h,0,none⟩)]∧Blk w' (w.heap.size+1) 140 (lfA n hs hg (.slice vC nc xc) (.slice vD nr yc) V A c)) (by kernel_rfl) ?_
 refine u_take 0 (some 5) (.pointer (some ⟨h,0,none⟩)) rfl rfl (by kernel_rfl) (by kernel_rfl) (by kernel_rfl) (by kernel_rfl) (fun _ _ _ h=>h) (y_cell 41 (.tmp 2) ⟨w.heap.size,0,none⟩ _ (by kernel_rfl) rfl (by kernel_rfl) (fun w' hS=>hS.1.cell' rfl) Tryz.underlying41 rfl) hS0 ?_
 go_frame
 refine u_take 1 (some 6) (.pointer (some ⟨h,0,none⟩)) rfl rfl (by kernel_rfl) (by kernel_rfl) (by kernel_rfl) (by kernel_rfl) (fun _ _ _ h=>h) (y_cell 41 (.tmp 2) ⟨w.heap.size,0,none⟩ _ (by kernel_rfl) rfl (by kernel_rfl) (fun w' hS=>hS.1.cell' rfl) Tryz.underlying41 rfl) hS0 ?_
 go_frame
 refine u_take 2 (some 7) (.pointer (some ⟨w.heap.size+1,6,none⟩)) rfl rfl (by kernel_rfl) (by kernel_rfl) (by kernel_rfl) (by kernel_rfl) (fun _ _ _ h=>h) (y_val (by kernel_rfl) (fun w' hS=>by kernel_rfl)) hS0 ?_
 go_frame
 refine u_take 3 (some 8) (.agg (lwA V (.slice A V.rows.length c))) rfl rfl (by kernel_rfl) (by kernel_rfl) (by kernel_rfl) (by kernel_rfl) (fun _ _ _ h=>h) (yieldsIf_load_mid (by kernel_rfl) 101 (.tmp 7) rfl (w.heap.size+1) 6 (by kernel_rfl) [.string V.low,.string V.high,.bool V.unb,.int .i64 V.right,.slice A V.rows.length c,.bool V.gone] _ (fun w' hS=>hS.2.range13 (fun j v hv=>by match j,hv with | 0,hv=>exact hv | 1,hv=>exact hv | 2,hv=>exact hv | 3,hv=>exact hv | 4,hv=>exact hv | 5,hv=>exact hv)) Tryz.underlying101 rfl lv_size13) hS0 ?_
 go_frame
 refine u_take 4 (some 9) (.pointer (some ⟨w.heap.size+1,1,none⟩)) rfl rfl (by kernel_rfl) (by kernel_rfl) (by kernel_rfl) (by kernel_rfl) (fun _ _ _ h=>h) (y_val (by kernel_rfl) (fun w' hS=>by kernel_rfl)) hS0 ?_
 go_frame
 refine u_take 5 (some 10) (.agg #[.int .i64 hs,.int .i64 hg]) rfl rfl (by kernel_rfl) (by kernel_rfl) (by kernel_rfl) (by kernel_rfl) (fun _ _ _ h=>h) (yieldsIf_load_mid (by kernel_rfl) 36 (.tmp 9) rfl (w.heap.size+1) 1 (by kernel_rfl) [.int .i64 hs,.int .i64 hg] _ (fun w' hS=>hS.2.range13 (fun j v hv=>by match j,hv with | 0,hv=>exact hv | 1,hv=>exact hv)) Tryz.underlying36 rfl ref_size9) hS0 ?_
 go_frame
 refine u_take 6 (some 11) (.pointer (some ⟨h,0,none⟩)) rfl rfl (by kernel_rfl) (by kernel_rfl) (by kernel_rfl) (by kernel_rfl) (fun _ _ _ h=>h) (y_val (by kernel_rfl) (fun w' hS=>by kernel_rfl)) hS0 ?_
 go_frame
 refine u_take 7 (some 12) (.pointer (some ⟨h,11,none⟩)) rfl rfl (by kernel_rfl) (by kernel_rfl) (by kernel_rfl) (by kernel_rfl) (fun _ _ _ h=>h) (y_val (by kernel_rfl) (fun w' hS=>by kernel_rfl)) hS0 ?_
 go_frame
 clear hS0
 refine u_store 8 101 (.tmp 12) (.tmp 8) h 11 (lwA V (.slice A V.rows.length c)) rfl rfl (by kernel_rfl) (by kernel_rfl) rfl (by kernel_rfl) (by kernel_rfl) (HB.out.drew.there_at (by simp)) lv_size13 (by simp [Value.oneCell']) ?_
 intro w5 hw5
 have q5:=HB.out.drew.put13 (cs':=hmA { H with gone:=V,gr:=.slice A V.rows.length c }) hw5 rfl
 have HB5:=hid_ q5.1
 have F5:=hid_ (((F0.out.drew).mono (S':=only h) (fun _ _ e=>e.elim)).then_only q5.2 (.inl rfl))
 have hS5:(fun w':World=>Blk w' w.heap.size 41 #[.pointer (some ⟨h,0,none⟩)]∧Blk w' (w.heap.size+1) 140 (lfA n hs hg (.slice vC nc xc) (.slice vD nr yc) V A c)) w5:=⟨BX.out.drew.fr q5.2 (only_ne (by omega)),BP.out.drew.fr q5.2 (only_ne (by omega))⟩
 clear hw5 q5
 refine ⟨hS5,?_⟩
 refine u_take 9 (some 13) (.pointer (some ⟨h,0,none⟩)) rfl rfl (by kernel_rfl) (by kernel_rfl) (by kernel_rfl) (by kernel_rfl) (fun _ _ _ h=>h) (y_val (by kernel_rfl) (fun w' hS=>by kernel_rfl)) hS5 ?_
 go_frame
 refine u_take 10 (some 14) (.pointer (some ⟨h,17,none⟩)) rfl rfl (by kernel_rfl) (by kernel_rfl) (by kernel_rfl) (by kernel_rfl) (fun _ _ _ h=>h) (y_val (by kernel_rfl) (fun w' hS=>by kernel_rfl)) hS5 ?_
 go_frame
 refine u_store 11 36 (.tmp 14) (.tmp 10) h 17 #[.int .i64 hs,.int .i64 hg] rfl rfl (by kernel_rfl) (by kernel_rfl) rfl (by kernel_rfl) (by kernel_rfl) (HB5.out.there_at (by simp)) ref_size9 (by simp [Value.oneCell']) ?_
 intro w1 hw1
 have q1:=HB5.out.put13 (cs':=hmA { H with gone:=V,gr:=.slice A V.rows.length c,as_:=hs,ag:=hg }) hw1 rfl
 have HB1:=hid_ q1.1
 have F1:=hid_ (F5.out.then_only q1.2 (.inl rfl))
 have BX1:=hid_ (hS5.1.fr q1.2 (only_ne (by omega)))
 have BP1:=hid_ (hS5.2.fr q1.2 (only_ne (by omega)))
 clear hw1 q1 hS5
 refine ⟨⟨BX1.out,BP1.out⟩,?_⟩
 refine u_done (by kernel_rfl) ?_
 clear BX BP HB F0 HB5 F5
 have b0:w1.cell? ⟨w.heap.size,0,none⟩=some (.pointer (some ⟨h,0,none⟩)):=BX1.out.cell' rfl
 have h16:w1.cell? ⟨h,16,none⟩=some (.bool V.gone):=HB1.out.cell' rfl
 have y16:=HB1.out.frozen 16
 go_upto_region 3 with fail
 obtain ⟨w2,hw2⟩:∃ z,z=w1.setCell ⟨h,16,none⟩ (.bool true):=⟨_,rfl⟩
 have f2:Fr (only h) w1 w2:=by rw [hw2];exact Fr.only1 w1 ⟨h,16,none⟩ _
 have HB2:=hid_ (show HpB w2 h (goH H V A c hs hg) by rw [hw2];exact HB1.out.set_ 16 (.bool true))
 change Code.wp _ _ _ _ (w1.setCell ⟨h,16,none⟩ (.bool true))
 rw [← hw2]
 clear hw2 h16 y16 b0
 have BX2:=hid_ (BX1.out.fr f2 (only_ne (by omega)))
 have BP2:=hid_ (BP1.out.fr f2 (only_ne (by omega)))
 have F2:=hid_ (F1.out.then_only f2 (.inl rfl))
 clear f2 BX1 BP1 HB1 F1
 have b0:w2.cell? ⟨w.heap.size,0,none⟩=some (.pointer (some ⟨h,0,none⟩)):=BX2.out.cell' rfl
 have p0:w2.cell? ⟨w.heap.size+1,0,none⟩=some (.int .i64 n):=BP2.out.cell' rfl
 have p1:w2.cell? ⟨w.heap.size+1,1,none⟩=some (.int .i64 hs):=BP2.out.cell' rfl
 have p2:w2.cell? ⟨w.heap.size+1,2,none⟩=some (.int .i64 hg):=BP2.out.cell' rfl
 cases hgo:V.gone with
 | true =>
  have p11:w2.cell? ⟨w.heap.size+1,11,none⟩=some (.bool true):=by rw [← hgo];exact BP2.out.cell' rfl
  have HG:=hid_ hgo
  clear hgo
  go_wp2_with fail
  refine (msecond_ok HB2.out).mono ?_
  rintro e w3 ⟨g,rfl,h1,h2,h3⟩
  have HX:=hid_ (show SeePost h (goH H V A c hs hg) H.left (takingF h) w2 (.returned (.bool false)) w3 from ⟨g,rfl,h1,h2,h3⟩)
  clear h1 h2 h3
  go_wp2_with fail
  go_ret
  exact .inl ⟨HG.out,HX.out.after F2.out⟩
 | false =>
  have p11:w2.cell? ⟨w.heap.size+1,11,none⟩=some (.bool false):=by rw [← hgo];exact BP2.out.cell' rfl
  have HG:=hid_ hgo
  clear hgo
  go_wp2_with fail
  refine (mput_ok n hs hg (kindC 5) none 0 none 0 _ _ _ HB2.out ⟨World.ownsRow_nil _ _ _ _,World.ownsRow_nil _ _ _ _⟩ ⟨Nat.zero_le _,Nat.zero_le _⟩).mono ?_
  rintro e w3 ⟨i,mv,vr,ve,rfl,h1,h2,h3⟩
  have HX:=hid_ (show PutPost13 h (goH H V A c hs hg) n hs hg (kindC 5) (goneF w.heap.size) w2 (.returned (.bool false)) w3 from ⟨i,mv,vr,ve,rfl,h1,h2,h3⟩)
  have BX3:=hid_ (BX2.out.fr h3 (only_ne (by omega)))
  clear h1 h2 h3
  go_wp2_with fail
  go_ret
  exact .inr ⟨HG.out,w.heap.size,HX.out.after F2.out,BX3.out⟩
open Go.RowKit Go.BigFrame

section
variable {P:Program} {md:Region.Mode} {ops:Array Oper} {Q:Exit→Act→World→Prop} {S:World→Prop} {m fuel:Nat} {listed:Array Bool} {a:Act} {w:World} {oi:Oper}
theorem u_storeN (i:Nat) (ty:TypeId) (x y:Operand) (b o:Nat) (cells:Array Value) (hi:ops[i]?=some oi) (hd:oi.dst=none) (hw:Region.wanted oi (yielded ops a.tmps)=true) (hr:Region.ready md ops listed=[i])
    (ho:oi.op=.store ty x y) (hx:a.eval x=.pointer (some ⟨b,o,none⟩)) (hy:a.eval y=.agg cells) (ht:w.there b o cells.size) (hz:(P.info? ty).map (·.size)=some cells.size) (h1:cells.all (·.oneCell')=true) (hm:m≤i)
    (h:∀ w',w'=w.setCells b o cells.toList→UwA P md ops Q S m fuel (listed.setIfInBounds i true) a w'):UwA P md ops Q S m (fuel+1) listed a w:=by
  refine u_one i hi hw hr ?_
  refine wp_store_mid ty x y ho b o cells hx hy ht hz h1 ?_
  rw [hd]
  exact ⟨.inl hm,h _ rfl⟩
end
set_option maxHeartbeats 16000000 in
theorem taking_has {w:World} {h:Nat} {H:Hm} (n hs hg:Int) (vC:Option Addr) (nc xc:Nat) (vD:Option Addr) (nr yc:Nat) (V:Lw) (A:Option Addr) (c:Nat) (hb:HpB w h H) (hng:V.gone=false) (hz:SzOk V.low∧SzOk V.high∧SzOk H.hk) (hin:inS V.low V.high V.unb H.hk=true) :
  Calls Tryz.prog 106 #[.pointer (some ⟨h,0,none⟩),.agg (lfA n hs hg (.slice vC nc xc) (.slice vD nr yc) V A c)] w (fun e w'=>∃ bx,PutPost13 h H H.n H.hs H.hg (kindC 11) (thirdF bx) w e w'∧Blk w' bx 41 #[.pointer (some ⟨h,0,none⟩)]):=by
 have hmf:∀ (fn:Fn) (first cap:Array Value) (w:World),(Instr.makeFunc fn first cap).run Tryz.prog w=.ok (.func fn first cap) w:=fun _ _ _ _=>rfl
 obtain ⟨w0,hw0,f0,bx,bp⟩:=box_two13 w (.pointer (some ⟨h,0,none⟩)) (lfA n hs hg (.slice vC nc xc) (.slice vD nr yc) V A c)
 have BX:=hid_ bx
 have BP:=hid_ bp
 have HB:=hid_ (hb.fr f0 id)
 have F0:=hid_ f0
 have hlt:=hb.lt
 have hs0:=bp.lt
 have HZ:=hid_ hz
 have HG:=hid_ hng
 have HIN:=hid_ hin
 clear hin
 clear hb f0 bx bp hz hng
 go_enter Tryz.func106,Tryz.ntmps106
 go_upto_region 1 with fail
 change Code.wp _ _ _ _ ((w.alloc (.cells #[.pointer (some ⟨h,0,none⟩)] 41)).alloc (.cells (lfA n hs hg (.slice vC nc xc) (.slice vD nr yc) V A c) 140))
 rw [← hw0]
 clear hw0
 go_upto_region 2 with (first | (refine wpList_load_mid rfl 101 (.tmp 8) rfl (w.heap.size+1) 6 rfl (lwA V (.slice A V.rows.length c)).toList _ (BP.out.range13 (fun j v hv=>by match j,hv with | 0,hv=>exact hv | 1,hv=>exact hv | 2,hv=>exact hv | 3,hv=>exact hv | 4,hv=>exact hv | 5,hv=>exact hv)) Tryz.underlying101 rfl lv_size13 ?_) | (refine wpList_store_mid rfl 101 (.tmp 5) (.tmp 9) rfl w0.heap.size 0 (lwA V (.slice A V.rows.length c)) rfl rfl (new_there w0 _ lwZ) lv_size13 (by simp [Value.oneCell']) ?_;obtain ⟨w1,hw1⟩:∃ z,z=(w0.alloc (.cells lwZ 101)).setCells w0.heap.size 0 (lwA V (.slice A V.rows.length c)).toList:=⟨_,rfl⟩;change wpList _ _ _ _ _ ((w0.alloc (.cells lwZ 101)).setCells w0.heap.size 0 (lwA V (.slice A V.rows.length c)).toList);rw [← hw1];have P1:Hid (Blk w1 w0.heap.size 101 (lwA V (.slice A V.rows.length c))∧Fr none_ w0 w1):=hid_ (by rw [hw1];exact new_copy w0 _ lwZ (lwA V (.slice A V.rows.length c)).toList rfl);clear hw1))
 have BV:=hid_ P1.out.1
 have BX1:=hid_ (BX.out.fr P1.out.2 id)
 have BP1:=hid_ (BP.out.fr P1.out.2 id)
 have HB1:=hid_ (HB.out.fr P1.out.2 id)
 have F1:=hid_ (F0.out.then_none P1.out.2)
 clear P1 BX BP HB F0
 have v5:w1.cell? ⟨w0.heap.size,5,none⟩=some (.bool false):=by rw [← HG.out];exact BV.out.cell' rfl
 go_upto_region 4 with fail
 have hS0:(fun w':World=>(HpB w' h H∧Blk w' w.heap.size 41 #[.pointer (some ⟨h,0,none⟩)])∧Blk w' (w.heap.size+1) 140 (lfA n hs hg (.slice vC nc xc) (.slice vD nr yc) V A c)) w1.drew:=⟨⟨HB1.out.drew,BX1.out.drew⟩,BP1.out.drew⟩
 refine wp_region_u 8 (fun w':World=>(HpB w' h H∧Blk w' w.heap.size 41 #[.pointer (some ⟨h,0,none⟩)])∧Blk w' (w.heap.size+1) 140 (lfA n hs hg (.slice vC nc xc) (.slice vD nr yc) V A c)) (by kernel_rfl) ?_
 refine u_take 0 (some 16) (.agg (lfA n hs hg (.slice vC nc xc) (.slice vD nr yc) V A c)) rfl rfl (by kernel_rfl) (by kernel_rfl) (by kernel_rfl) (by kernel_rfl) (fun _ _ _ h=>h) (yieldsIf_load_mid (by kernel_rfl) 140 (.tmp 3) rfl (w.heap.size+1) 0 (by kernel_rfl) (lfA n hs hg (.slice vC nc xc) (.slice vD nr yc) V A c).toList _ (fun w' hS=>hS.2.all13) Tryz.underlying140 rfl page_size) hS0 ?_
 go_frame
 refine u_take 1 (some 17) (.pointer (some ⟨h,0,none⟩)) rfl rfl (by kernel_rfl) (by kernel_rfl) (by kernel_rfl) (by kernel_rfl) (fun _ _ _ h=>h) (y_cell 41 (.tmp 2) ⟨w.heap.size,0,none⟩ _ (by kernel_rfl) rfl (by kernel_rfl) (fun w' hS=>hS.1.2.cell' rfl) Tryz.underlying41 rfl) hS0 ?_
 go_frame
 refine u_take 2 (some 18) (.pointer (some ⟨h,0,none⟩)) rfl rfl (by kernel_rfl) (by kernel_rfl) (by kernel_rfl) (by kernel_rfl) (fun _ _ _ h=>h) (y_val (by kernel_rfl) (fun w' hS=>by kernel_rfl)) hS0 ?_
 go_frame
 refine u_take 3 (some 19) (.pointer (some ⟨h,3,none⟩)) rfl rfl (by kernel_rfl) (by kernel_rfl) (by kernel_rfl) (by kernel_rfl) (fun _ _ _ h=>h) (y_val (by kernel_rfl) (fun w' hS=>by kernel_rfl)) hS0 ?_
 go_frame
 refine u_take 4 (some 20) (.pointer (some ⟨h,5,none⟩)) rfl rfl (by kernel_rfl) (by kernel_rfl) (by kernel_rfl) (by kernel_rfl) (fun _ _ _ h=>h) (y_val (by kernel_rfl) (fun w' hS=>by kernel_rfl)) hS0 ?_
 go_frame
 refine u_take 5 (some 21) (.string H.hk) rfl rfl (by kernel_rfl) (by kernel_rfl) (by kernel_rfl) (by kernel_rfl) (fun _ _ _ h=>h) (y_cell 9 (.tmp 20) ⟨h,5,none⟩ _ (by kernel_rfl) rfl (by kernel_rfl) (fun w' hS=>hS.1.1.cell' rfl) Tryz.underlying9 rfl) hS0 ?_
 go_frame
 clear hS0 v5
 refine u_callE 6 (some 22) 111 #[.agg (lfA n hs hg (.slice vC nc xc) (.slice vD nr yc) V A c),.string H.hk] (fun v w'=>v=.bool (inS V.low V.high V.unb H.hk)∧Fr none_ w1.drew w') rfl rfl (by kernel_rfl) (by kernel_rfl) (by kernel_rfl) ((phas_ok ⟨n,hs,hg,vC,nc,xc,.slice vD nr yc,true,V,A,c,Vw.zero,none,0⟩ H.hk w1.drew HZ.out.1 HZ.out.2.1 HZ.out.2.2).mono (fun e w' hh=>⟨_,hh.1,rfl,hh.2⟩)) ?_
 rintro v w2 ⟨rfl,hf2⟩
 have BV2:=hid_ (BV.out.drew.fr hf2 id)
 have BX2:=hid_ (BX1.out.drew.fr hf2 id)
 have BP2:=hid_ (BP1.out.drew.fr hf2 id)
 have HB2:=hid_ (HB1.out.drew.fr hf2 id)
 have F2:=hid_ (F1.out.drew.then_none hf2)
 clear hf2 BV BX1 BP1 HB1 F1
 refine ⟨⟨⟨HB2.out,BX2.out⟩,BP2.out⟩,?_⟩
 go_frame
 obtain ⟨bb,hbb⟩:∃ z,z=inS V.low V.high V.unb H.hk:=⟨_,rfl⟩
 rw [← hbb]
 refine u_run 7 (some 15) (.bool bb) w2 rfl rfl (by kernel_rfl) (by kernel_rfl) (by kernel_rfl) (.inr ⟨⟨HB2.out,BX2.out⟩,BP2.out⟩) ?_
 go_frame
 refine u_done (by kernel_rfl) ?_
 have b0:w2.cell? ⟨w.heap.size,0,none⟩=some (.pointer (some ⟨h,0,none⟩)):=BX2.out.cell' rfl
 obtain rfl:bb=true:=hbb.trans HIN.out
 clear hbb
 go_wp2_with fail
 refine (mthird_ok HB2.out).mono ?_
 rintro e w3 ⟨bx,⟨i,mv,vr,ve,rfl,h1,h2,h3⟩,h4⟩
 have HX:=hid_ (show PutPost13 h H H.n H.hs H.hg (kindC 11) (thirdF bx) w2 (.returned (.bool false)) w3 from ⟨i,mv,vr,ve,rfl,h1,h2,h3⟩)
 have H4:=hid_ h4
 clear h1 h2 h3 h4
 go_wp2_with fail
 go_ret
 exact ⟨bx,HX.out.after (F2.out.mono (fun _ _ e=>e.elim)),H4.out⟩
set_option maxHeartbeats 16000000 in
theorem taking_split {w:World} {h:Nat} {H:Hm} (n hs hg:Int) (vC:Option Addr) (nc xc:Nat) (vD:Option Addr) (nr yc:Nat) (V:Lw) (A:Option Addr) (c:Nat) (hb:HpB w h H) (hng:V.gone=false) (hz:SzOk V.low∧SzOk V.high∧SzOk H.hk) (hin:inS V.low V.high V.unb H.hk=false) (heq:V.unb=false∧V.high=H.hk∧V.right≠H.hp) :
  Calls Tryz.prog 106 #[.pointer (some ⟨h,0,none⟩),.agg (lfA n hs hg (.slice vC nc xc) (.slice vD nr yc) V A c)] w (fun e w'=>∃ bx,PutPost13 h H H.n H.hs H.hg (kindC 11) (thirdF bx) w e w'∧Blk w' bx 41 #[.pointer (some ⟨h,0,none⟩)]):=by
 have hmf:∀ (fn:Fn) (first cap:Array Value) (w:World),(Instr.makeFunc fn first cap).run Tryz.prog w=.ok (.func fn first cap) w:=fun _ _ _ _=>rfl
 obtain ⟨w0,hw0,f0,bx,bp⟩:=box_two13 w (.pointer (some ⟨h,0,none⟩)) (lfA n hs hg (.slice vC nc xc) (.slice vD nr yc) V A c)
 have BX:=hid_ bx
 have BP:=hid_ bp
 have HB:=hid_ (hb.fr f0 id)
 have F0:=hid_ f0
 have hlt:=hb.lt
 have hs0:=bp.lt
 have HZ:=hid_ hz
 have HG:=hid_ hng
 have HIN:=hid_ hin
 have EQ:=hid_ heq
 clear hin heq
 clear hb f0 bx bp hz hng
 go_enter Tryz.func106,Tryz.ntmps106
 go_upto_region 1 with fail
 change Code.wp _ _ _ _ ((w.alloc (.cells #[.pointer (some ⟨h,0,none⟩)] 41)).alloc (.cells (lfA n hs hg (.slice vC nc xc) (.slice vD nr yc) V A c) 140))
 rw [← hw0]
 clear hw0
 go_upto_region 2 with (first | (refine wpList_load_mid rfl 101 (.tmp 8) rfl (w.heap.size+1) 6 rfl (lwA V (.slice A V.rows.length c)).toList _ (BP.out.range13 (fun j v hv=>by match j,hv with | 0,hv=>exact hv | 1,hv=>exact hv | 2,hv=>exact hv | 3,hv=>exact hv | 4,hv=>exact hv | 5,hv=>exact hv)) Tryz.underlying101 rfl lv_size13 ?_) | (refine wpList_store_mid rfl 101 (.tmp 5) (.tmp 9) rfl w0.heap.size 0 (lwA V (.slice A V.rows.length c)) rfl rfl (new_there w0 _ lwZ) lv_size13 (by simp [Value.oneCell']) ?_;obtain ⟨w1,hw1⟩:∃ z,z=(w0.alloc (.cells lwZ 101)).setCells w0.heap.size 0 (lwA V (.slice A V.rows.length c)).toList:=⟨_,rfl⟩;change wpList _ _ _ _ _ ((w0.alloc (.cells lwZ 101)).setCells w0.heap.size 0 (lwA V (.slice A V.rows.length c)).toList);rw [← hw1];have P1:Hid (Blk w1 w0.heap.size 101 (lwA V (.slice A V.rows.length c))∧Fr none_ w0 w1):=hid_ (by rw [hw1];exact new_copy w0 _ lwZ (lwA V (.slice A V.rows.length c)).toList rfl);clear hw1))
 have BV:=hid_ P1.out.1
 have BX1:=hid_ (BX.out.fr P1.out.2 id)
 have BP1:=hid_ (BP.out.fr P1.out.2 id)
 have HB1:=hid_ (HB.out.fr P1.out.2 id)
 have F1:=hid_ (F0.out.then_none P1.out.2)
 clear P1 BX BP HB F0
 have v5:w1.cell? ⟨w0.heap.size,5,none⟩=some (.bool false):=by rw [← HG.out];exact BV.out.cell' rfl
 go_upto_region 4 with fail
 have hS0:(fun w':World=>(HpB w' h H∧Blk w' w.heap.size 41 #[.pointer (some ⟨h,0,none⟩)])∧Blk w' (w.heap.size+1) 140 (lfA n hs hg (.slice vC nc xc) (.slice vD nr yc) V A c)) w1.drew:=⟨⟨HB1.out.drew,BX1.out.drew⟩,BP1.out.drew⟩
 refine wp_region_u 8 (fun w':World=>(HpB w' h H∧Blk w' w.heap.size 41 #[.pointer (some ⟨h,0,none⟩)])∧Blk w' (w.heap.size+1) 140 (lfA n hs hg (.slice vC nc xc) (.slice vD nr yc) V A c)) (by kernel_rfl) ?_
 refine u_take 0 (some 16) (.agg (lfA n hs hg (.slice vC nc xc) (.slice vD nr yc) V A c)) rfl rfl (by kernel_rfl) (by kernel_rfl) (by kernel_rfl) (by kernel_rfl) (fun _ _ _ h=>h) (yieldsIf_load_mid (by kernel_rfl) 140 (.tmp 3) rfl (w.heap.size+1) 0 (by kernel_rfl) (lfA n hs hg (.slice vC nc xc) (.slice vD nr yc) V A c).toList _ (fun w' hS=>hS.2.all13) Tryz.underlying140 rfl page_size) hS0 ?_
 go_frame
 refine u_take 1 (some 17) (.pointer (some ⟨h,0,none⟩)) rfl rfl (by kernel_rfl) (by kernel_rfl) (by kernel_rfl) (by kernel_rfl) (fun _ _ _ h=>h) (y_cell 41 (.tmp 2) ⟨w.heap.size,0,none⟩ _ (by kernel_rfl) rfl (by kernel_rfl) (fun w' hS=>hS.1.2.cell' rfl) Tryz.underlying41 rfl) hS0 ?_
 go_frame
 refine u_take 2 (some 18) (.pointer (some ⟨h,0,none⟩)) rfl rfl (by kernel_rfl) (by kernel_rfl) (by kernel_rfl) (by kernel_rfl) (fun _ _ _ h=>h) (y_val (by kernel_rfl) (fun w' hS=>by kernel_rfl)) hS0 ?_
 go_frame
 refine u_take 3 (some 19) (.pointer (some ⟨h,3,none⟩)) rfl rfl (by kernel_rfl) (by kernel_rfl) (by kernel_rfl) (by kernel_rfl) (fun _ _ _ h=>h) (y_val (by kernel_rfl) (fun w' hS=>by kernel_rfl)) hS0 ?_
 go_frame
 refine u_take 4 (some 20) (.pointer (some ⟨h,5,none⟩)) rfl rfl (by kernel_rfl) (by kernel_rfl) (by kernel_rfl) (by kernel_rfl) (fun _ _ _ h=>h) (y_val (by kernel_rfl) (fun w' hS=>by kernel_rfl)) hS0 ?_
 go_frame
 refine u_take 5 (some 21) (.string H.hk) rfl rfl (by kernel_rfl) (by kernel_rfl) (by kernel_rfl) (by kernel_rfl) (fun _ _ _ h=>h) (y_cell 9 (.tmp 20) ⟨h,5,none⟩ _ (by kernel_rfl) rfl (by kernel_rfl) (fun w' hS=>hS.1.1.cell' rfl) Tryz.underlying9 rfl) hS0 ?_
 go_frame
 clear hS0 v5
 refine u_callE 6 (some 22) 111 #[.agg (lfA n hs hg (.slice vC nc xc) (.slice vD nr yc) V A c),.string H.hk] (fun v w'=>v=.bool (inS V.low V.high V.unb H.hk)∧Fr none_ w1.drew w') rfl rfl (by kernel_rfl) (by kernel_rfl) (by kernel_rfl) ((phas_ok ⟨n,hs,hg,vC,nc,xc,.slice vD nr yc,true,V,A,c,Vw.zero,none,0⟩ H.hk w1.drew HZ.out.1 HZ.out.2.1 HZ.out.2.2).mono (fun e w' hh=>⟨_,hh.1,rfl,hh.2⟩)) ?_
 rintro v w2 ⟨rfl,hf2⟩
 have BV2:=hid_ (BV.out.drew.fr hf2 id)
 have BX2:=hid_ (BX1.out.drew.fr hf2 id)
 have BP2:=hid_ (BP1.out.drew.fr hf2 id)
 have HB2:=hid_ (HB1.out.drew.fr hf2 id)
 have F2:=hid_ (F1.out.drew.then_none hf2)
 clear hf2 BV BX1 BP1 HB1 F1
 refine ⟨⟨⟨HB2.out,BX2.out⟩,BP2.out⟩,?_⟩
 go_frame
 obtain ⟨bb,hbb⟩:∃ z,z=inS V.low V.high V.unb H.hk:=⟨_,rfl⟩
 rw [← hbb]
 refine u_run 7 (some 15) (.bool bb) w2 rfl rfl (by kernel_rfl) (by kernel_rfl) (by kernel_rfl) (.inr ⟨⟨HB2.out,BX2.out⟩,BP2.out⟩) ?_
 go_frame
 refine u_done (by kernel_rfl) ?_
 have b0:w2.cell? ⟨w.heap.size,0,none⟩=some (.pointer (some ⟨h,0,none⟩)):=BX2.out.cell' rfl
 obtain rfl:bb=false:=hbb.trans HIN.out
 clear hbb
 have v1:w2.cell? ⟨w0.heap.size,1,none⟩=some (.string H.hk):=by rw [← EQ.out.2.1];exact BV2.out.cell' rfl
 have v2:w2.cell? ⟨w0.heap.size,2,none⟩=some (.bool false):=by rw [← EQ.out.1];exact BV2.out.cell' rfl
 have v3:w2.cell? ⟨w0.heap.size,3,none⟩=some (.int .i64 V.right):=BV2.out.cell' rfl
 have k5:w2.cell? ⟨h,5,none⟩=some (.string H.hk):=HB2.out.cell' rfl
 have k3:w2.cell? ⟨h,3,none⟩=some (.int .i64 H.hp):=HB2.out.cell' rfl
 have d1:(V.right != H.hp)=true:=by simpa using EQ.out.2.2
 go_wp2_with fail
 go_quiet (fail)
 go_wp2_with fail
 refine ((mthird_ok (HB2.out.drewN _))).mono ?_
 rintro e w3 ⟨bx,⟨i,mv,vr,ve,rfl,h1,h2,h3⟩,h4⟩
 have HX:=hid_ (show PutPost13 h H H.n H.hs H.hg (kindC 11) (thirdF bx) _ (.returned (.bool false)) w3 from ⟨i,mv,vr,ve,rfl,h1,h2,h3⟩)
 have H4:=hid_ h4
 clear h1 h2 h3 h4
 go_wp2_with fail
 go_ret
 exact ⟨bx,HX.out.after ((F2.out.drewN _).mono (fun _ _ e=>e.elim)),H4.out⟩
set_option maxHeartbeats 16000000 in
theorem taking_merge {w:World} {h:Nat} {H:Hm} (n hs hg:Int) (vC:Option Addr) (nc xc:Nat) (vD:Option Addr) (nr yc:Nat) (V:Lw) (A:Option Addr) (c:Nat) (hb:HpB w h H) (hng:V.gone=false) (hz:SzOk V.low∧SzOk V.high∧SzOk H.hk) (hin:inS V.low V.high V.unb H.hk=false) (heq:V.unb=false∧V.high=H.hk∧V.right=H.hp) (bg:Nat) (Ag:Option Addr) (cg:Nat) (hgr:H.gr=.slice Ag H.gone.rows.length cg) (hgg:H.gone.gone=true) (hgv:LwIn bg w H.gone Ag cg) (hgz:H.gone.rows.length≤1000) :
  Calls Tryz.prog 106 #[.pointer (some ⟨h,0,none⟩),.agg (lfA n hs hg (.slice vC nc xc) (.slice vD nr yc) V A c)] w (fun e w'=>∃ bx,PutPost13 h H n hs hg (mergeR H.gone) (mergeF bx) w e w'∧Blk w' bx 41 #[.pointer (some ⟨h,0,none⟩)]):=by
 have hmf:∀ (fn:Fn) (first cap:Array Value) (w:World),(Instr.makeFunc fn first cap).run Tryz.prog w=.ok (.func fn first cap) w:=fun _ _ _ _=>rfl
 obtain ⟨w0,hw0,f0,bx,bp⟩:=box_two13 w (.pointer (some ⟨h,0,none⟩)) (lfA n hs hg (.slice vC nc xc) (.slice vD nr yc) V A c)
 have BX:=hid_ bx
 have BP:=hid_ bp
 have HB:=hid_ (hb.fr f0 id)
 have F0:=hid_ f0
 have hlt:=hb.lt
 have hs0:=bp.lt
 have HZ:=hid_ hz
 have HG:=hid_ hng
 have HIN:=hid_ hin
 have EQ:=hid_ heq
 have GV:=hid_ hgv
 have GR:=hid_ (And.intro hgr (And.intro hgg hgz))
 clear hin heq hgv hgr hgg hgz
 clear hb f0 bx bp hz hng
 go_enter Tryz.func106,Tryz.ntmps106
 go_upto_region 1 with fail
 change Code.wp _ _ _ _ ((w.alloc (.cells #[.pointer (some ⟨h,0,none⟩)] 41)).alloc (.cells (lfA n hs hg (.slice vC nc xc) (.slice vD nr yc) V A c) 140))
 rw [← hw0]
 clear hw0
 go_upto_region 2 with (first | (refine wpList_load_mid rfl 101 (.tmp 8) rfl (w.heap.size+1) 6 rfl (lwA V (.slice A V.rows.length c)).toList _ (BP.out.range13 (fun j v hv=>by match j,hv with | 0,hv=>exact hv | 1,hv=>exact hv | 2,hv=>exact hv | 3,hv=>exact hv | 4,hv=>exact hv | 5,hv=>exact hv)) Tryz.underlying101 rfl lv_size13 ?_) | (refine wpList_store_mid rfl 101 (.tmp 5) (.tmp 9) rfl w0.heap.size 0 (lwA V (.slice A V.rows.length c)) rfl rfl (new_there w0 _ lwZ) lv_size13 (by simp [Value.oneCell']) ?_;obtain ⟨w1,hw1⟩:∃ z,z=(w0.alloc (.cells lwZ 101)).setCells w0.heap.size 0 (lwA V (.slice A V.rows.length c)).toList:=⟨_,rfl⟩;change wpList _ _ _ _ _ ((w0.alloc (.cells lwZ 101)).setCells w0.heap.size 0 (lwA V (.slice A V.rows.length c)).toList);rw [← hw1];have P1:Hid (Blk w1 w0.heap.size 101 (lwA V (.slice A V.rows.length c))∧Fr none_ w0 w1):=hid_ (by rw [hw1];exact new_copy w0 _ lwZ (lwA V (.slice A V.rows.length c)).toList rfl);clear hw1))
 have BV:=hid_ P1.out.1
 have BX1:=hid_ (BX.out.fr P1.out.2 id)
 have BP1:=hid_ (BP.out.fr P1.out.2 id)
 have HB1:=hid_ (HB.out.fr P1.out.2 id)
 have F1:=hid_ (F0.out.then_none P1.out.2)
 clear P1 BX BP HB F0
 have v5:w1.cell? ⟨w0.heap.size,5,none⟩=some (.bool false):=by rw [← HG.out];exact BV.out.cell' rfl
 go_upto_region 4 with fail
 have hS0:(fun w':World=>(HpB w' h H∧Blk w' w.heap.size 41 #[.pointer (some ⟨h,0,none⟩)])∧Blk w' (w.heap.size+1) 140 (lfA n hs hg (.slice vC nc xc) (.slice vD nr yc) V A c)) w1.drew:=⟨⟨HB1.out.drew,BX1.out.drew⟩,BP1.out.drew⟩
 refine wp_region_u 8 (fun w':World=>(HpB w' h H∧Blk w' w.heap.size 41 #[.pointer (some ⟨h,0,none⟩)])∧Blk w' (w.heap.size+1) 140 (lfA n hs hg (.slice vC nc xc) (.slice vD nr yc) V A c)) (by kernel_rfl) ?_
 refine u_take 0 (some 16) (.agg (lfA n hs hg (.slice vC nc xc) (.slice vD nr yc) V A c)) rfl rfl (by kernel_rfl) (by kernel_rfl) (by kernel_rfl) (by kernel_rfl) (fun _ _ _ h=>h) (yieldsIf_load_mid (by kernel_rfl) 140 (.tmp 3) rfl (w.heap.size+1) 0 (by kernel_rfl) (lfA n hs hg (.slice vC nc xc) (.slice vD nr yc) V A c).toList _ (fun w' hS=>hS.2.all13) Tryz.underlying140 rfl page_size) hS0 ?_
 go_frame
 refine u_take 1 (some 17) (.pointer (some ⟨h,0,none⟩)) rfl rfl (by kernel_rfl) (by kernel_rfl) (by kernel_rfl) (by kernel_rfl) (fun _ _ _ h=>h) (y_cell 41 (.tmp 2) ⟨w.heap.size,0,none⟩ _ (by kernel_rfl) rfl (by kernel_rfl) (fun w' hS=>hS.1.2.cell' rfl) Tryz.underlying41 rfl) hS0 ?_
 go_frame
 refine u_take 2 (some 18) (.pointer (some ⟨h,0,none⟩)) rfl rfl (by kernel_rfl) (by kernel_rfl) (by kernel_rfl) (by kernel_rfl) (fun _ _ _ h=>h) (y_val (by kernel_rfl) (fun w' hS=>by kernel_rfl)) hS0 ?_
 go_frame
 refine u_take 3 (some 19) (.pointer (some ⟨h,3,none⟩)) rfl rfl (by kernel_rfl) (by kernel_rfl) (by kernel_rfl) (by kernel_rfl) (fun _ _ _ h=>h) (y_val (by kernel_rfl) (fun w' hS=>by kernel_rfl)) hS0 ?_
 go_frame
 refine u_take 4 (some 20) (.pointer (some ⟨h,5,none⟩)) rfl rfl (by kernel_rfl) (by kernel_rfl) (by kernel_rfl) (by kernel_rfl) (fun _ _ _ h=>h) (y_val (by kernel_rfl) (fun w' hS=>by kernel_rfl)) hS0 ?_
 go_frame
 refine u_take 5 (some 21) (.string H.hk) rfl rfl (by kernel_rfl) (by kernel_rfl) (by kernel_rfl) (by kernel_rfl) (fun _ _ _ h=>h) (y_cell 9 (.tmp 20) ⟨h,5,none⟩ _ (by kernel_rfl) rfl (by kernel_rfl) (fun w' hS=>hS.1.1.cell' rfl) Tryz.underlying9 rfl) hS0 ?_
 go_frame
 clear hS0 v5
 refine u_callE 6 (some 22) 111 #[.agg (lfA n hs hg (.slice vC nc xc) (.slice vD nr yc) V A c),.string H.hk] (fun v w'=>v=.bool (inS V.low V.high V.unb H.hk)∧Fr none_ w1.drew w') rfl rfl (by kernel_rfl) (by kernel_rfl) (by kernel_rfl) ((phas_ok ⟨n,hs,hg,vC,nc,xc,.slice vD nr yc,true,V,A,c,Vw.zero,none,0⟩ H.hk w1.drew HZ.out.1 HZ.out.2.1 HZ.out.2.2).mono (fun e w' hh=>⟨_,hh.1,rfl,hh.2⟩)) ?_
 rintro v w2 ⟨rfl,hf2⟩
 have BV2:=hid_ (BV.out.drew.fr hf2 id)
 have BX2:=hid_ (BX1.out.drew.fr hf2 id)
 have BP2:=hid_ (BP1.out.drew.fr hf2 id)
 have HB2:=hid_ (HB1.out.drew.fr hf2 id)
 have F2:=hid_ (F1.out.drew.then_none hf2)
 clear hf2 BV BX1 BP1 HB1 F1
 refine ⟨⟨⟨HB2.out,BX2.out⟩,BP2.out⟩,?_⟩
 go_frame
 obtain ⟨bb,hbb⟩:∃ z,z=inS V.low V.high V.unb H.hk:=⟨_,rfl⟩
 rw [← hbb]
 refine u_run 7 (some 15) (.bool bb) w2 rfl rfl (by kernel_rfl) (by kernel_rfl) (by kernel_rfl) (.inr ⟨⟨HB2.out,BX2.out⟩,BP2.out⟩) ?_
 go_frame
 refine u_done (by kernel_rfl) ?_
 have b0:w2.cell? ⟨w.heap.size,0,none⟩=some (.pointer (some ⟨h,0,none⟩)):=BX2.out.cell' rfl
 obtain rfl:bb=false:=hbb.trans HIN.out
 clear hbb
 have v1:w2.cell? ⟨w0.heap.size,1,none⟩=some (.string H.hk):=by rw [← EQ.out.2.1];exact BV2.out.cell' rfl
 have v2:w2.cell? ⟨w0.heap.size,2,none⟩=some (.bool false):=by rw [← EQ.out.1];exact BV2.out.cell' rfl
 have v3:w2.cell? ⟨w0.heap.size,3,none⟩=some (.int .i64 H.hp):=by rw [← EQ.out.2.2];exact BV2.out.cell' rfl
 have k5:w2.cell? ⟨h,5,none⟩=some (.string H.hk):=HB2.out.cell' rfl
 have k3:w2.cell? ⟨h,3,none⟩=some (.int .i64 H.hp):=HB2.out.cell' rfl
 go_wp2_with fail
 go_quiet (fail)
 obtain ⟨w3,hww3⟩:∃ z,z=w2.drewN nq:=⟨_,rfl⟩
 have fw3:Fr none_ w2 w3:=by rw [hww3];exact (Fr.refl none_ w2).drewN _
 rw [← hww3]
 clear hww3
 have BV3:=hid_ (BV2.out.fr fw3 id)
 have BX3:=hid_ (BX2.out.fr fw3 id)
 have BP3:=hid_ (BP2.out.fr fw3 id)
 have HB3:=hid_ (HB2.out.fr fw3 id)
 have F3:=hid_ (F2.out.then_none fw3)
 clear fw3 BV2 BX2 BP2 HB2 F2 v1 v2 v3 k5 k3 b0
 have v1:w3.cell? ⟨w0.heap.size,1,none⟩=some (.string H.hk):=by rw [← EQ.out.2.1];exact BV3.out.cell' rfl
 have v2:w3.cell? ⟨w0.heap.size,2,none⟩=some (.bool false):=by rw [← EQ.out.1];exact BV3.out.cell' rfl
 have v3:w3.cell? ⟨w0.heap.size,3,none⟩=some (.int .i64 H.hp):=by rw [← EQ.out.2.2];exact BV3.out.cell' rfl
 have k5:w3.cell? ⟨h,5,none⟩=some (.string H.hk):=HB3.out.cell' rfl
 have k3:w3.cell? ⟨h,3,none⟩=some (.int .i64 H.hp):=HB3.out.cell' rfl
 have b0:w3.cell? ⟨w.heap.size,0,none⟩=some (.pointer (some ⟨h,0,none⟩)):=BX3.out.cell' rfl
 go_wp2_with fail
 go_quiet (fail)
 obtain ⟨w4,hww4⟩:∃ z,z=w3.drewN nq:=⟨_,rfl⟩
 have fw4:Fr none_ w3 w4:=by rw [hww4];exact (Fr.refl none_ w3).drewN _
 rw [← hww4]
 clear hww4
 have BV4:=hid_ (BV3.out.fr fw4 id)
 have BX4:=hid_ (BX3.out.fr fw4 id)
 have BP4:=hid_ (BP3.out.fr fw4 id)
 have HB4:=hid_ (HB3.out.fr fw4 id)
 have F4:=hid_ (F3.out.then_none fw4)
 clear fw4 BV3 BX3 BP3 HB3 F3 v1 v2 v3 k5 k3 b0
 have b0:w4.cell? ⟨w.heap.size,0,none⟩=some (.pointer (some ⟨h,0,none⟩)):=BX4.out.cell' rfl
 go_wp2_with (refine wpList_load_mid rfl 101 (.tmp 68) rfl h 11 rfl (lwA H.gone (.slice Ag H.gone.rows.length cg)).toList _ (HB4.out.range13 (fun j v hv=>by match j,hv with | 0,hv=>exact hv | 1,hv=>exact hv | 2,hv=>exact hv | 3,hv=>exact hv | 4,hv=>rw [← hv,← GR.out.1];rfl | 5,hv=>exact hv)) Tryz.underlying101 rfl lv_size13 ?_)
 refine (leafMerge_ok bg H.gone Ag cg GR.out.2.1 (GV.out.keep F4.out)).mono ?_
 rintro e w5 ⟨A',c',rfl,ho,hf5⟩
 have BX5:=hid_ (BX4.out.fr hf5 id)
 have BP5:=hid_ (BP4.out.fr hf5 id)
 have HB5:=hid_ (HB4.out.fr hf5 id)
 have F5:=hid_ (F4.out.then_none hf5)
 have RO:=hid_ ho
 clear hf5 ho b0 BX4 BP4 HB4 F4 BV4
 go_upto_region 10 with (refine wpList_store_mid rfl 51 (.tmp 6) (.tmp 71) rfl w5.heap.size 0 (recA (mergeR H.gone) (.slice A' H.gone.rows.length c') (.slice none 0 0)) rfl rfl (new_there w5 _ recZ) rec_size (by simp [Value.oneCell']) ?_;obtain ⟨w6,hw6⟩:∃ z,z=(w5.alloc (.cells recZ 51)).setCells w5.heap.size 0 (recA (mergeR H.gone) (.slice A' H.gone.rows.length c') (.slice none 0 0)).toList:=⟨_,rfl⟩;change wpList _ _ _ _ _ ((w5.alloc (.cells recZ 51)).setCells w5.heap.size 0 (recA (mergeR H.gone) (.slice A' H.gone.rows.length c') (.slice none 0 0)).toList);rw [← hw6];have P6:Hid (Blk w6 w5.heap.size 51 (recA (mergeR H.gone) (.slice A' H.gone.rows.length c') (.slice none 0 0))∧Fr none_ w5 w6):=hid_ (by rw [hw6];exact new_copy w5 _ recZ (recA (mergeR H.gone) (.slice A' H.gone.rows.length c') (.slice none 0 0)).toList rfl);clear hw6)
 have BR:=hid_ P6.out.1
 have BX6:=hid_ (BX5.out.fr P6.out.2 id)
 have BP6:=hid_ (BP5.out.fr P6.out.2 id)
 have HB6:=hid_ (HB5.out.fr P6.out.2 id)
 have F6:=hid_ (F5.out.then_none P6.out.2)
 have RO6:=hid_ (RO.out.keep P6.out.2)
 clear P6 BX5 BP5 HB5 F5 RO
 have b0:w6.cell? ⟨w.heap.size,0,none⟩=some (.pointer (some ⟨h,0,none⟩)):=BX6.out.cell' rfl
 have p0:w6.cell? ⟨w.heap.size+1,0,none⟩=some (.int .i64 n):=BP6.out.cell' rfl
 have p1:w6.cell? ⟨w.heap.size+1,1,none⟩=some (.int .i64 hs):=BP6.out.cell' rfl
 have p2:w6.cell? ⟨w.heap.size+1,2,none⟩=some (.int .i64 hg):=BP6.out.cell' rfl
 go_wp2_with (refine wpList_load_mid rfl 51 (.tmp 6) rfl w5.heap.size 0 rfl (recA (mergeR H.gone) (.slice A' H.gone.rows.length c') (.slice none 0 0)).toList _ BR.out.all13 Tryz.underlying51 rfl rec_size ?_)
 refine (mput_ok n hs hg (mergeR H.gone) A' c' none 0 _ _ _ HB6.out RO6.out ⟨GR.out.2.2,Nat.zero_le _⟩).mono ?_
 rintro e w7 ⟨i,mv,vr,ve,rfl,h1,h2,h3⟩
 have HX:=hid_ (show PutPost13 h H n hs hg (mergeR H.gone) (mergeF w.heap.size) w6 (.returned (.bool false)) w7 from ⟨i,mv,vr,ve,rfl,h1,h2,h3⟩)
 have BX7:=hid_ (BX6.out.fr h3 (only_ne (by omega)))
 clear h1 h2 h3
 go_wp2_with fail
 go_ret
 exact ⟨w.heap.size,HX.out.after (F6.out.mono (fun _ _ e=>e.elim)),BX7.out⟩
theorem thirdC_ok {w:World} {h:Nat} {H:Hm} {bx:Nat} (ok:Bool) (hb:HpB w h H) (hx:Blk w bx 41 #[.pointer (some ⟨h,0,none⟩)]):Calls Tryz.prog 125 #[.bool ok,.pointer (some ⟨bx,0,none⟩)] w fun e w'=>e=.returned (.bool true)∧HpB w' h { H with over:=true,done:=ok,ev:=.nilIface }∧Fr (only h) w w':=by
  have HB:=hid_ hb
  have b0:w.cell? ⟨bx,0,none⟩=some (.pointer (some ⟨h,0,none⟩)):=hx.cell' rfl
  clear hb hx
  go_enter Tryz.func125,Tryz.ntmps125
  go_wp2_with fail
  refine (mend_ok ok .nilIface (.inl rfl) HB.out).mono ?_
  rintro e w1 ⟨rfl,h1,h2⟩
  have HX:=hid_ (And.intro h1 h2)
  clear h1 h2
  go_wp2_with fail
  go_ret
  exact ⟨rfl,HX.out.1,HX.out.2⟩
theorem mergeC_yes {w:World} {h:Nat} {H:Hm} {bx:Nat} (hb:HpB w h H) (hx:Blk w bx 41 #[.pointer (some ⟨h,0,none⟩)]):Calls Tryz.prog 114 #[.bool true,.pointer (some ⟨bx,0,none⟩)] w (fun e w'=>∃ bx,PutPost13 h H H.n H.hs H.hg (kindC 11) (thirdF bx) w e w'∧Blk w' bx 41 #[.pointer (some ⟨h,0,none⟩)]):=by
  have HB:=hid_ hb
  have b0:w.cell? ⟨bx,0,none⟩=some (.pointer (some ⟨h,0,none⟩)):=hx.cell' rfl
  clear hb hx
  go_enter Tryz.func114,Tryz.ntmps114
  go_wp2_with fail
  refine (mthird_ok HB.out).mono ?_
  rintro e w3 ⟨by_,⟨i,mv,vr,ve,rfl,h1,h2,h3⟩,h4⟩
  have HX:=hid_ (show PutPost13 h H H.n H.hs H.hg (kindC 11) (thirdF by_) w (.returned (.bool false)) w3 from ⟨i,mv,vr,ve,rfl,h1,h2,h3⟩)
  have H4:=hid_ h4
  clear h1 h2 h3 h4
  go_wp2_with fail
  go_ret
  exact ⟨by_,HX.out,H4.out⟩
theorem mergeC_no {w:World} {h:Nat} {H:Hm} {bx:Nat} (hb:HpB w h H) (hx:Blk w bx 41 #[.pointer (some ⟨h,0,none⟩)]):Calls Tryz.prog 114 #[.bool false,.pointer (some ⟨bx,0,none⟩)] w (SeePost h H H.left (takingF h) w):=by
  have HB:=hid_ hb
  have b0:w.cell? ⟨bx,0,none⟩=some (.pointer (some ⟨h,0,none⟩)):=hx.cell' rfl
  clear hb hx
  go_enter Tryz.func114,Tryz.ntmps114
  go_wp2_with fail
  refine (msecond_ok HB.out).mono ?_
  rintro e w3 ⟨g,rfl,h1,h2,h3⟩
  have HX:=hid_ (show SeePost h H H.left (takingF h) w (.returned (.bool false)) w3 from ⟨g,rfl,h1,h2,h3⟩)
  clear h1 h2 h3
  go_wp2_with fail
  go_ret
  exact HX.out
theorem goneC_no {w:World} {h:Nat} {H:Hm} {bx:Nat} (hb:HpB w h H) (hx:Blk w bx 41 #[.pointer (some ⟨h,0,none⟩)]):Calls Tryz.prog 97 #[.bool false,.pointer (some ⟨bx,0,none⟩)] w (SeePost h H H.hp (goingF h) w):=by
  have HB:=hid_ hb
  have b0:w.cell? ⟨bx,0,none⟩=some (.pointer (some ⟨h,0,none⟩)):=hx.cell' rfl
  clear hb hx
  go_enter Tryz.func97,Tryz.ntmps97
  go_wp2_with fail
  refine (mfirst_ok HB.out).mono ?_
  rintro e w3 ⟨g,rfl,h1,h2,h3⟩
  have HX:=hid_ (show SeePost h H H.hp (goingF h) w (.returned (.bool false)) w3 from ⟨g,rfl,h1,h2,h3⟩)
  clear h1 h2 h3
  go_wp2_with fail
  go_ret
  exact HX.out
set_option maxHeartbeats 4000000 in
theorem goneC_yes {w:World} {h:Nat} {H:Hm} {bx:Nat} {B i:Nat} {D:Dt} {a:Ia} {s g:Int} (hb:HpB w h H) (hx:Blk w bx 41 #[.pointer (some ⟨h,0,none⟩)]) (hj:H.jv=.pointer (some ⟨i,0,none⟩)) (hI:Inst w B i D a) (hd:D.done=true) (hr:D.refs=[(s,g)]):Calls Tryz.prog 97 #[.bool true,.pointer (some ⟨bx,0,none⟩)] w (SeePost h { H with as_:=s,ag:=g } H.left (takingF h) w):=by
 have HB:=hid_ hb
 have BX:=hid_ hx
 have HI:=hid_ hI
 have HD:=hid_ (And.intro hd hr)
 have c8:w.cell? ⟨h,8,none⟩=some (.pointer (some ⟨i,0,none⟩)):=by rw [← hj];exact hb.cell' rfl
 have C8:=hid_ hj
 have hne:bx≠h:=Blk.ne_ hx hb (by decide)
 clear hb hx hj hI hd hr c8
 go_enter Tryz.func97,Tryz.ntmps97
 go_upto_region 3 with fail
 have hS0:(fun w':World=>HpB w' h H∧Blk w' bx 41 #[.pointer (some ⟨h,0,none⟩)]) w.drew:=⟨HB.out.drew,BX.out.drew⟩
 refine wp_region_u 8 (fun w':World=>HpB w' h H∧Blk w' bx 41 #[.pointer (some ⟨h,0,none⟩)]) (by kernel_rfl) ?_
 refine u_take 0 (some 8) (.pointer (some ⟨h,0,none⟩)) rfl rfl (by kernel_rfl) (by kernel_rfl) (by kernel_rfl) (by kernel_rfl) (fun _ _ _ h=>h) (y_cell 41 (.tmp 1) ⟨bx,0,none⟩ _ (by kernel_rfl) rfl (by kernel_rfl) (fun w' hS=>hS.2.cell' rfl) Tryz.underlying41 rfl) hS0 ?_
 go_frame
 refine u_take 1 (some 9) (.pointer (some ⟨h,0,none⟩)) rfl rfl (by kernel_rfl) (by kernel_rfl) (by kernel_rfl) (by kernel_rfl) (fun _ _ _ h=>h) (y_cell 41 (.tmp 1) ⟨bx,0,none⟩ _ (by kernel_rfl) rfl (by kernel_rfl) (fun w' hS=>hS.2.cell' rfl) Tryz.underlying41 rfl) hS0 ?_
 go_frame
 refine u_take 2 (some 10) (.pointer (some ⟨h,0,none⟩)) rfl rfl (by kernel_rfl) (by kernel_rfl) (by kernel_rfl) (by kernel_rfl) (fun _ _ _ h=>h) (y_val (by kernel_rfl) (fun w' hS=>by kernel_rfl)) hS0 ?_
 go_frame
 refine u_take 3 (some 11) (.pointer (some ⟨h,8,none⟩)) rfl rfl (by kernel_rfl) (by kernel_rfl) (by kernel_rfl) (by kernel_rfl) (fun _ _ _ h=>h) (y_val (by kernel_rfl) (fun w' hS=>by kernel_rfl)) hS0 ?_
 go_frame
 refine u_take 4 (some 12) (.pointer (some ⟨i,0,none⟩)) rfl rfl (by kernel_rfl) (by kernel_rfl) (by kernel_rfl) (by kernel_rfl) (fun _ _ _ h=>h) (y_cell 98 (.tmp 11) ⟨h,8,none⟩ _ (by kernel_rfl) rfl (by kernel_rfl) (fun w' hS=>by rw [← C8.out];exact hS.1.cell' rfl) Tryz.underlying98 rfl) hS0 ?_
 go_frame
 clear hS0
 refine u_callE 5 (some 13) 98 #[.pointer (some ⟨i,0,none⟩)] (fun v w'=>v=.agg #[.int .i64 s,.int .i64 g]∧Fr none_ w.drew w') rfl rfl (by kernel_rfl) (by kernel_rfl) (by kernel_rfl) ((ihead_ok (HI.out.keep (Fr.refl none_ w).drew) HD.out.1 (j:=0) (by rw [HD.out.2];rfl) (by rw [HD.out.2];rfl)).mono (fun e w' hh=>⟨_,hh.1,rfl,hh.2⟩)) ?_
 rintro v w2 ⟨rfl,hf2⟩
 have HB2:=hid_ (HB.out.drew.fr hf2 id)
 have BX2:=hid_ (BX.out.drew.fr hf2 id)
 have F2:=hid_ ((Fr.refl none_ w).drew.then_none hf2)
 clear hf2
 have hS2:(fun w':World=>HpB w' h H∧Blk w' bx 41 #[.pointer (some ⟨h,0,none⟩)]) w2:=⟨HB2.out,BX2.out⟩
 refine ⟨hS2,?_⟩
 go_frame
 refine u_take 6 (some 14) (.pointer (some ⟨h,0,none⟩)) rfl rfl (by kernel_rfl) (by kernel_rfl) (by kernel_rfl) (by kernel_rfl) (fun _ _ _ h=>h) (y_val (by kernel_rfl) (fun w' hS=>by kernel_rfl)) hS2 ?_
 go_frame
 refine u_take 7 (some 15) (.pointer (some ⟨h,17,none⟩)) rfl rfl (by kernel_rfl) (by kernel_rfl) (by kernel_rfl) (by kernel_rfl) (fun _ _ _ h=>h) (y_val (by kernel_rfl) (fun w' hS=>by kernel_rfl)) hS2 ?_
 go_frame
 clear hS2
 refine u_storeN 8 36 (.tmp 15) (.tmp 13) h 17 #[.int .i64 s,.int .i64 g] rfl rfl (by kernel_rfl) (by kernel_rfl) rfl (by kernel_rfl) (by kernel_rfl) (HB2.out.there_at (by simp)) ref_size9 (by simp [Value.oneCell']) (by decide) ?_
 intro w3 hw3
 have q3:=HB2.out.put13 (cs':=hmA { H with as_:=s,ag:=g }) hw3 rfl
 have HB3:=hid_ q3.1
 have BX3:=hid_ (BX2.out.fr q3.2 (only_ne hne))
 have F3:=hid_ ((F2.out.mono (S':=only h) (fun _ _ e=>e.elim)).then_only q3.2 (.inl rfl))
 clear hw3 q3
 refine u_done (by kernel_rfl) ?_
 have b0:w3.cell? ⟨bx,0,none⟩=some (.pointer (some ⟨h,0,none⟩)):=BX3.out.cell' rfl
 go_wp2_with fail
 refine (msecond_ok HB3.out).mono ?_
 rintro e w4 ⟨g1,rfl,h1,h2,h3⟩
 have HX:=hid_ (show SeePost h { H with as_:=s,ag:=g } H.left (takingF h) w3 (.returned (.bool false)) w4 from ⟨g1,rfl,h1,h2,h3⟩)
 clear h1 h2 h3
 go_wp2_with fail
 go_ret
 exact HX.out.after F3.out
end Go.Proofs.YthpkbppaaagaoaaGreat
