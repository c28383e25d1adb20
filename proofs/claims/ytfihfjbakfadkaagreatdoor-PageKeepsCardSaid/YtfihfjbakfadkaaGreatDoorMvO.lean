/- Texts of one proof, merged: LdrC10, LdrD10, LdL10, Aw10, Psh10, Shn10, LwS7, DocP8, Rf3, Rf3b, Rlh7, Law8, Rs8, Rfu8, Rof10, RlfB10, Same4, Same8, Sm10. -/
import Derived.Deep.DeepCutAuto
import Derived.BigQuiet
import Derived.WalkSpells
import Derived.WalkLawsBesides
import Derived.Deep.QuietTactic
import Derived.Test.YtfihfjbakfadkaaGreatDoorMvA
import Derived.Test.YtfihfjbakfadkaaGreatDoorMvE
import Derived.Test.YtfihfjbakfadkaaGreatDoorMvH
import Derived.Test.YtfihfjbakfadkaaGreatDoorMvI
import Derived.Test.YtfihfjbakfadkaaGreatDoorMvJ
import Derived.Test.YtfihfjbakfadkaaGreatDoorMvM
import Derived.Test.YtfihfjbakfadkaaGreatDoorMvN
namespace Go.Proofs.YtfihfjbakfadkaaGreatDoor
set_option maxRecDepth 100000
set_option linter.unusedVariables false
open Go.RowKit Go.BigFrame

abbrev toCh (C:Cr):Ch:=⟨C.R,C.A,C.c,C.B,C.d⟩
structure RcOk (R:Rc):Prop where
  low:SzOk R.low
  high:SzOk R.high
  key:SzOk R.key
  hkey:SzOk R.hkey
  ents:EtsOk R.ents
theorem flat_toCh (L:List Cr):recFlat (L.map toCh)=crFlat L:=by
  induction L with
  | nil=>rfl
  | cons C t ih=>simp only [recFlat,crFlat,List.map_cons,List.flatten_cons] at ih ⊢;rw [ih]
theorem map_toCh (L:List Cr):(L.map toCh).map (·.R)=L.map (·.R):=by induction L with
  | nil=>rfl
  | cons C t ih=>simp only [List.map_cons];rw [ih]
theorem Ldr.ch {b0 g:Nat} {w:World} {s:LdS} (h:Ldr b0 w g s) (hs:∀ C ∈ s.L,RcOk C.R):ChReads w s.A s.L.length (s.L.map toCh):=by
  refine chReads_own (Cs:=s.L.map toCh) (base:=b0) (c:=s.c) (by rw [flat_toCh];exact h.l) (by simp) (fun C hC=>?_)
  obtain ⟨D,hD,rfl⟩:=List.mem_map.1 hC
  have hk:=hs D hD
  exact ChOwn.ok ⟨(h.own D hD).base (Nat.zero_le _),hk.low,hk.high,hk.key,hk.hkey,hk.ents⟩
theorem PgIn.only {b0:Nat} {w w':World} {L:List Rc} {refs:List (Int × Int)} {lv:Lw} {iv:Vw} {A B C D:Option Addr} {c d x y X:Nat} (h:PgIn b0 w L refs lv iv A c B d C x D y) (hX:Blk w X 40 pgZ) (hf:Fr (only X) w w'):PgIn b0 w' L refs lv iv A c B d C x D y:=by
  obtain ⟨Cs,h1,h2,h3⟩:=h.ch
  exact ⟨⟨own_fr h.lv.own hf (fun k hk e=>own_blk_ne h.lv.own hX (by decide) (by rw [hk,show k=X from e])),h.lv.ok⟩,h.iv.farZ hX hf,
    ⟨Cs,h1,own_fr h2 hf (fun k hk e=>own_blk_ne h2 hX (by decide) (by rw [hk,show k=X from e])),fun E hE=>(h3 E hE).only hf hX (by decide) (by decide)⟩,
    own_fr h.rf hf (fun k hk e=>own_blk_ne h.rf hX (by decide) (by rw [hk,show k=X from e]))⟩
theorem PgIn.base {b0 b1:Nat} {w:World} {L:List Rc} {refs:List (Int × Int)} {lv:Lw} {iv:Vw} {A B C D:Option Addr} {c d x y:Nat} (h:PgIn b1 w L refs lv iv A c B d C x D y) (hb:b0≤b1):PgIn b0 w L refs lv iv A c B d C x D y:=by
  obtain ⟨Cs,h1,h2,h3⟩:=h.ch
  exact ⟨⟨own_base h.lv.own hb,h.lv.ok⟩,h.iv,⟨Cs,h1,own_base h2 hb,h3⟩,own_base h.rf hb⟩
def LdMade (b0:Nat) (s:LdS) (w:World) (v:Value) (w':World):Prop:=
  ((∃ leaf lv iv A c B d C x D y,ofM (s.L.map (·.R))=some (leaf,lv,iv)∧v=.tuple #[.agg (pgA s.n s.hs s.hg (.slice C s.L.length x) (.slice D s.refs.length y) leaf lv (.slice A lv.rows.length c) iv (.slice B iv.ents.length d)),.nilIface]∧PgIn b0 w' (s.L.map (·.R)) s.refs lv iv A c B d C x D y) ∨
   (∃ k:Int,CodeOf (s.L.map (·.R)) k∧ofM (s.L.map (·.R))=none∧v=.tuple #[.agg pgZ,errV k]))∧Fr none_ w w'
theorem LdMade.only {b0:Nat} {s:LdS} {w w1 w':World} {v:Value} {X:Nat} (h:LdMade b0 s w v w1) (hX:Blk w1 X 40 pgZ) (hf:Fr (only X) w1 w') (hn:w.heap.size≤X):LdMade b0 s w v w':=by
  obtain ⟨h,hf0⟩:=h
  refine ⟨?_,hf0.then_only hf (.inr hn)⟩
  rcases h with ⟨leaf,lv,iv,A,c,B,d,C,x,D,y,h1,h2,h3⟩ | h
  · exact .inl ⟨leaf,lv,iv,A,c,B,d,C,x,D,y,h1,h2,h3.only hX hf⟩
  · exact .inr h
theorem LdMade.of {b0:Nat} {s:LdS} {w w1 w':World} {v:Value} (h:OfPostO s.n s.hs s.hg ((s.L.map toCh).map (·.R)) s.refs w1 (.returned v) w') (hf:Fr none_ w w1) (hb:b0≤w1.heap.size):LdMade b0 s w v w':=by
  unfold OfPostO at h
  rw [map_toCh] at h
  rcases h with ⟨leaf,lv,iv,A,c,B,d,C,x,D,y,h1,h2,h3,h4⟩ | ⟨k,hk,h1,h2,h4⟩
  · refine ⟨.inl ⟨leaf,lv,iv,A,c,B,d,C,x,D,y,h1,?_,h3.in_.base hb⟩,hf.then_none h4⟩
    have:=Ending.returned.inj h2
    rw [this]
    simp
  · exact ⟨.inr ⟨k,hk,h1,Ending.returned.inj h2⟩,hf.then_none h4⟩
theorem LdMade.shape {b0:Nat} {s:LdS} {w w':World} {v:Value} (h:LdMade b0 s w v w'):∃ (pv:Array Value) (ev:Value),v=.tuple #[.agg pv,ev]∧pv.size=21∧pv.all (·.oneCell')=true:=by
  rcases h.1 with ⟨leaf,lv,iv,A,c,B,d,C,x,D,y,h1,h2,h3⟩ | ⟨k,hk,h1,h2⟩
  · exact ⟨_,_,h2,rfl,by simp [Value.oneCell']⟩
  · exact ⟨_,_,h2,rfl,by simp [Value.oneCell']⟩
theorem ld_range3 {w:World} {g:Nat} {s:LdS} (h:Blk w g 137 (ldA s)):w.rangeAt g 3 [.int .i64 s.hs,.int .i64 s.hg]:=fun j v hv=>by
  match j,hv with
  | 0,hv=>have e:some _=some v:=hv;rw [← e];exact h.cell' rfl
  | 1,hv=>have e:some _=some v:=hv;rw [← e];exact h.cell' rfl
  | k+2,hv=>simp at hv
set_option maxHeartbeats 4000000 in
theorem ldMade_ok {b0 g bx:Nat} {w:World} {s:LdS} (h:Ldr b0 w g s) (hx:Blk w bx 84 #[.pointer (some ⟨g,0,none⟩)]) (hs:∀ C ∈ s.L,RcOk C.R) (hl:s.L.length≤400) (h7:RwOkL (s.L.map toCh)) (he:∀ C ∈ s.L.map toCh,C.R.ents.length≤500) (hr:s.refs.length≤5000) :
  Calls Tryz.prog 59 #[.pointer (some ⟨bx,0,none⟩)] w fun e w'=>∃ v,e=.returned v∧LdMade w.heap.size s w v w':=by
 obtain ⟨w0,hw0⟩:∃ z,z=w.alloc (.cells pgZ 40):=⟨_,rfl⟩
 have f0:Fr none_ w w0:=by rw [hw0];exact (Fr.refl none_ w).alloc _
 have BZ:Hid (Blk w0 w.heap.size 40 pgZ):=hid_ (by rw [hw0];exact Blk.new w _ _)
 have H:=hid_ (h.keep f0)
 have BX:=hid_ (hx.fr f0 id)
 have F0:=hid_ f0
 have HS:=hid_ (And.intro hs (And.intro hl (And.intro h7 (And.intro he hr))))
 have hsz0:=BZ.out.lt
 clear h hx hs hl h7 he hr f0
 go_enter Tryz.func59,Tryz.ntmps59
 go_upto_region 1 with fail
 change Code.wp _ _ _ _ (w.alloc (.cells pgZ 40))
 rw [← hw0]
 clear hw0
 have hS0:(fun w':World=>Blk w' g 137 (ldA s)∧Blk w' bx 84 #[.pointer (some ⟨g,0,none⟩)]) w0.drew:=⟨H.out.b.drew,BX.out.drew⟩
 refine wp_region_u 21 (fun w':World=>Blk w' g 137 (ldA s)∧Blk w' bx 84 #[.pointer (some ⟨g,0,none⟩)]) (by kernel_rfl) ?_
 refine u_take 0 (some 3) (.pointer (some ⟨g,0,none⟩)) rfl rfl (by kernel_rfl) (by kernel_rfl) (by kernel_rfl) (by kernel_rfl) (fun _ _ _ h=>h) (y_cell 84 (.tmp 0) ⟨bx,0,none⟩ _ (by kernel_rfl) rfl (by kernel_rfl) (fun w' hS=>hS.2.cell' rfl) Tryz.underlying84 rfl) hS0 ?_
 go_frame
 refine u_take 1 (some 4) (.pointer (some ⟨g,0,none⟩)) rfl rfl (by kernel_rfl) (by kernel_rfl) (by kernel_rfl) (by kernel_rfl) (fun _ _ _ h=>h) (y_val (by kernel_rfl) (fun w' hS=>by kernel_rfl)) hS0 ?_
 go_frame
 refine u_take 2 (some 5) (.pointer (some ⟨g,0,none⟩)) rfl rfl (by kernel_rfl) (by kernel_rfl) (by kernel_rfl) (by kernel_rfl) (fun _ _ _ h=>h) (y_val (by kernel_rfl) (fun w' hS=>by kernel_rfl)) hS0 ?_
 go_frame
 refine u_take 3 (some 6) (.int .i64 s.n) rfl rfl (by kernel_rfl) (by kernel_rfl) (by kernel_rfl) (by kernel_rfl) (fun _ _ _ h=>h) (y_cell 3 (.tmp 5) ⟨g,0,none⟩ _ (by kernel_rfl) rfl (by kernel_rfl) (fun w' hS=>hS.1.cell' rfl) Tryz.underlying3 rfl) hS0 ?_
 go_frame
 refine u_take 4 (some 7) (.pointer (some ⟨g,0,none⟩)) rfl rfl (by kernel_rfl) (by kernel_rfl) (by kernel_rfl) (by kernel_rfl) (fun _ _ _ h=>h) (y_cell 84 (.tmp 0) ⟨bx,0,none⟩ _ (by kernel_rfl) rfl (by kernel_rfl) (fun w' hS=>hS.2.cell' rfl) Tryz.underlying84 rfl) hS0 ?_
 go_frame
 refine u_take 5 (some 8) (.pointer (some ⟨g,0,none⟩)) rfl rfl (by kernel_rfl) (by kernel_rfl) (by kernel_rfl) (by kernel_rfl) (fun _ _ _ h=>h) (y_val (by kernel_rfl) (fun w' hS=>by kernel_rfl)) hS0 ?_
 go_frame
 refine u_take 6 (some 9) (.pointer (some ⟨g,3,none⟩)) rfl rfl (by kernel_rfl) (by kernel_rfl) (by kernel_rfl) (by kernel_rfl) (fun _ _ _ h=>h) (y_val (by kernel_rfl) (fun w' hS=>by kernel_rfl)) hS0 ?_
 go_frame
 refine u_take 7 (some 10) (.agg #[.int .i64 s.hs,.int .i64 s.hg]) rfl rfl (by kernel_rfl) (by kernel_rfl) (by kernel_rfl) (by kernel_rfl) (fun _ _ _ h=>h) (yieldsIf_load_mid (by kernel_rfl) 23 (.tmp 9) rfl g 3 (by kernel_rfl) [.int .i64 s.hs,.int .i64 s.hg] _ (fun w' hS=>ld_range3 hS.1) Tryz.underlying23 rfl ref_size9) hS0 ?_
 go_frame
 refine u_take 8 (some 11) (.pointer (some ⟨g,0,none⟩)) rfl rfl (by kernel_rfl) (by kernel_rfl) (by kernel_rfl) (by kernel_rfl) (fun _ _ _ h=>h) (y_cell 84 (.tmp 0) ⟨bx,0,none⟩ _ (by kernel_rfl) rfl (by kernel_rfl) (fun w' hS=>hS.2.cell' rfl) Tryz.underlying84 rfl) hS0 ?_
 go_frame
 refine u_take 9 (some 12) (.pointer (some ⟨g,0,none⟩)) rfl rfl (by kernel_rfl) (by kernel_rfl) (by kernel_rfl) (by kernel_rfl) (fun _ _ _ h=>h) (y_val (by kernel_rfl) (fun w' hS=>by kernel_rfl)) hS0 ?_
 go_frame
 refine u_take 10 (some 13) (.pointer (some ⟨g,7,none⟩)) rfl rfl (by kernel_rfl) (by kernel_rfl) (by kernel_rfl) (by kernel_rfl) (fun _ _ _ h=>h) (y_val (by kernel_rfl) (fun w' hS=>by kernel_rfl)) hS0 ?_
 go_frame
 refine u_take 11 (some 14) (.slice s.A s.L.length s.c) rfl rfl (by kernel_rfl) (by kernel_rfl) (by kernel_rfl) (by kernel_rfl) (fun _ _ _ h=>h) (y_cell 24 (.tmp 13) ⟨g,7,none⟩ _ (by kernel_rfl) rfl (by kernel_rfl) (fun w' hS=>hS.1.cell' rfl) Tryz.underlying24 rfl) hS0 ?_
 go_frame
 refine u_take 12 (some 15) (.pointer (some ⟨g,0,none⟩)) rfl rfl (by kernel_rfl) (by kernel_rfl) (by kernel_rfl) (by kernel_rfl) (fun _ _ _ h=>h) (y_cell 84 (.tmp 0) ⟨bx,0,none⟩ _ (by kernel_rfl) rfl (by kernel_rfl) (fun w' hS=>hS.2.cell' rfl) Tryz.underlying84 rfl) hS0 ?_
 go_frame
 refine u_take 13 (some 16) (.pointer (some ⟨g,0,none⟩)) rfl rfl (by kernel_rfl) (by kernel_rfl) (by kernel_rfl) (by kernel_rfl) (fun _ _ _ h=>h) (y_val (by kernel_rfl) (fun w' hS=>by kernel_rfl)) hS0 ?_
 go_frame
 refine u_take 14 (some 17) (.pointer (some ⟨g,8,none⟩)) rfl rfl (by kernel_rfl) (by kernel_rfl) (by kernel_rfl) (by kernel_rfl) (fun _ _ _ h=>h) (y_val (by kernel_rfl) (fun w' hS=>by kernel_rfl)) hS0 ?_
 go_frame
 refine u_take 15 (some 18) (.slice s.B s.refs.length s.e) rfl rfl (by kernel_rfl) (by kernel_rfl) (by kernel_rfl) (by kernel_rfl) (fun _ _ _ h=>h) (y_cell 27 (.tmp 17) ⟨g,8,none⟩ _ (by kernel_rfl) rfl (by kernel_rfl) (fun w' hS=>hS.1.cell' rfl) Tryz.underlying27 rfl) hS0 ?_
 go_frame
 clear hS0
 refine u_callE 16 (some 19) 9 #[.int .i64 s.n,.agg #[.int .i64 s.hs,.int .i64 s.hg],.slice s.A s.L.length s.c,.slice s.B s.refs.length s.e] (fun v w'=>LdMade w.heap.size s w v w'∧Fr none_ w0 w') rfl rfl (by kernel_rfl) (by kernel_rfl) (by kernel_rfl) ((of_okO s.n s.hs s.hg s.A s.L.length s.c (s.L.map toCh) s.refs s.B s.e w0.drew ((H.out.ch HS.out.1).keep (Fr.refl none_ w0).drew) HS.out.2.1 HS.out.2.2.1 HS.out.2.2.2.1 (Reads.of_own (own_none H.out.r (Fr.refl none_ w0).drew)) HS.out.2.2.2.2).mono (fun e w' hh=>?_)) ?_
 ·have hfr:Fr none_ w0.drew w':=by rcases hh with ⟨_,_,_,_,_,_,_,_,_,_,_,_,_,_,h4⟩ | ⟨_,_,_,_,h4⟩ <;> exact h4
  have he:∃ v,e=.returned v:=by rcases hh with ⟨_,_,_,_,_,_,_,_,_,_,_,_,h2,_⟩ | ⟨_,_,_,h2,_⟩ <;> exact ⟨_,h2⟩
  obtain ⟨v,rfl⟩:=he
  exact ⟨v,rfl,LdMade.of hh (F0.out.then_none (Fr.refl none_ w0).drew) (by have:=F0.out.size;simp;omega),(Fr.refl none_ w0).drew.then_none hfr⟩
 intro v w5 hh
 obtain ⟨pv,ev,rfl,hps,hpo⟩:=hh.1.shape
 have LM:=hid_ hh.1
 have BZ5:=hid_ (BZ.out.fr hh.2 id)
 have hS5:(fun w':World=>Blk w' g 137 (ldA s)∧Blk w' bx 84 #[.pointer (some ⟨g,0,none⟩)]) w5:=⟨H.out.b.fr hh.2 id,BX.out.fr hh.2 id⟩
 have FR5:=hid_ hh.2
 have hsz5:=hh.2.size
 clear hh
 refine ⟨hS5,?_⟩
 go_frame
 refine u_take 17 (some 20) (.agg pv) rfl rfl (by kernel_rfl) (by kernel_rfl) (by kernel_rfl) (by kernel_rfl) (fun _ _ _ h=>h) (y_val (by kernel_rfl) (fun w' hS=>by kernel_rfl)) hS5 ?_
 go_frame
 refine u_take 18 (some 21) (ev) rfl rfl (by kernel_rfl) (by kernel_rfl) (by kernel_rfl) (by kernel_rfl) (fun _ _ _ h=>h) (y_val (by kernel_rfl) (fun w' hS=>by kernel_rfl)) hS5 ?_
 go_frame
 clear hS5
 have S5:Hid ((fun w':World=>Blk w' g 137 (ldA s)∧Blk w' bx 84 #[.pointer (some ⟨g,0,none⟩)]) w5):=hid_ ⟨H.out.b.fr FR5.out id,BX.out.fr FR5.out id⟩
 refine u_store 19 40 (.tmp 1) (.tmp 20) w.heap.size 0 pv rfl rfl (by kernel_rfl) (by kernel_rfl) rfl (by kernel_rfl) (by kernel_rfl) (by rw [hps];exact BZ5.out.there7 rfl) (by rw [hps];exact page_size) hpo ?_
 intro w6 hw6
 have ov:=BZ5.out.over7 pv.toList (by simp [hps])
 rw [← hw6] at ov
 have OV:=hid_ ov
 have LM6:=hid_ (LM.out.only BZ5.out ov.2 (Nat.le_refl _))
 have S6:Hid ((fun w':World=>Blk w' g 137 (ldA s)∧Blk w' bx 84 #[.pointer (some ⟨g,0,none⟩)]) w6):=hid_ ⟨S5.out.1.fr ov.2 (only_ne (Blk.ne_ S5.out.1 BZ5.out (by decide))),S5.out.2.fr ov.2 (only_ne (Blk.ne_ S5.out.2 BZ5.out (by decide)))⟩
 clear hw6 ov
 refine ⟨S6.out,?_⟩
 refine u_run 20 (some 2) ev w6 rfl rfl (by kernel_rfl) (by kernel_rfl) (by kernel_rfl) (.inr S6.out) ?_
 go_frame
 refine u_done (by kernel_rfl) ?_
 go_wp2_with fail
 refine bodyPost_ret (results_cell_tmp7 _ _ rfl w.heap.size 0 pv.toList _ rfl (Blk.range7 (l:=pv.toList) (by simpa using OV.out.1)) Tryz.underlying40 rfl (by rw [Array.length_toList,hps];exact page_size)) rfl ⟨_,rfl,?_⟩
 simpa using LM6.out
open Go.RowKit Go.BigFrame

theorem page_boxes (w:World) (v:Value):∃ w0,w0=(w.alloc (.cells #[v] 84)).alloc (.cells pgZ 40)∧Fr none_ w w0∧Blk w0 w.heap.size 84 #[v]∧Blk w0 (w.heap.size+1) 40 pgZ:=
  ⟨_,rfl,((Fr.refl none_ w).alloc _).alloc _,(Blk.new w _ _).alloc _,Blk.new7 _ _ (by simp)⟩
theorem LdMade.wide {b0 b1:Nat} {s:LdS} {w w1 w':World} {v:Value} (h:LdMade b1 s w1 v w') (hf:Fr none_ w w1) (hb:b0≤b1):LdMade b0 s w v w':=by
  obtain ⟨h,hf0⟩:=h
  refine ⟨?_,hf.then_none hf0⟩
  rcases h with ⟨leaf,lv,iv,A,c,B,d,C,x,D,y,h1,h2,h3⟩ | h
  · exact .inl ⟨leaf,lv,iv,A,c,B,d,C,x,D,y,h1,h2,h3.base hb⟩
  · exact .inr h
set_option maxHeartbeats 4000000 in
theorem ldPage_made {b0 g:Nat} {w:World} {s:LdS} (h:Ldr b0 w g s) (ho:s.over=true) (hv:s.ve=.nilIface) (hs:∀ C ∈ s.L,RcOk C.R) (hl:s.L.length≤400) (h7:RwOkL (s.L.map toCh)) (he:∀ C ∈ s.L.map toCh,C.R.ents.length≤500) (hr:s.refs.length≤5000) :
    Calls Tryz.prog 25 #[.pointer (some ⟨g,0,none⟩)] w fun e w'=>∃ v,e=.returned v∧LdMade w.heap.size s w v w':=by
  obtain ⟨w0,hw0,f0,bx,bz⟩:=page_boxes w (.pointer (some ⟨g,0,none⟩))
  have BX:=hid_ bx
  have BZ:=hid_ bz
  have F0:=hid_ f0
  have H:=hid_ (h.keep f0)
  have HS:=hid_ (And.intro hs (And.intro hl (And.intro h7 (And.intro he hr))))
  have x0:w0.cell? ⟨w.heap.size,0,none⟩=some (.pointer (some ⟨g,0,none⟩)):=bx.cell' rfl
  have g2:w0.cell? ⟨g,2,none⟩=some (.bool true):=by rw [← ho];exact H.out.b.cell' rfl
  have g9:w0.cell? ⟨g,9,none⟩=some .nilIface:=by rw [← hv];exact H.out.b.cell' rfl
  have hsz0:=f0.size
  have hbl:=bz.lt
  clear bx bz f0 h ho hv hs hl h7 he hr
  go_enter Tryz.func25,Tryz.ntmps25
  go_upto_region 1 with fail
  change Code.wp _ _ _ _ ((w.alloc (.cells #[.pointer (some ⟨g,0,none⟩)] 84)).alloc (.cells pgZ 40))
  rw [← hw0]
  clear hw0
  go_wp2_with fail
  refine (ldMade_ok H.out BX.out HS.out.1 HS.out.2.1 HS.out.2.2.1 HS.out.2.2.2.1 HS.out.2.2.2.2).mono ?_
  rintro e w5 ⟨v,rfl,hm⟩
  obtain ⟨pv,ev,rfl,hps,hpo⟩:=hm.shape
  have LM:=hid_ hm
  have BZ5:=hid_ (BZ.out.fr hm.2 id)
  clear hm x0 g2 g9
  go_wp2_with (refine wpList_store_mid rfl 40 (.tmp 2) (.tmp 32) rfl (w.heap.size+1) 0 pv rfl rfl (by rw [hps];exact BZ5.out.there7 rfl) (by rw [hps];exact page_size) hpo ?_;have ov:=BZ5.out.over7 pv.toList (by simp [hps]);obtain ⟨w9,hw9⟩:∃ z,z=w5.setCells (w.heap.size+1) 0 pv.toList:=⟨_,rfl⟩;rw [← hw9] at ov;change wpList _ _ _ _ _ (w5.setCells (w.heap.size+1) 0 pv.toList);rw [← hw9];have OV:=hid_ ov;clear hw9 ov)
  refine bodyPost_ret (results_cell_tmp7 _ _ rfl (w.heap.size+1) 0 pv.toList _ rfl (Blk.range7 (l:=pv.toList) (by simpa using OV.out.1)) Tryz.underlying40 rfl (by rw [Array.length_toList,hps];exact page_size)) rfl ⟨_,rfl,?_⟩
  have hfin:=(LM.out.wide F0.out hsz0).only BZ5.out OV.out.2 (by omega)
  simpa using hfin
open Go.RowKit Go.BigFrame

structure LdPh (ss:List Sl) (js:List Nat) (n s0 g0:Int) (p:Nat) (s:LdS):Prop where
  nn:s.n=n
  bg:s.begun=decide (0 < p)
  ov:s.over=decide (p=js.length+1)
  le:p≤js.length+1
  hd:0 < p→s.hs=s0∧s.hg=g0
  ls:s.L.map (·.R)=(js.take (p - 1)).map (recOf ss)
  rs:s.refs=(js.take (p - 1)).map (refOf ss)
  nx:0 < p→Links ss (js.drop (p - 1)) s.ns s.ng
  ve:s.ve=.nilIface
theorem LdPh.new (ss:List Sl) (js:List Nat) (n s0 g0:Int):LdPh ss js n s0 g0 0 (LdS.new n):=
  ⟨rfl,rfl,by simp,Nat.zero_le _,fun h=>absurd h (Nat.lt_irrefl 0),rfl,rfl,fun h=>absurd h (Nat.lt_irrefl 0),rfl⟩
theorem LdPh.len {ss:List Sl} {js:List Nat} {n s0 g0:Int} {p:Nat} {s:LdS} (h:LdPh ss js n s0 g0 p s):s.L.length=p - 1∧s.refs.length=p - 1:=by
  have hle:=h.le
  refine ⟨?_,?_⟩
  · have:=congrArg List.length h.ls
    simp only [List.length_map,List.length_take] at this
    omega
  · have:=congrArg List.length h.rs
    simp only [List.length_map,List.length_take] at this
    omega
theorem links_zero {ss:List Sl}:∀ {js:List Nat} {s g:Int},Links ss js s g→(s=0∧g=0 ↔ js=[])
  | [],s,g,h=>⟨fun _=>rfl,fun _=>h⟩
  | j :: r,s,g,h=>by
    obtain ⟨h1,_⟩:=h
    constructor
    · rintro ⟨h2,_⟩;omega
    · intro h2;cases h2
theorem load_links {ss:List Sl} {j:Nat} {r:List Nat} {s g:Int} {R:Rc} {k:Int} (h:Links ss (j :: r) s g) (hl:LoadR ss s g R k):k=0∧R=recOf ss j∧(s,g)=refOf ss j∧Links ss r R.nslot R.ngen:=by
  obtain ⟨h1,y,h2,h3,h4,h5⟩:=h
  rcases hl with ⟨i,t,e1,e2,e3,e4,e5,e6⟩ | ⟨e,_⟩
  · have hij:i=j:=by omega
    subst hij
    have ht:t=y:=by rw [h2] at e2;exact (Option.some.inj e2).symm
    subst ht
    refine ⟨e5,by rw [e6];unfold recOf;rw [slotD h2],?_,by rw [e6];exact h5⟩
    unfold refOf
    rw [slotD h2,h1,h4]
  · exfalso
    refine e ?_
    rcases atC_cases ss s g with ⟨e0,hno⟩ | ⟨i,z,f1,f2,f3⟩
    · have hlt:=(List.getElem?_eq_some_iff.1 h2).1
      omega
    · have hij:i=j:=by omega
      subst hij
      have ht:z=y:=by rw [h2] at f2;exact (Option.some.inj f2).symm
      subst ht
      rcases f3 with ⟨_,f4⟩ | ⟨f3,_⟩
      · exact absurd ⟨h3,h4⟩ f4
      · exact f3
def OwnStep (s s':LdS) (w:World):Prop:=
  (∀ k,(Value.slice s'.A s'.L.length s'.c).ownBlock=some k→(Value.slice s.A s.L.length s.c).ownBlock=some k∨w.heap.size≤k) ∧
  (∀ k,(Value.slice s'.B s'.refs.length s'.e).ownBlock=some k→(Value.slice s.B s.refs.length s.e).ownBlock=some k∨w.heap.size≤k)
set_option maxHeartbeats 4000000 in
theorem step_ph {b0 g m:Nat} {k:Int} {l:Lm} {x:St} {w:World} {s:LdS} {js:List Nat} {n s0 g0:Int} {p:Nat} (h:Ldr b0 w g s) (hm:Mm w m k l x) (hb:∀ i,mall m x i→i < b0) (h0:0≤k) (h1:k≤100000) (ph:LdPh x.ss js n s0 g0 p s) (hp:p≤js.length)
  (hpg:∃ i:Nat,n=(i:Int)∧x.ps[i]?=some (true,s0,g0)) (hl:Links x.ss js s0 g0) (hne:js≠[]) (hls:js.length≤l.s) (hl2:js.length≤4000) :
  Calls Tryz.prog 28 #[.pointer (some ⟨g,0,none⟩),.pointer (some ⟨m,0,none⟩)] w fun e w'=>∃ s',e=.returned (.bool (decide (p=js.length)))∧LdPh x.ss js n s0 g0 (p+1) s'∧Ldr b0 w' g s'∧Mm w' m (k+1) l x∧Fr (lown m x g s) w w'∧OwnStep s s' w:=by
 have hlen:0 < js.length:=List.length_pos_iff.2 hne
 have hov:s.over=false:=by rw [ph.ov];exact decide_eq_false (by omega)
 cases p with
 | zero =>
  have hbg:s.begun=false:=by rw [ph.bg];rfl
  refine (step_firstO h hm hb h0 h1 hov hbg).mono ?_
  rintro e w' ⟨a,b,c,v,hd,_,hmm,hf,hcase⟩
  obtain ⟨i,hi,hpi⟩:=hpg
  obtain ⟨rfl,rfl,rfl⟩:a=s0∧b=g0∧c=0:=by
   rw [ph.nn] at hd
   rcases hd with ⟨j,e1,e2,e3⟩ | ⟨e,_⟩
   ·have hij:i=j:=by omega
    subst hij
    have e4:(true,s0,g0)=(true,a,b):=Option.some.inj (hpi.symm.trans e2)
    simp only [Prod.mk.injEq] at e4
    exact ⟨e4.2.1.symm,e4.2.2.symm,e3⟩
   ·exact absurd (by rw [hi];exact pgC_used hpi) e
  rcases hcase with ⟨e1,_⟩ | ⟨_,e1,e2,_⟩ | ⟨_,_,e1,e2⟩
  ·exact absurd rfl e1
  ·exact absurd ((links_zero hl).1 ⟨e1,e2⟩) hne
  ·refine ⟨{ s with begun:=true,hs:=a,hg:=b,ns:=a,ng:=b },by rw [e1,show decide (0=js.length)=false from decide_eq_false (by omega)],⟨ph.nn,rfl,?_,by omega,fun _=>⟨rfl,rfl⟩,ph.ls,ph.rs,fun _=>hl,ph.ve⟩,e2,hmm,hf,fun k hk=>.inl hk,fun k hk=>.inl hk⟩
   show s.over=_
   rw [hov]
   exact (decide_eq_false (by omega)).symm
 | succ q =>
  have hbg:s.begun=true:=by rw [ph.bg];exact decide_eq_true (by omega)
  have hlq:=ph.len
  simp only [Nat.add_sub_cancel] at hlq
  refine (step_nextO h hm hb h0 h1 hov hbg (by omega) (by omega)).mono ?_
  rintro e w' ⟨R,A,c,B,d,kk,v,hld,_,hmm,hf,hcase⟩
  have hq:q < js.length:=by omega
  have hnx:=ph.nx (by omega)
  simp only [Nat.add_sub_cancel] at hnx
  rw [List.drop_eq_getElem_cons hq] at hnx
  obtain ⟨rfl,hR,hrf,hrest⟩:=load_links hnx hld
  rcases hcase with ⟨e1,_⟩ | ⟨_,A',c',B',d',ov,ve,e1,e2,ho1,ho2,hc⟩
  ·exact absurd rfl e1
  have hfin:ov=decide (q+1=js.length)∧ve=.nilIface:=by
   have hz:=links_zero hrest
   have hdl:js.drop (q+1)=[] ↔ js.length≤q+1:=List.drop_eq_nil_iff
   rcases hc with ⟨z1,z2,z3,z4⟩ | ⟨z1,z2,_,_⟩ | ⟨z1,_,z3,z4⟩
   ·have:=hdl.1 (hz.1 ⟨z1,z2⟩)
    exact ⟨by rw [z3];exact (decide_eq_true (by omega)).symm,z4⟩
   ·exfalso
    have:¬ js.length≤q+1:=fun hle=>z1 (hz.2 (hdl.2 hle))
    omega
   ·have:¬ js.length≤q+1:=fun hle=>z1 (hz.2 (hdl.2 hle))
    exact ⟨by rw [z3];exact (decide_eq_false (by omega)).symm,by rw [z4];exact ph.ve⟩
  refine ⟨⟨s.n,s.begun,ov,s.hs,s.hg,R.nslot,R.ngen,A',c',s.L ++ [⟨R,A,c,B,d⟩],B',d',s.refs ++ [(s.ns,s.ng)],ve⟩,by rw [e1,hfin.1],⟨ph.nn,?_,?_,by omega,fun _=>ph.hd (by omega),?_,?_,fun _=>by simpa using hrest,hfin.2⟩,e2,hmm,hf,fun k hk=>ho1 k (by simpa using hk),fun k hk=>ho2 k (by simpa using hk)⟩
  ·show s.begun=_
   rw [hbg]
   exact (decide_eq_true (by omega)).symm
  ·show ov=_
   rw [hfin.1]
   simp
  ·have hls':=ph.ls
   simp only [Nat.add_sub_cancel] at hls' ⊢
   rw [List.take_add_one,List.getElem?_eq_getElem hq,List.map_append,List.map_append,hls']
   simp [hR]
  ·have hrs':=ph.rs
   simp only [Nat.add_sub_cancel] at hrs' ⊢
   rw [List.take_add_one,List.getElem?_eq_getElem hq,List.map_append,hrs']
   simp [hrf]
theorem links_set {ss:List Sl} {i:Nat} {y:Sl}:∀ {js:List Nat} {s g:Int},Links ss js s g→(∀ j ∈ js,j≠i)→Links (ss.set i y) js s g
  | [],s,g,h,_=>h
  | j :: r,s,g,h,hn=>by
    obtain ⟨h1,z,h2,h3,h4,h5⟩:=h
    exact ⟨h1,z,by rw [List.getElem?_set_ne (Ne.symm (hn j (by simp)))];exact h2,h3,h4,links_set h5 (fun q hq=>hn q (by simp [hq]))⟩
theorem links_used {ss:List Sl}:∀ {js:List Nat} {s g:Int},Links ss js s g→∀ j ∈ js,∃ y,ss[j]?=some y∧y.used=true
  | [],_,_,_,j,hj=>by cases hj
  | i :: r,s,g,h,j,hj=>by
    obtain ⟨_,z,h2,h3,_,h5⟩:=h
    rcases List.mem_cons.1 hj with rfl | hj
    · exact ⟨z,h2,h3⟩
    · exact links_used h5 j hj
theorem rec_set {ss:List Sl} {i:Nat} {y:Sl} {js:List Nat} (hn:∀ j ∈ js,j≠i):js.map (recOf (ss.set i y))=js.map (recOf ss)∧js.map (refOf (ss.set i y))=js.map (refOf ss):=by
  have e:∀ j ∈ js,(ss.set i y).getD j Sl.zero=ss.getD j Sl.zero:=fun j hj=>by
    simp only [List.getD_eq_getElem?_getD]
    rw [List.getElem?_set_ne (Ne.symm (hn j hj))]
  exact ⟨List.map_congr_left fun j hj=>by unfold recOf;rw [e j hj],List.map_congr_left fun j hj=>by unfold refOf;rw [e j hj]⟩
theorem links_alloc {last:Int} {ss ss':List Sl} {R:Rc} {sl gn c s g:Int} {js:List Nat} (h:Links ss js s g) (ha:AllocR last ss R sl gn c ss'):Links ss' js s g∧js.map (recOf ss')=js.map (recOf ss)∧js.map (refOf ss')=js.map (refOf ss):=by
  rcases ha with ⟨i,t,vr,ve,h1,⟨h2,_⟩,_,_,_,_,rfl⟩ | ⟨_,_,_,_,rfl⟩
  · have hn:∀ j ∈ js,j≠i:=fun j hj e=>by
      obtain ⟨y,hy,hu⟩:=links_used h j hj
      rw [e,h1] at hy
      cases hy
      rw [h2] at hu
      cases hu
    exact ⟨links_set h hn,(rec_set hn).1,(rec_set hn).2⟩
  · exact ⟨h,rfl,rfl⟩
theorem links_push {last:Int} {ss ss':List Sl} {R:Rc} {sl gn s g:Int} {js:List Nat} (h:Links ss js s g) (ha:AllocR last ss R sl gn 0 ss') (hR:R.nslot=s∧R.ngen=g):∃ i,Links ss' (i :: js) sl gn∧recOf ss' i=R∧js.map (recOf ss')=js.map (recOf ss)∧js.map (refOf ss')=js.map (refOf ss):=by
  have hla:=links_alloc h ha
  rcases ha with ⟨i,t,vr,ve,h1,_,_,rfl,rfl,_,rfl⟩ | ⟨_,_,_,hc,_⟩
  · have hl:=(List.getElem?_eq_some_iff.1 h1).1
    have hs:(ss.set i ⟨t.gen+1,true,R,vr,ve⟩)[i]?=some ⟨t.gen+1,true,R,vr,ve⟩:=by rw [List.getElem?_set_self hl]
    refine ⟨i,⟨rfl,_,hs,rfl,rfl,?_⟩,by unfold recOf;rw [slotD hs],hla.2.1,hla.2.2⟩
    show Links _ js R.nslot R.ngen
    rw [hR.1,hR.2]
    exact hla.1
  · exact absurd hc.symm (allocErr_pos ss)
open Go.RowKit Go.BigFrame

theorem memCount_ok {m:Nat} {k:Int} {l:Lm} {x:St} (w:World) (h:Mm w m k l x):Calls Tryz.prog 23 #[.pointer (some ⟨m,0,none⟩)] w fun e w'=>e=.returned (.int .i64 k)∧w=w':=by
  have c0:w.cell? ⟨m,0,none⟩=some (.int .i64 k):=h.b.cell' rfl
  clear h
  go_enter Tryz.func23,Tryz.ntmps23
  go_wp2
  go_ret
  exact ⟨rfl,rfl⟩
theorem Mm.mall_lt {w:World} {m:Nat} {k:Int} {l:Lm} {x:St} (h:Mm w m k l x):∀ i,mall m x i→i < w.heap.size:=by
  obtain ⟨cs,hG,_⟩:=h.ar.hG
  obtain ⟨cap,cur,hT0,hH,_⟩:=id h.tb
  rintro i (e | e | e | e | e)
  · rw [e];exact h.b.lt
  · rw [e];exact hG.lt
  · rw [e];exact hH.lt
  · rw [e];exact h.ck.hC.lt
  · obtain ⟨es,clock,hm,r⟩:=h.ck.hM
    rw [e]
    rcases Nat.lt_or_ge x.M w.heap.size with h1 | h1
    · exact h1
    · rw [Array.getElem?_eq_none h1] at hm;cases hm
abbrev lim10:Lm:=⟨100,4,2,4,4,99⟩
theorem lim10_right:lim10.Right:=⟨by decide,by decide,by decide,by decide,by decide,by decide⟩
theorem limits10_ok (w:World):Calls Tryz.prog 19 #[] w fun e w'=>e=.returned (.agg (lmA lim10))∧Fr none_ w w':=by
  obtain ⟨w0,hw0⟩:∃ z,z=w.alloc (.cells #[.int .i64 0,.int .i64 0,.int .i64 0,.int .i64 0,.int .i64 0,.int .i64 0] 67):=⟨_,rfl⟩
  have f0:Fr none_ w w0:=by rw [hw0];exact (Fr.refl none_ w).alloc _
  have BZ:Hid (Blk w0 w.heap.size 67 #[.int .i64 0,.int .i64 0,.int .i64 0,.int .i64 0,.int .i64 0,.int .i64 0]):=hid_ (by rw [hw0];exact Blk.new w _ _)
  have F0:=hid_ f0
  clear f0
  go_enter Tryz.func19,Tryz.ntmps19
  go_upto_region 1 with fail
  change Code.wp _ _ _ _ (w.alloc (.cells #[.int .i64 0,.int .i64 0,.int .i64 0,.int .i64 0,.int .i64 0,.int .i64 0] 67))
  rw [← hw0]
  clear hw0
  go_wp2_with (refine wpList_store_mid rfl 67 (.tmp 0) (.tmp 1) rfl w.heap.size 0 (lmA lim10) rfl rfl (BZ.out.there9 rfl) lim_size9 (by simp [Value.oneCell']) ?_;have ov:=BZ.out.over9 (lmA lim10).toList rfl;obtain ⟨w9,hw9⟩:∃ z,z=w0.setCells w.heap.size 0 (lmA lim10).toList:=⟨_,rfl⟩;rw [← hw9] at ov;change wpList _ _ _ _ _ (w0.setCells w.heap.size 0 (lmA lim10).toList);rw [← hw9];have OV:=hid_ ov;clear hw9 ov)
  exact bodyPost_ret (results_cell7 _ _ rfl w.heap.size 0 (lmA lim10).toList _ rfl (Blk.range7 (l:=(lmA lim10).toList) OV.out.1) Tryz.underlying67 rfl lim_size9) rfl ⟨rfl,F0.out.then_only OV.out.2 (.inr (Nat.le_refl _))⟩
theorem lt_nil10 (x:ByteArray):ltS x nilS=false:=by
  rcases ltS_total x nilS with h | h | h
  · exfalso
    have h2:ltL x.data.toList []=true:=h
    cases hx:x.data.toList <;> rw [hx] at h2 <;> simp [ltL] at h2
  · rw [h];exact ltS_irrefl _
  · exact ltS_asymm h
abbrev lvZ10:Lw:=⟨nilS,nilS,true,0,[],false⟩
theorem of_leaf10:ofM [leafR]=some (true,lvZ10,Vw.zero):=by
  unfold ofM
  rw [if_pos (by rfl),foldL_one leafR rfl ⟨fun _=>rfl,⟨(fun p hp=>by cases hp),(fun i p q hp hq=>by simp at hp)⟩,(fun p hp=>by cases hp)⟩]
  rfl
theorem leafR_ok:RcOk leafR:=⟨SzOk.nil,SzOk.nil,SzOk.nil,SzOk.nil,⟨Nat.zero_le _,fun p hp=>by cases hp⟩⟩
abbrev ss10 (vr ve:Value):List Sl:=⟨1,true,leafR,vr,ve⟩ :: List.replicate (lim10.s - 1) Sl.zero
abbrev ps10:List Pg:=(true,1,1) :: List.replicate (lim10.p - 1) (false,0,0)
theorem head10 {s g c:Int} (h:HeadR ps10 0 s g c):s=1∧g=1∧c=0:=by
  rcases h with ⟨i,hi,hp,hc⟩ | ⟨h,_⟩
  · obtain rfl:i=0:=by omega
    simp at hp
    exact ⟨hp.1.symm,hp.2.symm,hc⟩
  · exact absurd (pgC_used (i:=0) (ps:=ps10) (s:=1) (g:=1) rfl) h
theorem load10 {vr ve:Value} {R:Rc} {c:Int} (h:LoadR (ss10 vr ve) 1 1 R c):R=leafR∧c=0:=by
  rcases h with ⟨i,s,hi,hs,_,_,hc,hR⟩ | ⟨h,_⟩
  · obtain rfl:i=0:=by omega
    have hs':s=⟨1,true,leafR,vr,ve⟩:=by simpa using hs.symm
    rw [hR,hs']
    exact ⟨rfl,hc⟩
  · exact absurd (show atC (ss10 vr ve) 1 1=0 by rfl) h
set_option maxHeartbeats 8000000 in
theorem awake10_ok (w:World):Calls Tryz.prog 7 #[] w fun e w'=>e=.returned (.bool true)∧Fr none_ w w':=by
 go_enter Tryz.func7,Tryz.ntmps7
 go_wp2_with fail
 refine (limits10_ok w).mono ?_
 rintro e w0 ⟨rfl,hf0⟩
 have F0:=hid_ hf0
 clear hf0
 go_wp2_with fail
 refine (memNew_ok lim10 _ lim10_right).mono ?_
 rintro e w1 ⟨m,a,G,vr,ve,T,H,C,M,rfl,hM,hf1,hm1,hC1,hM1,hG1,hH1⟩
 obtain ⟨x,hx⟩:∃ x:St,x=⟨a,G,ss10 vr ve,T,H,ps10,C,M,1,0,.map []⟩:=⟨_,rfl⟩
 have HX:=hid_ hx
 have M1:Hid (Mm w1 m 0 lim10 x):=hid_ (by rw [hx];exact hM)
 have HN:Hid (∀ i,mall m x i→w.heap.size≤i):=hid_ (by
  have h0:=F0.out.size
  subst hx
  rintro i (e | e | e | e | e) <;> subst e <;> omega)
 have F1:=hid_ (F0.out.then_none hf1)
 clear hM hf1 hx hm1 hC1 hM1 hG1 hH1
 go_wp2_with fail
 refine (ldBegin_ok 0 w1).mono ?_
 rintro e w2 ⟨rfl,hL,hf2⟩
 have L2:=hid_ hL
 have M2:=hid_ (M1.out.keep hf2)
 have HB:=hid_ M1.out.mall_lt
 have F2:=hid_ (F1.out.then_none hf2)
 have HW:=hid_ F1.out.size
 clear hL hf2 M1
 have HPS:Hid (x.ps=ps10):=hid_ (by rw [HX.out])
 have HSS:Hid (x.ss=ss10 vr ve):=hid_ (by rw [HX.out])
 clear HX
 go_wp2_with fail
 refine (step_first L2.out M2.out HB.out (by omega) (by omega) rfl rfl).mono ?_
 rintro e w3 ⟨s0,g0,c0,v0,hhd,-,hm3,hf3,hcase⟩
 obtain ⟨rfl,rfl,rfl⟩:=head10 (by rw [← HPS.out];exact hhd)
 obtain ⟨rfl,hL3⟩:e=.returned (.bool false)∧Ldr w1.heap.size w3 w1.heap.size { LdS.new 0 with begun:=true,hs:=1,hg:=1,ns:=1,ng:=1 }:=by
  rcases hcase with ⟨h,_⟩ | ⟨_,h,_⟩ | ⟨_,_,h1,h2⟩
  ·exact absurd rfl h
  ·exact absurd h (by decide)
  ·exact ⟨h1,h2⟩
 have L3:=hid_ hL3
 have M3:=hid_ hm3
 have F3:Hid (Fr none_ w w3):=hid_ (F2.out.trans hf3 (fun _ _=>id) (fun i hi e=>by
  rcases e with e | e
  ·have:=HN.out i e;omega
  ·have:=HW.out;omega))
 clear hhd hcase hL3 hm3 hf3 L2 M2
 go_wp2_with fail
 refine (step_next L3.out M3.out HB.out (by omega) (by omega) rfl rfl (Nat.zero_le _) (Nat.zero_le _)).mono ?_
 rintro e w4 ⟨R,A,c,B,d,kk,v1,hld,-,hm4,hf4,hcase⟩
 obtain ⟨rfl,rfl⟩:=load10 (vr:=vr) (ve:=ve) (by rw [← HSS.out];exact hld)
 obtain ⟨A1,c1,B1,d1,rfl,hL4⟩:∃ (A1:Option Addr) (c1:Nat) (B1:Option Addr) (d1:Nat),e=.returned (.bool true)∧Ldr w1.heap.size w4 w1.heap.size ⟨0,true,true,1,1,0,0,A1,c1,[⟨leafR,A,c,B,d⟩],B1,d1,[(1,1)],.nilIface⟩:=by
  rcases hcase with ⟨h,_⟩ | ⟨_,A1,c1,B1,d1,ov,ve1,h1,h2,h3⟩
  ·exact absurd rfl h
  ·rcases h3 with ⟨_,_,rfl,rfl⟩ | ⟨h,_⟩ | ⟨h,_⟩
   ·exact ⟨A1,c1,B1,d1,h1,h2⟩
   ·exact absurd ⟨rfl,rfl⟩ h
   ·exact absurd ⟨rfl,rfl⟩ h
 have L4:=hid_ hL4
 have M4:=hid_ hm4
 have F4:Hid (Fr none_ w w4):=hid_ (F3.out.trans hf4 (fun _ _=>id) (fun i hi e=>by
  rcases e with e | e
  ·have:=HN.out i e;omega
  ·have:=HW.out;omega))
 clear hld hcase hL4 hm4 hf4 L3 M3
 go_wp2_with fail
 refine (ldPage_made L4.out rfl rfl (fun D hD=>by
  obtain rfl:D=⟨leafR,A,c,B,d⟩:=by simpa using hD
  exact leafR_ok) (show 1≤400 by omega) (fun D hD=>by
  obtain rfl:D=toCh ⟨leafR,A,c,B,d⟩:=by simpa using hD
  exact ⟨SzOk.nil,⟨Nat.zero_le _,fun p hp=>by cases hp⟩,Nat.zero_le _⟩) (fun D hD=>by
  obtain rfl:D=toCh ⟨leafR,A,c,B,d⟩:=by simpa using hD
  exact Nat.zero_le _) (show 1≤5000 by omega)).mono ?_
 rintro e w5 ⟨v,rfl,hmd⟩
 have F5:=hid_ (F4.out.then_none hmd.2)
 have M5:=hid_ (M4.out.keep hmd.2)
 obtain ⟨P,rfl,hpv,hpl,hpu,hll,hlh⟩:∃ P:Pz,v=.tuple #[.agg (pzA P),.nilIface]∧(pzA P).all (·.oneCell')=true∧P.leaf=true∧P.lv.unb=true∧P.lv.low=nilS∧P.lv.high=nilS:=by
  rcases hmd.1 with ⟨leaf,lv,iv,A2,c2,B2,d2,C2,x2,D2,y2,h1,h2,h3⟩ | ⟨k,_,h1,_⟩
  ·have h4:some (true,lvZ10,Vw.zero)=some (leaf,lv,iv):=of_leaf10.symm.trans h1
   simp only [Option.some.injEq,Prod.mk.injEq] at h4
   obtain ⟨rfl,rfl,rfl⟩:=h4
   exact ⟨⟨0,1,1,C2,1,x2,.slice D2 1 y2,true,lvZ10,A2,c2,Vw.zero,B2,d2⟩,h2,by simp [Value.oneCell'],rfl,rfl,rfl,rfl⟩
  ·exact absurd (of_leaf10.symm.trans h1) (by simp)
 have HPL:=hid_ hpl
 have HIN:Hid (SzOk P.low∧SzOk P.high∧inS P.low P.high P.unb ⟨#[97]⟩=true):=hid_ (by
  have e1:P.low=nilS:=by unfold Pz.low;rw [hpl,hll];rfl
  have e2:P.high=nilS:=by unfold Pz.high;rw [hpl,hlh];rfl
  have e3:P.unb=true:=by unfold Pz.unb;rw [hpl,hpu];rfl
  rw [e1,e2,e3]
  exact ⟨SzOk.nil,SzOk.nil,by simp [inS,lt_nil10]⟩)
 have HPU:=hid_ hpu
 have HPV:=hid_ hpv
 replace M5:Hid (Mm w5 m 2 lim10 x):=hid_ M5.out
 clear hmd hpv hpl hpu hll hlh M4
 go_upto_region 5 with (refine wpList_store_mid rfl 40 (.tmp 6) (.tmp 23) rfl w5.heap.size 0 (pzA P) rfl rfl (new_there w5 _ pgZ) page_size HPV.out ?_;obtain ⟨w6,hw6⟩:∃ z,z=(w5.alloc (.cells pgZ 40)).setCells w5.heap.size 0 (pzA P).toList:=⟨_,rfl⟩;change wpList _ _ _ _ _ ((w5.alloc (.cells pgZ 40)).setCells w5.heap.size 0 (pzA P).toList);rw [← hw6];have P6:Hid (Blk w6 w5.heap.size 40 (pzA P)∧Fr none_ w5 w6):=hid_ (by rw [hw6];exact new_copy w5 _ pgZ _ rfl);clear hw6)
 have M6:=hid_ (M5.out.keep P6.out.2)
 have F6:=hid_ (F5.out.then_none P6.out.2)
 have B6:=hid_ P6.out.1
 have p5:w6.cell? ⟨w5.heap.size,5,none⟩=some (.bool true):=by rw [← HPL.out];exact B6.out.cell' rfl
 have p8:w6.cell? ⟨w5.heap.size,8,none⟩=some (.bool true):=by rw [← HPU.out];exact B6.out.cell' rfl
 clear P6 M5 F5
 go_wp2_with (first | (refine wpList_load_mid rfl 40 (.tmp 6) rfl w5.heap.size 0 rfl (pzA P).toList _ (Blk.range7 (l:=(pzA P).toList) B6.out) Tryz.underlying40 rfl page_size ?_) | (refine wpList_load_midG (by kernel_rfl) 40 (.tmp 6) rfl w5.heap.size 0 rfl (pzA P).toList _ (Blk.range7 (l:=(pzA P).toList) B6.out) Tryz.underlying40 rfl page_size ?_))
 refine (phas_ok P ⟨#[97]⟩ w6 HIN.out.1 HIN.out.2.1 (by unfold SzOk;decide)).mono ?_
 rintro e w7 ⟨rfl,hf7⟩
 rw [HIN.out.2.2]
 have M7:=hid_ (M6.out.keep hf7)
 have F7:=hid_ (F6.out.then_none hf7)
 clear hf7 p5 p8
 go_wp2_with fail
 refine (memCount_ok w7 M7.out).mono ?_
 rintro e w8 ⟨rfl,rfl⟩
 go_wp2_with fail
 go_ret
 exact ⟨rfl,F7.out⟩
open Go.RowKit Go.BigFrame

structure PRec (R:Rc):Prop where
  ok:RcOk R
  val:SzOk R.val
  rows:RwsOk R.rows
  zr:R.rows.length≤500
  ze:R.ents.length≤500
structure Pst (x:St) (js:List Nat) (s0 g0:Int):Prop where
  pg:x.ps[0]?=some (true,s0,g0)
  li:Links x.ss js s0 g0
  rc:∀ j ∈ js,PRec (recOf x.ss j)
theorem Pst.head {x:St} {js:List Nat} {s0 g0 a b c:Int} (h:Pst x js s0 g0) (hh:HeadR x.ps 0 a b c):a=s0∧b=g0∧c=0:=by
  rcases hh with ⟨i,hi,hp,hc⟩ | ⟨e,_⟩
  · obtain rfl:i=0:=by omega
    have e4:(true,s0,g0)=(true,a,b):=Option.some.inj (h.pg.symm.trans hp)
    simp only [Prod.mk.injEq] at e4
    exact ⟨e4.2.1.symm,e4.2.2.symm,hc⟩
  · exact absurd (pgC_used (i:=0) h.pg) e
theorem Pst.alloc {x:St} {js:List Nat} {s0 g0 sl gn c last:Int} {R:Rc} {ss':List Sl} (h:Pst x js s0 g0) (ha:AllocR last x.ss R sl gn c ss'):Pst { x with ss:=ss' } js s0 g0:=by
  obtain ⟨h1,h2,_⟩:=links_alloc h.li ha
  refine ⟨h.pg,h1,fun j hj=>?_⟩
  have e:recOf ss' j=recOf x.ss j:=List.map_inj_left.1 h2 j hj
  show PRec (recOf ss' j)
  rw [e]
  exact h.rc j hj
theorem Pst.push {x:St} {js:List Nat} {s0 g0 sl gn last:Int} {R:Rc} {ss':List Sl} {ps':List Pg} {ok:Bool} {k:Int} (h:Pst x js s0 g0) (ha:AllocR last x.ss R sl gn 0 ss') (hR:PRec R) (hn:(R.nslot=s0∧R.ngen=g0)∨(R.nslot=0∧R.ngen=0))
    (hs:SwapR x.ps 0 s0 g0 sl gn ok k ps'):∃ js',Pst { x with ss:=ss',ps:=ps' } js' sl gn∧js'≠[]∧js'.length≤js.length+1:=by
  have hl:0 < x.ps.length:=(List.getElem?_eq_some_iff.1 h.pg).1
  have hp:ps'=x.ps.set 0 (true,sl,gn):=by
    rcases hs with ⟨i,s,g,hi,hpi,_,_,e⟩ | ⟨e,_⟩
    · obtain rfl:i=0:=by omega
      have e4:(true,s0,g0)=(true,s,g):=Option.some.inj (h.pg.symm.trans hpi)
      simp only [Prod.mk.injEq] at e4
      obtain ⟨_,rfl,rfl⟩:=e4
      rw [e]
      unfold swapPs
      rw [if_pos ⟨rfl,rfl⟩]
    · exact absurd (pgC_used (i:=0) h.pg) e
  have hp0:ps'[0]?=some (true,sl,gn):=by rw [hp,List.getElem?_set_self hl]
  rcases hn with hn | hn
  · obtain ⟨i,h1,h2,h3,_⟩:=links_push h.li ha hn
    refine ⟨i :: js,⟨hp0,h1,fun j hj=>?_⟩,by simp,by simp⟩
    rcases List.mem_cons.1 hj with rfl | hj
    · show PRec (recOf ss' j)
      rw [h2]
      exact hR
    · have e:recOf ss' j=recOf x.ss j:=List.map_inj_left.1 h3 j hj
      show PRec (recOf ss' j)
      rw [e]
      exact h.rc j hj
  · obtain ⟨i,h1,h2,_,_⟩:=links_push (js:=[]) (s:=0) (g:=0) ⟨rfl,rfl⟩ ha hn
    refine ⟨[i],⟨hp0,h1,fun j hj=>?_⟩,by simp,by simp⟩
    obtain rfl:j=i:=by simpa using hj
    show PRec (recOf ss' j)
    rw [h2]
    exact hR
theorem pst_new (vr ve:Value) (a G T H C M:Nat):Pst ⟨a,G,ss10 vr ve,T,H,ps10,C,M,1,0,.map []⟩ [0] 1 1:=
  ⟨rfl,⟨rfl,⟨1,true,leafR,vr,ve⟩,rfl,rfl,rfl,rfl,rfl⟩,fun j hj=>by
    obtain rfl:j=0:=by simpa using hj
    exact ⟨leafR_ok,SzOk.nil,⟨Nat.zero_le _,fun p hp=>by cases hp⟩,Nat.zero_le _,Nat.zero_le _⟩⟩
theorem LdPh.done {ss:List Sl} {js:List Nat} {n s0 g0:Int} {s:LdS} (h:LdPh ss js n s0 g0 (js.length+1) s):s.over=true∧s.ve=.nilIface∧s.hs=s0∧s.hg=g0∧s.L.map (·.R)=js.map (recOf ss)∧s.refs=js.map (refOf ss):=by
  have h1:=h.ls
  have h2:=h.rs
  simp only [Nat.add_sub_cancel,List.take_length] at h1 h2
  exact ⟨by rw [h.ov];simp,h.ve,(h.hd (by omega)).1,(h.hd (by omega)).2,h1,h2⟩
theorem LdPh.recs {ss:List Sl} {js:List Nat} {n s0 g0:Int} {p:Nat} {s:LdS} (h:LdPh ss js n s0 g0 p s) (hr:∀ j ∈ js,PRec (recOf ss j)):∀ C ∈ s.L,PRec C.R:=fun C hC=>by
  have hm:C.R ∈ s.L.map (·.R):=List.mem_map.2 ⟨C,hC,rfl⟩
  rw [h.ls] at hm
  obtain ⟨j,hj,e⟩:=List.mem_map.1 hm
  rw [← e]
  exact hr j (List.mem_of_mem_take hj)
open Go.RowKit Go.BigFrame

theorem own_side10 {w w':World} {b1 s1 n1 b2 s2 n2:Nat} {e1 e2:TypeId} {v1 v2:Value} {xs1 xs2:List Value} (h:w.ownsRow b1 e1 s1 v1 n1 xs1) (h2:w.ownsRow b2 e2 s2 v2 n2 xs2) (ne:e1≠e2) (hg:w.grownBy w' v2.ownBlock):w'.ownsRow b1 e1 s1 v1 n1 xs1:=
  own_fr h (Fr.grown (S:=fun b=>v2.ownBlock=some b) (Fr.refl _ _) hg (fun k hk=>.inl hk)) (fun i hi e=>own_own_ne h h2 ne i hi e)
theorem own_far10 {w w':World} {b1 s1 n1 X:Nat} {e1 t:TypeId} {v1:Value} {xs1:List Value} {cs:Array Value} (h:w.ownsRow b1 e1 s1 v1 n1 xs1) (hX:Blk w X t cs) (ne:e1≠t) (hf:Fr (only X) w w'):w'.ownsRow b1 e1 s1 v1 n1 xs1:=
  own_fr h hf (fun k hk e=>own_blk_ne h hX ne (by rw [hk,show k=X from e]))
theorem rf9_get10:∀ (l:List (Int × Int)) (j:Nat) (p:Int × Int),l[j]?=some p→(rf9Flat l)[j * 2]?=some (.int .i64 p.1)∧(rf9Flat l)[j * 2+1]?=some (.int .i64 p.2)
  | [],j,p,h=>by simp at h
  | q :: l,0,p,h=>by
    obtain rfl:q=p:=by simpa using h
    simp [rf9Flat]
  | q :: l,j+1,p,h=>by
    have:=rf9_get10 l j p (by simpa using h)
    have e:rf9Flat (q :: l)=[Value.int .i64 q.1,Value.int .i64 q.2] ++ rf9Flat l:=by simp [rf9Flat]
    rw [e,show (j+1) * 2=j * 2+2 by omega,show j * 2+2+1=j * 2+1+2 by omega]
    simpa using this
theorem crFlat_get10:∀ (L:List Cr) (k:Nat) (D:Cr),L[k]?=some D→∀ (j:Nat) (v:Value),(crA D).toList[j]?=some v→(crFlat L)[k * 15+j]?=some v
  | [],k,D,h,_,_,_=>by simp at h
  | q :: L,0,D,h,j,v,hv=>by
    obtain rfl:q=D:=by simpa using h
    have hj:j < (crA q).toList.length:=(List.getElem?_eq_some_iff.1 hv).1
    rw [Nat.zero_mul,Nat.zero_add]
    show (((q :: L).map fun C=>(crA C).toList).flatten)[j]?=some v
    rw [List.map_cons,List.flatten_cons,List.getElem?_append_left hj]
    exact hv
  | q :: L,k+1,D,h,j,v,hv=>by
    have:=crFlat_get10 L k D (by simpa using h) j v hv
    show (((q :: L).map fun C=>(crA C).toList).flatten)[(k+1) * 15+j]?=some v
    rw [List.map_cons,List.flatten_cons,List.getElem?_append_right (by simp;omega),show (k+1) * 15+j - (crA q).toList.length=k * 15+j by simp;omega]
    exact this
theorem lo_range {w:World} {b n lc lb loff k:Nat} {Cs:List Cr} {D:Cr} (h:w.ownsRow b 33 15 (.slice (some ⟨lb,loff,none⟩) n lc) n (crFlat Cs)) (hD:Cs[k]?=some D) (hk:k < n):w.rangeAt lb (loff+k * 15) (crA D).toList:=fun j v hv=>by
  obtain ⟨b2,o2,e,_,hc⟩:=reads_lit (Reads.of_own h) (by omega) (by omega)
  cases e
  have:=hc _ _ (crFlat_get10 Cs k D hD j v hv)
  rwa [← Nat.add_assoc] at this
theorem ro_range {w:World} {b n rc rb roff k:Nat} {rs:List (Int × Int)} {p:Int × Int} (h:w.ownsRow b 23 2 (.slice (some ⟨rb,roff,none⟩) n rc) n (rf9Flat rs)) (hp:rs[k]?=some p) (hk:k < n):w.rangeAt rb (roff+k * 2) [.int .i64 p.1,.int .i64 p.2]:=fun j v hv=>by
  obtain ⟨b2,o2,e,_,hc⟩:=reads_lit (Reads.of_own h) (by omega) (by omega)
  cases e
  have hr:=rf9_get10 rs k p hp
  match j,hv with
  | 0, hv => obtain rfl : Value.int .i64 p.1 = v := by simpa using hv
             exact hc _ _ hr.1
  | 1, hv => obtain rfl : Value.int .i64 p.2 = v := by simpa using hv
             exact hc _ _ hr.2
  | q+2,hv=>simp at hv
theorem ref_sz10:∀ w,(sizeOf 23).run Tryz.prog w=.ok 2 w:=fun w=>by kernel_rfl
theorem pg_sz10:∀ w,(sizeOf 135).run Tryz.prog w=.ok 3 w:=fun w=>by kernel_rfl
theorem rec_sz10s:∀ w,(sizeOf 33).run Tryz.prog w=.ok 15 w:=fun w=>by kernel_rfl
theorem ex_index15s {oi:Oper} {a:Act} (t e:TypeId) (x y:Operand) (b off n m c:Nat) (ho:oi.op=.indexAddr t x y) (hx:a.eval x=.slice (some ⟨b,off,none⟩) m c) (hy:a.eval y=.int .i64 n) (hu:Tryz.prog.underlying t=some (.slice e)) (hs:∀ w,(sizeOf e).run Tryz.prog w=.ok 15 w) (hn:n < m) (w:World) :
    (execOp a.eval oi).run Tryz.prog w=.ok (.value (.pointer (some ⟨b,off+n * 15,none⟩))) w:=by
  unfold execOp
  simp only [ho,hx,hy,Sem.run_bind,Sem.run_pure]
  have h0:(0:Int)≤(n:Int):=Int.natCast_nonneg _
  have h1:(n:Int) < (m:Int):=by omega
  simp [go_sem,hu,hs,h0,h1]
theorem ex_index0 {oi:Oper} {a:Act} (t e:TypeId) (z:Nat) (x:Operand) (b off m c:Nat) (ho:oi.op=.indexAddr t x (.const (.int .i64 0))) (hx:a.eval x=.slice (some ⟨b,off,none⟩) m c) (hu:Tryz.prog.underlying t=some (.slice e)) (hs:∀ w,(sizeOf e).run Tryz.prog w=.ok z w) (hn:0 < m) (w:World) :
    (execOp a.eval oi).run Tryz.prog w=.ok (.value (.pointer (some ⟨b,off,none⟩))) w:=by
  unfold execOp
  have hy:a.eval (.const (.int .i64 0))=.int .i64 0:=rfl
  simp only [ho,hx,hy,Sem.run_bind,Sem.run_pure]
  have h1:¬ m=0:=by omega
  simp [go_sem,hu,hs,h1]
def ptOf (r:Int × Int) (C:Cr):RaP:=⟨r.1,r.2,C.R,C.A,C.c,C.B,C.d,true⟩
def ptsOf (ss:List Sl) (js:List Nat) (Cs:List Cr):List RaP:=List.zipWith ptOf (js.map (refOf ss)) Cs
theorem ptsOf_len {ss:List Sl} {js:List Nat} {Cs:List Cr} (h:Cs.length=js.length):(ptsOf ss js Cs).length=js.length:=by simp [ptsOf,h]
theorem ptsOf_get {ss:List Sl} {js:List Nat} {Cs:List Cr} {k j:Nat} {C:Cr} (hj:js[k]?=some j) (hC:Cs[k]?=some C):(ptsOf ss js Cs)[k]?=some (ptOf (refOf ss j) C):=by
  unfold ptsOf
  rw [List.getElem?_zipWith,List.getElem?_map,hj,hC]
  rfl
structure Shw (w:World) (ss:List Sl) (js:List Nat) (LP:List RaP) (PA:Option Addr) (pc:Nat):Prop where
  ra:RaIn w LP PA pc
  len:LP.length=js.length
  eq:∀ (k j:Nat),js[k]?=some j→∃ p,LP[k]?=some p∧(p.xs,p.xg)=refOf ss j∧p.R=recOf ss j∧p.live=true
  cap:∀ p ∈ LP,(p.R.rows.length≤p.c∧p.c≤maxLen)∧p.R.ents.length≤p.d∧p.d≤maxLen
  own:∀ p ∈ LP,RecOwn w 0 p.R (.slice p.A p.R.rows.length p.c) (.slice p.B p.R.ents.length p.d)
theorem Shw.keep {w w':World} {ss:List Sl} {js:List Nat} {LP:List RaP} {PA:Option Addr} {pc:Nat} (h:Shw w ss js LP PA pc) (hf:Fr none_ w w'):Shw w' ss js LP PA pc:=⟨h.ra.keep hf,h.len,h.eq,h.cap,fun p hp=>(h.own p hp).keep hf⟩
structure ShS (w:World) (gM gZ:Nat) (T:Option Addr) (tc:Nat) (C:Option Addr) (cn cc:Nat) (s g:Int) (n:Nat) (LA:Option Addr) (lc:Nat) (Cs:List Cr) (RA:Option Addr) (rc:Nat) (rs:List (Int × Int)) (LP:List RaP) (wr:World) (k:Nat) (PA:Option Addr) (pc:Nat):Prop where
  bm:Blk wr gM 82 (dmA lim10 100 99 (.slice PA k pc) 4 (.slice T 1 tc) 1 99 (.slice C cn cc) 0)
  bz:Blk wr gZ 82 dmZ
  ne:gM≠gZ
  gm:w.heap.size≤gM
  gz:w.heap.size≤gZ
  lo:wr.ownsRow w.heap.size 33 15 (.slice LA n lc) n (crFlat Cs)
  ro:wr.ownsRow w.heap.size 23 2 (.slice RA n rc) n (rf9Flat rs)
  cs:∀ D ∈ Cs,RecOwn wr 0 D.R (.slice D.A D.R.rows.length D.c) (.slice D.B D.R.ents.length D.d)
  po:wr.ownsRow w.heap.size 133 18 (.slice PA k pc) k (ptFlat (LP.take k))
  tb:ROwn wr (.slice T 1 tc) [(0,s,g)]
  ta:∀ ad,T=some ad→w.heap.size≤ad.block
  fr:Fr none_ w wr
section
variable {w:World} {gM gZ:Nat} {T:Option Addr} {tc:Nat} {C:Option Addr} {cn cc:Nat} {s g:Int} {n:Nat} {LA:Option Addr} {lc:Nat} {Cs:List Cr} {RA:Option Addr} {rc:Nat} {rs:List (Int × Int)} {LP:List RaP} {wr w':World} {k:Nat} {PA:Option Addr} {pc:Nat}
theorem ShS.keep (h:ShS w gM gZ T tc C cn cc s g n LA lc Cs RA rc rs LP wr k PA pc) (hf:Fr none_ wr w'):ShS w gM gZ T tc C cn cc s g n LA lc Cs RA rc rs LP w' k PA pc:=
  ⟨h.bm.fr hf id,h.bz.fr hf id,h.ne,h.gm,h.gz,own_none h.lo hf,own_none h.ro hf,fun D hD=>(h.cs D hD).keep hf,own_none h.po hf,own_none h.tb hf,h.ta,h.fr.then_none hf⟩
structure ShG (w:World) (gM gZ:Nat) (T:Option Addr) (tc:Nat) (C:Option Addr) (cn cc:Nat) (s g:Int) (n:Nat) (LA:Option Addr) (lc:Nat) (Cs:List Cr) (RA:Option Addr) (rc:Nat) (rs:List (Int × Int)) (LP:List RaP) (wr:World) (k:Nat) (PA:Option Addr) (pc:Nat) (P2:Option Addr) (p2:Nat):Prop where
  bm:Blk wr gM 82 (dmA lim10 100 99 (.slice PA k pc) 4 (.slice T 1 tc) 1 99 (.slice C cn cc) 0)
  bz:Blk wr gZ 82 dmZ
  ne:gM≠gZ
  gm:w.heap.size≤gM
  gz:w.heap.size≤gZ
  lo:wr.ownsRow w.heap.size 33 15 (.slice LA n lc) n (crFlat Cs)
  ro:wr.ownsRow w.heap.size 23 2 (.slice RA n rc) n (rf9Flat rs)
  cs:∀ D ∈ Cs,RecOwn wr 0 D.R (.slice D.A D.R.rows.length D.c) (.slice D.B D.R.ents.length D.d)
  po:wr.ownsRow w.heap.size 133 18 (.slice P2 (k+1) p2) (k+1) (ptFlat (LP.take (k+1)))
  tb:ROwn wr (.slice T 1 tc) [(0,s,g)]
  ta:∀ ad,T=some ad→w.heap.size≤ad.block
  fr:Fr none_ w wr
theorem ShS.grow (h:ShS w gM gZ T tc C cn cc s g n LA lc Cs RA rc rs LP wr k PA pc) {P2:Option Addr} {p2:Nat} (hg:wr.grownBy w' (Value.slice PA k pc).ownBlock) (ho:w'.ownsRow w.heap.size 133 18 (.slice P2 (k+1) p2) (k+1) (ptFlat (LP.take (k+1)))):ShG w gM gZ T tc C cn cc s g n LA lc Cs RA rc rs LP w' k PA pc P2 p2:=by
  have hf:Fr (fun b=>(Value.slice PA k pc).ownBlock=some b) wr w':=Fr.grown (Fr.refl _ _) hg (fun k hk=>.inl hk)
  exact ⟨h.bm.fr hf (own_blk_ne h.po h.bm (by decide)),h.bz.fr hf (own_blk_ne h.po h.bz (by decide)),h.ne,h.gm,h.gz,own_side10 h.lo h.po (by decide) hg,own_side10 h.ro h.po (by decide) hg,fun D hD=>⟨own_side10 (h.cs D hD).r h.po (by decide) hg,own_side10 (h.cs D hD).e h.po (by decide) hg⟩,ho,own_side10 h.tb h.po (by decide) hg,h.ta,h.fr.grown hg (fun b hb=>.inr (h.po.lt b hb).1)⟩
theorem ShG.set_ {P2:Option Addr} {p2:Nat} (h:ShG w gM gZ T tc C cn cc s g n LA lc Cs RA rc rs LP wr k PA pc P2 p2) (hw:w'=wr.setCell ⟨gM,8,none⟩ (.slice P2 (k+1) p2)):ShS w gM gZ T tc C cn cc s g n LA lc Cs RA rc rs LP w' (k+1) P2 p2:=by
  have hf:Fr (only gM) wr w':=by rw [hw];exact Fr.only1 wr ⟨gM,8,none⟩ _
  have hb:Blk w' gM 82 (dmA lim10 100 99 (.slice P2 (k+1) p2) 4 (.slice T 1 tc) 1 99 (.slice C cn cc) 0):=by
    have:=h.bm.set_ 8 (.slice P2 (k+1) p2)
    simp only [List.setIfInBounds_toArray,List.set_cons_zero,List.set_cons_succ] at this
    rw [hw]
    exact this
  exact ⟨hb,h.bz.fr hf (only_ne (Ne.symm h.ne)),h.ne,h.gm,h.gz,own_far10 h.lo h.bm (by decide) hf,own_far10 h.ro h.bm (by decide) hf,fun D hD=>⟨own_far10 (h.cs D hD).r h.bm (by decide) hf,own_far10 (h.cs D hD).e h.bm (by decide) hf⟩,own_far10 h.po h.bm (by decide) hf,own_far10 h.tb h.bm (by decide) hf,h.ta,h.fr.then_only hf (.inr h.gm)⟩
theorem sh_S {lb loff rb roff:Nat} {p:Int × Int} {D:Cr} (h:ShS w gM gZ T tc C cn cc s g n (some ⟨lb,loff,none⟩) lc Cs (some ⟨rb,roff,none⟩) rc rs LP wr k PA pc) (hp:rs[k]?=some p) (hD:Cs[k]?=some D) (hk:k < n):Blk wr gM 82 (dmA lim10 100 99 (.slice PA k pc) 4 (.slice T 1 tc) 1 99 (.slice C cn cc) 0)∧wr.rangeAt rb (roff+k * 2) [.int .i64 p.1,.int .i64 p.2]∧wr.rangeAt lb (loff+k * 15) (crA D).toList:=⟨h.bm,ro_range h.ro hp hk,lo_range h.lo hD hk⟩
theorem sh_G {lb loff rb roff:Nat} {p:Int × Int} {D:Cr} {P2:Option Addr} {p2:Nat} (h:ShG w gM gZ T tc C cn cc s g n (some ⟨lb,loff,none⟩) lc Cs (some ⟨rb,roff,none⟩) rc rs LP wr k PA pc P2 p2) (hp:rs[k]?=some p) (hD:Cs[k]?=some D) (hk:k < n):Blk wr gM 82 (dmA lim10 100 99 (.slice PA k pc) 4 (.slice T 1 tc) 1 99 (.slice C cn cc) 0)∧wr.rangeAt rb (roff+k * 2) [.int .i64 p.1,.int .i64 p.2]∧wr.rangeAt lb (loff+k * 15) (crA D).toList:=⟨h.bm,ro_range h.ro hp hk,lo_range h.lo hD hk⟩
theorem shw_of {ss:List Sl} {js:List Nat} (hpo:wr.ownsRow w.heap.size 133 18 (.slice PA n pc) n (ptFlat (LP.take n))) (hcs:∀ D ∈ Cs,RecOwn wr 0 D.R (.slice D.A D.R.rows.length D.c) (.slice D.B D.R.ents.length D.d)) (hl:js.length=n) (hn:n≤5000) (hLP:LP=ptsOf ss js Cs) (hm:Cs.map (·.R)=js.map (recOf ss)) (hz:∀ j ∈ js,(recOf ss j).rows.length≤1000∧(recOf ss j).ents.length≤1000):Shw wr ss js LP PA pc:=by
  have hcl:Cs.length=js.length:=by have:=congrArg List.length hm;simpa using this
  have hll:LP.length=n:=by rw [hLP,ptsOf_len hcl,hl]
  have hmem:∀ p ∈ LP,∃ (k j:Nat) (D:Cr),js[k]?=some j∧Cs[k]?=some D∧p=ptOf (refOf ss j) D∧D.R=recOf ss j:=fun p hp=>by
    obtain ⟨k,hk⟩:=List.mem_iff_getElem?.1 hp
    have hkl:k < js.length:=by have:=(List.getElem?_eq_some_iff.1 hk).1;omega
    obtain ⟨j,hj⟩:∃ j,js[k]?=some j:=⟨_,List.getElem?_eq_getElem hkl⟩
    obtain ⟨D,hD⟩:∃ D,Cs[k]?=some D:=⟨_,List.getElem?_eq_getElem (by omega)⟩
    refine ⟨k,j,D,hj,hD,?_,?_⟩
    · rw [hLP,ptsOf_get hj hD] at hk
      exact (Option.some.inj hk).symm
    · have h1:=congrArg (fun l=>l[k]?) hm
      simp only [List.getElem?_map,hj,hD,Option.map_some] at h1
      exact Option.some.inj h1
  rw [List.take_of_length_le (by omega)] at hpo
  obtain ⟨A',c',e,h1,h2,_⟩:=own_parts hpo
  injection e with _ _ e3
  refine ⟨⟨by rw [hll];exact Reads.of_own hpo,by omega,by omega,by omega,fun p hp=>?_,fun p hp=>?_⟩,by omega,fun k j hj=>?_,fun p hp=>?_,fun p hp=>?_⟩
  · obtain ⟨k,j,D,_,hD,rfl,_⟩:=hmem p hp
    exact (hcs D (List.mem_of_getElem? hD)).reads
  · obtain ⟨k,j,D,hj,_,rfl,e⟩:=hmem p hp
    show D.R.rows.length≤1000∧D.R.ents.length≤1000
    rw [e]
    exact hz j (List.mem_of_getElem? hj)
  · have hkl:k < js.length:=(List.getElem?_eq_some_iff.1 hj).1
    obtain ⟨D,hD⟩:∃ D,Cs[k]?=some D:=⟨_,List.getElem?_eq_getElem (by omega)⟩
    refine ⟨_,by rw [hLP];exact ptsOf_get hj hD,rfl,?_,rfl⟩
    have h1:=congrArg (fun l=>l[k]?) hm
    simp only [List.getElem?_map,hj,hD,Option.map_some] at h1
    exact Option.some.inj h1
  · obtain ⟨k,j,D,_,hD,rfl,_⟩:=hmem p hp
    obtain ⟨A2,c2,e2,g1,g2,_⟩:=own_parts (hcs D (List.mem_of_getElem? hD)).r
    injection e2 with _ _ e4
    obtain ⟨A3,c3,e3',g3,g4,_⟩:=own_parts (hcs D (List.mem_of_getElem? hD)).e
    injection e3' with _ _ e5
    show (D.R.rows.length≤D.c∧D.c≤maxLen)∧D.R.ents.length≤D.d∧D.d≤maxLen
    omega
  · obtain ⟨k,j,D,_,hD,rfl,_⟩:=hmem p hp
    exact hcs D (List.mem_of_getElem? hD)
end
def ShPost (ss:List Sl) (js:List Nat) (s0 g0:Int) (w:World) (e:Ending) (w':World):Prop:=
  ∃ (LP:List RaP) (PA:Option Addr) (pc:Nat) (T:Option Addr) (tc:Nat) (C:Option Addr) (cn cc:Nat),e=.returned (.agg (dmA lim10 100 99 (.slice PA js.length pc) 4 (.slice T 1 tc) 1 99 (.slice C cn cc) 0))∧Shw w' ss js LP PA pc∧ROwn w' (.slice T 1 tc) [(0,s0,g0)]∧Fr none_ w w'
set_option maxHeartbeats 16000000 in
theorem shown10_ok {m:Nat} {k:Int} {x:St} {js:List Nat} {s0 g0:Int} (w:World) (h:Mm w m k lim10 x) (hp:Pst x js s0 g0) (hne:js≠[]) (hl:js.length≤100):Calls Tryz.prog 22 #[.pointer (some ⟨m,0,none⟩)] w (ShPost x.ss js s0 g0 w):=by
  obtain ⟨w0,hw0⟩:∃ z,z=w.alloc (.cells dmZ 82):=⟨_,rfl⟩
  have f0:Fr none_ w w0:=by rw [hw0];exact (Fr.refl none_ w).alloc _
  have BZ:Hid (Blk w0 w.heap.size 82 dmZ):=hid_ (by rw [hw0];exact Blk.new w _ _)
  have F0:=hid_ f0
  have M0:=hid_ (h.keep f0)
  have HP:=hid_ hp
  have HL:=hid_ hl
  have HNE:=hid_ hne
  have hj0:(0:Int) < (js.length:Int):=by have:=List.length_pos_iff.2 hne;omega
  obtain ⟨i0,hi0,hz0,hs0,hb0⟩:=info_parts rput_info
  have Hi:=hid_ (And.intro hi0 (And.intro hz0 (And.intro hs0 hb0)))
  clear hi0 hz0 hs0 hb0 f0 h hp hl hne
  go_enter Tryz.func22,Tryz.ntmps22
  go_upto_region 1 with fail
  change Code.wp _ _ _ _ (w.alloc (.cells dmZ 82))
  rw [← hw0]
  clear hw0
  obtain ⟨gZ,hgZ⟩:∃ g,g=w.heap.size:=⟨_,rfl⟩
  rw [← hgZ] at BZ
  rw [← hgZ]
  have HGZ:=hid_ hgZ
  clear hgZ
  go_wp2_with fail
  refine (limits10_ok w0).mono ?_
  rintro e w1 ⟨rfl,hf1⟩
  replace F0:=hid_ (F0.out.then_none hf1)
  replace BZ:=hid_ (BZ.out.fr hf1 id)
  replace M0:=hid_ (M0.out.keep hf1)
  clear hf1
  go_wp2_with fail
  refine (rnew9_ok lim10 lim10_right w1).mono ?_
  rintro e w2 ⟨PA,pc,T,tc,C,cn,cc,rfl,-,ht,hta,hf2⟩
  have TB:=hid_ ht
  have HTA:Hid (∀ ad,T=some ad→w.heap.size≤ad.block):=hid_ (fun ad e=>by have:=hta ad e;have:=F0.out.size;omega)
  replace F0:=hid_ (F0.out.then_none hf2)
  replace BZ:=hid_ (BZ.out.fr hf2 id)
  replace M0:=hid_ (M0.out.keep hf2)
  clear ht hta hf2
  go_upto_region 2 with (refine wpList_store_mid rfl 82 (.tmp 3) (.tmp 9) rfl w2.heap.size 0 (dmA lim10 100 99 (.slice PA 1 pc) 4 (.slice T 1 tc) 1 99 (.slice C cn cc) 0) rfl rfl (new_there w2 _ dmZ) dm_size (by simp [Value.oneCell']) ?_;obtain ⟨w3,hw3⟩:∃ z,z=(w2.alloc (.cells dmZ 82)).setCells w2.heap.size 0 (dmA lim10 100 99 (.slice PA 1 pc) 4 (.slice T 1 tc) 1 99 (.slice C cn cc) 0).toList:=⟨_,rfl⟩;change wpList _ _ _ _ _ ((w2.alloc (.cells dmZ 82)).setCells w2.heap.size 0 (dmA lim10 100 99 (.slice PA 1 pc) 4 (.slice T 1 tc) 1 99 (.slice C cn cc) 0).toList);rw [← hw3];have Q3:Hid (Blk w3 w2.heap.size 82 (dmA lim10 100 99 (.slice PA 1 pc) 4 (.slice T 1 tc) 1 99 (.slice C cn cc) 0)∧Fr none_ w2 w3):=hid_ (by rw [hw3];exact new_copy w2 82 dmZ (dmA lim10 100 99 (.slice PA 1 pc) 4 (.slice T 1 tc) 1 99 (.slice C cn cc) 0).toList rfl);clear hw3)
  obtain ⟨gM,hgM⟩:∃ g,g=w2.heap.size:=⟨_,rfl⟩
  have BM:=hid_ Q3.out.1
  rw [← hgM] at BM
  rw [← hgM]
  have HM0:Hid (w.heap.size≤gM∧gM≠gZ):=hid_ (by have h1:=BZ.out.lt;have h2:=F0.out.size;omega)
  clear hgM
  replace BZ:=hid_ (BZ.out.fr Q3.out.2 id)
  replace F0:=hid_ (F0.out.then_none Q3.out.2)
  replace M0:=hid_ (M0.out.keep Q3.out.2)
  replace TB:=hid_ (own_none TB.out Q3.out.2)
  clear Q3
  have HCH:Hid (Calls Tryz.prog 57 #[.pointer (some ⟨m,0,none⟩),.int .i64 0] w3 (ChainPost x.ss js w3)):=hid_ (chain_ok w3 M0.out 0 s0 g0 HP.out.pg js HP.out.li HL.out (by decide))
  go_wp2_with fail
  refine HCH.out.mono ?_
  rintro e w4 ⟨LA,lc,RA,rc,Cs,rfl,hcm,hlo,hro,hcs,hf4⟩
  have HCM:=hid_ hcm
  have LO:=hid_ (own_base hlo (show w.heap.size≤w3.heap.size from F0.out.size))
  have RO:=hid_ (own_base hro (show w.heap.size≤w3.heap.size from F0.out.size))
  have CS:=hid_ hcs
  replace BZ:=hid_ (BZ.out.fr hf4 id)
  replace BM:=hid_ (BM.out.fr hf4 id)
  replace F0:=hid_ (F0.out.then_none hf4)
  replace TB:=hid_ (own_none TB.out hf4)
  clear hcm hlo hro hcs hf4 HCH M0
  have z8:w4.cell? ⟨gM,8,none⟩=some (.slice PA 1 pc):=BM.out.cell' rfl
  have y8:=BM.out.frozen 8
  go_upto_region 4 with fail
  obtain ⟨w5,hw5⟩:∃ z,z=w4.setCell ⟨gM,8,none⟩ (.slice none 0 0):=⟨_,rfl⟩
  have K5:Hid (Blk w5 gM 82 (dmA lim10 100 99 (.slice none 0 0) 4 (.slice T 1 tc) 1 99 (.slice C cn cc) 0)∧Fr (only gM) w4 w5):=hid_ (by
    have:=BM.out.set_ 8 (.slice none 0 0)
    simp only [List.setIfInBounds_toArray,List.set_cons_zero,List.set_cons_succ] at this
    rw [hw5]
    exact ⟨this,Fr.only1 w4 ⟨gM,8,none⟩ _⟩)
  change Code.wp _ _ _ _ (w4.setCell ⟨gM,8,none⟩ (.slice none 0 0))
  rw [← hw5]
  clear hw5 z8 y8
  obtain ⟨LP,hLP⟩:∃ LP,LP=ptsOf x.ss js Cs:=⟨_,rfl⟩
  have HLP:=hid_ hLP
  clear hLP
  have S5:Hid (ShS w gM gZ T tc C cn cc 1 1 js.length LA lc Cs RA rc (js.map (refOf x.ss)) LP w5 0 none 0):=hid_ ⟨K5.out.1,BZ.out.fr K5.out.2 (only_ne (Ne.symm HM0.out.2)),HM0.out.2,HM0.out.1,by rw [HGZ.out];exact Nat.le_refl _,own_far10 LO.out BM.out (by decide) K5.out.2,own_far10 RO.out BM.out (by decide) K5.out.2,fun D hD=>⟨own_far10 (CS.out D hD).r BM.out (by decide) K5.out.2,own_far10 (CS.out D hD).e BM.out (by decide) K5.out.2⟩,World.ownsRow_nil _ _ _ _,own_far10 TB.out BM.out (by decide) K5.out.2,HTA.out,F0.out.then_only K5.out.2 (.inr HM0.out.1)⟩
  clear K5 BM BZ LO RO CS TB F0 HTA HM0
  have HCL:Hid (Cs.length=js.length):=hid_ (by have:=congrArg List.length HCM.out;simpa using this)
  go_wp2_with fail
  go_loopw [20] (fun i wr=>∃ (k:Nat) (PA:Option Addr) (pc:Nat),k≤js.length∧i=.int .i64 k∧ShS w gM gZ T tc C cn cc 1 1 js.length LA lc Cs RA rc (js.map (refOf x.ss)) LP wr k PA pc) (fun i _=>js.length - (intOf i).toNat)
  case atStart=>exact ⟨0,none,0,Nat.zero_le _,rfl,S5.out⟩
  case round =>
    obtain ⟨k,PA,pc,hk,rfl,hs⟩:=hrel
    have S:=hid_ hs
    clear hs S5
    have hi0:(0:Int)≤(k:Int):=Int.natCast_nonneg _
    by_cases hlt:k < js.length
    · have hi1:(k:Int) < (js.length:Int):=by omega
      have hi2:(k:Int)≤100:=by have:=HL.out;omega
      obtain ⟨j,hj⟩:∃ j,js[k]?=some j:=⟨_,List.getElem?_eq_getElem hlt⟩
      obtain ⟨D,hD⟩:∃ D,Cs[k]?=some D:=⟨_,List.getElem?_eq_getElem (by have:=HCL.out;omega)⟩
      have HJ:=hid_ hj
      have HD:=hid_ hD
      obtain ⟨lb,loff,rfl,hlb,hlc⟩:=reads_lit (Reads.of_own S.out.lo) (by omega) (by omega)
      obtain ⟨rb,roff,rfl,hrb,hrc⟩:=reads_lit (Reads.of_own S.out.ro) (by omega) (by omega)
      have hjr:(js.map (refOf x.ss))[k]?=some (refOf x.ss j):=by rw [List.getElem?_map,hj];rfl
      have HJR:=hid_ hjr
      clear hjr
      clear hj hD hlc hrc hlb hrb
      go_upto_region 7 with fail
      (try go_frame)
      have hS0:(fun w':World=>Blk w' gM 82 (dmA lim10 100 99 (.slice PA k pc) 4 (.slice T 1 tc) 1 99 (.slice C cn cc) 0)∧w'.rangeAt rb (roff+k * 2) [.int .i64 (refOf x.ss j).1,.int .i64 (refOf x.ss j).2]∧w'.rangeAt lb (loff+k * 15) (crA D).toList) wr.drew:=sh_S (S.out.keep (Fr.refl none_ wr).drew) HJR.out HD.out hlt
      refine wp_region_u1 16 (fun w':World=>Blk w' gM 82 (dmA lim10 100 99 (.slice PA k pc) 4 (.slice T 1 tc) 1 99 (.slice C cn cc) 0)∧w'.rangeAt rb (roff+k * 2) [.int .i64 (refOf x.ss j).1,.int .i64 (refOf x.ss j).2]∧w'.rangeAt lb (loff+k * 15) (crA D).toList) 0 16 (some 23) (.pointer (some ⟨gM,6,none⟩)) (by kernel_rfl) rfl rfl rfl (by kernel_rfl) (by kernel_rfl) (by kernel_rfl) (fun _ _ _ h=>h) (y_val (by kernel_rfl) (fun w' hS=>by kernel_rfl)) ?_
      refine u_take 1 (some 24) (.pointer (some ⟨gM,8,none⟩)) rfl rfl (by kernel_rfl) (by kernel_rfl) (by kernel_rfl) (by kernel_rfl) (fun _ _ _ h=>h) (y_val (by kernel_rfl) (fun w' hS=>by kernel_rfl)) hS0 ?_
      go_frame
      refine u_take 2 (some 25) (.slice PA k pc) rfl rfl (by kernel_rfl) (by kernel_rfl) (by kernel_rfl) (by kernel_rfl) (fun _ _ _ h=>h) (y_cell 72 (.tmp 24) ⟨gM,8,none⟩ _ (by kernel_rfl) rfl (by kernel_rfl) (fun w' hS=>hS.1.cell' rfl) Tryz.underlying72 rfl) hS0 ?_
      go_frame
      refine u_take 3 (some 26) (.slice (some ⟨rb,roff,none⟩) js.length rc) rfl rfl (by kernel_rfl) (by kernel_rfl) (by kernel_rfl) (by kernel_rfl) (fun _ _ _ h=>h) (y_val (by kernel_rfl) (fun w' hS=>by kernel_rfl)) hS0 ?_
      go_frame
      refine u_take 4 (some 27) (.int .i64 k) rfl rfl (by kernel_rfl) (by kernel_rfl) (by kernel_rfl) (by kernel_rfl) (fun _ _ _ h=>h) (y_val (by kernel_rfl) (fun w' hS=>by kernel_rfl)) hS0 ?_
      go_frame
      refine u_take 5 (some 28) (.pointer (some ⟨rb,roff+k * 2,none⟩)) rfl rfl (by kernel_rfl) (by kernel_rfl) (by kernel_rfl) (by kernel_rfl) (fun _ _ _ h=>h) (y_val (by kernel_rfl) (fun w' hS=>ex_index 27 23 (.tmp 26) (.tmp 27) rb roff k js.length rc rfl (by kernel_rfl) (by kernel_rfl) Tryz.underlying27 ref_sz10 hlt w')) hS0 ?_
      go_frame
      refine u_take 6 (some 29) (.agg #[.int .i64 (refOf x.ss j).1,.int .i64 (refOf x.ss j).2]) rfl rfl (by kernel_rfl) (by kernel_rfl) (by kernel_rfl) (by kernel_rfl) (fun _ _ _ h=>h) (yieldsIf_load_mid (by kernel_rfl) 23 (.tmp 28) rfl rb (roff+k * 2) (by kernel_rfl) [.int .i64 (refOf x.ss j).1,.int .i64 (refOf x.ss j).2] _ (fun w' hS=>hS.2.1) Tryz.underlying23 rfl ref_size9) hS0 ?_
      go_frame
      refine u_take 7 (some 30) (.slice (some ⟨lb,loff,none⟩) js.length lc) rfl rfl (by kernel_rfl) (by kernel_rfl) (by kernel_rfl) (by kernel_rfl) (fun _ _ _ h=>h) (y_val (by kernel_rfl) (fun w' hS=>by kernel_rfl)) hS0 ?_
      go_frame
      refine u_take 8 (some 31) (.int .i64 k) rfl rfl (by kernel_rfl) (by kernel_rfl) (by kernel_rfl) (by kernel_rfl) (fun _ _ _ h=>h) (y_val (by kernel_rfl) (fun w' hS=>by kernel_rfl)) hS0 ?_
      go_frame
      refine u_take 9 (some 32) (.pointer (some ⟨lb,loff+k * 15,none⟩)) rfl rfl (by kernel_rfl) (by kernel_rfl) (by kernel_rfl) (by kernel_rfl) (fun _ _ _ h=>h) (y_val (by kernel_rfl) (fun w' hS=>ex_index15s 24 33 (.tmp 30) (.tmp 31) lb loff k js.length lc rfl (by kernel_rfl) (by kernel_rfl) Tryz.underlying24 rec_sz10s hlt w')) hS0 ?_
      go_frame
      refine u_take 10 (some 33) (.agg (crA D)) rfl rfl (by kernel_rfl) (by kernel_rfl) (by kernel_rfl) (by kernel_rfl) (fun _ _ _ h=>h) (yieldsIf_load_mid (by kernel_rfl) 33 (.tmp 32) rfl lb (loff+k * 15) (by kernel_rfl) (crA D).toList _ (fun w' hS=>hS.2.2) Tryz.underlying33 rfl rec_size8) hS0 ?_
      go_frame
      refine u_take 11 (some 34) (.agg (ptLA (ptOf (refOf x.ss j) D)).toArray) rfl rfl (by kernel_rfl) (by kernel_rfl) (by kernel_rfl) (by kernel_rfl) (fun _ _ _ h=>h) (y_val (by kernel_rfl) (fun w' hS=>by kernel_rfl)) hS0 ?_
      go_frame
      clear hS0
      obtain ⟨y0,hy0⟩:∃ z,z=wr.drew:=⟨_,rfl⟩
      have Q0:=hid_ (S.out.keep (Fr.refl none_ wr).drew)
      have G0:Hid (Fr none_ wr y0):=hid_ (by rw [hy0];exact (Fr.refl none_ wr).drew)
      rw [← hy0] at Q0
      rw [← hy0]
      clear hy0
      refine u_run 12 (some 35) (.slice (some ⟨y0.heap.size,0,none⟩) 1 1) (y0.alloc (.cells (ptLA (ptOf (refOf x.ss j) D)).toArray 133)) rfl rfl (by kernel_rfl) (by kernel_rfl) (by kernel_rfl) (.inr (sh_S (Q0.out.keep ((Fr.refl none_ y0).alloc _)) HJR.out HD.out hlt)) ?_
      go_frame
      obtain ⟨y1,hy1⟩:∃ z,z=y0.alloc (.cells (ptLA (ptOf (refOf x.ss j) D)).toArray 133):=⟨_,rfl⟩
      have f2:Fr none_ y0 y1:=by rw [hy1];exact (Fr.refl none_ _).alloc _
      have B4:Hid (Blk y1 y0.heap.size 133 (ptLA (ptOf (refOf x.ss j) D)).toArray):=hid_ (by rw [hy1];exact Blk.new _ _ _)
      have Q1:=hid_ (Q0.out.keep f2)
      have G1:=hid_ (G0.out.then_none f2)
      rw [← hy1]
      clear hy1 f2 Q0 G0
      refine u_one 13 rfl (by kernel_rfl) (by kernel_rfl) ?_
      refine wp_dst (some 36) rfl (fun hds=>?_)
      refine wp_append_at _ (.tmp 25) (.tmp 35) 72 rfl w.heap.size 133 i0 _ 18 216 Tryz.underlying72 Hi.out.1 Hi.out.2.1 Hi.out.2.2.1 Hi.out.2.2.2 rfl (by omega) _ _ _ (by kernel_rfl) Q1.out.po (some ⟨y0.heap.size,0,none⟩) 1 1 (ptLA (ptOf (refOf x.ss j) D)) (by kernel_rfl) (reads_blk9 B4.out) (pt_one _) (by simp only [maxLen];omega) (by omega) Q1.out.fr.size ?_
      intro v7 y6 hown hgr hat
      obtain ⟨P2,p2,rfl⟩:=hown.shape
      have Q5:Hid (ShG w gM gZ T tc C cn cc 1 1 js.length (some ⟨lb,loff,none⟩) lc Cs (some ⟨rb,roff,none⟩) rc (js.map (refOf x.ss)) LP y6 k PA pc P2 p2):=hid_ (Q1.out.grow hgr (by
        have e:LP.take (k+1)=LP.take k ++ [ptOf (refOf x.ss j) D]:=by rw [List.take_add_one,HLP.out,ptsOf_get HJ.out HD.out];rfl
        rw [e,ptFlat_snoc]
        exact hown))
      refine ⟨.inr (sh_G Q5.out HJR.out HD.out hlt),?_⟩
      rw [hds]
      clear hown hgr hat hds Q1 B4 G1
      go_frame
      refine u_run 14 (some 37) (.pointer (some ⟨gM,6,none⟩)) y6 rfl rfl (by kernel_rfl) (by kernel_rfl) (by kernel_rfl) (.inr (sh_G Q5.out HJR.out HD.out hlt)) ?_
      go_frame
      refine u_run 15 (some 38) (.pointer (some ⟨gM,8,none⟩)) y6 rfl rfl (by kernel_rfl) (by kernel_rfl) (by kernel_rfl) (.inr (sh_G Q5.out HJR.out HD.out hlt)) ?_
      go_frame
      refine u_one 16 rfl (by kernel_rfl) (by kernel_rfl) ?_
      have c8:y6.cell? ⟨gM,8,none⟩=some (.slice PA k pc):=Q5.out.bm.cell' rfl
      have y8:=Q5.out.bm.frozen 8
      go_simp
      obtain ⟨y7,hy7⟩:∃ z,z=y6.setCell ⟨gM,8,none⟩ (.slice P2 (k+1) p2):=⟨_,rfl⟩
      have Q7:=hid_ (Q5.out.set_ hy7)
      rw [← hy7]
      clear hy7 c8 y8 Q5
      (try go_frame)
      refine u_done (by kernel_rfl) ?_
      go_wp2_with fail
      go_roundw
      case rel=>exact ⟨k+1,P2,p2,by omega,by go_num,Q7.out⟩
      case measure=>simp [intOf];omega
    · obtain rfl:k=js.length:=by omega
      clear hk hlt
      obtain ⟨j,hj⟩:∃ j,js[0]?=some j:=⟨_,List.getElem?_eq_getElem (List.length_pos_iff.2 HNE.out)⟩
      have hrf:refOf x.ss j=(s0,g0):=by
        have hli:=HP.out.li
        cases js with
        | nil=>cases hj
        | cons q r =>
          obtain rfl:q=j:=by simpa using hj
          obtain ⟨h1,y,h2,_,h4,_⟩:=hli
          unfold refOf
          rw [slotD h2,h1,h4]
      obtain ⟨rb,roff,rfl,hrb,hrc⟩:=reads_lit (Reads.of_own S.out.ro) (by omega) (List.length_pos_iff.2 HNE.out)
      obtain ⟨tb,rfl,htb,htc⟩:=rown_cell S.out.tb (by simp)
      have HR1:Hid (∀ w',Fr none_ wr w'→w'.rangeAt rb roff [.int .i64 s0,.int .i64 g0]):=hid_ (fun w' hf j2 v hv=>by
        have hr:=rf9_get10 (js.map (refOf x.ss)) 0 (s0,g0) (by rw [List.getElem?_map,hj,← hrf];rfl)
        simp only [Nat.zero_mul,Nat.zero_add] at hr
        match j2,hv with
        | 0, hv => obtain rfl : Value.int .i64 s0 = v := by simpa using hv
                   exact cellFr (hrc _ _ hr.1) hf
        | 1, hv => obtain rfl : Value.int .i64 g0 = v := by simpa using hv
                   exact cellFr (hrc _ _ hr.2) hf
        | q+2,hv=>simp at hv)
      have hr0:=HR1.out wr (Fr.refl _ _) 0 _ rfl
      have hr1:=HR1.out wr (Fr.refl _ _) 1 _ rfl
      have ht0:=htc 0 (0,1,1) rfl
      clear hrc htc hj hrf hrb
      go_upto_region 10 with fail
      (try go_frame)
      have hS0:(fun w':World=>Fr none_ wr w') wr.drew:=(Fr.refl none_ wr).drew
      refine wp_region_u1 8 (fun w':World=>Fr none_ wr w') 0 8 (some 43) (.pointer (some ⟨gM,9,none⟩)) (by kernel_rfl) rfl rfl rfl (by kernel_rfl) (by kernel_rfl) (by kernel_rfl) (fun _ _ _ h=>h) (y_val (by kernel_rfl) (fun w' hS=>by kernel_rfl)) ?_
      refine u_take 1 (some 44) (.pointer (some ⟨gM,10,none⟩)) rfl rfl (by kernel_rfl) (by kernel_rfl) (by kernel_rfl) (by kernel_rfl) (fun _ _ _ h=>h) (y_val (by kernel_rfl) (fun w' hS=>by kernel_rfl)) hS0 ?_
      go_frame
      refine u_take 2 (some 45) (.slice (some ⟨tb,0,none⟩) 1 tc) rfl rfl (by kernel_rfl) (by kernel_rfl) (by kernel_rfl) (by kernel_rfl) (fun _ _ _ h=>h) (y_cell 75 (.tmp 44) ⟨gM,10,none⟩ _ (by kernel_rfl) rfl (by kernel_rfl) (fun w' hS=>(S.out.bm.fr hS id).cell' rfl) Tryz.underlying75 rfl) hS0 ?_
      go_frame
      refine u_take 3 (some 46) (.slice (some ⟨rb,roff,none⟩) js.length rc) rfl rfl (by kernel_rfl) (by kernel_rfl) (by kernel_rfl) (by kernel_rfl) (fun _ _ _ h=>h) (y_val (by kernel_rfl) (fun w' hS=>by kernel_rfl)) hS0 ?_
      go_frame
      refine u_take 4 (some 47) (.pointer (some ⟨rb,roff,none⟩)) rfl rfl (by kernel_rfl) (by kernel_rfl) (by kernel_rfl) (by kernel_rfl) (fun _ _ _ h=>h) (y_val (by kernel_rfl) (fun w' hS=>ex_index0 27 23 2 (.tmp 46) rb roff js.length rc rfl (by kernel_rfl) Tryz.underlying27 ref_sz10 (List.length_pos_iff.2 HNE.out) w')) hS0 ?_
      go_frame
      refine u_take 5 (some 48) (.agg #[.int .i64 s0,.int .i64 g0]) rfl rfl (by kernel_rfl) (by kernel_rfl) (by kernel_rfl) (by kernel_rfl) (fun _ _ _ h=>h) (yieldsIf_load_mid (by kernel_rfl) 23 (.tmp 47) rfl rb roff (by kernel_rfl) [.int .i64 s0,.int .i64 g0] _ (fun w' hS=>HR1.out w' hS) Tryz.underlying23 rfl ref_size9) hS0 ?_
      go_frame
      refine u_take 6 (some 49) (.pointer (some ⟨tb,0,none⟩)) rfl rfl (by kernel_rfl) (by kernel_rfl) (by kernel_rfl) (by kernel_rfl) (fun _ _ _ h=>h) (y_val (by kernel_rfl) (fun w' hS=>ex_index0 75 135 3 (.tmp 45) tb 0 1 tc rfl (by kernel_rfl) Tryz.underlying75 pg_sz10 (by omega) w')) hS0 ?_
      go_frame
      refine u_take 7 (some 50) (.pointer (some ⟨tb,1,none⟩)) rfl rfl (by kernel_rfl) (by kernel_rfl) (by kernel_rfl) (by kernel_rfl) (fun _ _ _ h=>h) (y_val (by kernel_rfl) (fun w' hS=>by kernel_rfl)) hS0 ?_
      go_frame
      clear hS0 hr0 hr1
      obtain ⟨y0,hy0⟩:∃ z,z=wr.drew:=⟨_,rfl⟩
      have Q0:=hid_ (S.out.keep (Fr.refl none_ wr).drew)
      have G0:Hid (Fr none_ wr y0):=hid_ (by rw [hy0];exact (Fr.refl none_ wr).drew)
      rw [← hy0] at Q0
      rw [← hy0]
      clear hy0 S
      have t1:y0.cell? ⟨tb,1,none⟩=some (.int .i64 1):=cellFr ht0.2.1 G0.out
      have t2:y0.cell? ⟨tb,2,none⟩=some (.int .i64 1):=cellFr ht0.2.2 G0.out
      have y1:=Q0.out.tb.frozenAt 1
      have y2:=Q0.out.tb.frozenAt 2
      clear ht0
      refine u_one 8 rfl (by kernel_rfl) (by kernel_rfl) ?_
      go_simp
      obtain ⟨y3,hy3⟩:∃ z,z=(y0.setCell ⟨tb,1,none⟩ (.int .i64 s0)).setCell ⟨tb,2,none⟩ (.int .i64 g0):=⟨_,rfl⟩
      have HO3:Hid (ROwn y3 (.slice (some ⟨tb,0,none⟩) 1 tc) [(0,s0,g0)]):=hid_ (by
        have o1:=((Q0.out.tb.stored 1 (.int .i64 s0)).1.stored 2 (.int .i64 g0)).1
        rw [hy3]
        exact o1)
      have HF3:Hid (Fr (only tb) y0 y3):=hid_ (by rw [hy3];exact ((Fr.refl (only tb) y0).setCell (p:=⟨tb,1,none⟩) (.inl (Eq.refl _)) _).setCell (p:=⟨tb,2,none⟩) (.inl (Eq.refl _)) _)
      rw [← hy3]
      clear hy3 t1 t2 y1 y2
      (try go_frame)
      refine u_done (by kernel_rfl) ?_
      have NT:Hid (∀ {b1 s1 n1:Nat} {e1:TypeId} {v1:Value} {xs1:List Value},y0.ownsRow b1 e1 s1 v1 n1 xs1→e1≠135→y3.ownsRow b1 e1 s1 v1 n1 xs1):=hid_ (fun h ne=>own_fr h HF3.out (fun i hi e=>own_own_ne h Q0.out.tb ne i hi (by rw [show i=tb from e];rfl)))
      have NB:Hid (∀ {X:Nat} {cs:Array Value},Blk y0 X 82 cs→Blk y3 X 82 cs):=hid_ (fun h=>h.fr HF3.out (fun e=>own_blk_ne Q0.out.tb h (by decide) (by rw [show _=tb from e];rfl)))
      have Q3:Hid (ShS w gM gZ (some ⟨tb,0,none⟩) tc C cn cc s0 g0 js.length LA lc Cs (some ⟨rb,roff,none⟩) rc (js.map (refOf x.ss)) LP y3 js.length PA pc):=hid_ ⟨NB.out Q0.out.bm,NB.out Q0.out.bz,Q0.out.ne,Q0.out.gm,Q0.out.gz,NT.out Q0.out.lo (by decide),NT.out Q0.out.ro (by decide),fun D hD=>⟨NT.out (Q0.out.cs D hD).r (by decide),NT.out (Q0.out.cs D hD).e (by decide)⟩,NT.out Q0.out.po (by decide),HO3.out,Q0.out.ta,Q0.out.fr.then_only HF3.out (.inr (Q0.out.ta _ rfl))⟩
      clear NT NB HO3 HF3 Q0 G0
      go_wp2_with (first | (refine wpList_load_mid rfl 82 (.tmp 3) rfl gM 0 rfl (dmA lim10 100 99 (.slice PA js.length pc) 4 (.slice (some ⟨tb,0,none⟩) 1 tc) 1 99 (.slice C cn cc) 0).toList _ (Q3.out.bm.rangeN (fun j v hv=>by rw [Nat.zero_add];simpa using hv)) Tryz.underlying82 rfl dm_size ?_) | (refine wpList_store_mid rfl 82 (.tmp 2) (.tmp 51) rfl gZ 0 (dmA lim10 100 99 (.slice PA js.length pc) 4 (.slice (some ⟨tb,0,none⟩) 1 tc) 1 99 (.slice C cn cc) 0) rfl rfl (Q3.out.bz.thereN (Nat.le_of_ble_eq_true rfl)) dm_size (by simp [Value.oneCell']) ?_;have ov:=Q3.out.bz.over4 (dmA lim10 100 99 (.slice PA js.length pc) 4 (.slice (some ⟨tb,0,none⟩) 1 tc) 1 99 (.slice C cn cc) 0).toList rfl;obtain ⟨w16,hw16⟩:∃ z,z=y3.setCells gZ 0 (dmA lim10 100 99 (.slice PA js.length pc) 4 (.slice (some ⟨tb,0,none⟩) 1 tc) 1 99 (.slice C cn cc) 0).toList:=⟨_,rfl⟩;rw [← hw16] at ov;change wpList _ _ _ _ _ (y3.setCells gZ 0 (dmA lim10 100 99 (.slice PA js.length pc) 4 (.slice (some ⟨tb,0,none⟩) 1 tc) 1 99 (.slice C cn cc) 0).toList);rw [← hw16];have OV:=hid_ ov;clear hw16 ov))
      have Q4:Hid (Shw w16 x.ss js LP PA pc∧ROwn w16 (.slice (some ⟨tb,0,none⟩) 1 tc) [(0,s0,g0)]):=hid_ ⟨shw_of (own_far10 Q3.out.po Q3.out.bz (by decide) OV.out.2) (fun D hD=>⟨own_far10 (Q3.out.cs D hD).r Q3.out.bz (by decide) OV.out.2,own_far10 (Q3.out.cs D hD).e Q3.out.bz (by decide) OV.out.2⟩) rfl (by have:=HL.out;omega) HLP.out HCM.out (fun j hj=>⟨by have:=(HP.out.rc j hj).zr;omega,by have:=(HP.out.rc j hj).ze;omega⟩),own_far10 Q3.out.tb Q3.out.bz (by decide) OV.out.2⟩
      refine bodyPost_ret (results_cell7 _ _ rfl gZ 0 (dmA lim10 100 99 (.slice PA js.length pc) 4 (.slice (some ⟨tb,0,none⟩) 1 tc) 1 99 (.slice C cn cc) 0).toList _ rfl (Blk.range7 (l:=(dmA lim10 100 99 (.slice PA js.length pc) 4 (.slice (some ⟨tb,0,none⟩) 1 tc) 1 99 (.slice C cn cc) 0).toList) OV.out.1) Tryz.underlying82 rfl dm_size) rfl ⟨LP,PA,pc,some ⟨tb,0,none⟩,tc,C,cn,cc,rfl,Q4.out.1,Q4.out.2,Q3.out.fr.then_only OV.out.2 (.inr Q3.out.gz)⟩
open Go.RowKit

abbrev PwR (L:List Rw):Prop:=L.Pairwise fun p q=>ltS p.1 q.1=true
theorem lt_ge7 {a b c:ByteArray} (h:ltS a b=true) (k:ltS c b=false):ltS a c=true:=by
  rcases ltS_total b c with e | rfl | e
  · exact ltS_trans h e
  · exact h
  · rw [e] at k;cases k
theorem RightR.pw {L:List Rw} (h:RightR L):PwR L:=by
  have key:∀ (d i:Nat) (p q:Rw),L[i]?=some p→L[i+d+1]?=some q→ltS p.1 q.1=true:=by
    intro d
    induction d with
    | zero=>exact fun i p q hp hq=>h.ris i p q hp hq
    | succ d ih =>
      intro i p q hp hq
      have hl:=(List.getElem?_eq_some_iff.1 hq).1
      obtain ⟨r,hr⟩:∃ r,L[i+d+1]?=some r:=⟨_,List.getElem?_eq_getElem (by omega)⟩
      exact ltS_trans (ih i p r hp hr) (h.ris (i+d+1) r q hr (by rw [show i+d+1+1=i+(d+1)+1 by omega];exact hq))
  rw [PwR,List.pairwise_iff_getElem]
  intro i j hi hj hij
  exact key (j - i - 1) i _ _ (List.getElem?_eq_getElem hi) (by rw [show i+(j - i - 1)+1=j by omega];exact List.getElem?_eq_getElem hj)
theorem RightR.of_pw {L:List Rw} (h:PwR L) (hf:∀ p ∈ L,fitsR p=true):RightR L:=by
  refine ⟨hf,fun i p q hp hq=>?_⟩
  obtain ⟨hi,rfl⟩:=List.getElem?_eq_some_iff.1 hp
  obtain ⟨hj,rfl⟩:=List.getElem?_eq_some_iff.1 hq
  exact (List.pairwise_iff_getElem.1 h) i (i+1) hi hj (by omega)
theorem plR_app:∀ (L:List Rw) (key:ByteArray),(∀ p ∈ L.take (plR L key),ltS p.1 key=true)
  | [],_,p,hp=>by simp at hp
  | q :: t,key,p,hp=>by
    rw [plR] at hp
    split at hp
    · rename_i hq
      rw [List.take_succ_cons] at hp
      rcases List.mem_cons.1 hp with rfl | hp
      · exact hq
      · exact plR_app t key p hp
    · simp at hp
theorem plR_behind:∀ {L:List Rw} {key:ByteArray},PwR L→∀ p ∈ L.drop (plR L key+if atR L key then 1 else 0),ltS key p.1=true
  | [],_,_,p,hp=>by simp at hp
  | q :: t,key,h,p,hp=>by
    rw [PwR,List.pairwise_cons] at h
    rw [plR] at hp
    split at hp
    · rename_i hq
      have e:atR (q :: t) key=atR t key:=by
        unfold atR
        rw [plR,if_pos hq,List.getElem?_cons_succ]
      rw [e,show plR t key+1+(if atR t key=true then 1 else 0)=(plR t key+if atR t key=true then 1 else 0)+1 by omega,List.drop_succ_cons] at hp
      exact plR_behind h.2 p hp
    · rename_i hq
      have hq':ltS q.1 key=false:=by simpa using hq
      have e:atR (q :: t) key=sEq q.1 key:=by
        unfold atR
        rw [plR,if_neg hq]
        rfl
      rw [e] at hp
      split at hp
      · rename_i hs
        rw [show (0:Nat)+1=0+1 from rfl,List.drop_succ_cons,List.drop_zero] at hp
        rw [← sEq_iff.1 hs]
        exact h.1 p hp
      · rename_i hs
        have hk:ltS key q.1=true:=by
          rcases ltS_total q.1 key with h1 | h1 | h1
          · rw [hq'] at h1;cases h1
          · rw [h1,sEq_self] at hs;exact absurd rfl hs
          · exact h1
        rw [Nat.add_zero,List.drop_zero] at hp
        rcases List.mem_cons.1 hp with rfl | hp
        · exact hk
        · exact ltS_trans hk (h.1 p hp)
theorem PwR.put {L:List Rw} (h:PwR L) (r:Rw):PwR (putR L r):=by
  unfold putR PwR
  rw [List.pairwise_append,List.pairwise_append]
  refine ⟨⟨h.take,List.pairwise_singleton _ _,fun a ha b hb=>?_⟩,h.drop,fun a ha b hb=>?_⟩
  · rw [List.mem_singleton.1 hb];exact plR_app _ _ a ha
  · have hb':=plR_behind h b hb
    rcases List.mem_append.1 ha with ha | ha
    · exact ltS_trans (plR_app _ _ a ha) hb'
    · rw [List.mem_singleton.1 ha];exact hb'
theorem PwR.dropR {L:List Rw} (h:PwR L) (key:ByteArray):PwR (dropR L key):=by
  unfold Go.Proofs.YtfihfjbakfadkaaGreatDoor.dropR PwR
  split
  · rename_i ha
    rw [List.pairwise_append]
    refine ⟨h.take,h.drop,fun a hm b hb=>ltS_trans (plR_app _ _ a hm) (plR_behind h b (by rw [ha];exact hb))⟩
  · exact h
theorem mem_putR {L:List Rw} {r p:Rw} (h:p ∈ putR L r):p ∈ L∨p=r:=by
  unfold putR at h
  rcases List.mem_append.1 h with h | h
  · rcases List.mem_append.1 h with h | h
    · exact .inl (List.mem_of_mem_take h)
    · exact .inr (List.mem_singleton.1 h)
  · exact .inl (List.mem_of_mem_drop h)
theorem mem_dropR {L:List Rw} {key:ByteArray} {p:Rw} (h:p ∈ dropR L key):p ∈ L:=by
  unfold dropR at h
  split at h
  · rcases List.mem_append.1 h with h | h
    · exact List.mem_of_mem_take h
    · exact List.mem_of_mem_drop h
  · exact h
theorem inS_iff7 {low high:ByteArray} {unb:Bool} {key:ByteArray}:inS low high unb key=true ↔ ltS key low=false∧(unb=true∨ltS key high=true):=by
  unfold inS
  simp only [Bool.and_eq_true,Bool.not_eq_true',Bool.or_eq_true]
theorem join_pw {mid high:ByteArray} {unb:Bool} {L M:List Rw} (h:RightR L) (hu:∀ p ∈ L,ltS p.1 mid=true) (k:SoundR mid high unb M):PwR (L ++ M):=by
  rw [PwR,List.pairwise_append]
  exact ⟨h.pw,k.right.pw,fun a ha b hb=>lt_ge7 (hu a ha) (inS_iff7.1 (k.inn b hb)).1⟩
theorem joins_of {mid high:ByteArray} {unb:Bool} {L M:List Rw} (hu:∀ p ∈ L,ltS p.1 mid=true) (k:SoundR mid high unb M):joinR L M=true:=by
  rcases Nat.eq_zero_or_pos L.length with h0 | h0
  · exact joinR_nil (.inl h0)
  · rcases Nat.eq_zero_or_pos M.length with h1 | h1
    · exact joinR_nil (.inr h1)
    · obtain ⟨p,hp⟩:∃ p,L[L.length - 1]?=some p:=⟨_,List.getElem?_eq_getElem (by omega)⟩
      obtain ⟨q,hq⟩:∃ q,M[0]?=some q:=⟨_,List.getElem?_eq_getElem h1⟩
      rw [joinR_some hp hq]
      exact lt_ge7 (hu p (List.mem_of_getElem? hp)) (inS_iff7.1 (k.inn q (List.mem_of_getElem? hq))).1
theorem ahead_take:∀ {L:List Rw} {key:ByteArray},PwR L→L.filter (fun p=>ltS p.1 key)=L.take (plR L key)
  | [],_,_=>by simp
  | q :: t,key,h=>by
    rw [PwR,List.pairwise_cons] at h
    rw [plR,List.filter_cons]
    split
    · rw [List.take_succ_cons,ahead_take h.2]
    · rename_i hq
      rw [List.take_zero,List.filter_eq_nil_iff]
      intro p hp hk
      have:=ltS_trans (h.1 p hp) hk
      exact hq this
structure GoodL (V:Lw):Prop where
  right:RightR V.rows
  up:V.unb=true∨∀ p ∈ V.rows,ltS p.1 V.high=true
theorem in_up {low high:ByteArray} {unb:Bool} {L:List Rw} (h:∀ p ∈ L,inS low high unb p.1=true):unb=true∨∀ p ∈ L,ltS p.1 high=true:=by
  cases unb with
  | true=>exact .inl rfl
  | false=>exact .inr fun p hp=>by simpa using (inS_iff7.1 (h p hp)).2
theorem upL_good {V V':Lw} {R:Rc} (h:upL V R=some V') (g:GoodL V):GoodL V':=by
  unfold upL at h
  split at h
  · cases h
  split at h
  · split at h
    · rename_i hc
      cases h
      refine ⟨.of_pw (g.right.pw.put _) fun p hp=>?_,?_⟩
      · rcases mem_putR hp with h | rfl
        · exact g.right.fit p h
        · exact hc.1
      · rcases g.up with h | h
        · exact .inl h
        · rcases (inS_iff7.1 hc.2).2 with h' | h'
          · exact .inl h'
          · refine .inr fun p hp=>?_
            rcases mem_putR hp with hp | rfl
            · exact h p hp
            · exact h'
    · cases h
  split at h
  · split at h
    · cases h
      exact ⟨.of_pw (g.right.pw.dropR _) fun p hp=>g.right.fit p (mem_dropR hp),g.up.imp id fun h p hp=>h p (mem_dropR hp)⟩
    · cases h
  split at h
  · split at h
    · cases h
      exact ⟨.of_pw g.right.pw.take fun p hp=>g.right.fit p (List.mem_of_mem_take hp),.inr fun p hp=>plR_app _ _ p hp⟩
    · cases h
  split at h
  · split at h
    · rename_i hc
      cases h
      obtain ⟨⟨h1,h2,h3,h4⟩,h5⟩:=hc
      have hu:∀ p ∈ V.rows,ltS p.1 R.key=true:=by
        rcases g.up with h | h
        · rw [h1] at h;cases h
        · rw [← h2];exact h
      refine ⟨.of_pw (join_pw g.right hu h3) fun p hp=>?_,?_⟩
      · rcases List.mem_append.1 hp with hp | hp
        · exact g.right.fit p hp
        · exact h3.right.fit p hp
      · rcases in_up h3.inn with h | h
        · exact .inl h
        · rcases h4 with h4 | h4
          · exact .inl h4
          · refine .inr fun p hp=>?_
            rcases List.mem_append.1 hp with hp | hp
            · exact ltS_trans (hu p hp) h4
            · exact h p hp
    · cases h
  split at h
  · cases h;exact ⟨g.right,g.up⟩
  · cases h
theorem foldL_good:∀ {l:List Rc} {V:Lw},foldL l=some V→GoodL V
  | [],_,h=>by cases h
  | [b],V,h=>by
    unfold foldL at h
    split at h
    · rename_i hc
      cases h
      exact ⟨hc.2.right,in_up hc.2.inn⟩
    · cases h
  | r :: s :: t,V,h=>by
    rw [foldL_cons r (by simp)] at h
    cases e:foldL (s :: t) with
    | none=>rw [e] at h;cases h
    | some V0 =>
      rw [e] at h
      exact upL_good h (foldL_good e)
theorem upL_kind1 {V:Lw} {R:Rc} (h:R.kind=1):upL V R=none:=by
  unfold upL
  split
  · rfl
  rw [if_neg (by omega),if_neg (by omega),if_neg (by omega),if_neg (by omega),if_neg (by omega)]
theorem upL_gone {V:Lw} {R:Rc} (h:V.gone=true):upL V R=none:=by unfold upL;rw [if_pos h]
theorem upL_gone5 {V V':Lw} {R:Rc} (h:upL V R=some V') (hg:V'.gone=true):R.kind=5:=by
  unfold upL at h
  split at h
  · cases h
  rename_i h0
  split at h
  · split at h
    · cases h;exact absurd hg h0
    · cases h
  split at h
  · split at h
    · cases h;exact absurd hg h0
    · cases h
  split at h
  · split at h
    · cases h;exact absurd hg h0
    · cases h
  split at h
  · split at h
    · cases h;exact absurd hg h0
    · cases h
  split at h
  · assumption
  · cases h
theorem upL_five {V V':Lw} {R:Rc} (h:upL V R=some V') (h5:R.kind=5):V'.gone=true:=by
  unfold upL at h
  rw [h5] at h
  split at h
  · cases h
  · simp at h
    rw [← h]
theorem foldL_gone {l:List Rc} {V:Lw} (h:foldL l=some V) (hg:V.gone=true):∃ r t,l=r :: t∧r.kind=5:=by
  match l,h with
  | [b],h =>
    unfold foldL at h
    split at h
    · cases h;cases hg
    · cases h
  | r :: s :: t,h =>
    rw [foldL_cons r (by simp)] at h
    cases e:foldL (s :: t) with
    | none=>rw [e] at h;cases h
    | some V0=>rw [e] at h;exact ⟨r,_,rfl,upL_gone5 h hg⟩
theorem foldL_at {l:List Rc} {k:Nat} {R:Rc} (hR:l[k]?=some R) (hk:k+1 < l.length):foldL (l.drop k)=(foldL (l.drop (k+1))).bind fun V=>upL V R:=by
  obtain ⟨h,rfl⟩:=List.getElem?_eq_some_iff.1 hR
  rw [List.drop_eq_getElem_cons h,foldL_cons _ (by intro e;have:=congrArg List.length e;simp at this;omega)]
theorem foldL_no1 {l:List Rc} {k:Nat} {R:Rc} (hR:l[k]?=some R) (hk:k+1 < l.length) (h:R.kind=1):foldL l=none:=by
  have e:foldL (l.drop k)=none:=by
    rw [foldL_at hR hk]
    cases foldL (l.drop (k+1)) with
    | none=>rfl
    | some V=>exact upL_kind1 h
  simpa using foldL_none (by omega) e 0 (Nat.zero_le _)
theorem foldL_no5 {l:List Rc} {k:Nat} {R:Rc} (hR:l[k]?=some R) (hk:0 < k) (h:R.kind=5):foldL l=none:=by
  have hl:=(List.getElem?_eq_some_iff.1 hR).1
  obtain ⟨j,rfl⟩:∃ j,k=j+1:=⟨k - 1,by omega⟩
  have e:foldL (l.drop j)=none:=by
    obtain ⟨r,hr⟩:∃ r,l[j]?=some r:=⟨_,List.getElem?_eq_getElem (by omega)⟩
    rw [foldL_at hr hl]
    cases e2:foldL (l.drop (j+1)) with
    | none=>rfl
    | some V =>
      refine upL_gone ?_
      rcases Nat.lt_or_ge (j+1+1) l.length with h2 | h2
      · rw [foldL_at hR h2] at e2
        cases e3:foldL (l.drop (j+1+1)) with
        | none=>rw [e3] at e2;cases e2
        | some V0=>rw [e3] at e2;exact upL_five e2 h
      · obtain ⟨hlt,rfl⟩:=List.getElem?_eq_some_iff.1 hR
        rw [List.drop_eq_getElem_cons hlt,List.drop_eq_nil_of_le h2] at e2
        unfold foldL at e2
        split at e2
        · rename_i hc;rw [h] at hc;omega
        · cases e2
  simpa using foldL_none (by omega) e 0 (Nat.zero_le _)
theorem foldL_noL {l:List Rc} {m:Nat} {R:Rc} (hR:l[m]?=some R) (hm:l.length=m+1) (h:R.kind≠1):foldL l=none:=by
  obtain ⟨hlt,rfl⟩:=List.getElem?_eq_some_iff.1 hR
  have e:foldL (l.drop m)=none:=by
    rw [List.drop_eq_getElem_cons hlt,List.drop_eq_nil_of_le (by omega)]
    exact foldL_one_no _ fun hc=>h hc.1
  simpa using foldL_none hlt e 0 (Nat.zero_le _)
theorem foldL_no {l:List Rc} {k:Nat} (hk:k < l.length) (h:foldL (l.drop k)=none):foldL l=none:=by simpa using foldL_none hk h 0 (Nat.zero_le _)
theorem ltS_iff_ne {a b:ByteArray} (h:ltS b a=false):ltS a b=true ↔ b≠a:=by
  refine ⟨fun e=>(ltS_ne e).symm,fun e=>?_⟩
  rcases ltS_total a b with h1 | h1 | h1
  · exact h1
  · exact absurd h1.symm e
  · rw [h] at h1;cases h1
open Go.RowKit Go.BigFrame

set_option maxHeartbeats 2000000 in
theorem before_ok (a b:ByteArray) (w:World) (ha:a.size≤9000000000000000000) (hb:b.size≤9000000000000000000) :
  Calls Tryz.prog 42 #[.string a,.string b] w fun e w'=>e=.returned (.bool (ltS a b))∧∃ n,w'=w.drewN n:=by
 go_enter Tryz.func42,Tryz.ntmps42
 go_wp2_with fail
 go_loopw [5] (fun i wr=>∃ k:Nat,k≤a.size∧k≤b.size∧i=.int .i64 k∧(∀ j,j < k→a.data.toList[j]?=b.data.toList[j]?)∧∃ q,wr=w.drewN q) (fun i _=>b.size - (intOf i).toNat)
 case atStart=>exact ⟨0,Nat.zero_le _,Nat.zero_le _,rfl,fun j hj=>by omega,0,rfl⟩
 case round =>
  obtain ⟨k,hka',hkb',rfl,hall,q,rfl⟩:=hrel
  have HA:=hid_ hall
  have hi0:(0:Int)≤(k:Int):=Int.natCast_nonneg _
  clear hall
  by_cases hlb:k < b.size
  ·have hib:(k:Int) < (b.size:Int):=by omega
   by_cases hla:k=a.size
   ·have hz:((k:Int)==(a.size:Int))=true:=beq_iff_eq.2 (by omega)
    have HE:Hid (ltS a b=true):=hid_ (lt_of_end (by rw [ba_len];exact (cpL_is HA.out (by rw [ba_len];omega) (by rw [ba_len];omega) (.inl (by rw [ba_len];exact hla))).trans hla) (by rw [ba_len,ba_len];omega))
    clear hla
    go_wp2_with fail
    go_ret
    refine ⟨by rw [HE.out];rfl,?_⟩
    first | exact ⟨_,rfl⟩ | exact ⟨_,drewN_drewN _ _ _⟩
   ·have hz:((k:Int)==(a.size:Int))=false:=beq_eq_false_iff_ne.2 (by omega)
    have hka:k < a.size:=by omega
    have hkb:k < b.size:=hlb
    have hia:(k:Int) < (a.size:Int):=by omega
    clear hla
    by_cases he:a[k]=b[k]
    ·have hne:((a[k].toNat:Int) != (b[k].toNat:Int))=false:=by rw [he];simp
     have HS:Hid (∀ j,j < k+1→a.data.toList[j]?=b.data.toList[j]?):=hid_ (fun j hj=>by
      rcases Nat.lt_succ_iff_lt_or_eq.1 hj with h | rfl
      ·exact HA.out j h
      ·rw [ba_get hka,ba_get hkb,he])
     clear he
     go_wp2_with fail
     go_quiet (fail)
     go_wp2_with fail
     go_roundw
     case rel=>exact ⟨k+1,by omega,by omega,by go_num,HS.out,_,by first | rfl | exact drewN_drewN _ _ _⟩
     case measure=>simp [intOf];omega
    ·have hne:((a[k].toNat:Int) != (b[k].toNat:Int))=true:=by
      rw [bne_iff_ne]
      intro e
      exact he (u8_eq (by omega))
     have hcp:cpL a.data.toList b.data.toList=k:=cpL_is HA.out (by rw [ba_len];omega) (by rw [ba_len];omega) (.inr (.inr ⟨a[k],b[k],ba_get hka,ba_get hkb,he⟩))
     have HE:Hid (decide (a[k].toNat < b[k].toNat)=ltS a b):=hid_ (by
      by_cases hlt:a[k].toNat < b[k].toNat
      ·have:ltS a b=true:=lt_of_stop (a:=a[k]) (b:=b[k]) (by rw [hcp];exact ba_get hka) (by rw [hcp];exact ba_get hkb) hlt
       rw [this];simp [hlt]
      ·have h2:b[k].toNat < a[k].toNat:=by
        have:a[k].toNat≠b[k].toNat:=fun e=>he (u8_eq e)
        omega
       have:ltS b a=true:=lt_of_stop (a:=b[k]) (b:=a[k]) (by rw [cp_comm,hcp];exact ba_get hkb) (by rw [cp_comm,hcp];exact ba_get hka) h2
       rw [ltS_asymm this];simp [hlt])
     clear he hcp
     go_wp2_with fail
     go_quiet (fail)
     go_wp2_with fail
     go_quiet (fail)
     go_wp2_with fail
     go_ret
     refine ⟨by rw [← HE.out];rfl,?_⟩
     first | exact ⟨_,rfl⟩ | exact ⟨_,drewN_drewN _ _ _⟩ | (simp only [drewN_drewN];exact ⟨_,rfl⟩)
  ·obtain rfl:k=b.size:=by omega
   have HE:Hid (ltS a b=false):=hid_ (by
    cases h:ltS a b with
    | false=>rfl
    | true =>
     have hcp:cpL a.data.toList b.data.toList=b.size:=cpL_is HA.out (by rw [ba_len];omega) (by rw [ba_len];omega) (.inr (.inl (by rw [ba_len])))
     rcases Nat.lt_or_ge b.size a.size with h1 | h1
     ·have:ltS b a=true:=lt_of_end (by rw [cp_comm,hcp,ba_len]) (by rw [ba_len,ba_len];exact h1)
      rw [ltS_asymm this] at h;cases h
     ·have he:a=b:=ba_eq (eq_of_cp (by rw [hcp,ba_len];omega) (by rw [hcp,ba_len]))
      rw [he,ltS_irrefl] at h;cases h)
   go_wp2_with fail
   go_ret
   refine ⟨by rw [HE.out];rfl,?_⟩
   first | exact ⟨_,rfl⟩ | exact ⟨_,drewN_drewN _ _ _⟩
set_option maxHeartbeats 1000000 in
theorem rin_ok (low high:ByteArray) (unb:Bool) (key:ByteArray) (w:World) (h1:low.size≤9000000000000000000) (h2:high.size≤9000000000000000000) (h3:key.size≤9000000000000000000) :
    Calls Tryz.prog 41 #[.string low,.string high,.bool unb,.string key] w fun e w'=>e=.returned (.bool (inS low high unb key))∧∃ n,w'=w.drewN n:=by
  have HE:∀ b,ltS key low=b→inS low high unb key=(!b && (unb || ltS key high)):=fun b hb=>by rw [← hb];rfl
  have H:=hid_ HE
  clear HE
  cases ha:ltS key low with
  | true =>
    have HA:=hid_ ha
    clear ha
    go_enter Tryz.func41,Tryz.ntmps41
    go_wp2_with fail
    refine (before_ok key low _ h3 h1).mono ?_
    rintro e w1 ⟨rfl,q,rfl⟩
    rw [HA.out]
    go_wp2_with fail
    go_ret
    exact ⟨by rw [H.out true HA.out];rfl,_,rfl⟩
  | false =>
    have HA:=hid_ ha
    clear ha
    cases unb with
    | true =>
      go_enter Tryz.func41,Tryz.ntmps41
      go_wp2_with fail
      refine (before_ok key low _ h3 h1).mono ?_
      rintro e w1 ⟨rfl,q,rfl⟩
      rw [HA.out]
      go_wp2_with fail
      go_ret
      exact ⟨by rw [H.out false HA.out];rfl,_,rfl⟩
    | false =>
      go_enter Tryz.func41,Tryz.ntmps41
      go_wp2_with fail
      refine (before_ok key low _ h3 h1).mono ?_
      rintro e w1 ⟨rfl,q,rfl⟩
      rw [HA.out]
      go_wp2_with fail
      refine (before_ok key high _ h3 h2).mono ?_
      rintro e w2 ⟨rfl,q2,rfl⟩
      go_wp2_with fail
      go_ret
      exact ⟨by rw [H.out false HA.out];simp,_,by first | rfl | exact drewN_drewN _ _ _⟩
theorem rvin_ok (V:Vw) (ve:Value) (key:ByteArray) (w:World) (h1:SzOk V.low) (h2:SzOk V.high) (h3:SzOk key) :
    Calls Tryz.prog 43 #[vwV V ve,.string key] w fun e w'=>e=.returned (.bool (inS V.low V.high V.unb key))∧Fr none_ w w':=by
  have F0:=hid_ ((Fr.refl none_ w).alloc (.cells (vwA V ve) 46))
  have H:=hid_ (And.intro h1 (And.intro h2 h3))
  clear h1 h2 h3
  go_enter Tryz.func43,Tryz.ntmps43
  go_wp2_with fail
  refine (rin_ok V.low V.high V.unb key _ H.out.1.le H.out.2.1.le H.out.2.2.le).mono ?_
  rintro e w1 ⟨rfl,q,rfl⟩
  go_wp2
  go_ret
  exact ⟨rfl,F0.out.drewN q⟩
def Rising (L:List Et):Prop:=∀ (j:Nat) (p q:Et),L[j]?=some p→L[j+1]?=some q→ltS p.1 q.1=true
def AtIs (L:List Et) (key:ByteArray) (k:Int):Prop:=(∃ (i:Nat) (p:Et),k=(i:Int)∧L[i]?=some p∧p.1=key)∨(k=-1∧∀ (i:Nat) (p:Et),L[i]?=some p→p.1≠key)
set_option maxHeartbeats 2000000 in
theorem rat_ok (V:Vw) (A:Option Addr) (c:Nat) (key:ByteArray) (w:World) (h:VwIn w V A c):Calls Tryz.prog 77 #[vwV V (.slice A V.ents.length c),.string key] w fun e w'=>∃ k:Int,e=.returned (.int .i64 k)∧AtIs V.ents key k∧Fr none_ w w':=by
  obtain ⟨w0,hw0⟩:∃ z,z=w.alloc (.cells (vwA V (.slice A V.ents.length c)) 46):=⟨_,rfl⟩
  have f0:Fr none_ w w0:=by rw [hw0];exact (Fr.refl none_ w).alloc _
  have BV:Hid (Blk w0 w.heap.size 46 (vwA V (.slice A V.ents.length c))):=hid_ (by rw [hw0];exact Blk.new w _ _)
  have F0:=hid_ f0
  have HI:=hid_ (h.keep f0)
  have h1000:=h.ok.ents.1
  clear h f0
  go_enter Tryz.func77,Tryz.ntmps77
  go_upto_region 1 with fail
  change Code.wp _ _ _ _ (w.alloc (.cells (vwA V (.slice A V.ents.length c)) 46))
  rw [← hw0]
  clear hw0
  go_wp2_with fail
  go_loopw [5] (fun i wr=>∃ k:Nat,k≤V.ents.length∧i=.int .i64 k∧(∀ (j:Nat) (p:Et),j < k→V.ents[j]?=some p→p.1≠key)∧w0=wr) (fun i _=>V.ents.length - (intOf i).toNat)
  case atStart=>exact ⟨0,Nat.zero_le _,rfl,fun j p hj=>by omega,rfl⟩
  case round =>
    obtain ⟨k,hk,rfl,hall,rfl⟩:=hrel
    have HA:=hid_ hall
    have hi0:(0:Int)≤(k:Int):=Int.natCast_nonneg _
    have v4:w0.cell? ⟨w.heap.size,4,none⟩=some (.slice A V.ents.length c):=BV.out.cell' rfl
    clear hall
    by_cases hlt:k < V.ents.length
    · obtain ⟨q,hq⟩:∃ q,V.ents[k]?=some q:=⟨_,List.getElem?_eq_getElem hlt⟩
      have HQ:=hid_ hq
      obtain ⟨b,off,rfl,hb,d0,d1⟩:=et_at HI.out.rd hq
      have hi1:(k:Int) < (V.ents.length:Int):=by omega
      clear hq d1
      cases hc:sEq q.1 key with
      | true =>
        have hd:(q.1.toList==key.toList)=true:=hc
        have HC:=hid_ (sEq_iff.1 hc)
        clear hc
        go_wp2_with fail
        go_ret
        exact ⟨(k:Int),rfl,.inl ⟨k,q,rfl,HQ.out,HC.out⟩,F0.out⟩
      | false =>
        have hd:(q.1.toList==key.toList)=false:=hc
        have HC:Hid (q.1≠key):=hid_ (fun e=>by rw [sEq_iff.2 e] at hc;cases hc)
        clear hc
        go_wp2_with fail
        go_roundw
        case rel =>
          refine ⟨k+1,by omega,by go_num,fun j p hj hp=>?_,by first | rfl | trivial⟩
          rcases Nat.lt_succ_iff_lt_or_eq.1 hj with h | rfl
          · exact HA.out j p h hp
          · obtain rfl:=Option.some.inj (HQ.out.symm.trans hp)
            exact HC.out
        case measure=>simp [intOf];omega
    · have hi1:¬ (k:Int) < (V.ents.length:Int):=by omega
      go_wp2_with fail
      go_ret
      exact ⟨-1,rfl,.inr ⟨rfl,fun j p hp=>HA.out j p (by have:=(List.getElem?_eq_some_iff.1 hp).1;omega) hp⟩,F0.out⟩
theorem Rising.tail {q:Et} {t:List Et} (h:Rising (q :: t)):Rising t:=fun j p r hp hr=>h (j+1) p r (by simpa using hp) (by simpa using hr)
theorem Rising.behind {q:Et}:∀ {t:List Et},Rising (q :: t)→∀ p ∈ t,ltS q.1 p.1=true
  | [],_,p,hp=>by cases hp
  | r :: t,h,p,hp=>by
    have h0:ltS q.1 r.1=true:=h 0 q r rfl rfl
    rcases List.mem_cons.1 hp with rfl | hp
    · exact h0
    · exact ltS_trans h0 (Rising.behind h.tail p hp)
theorem at_mem:∀ {L:List Et},Rising L→∀ {p:Et},p ∈ L→atB L p.1=true
  | [],_,p,hp=>by cases hp
  | q :: t,h,p,hp=>by
    rcases List.mem_cons.1 hp with rfl | hp
    · have hz:plN (p :: t) p.1=0:=by rw [plN,if_neg (by rw [ltS_irrefl];simp)]
      rw [atB_some (p:=p) (by rw [hz];rfl)]
      exact sEq_iff.2 rfl
    · have h1:=h.behind p hp
      have ih:=at_mem h.tail hp
      have ha:atB (q :: t) p.1=atB t p.1:=by
        unfold atB
        rw [plN,if_pos h1]
        simp
      rw [ha];exact ih
theorem at_rising {L:List Et} {key:ByteArray} {k:Int} (h:Rising L) (ha:AtIs L key k):atB L key=decide (0≤k):=by
  rcases ha with ⟨i,p,rfl,hp,rfl⟩ | ⟨rfl,hno⟩
  · have:(decide ((0:Int)≤(i:Int)))=true:=by simp
    rw [this]
    exact at_mem h (List.mem_of_getElem? hp)
  · show atB L key=false
    cases hc:atB L key with
    | false=>rfl
    | true =>
      have hlt:=atB_lt hc
      obtain ⟨p,hp⟩:∃ p,L[plN L key]?=some p:=⟨_,List.getElem?_eq_getElem hlt⟩
      rw [atB_some hp] at hc
      exact absurd (sEq_iff.1 hc) (hno _ p hp)
open Go.RowKit Go.BigFrame

set_option maxHeartbeats 2000000 in
theorem rkright_ok (k:ByteArray) (w:World) (h:SzOk k):Calls Tryz.prog 114 #[.string k] w fun e w'=>e=.returned (.bool (decide (1≤k.size) && decide (k.size≤16)))∧Fr none_ w w':=by
  have hl:=h.le
  clear h
  go_enter Tryz.func114,Tryz.ntmps114
  by_cases h1:1≤k.size
  · have e1:decide ((0:Int) < (k.size:Int))=true:=decide_eq_true (by omega)
    have H1:=hid_ h1
    by_cases h2:k.size≤16
    · have e2:decide ((k.size:Int) < 17)=true:=decide_eq_true (by omega)
      have H2:=hid_ h2
      clear h1 h2
      go_wp2
      go_ret
      exact ⟨by simp [H1.out,H2.out],Fr.refl _ _⟩
    · have e2:decide ((k.size:Int) < 17)=false:=decide_eq_false (by omega)
      have H2:=hid_ h2
      clear h1 h2
      go_wp2
      go_ret
      exact ⟨by simp [H1.out,H2.out],Fr.refl _ _⟩
  · have e1:decide ((0:Int) < (k.size:Int))=false:=decide_eq_false (by omega)
    have H1:=hid_ h1
    clear h1
    go_wp2
    go_ret
    exact ⟨by simp [H1.out],Fr.refl _ _⟩
set_option maxHeartbeats 2000000 in
theorem rfits_ok (p:Rw) (w:World) (h1:SzOk p.1) (h2:SzOk p.2):Calls Tryz.prog 72 #[rwV p] w fun e w'=>e=.returned (.bool (fitsR p))∧Fr none_ w w':=by
  have hl:=h2.le
  have H1:=hid_ h1
  obtain ⟨w0,hw0⟩:∃ z,z=w.alloc (.cells #[.string p.1,.string p.2] 143):=⟨_,rfl⟩
  have f0:Fr none_ w w0:=by rw [hw0];exact (Fr.refl none_ w).alloc _
  have B0:Hid (Blk w0 w.heap.size 143 #[.string p.1,.string p.2]):=hid_ (by rw [hw0];exact Blk.new w _ _)
  have F0:=hid_ f0
  clear h1 h2 f0
  go_enter Tryz.func72,Tryz.ntmps72
  go_upto_region 1 with fail
  change Code.wp _ _ _ _ (w.alloc (.cells #[.string p.1,.string p.2] 143))
  rw [← hw0]
  clear hw0
  have c0:w0.cell? ⟨w.heap.size,0,none⟩=some (.string p.1):=B0.out.cell' rfl
  go_wp2_with fail
  refine (rkright_ok p.1 _ H1.out).mono ?_
  rintro e w1 ⟨rfl,hf⟩
  have c1:w1.cell? ⟨w.heap.size,1,none⟩=some (.string p.2):=(B0.out.fr hf id).cell' rfl
  replace F0:=hid_ (F0.out.then_none hf)
  clear c0 hf
  obtain ⟨b,hb⟩:∃ b,(decide (1≤p.1.size) && decide (p.1.size≤16))=b:=⟨_,rfl⟩
  rw [hb]
  have HB:=hid_ hb
  clear hb
  cases b with
  | false =>
    go_wp2
    go_ret
    exact ⟨by simp [fitsR,HB.out],F0.out⟩
  | true =>
    by_cases h2:p.2.size≤16
    · have e2:decide ((p.2.size:Int)≤16)=true:=by simp;omega
      have H2:=hid_ h2
      clear h2
      go_wp2
      go_ret
      exact ⟨by simp [fitsR,HB.out,H2.out],F0.out⟩
    · have e2:decide ((p.2.size:Int)≤16)=false:=by simp;omega
      have H2:=hid_ h2
      clear h2
      go_wp2
      go_ret
      exact ⟨by simp [fitsR,HB.out,H2.out],F0.out⟩
set_option maxHeartbeats 4000000 in
theorem rfind_ok (L:List Rw) (A:Option Addr) (c:Nat) (key:ByteArray) (w:World) (h:Reads w 2 A L.length (rwFlat L)) (ho:RwsOk L) (hk:SzOk key) :
  Calls Tryz.prog 115 #[.slice A L.length c,.string key] w fun e w'=>e=.returned (.tuple #[.int .i64 (plR L key:Nat),.bool (atR L key)])∧Fr none_ w w':=by
 have H0:=hid_ h
 have hle:=plR_le L key
 have h1000:=ho.1
 have HSZ:=hid_ (And.intro ho.2 hk)
 clear h ho hk
 go_enter Tryz.func115,Tryz.ntmps115
 go_wp2_with fail
 go_loopw [6] (fun i wr=>∃ k:Nat,k≤plR L key∧i=.int .i64 k∧Fr none_ w wr) (fun i _=>plR L key - (intOf i).toNat)
 case atStart=>exact ⟨0,Nat.zero_le _,rfl,Fr.refl _ _⟩
 case round =>
  obtain ⟨k,hk,rfl,hF⟩:=hrel
  have H:=hid_ (H0.out.none_fr hF)
  have F:=hid_ hF
  clear hF
  have hi0:(0:Int)≤(k:Int):=Int.natCast_nonneg _
  by_cases hlt:k < plR L key
  ·have hkl:k < L.length:=by omega
   have hi1:(k:Int) < (L.length:Int):=by omega
   have hd1:decide ((k:Int) < (L.length:Int))=true:=by simp;omega
   obtain ⟨p,hp⟩:∃ p,L[k]?=some p:=⟨_,List.getElem?_eq_getElem hkl⟩
   obtain ⟨b,off,rfl,hb,c0,c1⟩:=rw_at H.out hp
   have hcmp:ltS p.1 key=true:=plR_in hlt hp
   have hsz:=(HSZ.out.1 p (List.mem_of_getElem? hp)).1
   have HCMP:=hid_ hcmp
   clear hp hcmp c1
   go_wp2_with fail
   refine (before_ok p.1 key _ hsz.le HSZ.out.2.le).mono ?_
   rintro e w1 ⟨rfl,q,rfl⟩
   rw [HCMP.out]
   have FQ:=hid_ (F.out.drewN q)
   clear c0
   go_wp2_with fail
   go_roundw
   case rel=>exact ⟨k+1,by omega,by go_num,FQ.out⟩
   case measure=>simp [intOf];omega
  ·obtain rfl:k=plR L key:=by omega
   by_cases hl:plR L key < L.length
   ·obtain ⟨p,hp⟩:∃ p,L[plR L key]?=some p:=⟨_,List.getElem?_eq_getElem hl⟩
    obtain ⟨b,off,rfl,hb,c0,c1⟩:=rw_at H.out hp
    have hcmp:ltS p.1 key=false:=plR_at hp
    have hat:atR L key=sEq p.1 key:=atR_some hp
    have HAT:=hid_ hat
    have hsz:=(HSZ.out.1 p (List.mem_of_getElem? hp)).1
    obtain ⟨n,hn⟩:∃ n,n=plR L key:=⟨_,rfl⟩
    have hi1:(n:Int) < (L.length:Int):=by omega
    have hd1:decide ((n:Int) < (L.length:Int))=true:=by simp;omega
    rw [← hn] at c0 c1 hi0
    rw [← hn]
    have HCMP:=hid_ hcmp
    have HN:=hid_ hn
    clear hp hcmp c1 hl hlt hn hk hle hat
    go_wp2_with fail
    refine (before_ok p.1 key _ hsz.le HSZ.out.2.le).mono ?_
    rintro e w1 ⟨rfl,q,rfl⟩
    rw [HCMP.out]
    have FQ:=hid_ (F.out.drewN q)
    go_wp2_with fail
    go_quiet (fail)
    go_wp2_with fail
    go_ret2
    exact ⟨by rw [HAT.out,← HN.out];rfl,by repeat (first | exact F.out | apply Fr.drewN | apply Fr.drew)⟩
   ·have he:plR L key=L.length:=by omega
    have HE:=hid_ he
    have hat:atR L key=false:=atR_none he
    have HAT:=hid_ hat
    have hd1:decide ((L.length:Int) < (L.length:Int))=false:=by simp
    rw [he]
    clear he hl hlt hk hle hat
    go_wp2_with fail
    go_ret2
    exact ⟨by rw [HAT.out,HE.out];rfl,F.out⟩
set_option maxHeartbeats 4000000 in
theorem rright_ok (L:List Rw) (A:Option Addr) (c:Nat) (w:World) (h:Reads w 2 A L.length (rwFlat L)) (ho:RwsOk L) :
  Calls Tryz.prog 113 #[.slice A L.length c] w (RightPost L w):=by
 have H1:=hid_ h
 have OK:=hid_ ho
 have h1000:=ho.1
 clear h ho
 go_enter Tryz.func113,Tryz.ntmps113
 go_wp2_with fail
 go_loopw [3] (fun i wr=>∃ k:Nat,k≤L.length∧i=.int .i64 k∧RightTo L k∧Fr none_ w wr) (fun i _=>L.length - (intOf i).toNat)
 case atStart=>exact ⟨0,Nat.zero_le _,rfl,⟨fun j p hj=>by omega,fun j p q hj=>by omega⟩,Fr.refl _ _⟩
 case round =>
  obtain ⟨k,hk,rfl,hst,hF⟩:=hrel
  have ST:=hid_ hst
  have H:=hid_ (H1.out.none_fr hF)
  have F:=hid_ hF
  clear hst hF
  have hi0:(0:Int)≤(k:Int):=Int.natCast_nonneg _
  by_cases hlt:k < L.length
  ·have hi1':(k:Int) < (L.length:Int):=by omega
   obtain ⟨p,hp⟩:∃ p,L[k]?=some p:=⟨_,List.getElem?_eq_getElem hlt⟩
   obtain ⟨b,off,rfl,hb2,c0,c1⟩:=rw_at H.out hp
   have HP:=hid_ hp
   have hpk:=OK.out.2 p (List.mem_of_getElem? hp)
   have HPK:=hid_ hpk
   clear hp hpk
   go_wp2_with fail
   refine (rfits_ok p wr HPK.out.1 HPK.out.2).mono ?_
   rintro e w1 ⟨rfl,hf1⟩
   replace H:=hid_ (H.out.none_fr hf1)
   replace F:=hid_ (F.out.then_none hf1)
   clear c0 c1 hf1
   cases hfit:fitsR p with
   | false =>
    have hns:¬ RightR L:=fun hS=>by
     have h:=hS.fit p (List.mem_of_getElem? HP.out)
     rw [hfit] at h
     cases h
    have HNS:=hid_ hns
    clear hns hfit
    go_wp2_with fail
    go_ret
    exact ⟨false,rfl,⟨(fun h=>by cases h),fun h=>absurd h HNS.out⟩,F.out⟩
   | true =>
   have HFIT:=hid_ hfit
   clear hfit
   go_upto_region 6 with fail
   go_cut [32] (fun v wq=>∃ bb:Bool,v=.bool bb∧(bb=false ↔ (∀ q,0 < k→L[k - 1]?=some q→ltS q.1 p.1=true))∧Fr none_ w1 wq)
   case first =>
    by_cases hk0:0 < k
    ·obtain ⟨q,hq⟩:∃ q,L[k - 1]?=some q:=⟨_,List.getElem?_eq_getElem (by omega)⟩
     obtain ⟨b3,off3,hA,hb3,d0,d1⟩:=rw_at H.out hq
     obtain ⟨rfl,rfl⟩:b=b3∧off=off3:=by injection hA with hA;injection hA with e1 e2;exact ⟨e1,e2⟩
     obtain ⟨b4,off4,hA4,hb4,g0,g1⟩:=rw_at H.out HP.out
     obtain ⟨rfl,rfl⟩:b=b4∧off=off4:=by injection hA4 with hA4;injection hA4 with e1 e2;exact ⟨e1,e2⟩
     have e0:∀ x:Wx w1,x.to.cell? ⟨b,off+(k - 1) * 2,none⟩=some (.string q.1):=fun x=>x.cell d0
     have e1:∀ x:Wx w1,x.to.cell? ⟨b,off+k * 2,none⟩=some (.string p.1):=fun x=>x.cell g0
     have hqk:=(OK.out.2 q (List.mem_of_getElem? hq)).1
     have HQK:=hid_ hqk
     have HQ:=hid_ hq
     have HQ':Hid ((∀ q',0 < k→L[k - 1]?=some q'→ltS q'.1 p.1=true) ↔ ltS q.1 p.1=true):=hid_ ⟨fun h=>h q hk0 hq,fun h q' _ hq'=>by rw [hq] at hq';cases hq';exact h⟩
     have HC2:Hid (∀ x:Wx w1,Calls Tryz.prog 42 #[.string q.1,.string p.1] x.to fun e w'=>e=.returned (.bool (ltS q.1 p.1))∧Fr none_ x.to w'):=hid_ (fun x=>(before_ok q.1 p.1 x.to HQK.out.le HPK.out.1.le).mono (by rintro e w' ⟨rfl,n,rfl⟩;exact ⟨rfl,(Fr.refl none_ _).drewN n⟩))
     have hw1:IntKind.i64.wrap ((k:Int) - 1)=((k - 1:Nat):Int):=by rw [show (k:Int) - 1=((k - 1:Nat):Int) by omega];exact IntWalk.i64_in _ (by omega)
     have hdk:decide (0 < k)=true:=decide_eq_true hk0
     have hj0:(0:Int)≤((k - 1:Nat):Int):=Int.natCast_nonneg _
     have hj1:((k - 1:Nat):Int) < (L.length:Int):=by omega
     obtain ⟨j,hj⟩:∃ j,j=k - 1:=⟨_,rfl⟩
     rw [← hj] at e0 hw1 hj0 hj1
     have HJ:=hid_ hj
     clear hq hA hA4 d0 d1 g0 g1 hqk hj hk0
     refine wp_region_quiet_x (by kernel_rfl) (by kernel_rfl) ?_
     repeat (first | go_big_quiet_step ((go_at_call 42;exact Calls.quiet_x (HC2.out _))) | quiet_step ((go_at_call 42;exact Calls.quiet_x (HC2.out _))))
     refine wpQuiet_nil ?_
     intro _ hw'
     obtain ⟨xq,hw''⟩:=hw'
     subst hw''
     go_wp2
     go_meet
     case rel=>exact ⟨_,rfl,by
      rw [HQ'.out]
      cases ltS q.1 p.1 <;> simp,xq.fr⟩
    ·have hdk:decide (0 < k)=false:=decide_eq_false hk0
     have hk0':k=0:=by omega
     have HK0:=hid_ hk0'
     clear hk0 hk0'
     refine wp_region_quiet_x (by kernel_rfl) (by kernel_rfl) ?_
     repeat (first | go_big_quiet_step (fail) | quiet_step (fail))
     refine wpQuiet_nil ?_
     intro _ hw'
     obtain ⟨xq,hw''⟩:=hw'
     subst hw''
     go_wp2
     go_meet
     case rel=>exact ⟨false,rfl,⟨fun _ q h=>by have:=HK0.out;omega,fun _=>rfl⟩,xq.fr⟩
   case rest =>
   obtain ⟨bb,rfl,hbb,hf⟩:=hcut
   have F3:=hid_ (F.out.then_none hf)
   have HB:=hid_ hbb
   clear hf hbb H F
   cases bb with
   | true =>
    have hns:¬ RightR L:=fun hS=>by
     have h:=HB.out.2 fun q h0 hq=>hS.ris (k - 1) q p hq (by rw [show k - 1+1=k by omega];exact HP.out)
     cases h
    have HNS:=hid_ hns
    clear hns
    go_wp2_with fail
    go_ret
    exact ⟨false,rfl,⟨(fun h=>by cases h),fun h=>absurd h HNS.out⟩,F3.out⟩
   | false =>
    have hst:RightTo L (k+1):=by
     have h:=HB.out.1 rfl
     refine ⟨fun j p' hj hp'=>?_,fun j p' q hj hp' hq=>?_⟩
     ·rcases Nat.lt_succ_iff_lt_or_eq.1 hj with hj | rfl
      ·exact ST.out.1 j p' hj hp'
      ·rw [HP.out] at hp';cases hp';exact HFIT.out
     ·rcases Nat.lt_succ_iff_lt_or_eq.1 hj with hj | hj
      ·exact ST.out.2 j p' q hj hp' hq
      ·rw [hj,HP.out] at hq
       cases hq
       exact h p' (by omega) (by rw [show k - 1=j by omega];exact hp')
    have HST:=hid_ hst
    clear hst
    go_wp2_with fail
    go_roundw
    case rel=>exact ⟨k+1,by omega,by go_num,HST.out,F3.out⟩
    case measure=>simp [intOf];omega
  ·obtain rfl:k=L.length:=by omega
   have hS:RightR L:=⟨fun p hp=>by obtain ⟨j,hj,e⟩:=List.mem_iff_getElem.1 hp;exact ST.out.1 j p hj (by rw [List.getElem?_eq_getElem hj,e]),fun j p q hp hq=>ST.out.2 j p q (List.getElem?_eq_some_iff.1 hq).1 hp hq⟩
   have HS:=hid_ hS
   clear hS
   go_wp2_with fail
   go_ret
   exact ⟨true,rfl,⟨fun _=>HS.out,fun _=>rfl⟩,F.out⟩
open Go.RowKit Go.BigFrame

theorem reads_blk7 {w:World} {t:TypeId} {cs:List Value} {b:Nat} (h:Blk w b t cs.toArray):Reads w cs.length (some ⟨b,0,none⟩) 1 cs:=
  ⟨by simp,fun _=>⟨_,rfl,fun j u hu=>by rw [add_lit,Nat.zero_add];exact h.cell' (by simpa using hu)⟩⟩
def RPutPost (L:List Rw) (p:Rw) (w:World) (e:Ending) (w':World):Prop:=
  ∃ A c,e=.returned (.tuple #[.slice A (putR L p).length c,.bool (atR L p.1)])∧w'.ownsRow w.heap.size 143 2 (.slice A (putR L p).length c) (putR L p).length (rwFlat (putR L p))∧Fr none_ w w'
set_option maxHeartbeats 4000000 in
theorem rput_ok (L:List Rw) (A:Option Addr) (c:Nat) (p:Rw) (w:World) (h:Reads w 2 A L.length (rwFlat L)) (ho:RwsOk L) (hc:L.length≤c) (hm:c≤maxLen) (hp:SzOk p.1∧SzOk p.2) :
  Calls Tryz.prog 73 #[.slice A L.length c,rwV p] w (RPutPost L p w):=by
 obtain ⟨i0,hi0,hz0,hs0,hb0⟩:=info_parts row_info
 have Hi:=hid_ (And.intro hi0 (And.intro hz0 (And.intro hs0 hb0)))
 clear hi0 hz0 hs0 hb0
 have HK:=hid_ hp
 have HO:=hid_ ho
 have hpl:=plR_le L p.1
 have h3:=ho.1
 unfold maxLen at hm
 obtain ⟨w0,hw0⟩:∃ z,z=w.alloc (.cells #[.string p.1,.string p.2] 143):=⟨_,rfl⟩
 have f0:Fr none_ w w0:=by rw [hw0];exact (Fr.refl none_ w).alloc _
 have B0:Hid (Blk w0 w.heap.size 143 #[.string p.1,.string p.2]):=hid_ (by rw [hw0];exact Blk.new w _ _)
 have F0:=hid_ f0
 have H:=hid_ (h.none_fr f0)
 clear h ho hp f0
 go_enter Tryz.func73,Tryz.ntmps73
 go_upto_region 1 with fail
 change Code.wp _ _ _ _ (w.alloc (.cells #[.string p.1,.string p.2] 143))
 rw [← hw0]
 clear hw0
 have c0:w0.cell? ⟨w.heap.size,0,none⟩=some (.string p.1):=B0.out.cell' rfl
 go_wp2_with fail
 refine (rfind_ok L A c p.1 w0 H.out HO.out HK.out.1).mono ?_
 rintro e w2 ⟨rfl,hf2⟩
 clear c0
 replace F0:=hid_ (F0.out.then_none hf2)
 replace B0:=hid_ (B0.out.fr hf2 id)
 replace H:=hid_ (H.out.none_fr hf2)
 clear hf2
 obtain ⟨n,hn⟩:∃ n,n=plR L p.1:=⟨_,rfl⟩
 obtain ⟨b,hb⟩:∃ b,b=atR L p.1:=⟨_,rfl⟩
 rw [← hn,← hb]
 rw [← hn] at hpl
 have hlt:b=true→n < L.length:=fun h=>by rw [hn];exact atR_lt (by rw [← hb];exact h)
 have HPUT:Hid (putR L p=L.take n ++ [p] ++ L.drop (n+if b then 1 else 0)):=hid_ (by rw [putR,← hn,← hb])
 have HB:=hid_ hb
 have HN:=hid_ hn
 have HLT:=hid_ hlt
 clear hn hb hlt
 have hi0:(0:Int)≤(n:Int):=Int.natCast_nonneg _
 have hi1:(n:Int)≤(L.length:Int):=by omega
 have hcl:(L.length:Int)≤(c:Int):=by omega
 have hi2:(n:Int)≤(c:Int):=by omega
 have CAP:=hid_ hc
 have FL:=hid_ (rwFlat_take L n)
 have hF0s:=F0.out.size
 go_upto_region 2 with fail
 go_cut [8] (fun v wq=>∃ A' c',v=.slice A' (n+1) c'∧wq.ownsRow w.heap.size 143 2 (.slice A' (n+1) c') (n+1) (rwFlat (L.take n) ++ [.string p.1,.string p.2])∧Fr none_ w2 wq)
 case first =>
  have c0:w2.cell? ⟨w.heap.size,0,none⟩=some (.string p.1):=B0.out.cell' rfl
  have c1:w2.cell? ⟨w.heap.size,1,none⟩=some (.string p.2):=B0.out.cell' rfl
  have hS0:(fun w':World=>Fr none_ w2 w') w2.drew:=(Fr.refl none_ w2).drew
  refine wp_region_U (m:=9) (S:=fun w':World=>Fr none_ w2 w') (by kernel_rfl) ?_
  refine wpAnyU_take2 (i:=1) (v:=_) rfl (by kernel_rfl) (by kernel_rfl) (by kernel_rfl) (by kernel_rfl) (fun _ _ _ h=>h) (.inl ⟨by kernel_rfl,fun w' hS=>by go_simp;rfl⟩) hS0 ?_
  refine wpAnyU_take2 (i:=2) (v:=_) rfl (by kernel_rfl) (by kernel_rfl) (by kernel_rfl) (by kernel_rfl) (fun _ _ _ h=>h) (.inl ⟨by kernel_rfl,fun w' hS=>by go_simp;rfl⟩) hS0 ?_
  refine wpAnyU_take2 (i:=3) (v:=_) rfl (by kernel_rfl) (by kernel_rfl) (by kernel_rfl) (by kernel_rfl) (fun _ _ _ h=>h) (.inl ⟨by kernel_rfl,fun w' hS=>by go_simp;rfl⟩) hS0 ?_
  refine wpAnyU_take2 (i:=5) (v:=_) rfl (by kernel_rfl) (by kernel_rfl) (by kernel_rfl) (by kernel_rfl) (fun _ _ _ h=>h) (.inl ⟨by kernel_rfl,fun w' hS=>by have s_c0:=cellFr c0 hS;have s_c1:=cellFr c1 hS;go_simp;rfl⟩) hS0 ?_
  clear c0 c1 hS0
  obtain ⟨y1,hy1⟩:∃ z,z=w2.drew:=⟨_,rfl⟩
  have F2:Hid (Fr none_ w2 y1):=hid_ (by rw [hy1];exact (Fr.refl none_ w2).drew)
  rw [← hy1]
  clear hy1
  refine wpAnyU_two7 (i:=0) (j:=6) rfl rfl (by kernel_rfl) (by kernel_rfl) (by kernel_rfl) ?_ ?_
  ·skip
   go_simp
   obtain ⟨y3,hy3⟩:∃ z,z=y1.alloc (.cells #[] 143):=⟨_,rfl⟩
   have sy3:y1.heap.size < y3.heap.size:=by rw [hy3];simp [World.size_alloc]
   have f5:Fr none_ y1 y3:=by rw [hy3];exact (Fr.refl none_ _).alloc _
   have OE:Hid (y3.ownsRow w2.heap.size 143 2 (.slice (some ⟨y1.heap.size,0,none⟩) 0 0) 0 []):=hid_ (by rw [hy3];exact own_empty _ _ _ _ (by have:=F2.out.size;omega))
   have F4:=hid_ (F2.out.then_none f5)
   change _∧wpAnyU _ _ _ _ _ _ _ _ _ (y1.alloc (.cells #[] 143))
   rw [← hy3]
   refine ⟨F4.out,?_⟩
   clear hy3 f5
   refine wpAnyU_two7 (i:=4) (j:=6) rfl rfl (by kernel_rfl) (by kernel_rfl) (by kernel_rfl) ?_ ?_
   ·skip
    refine wp_append_any _ (.tmp 16) (.tmp 19) 28 rfl w2.heap.size 143 i0 _ 2 32 Tryz.underlying28 Hi.out.1 Hi.out.2.1 Hi.out.2.2.1 Hi.out.2.2.2 rfl (by omega) (.slice (some ⟨y1.heap.size,0,none⟩) 0 0) (0) ([]) rfl OE.out (A) (n) (c) (rwFlat (L.take n)) rfl (by rw [FL.out];exact (H.out.upto hpl).none_fr F4.out) (rwFlat_one _) (by simp only [maxLen];omega) (by omega) (by have:=F4.out.size;omega) ?_
    intro A8 c9 y6 hown hgr
    simp only [Nat.zero_add,List.nil_append] at hown ⊢
    have sy6:=hgr.size
    have F7:=hid_ (F4.out.grown hgr (fun k hk=>.inr (by have:=(OE.out.lt k hk).1;omega)))
    have O10:=hid_ hown
    refine ⟨.inr F7.out,?_⟩
    clear hown hgr OE
    have O4:=O10
    clear O10
    refine wpAnyU_one7 (i:=6) rfl (by kernel_rfl) (by kernel_rfl) ?_
    go_simp
    obtain ⟨y11,hy11⟩:∃ z,z=y6.alloc (.cells #[.string p.1,.string p.2] 143):=⟨_,rfl⟩
    have sy11:y6.heap.size < y11.heap.size:=by rw [hy11];simp [World.size_alloc]
    have f13:Fr none_ y6 y11:=by rw [hy11];exact (Fr.refl none_ _).alloc _
    replace O4:=hid_ (own_none O4.out f13)
    have BE:Hid (Blk y11 y6.heap.size 143 #[.string p.1,.string p.2]):=hid_ (by rw [hy11];exact Blk.new _ _ _)
    have F12:=hid_ (F7.out.then_none f13)
    change _∧wpAnyU _ _ _ _ _ _ _ _ _ (y6.alloc (.cells #[.string p.1,.string p.2] 143))
    rw [← hy11]
    refine ⟨F12.out,?_⟩
    clear hy11 f13
    refine wpAnyU_one7 (i:=7) rfl (by kernel_rfl) (by kernel_rfl) ?_
    refine wp_append_any _ (.tmp 20) (.tmp 22) 28 rfl w2.heap.size 143 i0 _ 2 32 Tryz.underlying28 Hi.out.1 Hi.out.2.1 Hi.out.2.2.1 Hi.out.2.2.2 rfl (by omega) (.slice A8 (n) c9) (n) (rwFlat (L.take n)) rfl O4.out (some ⟨y6.heap.size,0,none⟩) (1) (1) ([.string p.1,.string p.2]) rfl (reads_blk7 (cs:=[.string p.1,.string p.2]) BE.out) (by simp [Value.oneCell']) (by simp only [maxLen];omega) (by omega) (by have:=F12.out.size;omega) ?_
    intro A16 c17 y14 hown hgr
    have sy14:=hgr.size
    have F15:=hid_ (F12.out.grown hgr (fun k hk=>.inr (by have:=(O4.out.lt k hk).1;omega)))
    clear BE
    have O18:=hid_ hown
    refine ⟨.inr F15.out,?_⟩
    clear hown hgr O4
    have O7:=O18
    clear O18
    refine wpAnyU_one7 (i:=8) rfl (by kernel_rfl) (by kernel_rfl) ?_
    go_simp
    refine ⟨F15.out,?_⟩
    refine wpAnyU_done (by kernel_rfl) ?_ _
    go_wp2_with fail
    go_meet
    case rel=>exact ⟨_,_,rfl,own_base O7.out hF0s,F15.out⟩
   ·skip
    go_simp
    obtain ⟨y19,hy19⟩:∃ z,z=y3.alloc (.cells #[.string p.1,.string p.2] 143):=⟨_,rfl⟩
    have sy19:y3.heap.size < y19.heap.size:=by rw [hy19];simp [World.size_alloc]
    have f21:Fr none_ y3 y19:=by rw [hy19];exact (Fr.refl none_ _).alloc _
    replace OE:=hid_ (own_none OE.out f21)
    have BE:Hid (Blk y19 y3.heap.size 143 #[.string p.1,.string p.2]):=hid_ (by rw [hy19];exact Blk.new _ _ _)
    have F20:=hid_ (F4.out.then_none f21)
    change _∧wpAnyU _ _ _ _ _ _ _ _ _ (y3.alloc (.cells #[.string p.1,.string p.2] 143))
    rw [← hy19]
    refine ⟨F20.out,?_⟩
    clear hy19 f21
    refine wpAnyU_one7 (i:=4) rfl (by kernel_rfl) (by kernel_rfl) ?_
    refine wp_append_any _ (.tmp 16) (.tmp 19) 28 rfl w2.heap.size 143 i0 _ 2 32 Tryz.underlying28 Hi.out.1 Hi.out.2.1 Hi.out.2.2.1 Hi.out.2.2.2 rfl (by omega) (.slice (some ⟨y1.heap.size,0,none⟩) 0 0) (0) ([]) rfl OE.out (A) (n) (c) (rwFlat (L.take n)) rfl (by rw [FL.out];exact (H.out.upto hpl).none_fr F20.out) (rwFlat_one _) (by simp only [maxLen];omega) (by omega) (by have:=F20.out.size;omega) ?_
    intro A24 c25 y22 hown hgr
    simp only [Nat.zero_add,List.nil_append] at hown ⊢
    have sy22:=hgr.size
    have F23:=hid_ (F20.out.grown hgr (fun k hk=>.inr (by have:=(OE.out.lt k hk).1;omega)))
    replace BE:=hid_ (BE.out.fr (Fr.grown (S:=fun b=>(Value.slice (some ⟨y1.heap.size,0,none⟩) 0 0).ownBlock=some b) (Fr.refl _ _) hgr (fun k hk=>.inl hk)) (fun hk=>by simp [Value.ownBlock] at hk;omega))
    have O26:=hid_ hown
    refine ⟨.inr F23.out,?_⟩
    clear hown hgr OE
    have O4:=O26
    clear O26
    refine wpAnyU_one7 (i:=7) rfl (by kernel_rfl) (by kernel_rfl) ?_
    refine wp_append_any _ (.tmp 20) (.tmp 22) 28 rfl w2.heap.size 143 i0 _ 2 32 Tryz.underlying28 Hi.out.1 Hi.out.2.1 Hi.out.2.2.1 Hi.out.2.2.2 rfl (by omega) (.slice A24 (n) c25) (n) (rwFlat (L.take n)) rfl O4.out (some ⟨y3.heap.size,0,none⟩) (1) (1) ([.string p.1,.string p.2]) rfl (reads_blk7 (cs:=[.string p.1,.string p.2]) BE.out) (by simp [Value.oneCell']) (by simp only [maxLen];omega) (by omega) (by have:=F23.out.size;omega) ?_
    intro A29 c30 y27 hown hgr
    have sy27:=hgr.size
    have F28:=hid_ (F23.out.grown hgr (fun k hk=>.inr (by have:=(O4.out.lt k hk).1;omega)))
    clear BE
    have O31:=hid_ hown
    refine ⟨.inr F28.out,?_⟩
    clear hown hgr O4
    have O7:=O31
    clear O31
    refine wpAnyU_one7 (i:=8) rfl (by kernel_rfl) (by kernel_rfl) ?_
    go_simp
    refine ⟨F28.out,?_⟩
    refine wpAnyU_done (by kernel_rfl) ?_ _
    go_wp2_with fail
    go_meet
    case rel=>exact ⟨_,_,rfl,own_base O7.out hF0s,F28.out⟩
  ·skip
   go_simp
   obtain ⟨y32,hy32⟩:∃ z,z=y1.alloc (.cells #[.string p.1,.string p.2] 143):=⟨_,rfl⟩
   have sy32:y1.heap.size < y32.heap.size:=by rw [hy32];simp [World.size_alloc]
   have f34:Fr none_ y1 y32:=by rw [hy32];exact (Fr.refl none_ _).alloc _
   have BE:Hid (Blk y32 y1.heap.size 143 #[.string p.1,.string p.2]):=hid_ (by rw [hy32];exact Blk.new _ _ _)
   have F33:=hid_ (F2.out.then_none f34)
   change _∧wpAnyU _ _ _ _ _ _ _ _ _ (y1.alloc (.cells #[.string p.1,.string p.2] 143))
   rw [← hy32]
   refine ⟨F33.out,?_⟩
   clear hy32 f34
   refine wpAnyU_one7 (i:=0) rfl (by kernel_rfl) (by kernel_rfl) ?_
   go_simp
   obtain ⟨y35,hy35⟩:∃ z,z=y32.alloc (.cells #[] 143):=⟨_,rfl⟩
   have sy35:y32.heap.size < y35.heap.size:=by rw [hy35];simp [World.size_alloc]
   have f37:Fr none_ y32 y35:=by rw [hy35];exact (Fr.refl none_ _).alloc _
   replace BE:=hid_ (BE.out.fr f37 id)
   have OE:Hid (y35.ownsRow w2.heap.size 143 2 (.slice (some ⟨y32.heap.size,0,none⟩) 0 0) 0 []):=hid_ (by rw [hy35];exact own_empty _ _ _ _ (by have:=F33.out.size;omega))
   have F36:=hid_ (F33.out.then_none f37)
   change _∧wpAnyU _ _ _ _ _ _ _ _ _ (y32.alloc (.cells #[] 143))
   rw [← hy35]
   refine ⟨F36.out,?_⟩
   clear hy35 f37
   refine wpAnyU_one7 (i:=4) rfl (by kernel_rfl) (by kernel_rfl) ?_
   refine wp_append_any _ (.tmp 16) (.tmp 19) 28 rfl w2.heap.size 143 i0 _ 2 32 Tryz.underlying28 Hi.out.1 Hi.out.2.1 Hi.out.2.2.1 Hi.out.2.2.2 rfl (by omega) (.slice (some ⟨y32.heap.size,0,none⟩) 0 0) (0) ([]) rfl OE.out (A) (n) (c) (rwFlat (L.take n)) rfl (by rw [FL.out];exact (H.out.upto hpl).none_fr F36.out) (rwFlat_one _) (by simp only [maxLen];omega) (by omega) (by have:=F36.out.size;omega) ?_
   intro A40 c41 y38 hown hgr
   simp only [Nat.zero_add,List.nil_append] at hown ⊢
   have sy38:=hgr.size
   have F39:=hid_ (F36.out.grown hgr (fun k hk=>.inr (by have:=(OE.out.lt k hk).1;omega)))
   replace BE:=hid_ (BE.out.fr (Fr.grown (S:=fun b=>(Value.slice (some ⟨y32.heap.size,0,none⟩) 0 0).ownBlock=some b) (Fr.refl _ _) hgr (fun k hk=>.inl hk)) (fun hk=>by simp [Value.ownBlock] at hk;omega))
   have O42:=hid_ hown
   refine ⟨.inr F39.out,?_⟩
   clear hown hgr OE
   have O4:=O42
   clear O42
   refine wpAnyU_one7 (i:=7) rfl (by kernel_rfl) (by kernel_rfl) ?_
   refine wp_append_any _ (.tmp 20) (.tmp 22) 28 rfl w2.heap.size 143 i0 _ 2 32 Tryz.underlying28 Hi.out.1 Hi.out.2.1 Hi.out.2.2.1 Hi.out.2.2.2 rfl (by omega) (.slice A40 (n) c41) (n) (rwFlat (L.take n)) rfl O4.out (some ⟨y1.heap.size,0,none⟩) (1) (1) ([.string p.1,.string p.2]) rfl (reads_blk7 (cs:=[.string p.1,.string p.2]) BE.out) (by simp [Value.oneCell']) (by simp only [maxLen];omega) (by omega) (by have:=F39.out.size;omega) ?_
   intro A45 c46 y43 hown hgr
   have sy43:=hgr.size
   have F44:=hid_ (F39.out.grown hgr (fun k hk=>.inr (by have:=(O4.out.lt k hk).1;omega)))
   clear BE
   have O47:=hid_ hown
   refine ⟨.inr F44.out,?_⟩
   clear hown hgr O4
   have O7:=O47
   clear O47
   refine wpAnyU_one7 (i:=8) rfl (by kernel_rfl) (by kernel_rfl) ?_
   go_simp
   refine ⟨F44.out,?_⟩
   refine wpAnyU_done (by kernel_rfl) ?_ _
   go_wp2_with fail
   go_meet
   case rel=>exact ⟨_,_,rfl,own_base O7.out hF0s,F44.out⟩
 case rest =>
 obtain ⟨A2,c2,rfl,hown,hf⟩:=hcut
 have O:=hid_ hown
 have F:=hid_ (F0.out.then_none hf)
 replace H:=hid_ (H.out.none_fr hf)
 clear hown hf FL
 obtain ⟨m,hm7⟩:∃ m,m=(n+if b then 1 else 0):=⟨_,rfl⟩
 rw [← hm7] at HPUT
 have hml:m≤L.length:=by
  cases b with
  | false=>simp at hm7;omega
  | true=>have:=HLT.out rfl;simp at hm7;omega
 obtain ⟨A5,hA5⟩:∃ A5,(if c=m then A else Option.map (fun x=>x.add (m * 2)) A)=A5:=⟨_,rfl⟩
 have R2:=H.out.cut hml CAP.out
 rw [hA5] at R2
 have R2':=hid_ R2
 clear R2
 have hdl:(L.drop m).length=L.length - m:=by simp
 have hi3:(0:Int)≤(m:Int):=Int.natCast_nonneg _
 have hi4:(m:Int)≤(L.length:Int):=by omega
 have hi5:(m:Int)≤(c:Int):=by omega
 have hsF:=F.out.size
 have HLEN:Hid ((putR L p).length=n+1+(L.length - m)∧rwFlat (putR L p)=rwFlat (L.take n) ++ [.string p.1,.string p.2] ++ (rwFlat L).drop (m * 2)):=hid_ (by
  rw [HPUT.out]
  refine ⟨by simp;omega,?_⟩
  rw [rwFlat_app,rwFlat_app,rwFlat_single,rwFlat_drop])
 cases b with
 | false =>
  obtain rfl:n=m:=by simpa using hm7.symm
  clear hm7
  go_wp2_with (at_builtin;refine wpList_append_any _ rfl (.tmp 27) (.tmp 30) 28 rfl w.heap.size 143 i0 _ 2 32 Tryz.underlying28 Hi.out.1 Hi.out.2.1 Hi.out.2.2.1 Hi.out.2.2.2 rfl (by omega) (.slice A2 (n+1) c2) (n+1) _ rfl O.out A5 (L.length - n) (c - n) ((rwFlat L).drop (n * 2)) rfl R2'.out (fun u hu=>rwFlat_one L u (List.mem_of_mem_drop hu)) (by simp only [maxLen];omega) (by omega) (by omega) ?_;intro A3 c3 w3 hown3 hgr3)
  have F3:=hid_ (F.out.grown hgr3 (fun k hk=>.inr (O.out.lt k hk).1))
  have O3:=hid_ hown3
  clear hown3 hgr3
  go_wp2_with fail
  go_ret2
  refine ⟨A3,c3,?_,?_,F3.out⟩
  ·rw [HLEN.out.1,← HB.out];rfl
  ·rw [HLEN.out.1,HLEN.out.2];exact O3.out
 | true =>
  obtain rfl:m=n+1:=by simpa using hm7
  clear hm7
  have hw1:IntKind.i64.wrap ((n:Int)+1)=((n+1:Nat):Int):=by rw [show (n:Int)+1=((n+1:Nat):Int) by omega];exact IntWalk.i64_in _ (by omega)
  go_wp2_with (at_builtin;refine wpList_append_any _ rfl (.tmp 27) (.tmp 30) 28 rfl w.heap.size 143 i0 _ 2 32 Tryz.underlying28 Hi.out.1 Hi.out.2.1 Hi.out.2.2.1 Hi.out.2.2.2 rfl (by omega) (.slice A2 (n+1) c2) (n+1) _ rfl O.out A5 (L.length - (n+1)) (c - (n+1)) ((rwFlat L).drop ((n+1) * 2)) rfl R2'.out (fun u hu=>rwFlat_one L u (List.mem_of_mem_drop hu)) (by simp only [maxLen];omega) (by omega) (by omega) ?_;intro A3 c3 w3 hown3 hgr3)
  have F3:=hid_ (F.out.grown hgr3 (fun k hk=>.inr (O.out.lt k hk).1))
  have O3:=hid_ hown3
  clear hown3 hgr3
  go_wp2_with fail
  go_ret2
  refine ⟨A3,c3,?_,?_,F3.out⟩
  ·rw [show (putR L p).length=L.length by rw [HLEN.out.1];omega,← HB.out];rfl
  ·rw [HLEN.out.1,HLEN.out.2];exact O3.out
def RDropPost (L:List Rw) (A0:Option Addr) (c0:Nat) (key:ByteArray) (w:World) (e:Ending) (w':World):Prop:=
  ∃ A c,e=.returned (.tuple #[.slice A (dropR L key).length c,.bool (atR L key)])∧Reads w' 2 A (dropR L key).length (rwFlat (dropR L key))∧(dropR L key).length≤c∧c≤maxLen∧((A=A0∧c=c0∧dropR L key=L)∨w'.ownsRow w.heap.size 143 2 (.slice A (dropR L key).length c) (dropR L key).length (rwFlat (dropR L key)))∧Fr none_ w w'
set_option maxHeartbeats 4000000 in
theorem rdrop_ok (L:List Rw) (A:Option Addr) (c:Nat) (key:ByteArray) (w:World) (h:Reads w 2 A L.length (rwFlat L)) (ho:RwsOk L) (hc:L.length≤c) (hm:c≤maxLen) (hk:SzOk key) :
  Calls Tryz.prog 74 #[.slice A L.length c,.string key] w (RDropPost L A c key w):=by
 obtain ⟨i0,hi0,hz0,hs0,hb0⟩:=info_parts row_info
 have Hi:=hid_ (And.intro hi0 (And.intro hz0 (And.intro hs0 hb0)))
 clear hi0 hz0 hs0 hb0
 have HM:=hid_ hm
 have HK:=hid_ hk
 have HO:=hid_ ho
 have hpl:=plR_le L key
 have h3:=ho.1
 unfold maxLen at hm
 have H:=hid_ h
 clear h ho hk
 go_enter Tryz.func74,Tryz.ntmps74
 go_wp2_with fail
 refine (rfind_ok L A c key w H.out HO.out HK.out).mono ?_
 rintro e w2 ⟨rfl,hf2⟩
 have F0:=hid_ hf2
 replace H:=hid_ (H.out.none_fr hf2)
 clear hf2
 obtain ⟨n,hn⟩:∃ n,n=plR L key:=⟨_,rfl⟩
 cases hb:atR L key with
 | false =>
  have HB:=hid_ hb
  have HD:Hid (dropR L key=L):=hid_ (by unfold dropR;rw [hb];rfl)
  have CAP:=hid_ hc
  rw [← hn]
  rw [← hn] at hpl
  clear hb hn
  go_wp2_with fail
  go_ret2
  refine ⟨A,c,?_,?_,?_,HM.out,.inl ⟨rfl,rfl,HD.out⟩,F0.out⟩
  ·rw [HD.out,HB.out];rfl
  ·rw [HD.out];exact H.out
  ·rw [HD.out];exact CAP.out
 | true =>
  have hlt:n < L.length:=by rw [hn];exact atR_lt hb
  have HD:Hid (dropR L key=L.take n ++ L.drop (n+1)):=hid_ (by unfold dropR;rw [hb,← hn];rfl)
  have HB:=hid_ hb
  rw [← hn]
  rw [← hn] at hpl
  clear hb hn
  have hi0:(0:Int)≤(n:Int):=Int.natCast_nonneg _
  have hi1:(n:Int)≤(L.length:Int):=by omega
  have hcl:(L.length:Int)≤(c:Int):=by omega
  have hi2:(n:Int)≤(c:Int):=by omega
  have hw1:IntKind.i64.wrap ((n:Int)+1)=((n+1:Nat):Int):=by rw [show (n:Int)+1=((n+1:Nat):Int) by omega];exact IntWalk.i64_in _ (by omega)
  have hi3:(0:Int)≤(n:Int)+1:=by omega
  have hi4:(n:Int)+1≤(L.length:Int):=by omega
  have hi5:(n:Int)+1≤(c:Int):=by omega
  have CAP:=hid_ hc
  have FL:=hid_ (rwFlat_take L n)
  have hF0s:=F0.out.size
  obtain ⟨A5,hA5⟩:∃ A5,(if c=n+1 then A else Option.map (fun x=>x.add ((n+1) * 2)) A)=A5:=⟨_,rfl⟩
  have R2:=H.out.cut (show n+1≤L.length by omega) CAP.out
  rw [hA5] at R2
  have R2':=hid_ R2
  clear R2
  go_upto_region 4 with fail
  have hS0:(fun w':World=>Fr none_ w2 w') w2.drew:=(Fr.refl none_ w2).drew
  refine wp_region_U (m:=12) (S:=fun w':World=>Fr none_ w2 w') (by kernel_rfl) ?_
  refine wpAnyU_take2 (i:=1) (v:=_) rfl (by kernel_rfl) (by kernel_rfl) (by kernel_rfl) (by kernel_rfl) (fun _ _ _ h=>h) (.inl ⟨by kernel_rfl,fun w' hS=>by go_simp;rfl⟩) hS0 ?_
  refine wpAnyU_take2 (i:=2) (v:=_) rfl (by kernel_rfl) (by kernel_rfl) (by kernel_rfl) (by kernel_rfl) (fun _ _ _ h=>h) (.inl ⟨by kernel_rfl,fun w' hS=>by go_simp;rfl⟩) hS0 ?_
  refine wpAnyU_take2 (i:=3) (v:=_) rfl (by kernel_rfl) (by kernel_rfl) (by kernel_rfl) (by kernel_rfl) (fun _ _ _ h=>h) (.inl ⟨by kernel_rfl,fun w' hS=>by go_simp;rfl⟩) hS0 ?_
  refine wpAnyU_take2 (i:=5) (v:=_) rfl (by kernel_rfl) (by kernel_rfl) (by kernel_rfl) (by kernel_rfl) (fun _ _ _ h=>h) (.inl ⟨by kernel_rfl,fun w' hS=>by go_simp;rfl⟩) hS0 ?_
  refine wpAnyU_take2 (i:=6) (v:=_) rfl (by kernel_rfl) (by kernel_rfl) (by kernel_rfl) (by kernel_rfl) (fun _ _ _ h=>h) (.inl ⟨by kernel_rfl,fun w' hS=>by go_simp;rfl⟩) hS0 ?_
  refine wpAnyU_take2 (i:=7) (v:=_) rfl (by kernel_rfl) (by kernel_rfl) (by kernel_rfl) (by kernel_rfl) (fun _ _ _ h=>h) (.inl ⟨by kernel_rfl,fun w' hS=>by go_simp;rfl⟩) hS0 ?_
  refine wpAnyU_take2 (i:=8) (v:=_) rfl (by kernel_rfl) (by kernel_rfl) (by kernel_rfl) (by kernel_rfl) (fun _ _ _ h=>h) (.inl ⟨by kernel_rfl,fun w' hS=>by go_simp;rfl⟩) hS0 ?_
  clear hS0
  obtain ⟨y1,hy1⟩:∃ z,z=w2.drew:=⟨_,rfl⟩
  have F2:Hid (Fr none_ w2 y1):=hid_ (by rw [hy1];exact (Fr.refl none_ w2).drew)
  rw [← hy1]
  clear hy1
  refine wpAnyU_one7 (i:=0) rfl (by kernel_rfl) (by kernel_rfl) ?_
  go_simp
  obtain ⟨y3,hy3⟩:∃ z,z=y1.alloc (.cells #[] 143):=⟨_,rfl⟩
  have sy3:y1.heap.size < y3.heap.size:=by rw [hy3];simp [World.size_alloc]
  have f5:Fr none_ y1 y3:=by rw [hy3];exact (Fr.refl none_ _).alloc _
  have OE:Hid (y3.ownsRow w2.heap.size 143 2 (.slice (some ⟨y1.heap.size,0,none⟩) 0 0) 0 []):=hid_ (by rw [hy3];exact own_empty _ _ _ _ (by have:=F2.out.size;omega))
  have F4:=hid_ (F2.out.then_none f5)
  change _∧wpAnyU _ _ _ _ _ _ _ _ _ (y1.alloc (.cells #[] 143))
  rw [← hy3]
  refine ⟨F4.out,?_⟩
  clear hy3 f5
  refine wpAnyU_one7 (i:=4) rfl (by kernel_rfl) (by kernel_rfl) ?_
  refine wp_append_any _ (.tmp 17) (.tmp 20) 28 rfl w2.heap.size 143 i0 _ 2 32 Tryz.underlying28 Hi.out.1 Hi.out.2.1 Hi.out.2.2.1 Hi.out.2.2.2 rfl (by omega) (.slice (some ⟨y1.heap.size,0,none⟩) 0 0) (0) ([]) rfl OE.out (A) (n) (c) (rwFlat (L.take n)) rfl (by rw [FL.out];exact (H.out.upto hpl).none_fr F4.out) (rwFlat_one _) (by simp only [maxLen];omega) (by omega) (by have:=F4.out.size;omega) ?_
  intro A8 c9 y6 hown hgr
  simp only [Nat.zero_add,List.nil_append] at hown ⊢
  have sy6:=hgr.size
  have F7:=hid_ (F4.out.grown hgr (fun k hk=>.inr (by have:=(OE.out.lt k hk).1;omega)))
  have O10:=hid_ hown
  refine ⟨.inr F7.out,?_⟩
  clear hown hgr OE
  have O4:=O10
  clear O10
  refine wpAnyU_one7 (i:=9) rfl (by kernel_rfl) (by kernel_rfl) ?_
  refine wp_append_any _ (.tmp 21) (.tmp 25) 28 rfl w2.heap.size 143 i0 _ 2 32 Tryz.underlying28 Hi.out.1 Hi.out.2.1 Hi.out.2.2.1 Hi.out.2.2.2 rfl (by omega) (.slice A8 (n) c9) (n) (rwFlat (L.take n)) rfl O4.out (A5) (L.length - (n+1)) (c - (n+1)) ((rwFlat L).drop ((n+1) * 2)) rfl (R2'.out.none_fr F7.out) (fun u hu=>rwFlat_one L u (List.mem_of_mem_drop hu)) (by simp only [maxLen];omega) (by omega) (by have:=F7.out.size;omega) ?_
  intro A13 c14 y11 hown hgr
  have sy11:=hgr.size
  have F12:=hid_ (F7.out.grown hgr (fun k hk=>.inr (by have:=(O4.out.lt k hk).1;omega)))
  have O15:=hid_ hown
  refine ⟨.inr F12.out,?_⟩
  clear hown hgr O4
  have O9:=O15
  clear O15
  refine wpAnyU_one7 (i:=10) rfl (by kernel_rfl) (by kernel_rfl) ?_
  go_simp
  refine ⟨F12.out,?_⟩
  refine wpAnyU_one7 (i:=11) rfl (by kernel_rfl) (by kernel_rfl) ?_
  go_simp
  refine ⟨F12.out,?_⟩
  refine wpAnyU_done (by kernel_rfl) ?_ _
  go_wp2_with fail
  go_ret2
  have hlen:(dropR L key).length=n+(L.length - (n+1)):=by rw [HD.out];simp;omega
  have hfl:rwFlat (dropR L key)=rwFlat (L.take n) ++ (rwFlat L).drop ((n+1) * 2):=by rw [HD.out,rwFlat_app,rwFlat_drop]
  refine ⟨A13,c14,?_,?_,?_,?_,.inr ?_,F0.out.then_none F12.out⟩
  ·rw [hlen,HB.out];rfl
  ·rw [hlen,hfl];exact Reads.of_own O9.out
  ·obtain ⟨A',c',e,h1,h2,_⟩:=own_parts O9.out
   injection e with e1 e2 e3
   rw [hlen,e3];exact h1
  ·obtain ⟨A',c',e,h1,h2,_⟩:=own_parts O9.out
   injection e with e1 e2 e3
   rw [e3];exact h2
  ·rw [hlen,hfl];exact own_base O9.out hF0s
def SndCut (high:ByteArray) (unb:Bool) (L:List Rw) (bb:Bool):Prop:=bb=false ↔ ((unb=true→high=nilS)∧RightR L)
set_option maxHeartbeats 4000000 in
theorem rsound_ok (L:List Rw) (A:Option Addr) (c:Nat) (low high:ByteArray) (unb:Bool) (w:World) (h:Reads w 2 A L.length (rwFlat L)) (ho:RwsOk L) (h1:SzOk low) (h2:SzOk high) :
  Calls Tryz.prog 71 #[.slice A L.length c,.string low,.string high,.bool unb] w (SoundLPost low high unb L w):=by
 have H0:=hid_ h
 have HO:=hid_ ho
 have HS:=hid_ (And.intro h1 h2)
 have h3:=ho.1
 clear h ho h1 h2
 go_enter Tryz.func71,Tryz.ntmps71
 go_upto_region 1 with fail
 go_cut [19] (fun u wq=>∃ bb:Bool,u=.bool bb∧SndCut high unb L bb∧Fr none_ w wq)
 case first =>
  go_wp2_with fail
  refine (rright_ok L A c _ H0.out HO.out).mono ?_
  rintro e w1 ⟨b,rfl,hb,hf⟩
  have HB:=hid_ hb
  have F1:=hid_ hf
  clear hb hf
  cases b with
  | false =>
   cases unb with
   | false =>
    go_wp2_with fail
    go_meet
    case rel=>exact ⟨true,rfl,⟨(fun h=>by cases h),fun h=>by have:=HB.out.2 h.2;cases this⟩,F1.out⟩
   | true =>
    go_wp2_with fail
    go_meet
    case rel=>exact ⟨true,rfl,⟨(fun h=>by cases h),fun h=>by have:=HB.out.2 h.2;cases this⟩,F1.out⟩
  | true =>
   cases unb with
   | false =>
    go_wp2_with fail
    go_meet
    case rel=>exact ⟨false,rfl,⟨fun _=>⟨(fun h=>by cases h),HB.out.1 (by simp)⟩,fun _=>rfl⟩,F1.out⟩
   | true =>
    by_cases hb:high=nilS
    ·subst hb
     go_wp2_with fail
     go_meet
     case rel=>exact ⟨false,rfl,⟨fun _=>⟨fun _=>rfl,HB.out.1 (by simp)⟩,fun _=>rfl⟩,F1.out⟩
    ·have hh:high.toList.isEmpty=false:=by
      cases e:high.toList.isEmpty with
      | false=>rfl
      | true=>exact absurd (ba_eq (by rw [← ba_toList,List.isEmpty_iff.1 e])) hb
     have hh2:(!high.toList.isEmpty)=true:=by rw [hh];rfl
     have HH:=hid_ hb
     clear hb
     go_wp2_with fail
     go_meet
     case rel=>exact ⟨true,rfl,⟨(fun h=>by cases h),fun h=>absurd (h.1 rfl) HH.out⟩,F1.out⟩
 case rest =>
  obtain ⟨bb,rfl,hbb,hf⟩:=hcut
  have HB:=hid_ hbb
  have F1:=hid_ hf
  have H1:=hid_ (H0.out.none_fr hf)
  clear hbb hf
  cases bb with
  | true =>
   go_wp2_with fail
   go_ret
   exact ⟨false,rfl,⟨(fun h=>by cases h),fun h=>by have:=HB.out.2 ⟨h.hi,h.right⟩;cases this⟩,F1.out⟩
  | false =>
   go_wp2_with fail
   go_loopw [9] (fun i wr=>∃ k:Nat,k≤L.length∧i=.int .i64 k∧(∀ (j:Nat) (p:Rw),j < k→L[j]?=some p→inS low high unb p.1=true)∧Fr none_ w wr) (fun i _=>L.length - (intOf i).toNat)
   case atStart=>exact ⟨0,Nat.zero_le _,rfl,fun j p hj=>by omega,F1.out⟩
   case round =>
    obtain ⟨k,hk,rfl,hst,hF⟩:=hrel
    have ST:=hid_ hst
    have H:=hid_ (H0.out.none_fr hF)
    have F:=hid_ hF
    clear hst hF
    have hi0:(0:Int)≤(k:Int):=Int.natCast_nonneg _
    by_cases hlt:k < L.length
    ·have hi1':(k:Int) < (L.length:Int):=by omega
     obtain ⟨p,hp⟩:∃ p,L[k]?=some p:=⟨_,List.getElem?_eq_getElem hlt⟩
     obtain ⟨b,off,rfl,hb2,c0,c1⟩:=rw_at H.out hp
     have HP:=hid_ hp
     have hpk:=(HO.out.2 p (List.mem_of_getElem? hp)).1
     have HPK:=hid_ hpk
     clear hp hpk c1
     go_wp2_with fail
     refine (rin_ok low high unb p.1 wr HS.out.1.le HS.out.2.le HPK.out.le).mono ?_
     rintro e w1 ⟨rfl,q,rfl⟩
     have FQ:=hid_ (F.out.drewN q)
     clear c0
     cases hin:inS low high unb p.1 with
     | false =>
      have hns:¬ SoundR low high unb L:=fun hS=>by
       have h:=hS.inn p (List.mem_of_getElem? HP.out)
       rw [hin] at h
       cases h
      have HNS:=hid_ hns
      clear hns hin
      go_wp2_with fail
      go_ret
      exact ⟨false,rfl,⟨(fun h=>by cases h),fun h=>absurd h HNS.out⟩,FQ.out⟩
     | true =>
      have hst:∀ (j:Nat) (p:Rw),j < k+1→L[j]?=some p→inS low high unb p.1=true:=by
       intro j p' hj hp'
       rcases Nat.lt_succ_iff_lt_or_eq.1 hj with hj | rfl
       ·exact ST.out j p' hj hp'
       ·rw [HP.out] at hp';cases hp';exact hin
      have HST:=hid_ hst
      clear hst hin
      go_wp2_with fail
      go_roundw
      case rel=>exact ⟨k+1,by omega,by go_num,HST.out,FQ.out⟩
      case measure=>simp [intOf];omega
    ·obtain rfl:k=L.length:=by omega
     have hS:SoundR low high unb L:=⟨(HB.out.1 rfl).1,(HB.out.1 rfl).2,fun p hp=>by obtain ⟨j,hj,e⟩:=List.mem_iff_getElem.1 hp;exact ST.out j p hj (by rw [List.getElem?_eq_getElem hj,e])⟩
     have HSS:=hid_ hS
     clear hS
     go_wp2_with fail
     go_ret
     exact ⟨true,rfl,⟨fun _=>HSS.out,fun _=>rfl⟩,F.out⟩
def ahR (L:List Rw) (key:ByteArray):List Rw:=L.filter fun p=>ltS p.1 key
theorem ahR_le (L:List Rw) (key:ByteArray):(ahR L key).length≤L.length:=List.length_filter_le _ _
theorem ahR_take {L:List Rw} {key:ByteArray} {k:Nat} {p:Rw} (hp:L[k]?=some p):ahR (L.take (k+1)) key=if ltS p.1 key=true then ahR (L.take k) key ++ [p] else ahR (L.take k) key:=by
  unfold ahR
  rw [List.take_add_one,hp]
  simp only [Option.toList_some,List.filter_append,List.filter_cons,List.filter_nil]
  split <;> simp
set_option maxHeartbeats 4000000 in
theorem rahead_ok (L:List Rw) (A:Option Addr) (c:Nat) (key:ByteArray) (w:World) (h:Reads w 2 A L.length (rwFlat L)) (ho:RwsOk L) (hk:SzOk key) :
  Calls Tryz.prog 75 #[.slice A L.length c,.string key] w (JoinPostR w (ahR L key)):=by
 obtain ⟨i0,hi0,hz0,hs0,hb0⟩:=info_parts row_info
 have Hi:=hid_ (And.intro hi0 (And.intro hz0 (And.intro hs0 hb0)))
 clear hi0 hz0 hs0 hb0
 have H0:=hid_ h
 have HO:=hid_ ho
 have HK:=hid_ hk
 have h3:=ho.1
 clear h ho hk
 go_enter Tryz.func75,Tryz.ntmps75
 go_wp2_with fail
 go_loopw [5,6] (fun v i wr=>∃ k:Nat,k≤L.length∧i=.int .i64 k∧wr.ownsRow w.heap.size 143 2 v (ahR (L.take k) key).length (rwFlat (ahR (L.take k) key))∧Fr none_ w wr) (fun _ i _=>L.length - (intOf i).toNat)
 case atStart=>exact ⟨0,Nat.zero_le _,rfl,World.ownsRow_nil _ _ _ _,Fr.refl _ _⟩
 case round =>
  obtain ⟨k,hk,rfl,hown,hF⟩:=hrel
  obtain ⟨A1,c1,rfl⟩:=hown.shape
  have O:=hid_ hown
  have H:=hid_ (H0.out.none_fr hF)
  have F:=hid_ hF
  clear hown hF
  have hi0:(0:Int)≤(k:Int):=Int.natCast_nonneg _
  by_cases hlt:k < L.length
  ·have hi1':(k:Int) < (L.length:Int):=by omega
   obtain ⟨p,hp⟩:∃ p,L[k]?=some p:=⟨_,List.getElem?_eq_getElem hlt⟩
   obtain ⟨b,off,rfl,hb2,d0,d1⟩:=rw_at H.out hp
   have HT:=hid_ (ahR_take (key:=key) hp)
   have hle:=ahR_le (L.take k) key
   rw [List.length_take] at hle
   have hpk:=(HO.out.2 p (List.mem_of_getElem? hp)).1
   have HPK:=hid_ hpk
   have hfs:=F.out.size
   clear hp hpk
   go_wp2_with fail
   refine (before_ok p.1 key wr HPK.out.le HK.out.le).mono ?_
   rintro e w1 ⟨rfl,q,hw1⟩
   have f1:Fr none_ wr w1:=by rw [hw1];exact (Fr.refl none_ wr).drewN q
   replace O:=hid_ (own_none O.out f1)
   replace F:=hid_ (F.out.then_none f1)
   replace d0:=cellFr d0 f1
   replace d1:=cellFr d1 f1
   have hs1:=f1.size
   clear f1 hw1
   obtain ⟨n,hn⟩:∃ n,n=(ahR (L.take k) key).length:=⟨_,rfl⟩
   rw [← hn] at O hle ⊢
   cases hlt2:ltS p.1 key with
   | false =>
    have HTT:Hid (ahR (L.take (k+1)) key=ahR (L.take k) key):=hid_ (by rw [HT.out,hlt2];rfl)
    have HN:=hid_ hn
    clear hlt2 hn d0 d1
    go_wp2_with fail
    go_roundw
    case rel=>exact ⟨k+1,by omega,by go_num,by rw [HTT.out,← HN.out];exact O.out,F.out⟩
    case measure=>simp [intOf];omega
   | true =>
    have HTT:Hid (ahR (L.take (k+1)) key=ahR (L.take k) key ++ [p]):=hid_ (by rw [HT.out,hlt2];rfl)
    have HN:=hid_ hn
    clear hlt2 hn
    go_wp2_with (at_builtin;refine wpList_append_any _ rfl (.tmp 20) (.tmp 25) 28 rfl w.heap.size 143 i0 _ 2 32 Tryz.underlying28 Hi.out.1 Hi.out.2.1 Hi.out.2.2.1 Hi.out.2.2.2 rfl (by omega) (.slice A1 n c1) n (rwFlat (ahR (L.take k) key)) rfl (own_none O.out ((Fr.refl none_ _).alloc _)) (some ⟨w1.heap.size,0,none⟩) 1 1 [.string p.1,.string p.2] rfl (reads_new w1 _ [.string p.1,.string p.2] _ rfl) (by simp [Value.oneCell']) (by simp only [maxLen];omega) (by omega) (by simp [World.size_alloc];omega) ?_;intro A3 c3 w3 hown3 hgr3)
    have F3:=hid_ ((F.out.alloc (.cells #[.string p.1,.string p.2] 143)).grown hgr3 (fun k hk=>.inr (O.out.lt k hk).1))
    have O3:=hid_ hown3
    clear hown3 hgr3 d0 d1
    go_wp2_with fail
    go_roundw
    case rel=>exact ⟨k+1,by omega,by go_num,by
     rw [HTT.out,List.length_append,List.length_singleton,← HN.out,rwFlat_app,rwFlat_single]
     exact O3.out,F3.out⟩
    case measure=>simp [intOf];omega
  ·obtain rfl:k=L.length:=by omega
   have o:=O.out
   have f:=F.out
   rw [List.take_length] at o
   go_wp2
   go_ret
   rw [List.take_length]
   exact ⟨A1,c1,rfl,o,f⟩
open Go.RowKit Go.BigFrame

def RwCap (L:List Ch):Prop:=∀ C ∈ L,C.R.rows.length≤C.c∧C.c≤maxLen
structure LwRd (b0:Nat) (w:World) (V:Lw) (A:Option Addr) (c:Nat):Prop where
  rd:Reads w 2 A V.rows.length (rwFlat V.rows)
  cap:V.rows.length≤c
  capm:c≤maxLen
  ok:V.Ok
  src:(0 < V.rows.length→∀ ad,A=some ad→ad.block < b0)∨w.ownsRow b0 143 2 (.slice A V.rows.length c) V.rows.length (rwFlat V.rows)
theorem LwRd.keep {b0:Nat} {w w':World} {V:Lw} {A:Option Addr} {c:Nat} (h:LwRd b0 w V A c) (hf:Fr none_ w w'):LwRd b0 w' V A c:=⟨h.rd.none_fr hf,h.cap,h.capm,h.ok,h.src.imp id fun o=>own_none o hf⟩
theorem LwRd.of_own {b0:Nat} {w:World} {V:Lw} {A:Option Addr} {c:Nat} (h:w.ownsRow b0 143 2 (.slice A V.rows.length c) V.rows.length (rwFlat V.rows)) (ok:V.Ok):LwRd b0 w V A c:=by
  obtain ⟨A',c',e,h1,h2,_⟩:=own_parts h
  injection e with e1 e2 e3
  exact ⟨Reads.of_own h,by rw [e3];exact h1,by rw [e3];exact h2,ok,.inr h⟩
theorem LwRd.far {b0:Nat} {w w':World} {V:Lw} {A:Option Addr} {c X:Nat} {t:TypeId} {cs:Array Value} (h:LwRd b0 w V A c) (hX:Blk w X t cs) (hne:143≠t) (hb:b0≤X) (hf:Fr (only X) w w'):LwRd b0 w' V A c:=by
  rcases h.src with hs | ho
  · refine ⟨?_,h.cap,h.capm,h.ok,.inl hs⟩
    rcases Nat.eq_zero_or_pos V.rows.length with h0 | h0
    · exact ⟨h.rd.1,fun hn=>absurd hn (by omega)⟩
    · exact h.rd.fr hf fun ad e (e2:ad.block=X)=>by have:=hs h0 ad e;omega
  · have o2:=own_fr ho hf (fun k hk e=>own_blk_ne ho hX hne (by rw [hk,show k=X from e]))
    exact ⟨Reads.of_own o2,h.cap,h.capm,h.ok,.inr o2⟩
theorem row_size7:(Tryz.prog.info? 143).map (·.size)=some 2:=by kernel_rfl
theorem rview_size7:(Tryz.prog.info? 45).map (·.size)=some 6:=by kernel_rfl
theorem rhasL_ok (V:Lw) (vr:Value) (key:ByteArray) (w:World) (h1:SzOk V.low) (h2:SzOk V.high) (h3:SzOk key) :
    Calls Tryz.prog 16 #[lwV V vr,.string key] w fun e w'=>e=.returned (.bool (inS V.low V.high V.unb key))∧Fr none_ w w':=by
  have F0:=hid_ ((Fr.refl none_ w).alloc (.cells (lwA V vr) 45))
  have H:=hid_ (And.intro h1 (And.intro h2 h3))
  clear h1 h2 h3
  go_enter Tryz.func16,Tryz.ntmps16
  go_wp2_with fail
  refine (rin_ok V.low V.high V.unb key _ H.out.1.le H.out.2.1.le H.out.2.2.le).mono ?_
  rintro e w1 ⟨rfl,q,rfl⟩
  go_wp2
  go_ret
  exact ⟨rfl,F0.out.drewN q⟩
theorem LwRd.dropped {b0:Nat} {w w':World} {V:Lw} {A A':Option Addr} {c c':Nat} {key:ByteArray} (h:LwRd b0 w V A c) (hb:b0≤w.heap.size) (hf:Fr none_ w w') (h1:Reads w' 2 A' (dropR V.rows key).length (rwFlat (dropR V.rows key))) (h2:(dropR V.rows key).length≤c') (h3:c'≤maxLen)
    (hs:(A'=A∧c'=c∧dropR V.rows key=V.rows)∨w'.ownsRow w.heap.size 143 2 (.slice A' (dropR V.rows key).length c') (dropR V.rows key).length (rwFlat (dropR V.rows key))):LwRd b0 w' { V with rows:=dropR V.rows key } A' c':=by
  refine ⟨h1,h2,h3,⟨h.ok.low,h.ok.high,h.ok.rows.drop_ key⟩,?_⟩
  rcases hs with ⟨rfl,rfl,e⟩ | o
  · show (0 < (dropR V.rows key).length→_)∨_
    rw [e]
    exact (h.keep hf).src
  · exact .inr (own_base o hb)
def MergeB (V:Lw) (R:Rc) (bb:Bool):Prop:=bb=true ↔ (V.unb=false∧V.high=R.key∧SoundR R.key R.high R.unb R.rows∧(R.unb=true∨ltS R.key R.high=true))
theorem MergeB.up {V:Lw} {R:Rc} {bb:Bool} (h:MergeB V R bb) (h6:R.kind=6) (hg:V.gone=false) (g:GoodL V):upL V R=if bb=true then some { V with rows:=V.rows ++ R.rows,high:=R.high,unb:=R.unb,right:=R.right } else none:=by
  cases bb with
  | true =>
    rw [if_pos rfl]
    obtain ⟨h1,h2,h3,h4⟩:=h.1 rfl
    refine upL_merge_yes h6 ⟨hg,h1,h2,h3,h4⟩ (joins_of ?_ h3)
    rcases g.up with h | h
    · rw [h1] at h;cases h
    · rw [← h2];exact h
  | false =>
    rw [if_neg (by decide)]
    exact upL_merge_no h6 fun hc=>by have:=h.2 hc.1.2;cases this
theorem ch_at {L:List Ch} {k:Nat} {C:Ch} (h:L[k]?=some C):(L.map (·.R))[k]?=some C.R:=by rw [List.getElem?_map,h];rfl
def UpOk (V:Lw) (R:Rc) (V':Lw) (bb:Bool):Prop:=upL V R=if bb=true then some V' else none
theorem upL_2 {V:Lw} {R:Rc} (h:R.kind=2) (hg:V.gone=false):UpOk V R { V with rows:=putR V.rows (R.key,R.val) } (fitsR (R.key,R.val) && inS V.low V.high V.unb R.key):=by
  unfold UpOk upL
  rw [if_neg (by rw [hg];decide),if_pos h]
  simp only [Bool.and_eq_true]
theorem upL_3 {V:Lw} {R:Rc} (h:R.kind=3) (hg:V.gone=false):UpOk V R { V with rows:=dropR V.rows R.key } (inS V.low V.high V.unb R.key):=by
  unfold UpOk upL
  rw [if_neg (by rw [hg];decide),if_neg (by omega),if_pos h]
theorem upL_4 {V:Lw} {R:Rc} (h:R.kind=4) (hg:V.gone=false) (g:GoodL V):UpOk V R { V with rows:=ahR V.rows R.key,high:=R.key,unb:=false,right:=R.page } (inS V.low V.high V.unb R.key && !sEq R.key V.low):=by
  unfold UpOk upL
  rw [if_neg (by rw [hg];decide),if_neg (by omega),if_neg (by omega),if_pos h,show ahR V.rows R.key=_ from ahead_take g.right.pw]
  cases hi:inS V.low V.high V.unb R.key with
  | false=>simp
  | true =>
    have h1:=(inS_iff7.1 hi).1
    cases hs:sEq R.key V.low with
    | true =>
      have e:=sEq_iff.1 hs
      rw [if_neg (by rintro ⟨_,h2⟩;rw [e,ltS_irrefl] at h2;cases h2)]
      rfl
    | false =>
      rw [if_pos ⟨rfl,(ltS_iff_ne h1).2 fun e=>by rw [e,sEq_self] at hs;cases hs⟩]
      rfl
theorem upL_5 {V:Lw} {R:Rc} (h:R.kind=5) (hg:V.gone=false):UpOk V R { V with gone:=true } true:=by
  unfold UpOk upL
  rw [if_neg (by rw [hg];decide),h]
  rfl
theorem MergeB.ok {V:Lw} {R:Rc} {bb:Bool} (h:MergeB V R bb) (h6:R.kind=6) (hg:V.gone=false) (g:GoodL V):UpOk V R { V with rows:=V.rows ++ R.rows,high:=R.high,unb:=R.unb,right:=R.right } bb:=h.up h6 hg g
theorem kind_of {L:List Ch} {n:Nat} (hn:L.length=n) (h:∀ (j:Nat) C,j < n→L[j]?=some C→KindL C.R):∀ R ∈ L.map (·.R),KindL R:=fun R hR=>by
  obtain ⟨C,hC,rfl⟩:=List.mem_map.1 hR
  obtain ⟨j,hj,e⟩:=List.mem_iff_getElem.1 hC
  exact h j C (by omega) (by rw [List.getElem?_eq_getElem hj,e])
theorem eqB {a b:Int} (h:a=b):(a==b)=true:=by simp [h]
theorem neB {a b:Int} (h:a≠b):(a==b)=false:=by simp [h]
open Go.RowKit

def Ris (L:List Et):Prop:=∀ (i:Nat) (p q:Et),L[i]?=some p→L[i+1]?=some q→ltS p.1 q.1=true
theorem lt_of_some {α:Type} {L:List α} {i:Nat} {p:α} (h:L[i]?=some p):i < L.length:=(List.getElem?_eq_some_iff.1 h).1
theorem some_of_lt {α:Type} {L:List α} {i:Nat} (h:i < L.length):∃ p,L[i]?=some p:=⟨_,List.getElem?_eq_getElem h⟩
theorem Ris.lt {L:List Et} (h:Ris L):∀ {i j:Nat} {p q:Et},i < j→L[i]?=some p→L[j]?=some q→ltS p.1 q.1=true:=by
  intro i j p q hij hp hq
  induction j generalizing q with
  | zero=>omega
  | succ j ih =>
    obtain ⟨r,hr⟩:=some_of_lt (L:=L) (i:=j) (by have:=lt_of_some hq;omega)
    have h2:=h j r q hr hq
    rcases Nat.lt_or_ge i j with h1 | h1
    · exact ltS_trans (ih h1 hr) h2
    · obtain rfl:i=j:=by omega
      rw [hp] at hr
      cases hr
      exact h2
theorem plN_uniq {L:List Et} {key:ByteArray} {n:Nat} (h1:∀ (i:Nat) (p:Et),i < n→L[i]?=some p→ltS p.1 key=true) (h2:n=L.length∨∃ p,L[n]?=some p∧ltS p.1 key=false):plN L key=n:=by
  rcases Nat.lt_trichotomy (plN L key) n with h | h | h
  · obtain ⟨p,hp⟩:=some_of_lt (L:=L) (i:=plN L key) (by
      rcases h2 with e | ⟨p,hp,_⟩
      · omega
      · have:=lt_of_some hp;omega)
    have a:=h1 _ _ h hp
    rw [plN_at hp] at a
    cases a
  · exact h
  · rcases h2 with e | ⟨p,hp,hn⟩
    · have:=plN_le L key;omega
    · have:=plN_in h hp
      rw [hn] at this
      cases this
theorem atB_ex {L:List Et} {key:ByteArray} (h:atB L key=true):∃ p,L[plN L key]?=some p∧p.1=key:=by
  obtain ⟨p,hp⟩:=some_of_lt (atB_lt h)
  rw [atB_some hp] at h
  exact ⟨p,hp,sEq_iff.1 h⟩
theorem Ris.at {L:List Et} (h:Ris L) {i:Nat} {p:Et} (hp:L[i]?=some p):plN L p.1=i∧atB L p.1=true:=by
  have e:plN L p.1=i:=plN_uniq (fun j q hj hq=>h.lt hj hq hp) (.inr ⟨p,hp,ltS_irrefl _⟩)
  exact ⟨e,by rw [atB_some (p:=p) (by rw [e];exact hp)];exact sEq_self _⟩
theorem Ris.behind {L:List Et} (h:Ris L) {key:ByteArray} (hn:atB L key=false) {j:Nat} {q:Et} (hj:plN L key≤j) (hq:L[j]?=some q):ltS key q.1=true:=by
  obtain ⟨p,hp⟩:=some_of_lt (L:=L) (i:=plN L key) (by have:=lt_of_some hq;omega)
  have h1:=plN_at hp
  have h2:p.1≠key:=fun e=>by
    rw [atB_some hp,sEq_iff.2 e] at hn
    cases hn
  have h3:ltS key p.1=true:=by
    rcases ltS_total p.1 key with h | h | h
    · rw [h1] at h;cases h
    · exact absurd h h2
    · exact h
  rcases Nat.lt_or_ge (plN L key) j with hl | hl
  · exact ltS_trans h3 (h.lt hl hp hq)
  · obtain rfl:plN L key=j:=by omega
    rw [hp] at hq
    cases hq
    exact h3

theorem putL_get {L:List Et} {n:Nat} {p:Et} (hn:n≤L.length) (i:Nat):(putL L n p)[i]?=if i < n then L[i]? else if i=n then some p else L[i - 1]?:=by
  unfold putL
  by_cases h1:i < n
  · rw [if_pos h1,List.append_assoc,List.getElem?_append_left (by simp;omega),List.getElem?_take,if_pos h1]
  · rw [if_neg h1]
    by_cases h2:i=n
    · subst h2
      rw [if_pos rfl,List.append_assoc,List.getElem?_append_right (by simp;omega)]
      simp [Nat.min_eq_left hn]
    · rw [if_neg h2,List.getElem?_append_right (by simp;omega),List.getElem?_drop]
      congr 1
      simp
      omega
def cutL (L:List Et) (n:Nat):List Et:=L.take n ++ L.drop (n+1)
theorem cutL_get {L:List Et} {n:Nat} (hn:n≤L.length) (i:Nat):(cutL L n)[i]?=if i < n then L[i]? else L[i+1]?:=by
  unfold cutL
  by_cases h1:i < n
  · rw [if_pos h1,List.getElem?_append_left (by simp;omega),List.getElem?_take,if_pos h1]
  · rw [if_neg h1,List.getElem?_append_right (by simp;omega),List.getElem?_drop]
    congr 1
    simp
    omega
theorem Ris.put {L:List Et} (h:Ris L) {key:ByteArray} {pg:Int} (hn:atB L key=false):Ris (putL L (plN L key) (key,pg)):=by
  intro i p q hp hq
  have hle:=plN_le L key
  rw [putL_get hle] at hp hq
  by_cases h1:i+1 < plN L key
  · rw [if_pos (by omega)] at hp
    rw [if_pos h1] at hq
    exact h i p q hp hq
  · rw [if_neg h1] at hq
    by_cases h2:i+1=plN L key
    · rw [if_pos h2] at hq
      rw [if_pos (by omega)] at hp
      obtain rfl:(key,pg)=q:=Option.some.inj hq
      have h4:i < plN L key:=by omega
      exact plN_in h4 hp
    · rw [if_neg h2] at hq
      rw [if_neg (by omega)] at hp
      have hle2:plN L key≤i:=by omega
      by_cases h3:i=plN L key
      · rw [if_pos h3] at hp
        obtain rfl:(key,pg)=p:=Option.some.inj hp
        exact h.behind hn (j:=i+1 - 1) (show plN L key≤i+1 - 1 by rw [Nat.add_sub_cancel];exact hle2) hq
      · rw [if_neg h3] at hp
        exact h (i - 1) p q hp (by rw [show i - 1+1=i+1 - 1 by omega];exact hq)
theorem Ris.cut {L:List Et} (h:Ris L) {n:Nat} (hn:n≤L.length):Ris (cutL L n):=by
  intro i p q hp hq
  rw [cutL_get hn] at hp hq
  by_cases h1:i+1 < n
  · rw [if_pos (by omega)] at hp
    rw [if_pos h1] at hq
    exact h i p q hp hq
  · rw [if_neg h1] at hq
    by_cases h2:i < n
    · rw [if_pos h2] at hp
      exact h.lt (by omega) hp hq
    · rw [if_neg h2] at hp
      exact h (i+1) p q hp hq
theorem Ris.take {L:List Et} (h:Ris L) (n:Nat):Ris (L.take n):=by
  intro i p q hp hq
  rw [List.getElem?_take] at hp hq
  split at hp
  · split at hq
    · exact h i p q hp hq
    · cases hq
  · cases hp
theorem inS_iff {low high:ByteArray} {unb:Bool} {key:ByteArray}:inS low high unb key=true ↔ ltS key low=false∧(unb=true∨ltS key high=true):=by
  unfold inS
  cases ltS key low <;> cases unb <;> simp
theorem Sound.rise {V:Vw} (h:Sound V):Ris V.ents:=h.ris
structure Good (V:Vw):Prop where
  s:Sound V
  h:V.held=true→atB V.ents V.hk=true∧plN V.ents V.hk≠0
theorem pl_low {V:Vw} (h:Sound V) {key:ByteArray} (hi:inS V.low V.high V.unb key=true) (hn:atB V.ents key=false):plN V.ents key≠0:=by
  intro e
  obtain ⟨p,hp,hl⟩:=h.head
  have:=h.rise.behind hn (j:=0) (by omega) hp
  rw [hl] at this
  rw [(inS_iff.1 hi).1] at this
  cases this
theorem sound_put {V:Vw} (h:Sound V) {key:ByteArray} {pg:Int} (hi:inS V.low V.high V.unb key=true) (hn:atB V.ents key=false):Sound { V with ents:=putL V.ents (plN V.ents key) (key,pg) }:=by
  have h0:=pl_low h hi hn
  refine ⟨?_,h.high,fun p hp=>?_,h.rise.put hn⟩
  · obtain ⟨p,hp,hl⟩:=h.head
    exact ⟨p,by show (putL _ _ _)[0]?=_;rw [putL_get (plN_le _ _),if_pos (by omega)];exact hp,hl⟩
  · simp only [putL,List.mem_append,List.mem_cons,List.not_mem_nil,or_false] at hp
    rcases hp with (hp | rfl) | hp
    · exact h.inn p (List.mem_of_mem_take hp)
    · exact hi
    · exact h.inn p (List.mem_of_mem_drop hp)
theorem sound_cut {V:Vw} (h:Sound V) {n:Nat} (h0:n≠0) (hn:n≤V.ents.length):Sound { V with ents:=cutL V.ents n }:=by
  refine ⟨?_,h.high,fun p hp=>?_,h.rise.cut hn⟩
  · obtain ⟨p,hp,hl⟩:=h.head
    exact ⟨p,by show (cutL _ _)[0]?=_;rw [cutL_get hn,if_pos (by omega)];exact hp,hl⟩
  · simp only [cutL,List.mem_append] at hp
    rcases hp with hp | hp
    · exact h.inn p (List.mem_of_mem_take hp)
    · exact h.inn p (List.mem_of_mem_drop hp)
theorem sound_left {V:Vw} (h:Sound V) {n:Nat} {q:Et} (h0:n≠0) (hq:V.ents[n]?=some q):Sound { V with ents:=V.ents.take n,high:=q.1,unb:=false }:=by
  refine ⟨?_,fun e=>by (cases e),fun p hp=>?_,h.rise.take n⟩
  · obtain ⟨p,hp,hl⟩:=h.head
    exact ⟨p,by show (List.take _ _)[0]?=_;rw [List.getElem?_take,if_pos (by omega)];exact hp,hl⟩
  · obtain ⟨i,hi⟩:=List.mem_iff_getElem?.1 hp
    rw [List.getElem?_take] at hi
    split at hi
    · have:=h.inn p (List.mem_of_getElem? hi)
      exact inS_iff.2 ⟨(inS_iff.1 this).1,.inr (h.rise.lt (by omega) hi hq)⟩
    · cases hi
theorem up_good {V V':Vw} {R:Rc} (h:upM V R=some V') (g:Good V):Good V':=by
  unfold upM at h
  split at h
  · rename_i h8
    split at h
    · cases h
    · rename_i hn
      cases h
      have h1:atB V.ents R.key=false:=by
        cases e:atB V.ents R.key with
        | false=>rfl
        | true=>exact absurd (.inl e) hn
      have h2:inS V.low V.high V.unb R.key=true:=by
        cases e:inS V.low V.high V.unb R.key with
        | true=>rfl
        | false=>exact absurd (.inr e) hn
      exact ⟨sound_put g.s h2 h1,fun e=>by
        have e:V.held=true:=e
        rw [h8.2] at e
        cases e⟩
  · split at h
    · rename_i h9
      split at h
      · cases h
      · rename_i hn
        cases h
        have h1:atB V.ents R.key=true:=by
          cases e:atB V.ents R.key with
          | true=>rfl
          | false=>exact absurd (.inl e) hn
        have h2:plN V.ents R.key≠0:=fun e=>hn (.inr e)
        obtain ⟨q,hq,e⟩:=atB_ex h1
        have:=sound_left g.s h2 hq
        rw [e] at this
        exact ⟨⟨this.head,fun e=>by (cases e),this.inn,this.ris⟩,fun e=>by
          have e:V.held=true:=e
          rw [h9.2] at e
          cases e⟩
    · split at h
      · split at h
        · cases h
        · rename_i hn
          cases h
          have h1:atB V.ents R.hkey=true:=by
            cases e:atB V.ents R.hkey with
            | true=>rfl
            | false=>exact absurd (.inl e) hn
          exact ⟨⟨g.s.head,g.s.high,g.s.inn,g.s.ris⟩,fun _=>⟨h1,fun e=>hn (.inr (.inl e))⟩⟩
      · split at h
        · rename_i h11
          cases h
          obtain ⟨h1,h2⟩:=g.h h11.2
          have:=sound_cut g.s h2 (plN_le V.ents V.hk)
          exact ⟨⟨this.head,this.high,this.inn,this.ris⟩,fun e=>by (cases e)⟩
        · cases h
theorem fold_good:∀ {l:List Rc} {V:Vw},foldU l=some V→Good V
  | [],V,h=>by (cases h)
  | [b],V,h=>by
    simp only [foldU] at h
    split at h
    · rename_i hs
      cases h
      exact ⟨hs.2,fun e=>by (cases e)⟩
    · cases h
  | r :: s :: t,V,h=>by
    rw [foldU_cons r (by simp)] at h
    obtain ⟨U,hU,hV⟩:=Option.bind_eq_some_iff.1 h
    exact up_good hV (fold_good hU)

theorem upM_split {V:Vw} {R:Rc} (h:R.kind=9) (hh:V.held=false) (hn:¬ (atB V.ents R.key=false∨plN V.ents R.key=0)):upM V R=some { V with ents:=V.ents.take (plN V.ents R.key),high:=R.key,unb:=false,right:=R.page }:=by
  unfold upM
  rw [if_neg (fun e=>by have:=e.1;rw [h] at this;revert this;decide),if_pos ⟨h,hh⟩,if_neg hn]
theorem upM_drop {V:Vw} {R:Rc} (h:R.kind=11) (hh:V.held=true) :
    upM V R=some { V with ents:=V.ents.take (plN V.ents V.hk) ++ V.ents.drop (plN V.ents V.hk+1),held:=false,hp:=0,hl:=0,hk:=nilS }:=by
  unfold upM
  rw [if_neg (fun e=>by have:=e.1;rw [h] at this;revert this;decide),if_neg (fun e=>by have:=e.1;rw [h] at this;revert this;decide),if_neg (fun e=>by have:=e.1;rw [h] at this;revert this;decide),if_pos ⟨h,hh⟩]
open Go.RowKit Go.BigFrame

set_option maxHeartbeats 4000000 in
theorem rsoundV_ok (V:Vw) (A:Option Addr) (c:Nat) (w:World) (h:VwIn w V A c) :
  Calls Tryz.prog 76 #[vwV V (.slice A V.ents.length c)] w (SoundPost V w):=by
 obtain ⟨w0,hw0⟩:∃ w0,w0=w.alloc (.cells (vwA V (.slice A V.ents.length c)) 46):=⟨_,rfl⟩
 have f0:Fr none_ w w0:=by rw [hw0];exact (Fr.refl none_ w).alloc _
 have F0:=hid_ f0
 have H0:=hid_ (h.keep f0)
 have B0:Hid (Blk w0 w.heap.size 46 (vwA V (.slice A V.ents.length c))):=hid_ (by rw [hw0];exact Blk.new w _ _)
 have h1000:=h.ok.ents.1
 have OK:=hid_ h.ok
 have v0:w0.cell? ⟨w.heap.size,0,none⟩=some (.string V.low):=B0.out.cell' rfl
 have v1:w0.cell? ⟨w.heap.size,1,none⟩=some (.string V.high):=B0.out.cell' rfl
 have v2:w0.cell? ⟨w.heap.size,2,none⟩=some (.bool V.unb):=B0.out.cell' rfl
 have v4:w0.cell? ⟨w.heap.size,4,none⟩=some (.slice A V.ents.length c):=B0.out.cell' rfl
 clear h f0
 by_cases hl0:V.ents.length=0
 ·have hne:¬ Sound V:=fun h=>by
   obtain ⟨p,hp,_⟩:=h.head
   rw [List.getElem?_eq_none (by omega)] at hp
   cases hp
  have HNE:=hid_ hne
  rw [hl0] at v4 hw0
  rw [hl0]
  clear hl0 hne
  go_enter Tryz.func76,Tryz.ntmps76
  go_wp2_with fail
  change Code.wp _ _ _ _ (w.alloc (.cells (vwA V (.slice A 0 c)) 46))
  rw [← hw0]
  clear hw0
  go_quiet (fail)
  go_wp2_with fail
  go_ret
  exact ⟨false,rfl,⟨(fun h=>by cases h),fun h=>absurd h HNE.out⟩,F0.out.drewN _⟩
 obtain ⟨p0,hp0⟩:∃ p,V.ents[0]?=some p:=⟨_,List.getElem?_eq_getElem (by omega)⟩
 obtain ⟨b,off,rfl,hb,c0,c1⟩:=et_at H0.out.rd hp0
 have hd0:decide ((0:Int) < (V.ents.length:Int))=true:=by simp;omega
 have hd0':((V.ents.length:Int)==0)=false:=beq_eq_false_iff_ne.2 (by omega)
 have hi1:(0:Int) < (V.ents.length:Int):=by omega
 simp only [Nat.zero_mul,Nat.add_zero] at c0
 have HP0:=hid_ hp0
 have HL0:=hid_ hl0
 clear hp0 c1 hl0
 by_cases hlow:p0.1=V.low
 case neg =>
  have hne:¬ Sound V:=fun h=>by
   obtain ⟨p,hp,e⟩:=h.head
   rw [HP0.out] at hp
   cases hp
   exact hlow e
  have HNE:=hid_ hne
  have hs1:=sEq_ne hlow
  unfold sEq at hs1
  have hs2:(p0.1.toList != V.low.toList)=true:=by simpa [bne] using hs1
  clear hne hlow
  go_enter Tryz.func76,Tryz.ntmps76
  go_wp2_with fail
  change Code.wp _ _ _ _ (w.alloc (.cells (vwA V (.slice (some ⟨b,off,none⟩) V.ents.length c)) 46))
  rw [← hw0]
  clear hw0
  go_quiet (fail)
  go_wp2_with fail
  go_ret
  exact ⟨false,rfl,⟨(fun h=>by cases h),fun h=>absurd h HNE.out⟩,F0.out.drewN _⟩
 have hs1:(p0.1.toList==V.low.toList)=true:=sEq_iff.2 hlow
 have hs2:(p0.1.toList != V.low.toList)=false:=by simpa [bne] using hs1
 have HLOW:=hid_ hlow
 clear hlow
 by_cases hhi:V.unb=true∧V.high≠nilS
 ·have hne:¬ Sound V:=fun h=>hhi.2 (h.high hhi.1)
  have HNE:=hid_ hne
  rw [hhi.1] at v2
  have hh:V.high.toList.isEmpty=false:=by
   cases e:V.high.toList.isEmpty with
   | false=>rfl
   | true=>exact absurd (ba_eq (by rw [← ba_toList,List.isEmpty_iff.1 e])) hhi.2
  have hh2:(!V.high.toList.isEmpty)=true:=by rw [hh];rfl
  clear hne hhi
  go_enter Tryz.func76,Tryz.ntmps76
  go_wp2_with fail
  change Code.wp _ _ _ _ (w.alloc (.cells (vwA V (.slice (some ⟨b,off,none⟩) V.ents.length c)) 46))
  rw [← hw0]
  clear hw0
  go_quiet (fail)
  go_wp2_with fail
  go_ret
  exact ⟨false,rfl,⟨(fun h=>by cases h),fun h=>absurd h HNE.out⟩,F0.out.drewN _⟩
 have HHI:Hid (V.unb=true→V.high=nilS):=hid_ (fun hu=>Classical.byContradiction fun hn=>hhi ⟨hu,hn⟩)
 clear hhi
 go_enter Tryz.func76,Tryz.ntmps76
 go_upto_region 1 with fail
 change Code.wp _ _ _ _ (w.alloc (.cells (vwA V (.slice (some ⟨b,off,none⟩) V.ents.length c)) 46))
 rw [← hw0]
 clear hw0
 go_cut [26] (fun v wq=>v=.bool false∧Fr none_ w0 wq)
 case first =>
  cases hu:V.unb with
  | false =>
   rw [hu] at v2
   clear hu
   go_quiet (fail)
   go_wp2
   go_meet
   case rel=>exact ⟨rfl,(Fr.refl none_ w0).drewN _⟩
  | true =>
   have hh:=HHI.out hu
   rw [hu] at v2
   rw [hh] at v1
   clear hu hh
   go_quiet (fail)
   go_wp2
   go_meet
   case rel=>exact ⟨rfl,(Fr.refl none_ w0).drewN _⟩
 case rest =>
 obtain ⟨rfl,hf⟩:=hcut
 have B1:=hid_ (B0.out.fr hf id)
 have F1:=hid_ (F0.out.then_none hf)
 have H1:=hid_ (H0.out.keep hf)
 clear hf v0 v1 v2 v4 c0 hs1 hs2 hd0 hd0'
 have v4:wc.cell? ⟨w.heap.size,4,none⟩=some (.slice (some ⟨b,off,none⟩) V.ents.length c):=B1.out.cell' rfl
 go_wp2_with fail
 clear v4 F0 H0 B0
 go_loopw [3] (fun i wr=>∃ k:Nat,k≤V.ents.length∧i=.int .i64 k∧SoundTo V k∧Fr none_ wc wr) (fun i _=>V.ents.length - (intOf i).toNat)
 case atStart=>exact ⟨0,Nat.zero_le _,rfl,⟨fun j p hj=>by omega,fun j p q hj=>by omega⟩,Fr.refl _ _⟩
 case round =>
  obtain ⟨k,hk,rfl,hst,hF⟩:=hrel
  have ST:=hid_ hst
  have B:=hid_ (B1.out.fr hF id)
  have H:=hid_ (H1.out.keep hF)
  have F:=hid_ (F1.out.then_none hF)
  have FC:=hid_ hF
  clear hst hF
  have hi0:(0:Int)≤(k:Int):=Int.natCast_nonneg _
  have vv4:wr.cell? ⟨w.heap.size,4,none⟩=some (.slice (some ⟨b,off,none⟩) V.ents.length c):=B.out.cell' rfl
  by_cases hlt:k < V.ents.length
  ·have hi1':(k:Int) < (V.ents.length:Int):=by omega
   obtain ⟨p,hp⟩:∃ p,V.ents[k]?=some p:=⟨_,List.getElem?_eq_getElem hlt⟩
   obtain ⟨b2,off2,hA,hb2,c0,c1⟩:=et_at H.out.rd hp
   obtain ⟨rfl,rfl⟩:b=b2∧off=off2:=by injection hA with hA;injection hA with e1 e2;exact ⟨e1,e2⟩
   have HP:=hid_ hp
   clear hp hA
   have B2:=B
   have H2:=H
   go_upto_region 6 with fail
   obtain ⟨w2,rfl⟩:∃ z:World,z=wr:=⟨_,rfl⟩
   have F2:=FC
   have hpk:=OK.out.ents.2 p (List.mem_of_getElem? HP.out)
   have HPK:=hid_ hpk
   clear hpk
   go_cut [63] (fun v wq=>∃ bb:Bool,v=.bool bb∧(bb=false ↔ (inS V.low V.high V.unb p.1=true∧∀ q,0 < k→V.ents[k - 1]?=some q→ltS q.1 p.1=true))∧Fr none_ w2 wq)
   case first =>
    have v0:w2.cell? ⟨w.heap.size,0,none⟩=some (.string V.low):=B2.out.cell' rfl
    have v1:w2.cell? ⟨w.heap.size,1,none⟩=some (.string V.high):=B2.out.cell' rfl
    have v2:w2.cell? ⟨w.heap.size,2,none⟩=some (.bool V.unb):=B2.out.cell' rfl
    have v3:w2.cell? ⟨w.heap.size,3,none⟩=some (.int .i64 V.right):=B2.out.cell' rfl
    have v4:w2.cell? ⟨w.heap.size,4,none⟩=some (.slice (some ⟨b,off,none⟩) V.ents.length c):=B2.out.cell' rfl
    have v5:w2.cell? ⟨w.heap.size,5,none⟩=some (.bool V.held):=B2.out.cell' rfl
    have v6:w2.cell? ⟨w.heap.size,6,none⟩=some (.int .i64 V.hp):=B2.out.cell' rfl
    have v7:w2.cell? ⟨w.heap.size,7,none⟩=some (.int .i64 V.hl):=B2.out.cell' rfl
    have v8:w2.cell? ⟨w.heap.size,8,none⟩=some (.string V.hk):=B2.out.cell' rfl
    have y0:∀ x:Wx w2,x.to.cell? ⟨w.heap.size,0,none⟩=some (.string V.low):=fun x=>x.cell v0
    have y1:∀ x:Wx w2,x.to.cell? ⟨w.heap.size,1,none⟩=some (.string V.high):=fun x=>x.cell v1
    have y2:∀ x:Wx w2,x.to.cell? ⟨w.heap.size,2,none⟩=some (.bool V.unb):=fun x=>x.cell v2
    have y3:∀ x:Wx w2,x.to.cell? ⟨w.heap.size,3,none⟩=some (.int .i64 V.right):=fun x=>x.cell v3
    have y4:∀ x:Wx w2,x.to.cell? ⟨w.heap.size,4,none⟩=some (.slice (some ⟨b,off,none⟩) V.ents.length c):=fun x=>x.cell v4
    have y5:∀ x:Wx w2,x.to.cell? ⟨w.heap.size,5,none⟩=some (.bool V.held):=fun x=>x.cell v5
    have y6:∀ x:Wx w2,x.to.cell? ⟨w.heap.size,6,none⟩=some (.int .i64 V.hp):=fun x=>x.cell v6
    have y7:∀ x:Wx w2,x.to.cell? ⟨w.heap.size,7,none⟩=some (.int .i64 V.hl):=fun x=>x.cell v7
    have y8:∀ x:Wx w2,x.to.cell? ⟨w.heap.size,8,none⟩=some (.string V.hk):=fun x=>x.cell v8
    have z0:∀ x:Wx w2,x.to.cell? ⟨b,off+k * 2,none⟩=some (.string p.1):=fun x=>x.cell c0
    clear v0 v1 v2 v3 v4 v5 v6 v7 v8 c0 c1
    cases hin:inS V.low V.high V.unb p.1 with
    | false =>
     have HC:Hid (∀ x:Wx w2,Calls Tryz.prog 43 #[vwV V (.slice (some ⟨b,off,none⟩) V.ents.length c),.string p.1] x.to fun e w'=>e=.returned (.bool false)∧Fr none_ x.to w'):=hid_ (fun x=>by
      have h:=rvin_ok V (.slice (some ⟨b,off,none⟩) V.ents.length c) p.1 x.to OK.out.low OK.out.high HPK.out
      rwa [hin] at h)
     have HIN:=hid_ hin
     clear hin
     refine wp_region_quiet_x (by kernel_rfl) (by kernel_rfl) ?_
     repeat (first | go_big_quiet_step ((go_at_call 43;exact Calls.quiet_x (HC.out _))) | quiet_step ((go_at_call 43;exact Calls.quiet_x (HC.out _))))
     refine wpQuiet_nil ?_
     intro _ hw'
     obtain ⟨xq,hw''⟩:=hw'
     subst hw''
     go_wp2
     go_meet
     case rel=>exact ⟨true,rfl,⟨(fun h=>by cases h),fun h=>by rw [HIN.out] at h;cases h.1⟩,xq.fr⟩
    | true =>
     have HC:Hid (∀ x:Wx w2,Calls Tryz.prog 43 #[vwV V (.slice (some ⟨b,off,none⟩) V.ents.length c),.string p.1] x.to fun e w'=>e=.returned (.bool true)∧Fr none_ x.to w'):=hid_ (fun x=>by
      have h:=rvin_ok V (.slice (some ⟨b,off,none⟩) V.ents.length c) p.1 x.to OK.out.low OK.out.high HPK.out
      rwa [hin] at h)
     have HIN:=hid_ hin
     clear hin
     by_cases hk0:0 < k
     ·obtain ⟨q,hq⟩:∃ q,V.ents[k - 1]?=some q:=⟨_,List.getElem?_eq_getElem (by omega)⟩
      obtain ⟨b3,off3,hA,hb3,d0,d1⟩:=et_at H2.out.rd hq
      obtain ⟨rfl,rfl⟩:b=b3∧off=off3:=by injection hA with hA;injection hA with e1 e2;exact ⟨e1,e2⟩
      have e0:∀ x:Wx w2,x.to.cell? ⟨b,off+(k - 1) * 2,none⟩=some (.string q.1):=fun x=>x.cell d0
      have hqk:=OK.out.ents.2 q (List.mem_of_getElem? hq)
      have HQK:=hid_ hqk
      have HQ:=hid_ hq
      have HQ':Hid ((∀ q',0 < k→V.ents[k - 1]?=some q'→ltS q'.1 p.1=true) ↔ ltS q.1 p.1=true):=hid_ ⟨fun h=>h q hk0 hq,fun h q' _ hq'=>by rw [hq] at hq';cases hq';exact h⟩
      have HC2:Hid (∀ x:Wx w2,Calls Tryz.prog 42 #[.string q.1,.string p.1] x.to fun e w'=>e=.returned (.bool (ltS q.1 p.1))∧Fr none_ x.to w'):=hid_ (fun x=>(before_ok q.1 p.1 x.to HQK.out.le HPK.out.le).mono (by rintro e w' ⟨rfl,n,rfl⟩;exact ⟨rfl,(Fr.refl none_ _).drewN n⟩))
      have hw1:IntKind.i64.wrap ((k:Int) - 1)=((k - 1:Nat):Int):=by rw [show (k:Int) - 1=((k - 1:Nat):Int) by omega];exact IntWalk.i64_in _ (by omega)
      have hdk:decide (0 < k)=true:=decide_eq_true hk0
      have hj0:(0:Int)≤((k - 1:Nat):Int):=Int.natCast_nonneg _
      have hj1:((k - 1:Nat):Int) < (V.ents.length:Int):=by omega
      obtain ⟨j,hj⟩:∃ j,j=k - 1:=⟨_,rfl⟩
      rw [← hj] at e0 hw1 hj0 hj1
      have HJ:=hid_ hj
      clear hq hA d0 d1 hqk hj hk0
      refine wp_region_quiet_x (by kernel_rfl) (by kernel_rfl) ?_
      repeat (first | go_big_quiet_step ((first | (go_at_call 43;exact Calls.quiet_x (HC.out _)) | (go_at_call 42;exact Calls.quiet_x (HC2.out _)))) | quiet_step ((first | (go_at_call 43;exact Calls.quiet_x (HC.out _)) | (go_at_call 42;exact Calls.quiet_x (HC2.out _)))))
      refine wpQuiet_nil ?_
      intro _ hw'
      obtain ⟨xq,hw''⟩:=hw'
      subst hw''
      go_wp2
      go_meet
      case rel=>exact ⟨_,rfl,by
       rw [HIN.out,HQ'.out]
       cases ltS q.1 p.1 <;> simp,xq.fr⟩
     ·have hdk:decide (0 < k)=false:=decide_eq_false hk0
      have hk0':k=0:=by omega
      have HK0:=hid_ hk0'
      clear hk0 hk0'
      refine wp_region_quiet_x (by kernel_rfl) (by kernel_rfl) ?_
      repeat (first | go_big_quiet_step ((go_at_call 43;exact Calls.quiet_x (HC.out _))) | quiet_step ((go_at_call 43;exact Calls.quiet_x (HC.out _))))
      refine wpQuiet_nil ?_
      intro _ hw'
      obtain ⟨xq,hw''⟩:=hw'
      subst hw''
      go_wp2
      go_meet
      case rel=>exact ⟨false,rfl,⟨fun _=>⟨HIN.out,fun q h=>by have:=HK0.out;omega⟩,fun _=>rfl⟩,xq.fr⟩
   case rest =>
   obtain ⟨bb,rfl,hbb,hf⟩:=hcut
   have F3:=hid_ (F2.out.then_none hf)
   have HB:=hid_ hbb
   clear hf hbb B2 H2 F2
   cases bb with
   | true =>
    have hns:¬ Sound V:=fun hS=>by
     have h:=HB.out.2 ⟨hS.inn p (List.mem_of_getElem? HP.out),fun q h0 hq=>hS.ris (k - 1) q p hq (by rw [show k - 1+1=k by omega];exact HP.out)⟩
     cases h
    have HNS:=hid_ hns
    clear hns
    go_wp2_with fail
    go_ret
    exact ⟨false,rfl,⟨(fun h=>by cases h),fun h=>absurd h HNS.out⟩,F1.out.then_none F3.out⟩
   | false =>
    have hst:SoundTo V (k+1):=by
     have h:=HB.out.1 rfl
     refine ⟨fun j p' hj hp'=>?_,fun j p' q hj hp' hq=>?_⟩
     ·rcases Nat.lt_succ_iff_lt_or_eq.1 hj with hj | rfl
      ·exact ST.out.1 j p' hj hp'
      ·rw [HP.out] at hp';cases hp';exact h.1
     ·rcases Nat.lt_succ_iff_lt_or_eq.1 hj with hj | hj
      ·exact ST.out.2 j p' q hj hp' hq
      ·rw [hj,HP.out] at hq
       cases hq
       exact h.2 p' (by omega) (by rw [show k - 1=j by omega];exact hp')
    have HST:=hid_ hst
    clear hst
    go_wp2_with fail
    go_roundw
    case rel=>exact ⟨k+1,by omega,by go_num,HST.out,F3.out⟩
    case measure=>simp [intOf];omega
  ·obtain rfl:k=V.ents.length:=by omega
   have hS:Sound V:=⟨⟨p0,HP0.out,HLOW.out⟩,HHI.out,fun p hp=>by obtain ⟨j,hj,e⟩:=List.mem_iff_getElem.1 hp;exact ST.out.1 j p hj (by rw [List.getElem?_eq_getElem hj,e]),fun j p q hp hq=>ST.out.2 j p q (List.getElem?_eq_some_iff.1 hq).1 hp hq⟩
   have HS:=hid_ hS
   clear hS
   go_wp2_with fail
   go_ret
   exact ⟨true,rfl,⟨fun _=>HS.out,fun _=>rfl⟩,F.out⟩
set_option maxHeartbeats 4000000 in
theorem rahead8_ok (V:Vw) (A:Option Addr) (c:Nat) (key:ByteArray) (w:World) (h:VwIn w V A c) (hk:SzOk key) :
  Calls Tryz.prog 78 #[vwV V (.slice A V.ents.length c),.string key] w fun e w'=>e=.returned (.int .i64 (plN V.ents key:Nat))∧Fr none_ w w':=by
 obtain ⟨w0,hw0⟩:∃ w0,w0=w.alloc (.cells (vwA V (.slice A V.ents.length c)) 46):=⟨_,rfl⟩
 have f0:Fr none_ w w0:=by rw [hw0];exact (Fr.refl none_ w).alloc _
 have F0:=hid_ f0
 have H0:=hid_ (h.keep f0)
 have B0:Hid (Blk w0 w.heap.size 46 (vwA V (.slice A V.ents.length c))):=hid_ (by rw [hw0];exact Blk.new w _ _)
 have hle:=plN_le V.ents key
 have h1000:=h.ok.ents.1
 have HSZ:=hid_ (And.intro h.ok.ents.2 hk)
 clear h f0 hk
 go_enter Tryz.func78,Tryz.ntmps78
 go_wp2_with fail
 change Code.wp _ _ _ _ (w.alloc (.cells (vwA V (.slice A V.ents.length c)) 46))
 rw [← hw0]
 clear hw0
 go_loopw [5] (fun i wr=>∃ k:Nat,k≤plN V.ents key∧i=.int .i64 k∧Fr none_ w0 wr) (fun i _=>plN V.ents key - (intOf i).toNat)
 case atStart=>exact ⟨0,Nat.zero_le _,rfl,Fr.refl _ _⟩
 case round =>
  obtain ⟨k,hk,rfl,hF⟩:=hrel
  have B:=hid_ (B0.out.fr hF id)
  have H:=hid_ (H0.out.keep hF)
  have F:=hid_ hF
  clear hF
  have v4:wr.cell? ⟨w.heap.size,4,none⟩=some (.slice A V.ents.length c):=B.out.cell' rfl
  have hi0:(0:Int)≤(k:Int):=Int.natCast_nonneg _
  by_cases hlt:k < plN V.ents key
  ·have hkl:k < V.ents.length:=by omega
   have hi1:(k:Int) < (V.ents.length:Int):=by omega
   have hd1:decide ((k:Int) < (V.ents.length:Int))=true:=by simp;omega
   obtain ⟨p,hp⟩:∃ p,V.ents[k]?=some p:=⟨_,List.getElem?_eq_getElem hkl⟩
   obtain ⟨b,off,rfl,hb,c0,c1⟩:=et_at H.out.rd hp
   have hcmp:ltS p.1 key=true:=plN_in hlt hp
   have hsz:=HSZ.out.1 p (List.mem_of_getElem? hp)
   have HCMP:=hid_ hcmp
   clear hp hcmp c1
   go_wp2_with fail
   refine (before_ok p.1 key _ hsz.le HSZ.out.2.le).mono ?_
   rintro e w1 ⟨rfl,q,rfl⟩
   rw [HCMP.out]
   have FQ:=hid_ (F.out.drewN q)
   clear v4 c0
   go_wp2_with fail
   go_roundw
   case rel=>exact ⟨k+1,by omega,by go_num,FQ.out⟩
   case measure=>simp [intOf];omega
  ·obtain rfl:k=plN V.ents key:=by omega
   by_cases hl:plN V.ents key < V.ents.length
   ·obtain ⟨p,hp⟩:∃ p,V.ents[plN V.ents key]?=some p:=⟨_,List.getElem?_eq_getElem hl⟩
    obtain ⟨b,off,rfl,hb,c0,c1⟩:=et_at H.out.rd hp
    have hcmp:ltS p.1 key=false:=plN_at hp
    have hsz:=HSZ.out.1 p (List.mem_of_getElem? hp)
    have hat:=atB_some hp
    obtain ⟨n,hn⟩:∃ n,n=plN V.ents key:=⟨_,rfl⟩
    have hi1:(n:Int) < (V.ents.length:Int):=by omega
    have hd1:decide ((n:Int) < (V.ents.length:Int))=true:=by simp;omega
    have hd2:decide (n < V.ents.length)=true:=by simp;omega
    rw [← hn] at c0 c1 hi0
    rw [← hn]
    have HCMP:=hid_ hcmp
    have HAT:=hid_ hat
    have HN:=hid_ hn
    clear hp hcmp c1 hl hlt hat hn hk hle
    go_wp2_with fail
    refine (before_ok p.1 key _ hsz.le HSZ.out.2.le).mono ?_
    rintro e w1 ⟨rfl,q,rfl⟩
    rw [HCMP.out]
    have FQ:=hid_ (F.out.drewN q)
    go_wp2_with fail
    go_ret
    exact ⟨by rw [← HN.out];rfl,F0.out.then_none (by repeat (first | exact FQ.out | apply Fr.drewN | apply Fr.drew))⟩
   ·have he:plN V.ents key=V.ents.length:=by omega
    have hat:=atB_none he
    have HAT:=hid_ hat
    have HE:=hid_ he
    have hd1:decide ((V.ents.length:Int) < (V.ents.length:Int))=false:=by simp
    rw [he]
    clear he hat hl hlt hk hle
    go_wp2_with fail
    go_ret
    exact ⟨by rw [HE.out];rfl,F0.out.then_none (by repeat (first | exact F.out | apply Fr.drewN | apply Fr.drew))⟩

open Go.RowKit Go.BigFrame

theorem VwIn.far8 {w w':World} {V V0:Vw} {A:Option Addr} {c X:Nat} {ve:Value} (h:VwIn w V A c) (hX:Blk w X 46 (vwA V0 ve)) (hf:Fr (only X) w w'):VwIn w' V A c:=by
  refine ⟨?_,h.cap,h.capm,h.ok⟩
  rcases Nat.eq_zero_or_pos V.ents.length with h0 | h0
  · exact ⟨h.rd.1,fun hn=>absurd hn (by omega)⟩
  · obtain ⟨p,hp⟩:∃ p,V.ents[0]?=some p:=⟨_,List.getElem?_eq_getElem h0⟩
    obtain ⟨b,off,rfl,hb,c0,c1⟩:=et_at h.rd hp
    refine h.rd.fr hf (fun ad e=>?_)
    cases e
    intro e
    have e':b=X:=e
    subst e'
    rw [hX.cell] at c0 c1
    simp only [Nat.zero_mul,Nat.add_zero] at c0 c1
    match off,c0,c1 with
    | 0,c0,c1=>simp at c1
    | 1,c0,c1=>simp at c1
    | 2,c0,c1=>simp at c0
    | 3,c0,c1=>simp at c0
    | 4,c0,c1 =>
      have e:ve=.string p.1:=by simpa using c0
      simp at c1
    | 5,c0,c1=>simp at c0
    | 6,c0,c1=>simp at c0
    | 7,c0,c1=>simp at c0
    | 8,c0,c1=>simp at c1
    | k+9,c0,c1=>simp at c0
theorem rvw_size8:(Tryz.prog.info? 46).map (·.size)=some 9:=by kernel_rfl
abbrev vwZ8:Array Value:=#[.string ⟨#[]⟩,.string ⟨#[]⟩,.bool false,.int .i64 0,.slice none 0 0,.bool false,.int .i64 0,.int .i64 0,.string ⟨#[]⟩]
def UpOkU (V:Vw) (R:Rc) (V':Vw) (bb:Bool):Prop:=upM V R=if bb=true then some V' else none
theorem foldU_at {l:List Rc} {k:Nat} {R:Rc} (hR:l[k]?=some R) (hk:k+1 < l.length):foldU (l.drop k)=(foldU (l.drop (k+1))).bind fun V=>upM V R:=by
  obtain ⟨h,rfl⟩:=List.getElem?_eq_some_iff.1 hR
  rw [List.drop_eq_getElem_cons h,foldU_cons _ (by intro e;have:=congrArg List.length e;simp at this;omega)]
theorem foldU_noK {l:List Rc} {k:Nat} (hk:k < l.length) (h:foldU (l.drop k)=none):foldU l=none:=by simpa using foldU_none hk h 0 (Nat.zero_le _)
theorem kindU_of {L:List Ch} {n:Nat} (hn:L.length=n) (h:∀ (j:Nat) C,j < n→L[j]?=some C→KindOk C.R):∀ R ∈ L.map (·.R),KindOk R:=fun R hR=>by
  obtain ⟨C,hC,rfl⟩:=List.mem_map.1 hR
  obtain ⟨j,hj,e⟩:=List.mem_iff_getElem.1 hC
  exact h j C (by omega) (by rw [List.getElem?_eq_getElem hj,e])
theorem at_neg {V:Vw} (g:Good V) {key:ByteArray} {k:Int} (h:AtIs V.ents key k) (hk:k < 0):atB V.ents key=false:=by
  rw [at_rising g.s.ris h];exact decide_eq_false (by omega)
theorem at_pos {V:Vw} (g:Good V) {key:ByteArray} {k:Int} (h:AtIs V.ents key k) (hk:0≤k):atB V.ents key=true∧k=(plN V.ents key:Int)∧plN V.ents key < V.ents.length:=by
  have ha:atB V.ents key=true:=by rw [at_rising g.s.ris h];exact decide_eq_true hk
  refine ⟨ha,?_,atB_lt ha⟩
  rcases h with ⟨i,p,rfl,hp,rfl⟩ | ⟨rfl,_⟩
  · have hr:Ris V.ents:=g.s.ris
    rw [(hr.at hp).1]
  · omega
theorem upM_8 {V:Vw} {R:Rc} (h:R.kind=8) (hh:V.held=false):UpOkU V R { V with ents:=putL V.ents (plN V.ents R.key) (R.key,R.page) } (!atB V.ents R.key && inS V.low V.high V.unb R.key):=by
  unfold UpOkU upM
  rw [if_pos ⟨h,hh⟩]
  cases atB V.ents R.key <;> cases inS V.low V.high V.unb R.key <;> simp
theorem upM_9 {V:Vw} {R:Rc} (h:R.kind=9) (hh:V.held=false) (h1:atB V.ents R.key=true) (h2:plN V.ents R.key≠0):UpOkU V R { V with ents:=V.ents.take (plN V.ents R.key),high:=R.key,unb:=false,right:=R.page } true:=upM_split h hh (by rw [h1];simp [h2])
theorem upM_9n {V:Vw} {R:Rc} (h:R.kind=9) (hh:V.held=false) (h1:atB V.ents R.key=false∨plN V.ents R.key=0):upM V R=none:=by
  unfold upM
  rw [if_neg (by omega),if_pos ⟨h,hh⟩,if_pos h1]
theorem upM_10 {V:Vw} {R:Rc} {p q:Et} {n:Nat} (h:R.kind=10) (hh:V.held=false) (h1:atB V.ents R.hkey=true) (hn:plN V.ents R.hkey=n+1) (hp:V.ents[n+1]?=some p) (hq:V.ents[n]?=some q) :
    UpOkU V R { V with held:=true,hp:=R.hpage,hl:=R.hleft,hk:=R.hkey } ((p.2==R.hpage) && (q.2==R.hleft)):=by
  unfold UpOkU upM
  rw [if_neg (by omega),if_neg (by omega),if_pos ⟨h,hh⟩,h1,hn,hp,show n+1 - 1=n from rfl,hq]
  by_cases e1:p.2=R.hpage <;> by_cases e2:q.2=R.hleft <;> simp [e1,e2]
theorem upM_10n {V:Vw} {R:Rc} (h:R.kind=10) (hh:V.held=false) (h1:atB V.ents R.hkey=false∨plN V.ents R.hkey=0):upM V R=none:=by
  unfold upM
  rw [if_neg (by omega),if_neg (by omega),if_pos ⟨h,hh⟩,if_pos (h1.imp id .inl)]
theorem upM_11 {V:Vw} {R:Rc} (h:R.kind=11) (hh:V.held=true):UpOkU V R { V with ents:=V.ents.take (plN V.ents V.hk) ++ V.ents.drop (plN V.ents V.hk+1),held:=false,hp:=0,hl:=0,hk:=nilS } true:=upM_drop h hh
theorem upM_no {V:Vw} {R:Rc} (h:R.kind=7∨(V.held=true∧R.kind≠11)∨(V.held=false∧R.kind=11)):upM V R=none:=by
  unfold upM
  rcases h with h | ⟨h1,h2⟩ | ⟨h1,h2⟩
  · rw [if_neg (by omega),if_neg (by omega),if_neg (by omega),if_neg (by omega)]
  · rw [if_neg (by rw [h1];simp),if_neg (by rw [h1];simp),if_neg (by rw [h1];simp),if_neg (by omega)]
  · rw [if_neg (by omega),if_neg (by omega),if_neg (by omega),if_neg (by rw [h1];simp)]
theorem VwIn.cut8 {w:World} {V:Vw} {A:Option Addr} {c n:Nat} {V':Vw} (h:VwIn w V A c) (hn:n≤V.ents.length) (he:V'.ents=V.ents.take n) (ok:V'.Ok):VwIn w V' A c:=by
  have hl:V'.ents.length=n:=by rw [he];simp;omega
  refine ⟨?_,by have:=h.cap;omega,h.capm,ok⟩
  rw [hl,he,etFlat_take]
  exact h.rd.upto hn
open Go.RowKit Go.BigFrame

theorem rpage_size:(Tryz.prog.info? 48).map (·.size)=some 21:=by kernel_rfl
theorem LwRd.zero (b0:Nat) (w:World):LwRd b0 w Lw.zero none 0:=⟨Reads.nil_,Nat.le_refl _,by simp,⟨SzOk.nil,SzOk.nil,by show (0:Nat)≤300000;omega,fun p hp=>by simp [Lw.zero] at hp⟩,.inl fun h=>by simp [Lw.zero] at h⟩
theorem VwIn.farR {w w':World} {V:Vw} {A:Option Addr} {c X:Nat} {n hs hg:Int} {vc vr sl si:Value} {leaf:Bool} {lv:Lw} {iv:Vw} (h:VwIn w V A c) (hX:Blk w X 48 (pgA n hs hg vc vr leaf lv sl iv si)) (hsl:∃ A n c,sl=.slice A n c) (hsi:∃ A n c,si=.slice A n c) (hvr:∃ A n c,vr=.slice A n c) (hf:Fr (only X) w w'):VwIn w' V A c:=by
  refine ⟨?_,h.cap,h.capm,h.ok⟩
  rcases Nat.eq_zero_or_pos V.ents.length with h0 | h0
  · exact ⟨h.rd.1,fun hn=>absurd hn (by omega)⟩
  · obtain ⟨p,hp⟩:∃ p,V.ents[0]?=some p:=⟨_,List.getElem?_eq_getElem h0⟩
    obtain ⟨b,off,rfl,hb,c0,c1⟩:=et_at h.rd hp
    refine h.rd.fr hf (fun ad e=>?_)
    cases e
    intro e
    have e':b=X:=e
    subst e'
    rw [hX.cell] at c0 c1
    simp only [Nat.zero_mul,Nat.add_zero] at c0 c1
    obtain ⟨_,_,_,rfl⟩:=hsl
    obtain ⟨_,_,_,rfl⟩:=hsi
    obtain ⟨_,_,_,rfl⟩:=hvr
    match off,c0,c1 with
    | 0,c0,c1=>simp at c0
    | 1,c0,c1=>simp at c0
    | 2,c0,c1=>simp at c0
    | 3,c0,c1=>simp at c1
    | 4,c0,c1=>simp at c0
    | 5,c0,c1=>simp at c0
    | 6,c0,c1=>simp at c1
    | 7,c0,c1=>simp at c1
    | 8,c0,c1=>simp at c0
    | 9,c0,c1=>simp at c0
    | 10,c0,c1=>simp at c0
    | 11,c0,c1=>simp at c0
    | 12,c0,c1=>simp at c1
    | 13,c0,c1=>simp at c1
    | 14,c0,c1=>simp at c0
    | 15,c0,c1=>simp at c0
    | 16,c0,c1=>simp at c0
    | 17,c0,c1=>simp at c0
    | 18,c0,c1=>simp at c0
    | 19,c0,c1=>simp at c0
    | 20,c0,c1=>simp at c1
    | k+21,c0,c1=>simp at c0
theorem VwIn.farZR {w w':World} {V:Vw} {A:Option Addr} {c X:Nat} (h:VwIn w V A c) (hX:Blk w X 48 pgZ) (hf:Fr (only X) w w'):VwIn w' V A c:=
  h.farR (n:=0) (hs:=0) (hg:=0) (vc:=.slice none 0 0) (vr:=.slice none 0 0) (leaf:=false) (lv:=Lw.zero) (sl:=.slice none 0 0) (iv:=Vw.zero) (si:=.slice none 0 0) hX ⟨_,_,_,rfl⟩ ⟨_,_,_,rfl⟩ ⟨_,_,_,rfl⟩ hf
open Go.RowKit Go.BigFrame
structure RFoldStB (bq:Nat) (w:World) (L:List Ch) (X k:Nat) (V:Lw) (A:Option Addr) (c:Nat) (wr:World):Prop where
  fo:foldL ((L.drop k).map (·.R))=some V
  bx:Blk wr X 45 (lwA V (.slice A V.rows.length c))
  bo:Blk wr w.heap.size 45 lwZ
  vin:LwRd bq wr V A c
  len:V.rows.length≤(L.length - k) * 501
  fr:Fr none_ w wr
def RFoldCutB (bq:Nat) (w:World) (L:List Ch) (X k:Nat) (bb:Bool) (wr:World):Prop:=
  (bb=true∧∃ (V:Lw) (A:Option Addr) (c:Nat),RFoldStB bq w L X k V A c wr)∨(bb=false∧foldL ((L.drop k).map (·.R))=none∧Blk wr w.heap.size 45 lwZ∧Fr none_ w wr)
def RFoldPostB (bq:Nat) (l:List Rc) (w:World) (e:Ending) (w':World):Prop:=
  (∃ V A c,(∀ R ∈ l,KindL R)∧foldL l=some V∧e=.returned (.tuple #[lwV V (.slice A V.rows.length c),.int .i64 0])∧LwRd bq w' V A c∧Fr none_ w w') ∨
  (∃ k:Int,((k=9∧∃ R ∈ l,¬ KindL R)∨(k=10∧(∀ R ∈ l,KindL R)∧foldL l=none))∧e=.returned (.tuple #[lwV Lw.zero (.slice none 0 0),.int .i64 k])∧Fr none_ w w')
theorem RFoldStB.keep {bq:Nat} {w wr w':World} {L:List Ch} {X k:Nat} {V:Lw} {A:Option Addr} {c:Nat} (h:RFoldStB bq w L X k V A c wr) (hf:Fr none_ wr w'):RFoldStB bq w L X k V A c w':=
  ⟨h.fo,h.bx.fr hf id,h.bo.fr hf id,h.vin.keep hf,h.len,h.fr.then_none hf⟩
theorem fold_goneB {bq:Nat} {w wr:World} {L:List Ch} {X j m:Nat} {V:Lw} {A:Option Addr} {c:Nat} (h:RFoldStB bq w L X (j+1) V A c wr) (hj:j < m) (hl:L.length=m+1) (h2:∀ (j:Nat) C,j < m+1→L[j]?=some C→(C.R.kind=1 ↔ j=m)∧(C.R.kind=5→j=0)):V.gone=false:=by
  cases hg:V.gone with
  | false=>rfl
  | true =>
    obtain ⟨r,t,e,h5⟩:=foldL_gone h.fo hg
    have hlt:j+1 < L.length:=by omega
    rw [List.drop_eq_getElem_cons hlt,List.map_cons] at e
    injection e with e1 e2
    have:=(h2 (j+1) L[j+1] (by omega) (List.getElem?_eq_getElem hlt)).2 (by rw [e1];exact h5)
    omega
theorem fold_upB {bq:Nat} {w wr:World} {L:List Ch} {X j:Nat} {C:Ch} {V:Lw} {A:Option Addr} {c:Nat} (h:RFoldStB bq w L X (j+1) V A c wr) (hC:L[j]?=some C) (hl:j+1 < L.length):foldL ((L.drop j).map (·.R))=upL V C.R:=by
  rw [List.map_drop,foldL_at (ch_at hC) (by rw [List.length_map];exact hl),← List.map_drop,h.fo]
  rfl
theorem cut_ofB {bq:Nat} {w wq:World} {L:List Ch} {X j:Nat} {R:Rc} {V V':Lw} {A:Option Addr} {c:Nat} {bb:Bool} (hfo:foldL ((L.drop j).map (·.R))=upL V R) (hu:UpOk V R V' bb) (bx:Blk wq X 45 (lwA V' (.slice A V'.rows.length c)))
    (bo:Blk wq w.heap.size 45 lwZ) (vin:LwRd bq wq V' A c) (len:V'.rows.length≤(L.length - j) * 501) (fr:Fr none_ w wq):RFoldCutB bq w L X j bb wq:=by
  cases bb with
  | true=>exact .inl ⟨rfl,V',A,c,by rw [hfo];exact hu,bx,bo,vin,len,fr⟩
  | false=>exact .inr ⟨rfl,by rw [hfo];exact hu,bo,fr⟩
open Go.RowKit

structure Sm4 (w w':World) (R:Rc) (A B A2 B2:Option Addr) (c d c2 d2:Nat):Prop where
  b0:Blk w' w.heap.size 33 (recA R (.slice A R.rows.length c) (.slice B R.ents.length d))
  b1:Blk w' (w.heap.size+1) 33 (recA R (.slice A2 R.rows.length c2) (.slice B2 R.ents.length d2))
  rd:RecReads w' R A B
  rd2:RecReads w' R A2 B2
  fr:Fr none_ w w'
theorem Sm4.keep {w w' w2:World} {R:Rc} {A B A2 B2:Option Addr} {c d c2 d2:Nat} (h:Sm4 w w' R A B A2 B2 c d c2 d2) (hf:Fr none_ w' w2):Sm4 w w2 R A B A2 B2 c d c2 d2:=
  ⟨h.b0.fr hf id,h.b1.fr hf id,h.rd.keep hf,h.rd2.keep hf,h.fr.then_none hf⟩

set_option maxHeartbeats 4000000 in
theorem same4_ok (R:Rc) (A:Option Addr) (c:Nat) (B:Option Addr) (d:Nat) (A2:Option Addr) (c2:Nat) (B2:Option Addr) (d2:Nat) (w:World) (h:RecReads w R A B) (h2:RecReads w R A2 B2) (hr:R.rows.length≤1000) (he:R.ents.length≤1000) :
  Calls Tryz.prog 36 #[recV R (.slice A R.rows.length c) (.slice B R.ents.length d),recV R (.slice A2 R.rows.length c2) (.slice B2 R.ents.length d2)] w fun e w'=>e=.returned (.bool true)∧Fr none_ w w':=by
 obtain ⟨w0,hw0⟩:∃ w0,w0=(w.alloc (recB R (.slice A R.rows.length c) (.slice B R.ents.length d))).alloc (recB R (.slice A2 R.rows.length c2) (.slice B2 R.ents.length d2)):=⟨_,rfl⟩
 have M0:Hid (Sm4 w w0 R A B A2 B2 c d c2 d2):=by
  have f0:Fr none_ w w0:=by rw [hw0];exact ((Fr.refl none_ w).alloc _).alloc _
  have k1:=(Blk.new (w.alloc (recB R (.slice A R.rows.length c) (.slice B R.ents.length d))) 33 (recA R (.slice A2 R.rows.length c2) (.slice B2 R.ents.length d2)))
  rw [World.size_alloc] at k1
  exact hid_ ⟨by rw [hw0];exact (Blk.new w _ _).alloc _,by rw [hw0];exact k1,h.keep f0,h2.keep f0,f0⟩
 clear h h2
 go_enter Tryz.func36,Tryz.ntmps36
 go_wp2_with fail
 change Code.wp _ _ _ _ ((w.alloc (recB R (.slice A R.rows.length c) (.slice B R.ents.length d))).alloc (recB R (.slice A2 R.rows.length c2) (.slice B2 R.ents.length d2)))
 rw [← hw0]
 clear hw0
 go_loopw [5] (fun i wr=>∃ k:Nat,k≤R.rows.length∧i=.int .i64 k∧Fr none_ w0 wr) (fun i _=>R.rows.length - (intOf i).toNat)
 case atStart=>exact ⟨0,Nat.zero_le _,rfl,Fr.refl _ _⟩
 case round =>
  obtain ⟨k,hk,rfl,hF⟩:=hrel
  have F:=hid_ hF
  have M:=hid_ (M0.out.keep hF)
  clear hF
  have a0:wr.cell? ⟨w.heap.size,5,none⟩=some (.slice A R.rows.length c):=M.out.b0.cell' rfl
  have a1:wr.cell? ⟨w.heap.size+1,5,none⟩=some (.slice A2 R.rows.length c2):=M.out.b1.cell' rfl
  by_cases hlt:k < R.rows.length
  ·obtain ⟨p,hp⟩:∃ p,R.rows[k]?=some p:=⟨_,List.getElem?_eq_getElem hlt⟩
   obtain ⟨b1,o1,rfl,hb1,d0,d1⟩:=rw_at M.out.rd.r hp
   obtain ⟨b2,o2,rfl,hb2,e0,e1⟩:=rw_at M.out.rd2.r hp
   have hi0:(0:Int)≤(k:Int):=Int.natCast_nonneg _
   have hi1:(k:Int) < (R.rows.length:Int):=by omega
   clear hp
   go_wp2_with fail
   go_quiet (fail)
   have FQ:=hid_ (F.out.drewN nq)
   clear d0 d1 e0 e1 a0 a1
   go_wp2
   go_roundw
   case rel=>exact ⟨k+1,by omega,by go_num,FQ.out⟩
   case measure=>simp [intOf];omega
  ·obtain rfl:k=R.rows.length:=by omega
   have a2:wr.cell? ⟨w.heap.size,6,none⟩=some (.slice B R.ents.length d):=M.out.b0.cell' rfl
   have a3:wr.cell? ⟨w.heap.size+1,6,none⟩=some (.slice B2 R.ents.length d2):=M.out.b1.cell' rfl
   go_wp2_with fail
   clear a0 a1 a2 a3 hlt hk
   go_loopw [6] (fun i wx=>∃ k:Nat,k≤R.ents.length∧i=.int .i64 k∧Fr none_ wr wx) (fun i _=>R.ents.length - (intOf i).toNat)
   case atStart=>exact ⟨0,Nat.zero_le _,rfl,Fr.refl _ _⟩
   case round =>
    obtain ⟨k,hk,rfl,hF⟩:=hrel
    obtain ⟨wx,rfl⟩:∃ wx:World,wx=wr:=⟨_,rfl⟩
    have F2:=hid_ hF
    have M2:=hid_ (M.out.keep hF)
    clear hF
    have a0:wx.cell? ⟨w.heap.size,6,none⟩=some (.slice B R.ents.length d):=M2.out.b0.cell' rfl
    have a1:wx.cell? ⟨w.heap.size+1,6,none⟩=some (.slice B2 R.ents.length d2):=M2.out.b1.cell' rfl
    by_cases hlt:k < R.ents.length
    ·obtain ⟨p,hp⟩:∃ p,R.ents[k]?=some p:=⟨_,List.getElem?_eq_getElem hlt⟩
     obtain ⟨b1,o1,rfl,hb1,d0,d1⟩:=et_at M2.out.rd.e hp
     obtain ⟨b2,o2,rfl,hb2,e0,e1⟩:=et_at M2.out.rd2.e hp
     have hi0:(0:Int)≤(k:Int):=Int.natCast_nonneg _
     have hi1:(k:Int) < (R.ents.length:Int):=by omega
     clear hp
     go_wp2_with fail
     go_quiet (fail)
     have FQ:=hid_ (F2.out.drewN nq)
     clear d0 d1 e0 e1 a0 a1
     go_wp2
     go_roundw
     case rel=>exact ⟨k+1,by omega,by go_num,FQ.out⟩
     case measure=>simp [intOf];omega
    ·obtain rfl:k=R.ents.length:=by omega
     clear a0 a1
     have x0:wx.cell? ⟨w.heap.size,0,none⟩=some (.int .i64 R.kind):=M2.out.b0.cell' rfl
     have y0:wx.cell? ⟨w.heap.size+1,0,none⟩=some (.int .i64 R.kind):=M2.out.b1.cell' rfl
     have x1:wx.cell? ⟨w.heap.size,1,none⟩=some (.string R.low):=M2.out.b0.cell' rfl
     have y1:wx.cell? ⟨w.heap.size+1,1,none⟩=some (.string R.low):=M2.out.b1.cell' rfl
     have x2:wx.cell? ⟨w.heap.size,2,none⟩=some (.string R.high):=M2.out.b0.cell' rfl
     have y2:wx.cell? ⟨w.heap.size+1,2,none⟩=some (.string R.high):=M2.out.b1.cell' rfl
     have x3:wx.cell? ⟨w.heap.size,3,none⟩=some (.bool R.unb):=M2.out.b0.cell' rfl
     have y3:wx.cell? ⟨w.heap.size+1,3,none⟩=some (.bool R.unb):=M2.out.b1.cell' rfl
     have x4:wx.cell? ⟨w.heap.size,4,none⟩=some (.int .i64 R.right):=M2.out.b0.cell' rfl
     have y4:wx.cell? ⟨w.heap.size+1,4,none⟩=some (.int .i64 R.right):=M2.out.b1.cell' rfl
     have x5:wx.cell? ⟨w.heap.size,5,none⟩=some (.slice A R.rows.length c):=M2.out.b0.cell' rfl
     have y5:wx.cell? ⟨w.heap.size+1,5,none⟩=some (.slice A2 R.rows.length c2):=M2.out.b1.cell' rfl
     have x6:wx.cell? ⟨w.heap.size,6,none⟩=some (.slice B R.ents.length d):=M2.out.b0.cell' rfl
     have y6:wx.cell? ⟨w.heap.size+1,6,none⟩=some (.slice B2 R.ents.length d2):=M2.out.b1.cell' rfl
     have x7:wx.cell? ⟨w.heap.size,7,none⟩=some (.string R.key):=M2.out.b0.cell' rfl
     have y7:wx.cell? ⟨w.heap.size+1,7,none⟩=some (.string R.key):=M2.out.b1.cell' rfl
     have x8:wx.cell? ⟨w.heap.size,8,none⟩=some (.string R.val):=M2.out.b0.cell' rfl
     have y8:wx.cell? ⟨w.heap.size+1,8,none⟩=some (.string R.val):=M2.out.b1.cell' rfl
     have x9:wx.cell? ⟨w.heap.size,9,none⟩=some (.int .i64 R.page):=M2.out.b0.cell' rfl
     have y9:wx.cell? ⟨w.heap.size+1,9,none⟩=some (.int .i64 R.page):=M2.out.b1.cell' rfl
     have x10:wx.cell? ⟨w.heap.size,10,none⟩=some (.int .i64 R.hpage):=M2.out.b0.cell' rfl
     have y10:wx.cell? ⟨w.heap.size+1,10,none⟩=some (.int .i64 R.hpage):=M2.out.b1.cell' rfl
     have x11:wx.cell? ⟨w.heap.size,11,none⟩=some (.int .i64 R.hleft):=M2.out.b0.cell' rfl
     have y11:wx.cell? ⟨w.heap.size+1,11,none⟩=some (.int .i64 R.hleft):=M2.out.b1.cell' rfl
     have x12:wx.cell? ⟨w.heap.size,12,none⟩=some (.string R.hkey):=M2.out.b0.cell' rfl
     have y12:wx.cell? ⟨w.heap.size+1,12,none⟩=some (.string R.hkey):=M2.out.b1.cell' rfl
     have x13:wx.cell? ⟨w.heap.size,13,none⟩=some (.int .i64 R.nslot):=M2.out.b0.cell' rfl
     have y13:wx.cell? ⟨w.heap.size+1,13,none⟩=some (.int .i64 R.nslot):=M2.out.b1.cell' rfl
     have x14:wx.cell? ⟨w.heap.size,14,none⟩=some (.int .i64 R.ngen):=M2.out.b0.cell' rfl
     have y14:wx.cell? ⟨w.heap.size+1,14,none⟩=some (.int .i64 R.ngen):=M2.out.b1.cell' rfl
     go_wp2
     go_ret
     exact ⟨rfl,M2.out.fr⟩
open Go.RowKit Go.BigFrame

set_option maxHeartbeats 2000000 in
theorem sameEntries_ok (L:List Et) (A A2:Option Addr) (c c2:Nat) (w:World) (h:Reads w 2 A L.length (etFlat L)) (h2:Reads w 2 A2 L.length (etFlat L)) (hl:L.length≤2000) :
    Calls Tryz.prog 80 #[.slice A L.length c,.slice A2 L.length c2] w fun e w'=>e=.returned (.bool true)∧Fr none_ w w':=by
  have H:=hid_ (And.intro h h2)
  clear h h2
  go_enter Tryz.func80,Tryz.ntmps80
  go_wp2_with fail
  go_loopw [5] (fun i wr=>∃ k:Nat,k≤L.length∧i=.int .i64 k∧Fr none_ w wr) (fun i _=>L.length - (intOf i).toNat)
  case atStart=>exact ⟨0,Nat.zero_le _,rfl,Fr.refl _ _⟩
  case round =>
    obtain ⟨k,hk,rfl,hF⟩:=hrel
    have F:=hid_ hF
    have R1:=hid_ (H.out.1.none_fr hF)
    have R2:=hid_ (H.out.2.none_fr hF)
    clear hF
    have hi0:(0:Int)≤(k:Int):=Int.natCast_nonneg _
    by_cases hlt:k < L.length
    · obtain ⟨p,hp⟩:∃ p,L[k]?=some p:=⟨_,List.getElem?_eq_getElem hlt⟩
      obtain ⟨b1,o1,rfl,hb1,d0,d1⟩:=et_at R1.out hp
      obtain ⟨b2,o2,rfl,hb2,e0,e1⟩:=et_at R2.out hp
      have hi1:(k:Int) < (L.length:Int):=by omega
      clear hp
      go_wp2_with fail
      go_quiet (fail)
      have FQ:=hid_ (F.out.drewN nq)
      clear d0 d1 e0 e1
      go_wp2
      go_roundw
      case rel=>exact ⟨k+1,by omega,by go_num,FQ.out⟩
      case measure=>simp [intOf];omega
    · obtain rfl:k=L.length:=by omega
      go_wp2
      go_ret
      exact ⟨rfl,F.out⟩
set_option maxHeartbeats 4000000 in
theorem same8_ok (V:Vw) (A A2:Option Addr) (c c2:Nat) (w:World) (h:Reads w 2 A V.ents.length (etFlat V.ents)) (h2:Reads w 2 A2 V.ents.length (etFlat V.ents)) (hl:V.ents.length≤2000) :
    Calls Tryz.prog 38 #[vwV V (.slice A V.ents.length c),vwV V (.slice A2 V.ents.length c2)] w fun e w'=>e=.returned (.bool true)∧Fr none_ w w':=by
  have F:=((Fr.refl none_ w).alloc (.cells (vwA V (.slice A V.ents.length c)) 46)).alloc (.cells (vwA V (.slice A2 V.ents.length c2)) 46)
  have HF:=hid_ F
  have H:=hid_ (And.intro (h.none_fr F) (h2.none_fr F))
  clear h h2 F
  go_enter Tryz.func38,Tryz.ntmps38
  go_wp2_with fail
  refine (sameEntries_ok V.ents A A2 c c2 _ H.out.1 H.out.2 hl).mono ?_
  rintro e w1 ⟨rfl,hf1⟩
  have F1:=hid_ (HF.out.then_none hf1)
  clear hf1
  go_wp2_with fail
  go_ret
  exact ⟨rfl,F1.out⟩
open Go.RowKit Go.BigFrame
theorem rpFlat_get10:∀ (X:List (Int × Int)) (k:Nat) (p:Int × Int),X[k]?=some p→(rpFlat X)[k * 2]?=some (.int .i64 p.1)∧(rpFlat X)[k * 2+1]?=some (.int .i64 p.2)
  | [],k,p,h=>by simp at h
  | q :: X,0,p,h=>by
    obtain rfl:q=p:=by simpa using h
    exact ⟨rfl,rfl⟩
  | q :: X,k+1,p,h=>by
    have:=rpFlat_get10 X k p (by simpa using h)
    have e:∀ j,(rpFlat (q :: X))[j+2]?=(rpFlat X)[j]?:=fun j=>rfl
    exact ⟨by rw [show (k+1) * 2=k * 2+2 by omega,e];exact this.1,by rw [show (k+1) * 2+1=k * 2+1+2 by omega,e];exact this.2⟩
theorem rp_at10 {w:World} {A:Option Addr} {X:List (Int × Int)} (h:Reads w 2 A X.length (rpFlat X)) {k:Nat} {p:Int × Int} (hp:X[k]?=some p):∃ b off,A=some ⟨b,off,none⟩∧b < w.heap.size∧w.cell? ⟨b,off+k * 2,none⟩=some (.int .i64 p.1)∧w.cell? ⟨b,off+k * 2+1,none⟩=some (.int .i64 p.2):=by
  obtain ⟨b,off,e,hb,hc⟩:=reads_lit h (by decide) (by have:=(List.getElem?_eq_some_iff.1 hp).1;omega)
  have:=rpFlat_get10 X k p hp
  exact ⟨b,off,e,hb,hc _ _ this.1,by have:=hc _ _ this.2;rwa [← Nat.add_assoc] at this⟩
set_option maxHeartbeats 4000000 in
theorem sameRefs10_ok (X:List (Int × Int)) (A B:Option Addr) (c d:Nat) (w:World) (hl:X.length≤5000) (h1:Reads w 2 A X.length (rpFlat X)) (h2:Reads w 2 B X.length (rpFlat X)):Calls Tryz.prog 35 #[.slice A X.length c,.slice B X.length d] w fun e w'=>e=.returned (.bool true)∧Fr none_ w w':=by
  have H1:=hid_ h1
  have H2:=hid_ h2
  clear h1 h2
  go_enter Tryz.func35,Tryz.ntmps35
  go_wp2_with fail
  go_loopw [5] (fun i wr=>∃ k:Nat,k≤X.length∧i=.int .i64 k∧Fr none_ w wr) (fun i _=>X.length - (intOf i).toNat)
  case atStart=>exact ⟨0,Nat.zero_le _,rfl,Fr.refl _ _⟩
  case round =>
    obtain ⟨k,hk,rfl,hfr⟩:=hrel
    have FR:=hid_ hfr
    have hi0:(0:Int)≤(k:Int):=Int.natCast_nonneg _
    clear hfr
    by_cases hlt:k < X.length
    · obtain ⟨p,hp⟩:∃ p,X[k]?=some p:=⟨_,List.getElem?_eq_getElem hlt⟩
      obtain ⟨b1,o1,rfl,hb1,x0,x1⟩:=rp_at10 (H1.out.none_fr FR.out) hp
      obtain ⟨b2,o2,rfl,hb2,y0,y1⟩:=rp_at10 (H2.out.none_fr FR.out) hp
      have hi1:(k:Int) < (X.length:Int):=by omega
      have hq:∀ w',(binOp .neq 23 (.agg #[.int .i64 p.1,.int .i64 p.2]) (.agg #[.int .i64 p.1,.int .i64 p.2])).run Tryz.prog w'=.ok (.bool false) w':=fun w'=>by rw [neq_ref];simp
      clear hp
      go_wp2_with fail
      go_quiet (fail)
      go_wp2_with fail
      go_roundw
      case rel=>exact ⟨k+1,by omega,by go_num,by repeat (first | exact FR.out | apply Fr.drewN | apply Fr.drew)⟩
      case measure=>simp [intOf];omega
    · have hi1:¬ (k:Int) < (X.length:Int):=by omega
      go_wp2_with fail
      go_ret
      exact ⟨rfl,FR.out⟩
set_option maxHeartbeats 2000000 in
theorem sameRows_ok (L:List Rw) (A A2:Option Addr) (c c2:Nat) (w:World) (h:Reads w 2 A L.length (rwFlat L)) (h2:Reads w 2 A2 L.length (rwFlat L)) (hl:L.length≤300000) :
    Calls Tryz.prog 79 #[.slice A L.length c,.slice A2 L.length c2] w fun e w'=>e=.returned (.bool true)∧Fr none_ w w':=by
  have H:=hid_ (And.intro h h2)
  clear h h2
  go_enter Tryz.func79,Tryz.ntmps79
  go_wp2_with fail
  go_loopw [5] (fun i wr=>∃ k:Nat,k≤L.length∧i=.int .i64 k∧Fr none_ w wr) (fun i _=>L.length - (intOf i).toNat)
  case atStart=>exact ⟨0,Nat.zero_le _,rfl,Fr.refl _ _⟩
  case round =>
    obtain ⟨k,hk,rfl,hF⟩:=hrel
    have F:=hid_ hF
    have R1:=hid_ (H.out.1.none_fr hF)
    have R2:=hid_ (H.out.2.none_fr hF)
    clear hF
    have hi0:(0:Int)≤(k:Int):=Int.natCast_nonneg _
    by_cases hlt:k < L.length
    · obtain ⟨p,hp⟩:∃ p,L[k]?=some p:=⟨_,List.getElem?_eq_getElem hlt⟩
      obtain ⟨b1,o1,rfl,hb1,d0,d1⟩:=rw_at R1.out hp
      obtain ⟨b2,o2,rfl,hb2,e0,e1⟩:=rw_at R2.out hp
      have hi1:(k:Int) < (L.length:Int):=by omega
      clear hp
      go_wp2_with fail
      go_quiet (fail)
      have FQ:=hid_ (F.out.drewN nq)
      clear d0 d1 e0 e1
      go_wp2
      go_roundw
      case rel=>exact ⟨k+1,by omega,by go_num,FQ.out⟩
      case measure=>simp [intOf];omega
    · obtain rfl:k=L.length:=by omega
      go_wp2
      go_ret
      exact ⟨rfl,F.out⟩
set_option maxHeartbeats 4000000 in
theorem same7_ok (V:Lw) (A A2:Option Addr) (c c2:Nat) (w:World) (h:Reads w 2 A V.rows.length (rwFlat V.rows)) (h2:Reads w 2 A2 V.rows.length (rwFlat V.rows)) (hl:V.rows.length≤300000) :
    Calls Tryz.prog 37 #[.agg (lwA V (.slice A V.rows.length c)),.agg (lwA V (.slice A2 V.rows.length c2))] w fun e w'=>e=.returned (.bool true)∧Fr none_ w w':=by
  have F:=((Fr.refl none_ w).alloc (.cells (lwA V (.slice A V.rows.length c)) 45)).alloc (.cells (lwA V (.slice A2 V.rows.length c2)) 45)
  have HF:=hid_ F
  have H:=hid_ (And.intro (h.none_fr F) (h2.none_fr F))
  clear h h2 F
  go_enter Tryz.func37,Tryz.ntmps37
  go_wp2_with fail
  refine (sameRows_ok V.rows A A2 c c2 _ H.out.1 H.out.2 hl).mono ?_
  rintro e w1 ⟨rfl,hf1⟩
  have F1:=hid_ (HF.out.then_none hf1)
  clear hf1
  go_wp2_with fail
  go_ret
  exact ⟨rfl,F1.out⟩
end Go.Proofs.YtfihfjbakfadkaaGreatDoor
