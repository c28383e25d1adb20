/- Texts of one proof, merged: Made12. -/
import Derived.Test.YthcpccddcgbanaaGreatDoorPiO
namespace Go.Proofs.YthcpccddcgbanaaGreatDoor
open Go.RowKit
set_option maxRecDepth 100000
set_option linter.unusedVariables false

def MadePost_made0 (B i:Nat) (D:Dt) (a:Ia) (hd:Rc) (w:World) (e:Ending) (w':World):Prop:=
  ∃ vr ve,e=.returned (.tuple #[])∧Inst w' B i { D with head:=hd,stage:=3,at_:=0 } { a with hvr:=vr,hve:=ve }∧Fr (only i) w w'
set_option maxHeartbeats 8000000 in
theorem made0 {w:World} {B i:Nat} {D:Dt} {a:Ia} (h:Inst w B i D a) (bc:Nat) (hmv:a.mv=.func (.func 22) #[] #[.pointer (some ⟨bc,0,none⟩)]) (hnews:D.news=0) (hpg:D.pages=[]) (hd:Rc) (hz:RowsOk hd)
  (hcall:∀ (w1:World) (u:Value),Fr none_ w w1→Calls Tryz.prog 22 #[u,.pointer (some ⟨bc,0,none⟩)] w1 fun e w2=>∃ Ar cr Ae ce,e=.returned (.tuple #[.slice none 0 0,recV hd (.slice Ar hd.rows.length cr) (.slice Ae hd.ents.length ce)])∧RecOwn w2 0 hd (.slice Ar hd.rows.length cr) (.slice Ae hd.ents.length ce)∧Fr none_ w1 w2) :
  Calls Tryz.prog 37 #[.pointer (some ⟨i,0,none⟩)] w (MadePost_made0 B i D a hd w):=by
 obtain ⟨Ap,cp,A2,c2,A3,c3,e1,e2,e3⟩:=h.shapes
 replace e1:a.pv=.slice Ap 0 cp:=by simpa [hpg] using e1
 obtain ⟨j0,hj0,hy0,ht0,hc0⟩:=info_parts (show (Tryz.prog.info? 3).map (fun i=>(i.zero,i.size,i.bytes))=some (some (.int .i64 0),1,8) by kernel_rfl)
 have Hj:=hid_ (And.intro hj0 (And.intro hy0 (And.intro ht0 hc0)))
 have HC:=hid_ hcall
 have E1:=hid_ (And.intro e1 (And.intro hmv hnews))
 have HZ:=hid_ hz
 clear hj0 hy0 ht0 hc0 e2 e3 hcall hpg hz e1 hmv hnews
 have I0:=hid_ h
 clear h
 go_enter Tryz.func37,Tryz.ntmps37
 go_upto_region 0 with fail
 go_cut [2,3] (fun u v wq=>∃ (b:Nat) (Ar:Option Addr) (cr:Nat) (Ae:Option Addr) (ce:Nat),u=.slice none 0 0∧v=.pointer (some ⟨b,0,none⟩)∧w.heap.size≤b∧Blk wq b 55 (recA hd (.slice Ar hd.rows.length cr) (.slice Ae hd.ents.length ce))∧RecOwn wq 0 hd (.slice Ar hd.rows.length cr) (.slice Ae hd.ents.length ce)∧Fr none_ w wq)
 case first =>
  have hS:(fun w':World=>Blk w' i 112 (inA D a)) w.drew:=I0.out.b.drew
  refine wp_region_U (m:=18) (S:=(fun w':World=>Blk w' i 112 (inA D a))) (by kernel_rfl) ?_
  refine wpAnyU_take2 (i:=0) (v:=_) rfl (by kernel_rfl) (by kernel_rfl) (by kernel_rfl) (by kernel_rfl) (fun _ _ _ h=>h) (.inl ⟨by kernel_rfl,fun w' hS=>by go_simp;rfl⟩) hS ?_
  refine wpAnyU_take2 (i:=1) (v:=_) rfl (by kernel_rfl) (by kernel_rfl) (by kernel_rfl) (by kernel_rfl) (fun _ _ _ h=>h) (.inl ⟨by kernel_rfl,fun w' hS=>by go_simp;rfl⟩) hS ?_
  refine wpAnyU_take2 (i:=2) (v:=_) rfl (by kernel_rfl) (by kernel_rfl) (by kernel_rfl) (by kernel_rfl) (fun _ _ _ h=>h) (.inl ⟨by kernel_rfl,fun w' hS=>by go_simp;rfl⟩) hS ?_
  refine wpAnyU_take2 (i:=3) (v:=_) rfl (by kernel_rfl) (by kernel_rfl) (by kernel_rfl) (by kernel_rfl) (fun _ _ _ h=>h) (.inl ⟨by kernel_rfl,fun w' hS=>by go_simp;rfl⟩) hS ?_
  refine wpAnyU_take2 (i:=4) (v:=_) rfl (by kernel_rfl) (by kernel_rfl) (by kernel_rfl) (by kernel_rfl) (fun _ _ _ h=>h) (.inl ⟨by kernel_rfl,fun w' hS=>by have s_:w'.cell? ⟨i,4,none⟩=some (.func (.func 22) #[] #[.pointer (some ⟨bc,0,none⟩)]):=(by rw [← E1.out.2.1];exact hS.cell' rfl);go_simp;rfl⟩) hS ?_
  refine wpAnyU_take2 (i:=6) (v:=_) rfl (by kernel_rfl) (by kernel_rfl) (by kernel_rfl) (by kernel_rfl) (fun _ _ _ h=>h) (.inl ⟨by kernel_rfl,fun w' hS=>by go_simp;rfl⟩) hS ?_
  refine wpAnyU_take2 (i:=7) (v:=_) rfl (by kernel_rfl) (by kernel_rfl) (by kernel_rfl) (by kernel_rfl) (fun _ _ _ h=>h) (.inl ⟨by kernel_rfl,fun w' hS=>by go_simp;rfl⟩) hS ?_
  refine wpAnyU_take2 (i:=8) (v:=_) rfl (by kernel_rfl) (by kernel_rfl) (by kernel_rfl) (by kernel_rfl) (fun _ _ _ h=>h) (.inl ⟨by kernel_rfl,fun w' hS=>by go_simp;rfl⟩) hS ?_
  refine wpAnyU_take2 (i:=9) (v:=_) rfl (by kernel_rfl) (by kernel_rfl) (by kernel_rfl) (by kernel_rfl) (fun _ _ _ h=>h) (.inl ⟨by kernel_rfl,fun w' hS=>by have s_:w'.cell? ⟨i,6,none⟩=some (.slice Ap 0 cp):=(by rw [← E1.out.1];exact hS.cell' rfl);go_simp;rfl⟩) hS ?_
  have FQ:Fr none_ w w.drew:=(Fr.refl none_ w).drew
  refine wpAnyU_two (i:=5) (j:=15) rfl rfl rfl rfl (by kernel_rfl) ?_ ?_
  ·skip
   go_simp
   obtain ⟨u1,hz⟩:∃ z,z=w.drew.alloc (.cells #[] 3):=⟨_,rfl⟩
   have fz:Fr none_ w.drew u1:=by rw [hz];exact (Fr.refl none_ w.drew).alloc _
   have OW:Hid (u1.ownsRow w.heap.size 3 1 (.slice (some ⟨w.drew.heap.size,0,none⟩) 0 0) 0 []):=hid_ (by rw [hz];exact own_empty w.drew 3 1 w.heap.size FQ.size)
   refine ⟨by have:=hS.fr fz id;rw [hz] at this;exact this,?_⟩
   change wpAnyU _ _ _ _ _ _ _ _ _ (w.drew.alloc (.cells #[] 3))
   rw [← hz]
   replace hS:=hS.fr fz id
   replace FQ:=FQ.then_none fz
   clear hz fz
   refine wpAnyU_two (i:=10) (j:=15) rfl rfl rfl rfl (by kernel_rfl) ?_ ?_
   ·skip
    refine wp_append_any _ (.tmp 12) (.tmp 16) 39 rfl w.heap.size 3 j0 _ 1 8 Tryz.underlying39 Hj.out.1 Hj.out.2.1 Hj.out.2.2.1 Hj.out.2.2.2 rfl (by omega) (.slice (some ⟨w.drew.heap.size,0,none⟩) 0 0) 0 [] rfl OW.out Ap 0 cp [] rfl Reads.nil_ (by simp) (by simp only [maxLen];omega) (by omega) FQ.size ?_
    intro A9 c9 u2 hown hgr
    have FQ9:=FQ.grown hgr (fun k hk=>.inr (own_blk OW.out hk).1)
    have hS9:Blk u2 i 112 (inA D a):=hS.grown hgr (Ne.symm (own_blk_ne OW.out hS (by decide)))
    refine ⟨.inr hS9,?_⟩
    replace hS:=hS9
    replace FQ:=FQ9
    clear hown hgr OW hS9 FQ9
    refine wpAnyU_two (i:=11) (j:=15) rfl rfl rfl rfl (by kernel_rfl) ?_ ?_
    ·skip
     go_simp
     refine (HC.out u2 _ FQ).mono ?_
     rintro e u3 ⟨Ar,cr,Ae,ce,rfl,hro,hfc⟩
     have RO:=hid_ hro
     have FQ9:=FQ.then_none hfc
     have hS9:Blk u3 i 112 (inA D a):=hS.fr hfc id
     refine ⟨hS9,?_⟩
     replace hS:=hS9
     replace FQ:=FQ9
     clear hro hfc hS9 FQ9
     refine wpAnyU_take2 (i:=12) (v:=_) rfl (by kernel_rfl) (by kernel_rfl) (by kernel_rfl) (by kernel_rfl) (fun _ _ _ h=>h) (.inl ⟨by kernel_rfl,fun w' hS=>by go_simp;rfl⟩) hS ?_
     refine wpAnyU_take2 (i:=13) (v:=_) rfl (by kernel_rfl) (by kernel_rfl) (by kernel_rfl) (by kernel_rfl) (fun _ _ _ h=>h) (.inl ⟨by kernel_rfl,fun w' hS=>by go_simp;rfl⟩) hS ?_
     refine wpAnyU_take2 (i:=14) (v:=_) rfl (by kernel_rfl) (by kernel_rfl) (by kernel_rfl) (by kernel_rfl) (fun _ _ _ h=>h) (.inl ⟨by kernel_rfl,fun w' hS=>by go_simp;rfl⟩) hS ?_
     refine wpAnyU_oneW (i:=15) rfl (by kernel_rfl) (by kernel_rfl) ?_
     go_simp
     obtain ⟨u4,hz⟩:∃ z,z=u3.alloc (.cells recZ 55):=⟨_,rfl⟩
     have fz:Fr none_ u3 u4:=by rw [hz];exact (Fr.refl none_ u3).alloc _
     have BA:Hid (Blk u4 u3.heap.size 55 recZ):=hid_ (by rw [hz];exact Blk.new u3 _ _)
     have hba:=FQ.size
     refine ⟨by have:=hS.fr fz id;rw [hz] at this;exact this,?_⟩
     change wpAnyU _ _ _ _ _ _ _ _ _ (u3.alloc (.cells recZ 55))
     rw [← hz]
     replace hS:=hS.fr fz id
     replace FQ:=FQ.then_none fz
     replace RO:=hid_ (RO.out.keep fz)
     clear hz fz
     refine wpAnyU_take2 (i:=16) (v:=_) rfl (by kernel_rfl) (by kernel_rfl) (by kernel_rfl) (by kernel_rfl) (fun _ _ _ h=>h) (.inl ⟨by kernel_rfl,fun w' hS=>by go_simp;rfl⟩) hS ?_
     refine wpAnyU_oneW (i:=17) rfl (by kernel_rfl) (by kernel_rfl) ?_
     refine wp_store_mid 55 (.tmp 3) (.tmp 20) rfl (u3.heap.size) 0 (recA hd (.slice Ar hd.rows.length cr) (.slice Ae hd.ents.length ce)) rfl rfl (BA.out.there9 rfl) rec_size (by simp [Value.oneCell']) ?_
     obtain ⟨w5,hw5⟩:∃ z,z=u4.setCells (u3.heap.size) 0 (recA hd (.slice Ar hd.rows.length cr) (.slice Ae hd.ents.length ce)).toList:=⟨_,rfl⟩
     have ov:=BA.out.over9 (recA hd (.slice Ar hd.rows.length cr) (.slice Ae hd.ents.length ce)).toList rfl
     rw [← hw5] at ov
     have Q5:=hid_ (show Blk w5 (u3.heap.size) 55 (recA hd (.slice Ar hd.rows.length cr) (.slice Ae hd.ents.length ce)) from ov.1)
     have O5:=hid_ (RO.out.only ov.2 BA.out (by decide) (by decide))
     have F5:=FQ.then_only ov.2 (.inr hba)
     refine ⟨.inr (by rw [← hw5];exact hS.fr ov.2 (only_ne (Blk.ne_ hS BA.out (by decide)))),?_⟩
     change wpAnyU _ _ _ _ _ _ _ _ _ (u4.setCells (u3.heap.size) 0 (recA hd (.slice Ar hd.rows.length cr) (.slice Ae hd.ents.length ce)).toList)
     rw [← hw5]
     clear hw5 ov
     refine wpAnyU_done (by kernel_rfl) ?_ _
     go_wp2_with fail
     go_meet
     exact ⟨_,Ar,cr,Ae,ce,rfl,rfl,hba,Q5.out,O5.out,F5⟩
    ·skip
     go_simp
     obtain ⟨u5,hz⟩:∃ z,z=u2.alloc (.cells recZ 55):=⟨_,rfl⟩
     have fz:Fr none_ u2 u5:=by rw [hz];exact (Fr.refl none_ u2).alloc _
     have BA:Hid (Blk u5 u2.heap.size 55 recZ):=hid_ (by rw [hz];exact Blk.new u2 _ _)
     have hba:=FQ.size
     refine ⟨by have:=hS.fr fz id;rw [hz] at this;exact this,?_⟩
     change wpAnyU _ _ _ _ _ _ _ _ _ (u2.alloc (.cells recZ 55))
     rw [← hz]
     replace hS:=hS.fr fz id
     replace FQ:=FQ.then_none fz
     clear hz fz
     refine wpAnyU_oneW (i:=11) rfl (by kernel_rfl) (by kernel_rfl) ?_
     go_simp
     refine (HC.out u5 _ FQ).mono ?_
     rintro e u6 ⟨Ar,cr,Ae,ce,rfl,hro,hfc⟩
     have RO:=hid_ hro
     have FQ9:=FQ.then_none hfc
     have hS9:Blk u6 i 112 (inA D a):=hS.fr hfc id
     replace BA:=hid_ (BA.out.fr hfc id)
     refine ⟨hS9,?_⟩
     replace hS:=hS9
     replace FQ:=FQ9
     clear hro hfc hS9 FQ9
     refine wpAnyU_take2 (i:=12) (v:=_) rfl (by kernel_rfl) (by kernel_rfl) (by kernel_rfl) (by kernel_rfl) (fun _ _ _ h=>h) (.inl ⟨by kernel_rfl,fun w' hS=>by go_simp;rfl⟩) hS ?_
     refine wpAnyU_take2 (i:=13) (v:=_) rfl (by kernel_rfl) (by kernel_rfl) (by kernel_rfl) (by kernel_rfl) (fun _ _ _ h=>h) (.inl ⟨by kernel_rfl,fun w' hS=>by go_simp;rfl⟩) hS ?_
     refine wpAnyU_take2 (i:=14) (v:=_) rfl (by kernel_rfl) (by kernel_rfl) (by kernel_rfl) (by kernel_rfl) (fun _ _ _ h=>h) (.inl ⟨by kernel_rfl,fun w' hS=>by go_simp;rfl⟩) hS ?_
     refine wpAnyU_take2 (i:=16) (v:=_) rfl (by kernel_rfl) (by kernel_rfl) (by kernel_rfl) (by kernel_rfl) (fun _ _ _ h=>h) (.inl ⟨by kernel_rfl,fun w' hS=>by go_simp;rfl⟩) hS ?_
     refine wpAnyU_oneW (i:=17) rfl (by kernel_rfl) (by kernel_rfl) ?_
     refine wp_store_mid 55 (.tmp 3) (.tmp 20) rfl (u2.heap.size) 0 (recA hd (.slice Ar hd.rows.length cr) (.slice Ae hd.ents.length ce)) rfl rfl (BA.out.there9 rfl) rec_size (by simp [Value.oneCell']) ?_
     obtain ⟨w5,hw5⟩:∃ z,z=u6.setCells (u2.heap.size) 0 (recA hd (.slice Ar hd.rows.length cr) (.slice Ae hd.ents.length ce)).toList:=⟨_,rfl⟩
     have ov:=BA.out.over9 (recA hd (.slice Ar hd.rows.length cr) (.slice Ae hd.ents.length ce)).toList rfl
     rw [← hw5] at ov
     have Q5:=hid_ (show Blk w5 (u2.heap.size) 55 (recA hd (.slice Ar hd.rows.length cr) (.slice Ae hd.ents.length ce)) from ov.1)
     have O5:=hid_ (RO.out.only ov.2 BA.out (by decide) (by decide))
     have F5:=FQ.then_only ov.2 (.inr hba)
     refine ⟨.inr (by rw [← hw5];exact hS.fr ov.2 (only_ne (Blk.ne_ hS BA.out (by decide)))),?_⟩
     change wpAnyU _ _ _ _ _ _ _ _ _ (u6.setCells (u2.heap.size) 0 (recA hd (.slice Ar hd.rows.length cr) (.slice Ae hd.ents.length ce)).toList)
     rw [← hw5]
     clear hw5 ov
     refine wpAnyU_done (by kernel_rfl) ?_ _
     go_wp2_with fail
     go_meet
     exact ⟨_,Ar,cr,Ae,ce,rfl,rfl,hba,Q5.out,O5.out,F5⟩
   ·skip
    go_simp
    obtain ⟨u7,hz⟩:∃ z,z=u1.alloc (.cells recZ 55):=⟨_,rfl⟩
    have fz:Fr none_ u1 u7:=by rw [hz];exact (Fr.refl none_ u1).alloc _
    have BA:Hid (Blk u7 u1.heap.size 55 recZ):=hid_ (by rw [hz];exact Blk.new u1 _ _)
    have hba:=FQ.size
    refine ⟨by have:=hS.fr fz id;rw [hz] at this;exact this,?_⟩
    change wpAnyU _ _ _ _ _ _ _ _ _ (u1.alloc (.cells recZ 55))
    rw [← hz]
    replace hS:=hS.fr fz id
    replace FQ:=FQ.then_none fz
    replace OW:=hid_ (own_none OW.out fz)
    clear hz fz
    refine wpAnyU_oneW (i:=10) rfl (by kernel_rfl) (by kernel_rfl) ?_
    refine wp_append_any _ (.tmp 12) (.tmp 16) 39 rfl w.heap.size 3 j0 _ 1 8 Tryz.underlying39 Hj.out.1 Hj.out.2.1 Hj.out.2.2.1 Hj.out.2.2.2 rfl (by omega) (.slice (some ⟨w.drew.heap.size,0,none⟩) 0 0) 0 [] rfl OW.out Ap 0 cp [] rfl Reads.nil_ (by simp) (by simp only [maxLen];omega) (by omega) FQ.size ?_
    intro A9 c9 u8 hown hgr
    have FQ9:=FQ.grown hgr (fun k hk=>.inr (own_blk OW.out hk).1)
    have hS9:Blk u8 i 112 (inA D a):=hS.grown hgr (Ne.symm (own_blk_ne OW.out hS (by decide)))
    replace BA:=hid_ (BA.out.grown hgr (Ne.symm (own_blk_ne OW.out BA.out (by decide))))
    refine ⟨.inr hS9,?_⟩
    replace hS:=hS9
    replace FQ:=FQ9
    clear hown hgr OW hS9 FQ9
    refine wpAnyU_oneW (i:=11) rfl (by kernel_rfl) (by kernel_rfl) ?_
    go_simp
    refine (HC.out u8 _ FQ).mono ?_
    rintro e u9 ⟨Ar,cr,Ae,ce,rfl,hro,hfc⟩
    have RO:=hid_ hro
    have FQ9:=FQ.then_none hfc
    have hS9:Blk u9 i 112 (inA D a):=hS.fr hfc id
    replace BA:=hid_ (BA.out.fr hfc id)
    refine ⟨hS9,?_⟩
    replace hS:=hS9
    replace FQ:=FQ9
    clear hro hfc hS9 FQ9
    refine wpAnyU_take2 (i:=12) (v:=_) rfl (by kernel_rfl) (by kernel_rfl) (by kernel_rfl) (by kernel_rfl) (fun _ _ _ h=>h) (.inl ⟨by kernel_rfl,fun w' hS=>by go_simp;rfl⟩) hS ?_
    refine wpAnyU_take2 (i:=13) (v:=_) rfl (by kernel_rfl) (by kernel_rfl) (by kernel_rfl) (by kernel_rfl) (fun _ _ _ h=>h) (.inl ⟨by kernel_rfl,fun w' hS=>by go_simp;rfl⟩) hS ?_
    refine wpAnyU_take2 (i:=14) (v:=_) rfl (by kernel_rfl) (by kernel_rfl) (by kernel_rfl) (by kernel_rfl) (fun _ _ _ h=>h) (.inl ⟨by kernel_rfl,fun w' hS=>by go_simp;rfl⟩) hS ?_
    refine wpAnyU_take2 (i:=16) (v:=_) rfl (by kernel_rfl) (by kernel_rfl) (by kernel_rfl) (by kernel_rfl) (fun _ _ _ h=>h) (.inl ⟨by kernel_rfl,fun w' hS=>by go_simp;rfl⟩) hS ?_
    refine wpAnyU_oneW (i:=17) rfl (by kernel_rfl) (by kernel_rfl) ?_
    refine wp_store_mid 55 (.tmp 3) (.tmp 20) rfl (u1.heap.size) 0 (recA hd (.slice Ar hd.rows.length cr) (.slice Ae hd.ents.length ce)) rfl rfl (BA.out.there9 rfl) rec_size (by simp [Value.oneCell']) ?_
    obtain ⟨w5,hw5⟩:∃ z,z=u9.setCells (u1.heap.size) 0 (recA hd (.slice Ar hd.rows.length cr) (.slice Ae hd.ents.length ce)).toList:=⟨_,rfl⟩
    have ov:=BA.out.over9 (recA hd (.slice Ar hd.rows.length cr) (.slice Ae hd.ents.length ce)).toList rfl
    rw [← hw5] at ov
    have Q5:=hid_ (show Blk w5 (u1.heap.size) 55 (recA hd (.slice Ar hd.rows.length cr) (.slice Ae hd.ents.length ce)) from ov.1)
    have O5:=hid_ (RO.out.only ov.2 BA.out (by decide) (by decide))
    have F5:=FQ.then_only ov.2 (.inr hba)
    refine ⟨.inr (by rw [← hw5];exact hS.fr ov.2 (only_ne (Blk.ne_ hS BA.out (by decide)))),?_⟩
    change wpAnyU _ _ _ _ _ _ _ _ _ (u9.setCells (u1.heap.size) 0 (recA hd (.slice Ar hd.rows.length cr) (.slice Ae hd.ents.length ce)).toList)
    rw [← hw5]
    clear hw5 ov
    refine wpAnyU_done (by kernel_rfl) ?_ _
    go_wp2_with fail
    go_meet
    exact ⟨_,Ar,cr,Ae,ce,rfl,rfl,hba,Q5.out,O5.out,F5⟩
  ·skip
   go_simp
   obtain ⟨u10,hz⟩:∃ z,z=w.drew.alloc (.cells recZ 55):=⟨_,rfl⟩
   have fz:Fr none_ w.drew u10:=by rw [hz];exact (Fr.refl none_ w.drew).alloc _
   have BA:Hid (Blk u10 w.drew.heap.size 55 recZ):=hid_ (by rw [hz];exact Blk.new w.drew _ _)
   have hba:=FQ.size
   refine ⟨by have:=hS.fr fz id;rw [hz] at this;exact this,?_⟩
   change wpAnyU _ _ _ _ _ _ _ _ _ (w.drew.alloc (.cells recZ 55))
   rw [← hz]
   replace hS:=hS.fr fz id
   replace FQ:=FQ.then_none fz
   clear hz fz
   refine wpAnyU_oneW (i:=5) rfl (by kernel_rfl) (by kernel_rfl) ?_
   go_simp
   obtain ⟨u11,hz⟩:∃ z,z=u10.alloc (.cells #[] 3):=⟨_,rfl⟩
   have fz:Fr none_ u10 u11:=by rw [hz];exact (Fr.refl none_ u10).alloc _
   have OW:Hid (u11.ownsRow w.heap.size 3 1 (.slice (some ⟨u10.heap.size,0,none⟩) 0 0) 0 []):=hid_ (by rw [hz];exact own_empty u10 3 1 w.heap.size FQ.size)
   refine ⟨by have:=hS.fr fz id;rw [hz] at this;exact this,?_⟩
   change wpAnyU _ _ _ _ _ _ _ _ _ (u10.alloc (.cells #[] 3))
   rw [← hz]
   replace hS:=hS.fr fz id
   replace FQ:=FQ.then_none fz
   replace BA:=hid_ (BA.out.fr fz id)
   clear hz fz
   refine wpAnyU_oneW (i:=10) rfl (by kernel_rfl) (by kernel_rfl) ?_
   refine wp_append_any _ (.tmp 12) (.tmp 16) 39 rfl w.heap.size 3 j0 _ 1 8 Tryz.underlying39 Hj.out.1 Hj.out.2.1 Hj.out.2.2.1 Hj.out.2.2.2 rfl (by omega) (.slice (some ⟨u10.heap.size,0,none⟩) 0 0) 0 [] rfl OW.out Ap 0 cp [] rfl Reads.nil_ (by simp) (by simp only [maxLen];omega) (by omega) FQ.size ?_
   intro A9 c9 u12 hown hgr
   have FQ9:=FQ.grown hgr (fun k hk=>.inr (own_blk OW.out hk).1)
   have hS9:Blk u12 i 112 (inA D a):=hS.grown hgr (Ne.symm (own_blk_ne OW.out hS (by decide)))
   replace BA:=hid_ (BA.out.grown hgr (Ne.symm (own_blk_ne OW.out BA.out (by decide))))
   refine ⟨.inr hS9,?_⟩
   replace hS:=hS9
   replace FQ:=FQ9
   clear hown hgr OW hS9 FQ9
   refine wpAnyU_oneW (i:=11) rfl (by kernel_rfl) (by kernel_rfl) ?_
   go_simp
   refine (HC.out u12 _ FQ).mono ?_
   rintro e u13 ⟨Ar,cr,Ae,ce,rfl,hro,hfc⟩
   have RO:=hid_ hro
   have FQ9:=FQ.then_none hfc
   have hS9:Blk u13 i 112 (inA D a):=hS.fr hfc id
   replace BA:=hid_ (BA.out.fr hfc id)
   refine ⟨hS9,?_⟩
   replace hS:=hS9
   replace FQ:=FQ9
   clear hro hfc hS9 FQ9
   refine wpAnyU_take2 (i:=12) (v:=_) rfl (by kernel_rfl) (by kernel_rfl) (by kernel_rfl) (by kernel_rfl) (fun _ _ _ h=>h) (.inl ⟨by kernel_rfl,fun w' hS=>by go_simp;rfl⟩) hS ?_
   refine wpAnyU_take2 (i:=13) (v:=_) rfl (by kernel_rfl) (by kernel_rfl) (by kernel_rfl) (by kernel_rfl) (fun _ _ _ h=>h) (.inl ⟨by kernel_rfl,fun w' hS=>by go_simp;rfl⟩) hS ?_
   refine wpAnyU_take2 (i:=14) (v:=_) rfl (by kernel_rfl) (by kernel_rfl) (by kernel_rfl) (by kernel_rfl) (fun _ _ _ h=>h) (.inl ⟨by kernel_rfl,fun w' hS=>by go_simp;rfl⟩) hS ?_
   refine wpAnyU_take2 (i:=16) (v:=_) rfl (by kernel_rfl) (by kernel_rfl) (by kernel_rfl) (by kernel_rfl) (fun _ _ _ h=>h) (.inl ⟨by kernel_rfl,fun w' hS=>by go_simp;rfl⟩) hS ?_
   refine wpAnyU_oneW (i:=17) rfl (by kernel_rfl) (by kernel_rfl) ?_
   refine wp_store_mid 55 (.tmp 3) (.tmp 20) rfl (w.drew.heap.size) 0 (recA hd (.slice Ar hd.rows.length cr) (.slice Ae hd.ents.length ce)) rfl rfl (BA.out.there9 rfl) rec_size (by simp [Value.oneCell']) ?_
   obtain ⟨w5,hw5⟩:∃ z,z=u13.setCells (w.drew.heap.size) 0 (recA hd (.slice Ar hd.rows.length cr) (.slice Ae hd.ents.length ce)).toList:=⟨_,rfl⟩
   have ov:=BA.out.over9 (recA hd (.slice Ar hd.rows.length cr) (.slice Ae hd.ents.length ce)).toList rfl
   rw [← hw5] at ov
   have Q5:=hid_ (show Blk w5 (w.drew.heap.size) 55 (recA hd (.slice Ar hd.rows.length cr) (.slice Ae hd.ents.length ce)) from ov.1)
   have O5:=hid_ (RO.out.only ov.2 BA.out (by decide) (by decide))
   have F5:=FQ.then_only ov.2 (.inr hba)
   refine ⟨.inr (by rw [← hw5];exact hS.fr ov.2 (only_ne (Blk.ne_ hS BA.out (by decide)))),?_⟩
   change wpAnyU _ _ _ _ _ _ _ _ _ (u13.setCells (w.drew.heap.size) 0 (recA hd (.slice Ar hd.rows.length cr) (.slice Ae hd.ents.length ce)).toList)
   rw [← hw5]
   clear hw5 ov
   refine wpAnyU_done (by kernel_rfl) ?_ _
   go_wp2_with fail
   go_meet
   exact ⟨_,Ar,cr,Ae,ce,rfl,rfl,hba,Q5.out,O5.out,F5⟩
 case rest =>
  obtain ⟨b,Ar,cr,Ae,ce,rfl,rfl,hb,hbb,hro,hf⟩:=hcut
  have BH:=hid_ hbb
  have RO:=hid_ hro
  have F:=hid_ hf
  have I1:=hid_ (I0.out.keep hf)
  clear hbb hro hf I0
  have i3:wc.cell? ⟨i,3,none⟩=some (.int .i64 0):=by rw [← E1.out.2.2];exact I1.out.b.cell' rfl
  go_wp2_with fail
  go_loopw [26] (fun u wr=>u=.int .i64 0∧wc=wr) (fun _ _=>0)
  case atStart=>exact ⟨rfl,rfl⟩
  case round =>
   obtain ⟨rfl,rfl⟩:=hrel
   have r0:wc.cell? ⟨b,0,none⟩=some (.int .i64 hd.kind):=BH.out.cell' rfl
   have r1:wc.cell? ⟨b,1,none⟩=some (.string hd.low):=BH.out.cell' rfl
   have r2:wc.cell? ⟨b,2,none⟩=some (.string hd.high):=BH.out.cell' rfl
   have r3:wc.cell? ⟨b,3,none⟩=some (.bool hd.unb):=BH.out.cell' rfl
   have r4:wc.cell? ⟨b,4,none⟩=some (.int .i64 hd.right):=BH.out.cell' rfl
   have r5:wc.cell? ⟨b,5,none⟩=some (.slice Ar hd.rows.length cr):=BH.out.cell' rfl
   have r6:wc.cell? ⟨b,6,none⟩=some (.slice Ae hd.ents.length ce):=BH.out.cell' rfl
   have r7:wc.cell? ⟨b,7,none⟩=some (.string hd.key):=BH.out.cell' rfl
   have r8:wc.cell? ⟨b,8,none⟩=some (.string hd.val):=BH.out.cell' rfl
   have r9:wc.cell? ⟨b,9,none⟩=some (.int .i64 hd.page):=BH.out.cell' rfl
   have r10:wc.cell? ⟨b,10,none⟩=some (.int .i64 hd.hpage):=BH.out.cell' rfl
   have r11:wc.cell? ⟨b,11,none⟩=some (.int .i64 hd.hleft):=BH.out.cell' rfl
   have r12:wc.cell? ⟨b,12,none⟩=some (.string hd.hkey):=BH.out.cell' rfl
   have r13:wc.cell? ⟨b,13,none⟩=some (.int .i64 hd.nslot):=BH.out.cell' rfl
   have r14:wc.cell? ⟨b,14,none⟩=some (.int .i64 hd.ngen):=BH.out.cell' rfl
   have HT:wc.there i 8 15:=I1.out.b.there_at (by show 8+15≤27;decide)
   go_wp2_with (refine wpList_store_mid rfl 55 (.tmp 53) (.tmp 51) rfl i 8 (recA hd (.slice Ar hd.rows.length cr) (.slice Ae hd.ents.length ce)) rfl rfl HT rec_size (by simp [Value.oneCell']) ?_;obtain ⟨w5,hw5⟩:∃ z,z=wc.setCells i 8 (recA hd (.slice Ar hd.rows.length cr) (.slice Ae hd.ents.length ce)).toList:=⟨_,rfl⟩;have B5:Hid (Blk w5 i 112 (inA { D with head:=hd } { a with hvr:=.slice Ar hd.rows.length cr,hve:=.slice Ae hd.ents.length ce })):=hid_ (by rw [hw5];have hq:=I1.out.b.setCells (recA hd (.slice Ar hd.rows.length cr) (.slice Ae hd.ents.length ce)).toList 8;rwa [setA_head] at hq);have F5:Hid (Fr (only i) wc w5):=hid_ (by rw [hw5];exact Fr.setCells (recA hd (.slice Ar hd.rows.length cr) (.slice Ae hd.ents.length ce)).toList 8 wc (Fr.refl _ _) (.inl (Eq.refl i)));change wpList _ _ _ _ _ (wc.setCells i 8 (recA hd (.slice Ar hd.rows.length cr) (.slice Ae hd.ents.length ce)).toList);rw [← hw5];clear hw5 HT i3 r0 r1 r2 r3 r4 r5 r6 r7 r8 r9 r10 r11 r12 r13 r14;have i3:w5.cell? ⟨i,3,none⟩=some (.int .i64 0):=(by rw [← E1.out.2.2];exact B5.out.cell' rfl);have i5:∃ u,w5.cell? ⟨i,5,none⟩=some u:=⟨_,B5.out.cell' rfl⟩;obtain ⟨u5,i5⟩:=i5;have i24:∃ u,w5.cell? ⟨i,24,none⟩=some u:=⟨_,B5.out.cell' rfl⟩;obtain ⟨u24,i24⟩:=i24;have y5:=B5.out.frozen 5;have y24:=B5.out.frozen 24)
   have B9:=((B5.out.set_ 5 (.int .i64 1)).set_ 24 (.int .i64 0)).set_ 5 (.int .i64 3)
   have F9:=((F5.out.trans (Fr.only1 w5 ⟨i,5,none⟩ (.int .i64 1)) (fun _ _=>id) (fun _ _=>id)).trans (Fr.only1 _ ⟨i,24,none⟩ (.int .i64 0)) (fun _ _=>id) (fun _ _=>id)).trans (Fr.only1 _ ⟨i,5,none⟩ (.int .i64 3)) (S'':=only i) (fun _ _=>id) (fun _ _=>id)
   exact bodyPost_end (v:=.tuple #[]) (by simp [results,Tryz.results37,go_sem]) rfl ⟨_,_,rfl,I1.out.rehead F9 B9 RO.out HZ.out,(F.out.mono (fun _ _ e=>e.elim)).trans F9 (fun _ _=>id) (fun _ _=>id)⟩
end Go.Proofs.YthcpccddcgbanaaGreatDoor
