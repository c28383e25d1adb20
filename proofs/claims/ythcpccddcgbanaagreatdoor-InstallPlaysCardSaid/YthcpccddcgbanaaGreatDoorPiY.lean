/- Texts of one proof, merged: MadeJ12. -/
import Derived.Test.YthcpccddcgbanaaGreatDoorPiR
namespace Go.Proofs.YthcpccddcgbanaaGreatDoor
open Go.RowKit
set_option maxRecDepth 100000
set_option linter.unusedVariables false

theorem Inst.offcab {w w':World} {B i:Nat} {D:Dt} {a:Ia} {g:Nat} {cs:Array Value} (h:Inst w B i D a) (hf:Fr (only g) w w') (hg:Blk w g 3 cs) (ho:¬ foot i a g):Inst w' B i D a:=by
  refine h.fr hf (fun k hk e=>ho (by rw [← show k=g from e];exact hk)) (fun k t cs' hb ht e=>?_)
  have e':k=g:=e
  subst e'
  obtain ⟨rfl,_⟩:=hb.uniq hg
  rcases ht with h | h | h <;> revert h <;> decide
theorem RecOwn.none_of {w w':World} {S:Nat→Prop} {b:Nat} {R:Rc} {vr ve:Value} (h:RecOwn w b R vr ve) (hf:Fr S w w') (hS:∀ k t cs,S k→Blk w k t cs→t≠170∧t≠172):RecOwn w' b R vr ve:=
  h.fr hf (fun k hk e=>by obtain ⟨_,cs,hb⟩:=own_blk h.r hk;exact (hS k _ cs e hb).1 rfl) (fun k hk e=>by obtain ⟨_,cs,hb⟩:=own_blk h.e hk;exact (hS k _ cs e hb).2 rfl)
theorem Inst.foot_ty {w:World} {B i:Nat} {D:Dt} {a:Ia} (h:Inst w B i D a):∀ k t cs,foot i a k→Blk w k t cs→t≠170∧t≠172:=fun k t cs hk hb=>by
  obtain ⟨t',cs',hb',ht⟩:=h.foot_blk hk
  obtain ⟨rfl,_⟩:=hb.uniq hb'
  rcases ht with rfl | rfl | rfl | rfl <;> decide
def MadeJ (J:Jd) (q:Jl) (B i:Nat) (D:Dt) (a:Ia) (c0:Int) (w:World) (e:Ending) (w':World):Prop:=
  ∃ a',e=.returned (.tuple #[])∧Inst w' B i (madeD J D) a'∧Fr (fun k=>foot i a k∨k=q.cab) w w'∧FootLe i a a' w∧a'.mv=a.mv∧w'.cell? ⟨q.cab,q.cao,none⟩=some (.int .i64 (wrap64 (c0+1)))∧∃ cs:CS q,Blk w' q.cab 3 cs.1
structure AtMk (J:Jd) (q:Jl) (ps:List Int) (c0:Int) (w:World) (b:Nat) (A:Option Addr) (c:Nat) (Ds:List Cr) (Ar:Option Addr) (cr:Nat) (Ae:Option Addr) (ce:Nat) (wq:World):Prop where
  hb:w.heap.size≤b
  bk:Blk wq b 55 (recA (jhead J ps) (.slice Ar (jhead J ps).rows.length cr) (.slice Ae (jhead J ps).ents.length ce))
  hr:RecOwn wq 0 (jhead J ps) (.slice Ar (jhead J ps).rows.length cr) (.slice Ae (jhead J ps).ents.length ce)
  ds:Ds.map (·.R)=J.bases
  l:wq.ownsRow w.heap.size 55 15 (.slice A J.bases.length c) J.bases.length (crFlat Ds)
  o:∀ D ∈ Ds,RecOwn wq 0 D.R (.slice D.A D.R.rows.length D.c) (.slice D.B D.R.ents.length D.d)
  cc:wq.cell? ⟨q.cab,q.cao,none⟩=some (.int .i64 (wrap64 (c0+1)))
  cb:∃ cs:CS q,Blk wq q.cab 3 cs.1
  f:Fr (only q.cab) w wq
theorem jbases_snoc (J:Jd) (k:Nat):jbases J (k+1)=jbases J k ++ [jbase J k]:=by simp [jbases,List.range_succ]
theorem crFlat_get:∀ (L:List Cr) (i:Nat) (C:Cr),L[i]?=some C→∀ (j:Nat) (v:Value),(crA C).toList[j]?=some v→(crFlat L)[i * 15+j]?=some v
  | [],i,C,h,_,_,_=>by simp at h
  | q :: L,0,C,h,j,v,hv=>by
    obtain rfl:q=C:=by simpa using h
    have hj:j < (crA q).toList.length:=(List.getElem?_eq_some_iff.1 hv).1
    show ((crA q).toList ++ crFlat L)[0 * 15+j]?=some v
    rw [show 0 * 15+j=j by omega,List.getElem?_append_left hj]
    exact hv
  | q :: L,i+1,C,h,j,v,hv=>by
    have:=crFlat_get L i C (by simpa using h) j v hv
    show ((crA q).toList ++ crFlat L)[(i+1) * 15+j]?=some v
    rw [List.getElem?_append_right (by simp;omega)]
    rw [show (i+1) * 15+j - (crA q).toList.length=i * 15+j by simp;omega]
    exact this
theorem cr_row {w:World} {B n c:Nat} {A:Option Addr} {L:List Cr} (h:w.ownsRow B 55 15 (.slice A n c) n (crFlat L)) {k:Nat} {C:Cr} (hk:L[k]?=some C):∃ g,A=some ⟨g,0,none⟩∧w.rangeAt g (k * 15) (crA C).toList:=by
  have hl:=h.1
  have hlen:(crFlat L).length=L.length * 15:=by
    unfold crFlat
    clear hk hl h
    induction L with
    | nil=>rfl
    | cons p t ih=>simp at ih ⊢;omega
  have hkl:k < L.length:=(List.getElem?_eq_some_iff.1 hk).1
  obtain ⟨A',c',e,_,_,hp⟩:=own_parts h
  obtain ⟨g,hg,hlt,hcell⟩:=hp (by omega)
  refine ⟨g,by injection e with e1 _ _;rw [e1,hg],fun j v hv=>hcell (k * 15+j) v (crFlat_get L k C hk j v hv)⟩
set_option maxHeartbeats 8000000 in
theorem madeJ {W w:World} {B i:Nat} {D:Dt} {a:Ia} {J:Jd} {q:Jl} (h:Inst w B i D a) (hj:JobAt W w J q) (hmv:a.mv=jobF q.jb q.cb) (c0:Int) (hc:w.cell? ⟨q.cab,q.cao,none⟩=some (.int .i64 c0)) (cs0:CS q) (hcb:Blk w q.cab 3 cs0.1) (hoff:¬ foot i a q.cab) (hn:0≤D.news∧D.news≤4) (hbs:D.bases=[]) (hzJ:RowsOk J.head∧∀ R ∈ J.bases,RowsOk R) (hB:B≤w.heap.size) :
  Calls Tryz.prog 37 #[.pointer (some ⟨i,0,none⟩)] w (MadeJ J q B i D a c0 w):=by
 obtain ⟨Ap,cp,A2,c2,A3,c3,e1,e2,e3⟩:=h.shapes
 obtain ⟨j0,hj0,hy0,ht0,hc0⟩:=info_parts (show (Tryz.prog.info? 3).map (fun i=>(i.zero,i.size,i.bytes))=some (some (.int .i64 0),1,8) by kernel_rfl)
 have Hj:=hid_ (And.intro hj0 (And.intro hy0 (And.intro ht0 hc0)))
 obtain ⟨r0,hr0,hr1,hr2,hr3⟩:=info_parts rec_info9
 have Hr:=hid_ (And.intro hr0 (And.intro hr1 (And.intro hr2 hr3)))
 have hp4:=h.zp.1
 have HP4:=hid_ hp4
 have E1:=hid_ (And.intro e1 hmv)
 have HZ:=hid_ (And.intro hzJ (And.intro hn (And.intro hbs (And.intro hoff hB))))
 have HC:=hid_ hc
 have HCB:=hid_ hcb
 have HJ:=hid_ hj
 have I0:=hid_ h
 clear hj0 hy0 ht0 hc0 hr0 hr1 hr2 hr3 e2 e3 hzJ hn hbs hoff hB e1 hmv hc hcb hj h
 go_enter Tryz.func37,Tryz.ntmps37
 go_upto_region 0 with fail
 go_cut [2,3] (fun u v wq=>∃ (b:Nat) (A:Option Addr) (c:Nat) (Ds:List Cr) (Ar:Option Addr) (cr:Nat) (Ae:Option Addr) (ce:Nat),u=.slice A J.bases.length c∧v=.pointer (some ⟨b,0,none⟩)∧AtMk J q D.pages c0 w b A c Ds Ar cr Ae ce wq)
 case first =>
  have hS:(fun w':World=>Blk w' i 112 (inA D a)) w.drew:=I0.out.b.drew
  refine wp_region_U (m:=18) (S:=(fun w':World=>Blk w' i 112 (inA D a))) (by kernel_rfl) ?_
  refine wpAnyU_take2 (i:=0) (v:=_) rfl (by kernel_rfl) (by kernel_rfl) (by kernel_rfl) (by kernel_rfl) (fun _ _ _ h=>h) (.inl ⟨by kernel_rfl,fun w' hS=>by go_simp;rfl⟩) hS ?_
  refine wpAnyU_take2 (i:=1) (v:=_) rfl (by kernel_rfl) (by kernel_rfl) (by kernel_rfl) (by kernel_rfl) (fun _ _ _ h=>h) (.inl ⟨by kernel_rfl,fun w' hS=>by go_simp;rfl⟩) hS ?_
  refine wpAnyU_take2 (i:=2) (v:=_) rfl (by kernel_rfl) (by kernel_rfl) (by kernel_rfl) (by kernel_rfl) (fun _ _ _ h=>h) (.inl ⟨by kernel_rfl,fun w' hS=>by go_simp;rfl⟩) hS ?_
  refine wpAnyU_take2 (i:=3) (v:=_) rfl (by kernel_rfl) (by kernel_rfl) (by kernel_rfl) (by kernel_rfl) (fun _ _ _ h=>h) (.inl ⟨by kernel_rfl,fun w' hS=>by go_simp;rfl⟩) hS ?_
  refine wpAnyU_take2 (i:=4) (v:=_) rfl (by kernel_rfl) (by kernel_rfl) (by kernel_rfl) (by kernel_rfl) (fun _ _ _ h=>h) (.inl ⟨by kernel_rfl,fun w' hS=>by have s_:w'.cell? ⟨i,4,none⟩=some (jobF q.jb q.cb):=(by rw [← E1.out.2];exact hS.cell' rfl);go_simp;rfl⟩) hS ?_
  refine wpAnyU_take2 (i:=6) (v:=_) rfl (by kernel_rfl) (by kernel_rfl) (by kernel_rfl) (by kernel_rfl) (fun _ _ _ h=>h) (.inl ⟨by kernel_rfl,fun w' hS=>by go_simp;rfl⟩) hS ?_
  refine wpAnyU_take2 (i:=7) (v:=_) rfl (by kernel_rfl) (by kernel_rfl) (by kernel_rfl) (by kernel_rfl) (fun _ _ _ h=>h) (.inl ⟨by kernel_rfl,fun w' hS=>by go_simp;rfl⟩) hS ?_
  refine wpAnyU_take2 (i:=8) (v:=_) rfl (by kernel_rfl) (by kernel_rfl) (by kernel_rfl) (by kernel_rfl) (fun _ _ _ h=>h) (.inl ⟨by kernel_rfl,fun w' hS=>by go_simp;rfl⟩) hS ?_
  refine wpAnyU_take2 (i:=9) (v:=_) rfl (by kernel_rfl) (by kernel_rfl) (by kernel_rfl) (by kernel_rfl) (fun _ _ _ h=>h) (.inl ⟨by kernel_rfl,fun w' hS=>by have s_:w'.cell? ⟨i,6,none⟩=some (.slice Ap D.pages.length cp):=(by rw [← E1.out.1];exact hS.cell' rfl);go_simp;rfl⟩) hS ?_
  have FQ:Fr none_ w w.drew:=(Fr.refl none_ w).drew
  refine wpAnyU_two (i:=5) (j:=15) rfl rfl rfl rfl (by kernel_rfl) ?_ ?_
  ·skip
   go_simp
   obtain ⟨u1,hz⟩:∃ z,z=w.drew.alloc (.cells #[] 3):=⟨_,rfl⟩
   have fz:Fr none_ w.drew u1:=by rw [hz];exact (Fr.refl none_ w.drew).alloc _
   have OW:Hid (u1.ownsRow w.heap.size 3 1 (.slice (some ⟨w.drew.heap.size,0,none⟩) 0 0) 0 []):=hid_ (by rw [hz];exact own_empty w.drew 3 1 w.heap.size FQ.size)
   refine ⟨by have:=hS.fr fz id;rw [hz] at this;exact this,?_⟩
   change wpAnyU _ _ _ _ _ _ _ _ _ (w.drew.alloc (.cells #[] 3))
   rw [← hz]
   replace hS:=hS.fr fz id
   replace FQ:=FQ.then_none fz
   clear hz fz
   refine wpAnyU_two (i:=10) (j:=15) rfl rfl rfl rfl (by kernel_rfl) ?_ ?_
   ·skip
    have RP:Reads u1 1 Ap D.pages.length (intF D.pages):=Reads.of_own (by have:=own_none I0.out.p FQ;rw [E1.out.1] at this;exact this)
    refine wp_append_any _ (.tmp 12) (.tmp 16) 39 rfl w.heap.size 3 j0 _ 1 8 Tryz.underlying39 Hj.out.1 Hj.out.2.1 Hj.out.2.2.1 Hj.out.2.2.2 rfl (by omega) (.slice (some ⟨w.drew.heap.size,0,none⟩) 0 0) 0 [] rfl OW.out Ap D.pages.length cp (intF D.pages) rfl RP (by intro u hu;obtain ⟨n,_,rfl⟩:=List.mem_map.1 hu;rfl) (by simp only [maxLen];omega) (by omega) FQ.size ?_
    intro A9 c9 u2 hown hgr
    have FQ9:=FQ.grown hgr (fun k hk=>.inr (own_blk OW.out hk).1)
    have hS9:Blk u2 i 112 (inA D a):=hS.grown hgr (Ne.symm (own_blk_ne OW.out hS (by decide)))
    have OW9:=hid_ hown
    simp only [Nat.zero_add,List.nil_append] at OW9
    replace OW:=OW9
    clear OW9 RP
    refine ⟨.inr hS9,?_⟩
    replace hS:=hS9
    replace FQ:=FQ9
    clear hown hgr hS9 FQ9
    simp only [Nat.zero_add]
    refine wpAnyU_two (i:=11) (j:=15) rfl rfl rfl rfl (by kernel_rfl) ?_ ?_
    ·skip
     have hcl:=HCB.out.lt
     have hob:∀ k,(Value.slice A9 D.pages.length c9).ownBlock=some k→w.heap.size≤k:=fun k hk=>(own_blk OW.out hk).1
     go_simp
     refine (mkJ_ok (HJ.out.keep FQ) c0 (cellFr HC.out FQ) cs0 (HCB.out.fr FQ id) w.heap.size _ D.pages OW.out (fun e=>by have:=hob _ e;omega) HP4.out).mono ?_
     rintro e u3 ⟨Al,cl,Ds,Ar,cr,Ae,ce,rfl,hds,hlo,hdo,hro,hcc,hcb2,hfc⟩
     have hfo:Fr (only q.cab) w u3:=FQ.trans (S':=MkS q (.slice A9 D.pages.length c9)) hfc (fun _ _ e=>e.elim) (fun k hk e=>by rcases e with e | e;exact e;have:=hob k e;omega)
     have hS9:Blk u3 i 112 (inA D a):=hS.fr hfc (fun e=>by
      rcases e with e | e
      ·exact absurd (show i=q.cab from e) (Blk.ne_ I0.out.b HCB.out (by decide))
      ·exact own_blk_ne OW.out hS (by decide) e)
     have LO:=hid_ (own_base hlo FQ.size)
     have DO:=hid_ (fun D hD=>(hdo D hD).base (Nat.zero_le _))
     have RO:=hid_ (hro.base (Nat.zero_le _))
     have CC:=hid_ hcc
     have CB:=hid_ hcb2
     have HDS:=hid_ hds
     refine ⟨hS9,?_⟩
     replace hS:=hS9
     replace FQ:=hfo
     clear hro hfc hS9 hfo hlo hdo hcc hcb2 hds hcl hob OW
     refine wpAnyU_take2 (i:=12) (v:=_) rfl (by kernel_rfl) (by kernel_rfl) (by kernel_rfl) (by kernel_rfl) (fun _ _ _ h=>h) (.inl ⟨by kernel_rfl,fun w' hS=>by go_simp;rfl⟩) hS ?_
     refine wpAnyU_take2 (i:=13) (v:=_) rfl (by kernel_rfl) (by kernel_rfl) (by kernel_rfl) (by kernel_rfl) (fun _ _ _ h=>h) (.inl ⟨by kernel_rfl,fun w' hS=>by go_simp;rfl⟩) hS ?_
     refine wpAnyU_take2 (i:=14) (v:=_) rfl (by kernel_rfl) (by kernel_rfl) (by kernel_rfl) (by kernel_rfl) (fun _ _ _ h=>h) (.inl ⟨by kernel_rfl,fun w' hS=>by go_simp;rfl⟩) hS ?_
     refine wpAnyU_oneW (i:=15) rfl (by kernel_rfl) (by kernel_rfl) ?_
     go_simp
     obtain ⟨u4,hz⟩:∃ z,z=u3.alloc (.cells recZ 55):=⟨_,rfl⟩
     have fz:Fr none_ u3 u4:=by rw [hz];exact (Fr.refl none_ u3).alloc _
     have BA:Hid (Blk u4 u3.heap.size 55 recZ):=hid_ (by rw [hz];exact Blk.new u3 _ _)
     have hba:=FQ.size
     have BANE:=hid_ (show ∀ k,(Value.slice Al J.bases.length cl).ownBlock=some k→k≠u3.heap.size from fun k hk=>(own_blk LO.out hk).2.elim fun _ hb=>Nat.ne_of_lt hb.lt)
     refine ⟨by have:=hS.fr fz id;rw [hz] at this;exact this,?_⟩
     change wpAnyU _ _ _ _ _ _ _ _ _ (u3.alloc (.cells recZ 55))
     rw [← hz]
     replace hS:=hS.fr fz id
     replace FQ:=FQ.then_none fz
     replace RO:=hid_ (RO.out.keep fz)
     replace LO:=hid_ (own_none LO.out fz)
     replace DO:=hid_ (fun D hD=>(DO.out D hD).keep fz)
     replace CC:=hid_ (cellFr CC.out fz)
     replace CB:=hid_ (CB.out.elim fun cs hb=>(⟨cs,hb.fr fz id⟩:∃ cs:CS q,Blk _ q.cab 3 cs.1))
     clear hz fz
     refine wpAnyU_take2 (i:=16) (v:=_) rfl (by kernel_rfl) (by kernel_rfl) (by kernel_rfl) (by kernel_rfl) (fun _ _ _ h=>h) (.inl ⟨by kernel_rfl,fun w' hS=>by go_simp;rfl⟩) hS ?_
     refine wpAnyU_oneW (i:=17) rfl (by kernel_rfl) (by kernel_rfl) ?_
     refine wp_store_mid 55 (.tmp 3) (.tmp 20) rfl (u3.heap.size) 0 (recA (jhead J D.pages) (.slice Ar (jhead J D.pages).rows.length cr) (.slice Ae (jhead J D.pages).ents.length ce)) rfl rfl (BA.out.there9 rfl) rec_size (by simp [Value.oneCell']) ?_
     obtain ⟨w5,hw5⟩:∃ z,z=u4.setCells (u3.heap.size) 0 (recA (jhead J D.pages) (.slice Ar (jhead J D.pages).rows.length cr) (.slice Ae (jhead J D.pages).ents.length ce)).toList:=⟨_,rfl⟩
     have ov:=BA.out.over9 (recA (jhead J D.pages) (.slice Ar (jhead J D.pages).rows.length cr) (.slice Ae (jhead J D.pages).ents.length ce)).toList rfl
     rw [← hw5] at ov
     have Q5:=hid_ (show Blk w5 (u3.heap.size) 55 (recA (jhead J D.pages) (.slice Ar (jhead J D.pages).rows.length cr) (.slice Ae (jhead J D.pages).ents.length ce)) from ov.1)
     have O5:=hid_ (RO.out.only ov.2 BA.out (by decide) (by decide))
     have L5:=hid_ (own_fr LO.out ov.2 (fun k hk e=>BANE.out k hk e))
     have D5:=hid_ (fun D hD=>(DO.out D hD).only ov.2 BA.out (by decide) (by decide))
     have hcl:=HCB.out.lt
     have C5:=hid_ (cellFrS CC.out ov.2 (only_ne (show q.cab≠u3.heap.size by omega)))
     have B5:=hid_ (CB.out.elim fun cs hb=>(⟨cs,hb.fr ov.2 (only_ne (show q.cab≠u3.heap.size by omega))⟩:∃ cs:CS q,Blk w5 q.cab 3 cs.1))
     have F5:=hid_ (FQ.then_only ov.2 (.inr hba))
     refine ⟨.inr (by rw [← hw5];exact hS.fr ov.2 (only_ne (Blk.ne_ hS BA.out (by decide)))),?_⟩
     change wpAnyU _ _ _ _ _ _ _ _ _ (u4.setCells (u3.heap.size) 0 (recA (jhead J D.pages) (.slice Ar (jhead J D.pages).rows.length cr) (.slice Ae (jhead J D.pages).ents.length ce)).toList)
     rw [← hw5]
     clear hw5 ov
     refine wpAnyU_done (by kernel_rfl) ?_ _
     go_wp2_with fail
     go_meet
     exact ⟨_,Al,cl,Ds,Ar,cr,Ae,ce,rfl,rfl,hba,Q5.out,O5.out,HDS.out,L5.out,D5.out,C5.out,B5.out,F5.out⟩
    ·skip
     go_simp
     obtain ⟨u5,hz⟩:∃ z,z=u2.alloc (.cells recZ 55):=⟨_,rfl⟩
     have fz:Fr none_ u2 u5:=by rw [hz];exact (Fr.refl none_ u2).alloc _
     have BA:Hid (Blk u5 u2.heap.size 55 recZ):=hid_ (by rw [hz];exact Blk.new u2 _ _)
     have hba:=FQ.size
     refine ⟨by have:=hS.fr fz id;rw [hz] at this;exact this,?_⟩
     change wpAnyU _ _ _ _ _ _ _ _ _ (u2.alloc (.cells recZ 55))
     rw [← hz]
     replace hS:=hS.fr fz id
     replace FQ:=FQ.then_none fz
     replace OW:=hid_ (own_none OW.out fz)
     clear hz fz
     refine wpAnyU_oneW (i:=11) rfl (by kernel_rfl) (by kernel_rfl) ?_
     have hcl:=HCB.out.lt
     have hob:∀ k,(Value.slice A9 D.pages.length c9).ownBlock=some k→w.heap.size≤k:=fun k hk=>(own_blk OW.out hk).1
     go_simp
     refine (mkJ_ok (HJ.out.keep FQ) c0 (cellFr HC.out FQ) cs0 (HCB.out.fr FQ id) w.heap.size _ D.pages OW.out (fun e=>by have:=hob _ e;omega) HP4.out).mono ?_
     rintro e u6 ⟨Al,cl,Ds,Ar,cr,Ae,ce,rfl,hds,hlo,hdo,hro,hcc,hcb2,hfc⟩
     have hfo:Fr (only q.cab) w u6:=FQ.trans (S':=MkS q (.slice A9 D.pages.length c9)) hfc (fun _ _ e=>e.elim) (fun k hk e=>by rcases e with e | e;exact e;have:=hob k e;omega)
     have hS9:Blk u6 i 112 (inA D a):=hS.fr hfc (fun e=>by
      rcases e with e | e
      ·exact absurd (show i=q.cab from e) (Blk.ne_ I0.out.b HCB.out (by decide))
      ·exact own_blk_ne OW.out hS (by decide) e)
     have LO:=hid_ (own_base hlo FQ.size)
     have DO:=hid_ (fun D hD=>(hdo D hD).base (Nat.zero_le _))
     have RO:=hid_ (hro.base (Nat.zero_le _))
     have CC:=hid_ hcc
     have CB:=hid_ hcb2
     have HDS:=hid_ hds
     have BANE:=hid_ (show ∀ k,(Value.slice Al J.bases.length cl).ownBlock=some k→k≠u2.heap.size from fun k hk=>by have h1:=(own_blk hlo hk).1;have h2:=BA.out.lt;omega)
     replace BA:=hid_ (BA.out.fr hfc (fun e=>by
      rcases e with e | e
      ·have e':u2.heap.size=q.cab:=e
       omega
      ·exact own_blk_ne OW.out BA.out (by decide) e))
     refine ⟨hS9,?_⟩
     replace hS:=hS9
     replace FQ:=hfo
     clear hro hfc hS9 hfo hlo hdo hcc hcb2 hds hcl hob OW
     refine wpAnyU_take2 (i:=12) (v:=_) rfl (by kernel_rfl) (by kernel_rfl) (by kernel_rfl) (by kernel_rfl) (fun _ _ _ h=>h) (.inl ⟨by kernel_rfl,fun w' hS=>by go_simp;rfl⟩) hS ?_
     refine wpAnyU_take2 (i:=13) (v:=_) rfl (by kernel_rfl) (by kernel_rfl) (by kernel_rfl) (by kernel_rfl) (fun _ _ _ h=>h) (.inl ⟨by kernel_rfl,fun w' hS=>by go_simp;rfl⟩) hS ?_
     refine wpAnyU_take2 (i:=14) (v:=_) rfl (by kernel_rfl) (by kernel_rfl) (by kernel_rfl) (by kernel_rfl) (fun _ _ _ h=>h) (.inl ⟨by kernel_rfl,fun w' hS=>by go_simp;rfl⟩) hS ?_
     refine wpAnyU_take2 (i:=16) (v:=_) rfl (by kernel_rfl) (by kernel_rfl) (by kernel_rfl) (by kernel_rfl) (fun _ _ _ h=>h) (.inl ⟨by kernel_rfl,fun w' hS=>by go_simp;rfl⟩) hS ?_
     refine wpAnyU_oneW (i:=17) rfl (by kernel_rfl) (by kernel_rfl) ?_
     refine wp_store_mid 55 (.tmp 3) (.tmp 20) rfl (u2.heap.size) 0 (recA (jhead J D.pages) (.slice Ar (jhead J D.pages).rows.length cr) (.slice Ae (jhead J D.pages).ents.length ce)) rfl rfl (BA.out.there9 rfl) rec_size (by simp [Value.oneCell']) ?_
     obtain ⟨w5,hw5⟩:∃ z,z=u6.setCells (u2.heap.size) 0 (recA (jhead J D.pages) (.slice Ar (jhead J D.pages).rows.length cr) (.slice Ae (jhead J D.pages).ents.length ce)).toList:=⟨_,rfl⟩
     have ov:=BA.out.over9 (recA (jhead J D.pages) (.slice Ar (jhead J D.pages).rows.length cr) (.slice Ae (jhead J D.pages).ents.length ce)).toList rfl
     rw [← hw5] at ov
     have Q5:=hid_ (show Blk w5 (u2.heap.size) 55 (recA (jhead J D.pages) (.slice Ar (jhead J D.pages).rows.length cr) (.slice Ae (jhead J D.pages).ents.length ce)) from ov.1)
     have O5:=hid_ (RO.out.only ov.2 BA.out (by decide) (by decide))
     have L5:=hid_ (own_fr LO.out ov.2 (fun k hk e=>BANE.out k hk e))
     have D5:=hid_ (fun D hD=>(DO.out D hD).only ov.2 BA.out (by decide) (by decide))
     have hcl:=HCB.out.lt
     have C5:=hid_ (cellFrS CC.out ov.2 (only_ne (show q.cab≠u2.heap.size by omega)))
     have B5:=hid_ (CB.out.elim fun cs hb=>(⟨cs,hb.fr ov.2 (only_ne (show q.cab≠u2.heap.size by omega))⟩:∃ cs:CS q,Blk w5 q.cab 3 cs.1))
     have F5:=hid_ (FQ.then_only ov.2 (.inr hba))
     refine ⟨.inr (by rw [← hw5];exact hS.fr ov.2 (only_ne (Blk.ne_ hS BA.out (by decide)))),?_⟩
     change wpAnyU _ _ _ _ _ _ _ _ _ (u6.setCells (u2.heap.size) 0 (recA (jhead J D.pages) (.slice Ar (jhead J D.pages).rows.length cr) (.slice Ae (jhead J D.pages).ents.length ce)).toList)
     rw [← hw5]
     clear hw5 ov
     refine wpAnyU_done (by kernel_rfl) ?_ _
     go_wp2_with fail
     go_meet
     exact ⟨_,Al,cl,Ds,Ar,cr,Ae,ce,rfl,rfl,hba,Q5.out,O5.out,HDS.out,L5.out,D5.out,C5.out,B5.out,F5.out⟩
   ·skip
    go_simp
    obtain ⟨u7,hz⟩:∃ z,z=u1.alloc (.cells recZ 55):=⟨_,rfl⟩
    have fz:Fr none_ u1 u7:=by rw [hz];exact (Fr.refl none_ u1).alloc _
    have BA:Hid (Blk u7 u1.heap.size 55 recZ):=hid_ (by rw [hz];exact Blk.new u1 _ _)
    have hba:=FQ.size
    refine ⟨by have:=hS.fr fz id;rw [hz] at this;exact this,?_⟩
    change wpAnyU _ _ _ _ _ _ _ _ _ (u1.alloc (.cells recZ 55))
    rw [← hz]
    replace hS:=hS.fr fz id
    replace FQ:=FQ.then_none fz
    replace OW:=hid_ (own_none OW.out fz)
    clear hz fz
    refine wpAnyU_oneW (i:=10) rfl (by kernel_rfl) (by kernel_rfl) ?_
    have RP:Reads u7 1 Ap D.pages.length (intF D.pages):=Reads.of_own (by have:=own_none I0.out.p FQ;rw [E1.out.1] at this;exact this)
    refine wp_append_any _ (.tmp 12) (.tmp 16) 39 rfl w.heap.size 3 j0 _ 1 8 Tryz.underlying39 Hj.out.1 Hj.out.2.1 Hj.out.2.2.1 Hj.out.2.2.2 rfl (by omega) (.slice (some ⟨w.drew.heap.size,0,none⟩) 0 0) 0 [] rfl OW.out Ap D.pages.length cp (intF D.pages) rfl RP (by intro u hu;obtain ⟨n,_,rfl⟩:=List.mem_map.1 hu;rfl) (by simp only [maxLen];omega) (by omega) FQ.size ?_
    intro A9 c9 u8 hown hgr
    have FQ9:=FQ.grown hgr (fun k hk=>.inr (own_blk OW.out hk).1)
    have hS9:Blk u8 i 112 (inA D a):=hS.grown hgr (Ne.symm (own_blk_ne OW.out hS (by decide)))
    replace BA:=hid_ (BA.out.grown hgr (Ne.symm (own_blk_ne OW.out BA.out (by decide))))
    have OW9:=hid_ hown
    simp only [Nat.zero_add,List.nil_append] at OW9
    replace OW:=OW9
    clear OW9 RP
    refine ⟨.inr hS9,?_⟩
    replace hS:=hS9
    replace FQ:=FQ9
    clear hown hgr hS9 FQ9
    simp only [Nat.zero_add]
    refine wpAnyU_oneW (i:=11) rfl (by kernel_rfl) (by kernel_rfl) ?_
    have hcl:=HCB.out.lt
    have hob:∀ k,(Value.slice A9 D.pages.length c9).ownBlock=some k→w.heap.size≤k:=fun k hk=>(own_blk OW.out hk).1
    go_simp
    refine (mkJ_ok (HJ.out.keep FQ) c0 (cellFr HC.out FQ) cs0 (HCB.out.fr FQ id) w.heap.size _ D.pages OW.out (fun e=>by have:=hob _ e;omega) HP4.out).mono ?_
    rintro e u9 ⟨Al,cl,Ds,Ar,cr,Ae,ce,rfl,hds,hlo,hdo,hro,hcc,hcb2,hfc⟩
    have hfo:Fr (only q.cab) w u9:=FQ.trans (S':=MkS q (.slice A9 D.pages.length c9)) hfc (fun _ _ e=>e.elim) (fun k hk e=>by rcases e with e | e;exact e;have:=hob k e;omega)
    have hS9:Blk u9 i 112 (inA D a):=hS.fr hfc (fun e=>by
     rcases e with e | e
     ·exact absurd (show i=q.cab from e) (Blk.ne_ I0.out.b HCB.out (by decide))
     ·exact own_blk_ne OW.out hS (by decide) e)
    have LO:=hid_ (own_base hlo FQ.size)
    have DO:=hid_ (fun D hD=>(hdo D hD).base (Nat.zero_le _))
    have RO:=hid_ (hro.base (Nat.zero_le _))
    have CC:=hid_ hcc
    have CB:=hid_ hcb2
    have HDS:=hid_ hds
    have BANE:=hid_ (show ∀ k,(Value.slice Al J.bases.length cl).ownBlock=some k→k≠u1.heap.size from fun k hk=>by have h1:=(own_blk hlo hk).1;have h2:=BA.out.lt;omega)
    replace BA:=hid_ (BA.out.fr hfc (fun e=>by
     rcases e with e | e
     ·have e':u1.heap.size=q.cab:=e
      omega
     ·exact own_blk_ne OW.out BA.out (by decide) e))
    refine ⟨hS9,?_⟩
    replace hS:=hS9
    replace FQ:=hfo
    clear hro hfc hS9 hfo hlo hdo hcc hcb2 hds hcl hob OW
    refine wpAnyU_take2 (i:=12) (v:=_) rfl (by kernel_rfl) (by kernel_rfl) (by kernel_rfl) (by kernel_rfl) (fun _ _ _ h=>h) (.inl ⟨by kernel_rfl,fun w' hS=>by go_simp;rfl⟩) hS ?_
    refine wpAnyU_take2 (i:=13) (v:=_) rfl (by kernel_rfl) (by kernel_rfl) (by kernel_rfl) (by kernel_rfl) (fun _ _ _ h=>h) (.inl ⟨by kernel_rfl,fun w' hS=>by go_simp;rfl⟩) hS ?_
    refine wpAnyU_take2 (i:=14) (v:=_) rfl (by kernel_rfl) (by kernel_rfl) (by kernel_rfl) (by kernel_rfl) (fun _ _ _ h=>h) (.inl ⟨by kernel_rfl,fun w' hS=>by go_simp;rfl⟩) hS ?_
    refine wpAnyU_take2 (i:=16) (v:=_) rfl (by kernel_rfl) (by kernel_rfl) (by kernel_rfl) (by kernel_rfl) (fun _ _ _ h=>h) (.inl ⟨by kernel_rfl,fun w' hS=>by go_simp;rfl⟩) hS ?_
    refine wpAnyU_oneW (i:=17) rfl (by kernel_rfl) (by kernel_rfl) ?_
    refine wp_store_mid 55 (.tmp 3) (.tmp 20) rfl (u1.heap.size) 0 (recA (jhead J D.pages) (.slice Ar (jhead J D.pages).rows.length cr) (.slice Ae (jhead J D.pages).ents.length ce)) rfl rfl (BA.out.there9 rfl) rec_size (by simp [Value.oneCell']) ?_
    obtain ⟨w5,hw5⟩:∃ z,z=u9.setCells (u1.heap.size) 0 (recA (jhead J D.pages) (.slice Ar (jhead J D.pages).rows.length cr) (.slice Ae (jhead J D.pages).ents.length ce)).toList:=⟨_,rfl⟩
    have ov:=BA.out.over9 (recA (jhead J D.pages) (.slice Ar (jhead J D.pages).rows.length cr) (.slice Ae (jhead J D.pages).ents.length ce)).toList rfl
    rw [← hw5] at ov
    have Q5:=hid_ (show Blk w5 (u1.heap.size) 55 (recA (jhead J D.pages) (.slice Ar (jhead J D.pages).rows.length cr) (.slice Ae (jhead J D.pages).ents.length ce)) from ov.1)
    have O5:=hid_ (RO.out.only ov.2 BA.out (by decide) (by decide))
    have L5:=hid_ (own_fr LO.out ov.2 (fun k hk e=>BANE.out k hk e))
    have D5:=hid_ (fun D hD=>(DO.out D hD).only ov.2 BA.out (by decide) (by decide))
    have hcl:=HCB.out.lt
    have C5:=hid_ (cellFrS CC.out ov.2 (only_ne (show q.cab≠u1.heap.size by omega)))
    have B5:=hid_ (CB.out.elim fun cs hb=>(⟨cs,hb.fr ov.2 (only_ne (show q.cab≠u1.heap.size by omega))⟩:∃ cs:CS q,Blk w5 q.cab 3 cs.1))
    have F5:=hid_ (FQ.then_only ov.2 (.inr hba))
    refine ⟨.inr (by rw [← hw5];exact hS.fr ov.2 (only_ne (Blk.ne_ hS BA.out (by decide)))),?_⟩
    change wpAnyU _ _ _ _ _ _ _ _ _ (u9.setCells (u1.heap.size) 0 (recA (jhead J D.pages) (.slice Ar (jhead J D.pages).rows.length cr) (.slice Ae (jhead J D.pages).ents.length ce)).toList)
    rw [← hw5]
    clear hw5 ov
    refine wpAnyU_done (by kernel_rfl) ?_ _
    go_wp2_with fail
    go_meet
    exact ⟨_,Al,cl,Ds,Ar,cr,Ae,ce,rfl,rfl,hba,Q5.out,O5.out,HDS.out,L5.out,D5.out,C5.out,B5.out,F5.out⟩
  ·skip
   go_simp
   obtain ⟨u10,hz⟩:∃ z,z=w.drew.alloc (.cells recZ 55):=⟨_,rfl⟩
   have fz:Fr none_ w.drew u10:=by rw [hz];exact (Fr.refl none_ w.drew).alloc _
   have BA:Hid (Blk u10 w.drew.heap.size 55 recZ):=hid_ (by rw [hz];exact Blk.new w.drew _ _)
   have hba:=FQ.size
   refine ⟨by have:=hS.fr fz id;rw [hz] at this;exact this,?_⟩
   change wpAnyU _ _ _ _ _ _ _ _ _ (w.drew.alloc (.cells recZ 55))
   rw [← hz]
   replace hS:=hS.fr fz id
   replace FQ:=FQ.then_none fz
   clear hz fz
   refine wpAnyU_oneW (i:=5) rfl (by kernel_rfl) (by kernel_rfl) ?_
   go_simp
   obtain ⟨u11,hz⟩:∃ z,z=u10.alloc (.cells #[] 3):=⟨_,rfl⟩
   have fz:Fr none_ u10 u11:=by rw [hz];exact (Fr.refl none_ u10).alloc _
   have OW:Hid (u11.ownsRow w.heap.size 3 1 (.slice (some ⟨u10.heap.size,0,none⟩) 0 0) 0 []):=hid_ (by rw [hz];exact own_empty u10 3 1 w.heap.size FQ.size)
   refine ⟨by have:=hS.fr fz id;rw [hz] at this;exact this,?_⟩
   change wpAnyU _ _ _ _ _ _ _ _ _ (u10.alloc (.cells #[] 3))
   rw [← hz]
   replace hS:=hS.fr fz id
   replace FQ:=FQ.then_none fz
   replace BA:=hid_ (BA.out.fr fz id)
   clear hz fz
   refine wpAnyU_oneW (i:=10) rfl (by kernel_rfl) (by kernel_rfl) ?_
   have RP:Reads u11 1 Ap D.pages.length (intF D.pages):=Reads.of_own (by have:=own_none I0.out.p FQ;rw [E1.out.1] at this;exact this)
   refine wp_append_any _ (.tmp 12) (.tmp 16) 39 rfl w.heap.size 3 j0 _ 1 8 Tryz.underlying39 Hj.out.1 Hj.out.2.1 Hj.out.2.2.1 Hj.out.2.2.2 rfl (by omega) (.slice (some ⟨u10.heap.size,0,none⟩) 0 0) 0 [] rfl OW.out Ap D.pages.length cp (intF D.pages) rfl RP (by intro u hu;obtain ⟨n,_,rfl⟩:=List.mem_map.1 hu;rfl) (by simp only [maxLen];omega) (by omega) FQ.size ?_
   intro A9 c9 u12 hown hgr
   have FQ9:=FQ.grown hgr (fun k hk=>.inr (own_blk OW.out hk).1)
   have hS9:Blk u12 i 112 (inA D a):=hS.grown hgr (Ne.symm (own_blk_ne OW.out hS (by decide)))
   replace BA:=hid_ (BA.out.grown hgr (Ne.symm (own_blk_ne OW.out BA.out (by decide))))
   have OW9:=hid_ hown
   simp only [Nat.zero_add,List.nil_append] at OW9
   replace OW:=OW9
   clear OW9 RP
   refine ⟨.inr hS9,?_⟩
   replace hS:=hS9
   replace FQ:=FQ9
   clear hown hgr hS9 FQ9
   simp only [Nat.zero_add]
   refine wpAnyU_oneW (i:=11) rfl (by kernel_rfl) (by kernel_rfl) ?_
   have hcl:=HCB.out.lt
   have hob:∀ k,(Value.slice A9 D.pages.length c9).ownBlock=some k→w.heap.size≤k:=fun k hk=>(own_blk OW.out hk).1
   go_simp
   refine (mkJ_ok (HJ.out.keep FQ) c0 (cellFr HC.out FQ) cs0 (HCB.out.fr FQ id) w.heap.size _ D.pages OW.out (fun e=>by have:=hob _ e;omega) HP4.out).mono ?_
   rintro e u13 ⟨Al,cl,Ds,Ar,cr,Ae,ce,rfl,hds,hlo,hdo,hro,hcc,hcb2,hfc⟩
   have hfo:Fr (only q.cab) w u13:=FQ.trans (S':=MkS q (.slice A9 D.pages.length c9)) hfc (fun _ _ e=>e.elim) (fun k hk e=>by rcases e with e | e;exact e;have:=hob k e;omega)
   have hS9:Blk u13 i 112 (inA D a):=hS.fr hfc (fun e=>by
    rcases e with e | e
    ·exact absurd (show i=q.cab from e) (Blk.ne_ I0.out.b HCB.out (by decide))
    ·exact own_blk_ne OW.out hS (by decide) e)
   have LO:=hid_ (own_base hlo FQ.size)
   have DO:=hid_ (fun D hD=>(hdo D hD).base (Nat.zero_le _))
   have RO:=hid_ (hro.base (Nat.zero_le _))
   have CC:=hid_ hcc
   have CB:=hid_ hcb2
   have HDS:=hid_ hds
   have BANE:=hid_ (show ∀ k,(Value.slice Al J.bases.length cl).ownBlock=some k→k≠w.drew.heap.size from fun k hk=>by have h1:=(own_blk hlo hk).1;have h2:=BA.out.lt;omega)
   replace BA:=hid_ (BA.out.fr hfc (fun e=>by
    rcases e with e | e
    ·have e':w.drew.heap.size=q.cab:=e
     omega
    ·exact own_blk_ne OW.out BA.out (by decide) e))
   refine ⟨hS9,?_⟩
   replace hS:=hS9
   replace FQ:=hfo
   clear hro hfc hS9 hfo hlo hdo hcc hcb2 hds hcl hob OW
   refine wpAnyU_take2 (i:=12) (v:=_) rfl (by kernel_rfl) (by kernel_rfl) (by kernel_rfl) (by kernel_rfl) (fun _ _ _ h=>h) (.inl ⟨by kernel_rfl,fun w' hS=>by go_simp;rfl⟩) hS ?_
   refine wpAnyU_take2 (i:=13) (v:=_) rfl (by kernel_rfl) (by kernel_rfl) (by kernel_rfl) (by kernel_rfl) (fun _ _ _ h=>h) (.inl ⟨by kernel_rfl,fun w' hS=>by go_simp;rfl⟩) hS ?_
   refine wpAnyU_take2 (i:=14) (v:=_) rfl (by kernel_rfl) (by kernel_rfl) (by kernel_rfl) (by kernel_rfl) (fun _ _ _ h=>h) (.inl ⟨by kernel_rfl,fun w' hS=>by go_simp;rfl⟩) hS ?_
   refine wpAnyU_take2 (i:=16) (v:=_) rfl (by kernel_rfl) (by kernel_rfl) (by kernel_rfl) (by kernel_rfl) (fun _ _ _ h=>h) (.inl ⟨by kernel_rfl,fun w' hS=>by go_simp;rfl⟩) hS ?_
   refine wpAnyU_oneW (i:=17) rfl (by kernel_rfl) (by kernel_rfl) ?_
   refine wp_store_mid 55 (.tmp 3) (.tmp 20) rfl (w.drew.heap.size) 0 (recA (jhead J D.pages) (.slice Ar (jhead J D.pages).rows.length cr) (.slice Ae (jhead J D.pages).ents.length ce)) rfl rfl (BA.out.there9 rfl) rec_size (by simp [Value.oneCell']) ?_
   obtain ⟨w5,hw5⟩:∃ z,z=u13.setCells (w.drew.heap.size) 0 (recA (jhead J D.pages) (.slice Ar (jhead J D.pages).rows.length cr) (.slice Ae (jhead J D.pages).ents.length ce)).toList:=⟨_,rfl⟩
   have ov:=BA.out.over9 (recA (jhead J D.pages) (.slice Ar (jhead J D.pages).rows.length cr) (.slice Ae (jhead J D.pages).ents.length ce)).toList rfl
   rw [← hw5] at ov
   have Q5:=hid_ (show Blk w5 (w.drew.heap.size) 55 (recA (jhead J D.pages) (.slice Ar (jhead J D.pages).rows.length cr) (.slice Ae (jhead J D.pages).ents.length ce)) from ov.1)
   have O5:=hid_ (RO.out.only ov.2 BA.out (by decide) (by decide))
   have L5:=hid_ (own_fr LO.out ov.2 (fun k hk e=>BANE.out k hk e))
   have D5:=hid_ (fun D hD=>(DO.out D hD).only ov.2 BA.out (by decide) (by decide))
   have hcl:=HCB.out.lt
   have C5:=hid_ (cellFrS CC.out ov.2 (only_ne (show q.cab≠w.drew.heap.size by omega)))
   have B5:=hid_ (CB.out.elim fun cs hb=>(⟨cs,hb.fr ov.2 (only_ne (show q.cab≠w.drew.heap.size by omega))⟩:∃ cs:CS q,Blk w5 q.cab 3 cs.1))
   have F5:=hid_ (FQ.then_only ov.2 (.inr hba))
   refine ⟨.inr (by rw [← hw5];exact hS.fr ov.2 (only_ne (Blk.ne_ hS BA.out (by decide)))),?_⟩
   change wpAnyU _ _ _ _ _ _ _ _ _ (u13.setCells (w.drew.heap.size) 0 (recA (jhead J D.pages) (.slice Ar (jhead J D.pages).rows.length cr) (.slice Ae (jhead J D.pages).ents.length ce)).toList)
   rw [← hw5]
   clear hw5 ov
   refine wpAnyU_done (by kernel_rfl) ?_ _
   go_wp2_with fail
   go_meet
   exact ⟨_,Al,cl,Ds,Ar,cr,Ae,ce,rfl,rfl,hba,Q5.out,O5.out,HDS.out,L5.out,D5.out,C5.out,B5.out,F5.out⟩
 case rest =>
  obtain ⟨b,A,c,Ds,Ar,cr,Ae,ce,rfl,rfl,hmk⟩:=hcut
  have MK:=hid_ hmk
  have I1:=hid_ (I0.out.offcab hmk.f HCB.out HZ.out.2.2.2.1)
  have HSW:=hid_ hmk.f.size
  clear hmk
  obtain ⟨nn,hnn⟩:∃ nn:Nat,D.news=(nn:Int):=⟨D.news.toNat,by have:=HZ.out.2.1.1;omega⟩
  have hn4:nn≤4:=by have:=HZ.out.2.1.2;omega
  have HNN:=hid_ hnn
  have i3:wc.cell? ⟨i,3,none⟩=some (.int .i64 nn):=by rw [← hnn];exact I1.out.b.cell' rfl
  have FL:=hid_ (fun k (hk:foot i a k)=>I0.out.foot_lt hk)
  clear hnn
  go_wp2_with fail
  clear i3
  go_loopw [26] (fun u wr=>∃ (k:Nat) (bv:Value) (Es:List Cr),k≤nn∧u=.int .i64 k∧Inst wr B i { D with bases:=jbases J k } { a with bv:=bv,Cs:=Es }∧(∀ g,bv.ownBlock=some g→foot i a g∨wc.heap.size≤g)∧Fr (foot i a) wc wr) (fun u _=>nn - (intOf u).toNat)
  case atStart=>exact ⟨0,a.bv,a.Cs,Nat.zero_le _,rfl,by rw [show jbases J 0=D.bases from HZ.out.2.2.1.symm];exact I1.out,fun g hg=>.inl (.inr (.inr (.inl hg))),Fr.refl _ _⟩
  case round =>
   obtain ⟨k,bv,Es,hk,rfl,hIr,hbv,hFr⟩:=hrel
   have Ir:=hid_ hIr
   have HBV:=hid_ hbv
   have FR:=hid_ hFr
   clear hIr hbv hFr
   have hi0:(0:Int)≤(k:Int):=Int.natCast_nonneg _
   have HLl:=hid_ (show ∀ g,(Value.slice A J.bases.length c).ownBlock=some g→¬ foot i a g from fun g hg hf=>by have h1:=(own_blk MK.out.l hg).1;have h2:=FL.out g hf;omega)
   have Lr:=hid_ (own_fr MK.out.l FR.out HLl.out)
   have Do:=hid_ (fun X hX=>(MK.out.o X hX).none_of FR.out (fun k t cs hk hb=>I1.out.foot_ty k t cs hk hb))
   by_cases hlt:k < nn
   ·have hi1:(k:Int) < (nn:Int):=by omega
    go_upto_region 5 with fail
    obtain ⟨wt,hwt⟩:∃ z,z=wr.alloc (.cells recZ 55):=⟨_,rfl⟩
    have ft:Fr none_ wr wt:=by rw [hwt];exact (Fr.refl none_ wr).alloc _
    have BT:Hid (Blk wt wr.heap.size 55 recZ):=hid_ (by rw [hwt];exact Blk.new wr _ _)
    have It:=hid_ (Ir.out.keep ft)
    have Dt_:=hid_ (fun X hX=>(Do.out X hX).keep ft)
    have Lt:=hid_ (own_none Lr.out ft)
    have FT:=hid_ (FR.out.then_none ft)
    have HT0:=hid_ FR.out.size
    change Code.wp _ _ _ _ (wr.alloc (.cells recZ 55))
    rw [← hwt]
    clear hwt ft
    by_cases hkl:k < J.bases.length
    ·have hkd:decide ((k:Int) < (J.bases.length:Int))=true:=by simp;omega
     have hi2:(k:Int) < (J.bases.length:Int):=by omega
     obtain ⟨X,hX⟩:∃ X,Ds[k]?=some X:=⟨_,List.getElem?_eq_getElem (by have:=congrArg List.length MK.out.ds;simp at this;omega)⟩
     have HX:=hid_ hX
     have EX:=hid_ (show jbase J k=noNext X.R from by
      have hq:J.bases[k]?=some X.R:=by rw [← MK.out.ds,List.getElem?_map,hX];rfl
      unfold jbase
      rw [hq]
      rfl)
     obtain ⟨gl,hgl,hrl⟩:=cr_row Lt.out hX
     subst hgl
     have HR:=hid_ hrl
     clear hX hrl
     go_upto_region 7 with (first | (refine wpList_load_mid rfl 55 (.tmp 35) rfl gl (k * 15) rfl (crA X).toList _ HR.out Tryz.underlying55 rfl rec_size ?_) | (refine wpList_store_mid rfl 55 (.tmp 5) (.tmp 36) rfl wr.heap.size 0 (crA X) rfl rfl (BT.out.there9 rfl) rec_size (by simp [Value.oneCell']) ?_;obtain ⟨ws,hws⟩:∃ z,z=wt.setCells wr.heap.size 0 (crA X).toList:=⟨_,rfl⟩;change wpList _ _ _ _ _ (wt.setCells wr.heap.size 0 (crA X).toList);rw [← hws];have P1:Hid (Blk ws wr.heap.size 55 (crA X)∧Fr (only wr.heap.size) wt ws):=hid_ (by rw [hws];exact BT.out.over9 (crA X).toList rfl);clear hws))
     obtain ⟨Xr,xr,Xe,xe,hXe⟩:∃ Xr xr Xe xe,X=⟨X.R,Xr,xr,Xe,xe⟩:=⟨_,_,_,_,rfl⟩
     have BS:=hid_ P1.out.1
     have fS:=P1.out.2
     have RX:=hid_ ((Dt_.out X (List.mem_of_getElem? HX.out)).only fS BT.out (by decide) (by decide))
     have Is:=hid_ (show Inst ws B i { D with bases:=jbases J k } { a with bv:=bv,Cs:=Es } from It.out.fr fS (fun g hg=>only_ne (Nat.ne_of_lt (Ir.out.foot_lt hg))) (fun g t cs hb ht e=>by
      have e':g=wr.heap.size:=e
      subst e'
      obtain ⟨rfl,_⟩:=hb.uniq BT.out
      rcases ht with h | h | h <;> revert h <;> decide))
     have FS:=hid_ (FT.out.then_only fS (.inr HT0.out))
     have HJB:=hid_ (show RowsOk (jbase J k) by rw [EX.out];exact HZ.out.1.2 X.R (by rw [← MK.out.ds];exact List.mem_map.2 ⟨X,List.mem_of_getElem? HX.out,rfl⟩))
     rw [hXe] at BS RX
     have EB:=EX
     clear fS P1 hXe
     have y13:=BS.out.frozen 13
     have y14:=BS.out.frozen 14
     have z13:∃ u,ws.cell? ⟨wr.heap.size,13,none⟩=some u:=⟨_,BS.out.cell' rfl⟩
     obtain ⟨u13,z13⟩:=z13
     have z14:∃ u,ws.cell? ⟨wr.heap.size,14,none⟩=some u:=⟨_,BS.out.cell' rfl⟩
     obtain ⟨u14,z14⟩:=z14
     go_upto_region 8 with fail
     obtain ⟨wn,hwn⟩:∃ z,z=(ws.setCell ⟨wr.heap.size,13,none⟩ (.int .i64 0)).setCell ⟨wr.heap.size,14,none⟩ (.int .i64 0):=⟨_,rfl⟩
     have fn:Fr (only wr.heap.size) ws wn:=by rw [hwn];exact (Fr.only1 ws ⟨wr.heap.size,13,none⟩ _).trans (Fr.only1 _ ⟨wr.heap.size,14,none⟩ _) (fun _ _=>id) (fun _ _=>id)
     have BN:=hid_ (show Blk wn wr.heap.size 55 (recA (jbase J k) (.slice Xr (jbase J k).rows.length xr) (.slice Xe (jbase J k).ents.length xe)) by rw [hwn];have hq:=(BS.out.set_ 13 (.int .i64 0)).set_ 14 (.int .i64 0);rw [EB.out];exact hq)
     have In:=hid_ (show Inst wn B i { D with bases:=jbases J k } { a with bv:=bv,Cs:=Es } from Is.out.fr fn (fun g hg=>only_ne (Nat.ne_of_lt (Ir.out.foot_lt hg))) (fun g t cs hb ht e=>by
      have e':g=wr.heap.size:=e
      subst e'
      obtain ⟨rfl,_⟩:=hb.uniq BS.out
      rcases ht with h | h | h <;> revert h <;> decide))
     have RN:=hid_ (show RecOwn wn 0 (jbase J k) (.slice Xr (jbase J k).rows.length xr) (.slice Xe (jbase J k).ents.length xe) by rw [EB.out];have hq:=RX.out.only fn BS.out (by decide) (by decide);exact ⟨hq.r,hq.e⟩)
     have FN:=hid_ (FS.out.then_only fn (.inr HT0.out))
     change Code.wp _ _ _ _ ((ws.setCell ⟨wr.heap.size,13,none⟩ (.int .i64 0)).setCell ⟨wr.heap.size,14,none⟩ (.int .i64 0))
     rw [← hwn]
     clear hwn fn y13 y14 z13 z14 u13 u14 BS Is RX FS
     obtain ⟨bA,bc,hbve⟩:∃ bA bc,bv=.slice bA k bc:=by
      obtain ⟨_,_,_,_,A5,c5,_,_,e5⟩:=In.out.shapes
      exact ⟨A5,c5,by simpa [jbases_len] using e5⟩
     subst hbve
     have i7:wn.cell? ⟨i,7,none⟩=some (.slice bA k bc):=In.out.b.cell' rfl
     clear i7
     have hEl:Es.length=k:=by have:=congrArg List.length In.out.cs;simpa [jbases_len] using this
     have HEl:=hid_ hEl
     clear hEl
     have hS0:(fun w':World=>Blk w' i 112 (inA { D with bases:=jbases J k } { a with bv:=.slice bA k bc,Cs:=Es })∧Blk w' wr.heap.size 55 (recA (jbase J k) (.slice Xr (jbase J k).rows.length xr) (.slice Xe (jbase J k).ents.length xe))) wn.drew:=⟨In.out.b.drew,BN.out.drew⟩
     refine wp_region_U (m:=8) (S:=(fun w':World=>Blk w' i 112 (inA { D with bases:=jbases J k } { a with bv:=.slice bA k bc,Cs:=Es })∧Blk w' wr.heap.size 55 (recA (jbase J k) (.slice Xr (jbase J k).rows.length xr) (.slice Xe (jbase J k).ents.length xe)))) (by kernel_rfl) ?_
     refine wpAnyU_take2 (i:=0) (v:=_) rfl (by kernel_rfl) (by kernel_rfl) (by kernel_rfl) (by kernel_rfl) (fun _ _ _ h=>h) (.inl ⟨by kernel_rfl,fun w' hS=>by go_simp;rfl⟩) hS0 ?_
     refine wpAnyU_take2 (i:=1) (v:=_) rfl (by kernel_rfl) (by kernel_rfl) (by kernel_rfl) (by kernel_rfl) (fun _ _ _ h=>h) (.inl ⟨by kernel_rfl,fun w' hS=>by go_simp;rfl⟩) hS0 ?_
     refine wpAnyU_take2 (i:=2) (v:=_) rfl (by kernel_rfl) (by kernel_rfl) (by kernel_rfl) (by kernel_rfl) (fun _ _ _ h=>h) (.inl ⟨by kernel_rfl,fun w' hS=>by go_simp;rfl⟩) hS0 ?_
     refine wpAnyU_take2 (i:=3) (v:=_) rfl (by kernel_rfl) (by kernel_rfl) (by kernel_rfl) (by kernel_rfl) (fun _ _ _ h=>h) (.inl ⟨by kernel_rfl,fun w' hS=>by go_simp;rfl⟩) hS0 ?_
     refine wpAnyU_take2 (i:=4) (v:=_) rfl (by kernel_rfl) (by kernel_rfl) (by kernel_rfl) (by kernel_rfl) (fun _ _ _ h=>h) (.inl ⟨by kernel_rfl,fun w' hS=>by have s_:w'.cell? ⟨i,7,none⟩=some (.slice bA k bc):=hS.1.cell' rfl;go_simp;rfl⟩) hS0 ?_
     refine wpAnyU_take2 (i:=5) (v:=_) rfl (by kernel_rfl) (by kernel_rfl) (by kernel_rfl) (by kernel_rfl) (fun _ _ _ h=>h) (.inl ⟨by kernel_rfl,fun w' hS=>by have s_0:w'.cell? ⟨wr.heap.size,0,none⟩=some (.int .i64 (jbase J k).kind):=hS.2.cell' rfl;have s_1:w'.cell? ⟨wr.heap.size,1,none⟩=some (.string (jbase J k).low):=hS.2.cell' rfl;have s_2:w'.cell? ⟨wr.heap.size,2,none⟩=some (.string (jbase J k).high):=hS.2.cell' rfl;have s_3:w'.cell? ⟨wr.heap.size,3,none⟩=some (.bool (jbase J k).unb):=hS.2.cell' rfl;have s_4:w'.cell? ⟨wr.heap.size,4,none⟩=some (.int .i64 (jbase J k).right):=hS.2.cell' rfl;have s_5:w'.cell? ⟨wr.heap.size,5,none⟩=some (.slice Xr (jbase J k).rows.length xr):=hS.2.cell' rfl;have s_6:w'.cell? ⟨wr.heap.size,6,none⟩=some (.slice Xe (jbase J k).ents.length xe):=hS.2.cell' rfl;have s_7:w'.cell? ⟨wr.heap.size,7,none⟩=some (.string (jbase J k).key):=hS.2.cell' rfl;have s_8:w'.cell? ⟨wr.heap.size,8,none⟩=some (.string (jbase J k).val):=hS.2.cell' rfl;have s_9:w'.cell? ⟨wr.heap.size,9,none⟩=some (.int .i64 (jbase J k).page):=hS.2.cell' rfl;have s_10:w'.cell? ⟨wr.heap.size,10,none⟩=some (.int .i64 (jbase J k).hpage):=hS.2.cell' rfl;have s_11:w'.cell? ⟨wr.heap.size,11,none⟩=some (.int .i64 (jbase J k).hleft):=hS.2.cell' rfl;have s_12:w'.cell? ⟨wr.heap.size,12,none⟩=some (.string (jbase J k).hkey):=hS.2.cell' rfl;have s_13:w'.cell? ⟨wr.heap.size,13,none⟩=some (.int .i64 (jbase J k).nslot):=hS.2.cell' rfl;have s_14:w'.cell? ⟨wr.heap.size,14,none⟩=some (.int .i64 (jbase J k).ngen):=hS.2.cell' rfl;go_simp;rfl⟩) hS0 ?_
     refine wpAnyU_oneW (i:=6) rfl (by kernel_rfl) (by kernel_rfl) ?_
     go_simp
     refine ⟨⟨hS0.1.alloc _,hS0.2.alloc _⟩,?_⟩
     obtain ⟨w3,hw3⟩:∃ z,z=wn.drew.alloc (.cells (recA (jbase J k) (.slice Xr (jbase J k).rows.length xr) (.slice Xe (jbase J k).ents.length xe)) 55):=⟨_,rfl⟩
     have f3:Fr none_ wn w3:=by rw [hw3];exact (Fr.refl none_ wn).drew.alloc _
     have PR:Hid (Blk w3 wn.heap.size 55 (recA (jbase J k) (.slice Xr (jbase J k).rows.length xr) (.slice Xe (jbase J k).ents.length xe))):=hid_ (by rw [hw3];exact Blk.new wn.drew _ _)
     replace In:=hid_ (In.out.keep f3)
     replace RN:=hid_ (RN.out.keep f3)
     replace FN:=hid_ (FN.out.then_none f3)
     have BN3:=hid_ (BN.out.fr f3 id)
     have NT:=hid_ (show ∀ g,(Value.slice bA k bc).ownBlock=some g→g≠wr.heap.size from fun g hg=>Nat.ne_of_lt (Ir.out.foot_lt (.inr (.inr (.inl hg)))))
     change wpAnyU _ _ _ _ _ _ _ _ _ (wn.drew.alloc (.cells (recA (jbase J k) (.slice Xr (jbase J k).rows.length xr) (.slice Xe (jbase J k).ents.length xe)) 55))
     rw [← hw3]
     clear hw3 f3 hS0
     refine wpAnyU_oneW (i:=7) rfl (by kernel_rfl) (by kernel_rfl) ?_
     refine wp_append_at _ (.tmp 43) (.tmp 45) 49 rfl B 55 r0 _ 15 192 Tryz.underlying49 Hr.out.1 Hr.out.2.1 Hr.out.2.2.1 Hr.out.2.2.2 rfl (by omega) (.slice bA k bc) Es.length (crFlat Es) rfl In.out.bs (some ⟨wn.heap.size,0,none⟩) 1 1 (crA ⟨jbase J k,Xr,xr,Xe,xe⟩).toList rfl (reads_blk9 PR.out) (cr_one _) (by have:=HEl.out;simp only [maxLen];omega) (by have:=HEl.out;omega) (by have h1:=HZ.out.2.2.2.2;have h2:=HSW.out;have h3:=FN.out.size;omega) ?_
     intro v' w4 hown hgr hat
     have hBi:=In.out.b.grown hgr (Ne.symm (own_blk_ne In.out.bs In.out.b (by decide)))
     refine ⟨.inr ⟨hBi,BN3.out.grown hgr (fun e=>NT.out _ e.symm rfl)⟩,?_⟩
     have hp:=In.out.pushB (C:=⟨jbase J k,Xr,xr,Xe,xe⟩) hown hgr RN.out HJB.out (by simp only [jbases_len];omega)
     obtain ⟨A5,c5,rfl⟩:=hown.shape
     have HP:=hid_ (And.intro hp (And.intro hat FN.out.size))
     have i7:∃ u,w4.cell? ⟨i,7,none⟩=some u:=⟨_,hBi.cell' rfl⟩
     obtain ⟨u7,i7⟩:=i7
     have y7:=hBi.frozen 7
     clear hp hown hgr hat PR hBi BN3
     refine wpAnyU_oneW (i:=8) rfl (by kernel_rfl) (by kernel_rfl) ?_
     go_simp
     refine wpAnyU_oneW (i:=9) rfl (by kernel_rfl) (by kernel_rfl) ?_
     go_simp
     refine wpAnyU_oneW (i:=10) rfl (by kernel_rfl) (by kernel_rfl) ?_
     go_simp
     clear i7 y7
     refine wpAnyU_done (by kernel_rfl) ?_ _
     have REL:Inst (w4.setCell ⟨i,7,none⟩ (.slice A5 (Es.length+1) c5)) B i { D with bases:=jbases J (k+1) } { a with bv:=.slice A5 (Es.length+1) c5,Cs:=Es ++ [⟨jbase J k,Xr,xr,Xe,xe⟩] }∧(∀ g,(Value.slice A5 (Es.length+1) c5).ownBlock=some g→foot i a g∨wc.heap.size≤g)∧Fr (foot i a) wc (w4.setCell ⟨i,7,none⟩ (.slice A5 (Es.length+1) c5)):=by
      refine ⟨by rw [jbases_snoc];exact HP.out.1.1,fun g hg=>?_,FN.out.trans HP.out.1.2 (fun _ _=>id) (fun g hg hf=>?_)⟩
      ·rcases HP.out.2.1 with e | e
       ·exact HBV.out g (by rw [← e];exact hg)
       ·rw [e] at hg
        have e':w3.heap.size=g:=by injection hg
        have h1:=FN.out.size
        exact .inr (by omega)
      ·rcases hf with e | e | e | e
       ·exact .inl e
       ·exact .inr (.inl e)
       ·rcases HBV.out g e with e2 | e2
        ·exact e2
        ·omega
       ·exact .inr (.inr (.inr e))
     have HREL:=hid_ REL
     clear REL HP
     go_wp2_with fail
     go_roundw
     case rel=>exact ⟨k+1,.slice A5 (Es.length+1) c5,Es ++ [⟨jbase J k,Xr,xr,Xe,xe⟩],by omega,by go_num,HREL.out.1,HREL.out.2.1,HREL.out.2.2⟩
     case measure=>simp [intOf];omega
    ·have hkd:decide ((k:Int) < (J.bases.length:Int))=false:=by simp;omega
     have EB:=hid_ (show jbase J k=noNext Rc.zero by unfold jbase;rw [List.getElem?_eq_none (by omega)];rfl)
     go_upto_region 7 with fail
     obtain ⟨ws,hws⟩:∃ z:World,z=wt:=⟨_,rfl⟩
     rw [← hws] at BT It Dt_ Lt FT
     rw [← hws]
     clear hws
     obtain ⟨Xr,xr,Xe,xe,hXs⟩:∃ (Xr:Option Addr) (xr:Nat) (Xe:Option Addr) (xe:Nat),Xr=none∧xr=0∧Xe=none∧xe=0:=⟨_,_,_,_,rfl,rfl,rfl,rfl⟩
     have BS:=hid_ (show Blk ws wr.heap.size 55 (recA Rc.zero (.slice Xr Rc.zero.rows.length xr) (.slice Xe Rc.zero.ents.length xe)) by obtain ⟨rfl,rfl,rfl,rfl⟩:=hXs;exact BT.out)
     have RX:=hid_ (show RecOwn ws 0 Rc.zero (.slice Xr Rc.zero.rows.length xr) (.slice Xe Rc.zero.ents.length xe) by obtain ⟨rfl,rfl,rfl,rfl⟩:=hXs;exact RecOwn.zero _ _)
     have Is:=It
     have FS:=FT
     have HJB:=hid_ (show RowsOk (jbase J k) by rw [EB.out];exact ⟨Nat.zero_le _,Nat.zero_le _⟩)
     clear hXs
     have y13:=BS.out.frozen 13
     have y14:=BS.out.frozen 14
     have z13:∃ u,ws.cell? ⟨wr.heap.size,13,none⟩=some u:=⟨_,BS.out.cell' rfl⟩
     obtain ⟨u13,z13⟩:=z13
     have z14:∃ u,ws.cell? ⟨wr.heap.size,14,none⟩=some u:=⟨_,BS.out.cell' rfl⟩
     obtain ⟨u14,z14⟩:=z14
     go_upto_region 8 with fail
     obtain ⟨wn,hwn⟩:∃ z,z=(ws.setCell ⟨wr.heap.size,13,none⟩ (.int .i64 0)).setCell ⟨wr.heap.size,14,none⟩ (.int .i64 0):=⟨_,rfl⟩
     have fn:Fr (only wr.heap.size) ws wn:=by rw [hwn];exact (Fr.only1 ws ⟨wr.heap.size,13,none⟩ _).trans (Fr.only1 _ ⟨wr.heap.size,14,none⟩ _) (fun _ _=>id) (fun _ _=>id)
     have BN:=hid_ (show Blk wn wr.heap.size 55 (recA (jbase J k) (.slice Xr (jbase J k).rows.length xr) (.slice Xe (jbase J k).ents.length xe)) by rw [hwn];have hq:=(BS.out.set_ 13 (.int .i64 0)).set_ 14 (.int .i64 0);rw [EB.out];exact hq)
     have In:=hid_ (show Inst wn B i { D with bases:=jbases J k } { a with bv:=bv,Cs:=Es } from Is.out.fr fn (fun g hg=>only_ne (Nat.ne_of_lt (Ir.out.foot_lt hg))) (fun g t cs hb ht e=>by
      have e':g=wr.heap.size:=e
      subst e'
      obtain ⟨rfl,_⟩:=hb.uniq BS.out
      rcases ht with h | h | h <;> revert h <;> decide))
     have RN:=hid_ (show RecOwn wn 0 (jbase J k) (.slice Xr (jbase J k).rows.length xr) (.slice Xe (jbase J k).ents.length xe) by rw [EB.out];have hq:=RX.out.only fn BS.out (by decide) (by decide);exact ⟨hq.r,hq.e⟩)
     have FN:=hid_ (FS.out.then_only fn (.inr HT0.out))
     change Code.wp _ _ _ _ ((ws.setCell ⟨wr.heap.size,13,none⟩ (.int .i64 0)).setCell ⟨wr.heap.size,14,none⟩ (.int .i64 0))
     rw [← hwn]
     clear hwn fn y13 y14 z13 z14 u13 u14 BS Is RX FS
     obtain ⟨bA,bc,hbve⟩:∃ bA bc,bv=.slice bA k bc:=by
      obtain ⟨_,_,_,_,A5,c5,_,_,e5⟩:=In.out.shapes
      exact ⟨A5,c5,by simpa [jbases_len] using e5⟩
     subst hbve
     have i7:wn.cell? ⟨i,7,none⟩=some (.slice bA k bc):=In.out.b.cell' rfl
     clear i7
     have hEl:Es.length=k:=by have:=congrArg List.length In.out.cs;simpa [jbases_len] using this
     have HEl:=hid_ hEl
     clear hEl
     have hS0:(fun w':World=>Blk w' i 112 (inA { D with bases:=jbases J k } { a with bv:=.slice bA k bc,Cs:=Es })∧Blk w' wr.heap.size 55 (recA (jbase J k) (.slice Xr (jbase J k).rows.length xr) (.slice Xe (jbase J k).ents.length xe))) wn.drew:=⟨In.out.b.drew,BN.out.drew⟩
     refine wp_region_U (m:=8) (S:=(fun w':World=>Blk w' i 112 (inA { D with bases:=jbases J k } { a with bv:=.slice bA k bc,Cs:=Es })∧Blk w' wr.heap.size 55 (recA (jbase J k) (.slice Xr (jbase J k).rows.length xr) (.slice Xe (jbase J k).ents.length xe)))) (by kernel_rfl) ?_
     refine wpAnyU_take2 (i:=0) (v:=_) rfl (by kernel_rfl) (by kernel_rfl) (by kernel_rfl) (by kernel_rfl) (fun _ _ _ h=>h) (.inl ⟨by kernel_rfl,fun w' hS=>by go_simp;rfl⟩) hS0 ?_
     refine wpAnyU_take2 (i:=1) (v:=_) rfl (by kernel_rfl) (by kernel_rfl) (by kernel_rfl) (by kernel_rfl) (fun _ _ _ h=>h) (.inl ⟨by kernel_rfl,fun w' hS=>by go_simp;rfl⟩) hS0 ?_
     refine wpAnyU_take2 (i:=2) (v:=_) rfl (by kernel_rfl) (by kernel_rfl) (by kernel_rfl) (by kernel_rfl) (fun _ _ _ h=>h) (.inl ⟨by kernel_rfl,fun w' hS=>by go_simp;rfl⟩) hS0 ?_
     refine wpAnyU_take2 (i:=3) (v:=_) rfl (by kernel_rfl) (by kernel_rfl) (by kernel_rfl) (by kernel_rfl) (fun _ _ _ h=>h) (.inl ⟨by kernel_rfl,fun w' hS=>by go_simp;rfl⟩) hS0 ?_
     refine wpAnyU_take2 (i:=4) (v:=_) rfl (by kernel_rfl) (by kernel_rfl) (by kernel_rfl) (by kernel_rfl) (fun _ _ _ h=>h) (.inl ⟨by kernel_rfl,fun w' hS=>by have s_:w'.cell? ⟨i,7,none⟩=some (.slice bA k bc):=hS.1.cell' rfl;go_simp;rfl⟩) hS0 ?_
     refine wpAnyU_take2 (i:=5) (v:=_) rfl (by kernel_rfl) (by kernel_rfl) (by kernel_rfl) (by kernel_rfl) (fun _ _ _ h=>h) (.inl ⟨by kernel_rfl,fun w' hS=>by have s_0:w'.cell? ⟨wr.heap.size,0,none⟩=some (.int .i64 (jbase J k).kind):=hS.2.cell' rfl;have s_1:w'.cell? ⟨wr.heap.size,1,none⟩=some (.string (jbase J k).low):=hS.2.cell' rfl;have s_2:w'.cell? ⟨wr.heap.size,2,none⟩=some (.string (jbase J k).high):=hS.2.cell' rfl;have s_3:w'.cell? ⟨wr.heap.size,3,none⟩=some (.bool (jbase J k).unb):=hS.2.cell' rfl;have s_4:w'.cell? ⟨wr.heap.size,4,none⟩=some (.int .i64 (jbase J k).right):=hS.2.cell' rfl;have s_5:w'.cell? ⟨wr.heap.size,5,none⟩=some (.slice Xr (jbase J k).rows.length xr):=hS.2.cell' rfl;have s_6:w'.cell? ⟨wr.heap.size,6,none⟩=some (.slice Xe (jbase J k).ents.length xe):=hS.2.cell' rfl;have s_7:w'.cell? ⟨wr.heap.size,7,none⟩=some (.string (jbase J k).key):=hS.2.cell' rfl;have s_8:w'.cell? ⟨wr.heap.size,8,none⟩=some (.string (jbase J k).val):=hS.2.cell' rfl;have s_9:w'.cell? ⟨wr.heap.size,9,none⟩=some (.int .i64 (jbase J k).page):=hS.2.cell' rfl;have s_10:w'.cell? ⟨wr.heap.size,10,none⟩=some (.int .i64 (jbase J k).hpage):=hS.2.cell' rfl;have s_11:w'.cell? ⟨wr.heap.size,11,none⟩=some (.int .i64 (jbase J k).hleft):=hS.2.cell' rfl;have s_12:w'.cell? ⟨wr.heap.size,12,none⟩=some (.string (jbase J k).hkey):=hS.2.cell' rfl;have s_13:w'.cell? ⟨wr.heap.size,13,none⟩=some (.int .i64 (jbase J k).nslot):=hS.2.cell' rfl;have s_14:w'.cell? ⟨wr.heap.size,14,none⟩=some (.int .i64 (jbase J k).ngen):=hS.2.cell' rfl;go_simp;rfl⟩) hS0 ?_
     refine wpAnyU_oneW (i:=6) rfl (by kernel_rfl) (by kernel_rfl) ?_
     go_simp
     refine ⟨⟨hS0.1.alloc _,hS0.2.alloc _⟩,?_⟩
     obtain ⟨w3,hw3⟩:∃ z,z=wn.drew.alloc (.cells (recA (jbase J k) (.slice Xr (jbase J k).rows.length xr) (.slice Xe (jbase J k).ents.length xe)) 55):=⟨_,rfl⟩
     have f3:Fr none_ wn w3:=by rw [hw3];exact (Fr.refl none_ wn).drew.alloc _
     have PR:Hid (Blk w3 wn.heap.size 55 (recA (jbase J k) (.slice Xr (jbase J k).rows.length xr) (.slice Xe (jbase J k).ents.length xe))):=hid_ (by rw [hw3];exact Blk.new wn.drew _ _)
     replace In:=hid_ (In.out.keep f3)
     replace RN:=hid_ (RN.out.keep f3)
     replace FN:=hid_ (FN.out.then_none f3)
     have BN3:=hid_ (BN.out.fr f3 id)
     have NT:=hid_ (show ∀ g,(Value.slice bA k bc).ownBlock=some g→g≠wr.heap.size from fun g hg=>Nat.ne_of_lt (Ir.out.foot_lt (.inr (.inr (.inl hg)))))
     change wpAnyU _ _ _ _ _ _ _ _ _ (wn.drew.alloc (.cells (recA (jbase J k) (.slice Xr (jbase J k).rows.length xr) (.slice Xe (jbase J k).ents.length xe)) 55))
     rw [← hw3]
     clear hw3 f3 hS0
     refine wpAnyU_oneW (i:=7) rfl (by kernel_rfl) (by kernel_rfl) ?_
     refine wp_append_at _ (.tmp 43) (.tmp 45) 49 rfl B 55 r0 _ 15 192 Tryz.underlying49 Hr.out.1 Hr.out.2.1 Hr.out.2.2.1 Hr.out.2.2.2 rfl (by omega) (.slice bA k bc) Es.length (crFlat Es) rfl In.out.bs (some ⟨wn.heap.size,0,none⟩) 1 1 (crA ⟨jbase J k,Xr,xr,Xe,xe⟩).toList rfl (reads_blk9 PR.out) (cr_one _) (by have:=HEl.out;simp only [maxLen];omega) (by have:=HEl.out;omega) (by have h1:=HZ.out.2.2.2.2;have h2:=HSW.out;have h3:=FN.out.size;omega) ?_
     intro v' w4 hown hgr hat
     have hBi:=In.out.b.grown hgr (Ne.symm (own_blk_ne In.out.bs In.out.b (by decide)))
     refine ⟨.inr ⟨hBi,BN3.out.grown hgr (fun e=>NT.out _ e.symm rfl)⟩,?_⟩
     have hp:=In.out.pushB (C:=⟨jbase J k,Xr,xr,Xe,xe⟩) hown hgr RN.out HJB.out (by simp only [jbases_len];omega)
     obtain ⟨A5,c5,rfl⟩:=hown.shape
     have HP:=hid_ (And.intro hp (And.intro hat FN.out.size))
     have i7:∃ u,w4.cell? ⟨i,7,none⟩=some u:=⟨_,hBi.cell' rfl⟩
     obtain ⟨u7,i7⟩:=i7
     have y7:=hBi.frozen 7
     clear hp hown hgr hat PR hBi BN3
     refine wpAnyU_oneW (i:=8) rfl (by kernel_rfl) (by kernel_rfl) ?_
     go_simp
     refine wpAnyU_oneW (i:=9) rfl (by kernel_rfl) (by kernel_rfl) ?_
     go_simp
     refine wpAnyU_oneW (i:=10) rfl (by kernel_rfl) (by kernel_rfl) ?_
     go_simp
     clear i7 y7
     refine wpAnyU_done (by kernel_rfl) ?_ _
     have REL:Inst (w4.setCell ⟨i,7,none⟩ (.slice A5 (Es.length+1) c5)) B i { D with bases:=jbases J (k+1) } { a with bv:=.slice A5 (Es.length+1) c5,Cs:=Es ++ [⟨jbase J k,Xr,xr,Xe,xe⟩] }∧(∀ g,(Value.slice A5 (Es.length+1) c5).ownBlock=some g→foot i a g∨wc.heap.size≤g)∧Fr (foot i a) wc (w4.setCell ⟨i,7,none⟩ (.slice A5 (Es.length+1) c5)):=by
      refine ⟨by rw [jbases_snoc];exact HP.out.1.1,fun g hg=>?_,FN.out.trans HP.out.1.2 (fun _ _=>id) (fun g hg hf=>?_)⟩
      ·rcases HP.out.2.1 with e | e
       ·exact HBV.out g (by rw [← e];exact hg)
       ·rw [e] at hg
        have e':w3.heap.size=g:=by injection hg
        have h1:=FN.out.size
        exact .inr (by omega)
      ·rcases hf with e | e | e | e
       ·exact .inl e
       ·exact .inr (.inl e)
       ·rcases HBV.out g e with e2 | e2
        ·exact e2
        ·omega
       ·exact .inr (.inr (.inr e))
     have HREL:=hid_ REL
     clear REL HP
     go_wp2_with fail
     go_roundw
     case rel=>exact ⟨k+1,.slice A5 (Es.length+1) c5,Es ++ [⟨jbase J k,Xr,xr,Xe,xe⟩],by omega,by go_num,HREL.out.1,HREL.out.2.1,HREL.out.2.2⟩
     case measure=>simp [intOf];omega
   ·obtain rfl:k=nn:=by omega
    have HLb:=hid_ (show ¬ foot i a b from fun hf=>by have h1:=MK.out.hb;have h2:=FL.out b hf;omega)
    have BH:=hid_ (MK.out.bk.fr FR.out HLb.out)
    have RO:=hid_ (MK.out.hr.none_of FR.out (fun k t cs hk hb=>I1.out.foot_ty k t cs hk hb))
    have CCr:=hid_ (cellFrS MK.out.cc FR.out HZ.out.2.2.2.1)
    have CBr:=hid_ (MK.out.cb.elim fun cs hb=>(⟨cs,hb.fr FR.out HZ.out.2.2.2.1⟩:∃ cs:CS q,Blk wr q.cab 3 cs.1))
    have HCI:=hid_ (show q.cab≠i from fun e=>HZ.out.2.2.2.1 (.inl e))
    have FA:=hid_ (MK.out.f.trans (S'':=fun k=>foot i a k∨k=q.cab) FR.out (fun _ _ e=>.inr e) (fun _ _ e=>.inl e))
    have HZH:=hid_ (show RowsOk (jhead J D.pages) by have hq:=HZ.out.1.1;unfold jhead;split <;> exact hq)
    have HFL:=hid_ (show FootLe i a { a with bv:=bv,Cs:=Es } w from fun g hg=>by
     rcases hg with e | e | e | e
     ·exact .inl (.inl e)
     ·exact .inl (.inr (.inl e))
     ·rcases HBV.out g e with e2 | e2
      ·exact .inl e2
      ·exact .inr (by have:=HSW.out;omega)
     ·exact .inl (.inr (.inr (.inr e))))
    have r0:wr.cell? ⟨b,0,none⟩=some (.int .i64 (jhead J D.pages).kind):=BH.out.cell' rfl
    have r1:wr.cell? ⟨b,1,none⟩=some (.string (jhead J D.pages).low):=BH.out.cell' rfl
    have r2:wr.cell? ⟨b,2,none⟩=some (.string (jhead J D.pages).high):=BH.out.cell' rfl
    have r3:wr.cell? ⟨b,3,none⟩=some (.bool (jhead J D.pages).unb):=BH.out.cell' rfl
    have r4:wr.cell? ⟨b,4,none⟩=some (.int .i64 (jhead J D.pages).right):=BH.out.cell' rfl
    have r5:wr.cell? ⟨b,5,none⟩=some (.slice Ar (jhead J D.pages).rows.length cr):=BH.out.cell' rfl
    have r6:wr.cell? ⟨b,6,none⟩=some (.slice Ae (jhead J D.pages).ents.length ce):=BH.out.cell' rfl
    have r7:wr.cell? ⟨b,7,none⟩=some (.string (jhead J D.pages).key):=BH.out.cell' rfl
    have r8:wr.cell? ⟨b,8,none⟩=some (.string (jhead J D.pages).val):=BH.out.cell' rfl
    have r9:wr.cell? ⟨b,9,none⟩=some (.int .i64 (jhead J D.pages).page):=BH.out.cell' rfl
    have r10:wr.cell? ⟨b,10,none⟩=some (.int .i64 (jhead J D.pages).hpage):=BH.out.cell' rfl
    have r11:wr.cell? ⟨b,11,none⟩=some (.int .i64 (jhead J D.pages).hleft):=BH.out.cell' rfl
    have r12:wr.cell? ⟨b,12,none⟩=some (.string (jhead J D.pages).hkey):=BH.out.cell' rfl
    have r13:wr.cell? ⟨b,13,none⟩=some (.int .i64 (jhead J D.pages).nslot):=BH.out.cell' rfl
    have r14:wr.cell? ⟨b,14,none⟩=some (.int .i64 (jhead J D.pages).ngen):=BH.out.cell' rfl
    have HT:wr.there i 8 15:=Ir.out.b.there_at (by show 8+15≤27;decide)
    go_upto_region 11 with (refine wpList_store_mid rfl 55 (.tmp 53) (.tmp 51) rfl i 8 (recA (jhead J D.pages) (.slice Ar (jhead J D.pages).rows.length cr) (.slice Ae (jhead J D.pages).ents.length ce)) rfl rfl HT rec_size (by simp [Value.oneCell']) ?_;obtain ⟨w5,hw5⟩:∃ z,z=wr.setCells i 8 (recA (jhead J D.pages) (.slice Ar (jhead J D.pages).rows.length cr) (.slice Ae (jhead J D.pages).ents.length ce)).toList:=⟨_,rfl⟩;have B5:Hid (Blk w5 i 112 (inA { D with bases:=jbases J k,head:=(jhead J D.pages) } { a with bv:=bv,Cs:=Es,hvr:=.slice Ar (jhead J D.pages).rows.length cr,hve:=.slice Ae (jhead J D.pages).ents.length ce })):=hid_ (by rw [hw5];have hq:=Ir.out.b.setCells (recA (jhead J D.pages) (.slice Ar (jhead J D.pages).rows.length cr) (.slice Ae (jhead J D.pages).ents.length ce)).toList 8;rwa [setA_head] at hq);have F5:Hid (Fr (only i) wr w5):=hid_ (by rw [hw5];exact Fr.setCells (recA (jhead J D.pages) (.slice Ar (jhead J D.pages).rows.length cr) (.slice Ae (jhead J D.pages).ents.length ce)).toList 8 wr (Fr.refl _ _) (.inl (Eq.refl i)));change wpList _ _ _ _ _ (wr.setCells i 8 (recA (jhead J D.pages) (.slice Ar (jhead J D.pages).rows.length cr) (.slice Ae (jhead J D.pages).ents.length ce)).toList);rw [← hw5];clear hw5)
    clear HT r0 r1 r2 r3 r4 r5 r6 r7 r8 r9 r10 r11 r12 r13 r14
    have i3:w5.cell? ⟨i,3,none⟩=some (.int .i64 k):=by rw [← HNN.out];exact B5.out.cell' rfl
    have i5:∃ u,w5.cell? ⟨i,5,none⟩=some u:=⟨_,B5.out.cell' rfl⟩
    obtain ⟨u5,i5⟩:=i5
    have i24:∃ u,w5.cell? ⟨i,24,none⟩=some u:=⟨_,B5.out.cell' rfl⟩
    obtain ⟨u24,i24⟩:=i24
    have y5:=B5.out.frozen 5
    have y24:=B5.out.frozen 24
    by_cases hk0:k=0
    ·subst hk0
     replace i3:w5.cell? ⟨i,3,none⟩=some (.int .i64 0):=i3
     go_wp2_with fail
     have B9:=(((B5.out.set_ 5 (.int .i64 1)).set_ 24 (.int .i64 0)).set_ 5 (.int .i64 3))
     have F9:=(((F5.out.trans (Fr.only1 _ ⟨i,5,none⟩ (.int .i64 1)) (S'':=only i) (fun _ _=>id) (fun _ _=>id)).trans (Fr.only1 _ ⟨i,24,none⟩ (.int .i64 0)) (S'':=only i) (fun _ _=>id) (fun _ _=>id)).trans (Fr.only1 _ ⟨i,5,none⟩ (.int .i64 3)) (S'':=only i) (fun _ _=>id) (fun _ _=>id))
     have HI:=Ir.out.rehead (hd:=(jhead J D.pages)) (s:=3) (t:=0) F9 B9 RO.out HZH.out
     refine bodyPost_end (v:=.tuple #[]) (by simp [results,Tryz.results37,go_sem]) rfl ⟨{ a with bv:=bv,Cs:=Es,hvr:=.slice Ar (jhead J D.pages).rows.length cr,hve:=.slice Ae (jhead J D.pages).ents.length ce },rfl,?_,FA.out.trans F9 (fun _ _=>id) (fun _ _ e=>.inl (.inl e)),HFL.out,rfl,cellFrS CCr.out F9 (only_ne HCI.out),CBr.out.elim fun cs hb=>⟨cs,hb.fr F9 (only_ne HCI.out)⟩⟩
     rw [show madeD J D={ D with bases:=jbases J 0,head:=(jhead J D.pages),stage:=3,at_:=0 } by unfold madeD;rw [HNN.out];simp]
     exact HI
    ·have hk1:((k:Int)==0)=false:=by simp;omega
     have hk2:¬ (k:Int)=0:=by omega
     clear hk0
     go_wp2_with fail
     have B9:=((B5.out.set_ 5 (.int .i64 1)).set_ 24 (.int .i64 0))
     have F9:=((F5.out.trans (Fr.only1 _ ⟨i,5,none⟩ (.int .i64 1)) (S'':=only i) (fun _ _=>id) (fun _ _=>id)).trans (Fr.only1 _ ⟨i,24,none⟩ (.int .i64 0)) (S'':=only i) (fun _ _=>id) (fun _ _=>id))
     have HI:=Ir.out.rehead (hd:=(jhead J D.pages)) (s:=1) (t:=0) F9 B9 RO.out HZH.out
     refine bodyPost_end (v:=.tuple #[]) (by simp [results,Tryz.results37,go_sem]) rfl ⟨{ a with bv:=bv,Cs:=Es,hvr:=.slice Ar (jhead J D.pages).rows.length cr,hve:=.slice Ae (jhead J D.pages).ents.length ce },rfl,?_,FA.out.trans F9 (fun _ _=>id) (fun _ _ e=>.inl (.inl e)),HFL.out,rfl,cellFrS CCr.out F9 (only_ne HCI.out),CBr.out.elim fun cs hb=>⟨cs,hb.fr F9 (only_ne HCI.out)⟩⟩
     rw [show madeD J D={ D with bases:=jbases J k,head:=(jhead J D.pages),stage:=1,at_:=0 } by unfold madeD;rw [HNN.out];simp;omega]
     exact HI
end Go.Proofs.YthcpccddcgbanaaGreatDoor
