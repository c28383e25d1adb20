/- Texts of one proof, merged: Same10, Sb10. -/
import Derived.Test.YtfihfjbakfadkaaGreatDoorMvI
import Derived.Test.YtfihfjbakfadkaaGreatDoorMvN
import Derived.Test.YtfihfjbakfadkaaGreatDoorMvO
namespace Go.Proofs.YtfihfjbakfadkaaGreatDoor
set_option maxRecDepth 100000
set_option linter.unusedVariables false
open Go.RowKit Go.BigFrame
theorem rec_sz10:∀ w,(sizeOf 33).run Tryz.prog w=.ok 15 w:=fun w=>by kernel_rfl
theorem ex_index15 {oi:Oper} {a:Act} (t e:TypeId) (x y:Operand) (b off n m c:Nat) (ho:oi.op=.indexAddr t x y) (hx:a.eval x=.slice (some ⟨b,off,none⟩) m c) (hy:a.eval y=.int .i64 n) (hu:Tryz.prog.underlying t=some (.slice e)) (hs:∀ w,(sizeOf e).run Tryz.prog w=.ok 15 w) (hn:n < m) (w:World) :
    (execOp a.eval oi).run Tryz.prog w=.ok (.value (.pointer (some ⟨b,off+n * 15,none⟩))) w:=by
  unfold execOp
  simp only [ho,hx,hy,Sem.run_bind,Sem.run_pure]
  have h0:(0:Int)≤(n:Int):=Int.natCast_nonneg _
  have h1:(n:Int) < (m:Int):=by omega
  simp [go_sem,hu,hs,h0,h1]
structure SmCh (w:World) (C C2:Option Addr) (nc:Nat) (L L2:List Ch):Prop where
  a:ChReads w C nc L
  b:ChReads w C2 nc L2
  m:L2.map (·.R)=L.map (·.R)
  rows:∀ D ∈ L,D.R.rows.length≤1000∧D.R.ents.length≤1000
theorem SmCh.keep {w w':World} {C C2:Option Addr} {nc:Nat} {L L2:List Ch} (h:SmCh w C C2 nc L L2) (hf:Fr none_ w w'):SmCh w' C C2 nc L L2:=⟨h.a.keep hf,h.b.keep hf,h.m,h.rows⟩
theorem SmCh.at_ {w:World} {C C2:Option Addr} {nc:Nat} {L L2:List Ch} (h:SmCh w C C2 nc L L2) {k:Nat} (hk:k < nc):∃ (R:Rc) (A1 A2 B1 B2:Option Addr) (c1 c2 d1 d2:Nat) (b1 o1 b2 o2:Nat),C=some ⟨b1,o1,none⟩∧C2=some ⟨b2,o2,none⟩∧w.rangeAt b1 (o1+k * 15) (recL ⟨R,A1,c1,B1,d1⟩)∧w.rangeAt b2 (o2+k * 15) (recL ⟨R,A2,c2,B2,d2⟩)∧RecReads w R A1 B1∧RecReads w R A2 B2∧R.rows.length≤1000∧R.ents.length≤1000:=by
  obtain ⟨E,hE⟩:∃ E,L[k]?=some E:=⟨_,List.getElem?_eq_getElem (by rw [h.a.1];exact hk)⟩
  obtain ⟨G,hG⟩:∃ G,L2[k]?=some G:=⟨_,List.getElem?_eq_getElem (by rw [h.b.1];exact hk)⟩
  have e:G.R=E.R:=by
    have h1:=congrArg (fun l=>l[k]?) h.m
    simp only [List.getElem?_map,hE,hG,Option.map_some] at h1
    exact Option.some.inj h1
  obtain ⟨b1,o1,e1,_,r1,k1⟩:=h.a.at_ hE
  obtain ⟨b2,o2,e2,_,r2,k2⟩:=h.b.at_ hG
  obtain ⟨RE,A1,c1,B1,d1⟩:=E
  obtain ⟨RG,A2,c2,B2,d2⟩:=G
  have e':RG=RE:=e
  subst e'
  have hz:=h.rows _ (List.mem_of_getElem? hE)
  exact ⟨RG,A1,A2,B1,B2,c1,c2,d1,d2,b1,o1,b2,o2,e1,e2,r1,r2,k1.rd,k2.rd,hz.1,hz.2⟩
structure SmPg (w:World) (refs:List (Int × Int)) (lv:Lw) (iv:Vw) (D D2 A A2 B B2:Option Addr):Prop where
  r1:Reads w 2 D refs.length (rpFlat refs)
  r2:Reads w 2 D2 refs.length (rpFlat refs)
  l1:Reads w 2 A lv.rows.length (rwFlat lv.rows)
  l2:Reads w 2 A2 lv.rows.length (rwFlat lv.rows)
  i1:Reads w 2 B iv.ents.length (etFlat iv.ents)
  i2:Reads w 2 B2 iv.ents.length (etFlat iv.ents)
  zr:refs.length≤5000
  zl:lv.rows.length≤300000
  zi:iv.ents.length≤2000
theorem SmPg.keep {w w':World} {refs:List (Int × Int)} {lv:Lw} {iv:Vw} {D D2 A A2 B B2:Option Addr} (h:SmPg w refs lv iv D D2 A A2 B B2) (hf:Fr none_ w w'):SmPg w' refs lv iv D D2 A A2 B B2:=
  ⟨h.r1.none_fr hf,h.r2.none_fr hf,h.l1.none_fr hf,h.l2.none_fr hf,h.i1.none_fr hf,h.i2.none_fr hf,h.zr,h.zl,h.zi⟩
set_option maxHeartbeats 8000000 in
theorem same10_ok (n hs hg:Int) (leaf:Bool) (lv:Lw) (iv:Vw) (refs:List (Int × Int)) (nc:Nat) (L L2:List Ch) (C C2 D D2 A A2 B B2:Option Addr) (x x2 y y2 c c2 d d2:Nat) (w:World) (hnc:nc≤5000) (h:SmCh w C C2 nc L L2) (h2:SmPg w refs lv iv D D2 A A2 B B2) :
  Calls Tryz.prog 11 #[.agg (pgA n hs hg (.slice C nc x) (.slice D refs.length y) leaf lv (.slice A lv.rows.length c) iv (.slice B iv.ents.length d)),.agg (pgA n hs hg (.slice C2 nc x2) (.slice D2 refs.length y2) leaf lv (.slice A2 lv.rows.length c2) iv (.slice B2 iv.ents.length d2))] w fun e w'=>e=.returned (.bool true)∧Fr none_ w w':=by
 obtain ⟨w0,hw0⟩:∃ z,z=(w.alloc (.cells (pgA n hs hg (.slice C nc x) (.slice D refs.length y) leaf lv (.slice A lv.rows.length c) iv (.slice B iv.ents.length d)) 40)).alloc (.cells (pgA n hs hg (.slice C2 nc x2) (.slice D2 refs.length y2) leaf lv (.slice A2 lv.rows.length c2) iv (.slice B2 iv.ents.length d2)) 48):=⟨_,rfl⟩
 have f0:Fr none_ w w0:=by rw [hw0];exact ((Fr.refl none_ w).alloc _).alloc _
 have BP:Hid (Blk w0 w.heap.size 40 (pgA n hs hg (.slice C nc x) (.slice D refs.length y) leaf lv (.slice A lv.rows.length c) iv (.slice B iv.ents.length d))):=hid_ (by rw [hw0];exact (Blk.new w _ _).alloc _)
 have BQ:Hid (Blk w0 (w.heap.size+1) 48 (pgA n hs hg (.slice C2 nc x2) (.slice D2 refs.length y2) leaf lv (.slice A2 lv.rows.length c2) iv (.slice B2 iv.ents.length d2))):=hid_ (by rw [hw0];exact Blk.new7 _ _ (by simp))
 have F0:=hid_ f0
 have H:=hid_ (h.keep f0)
 have H2:=hid_ (h2.keep f0)
 clear h h2 f0
 go_enter Tryz.func11,Tryz.ntmps11
 go_upto_region 1 with fail
 change Code.wp _ _ _ _ ((w.alloc (.cells (pgA n hs hg (.slice C nc x) (.slice D refs.length y) leaf lv (.slice A lv.rows.length c) iv (.slice B iv.ents.length d)) 40)).alloc (.cells (pgA n hs hg (.slice C2 nc x2) (.slice D2 refs.length y2) leaf lv (.slice A2 lv.rows.length c2) iv (.slice B2 iv.ents.length d2)) 48))
 rw [← hw0]
 clear hw0
 obtain ⟨gP,hgP⟩:∃ g,g=w.heap.size:=⟨_,rfl⟩
 rw [← hgP] at BP BQ
 rw [← hgP]
 clear hgP
 have p0:w0.cell? ⟨gP,0,none⟩=some (.int .i64 n):=BP.out.cell' rfl
 have q0:w0.cell? ⟨gP+1,0,none⟩=some (.int .i64 n):=BQ.out.cell' rfl
 have p1:w0.cell? ⟨gP,1,none⟩=some (.int .i64 hs):=BP.out.cell' rfl
 have q1:w0.cell? ⟨gP+1,1,none⟩=some (.int .i64 hs):=BQ.out.cell' rfl
 have p2:w0.cell? ⟨gP,2,none⟩=some (.int .i64 hg):=BP.out.cell' rfl
 have q2:w0.cell? ⟨gP+1,2,none⟩=some (.int .i64 hg):=BQ.out.cell' rfl
 have p3:w0.cell? ⟨gP,3,none⟩=some (.slice C nc x):=BP.out.cell' rfl
 have q3:w0.cell? ⟨gP+1,3,none⟩=some (.slice C2 nc x2):=BQ.out.cell' rfl
 have p4:w0.cell? ⟨gP,4,none⟩=some (.slice D refs.length y):=BP.out.cell' rfl
 have q4:w0.cell? ⟨gP+1,4,none⟩=some (.slice D2 refs.length y2):=BQ.out.cell' rfl
 have p5:w0.cell? ⟨gP,5,none⟩=some (.bool leaf):=BP.out.cell' rfl
 have q5:w0.cell? ⟨gP+1,5,none⟩=some (.bool leaf):=BQ.out.cell' rfl
 have hq:∀ w',(binOp .neq 23 (.agg #[.int .i64 hs,.int .i64 hg]) (.agg #[.int .i64 hs,.int .i64 hg])).run Tryz.prog w'=.ok (.bool false) w':=fun w'=>by rw [neq_ref];simp
 go_wp2_with fail
 refine (sameRefs10_ok refs D D2 y y2 w0 H2.out.zr H2.out.r1 H2.out.r2).mono ?_
 rintro e w1 ⟨rfl,hf1⟩
 replace BP:=hid_ (BP.out.fr hf1 id)
 replace BQ:=hid_ (BQ.out.fr hf1 id)
 replace H:=hid_ (H.out.keep hf1)
 replace H2:=hid_ (H2.out.keep hf1)
 replace F0:=hid_ (F0.out.then_none hf1)
 clear hf1 p0 p1 p2 p3 p4 p5 q0 q1 q2 q3 q4 q5 hq
 have p3:w1.cell? ⟨gP,3,none⟩=some (.slice C nc x):=BP.out.cell' rfl
 go_wp2_with fail
 go_loopw [47] (fun i wr=>∃ k:Nat,k≤nc∧i=.int .i64 k∧Fr none_ w1 wr) (fun i _=>nc - (intOf i).toNat)
 case atStart=>exact ⟨0,Nat.zero_le _,rfl,Fr.refl _ _⟩
 case round =>
  obtain ⟨k,hk,rfl,hfr⟩:=hrel
  obtain ⟨wx,rfl⟩:∃ z:World,z=wr:=⟨_,rfl⟩
  have FR:=hid_ hfr
  have BPr:=hid_ (BP.out.fr hfr id)
  have BQr:=hid_ (BQ.out.fr hfr id)
  have Hr:=hid_ (H.out.keep hfr)
  have H2r:=hid_ (H2.out.keep hfr)
  have hi0:(0:Int)≤(k:Int):=Int.natCast_nonneg _
  clear hfr p3
  by_cases hlt:k < nc
  ·obtain ⟨R,A5,A6,B5,B6,c5,c6,d5,d6,b1,o1,b2,o2,rfl,rfl,r1,r2,e1,e2,z1,z2⟩:=Hr.out.at_ hlt
   have R1:=hid_ r1
   have R2:=hid_ r2
   have E:=hid_ (And.intro e1 (And.intro e2 (And.intro z1 z2)))
   have hi1:(k:Int) < (nc:Int):=by omega
   clear r1 r2 e1 e2 z1 z2
   go_upto_region 6 with fail
   (try go_frame)
   go_cut [61] (fun u wq=>u=.bool false∧Fr none_ wx wq)
   case first =>
    refine wp_region_q7 (fun w'=>Fr none_ wx w') (by kernel_rfl) (by kernel_rfl) (Fr.refl none_ wx).drew ?_
    refine q_val7 (some 50) (.pointer (some ⟨gP,3,none⟩)) rfl (by kernel_rfl) (fun w' hC=>by kernel_rfl) ?_
    refine q_cell7 (some 51) (.slice (some ⟨b1,o1,none⟩) nc x) 24 (.tmp 50) ⟨gP,3,none⟩ _ rfl (by kernel_rfl) rfl (by kernel_rfl) (fun w' hC=>(BPr.out.fr hC id).cell' rfl) Tryz.underlying24 rfl ?_
    refine q_val7 (some 52) (.int .i64 k) rfl (by kernel_rfl) (fun w' hC=>by kernel_rfl) ?_
    refine q_val7 (some 53) (.pointer (some ⟨b1,o1+k * 15,none⟩)) rfl (by kernel_rfl) (fun w' hC=>ex_index15 24 33 (.tmp 51) (.tmp 52) b1 o1 k nc x rfl (by kernel_rfl) (by kernel_rfl) Tryz.underlying24 rec_sz10 hlt w') ?_
    refine q_mid7 (some 54) (recL ⟨R,A5,c5,B5,d5⟩) 33 (.tmp 53) b1 (o1+k * 15) _ rfl (by kernel_rfl) rfl (by kernel_rfl) (fun w' hC j v hv=>cellFr (R1.out j v hv) hC) Tryz.underlying33 rfl rec_size8 ?_
    refine q_val7 (some 55) (.pointer (some ⟨gP+1,3,none⟩)) rfl (by kernel_rfl) (fun w' hC=>by kernel_rfl) ?_
    refine q_cell7 (some 56) (.slice (some ⟨b2,o2,none⟩) nc x2) 24 (.tmp 55) ⟨gP+1,3,none⟩ _ rfl (by kernel_rfl) rfl (by kernel_rfl) (fun w' hC=>(BQr.out.fr hC id).cell' rfl) Tryz.underlying24 rfl ?_
    refine q_val7 (some 57) (.int .i64 k) rfl (by kernel_rfl) (fun w' hC=>by kernel_rfl) ?_
    refine q_val7 (some 58) (.pointer (some ⟨b2,o2+k * 15,none⟩)) rfl (by kernel_rfl) (fun w' hC=>ex_index15 24 33 (.tmp 56) (.tmp 57) b2 o2 k nc x2 rfl (by kernel_rfl) (by kernel_rfl) Tryz.underlying24 rec_sz10 hlt w') ?_
    refine q_mid7 (some 59) (recL ⟨R,A6,c6,B6,d6⟩) 33 (.tmp 58) b2 (o2+k * 15) _ rfl (by kernel_rfl) rfl (by kernel_rfl) (fun w' hC j v hv=>cellFr (R2.out j v hv) hC) Tryz.underlying33 rfl rec_size8 ?_
    refine q_call7 (some 60) (.bool true) 36 #[.agg (recL ⟨R,A5,c5,B5,d5⟩).toArray,.agg (recL ⟨R,A6,c6,B6,d6⟩).toArray] rfl (by kernel_rfl) (fun w' hC=>by kernel_rfl) (fun w' hC=>(same4_ok R A5 c5 B5 d5 A6 c6 B6 d6 w' (E.out.1.keep hC) (E.out.2.1.keep hC) E.out.2.2.1 E.out.2.2.2).mono (fun e w2 h=>⟨h.1,hC.then_none h.2⟩)) ?_
    refine q_val7 (some 61) (.bool false) rfl (by kernel_rfl) (fun w' hC=>by kernel_rfl) ?_
    refine q_done7 ?_
    intro w7 hf7
    (try simp only [Exit.then])
    (try go_frame)
    (first | (rename_i hKm;refine hKm _ _ ?_) | (rename_i hKm _;refine hKm _ _ ?_) | (rename_i hKm _ _;refine hKm _ _ ?_) | (rename_i hKm _ _ _;refine hKm _ _ ?_))
    go_meet
    case rel=>exact ⟨rfl,hf7⟩
   case rest =>
    obtain ⟨rfl,hf7⟩:=hcut
    have FQ:=hid_ (FR.out.then_none hf7)
    clear hf7
    go_wp2_with fail
    go_roundw
    case rel=>exact ⟨k+1,by omega,by go_num,FQ.out⟩
    case measure=>simp [intOf];omega
  ·obtain rfl:k=nc:=by omega
   have p6:wx.cell? ⟨gP,6,none⟩=some (.string lv.low):=BPr.out.cell' rfl
   have p7:wx.cell? ⟨gP,7,none⟩=some (.string lv.high):=BPr.out.cell' rfl
   have p8:wx.cell? ⟨gP,8,none⟩=some (.bool lv.unb):=BPr.out.cell' rfl
   have p9:wx.cell? ⟨gP,9,none⟩=some (.int .i64 lv.right):=BPr.out.cell' rfl
   have p10:wx.cell? ⟨gP,10,none⟩=some (.slice A lv.rows.length c):=BPr.out.cell' rfl
   have p11:wx.cell? ⟨gP,11,none⟩=some (.bool lv.gone):=BPr.out.cell' rfl
   have p12:wx.cell? ⟨gP,12,none⟩=some (.string iv.low):=BPr.out.cell' rfl
   have p13:wx.cell? ⟨gP,13,none⟩=some (.string iv.high):=BPr.out.cell' rfl
   have p14:wx.cell? ⟨gP,14,none⟩=some (.bool iv.unb):=BPr.out.cell' rfl
   have p15:wx.cell? ⟨gP,15,none⟩=some (.int .i64 iv.right):=BPr.out.cell' rfl
   have p16:wx.cell? ⟨gP,16,none⟩=some (.slice B iv.ents.length d):=BPr.out.cell' rfl
   have p17:wx.cell? ⟨gP,17,none⟩=some (.bool iv.held):=BPr.out.cell' rfl
   have p18:wx.cell? ⟨gP,18,none⟩=some (.int .i64 iv.hp):=BPr.out.cell' rfl
   have p19:wx.cell? ⟨gP,19,none⟩=some (.int .i64 iv.hl):=BPr.out.cell' rfl
   have p20:wx.cell? ⟨gP,20,none⟩=some (.string iv.hk):=BPr.out.cell' rfl
   go_upto_region 10 with fail
   obtain ⟨w2,hw2⟩:∃ z,z=wx.alloc (.cells (lwA lv (.slice A lv.rows.length c)) 45):=⟨_,rfl⟩
   have K2:Hid (Blk w2 wx.heap.size 45 (lwA lv (.slice A lv.rows.length c))∧Fr none_ wx w2):=hid_ (by rw [hw2];exact ⟨Blk.new _ _ _,(Fr.refl none_ _).alloc _⟩)
   change Code.wp _ _ _ _ (wx.alloc (.cells (lwA lv (.slice A lv.rows.length c)) 45))
   rw [← hw2]
   clear hw2
   replace BPr:=hid_ (BPr.out.fr K2.out.2 id)
   replace BQr:=hid_ (BQr.out.fr K2.out.2 id)
   replace H2r:=hid_ (H2r.out.keep K2.out.2)
   replace FR:=hid_ (FR.out.then_none K2.out.2)
   have G2:=hid_ K2.out.1
   obtain ⟨g2,hg2⟩:∃ g,g=wx.heap.size:=⟨_,rfl⟩
   rw [← hg2] at G2
   rw [← hg2]
   clear hg2 K2 p6 p7 p8 p9 p10 p11 p12 p13 p14 p15 p16 p17 p18 p19 p20
   have p12:w2.cell? ⟨gP,12,none⟩=some (.string iv.low):=BPr.out.cell' rfl
   have p13:w2.cell? ⟨gP,13,none⟩=some (.string iv.high):=BPr.out.cell' rfl
   have p14:w2.cell? ⟨gP,14,none⟩=some (.bool iv.unb):=BPr.out.cell' rfl
   have p15:w2.cell? ⟨gP,15,none⟩=some (.int .i64 iv.right):=BPr.out.cell' rfl
   have p16:w2.cell? ⟨gP,16,none⟩=some (.slice B iv.ents.length d):=BPr.out.cell' rfl
   have p17:w2.cell? ⟨gP,17,none⟩=some (.bool iv.held):=BPr.out.cell' rfl
   have p18:w2.cell? ⟨gP,18,none⟩=some (.int .i64 iv.hp):=BPr.out.cell' rfl
   have p19:w2.cell? ⟨gP,19,none⟩=some (.int .i64 iv.hl):=BPr.out.cell' rfl
   have p20:w2.cell? ⟨gP,20,none⟩=some (.string iv.hk):=BPr.out.cell' rfl
   go_upto_region 11 with fail
   obtain ⟨w3,hw3⟩:∃ z,z=w2.alloc (.cells (vwA iv (.slice B iv.ents.length d)) 46):=⟨_,rfl⟩
   have K3:Hid (Blk w3 w2.heap.size 46 (vwA iv (.slice B iv.ents.length d))∧Fr none_ w2 w3):=hid_ (by rw [hw3];exact ⟨Blk.new _ _ _,(Fr.refl none_ _).alloc _⟩)
   change Code.wp _ _ _ _ (w2.alloc (.cells (vwA iv (.slice B iv.ents.length d)) 46))
   rw [← hw3]
   clear hw3
   replace G2:=hid_ (G2.out.fr K3.out.2 id)
   replace BQr:=hid_ (BQr.out.fr K3.out.2 id)
   replace H2r:=hid_ (H2r.out.keep K3.out.2)
   replace FR:=hid_ (FR.out.then_none K3.out.2)
   have G3:=hid_ K3.out.1
   obtain ⟨g3,hg3⟩:∃ g,g=w2.heap.size:=⟨_,rfl⟩
   rw [← hg3] at G3
   rw [← hg3]
   clear hg3 K3 BPr p12 p13 p14 p15 p16 p17 p18 p19 p20
   have z0:w3.cell? ⟨g2,0,none⟩=some (.string lv.low):=G2.out.cell' rfl
   have q6:w3.cell? ⟨gP+1,6,none⟩=some (.string lv.low):=BQr.out.cell' rfl
   have z1:w3.cell? ⟨g2,1,none⟩=some (.string lv.high):=G2.out.cell' rfl
   have q7:w3.cell? ⟨gP+1,7,none⟩=some (.string lv.high):=BQr.out.cell' rfl
   have z2:w3.cell? ⟨g2,2,none⟩=some (.bool lv.unb):=G2.out.cell' rfl
   have q8:w3.cell? ⟨gP+1,8,none⟩=some (.bool lv.unb):=BQr.out.cell' rfl
   have z3:w3.cell? ⟨g2,3,none⟩=some (.int .i64 lv.right):=G2.out.cell' rfl
   have q9:w3.cell? ⟨gP+1,9,none⟩=some (.int .i64 lv.right):=BQr.out.cell' rfl
   have z4:w3.cell? ⟨g2,4,none⟩=some (.slice A lv.rows.length c):=G2.out.cell' rfl
   have q10:w3.cell? ⟨gP+1,10,none⟩=some (.slice A2 lv.rows.length c2):=BQr.out.cell' rfl
   have z5:w3.cell? ⟨g2,5,none⟩=some (.bool lv.gone):=G2.out.cell' rfl
   have q11:w3.cell? ⟨gP+1,11,none⟩=some (.bool lv.gone):=BQr.out.cell' rfl
   go_wp2_with fail
   refine (same7_ok lv A A2 c c2 w3 H2r.out.l1 H2r.out.l2 H2r.out.zl).mono ?_
   rintro e w4 ⟨rfl,hf4⟩
   replace G3:=hid_ (G3.out.fr hf4 id)
   replace BQr:=hid_ (BQr.out.fr hf4 id)
   replace H2r:=hid_ (H2r.out.keep hf4)
   replace FR:=hid_ (FR.out.then_none hf4)
   clear hf4
   clear z0 q6 z1 q7 z2 q8 z3 q9 z4 q10 z5 q11
   have z0:w4.cell? ⟨g3,0,none⟩=some (.string iv.low):=G3.out.cell' rfl
   have q12:w4.cell? ⟨gP+1,12,none⟩=some (.string iv.low):=BQr.out.cell' rfl
   have z1:w4.cell? ⟨g3,1,none⟩=some (.string iv.high):=G3.out.cell' rfl
   have q13:w4.cell? ⟨gP+1,13,none⟩=some (.string iv.high):=BQr.out.cell' rfl
   have z2:w4.cell? ⟨g3,2,none⟩=some (.bool iv.unb):=G3.out.cell' rfl
   have q14:w4.cell? ⟨gP+1,14,none⟩=some (.bool iv.unb):=BQr.out.cell' rfl
   have z3:w4.cell? ⟨g3,3,none⟩=some (.int .i64 iv.right):=G3.out.cell' rfl
   have q15:w4.cell? ⟨gP+1,15,none⟩=some (.int .i64 iv.right):=BQr.out.cell' rfl
   have z4:w4.cell? ⟨g3,4,none⟩=some (.slice B iv.ents.length d):=G3.out.cell' rfl
   have q16:w4.cell? ⟨gP+1,16,none⟩=some (.slice B2 iv.ents.length d2):=BQr.out.cell' rfl
   have z5:w4.cell? ⟨g3,5,none⟩=some (.bool iv.held):=G3.out.cell' rfl
   have q17:w4.cell? ⟨gP+1,17,none⟩=some (.bool iv.held):=BQr.out.cell' rfl
   have z6:w4.cell? ⟨g3,6,none⟩=some (.int .i64 iv.hp):=G3.out.cell' rfl
   have q18:w4.cell? ⟨gP+1,18,none⟩=some (.int .i64 iv.hp):=BQr.out.cell' rfl
   have z7:w4.cell? ⟨g3,7,none⟩=some (.int .i64 iv.hl):=G3.out.cell' rfl
   have q19:w4.cell? ⟨gP+1,19,none⟩=some (.int .i64 iv.hl):=BQr.out.cell' rfl
   have z8:w4.cell? ⟨g3,8,none⟩=some (.string iv.hk):=G3.out.cell' rfl
   have q20:w4.cell? ⟨gP+1,20,none⟩=some (.string iv.hk):=BQr.out.cell' rfl
   go_wp2_with fail
   refine (same8_ok iv B B2 d d2 w4 H2r.out.i1 H2r.out.i2 H2r.out.zi).mono ?_
   rintro e w5 ⟨rfl,hf5⟩
   replace FR:=hid_ (FR.out.then_none hf5)
   clear hf5
   go_wp2_with fail
   go_ret
   exact ⟨rfl,F0.out.then_none FR.out⟩
open Go.RowKit Go.BigFrame
def PgQ (n hs hg:Int) (l:List Rc) (refs:List (Int × Int)) (w:World) (qv:Array Value) (ev:Value) (k:Int):Prop:=
  (∃ leaf lv iv A c B d C x D y b,ofM l=some (leaf,lv,iv)∧qv=pgA n hs hg (.slice C l.length x) (.slice D refs.length y) leaf lv (.slice A lv.rows.length c) iv (.slice B iv.ents.length d)∧PgIn b w l refs lv iv A c B d C x D y∧ev=.nilIface∧k=0) ∨
  (CodeOf l k∧qv=pgZ∧ev=errV k)
def PgW (n hs hg:Int) (l:List Rc) (A:Option Addr) (m cap:Nat) (D:Option Addr) (rn rc:Nat) (w:World) (wv:Array Value) (k:Int):Prop:=
  (∃ leaf lv iv A3 c3 B3 d3,ofM l=some (leaf,lv,iv)∧wv=pgA n hs hg (.slice A m cap) (.slice D rn rc) leaf lv (.slice A3 lv.rows.length c3) iv (.slice B3 iv.ents.length d3)∧lv.Ok∧Reads w 2 A3 lv.rows.length (rwFlat lv.rows)∧VwIn w iv B3 d3∧k=0)∨(CodeOf l k∧wv=pgZ)
theorem pg_code {n hs hg:Int} {l:List Rc} {refs:List (Int × Int)} {A D:Option Addr} {m cap rn rc:Nat} {w w':World} {qv wv:Array Value} {ev:Value} {k k':Int} (hq:PgQ n hs hg l refs w qv ev k) (hw:PgW n hs hg l A m cap D rn rc w' wv k'):k=k'∧((k=0∧ev=.nilIface)∨(k≠0∧ev=errV k)):=by
  rcases hq with ⟨leaf,lv,iv,A1,c1,B1,d1,C1,x1,D1,y1,b,h1,_,_,h2,rfl⟩ | ⟨h1,_,h2⟩
  · rcases hw with ⟨_,_,_,_,_,_,_,_,_,_,_,_,rfl⟩ | ⟨k1,_⟩
    · exact ⟨rfl,.inl ⟨rfl,h2⟩⟩
    · rw [k1.1] at h1;cases h1
  · rcases hw with ⟨_,_,_,_,_,_,_,k1,_⟩ | ⟨k1,_⟩
    · rw [h1.1] at k1;cases k1
    · exact ⟨h1.uniq k1,.inr ⟨h1.pos,h2⟩⟩
theorem pg_same {n hs hg:Int} {L:List Ch} {refs:List (Int × Int)} {A D:Option Addr} {m cap rc:Nat} {qv wv:Array Value} {ev:Value} {k k':Int} {w8 w9 w':World} (hq:PgQ n hs hg (L.map (·.R)) refs w8 qv ev k) (hw:PgW n hs hg (L.map (·.R)) A m cap D refs.length rc w9 wv k') (hf8:Fr none_ w8 w') (hf9:Fr none_ w9 w')
    (hc:ChReads w' A m L) (hr:Reads w' 2 D refs.length (rpFlat refs)) (hrl:refs.length≤5000) (hln:L.length=m) (hn:m≤400) (hz:∀ C ∈ L,C.R.rows.length≤1000∧C.R.ents.length≤1000) :
    Calls Tryz.prog 11 #[.agg qv,.agg wv] w' fun e w2=>e=.returned (.bool true)∧Fr none_ w' w2:=by
  rcases hq with ⟨leaf,lv,iv,A1,c1,B1,d1,C1,x1,D1,y1,b,h1,rfl,hp,_,_⟩ | ⟨h1,rfl,_⟩
  · rcases hw with ⟨leaf2,lv2,iv2,A3,c3,B3,d3,k1,rfl,ko,k3,k4,_⟩ | ⟨k1,_⟩
    · rw [h1] at k1
      simp only [Option.some.injEq,Prod.mk.injEq] at k1
      obtain ⟨rfl,rfl,rfl⟩:=k1
      obtain ⟨Cs,m1,m2,m3⟩:=hp.ch
      rw [List.length_map,hln] at m2 ⊢
      have hcl:Cs.length=m:=by have:=congrArg List.length m1;simpa [hln] using this
      refine same10_ok n hs hg leaf lv iv refs m Cs L C1 A D1 D A1 A3 B1 B3 x1 cap y1 rc c1 c3 d1 d3 w' (by omega) ⟨(chReads_own m2 hcl (fun C hC=>(m3 C hC).ok)).keep hf8,hc,m1.symm,fun E hE=>?_⟩ ⟨(Reads.of_own hp.rf).none_fr hf8,hr,(Reads.of_own hp.lv.own).none_fr hf8,k3.none_fr hf9,hp.iv.rd.none_fr hf8,k4.rd.none_fr hf9,hrl,hp.lv.ok.rows.1,by have:=hp.iv.ok.ents.1;omega⟩
      have hR:E.R ∈ L.map (·.R):=by rw [← m1];exact List.mem_map.2 ⟨E,hE,rfl⟩
      obtain ⟨F,hF,e⟩:=List.mem_map.1 hR
      have e':F.R=E.R:=e
      rw [← e']
      exact hz F hF
    · rw [k1.1] at h1;cases h1
  · rcases hw with ⟨leaf2,lv2,iv2,A3,c3,B3,d3,k1,_⟩ | ⟨k1,rfl⟩
    · rw [h1.1] at k1;cases k1
    · exact same10_ok 0 0 0 false Lw.zero Vw.zero [] 0 [] [] none none none none none none none none 0 0 0 0 0 0 0 0 w' (by omega) ⟨⟨rfl,fun h=>absurd h (Nat.lt_irrefl 0)⟩,⟨rfl,fun h=>absurd h (Nat.lt_irrefl 0)⟩,rfl,fun E hE=>by cases hE⟩ ⟨Reads.nil_,Reads.nil_,Reads.nil_,Reads.nil_,Reads.nil_,Reads.nil_,by simp,Nat.zero_le _,Nat.zero_le _⟩
end Go.Proofs.YtfihfjbakfadkaaGreatDoor
