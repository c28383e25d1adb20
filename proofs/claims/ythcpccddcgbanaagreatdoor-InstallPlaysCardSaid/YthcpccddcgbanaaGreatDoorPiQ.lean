/- Texts of one proof, merged: Beg12, Aw12, Stp12. -/
import Derived.Test.YthcpccddcgbanaaGreatDoorPiO
import Derived.Test.YthcpccddcgbanaaGreatDoorPiP
namespace Go.Proofs.YthcpccddcgbanaaGreatDoor
set_option maxRecDepth 100000
set_option linter.unusedVariables false
open Go.RowKit

theorem eq_func (f:Fn) (a b:Array Value) (w:World):(binOp .eql 60 (.func f a b) .nilFunc).run Tryz.prog w=.ok (.bool false) w:=by rfl
theorem eq_nilf (w:World):(binOp .eql 60 .nilFunc .nilFunc).run Tryz.prog w=.ok (.bool true) w:=by rfl
abbrev dt0 (page os og news stage:Int) (hd:Rc) (err:Int):Dt:=⟨page,os,og,news,stage,[],[],hd,[],0,false,err⟩
abbrev ia0 (mv vr ve ev:Value):Ia:=⟨mv,.slice none 0 0,.slice none 0 0,.slice none 0 0,[],vr,ve,ev⟩
theorem inst_new {w:World} {B i:Nat} (page os og news stage:Int) (mv ev:Value) (err:Int) (hB:B≤i) (hb:Blk w i 112 (inA (dt0 page os og news stage Rc.zero err) (ia0 mv (.slice none 0 0) (.slice none 0 0) ev))) (he:Er w ev err):Inst w B i (dt0 page os og news stage Rc.zero err) (ia0 mv (.slice none 0 0) (.slice none 0 0) ev):=
  ⟨hb,World.ownsRow_nil _ _ _ _,World.ownsRow_nil _ _ _ _,rfl,(fun C hC=>by cases hC),World.ownsRow_nil _ _ _ _,RecOwn.zero _ _,he,hB,(fun R hR=>by cases hR),⟨Nat.zero_le _,Nat.zero_le _⟩,⟨Nat.zero_le _,Nat.zero_le _,Nat.zero_le _⟩⟩
def BegPost (page os og:Int) (mv:Value) (hd:Rc) (w:World) (e:Ending) (w':World):Prop:=
  ∃ i vr ve,e=.returned (.pointer (some ⟨i,0,none⟩))∧Inst w' w.heap.size i (dt0 page os og 0 3 hd 0) (ia0 mv vr ve .nilIface)∧Fr none_ w w'
set_option maxHeartbeats 8000000 in
theorem begin0 {w:World} (page os og:Int) (bc:Nat) (hd:Rc) (hz:RowsOk hd)
  (hcall:∀ (w1:World) (u:Value),Fr none_ w w1→Calls Tryz.prog 22 #[u,.pointer (some ⟨bc,0,none⟩)] w1 fun e w2=>∃ Ar cr Ae ce,e=.returned (.tuple #[.slice none 0 0,recV hd (.slice Ar hd.rows.length cr) (.slice Ae hd.ents.length ce)])∧RecOwn w2 0 hd (.slice Ar hd.rows.length cr) (.slice Ae hd.ents.length ce)∧Fr none_ w1 w2) :
  Calls Tryz.prog 8 #[.agg #[.int .i64 page,.int .i64 os,.int .i64 og,.int .i64 0,(.func (.func 22) #[] #[.pointer (some ⟨bc,0,none⟩)])]] w (BegPost page os og (.func (.func 22) #[] #[.pointer (some ⟨bc,0,none⟩)]) hd w):=by
 have HC:=hid_ hcall
 have HZ:=hid_ hz
 clear hcall hz
 have F:=hid_ (Fr.refl none_ w)
 have qf1:=eq_func
 have qf2:=eq_nilf
 go_enter Tryz.func8,Tryz.ntmps8
 go_upto_region 1 with fail
 obtain ⟨w0,hw0⟩:∃ z,z=w.alloc (.cells #[.int .i64 page,.int .i64 os,.int .i64 og,.int .i64 0,(.func (.func 22) #[] #[.pointer (some ⟨bc,0,none⟩)])] 62):=⟨_,rfl⟩
 have fw0:Fr none_ w w0:=by rw [hw0];exact (Fr.refl none_ w).alloc _
 have BJ:Hid (Blk w0 w.heap.size 62 (#[.int .i64 page,.int .i64 os,.int .i64 og,.int .i64 0,(.func (.func 22) #[] #[.pointer (some ⟨bc,0,none⟩)])])):=hid_ (by rw [hw0];exact Blk.new w _ _)
 replace F:=hid_ (F.out.then_none fw0)
 change Code.wp _ _ _ _ (w.alloc (.cells #[.int .i64 page,.int .i64 os,.int .i64 og,.int .i64 0,(.func (.func 22) #[] #[.pointer (some ⟨bc,0,none⟩)])] 62))
 rw [← hw0]
 clear hw0 fw0
 have j0:w0.cell? ⟨w.heap.size,0,none⟩=some (.int .i64 page):=BJ.out.cell' rfl
 have j1:w0.cell? ⟨w.heap.size,1,none⟩=some (.int .i64 os):=BJ.out.cell' rfl
 have j2:w0.cell? ⟨w.heap.size,2,none⟩=some (.int .i64 og):=BJ.out.cell' rfl
 have j3:w0.cell? ⟨w.heap.size,3,none⟩=some (.int .i64 0):=BJ.out.cell' rfl
 have j4:w0.cell? ⟨w.heap.size,4,none⟩=some (.func (.func 22) #[] #[.pointer (some ⟨bc,0,none⟩)]):=BJ.out.cell' rfl
 have HL:=hid_ (Nat.le_of_lt BJ.out.lt)
 go_upto_region 2 with fail
 clear j0 j1 j2 j3 j4
 obtain ⟨w1,hw1⟩:∃ z,z=w0.alloc (.cells (inA (dt0 page os og 0 0 Rc.zero 0) (ia0 (.func (.func 22) #[] #[.pointer (some ⟨bc,0,none⟩)]) (.slice none 0 0) (.slice none 0 0) .nilIface)) 112):=⟨_,rfl⟩
 have fw1:Fr none_ w0 w1:=by rw [hw1];exact (Fr.refl none_ w0).alloc _
 have BI:Hid (Blk w1 w0.heap.size 112 (inA (dt0 page os og 0 0 Rc.zero 0) (ia0 (.func (.func 22) #[] #[.pointer (some ⟨bc,0,none⟩)]) (.slice none 0 0) (.slice none 0 0) .nilIface))):=hid_ (by rw [hw1];exact Blk.new w0 _ _)
 replace F:=hid_ (F.out.then_none fw1)
 replace BJ:=hid_ (BJ.out.fr fw1 id)
 change Code.wp _ _ _ _ (w0.alloc (.cells (inA (dt0 page os og 0 0 Rc.zero 0) (ia0 (.func (.func 22) #[] #[.pointer (some ⟨bc,0,none⟩)]) (.slice none 0 0) (.slice none 0 0) .nilIface)) 112))
 rw [← hw1]
 clear hw1 fw1
 have j3:w1.cell? ⟨w.heap.size,3,none⟩=some (.int .i64 0):=BJ.out.cell' rfl
 have j4:w1.cell? ⟨w.heap.size,4,none⟩=some (.func (.func 22) #[] #[.pointer (some ⟨bc,0,none⟩)]):=BJ.out.cell' rfl
 have I1:=hid_ (inst_new (B:=w.heap.size) page os og 0 0 (.func (.func 22) #[] #[.pointer (some ⟨bc,0,none⟩)]) .nilIface 0 HL.out BI.out (.inl rfl))
 go_wp2_with fail
 refine (made0 I1.out bc rfl rfl rfl hd HZ.out (fun w2 u hf=>HC.out w2 u (F.out.then_none hf))).mono ?_
 rintro e w2 ⟨vr,ve,rfl,hI,hf⟩
 have I2:=hid_ (And.intro hI (F.out.then_only hf (.inr HL.out)))
 clear hI hf j3 j4
 go_wp2_with fail
 go_ret
 exact ⟨_,vr,ve,rfl,I2.out.1,I2.out.2⟩
open Go.RowKit

theorem AllocR.first {last:Int} {ss:List Sl} {R:Rc} {sl gn c:Int} {ss':List Sl} (h:AllocR last ss R sl gn c ss') {i:Nat} {s:Sl} (hs:ss[i]?=some s) (hu:s.used=false) (hg:s.gen≠last) (hno:∀ (j:Nat) (t:Sl),j < i→ss[j]?=some t→t.used=true∨t.gen=last) :
    sl=(i:Int)+1∧gn=s.gen+1∧c=0∧∃ vr ve,ss'=ss.set i ⟨s.gen+1,true,R,vr,ve⟩:=by
  rcases h with ⟨k,t,vr,ve,h1,h2,h3,h4,h5,h6,h7⟩ | ⟨h1,_⟩
  · have hki:k=i:=by
      rcases Nat.lt_trichotomy k i with hlt | heq | hgt
      · rcases hno k t hlt h1 with e | e
        · rw [h2.1] at e;cases e
        · exact absurd e h2.2
      · exact heq
      · rcases h3 i s hgt hs with e | e
        · rw [hu] at e;cases e
        · exact absurd e hg
    subst hki
    obtain rfl:s=t:=Option.some.inj (hs.symm.trans h1)
    exact ⟨h4,h5,h6,vr,ve,h7⟩
  · rcases h1 i s hs with e | e
    · rw [hu] at e;cases e
    · exact absurd e hg
theorem SwapR.used {ps:List Pg} {n a b c d:Int} {ok:Bool} {k:Int} {ps':List Pg} (h:SwapR ps n a b c d ok k ps') {i:Nat} {s g:Int} (hn:n=(i:Int)) (hi:ps[i]?=some (true,s,g)):ok=(s==a && g==b)∧k=0∧ps'=swapPs ps i s g a b c d:=by
  subst hn
  rcases h with ⟨j,s',g',h1,h2,h3,h4,h5⟩ | ⟨h1,_⟩
  · obtain rfl:i=j:=by omega
    rw [hi] at h2
    injection h2 with h2
    injection h2 with _ h2
    injection h2 with e1 e2
    subst e1
    subst e2
    exact ⟨h3,h4,h5⟩
  · exact absurd (pgC_used hi) h1
theorem HeadR.used {ps:List Pg} {n s g c:Int} (h:HeadR ps n s g c) {i:Nat} {s' g':Int} (hn:n=(i:Int)) (hi:ps[i]?=some (true,s',g')):s=s'∧g=g'∧c=0:=by
  subst hn
  rcases h with ⟨j,h1,h2,h3⟩ | ⟨h1,_⟩
  · obtain rfl:i=j:=by omega
    rw [hi] at h2
    injection h2 with h2
    injection h2 with _ h2
    injection h2 with e1 e2
    exact ⟨e1.symm,e2.symm,h3⟩
  · exact absurd (pgC_used hi) h1
theorem Ev.zero {w:World} {v:Value} {p:ByteArray} {s:Int} (h:Ev w v p s 0):v=.nilIface:=by
  rcases h with ⟨_,h⟩ | ⟨h,_⟩
  · exact h
  · exact absurd rfl h
theorem Er.zero {w:World} {v:Value} (h:Er w v 0):v=.nilIface:=by
  rcases h with rfl | ⟨p,s,h⟩
  · rfl
  · exact h.zero
theorem mf_ge {w:World} {m:Nat} {x:St} {B B' i:Nat} {D:Dt} {a:Ia} (hm:B≤m∧B≤x.C∧B≤x.M∧B≤x.G∧B≤x.H) (hI:Inst w B' i D a) (hB:B≤B'):∀ k,mf m x i a k→B≤k:=by
  rintro k ((rfl | rfl | rfl | rfl | rfl) | hk)
  · exact hm.1
  · exact hm.2.2.2.1
  · exact hm.2.2.2.2
  · exact hm.2.1
  · exact hm.2.2.1
  · exact Nat.le_trans hB (hI.foot_le hk)
theorem mall_ge {m:Nat} {x:St} {B:Nat} (hm:B≤m∧B≤x.C∧B≤x.M∧B≤x.G∧B≤x.H):∀ k,mall m x k→B≤k:=by
  rintro k (rfl | rfl | rfl | rfl | rfl)
  · exact hm.1
  · exact hm.2.2.2.1
  · exact hm.2.2.2.2
  · exact hm.2.1
  · exact hm.2.2.1
theorem Fr.then_ge {S:Nat→Prop} {a b c:World} (h:Fr none_ a b) (k:Fr S b c) (hg:∀ i,S i→a.heap.size≤i):Fr none_ a c:=h.trans k (fun _ _=>id) (fun i hi e=>by have:=hg i e;omega)
abbrev sA12:ByteArray:=⟨#[97]⟩
abbrev delR (s g:Int):Rc:=⟨3,nilS,nilS,false,0,[],[],sA12,nilS,0,0,0,nilS,s,g⟩
set_option maxHeartbeats 2000000 in
theorem mk_aw {w:World} {bc:Nat} {s g:Int} (u:Value) (h:Blk w bc 48 #[.int .i64 s,.int .i64 g]):Calls Tryz.prog 22 #[u,.pointer (some ⟨bc,0,none⟩)] w fun e w2=>∃ Ar cr Ae ce,e=.returned (.tuple #[.slice none 0 0,recV (delR s g) (.slice Ar (delR s g).rows.length cr) (.slice Ae (delR s g).ents.length ce)])∧RecOwn w2 0 (delR s g) (.slice Ar (delR s g).rows.length cr) (.slice Ae (delR s g).ents.length ce)∧Fr none_ w w2:=by
 have HB:=hid_ (h.alloc (.cells recZ 55))
 have BZ:=hid_ (Blk.new w 55 recZ)
 clear h
 obtain ⟨w0,hw0⟩:∃ z,z=w.alloc (.cells recZ 55):=⟨_,rfl⟩
 have f0:Fr none_ w w0:=by rw [hw0];exact (Fr.refl none_ w).alloc _
 rw [← hw0] at HB BZ
 go_enter Tryz.func22,Tryz.ntmps22
 go_upto_region 1 with fail
 change Code.wp _ _ _ _ (w.alloc (.cells recZ 55))
 rw [← hw0]
 clear hw0
 have hS0:(fun w':World=>Fr (only w.heap.size) w0 w') w0.drew:=(Fr.refl _ w0).drew
 have hne:¬ only w.heap.size bc:=only_ne (Blk.ne_ HB.out BZ.out (by decide))
 have x0:w0.cell? ⟨bc,0,none⟩=some (.int .i64 s):=HB.out.cell' rfl
 have x1:w0.cell? ⟨bc,1,none⟩=some (.int .i64 g):=HB.out.cell' rfl
 refine wp_region_U (m:=4) (S:=fun w':World=>Fr (only w.heap.size) w0 w') (by kernel_rfl) ?_
 refine wpAnyU_take2 (i:=0) (v:=_) rfl (by kernel_rfl) (by kernel_rfl) (by kernel_rfl) (by kernel_rfl) (fun _ _ _ h=>h) (.inl ⟨by kernel_rfl,fun w' hS=>by have s_0:=cellFrS x0 hS hne;have s_1:=cellFrS x1 hS hne;go_simp;rfl⟩) hS0 ?_
 refine wpAnyU_take2 (i:=1) (v:=_) rfl (by kernel_rfl) (by kernel_rfl) (by kernel_rfl) (by kernel_rfl) (fun _ _ _ h=>h) (.inl ⟨by kernel_rfl,fun w' hS=>by go_simp;rfl⟩) hS0 ?_
 refine wpAnyU_take2 (i:=2) (v:=_) rfl (by kernel_rfl) (by kernel_rfl) (by kernel_rfl) (by kernel_rfl) (fun _ _ _ h=>h) (.inl ⟨by kernel_rfl,fun w' hS=>by go_simp;rfl⟩) hS0 ?_
 clear x0 x1 hne
 refine wpAnyU_oneW (i:=3) rfl (by kernel_rfl) (by kernel_rfl) ?_
 refine wp_store_mid 55 (.tmp 4) (.tmp 6) rfl w.heap.size 0 (recA (delR s g) (.slice none 0 0) (.slice none 0 0)) rfl rfl (BZ.out.drew.there9 rfl) rec_size (by simp [Value.oneCell']) ?_
 obtain ⟨w5,hw5⟩:∃ z,z=w0.drew.setCells w.heap.size 0 (recA (delR s g) (.slice none 0 0) (.slice none 0 0)).toList:=⟨_,rfl⟩
 have ov:=BZ.out.drew.over9 (recA (delR s g) (.slice none 0 0) (.slice none 0 0)).toList rfl
 rw [← hw5] at ov
 have Q5:=hid_ (show Blk w5 w.heap.size 55 (recA (delR s g) (.slice none 0 0) (.slice none 0 0)) from ov.1)
 have F5:=hid_ (f0.drew.then_only ov.2 (.inr (Nat.le_refl _)))
 refine ⟨.inr (by rw [← hw5];exact hS0.trans ov.2 (fun _ _=>id) (fun _ _=>id)),?_⟩
 change wpAnyU _ _ _ _ _ _ _ _ _ (w0.drew.setCells w.heap.size 0 (recA (delR s g) (.slice none 0 0) (.slice none 0 0)).toList)
 rw [← hw5]
 clear hw5 ov
 refine wpAnyU_done (by kernel_rfl) ?_ _
 go_wp2_with fail
 have q0:=Q5.out.cell' (i:=0) rfl
 have q1:=Q5.out.cell' (i:=1) rfl
 have q2:=Q5.out.cell' (i:=2) rfl
 have q3:=Q5.out.cell' (i:=3) rfl
 have q4:=Q5.out.cell' (i:=4) rfl
 have q5:=Q5.out.cell' (i:=5) rfl
 have q6:=Q5.out.cell' (i:=6) rfl
 have q7:=Q5.out.cell' (i:=7) rfl
 have q8:=Q5.out.cell' (i:=8) rfl
 have q9:=Q5.out.cell' (i:=9) rfl
 have q10:=Q5.out.cell' (i:=10) rfl
 have q11:=Q5.out.cell' (i:=11) rfl
 have q12:=Q5.out.cell' (i:=12) rfl
 have q13:=Q5.out.cell' (i:=13) rfl
 have q14:=Q5.out.cell' (i:=14) rfl
 refine bodyPost_ret (v:=.tuple #[.slice none 0 0,recV (delR s g) (.slice none 0 0) (.slice none 0 0)]) ?_ rfl ⟨none,0,none,0,rfl,⟨World.ownsRow_nil _ _ _ _,World.ownsRow_nil _ _ _ _⟩,F5.out⟩
 simp [results,Tryz.results22,go_sem,q0,q1,q2,q3,q4,q5,q6,q7,q8,q9,q10,q11,q12,q13,q14]
abbrev lim12:Lm:=⟨9,3,1,4,4,99⟩
theorem lim12_right:lim12.Right:=⟨by decide,by decide,by decide,by decide,by decide,by decide⟩
set_option maxHeartbeats 16000000 in
theorem awake12 (w:World):Calls Tryz.prog 5 #[] w fun e w'=>e=.returned (.bool true)∧Fr none_ w w':=by
 have hmf:∀ (fn:Fn) (first cap:Array Value) (w:World),(Instr.makeFunc fn first cap).run Tryz.prog w=.ok (.func fn first cap) w:=fun _ _ _ _=>rfl
 have F:=hid_ (Fr.refl none_ w)
 go_enter Tryz.func5,Tryz.ntmps5
 go_wp2_with fail
 refine (memNew_ok lim12 _ lim12_right).mono ?_
 rintro e w1 ⟨m,a,G,vr,ve,T,H,C,M,rfl,hM,hf1,hm⟩
 have M1:=hid_ hM
 have HM:=hid_ hm
 replace F:=hid_ (F.out.then_none hf1)
 clear hM hf1 hm
 go_wp2_with fail
 refine (memHead_any m 0 lim12 _ _ M1.out (by decide) (by decide) 0).mono ?_
 rintro e w2 ⟨s,g,c,v,rfl,hR,hev,hM2,hf2⟩
 obtain ⟨rfl,rfl,rfl⟩:=hR.used (i:=0) rfl rfl
 obtain rfl:=hev.zero
 have M2:=hid_ hM2
 have F2:=hid_ hf2
 clear hR hev hM2 hf2
 go_upto_region 3 with fail
 replace F:=hid_ (F.out.then_ge F2.out (mall_ge HM.out))
 obtain ⟨w3,hw3⟩:∃ z,z=w2.alloc (.cells #[.int .i64 1,.int .i64 1] 48):=⟨_,rfl⟩
 have fw3:Fr none_ w2 w3:=by rw [hw3];exact (Fr.refl none_ w2).alloc _
 have BH:Hid (Blk w3 w2.heap.size 48 (#[.int .i64 1,.int .i64 1])):=hid_ (by rw [hw3];exact Blk.new w2 _ _)
 replace M2:=hid_ (M2.out.keep fw3)
 replace F:=hid_ (F.out.then_none fw3)
 change Code.wp _ _ _ _ (w2.alloc (.cells #[.int .i64 1,.int .i64 1] 48))
 rw [← hw3]
 clear hw3 fw3
 have h0:w3.cell? ⟨w2.heap.size,0,none⟩=some (.int .i64 1):=BH.out.cell' rfl
 have h1:w3.cell? ⟨w2.heap.size,1,none⟩=some (.int .i64 1):=BH.out.cell' rfl
 have HS3:=hid_ F.out.size
 go_wp2_with fail
 refine (begin0 0 1 1 w2.heap.size (delR 1 1) ⟨Nat.zero_le _,Nat.zero_le _⟩ (fun w4 u hf=>mk_aw u (BH.out.fr hf id))).mono ?_
 rintro e w4 ⟨i,vr4,ve4,rfl,hI4,hf4⟩
 have I4:=hid_ hI4
 replace M2:=hid_ (M2.out.keep hf4)
 replace F:=hid_ (F.out.then_none hf4)
 replace BH:=hid_ (BH.out.fr hf4 id)
 have HS4:=hid_ hf4.size
 clear hI4 hf4 h0 h1
 go_wp2_with fail
 refine (step_fwd I4.out (by decide) (by decide) (by decide) (fwd3 I4.out M2.out (by decide) (by decide) rfl (by decide) HS4.out) (fun e w' h=>by obtain ⟨_,_,_,_,_,h,_⟩:=h;exact ⟨_,h⟩)).mono ?_
 rintro e w5 ⟨sl,gn,kk,ss',a5,rfl,hA,hM5,hI5,hf5,-,-⟩
 obtain ⟨rfl,rfl,rfl,vr5,ve5,rfl⟩:=hA.first (i:=1) (s:=Sl.zero) rfl rfl (by decide) (fun j t hj ht=>by
  obtain rfl:j=0:=by omega
  obtain rfl:=Option.some.inj ht
  exact .inl rfl)
 have M5:=hid_ hM5
 have I5:Hid (Inst w5 w3.heap.size i ⟨0,1,1,0,4,[],[],delR 1 1,[(2,1)],0,false,0⟩ a5):=hid_ hI5
 have F5:=hid_ (F.out.then_ge hf5 (mf_ge HM.out I4.out HS3.out))
 rw [show ((fwd3D (dt0 0 1 1 0 3 (delR 1 1) 0) 0 ((1:Nat)+1:Int) (Sl.zero.gen+1)).stage==7)=false from rfl]
 clear hA hM5 hI5 hf5 M2 F I4
 go_wp2_with fail
 refine (step_fwd I5.out (by decide) (by decide) (by decide) (fwd4 I5.out M5.out (by decide) (by decide) rfl (j:=0) (s:=2) (g:=1) rfl rfl) (fun e w' h=>by obtain ⟨_,_,_,_,h,_⟩:=h;exact ⟨_,h⟩)).mono ?_
 rintro e w6 ⟨ok,c,ps',a6,rfl,hR,hM6,hI6,hf6,-,-⟩
 obtain ⟨hok,rfl,rfl⟩:=hR.used (i:=0) rfl rfl
 obtain rfl:ok=true:=hok
 have M6:=hid_ hM6
 have I6:Hid (Inst w6 w3.heap.size i ⟨0,1,1,0,7,[],[],delR 1 1,[(2,1)],0,true,0⟩ a6):=hid_ hI6
 have F6:=hid_ (F5.out.then_ge hf6 (mf_ge HM.out I5.out HS3.out))
 rw [show ((fwd4D ⟨0,1,1,0,4,[],[],delR 1 1,[(2,1)],0,false,0⟩ true 0).stage==7)=true from rfl]
 clear hR hM6 hI6 hf6 M5 F5 I5
 go_wp2_with fail
 refine (done_ok I6.out rfl).mono ?_
 rintro e w7 ⟨rfl,hf7⟩
 rw [show a6.ev=.nilIface from I6.out.e.zero]
 have M7:=hid_ (M6.out.keep hf7)
 have I7:=hid_ (I6.out.keep hf7)
 have F7:=hid_ (F6.out.then_none hf7)
 clear hf7 M6 I6 F6
 go_wp2_with fail
 refine (chain_ok _ M7.out 0 2 1 rfl [1,0] ⟨rfl,⟨1,true,delR 1 1,vr5,ve5⟩,rfl,rfl,rfl,rfl,⟨1,true,leafR,vr,ve⟩,rfl,rfl,rfl,rfl,rfl⟩ (by decide) (by decide)).mono ?_
 rintro e w8 ⟨A,c8,B,d8,Cs,rfl,hCs,hl,hr,-,hf8⟩
 have I8:=hid_ (I7.out.keep hf8)
 have F8:=hid_ (F7.out.then_none hf8)
 clear hCs hl hr hf8 I7 F7 M7
 simp only [List.length_cons,List.length_nil]
 go_wp2_with fail
 refine (ihead_ok I8.out rfl (j:=0) (s:=2) (g:=1) rfl rfl).mono ?_
 rintro e w9 ⟨rfl,hf9⟩
 have F9:=hid_ (F8.out.then_none hf9)
 clear hf9
 go_wp2_with fail
 go_ret
 exact ⟨rfl,F9.out⟩
open Go.RowKit

structure Jd where
  page:Int
  os:Int
  og:Int
  news:Int
  bases:List Rc
  head:Rc
  fresh:Int
def noNext (R:Rc):Rc:={ R with nslot:=0,ngen:=0 }
def jbase (J:Jd) (k:Nat):Rc:=noNext ((J.bases[k]?).getD Rc.zero)
def jbases (J:Jd) (n:Nat):List Rc:=(List.range n).map (jbase J)
def jhead (J:Jd) (ps:List Int):Rc:=if 1≤J.fresh∧J.fresh≤(ps.length:Int) then { J.head with page:=(ps[J.fresh.toNat - 1]?).getD 0 } else J.head
def madeD (J:Jd) (D:Dt):Dt:={ D with bases:=jbases J D.news.toNat,head:=jhead J D.pages,stage:=if D.news=0 then 3 else 1,at_:=0 }
def takeD (J:Jd) (D:Dt) (p c:Int):Dt:=if c=0 then (if (D.pages.length:Int)+1=D.news then madeD J { D with pages:=D.pages ++ [p] } else { D with pages:=D.pages ++ [p] }) else undoD D c
def putB (D:Dt) (kk sl gn:Int):Dt:=if kk=0 then (if D.at_+1=(D.bases.length:Int) then { D with refs:=D.refs ++ [(sl,gn)],stage:=2,at_:=0 } else { D with refs:=D.refs ++ [(sl,gn)],at_:=D.at_+1 }) else undoD D kk
def linkD (D:Dt) (ok:Bool) (c:Int):Dt:=if ok=true then (if D.at_+1=(D.pages.length:Int) then { D with at_:=D.at_+1,stage:=3 } else { D with at_:=D.at_+1 }) else undoD D c
def freeD (D:Dt):Dt:={ D with refs:=D.refs.dropLast,stage:=if D.refs.length=1 then (if D.pages.length=0 then 7 else 6) else 5 }
def giveD (D:Dt):Dt:={ D with pages:=D.pages.dropLast,stage:=if D.pages.length=1 then 7 else 6 }
inductive StepR (n:Int) (J:Jd) (D:Dt) (x:St):Dt→St→Prop
  | take {p c:Int} {ps':List Pg} (hs:D.stage=0) (h:TakeR x.ps p c ps'):StepR n J D x (takeD J D p c) { x with ps:=ps' }
  | put {R:Rc} {sl gn kk:Int} {ss':List Sl} (hs:D.stage=1) (hR:D.bases[D.at_.toNat]?=some R) (h:AllocR n x.ss R sl gn kk ss'):StepR n J D x (putB D kk sl gn) { x with ss:=ss' }
  | link {p s g:Int} {ok:Bool} {c:Int} {ps':List Pg} (hs:D.stage=2) (hp:D.pages[D.at_.toNat]?=some p) (hr:D.refs[D.at_.toNat]?=some (s,g)) (h:SwapR x.ps p 0 0 s g ok c ps'):StepR n J D x (linkD D ok c) { x with ps:=ps' }
  | head {sl gn kk:Int} {ss':List Sl} (hs:D.stage=3) (h:AllocR n x.ss D.head sl gn kk ss'):StepR n J D x (fwd3D D kk sl gn) { x with ss:=ss' }
  | swap {s g:Int} {ok:Bool} {c:Int} {ps':List Pg} (hs:D.stage=4) (hr:D.refs.getLast?=some (s,g)) (h:SwapR x.ps D.page D.os D.og s g ok c ps'):StepR n J D x (fwd4D D ok c) { x with ps:=ps' }
  | free {s g c:Int} {ss':List Sl} (hs:D.stage=5) (hr:D.refs.getLast?=some (s,g)) (h:FreeR x.ss s g c ss'):StepR n J D x (freeD D) { x with ss:=ss' }
  | give {p c:Int} {ps':List Pg} (hs:D.stage=6) (hp:D.pages.getLast?=some p) (h:GiveR x.ps p c ps'):StepR n J D x (giveD D) { x with ps:=ps' }

structure DOk (D:Dt):Prop where
  n:D.stage≠7→0≤D.news∧D.news≤4
  st:0≤D.stage∧D.stage≤7
  s0:D.stage=0→D.refs=[]∧D.bases=[]∧(D.pages.length:Int) < D.news
  s1:D.stage=1→(D.bases.length:Int)=D.news∧(D.pages.length:Int)=D.news∧0≤D.at_∧D.at_ < D.news∧(D.refs.length:Int)=D.at_
  s2:D.stage=2→(D.pages.length:Int)=D.news∧(D.refs.length:Int)=D.news∧0≤D.at_∧D.at_ < D.news
  s3:D.stage=3→(D.refs.length:Int)=D.news∧(D.pages.length:Int)=D.news
  s4:D.stage=4→(D.refs.length:Int)=D.news+1∧(D.pages.length:Int)=D.news
  s5:D.stage=5→1≤D.refs.length
  s6:D.stage=6→D.refs=[]∧1≤D.pages.length
  s7:D.done=true→(D.refs.length:Int)=D.news+1∧(D.pages.length:Int)=D.news
  nd:D.done=true→D.stage=7
  lr:D.refs.length≤5
  lp:D.pages.length≤4
theorem DOk.nodone {D:Dt} (h:DOk D) (hs:D.stage≠7):D.done=false:=by
  cases e:D.done with
  | false=>rfl
  | true=>exact absurd (h.nd e) hs
theorem DOk.undo {D:Dt} (h:DOk D) (hs:D.stage≠7) (c:Int):DOk (undoD D c):=by
  have hnd:=h.nodone hs
  have h1:=h.lr
  have h2:=h.lp
  have hn:=h.n hs
  unfold undoD
  by_cases hr:D.refs.length=0
  · have hr':D.refs=[]:=List.eq_nil_of_length_eq_zero hr
    by_cases hp:D.pages.length=0
    · simp only [hr,hp,if_true]
      exact ⟨fun _=>hn,by simp,fun e=>by simp at e,fun e=>by simp at e,fun e=>by simp at e,fun e=>by simp at e,fun e=>by simp at e,fun e=>by simp at e,fun e=>by simp at e,fun e=>by simp [hnd] at e,fun e=>rfl,h1,h2⟩
    · simp only [hr,hp,if_true,if_false]
      exact ⟨fun _=>hn,by simp,fun e=>by simp at e,fun e=>by simp at e,fun e=>by simp at e,fun e=>by simp at e,fun e=>by simp at e,fun e=>by simp at e,fun e=>⟨hr',by show 1≤D.pages.length;omega⟩,fun e=>by simp [hnd] at e,fun e=>by simp [hnd] at e,h1,h2⟩
  · simp only [hr,if_false]
    exact ⟨fun _=>hn,by simp,fun e=>by simp at e,fun e=>by simp at e,fun e=>by simp at e,fun e=>by simp at e,fun e=>by simp at e,fun e=>by show 1≤D.refs.length;omega,fun e=>by simp at e,fun e=>by simp [hnd] at e,fun e=>by simp [hnd] at e,h1,h2⟩
theorem jbases_len (J:Jd) (n:Nat):(jbases J n).length=n:=by simp [jbases]
theorem DOk.step {n:Int} {J:Jd} {D D':Dt} {x x':St} (hD:DOk D) (h:StepR n J D x D' x'):DOk D':=by
  have h1:=hD.lr
  have h2:=hD.lp
  cases h with
  | take hs h =>
    have hn:=hD.n (by rw [hs];decide)
    obtain ⟨a1,a2,a3⟩:=hD.s0 hs
    have hnd:=hD.nodone (by rw [hs];decide)
    unfold takeD
    split
    · split
      · rename_i hc hl
        unfold madeD
        have hz:D.news≠0:=by omega
        simp only [hz,if_false]
        refine ⟨fun _=>hn,by simp,fun e=>by simp at e,fun e=>⟨?_,?_,?_,?_,?_⟩,fun e=>by simp at e,fun e=>by simp at e,fun e=>by simp at e,fun e=>by simp at e,fun e=>by simp at e,fun e=>by simp [hnd] at e,fun e=>by simp [hnd] at e,h1,?_⟩
        · show ((jbases J D.news.toNat).length:Int)=D.news
          rw [jbases_len];omega
        · show ((D.pages ++ [_]).length:Int)=D.news
          simp;omega
        · exact Int.le_refl 0
        · show 0 < D.news
          omega
        · show ((D.refs).length:Int)=0
          rw [a1];rfl
        · show (D.pages ++ [_]).length≤4
          simp;omega
      · refine ⟨fun _=>hn,by show 0≤D.stage∧D.stage≤7;omega,fun e=>⟨a1,a2,?_⟩,fun e=>?_,fun e=>?_,fun e=>?_,fun e=>?_,fun e=>?_,fun e=>?_,fun e=>by simp [hnd] at e,fun e=>by simp [hnd] at e,h1,?_⟩
        · show ((D.pages ++ [_]).length:Int) < D.news
          simp;omega
        iterate 6 · have e : D.stage = _ := e
                    omega
        · show (D.pages ++ [_]).length≤4
          simp;omega
    · exact hD.undo (by omega) _
  | put hs hR h =>
    have hn:=hD.n (by rw [hs];decide)
    obtain ⟨a1,a2,a3,a4,a5⟩:=hD.s1 hs
    have hnd:=hD.nodone (by rw [hs];decide)
    unfold putB
    split
    · split
      · refine ⟨fun _=>hn,by show (0:Int)≤2∧(2:Int)≤7;decide,fun e=>by simp at e,fun e=>by simp at e,fun e=>⟨a2,?_,Int.le_refl 0,?_⟩,fun e=>by simp at e,fun e=>by simp at e,fun e=>by simp at e,fun e=>by simp at e,fun e=>by simp [hnd] at e,fun e=>by simp [hnd] at e,?_,h2⟩
        · show ((D.refs ++ [_]).length:Int)=D.news
          simp;omega
        · show 0 < D.news
          omega
        · show (D.refs ++ [_]).length≤5
          simp;omega
      · refine ⟨fun _=>hn,by show 0≤D.stage∧D.stage≤7;omega,fun e=>?_,fun e=>⟨a1,a2,by show 0≤D.at_+1;omega,by show D.at_+1 < D.news;omega,?_⟩,fun e=>?_,fun e=>?_,fun e=>?_,fun e=>?_,fun e=>?_,fun e=>by simp [hnd] at e,fun e=>by simp [hnd] at e,?_,h2⟩
        · have e:D.stage=_:=e
          omega
        · show ((D.refs ++ [_]).length:Int)=D.at_+1
          simp;omega
        iterate 5 · have e : D.stage = _ := e
                    omega
        · show (D.refs ++ [_]).length≤5
          simp;omega
    · exact hD.undo (by omega) _
  | link hs hp hr h =>
    have hn:=hD.n (by rw [hs];decide)
    obtain ⟨a1,a2,a3,a4⟩:=hD.s2 hs
    have hnd:=hD.nodone (by rw [hs];decide)
    unfold linkD
    split
    · split
      · exact ⟨fun _=>hn,by show (0:Int)≤3∧(3:Int)≤7;decide,fun e=>by simp at e,fun e=>by simp at e,fun e=>by simp at e,fun e=>⟨a2,a1⟩,fun e=>by simp at e,fun e=>by simp at e,fun e=>by simp at e,fun e=>by simp [hnd] at e,fun e=>by simp [hnd] at e,h1,h2⟩
      · refine ⟨fun _=>hn,by show 0≤D.stage∧D.stage≤7;omega,fun e=>?_,fun e=>?_,fun e=>⟨a1,a2,by show 0≤D.at_+1;omega,by show D.at_+1 < D.news;omega⟩,fun e=>?_,fun e=>?_,fun e=>?_,fun e=>?_,fun e=>by simp [hnd] at e,fun e=>by simp [hnd] at e,h1,h2⟩
        iterate 6 · have e : D.stage = _ := e
                    omega
    · exact hD.undo (by omega) _
  | head hs h =>
    have hn:=hD.n (by rw [hs];decide)
    obtain ⟨a1,a2⟩:=hD.s3 hs
    have hnd:=hD.nodone (by rw [hs];decide)
    unfold fwd3D
    split
    · refine ⟨fun _=>hn,by show (0:Int)≤4∧(4:Int)≤7;decide,fun e=>by simp at e,fun e=>by simp at e,fun e=>by simp at e,fun e=>by simp at e,fun e=>⟨?_,a2⟩,fun e=>by simp at e,fun e=>by simp at e,fun e=>by simp [hnd] at e,fun e=>by simp [hnd] at e,?_,h2⟩
      · show ((D.refs ++ [_]).length:Int)=D.news+1
        simp;omega
      · show (D.refs ++ [_]).length≤5
        simp;omega
    · exact hD.undo (by omega) _
  | swap hs hr h =>
    have hn:=hD.n (by rw [hs];decide)
    obtain ⟨a1,a2⟩:=hD.s4 hs
    unfold fwd4D
    split
    · exact ⟨fun _=>hn,by show (0:Int)≤7∧(7:Int)≤7;decide,fun e=>by simp at e,fun e=>by simp at e,fun e=>by simp at e,fun e=>by simp at e,fun e=>by simp at e,fun e=>by simp at e,fun e=>by simp at e,fun e=>⟨a1,a2⟩,fun e=>rfl,h1,h2⟩
    · exact hD.undo (by omega) _
  | free hs hr h =>
    have hn:=hD.n (by rw [hs];decide)
    have a1:=hD.s5 hs
    have hnd:=hD.nodone (by rw [hs];decide)
    have hl:D.refs.dropLast.length≤5:=by simp;omega
    unfold freeD
    split
    · rename_i hl1
      have hnil:D.refs.dropLast=[]:=List.eq_nil_of_length_eq_zero (by simp;omega)
      split
      · exact ⟨fun _=>hn,by show (0:Int)≤7∧(7:Int)≤7;decide,fun e=>by simp at e,fun e=>by simp at e,fun e=>by simp at e,fun e=>by simp at e,fun e=>by simp at e,fun e=>by simp at e,fun e=>by simp at e,fun e=>by simp [hnd] at e,fun e=>rfl,hl,h2⟩
      · exact ⟨fun _=>hn,by show (0:Int)≤6∧(6:Int)≤7;decide,fun e=>by simp at e,fun e=>by simp at e,fun e=>by simp at e,fun e=>by simp at e,fun e=>by simp at e,fun e=>by simp at e,fun e=>⟨hnil,by show 1≤D.pages.length;omega⟩,fun e=>by simp [hnd] at e,fun e=>by simp [hnd] at e,hl,h2⟩
    · exact ⟨fun _=>hn,by show (0:Int)≤5∧(5:Int)≤7;decide,fun e=>by simp at e,fun e=>by simp at e,fun e=>by simp at e,fun e=>by simp at e,fun e=>by simp at e,fun e=>by show 1≤D.refs.dropLast.length;simp;omega,fun e=>by simp at e,fun e=>by simp [hnd] at e,fun e=>by simp [hnd] at e,hl,h2⟩
  | give hs hp h =>
    have hn:=hD.n (by rw [hs];decide)
    obtain ⟨a1,a2⟩:=hD.s6 hs
    have hnd:=hD.nodone (by rw [hs];decide)
    have hl:D.pages.dropLast.length≤4:=by simp;omega
    unfold giveD
    split
    · exact ⟨fun _=>hn,by show (0:Int)≤7∧(7:Int)≤7;decide,fun e=>by simp at e,fun e=>by simp at e,fun e=>by simp at e,fun e=>by simp at e,fun e=>by simp at e,fun e=>by simp at e,fun e=>by simp at e,fun e=>by simp [hnd] at e,fun e=>rfl,h1,hl⟩
    · exact ⟨fun _=>hn,by show (0:Int)≤6∧(6:Int)≤7;decide,fun e=>by simp at e,fun e=>by simp at e,fun e=>by simp at e,fun e=>by simp at e,fun e=>by simp at e,fun e=>by simp at e,fun e=>⟨a1,by show 1≤D.pages.dropLast.length;simp;omega⟩,fun e=>by simp [hnd] at e,fun e=>by simp [hnd] at e,h1,hl⟩

structure NotFirst (D:Dt):Prop where
  r:∀ p ∈ D.refs,p.1≠1
  p:∀ p ∈ D.pages,p≠0
  j:D.page=0∧D.os=1∧D.og=1
def X0 (x:St) (h g:Int):Prop:=(∃ s,x.ss[0]?=some s∧s.used=true)∧x.ps[0]?=some (true,h,g)
theorem NotFirst.undo {D:Dt} (h:NotFirst D) (c:Int):NotFirst (undoD D c):=⟨h.r,h.p,h.j⟩
theorem TakeR.first {ps ps':List Pg} {n c h g:Int} (ht:TakeR ps n c ps') (h0:ps[0]?=some (true,h,g)):(c=0→n≠0)∧ps'[0]?=some (true,h,g):=by
  rcases ht with ⟨i,s,g',h1,h2,rfl,rfl,rfl⟩ | ⟨_,rfl,rfl,rfl⟩
  · have hi:i≠0:=by rintro rfl;rw [h1] at h0;cases h0
    exact ⟨fun _=>by omega,by rw [List.getElem?_set_ne hi];exact h0⟩
  · exact ⟨fun e=>absurd e (by decide),h0⟩
theorem FreeR.first {ss ss':List Sl} {sl gn c:Int} (hf:FreeR ss sl gn c ss') (hn:sl≠1) (h0:∃ s,ss[0]?=some s∧s.used=true):∃ s,ss'[0]?=some s∧s.used=true:=by
  obtain ⟨s0,e0,u0⟩:=h0
  rcases hf with ⟨i,s,rfl,h1,h2,h3,rfl,rfl⟩ | ⟨_,rfl,rfl⟩
  · have hi:i≠0:=by omega
    exact ⟨s0,by rw [List.getElem?_set_ne hi];exact e0,u0⟩
  · exact ⟨s0,e0,u0⟩
theorem GiveR.first {ps ps':List Pg} {n c h g:Int} (hg:GiveR ps n c ps') (hn:n≠0) (h0:ps[0]?=some (true,h,g)):ps'[0]?=some (true,h,g):=by
  rcases hg with ⟨i,s,g',rfl,h1,rfl,rfl⟩ | ⟨_,rfl,rfl⟩
  · have hi:i≠0:=by omega
    rw [List.getElem?_set_ne hi];exact h0
  · exact h0
theorem SwapR.first {ps ps':List Pg} {n a b c d k h g:Int} {ok:Bool} (hs:SwapR ps n a b c d ok k ps') (hn:n≠0) (h0:ps[0]?=some (true,h,g)):ps'[0]?=some (true,h,g):=by
  rcases hs with ⟨i,s,g',rfl,h1,h2,h3,rfl⟩ | ⟨_,rfl,rfl,rfl⟩
  · have hi:i≠0:=by omega
    unfold swapPs
    split
    · rw [List.getElem?_set_ne hi];exact h0
    · exact h0
  · exact h0
end Go.Proofs.YthcpccddcgbanaaGreatDoor
