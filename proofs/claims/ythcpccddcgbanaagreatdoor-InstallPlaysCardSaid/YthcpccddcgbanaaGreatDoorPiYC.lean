/- Texts of one proof, merged: StepF12, StepJ12, BegJ12, Mny12, Dch9. -/
import Derived.Deep.DeepCutAuto
import Derived.Test.YthcpccddcgbanaaGreatDoorPiL
import Derived.Test.YthcpccddcgbanaaGreatDoorPiQ
import Derived.Test.YthcpccddcgbanaaGreatDoorPiS
import Derived.Test.YthcpccddcgbanaaGreatDoorPiX
import Derived.Test.YthcpccddcgbanaaGreatDoorPiY
import Derived.Test.YthcpccddcgbanaaGreatDoorPiYB
namespace Go.Proofs.YthcpccddcgbanaaGreatDoor
set_option maxRecDepth 100000
set_option linter.unusedVariables false
open Go.RowKit

theorem own_prefix12 {w:World} {base size n m c:Nat} {e:TypeId} {A:Option Addr} {xs:List Value} (h:w.ownsRow base e size (.slice A n c) n xs) (hm:m≤n):w.ownsRow base e size (.slice A m c) m (xs.take (m * size)):=by
  have hl:=Nat.mul_le_mul_right size hm
  refine ⟨by rw [List.length_take,h.1];omega,?_⟩
  rcases h.2 with ⟨hv,h0⟩ | ⟨g,cap,cur,hv,hb,hh,hc,hmx,hs,ht⟩
  · injection hv with h1 _ h3
    subst h1
    subst h3
    have:m=0:=by omega
    exact .inl ⟨by rw [this],this⟩
  · injection hv with h1 _ h3
    subst h1
    subst h3
    exact .inr ⟨g,c,cur,rfl,hb,hh,by omega,hmx,hs,by rw [← ht,List.take_take,Nat.min_eq_left hl]⟩
theorem snoc_of {α:Type} {l:List α} {a:α} (h:l.getLast?=some a):l=l.dropLast ++ [a]:=by
  have hne:l≠[]:=by rintro rfl;simp at h
  have e:=List.dropLast_concat_getLast hne
  rw [List.getLast?_eq_some_getLast hne] at h
  rw [← Option.some.inj h]
  exact e.symm
theorem last_get {α:Type} {l:List α} {j:Nat} {a:α} (hl:l.length=j+1) (hj:l[j]?=some a):l.getLast?=some a:=by
  rw [List.getLast?_eq_getElem?,hl]
  exact hj
theorem rf9_len:∀ l:List (Int × Int),(rf9Flat l).length=l.length * 2
  | []=>rfl
  | p :: l=>by
    have:=rf9_len l
    unfold rf9Flat at this ⊢
    simp at this ⊢
    omega
theorem Inst.popR {w:World} {B i:Nat} {D:Dt} {a:Ia} (h:Inst w B i D a) {A:Option Addr} {j c:Nat} (hrv:a.rv=.slice A (j+1) c) (hl:D.refs.length=j+1):Inst (w.setCell ⟨i,23,none⟩ (.slice A j c)) B i { D with refs:=D.refs.dropLast } { a with rv:=.slice A j c }∧Fr (only i) w (w.setCell ⟨i,23,none⟩ (.slice A j c)):=by
  have f1:=Fr.only1 w ⟨i,23,none⟩ (.slice A j c)
  have hrec:∀ R vr ve,RecOwn w 0 R vr ve→RecOwn (w.setCell ⟨i,23,none⟩ (.slice A j c)) 0 R vr ve:=fun R vr ve hR=>hR.only f1 h.b (by decide) (by decide)
  obtain ⟨z,hz⟩:∃ z,D.refs.getLast?=some z:=⟨_,List.getLast?_eq_some_getLast (by intro e;rw [e] at hl;simp at hl)⟩
  have hs:=snoc_of hz
  have hdl:D.refs.dropLast.length=j:=by simp;omega
  have hr:w.ownsRow B 48 2 (.slice A j c) D.refs.dropLast.length (rf9Flat D.refs.dropLast):=by
    have h1:=h.r
    rw [hrv,hl] at h1
    have h2:=own_prefix12 h1 (m:=j) (by omega)
    rw [hdl]
    have e:(rf9Flat D.refs).take (j * 2)=rf9Flat D.refs.dropLast:=by
      have e1:(rf9Flat D.refs.dropLast).length=j * 2:=by rw [rf9_len,hdl]
      conv=>lhs;rw [hs,rf9Flat_snoc]
      rw [← e1,List.take_left']
      rfl
    rw [← e]
    exact h2
  have hb':∀ k,(Value.slice A j c).ownBlock=some k→a.rv.ownBlock=some k:=fun k hk=>by rw [hrv];cases A <;> exact hk
  exact ⟨⟨h.b.set_ 23 _,own_fr h.p f1 (fun k hk e=>own_blk_ne h.p h.b (by decide) (by rw [hk,show k=i from e])),own_fr h.bs f1 (fun k hk e=>own_blk_ne h.bs h.b (by decide) (by rw [hk,show k=i from e])),h.cs,fun C hC=>hrec _ _ _ (h.bo C hC),own_fr hr f1 (fun k hk e=>own_blk_ne hr h.b (by decide) (by rw [hk,show k=i from e])),hrec _ _ _ h.h,h.e.only f1 h.b (by decide),h.le,h.zb,h.zh,⟨h.zp.1,h.zp.2.1,by have:=h.zp.2.2;show D.refs.dropLast.length≤5;omega⟩⟩,f1⟩
theorem Inst.popP {w:World} {B i:Nat} {D:Dt} {a:Ia} (h:Inst w B i D a) {A:Option Addr} {j c:Nat} (hpv:a.pv=.slice A (j+1) c) (hl:D.pages.length=j+1):Inst (w.setCell ⟨i,6,none⟩ (.slice A j c)) B i { D with pages:=D.pages.dropLast } { a with pv:=.slice A j c }∧Fr (only i) w (w.setCell ⟨i,6,none⟩ (.slice A j c)):=by
  have f1:=Fr.only1 w ⟨i,6,none⟩ (.slice A j c)
  have hrec:∀ R vr ve,RecOwn w 0 R vr ve→RecOwn (w.setCell ⟨i,6,none⟩ (.slice A j c)) 0 R vr ve:=fun R vr ve hR=>hR.only f1 h.b (by decide) (by decide)
  obtain ⟨z,hz⟩:∃ z,D.pages.getLast?=some z:=⟨_,List.getLast?_eq_some_getLast (by intro e;rw [e] at hl;simp at hl)⟩
  have hs:=snoc_of hz
  have hdl:D.pages.dropLast.length=j:=by simp;omega
  have hr:w.ownsRow B 3 1 (.slice A j c) D.pages.dropLast.length (intF D.pages.dropLast):=by
    have h1:=h.p
    rw [hpv,hl] at h1
    have h2:=own_prefix12 h1 (m:=j) (by omega)
    rw [hdl]
    have e:(intF D.pages).take (j * 1)=intF D.pages.dropLast:=by
      have e1:(intF D.pages.dropLast).length=j * 1:=by simp [intF];omega
      have e2 : intF D.pages = intF D.pages.dropLast ++ [.int .i64 z] := by conv => lhs; rw [hs]
                                                                            simp [intF]
      rw [e2,← e1,List.take_left']
      rfl
    rw [← e]
    exact h2
  exact ⟨⟨h.b.set_ 6 _,own_fr hr f1 (fun k hk e=>own_blk_ne hr h.b (by decide) (by rw [hk,show k=i from e])),own_fr h.bs f1 (fun k hk e=>own_blk_ne h.bs h.b (by decide) (by rw [hk,show k=i from e])),h.cs,fun C hC=>hrec _ _ _ (h.bo C hC),own_fr h.r f1 (fun k hk e=>own_blk_ne h.r h.b (by decide) (by rw [hk,show k=i from e])),hrec _ _ _ h.h,h.e.only f1 h.b (by decide),h.le,h.zb,h.zh,⟨by have:=h.zp.1;show D.pages.dropLast.length≤4;omega,h.zp.2⟩⟩,f1⟩
theorem FootLe.blk {i:Nat} {a a':Ia} (w:World) (h1:a'.pv.ownBlock=a.pv.ownBlock) (h2:a'.bv.ownBlock=a.bv.ownBlock) (h3:a'.rv.ownBlock=a.rv.ownBlock):FootLe i a a' w:=fun k h=>by
  unfold foot at h ⊢
  rw [h1,h2,h3] at h
  exact .inl h
def StepF (W:World) (m:Nat) (k:Int) (l:Lm) (x:St) (B i:Nat) (D:Dt) (a:Ia) (J:Jd) (q:Jl) (c0:Int) (w:World) (e:Ending) (w':World):Prop:=
  ∃ D' x' a',e=.returned (.bool (D'.stage==7))∧StepR l.n J D x D' x'∧Behind W w m k l x x' B i D' a a' J q c0 w'
set_option maxHeartbeats 8000000 in
theorem stepFree {W w:World} {m:Nat} {k:Int} {l:Lm} {x:St} {B i:Nat} {D:Dt} {a:Ia} {J:Jd} {q:Jl} {c0:Int} (h:Env W w m k l x B i D a J q c0) (hs:D.stage=5) :
  Calls Tryz.prog 11 #[.pointer (some ⟨i,0,none⟩),.pointer (some ⟨m,0,none⟩)] w (StepF W m k l x B i D a J q c0 w):=by
 have hex:∃ j,D.refs.length=j+1:=⟨D.refs.length - 1,by have:=h.d.s5 hs;omega⟩
 obtain ⟨j,hl⟩:=hex
 obtain ⟨z,hj⟩:∃ z,D.refs[j]?=some z:=⟨_,List.getElem?_eq_getElem (by omega)⟩
 have hlast:=last_get hl hj
 obtain ⟨gb,cc,hv,hcap,r0,r1⟩:=h.I.ref_at hj
 rw [hl] at hv hcap
 have hl5:j≤4:=by have:=h.d.lr;have:=h.d.lp;omega
 have H:=hid_ h
 have S5:=hid_ (And.intro hs (And.intro hl hlast))
 have HV:=hid_ hv
 have i5:w.cell? ⟨i,5,none⟩=some (.int .i64 5):=by rw [← hs];exact h.I.b.cell' rfl
 have iv:w.cell? ⟨i,23,none⟩=some (.slice (some ⟨gb,0,none⟩) (j+1) cc):=by rw [← hv];exact h.I.b.cell' rfl
 have hwj:IntKind.i64.wrap (j:Int)=(j:Int):=IntWalk.i64_in _ (by omega)
 have hi0:(0:Int)≤(j:Int):=Int.natCast_nonneg _
 have hi1:(j:Int) < (j:Int)+1:=Int.lt_succ _
 have hi2:(j:Int)≤(cc:Int):=by omega
 have d7:(D.stage==7)=false:=by rw [hs];rfl
 clear h hs hl hj hlast hv
 go_enter Tryz.func11,Tryz.ntmps11
 go_wp2_with fail
 refine (over_ok H.out.I).mono ?_
 rintro e w1 ⟨rfl,rfl⟩
 go_wp2_with fail
 refine (memFree_any m k l x _ H.out.M H.out.k0 H.out.k1 z.1 z.2).mono ?_
 rintro e w1 ⟨c,ss',v,rfl,hR,hev,hM1,hf1⟩
 have RR:=hid_ hR
 have M1:=hid_ hM1
 have F1:=hid_ hf1
 have I1:=hid_ (H.out.I.mall H.out.M hf1)
 clear hR hev hM1 hf1 i5 iv r0 r1
 have iv:w1.cell? ⟨i,23,none⟩=some (.slice (some ⟨gb,0,none⟩) (j+1) cc):=by rw [← HV.out];exact I1.out.b.cell' rfl
 have yv:=I1.out.b.frozen 23
 have I2:=hid_ (I1.out.popR HV.out S5.out.2.1)
 have M2:=hid_ (M1.out.ty I2.out.2 I1.out.only_off)
 have F2:=hid_ (mf_tr (mf_m F1.out) (mf_i (a:=a) I2.out.2))
 go_upto_region 9 with fail
 obtain ⟨w2,hw2⟩:∃ z,z=w1.setCell ⟨i,23,none⟩ (.slice (some ⟨gb,0,none⟩) j cc):=⟨_,rfl⟩
 rw [← hw2] at I2 M2 F2
 change Code.wp _ _ _ _ (w1.setCell ⟨i,23,none⟩ (.slice (some ⟨gb,0,none⟩) j cc))
 rw [← hw2]
 clear hw2 iv yv hwj hi0 hi1 hi2
 have i5:w2.cell? ⟨i,5,none⟩=some (.int .i64 5):=by rw [← S5.out.1];exact I2.out.1.b.cell' rfl
 have y5:=I2.out.1.b.frozen 5
 have FLb:=hid_ (show FootLe i a { a with rv:=.slice (some ⟨gb,0,none⟩) j cc } w from FootLe.blk w rfl rfl (by rw [HV.out];rfl))
 obtain ⟨Ap,cp,_,_,_,_,e1,_,_⟩:=I2.out.1.shapes
 have i6:w2.cell? ⟨i,6,none⟩=some (.slice Ap D.pages.length cp):=by rw [← e1];exact I2.out.1.b.cell' rfl
 clear e1
 by_cases hj0:j=0
 ·subst hj0
  have i5b:(w2.setCell ⟨i,5,none⟩ (.int .i64 6)).cell? ⟨i,5,none⟩=some (.int .i64 6):=World.cell?_setCell_same _ _ _ (by rw [i5])
  clear i5b
  by_cases hp:D.pages.length=0
  ·have hp2:((D.pages.length:Int)==0)=true:=by simp [hp]
   have HP:=hid_ hp
   clear hp
   go_wp2_with fail
   have I3:=I2.out.1.setStage 6
   have I4a:=I3.1.setStage 7
   have f3:Fr (only i) w2 _:=I3.2.trans I4a.2 (fun _ _=>id) (fun _ _=>id)
   have I4:=hid_ I4a.1
   have M4:=hid_ (M2.out.ty f3 I2.out.1.only_off)
   have F4:=hid_ (mf_tr F2.out (mf_i f3))
   have ef:freeD D={ D with refs:=D.refs.dropLast,stage:=7 }:=by unfold freeD;rw [if_pos S5.out.2.1,if_pos HP.out]
   clear I3 I4a f3
   refine (over_ok I4.out).mono ?_
   rintro e w6 ⟨rfl,rfl⟩
   go_wp2_with fail
   go_ret
   refine ⟨_,_,{ a with rv:=.slice (some ⟨gb,0,none⟩) 0 cc },?_,StepR.free S5.out.1 S5.out.2.2 RR.out,H.out.behind (by rw [ef];exact I4.out) M4.out rfl F4.out FLb.out ⟨rfl,rfl,rfl,rfl,rfl,rfl⟩⟩
   rw [ef]
   first
    | rfl
    | (rw [show (({ D with refs:=D.refs.dropLast }:Dt).stage==7)=false from (by show (D.stage==7)=false;rw [S5.out.1];rfl)];rfl)
  ·have hp2:((D.pages.length:Int)==0)=false:=by simp [hp]
   have HP:=hid_ hp
   clear hp
   go_wp2_with fail
   have I3:=I2.out.1.setStage 6
   have I4:=hid_ I3.1
   have M4:=hid_ (M2.out.ty I3.2 I2.out.1.only_off)
   have F4:=hid_ (mf_tr F2.out (mf_i I3.2))
   have ef:freeD D={ D with refs:=D.refs.dropLast,stage:=6 }:=by unfold freeD;rw [if_pos S5.out.2.1,if_neg HP.out]
   clear I3
   refine (over_ok I4.out).mono ?_
   rintro e w6 ⟨rfl,rfl⟩
   go_wp2_with fail
   go_ret
   refine ⟨_,_,{ a with rv:=.slice (some ⟨gb,0,none⟩) 0 cc },?_,StepR.free S5.out.1 S5.out.2.2 RR.out,H.out.behind (by rw [ef];exact I4.out) M4.out rfl F4.out FLb.out ⟨rfl,rfl,rfl,rfl,rfl,rfl⟩⟩
   rw [ef]
   first
    | rfl
    | (rw [show (({ D with refs:=D.refs.dropLast }:Dt).stage==7)=false from (by show (D.stage==7)=false;rw [S5.out.1];rfl)];rfl)
 ·have hj2:((j:Int)==0)=false:=by simp [hj0]
  have HJ:=hid_ hj0
  clear hj0
  go_wp2_with fail
  have I4:=hid_ I2.out.1
  have M4:=hid_ M2.out
  have F4:=hid_ F2.out
  have ef:freeD D={ D with refs:=D.refs.dropLast }:=by unfold freeD;rw [if_neg (by have:=HJ.out;have:=S5.out.2.1;omega),← S5.out.1]
  refine (over_ok I4.out).mono ?_
  rintro e w6 ⟨rfl,rfl⟩
  go_wp2_with fail
  go_ret
  refine ⟨_,_,{ a with rv:=.slice (some ⟨gb,0,none⟩) _ cc },?_,StepR.free S5.out.1 S5.out.2.2 RR.out,H.out.behind (by rw [ef];exact I4.out) M4.out rfl F4.out FLb.out ⟨rfl,rfl,rfl,rfl,rfl,rfl⟩⟩
  rw [ef]
  first
   | rfl
   | (rw [show (({ D with refs:=D.refs.dropLast }:Dt).stage==7)=false from (by show (D.stage==7)=false;rw [S5.out.1];rfl)];rfl)
set_option maxHeartbeats 8000000 in
theorem stepGive {W w:World} {m:Nat} {k:Int} {l:Lm} {x:St} {B i:Nat} {D:Dt} {a:Ia} {J:Jd} {q:Jl} {c0:Int} (h:Env W w m k l x B i D a J q c0) (hs:D.stage=6) :
  Calls Tryz.prog 11 #[.pointer (some ⟨i,0,none⟩),.pointer (some ⟨m,0,none⟩)] w (StepF W m k l x B i D a J q c0 w):=by
 have hex:∃ j,D.pages.length=j+1:=⟨D.pages.length - 1,by have:=(h.d.s6 hs).2;omega⟩
 obtain ⟨j,hl⟩:=hex
 obtain ⟨z,hj⟩:∃ z,D.pages[j]?=some z:=⟨_,List.getElem?_eq_getElem (by omega)⟩
 have hlast:=last_get hl hj
 obtain ⟨gb,cc,hv,hcap,r0⟩:=h.I.page_at hj
 rw [hl] at hv hcap
 have hl5:j≤4:=by have:=h.d.lr;have:=h.d.lp;omega
 have H:=hid_ h
 have S5:=hid_ (And.intro hs (And.intro hl hlast))
 have HV:=hid_ hv
 have i5:w.cell? ⟨i,5,none⟩=some (.int .i64 6):=by rw [← hs];exact h.I.b.cell' rfl
 have iv:w.cell? ⟨i,6,none⟩=some (.slice (some ⟨gb,0,none⟩) (j+1) cc):=by rw [← hv];exact h.I.b.cell' rfl
 have hwj:IntKind.i64.wrap (j:Int)=(j:Int):=IntWalk.i64_in _ (by omega)
 have hi0:(0:Int)≤(j:Int):=Int.natCast_nonneg _
 have hi1:(j:Int) < (j:Int)+1:=Int.lt_succ _
 have hi2:(j:Int)≤(cc:Int):=by omega
 have d7:(D.stage==7)=false:=by rw [hs];rfl
 clear h hs hl hj hlast hv
 go_enter Tryz.func11,Tryz.ntmps11
 go_wp2_with fail
 refine (over_ok H.out.I).mono ?_
 rintro e w1 ⟨rfl,rfl⟩
 go_wp2_with fail
 refine (memGive_any m k l x _ H.out.M H.out.k0 H.out.k1 z).mono ?_
 rintro e w1 ⟨c,ps',v,rfl,hR,hev,hM1,hf1⟩
 have RR:=hid_ hR
 have M1:=hid_ hM1
 have F1:=hid_ hf1
 have I1:=hid_ (H.out.I.mall H.out.M hf1)
 clear hR hev hM1 hf1 i5 iv r0
 have iv:w1.cell? ⟨i,6,none⟩=some (.slice (some ⟨gb,0,none⟩) (j+1) cc):=by rw [← HV.out];exact I1.out.b.cell' rfl
 have yv:=I1.out.b.frozen 6
 have I2:=hid_ (I1.out.popP HV.out S5.out.2.1)
 have M2:=hid_ (M1.out.ty I2.out.2 I1.out.only_off)
 have F2:=hid_ (mf_tr (mf_m F1.out) (mf_i (a:=a) I2.out.2))
 go_upto_region 15 with fail
 obtain ⟨w2,hw2⟩:∃ z,z=w1.setCell ⟨i,6,none⟩ (.slice (some ⟨gb,0,none⟩) j cc):=⟨_,rfl⟩
 rw [← hw2] at I2 M2 F2
 change Code.wp _ _ _ _ (w1.setCell ⟨i,6,none⟩ (.slice (some ⟨gb,0,none⟩) j cc))
 rw [← hw2]
 clear hw2 iv yv hwj hi0 hi1 hi2
 have i5:w2.cell? ⟨i,5,none⟩=some (.int .i64 6):=by rw [← S5.out.1];exact I2.out.1.b.cell' rfl
 have y5:=I2.out.1.b.frozen 5
 have FLb:=hid_ (show FootLe i a { a with pv:=.slice (some ⟨gb,0,none⟩) j cc } w from FootLe.blk w (by rw [HV.out];rfl) rfl rfl)
 have i6:w2.cell? ⟨i,6,none⟩=some (.slice (some ⟨gb,0,none⟩) j cc):=I2.out.1.b.cell' rfl
 by_cases hj0:j=0
 ·subst hj0
  go_wp2_with fail
  have I3:=I2.out.1.setStage 7
  have I4:=hid_ I3.1
  have M4:=hid_ (M2.out.ty I3.2 I2.out.1.only_off)
  have F4:=hid_ (mf_tr F2.out (mf_i I3.2))
  have ef:giveD D={ D with pages:=D.pages.dropLast,stage:=7 }:=by unfold giveD;rw [if_pos S5.out.2.1]
  clear I3
  refine (over_ok I4.out).mono ?_
  rintro e w6 ⟨rfl,rfl⟩
  go_wp2_with fail
  go_ret
  refine ⟨_,_,{ a with pv:=.slice (some ⟨gb,0,none⟩) 0 cc },?_,StepR.give S5.out.1 S5.out.2.2 RR.out,H.out.behind (by rw [ef];exact I4.out) M4.out rfl F4.out FLb.out ⟨rfl,rfl,rfl,rfl,rfl,rfl⟩⟩
  rw [ef]
  first
   | rfl
   | (rw [show (({ D with pages:=D.pages.dropLast }:Dt).stage==7)=false from (by show (D.stage==7)=false;rw [S5.out.1];rfl)];rfl)
 ·have hj2:((j:Int)==0)=false:=by simp [hj0]
  have HJ:=hid_ hj0
  clear hj0
  go_wp2_with fail
  have I4:=hid_ I2.out.1
  have M4:=hid_ M2.out
  have F4:=hid_ F2.out
  have ef:giveD D={ D with pages:=D.pages.dropLast }:=by unfold giveD;rw [if_neg (by have:=HJ.out;have:=S5.out.2.1;omega),← S5.out.1]
  refine (over_ok I4.out).mono ?_
  rintro e w6 ⟨rfl,rfl⟩
  go_wp2_with fail
  go_ret
  refine ⟨_,_,{ a with pv:=.slice (some ⟨gb,0,none⟩) _ cc },?_,StepR.give S5.out.1 S5.out.2.2 RR.out,H.out.behind (by rw [ef];exact I4.out) M4.out rfl F4.out FLb.out ⟨rfl,rfl,rfl,rfl,rfl,rfl⟩⟩
  rw [ef]
  first
   | rfl
   | (rw [show (({ D with pages:=D.pages.dropLast }:Dt).stage==7)=false from (by show (D.stage==7)=false;rw [S5.out.1];rfl)];rfl)
open Go.RowKit

def CallsN (D D':Dt) (c0 c':Int):Prop:=c'=if D.stage=0∧D'.stage=1 then wrap64 (c0+1) else c0
def StepJ (W:World) (m:Nat) (k:Int) (l:Lm) (x:St) (B i:Nat) (D:Dt) (a:Ia) (J:Jd) (q:Jl) (c0:Int) (w:World) (e:Ending) (w':World):Prop:=
  ∃ D' x' a' c',e=.returned (.bool (D'.stage==7))∧StepR l.n J D x D' x'∧CallsN D D' c0 c'∧Behind W w m k l x x' B i D' a a' J q c' w'
theorem undoD_stage (D:Dt) (c:Int):(undoD D c).stage≠1:=by
  unfold undoD
  by_cases hr:D.refs.length=0
  · by_cases hp:D.pages.length=0 <;> simp [hr,hp]
  · simp [hr]
theorem take_calls {J:Jd} {D:Dt} (h:DOk D) (hs:D.stage=0) (p c c0:Int):CallsN D (takeD J D p c) c0 (takeC D c c0):=by
  have hn:=h.n (by rw [hs];decide)
  obtain ⟨a1,a2,a3⟩:=h.s0 hs
  unfold CallsN takeC takeD
  by_cases hc:c=0
  · by_cases hl:(D.pages.length:Int)+1=D.news
    · have hz:D.news≠0:=by omega
      simp [hc,hl,hs,madeD,hz]
    · simp [hc,hl,hs]
  · have:=undoD_stage D c
    simp [hc,hs,this]
theorem calls_same {D D':Dt} {c0:Int} (hs:D.stage≠0):CallsN D D' c0 c0:=by
  unfold CallsN
  rw [if_neg (fun e=>hs e.1)]
theorem step_any {W w:World} {m:Nat} {k:Int} {l:Lm} {x:St} {B i:Nat} {D:Dt} {a:Ia} {J:Jd} {q:Jl} {c0:Int} (h:Env W w m k l x B i D a J q c0) (h7:D.stage≠7) :
  Calls Tryz.prog 11 #[.pointer (some ⟨i,0,none⟩),.pointer (some ⟨m,0,none⟩)] w (StepJ W m k l x B i D a J q c0 w):=by
 have hst:=h.d.st
 have d:D.stage=0∨D.stage=1∨D.stage=2∨D.stage=3∨D.stage=4∨D.stage=5∨D.stage=6:=by omega
 have sn:∀ (b:Bool),∃ b',(Ending.returned (.bool b))=.returned (.bool b'):=fun b=>⟨b,rfl⟩
 rcases d with hs | hs | hs | hs | hs | hs | hs
 ·refine (step_fwd h.I h7 (by rw [hs];decide) (by rw [hs];decide) (fwd0 h hs) (fun e w' h=>by obtain ⟨_,_,_,_,h,_⟩:=h;exact ⟨_,h⟩)).mono ?_
  rintro e w' ⟨p,c,ps',a',he,hT,hb⟩
  exact ⟨_,_,a',_,he,.take hs hT,take_calls h.d hs p c c0,hb⟩
 ·obtain ⟨s1,s2,s3,s4,s5⟩:=h.d.s1 hs
  obtain ⟨j,hj⟩:∃ j:Nat,D.at_=(j:Int):=⟨D.at_.toNat,by omega⟩
  obtain ⟨R,hR⟩:∃ R,D.bases[j]?=some R:=⟨_,List.getElem?_eq_getElem (by omega)⟩
  refine (step_fwd h.I h7 (by rw [hs];decide) (by rw [hs];decide) (fwd1 h hs hj hR) (fun e w' h=>by obtain ⟨_,_,_,_,_,h,_⟩:=h;exact ⟨_,h⟩)).mono ?_
  rintro e w' ⟨sl,gn,kk,ss',a',he,hA,hb⟩
  exact ⟨_,_,a',c0,he,.put hs (by rw [hj];exact hR) hA,calls_same (by rw [hs];decide),hb⟩
 ·obtain ⟨s1,s2,s3,s4⟩:=h.d.s2 hs
  obtain ⟨j,hj⟩:∃ j:Nat,D.at_=(j:Int):=⟨D.at_.toNat,by omega⟩
  obtain ⟨p,hp⟩:∃ p,D.pages[j]?=some p:=⟨_,List.getElem?_eq_getElem (by omega)⟩
  obtain ⟨⟨s,g⟩,hr⟩:∃ r,D.refs[j]?=some r:=⟨_,List.getElem?_eq_getElem (by omega)⟩
  refine (step_fwd h.I h7 (by rw [hs];decide) (by rw [hs];decide) (fwd2 h hs hj hp hr) (fun e w' h=>by obtain ⟨_,_,_,_,h,_⟩:=h;exact ⟨_,h⟩)).mono ?_
  rintro e w' ⟨ok,c,ps',a',he,hA,hb⟩
  exact ⟨_,_,a',c0,he,.link hs (by rw [hj];exact hp) (by rw [hj];exact hr) hA,calls_same (by rw [hs];decide),hb⟩
 ·obtain ⟨s1,s2⟩:=h.d.s3 hs
  have hn:=h.d.n h7
  refine (step_fwd h.I h7 (by rw [hs];decide) (by rw [hs];decide) (fwd3 h.I h.M h.k0 h.k1 hs (by omega) h.hB) (fun e w' h=>by obtain ⟨_,_,_,_,_,h,_⟩:=h;exact ⟨_,h⟩)).mono ?_
  rintro e w' ⟨sl,gn,kk,ss',a',he,hA,hM,hI,hf,hfl,hsm⟩
  exact ⟨_,_,a',c0,he,.head hs hA,calls_same (by rw [hs];decide),h.behind hI hM hsm.1 hf hfl ⟨rfl,rfl,rfl,rfl,rfl,rfl⟩⟩
 ·obtain ⟨s1,s2⟩:=h.d.s4 hs
  have hn:=h.d.n h7
  obtain ⟨j,hl⟩:∃ j,D.refs.length=j+1:=⟨D.refs.length - 1,by omega⟩
  obtain ⟨⟨s,g⟩,hr⟩:∃ r,D.refs[j]?=some r:=⟨_,List.getElem?_eq_getElem (by omega)⟩
  refine (step_fwd h.I h7 (by rw [hs];decide) (by rw [hs];decide) (fwd4 h.I h.M h.k0 h.k1 hs hl hr) (fun e w' h=>by obtain ⟨_,_,_,_,h,_⟩:=h;exact ⟨_,h⟩)).mono ?_
  rintro e w' ⟨ok,c,ps',a',he,hA,hM,hI,hf,hfl,hsm⟩
  exact ⟨_,_,a',c0,he,.swap hs (last_get hl hr) hA,calls_same (by rw [hs];decide),h.behind hI hM hsm.1.1 hf hfl ⟨rfl,rfl,rfl,rfl,rfl,rfl⟩⟩
 ·refine (stepFree h hs).mono ?_
  rintro e w' ⟨D',x',a',he,hR,hb⟩
  exact ⟨D',x',a',c0,he,hR,calls_same (by rw [hs];decide),hb⟩
 ·refine (stepGive h hs).mono ?_
  rintro e w' ⟨D',x',a',he,hR,hb⟩
  exact ⟨D',x',a',c0,he,hR,calls_same (by rw [hs];decide),hb⟩
theorem StepR.news {n:Int} {J:Jd} {D D':Dt} {x x':St} (h:StepR n J D x D' x'):D'.news=D.news:=by
  cases h with
  | take hs h=>unfold takeD;split <;> (try split) <;> rfl
  | put hs hR h=>unfold putB;split <;> (try split) <;> rfl
  | link hs hp hr h=>unfold linkD;split <;> (try split) <;> rfl
  | head hs h=>unfold fwd3D;split <;> rfl
  | swap hs hr h=>unfold fwd4D;split <;> rfl
  | free hs hr h=>rfl
  | give hs hp h=>rfl
theorem Env.keepJob {W w w':World} {m:Nat} {k:Int} {l:Lm} {x:St} {B i:Nat} {D:Dt} {a:Ia} {J:Jd} {q:Jl} {c0:Int} (h:Env W w m k l x B i D a J q c0) {J2:Jd} {q2:Jl} (hj:JobAt W w J2 q2) (hf:Fr (mfc m x i a q.cab) w w'):JobAt W w' J2 q2:=by
  obtain ⟨cs,hcb⟩:=h.cb
  refine hj.fr hf (fun b hb=>?_) (fun b t cs' hb hbb=>?_)
  · rcases hb with hb | hb | hb
    · exact h.hW b hb
    · exact Nat.le_trans h.hWB (h.I.foot_le hb)
    · rw [show b=q.cab from hb];exact h.j.ca
  · rcases hb with hb | hb | hb
    · exact ⟨fun e=>by subst e;exact h.M.mall_ty hbb (by decide) hb,fun e=>by subst e;exact h.M.mall_ty hbb (by decide) hb⟩
    · obtain ⟨t',cs2,hb',ht⟩:=h.I.foot_blk hb
      obtain ⟨rfl,_⟩:=hbb.uniq hb'
      rcases ht with rfl | rfl | rfl | rfl <;> decide
    · have hb2:b=q.cab:=hb
      subst hb2
      obtain ⟨rfl,_⟩:=hbb.uniq hcb
      decide
theorem mall_same {m:Nat} {x x':St} (h:x'.a=x.a∧x'.G=x.G∧x'.T=x.T∧x'.H=x.H∧x'.C=x.C∧x'.M=x.M):mall m x'=mall m x:=by
  unfold mall
  rw [h.2.1,h.2.2.2.1,h.2.2.2.2.1,h.2.2.2.2.2]
theorem Env.next {W w w':World} {m:Nat} {k:Int} {l:Lm} {x x':St} {B i:Nat} {D D':Dt} {a a':Ia} {J:Jd} {q:Jl} {c0 c':Int} (h:Env W w m k l x B i D a J q c0) (hs:StepR l.n J D x D' x') (hb:Behind W w m k l x x' B i D' a a' J q c' w') (hk:k+1≤100000):Env W w' m (k+1) l x' B i D' a' J q c':=by
  obtain ⟨cs,hcb⟩:=h.cb
  refine ⟨hb.I,hb.M,by have:=h.k0;omega,hk,h.d.step hs,h.keepJob h.j hb.f,hb.mv.trans h.mv,hs.news.trans h.nw,h.zJ,hb.cc,hb.cb,fun e=>?_,by rw [mall_same hb.sm];exact h.hW,h.hWB,Nat.le_trans h.hB hb.f.size⟩
  rcases hb.fl _ e with e | e
  · exact h.off e
  · have:=hcb.lt
    omega
open Go.RowKit

def begD (J:Jd):Dt:=if 0≤J.news∧J.news≤4 then (if J.news=0 then madeD J (dt0 J.page J.os J.og J.news 0 Rc.zero 0) else dt0 J.page J.os J.og J.news 0 Rc.zero 0) else dt0 J.page J.os J.og J.news 7 Rc.zero 1
def begC (J:Jd) (c0:Int):Int:=if J.news=0 then wrap64 (c0+1) else c0
theorem begD_ok (J:Jd):DOk (begD J)∧(begD J).news=J.news∧((begD J).stage=7→(begD J).done=false∧¬ (0≤J.news∧J.news≤4))∧(begD J).refs=[]∧(begD J).pages=[]∧(begD J).page=J.page∧(begD J).os=J.os∧(begD J).og=J.og∧(begD J).done=false:=by
  unfold begD
  split
  · rename_i h
    split
    · rename_i h0
      have e:madeD J (dt0 J.page J.os J.og J.news 0 Rc.zero 0)=⟨J.page,J.os,J.og,J.news,3,[],jbases J J.news.toNat,jhead J [],[],0,false,0⟩:=by unfold madeD;simp [h0]
      rw [e]
      exact ⟨⟨fun _=>h,by simp,fun e=>by simp at e,fun e=>by simp at e,fun e=>by simp at e,fun _=>⟨by show ((0:Nat):Int)=J.news;omega,by show ((0:Nat):Int)=J.news;omega⟩,fun e=>by simp at e,fun e=>by simp at e,fun e=>by simp at e,fun e=>by simp at e,fun e=>by simp at e,by simp,by simp⟩,rfl,fun e=>by simp at e,rfl,rfl,rfl,rfl,rfl,rfl⟩
    · rename_i h0
      exact ⟨⟨fun _=>h,by simp,fun _=>⟨rfl,rfl,by show ((0:Nat):Int) < J.news;omega⟩,fun e=>by simp at e,fun e=>by simp at e,fun e=>by simp at e,fun e=>by simp at e,fun e=>by simp at e,fun e=>by simp at e,fun e=>by simp at e,fun e=>by simp at e,by simp,by simp⟩,rfl,fun e=>by simp at e,rfl,rfl,rfl,rfl,rfl,rfl⟩
  · rename_i h
    exact ⟨⟨fun e=>by simp at e,by simp,fun e=>by simp at e,fun e=>by simp at e,fun e=>by simp at e,fun e=>by simp at e,fun e=>by simp at e,fun e=>by simp at e,fun e=>by simp at e,fun e=>by simp at e,fun e=>rfl,by simp,by simp⟩,rfl,fun _=>⟨rfl,h⟩,rfl,rfl,rfl,rfl,rfl,rfl⟩
def BegJ (J:Jd) (q:Jl) (c0:Int) (w:World) (e:Ending) (w':World):Prop:=
  ∃ i a,e=.returned (.pointer (some ⟨i,0,none⟩))∧Inst w' w.heap.size i (begD J) a∧a.mv=jobF q.jb q.cb∧w'.cell? ⟨q.cab,q.cao,none⟩=some (.int .i64 (if 0≤J.news∧J.news≤4 then begC J c0 else c0))∧(∃ cs:CS q,Blk w' q.cab 3 cs.1)∧Fr (only q.cab) w w'
set_option maxHeartbeats 8000000 in
theorem begJ {W w:World} {J:Jd} {q:Jl} (hj:JobAt W w J q) (c0:Int) (hc:w.cell? ⟨q.cab,q.cao,none⟩=some (.int .i64 c0)) (hcb:∃ cs:CS q,Blk w q.cab 3 cs.1) (hzJ:RowsOk J.head∧∀ R ∈ J.bases,RowsOk R) :
  Calls Tryz.prog 8 #[.agg #[.int .i64 J.page,.int .i64 J.os,.int .i64 J.og,.int .i64 J.news,(jobF q.jb q.cb)]] w (BegJ J q c0 w):=by
 obtain ⟨cs0,hcb⟩:=hcb
 have hltc:=hcb.lt
 have F:=hid_ (Fr.refl none_ w)
 have HJ:=hid_ hj
 have HC:=hid_ hc
 have HCB:=hid_ hcb
 have HZ:=hid_ hzJ
 have HLC:=hid_ hltc
 clear hj hc hcb hzJ hltc
 have qf1:=eq_func
 go_enter Tryz.func8,Tryz.ntmps8
 go_upto_region 1 with fail
 obtain ⟨w0,hw0⟩:∃ z,z=w.alloc (.cells #[.int .i64 J.page,.int .i64 J.os,.int .i64 J.og,.int .i64 J.news,(jobF q.jb q.cb)] 62):=⟨_,rfl⟩
 have fw0:Fr none_ w w0:=by rw [hw0];exact (Fr.refl none_ w).alloc _
 have BJ:Hid (Blk w0 w.heap.size 62 (#[.int .i64 J.page,.int .i64 J.os,.int .i64 J.og,.int .i64 J.news,(jobF q.jb q.cb)])):=hid_ (by rw [hw0];exact Blk.new w _ _)
 replace F:=hid_ (F.out.then_none fw0)
 replace HJ:=hid_ (HJ.out.keep fw0)
 replace HCB:=hid_ (HCB.out.fr fw0 id)
 replace HC:=hid_ (cellFr HC.out fw0)
 change Code.wp _ _ _ _ (w.alloc (.cells #[.int .i64 J.page,.int .i64 J.os,.int .i64 J.og,.int .i64 J.news,(jobF q.jb q.cb)] 62))
 rw [← hw0]
 clear hw0 fw0
 have j0:w0.cell? ⟨w.heap.size,0,none⟩=some (.int .i64 J.page):=BJ.out.cell' rfl
 have j1:w0.cell? ⟨w.heap.size,1,none⟩=some (.int .i64 J.os):=BJ.out.cell' rfl
 have j2:w0.cell? ⟨w.heap.size,2,none⟩=some (.int .i64 J.og):=BJ.out.cell' rfl
 have j3:w0.cell? ⟨w.heap.size,3,none⟩=some (.int .i64 J.news):=BJ.out.cell' rfl
 have j4:w0.cell? ⟨w.heap.size,4,none⟩=some ((jobF q.jb q.cb)):=BJ.out.cell' rfl
 have HL:=hid_ (Nat.le_of_lt BJ.out.lt)
 go_upto_region 2 with fail
 clear j0 j1 j2 j3 j4
 obtain ⟨w1,hw1⟩:∃ z,z=w0.alloc (.cells (inA (dt0 J.page J.os J.og J.news 0 Rc.zero 0) (ia0 (jobF q.jb q.cb) (.slice none 0 0) (.slice none 0 0) .nilIface)) 112):=⟨_,rfl⟩
 have fw1:Fr none_ w0 w1:=by rw [hw1];exact (Fr.refl none_ w0).alloc _
 have BI:Hid (Blk w1 w0.heap.size 112 (inA (dt0 J.page J.os J.og J.news 0 Rc.zero 0) (ia0 (jobF q.jb q.cb) (.slice none 0 0) (.slice none 0 0) .nilIface))):=hid_ (by rw [hw1];exact Blk.new w0 _ _)
 replace F:=hid_ (F.out.then_none fw1)
 replace HJ:=hid_ (HJ.out.keep fw1)
 replace HCB:=hid_ (HCB.out.fr fw1 id)
 replace BJ:=hid_ (BJ.out.fr fw1 id)
 replace HC:=hid_ (cellFr HC.out fw1)
 change Code.wp _ _ _ _ (w0.alloc (.cells (inA (dt0 J.page J.os J.og J.news 0 Rc.zero 0) (ia0 (jobF q.jb q.cb) (.slice none 0 0) (.slice none 0 0) .nilIface)) 112))
 rw [← hw1]
 clear hw1 fw1
 have j3:w1.cell? ⟨w.heap.size,2+1,none⟩=some (.int .i64 J.news):=BJ.out.cell' rfl
 have j4:w1.cell? ⟨w.heap.size,4,none⟩=some (jobF q.jb q.cb):=BJ.out.cell' rfl
 have I1:=hid_ (inst_new (B:=w.heap.size) J.page J.os J.og J.news 0 (jobF q.jb q.cb) .nilIface 0 HL.out BI.out (.inl rfl))
 have y5:=BI.out.frozen 5
 have y26:=BI.out.frozen 26
 have i5:w1.cell? ⟨w0.heap.size,5,none⟩=some (.int .i64 0):=BI.out.cell' rfl
 have i26:w1.cell? ⟨w0.heap.size,26,none⟩=some .nilIface:=BI.out.cell' rfl
 have HLL:=hid_ (show q.cab≠w0.heap.size by have:=F.out.size;have:=HLC.out;have:=HL.out;omega)
 have HNF:=hid_ (show ¬ foot w0.heap.size (ia0 (jobF q.jb q.cb) (.slice none 0 0) (.slice none 0 0) .nilIface) q.cab from fun e=>by have h1:=I1.out.foot_le e;have h2:=HLC.out;omega)
 by_cases g0:J.news < 0
 ·have dd0:decide (J.news < 0)=true:=by simpa using g0
  have G:=hid_ (show ¬ (0≤J.news∧J.news≤4) by omega)
  clear g0
  go_wp2_with fail
  have f9:Fr (only w0.heap.size) w1 ((w1.setCell ⟨w0.heap.size,5,none⟩ (.int .i64 7)).setCell ⟨w0.heap.size,26,none⟩ (errV 1)):=(Fr.only1 w1 ⟨w0.heap.size,5,none⟩ (.int .i64 7)).trans (Fr.only1 _ ⟨w0.heap.size,26,none⟩ (errV 1)) (fun _ _=>id) (fun _ _=>id)
  have B9:=(BI.out.set_ 5 (.int .i64 7)).set_ 26 (errV 1)
  have I9:=inst_new (B:=w.heap.size) J.page J.os J.og J.news 7 (jobF q.jb q.cb) (errV 1) 1 HL.out B9 (.inl rfl)
  go_ret
  refine ⟨_,_,rfl,by rw [show begD J=dt0 J.page J.os J.og J.news 7 Rc.zero 1 from if_neg G.out];exact I9,rfl,?_,⟨_,HCB.out.fr f9 (only_ne HLL.out)⟩,(F.out.mono (fun _ _ e=>e.elim)).then_only f9 (.inr HL.out)⟩
  rw [if_neg G.out]
  exact cellFrS HC.out f9 (only_ne HLL.out)
 have dd0:decide (J.news < 0)=false:=by simpa using g0
 by_cases g1:4 < J.news
 ·have dd1:decide (4 < J.news)=true:=by simpa using g1
  have dd2:decide (J.news > 4)=true:=by simpa using g1
  have G:=hid_ (show ¬ (0≤J.news∧J.news≤4) by omega)
  clear g0 g1
  go_wp2_with fail
  have f9:Fr (only w0.heap.size) w1 ((w1.setCell ⟨w0.heap.size,5,none⟩ (.int .i64 7)).setCell ⟨w0.heap.size,26,none⟩ (errV 1)):=(Fr.only1 w1 ⟨w0.heap.size,5,none⟩ (.int .i64 7)).trans (Fr.only1 _ ⟨w0.heap.size,26,none⟩ (errV 1)) (fun _ _=>id) (fun _ _=>id)
  have B9:=(BI.out.set_ 5 (.int .i64 7)).set_ 26 (errV 1)
  have I9:=inst_new (B:=w.heap.size) J.page J.os J.og J.news 7 (jobF q.jb q.cb) (errV 1) 1 HL.out B9 (.inl rfl)
  go_ret
  refine ⟨_,_,rfl,by rw [show begD J=dt0 J.page J.os J.og J.news 7 Rc.zero 1 from if_neg G.out];exact I9,rfl,?_,⟨_,HCB.out.fr f9 (only_ne HLL.out)⟩,(F.out.mono (fun _ _ e=>e.elim)).then_only f9 (.inr HL.out)⟩
  rw [if_neg G.out]
  exact cellFrS HC.out f9 (only_ne HLL.out)
 have dd1:decide (4 < J.news)=false:=by simpa using g1
 have dd2:decide (J.news > 4)=false:=by simpa using g1
 have G:=hid_ (show 0≤J.news∧J.news≤4 by omega)
 clear g0 g1 i5 i26 y5 y26
 by_cases g2:J.news=0
 ·have dd3:(J.news==0)=true:=by simp [g2]
  have G2:=hid_ g2
  clear g2
  go_wp2_with fail
  refine (madeJ I1.out HJ.out rfl c0 HC.out cs0 HCB.out HNF.out G.out rfl HZ.out F.out.size).mono ?_
  rintro e w5 ⟨a5,rfl,hI5,hf5,hfl5,hmv5,hcc5,hcb5⟩
  have P5:=hid_ (And.intro hI5 (And.intro hf5 (And.intro hmv5 (And.intro hcc5 hcb5))))
  clear hI5 hf5 hfl5 hmv5 hcc5 hcb5 j3 j4
  go_wp2_with fail
  go_ret
  refine ⟨_,a5,rfl,?_,P5.out.2.2.1,?_,P5.out.2.2.2.2,(F.out.mono (S':=only q.cab) (fun _ _ e=>e.elim)).trans P5.out.2.1 (fun _ _=>id) (fun g hg e=>?_)⟩
  ·rw [show begD J=madeD J (dt0 J.page J.os J.og J.news 0 Rc.zero 0) by unfold begD;rw [if_pos G.out,if_pos G2.out]]
   exact P5.out.1
  ·rw [if_pos G.out,show begC J c0=wrap64 (c0+1) from if_pos G2.out]
   exact P5.out.2.2.2.1
  ·rcases e with e | e
   ·have:=I1.out.foot_le e
    omega
   ·exact e
 ·have dd3:(J.news==0)=false:=by simp [g2]
  have G2:=hid_ g2
  clear g2
  go_wp2_with fail
  go_ret
  refine ⟨_,ia0 (jobF q.jb q.cb) (.slice none 0 0) (.slice none 0 0) .nilIface,rfl,?_,rfl,?_,⟨_,HCB.out⟩,F.out.mono (fun _ _ e=>e.elim)⟩
  ·rw [show begD J=dt0 J.page J.os J.og J.news 0 Rc.zero 0 by unfold begD;rw [if_pos G.out,if_neg G2.out]]
   exact I1.out
  ·rw [if_pos G.out,show begC J c0=c0 from if_neg G2.out]
   exact HC.out
open Go.RowKit

structure In1 where
  i:Nat
  B:Nat
  D:Dt
  a:Ia
  J:Jd
  q:Jl
def cellsI (cs:List Int):Array Value:=(cs.map fun c=>Value.int .i64 c).toArray
theorem cellsI_get (cs:List Int) (o:Nat):(cellsI cs)[o]?=(cs[o]?).map fun c=>Value.int .i64 c:=by simp [cellsI]
abbrev qph (q:Jl) (cs:List Int):Jl:={ q with ph:=fun o=>(cellsI cs)[o]? }
def CntOk (D:Dt) (c:Int):Prop:=0≤c∧c≤1∧(D.stage=0→c=0)
structure InOk (W w:World) (cab jx:Nat) (z:In1):Prop where
  I:Inst w z.B z.i z.D z.a
  d:DOk z.D
  j:JobAt W w z.J z.q
  mv:z.a.mv=jobF z.q.jb z.q.cb
  nw:z.D.news=z.J.news
  zJ:RowsOk z.J.head∧∀ R ∈ z.J.bases,RowsOk R
  off:¬ foot z.i z.a cab
  hWB:W.heap.size≤z.B
  hB:z.B≤w.heap.size
  qc:z.q.cab=cab∧z.q.cao=jx
structure Mny (W w:World) (m:Nat) (k:Int) (l:Lm) (x:St) (cab:Nat) (cs:List Int) (L:List In1):Prop where
  M:Mm w m k l x
  k0:0≤k
  k1:k≤100000
  hW:∀ b,mall m x b→W.heap.size≤b
  cb:Blk w cab 3 (cellsI cs)
  ca:W.heap.size≤cab
  ct:∀ (j:Nat) (z:In1),L[j]?=some z→∃ c,cs[j]?=some c∧CntOk z.D c
  e:∀ (j:Nat) (z:In1),L[j]?=some z→InOk W w cab j z
  dis:∀ (j1 j2:Nat) (z1 z2:In1),L[j1]?=some z1→L[j2]?=some z2→j1≠j2→∀ g,foot z1.i z1.a g→¬ foot z2.i z2.a g
theorem InOk.keep {W w w':World} {cab j:Nat} {z:In1} (h:InOk W w cab j z) (hf:Fr none_ w w'):InOk W w' cab j z:=
  ⟨h.I.keep hf,h.d,h.j.keep hf,h.mv,h.nw,h.zJ,h.off,h.hWB,Nat.le_trans h.hB hf.size,h.qc⟩
theorem Mny.keep {W w w':World} {m:Nat} {k:Int} {l:Lm} {x:St} {cab:Nat} {cs:List Int} {L:List In1} (h:Mny W w m k l x cab cs L) (hf:Fr none_ w w'):Mny W w' m k l x cab cs L:=
  ⟨h.M.keep hf,h.k0,h.k1,h.hW,h.cb.fr hf id,h.ca,h.ct,fun j z hz=>(h.e j z hz).keep hf,h.dis⟩
theorem JobAt.ph {W w:World} {J:Jd} {q:Jl} (h:JobAt W w J q) (f:Nat→Option Value):JobAt W w J { q with ph:=f }:={ bs:=h.bs,cs:=h.cs,hd:=h.hd,hz:=h.hz,l6:=h.l6,f:=h.f,jb:=h.jb,cb:=h.cb,ca:=h.ca }
theorem JobAt.unph {W w:World} {J:Jd} {q:Jl} {f:Nat→Option Value} (h:JobAt W w J { q with ph:=f }):JobAt W w J q:={ bs:=h.bs,cs:=h.cs,hd:=h.hd,hz:=h.hz,l6:=h.l6,f:=h.f,jb:=h.jb,cb:=h.cb,ca:=h.ca }
theorem Mny.env {W w:World} {m:Nat} {k:Int} {l:Lm} {x:St} {cab:Nat} {cs:List Int} {L:List In1} (h:Mny W w m k l x cab cs L) {j:Nat} {z:In1} {c:Int} (hz:L[j]?=some z) (hc:cs[j]?=some c):Env W w m k l x z.B z.i z.D z.a z.J (qph z.q cs) c:=by
  have e:=h.e j z hz
  refine ⟨e.I,h.M,h.k0,h.k1,e.d,e.j.ph _,e.mv,e.nw,e.zJ,?_,?_,?_,h.hW,e.hWB,e.hB⟩
  · show w.cell? ⟨z.q.cab,z.q.cao,none⟩=some (.int .i64 c)
    rw [e.qc.1,e.qc.2]
    exact h.cb.cell' (by rw [cellsI_get,hc];rfl)
  · show ∃ cs':CS (qph z.q cs),Blk w z.q.cab 3 cs'.1
    rw [e.qc.1]
    exact ⟨⟨cellsI cs,fun o _=>rfl⟩,h.cb⟩
  · show ¬ foot z.i z.a z.q.cab
    rw [e.qc.1]
    exact e.off
theorem Env.other {W w w':World} {m:Nat} {k:Int} {l:Lm} {x:St} {B i:Nat} {D:Dt} {a:Ia} {J:Jd} {q:Jl} {c0:Int} (h:Env W w m k l x B i D a J q c0) {B2 i2:Nat} {D2:Dt} {a2:Ia} (h2:Inst w B2 i2 D2 a2) (dis:∀ g,foot i a g→¬ foot i2 a2 g) (off:¬ foot i2 a2 q.cab) (hf:Fr (mfc m x i a q.cab) w w'):Inst w' B2 i2 D2 a2:=by
  obtain ⟨cs,hcb⟩:=h.cb
  refine h2.fr hf (fun g hg hb=>?_) (fun g t cs' hb ht hs=>?_)
  · rcases hb with hb | hb | hb
    · obtain ⟨t,cs,hbb,ht⟩:=h2.foot_blk hg
      refine h.M.mall_ty hbb ?_ hb
      rcases ht with rfl | rfl | rfl | rfl <;> decide
    · exact dis g hb hg
    · exact off (by rw [← show g=q.cab from hb];exact hg)
  · rcases hs with hs | hs | hs
    · refine h.M.mall_ty hb ?_ hs
      rcases ht with rfl | rfl | rfl <;> decide
    · obtain ⟨t',cs2,hb',ht'⟩:=h.I.foot_blk hs
      obtain ⟨rfl,_⟩:=hb.uniq hb'
      rcases ht with rfl | rfl | rfl <;> rcases ht' with h | h | h | h <;> revert h <;> decide
    · have e:g=q.cab:=hs
      subst e
      obtain ⟨rfl,_⟩:=hb.uniq hcb
      rcases ht with h | h | h <;> revert h <;> decide
theorem get_set {α:Type} {L:List α} {j:Nat} {a:α} (hj:j < L.length) {i:Nat} {y:α} (hy:(L.set j a)[i]?=some y):(i=j∧y=a)∨(i≠j∧L[i]?=some y):=by
  rcases Nat.decEq i j with hij | hij
  · rw [List.getElem?_set_ne (fun e=>hij e.symm)] at hy
    exact .inr ⟨hij,hy⟩
  · subst hij
    rw [List.getElem?_set_self hj] at hy
    exact .inl ⟨rfl,(Option.some.inj hy).symm⟩
theorem Mny.upd {W w w':World} {m:Nat} {k k':Int} {l:Lm} {x x':St} {cab:Nat} {cs:List Int} {c':Int} {L:List In1} (h:Mny W w m k l x cab cs L) {j:Nat} {z:In1} (hz:L[j]?=some z) {D':Dt} {a':Ia} (he:Env W w' m k' l x' z.B z.i D' a' z.J (qph z.q cs) c') (hf:Fr (mfc m x z.i z.a cab) w w') (hfl:FootLe z.i z.a a' w) (hct:CntOk D' c'):Mny W w' m k' l x' cab (cs.set j c') (L.set j { z with D:=D',a:=a' }):=by
  have ez:=h.e j z hz
  obtain ⟨c0,hc0,_⟩:=h.ct j z hz
  have en:=h.env hz hc0
  have hjl:=(List.getElem?_eq_some_iff.1 hz).1
  have hcl:=(List.getElem?_eq_some_iff.1 hc0).1
  have hfoot:∀ (i:Nat) (z2:In1),i≠j→L[i]?=some z2→(∀ g,foot z.i a' g→¬ foot z2.i z2.a g):=fun i z2 hij h2 g hg hg2=>by
    rcases hfl g hg with e | e
    · exact h.dis j i z z2 hz h2 (Ne.symm hij) g e hg2
    · have:=(h.e i z2 h2).I.foot_lt hg2
      omega
  have hfq:Fr (mfc m x z.i z.a (qph z.q cs).cab) w w':=by
    show Fr (mfc m x z.i z.a z.q.cab) w w'
    rw [ez.qc.1];exact hf
  refine ⟨he.M,he.k0,he.k1,he.hW,?_,h.ca,fun i z2 h2=>?_,fun i z2 h2=>?_,fun j1 j2 z1 z2 h1 h2 hne g hg hg2=>?_⟩
  · obtain ⟨cs',hb⟩:=he.cb
    have hb':Blk w' cab 3 cs'.1:=by rw [← ez.qc.1];exact hb
    have hcc:w'.cell? ⟨z.q.cab,z.q.cao,none⟩=some (.int .i64 c'):=he.cc
    rw [ez.qc.1,ez.qc.2] at hcc
    have e:cs'.1=cellsI (cs.set j c'):=by
      apply Array.ext_getElem?
      intro o
      rw [cellsI_get]
      rcases Nat.decEq o j with ho | ho
      · rw [cs'.2 o (by show o≠z.q.cao;rw [ez.qc.2];exact ho),List.getElem?_set_ne (fun e=>ho e.symm)]
        exact cellsI_get cs o
      · subst ho
        rw [List.getElem?_set_self hcl,← hb'.cell]
        exact hcc
    rw [← e]
    exact hb'
  · rcases get_set hjl h2 with ⟨rfl,rfl⟩ | ⟨n2,g2⟩
    · exact ⟨c',List.getElem?_set_self hcl,hct⟩
    · obtain ⟨c2,hc2,h3⟩:=h.ct i z2 g2
      exact ⟨c2,by rw [List.getElem?_set_ne (fun e=>n2 e.symm)];exact hc2,h3⟩
  · rcases get_set hjl h2 with ⟨rfl,rfl⟩ | ⟨n2,g2⟩
    · exact ⟨he.I,he.d,he.j.unph,he.mv,he.nw,he.zJ,by have:=he.off;rw [← ez.qc.1];exact this,he.hWB,he.hB,ez.qc⟩
    · have e2:=h.e i z2 g2
      exact ⟨en.other e2.I (h.dis j i z z2 hz g2 (Ne.symm n2)) (by show ¬ foot z2.i z2.a z.q.cab;rw [ez.qc.1];exact e2.off) hfq,e2.d,en.keepJob e2.j hfq,e2.mv,e2.nw,e2.zJ,e2.off,e2.hWB,Nat.le_trans e2.hB hf.size,e2.qc⟩
  · rcases get_set hjl h1 with ⟨rfl,rfl⟩ | ⟨n1,g1⟩
    · rcases get_set hjl h2 with ⟨rfl,rfl⟩ | ⟨n2,g2⟩
      · exact (hne rfl).elim
      · exact hfoot j2 z2 n2 g2 g hg hg2
    · rcases get_set hjl h2 with ⟨rfl,rfl⟩ | ⟨n2,g2⟩
      · exact hfoot j1 z1 n1 g1 g hg2 hg
      · exact h.dis j1 j2 z1 z2 g1 g2 hne g hg hg2
theorem StepR.left0 {n:Int} {J:Jd} {D D':Dt} {x x':St} (h:StepR n J D x D' x') (hs:D.stage≠0):D'.stage≠0:=by
  have hu:∀ (D:Dt) (c:Int),(undoD D c).stage≠0:=fun D c=>by
    unfold undoD
    by_cases hr:D.refs.length=0
    · by_cases hp:D.pages.length=0 <;> simp [hr,hp]
    · simp [hr]
  cases h with
  | take hs0 h=>exact absurd hs0 hs
  | put hs1 hR h =>
    unfold putB
    split
    · split
      · exact fun e=>absurd (show (2:Int)=0 from e) (by decide)
      · exact hs
    · exact hu _ _
  | link hs1 hp hr h =>
    unfold linkD
    split
    · split
      · exact fun e=>absurd (show (3:Int)=0 from e) (by decide)
      · exact hs
    · exact hu _ _
  | head hs1 h =>
    unfold fwd3D
    split
    · exact fun e=>absurd (show (4:Int)=0 from e) (by decide)
    · exact hu _ _
  | swap hs1 hr h =>
    unfold fwd4D
    split
    · exact fun e=>absurd (show (7:Int)=0 from e) (by decide)
    · exact hu _ _
  | free hs1 hr h =>
    unfold freeD
    show (if D.refs.length=1 then (if D.pages.length=0 then (7:Int) else 6) else 5)≠0
    split
    · split <;> decide
    · decide
  | give hs1 hp h =>
    unfold giveD
    show (if D.pages.length=1 then (7:Int) else 6)≠0
    split <;> decide
theorem wrap_one0:wrap64 (0+1)=1:=by first | rfl | (simp [wrap64]) | exact IntWalk.i64_in _ (by omega)
theorem cnt_step {n:Int} {J:Jd} {D D':Dt} {x x':St} {c c':Int} (h:StepR n J D x D' x') (hc:CntOk D c) (hn:CallsN D D' c c'):CntOk D' c':=by
  unfold CallsN at hn
  by_cases h0:D.stage=0
  · have hz:=hc.2.2 h0
    subst hz
    by_cases h1:D'.stage=1
    · rw [if_pos ⟨h0,h1⟩] at hn
      rw [wrap_one0] at hn
      subst hn
      exact ⟨by decide,by decide,fun e=>by rw [h1] at e;cases e⟩
    · rw [if_neg (fun e=>h1 e.2)] at hn
      subst hn
      exact ⟨by decide,by decide,fun _=>rfl⟩
  · rw [if_neg (fun e=>h0 e.1)] at hn
    subst hn
    exact ⟨hc.1,hc.2.1,fun e=>absurd e (h.left0 h0)⟩
theorem cnt_beg (J:Jd):CntOk (begD J) (if 0≤J.news∧J.news≤4 then begC J 0 else 0):=by
  unfold begD begC CntOk
  by_cases h:0≤J.news∧J.news≤4
  · by_cases h0:J.news=0
    · simp only [if_pos h,if_pos h0]
      rw [wrap_one0]
      refine ⟨by decide,by decide,fun e=>?_⟩
      unfold madeD at e
      simp [h0] at e
    · simp only [if_pos h,if_neg h0]
      exact ⟨by decide,by decide,fun _=>trivial⟩
  · simp only [if_neg h]
    exact ⟨by decide,by decide,fun e=>by cases e⟩
open Go.RowKit Go.BigFrame

theorem own_side9 {w w':World} {b1 s1 n1 b2 s2 n2:Nat} {e1 e2:TypeId} {v1 v2:Value} {xs1 xs2:List Value} (h:w.ownsRow b1 e1 s1 v1 n1 xs1) (h2:w.ownsRow b2 e2 s2 v2 n2 xs2) (ne:e1≠e2) (hg:w.grownBy w' v2.ownBlock):w'.ownsRow b1 e1 s1 v1 n1 xs1:=
  own_fr h (Fr.grown (S:=fun b=>v2.ownBlock=some b) (Fr.refl _ _) hg (fun k hk=>.inl hk)) (fun i hi e=>own_own_ne h h2 ne i hi e)
theorem own_far9 {w w':World} {b1 s1 n1 X:Nat} {e1 t:TypeId} {v1:Value} {xs1:List Value} {cs:Array Value} (h:w.ownsRow b1 e1 s1 v1 n1 xs1) (hX:Blk w X t cs) (ne:e1≠t) (hf:Fr (only X) w w'):w'.ownsRow b1 e1 s1 v1 n1 xs1:=
  own_fr h hf (fun k hk e=>own_blk_ne h hX ne (by rw [hk,show k=X from e]))
theorem Blk.range0d {w:World} {g:Nat} {t:TypeId} {cs:Array Value} (h:Blk w g t cs):w.rangeAt g 0 cs.toList:=fun j v hv=>by
  rw [Nat.zero_add]
  exact h.cell' (by simpa using hv)
inductive DPth (slots:Int) (LP:List RaP) (s0 g0:Int):List (Int × Int)→Int→Int→Prop where
  | nil:DPth slots LP s0 g0 [] s0 g0
  | snoc {pre:List (Int × Int)} {s g:Int} {R:Rc} {A B:Option Addr} {c d:Nat} (h:DPth slots LP s0 g0 pre s g) (hz:¬ (s=0∧g=0)) (hl:RLoadIs slots LP s g R A B c d 0):DPth slots LP s0 g0 (pre ++ [(s,g)]) R.nslot R.ngen
structure DcW (w:World) (b1 gM gx:Nat) (DM:Array Value) (wr:World) (vl:Value) (nl:Nat) (xl:List Value) (vr:Value) (nr:Nat) (xr:List Value) (s g:Int):Prop where
  lo:wr.ownsRow b1 55 15 vl nl xl
  ro:wr.ownsRow b1 48 2 vr nr xr
  bm:Blk wr gM 43 DM
  bx:Blk wr gx 48 #[.int .i64 s,.int .i64 g]
  lt:gx < b1∧w.heap.size≤gx∧w.heap.size≤b1∧b1≤wr.heap.size
  fr:Fr none_ w wr
section
variable {w:World} {b1 gM gx:Nat} {DM:Array Value} {wr w':World} {vl:Value} {nl:Nat} {xl:List Value} {vr:Value} {nr:Nat} {xr:List Value} {s g:Int}
theorem DcW.keep (h:DcW w b1 gM gx DM wr vl nl xl vr nr xr s g) (hf:Fr none_ wr w'):DcW w b1 gM gx DM w' vl nl xl vr nr xr s g:=
  ⟨own_none h.lo hf,own_none h.ro hf,h.bm.fr hf id,h.bx.fr hf id,⟨h.lt.1,h.lt.2.1,h.lt.2.2.1,Nat.le_trans h.lt.2.2.2 hf.size⟩,h.fr.then_none hf⟩
theorem DcW.growL (h:DcW w b1 gM gx DM wr vl nl xl vr nr xr s g) {v2:Value} {n2:Nat} {x2:List Value} (ho:w'.ownsRow b1 55 15 v2 n2 x2) (hg:wr.grownBy w' vl.ownBlock):DcW w b1 gM gx DM w' v2 n2 x2 vr nr xr s g:=by
  have hf:Fr (fun b=>vl.ownBlock=some b) wr w':=Fr.grown (Fr.refl _ _) hg (fun k hk=>.inl hk)
  exact ⟨ho,own_side9 h.ro h.lo (by decide) hg,h.bm.fr hf (own_blk_ne h.lo h.bm (by decide)),h.bx.fr hf (own_blk_ne h.lo h.bx (by decide)),⟨h.lt.1,h.lt.2.1,h.lt.2.2.1,Nat.le_trans h.lt.2.2.2 hf.size⟩,h.fr.grown hg (fun b hb=>.inr (by have:=(h.lo.lt b hb).1;have:=h.lt.2.2.1;omega))⟩
theorem DcW.growR (h:DcW w b1 gM gx DM wr vl nl xl vr nr xr s g) {v2:Value} {n2:Nat} {x2:List Value} (ho:w'.ownsRow b1 48 2 v2 n2 x2) (hg:wr.grownBy w' vr.ownBlock):DcW w b1 gM gx DM w' vl nl xl v2 n2 x2 s g:=by
  have hf:Fr (fun b=>vr.ownBlock=some b) wr w':=Fr.grown (Fr.refl _ _) hg (fun k hk=>.inl hk)
  exact ⟨own_side9 h.lo h.ro (by decide) hg,ho,h.bm.fr hf (own_blk_ne h.ro h.bm (by decide)),h.bx.fr hf (fun e=>by have:=(h.ro.lt gx e).1;have:=h.lt.1;omega),⟨h.lt.1,h.lt.2.1,h.lt.2.2.1,Nat.le_trans h.lt.2.2.2 hf.size⟩,h.fr.grown hg (fun b hb=>.inr (by have:=(h.ro.lt b hb).1;have:=h.lt.2.2.1;omega))⟩
theorem DcW.setx (h:DcW w b1 gM gx DM wr vl nl xl vr nr xr s g) {s' g':Int} (hw:w'=(wr.setCell ⟨gx,0,none⟩ (.int .i64 s')).setCell ⟨gx,1,none⟩ (.int .i64 g')):DcW w b1 gM gx DM w' vl nl xl vr nr xr s' g':=by
  obtain ⟨hb,hf⟩:=box2 h.bx (.int .i64 s') (.int .i64 g')
  rw [← hw] at hb hf
  exact ⟨own_far9 h.lo h.bx (by decide) hf,own_fr h.ro hf (fun k hk e=>by have e':k=gx:=e;have:=(h.ro.lt k hk).1;have:=h.lt.1;omega),h.bm.fr hf (only_ne (Blk.ne_ h.bm h.bx (by decide))),hb,⟨h.lt.1,h.lt.2.1,h.lt.2.2.1,Nat.le_trans h.lt.2.2.2 hf.size⟩,h.fr.then_only hf (.inr h.lt.2.1)⟩
end
theorem rpFlat_snocd (L:List (Int × Int)) (p:Int × Int):rpFlat (L ++ [p])=rpFlat L ++ [.int .i64 p.1,.int .i64 p.2]:=by simp [rpFlat]
def slLend:Value→Nat
  | .slice _ n _=>n
  | _=>0
end Go.Proofs.YthcpccddcgbanaaGreatDoor
