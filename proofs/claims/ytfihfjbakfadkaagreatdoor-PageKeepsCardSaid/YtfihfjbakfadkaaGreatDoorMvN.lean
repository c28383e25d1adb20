/- Texts of one proof, merged: PgO10. -/
import Derived.Test.YtfihfjbakfadkaaGreatDoorMvI
import Derived.Test.YtfihfjbakfadkaaGreatDoorMvL
import Derived.Test.YtfihfjbakfadkaaGreatDoorMvM
namespace Go.Proofs.YtfihfjbakfadkaaGreatDoor
open Go.RowKit Go.BigFrame
set_option maxRecDepth 100000
set_option linter.unusedVariables false
theorem VwO.base {b0 b:Nat} {w:World} {V:Vw} {A:Option Addr} {c:Nat} (h:VwO b w V A c) (hb:b0≤b):VwO b0 w V A c:=⟨h.vin,own_base h.own hb⟩
theorem VwO.zero (b0:Nat) (w:World):VwO b0 w Vw.zero none 0:=⟨VwIn.zero w,World.ownsRow_nil _ _ _ _⟩
structure ChOwB (b0:Nat) (w:World) (C:Ch):Prop where
  own:RecOwn w b0 C.R (.slice C.A C.R.rows.length C.c) (.slice C.B C.R.ents.length C.d)
  low:SzOk C.R.low
  high:SzOk C.R.high
  key:SzOk C.R.key
  hkey:SzOk C.R.hkey
  ents:EtsOk C.R.ents
theorem ChOwB.keep {b0:Nat} {w w':World} {C:Ch} (h:ChOwB b0 w C) (hf:Fr none_ w w'):ChOwB b0 w' C:=⟨h.own.keep hf,h.low,h.high,h.key,h.hkey,h.ents⟩
theorem ChOwB.beside {b0:Nat} {w w':World} {C:Ch} (h:ChOwB b0 w C) {base n:Nat} {v:Value} {xs:List Value} (ho:w.ownsRow base 33 15 v n xs) (hg:w.grownBy w' v.ownBlock):ChOwB b0 w' C:=by
  refine ⟨?_,h.low,h.high,h.key,h.hkey,h.ents⟩
  have hf:Fr (fun k=>v.ownBlock=some k) w w':=(Fr.refl _ w).grown hg (fun k hk=>.inl hk)
  exact h.own.fr hf (fun k hk e=>own_own_ne h.own.r ho (by decide) k hk e) (fun k hk e=>own_own_ne h.own.e ho (by decide) k hk e)
theorem ChOwB.only_ {b0:Nat} {w w':World} {C:Ch} {g:Nat} {t:TypeId} {cs:Array Value} (h:ChOwB b0 w C) (hf:Fr (only g) w w') (hg:Blk w g t cs) (h1:143≠t) (h2:59≠t):ChOwB b0 w' C:=⟨h.own.only hf hg h1 h2,h.low,h.high,h.key,h.hkey,h.ents⟩
theorem ChOwB.own0 {b0:Nat} {w:World} {C:Ch} (h:ChOwB b0 w C):ChOwn w C:=⟨h.own.base (Nat.zero_le _),h.low,h.high,h.key,h.hkey,h.ents⟩
structure PgInO (b0:Nat) (w:World) (L:List Rc) (refs:List (Int × Int)) (lv:Lw) (iv:Vw) (A:Option Addr) (c:Nat) (B:Option Addr) (d:Nat) (C:Option Addr) (x:Nat) (D:Option Addr) (y:Nat):Prop where
  lv:LwIn b0 w lv A c
  iv:VwO b0 w iv B d
  ch:∃ Cs:List Ch,Cs.map (·.R)=L∧w.ownsRow b0 33 15 (.slice C L.length x) L.length (recFlat Cs)∧∀ E ∈ Cs,ChOwB b0 w E
  rf:w.ownsRow b0 23 2 (.slice D refs.length y) refs.length (rpFlat refs)
theorem PgInO.in_ {b0:Nat} {w:World} {L:List Rc} {refs:List (Int × Int)} {lv:Lw} {iv:Vw} {A B C D:Option Addr} {c d x y:Nat} (h:PgInO b0 w L refs lv iv A c B d C x D y):PgIn b0 w L refs lv iv A c B d C x D y:=by
  obtain ⟨Cs,h1,h2,h3⟩:=h.ch
  exact ⟨h.lv,h.iv.vin,⟨Cs,h1,h2,fun E hE=>(h3 E hE).own0⟩,h.rf⟩
theorem PgInO.far {b0:Nat} {w w':World} {L:List Rc} {refs:List (Int × Int)} {lv:Lw} {iv:Vw} {A:Option Addr} {c:Nat} {B:Option Addr} {d:Nat} {C:Option Addr} {x:Nat} {D:Option Addr} {y X:Nat} {n hs hg:Int} {vc vr sl si:Value} {leaf:Bool} {lv':Lw} {iv':Vw} (h:PgInO b0 w L refs lv iv A c B d C x D y) (hX:Blk w X 40 (pgA n hs hg vc vr leaf lv' sl iv' si)) (hsl:∃ A n c,sl=.slice A n c) (hsi:∃ A n c,si=.slice A n c) (hvr:∃ A n c,vr=.slice A n c) (hf:Fr (only X) w w'):PgInO b0 w' L refs lv iv A c B d C x D y:=by
  obtain ⟨Cs,h1,h2,h3⟩:=h.ch
  exact ⟨h.lv.far hX (by decide) hf,h.iv.turned hX (by decide) hf,⟨Cs,h1,own_fr h2 hf (fun k hk e=>own_blk_ne h2 hX (by decide) (by rw [hk,show k=X from e])),fun E hE=>(h3 E hE).only_ hf hX (by decide) (by decide)⟩,own_fr h.rf hf (fun k hk e=>own_blk_ne h.rf hX (by decide) (by rw [hk,show k=X from e]))⟩
def OfPostO (n hs hg:Int) (L:List Rc) (refs:List (Int × Int)) (w:World) (e:Ending) (w':World):Prop:=
  (∃ leaf lv iv A c B d C x D y,ofM L=some (leaf,lv,iv)∧e=.returned (.tuple #[.agg (pgA n hs hg (.slice C L.length x) (.slice D refs.length y) leaf lv (.slice A lv.rows.length c) iv (.slice B iv.ents.length d)),.nilIface])∧PgInO w.heap.size w' L refs lv iv A c B d C x D y∧Fr none_ w w') ∨
  (∃ k:Int,CodeOf L k∧ofM L=none∧e=.returned (.tuple #[.agg pgZ,errV k])∧Fr none_ w w')
def OfCutO (n hs hg:Int) (L:List Rc) (refs:List (Int × Int)) (w:World) (X:Nat) (u:Value) (wq:World):Prop:=
  (∃ leaf lv iv A c B d C x D y,ofM L=some (leaf,lv,iv)∧u=.nilIface∧Blk wq X 40 (pgA n hs hg (.slice C L.length x) (.slice D refs.length y) leaf lv (.slice A lv.rows.length c) iv (.slice B iv.ents.length d))∧PgInO w.heap.size wq L refs lv iv A c B d C x D y∧Blk wq (w.heap.size+1) 40 pgZ∧Fr none_ w wq) ∨
  (∃ k:Int,CodeOf L k∧ofM L=none∧u=errV k∧Blk wq (w.heap.size+1) 40 pgZ∧Fr none_ w wq)
structure OfStO (n hs hg:Int) (L:List Ch) (refs:List (Int × Int)) (w:World) (X k:Nat) (wr:World):Prop where
  st:∃ (vc vr:Value) (Cs:List Ch),Cs.length=k∧Cs.map (·.R)=(L.take k).map (·.R)∧Blk wr X 40 (pgA n hs hg vc vr false Lw.zero (.slice none 0 0) Vw.zero (.slice none 0 0))∧wr.ownsRow w.heap.size 33 15 vc k (recFlat Cs)∧(∀ C ∈ Cs,ChOwB w.heap.size wr C)∧wr.ownsRow w.heap.size 23 2 vr refs.length (rpFlat refs)
  bo:Blk wr (w.heap.size+1) 40 pgZ
  fr:Fr none_ w wr
theorem OfStO.keep {n hs hg:Int} {L:List Ch} {refs:List (Int × Int)} {w w1 w2:World} {X k:Nat} (h:OfStO n hs hg L refs w X k w1) (hf:Fr none_ w1 w2):OfStO n hs hg L refs w X k w2:=by
  obtain ⟨vc,vr,Cs,h1,h2,h3,h4,h5,h6⟩:=h.st
  exact ⟨⟨vc,vr,Cs,h1,h2,h3.fr hf id,own_none h4 hf,fun C hC=>(h5 C hC).keep hf,own_none h6 hf⟩,h.bo.fr hf id,h.fr.then_none hf⟩
set_option maxHeartbeats 8000000 in
theorem of_okO (n hs hg:Int) (A:Option Addr) (m cap:Nat) (L:List Ch) (refs:List (Int × Int)) (RA:Option Addr) (rc:Nat) (w:World) (h:ChReads w A m L) (hn:m≤400) (hs7:RwOkL L) (he:∀ C ∈ L,C.R.ents.length≤500) (hr:Reads w 2 RA refs.length (rpFlat refs)) (hrl:refs.length≤5000) :
  Calls Tryz.prog 9 #[.int .i64 n,.agg #[.int .i64 hs,.int .i64 hg],.slice A m cap,.slice RA refs.length rc] w (OfPostO n hs hg (L.map (·.R)) refs w):=by
 obtain ⟨i0,hi0,hz0,hs0,hb0⟩:=info_parts pref_info
 have Hi:=hid_ (And.intro hi0 (And.intro hz0 (And.intro hs0 hb0)))
 obtain ⟨j0,hj0,hy0,ht0,hc0⟩:=info_parts record_info
 have Hj:=hid_ (And.intro hj0 (And.intro hy0 (And.intro ht0 hc0)))
 have hln:=h.1
 obtain ⟨w0,hw0⟩:∃ z,z=(w.alloc (.cells #[.int .i64 hs,.int .i64 hg] 23)).alloc (.cells pgZ 40):=⟨_,rfl⟩
 have f0:Fr none_ w w0:=by rw [hw0];exact ((Fr.refl none_ w).alloc _).alloc _
 have BH:Hid (Blk w0 w.heap.size 23 #[.int .i64 hs,.int .i64 hg]):=hid_ (by rw [hw0];exact (Blk.new w _ _).alloc _)
 have BO:Hid (Blk w0 (w.heap.size+1) 40 pgZ):=hid_ (by rw [hw0];exact Blk.new7 _ _ (by simp))
 have F0:=hid_ f0
 have H:=hid_ h
 have HS:=hid_ hs7
 have HE:=hid_ he
 have HR:=hid_ (hr.none_fr f0)
 have hsz0:=BO.out.lt
 clear h f0 hs7 he hr hi0 hz0 hs0 hb0 hj0 hy0 ht0 hc0
 go_enter Tryz.func9,Tryz.ntmps9
 go_upto_region 1 with fail
 change Code.wp _ _ _ _ ((w.alloc (.cells #[.int .i64 hs,.int .i64 hg] 23)).alloc (.cells pgZ 40))
 rw [← hw0]
 clear hw0
 go_cut [10] (fun v wq=>∃ X,v=.pointer (some ⟨X,0,none⟩)∧w.heap.size+1 < X∧OfStO n hs hg L refs w X 0 wq)
 case first =>
  have g0:w0.cell? ⟨w.heap.size,0,none⟩=some (.int .i64 hs):=BH.out.cell' rfl
  have g1:w0.cell? ⟨w.heap.size,1,none⟩=some (.int .i64 hg):=BH.out.cell' rfl
  have hS0:(fun w':World=>Fr none_ w0 w') w0.drew:=(Fr.refl none_ w0).drew
  refine wp_region_U (m:=7) (S:=fun w':World=>Fr none_ w0 w') (by kernel_rfl) ?_
  refine wpAnyU_take2 (i:=0) (v:=_) rfl (by kernel_rfl) (by kernel_rfl) (by kernel_rfl) (by kernel_rfl) (fun _ _ _ h=>h) (.inl ⟨by kernel_rfl,fun w' hS=>by have s_g0:=cellFr g0 hS;have s_g1:=cellFr g1 hS;go_simp;rfl⟩) hS0 ?_
  refine wpAnyU_take2 (i:=1) (v:=_) rfl (by kernel_rfl) (by kernel_rfl) (by kernel_rfl) (by kernel_rfl) (fun _ _ _ h=>h) (.inl ⟨by kernel_rfl,fun w' hS=>by have s_g0:=cellFr g0 hS;have s_g1:=cellFr g1 hS;go_simp;rfl⟩) hS0 ?_
  refine wpAnyU_take2 (i:=3) (v:=_) rfl (by kernel_rfl) (by kernel_rfl) (by kernel_rfl) (by kernel_rfl) (fun _ _ _ h=>h) (.inl ⟨by kernel_rfl,fun w' hS=>by have s_g0:=cellFr g0 hS;have s_g1:=cellFr g1 hS;go_simp;rfl⟩) hS0 ?_
  clear hS0 g0 g1
  refine wpAnyU_two7 (i:=2) (j:=6) rfl rfl (by kernel_rfl) (by kernel_rfl) (by kernel_rfl) ?_ ?_
  ·go_simp
   refine ⟨(Fr.refl none_ w0).drew.alloc _,?_⟩
   refine wpAnyU_two7 (i:=4) (j:=6) rfl rfl (by kernel_rfl) (by kernel_rfl) (by kernel_rfl) ?_ ?_
   ·skip
    obtain ⟨w3,hw3⟩:∃ z,z=(w0.alloc (.cells #[] 23)).drew:=⟨_,rfl⟩
    have f3:Fr none_ w0 w3:=by rw [hw3];repeat (first | exact Fr.refl none_ w0 | apply Fr.drew | apply Fr.alloc)
    have O3:w3.ownsRow w.heap.size 23 2 (.slice (some ⟨w0.heap.size,0,none⟩) 0 0) 0 []:=by rw [hw3];exact (own_empty_at w0 _ _ _ _ (by omega) rfl).drew
    have HB3:=hid_ (show w0.heap.size≤w0.heap.size by omega)
    change Oper.wp _ _ _ ((w0.alloc (.cells #[] 23)).drew) _ _
    rw [← hw3]
    refine wp_append_any _ (.tmp 17) (.tmp 18) 27 rfl w.heap.size 23 i0 _ 2 16 Tryz.underlying27 Hi.out.1 Hi.out.2.1 Hi.out.2.2.1 Hi.out.2.2.2 rfl (by omega) (.slice (some ⟨w0.heap.size,0,none⟩) 0 0) 0 [] rfl O3 RA refs.length rc (rpFlat refs) rfl (HR.out.none_fr f3) (rpFlat_one _) (by simp only [maxLen];omega) (by omega) (by have:=f3.size;omega) ?_
    intro A' c' w4 hown hgr
    simp only [Nat.zero_add,List.nil_append] at hown ⊢
    have F4:Fr none_ w0 w4:=f3.grown hgr (fun k hk=>.inr (by simp [Value.ownBlock] at hk;have:=HB3.out;omega))
    have hs4:=F4.size
    refine ⟨.inr F4,?_⟩
    refine wpAnyU_take2 (i:=5) (v:=_) rfl (by kernel_rfl) (by kernel_rfl) (by kernel_rfl) (by kernel_rfl) (fun _ _ _ h=>h) (.inl ⟨by kernel_rfl,fun w' hS=>by skip;go_simp;rfl⟩) F4 ?_
    refine wpAnyU_one7 (i:=6) rfl (by kernel_rfl) (by kernel_rfl) ?_
    go_simp
    obtain ⟨w5,hw5⟩:∃ z,z=w4.alloc (.cells pgZ 40):=⟨_,rfl⟩
    have F5:Fr none_ w0 w5:=by rw [hw5];exact F4.alloc _
    have X5:Blk w5 w4.heap.size 40 pgZ:=by rw [hw5];exact Blk.new w4 _ _
    have O5:=own_none hown (by rw [hw5];exact (Fr.refl none_ w4).alloc (.cells pgZ 40):Fr none_ w4 w5)
    rw [← hw5]
    refine ⟨F5,?_⟩
    refine wpAnyU_one7 (i:=7) rfl (by kernel_rfl) (by kernel_rfl) ?_
    refine wp_store_mid 40 (.tmp 10) (.tmp 20) rfl (w4.heap.size) 0 (pgA n hs hg (.slice none 0 0) (.slice A' refs.length c') false Lw.zero (.slice none 0 0) Vw.zero (.slice none 0 0)) rfl rfl (X5.there7 rfl) page_size (by simp [Value.oneCell']) ?_
    refine ⟨.inl (by decide),?_⟩
    refine wpAnyU_done (by kernel_rfl) ?_ _
    have ov:=X5.over7 (pgA n hs hg (.slice none 0 0) (.slice A' refs.length c') false Lw.zero (.slice none 0 0) Vw.zero (.slice none 0 0)).toList rfl
    obtain ⟨w6,hw6⟩:∃ z,z=w5.setCells (w4.heap.size) 0 (pgA n hs hg (.slice none 0 0) (.slice A' refs.length c') false Lw.zero (.slice none 0 0) Vw.zero (.slice none 0 0)).toList:=⟨_,rfl⟩
    rw [← hw6] at ov
    rw [← hw6]
    have HST:Hid (OfStO n hs hg L refs w (w4.heap.size) 0 w6):=hid_ ⟨⟨_,_,[],rfl,rfl,ov.1,World.ownsRow_nil _ _ _ _,(fun C hC=>by simp at hC),own_fr O5 ov.2 (fun k hk e=>own_blk_ne O5 X5 (by decide) (by rw [hk,show k=w4.heap.size from e]))⟩,((BO.out.fr F5 id).fr ov.2 (only_ne (by omega))),(F0.out.then_none F5).then_only ov.2 (.inr (by omega))⟩
    clear hw6 ov
    go_wp2
    go_meet
    case rel=>exact ⟨_,rfl,by omega,HST.out⟩
   ·go_simp
    refine ⟨((Fr.refl none_ w0).drew.alloc _).alloc _,?_⟩
    refine wpAnyU_one7 (i:=4) rfl (by kernel_rfl) (by kernel_rfl) ?_
    obtain ⟨w3,hw3⟩:∃ z,z=((w0.alloc (.cells #[] 23)).alloc (.cells pgZ 40)).drew:=⟨_,rfl⟩
    have f3:Fr none_ w0 w3:=by rw [hw3];repeat (first | exact Fr.refl none_ w0 | apply Fr.drew | apply Fr.alloc)
    have hb0:=f3.size
    have O3:w3.ownsRow w.heap.size 23 2 (.slice (some ⟨w0.heap.size,0,none⟩) 0 0) 0 []:=by
     rw [hw3]
     exact ((own_empty_at w0 _ _ _ _ (by omega) rfl).alloc _).drew
    have HB3:=hid_ (show w0.heap.size≤w0.heap.size by omega)
    have X3:Blk w3 (w0.heap.size+1) 40 pgZ:=by
     rw [hw3]
     exact (Blk.new7 (w:=w0.alloc (.cells #[] 23)) _ _ (by simp)).drew
    change Oper.wp _ _ _ (((w0.alloc (.cells #[] 23)).alloc (.cells pgZ 40)).drew) _ _
    rw [← hw3]
    refine wp_append_any _ (.tmp 17) (.tmp 18) 27 rfl w.heap.size 23 i0 _ 2 16 Tryz.underlying27 Hi.out.1 Hi.out.2.1 Hi.out.2.2.1 Hi.out.2.2.2 rfl (by omega) (.slice (some ⟨w0.heap.size,0,none⟩) 0 0) 0 [] rfl O3 RA refs.length rc (rpFlat refs) rfl (HR.out.none_fr f3) (rpFlat_one _) (by simp only [maxLen];omega) (by omega) (by have:=f3.size;omega) ?_
    intro A' c' w4 hown hgr
    simp only [Nat.zero_add,List.nil_append] at hown ⊢
    have F4:Fr none_ w0 w4:=f3.grown hgr (fun k hk=>.inr (by simp [Value.ownBlock] at hk;have:=HB3.out;omega))
    have hs4:=F4.size
    have X4:Blk w4 (w0.heap.size+1) 40 pgZ:=X3.fr (Fr.grown (S:=fun b=>(Value.slice (some ⟨w0.heap.size,0,none⟩) 0 0).ownBlock=some b) (Fr.refl _ _) hgr (fun k hk=>.inl hk)) (fun hk=>by simp [Value.ownBlock] at hk)
    refine ⟨.inr F4,?_⟩
    refine wpAnyU_take2 (i:=5) (v:=_) rfl (by kernel_rfl) (by kernel_rfl) (by kernel_rfl) (by kernel_rfl) (fun _ _ _ h=>h) (.inl ⟨by kernel_rfl,fun w' hS=>by skip;go_simp;rfl⟩) F4 ?_
    refine wpAnyU_one7 (i:=7) rfl (by kernel_rfl) (by kernel_rfl) ?_
    refine wp_store_mid 40 (.tmp 10) (.tmp 20) rfl (w0.heap.size+1) 0 (pgA n hs hg (.slice none 0 0) (.slice A' refs.length c') false Lw.zero (.slice none 0 0) Vw.zero (.slice none 0 0)) rfl rfl (X4.there7 rfl) page_size (by simp [Value.oneCell']) ?_
    refine ⟨.inl (by decide),?_⟩
    refine wpAnyU_done (by kernel_rfl) ?_ _
    have ov:=X4.over7 (pgA n hs hg (.slice none 0 0) (.slice A' refs.length c') false Lw.zero (.slice none 0 0) Vw.zero (.slice none 0 0)).toList rfl
    obtain ⟨w6,hw6⟩:∃ z,z=w4.setCells (w0.heap.size+1) 0 (pgA n hs hg (.slice none 0 0) (.slice A' refs.length c') false Lw.zero (.slice none 0 0) Vw.zero (.slice none 0 0)).toList:=⟨_,rfl⟩
    rw [← hw6] at ov
    rw [← hw6]
    have HST:Hid (OfStO n hs hg L refs w (w0.heap.size+1) 0 w6):=hid_ ⟨⟨_,_,[],rfl,rfl,ov.1,World.ownsRow_nil _ _ _ _,(fun C hC=>by simp at hC),own_fr hown ov.2 (fun k hk e=>own_blk_ne hown X4 (by decide) (by rw [hk,show k=w0.heap.size+1 from e]))⟩,((BO.out.fr F4 id).fr ov.2 (only_ne (by omega))),(F0.out.then_none F4).then_only ov.2 (.inr (by omega))⟩
    clear hw6 ov
    go_wp2
    go_meet
    case rel=>exact ⟨_,rfl,by omega,HST.out⟩
  ·go_simp
   refine ⟨(Fr.refl none_ w0).drew.alloc _,?_⟩
   refine wpAnyU_one7 (i:=2) rfl (by kernel_rfl) (by kernel_rfl) ?_
   go_simp
   refine ⟨((Fr.refl none_ w0).drew.alloc _).alloc _,?_⟩
   refine wpAnyU_one7 (i:=4) rfl (by kernel_rfl) (by kernel_rfl) ?_
   obtain ⟨w3,hw3⟩:∃ z,z=((w0.alloc (.cells pgZ 40)).alloc (.cells #[] 23)).drew:=⟨_,rfl⟩
   have f3:Fr none_ w0 w3:=by rw [hw3];repeat (first | exact Fr.refl none_ w0 | apply Fr.drew | apply Fr.alloc)
   have hb0:=f3.size
   have O3:w3.ownsRow w.heap.size 23 2 (.slice (some ⟨w0.heap.size+1,0,none⟩) 0 0) 0 []:=by
    rw [hw3]
    exact (own_empty_at (w0.alloc (.cells pgZ 40)) _ _ _ _ (by simp;omega) (by simp)).drew
   have HB3:=hid_ (show w0.heap.size≤w0.heap.size+1 by omega)
   have X3:Blk w3 (w0.heap.size) 40 pgZ:=by
    rw [hw3]
    exact ((Blk.new w0 _ _).alloc _).drew
   change Oper.wp _ _ _ (((w0.alloc (.cells pgZ 40)).alloc (.cells #[] 23)).drew) _ _
   rw [← hw3]
   refine wp_append_any _ (.tmp 17) (.tmp 18) 27 rfl w.heap.size 23 i0 _ 2 16 Tryz.underlying27 Hi.out.1 Hi.out.2.1 Hi.out.2.2.1 Hi.out.2.2.2 rfl (by omega) (.slice (some ⟨w0.heap.size+1,0,none⟩) 0 0) 0 [] rfl O3 RA refs.length rc (rpFlat refs) rfl (HR.out.none_fr f3) (rpFlat_one _) (by simp only [maxLen];omega) (by omega) (by have:=f3.size;omega) ?_
   intro A' c' w4 hown hgr
   simp only [Nat.zero_add,List.nil_append] at hown ⊢
   have F4:Fr none_ w0 w4:=f3.grown hgr (fun k hk=>.inr (by simp [Value.ownBlock] at hk;have:=HB3.out;omega))
   have hs4:=F4.size
   have X4:Blk w4 (w0.heap.size) 40 pgZ:=X3.fr (Fr.grown (S:=fun b=>(Value.slice (some ⟨w0.heap.size+1,0,none⟩) 0 0).ownBlock=some b) (Fr.refl _ _) hgr (fun k hk=>.inl hk)) (fun hk=>by simp [Value.ownBlock] at hk)
   refine ⟨.inr F4,?_⟩
   refine wpAnyU_take2 (i:=5) (v:=_) rfl (by kernel_rfl) (by kernel_rfl) (by kernel_rfl) (by kernel_rfl) (fun _ _ _ h=>h) (.inl ⟨by kernel_rfl,fun w' hS=>by skip;go_simp;rfl⟩) F4 ?_
   refine wpAnyU_one7 (i:=7) rfl (by kernel_rfl) (by kernel_rfl) ?_
   refine wp_store_mid 40 (.tmp 10) (.tmp 20) rfl (w0.heap.size) 0 (pgA n hs hg (.slice none 0 0) (.slice A' refs.length c') false Lw.zero (.slice none 0 0) Vw.zero (.slice none 0 0)) rfl rfl (X4.there7 rfl) page_size (by simp [Value.oneCell']) ?_
   refine ⟨.inl (by decide),?_⟩
   refine wpAnyU_done (by kernel_rfl) ?_ _
   have ov:=X4.over7 (pgA n hs hg (.slice none 0 0) (.slice A' refs.length c') false Lw.zero (.slice none 0 0) Vw.zero (.slice none 0 0)).toList rfl
   obtain ⟨w6,hw6⟩:∃ z,z=w4.setCells (w0.heap.size) 0 (pgA n hs hg (.slice none 0 0) (.slice A' refs.length c') false Lw.zero (.slice none 0 0) Vw.zero (.slice none 0 0)).toList:=⟨_,rfl⟩
   rw [← hw6] at ov
   rw [← hw6]
   have HST:Hid (OfStO n hs hg L refs w (w0.heap.size) 0 w6):=hid_ ⟨⟨_,_,[],rfl,rfl,ov.1,World.ownsRow_nil _ _ _ _,(fun C hC=>by simp at hC),own_fr hown ov.2 (fun k hk e=>own_blk_ne hown X4 (by decide) (by rw [hk,show k=w0.heap.size from e]))⟩,((BO.out.fr F4 id).fr ov.2 (only_ne (by omega))),(F0.out.then_none F4).then_only ov.2 (.inr (by omega))⟩
   clear hw6 ov
   go_wp2
   go_meet
   case rel=>exact ⟨_,rfl,by omega,HST.out⟩
 case rest =>
  obtain ⟨X,rfl,hX,hst⟩:=hcut
  have ST:=hid_ hst
  clear hst
  clear BH BO F0 HR hsz0
  go_wp2_with fail
  go_loopw [23] (fun i wr=>∃ k:Nat,k≤m∧i=.int .i64 k∧OfStO n hs hg L refs w X k wr) (fun i _=>m - (intOf i).toNat)
  case atStart=>exact ⟨0,Nat.zero_le _,rfl,ST.out⟩
  case round =>
   obtain ⟨k,hk,rfl,hst⟩:=hrel
   have S2:=hid_ hst
   clear hst
   have hi0:(0:Int)≤(k:Int):=Int.natCast_nonneg _
   by_cases hlt:k < m
   ·obtain ⟨E,hE⟩:∃ E,L[k]?=some E:=⟨_,List.getElem?_eq_getElem (by omega)⟩
    obtain ⟨b,off,rfl,hb,hR,hO⟩:=(H.out.keep S2.out.fr).at_ hE
    have hi1:(k:Int) < (m:Int):=by omega
    have HR5:=hid_ hR
    have HO:=hid_ hO
    have HEk:=hid_ hE
    have hrow:=(HS.out E (List.mem_of_getElem? hE)).2.2
    have hent:=hO.ents.1
    clear hR hO hE
    go_upto_region 5 with (first | (refine wpList_load_mid rfl 33 (.tmp 25) rfl b (off+k * 15) rfl (recL E) _ HR5.out Tryz.underlying33 rfl rec_size8 ?_) | (refine wpList_store_mid rfl 33 (.tmp 12) (.tmp 26) rfl wr.heap.size 0 (recL E).toArray rfl rfl (new_there wr _ recZ8) rec_size8 (rec_one E) ?_;obtain ⟨w1,hw1⟩:∃ w1,w1=(wr.alloc (.cells recZ8 33)).setCells wr.heap.size 0 (recL E):=⟨_,rfl⟩;change wpList _ _ _ _ _ ((wr.alloc (.cells recZ8 33)).setCells wr.heap.size 0 (recL E));rw [← hw1];have P1:Hid (Blk w1 wr.heap.size 33 (recL E).toArray∧Fr none_ wr w1):=hid_ (by rw [hw1];exact new_copy wr _ recZ8 _ rfl);clear hw1))
    have S3:=hid_ (S2.out.keep P1.out.2)
    obtain ⟨vc,vr,Cs,hcl,hcm,hbx,hown,hcs,hrf⟩:=S3.out.st
    obtain ⟨oA,oc,rfl⟩:=hown.shape
    have HCL:=hid_ hcl
    have HCM:=hid_ hcm
    have BX:=hid_ hbx
    have O:=hid_ hown
    have HCS:=hid_ hcs
    have RF:=hid_ hrf
    have hsf:=S3.out.fr.size
    have hxl:=hbx.lt
    clear hcl hcm hown hcs hrf
    have x3:w1.cell? ⟨X,3,none⟩=some (.slice oA k oc):=BX.out.cell' rfl
    clear hbx
    have hS0:(fun w':World=>Fr none_ w1 w') w1.drew:=(Fr.refl none_ w1).drew
    refine wp_region_U (m:=5) (S:=fun w':World=>Fr none_ w1 w') (by kernel_rfl) ?_
    refine wpAnyU_take2 (i:=0) (v:=_) rfl (by kernel_rfl) (by kernel_rfl) (by kernel_rfl) (by kernel_rfl) (fun _ _ _ h=>h) (.inl ⟨by kernel_rfl,fun w' hS=>by have s_x3:=cellFr x3 hS;go_simp;rfl⟩) hS0 ?_
    refine wpAnyU_take2 (i:=1) (v:=_) rfl (by kernel_rfl) (by kernel_rfl) (by kernel_rfl) (by kernel_rfl) (fun _ _ _ h=>h) (.inl ⟨by kernel_rfl,fun w' hS=>by have s_x3:=cellFr x3 hS;go_simp;rfl⟩) hS0 ?_
    refine wpAnyU_take2 (i:=2) (v:=_) rfl (by kernel_rfl) (by kernel_rfl) (by kernel_rfl) (by kernel_rfl) (fun _ _ _ h=>h) (yieldsIf_load_mid (by kernel_rfl) 33 (.tmp 12) rfl wr.heap.size 0 rfl (recL E) _ (fun w' hS i v hv=>cellFr (P1.out.1.range7 i v hv) hS) Tryz.underlying33 rfl rec_size8) hS0 ?_
    clear hS0 x3
    refine wpAnyU_one7 (i:=3) rfl (by kernel_rfl) (by kernel_rfl) ?_
    go_simp
    refine (clone_big E.R E.A E.c E.B E.d w1.drew ((HO.out.rd.keep P1.out.2).keep (Fr.refl none_ w1).drew) (by omega) hent).mono ?_
    rintro e w2 ⟨A1,c1,B1,d1,rfl,hro,hf2⟩
    have F2:Hid (Fr none_ w1 w2):=hid_ ((Fr.refl none_ w1).drew.then_none hf2)
    have RO:=hid_ (hro.base (show w.heap.size≤w1.drew.heap.size by have:=S3.out.fr.size;have:=P1.out.2.size;simp;omega))
    have O2:=hid_ (own_none O.out F2.out)
    have hs2:=F2.out.size
    clear hro hf2
    refine ⟨F2.out,?_⟩
    refine wpAnyU_one7 (i:=4) rfl (by kernel_rfl) (by kernel_rfl) ?_
    go_simp
    refine ⟨F2.out.alloc _,?_⟩
    refine wpAnyU_one7 (i:=5) rfl (by kernel_rfl) (by kernel_rfl) ?_
    refine wp_append_any _ (.tmp 28) (.tmp 31) 24 rfl w.heap.size 33 j0 _ 15 192 Tryz.underlying24 Hj.out.1 Hj.out.2.1 Hj.out.2.2.1 Hj.out.2.2.2 rfl (by omega) (.slice oA k oc) k (recFlat Cs) rfl (O2.out.alloc _) (some ⟨w2.heap.size,0,none⟩) 1 1 (recL ⟨E.R,A1,c1,B1,d1⟩) rfl (reads_new w2 _ (recL ⟨E.R,A1,c1,B1,d1⟩) _ rfl) (by simp [Value.oneCell']) (by simp only [maxLen];omega) (by omega) (by simp;omega) ?_
    intro A3 c3 w3 hown3 hgr3
    refine ⟨.inl (by decide),?_⟩
    have hf3:Fr (fun q=>(Value.slice oA k oc).ownBlock=some q) w2 w3:=((Fr.refl _ w2).alloc (.cells (recL ⟨E.R,A1,c1,B1,d1⟩).toArray 33)).grown hgr3 (fun k hk=>.inl hk)
    obtain ⟨E',hE'⟩:∃ E':Ch,E'=⟨E.R,A1,c1,B1,d1⟩:=⟨_,rfl⟩
    have HE':=hid_ hE'
    have BX3:Hid (Blk w3 X 40 (pgA n hs hg (.slice oA k oc) vr false Lw.zero (.slice none 0 0) Vw.zero (.slice none 0 0))):=hid_ ((BX.out.fr F2.out id).fr hf3 (own_blk_ne O2.out (BX.out.fr F2.out id) (by decide)))
    have BO3:Hid (Blk w3 (w.heap.size+1) 40 pgZ):=hid_ ((S3.out.bo.fr F2.out id).fr hf3 (own_blk_ne O2.out (S3.out.bo.fr F2.out id) (by decide)))
    have FF3:Hid (Fr none_ w w3):=hid_ ((S3.out.fr.then_none F2.out).trans hf3 (fun _ _=>id) (fun q hq e=>absurd (O2.out.lt q e).1 (by omega)))
    have RF3:Hid (w3.ownsRow w.heap.size 23 2 vr refs.length (rpFlat refs)):=hid_ (own_fr (own_none RF.out F2.out) hf3 (fun q hq e=>own_own_ne (own_none RF.out F2.out) O2.out (by decide) q hq e))
    have ho2:=O2.out.alloc (.cells (recL ⟨E.R,A1,c1,B1,d1⟩).toArray 33)
    have O3:Hid (w3.ownsRow w.heap.size 33 15 (.slice A3 (k+1) c3) (k+1) (recFlat (Cs ++ [E']))):=hid_ (by
     rw [recFlat_app,hE',show recFlat [(⟨E.R,A1,c1,B1,d1⟩:Ch)]=recL ⟨E.R,A1,c1,B1,d1⟩ by simp [recFlat]]
     exact hown3)
    have CS3:Hid (∀ Z ∈ Cs ++ [E'],ChOwB w.heap.size w3 Z):=hid_ (fun Z hZ=>by
     rcases List.mem_append.1 hZ with hZ | hZ
     ·exact (((HCS.out Z hZ).keep F2.out).keep ((Fr.refl none_ w2).alloc _)).beside ho2 hgr3
     ·obtain rfl:Z=E':=by simpa using hZ
      refine ChOwB.beside (ChOwB.keep ?_ ((Fr.refl none_ w2).alloc _)) ho2 hgr3
      rw [HE'.out]
      exact ⟨RO.out,HO.out.low,HO.out.high,HO.out.key,HO.out.hkey,HO.out.ents⟩)
    have CM3:Hid ((Cs ++ [E']).map (·.R)=(L.take (k+1)).map (·.R)):=hid_ (by rw [List.take_add_one,HEk.out,List.map_append,List.map_append,HCM.out,HE'.out];rfl)
    have CL3:Hid ((Cs ++ [E']).length=k+1):=hid_ (by rw [List.length_append,HCL.out];rfl)
    clear hown3 hgr3 hf3 hE' ho2
    have x3:w3.cell? ⟨X,3,none⟩=some (.slice oA k oc):=BX3.out.cell' rfl
    have y3:=BX3.out.frozen 3
    refine wpAnyU_one7 (i:=6) rfl (by kernel_rfl) (by kernel_rfl) ?_
    go_simp
    refine wpAnyU_one7 (i:=7) rfl (by kernel_rfl) (by kernel_rfl) ?_
    go_simp
    refine wpAnyU_done (by kernel_rfl) ?_ _
    clear x3 y3
    obtain ⟨w4,hw4⟩:∃ z,z=w3.setCell ⟨X,3,none⟩ (.slice A3 (k+1) c3):=⟨_,rfl⟩
    have f4:Fr (only X) w3 w4:=by rw [hw4];exact Fr.only1 w3 ⟨X,3,none⟩ _
    have S4:Hid (OfStO n hs hg L refs w X (k+1) w4):=hid_ ⟨⟨_,vr,Cs ++ [E'],CL3.out,CM3.out,by rw [hw4];exact BX3.out.set_ 3 _,own_fr O3.out f4 (fun q hq e=>own_blk_ne O3.out BX3.out (by decide) (by rw [hq,show q=X from e])),fun Z hZ=>(CS3.out Z hZ).only_ f4 BX3.out (by decide) (by decide),own_fr RF3.out f4 (fun q hq e=>own_blk_ne RF3.out BX3.out (by decide) (by rw [hq,show q=X from e]))⟩,BO3.out.fr f4 (only_ne (by omega)),FF3.out.then_only f4 (.inr (by omega))⟩
    rw [← hw4]
    clear hw4 f4
    go_wp2_with fail
    go_roundw
    case rel=>exact ⟨k+1,by omega,by go_num,S4.out⟩
    case measure=>simp [intOf];omega
   ·obtain rfl:k=m:=by omega
    clear hlt hi0 ST
    have hmn:(L.map (·.R)).length=k:=by rw [List.length_map];exact hln
    go_upto_region 9 with fail
    go_cut [47] (fun u wq=>u=.bool (leafB (L.map (·.R)))∧Fr none_ wr wq)
    case first =>
     by_cases hk0:k=0
     ·subst hk0
      have hB:leafB (L.map (·.R))=false:=by rw [List.eq_nil_of_length_eq_zero hln];rfl
      have HB:=hid_ hB
      clear hB hmn
      go_wp2_with fail
      go_meet
      case rel=>exact ⟨by rw [HB.out],Fr.refl _ _⟩
     ·obtain ⟨j,rfl⟩:∃ j,k=j+1:=⟨k - 1,by omega⟩
      obtain ⟨E,hE⟩:∃ E,L[j]?=some E:=⟨_,List.getElem?_eq_getElem (by omega)⟩
      obtain ⟨b,off,rfl,hb,hR,hO⟩:=(H.out.keep S2.out.fr).at_ hE
      have k0:wr.cell? ⟨b,off+j * 15,none⟩=some (.int .i64 E.R.kind):=hR 0 _ rfl
      have hB:leafB (L.map (·.R))=decide (E.R.kind=1):=by
       unfold leafB
       rw [hmn,show j+1 - 1=j by omega,List.getElem?_map,hE]
       rfl
      have HB:=hid_ hB
      have hi1:(j:Int) < ((j+1:Nat):Int):=by omega
      have hi2:(j:Int) < (j:Int)+1:=by omega
      have hi3:(0:Int)≤(j:Int):=Int.natCast_nonneg _
      have hp0:decide ((0:Int) < ((j+1:Nat):Int))=true:=decide_eq_true (by omega)
      have hp1:decide ((0:Int) < (j:Int)+1)=true:=decide_eq_true (by omega)
      have hw1:IntKind.i64.wrap ((j:Int)+1 - 1)=(j:Int):=by rw [show (j:Int)+1 - 1=(j:Int) by omega];exact IntWalk.i64_in _ (by omega)
      clear hB hmn hE hR hO hk0
      by_cases h1:E.R.kind=1
      ·have e1:(E.R.kind==1)=true:=by simpa using h1
       have H1:=hid_ h1
       clear h1
       go_wp2_with fail
       go_meet
       case rel=>exact ⟨by rw [HB.out];simp [H1.out],Fr.refl _ _⟩
      ·have e1:(E.R.kind==1)=false:=by simpa using h1
       have H1:=hid_ h1
       clear h1
       go_wp2_with fail
       go_meet
       case rel=>exact ⟨by rw [HB.out];simp [H1.out],Fr.refl _ _⟩
    case rest =>
     obtain ⟨rfl,hf⟩:=hcut
     have S3:=hid_ (S2.out.keep hf)
     clear hf S2
     go_upto_if 47 with fail
     go_cut [13] (fun u wq=>OfCutO n hs hg (L.map (·.R)) refs w X u wq)
     case rest =>
      have HC:=hid_ hcut
      have HMN:=hid_ hmn
      clear hcut S3 hmn
      rcases HC.out with ⟨leaf,lv,iv,A1,c1,B1,d1,C1,x1,D1,y1,hof,hu,hbx,hpg,hbo,hfr⟩ | ⟨q,hq,hof,hu,hbo,hfr⟩
      rotate_left
      ·subst hu
       have BO5:=hid_ hbo
       have F5:=hid_ hfr
       have HQ:=hid_ (And.intro hq hof)
       clear hbo hfr hof hq
       go_wp2_with (refine wpList_store_mid rfl 40 (.tmp 8) (.tmp 63) rfl (w.heap.size+1) 0 (pgZ) rfl rfl (BO5.out.there7 rfl) page_size (by simp [Value.oneCell']) ?_;have ov:=BO5.out.over7 (pgZ).toList rfl;obtain ⟨w6,hw6⟩:∃ z,z=wc.setCells (w.heap.size+1) 0 (pgZ).toList:=⟨_,rfl⟩;rw [← hw6] at ov;change wpList _ _ _ _ _ (wc.setCells (w.heap.size+1) 0 (pgZ).toList);rw [← hw6];have OV:=hid_ ov;clear hw6 ov)
       refine bodyPost_ret (results_cell_tmp7 _ _ rfl (w.heap.size+1) 0 (pgZ).toList _ rfl (Blk.range7 (l:=(pgZ).toList) OV.out.1) Tryz.underlying40 rfl page_size) rfl (.inr ⟨q,HQ.out.1,HQ.out.2,rfl,F5.out.then_only OV.out.2 (.inr (by omega))⟩)
      subst hu
      have BO5:=hid_ hbo
      have F5:=hid_ hfr
      have HQ:=hid_ hof
      rw [HMN.out] at hbx
      have BX5:=hid_ hbx
      have PG:=hid_ hpg
      clear hbo hfr hof hbx hpg
      go_wp2_with (first | (refine wpList_load_mid rfl 40 (.tmp 10) rfl X 0 rfl (pgA n hs hg (.slice C1 k x1) (.slice D1 refs.length y1) leaf lv (.slice A1 lv.rows.length c1) iv (.slice B1 iv.ents.length d1)).toList _ (Blk.range7 (l:=(pgA n hs hg (.slice C1 k x1) (.slice D1 refs.length y1) leaf lv (.slice A1 lv.rows.length c1) iv (.slice B1 iv.ents.length d1)).toList) BX5.out) Tryz.underlying40 rfl page_size ?_) | (refine wpList_store_mid rfl 40 (.tmp 8) (.tmp 65) rfl (w.heap.size+1) 0 (pgA n hs hg (.slice C1 k x1) (.slice D1 refs.length y1) leaf lv (.slice A1 lv.rows.length c1) iv (.slice B1 iv.ents.length d1)) rfl rfl (BO5.out.there7 rfl) page_size (by simp [Value.oneCell']) ?_;have ov:=BO5.out.over7 (pgA n hs hg (.slice C1 k x1) (.slice D1 refs.length y1) leaf lv (.slice A1 lv.rows.length c1) iv (.slice B1 iv.ents.length d1)).toList rfl;obtain ⟨w6,hw6⟩:∃ z,z=wc.setCells (w.heap.size+1) 0 (pgA n hs hg (.slice C1 k x1) (.slice D1 refs.length y1) leaf lv (.slice A1 lv.rows.length c1) iv (.slice B1 iv.ents.length d1)).toList:=⟨_,rfl⟩;rw [← hw6] at ov;change wpList _ _ _ _ _ (wc.setCells (w.heap.size+1) 0 (pgA n hs hg (.slice C1 k x1) (.slice D1 refs.length y1) leaf lv (.slice A1 lv.rows.length c1) iv (.slice B1 iv.ents.length d1)).toList);rw [← hw6];have OV:=hid_ ov;clear hw6 ov))
      refine bodyPost_ret (results_cell_tmp7 _ _ rfl (w.heap.size+1) 0 (pgA n hs hg (.slice C1 k x1) (.slice D1 refs.length y1) leaf lv (.slice A1 lv.rows.length c1) iv (.slice B1 iv.ents.length d1)).toList _ rfl (Blk.range7 (l:=(pgA n hs hg (.slice C1 k x1) (.slice D1 refs.length y1) leaf lv (.slice A1 lv.rows.length c1) iv (.slice B1 iv.ents.length d1)).toList) OV.out.1) Tryz.underlying40 rfl page_size) rfl (.inl ⟨leaf,lv,iv,A1,c1,B1,d1,C1,x1,D1,y1,HQ.out,by rw [HMN.out];rfl,PG.out.far (n:=0) (hs:=0) (hg:=0) (vc:=.slice none 0 0) (vr:=.slice none 0 0) (leaf:=false) (lv':=Lw.zero) (sl:=.slice none 0 0) (iv':=Vw.zero) (si:=.slice none 0 0) BO5.out ⟨_,_,_,rfl⟩ ⟨_,_,_,rfl⟩ ⟨_,_,_,rfl⟩ OV.out.2,F5.out.then_only OV.out.2 (.inr (by omega))⟩)
     case first =>
      obtain ⟨vc,vr,Cs,hcl,hcm,hbx,hown,hcs,hrf⟩:=S3.out.st
      obtain ⟨C1,x1,rfl⟩:=hown.shape
      obtain ⟨D1,y1,rfl⟩:=hrf.shape

      have HMN:=hid_ hmn
      rw [List.take_of_length_le (by omega)] at hcm
      have HCM:=hid_ hcm
      have BX:=hid_ hbx
      have O:=hid_ hown
      have HCS:=hid_ hcs
      have RF:=hid_ hrf
      have hxl:=hbx.lt
      clear hcl hcm hbx hown hcs hrf hmn
      cases hB:leafB (L.map (·.R)) with
      | true =>
       have HB:=hid_ hB
       clear hB
       have x5:wc.cell? ⟨X,5,none⟩=some (.bool false):=BX.out.cell' rfl
       have y5:=BX.out.frozen 5
       go_upto_region 11 with fail
       obtain ⟨w1,hw1⟩:∃ z,z=wc.setCell ⟨X,5,none⟩ (.bool true):=⟨_,rfl⟩
       have f1:Fr (only X) wc w1:=by rw [hw1];exact Fr.only1 wc ⟨X,5,none⟩ _
       have BX1:Hid (Blk w1 X 40 (pgA n hs hg (.slice C1 k x1) (.slice D1 refs.length y1) true Lw.zero (.slice none 0 0) Vw.zero (.slice none 0 0))):=hid_ (by rw [hw1];exact BX.out.set_ 5 _)
       change Code.wp _ _ _ _ (wc.setCell ⟨X,5,none⟩ (.bool true))
       rw [← hw1]
       clear hw1 x5 y5
       have O1:=hid_ (own_fr O.out f1 (fun q hq e=>own_blk_ne O.out BX.out (by decide) (by rw [hq,show q=X from e])))
       have RF1:=hid_ (own_fr RF.out f1 (fun q hq e=>own_blk_ne RF.out BX.out (by decide) (by rw [hq,show q=X from e])))
       have CS1:Hid (∀ Z ∈ Cs,ChOwB w.heap.size w1 Z):=hid_ (fun Z hZ=>(HCS.out Z hZ).only_ f1 BX.out (by decide) (by decide))
       have BO1:=hid_ (S3.out.bo.fr f1 (only_ne (by omega)))
       have FF1:=hid_ (S3.out.fr.then_only f1 (.inr (by omega)))
       clear f1 O RF HCS BX
       have hsz1:=FF1.out.size
       go_wp2_with fail
       refine (foldL_ok A k cap L w1 (H.out.keep FF1.out) hn HS.out).mono ?_
       rintro e w2 (⟨V,A',c',hkd,hfo,rfl,hvin,hf2⟩ | ⟨q,hq,rfl,hf2⟩)
       ·have F2:=hid_ (FF1.out.then_none hf2)
        have BX2:=hid_ (BX1.out.fr hf2 id)
        have BO2:=hid_ (BO1.out.fr hf2 id)
        have O2:=hid_ (own_none O1.out hf2)
        have RF2:=hid_ (own_none RF1.out hf2)
        have CS2:Hid (∀ Z ∈ Cs,ChOwB w.heap.size w2 Z):=hid_ (fun Z hZ=>(CS1.out Z hZ).keep hf2)
        have VI:=hid_ hvin
        have HOF:Hid (ofM (L.map (·.R))=some (true,V,Vw.zero)):=hid_ (by unfold ofM;rw [if_pos HB.out,hfo];rfl)
        clear hf2 hvin hfo hkd
        have x6:w2.cell? ⟨X,6,none⟩=some (.string nilS):=BX2.out.cell' rfl
        have y6:=BX2.out.frozen 6
        have x7:w2.cell? ⟨X,7,none⟩=some (.string nilS):=BX2.out.cell' rfl
        have y7:=BX2.out.frozen 7
        have x8:w2.cell? ⟨X,8,none⟩=some (.bool false):=BX2.out.cell' rfl
        have y8:=BX2.out.frozen 8
        have x9:w2.cell? ⟨X,9,none⟩=some (.int .i64 0):=BX2.out.cell' rfl
        have y9:=BX2.out.frozen 9
        have x10:w2.cell? ⟨X,10,none⟩=some (.slice none 0 0):=BX2.out.cell' rfl
        have y10:=BX2.out.frozen 10
        have x11:w2.cell? ⟨X,11,none⟩=some (.bool false):=BX2.out.cell' rfl
        have y11:=BX2.out.frozen 11
        go_wp2_with fail
        clear x6 y6 x7 y7 x8 y8 x9 y9 x10 y10 x11 y11
        obtain ⟨w5,hw5⟩:∃ z,z=((((((w2.setCell ⟨X,6,none⟩ (.string V.low)).setCell ⟨X,7,none⟩ (.string V.high)).setCell ⟨X,8,none⟩ (.bool V.unb)).setCell ⟨X,9,none⟩ (.int .i64 V.right)).setCell ⟨X,10,none⟩ (.slice A' V.rows.length c')).setCell ⟨X,11,none⟩ (.bool V.gone)):=⟨_,rfl⟩
        have f5:Fr (only X) w2 w5:=by rw [hw5];exact frOnly7 (frOnly7 (frOnly7 (frOnly7 (frOnly7 (frOnly7 (Fr.refl (only X) w2) _) _) _) _) _) _
        have BX5:Blk w5 X 40 (pgA n hs hg (.slice C1 k x1) (.slice D1 refs.length y1) true V (.slice A' V.rows.length c') Vw.zero (.slice none 0 0)):=by
         rw [hw5]
         have e:=((((((BX2.out.set_ 6 (.string V.low)).set_ 7 (.string V.high)).set_ 8 (.bool V.unb)).set_ 9 (.int .i64 V.right)).set_ 10 (.slice A' V.rows.length c')).set_ 11 (.bool V.gone))
         simp only [List.setIfInBounds_toArray,List.set_cons_zero,List.set_cons_succ] at e
         exact e
        have HP5:Hid (OfCutO n hs hg (L.map (·.R)) refs w X .nilIface w5):=hid_ (by
         refine .inl ⟨true,_,_,A',c',none,0,C1,x1,D1,y1,HOF.out,rfl,by rw [HMN.out];exact BX5,⟨(VI.out.base (by omega)).far BX2.out (by decide) f5,VwO.zero _ _,⟨Cs,HCM.out,?_,fun Z hZ=>(CS2.out Z hZ).only_ f5 BX2.out (by decide) (by decide)⟩,own_fr RF2.out f5 (fun q hq e=>own_blk_ne RF2.out BX2.out (by decide) (by rw [hq,show q=X from e]))⟩,BO2.out.fr f5 (only_ne (by omega)),F2.out.then_only f5 (.inr (by omega))⟩
         rw [HMN.out]
         exact own_fr O2.out f5 (fun q hq e=>own_blk_ne O2.out BX2.out (by decide) (by rw [hq,show q=X from e])))
        rw [← hw5]
        clear hw5 f5 BX5
        go_meet
        case rel=>exact HP5.out
       ·have F2:=hid_ (FF1.out.then_none hf2)
        have BX2:=hid_ (BX1.out.fr hf2 id)
        have BO2:=hid_ (BO1.out.fr hf2 id)
        have HOF:Hid (CodeOf (L.map (·.R)) q∧ofM (L.map (·.R))=none):=hid_ ⟨codeL HB.out hq,(codeL HB.out hq).1⟩
        clear hf2 hq
        have x6:w2.cell? ⟨X,6,none⟩=some (.string nilS):=BX2.out.cell' rfl
        have y6:=BX2.out.frozen 6
        have x7:w2.cell? ⟨X,7,none⟩=some (.string nilS):=BX2.out.cell' rfl
        have y7:=BX2.out.frozen 7
        have x8:w2.cell? ⟨X,8,none⟩=some (.bool false):=BX2.out.cell' rfl
        have y8:=BX2.out.frozen 8
        have x9:w2.cell? ⟨X,9,none⟩=some (.int .i64 0):=BX2.out.cell' rfl
        have y9:=BX2.out.frozen 9
        have x10:w2.cell? ⟨X,10,none⟩=some (.slice none 0 0):=BX2.out.cell' rfl
        have y10:=BX2.out.frozen 10
        have x11:w2.cell? ⟨X,11,none⟩=some (.bool false):=BX2.out.cell' rfl
        have y11:=BX2.out.frozen 11
        go_wp2_with fail
        clear x6 y6 x7 y7 x8 y8 x9 y9 x10 y10 x11 y11
        obtain ⟨w5,hw5⟩:∃ z,z=((((((w2.setCell ⟨X,6,none⟩ (.string Lw.zero.low)).setCell ⟨X,7,none⟩ (.string Lw.zero.high)).setCell ⟨X,8,none⟩ (.bool Lw.zero.unb)).setCell ⟨X,9,none⟩ (.int .i64 Lw.zero.right)).setCell ⟨X,10,none⟩ (.slice none 0 0)).setCell ⟨X,11,none⟩ (.bool Lw.zero.gone)):=⟨_,rfl⟩
        have f5:Fr (only X) w2 w5:=by rw [hw5];exact frOnly7 (frOnly7 (frOnly7 (frOnly7 (frOnly7 (frOnly7 (Fr.refl (only X) w2) _) _) _) _) _) _
        have HP5:Hid (OfCutO n hs hg (L.map (·.R)) refs w X (errV q) w5):=hid_ (.inr ⟨q,HOF.out.1,HOF.out.2,rfl,BO2.out.fr f5 (only_ne (by omega)),F2.out.then_only f5 (.inr (by omega))⟩)
        rw [← hw5]
        clear hw5 f5
        go_meet
        case rel=>exact HP5.out
      | false =>
       have HB:=hid_ hB
       clear hB
       have O1:=O
       have RF1:=RF
       have CS1:=HCS
       have BX1:=BX
       have BO1:=hid_ S3.out.bo
       have FF1:=hid_ S3.out.fr
       clear O RF HCS BX
       have hsz1:=FF1.out.size
       go_wp2_with fail
       refine (fold_okO A k cap L wc (H.out.keep FF1.out) hn HE.out).mono ?_
       rintro e w2 (⟨V,A',c',hkd,hfo,rfl,hvin,hheld,hf2⟩ | ⟨q,hq,rfl,hf2⟩)
       ·have F2:=hid_ (FF1.out.then_none hf2)
        have BX2:=hid_ (BX1.out.fr hf2 id)
        have BO2:=hid_ (BO1.out.fr hf2 id)
        have O2:=hid_ (own_none O1.out hf2)
        have RF2:=hid_ (own_none RF1.out hf2)
        have CS2:Hid (∀ Z ∈ Cs,ChOwB w.heap.size w2 Z):=hid_ (fun Z hZ=>(CS1.out Z hZ).keep hf2)
        have VI:=hid_ hvin
        have HOF:Hid (ofM (L.map (·.R))=some (false,Lw.zero,V)):=hid_ (by unfold ofM;rw [if_neg (by rw [HB.out];decide),hfo];rfl)
        clear hf2 hvin hfo hkd
        have x12:w2.cell? ⟨X,12,none⟩=some (.string nilS):=BX2.out.cell' rfl
        have y12:=BX2.out.frozen 12
        have x13:w2.cell? ⟨X,13,none⟩=some (.string nilS):=BX2.out.cell' rfl
        have y13:=BX2.out.frozen 13
        have x14:w2.cell? ⟨X,14,none⟩=some (.bool false):=BX2.out.cell' rfl
        have y14:=BX2.out.frozen 14
        have x15:w2.cell? ⟨X,15,none⟩=some (.int .i64 0):=BX2.out.cell' rfl
        have y15:=BX2.out.frozen 15
        have x16:w2.cell? ⟨X,16,none⟩=some (.slice none 0 0):=BX2.out.cell' rfl
        have y16:=BX2.out.frozen 16
        have x17:w2.cell? ⟨X,17,none⟩=some (.bool false):=BX2.out.cell' rfl
        have y17:=BX2.out.frozen 17
        have x18:w2.cell? ⟨X,18,none⟩=some (.int .i64 0):=BX2.out.cell' rfl
        have y18:=BX2.out.frozen 18
        have x19:w2.cell? ⟨X,19,none⟩=some (.int .i64 0):=BX2.out.cell' rfl
        have y19:=BX2.out.frozen 19
        have x20:w2.cell? ⟨X,20,none⟩=some (.string nilS):=BX2.out.cell' rfl
        have y20:=BX2.out.frozen 20
        go_wp2_with fail
        clear x12 y12 x13 y13 x14 y14 x15 y15 x16 y16 x17 y17 x18 y18 x19 y19 x20 y20
        obtain ⟨w5,hw5⟩:∃ z,z=(((((((((w2.setCell ⟨X,12,none⟩ (.string V.low)).setCell ⟨X,13,none⟩ (.string V.high)).setCell ⟨X,14,none⟩ (.bool V.unb)).setCell ⟨X,15,none⟩ (.int .i64 V.right)).setCell ⟨X,16,none⟩ (.slice A' V.ents.length c')).setCell ⟨X,17,none⟩ (.bool V.held)).setCell ⟨X,18,none⟩ (.int .i64 V.hp)).setCell ⟨X,19,none⟩ (.int .i64 V.hl)).setCell ⟨X,20,none⟩ (.string V.hk)):=⟨_,rfl⟩
        have f5:Fr (only X) w2 w5:=by rw [hw5];exact frOnly7 (frOnly7 (frOnly7 (frOnly7 (frOnly7 (frOnly7 (frOnly7 (frOnly7 (frOnly7 (Fr.refl (only X) w2) _) _) _) _) _) _) _) _) _
        have BX5:Blk w5 X 40 (pgA n hs hg (.slice C1 k x1) (.slice D1 refs.length y1) false Lw.zero (.slice none 0 0) V (.slice A' V.ents.length c')):=by
         rw [hw5]
         have e:=(((((((((BX2.out.set_ 12 (.string V.low)).set_ 13 (.string V.high)).set_ 14 (.bool V.unb)).set_ 15 (.int .i64 V.right)).set_ 16 (.slice A' V.ents.length c')).set_ 17 (.bool V.held)).set_ 18 (.int .i64 V.hp)).set_ 19 (.int .i64 V.hl)).set_ 20 (.string V.hk))
         simp only [List.setIfInBounds_toArray,List.set_cons_zero,List.set_cons_succ] at e
         exact e
        have HP5:Hid (OfCutO n hs hg (L.map (·.R)) refs w X .nilIface w5):=hid_ (by
         refine .inl ⟨false,_,_,none,0,A',c',C1,x1,D1,y1,HOF.out,rfl,by rw [HMN.out];exact BX5,⟨LwIn.zero _ _,(VI.out.base (by omega)).turned BX2.out (by decide) f5,⟨Cs,HCM.out,?_,fun Z hZ=>(CS2.out Z hZ).only_ f5 BX2.out (by decide) (by decide)⟩,own_fr RF2.out f5 (fun q hq e=>own_blk_ne RF2.out BX2.out (by decide) (by rw [hq,show q=X from e]))⟩,BO2.out.fr f5 (only_ne (by omega)),F2.out.then_only f5 (.inr (by omega))⟩
         rw [HMN.out]
         exact own_fr O2.out f5 (fun q hq e=>own_blk_ne O2.out BX2.out (by decide) (by rw [hq,show q=X from e])))
        rw [← hw5]
        clear hw5 f5 BX5
        go_meet
        case rel=>exact HP5.out
       ·have F2:=hid_ (FF1.out.then_none hf2)
        have BX2:=hid_ (BX1.out.fr hf2 id)
        have BO2:=hid_ (BO1.out.fr hf2 id)
        have HOF:Hid (CodeOf (L.map (·.R)) q∧ofM (L.map (·.R))=none):=hid_ ⟨codeU HB.out hq,(codeU HB.out hq).1⟩
        clear hf2 hq
        have x12:w2.cell? ⟨X,12,none⟩=some (.string nilS):=BX2.out.cell' rfl
        have y12:=BX2.out.frozen 12
        have x13:w2.cell? ⟨X,13,none⟩=some (.string nilS):=BX2.out.cell' rfl
        have y13:=BX2.out.frozen 13
        have x14:w2.cell? ⟨X,14,none⟩=some (.bool false):=BX2.out.cell' rfl
        have y14:=BX2.out.frozen 14
        have x15:w2.cell? ⟨X,15,none⟩=some (.int .i64 0):=BX2.out.cell' rfl
        have y15:=BX2.out.frozen 15
        have x16:w2.cell? ⟨X,16,none⟩=some (.slice none 0 0):=BX2.out.cell' rfl
        have y16:=BX2.out.frozen 16
        have x17:w2.cell? ⟨X,17,none⟩=some (.bool false):=BX2.out.cell' rfl
        have y17:=BX2.out.frozen 17
        have x18:w2.cell? ⟨X,18,none⟩=some (.int .i64 0):=BX2.out.cell' rfl
        have y18:=BX2.out.frozen 18
        have x19:w2.cell? ⟨X,19,none⟩=some (.int .i64 0):=BX2.out.cell' rfl
        have y19:=BX2.out.frozen 19
        have x20:w2.cell? ⟨X,20,none⟩=some (.string nilS):=BX2.out.cell' rfl
        have y20:=BX2.out.frozen 20
        go_wp2_with fail
        clear x12 y12 x13 y13 x14 y14 x15 y15 x16 y16 x17 y17 x18 y18 x19 y19 x20 y20
        obtain ⟨w5,hw5⟩:∃ z,z=(((((((((w2.setCell ⟨X,12,none⟩ (.string Vw.zero.low)).setCell ⟨X,13,none⟩ (.string Vw.zero.high)).setCell ⟨X,14,none⟩ (.bool Vw.zero.unb)).setCell ⟨X,15,none⟩ (.int .i64 Vw.zero.right)).setCell ⟨X,16,none⟩ (.slice none 0 0)).setCell ⟨X,17,none⟩ (.bool Vw.zero.held)).setCell ⟨X,18,none⟩ (.int .i64 Vw.zero.hp)).setCell ⟨X,19,none⟩ (.int .i64 Vw.zero.hl)).setCell ⟨X,20,none⟩ (.string Vw.zero.hk)):=⟨_,rfl⟩
        have f5:Fr (only X) w2 w5:=by rw [hw5];exact frOnly7 (frOnly7 (frOnly7 (frOnly7 (frOnly7 (frOnly7 (frOnly7 (frOnly7 (frOnly7 (Fr.refl (only X) w2) _) _) _) _) _) _) _) _) _
        have HP5:Hid (OfCutO n hs hg (L.map (·.R)) refs w X (errV q) w5):=hid_ (.inr ⟨q,HOF.out.1,HOF.out.2,rfl,BO2.out.fr f5 (only_ne (by omega)),F2.out.then_only f5 (.inr (by omega))⟩)
        rw [← hw5]
        clear hw5 f5
        go_meet
        case rel=>exact HP5.out
end Go.Proofs.YtfihfjbakfadkaaGreatDoor
