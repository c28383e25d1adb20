/- Texts of one proof, merged: PgL13. -/
import Derived.Test.YthpkbppaaagaoaaGreatMhI
namespace Go.Proofs.YthpkbppaaagaoaaGreat
open Go.RowKit Go.BigFrame
set_option maxRecDepth 100000
set_option linter.unusedVariables false
structure ChOwB (b0:Nat) (w:World) (C:Ch):Prop where
  own:RecOwn w b0 C.R (.slice C.A C.R.rows.length C.c) (.slice C.B C.R.ents.length C.d)
  low:SzOk C.R.low
  high:SzOk C.R.high
  key:SzOk C.R.key
  hkey:SzOk C.R.hkey
  ents:EtsOk C.R.ents
theorem ChOwB.keep {b0:Nat} {w w':World} {C:Ch} (h:ChOwB b0 w C) (hf:Fr none_ w w'):ChOwB b0 w' C:=⟨h.own.keep hf,h.low,h.high,h.key,h.hkey,h.ents⟩
theorem ChOwB.beside {b0:Nat} {w w':World} {C:Ch} (h:ChOwB b0 w C) {base n:Nat} {v:Value} {xs:List Value} (ho:w.ownsRow base 51 15 v n xs) (hg:w.grownBy w' v.ownBlock):ChOwB b0 w' C:=by
  refine ⟨?_,h.low,h.high,h.key,h.hkey,h.ents⟩
  have hf:Fr (fun k=>v.ownBlock=some k) w w':=(Fr.refl _ w).grown hg (fun k hk=>.inl hk)
  exact h.own.fr hf (fun k hk e=>own_own_ne h.own.r ho (by decide) k hk e) (fun k hk e=>own_own_ne h.own.e ho (by decide) k hk e)
theorem ChOwB.only_ {b0:Nat} {w w':World} {C:Ch} {g:Nat} {t:TypeId} {cs:Array Value} (h:ChOwB b0 w C) (hf:Fr (only g) w w') (hg:Blk w g t cs) (h1:25≠t) (h2:132≠t):ChOwB b0 w' C:=⟨h.own.only hf hg h1 h2,h.low,h.high,h.key,h.hkey,h.ents⟩
def OfPostL (n hs hg:Int) (V:Lw) (w:World) (e:Ending) (w':World):Prop:=
  ∃ A c C x D y nc nr,e=.returned (.tuple #[.agg (pgA n hs hg (.slice C nc x) (.slice D nr y) true V (.slice A V.rows.length c) Vw.zero (.slice none 0 0)),.nilIface])∧LwIn w.heap.size w' V A c∧Fr none_ w w'
def OfCutL (n hs hg:Int) (V:Lw) (w:World) (X:Nat) (u:Value) (wq:World):Prop:=
  ∃ A c C x D y nc nr,u=.nilIface∧Blk wq X 140 (pgA n hs hg (.slice C nc x) (.slice D nr y) true V (.slice A V.rows.length c) Vw.zero (.slice none 0 0))∧LwIn w.heap.size wq V A c∧Blk wq (w.heap.size+1) 140 pgZ∧Fr none_ w wq
structure OfStL (n hs hg:Int) (L:List Ch) (refs:List (Int × Int)) (w:World) (X k:Nat) (wr:World):Prop where
  st:∃ (vc vr:Value) (Cs:List Ch),Cs.length=k∧Cs.map (·.R)=(L.take k).map (·.R)∧Blk wr X 140 (pgA n hs hg vc vr false Lw.zero (.slice none 0 0) Vw.zero (.slice none 0 0))∧wr.ownsRow w.heap.size 51 15 vc k (recFlat Cs)∧(∀ C ∈ Cs,ChOwB w.heap.size wr C)∧wr.ownsRow w.heap.size 36 2 vr refs.length (rpFlat refs)
  bo:Blk wr (w.heap.size+1) 140 pgZ
  fr:Fr none_ w wr
theorem OfStL.keep {n hs hg:Int} {L:List Ch} {refs:List (Int × Int)} {w w1 w2:World} {X k:Nat} (h:OfStL n hs hg L refs w X k w1) (hf:Fr none_ w1 w2):OfStL n hs hg L refs w X k w2:=by
  obtain ⟨vc,vr,Cs,h1,h2,h3,h4,h5,h6⟩:=h.st
  exact ⟨⟨vc,vr,Cs,h1,h2,h3.fr hf id,own_none h4 hf,fun C hC=>(h5 C hC).keep hf,own_none h6 hf⟩,h.bo.fr hf id,h.fr.then_none hf⟩
set_option maxHeartbeats 8000000 in
theorem of_okL (n hs hg:Int) (A:Option Addr) (m cap:Nat) (L:List Ch) (refs:List (Int × Int)) (RA:Option Addr) (rc:Nat) (w:World) (h:ChReads w A m L) (hn:m≤400) (hs7:RwOkL L) (he:∀ C ∈ L,C.R.ents.length≤500) (hr:Reads w 2 RA refs.length (rpFlat refs)) (hrl:refs.length≤5000) (V0:Lw) (hlf:leafB (L.map (·.R))=true) (hfl:foldL (L.map (·.R))=some V0) :
  Calls Tryz.prog 100 #[.int .i64 n,.agg #[.int .i64 hs,.int .i64 hg],.slice A m cap,.slice RA refs.length rc] w (OfPostL n hs hg V0 w):=by
 obtain ⟨i0,hi0,hz0,hs0,hb0⟩:=info_parts pref_info
 have Hi:=hid_ (And.intro hi0 (And.intro hz0 (And.intro hs0 hb0)))
 obtain ⟨j0,hj0,hy0,ht0,hc0⟩:=info_parts record_info
 have Hj:=hid_ (And.intro hj0 (And.intro hy0 (And.intro ht0 hc0)))
 have hln:=h.1
 obtain ⟨w0,hw0⟩:∃ z,z=(w.alloc (.cells #[.int .i64 hs,.int .i64 hg] 36)).alloc (.cells pgZ 140):=⟨_,rfl⟩
 have f0:Fr none_ w w0:=by rw [hw0];exact ((Fr.refl none_ w).alloc _).alloc _
 have BH:Hid (Blk w0 w.heap.size 36 #[.int .i64 hs,.int .i64 hg]):=hid_ (by rw [hw0];exact (Blk.new w _ _).alloc _)
 have BO:Hid (Blk w0 (w.heap.size+1) 140 pgZ):=hid_ (by rw [hw0];exact Blk.new7 _ _ (by simp))
 have F0:=hid_ f0
 have H:=hid_ h
 have HS:=hid_ hs7
 have HE:=hid_ he
 have HLF:=hid_ hlf
 have HFL:=hid_ hfl
 have HR:=hid_ (hr.none_fr f0)
 have hsz0:=BO.out.lt
 clear h f0 hs7 he hr hlf hfl hi0 hz0 hs0 hb0 hj0 hy0 ht0 hc0
 go_enter Tryz.func100,Tryz.ntmps100
 go_upto_region 1 with fail
 change Code.wp _ _ _ _ ((w.alloc (.cells #[.int .i64 hs,.int .i64 hg] 36)).alloc (.cells pgZ 140))
 rw [← hw0]
 clear hw0
 go_cut [10] (fun v wq=>∃ X,v=.pointer (some ⟨X,0,none⟩)∧w.heap.size+1 < X∧OfStL n hs hg L refs w X 0 wq)
 case first =>
  have g0:w0.cell? ⟨w.heap.size,0,none⟩=some (.int .i64 hs):=BH.out.cell' rfl
  have g1:w0.cell? ⟨w.heap.size,1,none⟩=some (.int .i64 hg):=BH.out.cell' rfl
  have hS0:(fun w':World=>Fr none_ w0 w') w0.drew:=(Fr.refl none_ w0).drew
  refine wp_region_U (m:=7) (S:=fun w':World=>Fr none_ w0 w') (by kernel_rfl) ?_
  refine wpAnyU_take2 (i:=0) (v:=_) rfl (by kernel_rfl) (by kernel_rfl) (by kernel_rfl) (by kernel_rfl) (fun _ _ _ h=>h) (.inl ⟨by kernel_rfl,fun w' hS=>by have s_g0:=cellFr g0 hS;have s_g1:=cellFr g1 hS;go_simp;rfl⟩) hS0 ?_
  refine wpAnyU_take2 (i:=1) (v:=_) rfl (by kernel_rfl) (by kernel_rfl) (by kernel_rfl) (by kernel_rfl) (fun _ _ _ h=>h) (.inl ⟨by kernel_rfl,fun w' hS=>by have s_g0:=cellFr g0 hS;have s_g1:=cellFr g1 hS;go_simp;rfl⟩) hS0 ?_
  refine wpAnyU_take2 (i:=3) (v:=_) rfl (by kernel_rfl) (by kernel_rfl) (by kernel_rfl) (by kernel_rfl) (fun _ _ _ h=>h) (.inl ⟨by kernel_rfl,fun w' hS=>by have s_g0:=cellFr g0 hS;have s_g1:=cellFr g1 hS;go_simp;rfl⟩) hS0 ?_
  clear hS0 g0 g1
  refine wpAnyU_two7 (i:=2) (j:=6) rfl rfl (by kernel_rfl) (by kernel_rfl) (by kernel_rfl) ?_ ?_
  ·go_simp
   refine ⟨(Fr.refl none_ w0).drew.alloc _,?_⟩
   refine wpAnyU_two7 (i:=4) (j:=6) rfl rfl (by kernel_rfl) (by kernel_rfl) (by kernel_rfl) ?_ ?_
   ·skip
    obtain ⟨w3,hw3⟩:∃ z,z=(w0.alloc (.cells #[] 36)).drew:=⟨_,rfl⟩
    have f3:Fr none_ w0 w3:=by rw [hw3];repeat (first | exact Fr.refl none_ w0 | apply Fr.drew | apply Fr.alloc)
    have O3:w3.ownsRow w.heap.size 36 2 (.slice (some ⟨w0.heap.size,0,none⟩) 0 0) 0 []:=by rw [hw3];exact (own_empty_at w0 _ _ _ _ (by omega) rfl).drew
    have HB3:=hid_ (show w0.heap.size≤w0.heap.size by omega)
    change Oper.wp _ _ _ ((w0.alloc (.cells #[] 36)).drew) _ _
    rw [← hw3]
    refine wp_append_any _ (.tmp 17) (.tmp 18) 68 rfl w.heap.size 36 i0 _ 2 16 Tryz.underlying68 Hi.out.1 Hi.out.2.1 Hi.out.2.2.1 Hi.out.2.2.2 rfl (by omega) (.slice (some ⟨w0.heap.size,0,none⟩) 0 0) 0 [] rfl O3 RA refs.length rc (rpFlat refs) rfl (HR.out.none_fr f3) (rpFlat_one _) (by simp only [maxLen];omega) (by omega) (by have:=f3.size;omega) ?_
    intro A' c' w4 hown hgr
    simp only [Nat.zero_add,List.nil_append] at hown ⊢
    have F4:Fr none_ w0 w4:=f3.grown hgr (fun k hk=>.inr (by simp [Value.ownBlock] at hk;have:=HB3.out;omega))
    have hs4:=F4.size
    refine ⟨.inr F4,?_⟩
    refine wpAnyU_take2 (i:=5) (v:=_) rfl (by kernel_rfl) (by kernel_rfl) (by kernel_rfl) (by kernel_rfl) (fun _ _ _ h=>h) (.inl ⟨by kernel_rfl,fun w' hS=>by skip;go_simp;rfl⟩) F4 ?_
    refine wpAnyU_one7 (i:=6) rfl (by kernel_rfl) (by kernel_rfl) ?_
    go_simp
    obtain ⟨w5,hw5⟩:∃ z,z=w4.alloc (.cells pgZ 140):=⟨_,rfl⟩
    have F5:Fr none_ w0 w5:=by rw [hw5];exact F4.alloc _
    have X5:Blk w5 w4.heap.size 140 pgZ:=by rw [hw5];exact Blk.new w4 _ _
    have O5:=own_none hown (by rw [hw5];exact (Fr.refl none_ w4).alloc (.cells pgZ 140):Fr none_ w4 w5)
    rw [← hw5]
    refine ⟨F5,?_⟩
    refine wpAnyU_one7 (i:=7) rfl (by kernel_rfl) (by kernel_rfl) ?_
    refine wp_store_mid 140 (.tmp 10) (.tmp 20) rfl (w4.heap.size) 0 (pgA n hs hg (.slice none 0 0) (.slice A' refs.length c') false Lw.zero (.slice none 0 0) Vw.zero (.slice none 0 0)) rfl rfl (X5.there7 rfl) page_size (by simp [Value.oneCell']) ?_
    refine ⟨.inl (by decide),?_⟩
    refine wpAnyU_done (by kernel_rfl) ?_ _
    have ov:=X5.over7 (pgA n hs hg (.slice none 0 0) (.slice A' refs.length c') false Lw.zero (.slice none 0 0) Vw.zero (.slice none 0 0)).toList rfl
    obtain ⟨w6,hw6⟩:∃ z,z=w5.setCells (w4.heap.size) 0 (pgA n hs hg (.slice none 0 0) (.slice A' refs.length c') false Lw.zero (.slice none 0 0) Vw.zero (.slice none 0 0)).toList:=⟨_,rfl⟩
    rw [← hw6] at ov
    rw [← hw6]
    have HST:Hid (OfStL n hs hg L refs w (w4.heap.size) 0 w6):=hid_ ⟨⟨_,_,[],rfl,rfl,ov.1,World.ownsRow_nil _ _ _ _,(fun C hC=>by simp at hC),own_fr O5 ov.2 (fun k hk e=>own_blk_ne O5 X5 (by decide) (by rw [hk,show k=w4.heap.size from e]))⟩,((BO.out.fr F5 id).fr ov.2 (only_ne (by omega))),(F0.out.then_none F5).then_only ov.2 (.inr (by omega))⟩
    clear hw6 ov
    go_wp2
    go_meet
    case rel=>exact ⟨_,rfl,by omega,HST.out⟩
   ·go_simp
    refine ⟨((Fr.refl none_ w0).drew.alloc _).alloc _,?_⟩
    refine wpAnyU_one7 (i:=4) rfl (by kernel_rfl) (by kernel_rfl) ?_
    obtain ⟨w3,hw3⟩:∃ z,z=((w0.alloc (.cells #[] 36)).alloc (.cells pgZ 140)).drew:=⟨_,rfl⟩
    have f3:Fr none_ w0 w3:=by rw [hw3];repeat (first | exact Fr.refl none_ w0 | apply Fr.drew | apply Fr.alloc)
    have hb0:=f3.size
    have O3:w3.ownsRow w.heap.size 36 2 (.slice (some ⟨w0.heap.size,0,none⟩) 0 0) 0 []:=by
     rw [hw3]
     exact ((own_empty_at w0 _ _ _ _ (by omega) rfl).alloc _).drew
    have HB3:=hid_ (show w0.heap.size≤w0.heap.size by omega)
    have X3:Blk w3 (w0.heap.size+1) 140 pgZ:=by
     rw [hw3]
     exact (Blk.new7 (w:=w0.alloc (.cells #[] 36)) _ _ (by simp)).drew
    change Oper.wp _ _ _ (((w0.alloc (.cells #[] 36)).alloc (.cells pgZ 140)).drew) _ _
    rw [← hw3]
    refine wp_append_any _ (.tmp 17) (.tmp 18) 68 rfl w.heap.size 36 i0 _ 2 16 Tryz.underlying68 Hi.out.1 Hi.out.2.1 Hi.out.2.2.1 Hi.out.2.2.2 rfl (by omega) (.slice (some ⟨w0.heap.size,0,none⟩) 0 0) 0 [] rfl O3 RA refs.length rc (rpFlat refs) rfl (HR.out.none_fr f3) (rpFlat_one _) (by simp only [maxLen];omega) (by omega) (by have:=f3.size;omega) ?_
    intro A' c' w4 hown hgr
    simp only [Nat.zero_add,List.nil_append] at hown ⊢
    have F4:Fr none_ w0 w4:=f3.grown hgr (fun k hk=>.inr (by simp [Value.ownBlock] at hk;have:=HB3.out;omega))
    have hs4:=F4.size
    have X4:Blk w4 (w0.heap.size+1) 140 pgZ:=X3.fr (Fr.grown (S:=fun b=>(Value.slice (some ⟨w0.heap.size,0,none⟩) 0 0).ownBlock=some b) (Fr.refl _ _) hgr (fun k hk=>.inl hk)) (fun hk=>by simp [Value.ownBlock] at hk)
    refine ⟨.inr F4,?_⟩
    refine wpAnyU_take2 (i:=5) (v:=_) rfl (by kernel_rfl) (by kernel_rfl) (by kernel_rfl) (by kernel_rfl) (fun _ _ _ h=>h) (.inl ⟨by kernel_rfl,fun w' hS=>by skip;go_simp;rfl⟩) F4 ?_
    refine wpAnyU_one7 (i:=7) rfl (by kernel_rfl) (by kernel_rfl) ?_
    refine wp_store_mid 140 (.tmp 10) (.tmp 20) rfl (w0.heap.size+1) 0 (pgA n hs hg (.slice none 0 0) (.slice A' refs.length c') false Lw.zero (.slice none 0 0) Vw.zero (.slice none 0 0)) rfl rfl (X4.there7 rfl) page_size (by simp [Value.oneCell']) ?_
    refine ⟨.inl (by decide),?_⟩
    refine wpAnyU_done (by kernel_rfl) ?_ _
    have ov:=X4.over7 (pgA n hs hg (.slice none 0 0) (.slice A' refs.length c') false Lw.zero (.slice none 0 0) Vw.zero (.slice none 0 0)).toList rfl
    obtain ⟨w6,hw6⟩:∃ z,z=w4.setCells (w0.heap.size+1) 0 (pgA n hs hg (.slice none 0 0) (.slice A' refs.length c') false Lw.zero (.slice none 0 0) Vw.zero (.slice none 0 0)).toList:=⟨_,rfl⟩
    rw [← hw6] at ov
    rw [← hw6]
    have HST:Hid (OfStL n hs hg L refs w (w0.heap.size+1) 0 w6):=hid_ ⟨⟨_,_,[],rfl,rfl,ov.1,World.ownsRow_nil _ _ _ _,(fun C hC=>by simp at hC),own_fr hown ov.2 (fun k hk e=>own_blk_ne hown X4 (by decide) (by rw [hk,show k=w0.heap.size+1 from e]))⟩,((BO.out.fr F4 id).fr ov.2 (only_ne (by omega))),(F0.out.then_none F4).then_only ov.2 (.inr (by omega))⟩
    clear hw6 ov
    go_wp2
    go_meet
    case rel=>exact ⟨_,rfl,by omega,HST.out⟩
  ·go_simp
   refine ⟨(Fr.refl none_ w0).drew.alloc _,?_⟩
   refine wpAnyU_one7 (i:=2) rfl (by kernel_rfl) (by kernel_rfl) ?_
   go_simp
   refine ⟨((Fr.refl none_ w0).drew.alloc _).alloc _,?_⟩
   refine wpAnyU_one7 (i:=4) rfl (by kernel_rfl) (by kernel_rfl) ?_
   obtain ⟨w3,hw3⟩:∃ z,z=((w0.alloc (.cells pgZ 140)).alloc (.cells #[] 36)).drew:=⟨_,rfl⟩
   have f3:Fr none_ w0 w3:=by rw [hw3];repeat (first | exact Fr.refl none_ w0 | apply Fr.drew | apply Fr.alloc)
   have hb0:=f3.size
   have O3:w3.ownsRow w.heap.size 36 2 (.slice (some ⟨w0.heap.size+1,0,none⟩) 0 0) 0 []:=by
    rw [hw3]
    exact (own_empty_at (w0.alloc (.cells pgZ 140)) _ _ _ _ (by simp;omega) (by simp)).drew
   have HB3:=hid_ (show w0.heap.size≤w0.heap.size+1 by omega)
   have X3:Blk w3 (w0.heap.size) 140 pgZ:=by
    rw [hw3]
    exact ((Blk.new w0 _ _).alloc _).drew
   change Oper.wp _ _ _ (((w0.alloc (.cells pgZ 140)).alloc (.cells #[] 36)).drew) _ _
   rw [← hw3]
   refine wp_append_any _ (.tmp 17) (.tmp 18) 68 rfl w.heap.size 36 i0 _ 2 16 Tryz.underlying68 Hi.out.1 Hi.out.2.1 Hi.out.2.2.1 Hi.out.2.2.2 rfl (by omega) (.slice (some ⟨w0.heap.size+1,0,none⟩) 0 0) 0 [] rfl O3 RA refs.length rc (rpFlat refs) rfl (HR.out.none_fr f3) (rpFlat_one _) (by simp only [maxLen];omega) (by omega) (by have:=f3.size;omega) ?_
   intro A' c' w4 hown hgr
   simp only [Nat.zero_add,List.nil_append] at hown ⊢
   have F4:Fr none_ w0 w4:=f3.grown hgr (fun k hk=>.inr (by simp [Value.ownBlock] at hk;have:=HB3.out;omega))
   have hs4:=F4.size
   have X4:Blk w4 (w0.heap.size) 140 pgZ:=X3.fr (Fr.grown (S:=fun b=>(Value.slice (some ⟨w0.heap.size+1,0,none⟩) 0 0).ownBlock=some b) (Fr.refl _ _) hgr (fun k hk=>.inl hk)) (fun hk=>by simp [Value.ownBlock] at hk)
   refine ⟨.inr F4,?_⟩
   refine wpAnyU_take2 (i:=5) (v:=_) rfl (by kernel_rfl) (by kernel_rfl) (by kernel_rfl) (by kernel_rfl) (fun _ _ _ h=>h) (.inl ⟨by kernel_rfl,fun w' hS=>by skip;go_simp;rfl⟩) F4 ?_
   refine wpAnyU_one7 (i:=7) rfl (by kernel_rfl) (by kernel_rfl) ?_
   refine wp_store_mid 140 (.tmp 10) (.tmp 20) rfl (w0.heap.size) 0 (pgA n hs hg (.slice none 0 0) (.slice A' refs.length c') false Lw.zero (.slice none 0 0) Vw.zero (.slice none 0 0)) rfl rfl (X4.there7 rfl) page_size (by simp [Value.oneCell']) ?_
   refine ⟨.inl (by decide),?_⟩
   refine wpAnyU_done (by kernel_rfl) ?_ _
   have ov:=X4.over7 (pgA n hs hg (.slice none 0 0) (.slice A' refs.length c') false Lw.zero (.slice none 0 0) Vw.zero (.slice none 0 0)).toList rfl
   obtain ⟨w6,hw6⟩:∃ z,z=w4.setCells (w0.heap.size) 0 (pgA n hs hg (.slice none 0 0) (.slice A' refs.length c') false Lw.zero (.slice none 0 0) Vw.zero (.slice none 0 0)).toList:=⟨_,rfl⟩
   rw [← hw6] at ov
   rw [← hw6]
   have HST:Hid (OfStL n hs hg L refs w (w0.heap.size) 0 w6):=hid_ ⟨⟨_,_,[],rfl,rfl,ov.1,World.ownsRow_nil _ _ _ _,(fun C hC=>by simp at hC),own_fr hown ov.2 (fun k hk e=>own_blk_ne hown X4 (by decide) (by rw [hk,show k=w0.heap.size from e]))⟩,((BO.out.fr F4 id).fr ov.2 (only_ne (by omega))),(F0.out.then_none F4).then_only ov.2 (.inr (by omega))⟩
   clear hw6 ov
   go_wp2
   go_meet
   case rel=>exact ⟨_,rfl,by omega,HST.out⟩
 case rest =>
  obtain ⟨X,rfl,hX,hst⟩:=hcut
  have ST:=hid_ hst
  clear hst
  clear BH BO F0 HR hsz0
  go_wp2_with fail
  go_loopw [23] (fun i wr=>∃ k:Nat,k≤m∧i=.int .i64 k∧OfStL n hs hg L refs w X k wr) (fun i _=>m - (intOf i).toNat)
  case atStart=>exact ⟨0,Nat.zero_le _,rfl,ST.out⟩
  case round =>
   obtain ⟨k,hk,rfl,hst⟩:=hrel
   have S2:=hid_ hst
   clear hst
   have hi0:(0:Int)≤(k:Int):=Int.natCast_nonneg _
   by_cases hlt:k < m
   ·obtain ⟨E,hE⟩:∃ E,L[k]?=some E:=⟨_,List.getElem?_eq_getElem (by omega)⟩
    obtain ⟨b,off,rfl,hb,hR,hO⟩:=(H.out.keep S2.out.fr).at_ hE
    have hi1:(k:Int) < (m:Int):=by omega
    have HR5:=hid_ hR
    have HO:=hid_ hO
    have HEk:=hid_ hE
    have hrow:=(HS.out E (List.mem_of_getElem? hE)).2.2
    have hent:=hO.ents.1
    clear hR hO hE
    go_upto_region 5 with (first | (refine wpList_load_mid rfl 51 (.tmp 25) rfl b (off+k * 15) rfl (recL E) _ HR5.out Tryz.underlying51 rfl rec_size8 ?_) | (refine wpList_store_mid rfl 51 (.tmp 12) (.tmp 26) rfl wr.heap.size 0 (recL E).toArray rfl rfl (new_there wr _ recZ8) rec_size8 (rec_one E) ?_;obtain ⟨w1,hw1⟩:∃ w1,w1=(wr.alloc (.cells recZ8 51)).setCells wr.heap.size 0 (recL E):=⟨_,rfl⟩;change wpList _ _ _ _ _ ((wr.alloc (.cells recZ8 51)).setCells wr.heap.size 0 (recL E));rw [← hw1];have P1:Hid (Blk w1 wr.heap.size 51 (recL E).toArray∧Fr none_ wr w1):=hid_ (by rw [hw1];exact new_copy wr _ recZ8 _ rfl);clear hw1))
    have S3:=hid_ (S2.out.keep P1.out.2)
    obtain ⟨vc,vr,Cs,hcl,hcm,hbx,hown,hcs,hrf⟩:=S3.out.st
    obtain ⟨oA,oc,rfl⟩:=hown.shape
    have HCL:=hid_ hcl
    have HCM:=hid_ hcm
    have BX:=hid_ hbx
    have O:=hid_ hown
    have HCS:=hid_ hcs
    have RF:=hid_ hrf
    have hsf:=S3.out.fr.size
    have hxl:=hbx.lt
    clear hcl hcm hown hcs hrf
    have x3:w1.cell? ⟨X,3,none⟩=some (.slice oA k oc):=BX.out.cell' rfl
    clear hbx
    have hS0:(fun w':World=>Fr none_ w1 w') w1.drew:=(Fr.refl none_ w1).drew
    refine wp_region_U (m:=5) (S:=fun w':World=>Fr none_ w1 w') (by kernel_rfl) ?_
    refine wpAnyU_take2 (i:=0) (v:=_) rfl (by kernel_rfl) (by kernel_rfl) (by kernel_rfl) (by kernel_rfl) (fun _ _ _ h=>h) (.inl ⟨by kernel_rfl,fun w' hS=>by have s_x3:=cellFr x3 hS;go_simp;rfl⟩) hS0 ?_
    refine wpAnyU_take2 (i:=1) (v:=_) rfl (by kernel_rfl) (by kernel_rfl) (by kernel_rfl) (by kernel_rfl) (fun _ _ _ h=>h) (.inl ⟨by kernel_rfl,fun w' hS=>by have s_x3:=cellFr x3 hS;go_simp;rfl⟩) hS0 ?_
    refine wpAnyU_take2 (i:=2) (v:=_) rfl (by kernel_rfl) (by kernel_rfl) (by kernel_rfl) (by kernel_rfl) (fun _ _ _ h=>h) (yieldsIf_load_mid (by kernel_rfl) 51 (.tmp 12) rfl wr.heap.size 0 rfl (recL E) _ (fun w' hS i v hv=>cellFr (P1.out.1.range7 i v hv) hS) Tryz.underlying51 rfl rec_size8) hS0 ?_
    clear hS0 x3
    refine wpAnyU_one7 (i:=3) rfl (by kernel_rfl) (by kernel_rfl) ?_
    go_simp
    refine (clone_big E.R E.A E.c E.B E.d w1.drew ((HO.out.rd.keep P1.out.2).keep (Fr.refl none_ w1).drew) (by omega) hent).mono ?_
    rintro e w2 ⟨A1,c1,B1,d1,rfl,hro,hf2⟩
    have F2:Hid (Fr none_ w1 w2):=hid_ ((Fr.refl none_ w1).drew.then_none hf2)
    have RO:=hid_ (hro.base (show w.heap.size≤w1.drew.heap.size by have:=S3.out.fr.size;have:=P1.out.2.size;simp;omega))
    have O2:=hid_ (own_none O.out F2.out)
    have hs2:=F2.out.size
    clear hro hf2
    refine ⟨F2.out,?_⟩
    refine wpAnyU_one7 (i:=4) rfl (by kernel_rfl) (by kernel_rfl) ?_
    go_simp
    refine ⟨F2.out.alloc _,?_⟩
    refine wpAnyU_one7 (i:=5) rfl (by kernel_rfl) (by kernel_rfl) ?_
    refine wp_append_any _ (.tmp 28) (.tmp 31) 67 rfl w.heap.size 51 j0 _ 15 192 Tryz.underlying67 Hj.out.1 Hj.out.2.1 Hj.out.2.2.1 Hj.out.2.2.2 rfl (by omega) (.slice oA k oc) k (recFlat Cs) rfl (O2.out.alloc _) (some ⟨w2.heap.size,0,none⟩) 1 1 (recL ⟨E.R,A1,c1,B1,d1⟩) rfl (reads_new w2 _ (recL ⟨E.R,A1,c1,B1,d1⟩) _ rfl) (by simp [Value.oneCell']) (by simp only [maxLen];omega) (by omega) (by simp;omega) ?_
    intro A3 c3 w3 hown3 hgr3
    refine ⟨.inl (by decide),?_⟩
    have hf3:Fr (fun q=>(Value.slice oA k oc).ownBlock=some q) w2 w3:=((Fr.refl _ w2).alloc (.cells (recL ⟨E.R,A1,c1,B1,d1⟩).toArray 51)).grown hgr3 (fun k hk=>.inl hk)
    obtain ⟨E',hE'⟩:∃ E':Ch,E'=⟨E.R,A1,c1,B1,d1⟩:=⟨_,rfl⟩
    have HE':=hid_ hE'
    have BX3:Hid (Blk w3 X 140 (pgA n hs hg (.slice oA k oc) vr false Lw.zero (.slice none 0 0) Vw.zero (.slice none 0 0))):=hid_ ((BX.out.fr F2.out id).fr hf3 (own_blk_ne O2.out (BX.out.fr F2.out id) (by decide)))
    have BO3:Hid (Blk w3 (w.heap.size+1) 140 pgZ):=hid_ ((S3.out.bo.fr F2.out id).fr hf3 (own_blk_ne O2.out (S3.out.bo.fr F2.out id) (by decide)))
    have FF3:Hid (Fr none_ w w3):=hid_ ((S3.out.fr.then_none F2.out).trans hf3 (fun _ _=>id) (fun q hq e=>absurd (O2.out.lt q e).1 (by omega)))
    have RF3:Hid (w3.ownsRow w.heap.size 36 2 vr refs.length (rpFlat refs)):=hid_ (own_fr (own_none RF.out F2.out) hf3 (fun q hq e=>own_own_ne (own_none RF.out F2.out) O2.out (by decide) q hq e))
    have ho2:=O2.out.alloc (.cells (recL ⟨E.R,A1,c1,B1,d1⟩).toArray 51)
    have O3:Hid (w3.ownsRow w.heap.size 51 15 (.slice A3 (k+1) c3) (k+1) (recFlat (Cs ++ [E']))):=hid_ (by
     rw [recFlat_app,hE',show recFlat [(⟨E.R,A1,c1,B1,d1⟩:Ch)]=recL ⟨E.R,A1,c1,B1,d1⟩ by simp [recFlat]]
     exact hown3)
    have CS3:Hid (∀ Z ∈ Cs ++ [E'],ChOwB w.heap.size w3 Z):=hid_ (fun Z hZ=>by
     rcases List.mem_append.1 hZ with hZ | hZ
     ·exact (((HCS.out Z hZ).keep F2.out).keep ((Fr.refl none_ w2).alloc _)).beside ho2 hgr3
     ·obtain rfl:Z=E':=by simpa using hZ
      refine ChOwB.beside (ChOwB.keep ?_ ((Fr.refl none_ w2).alloc _)) ho2 hgr3
      rw [HE'.out]
      exact ⟨RO.out,HO.out.low,HO.out.high,HO.out.key,HO.out.hkey,HO.out.ents⟩)
    have CM3:Hid ((Cs ++ [E']).map (·.R)=(L.take (k+1)).map (·.R)):=hid_ (by rw [List.take_add_one,HEk.out,List.map_append,List.map_append,HCM.out,HE'.out];rfl)
    have CL3:Hid ((Cs ++ [E']).length=k+1):=hid_ (by rw [List.length_append,HCL.out];rfl)
    clear hown3 hgr3 hf3 hE' ho2
    have x3:w3.cell? ⟨X,3,none⟩=some (.slice oA k oc):=BX3.out.cell' rfl
    have y3:=BX3.out.frozen 3
    refine wpAnyU_one7 (i:=6) rfl (by kernel_rfl) (by kernel_rfl) ?_
    go_simp
    refine wpAnyU_one7 (i:=7) rfl (by kernel_rfl) (by kernel_rfl) ?_
    go_simp
    refine wpAnyU_done (by kernel_rfl) ?_ _
    clear x3 y3
    obtain ⟨w4,hw4⟩:∃ z,z=w3.setCell ⟨X,3,none⟩ (.slice A3 (k+1) c3):=⟨_,rfl⟩
    have f4:Fr (only X) w3 w4:=by rw [hw4];exact Fr.only1 w3 ⟨X,3,none⟩ _
    have S4:Hid (OfStL n hs hg L refs w X (k+1) w4):=hid_ ⟨⟨_,vr,Cs ++ [E'],CL3.out,CM3.out,by rw [hw4];exact BX3.out.set_ 3 _,own_fr O3.out f4 (fun q hq e=>own_blk_ne O3.out BX3.out (by decide) (by rw [hq,show q=X from e])),fun Z hZ=>(CS3.out Z hZ).only_ f4 BX3.out (by decide) (by decide),own_fr RF3.out f4 (fun q hq e=>own_blk_ne RF3.out BX3.out (by decide) (by rw [hq,show q=X from e]))⟩,BO3.out.fr f4 (only_ne (by omega)),FF3.out.then_only f4 (.inr (by omega))⟩
    rw [← hw4]
    clear hw4 f4
    go_wp2_with fail
    go_roundw
    case rel=>exact ⟨k+1,by omega,by go_num,S4.out⟩
    case measure=>simp [intOf];omega
   ·obtain rfl:k=m:=by omega
    clear hlt hi0 ST
    have hmn:(L.map (·.R)).length=k:=by rw [List.length_map];exact hln
    go_upto_region 9 with fail
    go_cut [47] (fun u wq=>u=.bool (leafB (L.map (·.R)))∧Fr none_ wr wq)
    case first =>
     by_cases hk0:k=0
     ·subst hk0
      have hB:leafB (L.map (·.R))=false:=by rw [List.eq_nil_of_length_eq_zero hln];rfl
      have HB:=hid_ hB
      clear hB hmn
      go_wp2_with fail
      go_meet
      case rel=>exact ⟨by rw [HB.out],Fr.refl _ _⟩
     ·obtain ⟨j,rfl⟩:∃ j,k=j+1:=⟨k - 1,by omega⟩
      obtain ⟨E,hE⟩:∃ E,L[j]?=some E:=⟨_,List.getElem?_eq_getElem (by omega)⟩
      obtain ⟨b,off,rfl,hb,hR,hO⟩:=(H.out.keep S2.out.fr).at_ hE
      have k0:wr.cell? ⟨b,off+j * 15,none⟩=some (.int .i64 E.R.kind):=hR 0 _ rfl
      have hB:leafB (L.map (·.R))=decide (E.R.kind=1):=by
       unfold leafB
       rw [hmn,show j+1 - 1=j by omega,List.getElem?_map,hE]
       rfl
      have HB:=hid_ hB
      have hi1:(j:Int) < ((j+1:Nat):Int):=by omega
      have hi2:(j:Int) < (j:Int)+1:=by omega
      have hi3:(0:Int)≤(j:Int):=Int.natCast_nonneg _
      have hp0:decide ((0:Int) < ((j+1:Nat):Int))=true:=decide_eq_true (by omega)
      have hp1:decide ((0:Int) < (j:Int)+1)=true:=decide_eq_true (by omega)
      have hw1:IntKind.i64.wrap ((j:Int)+1 - 1)=(j:Int):=by rw [show (j:Int)+1 - 1=(j:Int) by omega];exact IntWalk.i64_in _ (by omega)
      clear hB hmn hE hR hO hk0
      by_cases h1:E.R.kind=1
      ·have e1:(E.R.kind==1)=true:=by simpa using h1
       have H1:=hid_ h1
       clear h1
       go_wp2_with fail
       go_meet
       case rel=>exact ⟨by rw [HB.out];simp [H1.out],Fr.refl _ _⟩
      ·have e1:(E.R.kind==1)=false:=by simpa using h1
       have H1:=hid_ h1
       clear h1
       go_wp2_with fail
       go_meet
       case rel=>exact ⟨by rw [HB.out];simp [H1.out],Fr.refl _ _⟩
    case rest =>
     obtain ⟨rfl,hf⟩:=hcut
     have S3:=hid_ (S2.out.keep hf)
     clear hf S2
     go_upto_if 47 with fail
     go_cut [13] (fun u wq=>OfCutL n hs hg V0 w X u wq)
     case rest =>
      have HC:=hid_ hcut
      have HMN:=hid_ hmn
      clear hcut S3 hmn
      obtain ⟨A1,c1,C1,x1,D1,y1,nc,nr,hu,hbx,hpg,hbo,hfr⟩:=HC.out
      subst hu
      have BO5:=hid_ hbo
      have F5:=hid_ hfr
      have BX5:=hid_ hbx
      have PG:=hid_ hpg
      clear hbo hfr hbx hpg
      go_wp2_with (first | (refine wpList_load_mid rfl 140 (.tmp 10) rfl X 0 rfl (pgA n hs hg (.slice C1 nc x1) (.slice D1 nr y1) true V0 (.slice A1 V0.rows.length c1) Vw.zero (.slice none 0 0)).toList _ (Blk.range7 (l:=(pgA n hs hg (.slice C1 nc x1) (.slice D1 nr y1) true V0 (.slice A1 V0.rows.length c1) Vw.zero (.slice none 0 0)).toList) BX5.out) Tryz.underlying140 rfl page_size ?_) | (refine wpList_store_mid rfl 140 (.tmp 8) (.tmp 65) rfl (w.heap.size+1) 0 (pgA n hs hg (.slice C1 nc x1) (.slice D1 nr y1) true V0 (.slice A1 V0.rows.length c1) Vw.zero (.slice none 0 0)) rfl rfl (BO5.out.there7 rfl) page_size (by simp [Value.oneCell']) ?_;have ov:=BO5.out.over7 (pgA n hs hg (.slice C1 nc x1) (.slice D1 nr y1) true V0 (.slice A1 V0.rows.length c1) Vw.zero (.slice none 0 0)).toList rfl;obtain ⟨w6,hw6⟩:∃ z,z=wc.setCells (w.heap.size+1) 0 (pgA n hs hg (.slice C1 nc x1) (.slice D1 nr y1) true V0 (.slice A1 V0.rows.length c1) Vw.zero (.slice none 0 0)).toList:=⟨_,rfl⟩;rw [← hw6] at ov;change wpList _ _ _ _ _ (wc.setCells (w.heap.size+1) 0 (pgA n hs hg (.slice C1 nc x1) (.slice D1 nr y1) true V0 (.slice A1 V0.rows.length c1) Vw.zero (.slice none 0 0)).toList);rw [← hw6];have OV:=hid_ ov;clear hw6 ov))
      refine bodyPost_ret (results_cell_tmp7 _ _ rfl (w.heap.size+1) 0 (pgA n hs hg (.slice C1 nc x1) (.slice D1 nr y1) true V0 (.slice A1 V0.rows.length c1) Vw.zero (.slice none 0 0)).toList _ rfl (Blk.range7 (l:=(pgA n hs hg (.slice C1 nc x1) (.slice D1 nr y1) true V0 (.slice A1 V0.rows.length c1) Vw.zero (.slice none 0 0)).toList) OV.out.1) Tryz.underlying140 rfl page_size) rfl ⟨A1,c1,C1,x1,D1,y1,nc,nr,rfl,PG.out.far BO5.out (by decide) OV.out.2,F5.out.then_only OV.out.2 (.inr (by omega))⟩
     case first =>
      obtain ⟨vc,vr,Cs,hcl,hcm,hbx,hown,hcs,hrf⟩:=S3.out.st
      obtain ⟨C1,x1,rfl⟩:=hown.shape
      obtain ⟨D1,y1,rfl⟩:=hrf.shape

      have HMN:=hid_ hmn
      rw [List.take_of_length_le (by omega)] at hcm
      have HCM:=hid_ hcm
      have BX:=hid_ hbx
      have O:=hid_ hown
      have HCS:=hid_ hcs
      have RF:=hid_ hrf
      have hxl:=hbx.lt
      clear hcl hcm hbx hown hcs hrf hmn
      cases hB:leafB (L.map (·.R)) with
      | false=>exact absurd (HLF.out.symm.trans hB) (by decide)
      | true =>
       have HB:=hid_ hB
       clear hB
       have x5:wc.cell? ⟨X,5,none⟩=some (.bool false):=BX.out.cell' rfl
       have y5:=BX.out.frozen 5
       go_upto_region 11 with fail
       obtain ⟨w1,hw1⟩:∃ z,z=wc.setCell ⟨X,5,none⟩ (.bool true):=⟨_,rfl⟩
       have f1:Fr (only X) wc w1:=by rw [hw1];exact Fr.only1 wc ⟨X,5,none⟩ _
       have BX1:Hid (Blk w1 X 140 (pgA n hs hg (.slice C1 k x1) (.slice D1 refs.length y1) true Lw.zero (.slice none 0 0) Vw.zero (.slice none 0 0))):=hid_ (by rw [hw1];exact BX.out.set_ 5 _)
       change Code.wp _ _ _ _ (wc.setCell ⟨X,5,none⟩ (.bool true))
       rw [← hw1]
       clear hw1 x5 y5
       have O1:=hid_ (own_fr O.out f1 (fun q hq e=>own_blk_ne O.out BX.out (by decide) (by rw [hq,show q=X from e])))
       have RF1:=hid_ (own_fr RF.out f1 (fun q hq e=>own_blk_ne RF.out BX.out (by decide) (by rw [hq,show q=X from e])))
       have CS1:Hid (∀ Z ∈ Cs,ChOwB w.heap.size w1 Z):=hid_ (fun Z hZ=>(HCS.out Z hZ).only_ f1 BX.out (by decide) (by decide))
       have BO1:=hid_ (S3.out.bo.fr f1 (only_ne (by omega)))
       have FF1:=hid_ (S3.out.fr.then_only f1 (.inr (by omega)))
       clear f1 O RF HCS BX
       have hsz1:=FF1.out.size
       go_wp2_with fail
       refine (foldL_ok A k cap L w1 (H.out.keep FF1.out) hn HS.out).mono ?_
       rintro e w2 (⟨V,A',c',hkd,hfo,rfl,hvin,hf2⟩ | ⟨q,hq,rfl,hf2⟩)
       ·have F2:=hid_ (FF1.out.then_none hf2)
        have BX2:=hid_ (BX1.out.fr hf2 id)
        have BO2:=hid_ (BO1.out.fr hf2 id)
        have O2:=hid_ (own_none O1.out hf2)
        have RF2:=hid_ (own_none RF1.out hf2)
        have CS2:Hid (∀ Z ∈ Cs,ChOwB w.heap.size w2 Z):=hid_ (fun Z hZ=>(CS1.out Z hZ).keep hf2)
        have VI:=hid_ hvin
        obtain rfl:V0=V:=Option.some.inj (HFL.out.symm.trans hfo)
        clear hf2 hvin hfo hkd
        have x6:w2.cell? ⟨X,6,none⟩=some (.string nilS):=BX2.out.cell' rfl
        have y6:=BX2.out.frozen 6
        have x7:w2.cell? ⟨X,7,none⟩=some (.string nilS):=BX2.out.cell' rfl
        have y7:=BX2.out.frozen 7
        have x8:w2.cell? ⟨X,8,none⟩=some (.bool false):=BX2.out.cell' rfl
        have y8:=BX2.out.frozen 8
        have x9:w2.cell? ⟨X,9,none⟩=some (.int .i64 0):=BX2.out.cell' rfl
        have y9:=BX2.out.frozen 9
        have x10:w2.cell? ⟨X,10,none⟩=some (.slice none 0 0):=BX2.out.cell' rfl
        have y10:=BX2.out.frozen 10
        have x11:w2.cell? ⟨X,11,none⟩=some (.bool false):=BX2.out.cell' rfl
        have y11:=BX2.out.frozen 11
        go_wp2_with fail
        clear x6 y6 x7 y7 x8 y8 x9 y9 x10 y10 x11 y11
        obtain ⟨w5,hw5⟩:∃ z,z=((((((w2.setCell ⟨X,6,none⟩ (.string V0.low)).setCell ⟨X,7,none⟩ (.string V0.high)).setCell ⟨X,8,none⟩ (.bool V0.unb)).setCell ⟨X,9,none⟩ (.int .i64 V0.right)).setCell ⟨X,10,none⟩ (.slice A' V0.rows.length c')).setCell ⟨X,11,none⟩ (.bool V0.gone)):=⟨_,rfl⟩
        have f5:Fr (only X) w2 w5:=by rw [hw5];exact frOnly7 (frOnly7 (frOnly7 (frOnly7 (frOnly7 (frOnly7 (Fr.refl (only X) w2) _) _) _) _) _) _
        have BX5:Blk w5 X 140 (pgA n hs hg (.slice C1 k x1) (.slice D1 refs.length y1) true V0 (.slice A' V0.rows.length c') Vw.zero (.slice none 0 0)):=by
         rw [hw5]
         have e:=((((((BX2.out.set_ 6 (.string V0.low)).set_ 7 (.string V0.high)).set_ 8 (.bool V0.unb)).set_ 9 (.int .i64 V0.right)).set_ 10 (.slice A' V0.rows.length c')).set_ 11 (.bool V0.gone))
         simp only [List.setIfInBounds_toArray,List.set_cons_zero,List.set_cons_succ] at e
         exact e
        have HP5:Hid (OfCutL n hs hg V0 w X .nilIface w5):=hid_ ⟨A',c',C1,x1,D1,y1,k,refs.length,rfl,BX5,(VI.out.base (by omega)).far BX2.out (by decide) f5,BO2.out.fr f5 (only_ne (by omega)),F2.out.then_only f5 (.inr (by omega))⟩
        rw [← hw5]
        clear hw5 f5 BX5
        go_meet
        case rel=>exact HP5.out
       ·exfalso
        have h9:=HFL.out
        rcases hq with ⟨_,R,hR,hk⟩ | ⟨_,_,hn⟩
        ·exact hk (foldL_kind h9 R hR)
        ·rw [h9] at hn;cases hn
end Go.Proofs.YthpkbppaaagaoaaGreat
