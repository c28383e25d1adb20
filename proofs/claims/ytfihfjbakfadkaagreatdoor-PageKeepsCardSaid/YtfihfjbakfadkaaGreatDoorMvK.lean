/- Texts of one proof, merged: UpO10. -/
import Derived.Test.YtfihfjbakfadkaaGreatDoorMvF
namespace Go.Proofs.YtfihfjbakfadkaaGreatDoor
open Go.RowKit Go.BigFrame
set_option maxRecDepth 100000
set_option linter.unusedVariables false
theorem up_retO {w w5:World} {V:Vw} {A:Option Addr} {c OB b:Nat} (hb:Blk w5 OB 38 (vwA Vw.zero (.slice none 0 0))) (ho:w5.ownsRow b 59 2 (.slice A V.ents.length c) V.ents.length (etFlat V.ents)) (hok:V.Ok) (hf:Fr none_ w w5) (hw:w.heap.size≤OB) (w6:World)
    (h6:Blk w6 OB 38 (vwA V (.slice A V.ents.length c))∧Fr (only OB) w5 w6):VwIn w6 V A c∧w6.ownsRow b 59 2 (.slice A V.ents.length c) V.ents.length (etFlat V.ents)∧Fr none_ w w6:=
  have h:=own_fr ho h6.2 (fun k hk e=>own_blk_ne ho hb (by decide) (by rw [hk,show k=OB from e]))
  ⟨vin_of_own h rfl hok,h,hf.then_only h6.2 (.inr hw)⟩
def UpPostO (V:Vw) (R:Rc) (A:Option Addr) (c:Nat) (w:World) (e:Ending) (w':World):Prop:=
  (∃ V' A' c',upM V R=some V'∧e=.returned (.tuple #[vwV V' (.slice A' V'.ents.length c'),.bool true])∧VwIn w' V' A' c' ∧
    (∀ b0,b0≤w.heap.size→w.ownsRow b0 59 2 (.slice A V.ents.length c) V.ents.length (etFlat V.ents)→w'.ownsRow b0 59 2 (.slice A' V'.ents.length c') V'.ents.length (etFlat V'.ents))∧Fr none_ w w') ∨
  (upM V R=none∧e=.returned (.tuple #[vwV V (.slice A V.ents.length c),.bool false])∧Fr none_ w w')
theorem up_noO {V:Vw} {R:Rc} {A:Option Addr} {c:Nat} {vr ve:Value} {w:World} (h:Calls Tryz.prog 70 #[vwV V (.slice A V.ents.length c),recV R vr ve] w (UpPost V R A c w)) (hn:upM V R=none):Calls Tryz.prog 70 #[vwV V (.slice A V.ents.length c),recV R vr ve] w (UpPostO V R A c w):=
  h.mono fun e w' hh=>by
    rcases hh with ⟨V',A',c',h1,_⟩ | h
    · rw [hn] at h1;cases h1
    · exact .inr h
set_option maxHeartbeats 4000000 in
theorem up_putO (V:Vw) (R:Rc) (A:Option Addr) (c:Nat) (vr ve:Value) (w:World) (h:VwIn w V A c) (hl:V.ents.length < 1000) (hk:SzOk R.key∧SzOk R.hkey) (h8:R.kind=8) (hh:V.held=false) (hat:atB V.ents R.key=false) (hin:inS V.low V.high V.unb R.key=true) :
  Calls Tryz.prog 70 #[vwV V (.slice A V.ents.length c),recV R vr ve] w (UpPostO V R A c w):=by
 have U:=hid_ (up_start V R A c vr ve w h)
 obtain ⟨w0,hw0⟩:∃ w0,w0=((w.alloc (.cells (vwA V (.slice A V.ents.length c)) 38)).alloc (.cells (recA R vr ve) 33)).alloc (.cells (vwA Vw.zero (.slice none 0 0)) 38):=⟨_,rfl⟩
 rw [← hw0] at U
 have HK:=hid_ hk
 have hple:=plN_le V.ents R.key
 have OK:=hid_ h.ok
 have CAP:=hid_ (And.intro h.cap h.capm)
 have OLD:Hid (0 < V.ents.length→∀ ad,A=some ad→ad.block < w.heap.size):=hid_ (fun hn=>h.rd.old (by omega) hn)
 clear h hk
 have hup:upM V R=some { V with ents:=putL V.ents (plN V.ents R.key) (R.key,R.page) }:=by
  unfold upM
  rw [if_pos ⟨h8,hh⟩,if_neg (by rw [hat,hin];simp)]
 have HUP:=hid_ hup
 clear hup
 have HAT:=hid_ hat
 have HIN:=hid_ hin
 have HHD:=hid_ hh
 have H8:=hid_ h8
 clear hat hin hh h8
 go_enter Tryz.func70,Tryz.ntmps70
 go_wp2_with fail
 change Calls _ _ _ (((w.alloc (.cells (vwA V (.slice A V.ents.length c)) 38)).alloc (.cells (recA R vr ve) 33)).alloc (.cells (vwA Vw.zero (.slice none 0 0)) 38)) _
 rw [← hw0]
 refine (place_ok V A c R.key _ U.out.vin HK.out.1).mono ?_
 rintro e w1 ⟨rfl,hf1⟩
 have U1:=hid_ (U.out.keep hf1)
 clear hf1 U hw0
 rw [HAT.out]
 obtain ⟨n,hn⟩:∃ n,n=plN V.ents R.key:=⟨_,rfl⟩
 rw [← hn]
 rw [← hn] at hple
 have HN:=hid_ hn
 clear hn
 have r0:w1.cell? ⟨w.heap.size+1,0,none⟩=some (.int .i64 R.kind):=U1.out.br.cell' rfl
 have r7:w1.cell? ⟨w.heap.size+1,7,none⟩=some (.string R.key):=U1.out.br.cell' rfl
 have r9:w1.cell? ⟨w.heap.size+1,9,none⟩=some (.int .i64 R.page):=U1.out.br.cell' rfl
 have r10:w1.cell? ⟨w.heap.size+1,10,none⟩=some (.int .i64 R.hpage):=U1.out.br.cell' rfl
 have r11:w1.cell? ⟨w.heap.size+1,11,none⟩=some (.int .i64 R.hleft):=U1.out.br.cell' rfl
 have r12:w1.cell? ⟨w.heap.size+1,12,none⟩=some (.string R.hkey):=U1.out.br.cell' rfl
 have v0:w1.cell? ⟨w.heap.size,0,none⟩=some (.string V.low):=U1.out.bv.cell' rfl
 have v1:w1.cell? ⟨w.heap.size,1,none⟩=some (.string V.high):=U1.out.bv.cell' rfl
 have v2:w1.cell? ⟨w.heap.size,2,none⟩=some (.bool V.unb):=U1.out.bv.cell' rfl
 have v3:w1.cell? ⟨w.heap.size,3,none⟩=some (.int .i64 V.right):=U1.out.bv.cell' rfl
 have v4:w1.cell? ⟨w.heap.size,4,none⟩=some (.slice A V.ents.length c):=U1.out.bv.cell' rfl
 have v5:w1.cell? ⟨w.heap.size,5,none⟩=some (.bool V.held):=U1.out.bv.cell' rfl
 have v6:w1.cell? ⟨w.heap.size,6,none⟩=some (.int .i64 V.hp):=U1.out.bv.cell' rfl
 have v7:w1.cell? ⟨w.heap.size,7,none⟩=some (.int .i64 V.hl):=U1.out.bv.cell' rfl
 have v8:w1.cell? ⟨w.heap.size,8,none⟩=some (.string V.hk):=U1.out.bv.cell' rfl
 rw [H8.out] at r0
 rw [HHD.out] at v5
 go_wp2_with fail
 refine (vin_ok { V with held:=false } _ R.key _ OK.out.low OK.out.high HK.out.1).mono ?_
 rintro e w2 ⟨rfl,hf2⟩
 rw [show inS V.low V.high V.unb R.key=true from HIN.out]
 have U2:=hid_ (U1.out.keep hf2)
 clear hf2 r0 r7 r9 r10 r11 r12 v0 v1 v2 v3 v4 v5 v6 v7 v8
 go_upto_region 6 with fail
 obtain ⟨A5,hA5⟩:∃ A5,(if c=n then A else Option.map (fun x=>x.add (n * 2)) A)=A5:=⟨_,rfl⟩
 have R1:=hid_ (U2.out.vin.rd.upto hple)
 have R2:=U2.out.vin.rd.cut hple CAP.out.1
 rw [hA5] at R2
 have R2':=hid_ R2
 clear R2
 have r0:w2.cell? ⟨w.heap.size+1,0,none⟩=some (.int .i64 R.kind):=U2.out.br.cell' rfl
 have r7:w2.cell? ⟨w.heap.size+1,7,none⟩=some (.string R.key):=U2.out.br.cell' rfl
 have r9:w2.cell? ⟨w.heap.size+1,9,none⟩=some (.int .i64 R.page):=U2.out.br.cell' rfl
 have r10:w2.cell? ⟨w.heap.size+1,10,none⟩=some (.int .i64 R.hpage):=U2.out.br.cell' rfl
 have r11:w2.cell? ⟨w.heap.size+1,11,none⟩=some (.int .i64 R.hleft):=U2.out.br.cell' rfl
 have r12:w2.cell? ⟨w.heap.size+1,12,none⟩=some (.string R.hkey):=U2.out.br.cell' rfl
 have v0:w2.cell? ⟨w.heap.size,0,none⟩=some (.string V.low):=U2.out.bv.cell' rfl
 have v1:w2.cell? ⟨w.heap.size,1,none⟩=some (.string V.high):=U2.out.bv.cell' rfl
 have v2:w2.cell? ⟨w.heap.size,2,none⟩=some (.bool V.unb):=U2.out.bv.cell' rfl
 have v3:w2.cell? ⟨w.heap.size,3,none⟩=some (.int .i64 V.right):=U2.out.bv.cell' rfl
 have v4:w2.cell? ⟨w.heap.size,4,none⟩=some (.slice A V.ents.length c):=U2.out.bv.cell' rfl
 have v5:w2.cell? ⟨w.heap.size,5,none⟩=some (.bool V.held):=U2.out.bv.cell' rfl
 have v6:w2.cell? ⟨w.heap.size,6,none⟩=some (.int .i64 V.hp):=U2.out.bv.cell' rfl
 have v7:w2.cell? ⟨w.heap.size,7,none⟩=some (.int .i64 V.hl):=U2.out.bv.cell' rfl
 have v8:w2.cell? ⟨w.heap.size,8,none⟩=some (.string V.hk):=U2.out.bv.cell' rfl
 rw [HHD.out] at v5
 have hi0:(0:Int)≤(n:Int):=Int.natCast_nonneg _
 have hi1:(n:Int)≤(V.ents.length:Int):=by omega
 have hcl:(V.ents.length:Int)≤(c:Int):=by have:=CAP.out.1;omega
 have hi2:(n:Int)≤(c:Int):=by omega
 have hS0:(fun w':World=>Fr none_ w2 w') w2.drew:=(Fr.refl none_ w2).drew
 refine wp_region_T (m:=17) (S:=fun w':World=>Fr none_ w2 w') (by kernel_rfl) ?_
 refine wpAnyT_take2 (i:=0) (v:=_) rfl (by kernel_rfl) (by kernel_rfl) (by kernel_rfl) (by kernel_rfl) (fun _ _ _ h=>h) (.inl ⟨by simp [Region.wanted],fun w' hS=>by have s_v4:=cellFr v4 hS;have s_r7:=cellFr r7 hS;have s_r9:=cellFr r9 hS;go_simp;rfl⟩) hS0 ?_
 refine wpAnyT_take2 (i:=1) (v:=_) rfl (by kernel_rfl) (by kernel_rfl) (by kernel_rfl) (by kernel_rfl) (fun _ _ _ h=>h) (.inl ⟨by simp [Region.wanted],fun w' hS=>by have s_v4:=cellFr v4 hS;have s_r7:=cellFr r7 hS;have s_r9:=cellFr r9 hS;go_simp;rfl⟩) hS0 ?_
 refine wpAnyT_take2 (i:=2) (v:=_) rfl (by kernel_rfl) (by kernel_rfl) (by kernel_rfl) (by kernel_rfl) (fun _ _ _ h=>h) (.inl ⟨by simp [Region.wanted],fun w' hS=>by have s_v4:=cellFr v4 hS;have s_r7:=cellFr r7 hS;have s_r9:=cellFr r9 hS;go_simp;rfl⟩) hS0 ?_
 refine wpAnyT_take2 (i:=3) (v:=_) rfl (by kernel_rfl) (by kernel_rfl) (by kernel_rfl) (by kernel_rfl) (fun _ _ _ h=>h) (.inl ⟨by simp [Region.wanted],fun w' hS=>by have s_v4:=cellFr v4 hS;have s_r7:=cellFr r7 hS;have s_r9:=cellFr r9 hS;go_simp;rfl⟩) hS0 ?_
 refine wpAnyT_take2 (i:=4) (v:=_) rfl (by kernel_rfl) (by kernel_rfl) (by kernel_rfl) (by kernel_rfl) (fun _ _ _ h=>h) (.inl ⟨by simp [Region.wanted],fun w' hS=>by have s_v4:=cellFr v4 hS;have s_r7:=cellFr r7 hS;have s_r9:=cellFr r9 hS;go_simp;rfl⟩) hS0 ?_
 refine wpAnyT_take2 (i:=5) (v:=_) rfl (by kernel_rfl) (by kernel_rfl) (by kernel_rfl) (by kernel_rfl) (fun _ _ _ h=>h) (.inl ⟨by simp [Region.wanted],fun w' hS=>by have s_v4:=cellFr v4 hS;have s_r7:=cellFr r7 hS;have s_r9:=cellFr r9 hS;go_simp;rfl⟩) hS0 ?_
 refine wpAnyT_take2 (i:=6) (v:=_) rfl (by kernel_rfl) (by kernel_rfl) (by kernel_rfl) (by kernel_rfl) (fun _ _ _ h=>h) (.inl ⟨by simp [Region.wanted],fun w' hS=>by have s_v4:=cellFr v4 hS;have s_r7:=cellFr r7 hS;have s_r9:=cellFr r9 hS;go_simp;rfl⟩) hS0 ?_
 refine wpAnyT_take2 (i:=7) (v:=_) rfl (by kernel_rfl) (by kernel_rfl) (by kernel_rfl) (by kernel_rfl) (fun _ _ _ h=>h) (.inl ⟨by simp [Region.wanted],fun w' hS=>by have s_v4:=cellFr v4 hS;have s_r7:=cellFr r7 hS;have s_r9:=cellFr r9 hS;go_simp;rfl⟩) hS0 ?_
 refine wpAnyT_take2 (i:=8) (v:=_) rfl (by kernel_rfl) (by kernel_rfl) (by kernel_rfl) (by kernel_rfl) (fun _ _ _ h=>h) (.inl ⟨by simp [Region.wanted],fun w' hS=>by have s_v4:=cellFr v4 hS;have s_r7:=cellFr r7 hS;have s_r9:=cellFr r9 hS;go_simp;rfl⟩) hS0 ?_
 refine wpAnyT_take2 (i:=10) (v:=_) rfl (by kernel_rfl) (by kernel_rfl) (by kernel_rfl) (by kernel_rfl) (fun _ _ _ h=>h) (.inl ⟨by simp [Region.wanted],fun w' hS=>by have s_v4:=cellFr v4 hS;have s_r7:=cellFr r7 hS;have s_r9:=cellFr r9 hS;go_simp;rfl⟩) hS0 ?_
 refine wpAnyT_take2 (i:=11) (v:=_) rfl (by kernel_rfl) (by kernel_rfl) (by kernel_rfl) (by kernel_rfl) (fun _ _ _ h=>h) (.inl ⟨by simp [Region.wanted],fun w' hS=>by have s_v4:=cellFr v4 hS;have s_r7:=cellFr r7 hS;have s_r9:=cellFr r9 hS;go_simp;rfl⟩) hS0 ?_
 refine wpAnyT_take2 (i:=12) (v:=_) rfl (by kernel_rfl) (by kernel_rfl) (by kernel_rfl) (by kernel_rfl) (fun _ _ _ h=>h) (.inl ⟨by simp [Region.wanted],fun w' hS=>by have s_v4:=cellFr v4 hS;have s_r7:=cellFr r7 hS;have s_r9:=cellFr r9 hS;go_simp;rfl⟩) hS0 ?_
 refine wpAnyT_take2 (i:=13) (v:=_) rfl (by kernel_rfl) (by kernel_rfl) (by kernel_rfl) (by kernel_rfl) (fun _ _ _ h=>h) (.inl ⟨by simp [Region.wanted],fun w' hS=>by have s_v4:=cellFr v4 hS;have s_r7:=cellFr r7 hS;have s_r9:=cellFr r9 hS;go_simp;rfl⟩) hS0 ?_
 refine wpAnyT_one (i:=9) rfl rfl (by kernel_rfl) ?_
 go_simp
 refine ⟨(Fr.refl none_ w2).drew.alloc _,?_⟩
 refine wpAnyT_one (i:=14) rfl rfl (by kernel_rfl) ?_
 go_simp
 refine ⟨((Fr.refl none_ w2).drew.alloc _).alloc _,?_⟩
 refine wpAnyT_one (i:=15) rfl rfl (by kernel_rfl) ?_
 go_simp
 obtain ⟨w3,hw3⟩:∃ w3,w3=((w2.alloc (.cells #[.string R.key,.int .i64 R.page] 59)).alloc (.cells #[.slice A n c,.slice (some ⟨w2.heap.size,0,none⟩) 1 1,.slice A5 (V.ents.length - n) (c - n)] 29)).drew:=⟨_,rfl⟩
 have f3:Fr none_ w2 w3:=by rw [hw3];exact (((Fr.refl none_ w2).alloc _).alloc _).drew
 have B3:Hid (Blk w3 (w2.heap.size+1) 29 #[.slice A n c,.slice (some ⟨w2.heap.size,0,none⟩) 1 1,.slice A5 (V.ents.length - n) (c - n)]):=hid_ (by
  have:=Blk.new (w2.alloc (.cells #[.string R.key,.int .i64 R.page] 59)) 29 #[.slice A n c,.slice (some ⟨w2.heap.size,0,none⟩) 1 1,.slice A5 (V.ents.length - n) (c - n)]
  rw [World.size_alloc] at this
  rw [hw3]
  exact this.drew)
 have E3:Hid (Reads w3 2 (some ⟨w2.heap.size,0,none⟩) 1 (etFlat [(R.key,R.page)])):=hid_ (by
  have:=(reads_new w2 59 [.string R.key,.int .i64 R.page] w2.heap.size rfl).alloc (.cells #[.slice A n c,.slice (some ⟨w2.heap.size,0,none⟩) 1 1,.slice A5 (V.ents.length - n) (c - n)] 29)
  rw [hw3]
  exact this.drew)
 have U3:=hid_ (U2.out.keep f3)
 have F3:=hid_ f3
 rw [← hw3]
 clear hw3 f3
 have htl:(V.ents.take n).length=n:=by simp;omega
 have hdl:(V.ents.drop n).length=V.ents.length - n:=by simp
 have HBZ:=hid_ (show w.heap.size≤w3.heap.size by (first | exact U3.out.fr.size | omega))
 refine (joined_ok (w2.heap.size+1) [(A,c,V.ents.take n),(some ⟨w2.heap.size,0,none⟩,1,[(R.key,R.page)]),(A5,c - n,V.ents.drop n)] w3 ?_ ?_ ?_ ?_).mono ?_
 ·intro i x hx
  match i,hx with
  | 0,hx=>cases hx;rw [B3.out.cell];show some (Value.slice A n c)=some (Value.slice A (V.ents.take n).length c);rw [htl]
  | 1,hx=>cases hx;rw [B3.out.cell];rfl
  | 2,hx=>cases hx;rw [B3.out.cell];show some (Value.slice A5 (V.ents.length - n) (c - n))=some (Value.slice A5 (V.ents.drop n).length (c - n));rw [hdl]
  | k+3,hx=>simp at hx
 ·intro x hx
  simp only [List.mem_cons,List.not_mem_nil,or_false] at hx
  rcases hx with rfl | rfl | rfl
  ·show Reads w3 2 A (V.ents.take n).length (etFlat (V.ents.take n))
   rw [htl,etFlat_take]
   exact R1.out.none_fr F3.out
  ·exact E3.out
  ·show Reads w3 2 A5 (V.ents.drop n).length (etFlat (V.ents.drop n))
   rw [hdl,etFlat_drop]
   exact R2'.out.none_fr F3.out
 ·simp [ptL];omega
 ·simp
 rintro e w4 ⟨A',c',rfl,ho,hf4⟩
 obtain ⟨L',hL'⟩:∃ L',L'=putL V.ents n (R.key,R.page):=⟨_,rfl⟩
 have hL:ptL [(A,c,V.ents.take n),(some ⟨w2.heap.size,0,none⟩,1,[(R.key,R.page)]),(A5,c - n,V.ents.drop n)]=L':=by rw [hL'];simp [ptL,putL]
 rw [hL] at ho
 rw [hL]
 have hok':Vw.Ok { V with ents:=L' }:=⟨OK.out.low,OK.out.high,OK.out.hk,by show EtsOk L';rw [hL'];exact putL_ok OK.out.ents hple hl HK.out.1⟩
 have HOK':=hid_ hok'
 have O4:=hid_ ho
 have U4:=hid_ (U3.out.keep hf4)
 have F4:=hid_ (F3.out.then_none hf4)
 have HUP':Hid (upM V R=some { V with ents:=L' }):=hid_ (by rw [HUP.out,hL',HN.out])
 clear hL ho hf4 hL' htl hdl B3 E3 R1 R2' U3 F3 hok'
 clear r0 r7 r9 r10 r11 r12 v0 v1 v2 v3 v4 v5 v6 v7 v8
 refine ⟨F4.out,?_⟩
 refine wpAnyT_one (i:=16) rfl rfl (by kernel_rfl) ?_
 go_simp
 refine ⟨F4.out,?_⟩
 have v4:w4.cell? ⟨w.heap.size,4,none⟩=some (.slice A V.ents.length c):=U4.out.bv.cell' rfl
 have z4:=U4.out.bv.frozen 4
 refine wpAnyT_one (i:=17) rfl rfl (by kernel_rfl) ?_
 go_simp
 refine wpAnyT_done (by kernel_rfl) ?_ _
 clear v4 z4
 obtain ⟨w5,hw5⟩:∃ w5,w5=w4.setCell ⟨w.heap.size,4,none⟩ (.slice A' L'.length c'):=⟨_,rfl⟩
 have BV5:Hid (Blk w5 w.heap.size 38 (vwA V (.slice A' L'.length c'))):=hid_ (by rw [hw5];exact U4.out.bv.set_ 4 _)
 have f5:Fr (only w.heap.size) w4 w5:=by rw [hw5];exact Fr.only1 w4 ⟨w.heap.size,4,none⟩ _
 have BO5:=hid_ (U4.out.bo.fr f5 (only_ne (by omega)))
 have O5:=hid_ (own_fr O4.out f5 (fun k hk e=>own_blk_ne O4.out U4.out.bv (by decide) (by rw [hk,show k=w.heap.size from e])))
 have F5:=hid_ (U4.out.fr.then_only f5 (.inr (Nat.le_refl _)))
 rw [← hw5]
 clear hw5 f5 O4 F4
 have v0:w5.cell? ⟨w.heap.size,0,none⟩=some (.string V.low):=BV5.out.cell' rfl
 have v1:w5.cell? ⟨w.heap.size,1,none⟩=some (.string V.high):=BV5.out.cell' rfl
 have v2:w5.cell? ⟨w.heap.size,2,none⟩=some (.bool V.unb):=BV5.out.cell' rfl
 have v3:w5.cell? ⟨w.heap.size,3,none⟩=some (.int .i64 V.right):=BV5.out.cell' rfl
 have v4:w5.cell? ⟨w.heap.size,4,none⟩=some (.slice A' L'.length c'):=BV5.out.cell' rfl
 have v5:w5.cell? ⟨w.heap.size,5,none⟩=some (.bool V.held):=BV5.out.cell' rfl
 have v6:w5.cell? ⟨w.heap.size,6,none⟩=some (.int .i64 V.hp):=BV5.out.cell' rfl
 have v7:w5.cell? ⟨w.heap.size,7,none⟩=some (.int .i64 V.hl):=BV5.out.cell' rfl
 have v8:w5.cell? ⟨w.heap.size,8,none⟩=some (.string V.hk):=BV5.out.cell' rfl
 have s0:w5.cell? ⟨w.heap.size+1+1,0,none⟩=some (.string nilS):=BO5.out.cell' rfl
 have z0:=BO5.out.frozen 0
 have s1:w5.cell? ⟨w.heap.size+1+1,1,none⟩=some (.string nilS):=BO5.out.cell' rfl
 have z1:=BO5.out.frozen 1
 have s2:w5.cell? ⟨w.heap.size+1+1,2,none⟩=some (.bool false):=BO5.out.cell' rfl
 have z2:=BO5.out.frozen 2
 have s3:w5.cell? ⟨w.heap.size+1+1,3,none⟩=some (.int .i64 0):=BO5.out.cell' rfl
 have z3:=BO5.out.frozen 3
 have s4:w5.cell? ⟨w.heap.size+1+1,4,none⟩=some (.slice none 0 0):=BO5.out.cell' rfl
 have z4:=BO5.out.frozen 4
 have s5:w5.cell? ⟨w.heap.size+1+1,5,none⟩=some (.bool false):=BO5.out.cell' rfl
 have z5:=BO5.out.frozen 5
 have s6:w5.cell? ⟨w.heap.size+1+1,6,none⟩=some (.int .i64 0):=BO5.out.cell' rfl
 have z6:=BO5.out.frozen 6
 have s7:w5.cell? ⟨w.heap.size+1+1,7,none⟩=some (.int .i64 0):=BO5.out.cell' rfl
 have z7:=BO5.out.frozen 7
 have s8:w5.cell? ⟨w.heap.size+1+1,8,none⟩=some (.string nilS):=BO5.out.cell' rfl
 have z8:=BO5.out.frozen 8
 rw [HHD.out] at v5
 go_wp2_with fail
 clear v0 s0 z0 v1 s1 z1 v2 s2 z2 v3 s3 z3 v4 s4 z4 v5 s5 z5 v6 s6 z6 v7 s7 z7 v8 s8 z8
 obtain ⟨qb,qf⟩:=box9 BO5.out (.string V.low) (.string V.high) (.bool V.unb) (.int .i64 V.right) (.slice A' L'.length c') (.bool false) (.int .i64 V.hp) (.int .i64 V.hl) (.string V.hk)
 have q0:=qb.cell' (i:=0) rfl
 have q1:=qb.cell' (i:=1) rfl
 have q2:=qb.cell' (i:=2) rfl
 have q3:=qb.cell' (i:=3) rfl
 have q4:=qb.cell' (i:=4) rfl
 have q5:=qb.cell' (i:=5) rfl
 have q6:=qb.cell' (i:=6) rfl
 have q7:=qb.cell' (i:=7) rfl
 have q8:=qb.cell' (i:=8) rfl
 obtain ⟨hvin,how,hfr⟩:=up_retO (V:={ V with ents:=L' }) BO5.out O5.out HOK'.out F5.out (by omega) _ ⟨by rw [show (vwA { V with ents:=L' } (.slice A' L'.length c'))=vwA { V with ents:=L',held:=false } (.slice A' L'.length c') by rw [← HHD.out]];exact qb,qf⟩
 refine bodyPost_ret (v:=.tuple #[vwV { V with ents:=L' } (.slice A' L'.length c'),.bool true]) ?_ rfl (.inl ⟨_,A',c',HUP'.out,rfl,hvin,fun b0 hb _=>own_base how (Nat.le_trans hb HBZ.out),hfr⟩)
 simp [results,Tryz.results70,go_sem,HHD.out,q0,q1,q2,q3,q4,q5,q6,q7,q8]
set_option maxHeartbeats 4000000 in
theorem up_cutO (V:Vw) (R:Rc) (A:Option Addr) (c:Nat) (vr ve:Value) (w:World) (h:VwIn w V A c) (hl:V.ents.length < 1000) (hk:SzOk R.key∧SzOk R.hkey) (h9:R.kind=9) (hh:V.held=false) (hat:atB V.ents R.key=true) (hn0:plN V.ents R.key≠0) :
  Calls Tryz.prog 70 #[vwV V (.slice A V.ents.length c),recV R vr ve] w (UpPostO V R A c w):=by
 have U:=hid_ (up_start V R A c vr ve w h)
 obtain ⟨w0,hw0⟩:∃ w0,w0=((w.alloc (.cells (vwA V (.slice A V.ents.length c)) 38)).alloc (.cells (recA R vr ve) 33)).alloc (.cells (vwA Vw.zero (.slice none 0 0)) 38):=⟨_,rfl⟩
 rw [← hw0] at U
 have HK:=hid_ hk
 have hple:=plN_le V.ents R.key
 have OK:=hid_ h.ok
 have CAP:=hid_ (And.intro h.cap h.capm)
 have OLD:Hid (0 < V.ents.length→∀ ad,A=some ad→ad.block < w.heap.size):=hid_ (fun hn=>h.rd.old (by omega) hn)
 clear h hk
 have hup:upM V R=some { V with ents:=V.ents.take (plN V.ents R.key),high:=R.key,unb:=false,right:=R.page }:=by
  unfold upM
  rw [if_neg (by rw [h9];omega),if_pos ⟨h9,hh⟩,if_neg (by rw [hat];simp [hn0])]
 have HUP:=hid_ hup
 clear hup
 have H_h9:=hid_ h9
 clear h9
 have H_hh:=hid_ hh
 clear hh
 have H_hat:=hid_ hat
 clear hat
 go_enter Tryz.func70,Tryz.ntmps70
 go_wp2_with fail
 change Calls _ _ _ (((w.alloc (.cells (vwA V (.slice A V.ents.length c)) 38)).alloc (.cells (recA R vr ve) 33)).alloc (.cells (vwA Vw.zero (.slice none 0 0)) 38)) _
 rw [← hw0]
 refine (place_ok V A c R.key _ U.out.vin HK.out.1).mono ?_
 rintro e w1 ⟨rfl,hf1⟩
 have U1:=hid_ (U.out.keep hf1)
 clear hf1 U hw0
 rw [H_hat.out]
 obtain ⟨n,hn⟩:∃ n,n=plN V.ents R.key:=⟨_,rfl⟩
 rw [← hn]
 rw [← hn] at hple hn0
 have HN:=hid_ hn
 clear hn
 have R1:=hid_ (U1.out.vin.rd.upto hple)
 have r0:w1.cell? ⟨w.heap.size+1,0,none⟩=some (.int .i64 R.kind):=U1.out.br.cell' rfl
 have r7:w1.cell? ⟨w.heap.size+1,7,none⟩=some (.string R.key):=U1.out.br.cell' rfl
 have r9:w1.cell? ⟨w.heap.size+1,9,none⟩=some (.int .i64 R.page):=U1.out.br.cell' rfl
 have r10:w1.cell? ⟨w.heap.size+1,10,none⟩=some (.int .i64 R.hpage):=U1.out.br.cell' rfl
 have r11:w1.cell? ⟨w.heap.size+1,11,none⟩=some (.int .i64 R.hleft):=U1.out.br.cell' rfl
 have r12:w1.cell? ⟨w.heap.size+1,12,none⟩=some (.string R.hkey):=U1.out.br.cell' rfl
 have v0:w1.cell? ⟨w.heap.size,0,none⟩=some (.string V.low):=U1.out.bv.cell' rfl
 have v1:w1.cell? ⟨w.heap.size,1,none⟩=some (.string V.high):=U1.out.bv.cell' rfl
 have v2:w1.cell? ⟨w.heap.size,2,none⟩=some (.bool V.unb):=U1.out.bv.cell' rfl
 have v3:w1.cell? ⟨w.heap.size,3,none⟩=some (.int .i64 V.right):=U1.out.bv.cell' rfl
 have v4:w1.cell? ⟨w.heap.size,4,none⟩=some (.slice A V.ents.length c):=U1.out.bv.cell' rfl
 have v5:w1.cell? ⟨w.heap.size,5,none⟩=some (.bool V.held):=U1.out.bv.cell' rfl
 have v6:w1.cell? ⟨w.heap.size,6,none⟩=some (.int .i64 V.hp):=U1.out.bv.cell' rfl
 have v7:w1.cell? ⟨w.heap.size,7,none⟩=some (.int .i64 V.hl):=U1.out.bv.cell' rfl
 have v8:w1.cell? ⟨w.heap.size,8,none⟩=some (.string V.hk):=U1.out.bv.cell' rfl
 rw [H_h9.out] at r0
 rw [H_hh.out] at v5
 have hi0:(0:Int)≤(n:Int):=Int.natCast_nonneg _
 have hi1:(n:Int)≤(V.ents.length:Int):=by omega
 have hcl:(V.ents.length:Int)≤(c:Int):=by have:=CAP.out.1;omega
 have hi2:(n:Int)≤(c:Int):=by omega
 have hn1:((n:Int)==0)=false:=beq_eq_false_iff_ne.2 (by omega)
 clear hn0
 go_wp2_with fail
 obtain ⟨w2,hw2⟩:∃ w2,w2=w1.alloc (.cells #[.slice A n c] 29):=⟨_,rfl⟩
 have f2:Fr none_ w1 w2:=by rw [hw2];exact (Fr.refl none_ w1).alloc _
 have B2:Hid (Blk w2 w1.heap.size 29 #[.slice A n c]):=hid_ (by rw [hw2];exact Blk.new w1 _ _)
 have U2:=hid_ (U1.out.keep f2)
 have F2:=hid_ f2
 rw [← hw2]
 clear hw2 f2
 have htl:(V.ents.take n).length=n:=by simp;omega
 have HBZ:=hid_ (show w.heap.size≤w2.heap.size by (first | exact U2.out.fr.size | omega))
 refine (joined_ok w1.heap.size [(A,c,V.ents.take n)] w2 ?_ ?_ ?_ ?_).mono ?_
 ·intro i x hx
  match i,hx with
  | 0,hx=>cases hx;rw [B2.out.cell];show some (Value.slice A n c)=some (Value.slice A (V.ents.take n).length c);rw [htl]
  | k+1,hx=>simp at hx
 ·intro x hx
  obtain rfl:x=(A,c,V.ents.take n):=by simpa using hx
  show Reads w2 2 A (V.ents.take n).length (etFlat (V.ents.take n))
  rw [htl,etFlat_take]
  exact R1.out.none_fr F2.out
 ·simp [ptL];omega
 ·simp
 rintro e w3 ⟨A',c',rfl,ho,hf3⟩
 obtain ⟨L',hL'⟩:∃ L',L'=V.ents.take n:=⟨_,rfl⟩
 have hL:ptL [(A,c,V.ents.take n)]=L':=by rw [hL'];simp [ptL]
 rw [hL] at ho
 rw [hL]
 have HOK':Hid (Vw.Ok { V with ents:=L',high:=R.key,unb:=false,right:=R.page }):=hid_ ⟨OK.out.low,HK.out.1,OK.out.hk,by show EtsOk L';rw [hL'];exact ⟨by rw [htl];have:=OK.out.ents.1;omega,fun p hp=>OK.out.ents.2 p (List.mem_of_mem_take hp)⟩⟩
 have O3:=hid_ ho
 have U3:=hid_ (U2.out.keep hf3)
 have HUP':Hid (upM V R=some { V with ents:=L',high:=R.key,unb:=false,right:=R.page }):=hid_ (by rw [HUP.out,hL',HN.out])
 clear hL ho hf3 hL' htl B2 R1 F2 r0 r7 r9 r10 r11 r12 v0 v1 v2 v3 v4 v5 v6 v7 v8
 have v4:w3.cell? ⟨w.heap.size,4,none⟩=some (.slice A V.ents.length c):=U3.out.bv.cell' rfl
 have z4:=U3.out.bv.frozen 4
 go_upto_region 11 with fail
 obtain ⟨w4,hw4⟩:∃ w4,w4=w3.setCell ⟨w.heap.size,4,none⟩ (.slice A' L'.length c'):=⟨_,rfl⟩
 have BV4:Hid (Blk w4 w.heap.size 38 (vwA V (.slice A' L'.length c'))):=hid_ (by rw [hw4];exact U3.out.bv.set_ 4 _)
 have f4:Fr (only w.heap.size) w3 w4:=by rw [hw4];exact Fr.only1 w3 ⟨w.heap.size,4,none⟩ _
 have BR4:=hid_ (U3.out.br.fr f4 (only_ne (by omega)))
 have BO4:=hid_ (U3.out.bo.fr f4 (only_ne (by omega)))
 have O4:=hid_ (own_fr O3.out f4 (fun k hk e=>own_blk_ne O3.out U3.out.bv (by decide) (by rw [hk,show k=w.heap.size from e])))
 have F4:=hid_ (U3.out.fr.then_only f4 (.inr (Nat.le_refl _)))
 change Code.wp _ _ _ _ (w3.setCell ⟨w.heap.size,4,none⟩ (.slice A' L'.length c'))
 rw [← hw4]
 clear hw4 f4 O3 v4 z4
 have r7:w4.cell? ⟨w.heap.size+1,7,none⟩=some (.string R.key):=BR4.out.cell' rfl
 have r9:w4.cell? ⟨w.heap.size+1,9,none⟩=some (.int .i64 R.page):=BR4.out.cell' rfl
 have v1:w4.cell? ⟨w.heap.size,1,none⟩=some (.string V.high):=BV4.out.cell' rfl
 have v2:w4.cell? ⟨w.heap.size,2,none⟩=some (.bool V.unb):=BV4.out.cell' rfl
 have v3:w4.cell? ⟨w.heap.size,3,none⟩=some (.int .i64 V.right):=BV4.out.cell' rfl
 have z1:=BV4.out.frozen 1
 have z2:=BV4.out.frozen 2
 have z3:=BV4.out.frozen 3
 go_region
 clear r7 r9 v1 v2 v3 z1 z2 z3
 obtain ⟨w5,hw5⟩:∃ w5,w5=(((w4.setCell ⟨w.heap.size,1,none⟩ (.string R.key)).setCell ⟨w.heap.size,2,none⟩ (.bool false)).setCell ⟨w.heap.size,3,none⟩ (.int .i64 R.page)).drew:=⟨_,rfl⟩
 have BV5:Hid (Blk w5 w.heap.size 38 (vwA { V with high:=R.key,unb:=false,right:=R.page } (.slice A' L'.length c'))):=hid_ (by rw [hw5];exact (((BV4.out.set_ 1 (.string R.key)).set_ 2 (.bool false)).set_ 3 (.int .i64 R.page)).drew)
 have f5:Fr (only w.heap.size) w4 w5:=by rw [hw5];exact ((((Fr.refl (only w.heap.size) w4).setCell (p:=⟨w.heap.size,1,none⟩) (.inl (Eq.refl _)) _).setCell (p:=⟨w.heap.size,2,none⟩) (.inl (Eq.refl _)) _).setCell (p:=⟨w.heap.size,3,none⟩) (.inl (Eq.refl _)) _).drew
 have BO5:=hid_ (BO4.out.fr f5 (only_ne (by omega)))
 have O5:=hid_ (own_fr O4.out f5 (fun k hk e=>own_blk_ne O4.out BV4.out (by decide) (by rw [hk,show k=w.heap.size from e])))
 have F5:=hid_ (F4.out.then_only f5 (.inr (Nat.le_refl _)))
 rw [← hw5]
 clear hw5 f5 O4 F4
 have v0:w5.cell? ⟨w.heap.size,0,none⟩=some (.string V.low):=BV5.out.cell' rfl
 have v1:w5.cell? ⟨w.heap.size,1,none⟩=some (.string R.key):=BV5.out.cell' rfl
 have v2:w5.cell? ⟨w.heap.size,2,none⟩=some (.bool false):=BV5.out.cell' rfl
 have v3:w5.cell? ⟨w.heap.size,3,none⟩=some (.int .i64 R.page):=BV5.out.cell' rfl
 have v4:w5.cell? ⟨w.heap.size,4,none⟩=some (.slice A' L'.length c'):=BV5.out.cell' rfl
 have v5:w5.cell? ⟨w.heap.size,5,none⟩=some (.bool V.held):=BV5.out.cell' rfl
 have v6:w5.cell? ⟨w.heap.size,6,none⟩=some (.int .i64 V.hp):=BV5.out.cell' rfl
 have v7:w5.cell? ⟨w.heap.size,7,none⟩=some (.int .i64 V.hl):=BV5.out.cell' rfl
 have v8:w5.cell? ⟨w.heap.size,8,none⟩=some (.string V.hk):=BV5.out.cell' rfl
 have s0:w5.cell? ⟨w.heap.size+1+1,0,none⟩=some (.string nilS):=BO5.out.cell' rfl
 have z0:=BO5.out.frozen 0
 have s1:w5.cell? ⟨w.heap.size+1+1,1,none⟩=some (.string nilS):=BO5.out.cell' rfl
 have z1:=BO5.out.frozen 1
 have s2:w5.cell? ⟨w.heap.size+1+1,2,none⟩=some (.bool false):=BO5.out.cell' rfl
 have z2:=BO5.out.frozen 2
 have s3:w5.cell? ⟨w.heap.size+1+1,3,none⟩=some (.int .i64 0):=BO5.out.cell' rfl
 have z3:=BO5.out.frozen 3
 have s4:w5.cell? ⟨w.heap.size+1+1,4,none⟩=some (.slice none 0 0):=BO5.out.cell' rfl
 have z4:=BO5.out.frozen 4
 have s5:w5.cell? ⟨w.heap.size+1+1,5,none⟩=some (.bool false):=BO5.out.cell' rfl
 have z5:=BO5.out.frozen 5
 have s6:w5.cell? ⟨w.heap.size+1+1,6,none⟩=some (.int .i64 0):=BO5.out.cell' rfl
 have z6:=BO5.out.frozen 6
 have s7:w5.cell? ⟨w.heap.size+1+1,7,none⟩=some (.int .i64 0):=BO5.out.cell' rfl
 have z7:=BO5.out.frozen 7
 have s8:w5.cell? ⟨w.heap.size+1+1,8,none⟩=some (.string nilS):=BO5.out.cell' rfl
 have z8:=BO5.out.frozen 8
 rw [H_hh.out] at v5
 go_wp2_with fail
 clear v0 s0 z0 v1 s1 z1 v2 s2 z2 v3 s3 z3 v4 s4 z4 v5 s5 z5 v6 s6 z6 v7 s7 z7 v8 s8 z8
 obtain ⟨qb,qf⟩:=box9 BO5.out (.string V.low) (.string R.key) (.bool false) (.int .i64 R.page) (.slice A' L'.length c') (.bool false) (.int .i64 V.hp) (.int .i64 V.hl) (.string V.hk)
 have q0:=qb.cell' (i:=0) rfl
 have q1:=qb.cell' (i:=1) rfl
 have q2:=qb.cell' (i:=2) rfl
 have q3:=qb.cell' (i:=3) rfl
 have q4:=qb.cell' (i:=4) rfl
 have q5:=qb.cell' (i:=5) rfl
 have q6:=qb.cell' (i:=6) rfl
 have q7:=qb.cell' (i:=7) rfl
 have q8:=qb.cell' (i:=8) rfl
 obtain ⟨hvin,how,hfr⟩:=up_retO (V:={ V with ents:=L',high:=R.key,unb:=false,right:=R.page }) BO5.out O5.out HOK'.out F5.out (by omega) _ ⟨by rw [show (vwA { V with ents:=L',high:=R.key,unb:=false,right:=R.page } (.slice A' L'.length c'))=vwA { V with ents:=L',high:=R.key,unb:=false,right:=R.page,held:=false } (.slice A' L'.length c') by rw [← H_hh.out]];exact qb,qf⟩
 refine bodyPost_ret (v:=.tuple #[vwV { V with ents:=L',high:=R.key,unb:=false,right:=R.page } (.slice A' L'.length c'),.bool true]) ?_ rfl (.inl ⟨_,A',c',HUP'.out,rfl,hvin,fun b0 hb _=>own_base how (Nat.le_trans hb HBZ.out),hfr⟩)
 simp [results,Tryz.results70,go_sem,H_hh.out,q0,q1,q2,q3,q4,q5,q6,q7,q8]
set_option maxHeartbeats 4000000 in
theorem up_dropO (V:Vw) (R:Rc) (A:Option Addr) (c:Nat) (vr ve:Value) (w:World) (h:VwIn w V A c) (hl:V.ents.length < 1000) (hk:SzOk R.key∧SzOk R.hkey) (h11:R.kind=11) (hh:V.held=true) (hpl:plN V.ents V.hk < V.ents.length) :
  Calls Tryz.prog 70 #[vwV V (.slice A V.ents.length c),recV R vr ve] w (UpPostO V R A c w):=by
 have U:=hid_ (up_start V R A c vr ve w h)
 obtain ⟨w0,hw0⟩:∃ w0,w0=((w.alloc (.cells (vwA V (.slice A V.ents.length c)) 38)).alloc (.cells (recA R vr ve) 33)).alloc (.cells (vwA Vw.zero (.slice none 0 0)) 38):=⟨_,rfl⟩
 rw [← hw0] at U
 have HK:=hid_ hk
 have hple:=plN_le V.ents R.key
 have OK:=hid_ h.ok
 have CAP:=hid_ (And.intro h.cap h.capm)
 have OLD:Hid (0 < V.ents.length→∀ ad,A=some ad→ad.block < w.heap.size):=hid_ (fun hn=>h.rd.old (by omega) hn)
 clear h hk
 have hup:upM V R=some { V with ents:=V.ents.take (plN V.ents V.hk) ++ V.ents.drop (plN V.ents V.hk+1),held:=false,hp:=0,hl:=0,hk:=nilS }:=by
  unfold upM
  rw [if_neg (by rw [hh];simp),if_neg (by rw [hh];simp),if_neg (by rw [hh];simp),if_pos ⟨h11,hh⟩]
 have HUP:=hid_ hup
 clear hup
 have H_h11:=hid_ h11
 clear h11
 have H_hh:=hid_ hh
 clear hh
 go_enter Tryz.func70,Tryz.ntmps70
 go_wp2_with fail
 change Calls _ _ _ (((w.alloc (.cells (vwA V (.slice A V.ents.length c)) 38)).alloc (.cells (recA R vr ve) 33)).alloc (.cells (vwA Vw.zero (.slice none 0 0)) 38)) _
 rw [← hw0]
 refine (place_ok V A c R.key _ U.out.vin HK.out.1).mono ?_
 rintro e w1 ⟨rfl,hf1⟩
 have U1:=hid_ (U.out.keep hf1)
 clear hf1 U hw0
 have r0:w1.cell? ⟨w.heap.size+1,0,none⟩=some (.int .i64 R.kind):=U1.out.br.cell' rfl
 have v0:w1.cell? ⟨w.heap.size,0,none⟩=some (.string V.low):=U1.out.bv.cell' rfl
 have v1:w1.cell? ⟨w.heap.size,1,none⟩=some (.string V.high):=U1.out.bv.cell' rfl
 have v2:w1.cell? ⟨w.heap.size,2,none⟩=some (.bool V.unb):=U1.out.bv.cell' rfl
 have v3:w1.cell? ⟨w.heap.size,3,none⟩=some (.int .i64 V.right):=U1.out.bv.cell' rfl
 have v4:w1.cell? ⟨w.heap.size,4,none⟩=some (.slice A V.ents.length c):=U1.out.bv.cell' rfl
 have v5:w1.cell? ⟨w.heap.size,5,none⟩=some (.bool V.held):=U1.out.bv.cell' rfl
 have v6:w1.cell? ⟨w.heap.size,6,none⟩=some (.int .i64 V.hp):=U1.out.bv.cell' rfl
 have v7:w1.cell? ⟨w.heap.size,7,none⟩=some (.int .i64 V.hl):=U1.out.bv.cell' rfl
 have v8:w1.cell? ⟨w.heap.size,8,none⟩=some (.string V.hk):=U1.out.bv.cell' rfl
 rw [H_h11.out] at r0
 rw [H_hh.out] at v5
 go_wp2_with fail
 refine (place_ok { V with held:=true } A c V.hk _ ⟨U1.out.vin.rd,U1.out.vin.cap,U1.out.vin.capm,⟨OK.out.low,OK.out.high,OK.out.hk,OK.out.ents⟩⟩ OK.out.hk).mono ?_
 rintro e w2 ⟨rfl,hf2⟩
 obtain ⟨m,hm⟩:∃ m,m=plN V.ents V.hk:=⟨_,rfl⟩
 rw [show plN ({ V with held:=true }:Vw).ents V.hk=m from hm.symm]
 rw [← hm] at hpl
 have HM:=hid_ hm
 have U2:=hid_ (U1.out.keep hf2)
 clear hm hf2 r0 v0 v1 v2 v3 v4 v5 v6 v7 v8
 go_upto_region 19 with fail
 obtain ⟨A5,hA5⟩:∃ A5,(if c=m+1 then A else Option.map (fun x=>x.add ((m+1) * 2)) A)=A5:=⟨_,rfl⟩
 have R1:=hid_ (U2.out.vin.rd.upto (k:=m) (by omega))
 have R2:=U2.out.vin.rd.cut (k:=m+1) hpl CAP.out.1
 rw [hA5] at R2
 have R2':=hid_ R2
 clear R2
 have v4:w2.cell? ⟨w.heap.size,4,none⟩=some (.slice A V.ents.length c):=U2.out.bv.cell' rfl
 have hi0:(0:Int)≤(m:Int):=Int.natCast_nonneg _
 have hi1:(m:Int) < (V.ents.length:Int):=by omega
 have hcl:(V.ents.length:Int)≤(c:Int):=by have:=CAP.out.1;omega
 have hi2:(m:Int)≤(c:Int):=by omega
 have hw1:IntKind.i64.wrap ((m:Int)+1)=(m:Int)+1:=IntWalk.i64_in _ (by have:=OK.out.ents.1;omega)
 have hi3:(m:Int)+1≤(V.ents.length:Int):=by omega
 have hi4:(0:Int)≤(m:Int)+1:=by omega
 have hi5:((m:Int)+1).toNat=m+1:=by omega
 have hS0:(fun w':World=>Fr none_ w2 w') w2.drew:=(Fr.refl none_ w2).drew
 refine wp_region_T (m:=12) (S:=fun w':World=>Fr none_ w2 w') (by kernel_rfl) ?_
 refine wpAnyT_take2 (i:=0) (v:=_) rfl (by kernel_rfl) (by kernel_rfl) (by kernel_rfl) (by kernel_rfl) (fun _ _ _ h=>h) (.inl ⟨by simp [Region.wanted],fun w' hS=>by have s_v4:=cellFr v4 hS;go_simp;rfl⟩) hS0 ?_
 refine wpAnyT_take2 (i:=1) (v:=_) rfl (by kernel_rfl) (by kernel_rfl) (by kernel_rfl) (by kernel_rfl) (fun _ _ _ h=>h) (.inl ⟨by simp [Region.wanted],fun w' hS=>by have s_v4:=cellFr v4 hS;go_simp;rfl⟩) hS0 ?_
 refine wpAnyT_take2 (i:=2) (v:=_) rfl (by kernel_rfl) (by kernel_rfl) (by kernel_rfl) (by kernel_rfl) (fun _ _ _ h=>h) (.inl ⟨by simp [Region.wanted],fun w' hS=>by have s_v4:=cellFr v4 hS;go_simp;rfl⟩) hS0 ?_
 refine wpAnyT_take2 (i:=3) (v:=_) rfl (by kernel_rfl) (by kernel_rfl) (by kernel_rfl) (by kernel_rfl) (fun _ _ _ h=>h) (.inl ⟨by simp [Region.wanted],fun w' hS=>by have s_v4:=cellFr v4 hS;go_simp;rfl⟩) hS0 ?_
 refine wpAnyT_take2 (i:=4) (v:=_) rfl (by kernel_rfl) (by kernel_rfl) (by kernel_rfl) (by kernel_rfl) (fun _ _ _ h=>h) (.inl ⟨by simp [Region.wanted],fun w' hS=>by have s_v4:=cellFr v4 hS;go_simp;rfl⟩) hS0 ?_
 refine wpAnyT_take2 (i:=5) (v:=_) rfl (by kernel_rfl) (by kernel_rfl) (by kernel_rfl) (by kernel_rfl) (fun _ _ _ h=>h) (.inl ⟨by simp [Region.wanted],fun w' hS=>by have s_v4:=cellFr v4 hS;go_simp;rfl⟩) hS0 ?_
 refine wpAnyT_take2 (i:=6) (v:=_) rfl (by kernel_rfl) (by kernel_rfl) (by kernel_rfl) (by kernel_rfl) (fun _ _ _ h=>h) (.inl ⟨by simp [Region.wanted],fun w' hS=>by have s_v4:=cellFr v4 hS;go_simp;rfl⟩) hS0 ?_
 refine wpAnyT_take2 (i:=7) (v:=_) rfl (by kernel_rfl) (by kernel_rfl) (by kernel_rfl) (by kernel_rfl) (fun _ _ _ h=>h) (.inl ⟨by simp [Region.wanted],fun w' hS=>by have s_v4:=cellFr v4 hS;go_simp;rfl⟩) hS0 ?_
 refine wpAnyT_take2 (i:=8) (v:=_) rfl (by kernel_rfl) (by kernel_rfl) (by kernel_rfl) (by kernel_rfl) (fun _ _ _ h=>h) (.inl ⟨by simp [Region.wanted],fun w' hS=>by have s_v4:=cellFr v4 hS;go_simp;rfl⟩) hS0 ?_
 refine wpAnyT_one (i:=9) rfl rfl (by kernel_rfl) ?_
 go_simp
 refine ⟨(Fr.refl none_ w2).drew.alloc _,?_⟩
 refine wpAnyT_one (i:=10) rfl rfl (by kernel_rfl) ?_
 go_simp
 obtain ⟨w3,hw3⟩:∃ w3,w3=(w2.alloc (.cells #[.slice A m c,.slice A5 (V.ents.length - (m+1)) (c - (m+1))] 29)).drew:=⟨_,rfl⟩
 have f3:Fr none_ w2 w3:=by rw [hw3];exact ((Fr.refl none_ w2).alloc _).drew
 have B3:Hid (Blk w3 w2.heap.size 29 #[.slice A m c,.slice A5 (V.ents.length - (m+1)) (c - (m+1))]):=hid_ (by rw [hw3];exact (Blk.new w2 _ _).drew)
 have U3:=hid_ (U2.out.keep f3)
 have F3:=hid_ f3
 rw [← hw3]
 clear hw3 f3
 have htl:(V.ents.take m).length=m:=by simp;omega
 have hdl:(V.ents.drop (m+1)).length=V.ents.length - (m+1):=by simp
 have HBZ:=hid_ (show w.heap.size≤w3.heap.size by (first | exact U3.out.fr.size | omega))
 refine (joined_ok w2.heap.size [(A,c,V.ents.take m),(A5,c - (m+1),V.ents.drop (m+1))] w3 ?_ ?_ ?_ ?_).mono ?_
 ·intro i x hx
  match i,hx with
  | 0,hx=>cases hx;rw [B3.out.cell];show some (Value.slice A m c)=some (Value.slice A (V.ents.take m).length c);rw [htl]
  | 1,hx=>cases hx;rw [B3.out.cell];show some (Value.slice A5 (V.ents.length - (m+1)) (c - (m+1)))=some (Value.slice A5 (V.ents.drop (m+1)).length (c - (m+1)));rw [hdl]
  | k+2,hx=>simp at hx
 ·intro x hx
  simp only [List.mem_cons,List.not_mem_nil,or_false] at hx
  rcases hx with rfl | rfl
  ·show Reads w3 2 A (V.ents.take m).length (etFlat (V.ents.take m))
   rw [htl,etFlat_take]
   exact R1.out.none_fr F3.out
  ·show Reads w3 2 A5 (V.ents.drop (m+1)).length (etFlat (V.ents.drop (m+1)))
   rw [hdl,etFlat_drop]
   exact R2'.out.none_fr F3.out
 ·simp [ptL];omega
 ·simp
 rintro e w4 ⟨A',c',rfl,ho,hf4⟩
 obtain ⟨L',hL'⟩:∃ L',L'=V.ents.take m ++ V.ents.drop (m+1):=⟨_,rfl⟩
 have hL:ptL [(A,c,V.ents.take m),(A5,c - (m+1),V.ents.drop (m+1))]=L':=by rw [hL'];simp [ptL]
 rw [hL] at ho
 rw [hL]
 have HOK':Hid (Vw.Ok { V with ents:=L',held:=false,hp:=0,hl:=0,hk:=nilS }):=hid_ ⟨OK.out.low,OK.out.high,SzOk.nil,by
  show EtsOk L'
  rw [hL']
  refine ⟨by rw [List.length_append,htl,hdl];omega,fun p hp=>?_⟩
  rcases List.mem_append.1 hp with hp | hp
  ·exact OK.out.ents.2 p (List.mem_of_mem_take hp)
  ·exact OK.out.ents.2 p (List.mem_of_mem_drop hp)⟩
 have O4:=hid_ ho
 have U4:=hid_ (U3.out.keep hf4)
 have F4:=hid_ (F3.out.then_none hf4)
 have HUP':Hid (upM V R=some { V with ents:=L',held:=false,hp:=0,hl:=0,hk:=nilS }):=hid_ (by rw [HUP.out,hL',HM.out])
 clear hL ho hf4 hL' htl hdl B3 R1 R2' U3 F3 v4
 refine ⟨F4.out,?_⟩
 refine wpAnyT_one (i:=11) rfl rfl (by kernel_rfl) ?_
 go_simp
 refine ⟨F4.out,?_⟩
 have v4:w4.cell? ⟨w.heap.size,4,none⟩=some (.slice A V.ents.length c):=U4.out.bv.cell' rfl
 have z4:=U4.out.bv.frozen 4
 refine wpAnyT_one (i:=12) rfl rfl (by kernel_rfl) ?_
 go_simp
 refine wpAnyT_done (by kernel_rfl) ?_ _
 clear v4 z4
 obtain ⟨w5,hw5⟩:∃ w5,w5=w4.setCell ⟨w.heap.size,4,none⟩ (.slice A' L'.length c'):=⟨_,rfl⟩
 have BV5:Hid (Blk w5 w.heap.size 38 (vwA V (.slice A' L'.length c'))):=hid_ (by rw [hw5];exact U4.out.bv.set_ 4 _)
 have f5:Fr (only w.heap.size) w4 w5:=by rw [hw5];exact Fr.only1 w4 ⟨w.heap.size,4,none⟩ _
 have BO5:=hid_ (U4.out.bo.fr f5 (only_ne (by omega)))
 have O5:=hid_ (own_fr O4.out f5 (fun k hk e=>own_blk_ne O4.out U4.out.bv (by decide) (by rw [hk,show k=w.heap.size from e])))
 have F5:=hid_ (U4.out.fr.then_only f5 (.inr (Nat.le_refl _)))
 rw [← hw5]
 clear hw5 f5 O4 F4
 have v5:w5.cell? ⟨w.heap.size,5,none⟩=some (.bool V.held):=BV5.out.cell' rfl
 have z5:=BV5.out.frozen 5
 have v6:w5.cell? ⟨w.heap.size,6,none⟩=some (.int .i64 V.hp):=BV5.out.cell' rfl
 have z6:=BV5.out.frozen 6
 have v7:w5.cell? ⟨w.heap.size,7,none⟩=some (.int .i64 V.hl):=BV5.out.cell' rfl
 have z7:=BV5.out.frozen 7
 have v8:w5.cell? ⟨w.heap.size,8,none⟩=some (.string V.hk):=BV5.out.cell' rfl
 have z8:=BV5.out.frozen 8
 go_upto_region 21 with fail
 clear v5 v6 v7 v8 z5 z6 z7 z8
 obtain ⟨w6,hw6⟩:∃ w6,w6=(((w5.setCell ⟨w.heap.size,5,none⟩ (.bool false)).setCell ⟨w.heap.size,6,none⟩ (.int .i64 0)).setCell ⟨w.heap.size,7,none⟩ (.int .i64 0)).setCell ⟨w.heap.size,8,none⟩ (.string nilS):=⟨_,rfl⟩
 have BV6:Hid (Blk w6 w.heap.size 38 (vwA { V with ents:=L',held:=false,hp:=0,hl:=0,hk:=nilS } (.slice A' L'.length c'))):=hid_ (by rw [hw6];exact (((BV5.out.set_ 5 (.bool false)).set_ 6 (.int .i64 0)).set_ 7 (.int .i64 0)).set_ 8 (.string nilS))
 have f6:Fr (only w.heap.size) w5 w6:=by rw [hw6];exact ((((Fr.refl (only w.heap.size) w5).setCell (p:=⟨w.heap.size,5,none⟩) (.inl (Eq.refl _)) _).setCell (p:=⟨w.heap.size,6,none⟩) (.inl (Eq.refl _)) _).setCell (p:=⟨w.heap.size,7,none⟩) (.inl (Eq.refl _)) _).setCell (p:=⟨w.heap.size,8,none⟩) (.inl (Eq.refl _)) _
 have BO6:=hid_ (BO5.out.fr f6 (only_ne (by omega)))
 have O6:=hid_ (own_fr O5.out f6 (fun k hk e=>own_blk_ne O5.out BV5.out (by decide) (by rw [hk,show k=w.heap.size from e])))
 have F6:=hid_ (F5.out.then_only f6 (.inr (Nat.le_refl _)))
 change Code.wp _ _ _ _ ((((w5.setCell ⟨w.heap.size,5,none⟩ (.bool false)).setCell ⟨w.heap.size,6,none⟩ (.int .i64 0)).setCell ⟨w.heap.size,7,none⟩ (.int .i64 0)).setCell ⟨w.heap.size,8,none⟩ (.string nilS))
 rw [← hw6]
 clear hw6 f6 O5 F5
 have v0:w6.cell? ⟨w.heap.size,0,none⟩=some (.string V.low):=BV6.out.cell' rfl
 have v1:w6.cell? ⟨w.heap.size,1,none⟩=some (.string V.high):=BV6.out.cell' rfl
 have v2:w6.cell? ⟨w.heap.size,2,none⟩=some (.bool V.unb):=BV6.out.cell' rfl
 have v3:w6.cell? ⟨w.heap.size,3,none⟩=some (.int .i64 V.right):=BV6.out.cell' rfl
 have v4:w6.cell? ⟨w.heap.size,4,none⟩=some (.slice A' L'.length c'):=BV6.out.cell' rfl
 have v5:w6.cell? ⟨w.heap.size,5,none⟩=some (.bool false):=BV6.out.cell' rfl
 have v6:w6.cell? ⟨w.heap.size,6,none⟩=some (.int .i64 0):=BV6.out.cell' rfl
 have v7:w6.cell? ⟨w.heap.size,7,none⟩=some (.int .i64 0):=BV6.out.cell' rfl
 have v8:w6.cell? ⟨w.heap.size,8,none⟩=some (.string nilS):=BV6.out.cell' rfl
 have s0:w6.cell? ⟨w.heap.size+1+1,0,none⟩=some (.string nilS):=BO6.out.cell' rfl
 have z0:=BO6.out.frozen 0
 have s1:w6.cell? ⟨w.heap.size+1+1,1,none⟩=some (.string nilS):=BO6.out.cell' rfl
 have z1:=BO6.out.frozen 1
 have s2:w6.cell? ⟨w.heap.size+1+1,2,none⟩=some (.bool false):=BO6.out.cell' rfl
 have z2:=BO6.out.frozen 2
 have s3:w6.cell? ⟨w.heap.size+1+1,3,none⟩=some (.int .i64 0):=BO6.out.cell' rfl
 have z3:=BO6.out.frozen 3
 have s4:w6.cell? ⟨w.heap.size+1+1,4,none⟩=some (.slice none 0 0):=BO6.out.cell' rfl
 have z4:=BO6.out.frozen 4
 have s5:w6.cell? ⟨w.heap.size+1+1,5,none⟩=some (.bool false):=BO6.out.cell' rfl
 have z5:=BO6.out.frozen 5
 have s6:w6.cell? ⟨w.heap.size+1+1,6,none⟩=some (.int .i64 0):=BO6.out.cell' rfl
 have z6:=BO6.out.frozen 6
 have s7:w6.cell? ⟨w.heap.size+1+1,7,none⟩=some (.int .i64 0):=BO6.out.cell' rfl
 have z7:=BO6.out.frozen 7
 have s8:w6.cell? ⟨w.heap.size+1+1,8,none⟩=some (.string nilS):=BO6.out.cell' rfl
 have z8:=BO6.out.frozen 8
 go_wp2_with fail
 clear v0 s0 z0 v1 s1 z1 v2 s2 z2 v3 s3 z3 v4 s4 z4 v5 s5 z5 v6 s6 z6 v7 s7 z7 v8 s8 z8
 obtain ⟨qb,qf⟩:=box9 BO6.out (.string V.low) (.string V.high) (.bool V.unb) (.int .i64 V.right) (.slice A' L'.length c') (.bool false) (.int .i64 0) (.int .i64 0) (.string nilS)
 have q0:=qb.cell' (i:=0) rfl
 have q1:=qb.cell' (i:=1) rfl
 have q2:=qb.cell' (i:=2) rfl
 have q3:=qb.cell' (i:=3) rfl
 have q4:=qb.cell' (i:=4) rfl
 have q5:=qb.cell' (i:=5) rfl
 have q6:=qb.cell' (i:=6) rfl
 have q7:=qb.cell' (i:=7) rfl
 have q8:=qb.cell' (i:=8) rfl
 obtain ⟨hvin,how,hfr⟩:=up_retO (V:={ V with ents:=L',held:=false,hp:=0,hl:=0,hk:=nilS }) BO6.out O6.out HOK'.out F6.out (by omega) _ ⟨qb,qf⟩
 refine bodyPost_ret (v:=.tuple #[vwV { V with ents:=L',held:=false,hp:=0,hl:=0,hk:=nilS } (.slice A' L'.length c'),.bool true]) ?_ rfl (.inl ⟨_,A',c',HUP'.out,rfl,hvin,fun b0 hb _=>own_base how (Nat.le_trans hb HBZ.out),hfr⟩)
 simp [results,Tryz.results70,go_sem,q0,q1,q2,q3,q4,q5,q6,q7,q8]
set_option maxHeartbeats 4000000 in
theorem up_holdO (V:Vw) (R:Rc) (A:Option Addr) (c:Nat) (vr ve:Value) (w:World) (h:VwIn w V A c) (hl:V.ents.length < 1000) (hk:SzOk R.key∧SzOk R.hkey) (h10:R.kind=10) (hh:V.held=false) (hat:atB V.ents R.hkey=true) (hm0:plN V.ents R.hkey≠0) (p q:Et) (hp:V.ents[plN V.ents R.hkey]?=some p) (hpp:p.2=R.hpage) (hq:V.ents[plN V.ents R.hkey - 1]?=some q) (hqq:q.2=R.hleft) :
  Calls Tryz.prog 70 #[vwV V (.slice A V.ents.length c),recV R vr ve] w (UpPostO V R A c w):=by
 have U:=hid_ (up_start V R A c vr ve w h)
 obtain ⟨w0,hw0⟩:∃ w0,w0=((w.alloc (.cells (vwA V (.slice A V.ents.length c)) 38)).alloc (.cells (recA R vr ve) 33)).alloc (.cells (vwA Vw.zero (.slice none 0 0)) 38):=⟨_,rfl⟩
 rw [← hw0] at U
 have HK:=hid_ hk
 have hple:=plN_le V.ents R.key
 have OK:=hid_ h.ok
 have CAP:=hid_ (And.intro h.cap h.capm)
 have OLD:Hid (0 < V.ents.length→∀ ad,A=some ad→ad.block < w.heap.size):=hid_ (fun hn=>h.rd.old (by omega) hn)
 clear h hk
 obtain ⟨m,hm⟩:∃ m,m=plN V.ents R.hkey:=⟨_,rfl⟩
 have HUP:Hid (upM V R=some { V with held:=true,hp:=R.hpage,hl:=R.hleft,hk:=R.hkey }):=hid_ (by unfold upM;rw [if_neg (by rw [h10];omega),if_neg (by rw [h10];omega),if_pos ⟨h10,hh⟩,if_neg (by rw [hat,hp,hq];simp [hm0,hpp,hqq])])
 rw [← hm] at hm0 hp hq
 have hne:(p.2 != R.hpage)=false:=by simpa using hpp
 have hne2:(q.2 != R.hleft)=false:=by simpa using hqq
 have hm1:((m:Int)==0)=false:=beq_eq_false_iff_ne.2 (by omega)
 have hml:m < V.ents.length:=(List.getElem?_eq_some_iff.1 hp).1
 have hi0:(0:Int)≤(m:Int):=Int.natCast_nonneg _
 have hi1:(m:Int) < (V.ents.length:Int):=by omega
 have HP:=hid_ hp
 obtain ⟨j,hj⟩:∃ j,j=m - 1:=⟨_,rfl⟩
 rw [← hj] at hq
 have hw1:IntKind.i64.wrap ((m:Int) - 1)=(j:Int):=by rw [show (m:Int) - 1=(j:Int) by omega];exact IntWalk.i64_in _ (by have:=OK.out.ents.1;omega)
 have hj0:(0:Int)≤(j:Int):=Int.natCast_nonneg _
 have hj1:(j:Int) < (V.ents.length:Int):=by omega
 have HQ:=hid_ hq
 clear hm0 hp hpp hml hq hqq hj
 have HM:=hid_ hm
 have HT:=hid_ hat
 clear hm hat
 have H_h10:=hid_ h10
 clear h10
 have H_hh:=hid_ hh
 clear hh
 go_enter Tryz.func70,Tryz.ntmps70
 go_wp2_with fail
 change Calls _ _ _ (((w.alloc (.cells (vwA V (.slice A V.ents.length c)) 38)).alloc (.cells (recA R vr ve) 33)).alloc (.cells (vwA Vw.zero (.slice none 0 0)) 38)) _
 rw [← hw0]
 refine (place_ok V A c R.key _ U.out.vin HK.out.1).mono ?_
 rintro e w1 ⟨rfl,hf1⟩
 have U1:=hid_ (U.out.keep hf1)
 clear hf1 U hw0
 have r0:w1.cell? ⟨w.heap.size+1,0,none⟩=some (.int .i64 R.kind):=U1.out.br.cell' rfl
 have r12:w1.cell? ⟨w.heap.size+1,12,none⟩=some (.string R.hkey):=U1.out.br.cell' rfl
 have v0:w1.cell? ⟨w.heap.size,0,none⟩=some (.string V.low):=U1.out.bv.cell' rfl
 have v1:w1.cell? ⟨w.heap.size,1,none⟩=some (.string V.high):=U1.out.bv.cell' rfl
 have v2:w1.cell? ⟨w.heap.size,2,none⟩=some (.bool V.unb):=U1.out.bv.cell' rfl
 have v3:w1.cell? ⟨w.heap.size,3,none⟩=some (.int .i64 V.right):=U1.out.bv.cell' rfl
 have v4:w1.cell? ⟨w.heap.size,4,none⟩=some (.slice A V.ents.length c):=U1.out.bv.cell' rfl
 have v5:w1.cell? ⟨w.heap.size,5,none⟩=some (.bool V.held):=U1.out.bv.cell' rfl
 have v6:w1.cell? ⟨w.heap.size,6,none⟩=some (.int .i64 V.hp):=U1.out.bv.cell' rfl
 have v7:w1.cell? ⟨w.heap.size,7,none⟩=some (.int .i64 V.hl):=U1.out.bv.cell' rfl
 have v8:w1.cell? ⟨w.heap.size,8,none⟩=some (.string V.hk):=U1.out.bv.cell' rfl
 rw [H_h10.out] at r0
 rw [H_hh.out] at v5
 go_wp2_with fail
 refine (place_ok { V with held:=false } A c R.hkey _ ⟨U1.out.vin.rd,U1.out.vin.cap,U1.out.vin.capm,⟨OK.out.low,OK.out.high,OK.out.hk,OK.out.ents⟩⟩ HK.out.2).mono ?_
 rintro e w2 ⟨rfl,hf2⟩
 rw [show plN ({ V with held:=false }:Vw).ents R.hkey=m from HM.out.symm,show atB ({ V with held:=false }:Vw).ents R.hkey=true from HT.out]
 have U2:=hid_ (U1.out.keep hf2)
 clear hf2 r0 r12 v0 v1 v2 v3 v4 v5 v6 v7 v8
 go_upto_region 14 with fail
 obtain ⟨b,off,rfl,hb,c0,c1⟩:=et_at U2.out.vin.rd HP.out
 have v4:w2.cell? ⟨w.heap.size,4,none⟩=some (.slice (some ⟨b,off,none⟩) V.ents.length c):=U2.out.bv.cell' rfl
 have r10:w2.cell? ⟨w.heap.size+1,10,none⟩=some (.int .i64 R.hpage):=U2.out.br.cell' rfl
 have r11:w2.cell? ⟨w.heap.size+1,11,none⟩=some (.int .i64 R.hleft):=U2.out.br.cell' rfl
 obtain ⟨b2,off2,hA,hb2,d0,d1⟩:=et_at U2.out.vin.rd HQ.out
 obtain ⟨rfl,rfl⟩:b=b2∧off=off2:=by injection hA with hA;injection hA with e1 e2;exact ⟨e1,e2⟩
 clear hA
 go_quiet (fail)
 have U3:=hid_ (U2.out.keep ((Fr.refl none_ w2).drewN nq))
 clear v4 r10 r11 c0 c1
 clear d0 d1
 obtain ⟨w3,hw3⟩:∃ w3,w3=w2.drewN nq:=⟨_,rfl⟩
 have U4:Hid (UpSt w w3 V R (some ⟨b,off,none⟩) c vr ve):=hid_ (by rw [hw3];exact U3.out)
 rw [← hw3]
 clear hw3 U3
 have v5:w3.cell? ⟨w.heap.size,5,none⟩=some (.bool V.held):=U4.out.bv.cell' rfl
 have z5:=U4.out.bv.frozen 5
 have v6:w3.cell? ⟨w.heap.size,6,none⟩=some (.int .i64 V.hp):=U4.out.bv.cell' rfl
 have z6:=U4.out.bv.frozen 6
 have v7:w3.cell? ⟨w.heap.size,7,none⟩=some (.int .i64 V.hl):=U4.out.bv.cell' rfl
 have z7:=U4.out.bv.frozen 7
 have v8:w3.cell? ⟨w.heap.size,8,none⟩=some (.string V.hk):=U4.out.bv.cell' rfl
 have z8:=U4.out.bv.frozen 8
 have r10:w3.cell? ⟨w.heap.size+1,10,none⟩=some (.int .i64 R.hpage):=U4.out.br.cell' rfl
 have r11:w3.cell? ⟨w.heap.size+1,11,none⟩=some (.int .i64 R.hleft):=U4.out.br.cell' rfl
 have r12:w3.cell? ⟨w.heap.size+1,12,none⟩=some (.string R.hkey):=U4.out.br.cell' rfl
 rw [H_hh.out] at v5
 go_wp2_with fail
 go_region
 clear v5 v6 v7 v8 z5 z6 z7 z8 r10 r11 r12
 obtain ⟨w4,hw4⟩:∃ w4,w4=((((w3.setCell ⟨w.heap.size,5,none⟩ (.bool true)).setCell ⟨w.heap.size,6,none⟩ (.int .i64 R.hpage)).setCell ⟨w.heap.size,7,none⟩ (.int .i64 R.hleft)).setCell ⟨w.heap.size,8,none⟩ (.string R.hkey)).drew:=⟨_,rfl⟩
 have BV4:Hid (Blk w4 w.heap.size 38 (vwA { V with held:=true,hp:=R.hpage,hl:=R.hleft,hk:=R.hkey } (.slice (some ⟨b,off,none⟩) V.ents.length c))):=hid_ (by rw [hw4];exact ((((U4.out.bv.set_ 5 (.bool true)).set_ 6 (.int .i64 R.hpage)).set_ 7 (.int .i64 R.hleft)).set_ 8 (.string R.hkey)).drew)
 have f4:Fr (only w.heap.size) w3 w4:=by rw [hw4];exact (((((Fr.refl (only w.heap.size) w3).setCell (p:=⟨w.heap.size,5,none⟩) (.inl (Eq.refl _)) _).setCell (p:=⟨w.heap.size,6,none⟩) (.inl (Eq.refl _)) _).setCell (p:=⟨w.heap.size,7,none⟩) (.inl (Eq.refl _)) _).setCell (p:=⟨w.heap.size,8,none⟩) (.inl (Eq.refl _)) _).drew
 have BO4:=hid_ (U4.out.bo.fr f4 (only_ne (by omega)))
 have F4:=hid_ (U4.out.fr.then_only f4 (.inr (Nat.le_refl _)))
 have hbw:b < w.heap.size:=OLD.out (by omega) _ rfl
 have RD4:=hid_ (U4.out.vin.rd.fr f4 (by intro ad e;cases e;exact only_ne (show b≠_ by omega)))
 rw [← hw4]
 clear hw4 f4
 have v0:w4.cell? ⟨w.heap.size,0,none⟩=some (.string V.low):=BV4.out.cell' rfl
 have v1:w4.cell? ⟨w.heap.size,1,none⟩=some (.string V.high):=BV4.out.cell' rfl
 have v2:w4.cell? ⟨w.heap.size,2,none⟩=some (.bool V.unb):=BV4.out.cell' rfl
 have v3:w4.cell? ⟨w.heap.size,3,none⟩=some (.int .i64 V.right):=BV4.out.cell' rfl
 have v4:w4.cell? ⟨w.heap.size,4,none⟩=some (.slice (some ⟨b,off,none⟩) V.ents.length c):=BV4.out.cell' rfl
 have v5:w4.cell? ⟨w.heap.size,5,none⟩=some (.bool true):=BV4.out.cell' rfl
 have v6:w4.cell? ⟨w.heap.size,6,none⟩=some (.int .i64 R.hpage):=BV4.out.cell' rfl
 have v7:w4.cell? ⟨w.heap.size,7,none⟩=some (.int .i64 R.hleft):=BV4.out.cell' rfl
 have v8:w4.cell? ⟨w.heap.size,8,none⟩=some (.string R.hkey):=BV4.out.cell' rfl
 have s0:w4.cell? ⟨w.heap.size+1+1,0,none⟩=some (.string nilS):=BO4.out.cell' rfl
 have z0:=BO4.out.frozen 0
 have s1:w4.cell? ⟨w.heap.size+1+1,1,none⟩=some (.string nilS):=BO4.out.cell' rfl
 have z1:=BO4.out.frozen 1
 have s2:w4.cell? ⟨w.heap.size+1+1,2,none⟩=some (.bool false):=BO4.out.cell' rfl
 have z2:=BO4.out.frozen 2
 have s3:w4.cell? ⟨w.heap.size+1+1,3,none⟩=some (.int .i64 0):=BO4.out.cell' rfl
 have z3:=BO4.out.frozen 3
 have s4:w4.cell? ⟨w.heap.size+1+1,4,none⟩=some (.slice none 0 0):=BO4.out.cell' rfl
 have z4:=BO4.out.frozen 4
 have s5:w4.cell? ⟨w.heap.size+1+1,5,none⟩=some (.bool false):=BO4.out.cell' rfl
 have z5:=BO4.out.frozen 5
 have s6:w4.cell? ⟨w.heap.size+1+1,6,none⟩=some (.int .i64 0):=BO4.out.cell' rfl
 have z6:=BO4.out.frozen 6
 have s7:w4.cell? ⟨w.heap.size+1+1,7,none⟩=some (.int .i64 0):=BO4.out.cell' rfl
 have z7:=BO4.out.frozen 7
 have s8:w4.cell? ⟨w.heap.size+1+1,8,none⟩=some (.string nilS):=BO4.out.cell' rfl
 have z8:=BO4.out.frozen 8
 go_wp2_with fail
 clear v0 s0 z0 v1 s1 z1 v2 s2 z2 v3 s3 z3 v4 s4 z4 v5 s5 z5 v6 s6 z6 v7 s7 z7 v8 s8 z8
 obtain ⟨qb,qf⟩:=box9 BO4.out (.string V.low) (.string V.high) (.bool V.unb) (.int .i64 V.right) (.slice (some ⟨b,off,none⟩) V.ents.length c) (.bool true) (.int .i64 R.hpage) (.int .i64 R.hleft) (.string R.hkey)
 have q0:=qb.cell' (i:=0) rfl
 have q1:=qb.cell' (i:=1) rfl
 have q2:=qb.cell' (i:=2) rfl
 have q3:=qb.cell' (i:=3) rfl
 have q4:=qb.cell' (i:=4) rfl
 have q5:=qb.cell' (i:=5) rfl
 have q6:=qb.cell' (i:=6) rfl
 have q7:=qb.cell' (i:=7) rfl
 have q8:=qb.cell' (i:=8) rfl
 refine bodyPost_ret (v:=.tuple #[vwV { V with held:=true,hp:=R.hpage,hl:=R.hleft,hk:=R.hkey } (.slice (some ⟨b,off,none⟩) V.ents.length c),.bool true]) ?_ rfl (.inl ⟨_,some ⟨b,off,none⟩,c,HUP.out,rfl,⟨RD4.out.fr qf (by intro ad e;cases e;exact only_ne (show b≠_ by omega)),CAP.out.1,CAP.out.2,⟨OK.out.low,OK.out.high,HK.out.2,OK.out.ents⟩⟩,fun b0 hb ho=>own_fr (own_none ho F4.out) qf (fun k hk e=>own_blk_ne (own_none ho F4.out) BO4.out (by decide) (by rw [hk,show k=w.heap.size+1+1 from e])),F4.out.then_only qf (.inr (by omega))⟩)
 simp [results,Tryz.results70,go_sem,q0,q1,q2,q3,q4,q5,q6,q7,q8]
theorem up_okO (V:Vw) (R:Rc) (A:Option Addr) (c:Nat) (vr ve:Value) (w:World) (h:VwIn w V A c) (hl:V.ents.length < 1000) (hk:SzOk R.key∧SzOk R.hkey) (hh:V.held=true→plN V.ents V.hk < V.ents.length) :
    Calls Tryz.prog 70 #[vwV V (.slice A V.ents.length c),recV R vr ve] w (UpPostO V R A c w):=by
  cases hd:V.held with
  | true =>
    by_cases h11:R.kind=11
    · exact up_dropO V R A c vr ve w h hl hk h11 hd (hh hd)
    · exact up_noO (up_noe1 V R A c vr ve w h hl hk hd h11) (by unfold upM;simp [hd,h11])
  | false =>
    by_cases h8:R.kind=8
    · cases hat:atB V.ents R.key with
      | true=>exact up_noO (up_no8a V R A c vr ve w h hl hk h8 hd hat) (by unfold upM;simp [h8,hd,hat])
      | false =>
        cases hin:inS V.low V.high V.unb R.key with
        | true=>exact up_putO V R A c vr ve w h hl hk h8 hd hat hin
        | false=>exact up_noO (up_no8b V R A c vr ve w h hl hk h8 hd hat hin) (by unfold upM;simp [h8,hd,hat,hin])
    by_cases h9:R.kind=9
    · cases hat:atB V.ents R.key with
      | true =>
        by_cases hn:plN V.ents R.key=0
        · exact up_noO (up_no9b V R A c vr ve w h hl hk h9 hd hat hn) (by unfold upM;simp [h9,hd,hat,hn])
        · exact up_cutO V R A c vr ve w h hl hk h9 hd hat hn
      | false=>exact up_noO (up_no9a V R A c vr ve w h hl hk h9 hd hat) (by unfold upM;simp [h9,hd,hat])
    by_cases h10:R.kind=10
    · cases hat:atB V.ents R.hkey with
      | true =>
        by_cases hn:plN V.ents R.hkey=0
        · exact up_noO (up_no10b V R A c vr ve w h hl hk h10 hd hat hn) (by unfold upM;simp [h10,hd,hat,hn])
        · have hlt:=atB_lt hat
          obtain ⟨p,hp⟩:∃ p,V.ents[plN V.ents R.hkey]?=some p:=⟨_,List.getElem?_eq_getElem hlt⟩
          obtain ⟨q,hq⟩:∃ q,V.ents[plN V.ents R.hkey - 1]?=some q:=⟨_,List.getElem?_eq_getElem (by omega)⟩
          by_cases hpp:p.2=R.hpage
          · by_cases hqq:q.2=R.hleft
            · exact up_holdO V R A c vr ve w h hl hk h10 hd hat hn p q hp hpp hq hqq
            · exact up_noO (up_no10d V R A c vr ve w h hl hk h10 hd hat hn p q hp hpp hq hqq) (by unfold upM;simp [h10,hd,hat,hn,hp,hpp,hq,hqq])
          · exact up_noO (up_no10c V R A c vr ve w h hl hk h10 hd hat hn p hp hpp) (by unfold upM;simp [h10,hd,hat,hn,hp,hpp])
      | false=>exact up_noO (up_no10a V R A c vr ve w h hl hk h10 hd hat) (by unfold upM;simp [h10,hd,hat])
    · exact up_noO (up_noe2 V R A c vr ve w h hl hk hd h8 h9 h10) (by unfold upM;simp [hd,h8,h9,h10])
end Go.Proofs.YtfihfjbakfadkaaGreatDoor
