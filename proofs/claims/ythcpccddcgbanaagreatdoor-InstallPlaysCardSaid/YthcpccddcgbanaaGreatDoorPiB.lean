/- Texts of one proof, merged: Clone. -/
import Derived.Test.YthcpccddcgbanaaGreatDoorPiA
namespace Go.Proofs.YthcpccddcgbanaaGreatDoor
open Go.RowKit
set_option maxRecDepth 100000
set_option linter.unusedVariables false

structure RecReads (w:World) (R:Rc) (A B:Option Addr):Prop where
  r:Reads w 2 A R.rows.length (rwFlat R.rows)
  e:Reads w 2 B R.ents.length (etFlat R.ents)
theorem RecReads.keep {w w':World} {R:Rc} {A B:Option Addr} (h:RecReads w R A B) (hf:Fr none_ w w'):RecReads w' R A B:=⟨h.r.none_fr hf,h.e.none_fr hf⟩
theorem RecOwn.reads {w:World} {base:Nat} {R:Rc} {A B:Option Addr} {c d:Nat} (h:RecOwn w base R (.slice A R.rows.length c) (.slice B R.ents.length d)):RecReads w R A B:=⟨Reads.of_own h.r,Reads.of_own h.e⟩
theorem RecOwn.shape {w:World} {base:Nat} {R:Rc} {vr ve:Value} (h:RecOwn w base R vr ve):∃ A c B d,vr=.slice A R.rows.length c∧ve=.slice B R.ents.length d:=by
  obtain ⟨A,c,e1⟩:=h.r.shape
  obtain ⟨B,d,e2⟩:=h.e.shape
  exact ⟨A,c,B,d,e1,e2⟩

structure CloneA (w w3:World) (R:Rc) (vr ve v1:Value) (A B:Option Addr):Prop where
  f3:Fr none_ w w3
  o1:w3.ownsRow w.heap.size 170 2 v1 R.rows.length (rwFlat R.rows)
  k0:Blk w3 w.heap.size 55 (recA R vr ve)
  k1:Blk w3 (w.heap.size+1) 55 (recA Rc.zero (.slice none 0 0) (.slice none 0 0))
  rd:RecReads w3 R A B
theorem clone_packA {w w3:World} {R:Rc} {vr ve:Value} {A B A1:Option Addr} {c1:Nat} (h:RecReads w R A B) (hown:w3.ownsRow w.heap.size 170 2 (.slice A1 (0+R.rows.length) c1) (0+R.rows.length) ([] ++ rwFlat R.rows))
    (hgr:(((w.alloc (recB R vr ve)).alloc (recB Rc.zero (.slice none 0 0) (.slice none 0 0))).alloc (.cells #[] 170)).grownBy w3 (Value.slice (some ⟨w.heap.size+1+1,0,none⟩) 0 0).ownBlock):CloneA w w3 R vr ve (.slice A1 R.rows.length c1) A B:=by
  simp only [Nat.zero_add,List.nil_append] at hown
  have F3:Fr none_ ((w.alloc (recB R vr ve)).alloc (recB Rc.zero (.slice none 0 0) (.slice none 0 0))) w3:=((Fr.refl none_ _).alloc (.cells #[] 170)).grown hgr (fun k hk=>.inr (by
    have:w.heap.size+1+1=k:=by simpa [Value.ownBlock] using hk
    simp only [World.size_alloc]
    omega))
  have k1:=(Blk.new (w.alloc (recB R vr ve)) 55 (recA Rc.zero (.slice none 0 0) (.slice none 0 0))).fr F3 id
  rw [World.size_alloc] at k1
  have f:=(((Fr.refl none_ w).alloc (recB R vr ve)).alloc (recB Rc.zero (.slice none 0 0) (.slice none 0 0))).then_none F3
  exact ⟨f,hown,((Blk.new w _ _).alloc _).fr F3 id,k1,h.keep f⟩
structure CloneB (w w5:World) (R:Rc) (ve v1 v2:Value):Prop where
  f5:Fr none_ w w5
  o1:w5.ownsRow w.heap.size 170 2 v1 R.rows.length (rwFlat R.rows)
  o2:w5.ownsRow w.heap.size 172 2 v2 R.ents.length (etFlat R.ents)
  k0:Blk w5 w.heap.size 55 (recA R v1 ve)
  k1:Blk w5 (w.heap.size+1) 55 (recA Rc.zero (.slice none 0 0) (.slice none 0 0))
theorem clone_packB {w w3 w5:World} {R:Rc} {vr ve v1:Value} {A B A2:Option Addr} {c2:Nat} (h:CloneA w w3 R vr ve v1 A B) (hown:w5.ownsRow w.heap.size 172 2 (.slice A2 (0+R.ents.length) c2) (0+R.ents.length) ([] ++ etFlat R.ents))
    (hgr:((w3.setCell ⟨w.heap.size,5,none⟩ v1).alloc (.cells #[] 172)).grownBy w5 (Value.slice (some ⟨w3.heap.size,0,none⟩) 0 0).ownBlock):CloneB w w5 R ve v1 (.slice A2 R.ents.length c2):=by
  simp only [Nat.zero_add,List.nil_append] at hown
  have F1:=Fr.only1 w3 ⟨w.heap.size,5,none⟩ v1
  have hs:(w3.setCell ⟨w.heap.size,5,none⟩ v1).heap.size=w3.heap.size:=by simp
  have F5:Fr none_ (w3.setCell ⟨w.heap.size,5,none⟩ v1) w5:=((Fr.refl none_ _).alloc (.cells #[] 172)).grown hgr (fun k hk=>.inr (by
    have:w3.heap.size=k:=by simpa [Value.ownBlock] using hk
    rw [hs]
    omega))
  exact ⟨(h.f3.then_only F1 (.inr (Nat.le_refl _))).then_none F5,own_none (own_fr h.o1 F1 (fun k hk e=>own_blk_ne h.o1 h.k0 (by decide) (by rw [hk,show k=w.heap.size from e]))) F5,hown,(h.k0.set_ 5 v1).fr F5 id,(h.k1.fr F1 (only_ne (by simp))).fr F5 id⟩
theorem Reads.old {w:World} {size n:Nat} {A:Option Addr} {xs:List Value} (h:Reads w size A n xs) (hs:0 < size) (hn:0 < n):∀ ad,A=some ad→ad.block < w.heap.size:=by
  intro ad e
  obtain ⟨ad',e',hc⟩:=h.2 hn
  rw [e] at e'
  cases e'
  have hl:0 < xs.length:=by rw [h.1];exact Nat.mul_pos hn hs
  have:=World.block_lt_of_cell? w _ (hc 0 xs[0] (List.getElem?_eq_getElem hl))
  rwa [block_of_add] at this

theorem CloneA.rd5 {w w3:World} {R:Rc} {vr ve v1:Value} {A B:Option Addr} (h:CloneA w w3 R vr ve v1 A B) (h0:RecReads w R A B):Reads ((w3.setCell ⟨w.heap.size,5,none⟩ v1).alloc (.cells #[] 172)) 2 B R.ents.length (etFlat R.ents):=by
  rcases Nat.eq_zero_or_pos R.ents.length with hz | hz
  · exact ⟨by rw [etFlat_len],fun hn=>by omega⟩
  · exact (h.rd.e.fr (Fr.only1 w3 ⟨w.heap.size,5,none⟩ v1) (fun ad e=>only_ne (by have:=h0.e.old (by omega) hz ad e;show ad.block≠w.heap.size;omega))).alloc _
def ClonePost (R:Rc) (w:World) (e:Ending) (w':World):Prop:=
  ∃ A c B d,e=.returned (recV R (.slice A R.rows.length c) (.slice B R.ents.length d))∧RecOwn w' w.heap.size R (.slice A R.rows.length c) (.slice B R.ents.length d)∧Fr none_ w w'
set_option maxHeartbeats 2000000 in
theorem clone_ok (R:Rc) (A:Option Addr) (c:Nat) (B:Option Addr) (d:Nat) (w:World) (h:RecReads w R A B) (hr:R.rows.length≤1000) (he:R.ents.length≤1000) :
  Calls Tryz.prog 39 #[recV R (.slice A R.rows.length c) (.slice B R.ents.length d)] w (ClonePost R w):=by
 obtain ⟨i0,hi0,hz0,hs0,hb0⟩:=info_parts row_info
 obtain ⟨j0,hj0,hy0,ht0,hc0⟩:=info_parts entry_info
 have Hi:=hid_ (And.intro hi0 (And.intro hz0 (And.intro hs0 hb0)))
 have Hj:=hid_ (And.intro hj0 (And.intro hy0 (And.intro ht0 hc0)))
 have H:=hid_ h
 clear hi0 hz0 hs0 hb0 hj0 hy0 ht0 hc0 h
 go_enter Tryz.func39,Tryz.ntmps39
 go_wp2_with (first
  | (at_builtin;refine wpList_append_any _ rfl (.tmp 3) (.tmp 5) 50 rfl w.heap.size 170 i0 _ 2 32 Tryz.underlying50 Hi.out.1 Hi.out.2.1 Hi.out.2.2.1 Hi.out.2.2.2 rfl (by omega) (.slice (some ⟨w.heap.size+1+1,0,none⟩) 0 0) 0 [] rfl (own_empty_at _ _ _ _ _ (by simp;omega) (by simp)) A R.rows.length c (rwFlat R.rows) rfl (((H.out.r.alloc _).alloc _).alloc _) (rwFlat_one _) (by simp only [maxLen];omega) (by omega) (by simp;omega) ?_;intro A1 c1 w3 hown3 hgr3;have hp:=clone_packA (vr:=.slice A R.rows.length c) (ve:=.slice B R.ents.length d) H.out hown3 hgr3;have HP:=hid_ hp;have e6:w3.cell? ⟨w.heap.size,6,none⟩=some (.slice B R.ents.length d):=hp.k0.cell' rfl;have e5:w3.cell? ⟨w.heap.size,5,none⟩=some (.slice A R.rows.length c):=hp.k0.cell' rfl;have f5:=hp.k0.frozen 5;have l3:=hp.k0.lt;clear hown3 hgr3 hp)
  | (at_builtin;refine wpList_append_any _ rfl (.tmp 8) (.tmp 10) 51 rfl w.heap.size 172 j0 _ 2 24 Tryz.underlying51 Hj.out.1 Hj.out.2.1 Hj.out.2.2.1 Hj.out.2.2.2 rfl (by omega) (.slice (some ⟨w3.heap.size,0,none⟩) 0 0) 0 [] rfl (own_empty_at _ _ _ _ _ (by simp;omega) (by simp)) B R.ents.length d (etFlat R.ents) rfl (HP.out.rd5 H.out) (etFlat_one _) (by simp only [maxLen];omega) (by omega) (by simp;omega) ?_;intro A2 c2 w5 hown5 hgr5;have hp:=clone_packB HP.out hown5 hgr5;have HQ:=hid_ hp;have r0:w5.cell? ⟨w.heap.size,0,none⟩=some (.int .i64 R.kind):=hp.k0.cell' rfl;have r1:w5.cell? ⟨w.heap.size,1,none⟩=some (.string R.low):=hp.k0.cell' rfl;have r2:w5.cell? ⟨w.heap.size,2,none⟩=some (.string R.high):=hp.k0.cell' rfl;have r3:w5.cell? ⟨w.heap.size,3,none⟩=some (.bool R.unb):=hp.k0.cell' rfl;have r4:w5.cell? ⟨w.heap.size,4,none⟩=some (.int .i64 R.right):=hp.k0.cell' rfl;have r5:w5.cell? ⟨w.heap.size,5,none⟩=some (.slice A1 R.rows.length c1):=hp.k0.cell' rfl;have r6:w5.cell? ⟨w.heap.size,6,none⟩=some (.slice B R.ents.length d):=hp.k0.cell' rfl;have r7:w5.cell? ⟨w.heap.size,7,none⟩=some (.string R.key):=hp.k0.cell' rfl;have r8:w5.cell? ⟨w.heap.size,8,none⟩=some (.string R.val):=hp.k0.cell' rfl;have r9:w5.cell? ⟨w.heap.size,9,none⟩=some (.int .i64 R.page):=hp.k0.cell' rfl;have r10:w5.cell? ⟨w.heap.size,10,none⟩=some (.int .i64 R.hpage):=hp.k0.cell' rfl;have r11:w5.cell? ⟨w.heap.size,11,none⟩=some (.int .i64 R.hleft):=hp.k0.cell' rfl;have r12:w5.cell? ⟨w.heap.size,12,none⟩=some (.string R.hkey):=hp.k0.cell' rfl;have r13:w5.cell? ⟨w.heap.size,13,none⟩=some (.int .i64 R.nslot):=hp.k0.cell' rfl;have r14:w5.cell? ⟨w.heap.size,14,none⟩=some (.int .i64 R.ngen):=hp.k0.cell' rfl;have fr6:=hp.k0.frozen 6;have s0:w5.cell? ⟨w.heap.size+1,0,none⟩=some (.int .i64 0):=hp.k1.cell' rfl;have s1:w5.cell? ⟨w.heap.size+1,1,none⟩=some (.string nilS):=hp.k1.cell' rfl;have s2:w5.cell? ⟨w.heap.size+1,2,none⟩=some (.string nilS):=hp.k1.cell' rfl;have s3:w5.cell? ⟨w.heap.size+1,3,none⟩=some (.bool false):=hp.k1.cell' rfl;have s4:w5.cell? ⟨w.heap.size+1,4,none⟩=some (.int .i64 0):=hp.k1.cell' rfl;have s5:w5.cell? ⟨w.heap.size+1,5,none⟩=some (.slice none 0 0):=hp.k1.cell' rfl;have s6:w5.cell? ⟨w.heap.size+1,6,none⟩=some (.slice none 0 0):=hp.k1.cell' rfl;have s7:w5.cell? ⟨w.heap.size+1,7,none⟩=some (.string nilS):=hp.k1.cell' rfl;have s8:w5.cell? ⟨w.heap.size+1,8,none⟩=some (.string nilS):=hp.k1.cell' rfl;have s9:w5.cell? ⟨w.heap.size+1,9,none⟩=some (.int .i64 0):=hp.k1.cell' rfl;have s10:w5.cell? ⟨w.heap.size+1,10,none⟩=some (.int .i64 0):=hp.k1.cell' rfl;have s11:w5.cell? ⟨w.heap.size+1,11,none⟩=some (.int .i64 0):=hp.k1.cell' rfl;have s12:w5.cell? ⟨w.heap.size+1,12,none⟩=some (.string nilS):=hp.k1.cell' rfl;have s13:w5.cell? ⟨w.heap.size+1,13,none⟩=some (.int .i64 0):=hp.k1.cell' rfl;have s14:w5.cell? ⟨w.heap.size+1,14,none⟩=some (.int .i64 0):=hp.k1.cell' rfl;have z0:=hp.k1.frozen 0;have z1:=hp.k1.frozen 1;have z2:=hp.k1.frozen 2;have z3:=hp.k1.frozen 3;have z4:=hp.k1.frozen 4;have z5:=hp.k1.frozen 5;have z6:=hp.k1.frozen 6;have z7:=hp.k1.frozen 7;have z8:=hp.k1.frozen 8;have z9:=hp.k1.frozen 9;have z10:=hp.k1.frozen 10;have z11:=hp.k1.frozen 11;have z12:=hp.k1.frozen 12;have z13:=hp.k1.frozen 13;have z14:=hp.k1.frozen 14;clear hown5 hgr5 hp))
 clear r0 s0 z0 r1 s1 z1 r2 s2 z2 r3 s3 z3 r4 s4 z4 r5 s5 z5 r6 s6 z6 r7 s7 z7 r8 s8 z8 r9 s9 z9 r10 s10 z10 r11 s11 z11 r12 s12 z12 r13 s13 z13 r14 s14 z14 fr6 e5 e6 f5
 have F6:=Fr.only1 w5 ⟨w.heap.size,6,none⟩ (.slice A2 R.ents.length c2)
 have K1:=HQ.out.k1.fr F6 (only_ne (by simp))
 obtain ⟨qb,qf⟩:=box15 K1 (.int .i64 R.kind) (.string R.low) (.string R.high) (.bool R.unb) (.int .i64 R.right) (.slice A1 R.rows.length c1) (.slice A2 R.ents.length c2) (.string R.key) (.string R.val) (.int .i64 R.page) (.int .i64 R.hpage) (.int .i64 R.hleft) (.string R.hkey) (.int .i64 R.nslot) (.int .i64 R.ngen)
 have q0:=qb.cell' (i:=0) rfl
 have q1:=qb.cell' (i:=1) rfl
 have q2:=qb.cell' (i:=2) rfl
 have q3:=qb.cell' (i:=3) rfl
 have q4:=qb.cell' (i:=4) rfl
 have q5:=qb.cell' (i:=5) rfl
 have q6:=qb.cell' (i:=6) rfl
 have q7:=qb.cell' (i:=7) rfl
 have q8:=qb.cell' (i:=8) rfl
 have q9:=qb.cell' (i:=9) rfl
 have q10:=qb.cell' (i:=10) rfl
 have q11:=qb.cell' (i:=11) rfl
 have q12:=qb.cell' (i:=12) rfl
 have q13:=qb.cell' (i:=13) rfl
 have q14:=qb.cell' (i:=14) rfl
 have O1:=own_fr (own_fr HQ.out.o1 F6 (fun k hk e=>own_blk_ne HQ.out.o1 HQ.out.k0 (by decide) (by rw [hk,show k=w.heap.size from e]))) qf (fun k hk e=>own_blk_ne HQ.out.o1 HQ.out.k1 (by decide) (by rw [hk,show k=w.heap.size+1 from e]))
 have O2:=own_fr (own_fr HQ.out.o2 F6 (fun k hk e=>own_blk_ne HQ.out.o2 HQ.out.k0 (by decide) (by rw [hk,show k=w.heap.size from e]))) qf (fun k hk e=>own_blk_ne HQ.out.o2 HQ.out.k1 (by decide) (by rw [hk,show k=w.heap.size+1 from e]))
 have G:=(HQ.out.f5.then_only F6 (.inr (Nat.le_refl _))).then_only qf (.inr (by omega))
 clear K1 F6 qb qf
 refine bodyPost_ret (v:=recV R (.slice A1 R.rows.length c1) (.slice A2 R.ents.length c2)) ?_ rfl ⟨A1,c1,A2,c2,rfl,⟨O1,O2⟩,G⟩
 simp [results,Tryz.results39,go_sem,q0,q1,q2,q3,q4,q5,q6,q7,q8,q9,q10,q11,q12,q13,q14]
end Go.Proofs.YthcpccddcgbanaaGreatDoor
