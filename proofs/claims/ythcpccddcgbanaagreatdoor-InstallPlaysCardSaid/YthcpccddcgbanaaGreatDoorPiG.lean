/- Texts of one proof, merged: Alloc, Liv, Re10, SimA10. -/
import Derived.Deep.MidRow
import Derived.Test.YthcpccddcgbanaaGreatDoorPiC
import Derived.Test.YthcpccddcgbanaaGreatDoorPiF
namespace Go.Proofs.YthcpccddcgbanaaGreatDoor
set_option maxRecDepth 100000
set_option linter.unusedVariables false
open Go.RowKit

theorem Ar.there {w:World} {a G:Nat} {last:Int} {ss:List Sl} (h:Ar w a G last ss) {i:Nat} (hi:i < ss.length) {o n:Nat} (ho:i * 17≤o) (hn:o+n≤i * 17+17):w.there G o n:=by
  obtain ⟨cs,hG,hc⟩:=h.hG
  intro j hj
  refine ⟨?_,hG.frozen _⟩
  rw [hG.cell,Array.getElem?_eq_getElem (by rw [hc.1];omega)]
  rfl
theorem slot_size:(Tryz.prog.info? 147).map (·.size)=some 17:=by kernel_rfl
theorem rec_size:(Tryz.prog.info? 55).map (·.size)=some 15:=by kernel_rfl
theorem box2 {w1:World} {b:Nat} {t:TypeId} {c0 c1:Value} (h:Blk w1 b t #[c0,c1]) (x0 x1:Value):Blk ((w1.setCell ⟨b,0,none⟩ x0).setCell ⟨b,1,none⟩ x1) b t #[x0,x1]∧Fr (only b) w1 ((w1.setCell ⟨b,0,none⟩ x0).setCell ⟨b,1,none⟩ x1):=
  ⟨(h.set_ 0 x0).set_ 1 x1,((Fr.refl (only b) w1).setCell (p:=⟨b,0,none⟩) (.inl (Eq.refl _)) x0).setCell (p:=⟨b,1,none⟩) (.inl (Eq.refl _)) x1⟩

def allocErr (ss:List Sl):Int:=if ss.all (·.used) then 3 else 5
theorem allocErr_used {ss:List Sl} {k:Nat} {s:Sl} (hs:ss[k]?=some s) (hu:s.used=true):allocErr (ss.take (k+1))=allocErr (ss.take k):=by
  unfold allocErr
  rw [List.take_add_one,hs]
  simp [hu]
theorem allocErr_worn {ss:List Sl} {k:Nat} {s:Sl} (hs:ss[k]?=some s) (hu:s.used=false):allocErr (ss.take (k+1))=5:=by
  unfold allocErr
  rw [List.take_add_one,hs]
  simp [hu]
def AllocPost (w:World) (a G:Nat) (last:Int) (ss:List Sl) (R:Rc) (e:Ending) (w':World):Prop:=
  (∃ (i:Nat) (s:Sl) (vr ve:Value),ss[i]?=some s∧(s.used=false∧s.gen≠last)∧(∀ j t,j < i→ss[j]?=some t→t.used=true∨t.gen=last)∧e=.returned (.tuple #[.agg #[.int .i64 ((i:Int)+1),.int .i64 (s.gen+1)],.nilIface])∧Ar w' a G last (ss.set i ⟨s.gen+1,true,R,vr,ve⟩)∧RecOwn w' w.heap.size R vr ve∧Fr (only G) w w') ∨
  ((∀ (j:Nat) t,ss[j]?=some t→t.used=true∨t.gen=last)∧e=.returned (.tuple #[.agg #[.int .i64 0,.int .i64 0],errV (allocErr ss)])∧Fr none_ w w')

set_option maxHeartbeats 4000000 in
theorem alloc_ok (R:Rc) (A:Option Addr) (c:Nat) (B:Option Addr) (d:Nat) (w:World) (a G:Nat) (last:Int) (ss:List Sl) (h:Ar w a G last ss) (hr:RecReads w R A B) (hz:R.rows.length≤1000∧R.ents.length≤1000) :
  Calls Tryz.prog 28 #[.pointer (some ⟨a,0,none⟩),recV R (.slice A R.rows.length c) (.slice B R.ents.length d)] w (AllocPost w a G last ss R):=by
 have hlen:=h.len
 have hl40:=h.l40
 obtain ⟨w0,hw0⟩:∃ w0,w0=(w.alloc (recB R (.slice A R.rows.length c) (.slice B R.ents.length d))).alloc (.cells #[.int .i64 0,.int .i64 0] 48):=⟨_,rfl⟩
 have f0:Fr none_ w w0:=by rw [hw0];exact ((Fr.refl none_ w).alloc _).alloc _
 have F0:=hid_ f0
 have X0:=hid_ (h.keep f0)
 have R0:=hid_ (hr.keep f0)
 have P0:Hid (Blk w0 w.heap.size 55 (recA R (.slice A R.rows.length c) (.slice B R.ents.length d))):=hid_ (by rw [hw0];exact (Blk.new w _ _).alloc _)
 have Q0:Hid (Blk w0 (w.heap.size+1) 48 #[.int .i64 0,.int .i64 0]):=hid_ (by have:=Blk.new (w.alloc (recB R (.slice A R.rows.length c) (.slice B R.ents.length d))) 48 #[.int .i64 0,.int .i64 0];rw [World.size_alloc] at this;rw [hw0];exact this)
 have hltA:=h.ltA
 have hltG:=h.ltG
 have lA:a < w.heap.size+1:=by omega
 have lA2:a < w.heap.size+1+1:=by omega
 have c0:w.cell? ⟨a,0,none⟩=some (.slice (some ⟨G,0,none⟩) ss.length ss.length):=h.hA.cell' rfl
 clear f0 h hr
 go_enter Tryz.func28,Tryz.ntmps28
 go_wp2_with fail
 change Code.wp _ _ _ _ ((w.alloc (recB R (.slice A R.rows.length c) (.slice B R.ents.length d))).alloc (.cells #[.int .i64 0,.int .i64 0] 48))
 rw [← hw0]
 clear hw0 c0
 go_loopw [19,6] (fun i e wr=>∃ (k:Nat) (ek:Int),k≤ss.length∧i=.int .i64 k∧e=errV ek∧ek=allocErr (ss.take k)∧(∀ j t,j < k→ss[j]?=some t→t.used=true∨t.gen=last)∧Fr none_ w0 wr) (fun i _ _=>ss.length - (intOf i).toNat)
 case atStart=>exact ⟨0,3,Nat.zero_le _,rfl,rfl,by simp [allocErr],fun j t hj=>by omega,Fr.refl _ _⟩
 case round =>
  obtain ⟨k,ek,hk,rfl,rfl,hek,hno,hF⟩:=hrel
  have Hek:=hid_ hek
  have Hno:=hid_ hno
  have F:=hid_ (F0.out.then_none hF)
  have FL:=hid_ hF
  have X:=hid_ (X0.out.keep hF)
  have R1:=hid_ (R0.out.keep hF)
  have P:=hid_ (P0.out.fr hF id)
  have Q:=hid_ (Q0.out.fr hF id)
  clear hek hno hF
  by_cases hlt:k < ss.length
  ·obtain ⟨s,hs⟩:∃ s,ss[k]?=some s:=⟨_,List.getElem?_eq_getElem hlt⟩
   have hi0:(0:Int)≤(k:Int):=Int.natCast_nonneg _
   have hi1:(k:Int) < (ss.length:Int):=by omega
   have a0:wr.cell? ⟨a,0,none⟩=some (.slice (some ⟨G,0,none⟩) ss.length ss.length):=X.out.hA.cell' rfl
   have a1:wr.cell? ⟨a,1,none⟩=some (.int .i64 last):=X.out.hA.cell' rfl
   have g0:wr.cell? ⟨G,k * 17,none⟩=some (.int .i64 s.gen):=X.out.cell hs 0 rfl
   have Hs:=hid_ hs
   have hgl:=X.out.gen s (List.mem_of_getElem? hs)
   clear hs
   by_cases hu:s.used=true
   ·have g1:wr.cell? ⟨G,k * 17+1,none⟩=some (.bool true):=by rw [← hu];exact X.out.cell Hs.out 1 rfl
    go_wp2_with fail
    go_roundw
    case rel=>exact ⟨k+1,ek,by omega,by go_num,rfl,by rw [allocErr_used Hs.out hu];exact Hek.out,fun j t hj ht=>by
     rcases Nat.lt_succ_iff_lt_or_eq.1 hj with hj | rfl
     ·exact Hno.out j t hj ht
     ·obtain rfl:=Option.some.inj (Hs.out.symm.trans ht)
      exact .inl hu,FL.out⟩
    case measure=>simp [intOf];omega
   have hu:s.used=false:=by simpa using hu
   have g1:wr.cell? ⟨G,k * 17+1,none⟩=some (.bool false):=by rw [← hu];exact X.out.cell Hs.out 1 rfl
   by_cases hw:s.gen=last
   ·have hwb:(s.gen==last)=true:=by simpa using hw
    have Hw:=hid_ hw
    clear hw
    go_wp2_with fail
    go_quiet (fail)
    have FQ:=hid_ (FL.out.drewN nq)
    clear g0 g1 a0 a1
    go_wp2
    go_roundw
    case rel=>exact ⟨k+1,5,by omega,by go_num,rfl,by rw [allocErr_worn Hs.out hu],fun j t hj ht=>by
     rcases Nat.lt_succ_iff_lt_or_eq.1 hj with hj | rfl
     ·exact Hno.out j t hj ht
     ·obtain rfl:=Option.some.inj (Hs.out.symm.trans ht)
      exact .inr Hw.out,FQ.out⟩
    case measure=>simp [intOf];omega
   ·have hwb:(s.gen==last)=false:=by simpa using hw
    have Hw:=hid_ hw
    have hgt:s.gen < last:=by omega
    clear hw
    go_wp2_with fail
    go_quiet (fail)
    obtain ⟨wq,hwq⟩:∃ wq,wq=wr.drewN nq:=⟨_,rfl⟩
    rw [← hwq]
    have hfq:Fr none_ wr wq:=by rw [hwq];exact (Fr.refl none_ wr).drewN nq
    have XQ:=hid_ (X.out.keep hfq)
    have RQ:=hid_ (R1.out.keep hfq)
    have PQ:=hid_ (P.out.fr hfq id)
    have QQ:=hid_ (Q.out.fr hfq id)
    have FQ:=hid_ (F.out.then_none hfq)
    clear g0 g1 a0 a1 hwq hfq
    have hw:IntKind.i64.wrap (s.gen+1)=s.gen+1:=IntWalk.i64_in _ (by omega)
    go_wp2_with fail
    have hS0:(fun w':World=>w'.cell? ⟨G,k * 17,none⟩=some (.int .i64 s.gen)∧w'.cell? ⟨w.heap.size,0,none⟩=some (.int .i64 R.kind)∧w'.cell? ⟨w.heap.size,1,none⟩=some (.string R.low)∧w'.cell? ⟨w.heap.size,2,none⟩=some (.string R.high)∧w'.cell? ⟨w.heap.size,3,none⟩=some (.bool R.unb)∧w'.cell? ⟨w.heap.size,4,none⟩=some (.int .i64 R.right)∧w'.cell? ⟨w.heap.size,5,none⟩=some (.slice A R.rows.length c)∧w'.cell? ⟨w.heap.size,6,none⟩=some (.slice B R.ents.length d)∧w'.cell? ⟨w.heap.size,7,none⟩=some (.string R.key)∧w'.cell? ⟨w.heap.size,8,none⟩=some (.string R.val)∧w'.cell? ⟨w.heap.size,9,none⟩=some (.int .i64 R.page)∧w'.cell? ⟨w.heap.size,10,none⟩=some (.int .i64 R.hpage)∧w'.cell? ⟨w.heap.size,11,none⟩=some (.int .i64 R.hleft)∧w'.cell? ⟨w.heap.size,12,none⟩=some (.string R.hkey)∧w'.cell? ⟨w.heap.size,13,none⟩=some (.int .i64 R.nslot)∧w'.cell? ⟨w.heap.size,14,none⟩=some (.int .i64 R.ngen)) wq.drew:=⟨XQ.out.cell Hs.out 0 rfl,PQ.out.cell' rfl,PQ.out.cell' rfl,PQ.out.cell' rfl,PQ.out.cell' rfl,PQ.out.cell' rfl,PQ.out.cell' rfl,PQ.out.cell' rfl,PQ.out.cell' rfl,PQ.out.cell' rfl,PQ.out.cell' rfl,PQ.out.cell' rfl,PQ.out.cell' rfl,PQ.out.cell' rfl,PQ.out.cell' rfl,PQ.out.cell' rfl⟩
    refine wp_region_T (m:=10) (S:=fun w':World=>w'.cell? ⟨G,k * 17,none⟩=some (.int .i64 s.gen)∧w'.cell? ⟨w.heap.size,0,none⟩=some (.int .i64 R.kind)∧w'.cell? ⟨w.heap.size,1,none⟩=some (.string R.low)∧w'.cell? ⟨w.heap.size,2,none⟩=some (.string R.high)∧w'.cell? ⟨w.heap.size,3,none⟩=some (.bool R.unb)∧w'.cell? ⟨w.heap.size,4,none⟩=some (.int .i64 R.right)∧w'.cell? ⟨w.heap.size,5,none⟩=some (.slice A R.rows.length c)∧w'.cell? ⟨w.heap.size,6,none⟩=some (.slice B R.ents.length d)∧w'.cell? ⟨w.heap.size,7,none⟩=some (.string R.key)∧w'.cell? ⟨w.heap.size,8,none⟩=some (.string R.val)∧w'.cell? ⟨w.heap.size,9,none⟩=some (.int .i64 R.page)∧w'.cell? ⟨w.heap.size,10,none⟩=some (.int .i64 R.hpage)∧w'.cell? ⟨w.heap.size,11,none⟩=some (.int .i64 R.hleft)∧w'.cell? ⟨w.heap.size,12,none⟩=some (.string R.hkey)∧w'.cell? ⟨w.heap.size,13,none⟩=some (.int .i64 R.nslot)∧w'.cell? ⟨w.heap.size,14,none⟩=some (.int .i64 R.ngen)) (by kernel_rfl) ?_
    refine wpAnyT_take (i:=0) (v:=_) rfl (by kernel_rfl) (by kernel_rfl) (by kernel_rfl) (by kernel_rfl) (fun _ _ _ h=>h) (.inl ⟨by simp [Region.wanted],fun w' hS=>by obtain ⟨s0,s1,s2,s3,s4,s5,s6,s7,s8,s9,s10,s11,s12,s13,s14,s15⟩:=hS;go_simp;rfl⟩) hS0 ?_
    refine wpAnyT_take (i:=1) (v:=_) rfl (by kernel_rfl) (by kernel_rfl) (by kernel_rfl) (by kernel_rfl) (fun _ _ _ h=>h) (.inl ⟨by simp [Region.wanted],fun w' hS=>by obtain ⟨s0,s1,s2,s3,s4,s5,s6,s7,s8,s9,s10,s11,s12,s13,s14,s15⟩:=hS;go_simp;rfl⟩) hS0 ?_
    refine wpAnyT_take (i:=2) (v:=_) rfl (by kernel_rfl) (by kernel_rfl) (by kernel_rfl) (by kernel_rfl) (fun _ _ _ h=>h) (.inl ⟨by simp [Region.wanted],fun w' hS=>by obtain ⟨s0,s1,s2,s3,s4,s5,s6,s7,s8,s9,s10,s11,s12,s13,s14,s15⟩:=hS;go_simp;rfl⟩) hS0 ?_
    refine wpAnyT_take (i:=3) (v:=_) rfl (by kernel_rfl) (by kernel_rfl) (by kernel_rfl) (by kernel_rfl) (fun _ _ _ h=>h) (.inl ⟨by simp [Region.wanted],fun w' hS=>by obtain ⟨s0,s1,s2,s3,s4,s5,s6,s7,s8,s9,s10,s11,s12,s13,s14,s15⟩:=hS;go_simp;rfl⟩) hS0 ?_
    refine wpAnyT_take (i:=4) (v:=_) rfl (by kernel_rfl) (by kernel_rfl) (by kernel_rfl) (by kernel_rfl) (fun _ _ _ h=>h) (.inl ⟨by simp [Region.wanted],fun w' hS=>by obtain ⟨s0,s1,s2,s3,s4,s5,s6,s7,s8,s9,s10,s11,s12,s13,s14,s15⟩:=hS;go_simp;rfl⟩) hS0 ?_
    refine wpAnyT_take (i:=5) (v:=_) rfl (by kernel_rfl) (by kernel_rfl) (by kernel_rfl) (by kernel_rfl) (fun _ _ _ h=>h) (.inl ⟨by simp [Region.wanted],fun w' hS=>by obtain ⟨s0,s1,s2,s3,s4,s5,s6,s7,s8,s9,s10,s11,s12,s13,s14,s15⟩:=hS;go_simp;rfl⟩) hS0 ?_
    refine wpAnyT_take (i:=6) (v:=_) rfl (by kernel_rfl) (by kernel_rfl) (by kernel_rfl) (by kernel_rfl) (fun _ _ _ h=>h) (.inl ⟨by simp [Region.wanted],fun w' hS=>by obtain ⟨s0,s1,s2,s3,s4,s5,s6,s7,s8,s9,s10,s11,s12,s13,s14,s15⟩:=hS;go_simp;rfl⟩) hS0 ?_
    have s0:wq.drew.cell? ⟨G,k * 17,none⟩=some (.int .i64 s.gen):=XQ.out.cell Hs.out 0 rfl
    have s1:wq.drew.cell? ⟨w.heap.size,0,none⟩=some (.int .i64 R.kind):=PQ.out.cell' rfl
    have s2:wq.drew.cell? ⟨w.heap.size,1,none⟩=some (.string R.low):=PQ.out.cell' rfl
    have s3:wq.drew.cell? ⟨w.heap.size,2,none⟩=some (.string R.high):=PQ.out.cell' rfl
    have s4:wq.drew.cell? ⟨w.heap.size,3,none⟩=some (.bool R.unb):=PQ.out.cell' rfl
    have s5:wq.drew.cell? ⟨w.heap.size,4,none⟩=some (.int .i64 R.right):=PQ.out.cell' rfl
    have s6:wq.drew.cell? ⟨w.heap.size,5,none⟩=some (.slice A R.rows.length c):=PQ.out.cell' rfl
    have s7:wq.drew.cell? ⟨w.heap.size,6,none⟩=some (.slice B R.ents.length d):=PQ.out.cell' rfl
    have s8:wq.drew.cell? ⟨w.heap.size,7,none⟩=some (.string R.key):=PQ.out.cell' rfl
    have s9:wq.drew.cell? ⟨w.heap.size,8,none⟩=some (.string R.val):=PQ.out.cell' rfl
    have s10:wq.drew.cell? ⟨w.heap.size,9,none⟩=some (.int .i64 R.page):=PQ.out.cell' rfl
    have s11:wq.drew.cell? ⟨w.heap.size,10,none⟩=some (.int .i64 R.hpage):=PQ.out.cell' rfl
    have s12:wq.drew.cell? ⟨w.heap.size,11,none⟩=some (.int .i64 R.hleft):=PQ.out.cell' rfl
    have s13:wq.drew.cell? ⟨w.heap.size,12,none⟩=some (.string R.hkey):=PQ.out.cell' rfl
    have s14:wq.drew.cell? ⟨w.heap.size,13,none⟩=some (.int .i64 R.nslot):=PQ.out.cell' rfl
    have s15:wq.drew.cell? ⟨w.heap.size,14,none⟩=some (.int .i64 R.ngen):=PQ.out.cell' rfl
    clear hS0
    refine wpAnyT_one (i:=7) rfl rfl (by kernel_rfl) ?_
    go_simp
    go_at_call 39
    refine (clone_ok R A c B d _ (RQ.out.keep ((Fr.refl none_ wq).drew)) hz.1 hz.2).mono ?_
    rintro e w5 ⟨A5,c5,B5,d5,rfl,hown,hf5⟩
    have hf5:Fr none_ wq w5:=((Fr.refl none_ wq).drew).then_none hf5
    have O5:=hid_ hown
    have X5:=hid_ (XQ.out.keep hf5)
    have P5:=hid_ (PQ.out.fr hf5 id)
    have Q5:=hid_ (QQ.out.fr hf5 id)
    have F5:=hid_ (FQ.out.then_none hf5)
    clear hown hf5 s0 s1 s2 s3 s4 s5 s6 s7 s8 s9 s10 s11 s12 s13 s14 s15
    have s0:w5.cell? ⟨G,k * 17,none⟩=some (.int .i64 s.gen):=X5.out.cell Hs.out 0 rfl
    have s1:w5.cell? ⟨w.heap.size,0,none⟩=some (.int .i64 R.kind):=P5.out.cell' rfl
    have s2:w5.cell? ⟨w.heap.size,1,none⟩=some (.string R.low):=P5.out.cell' rfl
    have s3:w5.cell? ⟨w.heap.size,2,none⟩=some (.string R.high):=P5.out.cell' rfl
    have s4:w5.cell? ⟨w.heap.size,3,none⟩=some (.bool R.unb):=P5.out.cell' rfl
    have s5:w5.cell? ⟨w.heap.size,4,none⟩=some (.int .i64 R.right):=P5.out.cell' rfl
    have s6:w5.cell? ⟨w.heap.size,5,none⟩=some (.slice A R.rows.length c):=P5.out.cell' rfl
    have s7:w5.cell? ⟨w.heap.size,6,none⟩=some (.slice B R.ents.length d):=P5.out.cell' rfl
    have s8:w5.cell? ⟨w.heap.size,7,none⟩=some (.string R.key):=P5.out.cell' rfl
    have s9:w5.cell? ⟨w.heap.size,8,none⟩=some (.string R.val):=P5.out.cell' rfl
    have s10:w5.cell? ⟨w.heap.size,9,none⟩=some (.int .i64 R.page):=P5.out.cell' rfl
    have s11:w5.cell? ⟨w.heap.size,10,none⟩=some (.int .i64 R.hpage):=P5.out.cell' rfl
    have s12:w5.cell? ⟨w.heap.size,11,none⟩=some (.int .i64 R.hleft):=P5.out.cell' rfl
    have s13:w5.cell? ⟨w.heap.size,12,none⟩=some (.string R.hkey):=P5.out.cell' rfl
    have s14:w5.cell? ⟨w.heap.size,13,none⟩=some (.int .i64 R.nslot):=P5.out.cell' rfl
    have s15:w5.cell? ⟨w.heap.size,14,none⟩=some (.int .i64 R.ngen):=P5.out.cell' rfl
    refine ⟨⟨s0,s1,s2,s3,s4,s5,s6,s7,s8,s9,s10,s11,s12,s13,s14,s15⟩,?_⟩
    refine wpAnyT_one (i:=8) rfl rfl (by kernel_rfl) ?_
    go_simp
    refine wpAnyT_one (i:=9) rfl rfl (by kernel_rfl) ?_
    go_simp
    clear s0 s1 s2 s3 s4 s5 s6 s7 s8 s9 s10 s11 s12 s13 s14 s15
    refine wpAnyT_one (i:=10) rfl rfl (by kernel_rfl) ?_
    refine wp_store_mid 147 (.tmp 51) (.tmp 50) rfl G (k * 17) (slL ⟨s.gen+1,true,R,.slice A5 R.rows.length c5,.slice B5 R.ents.length d5⟩).toArray rfl rfl (X5.out.there hlt (Nat.le_refl _) (Nat.le_refl _)) slot_size (by simp [slL,Value.oneCell']) ?_
    refine ⟨.inl rfl,?_⟩
    refine wpAnyT_done (by kernel_rfl) ?_ _
    obtain ⟨w9,hw9⟩:∃ w9,w9=w5.setCells G (k * 17) (slL ⟨s.gen+1,true,R,.slice A5 R.rows.length c5,.slice B5 R.ents.length d5⟩):=⟨_,rfl⟩
    change Exit.then _ _ _ _ (w5.setCells G (k * 17) (slL ⟨s.gen+1,true,R,.slice A5 R.rows.length c5,.slice B5 R.ents.length d5⟩))
    rw [← hw9]
    have h9:Fr (only G) w5 w9:=by rw [hw9];exact Fr.setCells _ _ _ (Fr.refl _ _) (.inl (Eq.refl _))
    have hG5:∃ cs,Blk w5 G 147 cs:=by obtain ⟨cs,hG,hc⟩:=X5.out.hG;exact ⟨cs,hG⟩
    obtain ⟨cs5,hG5⟩:=hG5
    have o9:RecOwn w9 wq.heap.size R (.slice A5 R.rows.length c5) (.slice B5 R.ents.length d5):=O5.out.only h9 hG5 (by decide) (by decide)
    have X9:=hid_ (X5.out.put (s:=⟨s.gen+1,true,R,.slice A5 R.rows.length c5,.slice B5 R.ents.length d5⟩) hlt h9 (fun cs hb=>by rw [hw9];exact Blk.setCells _ _ _ _ hb) (o9.base (Nat.zero_le _)) ⟨by show 0≤s.gen+1;omega,by show s.gen+1≤last;omega⟩ hz)
    have O9:=hid_ (o9.base FQ.out.size)
    have Q9:=hid_ (Q5.out.fr h9 (only_ne (Ne.symm (Blk.ne_ hG5 Q5.out (by decide)))))
    have F9:Hid (Fr (only G) w w9):=hid_ ((F5.out.mono (fun _ _ e=>e.elim)).then_only h9 (.inl (Eq.refl _)))
    clear hw9 h9 hG5 o9
    have g9:w9.cell? ⟨G,k * 17,none⟩=some (.int .i64 (s.gen+1)):=X9.out.cell (List.getElem?_set_self hlt) 0 rfl
    have y0:w9.cell? ⟨w.heap.size+1,0,none⟩=some (.int .i64 0):=Q9.out.cell' rfl
    have y1:w9.cell? ⟨w.heap.size+1,1,none⟩=some (.int .i64 0):=Q9.out.cell' rfl
    have f0:=Q9.out.frozen 0
    have f1:=Q9.out.frozen 1
    have hwk:IntKind.i64.wrap ((k:Int)+1)=(k:Int)+1:=IntWalk.i64_in _ (by omega)
    go_wp2_with fail
    clear g9 y0 y1 f0 f1
    obtain ⟨qb,qf⟩:=box2 Q9.out (.int .i64 ((k:Int)+1)) (.int .i64 (s.gen+1))
    have x0:=qb.cell' (i:=0) rfl
    have x1:=qb.cell' (i:=1) rfl
    have hnG:G≠w.heap.size+1:=by omega
    have hnA:a≠w.heap.size+1:=by omega
    refine bodyPost_ret (v:=.tuple #[.agg #[.int .i64 ((k:Int)+1),.int .i64 (s.gen+1)],.nilIface]) ?_ rfl (.inl ⟨k,s,_,_,Hs.out,⟨hu,Hw.out⟩,Hno.out,rfl,X9.out.beside qf Q9.out (by decide) (by decide) hnA hnG,O9.out.only qf Q9.out (by decide) (by decide),F9.out.then_only qf (.inr (by omega))⟩)
    simp [results,Tryz.results28,go_sem,x0,x1]
  ·obtain rfl:k=ss.length:=by omega
   have y0:wr.cell? ⟨w.heap.size+1,0,none⟩=some (.int .i64 0):=Q.out.cell' rfl
   have y1:wr.cell? ⟨w.heap.size+1,1,none⟩=some (.int .i64 0):=Q.out.cell' rfl
   have f0:=Q.out.frozen 0
   have f1:=Q.out.frozen 1
   go_wp2_with fail
   clear y0 y1 f0 f1
   obtain ⟨qb,qf⟩:=box2 Q.out (.int .i64 0) (.int .i64 0)
   have x0:=qb.cell' (i:=0) rfl
   have x1:=qb.cell' (i:=1) rfl
   have hek:=Hek.out
   rw [List.take_length] at hek
   refine bodyPost_ret (v:=.tuple #[.agg #[.int .i64 0,.int .i64 0],errV ek]) ?_ rfl (.inr ⟨fun j t ht=>Hno.out j t (List.getElem?_eq_some_iff.1 ht).1 ht,by rw [hek],F.out.then_only qf (.inr (by omega))⟩)
   simp [results,Tryz.results28,go_sem,x0,x1]
open Go.RowKit

abbrev Rf:=Int × Int
def rfCells (p:Rf):List Value:=[.int .i64 p.1,.int .i64 p.2]
def rfFlat (L:List Rf):List Value:=(L.map rfCells).flatten
theorem ref_info:(Tryz.prog.info? 48).map (fun i=>(i.zero,i.size,i.bytes))=some (some (.agg #[.int .i64 0,.int .i64 0]),2,16):=by kernel_rfl
def liveTo (ss:List Sl):Nat→List Rf
  | 0=>[]
  | k+1=>liveTo ss k ++ match ss[k]? with
    | some s=>if s.used then [((k:Int)+1,s.gen)] else []
    | none=>[]
theorem live_hit {ss:List Sl} {k:Nat} {s:Sl} (hs:ss[k]?=some s) (hu:s.used=true):liveTo ss (k+1)=liveTo ss k ++ [((k:Int)+1,s.gen)]:=by simp [liveTo,hs,hu]
theorem live_miss {ss:List Sl} {k:Nat} {s:Sl} (hs:ss[k]?=some s) (hu:s.used=false):liveTo ss (k+1)=liveTo ss k:=by simp [liveTo,hs,hu]
theorem live_le (ss:List Sl):∀ k,(liveTo ss k).length≤k
  | 0=>Nat.le_refl _
  | k+1=>by
    have:=live_le ss k
    rw [liveTo,List.length_append]
    split
    · split <;> simp <;> omega
    · simp;omega
theorem Ar.range {w:World} {a G:Nat} {last:Int} {ss:List Sl} (h:Ar w a G last ss) {i:Nat} {s:Sl} (hs:ss[i]?=some s):w.rangeAt G (i * 17) (slL s):=fun j v hv=>h.cell hs j hv
def LivePost (ss:List Sl) (w:World) (e:Ending) (w':World):Prop:=
  ∃ A c,e=.returned (.slice A (liveTo ss ss.length).length c)∧w'.ownsRow w.heap.size 48 2 (.slice A (liveTo ss ss.length).length c) (liveTo ss ss.length).length (rfFlat (liveTo ss ss.length))∧Fr none_ w w'

set_option maxHeartbeats 4000000 in
theorem live_ok {a G:Nat} {last:Int} {ss:List Sl} (w:World) (h:Ar w a G last ss):Calls Tryz.prog 75 #[.pointer (some ⟨a,0,none⟩)] w (LivePost ss w):=by
 obtain ⟨i0,hi0,hz0,hs0,hb0⟩:=info_parts ref_info
 have Hi:=hid_ (And.intro hi0 (And.intro hz0 (And.intro hs0 hb0)))
 have H:=hid_ h
 have hlen:=h.len
 have hl40:=h.l40
 have c0:w.cell? ⟨a,0,none⟩=some (.slice (some ⟨G,0,none⟩) ss.length ss.length):=h.hA.cell' rfl
 clear h hi0 hz0 hs0 hb0
 go_enter Tryz.func75,Tryz.ntmps75
 go_wp2_with fail
 clear c0
 go_loopw [3,13] (fun v i wr=>∃ k:Nat,k≤ss.length∧i=.int .i64 k∧wr.ownsRow w.heap.size 48 2 v (liveTo ss k).length (rfFlat (liveTo ss k))∧Fr none_ w wr) (fun _ i _=>ss.length - (intOf i).toNat)
 case atStart=>exact ⟨0,Nat.zero_le _,rfl,World.ownsRow_nil w w.heap.size 48 2,Fr.refl _ _⟩
 case round =>
  obtain ⟨k,hk,rfl,hown,hfr⟩:=hrel
  have hsz:=hfr.size
  have hul:=live_le ss k
  have X:=hid_ (H.out.keep hfr)
  have Ho:=hid_ hown
  have Hf:=hid_ hfr
  clear hown hfr
  by_cases hlt:k < ss.length
  ·obtain ⟨s,hs⟩:∃ s,ss[k]?=some s:=⟨_,List.getElem?_eq_getElem hlt⟩
   have hi0:(0:Int)≤(k:Int):=Int.natCast_nonneg _
   have hi1:(k:Int) < (ss.length:Int):=by omega
   have Hs:=hid_ hs
   clear hs
   cases hu:s.used with
   | false =>
    have Hm:=hid_ (live_miss Hs.out hu)
    obtain ⟨A,c,B,d,hvr,hve⟩:=(X.out.own k s Hs.out).shape
    have HR:Hid (wr.rangeAt G (k * 17) [.int .i64 s.gen,.bool false,.int .i64 s.R.kind,.string s.R.low,.string s.R.high,.bool s.R.unb,.int .i64 s.R.right,.slice A s.R.rows.length c,.slice B s.R.ents.length d,.string s.R.key,.string s.R.val,.int .i64 s.R.page,.int .i64 s.R.hpage,.int .i64 s.R.hleft,.string s.R.hkey,.int .i64 s.R.nslot,.int .i64 s.R.ngen]):=hid_ (by have:=X.out.range Hs.out;unfold slL at this;rw [hu,hvr,hve] at this;exact this)
    clear hvr hve hu
    go_wp2_with (refine wpList_load_mid rfl 147 (.tmp 16) rfl G (k * 17) rfl [.int .i64 s.gen,.bool false,.int .i64 s.R.kind,.string s.R.low,.string s.R.high,.bool s.R.unb,.int .i64 s.R.right,.slice A s.R.rows.length c,.slice B s.R.ents.length d,.string s.R.key,.string s.R.val,.int .i64 s.R.page,.int .i64 s.R.hpage,.int .i64 s.R.hleft,.string s.R.hkey,.int .i64 s.R.nslot,.int .i64 s.R.ngen] _ HR.out Tryz.underlying147 rfl slot_size ?_)
    go_roundw
    case rel=>exact ⟨k+1,by omega,by go_num,by rw [Hm.out];exact (Ho.out.alloc _),Hf.out.alloc _⟩
    case measure=>simp [intOf];omega
   | true =>
    have Hm:=hid_ (live_hit Hs.out hu)
    have hwk:IntKind.i64.wrap ((k:Int)+1)=(k:Int)+1:=IntWalk.i64_in _ (by omega)
    obtain ⟨A,c,B,d,hvr,hve⟩:=(X.out.own k s Hs.out).shape
    have HR:Hid (wr.rangeAt G (k * 17) [.int .i64 s.gen,.bool true,.int .i64 s.R.kind,.string s.R.low,.string s.R.high,.bool s.R.unb,.int .i64 s.R.right,.slice A s.R.rows.length c,.slice B s.R.ents.length d,.string s.R.key,.string s.R.val,.int .i64 s.R.page,.int .i64 s.R.hpage,.int .i64 s.R.hleft,.string s.R.hkey,.int .i64 s.R.nslot,.int .i64 s.R.ngen]):=hid_ (by have:=X.out.range Hs.out;unfold slL at this;rw [hu,hvr,hve] at this;exact this)
    clear hvr hve hu
    go_wp2_with (first
     | (refine wpList_load_mid rfl 147 (.tmp 16) rfl G (k * 17) rfl [.int .i64 s.gen,.bool true,.int .i64 s.R.kind,.string s.R.low,.string s.R.high,.bool s.R.unb,.int .i64 s.R.right,.slice A s.R.rows.length c,.slice B s.R.ents.length d,.string s.R.key,.string s.R.val,.int .i64 s.R.page,.int .i64 s.R.hpage,.int .i64 s.R.hleft,.string s.R.hkey,.int .i64 s.R.nslot,.int .i64 s.R.ngen] _ HR.out Tryz.underlying147 rfl slot_size ?_)
     | (at_builtin;refine wpList_append_own _ rfl _ _ 66 rfl w.heap.size 48 i0 _ 2 16 Tryz.underlying66 Hi.out.1 Hi.out.2.1 Hi.out.2.2.1 Hi.out.2.2.2 rfl (by decide) _ _ _ rfl ((Ho.out.alloc _).alloc _) ⟨wr.heap.size+1,0,none⟩ 1 1 [.int .i64 ((k:Int)+1),.int .i64 s.gen] rfl rfl ?c1 ?c2 ?c3 ?c4 ?c5 ?_))
    case c1 =>
     intro j u hu
     have hb:=Blk.new (wr.alloc (.cells [.int .i64 s.gen,.bool true,.int .i64 s.R.kind,.string s.R.low,.string s.R.high,.bool s.R.unb,.int .i64 s.R.right,.slice A s.R.rows.length c,.slice B s.R.ents.length d,.string s.R.key,.string s.R.val,.int .i64 s.R.page,.int .i64 s.R.hpage,.int .i64 s.R.hleft,.string s.R.hkey,.int .i64 s.R.nslot,.int .i64 s.R.ngen].toArray 147)) 48 #[.int .i64 ((k:Int)+1),.int .i64 s.gen]
     rw [World.size_alloc] at hb
     rw [add_lit,Nat.zero_add]
     exact hb.cell' (by simpa using hu)
    case c2=>intro u hu;simp at hu;rcases hu with rfl | rfl <;> rfl
    case c3=>unfold maxLen;omega
    case c4=>omega
    case c5=>simp;omega
    intro v' w1 hown1 hgr _
    have R:w1.ownsRow w.heap.size 48 2 v' (liveTo ss (k+1)).length (rfFlat (liveTo ss (k+1)))∧Fr none_ w w1:=by
     refine ⟨?_,((Hf.out.alloc _).alloc _).grown hgr (fun b hb=>.inr (Ho.out.lt b hb).1)⟩
     rw [Hm.out]
     simpa [rfFlat,rfCells] using hown1
    have HR:=hid_ R
    clear R hown1 hgr
    go_wp2
    go_roundw
    case rel=>exact ⟨k+1,by omega,by go_num,HR.out.1,HR.out.2⟩
    case measure=>simp [intOf];omega
  ·obtain rfl:k=ss.length:=by omega
   go_wp2
   go_ret
   obtain ⟨A,c,hv⟩:=Ho.out.shape
   have hx:=Ho.out
   rw [hv] at hx
   exact ⟨A,c,by rw [← hv];rfl,hx,Hf.out⟩
open Go.RowKit
def rliveTo (L:List RaP):Nat→List Rf
  | 0=>[]
  | k+1=>rliveTo L k ++ if (slotP L ((k:Int)+1)).2=true then [((k:Int)+1,(slotP L ((k:Int)+1)).1)] else []
theorem rlive_hit {L:List RaP} {k:Nat} (hu:(slotP L ((k:Int)+1)).2=true):rliveTo L (k+1)=rliveTo L k ++ [((k:Int)+1,(slotP L ((k:Int)+1)).1)]:=by simp [rliveTo,hu]
theorem rlive_miss {L:List RaP} {k:Nat} (hu:(slotP L ((k:Int)+1)).2=false):rliveTo L (k+1)=rliveTo L k:=by simp [rliveTo,hu]
theorem rlive_le (L:List RaP):∀ k,(rliveTo L k).length≤k
  | 0=>Nat.le_refl _
  | k+1=>by
    have:=rlive_le L k
    rw [rliveTo,List.length_append]
    split <;> simp <;> omega
theorem rf_snoc (X:List Rf) (p:Rf):rfFlat (X ++ [p])=rfFlat X ++ [.int .i64 p.1,.int .i64 p.2]:=by simp [rfFlat,rfCells]
def RLivePost (slots:Int) (L:List RaP) (w:World) (e:Ending) (w':World):Prop:=
  ∃ A c,e=.returned (.slice A (rliveTo L slots.toNat).length c)∧w'.ownsRow w.heap.size 48 2 (.slice A (rliveTo L slots.toNat).length c) (rliveTo L slots.toNat).length (rfFlat (rliveTo L slots.toNat))∧Fr none_ w w'
set_option maxHeartbeats 8000000 in
theorem rlive_ok (slots last:Int) (L:List RaP) (A:Option Addr) (c:Nat) (w:World) (h0:0≤slots) (h1:slots≤4096) (h:RaIn w L A c):Calls Tryz.prog 52 #[raV slots last L A c] w (RLivePost slots L w):=by
 obtain ⟨i0,hi0,hz0,hs0,hb0⟩:=info_parts ref_info
 have Hi:=hid_ (And.intro hi0 (And.intro hz0 (And.intro hs0 hb0)))
 clear hi0 hz0 hs0 hb0
 obtain ⟨w0,hw0⟩:∃ z,z=w.alloc (.cells (raA slots last L A c) 35):=⟨_,rfl⟩
 have f0:Fr none_ w w0:=by rw [hw0];exact (Fr.refl none_ w).alloc _
 have BV:Hid (Blk w0 w.heap.size 35 (raA slots last L A c)):=hid_ (by rw [hw0];exact Blk.new w _ _)
 have H:=hid_ (h.keep f0)
 have F0:=hid_ f0
 have hlt0:=BV.out.lt
 clear f0 h
 go_enter Tryz.func52,Tryz.ntmps52
 go_upto_region 3 with fail
 change Code.wp _ _ _ _ (w.alloc (.cells (raA slots last L A c) 35))
 rw [← hw0]
 clear hw0
 go_wp2_with fail
 go_loopw [3,4] (fun v i wr=>∃ n:Nat,(n:Int)≤slots∧i=.int .i64 ((n:Int)+1)∧wr.ownsRow w0.heap.size 48 2 v (rliveTo L n).length (rfFlat (rliveTo L n))∧Fr none_ w0 wr) (fun _ i _=>slots.toNat+1 - (intOf i).toNat)
 case atStart=>exact ⟨0,by omega,rfl,World.ownsRow_nil w0 w0.heap.size 48 2,Fr.refl _ _⟩
 case round =>
  obtain ⟨n,hn,rfl,hown,hfr⟩:=hrel
  have FR:=hid_ hfr
  have hsz:=hfr.size
  have Ho:=hid_ hown
  have hul:=rlive_le L n
  clear hown
  have v0:wr.cell? ⟨w.heap.size,0,none⟩=some (.int .i64 slots):=(BV.out.fr hfr id).cell' rfl
  have v1:wr.cell? ⟨w.heap.size,1,none⟩=some (.int .i64 last):=(BV.out.fr hfr id).cell' rfl
  have v2:wr.cell? ⟨w.heap.size,2,none⟩=some (.slice A L.length c):=(BV.out.fr hfr id).cell' rfl
  clear hfr
  by_cases hlt:(n:Int)+1≤slots
  ·have hd:decide ((n:Int)+1≤slots)=true:=by simpa using hlt
   go_wp2_with fail
   refine (rslot_ok slots last L A c ((n:Int)+1) wr (H.out.keep FR.out)).mono ?_
   rintro e wa ⟨rfl,hf⟩
   have FA:=hid_ (FR.out.then_none hf)
   have hsa:=hf.size
   have hwk:IntKind.i64.wrap ((n:Int)+1+1)=(n:Int)+1+1:=IntWalk.i64_in _ (by omega)
   obtain ⟨g,hg⟩:∃ g,(slotP L ((n:Int)+1)).1=g:=⟨_,rfl⟩
   obtain ⟨u,hu⟩:∃ u,(slotP L ((n:Int)+1)).2=u:=⟨_,rfl⟩
   rw [hg,hu]
   have HGU:=hid_ (And.intro hg hu)
   have FWA:=hid_ hf
   clear hg hu v0 v1 v2 hf
   cases u with
   | false =>
    go_wp2_with fail
    go_roundw
    case rel=>exact ⟨n+1,by omega,by go_num,by rw [rlive_miss HGU.out.2];exact own_none Ho.out FWA.out,FA.out⟩
    case measure=>simp [intOf];omega
   | true =>
    have OA:=hid_ (own_none Ho.out FWA.out)
    have RE:=hid_ (reads_new wa 48 [.int .i64 ((n:Int)+1),.int .i64 g] wa.heap.size rfl)
    have hbase:Hid (w0.heap.size≤(wa.alloc (.cells [.int .i64 ((n:Int)+1),.int .i64 g].toArray 48)).heap.size):=hid_ (by rw [World.size_alloc];omega)
    have hmx:Hid ((rliveTo L n).length+1≤maxLen):=hid_ (by unfold maxLen;omega)
    have hby:Hid (((rliveTo L n).length+1) * 16≤140737488355328):=hid_ (by omega)
    go_wp2_with (at_builtin;refine wpList_append_any _ rfl (.tmp 20) (.tmp 24) 66 rfl w0.heap.size 48 i0 _ 2 16 Tryz.underlying66 Hi.out.1 Hi.out.2.1 Hi.out.2.2.1 Hi.out.2.2.2 rfl (by decide) _ (rliveTo L n).length (rfFlat (rliveTo L n)) rfl (OA.out.alloc _) (some ⟨wa.heap.size,0,none⟩) 1 1 [.int .i64 ((n:Int)+1),.int .i64 g] rfl RE.out (by intro u hu;simp at hu;rcases hu with rfl | rfl <;> rfl) hmx.out hby.out hbase.out ?_;intro A2 c2 wb hown hgr;have O2:=hid_ hown;have F2:=hid_ ((FA.out.alloc (.cells [.int .i64 ((n:Int)+1),.int .i64 g].toArray 48)).grown hgr (fun k hk=>.inr (OA.out.lt k hk).1));clear hown hgr)
    go_roundw
    case rel =>
     refine ⟨n+1,by omega,by go_num,?_,F2.out⟩
     rw [rlive_hit HGU.out.2,HGU.out.1,List.length_append,rf_snoc]
     exact O2.out
    case measure=>simp [intOf];omega
  ·have hd:decide ((n:Int)+1≤slots)=false:=by simpa using hlt
   obtain rfl:n=slots.toNat:=by omega
   obtain ⟨A2,c2,rfl,_⟩:=own_parts Ho.out
   go_wp2_with fail
   go_ret
   exact ⟨A2,c2,rfl,own_base Ho.out (Nat.le_of_lt (Nat.lt_of_le_of_lt (Nat.zero_le _) hlt0) |> fun _=>F0.out.size),F0.out.then_none FR.out⟩
open Go.RowKit

theorem slotTo_spec (L:List RaP) (n:Int):∀ k,(slotTo L n k=(0,false)∧∀ (j:Nat) (q:RaP),j < k→L[j]?=some q→¬ q.xs=n)∨∃ (j:Nat) (p:RaP),j < k∧L[j]?=some p∧p.xs=n∧slotTo L n k=(p.xg,p.live)∧∀ (j':Nat) (q:RaP),j < j'→j' < k→L[j']?=some q→¬ q.xs=n
  | 0=>.inl ⟨rfl,fun j q hj=>by omega⟩
  | k+1=>by
    cases hk:L[k]? with
    | none =>
      have e:slotTo L n (k+1)=slotTo L n k:=by simp [slotTo,hk]
      rw [e]
      rcases slotTo_spec L n k with ⟨h1,h2⟩ | ⟨j,p,a1,a2,a3,a4,a5⟩
      · refine .inl ⟨h1,fun j q hj hq=>?_⟩
        rcases Nat.lt_succ_iff_lt_or_eq.1 hj with h | rfl
        · exact h2 j q h hq
        · rw [hk] at hq;cases hq
      · refine .inr ⟨j,p,by omega,a2,a3,a4,fun j' q h1 h2 hq=>?_⟩
        rcases Nat.lt_succ_iff_lt_or_eq.1 h2 with h | rfl
        · exact a5 j' q h1 h hq
        · rw [hk] at hq;cases hq
    | some p =>
      by_cases hx:p.xs=n
      · exact .inr ⟨k,p,by omega,hk,hx,slot_hit hk hx,fun j' q h1 h2=>by omega⟩
      · rw [slot_miss hk hx]
        rcases slotTo_spec L n k with ⟨h1,h2⟩ | ⟨j,q,a1,a2,a3,a4,a5⟩
        · refine .inl ⟨h1,fun j q hj hq=>?_⟩
          rcases Nat.lt_succ_iff_lt_or_eq.1 hj with h | rfl
          · exact h2 j q h hq
          · obtain rfl:=Option.some.inj (hk.symm.trans hq);exact hx
        · refine .inr ⟨j,q,by omega,a2,a3,a4,fun j' q' h1 h2 hq=>?_⟩
          rcases Nat.lt_succ_iff_lt_or_eq.1 h2 with h | rfl
          · exact a5 j' q' h1 h hq
          · obtain rfl:=Option.some.inj (hk.symm.trans hq);exact hx
theorem slot_last {L:List RaP} {j:Nat} {p:RaP} (hp:L[j]?=some p) (hl:∀ (j':Nat) (q:RaP),j < j'→L[j']?=some q→¬ q.xs=p.xs):slotP L p.xs=(p.xg,p.live):=by
  have hj:=(List.getElem?_eq_some_iff.1 hp).1
  rcases slotTo_spec L p.xs L.length with ⟨_,h2⟩ | ⟨i,q,a1,a2,a3,a4,a5⟩
  · exact absurd rfl (h2 j p hj hp)
  · rcases Nat.lt_trichotomy i j with h | rfl | h
    · exact absurd rfl (a5 j p h hj hp)
    · obtain rfl:=Option.some.inj (hp.symm.trans a2)
      exact a4
    · exact absurd a3 (hl i q h a2)
theorem slot_at {L:List RaP} {n g:Int} (h:slotP L n=(g,true)):∃ (j:Nat) (p:RaP),L[j]?=some p∧p.xs=n∧p.xg=g∧p.live=true∧∀ (j':Nat) (q:RaP),j < j'→L[j']?=some q→¬ q.xs=n:=by
  rcases slotTo_spec L n L.length with ⟨h1,_⟩ | ⟨j,p,a1,a2,a3,a4,a5⟩
  · rw [slotP,h1] at h;cases h
  · rw [slotP,a4] at h
    injection h with e1 e2
    exact ⟨j,p,a2,a3,e1,e2,fun j' q h1 hq=>a5 j' q h1 (List.getElem?_eq_some_iff.1 hq).1 hq⟩
theorem slotTo_app (L:List RaP) (p:RaP) (n:Int):∀ k,k≤L.length→slotTo (L ++ [p]) n k=slotTo L n k
  | 0,_=>rfl
  | k+1,h=>by
    have e:(L ++ [p])[k]?=L[k]?:=List.getElem?_append_left (by omega)
    simp only [slotTo,e,slotTo_app L p n k (by omega)]
theorem slot_snoc (L:List RaP) (p:RaP) (n:Int):slotP (L ++ [p]) n=if p.xs=n then (p.xg,p.live) else slotP L n:=by
  have e:(L ++ [p])[L.length]?=some p:=by simp
  have hl:(L ++ [p]).length=L.length+1:=by simp
  rw [slotP,hl]
  split
  · rename_i h;exact slot_hit e h
  · rename_i h;rw [slot_miss e h,slotTo_app L p n _ (Nat.le_refl _)]
theorem slotTo_dead {L:List RaP} {i:Nat} {p:RaP} (hp:L[i]?=some p) {n:Int} (hn:¬ p.xs=n):∀ k,slotTo (L.set i (deadP p)) n k=slotTo L n k
  | 0=>rfl
  | k+1=>by
    have ih:=slotTo_dead hp hn k
    by_cases hk:i=k
    · subst hk
      have e:(L.set i (deadP p))[i]?=some (deadP p):=by
        rw [List.getElem?_set_self (List.getElem?_eq_some_iff.1 hp).1]
      rw [slot_miss e (by exact hn),slot_miss hp hn,ih]
    · have e:(L.set i (deadP p))[k]?=L[k]?:=List.getElem?_set_ne hk
      simp only [slotTo,e,ih]

structure Wf (L:List RaP):Prop where
  cur:∀ (j:Nat) (p:RaP),L[j]?=some p→p.live=true→slotP L p.xs=(p.xg,true)
  one:∀ (j i:Nat) (p q:RaP),L[j]?=some p→L[i]?=some q→p.live=true→q.live=true→p.xs=q.xs→j=i
theorem Wf.nil:Wf []:=⟨fun j p h=>by simp at h,fun j i p q h=>by simp at h⟩
structure SimA (ss:List Sl) (L:List RaP):Prop where
  wf:Wf L
  slot:∀ (i:Nat) (s:Sl),ss[i]?=some s→slotP L ((i:Int)+1)=(s.gen,s.used)
  has:∀ (i:Nat) (s:Sl),ss[i]?=some s→s.used=true→∃ (j:Nat) (p:RaP),L[j]?=some p∧p.xs=(i:Int)+1∧p.live=true∧p.R=s.R
theorem SimA.nil {ss:List Sl} (h:∀ (i:Nat) (s:Sl),ss[i]?=some s→s.gen=0∧s.used=false):SimA ss []:=
  ⟨Wf.nil,fun i s hs=>by rw [(h i s hs).1,(h i s hs).2];rfl,fun i s hs hu=>by rw [(h i s hs).2] at hu;cases hu⟩
theorem SimA.find {ss:List Sl} {L:List RaP} (h:SimA ss L) {i:Nat} {s:Sl} (hs:ss[i]?=some s) (hu:s.used=true):∃ (j:Nat) (p:RaP),L[j]?=some p∧p.xs=(i:Int)+1∧p.xg=s.gen∧p.live=true∧p.R=s.R:=by
  obtain ⟨j,p,h1,h2,h3,h4⟩:=h.has i s hs hu
  refine ⟨j,p,h1,h2,?_,h3,h4⟩
  have a:=h.wf.cur j p h1 h3
  rw [h2,h.slot i s hs] at a
  injection a with e _
  exact e.symm
theorem SimA.stale {ss:List Sl} {L:List RaP} (h:SimA ss L) {i:Nat} {s:Sl} (hs:ss[i]?=some s) {g:Int} (hn:¬ (s.used=true∧s.gen=g)) (j:Nat) (q:RaP) (hq:L[j]?=some q):¬ (q.xs=(i:Int)+1∧q.xg=g∧q.live=true):=by
  rintro ⟨h1,h2,h3⟩
  have a:=h.wf.cur j q hq h3
  rw [h1,h.slot i s hs] at a
  injection a with e1 e2
  exact hn ⟨e2,e1.trans h2⟩
theorem Wf.put {L:List RaP} (h:Wf L) {p:RaP} (hl:p.live=true) (hu:(slotP L p.xs).2=false):Wf (L ++ [p]):=by
  have hno:∀ (j:Nat) (q:RaP),L[j]?=some q→q.live=true→¬ q.xs=p.xs:=fun j q hq hql e=>by
    have a:=h.cur j q hq hql
    rw [e] at a
    rw [a] at hu
    cases hu
  refine ⟨fun j q hq hql=>?_,fun j i q r hq hr h1 h2 e=>?_⟩
  · rw [slot_snoc]
    rcases Nat.lt_or_ge j L.length with hj | hj
    · rw [List.getElem?_append_left hj] at hq
      rw [if_neg (fun e=>hno j q hq hql e.symm)]
      exact h.cur j q hq hql
    · rw [List.getElem?_append_right hj] at hq
      have hj0:j - L.length=0:=by
        have:=(List.getElem?_eq_some_iff.1 hq).1
        simp at this;omega
      rw [hj0] at hq
      obtain rfl:p=q:=by simpa using hq
      rw [if_pos rfl,hl]
  · have key:∀ (j:Nat) (q:RaP),(L ++ [p])[j]?=some q→(j < L.length∧L[j]?=some q)∨(j=L.length∧q=p):=by
      intro j q hq
      rcases Nat.lt_or_ge j L.length with hj | hj
      · exact .inl ⟨hj,by rwa [List.getElem?_append_left hj] at hq⟩
      · have:=(List.getElem?_eq_some_iff.1 hq).1
        simp at this
        obtain rfl:j=L.length:=by omega
        exact .inr ⟨rfl,by simpa using hq.symm⟩
    rcases key j q hq with ⟨a1,a2⟩ | ⟨rfl,rfl⟩ <;> rcases key i r hr with ⟨b1,b2⟩ | ⟨rfl,rfl⟩
    · exact h.one j i q r a2 b2 h1 h2 e
    · exact absurd e (hno j q a2 h1)
    · exact absurd e.symm (hno i r b2 h2)
    · rfl
theorem SimA.put {ss:List Sl} {L:List RaP} (h:SimA ss L) {i:Nat} {s:Sl} (hs:ss[i]?=some s) (hu:s.used=false) {p t} (hx:p.xs=(i:Int)+1) (hg:p.xg=Sl.gen t) (hl:p.live=true) (ht:t.used=true) (hr:p.R=t.R):SimA (ss.set i t) (L ++ [p]):=by
  have hi:=(List.getElem?_eq_some_iff.1 hs).1
  refine ⟨h.wf.put hl (by rw [hx,h.slot i s hs];exact hu),fun k r hk=>?_,fun k r hk hru=>?_⟩
  · rw [slot_snoc,hx]
    rw [List.getElem?_set] at hk
    split at hk
    · subst_vars
      obtain rfl:t=r:=by simpa [hi] using hk
      rw [if_pos rfl,hg,hl,ht]
    · rename_i hne
      rw [if_neg (by omega)]
      exact h.slot k r hk
  · rw [List.getElem?_set] at hk
    split at hk
    · subst_vars
      obtain rfl:t=r:=by simpa [hi] using hk
      exact ⟨L.length,p,by simp,hx,hl,hr⟩
    · obtain ⟨j,q,a1,a2⟩:=h.has k r hk hru
      exact ⟨j,q,by rw [List.getElem?_append_left (List.getElem?_eq_some_iff.1 a1).1];exact a1,a2⟩
theorem SimA.free {ss:List Sl} {L:List RaP} (h:SimA ss L) {i:Nat} {s:Sl} (hs:ss[i]?=some s) {j:Nat} {p:RaP} (hp:L[j]?=some p) (hx:p.xs=(i:Int)+1) (hl:p.live=true) {t:Sl} (htg:t.gen=s.gen) (htu:t.used=false):SimA (ss.set i t) (L.set j (deadP p)):=by
  have hi:=(List.getElem?_eq_some_iff.1 hs).1
  have hj:=(List.getElem?_eq_some_iff.1 hp).1
  have hc:=h.wf.cur j p hp hl
  have hgs:p.xg=s.gen:=by
    rw [hx,h.slot i s hs] at hc
    injection hc with e _
    exact e.symm
  have key:∀ (k:Nat) (q:RaP),(L.set j (deadP p))[k]?=some q→q.live=true→L[k]?=some q∧¬ q.xs=p.xs:=by
    intro k q hq hql
    by_cases hk:j=k
    · subst hk
      rw [List.getElem?_set_self hj] at hq
      obtain rfl:=Option.some.inj hq
      cases hql
    · rw [List.getElem?_set_ne hk] at hq
      exact ⟨hq,fun e=>hk (h.wf.one j k p q hp hq hl hql e.symm)⟩
  have hdead:slotP (L.set j (deadP p)) p.xs=(p.xg,false):=by
    have e:(L.set j (deadP p))[j]?=some (deadP p):=List.getElem?_set_self hj
    refine slot_last (p:=deadP p) e (fun k q hk hq=>?_)
    rw [List.getElem?_set_ne (by omega)] at hq
    obtain ⟨j2,p2,b1,b2,b3,b4,b5⟩:=slot_at hc
    obtain rfl:=h.wf.one j j2 p p2 hp b1 hl b4 b2.symm
    exact b5 k q hk hq
  have hsame:∀ n,¬ p.xs=n→slotP (L.set j (deadP p)) n=slotP L n:=fun n hn=>by
    rw [slotP,List.length_set]
    exact slotTo_dead hp hn _
  refine ⟨⟨fun k q hq hql=>?_,fun k m q r hq hr h1 h2 e=>?_⟩,fun k r hk=>?_,fun k r hk hru=>?_⟩
  · obtain ⟨a1,a2⟩:=key k q hq hql
    rw [hsame _ (fun e=>a2 e.symm)]
    exact h.wf.cur k q a1 hql
  · exact h.wf.one k m q r (key k q hq h1).1 (key m r hr h2).1 h1 h2 e
  · rw [List.getElem?_set] at hk
    split at hk
    · subst_vars
      obtain rfl:t=r:=by simpa [hi] using hk
      rw [← hx,hdead,hgs,htg,htu]
    · rename_i hne
      rw [hsame _ (by rw [hx];omega)]
      exact h.slot k r hk
  · rw [List.getElem?_set] at hk
    split at hk
    · subst_vars
      obtain rfl:t=r:=by simpa [hi] using hk
      rw [htu] at hru;cases hru
    · rename_i hne
      obtain ⟨m,q,a1,a2,a3,a4⟩:=h.has k r hk hru
      refine ⟨m,q,?_,a2,a3,a4⟩
      rw [List.getElem?_set_ne (fun e=>?_)]
      · exact a1
      · subst e
        obtain rfl:=Option.some.inj (hp.symm.trans a1)
        rw [hx] at a2
        omega
theorem SimA.live {ss:List Sl} {L:List RaP} (h:SimA ss L):∀ k,k≤ss.length→rliveTo L k=liveTo ss k
  | 0,_=>rfl
  | k+1,hk=>by
    have ih:=SimA.live h k (by omega)
    obtain ⟨s,hs⟩:∃ s,ss[k]?=some s:=⟨_,List.getElem?_eq_getElem (by omega)⟩
    have e:=h.slot k s hs
    rw [rliveTo,liveTo,ih,hs,e]
end Go.Proofs.YthcpccddcgbanaaGreatDoor
