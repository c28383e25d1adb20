/- Texts of one proof, merged: Ld. -/
import Derived.Test.YthcpccddcgbanaaGreatDoorPiG
import Derived.Test.YthcpccddcgbanaaGreatDoorPiI
namespace Go.Proofs.YthcpccddcgbanaaGreatDoor
open Go.RowKit
set_option maxRecDepth 100000
set_option linter.unusedVariables false

abbrev recZ:Array Value:=recA Rc.zero (.slice none 0 0) (.slice none 0 0)
theorem SlCells.free {cs:Array Value} {ss:List Sl} (h:SlCells cs ss) {i:Nat} {s:Sl} (hs:ss[i]?=some s):SlCells (setA (cs.setIfInBounds (i * 17+1) (.bool false)) (i * 17+2) recZ.toList) (ss.set i ⟨s.gen,false,Rc.zero,.slice none 0 0,.slice none 0 0⟩):=by
  have hi:=(List.getElem?_eq_some_iff.1 hs).1
  have hsz:=h.1
  refine ⟨by rw [setA_size];simp [h.1],fun k t hk j v hj=>?_⟩
  have hjl:j < 17:=by have:=(List.getElem?_eq_some_iff.1 hj).1;simpa using this
  rw [List.getElem?_set] at hk
  split at hk
  · rename_i hik
    subst hik
    obtain rfl:(⟨s.gen,false,Rc.zero,.slice none 0 0,.slice none 0 0⟩:Sl)=t:=by simpa using hk
    match j,hj,hjl with
    | 0,hj,_ =>
      rw [setA_out _ _ _ _ (.inl (by omega)),Array.getElem?_setIfInBounds_ne (by omega)]
      obtain rfl:Value.int .i64 s.gen=v:=by simpa using hj
      exact h.2 i s hs 0 _ rfl
    | 1,hj,_ =>
      rw [setA_out _ _ _ _ (.inl (by omega))]
      obtain rfl:Value.bool false=v:=by simpa using hj
      have hl:i * 17+1 < cs.size:=by omega
      simp [hl]
    | j+2,hj,hjl =>
      rw [show i * 17+(j+2)=i * 17+2+j by omega]
      exact setA_in _ _ _ j v (by simpa using hj) (by simp;omega)
  · rename_i hne
    rw [setA_out _ _ _ _ (by simp;omega),Array.getElem?_setIfInBounds_ne (by omega)]
    exact h.2 k t hk j v hj
theorem Ar.put2 {w w':World} {a G:Nat} {last:Int} {ss:List Sl} (h:Ar w a G last ss) {i:Nat} {s:Sl} (hi:i < ss.length) (hf:Fr (only G) w w') (hb:∀ cs,Blk w G 147 cs→SlCells cs ss→∃ cs',Blk w' G 147 cs'∧SlCells cs' (ss.set i s)) (ho:RecOwn w' 0 s.R s.vr s.ve) (hg:0≤s.gen∧s.gen≤last) (hz:s.R.rows.length≤1000∧s.R.ents.length≤1000):Ar w' a G last (ss.set i s):=by
  have hne:=h.ne
  obtain ⟨cs,hG,hc⟩:=h.hG
  refine ⟨by rw [List.length_set];exact h.hA.fr hf (only_ne hne),hb cs hG hc,fun k t hk=>?_,h.l40,by rw [List.length_set];exact h.len,fun t ht=>?_,fun t ht=>?_⟩
  · rw [List.getElem?_set] at hk
    split at hk
    · obtain rfl:s=t:=by simpa using hk
      exact ho
    · exact (h.own k t hk).only hf hG (by decide) (by decide)
  · rcases List.mem_or_eq_of_mem_set ht with ht | rfl
    · exact h.gen t ht
    · exact hg
  · rcases List.mem_or_eq_of_mem_set ht with ht | rfl
    · exact h.sz t ht
    · exact hz

section
variable {w:World} {a G:Nat} {last:Int} {ss:List Sl} (sl gn:Int)
theorem free_bad (h:Ar w a G last ss) (hb:atC ss sl gn≠0):Calls Tryz.prog 67 #[.pointer (some ⟨a,0,none⟩),.agg #[.int .i64 sl,.int .i64 gn]] w fun e w'=>e=.returned (errV (atC ss sl gn))∧Fr none_ w w':=by
  have F0:=hid_ ((Fr.refl none_ w).alloc (.cells #[.int .i64 sl,.int .i64 gn] 48))
  have H:=hid_ (h.keep F0.out)
  have Hb:=hid_ hb
  clear h hb
  go_enter Tryz.func67,Tryz.ntmps67
  go_wp2_with fail
  refine (at_bad sl gn H.out Hb.out).mono ?_
  rintro e w1 ⟨rfl,hf1⟩
  have F1:=hid_ (F0.out.then_none hf1)
  clear hf1
  go_wp2
  go_ret
  exact ⟨rfl,F1.out⟩
def FreePost4 (w:World) (a G:Nat) (last:Int) (ss:List Sl) (i:Nat) (s:Sl) (e:Ending) (w':World):Prop:=
  e=.returned .nilIface∧Ar w' a G last (ss.set i ⟨s.gen,false,Rc.zero,.slice none 0 0,.slice none 0 0⟩)∧Fr (only G) w w'
set_option maxHeartbeats 4000000 in
theorem free_ok {i:Nat} {s:Sl} (h:Ar w a G last ss) (hs:ss[i]?=some s) (hi:sl=(i:Int)+1) (hu:s.used=true) (hg:s.gen=gn):Calls Tryz.prog 67 #[.pointer (some ⟨a,0,none⟩),.agg #[.int .i64 sl,.int .i64 gn]] w (FreePost4 w a G last ss i s):=by
 have F0:=hid_ ((Fr.refl none_ w).alloc (.cells #[.int .i64 sl,.int .i64 gn] 48))
 have H:=hid_ (h.keep F0.out)
 have Hs:=hid_ (And.intro hs (And.intro hi (And.intro hu hg)))
 clear h hs hi hu hg
 go_enter Tryz.func67,Tryz.ntmps67
 go_wp2_with fail
 refine (at_ok sl gn H.out Hs.out.1 Hs.out.2.1 Hs.out.2.2.1 Hs.out.2.2.2).mono ?_
 rintro e w1 ⟨rfl,hf1⟩
 have X:=hid_ (H.out.keep hf1)
 have F1:Hid (Fr (only G) w w1):=hid_ ((F0.out.then_none hf1).mono (fun _ _ e=>e.elim))
 clear hf1
 obtain ⟨A,c,B,d,hvr,hve⟩:=(X.out.own i s Hs.out.1).shape
 have hlt:=(List.getElem?_eq_some_iff.1 Hs.out.1).1
 have e1:w1.cell? ⟨G,i * 17+1,none⟩=some (.bool s.used):=X.out.cell Hs.out.1 1 rfl
 have f1:=X.out.frozen (i * 17+1)
 have g0:w1.cell? ⟨G,i * 17+2,none⟩=some (.int .i64 s.R.kind):=by first | exact X.out.cell Hs.out.1 2 rfl | (rw [← hvr];exact X.out.cell Hs.out.1 2 rfl)
 have k0:=X.out.frozen (i * 17+2)
 have g1:w1.cell? ⟨G,i * 17+2+1,none⟩=some (.string s.R.low):=by first | exact X.out.cell Hs.out.1 3 rfl | (rw [← hvr];exact X.out.cell Hs.out.1 3 rfl)
 have k1:=X.out.frozen (i * 17+2+1)
 have g2:w1.cell? ⟨G,i * 17+2+2,none⟩=some (.string s.R.high):=by first | exact X.out.cell Hs.out.1 4 rfl | (rw [← hvr];exact X.out.cell Hs.out.1 4 rfl)
 have k2:=X.out.frozen (i * 17+2+2)
 have g3:w1.cell? ⟨G,i * 17+2+3,none⟩=some (.bool s.R.unb):=by first | exact X.out.cell Hs.out.1 5 rfl | (rw [← hvr];exact X.out.cell Hs.out.1 5 rfl)
 have k3:=X.out.frozen (i * 17+2+3)
 have g4:w1.cell? ⟨G,i * 17+2+4,none⟩=some (.int .i64 s.R.right):=by first | exact X.out.cell Hs.out.1 6 rfl | (rw [← hvr];exact X.out.cell Hs.out.1 6 rfl)
 have k4:=X.out.frozen (i * 17+2+4)
 have g5:w1.cell? ⟨G,i * 17+2+5,none⟩=some s.vr:=by first | exact X.out.cell Hs.out.1 7 rfl | (rw [← hvr];exact X.out.cell Hs.out.1 7 rfl)
 have k5:=X.out.frozen (i * 17+2+5)
 have g6:w1.cell? ⟨G,i * 17+2+6,none⟩=some s.ve:=by first | exact X.out.cell Hs.out.1 8 rfl | (rw [← hvr];exact X.out.cell Hs.out.1 8 rfl)
 have k6:=X.out.frozen (i * 17+2+6)
 have g7:w1.cell? ⟨G,i * 17+2+7,none⟩=some (.string s.R.key):=by first | exact X.out.cell Hs.out.1 9 rfl | (rw [← hvr];exact X.out.cell Hs.out.1 9 rfl)
 have k7:=X.out.frozen (i * 17+2+7)
 have g8:w1.cell? ⟨G,i * 17+2+8,none⟩=some (.string s.R.val):=by first | exact X.out.cell Hs.out.1 10 rfl | (rw [← hvr];exact X.out.cell Hs.out.1 10 rfl)
 have k8:=X.out.frozen (i * 17+2+8)
 have g9:w1.cell? ⟨G,i * 17+2+9,none⟩=some (.int .i64 s.R.page):=by first | exact X.out.cell Hs.out.1 11 rfl | (rw [← hvr];exact X.out.cell Hs.out.1 11 rfl)
 have k9:=X.out.frozen (i * 17+2+9)
 have g10:w1.cell? ⟨G,i * 17+2+10,none⟩=some (.int .i64 s.R.hpage):=by first | exact X.out.cell Hs.out.1 12 rfl | (rw [← hvr];exact X.out.cell Hs.out.1 12 rfl)
 have k10:=X.out.frozen (i * 17+2+10)
 have g11:w1.cell? ⟨G,i * 17+2+11,none⟩=some (.int .i64 s.R.hleft):=by first | exact X.out.cell Hs.out.1 13 rfl | (rw [← hvr];exact X.out.cell Hs.out.1 13 rfl)
 have k11:=X.out.frozen (i * 17+2+11)
 have g12:w1.cell? ⟨G,i * 17+2+12,none⟩=some (.string s.R.hkey):=by first | exact X.out.cell Hs.out.1 14 rfl | (rw [← hvr];exact X.out.cell Hs.out.1 14 rfl)
 have k12:=X.out.frozen (i * 17+2+12)
 have g13:w1.cell? ⟨G,i * 17+2+13,none⟩=some (.int .i64 s.R.nslot):=by first | exact X.out.cell Hs.out.1 15 rfl | (rw [← hvr];exact X.out.cell Hs.out.1 15 rfl)
 have k13:=X.out.frozen (i * 17+2+13)
 have g14:w1.cell? ⟨G,i * 17+2+14,none⟩=some (.int .i64 s.R.ngen):=by first | exact X.out.cell Hs.out.1 16 rfl | (rw [← hvr];exact X.out.cell Hs.out.1 16 rfl)
 have k14:=X.out.frozen (i * 17+2+14)
 have hgl:=X.out.gen s (List.mem_of_getElem? Hs.out.1)
 go_wp2
 go_ret
 change FreePost4 _ _ _ _ _ _ _ _ ((w1.setCell ⟨G,i * 17+1,none⟩ (.bool false)).setCells G (i * 17+2) recZ.toList)
 have h9:Fr (only G) w1 ((w1.setCell ⟨G,i * 17+1,none⟩ (.bool false)).setCells G (i * 17+2) recZ.toList):=Fr.setCells _ _ _ (Fr.only1 w1 ⟨G,i * 17+1,none⟩ _) (.inl (Eq.refl _))
 exact ⟨rfl,X.out.put2 hlt h9 (fun cs hb hc=>⟨_,Blk.setCells _ _ _ _ (hb.set_ _ _),hc.free Hs.out.1⟩) (RecOwn.zero _ 0) hgl ⟨Nat.zero_le _,Nat.zero_le _⟩,F1.out.then_only h9 (.inl (Eq.refl _))⟩
set_option maxHeartbeats 4000000 in
theorem load_bad (h:Ar w a G last ss) (hb:atC ss sl gn≠0):Calls Tryz.prog 61 #[.pointer (some ⟨a,0,none⟩),.agg #[.int .i64 sl,.int .i64 gn]] w fun e w'=>e=.returned (.tuple #[recV Rc.zero (.slice none 0 0) (.slice none 0 0),errV (atC ss sl gn)])∧Fr none_ w w':=by
 have K:=Blk.new (w.alloc (.cells #[.int .i64 sl,.int .i64 gn] 48)) 55 recZ
 rw [World.size_alloc] at K
 have Z0:=hid_ K
 have F0:=hid_ (((Fr.refl none_ w).alloc (.cells #[.int .i64 sl,.int .i64 gn] 48)).alloc (.cells recZ 55))
 clear K
 have H:=hid_ (h.keep F0.out)
 have Hb:=hid_ hb
 clear h hb
 go_enter Tryz.func61,Tryz.ntmps61
 go_wp2_with fail
 refine (at_bad sl gn H.out Hb.out).mono ?_
 rintro e w1 ⟨rfl,hf1⟩
 have F1:=hid_ (F0.out.then_none hf1)
 have Z1:=hid_ (Z0.out.fr hf1 id)
 clear hf1
 have z0:w1.cell? ⟨w.heap.size+1,0,none⟩=some (.int .i64 0):=Z1.out.cell' rfl
 have y0:=Z1.out.frozen 0
 have z1:w1.cell? ⟨w.heap.size+1,1,none⟩=some (.string nilS):=Z1.out.cell' rfl
 have y1:=Z1.out.frozen 1
 have z2:w1.cell? ⟨w.heap.size+1,2,none⟩=some (.string nilS):=Z1.out.cell' rfl
 have y2:=Z1.out.frozen 2
 have z3:w1.cell? ⟨w.heap.size+1,3,none⟩=some (.bool false):=Z1.out.cell' rfl
 have y3:=Z1.out.frozen 3
 have z4:w1.cell? ⟨w.heap.size+1,4,none⟩=some (.int .i64 0):=Z1.out.cell' rfl
 have y4:=Z1.out.frozen 4
 have z5:w1.cell? ⟨w.heap.size+1,5,none⟩=some (.slice none 0 0):=Z1.out.cell' rfl
 have y5:=Z1.out.frozen 5
 have z6:w1.cell? ⟨w.heap.size+1,6,none⟩=some (.slice none 0 0):=Z1.out.cell' rfl
 have y6:=Z1.out.frozen 6
 have z7:w1.cell? ⟨w.heap.size+1,7,none⟩=some (.string nilS):=Z1.out.cell' rfl
 have y7:=Z1.out.frozen 7
 have z8:w1.cell? ⟨w.heap.size+1,8,none⟩=some (.string nilS):=Z1.out.cell' rfl
 have y8:=Z1.out.frozen 8
 have z9:w1.cell? ⟨w.heap.size+1,9,none⟩=some (.int .i64 0):=Z1.out.cell' rfl
 have y9:=Z1.out.frozen 9
 have z10:w1.cell? ⟨w.heap.size+1,10,none⟩=some (.int .i64 0):=Z1.out.cell' rfl
 have y10:=Z1.out.frozen 10
 have z11:w1.cell? ⟨w.heap.size+1,11,none⟩=some (.int .i64 0):=Z1.out.cell' rfl
 have y11:=Z1.out.frozen 11
 have z12:w1.cell? ⟨w.heap.size+1,12,none⟩=some (.string nilS):=Z1.out.cell' rfl
 have y12:=Z1.out.frozen 12
 have z13:w1.cell? ⟨w.heap.size+1,13,none⟩=some (.int .i64 0):=Z1.out.cell' rfl
 have y13:=Z1.out.frozen 13
 have z14:w1.cell? ⟨w.heap.size+1,14,none⟩=some (.int .i64 0):=Z1.out.cell' rfl
 have y14:=Z1.out.frozen 14
 go_wp2
 clear z0 y0 z1 y1 z2 y2 z3 y3 z4 y4 z5 y5 z6 y6 z7 y7 z8 y8 z9 y9 z10 y10 z11 y11 z12 y12 z13 y13 z14 y14
 obtain ⟨qb,qf⟩:=box15 Z1.out (.int .i64 0) (.string nilS) (.string nilS) (.bool false) (.int .i64 0) (.slice none 0 0) (.slice none 0 0) (.string nilS) (.string nilS) (.int .i64 0) (.int .i64 0) (.int .i64 0) (.string nilS) (.int .i64 0) (.int .i64 0)
 have q0:=qb.cell' (i:=0) rfl
 have q1:=qb.cell' (i:=1) rfl
 have q2:=qb.cell' (i:=2) rfl
 have q3:=qb.cell' (i:=3) rfl
 have q4:=qb.cell' (i:=4) rfl
 have q5:=qb.cell' (i:=5) rfl
 have q6:=qb.cell' (i:=6) rfl
 have q7:=qb.cell' (i:=7) rfl
 have q8:=qb.cell' (i:=8) rfl
 have q9:=qb.cell' (i:=9) rfl
 have q10:=qb.cell' (i:=10) rfl
 have q11:=qb.cell' (i:=11) rfl
 have q12:=qb.cell' (i:=12) rfl
 have q13:=qb.cell' (i:=13) rfl
 have q14:=qb.cell' (i:=14) rfl
 refine bodyPost_ret (v:=.tuple #[recV Rc.zero (.slice none 0 0) (.slice none 0 0),errV (atC ss sl gn)]) ?_ rfl ⟨rfl,F1.out.then_only qf (.inr (by omega))⟩
 simp [results,Tryz.results61,go_sem,Rc.zero,q0,q1,q2,q3,q4,q5,q6,q7,q8,q9,q10,q11,q12,q13,q14]
def LoadPost (w:World) (R:Rc) (e:Ending) (w':World):Prop:=
  ∃ A c B d,e=.returned (.tuple #[recV R (.slice A R.rows.length c) (.slice B R.ents.length d),.nilIface])∧RecOwn w' w.heap.size R (.slice A R.rows.length c) (.slice B R.ents.length d)∧Fr none_ w w'
set_option maxHeartbeats 4000000 in
theorem load_ok {i:Nat} {s:Sl} (h:Ar w a G last ss) (hs:ss[i]?=some s) (hi:sl=(i:Int)+1) (hu:s.used=true) (hg:s.gen=gn):Calls Tryz.prog 61 #[.pointer (some ⟨a,0,none⟩),.agg #[.int .i64 sl,.int .i64 gn]] w (LoadPost w s.R):=by
 have K:=Blk.new (w.alloc (.cells #[.int .i64 sl,.int .i64 gn] 48)) 55 recZ
 rw [World.size_alloc] at K
 have Z0:=hid_ K
 have F0:=hid_ (((Fr.refl none_ w).alloc (.cells #[.int .i64 sl,.int .i64 gn] 48)).alloc (.cells recZ 55))
 clear K
 have H:=hid_ (h.keep F0.out)
 have Hs:=hid_ (And.intro hs (And.intro hi (And.intro hu hg)))
 clear h hs hi hu hg
 go_enter Tryz.func61,Tryz.ntmps61
 go_wp2_with fail
 refine (at_ok sl gn H.out Hs.out.1 Hs.out.2.1 Hs.out.2.2.1 Hs.out.2.2.2).mono ?_
 rintro e w1 ⟨rfl,hf1⟩
 have X:=hid_ (H.out.keep hf1)
 have F1:=hid_ (F0.out.then_none hf1)
 have Z1:=hid_ (Z0.out.fr hf1 id)
 clear hf1
 obtain ⟨A,c,B,d,hvr,hve⟩:=(X.out.own i s Hs.out.1).shape
 have hz:=X.out.sz s (List.mem_of_getElem? Hs.out.1)
 have HO:Hid (RecReads w1 s.R A B):=hid_ (by have:=X.out.own i s Hs.out.1;rw [hvr,hve] at this;exact this.reads)
 have g0:w1.cell? ⟨G,i * 17+2,none⟩=some (.int .i64 s.R.kind):=by exact X.out.cell Hs.out.1 2 rfl
 have g1:w1.cell? ⟨G,i * 17+2+1,none⟩=some (.string s.R.low):=by exact X.out.cell Hs.out.1 3 rfl
 have g2:w1.cell? ⟨G,i * 17+2+2,none⟩=some (.string s.R.high):=by exact X.out.cell Hs.out.1 4 rfl
 have g3:w1.cell? ⟨G,i * 17+2+3,none⟩=some (.bool s.R.unb):=by exact X.out.cell Hs.out.1 5 rfl
 have g4:w1.cell? ⟨G,i * 17+2+4,none⟩=some (.int .i64 s.R.right):=by exact X.out.cell Hs.out.1 6 rfl
 have g5:w1.cell? ⟨G,i * 17+2+5,none⟩=some (.slice A s.R.rows.length c):=by rw [← hvr];exact X.out.cell Hs.out.1 7 rfl
 have g6:w1.cell? ⟨G,i * 17+2+6,none⟩=some (.slice B s.R.ents.length d):=by rw [← hve];exact X.out.cell Hs.out.1 8 rfl
 have g7:w1.cell? ⟨G,i * 17+2+7,none⟩=some (.string s.R.key):=by exact X.out.cell Hs.out.1 9 rfl
 have g8:w1.cell? ⟨G,i * 17+2+8,none⟩=some (.string s.R.val):=by exact X.out.cell Hs.out.1 10 rfl
 have g9:w1.cell? ⟨G,i * 17+2+9,none⟩=some (.int .i64 s.R.page):=by exact X.out.cell Hs.out.1 11 rfl
 have g10:w1.cell? ⟨G,i * 17+2+10,none⟩=some (.int .i64 s.R.hpage):=by exact X.out.cell Hs.out.1 12 rfl
 have g11:w1.cell? ⟨G,i * 17+2+11,none⟩=some (.int .i64 s.R.hleft):=by exact X.out.cell Hs.out.1 13 rfl
 have g12:w1.cell? ⟨G,i * 17+2+12,none⟩=some (.string s.R.hkey):=by exact X.out.cell Hs.out.1 14 rfl
 have g13:w1.cell? ⟨G,i * 17+2+13,none⟩=some (.int .i64 s.R.nslot):=by exact X.out.cell Hs.out.1 15 rfl
 have g14:w1.cell? ⟨G,i * 17+2+14,none⟩=some (.int .i64 s.R.ngen):=by exact X.out.cell Hs.out.1 16 rfl
 clear hvr hve
 go_wp2_with (go_at_call 39;refine (clone_ok s.R A c B d _ HO.out hz.1 hz.2).mono ?_;rintro e w5 ⟨A5,c5,B5,d5,rfl,hown,hf5⟩;have O5:=hid_ (hown.base F1.out.size);have F5:=hid_ (F1.out.then_none hf5);have Z5:=hid_ (Z1.out.fr hf5 id);clear hown hf5;have z0:w5.cell? ⟨w.heap.size+1,0,none⟩=some (.int .i64 0):=Z5.out.cell' rfl;have y0:=Z5.out.frozen 0;have z1:w5.cell? ⟨w.heap.size+1,1,none⟩=some (.string nilS):=Z5.out.cell' rfl;have y1:=Z5.out.frozen 1;have z2:w5.cell? ⟨w.heap.size+1,2,none⟩=some (.string nilS):=Z5.out.cell' rfl;have y2:=Z5.out.frozen 2;have z3:w5.cell? ⟨w.heap.size+1,3,none⟩=some (.bool false):=Z5.out.cell' rfl;have y3:=Z5.out.frozen 3;have z4:w5.cell? ⟨w.heap.size+1,4,none⟩=some (.int .i64 0):=Z5.out.cell' rfl;have y4:=Z5.out.frozen 4;have z5:w5.cell? ⟨w.heap.size+1,5,none⟩=some (.slice none 0 0):=Z5.out.cell' rfl;have y5:=Z5.out.frozen 5;have z6:w5.cell? ⟨w.heap.size+1,6,none⟩=some (.slice none 0 0):=Z5.out.cell' rfl;have y6:=Z5.out.frozen 6;have z7:w5.cell? ⟨w.heap.size+1,7,none⟩=some (.string nilS):=Z5.out.cell' rfl;have y7:=Z5.out.frozen 7;have z8:w5.cell? ⟨w.heap.size+1,8,none⟩=some (.string nilS):=Z5.out.cell' rfl;have y8:=Z5.out.frozen 8;have z9:w5.cell? ⟨w.heap.size+1,9,none⟩=some (.int .i64 0):=Z5.out.cell' rfl;have y9:=Z5.out.frozen 9;have z10:w5.cell? ⟨w.heap.size+1,10,none⟩=some (.int .i64 0):=Z5.out.cell' rfl;have y10:=Z5.out.frozen 10;have z11:w5.cell? ⟨w.heap.size+1,11,none⟩=some (.int .i64 0):=Z5.out.cell' rfl;have y11:=Z5.out.frozen 11;have z12:w5.cell? ⟨w.heap.size+1,12,none⟩=some (.string nilS):=Z5.out.cell' rfl;have y12:=Z5.out.frozen 12;have z13:w5.cell? ⟨w.heap.size+1,13,none⟩=some (.int .i64 0):=Z5.out.cell' rfl;have y13:=Z5.out.frozen 13;have z14:w5.cell? ⟨w.heap.size+1,14,none⟩=some (.int .i64 0):=Z5.out.cell' rfl;have y14:=Z5.out.frozen 14)
 clear z0 y0 z1 y1 z2 y2 z3 y3 z4 y4 z5 y5 z6 y6 z7 y7 z8 y8 z9 y9 z10 y10 z11 y11 z12 y12 z13 y13 z14 y14
 obtain ⟨qb,qf⟩:=box15 Z5.out (.int .i64 s.R.kind) (.string s.R.low) (.string s.R.high) (.bool s.R.unb) (.int .i64 s.R.right) (.slice A5 s.R.rows.length c5) (.slice B5 s.R.ents.length d5) (.string s.R.key) (.string s.R.val) (.int .i64 s.R.page) (.int .i64 s.R.hpage) (.int .i64 s.R.hleft) (.string s.R.hkey) (.int .i64 s.R.nslot) (.int .i64 s.R.ngen)
 have q0:=qb.cell' (i:=0) rfl
 have q1:=qb.cell' (i:=1) rfl
 have q2:=qb.cell' (i:=2) rfl
 have q3:=qb.cell' (i:=3) rfl
 have q4:=qb.cell' (i:=4) rfl
 have q5:=qb.cell' (i:=5) rfl
 have q6:=qb.cell' (i:=6) rfl
 have q7:=qb.cell' (i:=7) rfl
 have q8:=qb.cell' (i:=8) rfl
 have q9:=qb.cell' (i:=9) rfl
 have q10:=qb.cell' (i:=10) rfl
 have q11:=qb.cell' (i:=11) rfl
 have q12:=qb.cell' (i:=12) rfl
 have q13:=qb.cell' (i:=13) rfl
 have q14:=qb.cell' (i:=14) rfl
 refine bodyPost_ret (v:=.tuple #[recV s.R (.slice A5 s.R.rows.length c5) (.slice B5 s.R.ents.length d5),.nilIface]) ?_ rfl ⟨_,_,_,_,rfl,O5.out.only qf Z5.out (by decide) (by decide),F5.out.then_only qf (.inr (by omega))⟩
 simp [results,Tryz.results61,go_sem,q0,q1,q2,q3,q4,q5,q6,q7,q8,q9,q10,q11,q12,q13,q14]
end
end Go.Proofs.YthcpccddcgbanaaGreatDoor
