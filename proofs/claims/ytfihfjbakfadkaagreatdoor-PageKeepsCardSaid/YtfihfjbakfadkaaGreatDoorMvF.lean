/- Texts of one proof, merged: Up. -/
import Derived.BigRegion
import Derived.Test.YtfihfjbakfadkaaGreatDoorMvD
namespace Go.Proofs.YtfihfjbakfadkaaGreatDoor
open Go.RowKit Go.BigFrame
set_option maxRecDepth 100000
set_option linter.unusedVariables false

theorem vin_of_own {w:World} {b n c:Nat} {A:Option Addr} {V:Vw} (h:w.ownsRow b 59 2 (.slice A n c) n (etFlat V.ents)) (hn:V.ents.length=n) (ho:V.Ok):VwIn w V A c:=by
  subst hn
  obtain ⟨A',c',e,h1,h2,_⟩:=own_parts h
  have e1:A=A'∧c=c':=by injection e with e1 e2 e3;exact ⟨e1,e3⟩
  obtain ⟨rfl,rfl⟩:=e1
  exact ⟨Reads.of_own h,h1,h2,ho⟩
def putL (L:List Et) (n:Nat) (p:Et):List Et:=L.take n ++ [p] ++ L.drop n
theorem putL_len {L:List Et} {n:Nat} (p:Et) (h:n≤L.length):(putL L n p).length=L.length+1:=by
  simp [putL];omega
theorem putL_ok {L:List Et} {n:Nat} {p:Et} (h:EtsOk L) (hn:n≤L.length) (hl:L.length < 1000) (hp:SzOk p.1):EtsOk (putL L n p):=by
  refine ⟨by rw [putL_len p hn];omega,fun q hq=>?_⟩
  simp only [putL,List.mem_append,List.mem_cons,List.not_mem_nil,or_false] at hq
  rcases hq with (hq | rfl) | hq
  · exact h.2 q (List.mem_of_mem_take hq)
  · exact hp
  · exact h.2 q (List.mem_of_mem_drop hq)
def upM (V:Vw) (R:Rc):Option Vw:=
  if R.kind=8∧V.held=false then
    if atB V.ents R.key=true∨inS V.low V.high V.unb R.key=false then none
    else some { V with ents:=putL V.ents (plN V.ents R.key) (R.key,R.page) }
  else if R.kind=9∧V.held=false then
    if atB V.ents R.key=false∨plN V.ents R.key=0 then none
    else some { V with ents:=V.ents.take (plN V.ents R.key),high:=R.key,unb:=false,right:=R.page }
  else if R.kind=10∧V.held=false then
    if atB V.ents R.hkey=false∨plN V.ents R.hkey=0∨(V.ents[plN V.ents R.hkey]?.map (·.2))≠some R.hpage∨(V.ents[plN V.ents R.hkey - 1]?.map (·.2))≠some R.hleft then none
    else some { V with held:=true,hp:=R.hpage,hl:=R.hleft,hk:=R.hkey }
  else if R.kind=11∧V.held=true then
    some { V with ents:=V.ents.take (plN V.ents V.hk) ++ V.ents.drop (plN V.ents V.hk+1),held:=false,hp:=0,hl:=0,hk:=nilS }
  else none
def UpPost (V:Vw) (R:Rc) (A:Option Addr) (c:Nat) (w:World) (e:Ending) (w':World):Prop:=
  (∃ V' A' c',upM V R=some V'∧e=.returned (.tuple #[vwV V' (.slice A' V'.ents.length c'),.bool true])∧VwIn w' V' A' c'∧Fr none_ w w') ∨
  (upM V R=none∧e=.returned (.tuple #[vwV V (.slice A V.ents.length c),.bool false])∧Fr none_ w w')
structure UpSt (w w':World) (V:Vw) (R:Rc) (A:Option Addr) (c:Nat) (vr ve:Value):Prop where
  bv:Blk w' w.heap.size 38 (vwA V (.slice A V.ents.length c))
  br:Blk w' (w.heap.size+1) 33 (recA R vr ve)
  bo:Blk w' (w.heap.size+1+1) 38 (vwA Vw.zero (.slice none 0 0))
  vin:VwIn w' V A c
  fr:Fr none_ w w'
theorem UpSt.keep {w w1 w2:World} {V:Vw} {R:Rc} {A:Option Addr} {c:Nat} {vr ve:Value} (h:UpSt w w1 V R A c vr ve) (hf:Fr none_ w1 w2):UpSt w w2 V R A c vr ve:=
  ⟨h.bv.fr hf id,h.br.fr hf id,h.bo.fr hf id,h.vin.keep hf,h.fr.then_none hf⟩
theorem up_start (V:Vw) (R:Rc) (A:Option Addr) (c:Nat) (vr ve:Value) (w:World) (h:VwIn w V A c) :
    UpSt w (((w.alloc (.cells (vwA V (.slice A V.ents.length c)) 38)).alloc (.cells (recA R vr ve) 33)).alloc (.cells (vwA Vw.zero (.slice none 0 0)) 38)) V R A c vr ve:=by
  have k1:=Blk.new (w.alloc (.cells (vwA V (.slice A V.ents.length c)) 38)) 33 (recA R vr ve)
  have k2:=Blk.new ((w.alloc (.cells (vwA V (.slice A V.ents.length c)) 38)).alloc (.cells (recA R vr ve) 33)) 38 (vwA Vw.zero (.slice none 0 0))
  rw [World.size_alloc] at k1
  simp only [World.size_alloc] at k2
  have f:=(((Fr.refl none_ w).alloc (.cells (vwA V (.slice A V.ents.length c)) 38)).alloc (.cells (recA R vr ve) 33)).alloc (.cells (vwA Vw.zero (.slice none 0 0)) 38)
  exact ⟨((Blk.new w _ _).alloc _).alloc _,k1.alloc _,k2,h.keep f,f⟩

set_option maxHeartbeats 4000000 in
theorem up_no8a (V:Vw) (R:Rc) (A:Option Addr) (c:Nat) (vr ve:Value) (w:World) (h:VwIn w V A c) (hl:V.ents.length < 1000) (hk:SzOk R.key∧SzOk R.hkey) (h8:R.kind=8) (hh:V.held=false) (hat:atB V.ents R.key=true) :
  Calls Tryz.prog 70 #[vwV V (.slice A V.ents.length c),recV R vr ve] w (UpPost V R A c w):=by
 have U:=hid_ (up_start V R A c vr ve w h)
 obtain ⟨w0,hw0⟩:∃ w0,w0=((w.alloc (.cells (vwA V (.slice A V.ents.length c)) 38)).alloc (.cells (recA R vr ve) 33)).alloc (.cells (vwA Vw.zero (.slice none 0 0)) 38):=⟨_,rfl⟩
 rw [← hw0] at U
 have HK:=hid_ hk
 have hple:=plN_le V.ents R.key
 have OK:=hid_ h.ok
 have CAP:=hid_ (And.intro h.cap h.capm)
 have OLD:Hid (0 < V.ents.length→∀ ad,A=some ad→ad.block < w.heap.size):=hid_ (fun hn=>h.rd.old (by omega) hn)
 clear h hk
 have HUP:Hid (upM V R=none):=hid_ (by unfold upM;rw [if_pos ⟨h8,hh⟩,if_pos (.inl hat)])
 have H_h8:=hid_ h8
 clear h8
 have H_hh:=hid_ hh
 clear hh
 have H_hat:=hid_ hat
 clear hat
 go_enter Tryz.func70,Tryz.ntmps70
 go_wp2_with fail
 change Calls _ _ _ (((w.alloc (.cells (vwA V (.slice A V.ents.length c)) 38)).alloc (.cells (recA R vr ve) 33)).alloc (.cells (vwA Vw.zero (.slice none 0 0)) 38)) _
 rw [← hw0]
 refine (place_ok V A c R.key _ U.out.vin HK.out.1).mono ?_
 rintro e w1 ⟨rfl,hf1⟩
 have U1:=hid_ (U.out.keep hf1)
 clear hf1 U hw0
 rw [H_hat.out]
 have r0:w1.cell? ⟨w.heap.size+1,0,none⟩=some (.int .i64 R.kind):=U1.out.br.cell' rfl
 rw [H_h8.out] at r0
 have v0:w1.cell? ⟨w.heap.size,0,none⟩=some (.string V.low):=U1.out.bv.cell' rfl
 have v1:w1.cell? ⟨w.heap.size,1,none⟩=some (.string V.high):=U1.out.bv.cell' rfl
 have v2:w1.cell? ⟨w.heap.size,2,none⟩=some (.bool V.unb):=U1.out.bv.cell' rfl
 have v3:w1.cell? ⟨w.heap.size,3,none⟩=some (.int .i64 V.right):=U1.out.bv.cell' rfl
 have v4:w1.cell? ⟨w.heap.size,4,none⟩=some (.slice A V.ents.length c):=U1.out.bv.cell' rfl
 have v5:w1.cell? ⟨w.heap.size,5,none⟩=some (.bool V.held):=U1.out.bv.cell' rfl
 have v6:w1.cell? ⟨w.heap.size,6,none⟩=some (.int .i64 V.hp):=U1.out.bv.cell' rfl
 have v7:w1.cell? ⟨w.heap.size,7,none⟩=some (.int .i64 V.hl):=U1.out.bv.cell' rfl
 have v8:w1.cell? ⟨w.heap.size,8,none⟩=some (.string V.hk):=U1.out.bv.cell' rfl
 have s0:w1.cell? ⟨w.heap.size+1+1,0,none⟩=some (.string nilS):=U1.out.bo.cell' rfl
 have z0:=U1.out.bo.frozen 0
 have s1:w1.cell? ⟨w.heap.size+1+1,1,none⟩=some (.string nilS):=U1.out.bo.cell' rfl
 have z1:=U1.out.bo.frozen 1
 have s2:w1.cell? ⟨w.heap.size+1+1,2,none⟩=some (.bool false):=U1.out.bo.cell' rfl
 have z2:=U1.out.bo.frozen 2
 have s3:w1.cell? ⟨w.heap.size+1+1,3,none⟩=some (.int .i64 0):=U1.out.bo.cell' rfl
 have z3:=U1.out.bo.frozen 3
 have s4:w1.cell? ⟨w.heap.size+1+1,4,none⟩=some (.slice none 0 0):=U1.out.bo.cell' rfl
 have z4:=U1.out.bo.frozen 4
 have s5:w1.cell? ⟨w.heap.size+1+1,5,none⟩=some (.bool false):=U1.out.bo.cell' rfl
 have z5:=U1.out.bo.frozen 5
 have s6:w1.cell? ⟨w.heap.size+1+1,6,none⟩=some (.int .i64 0):=U1.out.bo.cell' rfl
 have z6:=U1.out.bo.frozen 6
 have s7:w1.cell? ⟨w.heap.size+1+1,7,none⟩=some (.int .i64 0):=U1.out.bo.cell' rfl
 have z7:=U1.out.bo.frozen 7
 have s8:w1.cell? ⟨w.heap.size+1+1,8,none⟩=some (.string nilS):=U1.out.bo.cell' rfl
 have z8:=U1.out.bo.frozen 8
 rw [H_hh.out] at v5
 go_wp2_with fail
 clear v0 s0 z0 v1 s1 z1 v2 s2 z2 v3 s3 z3 v4 s4 z4 v5 s5 z5 v6 s6 z6 v7 s7 z7 v8 s8 z8
 obtain ⟨qb,qf⟩:=box9 U1.out.bo (.string V.low) (.string V.high) (.bool V.unb) (.int .i64 V.right) (.slice A V.ents.length c) (.bool false) (.int .i64 V.hp) (.int .i64 V.hl) (.string V.hk)
 have q0:=qb.cell' (i:=0) rfl
 have q1:=qb.cell' (i:=1) rfl
 have q2:=qb.cell' (i:=2) rfl
 have q3:=qb.cell' (i:=3) rfl
 have q4:=qb.cell' (i:=4) rfl
 have q5:=qb.cell' (i:=5) rfl
 have q6:=qb.cell' (i:=6) rfl
 have q7:=qb.cell' (i:=7) rfl
 have q8:=qb.cell' (i:=8) rfl
 refine bodyPost_ret (v:=.tuple #[vwV V (.slice A V.ents.length c),.bool false]) ?_ rfl (.inr ⟨HUP.out,rfl,U1.out.fr.then_only qf (.inr (by omega))⟩)
 simp [results,Tryz.results70,go_sem,H_hh.out,q0,q1,q2,q3,q4,q5,q6,q7,q8]
set_option maxHeartbeats 4000000 in
theorem up_no8b (V:Vw) (R:Rc) (A:Option Addr) (c:Nat) (vr ve:Value) (w:World) (h:VwIn w V A c) (hl:V.ents.length < 1000) (hk:SzOk R.key∧SzOk R.hkey) (h8:R.kind=8) (hh:V.held=false) (hat:atB V.ents R.key=false) (hin:inS V.low V.high V.unb R.key=false) :
  Calls Tryz.prog 70 #[vwV V (.slice A V.ents.length c),recV R vr ve] w (UpPost V R A c w):=by
 have U:=hid_ (up_start V R A c vr ve w h)
 obtain ⟨w0,hw0⟩:∃ w0,w0=((w.alloc (.cells (vwA V (.slice A V.ents.length c)) 38)).alloc (.cells (recA R vr ve) 33)).alloc (.cells (vwA Vw.zero (.slice none 0 0)) 38):=⟨_,rfl⟩
 rw [← hw0] at U
 have HK:=hid_ hk
 have hple:=plN_le V.ents R.key
 have OK:=hid_ h.ok
 have CAP:=hid_ (And.intro h.cap h.capm)
 have OLD:Hid (0 < V.ents.length→∀ ad,A=some ad→ad.block < w.heap.size):=hid_ (fun hn=>h.rd.old (by omega) hn)
 clear h hk
 have HUP:Hid (upM V R=none):=hid_ (by unfold upM;rw [if_pos ⟨h8,hh⟩,if_pos (.inr hin)])
 have H_h8:=hid_ h8
 clear h8
 have H_hh:=hid_ hh
 clear hh
 have H_hat:=hid_ hat
 clear hat
 have H_hin:=hid_ hin
 clear hin
 go_enter Tryz.func70,Tryz.ntmps70
 go_wp2_with fail
 change Calls _ _ _ (((w.alloc (.cells (vwA V (.slice A V.ents.length c)) 38)).alloc (.cells (recA R vr ve) 33)).alloc (.cells (vwA Vw.zero (.slice none 0 0)) 38)) _
 rw [← hw0]
 refine (place_ok V A c R.key _ U.out.vin HK.out.1).mono ?_
 rintro e w1 ⟨rfl,hf1⟩
 have U1:=hid_ (U.out.keep hf1)
 clear hf1 U hw0
 rw [H_hat.out]
 have r0:w1.cell? ⟨w.heap.size+1,0,none⟩=some (.int .i64 R.kind):=U1.out.br.cell' rfl
 have r7:w1.cell? ⟨w.heap.size+1,7,none⟩=some (.string R.key):=U1.out.br.cell' rfl
 have v0:w1.cell? ⟨w.heap.size,0,none⟩=some (.string V.low):=U1.out.bv.cell' rfl
 have v1:w1.cell? ⟨w.heap.size,1,none⟩=some (.string V.high):=U1.out.bv.cell' rfl
 have v2:w1.cell? ⟨w.heap.size,2,none⟩=some (.bool V.unb):=U1.out.bv.cell' rfl
 have v3:w1.cell? ⟨w.heap.size,3,none⟩=some (.int .i64 V.right):=U1.out.bv.cell' rfl
 have v4:w1.cell? ⟨w.heap.size,4,none⟩=some (.slice A V.ents.length c):=U1.out.bv.cell' rfl
 have v5:w1.cell? ⟨w.heap.size,5,none⟩=some (.bool V.held):=U1.out.bv.cell' rfl
 have v6:w1.cell? ⟨w.heap.size,6,none⟩=some (.int .i64 V.hp):=U1.out.bv.cell' rfl
 have v7:w1.cell? ⟨w.heap.size,7,none⟩=some (.int .i64 V.hl):=U1.out.bv.cell' rfl
 have v8:w1.cell? ⟨w.heap.size,8,none⟩=some (.string V.hk):=U1.out.bv.cell' rfl
 rw [H_h8.out] at r0
 rw [H_hh.out] at v5
 go_wp2_with fail
 refine (vin_ok { V with held:=false } _ R.key _ OK.out.low OK.out.high HK.out.1).mono ?_
 rintro e w2 ⟨rfl,hf2⟩
 rw [show inS V.low V.high V.unb R.key=false from H_hin.out]
 have U2:=hid_ (U1.out.keep hf2)
 clear hf2 r0 r7 v0 v1 v2 v3 v4 v5 v6 v7 v8
 have v0:w2.cell? ⟨w.heap.size,0,none⟩=some (.string V.low):=U2.out.bv.cell' rfl
 have v1:w2.cell? ⟨w.heap.size,1,none⟩=some (.string V.high):=U2.out.bv.cell' rfl
 have v2:w2.cell? ⟨w.heap.size,2,none⟩=some (.bool V.unb):=U2.out.bv.cell' rfl
 have v3:w2.cell? ⟨w.heap.size,3,none⟩=some (.int .i64 V.right):=U2.out.bv.cell' rfl
 have v4:w2.cell? ⟨w.heap.size,4,none⟩=some (.slice A V.ents.length c):=U2.out.bv.cell' rfl
 have v5:w2.cell? ⟨w.heap.size,5,none⟩=some (.bool V.held):=U2.out.bv.cell' rfl
 have v6:w2.cell? ⟨w.heap.size,6,none⟩=some (.int .i64 V.hp):=U2.out.bv.cell' rfl
 have v7:w2.cell? ⟨w.heap.size,7,none⟩=some (.int .i64 V.hl):=U2.out.bv.cell' rfl
 have v8:w2.cell? ⟨w.heap.size,8,none⟩=some (.string V.hk):=U2.out.bv.cell' rfl
 have s0:w2.cell? ⟨w.heap.size+1+1,0,none⟩=some (.string nilS):=U2.out.bo.cell' rfl
 have z0:=U2.out.bo.frozen 0
 have s1:w2.cell? ⟨w.heap.size+1+1,1,none⟩=some (.string nilS):=U2.out.bo.cell' rfl
 have z1:=U2.out.bo.frozen 1
 have s2:w2.cell? ⟨w.heap.size+1+1,2,none⟩=some (.bool false):=U2.out.bo.cell' rfl
 have z2:=U2.out.bo.frozen 2
 have s3:w2.cell? ⟨w.heap.size+1+1,3,none⟩=some (.int .i64 0):=U2.out.bo.cell' rfl
 have z3:=U2.out.bo.frozen 3
 have s4:w2.cell? ⟨w.heap.size+1+1,4,none⟩=some (.slice none 0 0):=U2.out.bo.cell' rfl
 have z4:=U2.out.bo.frozen 4
 have s5:w2.cell? ⟨w.heap.size+1+1,5,none⟩=some (.bool false):=U2.out.bo.cell' rfl
 have z5:=U2.out.bo.frozen 5
 have s6:w2.cell? ⟨w.heap.size+1+1,6,none⟩=some (.int .i64 0):=U2.out.bo.cell' rfl
 have z6:=U2.out.bo.frozen 6
 have s7:w2.cell? ⟨w.heap.size+1+1,7,none⟩=some (.int .i64 0):=U2.out.bo.cell' rfl
 have z7:=U2.out.bo.frozen 7
 have s8:w2.cell? ⟨w.heap.size+1+1,8,none⟩=some (.string nilS):=U2.out.bo.cell' rfl
 have z8:=U2.out.bo.frozen 8
 rw [H_hh.out] at v5
 go_wp2_with fail
 clear v0 s0 z0 v1 s1 z1 v2 s2 z2 v3 s3 z3 v4 s4 z4 v5 s5 z5 v6 s6 z6 v7 s7 z7 v8 s8 z8
 obtain ⟨qb,qf⟩:=box9 U2.out.bo (.string V.low) (.string V.high) (.bool V.unb) (.int .i64 V.right) (.slice A V.ents.length c) (.bool false) (.int .i64 V.hp) (.int .i64 V.hl) (.string V.hk)
 have q0:=qb.cell' (i:=0) rfl
 have q1:=qb.cell' (i:=1) rfl
 have q2:=qb.cell' (i:=2) rfl
 have q3:=qb.cell' (i:=3) rfl
 have q4:=qb.cell' (i:=4) rfl
 have q5:=qb.cell' (i:=5) rfl
 have q6:=qb.cell' (i:=6) rfl
 have q7:=qb.cell' (i:=7) rfl
 have q8:=qb.cell' (i:=8) rfl
 refine bodyPost_ret (v:=.tuple #[vwV V (.slice A V.ents.length c),.bool false]) ?_ rfl (.inr ⟨HUP.out,rfl,U2.out.fr.then_only qf (.inr (by omega))⟩)
 simp [results,Tryz.results70,go_sem,H_hh.out,q0,q1,q2,q3,q4,q5,q6,q7,q8]
set_option maxHeartbeats 4000000 in
theorem up_no9a (V:Vw) (R:Rc) (A:Option Addr) (c:Nat) (vr ve:Value) (w:World) (h:VwIn w V A c) (hl:V.ents.length < 1000) (hk:SzOk R.key∧SzOk R.hkey) (h9:R.kind=9) (hh:V.held=false) (hat:atB V.ents R.key=false) :
  Calls Tryz.prog 70 #[vwV V (.slice A V.ents.length c),recV R vr ve] w (UpPost V R A c w):=by
 have U:=hid_ (up_start V R A c vr ve w h)
 obtain ⟨w0,hw0⟩:∃ w0,w0=((w.alloc (.cells (vwA V (.slice A V.ents.length c)) 38)).alloc (.cells (recA R vr ve) 33)).alloc (.cells (vwA Vw.zero (.slice none 0 0)) 38):=⟨_,rfl⟩
 rw [← hw0] at U
 have HK:=hid_ hk
 have hple:=plN_le V.ents R.key
 have OK:=hid_ h.ok
 have CAP:=hid_ (And.intro h.cap h.capm)
 have OLD:Hid (0 < V.ents.length→∀ ad,A=some ad→ad.block < w.heap.size):=hid_ (fun hn=>h.rd.old (by omega) hn)
 clear h hk
 have HUP:Hid (upM V R=none):=hid_ (by unfold upM;rw [if_neg (by rw [h9];omega),if_pos ⟨h9,hh⟩,if_pos (.inl hat)])
 have H_h9:=hid_ h9
 clear h9
 have H_hh:=hid_ hh
 clear hh
 have H_hat:=hid_ hat
 clear hat
 go_enter Tryz.func70,Tryz.ntmps70
 go_wp2_with fail
 change Calls _ _ _ (((w.alloc (.cells (vwA V (.slice A V.ents.length c)) 38)).alloc (.cells (recA R vr ve) 33)).alloc (.cells (vwA Vw.zero (.slice none 0 0)) 38)) _
 rw [← hw0]
 refine (place_ok V A c R.key _ U.out.vin HK.out.1).mono ?_
 rintro e w1 ⟨rfl,hf1⟩
 have U1:=hid_ (U.out.keep hf1)
 clear hf1 U hw0
 rw [H_hat.out]
 have r0:w1.cell? ⟨w.heap.size+1,0,none⟩=some (.int .i64 R.kind):=U1.out.br.cell' rfl
 rw [H_h9.out] at r0
 have v0:w1.cell? ⟨w.heap.size,0,none⟩=some (.string V.low):=U1.out.bv.cell' rfl
 have v1:w1.cell? ⟨w.heap.size,1,none⟩=some (.string V.high):=U1.out.bv.cell' rfl
 have v2:w1.cell? ⟨w.heap.size,2,none⟩=some (.bool V.unb):=U1.out.bv.cell' rfl
 have v3:w1.cell? ⟨w.heap.size,3,none⟩=some (.int .i64 V.right):=U1.out.bv.cell' rfl
 have v4:w1.cell? ⟨w.heap.size,4,none⟩=some (.slice A V.ents.length c):=U1.out.bv.cell' rfl
 have v5:w1.cell? ⟨w.heap.size,5,none⟩=some (.bool V.held):=U1.out.bv.cell' rfl
 have v6:w1.cell? ⟨w.heap.size,6,none⟩=some (.int .i64 V.hp):=U1.out.bv.cell' rfl
 have v7:w1.cell? ⟨w.heap.size,7,none⟩=some (.int .i64 V.hl):=U1.out.bv.cell' rfl
 have v8:w1.cell? ⟨w.heap.size,8,none⟩=some (.string V.hk):=U1.out.bv.cell' rfl
 have s0:w1.cell? ⟨w.heap.size+1+1,0,none⟩=some (.string nilS):=U1.out.bo.cell' rfl
 have z0:=U1.out.bo.frozen 0
 have s1:w1.cell? ⟨w.heap.size+1+1,1,none⟩=some (.string nilS):=U1.out.bo.cell' rfl
 have z1:=U1.out.bo.frozen 1
 have s2:w1.cell? ⟨w.heap.size+1+1,2,none⟩=some (.bool false):=U1.out.bo.cell' rfl
 have z2:=U1.out.bo.frozen 2
 have s3:w1.cell? ⟨w.heap.size+1+1,3,none⟩=some (.int .i64 0):=U1.out.bo.cell' rfl
 have z3:=U1.out.bo.frozen 3
 have s4:w1.cell? ⟨w.heap.size+1+1,4,none⟩=some (.slice none 0 0):=U1.out.bo.cell' rfl
 have z4:=U1.out.bo.frozen 4
 have s5:w1.cell? ⟨w.heap.size+1+1,5,none⟩=some (.bool false):=U1.out.bo.cell' rfl
 have z5:=U1.out.bo.frozen 5
 have s6:w1.cell? ⟨w.heap.size+1+1,6,none⟩=some (.int .i64 0):=U1.out.bo.cell' rfl
 have z6:=U1.out.bo.frozen 6
 have s7:w1.cell? ⟨w.heap.size+1+1,7,none⟩=some (.int .i64 0):=U1.out.bo.cell' rfl
 have z7:=U1.out.bo.frozen 7
 have s8:w1.cell? ⟨w.heap.size+1+1,8,none⟩=some (.string nilS):=U1.out.bo.cell' rfl
 have z8:=U1.out.bo.frozen 8
 rw [H_hh.out] at v5
 go_wp2_with fail
 clear v0 s0 z0 v1 s1 z1 v2 s2 z2 v3 s3 z3 v4 s4 z4 v5 s5 z5 v6 s6 z6 v7 s7 z7 v8 s8 z8
 obtain ⟨qb,qf⟩:=box9 U1.out.bo (.string V.low) (.string V.high) (.bool V.unb) (.int .i64 V.right) (.slice A V.ents.length c) (.bool false) (.int .i64 V.hp) (.int .i64 V.hl) (.string V.hk)
 have q0:=qb.cell' (i:=0) rfl
 have q1:=qb.cell' (i:=1) rfl
 have q2:=qb.cell' (i:=2) rfl
 have q3:=qb.cell' (i:=3) rfl
 have q4:=qb.cell' (i:=4) rfl
 have q5:=qb.cell' (i:=5) rfl
 have q6:=qb.cell' (i:=6) rfl
 have q7:=qb.cell' (i:=7) rfl
 have q8:=qb.cell' (i:=8) rfl
 refine bodyPost_ret (v:=.tuple #[vwV V (.slice A V.ents.length c),.bool false]) ?_ rfl (.inr ⟨HUP.out,rfl,U1.out.fr.then_only qf (.inr (by omega))⟩)
 simp [results,Tryz.results70,go_sem,H_hh.out,q0,q1,q2,q3,q4,q5,q6,q7,q8]
set_option maxHeartbeats 4000000 in
theorem up_no9b (V:Vw) (R:Rc) (A:Option Addr) (c:Nat) (vr ve:Value) (w:World) (h:VwIn w V A c) (hl:V.ents.length < 1000) (hk:SzOk R.key∧SzOk R.hkey) (h9:R.kind=9) (hh:V.held=false) (hat:atB V.ents R.key=true) (hn:plN V.ents R.key=0) :
  Calls Tryz.prog 70 #[vwV V (.slice A V.ents.length c),recV R vr ve] w (UpPost V R A c w):=by
 have U:=hid_ (up_start V R A c vr ve w h)
 obtain ⟨w0,hw0⟩:∃ w0,w0=((w.alloc (.cells (vwA V (.slice A V.ents.length c)) 38)).alloc (.cells (recA R vr ve) 33)).alloc (.cells (vwA Vw.zero (.slice none 0 0)) 38):=⟨_,rfl⟩
 rw [← hw0] at U
 have HK:=hid_ hk
 have hple:=plN_le V.ents R.key
 have OK:=hid_ h.ok
 have CAP:=hid_ (And.intro h.cap h.capm)
 have OLD:Hid (0 < V.ents.length→∀ ad,A=some ad→ad.block < w.heap.size):=hid_ (fun hn=>h.rd.old (by omega) hn)
 clear h hk
 have HUP:Hid (upM V R=none):=hid_ (by unfold upM;rw [if_neg (by rw [h9];omega),if_pos ⟨h9,hh⟩,if_pos (.inr hn)])
 have H_h9:=hid_ h9
 clear h9
 have H_hh:=hid_ hh
 clear hh
 have H_hat:=hid_ hat
 clear hat
 have H_hn:=hid_ hn
 clear hn
 go_enter Tryz.func70,Tryz.ntmps70
 go_wp2_with fail
 change Calls _ _ _ (((w.alloc (.cells (vwA V (.slice A V.ents.length c)) 38)).alloc (.cells (recA R vr ve) 33)).alloc (.cells (vwA Vw.zero (.slice none 0 0)) 38)) _
 rw [← hw0]
 refine (place_ok V A c R.key _ U.out.vin HK.out.1).mono ?_
 rintro e w1 ⟨rfl,hf1⟩
 have U1:=hid_ (U.out.keep hf1)
 clear hf1 U hw0
 rw [H_hat.out,H_hn.out]
 have r0:w1.cell? ⟨w.heap.size+1,0,none⟩=some (.int .i64 R.kind):=U1.out.br.cell' rfl
 rw [H_h9.out] at r0
 have v0:w1.cell? ⟨w.heap.size,0,none⟩=some (.string V.low):=U1.out.bv.cell' rfl
 have v1:w1.cell? ⟨w.heap.size,1,none⟩=some (.string V.high):=U1.out.bv.cell' rfl
 have v2:w1.cell? ⟨w.heap.size,2,none⟩=some (.bool V.unb):=U1.out.bv.cell' rfl
 have v3:w1.cell? ⟨w.heap.size,3,none⟩=some (.int .i64 V.right):=U1.out.bv.cell' rfl
 have v4:w1.cell? ⟨w.heap.size,4,none⟩=some (.slice A V.ents.length c):=U1.out.bv.cell' rfl
 have v5:w1.cell? ⟨w.heap.size,5,none⟩=some (.bool V.held):=U1.out.bv.cell' rfl
 have v6:w1.cell? ⟨w.heap.size,6,none⟩=some (.int .i64 V.hp):=U1.out.bv.cell' rfl
 have v7:w1.cell? ⟨w.heap.size,7,none⟩=some (.int .i64 V.hl):=U1.out.bv.cell' rfl
 have v8:w1.cell? ⟨w.heap.size,8,none⟩=some (.string V.hk):=U1.out.bv.cell' rfl
 have s0:w1.cell? ⟨w.heap.size+1+1,0,none⟩=some (.string nilS):=U1.out.bo.cell' rfl
 have z0:=U1.out.bo.frozen 0
 have s1:w1.cell? ⟨w.heap.size+1+1,1,none⟩=some (.string nilS):=U1.out.bo.cell' rfl
 have z1:=U1.out.bo.frozen 1
 have s2:w1.cell? ⟨w.heap.size+1+1,2,none⟩=some (.bool false):=U1.out.bo.cell' rfl
 have z2:=U1.out.bo.frozen 2
 have s3:w1.cell? ⟨w.heap.size+1+1,3,none⟩=some (.int .i64 0):=U1.out.bo.cell' rfl
 have z3:=U1.out.bo.frozen 3
 have s4:w1.cell? ⟨w.heap.size+1+1,4,none⟩=some (.slice none 0 0):=U1.out.bo.cell' rfl
 have z4:=U1.out.bo.frozen 4
 have s5:w1.cell? ⟨w.heap.size+1+1,5,none⟩=some (.bool false):=U1.out.bo.cell' rfl
 have z5:=U1.out.bo.frozen 5
 have s6:w1.cell? ⟨w.heap.size+1+1,6,none⟩=some (.int .i64 0):=U1.out.bo.cell' rfl
 have z6:=U1.out.bo.frozen 6
 have s7:w1.cell? ⟨w.heap.size+1+1,7,none⟩=some (.int .i64 0):=U1.out.bo.cell' rfl
 have z7:=U1.out.bo.frozen 7
 have s8:w1.cell? ⟨w.heap.size+1+1,8,none⟩=some (.string nilS):=U1.out.bo.cell' rfl
 have z8:=U1.out.bo.frozen 8
 rw [H_hh.out] at v5
 go_wp2_with fail
 clear v0 s0 z0 v1 s1 z1 v2 s2 z2 v3 s3 z3 v4 s4 z4 v5 s5 z5 v6 s6 z6 v7 s7 z7 v8 s8 z8
 obtain ⟨qb,qf⟩:=box9 U1.out.bo (.string V.low) (.string V.high) (.bool V.unb) (.int .i64 V.right) (.slice A V.ents.length c) (.bool false) (.int .i64 V.hp) (.int .i64 V.hl) (.string V.hk)
 have q0:=qb.cell' (i:=0) rfl
 have q1:=qb.cell' (i:=1) rfl
 have q2:=qb.cell' (i:=2) rfl
 have q3:=qb.cell' (i:=3) rfl
 have q4:=qb.cell' (i:=4) rfl
 have q5:=qb.cell' (i:=5) rfl
 have q6:=qb.cell' (i:=6) rfl
 have q7:=qb.cell' (i:=7) rfl
 have q8:=qb.cell' (i:=8) rfl
 refine bodyPost_ret (v:=.tuple #[vwV V (.slice A V.ents.length c),.bool false]) ?_ rfl (.inr ⟨HUP.out,rfl,U1.out.fr.then_only qf (.inr (by omega))⟩)
 simp [results,Tryz.results70,go_sem,H_hh.out,q0,q1,q2,q3,q4,q5,q6,q7,q8]
set_option maxHeartbeats 4000000 in
theorem up_noe1 (V:Vw) (R:Rc) (A:Option Addr) (c:Nat) (vr ve:Value) (w:World) (h:VwIn w V A c) (hl:V.ents.length < 1000) (hk:SzOk R.key∧SzOk R.hkey) (hd:V.held=true) (hk11:R.kind≠11) :
  Calls Tryz.prog 70 #[vwV V (.slice A V.ents.length c),recV R vr ve] w (UpPost V R A c w):=by
 have U:=hid_ (up_start V R A c vr ve w h)
 obtain ⟨w0,hw0⟩:∃ w0,w0=((w.alloc (.cells (vwA V (.slice A V.ents.length c)) 38)).alloc (.cells (recA R vr ve) 33)).alloc (.cells (vwA Vw.zero (.slice none 0 0)) 38):=⟨_,rfl⟩
 rw [← hw0] at U
 have HK:=hid_ hk
 have hple:=plN_le V.ents R.key
 have OK:=hid_ h.ok
 have CAP:=hid_ (And.intro h.cap h.capm)
 have OLD:Hid (0 < V.ents.length→∀ ad,A=some ad→ad.block < w.heap.size):=hid_ (fun hn=>h.rd.old (by omega) hn)
 clear h hk
 have HUP:Hid (upM V R=none):=hid_ (by unfold upM;rw [if_neg (by rw [hd];simp),if_neg (by rw [hd];simp),if_neg (by rw [hd];simp),if_neg (by intro h;exact hk11 h.1)])
 have k11:(R.kind==11)=false:=beq_eq_false_iff_ne.2 hk11
 have H_hd:=hid_ hd
 clear hd
 clear hk11
 go_enter Tryz.func70,Tryz.ntmps70
 go_wp2_with fail
 change Calls _ _ _ (((w.alloc (.cells (vwA V (.slice A V.ents.length c)) 38)).alloc (.cells (recA R vr ve) 33)).alloc (.cells (vwA Vw.zero (.slice none 0 0)) 38)) _
 rw [← hw0]
 refine (place_ok V A c R.key _ U.out.vin HK.out.1).mono ?_
 rintro e w1 ⟨rfl,hf1⟩
 have U1:=hid_ (U.out.keep hf1)
 clear hf1 U hw0
 have r0:w1.cell? ⟨w.heap.size+1,0,none⟩=some (.int .i64 R.kind):=U1.out.br.cell' rfl
 have v0:w1.cell? ⟨w.heap.size,0,none⟩=some (.string V.low):=U1.out.bv.cell' rfl
 have v1:w1.cell? ⟨w.heap.size,1,none⟩=some (.string V.high):=U1.out.bv.cell' rfl
 have v2:w1.cell? ⟨w.heap.size,2,none⟩=some (.bool V.unb):=U1.out.bv.cell' rfl
 have v3:w1.cell? ⟨w.heap.size,3,none⟩=some (.int .i64 V.right):=U1.out.bv.cell' rfl
 have v4:w1.cell? ⟨w.heap.size,4,none⟩=some (.slice A V.ents.length c):=U1.out.bv.cell' rfl
 have v5:w1.cell? ⟨w.heap.size,5,none⟩=some (.bool V.held):=U1.out.bv.cell' rfl
 have v6:w1.cell? ⟨w.heap.size,6,none⟩=some (.int .i64 V.hp):=U1.out.bv.cell' rfl
 have v7:w1.cell? ⟨w.heap.size,7,none⟩=some (.int .i64 V.hl):=U1.out.bv.cell' rfl
 have v8:w1.cell? ⟨w.heap.size,8,none⟩=some (.string V.hk):=U1.out.bv.cell' rfl
 have s0:w1.cell? ⟨w.heap.size+1+1,0,none⟩=some (.string nilS):=U1.out.bo.cell' rfl
 have z0:=U1.out.bo.frozen 0
 have s1:w1.cell? ⟨w.heap.size+1+1,1,none⟩=some (.string nilS):=U1.out.bo.cell' rfl
 have z1:=U1.out.bo.frozen 1
 have s2:w1.cell? ⟨w.heap.size+1+1,2,none⟩=some (.bool false):=U1.out.bo.cell' rfl
 have z2:=U1.out.bo.frozen 2
 have s3:w1.cell? ⟨w.heap.size+1+1,3,none⟩=some (.int .i64 0):=U1.out.bo.cell' rfl
 have z3:=U1.out.bo.frozen 3
 have s4:w1.cell? ⟨w.heap.size+1+1,4,none⟩=some (.slice none 0 0):=U1.out.bo.cell' rfl
 have z4:=U1.out.bo.frozen 4
 have s5:w1.cell? ⟨w.heap.size+1+1,5,none⟩=some (.bool false):=U1.out.bo.cell' rfl
 have z5:=U1.out.bo.frozen 5
 have s6:w1.cell? ⟨w.heap.size+1+1,6,none⟩=some (.int .i64 0):=U1.out.bo.cell' rfl
 have z6:=U1.out.bo.frozen 6
 have s7:w1.cell? ⟨w.heap.size+1+1,7,none⟩=some (.int .i64 0):=U1.out.bo.cell' rfl
 have z7:=U1.out.bo.frozen 7
 have s8:w1.cell? ⟨w.heap.size+1+1,8,none⟩=some (.string nilS):=U1.out.bo.cell' rfl
 have z8:=U1.out.bo.frozen 8
 rw [H_hd.out] at v5
 go_wp2_with fail
 all_goals
  clear v0 s0 z0 v1 s1 z1 v2 s2 z2 v3 s3 z3 v4 s4 z4 v5 s5 z5 v6 s6 z6 v7 s7 z7 v8 s8 z8
  obtain ⟨qb,qf⟩:=box9 U1.out.bo (.string V.low) (.string V.high) (.bool V.unb) (.int .i64 V.right) (.slice A V.ents.length c) (.bool true) (.int .i64 V.hp) (.int .i64 V.hl) (.string V.hk)
  have q0:=qb.cell' (i:=0) rfl
  have q1:=qb.cell' (i:=1) rfl
  have q2:=qb.cell' (i:=2) rfl
  have q3:=qb.cell' (i:=3) rfl
  have q4:=qb.cell' (i:=4) rfl
  have q5:=qb.cell' (i:=5) rfl
  have q6:=qb.cell' (i:=6) rfl
  have q7:=qb.cell' (i:=7) rfl
  have q8:=qb.cell' (i:=8) rfl
  refine bodyPost_ret (v:=.tuple #[vwV V (.slice A V.ents.length c),.bool false]) ?_ rfl (.inr ⟨HUP.out,rfl,U1.out.fr.then_only qf (.inr (by omega))⟩)
  simp [results,Tryz.results70,go_sem,H_hd.out,q0,q1,q2,q3,q4,q5,q6,q7,q8]
set_option maxHeartbeats 4000000 in
theorem up_noe2 (V:Vw) (R:Rc) (A:Option Addr) (c:Nat) (vr ve:Value) (w:World) (h:VwIn w V A c) (hl:V.ents.length < 1000) (hk:SzOk R.key∧SzOk R.hkey) (hd:V.held=false) (hk8:R.kind≠8) (hk9:R.kind≠9) (hk10:R.kind≠10) :
  Calls Tryz.prog 70 #[vwV V (.slice A V.ents.length c),recV R vr ve] w (UpPost V R A c w):=by
 have U:=hid_ (up_start V R A c vr ve w h)
 obtain ⟨w0,hw0⟩:∃ w0,w0=((w.alloc (.cells (vwA V (.slice A V.ents.length c)) 38)).alloc (.cells (recA R vr ve) 33)).alloc (.cells (vwA Vw.zero (.slice none 0 0)) 38):=⟨_,rfl⟩
 rw [← hw0] at U
 have HK:=hid_ hk
 have hple:=plN_le V.ents R.key
 have OK:=hid_ h.ok
 have CAP:=hid_ (And.intro h.cap h.capm)
 have OLD:Hid (0 < V.ents.length→∀ ad,A=some ad→ad.block < w.heap.size):=hid_ (fun hn=>h.rd.old (by omega) hn)
 clear h hk
 have HUP:Hid (upM V R=none):=hid_ (by unfold upM;rw [if_neg (fun h=>hk8 h.1),if_neg (fun h=>hk9 h.1),if_neg (fun h=>hk10 h.1),if_neg (by rw [hd];simp)])
 have k8:(R.kind==8)=false:=beq_eq_false_iff_ne.2 hk8
 have k9:(R.kind==9)=false:=beq_eq_false_iff_ne.2 hk9
 have k10:(R.kind==10)=false:=beq_eq_false_iff_ne.2 hk10
 have H_hd:=hid_ hd
 clear hd
 clear hk8 hk9 hk10
 go_enter Tryz.func70,Tryz.ntmps70
 go_wp2_with fail
 change Calls _ _ _ (((w.alloc (.cells (vwA V (.slice A V.ents.length c)) 38)).alloc (.cells (recA R vr ve) 33)).alloc (.cells (vwA Vw.zero (.slice none 0 0)) 38)) _
 rw [← hw0]
 refine (place_ok V A c R.key _ U.out.vin HK.out.1).mono ?_
 rintro e w1 ⟨rfl,hf1⟩
 have U1:=hid_ (U.out.keep hf1)
 clear hf1 U hw0
 have r0:w1.cell? ⟨w.heap.size+1,0,none⟩=some (.int .i64 R.kind):=U1.out.br.cell' rfl
 have v0:w1.cell? ⟨w.heap.size,0,none⟩=some (.string V.low):=U1.out.bv.cell' rfl
 have v1:w1.cell? ⟨w.heap.size,1,none⟩=some (.string V.high):=U1.out.bv.cell' rfl
 have v2:w1.cell? ⟨w.heap.size,2,none⟩=some (.bool V.unb):=U1.out.bv.cell' rfl
 have v3:w1.cell? ⟨w.heap.size,3,none⟩=some (.int .i64 V.right):=U1.out.bv.cell' rfl
 have v4:w1.cell? ⟨w.heap.size,4,none⟩=some (.slice A V.ents.length c):=U1.out.bv.cell' rfl
 have v5:w1.cell? ⟨w.heap.size,5,none⟩=some (.bool V.held):=U1.out.bv.cell' rfl
 have v6:w1.cell? ⟨w.heap.size,6,none⟩=some (.int .i64 V.hp):=U1.out.bv.cell' rfl
 have v7:w1.cell? ⟨w.heap.size,7,none⟩=some (.int .i64 V.hl):=U1.out.bv.cell' rfl
 have v8:w1.cell? ⟨w.heap.size,8,none⟩=some (.string V.hk):=U1.out.bv.cell' rfl
 have s0:w1.cell? ⟨w.heap.size+1+1,0,none⟩=some (.string nilS):=U1.out.bo.cell' rfl
 have z0:=U1.out.bo.frozen 0
 have s1:w1.cell? ⟨w.heap.size+1+1,1,none⟩=some (.string nilS):=U1.out.bo.cell' rfl
 have z1:=U1.out.bo.frozen 1
 have s2:w1.cell? ⟨w.heap.size+1+1,2,none⟩=some (.bool false):=U1.out.bo.cell' rfl
 have z2:=U1.out.bo.frozen 2
 have s3:w1.cell? ⟨w.heap.size+1+1,3,none⟩=some (.int .i64 0):=U1.out.bo.cell' rfl
 have z3:=U1.out.bo.frozen 3
 have s4:w1.cell? ⟨w.heap.size+1+1,4,none⟩=some (.slice none 0 0):=U1.out.bo.cell' rfl
 have z4:=U1.out.bo.frozen 4
 have s5:w1.cell? ⟨w.heap.size+1+1,5,none⟩=some (.bool false):=U1.out.bo.cell' rfl
 have z5:=U1.out.bo.frozen 5
 have s6:w1.cell? ⟨w.heap.size+1+1,6,none⟩=some (.int .i64 0):=U1.out.bo.cell' rfl
 have z6:=U1.out.bo.frozen 6
 have s7:w1.cell? ⟨w.heap.size+1+1,7,none⟩=some (.int .i64 0):=U1.out.bo.cell' rfl
 have z7:=U1.out.bo.frozen 7
 have s8:w1.cell? ⟨w.heap.size+1+1,8,none⟩=some (.string nilS):=U1.out.bo.cell' rfl
 have z8:=U1.out.bo.frozen 8
 rw [H_hd.out] at v5
 go_wp2_with fail
 all_goals
  clear v0 s0 z0 v1 s1 z1 v2 s2 z2 v3 s3 z3 v4 s4 z4 v5 s5 z5 v6 s6 z6 v7 s7 z7 v8 s8 z8
  obtain ⟨qb,qf⟩:=box9 U1.out.bo (.string V.low) (.string V.high) (.bool V.unb) (.int .i64 V.right) (.slice A V.ents.length c) (.bool false) (.int .i64 V.hp) (.int .i64 V.hl) (.string V.hk)
  have q0:=qb.cell' (i:=0) rfl
  have q1:=qb.cell' (i:=1) rfl
  have q2:=qb.cell' (i:=2) rfl
  have q3:=qb.cell' (i:=3) rfl
  have q4:=qb.cell' (i:=4) rfl
  have q5:=qb.cell' (i:=5) rfl
  have q6:=qb.cell' (i:=6) rfl
  have q7:=qb.cell' (i:=7) rfl
  have q8:=qb.cell' (i:=8) rfl
  refine bodyPost_ret (v:=.tuple #[vwV V (.slice A V.ents.length c),.bool false]) ?_ rfl (.inr ⟨HUP.out,rfl,U1.out.fr.then_only qf (.inr (by omega))⟩)
  simp [results,Tryz.results70,go_sem,H_hd.out,q0,q1,q2,q3,q4,q5,q6,q7,q8]
set_option maxHeartbeats 4000000 in
theorem up_no10a (V:Vw) (R:Rc) (A:Option Addr) (c:Nat) (vr ve:Value) (w:World) (h:VwIn w V A c) (hl:V.ents.length < 1000) (hk:SzOk R.key∧SzOk R.hkey) (h10:R.kind=10) (hh:V.held=false) (hat:atB V.ents R.hkey=false) :
  Calls Tryz.prog 70 #[vwV V (.slice A V.ents.length c),recV R vr ve] w (UpPost V R A c w):=by
 have U:=hid_ (up_start V R A c vr ve w h)
 obtain ⟨w0,hw0⟩:∃ w0,w0=((w.alloc (.cells (vwA V (.slice A V.ents.length c)) 38)).alloc (.cells (recA R vr ve) 33)).alloc (.cells (vwA Vw.zero (.slice none 0 0)) 38):=⟨_,rfl⟩
 rw [← hw0] at U
 have HK:=hid_ hk
 have hple:=plN_le V.ents R.key
 have OK:=hid_ h.ok
 have CAP:=hid_ (And.intro h.cap h.capm)
 have OLD:Hid (0 < V.ents.length→∀ ad,A=some ad→ad.block < w.heap.size):=hid_ (fun hn=>h.rd.old (by omega) hn)
 clear h hk
 obtain ⟨m,hm⟩:∃ m,m=plN V.ents R.hkey:=⟨_,rfl⟩
 have HUP:Hid (upM V R=none):=hid_ (by unfold upM;rw [if_neg (by rw [h10];omega),if_neg (by rw [h10];omega),if_pos ⟨h10,hh⟩,if_pos (.inl hat)])
 have HM:=hid_ hm
 have HT:=hid_ hat
 clear hm hat
 have H_h10:=hid_ h10
 clear h10
 have H_hh:=hid_ hh
 clear hh
 go_enter Tryz.func70,Tryz.ntmps70
 go_wp2_with fail
 change Calls _ _ _ (((w.alloc (.cells (vwA V (.slice A V.ents.length c)) 38)).alloc (.cells (recA R vr ve) 33)).alloc (.cells (vwA Vw.zero (.slice none 0 0)) 38)) _
 rw [← hw0]
 refine (place_ok V A c R.key _ U.out.vin HK.out.1).mono ?_
 rintro e w1 ⟨rfl,hf1⟩
 have U1:=hid_ (U.out.keep hf1)
 clear hf1 U hw0
 have r0:w1.cell? ⟨w.heap.size+1,0,none⟩=some (.int .i64 R.kind):=U1.out.br.cell' rfl
 have r12:w1.cell? ⟨w.heap.size+1,12,none⟩=some (.string R.hkey):=U1.out.br.cell' rfl
 have v0:w1.cell? ⟨w.heap.size,0,none⟩=some (.string V.low):=U1.out.bv.cell' rfl
 have v1:w1.cell? ⟨w.heap.size,1,none⟩=some (.string V.high):=U1.out.bv.cell' rfl
 have v2:w1.cell? ⟨w.heap.size,2,none⟩=some (.bool V.unb):=U1.out.bv.cell' rfl
 have v3:w1.cell? ⟨w.heap.size,3,none⟩=some (.int .i64 V.right):=U1.out.bv.cell' rfl
 have v4:w1.cell? ⟨w.heap.size,4,none⟩=some (.slice A V.ents.length c):=U1.out.bv.cell' rfl
 have v5:w1.cell? ⟨w.heap.size,5,none⟩=some (.bool V.held):=U1.out.bv.cell' rfl
 have v6:w1.cell? ⟨w.heap.size,6,none⟩=some (.int .i64 V.hp):=U1.out.bv.cell' rfl
 have v7:w1.cell? ⟨w.heap.size,7,none⟩=some (.int .i64 V.hl):=U1.out.bv.cell' rfl
 have v8:w1.cell? ⟨w.heap.size,8,none⟩=some (.string V.hk):=U1.out.bv.cell' rfl
 rw [H_h10.out] at r0
 rw [H_hh.out] at v5
 go_wp2_with fail
 refine (place_ok { V with held:=false } A c R.hkey _ ⟨U1.out.vin.rd,U1.out.vin.cap,U1.out.vin.capm,⟨OK.out.low,OK.out.high,OK.out.hk,OK.out.ents⟩⟩ HK.out.2).mono ?_
 rintro e w2 ⟨rfl,hf2⟩
 rw [show plN ({ V with held:=false }:Vw).ents R.hkey=m from HM.out.symm,show atB ({ V with held:=false }:Vw).ents R.hkey=false from HT.out]
 have U2:=hid_ (U1.out.keep hf2)
 clear hf2 r0 r12 v0 v1 v2 v3 v4 v5 v6 v7 v8
 go_upto_region 14 with fail
 go_quiet (fail)
 have U3:=hid_ (U2.out.keep ((Fr.refl none_ w2).drewN nq))
 have v0:(w2.drewN nq).cell? ⟨w.heap.size,0,none⟩=some (.string V.low):=U3.out.bv.cell' rfl
 have v1:(w2.drewN nq).cell? ⟨w.heap.size,1,none⟩=some (.string V.high):=U3.out.bv.cell' rfl
 have v2:(w2.drewN nq).cell? ⟨w.heap.size,2,none⟩=some (.bool V.unb):=U3.out.bv.cell' rfl
 have v3:(w2.drewN nq).cell? ⟨w.heap.size,3,none⟩=some (.int .i64 V.right):=U3.out.bv.cell' rfl
 have v4:(w2.drewN nq).cell? ⟨w.heap.size,4,none⟩=some (.slice A V.ents.length c):=U3.out.bv.cell' rfl
 have v5:(w2.drewN nq).cell? ⟨w.heap.size,5,none⟩=some (.bool V.held):=U3.out.bv.cell' rfl
 have v6:(w2.drewN nq).cell? ⟨w.heap.size,6,none⟩=some (.int .i64 V.hp):=U3.out.bv.cell' rfl
 have v7:(w2.drewN nq).cell? ⟨w.heap.size,7,none⟩=some (.int .i64 V.hl):=U3.out.bv.cell' rfl
 have v8:(w2.drewN nq).cell? ⟨w.heap.size,8,none⟩=some (.string V.hk):=U3.out.bv.cell' rfl
 have s0:(w2.drewN nq).cell? ⟨w.heap.size+1+1,0,none⟩=some (.string nilS):=U3.out.bo.cell' rfl
 have z0:=U3.out.bo.frozen 0
 have s1:(w2.drewN nq).cell? ⟨w.heap.size+1+1,1,none⟩=some (.string nilS):=U3.out.bo.cell' rfl
 have z1:=U3.out.bo.frozen 1
 have s2:(w2.drewN nq).cell? ⟨w.heap.size+1+1,2,none⟩=some (.bool false):=U3.out.bo.cell' rfl
 have z2:=U3.out.bo.frozen 2
 have s3:(w2.drewN nq).cell? ⟨w.heap.size+1+1,3,none⟩=some (.int .i64 0):=U3.out.bo.cell' rfl
 have z3:=U3.out.bo.frozen 3
 have s4:(w2.drewN nq).cell? ⟨w.heap.size+1+1,4,none⟩=some (.slice none 0 0):=U3.out.bo.cell' rfl
 have z4:=U3.out.bo.frozen 4
 have s5:(w2.drewN nq).cell? ⟨w.heap.size+1+1,5,none⟩=some (.bool false):=U3.out.bo.cell' rfl
 have z5:=U3.out.bo.frozen 5
 have s6:(w2.drewN nq).cell? ⟨w.heap.size+1+1,6,none⟩=some (.int .i64 0):=U3.out.bo.cell' rfl
 have z6:=U3.out.bo.frozen 6
 have s7:(w2.drewN nq).cell? ⟨w.heap.size+1+1,7,none⟩=some (.int .i64 0):=U3.out.bo.cell' rfl
 have z7:=U3.out.bo.frozen 7
 have s8:(w2.drewN nq).cell? ⟨w.heap.size+1+1,8,none⟩=some (.string nilS):=U3.out.bo.cell' rfl
 have z8:=U3.out.bo.frozen 8
 rw [H_hh.out] at v5
 go_wp2_with fail
 clear v0 s0 z0 v1 s1 z1 v2 s2 z2 v3 s3 z3 v4 s4 z4 v5 s5 z5 v6 s6 z6 v7 s7 z7 v8 s8 z8
 obtain ⟨qb,qf⟩:=box9 U3.out.bo (.string V.low) (.string V.high) (.bool V.unb) (.int .i64 V.right) (.slice A V.ents.length c) (.bool false) (.int .i64 V.hp) (.int .i64 V.hl) (.string V.hk)
 have q0:=qb.cell' (i:=0) rfl
 have q1:=qb.cell' (i:=1) rfl
 have q2:=qb.cell' (i:=2) rfl
 have q3:=qb.cell' (i:=3) rfl
 have q4:=qb.cell' (i:=4) rfl
 have q5:=qb.cell' (i:=5) rfl
 have q6:=qb.cell' (i:=6) rfl
 have q7:=qb.cell' (i:=7) rfl
 have q8:=qb.cell' (i:=8) rfl
 refine bodyPost_ret (v:=.tuple #[vwV V (.slice A V.ents.length c),.bool false]) ?_ rfl (.inr ⟨HUP.out,rfl,U3.out.fr.then_only qf (.inr (by omega))⟩)
 simp [results,Tryz.results70,go_sem,H_hh.out,q0,q1,q2,q3,q4,q5,q6,q7,q8]
set_option maxHeartbeats 4000000 in
theorem up_no10b (V:Vw) (R:Rc) (A:Option Addr) (c:Nat) (vr ve:Value) (w:World) (h:VwIn w V A c) (hl:V.ents.length < 1000) (hk:SzOk R.key∧SzOk R.hkey) (h10:R.kind=10) (hh:V.held=false) (hat:atB V.ents R.hkey=true) (hm0:plN V.ents R.hkey=0) :
  Calls Tryz.prog 70 #[vwV V (.slice A V.ents.length c),recV R vr ve] w (UpPost V R A c w):=by
 have U:=hid_ (up_start V R A c vr ve w h)
 obtain ⟨w0,hw0⟩:∃ w0,w0=((w.alloc (.cells (vwA V (.slice A V.ents.length c)) 38)).alloc (.cells (recA R vr ve) 33)).alloc (.cells (vwA Vw.zero (.slice none 0 0)) 38):=⟨_,rfl⟩
 rw [← hw0] at U
 have HK:=hid_ hk
 have hple:=plN_le V.ents R.key
 have OK:=hid_ h.ok
 have CAP:=hid_ (And.intro h.cap h.capm)
 have OLD:Hid (0 < V.ents.length→∀ ad,A=some ad→ad.block < w.heap.size):=hid_ (fun hn=>h.rd.old (by omega) hn)
 clear h hk
 obtain ⟨m,hm⟩:∃ m,m=plN V.ents R.hkey:=⟨_,rfl⟩
 have HUP:Hid (upM V R=none):=hid_ (by unfold upM;rw [if_neg (by rw [h10];omega),if_neg (by rw [h10];omega),if_pos ⟨h10,hh⟩,if_pos (.inr (.inl hm0))])
 rw [← hm] at hm0
 have hm1:((m:Int)==0)=true:=beq_iff_eq.2 (by omega)
 clear hm0
 have HM:=hid_ hm
 have HT:=hid_ hat
 clear hm hat
 have H_h10:=hid_ h10
 clear h10
 have H_hh:=hid_ hh
 clear hh
 go_enter Tryz.func70,Tryz.ntmps70
 go_wp2_with fail
 change Calls _ _ _ (((w.alloc (.cells (vwA V (.slice A V.ents.length c)) 38)).alloc (.cells (recA R vr ve) 33)).alloc (.cells (vwA Vw.zero (.slice none 0 0)) 38)) _
 rw [← hw0]
 refine (place_ok V A c R.key _ U.out.vin HK.out.1).mono ?_
 rintro e w1 ⟨rfl,hf1⟩
 have U1:=hid_ (U.out.keep hf1)
 clear hf1 U hw0
 have r0:w1.cell? ⟨w.heap.size+1,0,none⟩=some (.int .i64 R.kind):=U1.out.br.cell' rfl
 have r12:w1.cell? ⟨w.heap.size+1,12,none⟩=some (.string R.hkey):=U1.out.br.cell' rfl
 have v0:w1.cell? ⟨w.heap.size,0,none⟩=some (.string V.low):=U1.out.bv.cell' rfl
 have v1:w1.cell? ⟨w.heap.size,1,none⟩=some (.string V.high):=U1.out.bv.cell' rfl
 have v2:w1.cell? ⟨w.heap.size,2,none⟩=some (.bool V.unb):=U1.out.bv.cell' rfl
 have v3:w1.cell? ⟨w.heap.size,3,none⟩=some (.int .i64 V.right):=U1.out.bv.cell' rfl
 have v4:w1.cell? ⟨w.heap.size,4,none⟩=some (.slice A V.ents.length c):=U1.out.bv.cell' rfl
 have v5:w1.cell? ⟨w.heap.size,5,none⟩=some (.bool V.held):=U1.out.bv.cell' rfl
 have v6:w1.cell? ⟨w.heap.size,6,none⟩=some (.int .i64 V.hp):=U1.out.bv.cell' rfl
 have v7:w1.cell? ⟨w.heap.size,7,none⟩=some (.int .i64 V.hl):=U1.out.bv.cell' rfl
 have v8:w1.cell? ⟨w.heap.size,8,none⟩=some (.string V.hk):=U1.out.bv.cell' rfl
 rw [H_h10.out] at r0
 rw [H_hh.out] at v5
 go_wp2_with fail
 refine (place_ok { V with held:=false } A c R.hkey _ ⟨U1.out.vin.rd,U1.out.vin.cap,U1.out.vin.capm,⟨OK.out.low,OK.out.high,OK.out.hk,OK.out.ents⟩⟩ HK.out.2).mono ?_
 rintro e w2 ⟨rfl,hf2⟩
 rw [show plN ({ V with held:=false }:Vw).ents R.hkey=m from HM.out.symm,show atB ({ V with held:=false }:Vw).ents R.hkey=true from HT.out]
 have U2:=hid_ (U1.out.keep hf2)
 clear hf2 r0 r12 v0 v1 v2 v3 v4 v5 v6 v7 v8
 go_upto_region 14 with fail
 go_quiet (fail)
 have U3:=hid_ (U2.out.keep ((Fr.refl none_ w2).drewN nq))
 have v0:(w2.drewN nq).cell? ⟨w.heap.size,0,none⟩=some (.string V.low):=U3.out.bv.cell' rfl
 have v1:(w2.drewN nq).cell? ⟨w.heap.size,1,none⟩=some (.string V.high):=U3.out.bv.cell' rfl
 have v2:(w2.drewN nq).cell? ⟨w.heap.size,2,none⟩=some (.bool V.unb):=U3.out.bv.cell' rfl
 have v3:(w2.drewN nq).cell? ⟨w.heap.size,3,none⟩=some (.int .i64 V.right):=U3.out.bv.cell' rfl
 have v4:(w2.drewN nq).cell? ⟨w.heap.size,4,none⟩=some (.slice A V.ents.length c):=U3.out.bv.cell' rfl
 have v5:(w2.drewN nq).cell? ⟨w.heap.size,5,none⟩=some (.bool V.held):=U3.out.bv.cell' rfl
 have v6:(w2.drewN nq).cell? ⟨w.heap.size,6,none⟩=some (.int .i64 V.hp):=U3.out.bv.cell' rfl
 have v7:(w2.drewN nq).cell? ⟨w.heap.size,7,none⟩=some (.int .i64 V.hl):=U3.out.bv.cell' rfl
 have v8:(w2.drewN nq).cell? ⟨w.heap.size,8,none⟩=some (.string V.hk):=U3.out.bv.cell' rfl
 have s0:(w2.drewN nq).cell? ⟨w.heap.size+1+1,0,none⟩=some (.string nilS):=U3.out.bo.cell' rfl
 have z0:=U3.out.bo.frozen 0
 have s1:(w2.drewN nq).cell? ⟨w.heap.size+1+1,1,none⟩=some (.string nilS):=U3.out.bo.cell' rfl
 have z1:=U3.out.bo.frozen 1
 have s2:(w2.drewN nq).cell? ⟨w.heap.size+1+1,2,none⟩=some (.bool false):=U3.out.bo.cell' rfl
 have z2:=U3.out.bo.frozen 2
 have s3:(w2.drewN nq).cell? ⟨w.heap.size+1+1,3,none⟩=some (.int .i64 0):=U3.out.bo.cell' rfl
 have z3:=U3.out.bo.frozen 3
 have s4:(w2.drewN nq).cell? ⟨w.heap.size+1+1,4,none⟩=some (.slice none 0 0):=U3.out.bo.cell' rfl
 have z4:=U3.out.bo.frozen 4
 have s5:(w2.drewN nq).cell? ⟨w.heap.size+1+1,5,none⟩=some (.bool false):=U3.out.bo.cell' rfl
 have z5:=U3.out.bo.frozen 5
 have s6:(w2.drewN nq).cell? ⟨w.heap.size+1+1,6,none⟩=some (.int .i64 0):=U3.out.bo.cell' rfl
 have z6:=U3.out.bo.frozen 6
 have s7:(w2.drewN nq).cell? ⟨w.heap.size+1+1,7,none⟩=some (.int .i64 0):=U3.out.bo.cell' rfl
 have z7:=U3.out.bo.frozen 7
 have s8:(w2.drewN nq).cell? ⟨w.heap.size+1+1,8,none⟩=some (.string nilS):=U3.out.bo.cell' rfl
 have z8:=U3.out.bo.frozen 8
 rw [H_hh.out] at v5
 go_wp2_with fail
 clear v0 s0 z0 v1 s1 z1 v2 s2 z2 v3 s3 z3 v4 s4 z4 v5 s5 z5 v6 s6 z6 v7 s7 z7 v8 s8 z8
 obtain ⟨qb,qf⟩:=box9 U3.out.bo (.string V.low) (.string V.high) (.bool V.unb) (.int .i64 V.right) (.slice A V.ents.length c) (.bool false) (.int .i64 V.hp) (.int .i64 V.hl) (.string V.hk)
 have q0:=qb.cell' (i:=0) rfl
 have q1:=qb.cell' (i:=1) rfl
 have q2:=qb.cell' (i:=2) rfl
 have q3:=qb.cell' (i:=3) rfl
 have q4:=qb.cell' (i:=4) rfl
 have q5:=qb.cell' (i:=5) rfl
 have q6:=qb.cell' (i:=6) rfl
 have q7:=qb.cell' (i:=7) rfl
 have q8:=qb.cell' (i:=8) rfl
 refine bodyPost_ret (v:=.tuple #[vwV V (.slice A V.ents.length c),.bool false]) ?_ rfl (.inr ⟨HUP.out,rfl,U3.out.fr.then_only qf (.inr (by omega))⟩)
 simp [results,Tryz.results70,go_sem,H_hh.out,q0,q1,q2,q3,q4,q5,q6,q7,q8]
set_option maxHeartbeats 4000000 in
theorem up_no10c (V:Vw) (R:Rc) (A:Option Addr) (c:Nat) (vr ve:Value) (w:World) (h:VwIn w V A c) (hl:V.ents.length < 1000) (hk:SzOk R.key∧SzOk R.hkey) (h10:R.kind=10) (hh:V.held=false) (hat:atB V.ents R.hkey=true) (hm0:plN V.ents R.hkey≠0) (p:Et) (hp:V.ents[plN V.ents R.hkey]?=some p) (hpp:p.2≠R.hpage) :
  Calls Tryz.prog 70 #[vwV V (.slice A V.ents.length c),recV R vr ve] w (UpPost V R A c w):=by
 have U:=hid_ (up_start V R A c vr ve w h)
 obtain ⟨w0,hw0⟩:∃ w0,w0=((w.alloc (.cells (vwA V (.slice A V.ents.length c)) 38)).alloc (.cells (recA R vr ve) 33)).alloc (.cells (vwA Vw.zero (.slice none 0 0)) 38):=⟨_,rfl⟩
 rw [← hw0] at U
 have HK:=hid_ hk
 have hple:=plN_le V.ents R.key
 have OK:=hid_ h.ok
 have CAP:=hid_ (And.intro h.cap h.capm)
 have OLD:Hid (0 < V.ents.length→∀ ad,A=some ad→ad.block < w.heap.size):=hid_ (fun hn=>h.rd.old (by omega) hn)
 clear h hk
 obtain ⟨m,hm⟩:∃ m,m=plN V.ents R.hkey:=⟨_,rfl⟩
 have HUP:Hid (upM V R=none):=hid_ (by unfold upM;rw [if_neg (by rw [h10];omega),if_neg (by rw [h10];omega),if_pos ⟨h10,hh⟩,if_pos (.inr (.inr (.inl (by rw [hp];simpa using hpp))))])
 rw [← hm] at hm0 hp
 have hne:(p.2 != R.hpage)=true:=by simpa using hpp
 have hm1:((m:Int)==0)=false:=beq_eq_false_iff_ne.2 (by omega)
 have hml:m < V.ents.length:=(List.getElem?_eq_some_iff.1 hp).1
 have hi0:(0:Int)≤(m:Int):=Int.natCast_nonneg _
 have hi1:(m:Int) < (V.ents.length:Int):=by omega
 have HP:=hid_ hp
 clear hm0 hp hpp hml
 have HM:=hid_ hm
 have HT:=hid_ hat
 clear hm hat
 have H_h10:=hid_ h10
 clear h10
 have H_hh:=hid_ hh
 clear hh
 go_enter Tryz.func70,Tryz.ntmps70
 go_wp2_with fail
 change Calls _ _ _ (((w.alloc (.cells (vwA V (.slice A V.ents.length c)) 38)).alloc (.cells (recA R vr ve) 33)).alloc (.cells (vwA Vw.zero (.slice none 0 0)) 38)) _
 rw [← hw0]
 refine (place_ok V A c R.key _ U.out.vin HK.out.1).mono ?_
 rintro e w1 ⟨rfl,hf1⟩
 have U1:=hid_ (U.out.keep hf1)
 clear hf1 U hw0
 have r0:w1.cell? ⟨w.heap.size+1,0,none⟩=some (.int .i64 R.kind):=U1.out.br.cell' rfl
 have r12:w1.cell? ⟨w.heap.size+1,12,none⟩=some (.string R.hkey):=U1.out.br.cell' rfl
 have v0:w1.cell? ⟨w.heap.size,0,none⟩=some (.string V.low):=U1.out.bv.cell' rfl
 have v1:w1.cell? ⟨w.heap.size,1,none⟩=some (.string V.high):=U1.out.bv.cell' rfl
 have v2:w1.cell? ⟨w.heap.size,2,none⟩=some (.bool V.unb):=U1.out.bv.cell' rfl
 have v3:w1.cell? ⟨w.heap.size,3,none⟩=some (.int .i64 V.right):=U1.out.bv.cell' rfl
 have v4:w1.cell? ⟨w.heap.size,4,none⟩=some (.slice A V.ents.length c):=U1.out.bv.cell' rfl
 have v5:w1.cell? ⟨w.heap.size,5,none⟩=some (.bool V.held):=U1.out.bv.cell' rfl
 have v6:w1.cell? ⟨w.heap.size,6,none⟩=some (.int .i64 V.hp):=U1.out.bv.cell' rfl
 have v7:w1.cell? ⟨w.heap.size,7,none⟩=some (.int .i64 V.hl):=U1.out.bv.cell' rfl
 have v8:w1.cell? ⟨w.heap.size,8,none⟩=some (.string V.hk):=U1.out.bv.cell' rfl
 rw [H_h10.out] at r0
 rw [H_hh.out] at v5
 go_wp2_with fail
 refine (place_ok { V with held:=false } A c R.hkey _ ⟨U1.out.vin.rd,U1.out.vin.cap,U1.out.vin.capm,⟨OK.out.low,OK.out.high,OK.out.hk,OK.out.ents⟩⟩ HK.out.2).mono ?_
 rintro e w2 ⟨rfl,hf2⟩
 rw [show plN ({ V with held:=false }:Vw).ents R.hkey=m from HM.out.symm,show atB ({ V with held:=false }:Vw).ents R.hkey=true from HT.out]
 have U2:=hid_ (U1.out.keep hf2)
 clear hf2 r0 r12 v0 v1 v2 v3 v4 v5 v6 v7 v8
 go_upto_region 14 with fail
 obtain ⟨b,off,rfl,hb,c0,c1⟩:=et_at U2.out.vin.rd HP.out
 have v4:w2.cell? ⟨w.heap.size,4,none⟩=some (.slice (some ⟨b,off,none⟩) V.ents.length c):=U2.out.bv.cell' rfl
 have r10:w2.cell? ⟨w.heap.size+1,10,none⟩=some (.int .i64 R.hpage):=U2.out.br.cell' rfl
 have r11:w2.cell? ⟨w.heap.size+1,11,none⟩=some (.int .i64 R.hleft):=U2.out.br.cell' rfl
 go_quiet (fail)
 have U3:=hid_ (U2.out.keep ((Fr.refl none_ w2).drewN nq))
 clear v4 r10 r11 c0 c1
 have v0:(w2.drewN nq).cell? ⟨w.heap.size,0,none⟩=some (.string V.low):=U3.out.bv.cell' rfl
 have v1:(w2.drewN nq).cell? ⟨w.heap.size,1,none⟩=some (.string V.high):=U3.out.bv.cell' rfl
 have v2:(w2.drewN nq).cell? ⟨w.heap.size,2,none⟩=some (.bool V.unb):=U3.out.bv.cell' rfl
 have v3:(w2.drewN nq).cell? ⟨w.heap.size,3,none⟩=some (.int .i64 V.right):=U3.out.bv.cell' rfl
 have v4:(w2.drewN nq).cell? ⟨w.heap.size,4,none⟩=some (.slice (some ⟨b,off,none⟩) V.ents.length c):=U3.out.bv.cell' rfl
 have v5:(w2.drewN nq).cell? ⟨w.heap.size,5,none⟩=some (.bool V.held):=U3.out.bv.cell' rfl
 have v6:(w2.drewN nq).cell? ⟨w.heap.size,6,none⟩=some (.int .i64 V.hp):=U3.out.bv.cell' rfl
 have v7:(w2.drewN nq).cell? ⟨w.heap.size,7,none⟩=some (.int .i64 V.hl):=U3.out.bv.cell' rfl
 have v8:(w2.drewN nq).cell? ⟨w.heap.size,8,none⟩=some (.string V.hk):=U3.out.bv.cell' rfl
 have s0:(w2.drewN nq).cell? ⟨w.heap.size+1+1,0,none⟩=some (.string nilS):=U3.out.bo.cell' rfl
 have z0:=U3.out.bo.frozen 0
 have s1:(w2.drewN nq).cell? ⟨w.heap.size+1+1,1,none⟩=some (.string nilS):=U3.out.bo.cell' rfl
 have z1:=U3.out.bo.frozen 1
 have s2:(w2.drewN nq).cell? ⟨w.heap.size+1+1,2,none⟩=some (.bool false):=U3.out.bo.cell' rfl
 have z2:=U3.out.bo.frozen 2
 have s3:(w2.drewN nq).cell? ⟨w.heap.size+1+1,3,none⟩=some (.int .i64 0):=U3.out.bo.cell' rfl
 have z3:=U3.out.bo.frozen 3
 have s4:(w2.drewN nq).cell? ⟨w.heap.size+1+1,4,none⟩=some (.slice none 0 0):=U3.out.bo.cell' rfl
 have z4:=U3.out.bo.frozen 4
 have s5:(w2.drewN nq).cell? ⟨w.heap.size+1+1,5,none⟩=some (.bool false):=U3.out.bo.cell' rfl
 have z5:=U3.out.bo.frozen 5
 have s6:(w2.drewN nq).cell? ⟨w.heap.size+1+1,6,none⟩=some (.int .i64 0):=U3.out.bo.cell' rfl
 have z6:=U3.out.bo.frozen 6
 have s7:(w2.drewN nq).cell? ⟨w.heap.size+1+1,7,none⟩=some (.int .i64 0):=U3.out.bo.cell' rfl
 have z7:=U3.out.bo.frozen 7
 have s8:(w2.drewN nq).cell? ⟨w.heap.size+1+1,8,none⟩=some (.string nilS):=U3.out.bo.cell' rfl
 have z8:=U3.out.bo.frozen 8
 rw [H_hh.out] at v5
 go_wp2_with fail
 clear v0 s0 z0 v1 s1 z1 v2 s2 z2 v3 s3 z3 v4 s4 z4 v5 s5 z5 v6 s6 z6 v7 s7 z7 v8 s8 z8
 obtain ⟨qb,qf⟩:=box9 U3.out.bo (.string V.low) (.string V.high) (.bool V.unb) (.int .i64 V.right) (.slice (some ⟨b,off,none⟩) V.ents.length c) (.bool false) (.int .i64 V.hp) (.int .i64 V.hl) (.string V.hk)
 have q0:=qb.cell' (i:=0) rfl
 have q1:=qb.cell' (i:=1) rfl
 have q2:=qb.cell' (i:=2) rfl
 have q3:=qb.cell' (i:=3) rfl
 have q4:=qb.cell' (i:=4) rfl
 have q5:=qb.cell' (i:=5) rfl
 have q6:=qb.cell' (i:=6) rfl
 have q7:=qb.cell' (i:=7) rfl
 have q8:=qb.cell' (i:=8) rfl
 refine bodyPost_ret (v:=.tuple #[vwV V (.slice (some ⟨b,off,none⟩) V.ents.length c),.bool false]) ?_ rfl (.inr ⟨HUP.out,rfl,U3.out.fr.then_only qf (.inr (by omega))⟩)
 simp [results,Tryz.results70,go_sem,H_hh.out,q0,q1,q2,q3,q4,q5,q6,q7,q8]
set_option maxHeartbeats 4000000 in
theorem up_no10d (V:Vw) (R:Rc) (A:Option Addr) (c:Nat) (vr ve:Value) (w:World) (h:VwIn w V A c) (hl:V.ents.length < 1000) (hk:SzOk R.key∧SzOk R.hkey) (h10:R.kind=10) (hh:V.held=false) (hat:atB V.ents R.hkey=true) (hm0:plN V.ents R.hkey≠0) (p q:Et) (hp:V.ents[plN V.ents R.hkey]?=some p) (hpp:p.2=R.hpage) (hq:V.ents[plN V.ents R.hkey - 1]?=some q) (hqq:q.2≠R.hleft) :
  Calls Tryz.prog 70 #[vwV V (.slice A V.ents.length c),recV R vr ve] w (UpPost V R A c w):=by
 have U:=hid_ (up_start V R A c vr ve w h)
 obtain ⟨w0,hw0⟩:∃ w0,w0=((w.alloc (.cells (vwA V (.slice A V.ents.length c)) 38)).alloc (.cells (recA R vr ve) 33)).alloc (.cells (vwA Vw.zero (.slice none 0 0)) 38):=⟨_,rfl⟩
 rw [← hw0] at U
 have HK:=hid_ hk
 have hple:=plN_le V.ents R.key
 have OK:=hid_ h.ok
 have CAP:=hid_ (And.intro h.cap h.capm)
 have OLD:Hid (0 < V.ents.length→∀ ad,A=some ad→ad.block < w.heap.size):=hid_ (fun hn=>h.rd.old (by omega) hn)
 clear h hk
 obtain ⟨m,hm⟩:∃ m,m=plN V.ents R.hkey:=⟨_,rfl⟩
 have HUP:Hid (upM V R=none):=hid_ (by unfold upM;rw [if_neg (by rw [h10];omega),if_neg (by rw [h10];omega),if_pos ⟨h10,hh⟩,if_pos (.inr (.inr (.inr (by rw [hq];simpa using hqq))))])
 rw [← hm] at hm0 hp hq
 have hne:(p.2 != R.hpage)=false:=by simpa using hpp
 have hne2:(q.2 != R.hleft)=true:=by simpa using hqq
 have hm1:((m:Int)==0)=false:=beq_eq_false_iff_ne.2 (by omega)
 have hml:m < V.ents.length:=(List.getElem?_eq_some_iff.1 hp).1
 have hi0:(0:Int)≤(m:Int):=Int.natCast_nonneg _
 have hi1:(m:Int) < (V.ents.length:Int):=by omega
 have HP:=hid_ hp
 obtain ⟨j,hj⟩:∃ j,j=m - 1:=⟨_,rfl⟩
 rw [← hj] at hq
 have hw1:IntKind.i64.wrap ((m:Int) - 1)=(j:Int):=by rw [show (m:Int) - 1=(j:Int) by omega];exact IntWalk.i64_in _ (by have:=OK.out.ents.1;omega)
 have hj0:(0:Int)≤(j:Int):=Int.natCast_nonneg _
 have hj1:(j:Int) < (V.ents.length:Int):=by omega
 have HQ:=hid_ hq
 clear hm0 hp hpp hml hq hqq hj
 have HM:=hid_ hm
 have HT:=hid_ hat
 clear hm hat
 have H_h10:=hid_ h10
 clear h10
 have H_hh:=hid_ hh
 clear hh
 go_enter Tryz.func70,Tryz.ntmps70
 go_wp2_with fail
 change Calls _ _ _ (((w.alloc (.cells (vwA V (.slice A V.ents.length c)) 38)).alloc (.cells (recA R vr ve) 33)).alloc (.cells (vwA Vw.zero (.slice none 0 0)) 38)) _
 rw [← hw0]
 refine (place_ok V A c R.key _ U.out.vin HK.out.1).mono ?_
 rintro e w1 ⟨rfl,hf1⟩
 have U1:=hid_ (U.out.keep hf1)
 clear hf1 U hw0
 have r0:w1.cell? ⟨w.heap.size+1,0,none⟩=some (.int .i64 R.kind):=U1.out.br.cell' rfl
 have r12:w1.cell? ⟨w.heap.size+1,12,none⟩=some (.string R.hkey):=U1.out.br.cell' rfl
 have v0:w1.cell? ⟨w.heap.size,0,none⟩=some (.string V.low):=U1.out.bv.cell' rfl
 have v1:w1.cell? ⟨w.heap.size,1,none⟩=some (.string V.high):=U1.out.bv.cell' rfl
 have v2:w1.cell? ⟨w.heap.size,2,none⟩=some (.bool V.unb):=U1.out.bv.cell' rfl
 have v3:w1.cell? ⟨w.heap.size,3,none⟩=some (.int .i64 V.right):=U1.out.bv.cell' rfl
 have v4:w1.cell? ⟨w.heap.size,4,none⟩=some (.slice A V.ents.length c):=U1.out.bv.cell' rfl
 have v5:w1.cell? ⟨w.heap.size,5,none⟩=some (.bool V.held):=U1.out.bv.cell' rfl
 have v6:w1.cell? ⟨w.heap.size,6,none⟩=some (.int .i64 V.hp):=U1.out.bv.cell' rfl
 have v7:w1.cell? ⟨w.heap.size,7,none⟩=some (.int .i64 V.hl):=U1.out.bv.cell' rfl
 have v8:w1.cell? ⟨w.heap.size,8,none⟩=some (.string V.hk):=U1.out.bv.cell' rfl
 rw [H_h10.out] at r0
 rw [H_hh.out] at v5
 go_wp2_with fail
 refine (place_ok { V with held:=false } A c R.hkey _ ⟨U1.out.vin.rd,U1.out.vin.cap,U1.out.vin.capm,⟨OK.out.low,OK.out.high,OK.out.hk,OK.out.ents⟩⟩ HK.out.2).mono ?_
 rintro e w2 ⟨rfl,hf2⟩
 rw [show plN ({ V with held:=false }:Vw).ents R.hkey=m from HM.out.symm,show atB ({ V with held:=false }:Vw).ents R.hkey=true from HT.out]
 have U2:=hid_ (U1.out.keep hf2)
 clear hf2 r0 r12 v0 v1 v2 v3 v4 v5 v6 v7 v8
 go_upto_region 14 with fail
 obtain ⟨b,off,rfl,hb,c0,c1⟩:=et_at U2.out.vin.rd HP.out
 have v4:w2.cell? ⟨w.heap.size,4,none⟩=some (.slice (some ⟨b,off,none⟩) V.ents.length c):=U2.out.bv.cell' rfl
 have r10:w2.cell? ⟨w.heap.size+1,10,none⟩=some (.int .i64 R.hpage):=U2.out.br.cell' rfl
 have r11:w2.cell? ⟨w.heap.size+1,11,none⟩=some (.int .i64 R.hleft):=U2.out.br.cell' rfl
 obtain ⟨b2,off2,hA,hb2,d0,d1⟩:=et_at U2.out.vin.rd HQ.out
 obtain ⟨rfl,rfl⟩:b=b2∧off=off2:=by injection hA with hA;injection hA with e1 e2;exact ⟨e1,e2⟩
 clear hA
 go_quiet (fail)
 have U3:=hid_ (U2.out.keep ((Fr.refl none_ w2).drewN nq))
 clear v4 r10 r11 c0 c1
 clear d0 d1
 have v0:(w2.drewN nq).cell? ⟨w.heap.size,0,none⟩=some (.string V.low):=U3.out.bv.cell' rfl
 have v1:(w2.drewN nq).cell? ⟨w.heap.size,1,none⟩=some (.string V.high):=U3.out.bv.cell' rfl
 have v2:(w2.drewN nq).cell? ⟨w.heap.size,2,none⟩=some (.bool V.unb):=U3.out.bv.cell' rfl
 have v3:(w2.drewN nq).cell? ⟨w.heap.size,3,none⟩=some (.int .i64 V.right):=U3.out.bv.cell' rfl
 have v4:(w2.drewN nq).cell? ⟨w.heap.size,4,none⟩=some (.slice (some ⟨b,off,none⟩) V.ents.length c):=U3.out.bv.cell' rfl
 have v5:(w2.drewN nq).cell? ⟨w.heap.size,5,none⟩=some (.bool V.held):=U3.out.bv.cell' rfl
 have v6:(w2.drewN nq).cell? ⟨w.heap.size,6,none⟩=some (.int .i64 V.hp):=U3.out.bv.cell' rfl
 have v7:(w2.drewN nq).cell? ⟨w.heap.size,7,none⟩=some (.int .i64 V.hl):=U3.out.bv.cell' rfl
 have v8:(w2.drewN nq).cell? ⟨w.heap.size,8,none⟩=some (.string V.hk):=U3.out.bv.cell' rfl
 have s0:(w2.drewN nq).cell? ⟨w.heap.size+1+1,0,none⟩=some (.string nilS):=U3.out.bo.cell' rfl
 have z0:=U3.out.bo.frozen 0
 have s1:(w2.drewN nq).cell? ⟨w.heap.size+1+1,1,none⟩=some (.string nilS):=U3.out.bo.cell' rfl
 have z1:=U3.out.bo.frozen 1
 have s2:(w2.drewN nq).cell? ⟨w.heap.size+1+1,2,none⟩=some (.bool false):=U3.out.bo.cell' rfl
 have z2:=U3.out.bo.frozen 2
 have s3:(w2.drewN nq).cell? ⟨w.heap.size+1+1,3,none⟩=some (.int .i64 0):=U3.out.bo.cell' rfl
 have z3:=U3.out.bo.frozen 3
 have s4:(w2.drewN nq).cell? ⟨w.heap.size+1+1,4,none⟩=some (.slice none 0 0):=U3.out.bo.cell' rfl
 have z4:=U3.out.bo.frozen 4
 have s5:(w2.drewN nq).cell? ⟨w.heap.size+1+1,5,none⟩=some (.bool false):=U3.out.bo.cell' rfl
 have z5:=U3.out.bo.frozen 5
 have s6:(w2.drewN nq).cell? ⟨w.heap.size+1+1,6,none⟩=some (.int .i64 0):=U3.out.bo.cell' rfl
 have z6:=U3.out.bo.frozen 6
 have s7:(w2.drewN nq).cell? ⟨w.heap.size+1+1,7,none⟩=some (.int .i64 0):=U3.out.bo.cell' rfl
 have z7:=U3.out.bo.frozen 7
 have s8:(w2.drewN nq).cell? ⟨w.heap.size+1+1,8,none⟩=some (.string nilS):=U3.out.bo.cell' rfl
 have z8:=U3.out.bo.frozen 8
 rw [H_hh.out] at v5
 go_wp2_with fail
 clear v0 s0 z0 v1 s1 z1 v2 s2 z2 v3 s3 z3 v4 s4 z4 v5 s5 z5 v6 s6 z6 v7 s7 z7 v8 s8 z8
 obtain ⟨qb,qf⟩:=box9 U3.out.bo (.string V.low) (.string V.high) (.bool V.unb) (.int .i64 V.right) (.slice (some ⟨b,off,none⟩) V.ents.length c) (.bool false) (.int .i64 V.hp) (.int .i64 V.hl) (.string V.hk)
 have q0:=qb.cell' (i:=0) rfl
 have q1:=qb.cell' (i:=1) rfl
 have q2:=qb.cell' (i:=2) rfl
 have q3:=qb.cell' (i:=3) rfl
 have q4:=qb.cell' (i:=4) rfl
 have q5:=qb.cell' (i:=5) rfl
 have q6:=qb.cell' (i:=6) rfl
 have q7:=qb.cell' (i:=7) rfl
 have q8:=qb.cell' (i:=8) rfl
 refine bodyPost_ret (v:=.tuple #[vwV V (.slice (some ⟨b,off,none⟩) V.ents.length c),.bool false]) ?_ rfl (.inr ⟨HUP.out,rfl,U3.out.fr.then_only qf (.inr (by omega))⟩)
 simp [results,Tryz.results70,go_sem,H_hh.out,q0,q1,q2,q3,q4,q5,q6,q7,q8]
theorem atB_lt {L:List Et} {key:ByteArray} (h:atB L key=true):plN L key < L.length:=by
  rcases Nat.lt_or_ge (plN L key) L.length with h1 | h1
  · exact h1
  · unfold atB at h
    rw [List.getElem?_eq_none h1] at h
    cases h
end Go.Proofs.YtfihfjbakfadkaaGreatDoor
