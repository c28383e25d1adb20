/- Texts of one proof, merged. -/
import Derived.Deep.QuietTactic
import Derived.BigQuiet
import Derived.BigRegion
import Derived.Deep.MidRow
import Derived.IntWalk
import Derived.WalkSpells
import Derived.WalkLawsBesides
import Derived.Deep.DeepCutAuto
import Derived.Deep.RegionHeld3
import Derived.Test.YthpkbppaaagaoaaGreatMhA
import Derived.Test.YthpkbppaaagaoaaGreatMhB
import Derived.Test.YthpkbppaaagaoaaGreatMhC
import Derived.Test.YthpkbppaaagaoaaGreatMhD
import Derived.Test.YthpkbppaaagaoaaGreatMhE
import Derived.Test.YthpkbppaaagaoaaGreatMhF
import Derived.Test.YthpkbppaaagaoaaGreatMhG
namespace Go.Proofs.YthpkbppaaagaoaaGreat
set_option maxRecDepth 100000
set_option linter.unusedVariables false
open Go.RowKit Go.ChangeShapes Go.WideShapes

structure ChIn (w:World) (C:Ch):Prop where
  rd:RecReads w C.R C.A C.B
  low:SzOk C.R.low
  high:SzOk C.R.high
  key:SzOk C.R.key
  hkey:SzOk C.R.hkey
  ents:∀ p ∈ C.R.ents,SzOk p.1
  cap:C.R.ents.length≤C.d
  capm:C.d≤maxLen
  rows:C.R.rows.length≤4398046511104
theorem ChIn.keep {w w':World} {C:Ch} (h:ChIn w C) (hf:Fr none_ w w'):ChIn w' C:=⟨h.rd.keep hf,h.low,h.high,h.key,h.hkey,h.ents,h.cap,h.capm,h.rows⟩
def InReads (w:World) (A:Option Addr) (n:Nat) (L:List Ch):Prop:=
  L.length=n∧(0 < n→∃ b off,A=some ⟨b,off,none⟩∧b < w.heap.size∧∀ (k:Nat) (C:Ch),L[k]?=some C→w.rangeAt b (off+k * 15) (recL C)∧ChIn w C)
theorem InReads.keep {w w':World} {A:Option Addr} {n:Nat} {L:List Ch} (h:InReads w A n L) (hf:Fr none_ w w'):InReads w' A n L:=
  ⟨h.1,fun hn=>by
    obtain ⟨b,off,hA,hb,hc⟩:=h.2 hn
    exact ⟨b,off,hA,by have:=hf.size;omega,fun k D hD=>⟨fun j v hv=>cellFr ((hc k D hD).1 j v hv) hf,(hc k D hD).2.keep hf⟩⟩⟩
theorem InReads.at_ {w:World} {A:Option Addr} {n:Nat} {L:List Ch} (h:InReads w A n L) {k:Nat} {C:Ch} (hC:L[k]?=some C):∃ b off,A=some ⟨b,off,none⟩∧b < w.heap.size∧w.rangeAt b (off+k * 15) (recL C)∧ChIn w C:=by
  obtain ⟨b,off,hA,hb,hc⟩:=h.2 (by have:=(List.getElem?_eq_some_iff.1 hC).1;have:=h.1;omega)
  exact ⟨b,off,hA,hb,hc k C hC⟩
theorem min_le (x:Int) (h:0≤x):∃ y:Int,(if 3001 < x then (3001:Int) else x)=y∧0≤y∧y≤3001:=⟨_,rfl,by split <;> omega,by split <;> omega⟩
open Go.RowKit Go.ChangeShapes Go.WideShapes

def RwIn (L:List Ch):Prop:=∀ C ∈ L,SzOk C.R.val∧∀ p ∈ C.R.rows,SzOk p.1∧SzOk p.2
def FewOk7 (L:List Ch):Prop:=L.length≤40∧∀ (k:Nat) (C:Ch),L[k]?=some C→C.R.rows.length≤100
def FewPost7 (L:List Ch) (w:World) (e:Ending) (w':World):Prop:=∃ b:Bool,e=.returned (.bool b)∧(b=true→FewOk7 L)∧Fr none_ w w'
theorem few_step7 {L:List Ch} {k m:Nat} {C:Ch} (h:m≤100→∀ (j:Nat) (D:Ch),j < k→L[j]?=some D→D.R.rows.length≤100) (hC:L[k]?=some C) :
    m+C.R.rows.length≤100→∀ (j:Nat) (D:Ch),j < k+1→L[j]?=some D→D.R.rows.length≤100:=fun hm j D hj hD=>by
  rcases Nat.lt_or_ge j k with h1 | h1
  · exact h (by omega) j D h1 hD
  · obtain rfl:j=k:=by omega
    rw [hC] at hD
    cases hD
    omega
set_option maxHeartbeats 4000000 in
theorem few7_ok (A:Option Addr) (n cap:Nat) (L:List Ch) (w:World) (h:InReads w A n L) (hw:RwIn L) (hm:n≤maxLen):Calls Tryz.prog 38 #[.slice A n cap] w (FewPost7 L w):=by
 unfold maxLen at hm
 have HRL:Hid (∀ C ∈ L,C.R.rows.length≤4398046511104):=hid_ (fun C hC=>by obtain ⟨k,hk⟩:=List.mem_iff_getElem?.1 hC;obtain ⟨_,_,_,_,_,hO⟩:=h.at_ hk;exact hO.rows)
 have H:=hid_ h
 have HW:=hid_ hw
 have hln:=h.1
 clear h hw
 go_enter Tryz.func38,Tryz.ntmps38
 go_wp2_with fail
 go_loopw [3,4,5] (fun a y i wr=>∃ (k m:Nat) (x:Int),k≤n∧k≤41∧i=.int .i64 k∧a=.int .i64 m∧y=.int .i64 x∧m≤k * 101∧0≤x∧x≤(k:Int) * 700000∧(m≤100→∀ (j:Nat) (C:Ch),j < k→L[j]?=some C→C.R.rows.length≤100)∧Fr none_ w wr) (fun _ _ i _=>n - (intOf i).toNat)
 case atStart=>exact ⟨0,0,0,Nat.zero_le _,by omega,rfl,rfl,rfl,by omega,by omega,by omega,fun _ j C hj=>by omega,Fr.refl _ _⟩
 case round =>
  obtain ⟨k,m,x,hk,hk41,rfl,rfl,rfl,hm1,hx0,hx1,hall,hfr⟩:=hrel
  have HA:=hid_ hall
  have F:=hid_ hfr
  clear hall hfr
  by_cases hlt:k < n
  ·obtain ⟨C,hC⟩:∃ C,L[k]?=some C:=⟨_,List.getElem?_eq_getElem (by omega)⟩
   obtain ⟨b,off,rfl,hb,hR,hO⟩:=(H.out.keep F.out).at_ hC
   have hi0:(0:Int)≤(k:Int):=Int.natCast_nonneg _
   have hi1:(k:Int) < (n:Int):=by omega
   by_cases h40:(k:Int)≤40
   ·have HD:=hid_ hC
    have r1:=hR 1 _ rfl
    have r2:=hR 2 _ rfl
    have r7:=hR 7 _ rfl
    have r8:=hR 8 _ rfl
    have z1:=hO.low.le
    have z2:=hO.high.le
    have z7:=hO.key.le
    have z8:=(HW.out C (List.mem_of_getElem? hC)).1.le
    have HE:=hid_ (HW.out C (List.mem_of_getElem? hC)).2
    have hcap:=HRL.out C (List.mem_of_getElem? hC)
    obtain ⟨m1,e1,m1a,m1b⟩:=min_le (C.R.low.size:Int) (by omega)
    obtain ⟨m2,e2,m2a,m2b⟩:=min_le (C.R.high.size:Int) (by omega)
    obtain ⟨m3,e3,m3a,m3b⟩:=min_le (C.R.key.size:Int) (by omega)
    obtain ⟨m4,e4,m4a,m4b⟩:=min_le (C.R.val.size:Int) (by omega)
    clear hR hO hC
    go_wp2_with fail
    go_quiet (fail)
    go_wp2_with fail
    clear r1 r2 r7 r8 e1 e2 e3 e4 z1 z2 z7 z8
    have hs0:0≤x+(m3+m4+m1+m2):=by omega
    have hs1:x+(m3+m4+m1+m2)≤(k:Int) * 700000+12004:=by omega
    clear m1a m1b m2a m2b m3a m3b m4a m4b hx0 hx1
    go_loopw [3,4,6] (fun a y i wr=>∃ (t:Nat) (x':Int),t≤C.R.rows.length∧t≤101∧i=.int .i64 t∧a=.int .i64 ((m+t:Nat):Int)∧y=.int .i64 x'∧0≤x'∧x'≤(k:Int) * 700000+12004+(t:Int) * 6002∧Fr none_ w wr) (fun _ _ i _=>C.R.rows.length - (intOf i).toNat)
    case atStart=>exact ⟨0,_,Nat.zero_le _,by omega,rfl,rfl,rfl,by omega,by omega,F.out.drewN _⟩
    case round =>
     obtain ⟨t,x',ht,ht1,rfl,rfl,rfl,hx2,hx3,hfr⟩:=hrel
     have FX:=hid_ hfr
     clear hfr hb
     obtain ⟨b',off',e,hb,hR,hO⟩:=(H.out.keep FX.out).at_ HD.out
     obtain ⟨rfl,rfl⟩:b=b'∧off=off':=by injection e with e;injection e with e1 e2;exact ⟨e1,e2⟩
     clear e
     have r5:=hR 5 _ rfl
     have hj0:(0:Int)≤(t:Int):=Int.natCast_nonneg _
     by_cases hle:t < C.R.rows.length
     ·obtain ⟨p,hp⟩:∃ p,C.R.rows[t]?=some p:=⟨_,List.getElem?_eq_getElem hle⟩
      obtain ⟨b2,off2,eB,hb2,q0,q1⟩:=rw_at hO.rd.1 hp
      have hj1:(t:Int) < (C.R.rows.length:Int):=by omega
      have zp:=(HE.out p (List.mem_of_getElem? hp)).1.le
      have zp2:=(HE.out p (List.mem_of_getElem? hp)).2.le
      rw [eB] at r5
      clear hR hO hp
      by_cases h100:(t:Int)≤100
      ·obtain ⟨m5,e5,m5a,m5b⟩:=min_le (p.1.size:Int) (by omega)
       obtain ⟨m6,e6,m6a,m6b⟩:=min_le (p.2.size:Int) (by omega)
       go_wp2_with fail
       go_quiet (fail)
       go_wp2_with fail
       go_roundw
       case rel=>exact ⟨t+1,_,by omega,by omega,by go_num,by go_num,rfl,by omega,by omega,by repeat (first | exact FX.out | apply Fr.drewN | apply Fr.drew)⟩
       case measure=>simp [intOf];omega
      ·go_wp2_with fail
       go_roundw
       case rel=>exact ⟨k+1,m+t,x',by omega,by omega,by go_num,rfl,rfl,by omega,by omega,by omega,fun h=>by omega,FX.out⟩
       case measure=>simp [intOf];omega
     ·obtain rfl:t=C.R.rows.length:=by omega
      clear hR hO
      have hj1:¬ ((C.R.rows.length:Int) < (C.R.rows.length:Int)):=by omega
      go_wp2_with fail
      go_roundw
      case rel=>exact ⟨k+1,m+C.R.rows.length,x',by omega,by omega,by go_num,rfl,rfl,by omega,by omega,by omega,few_step7 HA.out HD.out,FX.out⟩
      case measure=>simp [intOf];omega
   ·obtain rfl:k=41:=by omega
    go_wp2
    go_ret
    exact ⟨false,rfl,(fun h=>by cases h),F.out⟩
  ·obtain rfl:k=n:=by omega
   have hall:m≤100→∀ (j:Nat) (C:Ch),L[j]?=some C→C.R.rows.length≤100:=fun h j D hD=>HA.out h j D (by have:=(List.getElem?_eq_some_iff.1 hD).1;omega) hD
   have HB:=hid_ hall
   clear hall
   by_cases g1:(k:Int)≤40
   ·by_cases g2:(m:Int)≤100
    ·by_cases g3:x≤3000
     ·go_wp2
      go_ret
      exact ⟨true,rfl,fun _=>⟨by omega,HB.out (by omega)⟩,F.out⟩
     ·go_wp2
      go_ret
      exact ⟨false,rfl,(fun h=>by cases h),F.out⟩
    ·go_wp2
     go_ret
     exact ⟨false,rfl,(fun h=>by cases h),F.out⟩
   ·go_wp2
    go_ret
    exact ⟨false,rfl,(fun h=>by cases h),F.out⟩
open Go.RowKit

abbrev PwR (L:List Rw):Prop:=L.Pairwise fun p q=>ltS p.1 q.1=true
theorem lt_ge7 {a b c:ByteArray} (h:ltS a b=true) (k:ltS c b=false):ltS a c=true:=by
  rcases ltS_total b c with e | rfl | e
  · exact ltS_trans h e
  · exact h
  · rw [e] at k;cases k
theorem RightR.pw {L:List Rw} (h:RightR L):PwR L:=by
  have key:∀ (d i:Nat) (p q:Rw),L[i]?=some p→L[i+d+1]?=some q→ltS p.1 q.1=true:=by
    intro d
    induction d with
    | zero=>exact fun i p q hp hq=>h.ris i p q hp hq
    | succ d ih =>
      intro i p q hp hq
      have hl:=(List.getElem?_eq_some_iff.1 hq).1
      obtain ⟨r,hr⟩:∃ r,L[i+d+1]?=some r:=⟨_,List.getElem?_eq_getElem (by omega)⟩
      exact ltS_trans (ih i p r hp hr) (h.ris (i+d+1) r q hr (by rw [show i+d+1+1=i+(d+1)+1 by omega];exact hq))
  rw [PwR,List.pairwise_iff_getElem]
  intro i j hi hj hij
  exact key (j - i - 1) i _ _ (List.getElem?_eq_getElem hi) (by rw [show i+(j - i - 1)+1=j by omega];exact List.getElem?_eq_getElem hj)
theorem RightR.of_pw {L:List Rw} (h:PwR L) (hf:∀ p ∈ L,fitsR p=true):RightR L:=by
  refine ⟨hf,fun i p q hp hq=>?_⟩
  obtain ⟨hi,rfl⟩:=List.getElem?_eq_some_iff.1 hp
  obtain ⟨hj,rfl⟩:=List.getElem?_eq_some_iff.1 hq
  exact (List.pairwise_iff_getElem.1 h) i (i+1) hi hj (by omega)
theorem plR_app:∀ (L:List Rw) (key:ByteArray),(∀ p ∈ L.take (plR L key),ltS p.1 key=true)
  | [],_,p,hp=>by simp at hp
  | q :: t,key,p,hp=>by
    rw [plR] at hp
    split at hp
    · rename_i hq
      rw [List.take_succ_cons] at hp
      rcases List.mem_cons.1 hp with rfl | hp
      · exact hq
      · exact plR_app t key p hp
    · simp at hp
theorem plR_behind:∀ {L:List Rw} {key:ByteArray},PwR L→∀ p ∈ L.drop (plR L key+if atR L key then 1 else 0),ltS key p.1=true
  | [],_,_,p,hp=>by simp at hp
  | q :: t,key,h,p,hp=>by
    rw [PwR,List.pairwise_cons] at h
    rw [plR] at hp
    split at hp
    · rename_i hq
      have e:atR (q :: t) key=atR t key:=by
        unfold atR
        rw [plR,if_pos hq,List.getElem?_cons_succ]
      rw [e,show plR t key+1+(if atR t key=true then 1 else 0)=(plR t key+if atR t key=true then 1 else 0)+1 by omega,List.drop_succ_cons] at hp
      exact plR_behind h.2 p hp
    · rename_i hq
      have hq':ltS q.1 key=false:=by simpa using hq
      have e:atR (q :: t) key=sEq q.1 key:=by
        unfold atR
        rw [plR,if_neg hq]
        rfl
      rw [e] at hp
      split at hp
      · rename_i hs
        rw [show (0:Nat)+1=0+1 from rfl,List.drop_succ_cons,List.drop_zero] at hp
        rw [← sEq_iff.1 hs]
        exact h.1 p hp
      · rename_i hs
        have hk:ltS key q.1=true:=by
          rcases ltS_total q.1 key with h1 | h1 | h1
          · rw [hq'] at h1;cases h1
          · rw [h1,sEq_self] at hs;exact absurd rfl hs
          · exact h1
        rw [Nat.add_zero,List.drop_zero] at hp
        rcases List.mem_cons.1 hp with rfl | hp
        · exact hk
        · exact ltS_trans hk (h.1 p hp)
theorem PwR.put {L:List Rw} (h:PwR L) (r:Rw):PwR (putR L r):=by
  unfold putR PwR
  rw [List.pairwise_append,List.pairwise_append]
  refine ⟨⟨h.take,List.pairwise_singleton _ _,fun a ha b hb=>?_⟩,h.drop,fun a ha b hb=>?_⟩
  · rw [List.mem_singleton.1 hb];exact plR_app _ _ a ha
  · have hb':=plR_behind h b hb
    rcases List.mem_append.1 ha with ha | ha
    · exact ltS_trans (plR_app _ _ a ha) hb'
    · rw [List.mem_singleton.1 ha];exact hb'
theorem PwR.dropR {L:List Rw} (h:PwR L) (key:ByteArray):PwR (dropR L key):=by
  unfold Go.Proofs.YthpkbppaaagaoaaGreat.dropR PwR
  split
  · rename_i ha
    rw [List.pairwise_append]
    refine ⟨h.take,h.drop,fun a hm b hb=>ltS_trans (plR_app _ _ a hm) (plR_behind h b (by rw [ha];exact hb))⟩
  · exact h
theorem mem_putR {L:List Rw} {r p:Rw} (h:p ∈ putR L r):p ∈ L∨p=r:=by
  unfold putR at h
  rcases List.mem_append.1 h with h | h
  · rcases List.mem_append.1 h with h | h
    · exact .inl (List.mem_of_mem_take h)
    · exact .inr (List.mem_singleton.1 h)
  · exact .inl (List.mem_of_mem_drop h)
theorem mem_dropR {L:List Rw} {key:ByteArray} {p:Rw} (h:p ∈ dropR L key):p ∈ L:=by
  unfold dropR at h
  split at h
  · rcases List.mem_append.1 h with h | h
    · exact List.mem_of_mem_take h
    · exact List.mem_of_mem_drop h
  · exact h
theorem inS_iff7 {low high:ByteArray} {unb:Bool} {key:ByteArray}:inS low high unb key=true ↔ ltS key low=false∧(unb=true∨ltS key high=true):=by
  unfold inS
  simp only [Bool.and_eq_true,Bool.not_eq_true',Bool.or_eq_true]
theorem join_pw {mid high:ByteArray} {unb:Bool} {L M:List Rw} (h:RightR L) (hu:∀ p ∈ L,ltS p.1 mid=true) (k:SoundR mid high unb M):PwR (L ++ M):=by
  rw [PwR,List.pairwise_append]
  exact ⟨h.pw,k.right.pw,fun a ha b hb=>lt_ge7 (hu a ha) (inS_iff7.1 (k.inn b hb)).1⟩
theorem joins_of {mid high:ByteArray} {unb:Bool} {L M:List Rw} (hu:∀ p ∈ L,ltS p.1 mid=true) (k:SoundR mid high unb M):joinR L M=true:=by
  rcases Nat.eq_zero_or_pos L.length with h0 | h0
  · exact joinR_nil (.inl h0)
  · rcases Nat.eq_zero_or_pos M.length with h1 | h1
    · exact joinR_nil (.inr h1)
    · obtain ⟨p,hp⟩:∃ p,L[L.length - 1]?=some p:=⟨_,List.getElem?_eq_getElem (by omega)⟩
      obtain ⟨q,hq⟩:∃ q,M[0]?=some q:=⟨_,List.getElem?_eq_getElem h1⟩
      rw [joinR_some hp hq]
      exact lt_ge7 (hu p (List.mem_of_getElem? hp)) (inS_iff7.1 (k.inn q (List.mem_of_getElem? hq))).1
theorem ahead_take:∀ {L:List Rw} {key:ByteArray},PwR L→L.filter (fun p=>ltS p.1 key)=L.take (plR L key)
  | [],_,_=>by simp
  | q :: t,key,h=>by
    rw [PwR,List.pairwise_cons] at h
    rw [plR,List.filter_cons]
    split
    · rw [List.take_succ_cons,ahead_take h.2]
    · rename_i hq
      rw [List.take_zero,List.filter_eq_nil_iff]
      intro p hp hk
      have:=ltS_trans (h.1 p hp) hk
      exact hq this
structure GoodL (V:Lw):Prop where
  right:RightR V.rows
  up:V.unb=true∨∀ p ∈ V.rows,ltS p.1 V.high=true
theorem in_up {low high:ByteArray} {unb:Bool} {L:List Rw} (h:∀ p ∈ L,inS low high unb p.1=true):unb=true∨∀ p ∈ L,ltS p.1 high=true:=by
  cases unb with
  | true=>exact .inl rfl
  | false=>exact .inr fun p hp=>by simpa using (inS_iff7.1 (h p hp)).2
theorem upL_good {V V':Lw} {R:Rc} (h:upL V R=some V') (g:GoodL V):GoodL V':=by
  unfold upL at h
  split at h
  · cases h
  split at h
  · split at h
    · rename_i hc
      cases h
      refine ⟨.of_pw (g.right.pw.put _) fun p hp=>?_,?_⟩
      · rcases mem_putR hp with h | rfl
        · exact g.right.fit p h
        · exact hc.1
      · rcases g.up with h | h
        · exact .inl h
        · rcases (inS_iff7.1 hc.2).2 with h' | h'
          · exact .inl h'
          · refine .inr fun p hp=>?_
            rcases mem_putR hp with hp | rfl
            · exact h p hp
            · exact h'
    · cases h
  split at h
  · split at h
    · cases h
      exact ⟨.of_pw (g.right.pw.dropR _) fun p hp=>g.right.fit p (mem_dropR hp),g.up.imp id fun h p hp=>h p (mem_dropR hp)⟩
    · cases h
  split at h
  · split at h
    · cases h
      exact ⟨.of_pw g.right.pw.take fun p hp=>g.right.fit p (List.mem_of_mem_take hp),.inr fun p hp=>plR_app _ _ p hp⟩
    · cases h
  split at h
  · split at h
    · rename_i hc
      cases h
      obtain ⟨⟨h1,h2,h3,h4⟩,h5⟩:=hc
      have hu:∀ p ∈ V.rows,ltS p.1 R.key=true:=by
        rcases g.up with h | h
        · rw [h1] at h;cases h
        · rw [← h2];exact h
      refine ⟨.of_pw (join_pw g.right hu h3) fun p hp=>?_,?_⟩
      · rcases List.mem_append.1 hp with hp | hp
        · exact g.right.fit p hp
        · exact h3.right.fit p hp
      · rcases in_up h3.inn with h | h
        · exact .inl h
        · rcases h4 with h4 | h4
          · exact .inl h4
          · refine .inr fun p hp=>?_
            rcases List.mem_append.1 hp with hp | hp
            · exact ltS_trans (hu p hp) h4
            · exact h p hp
    · cases h
  split at h
  · cases h;exact ⟨g.right,g.up⟩
  · cases h
theorem foldL_good:∀ {l:List Rc} {V:Lw},foldL l=some V→GoodL V
  | [],_,h=>by cases h
  | [b],V,h=>by
    unfold foldL at h
    split at h
    · rename_i hc
      cases h
      exact ⟨hc.2.right,in_up hc.2.inn⟩
    · cases h
  | r :: s :: t,V,h=>by
    rw [foldL_cons r (by simp)] at h
    cases e:foldL (s :: t) with
    | none=>rw [e] at h;cases h
    | some V0 =>
      rw [e] at h
      exact upL_good h (foldL_good e)
theorem upL_kind1 {V:Lw} {R:Rc} (h:R.kind=1):upL V R=none:=by
  unfold upL
  split
  · rfl
  rw [if_neg (by omega),if_neg (by omega),if_neg (by omega),if_neg (by omega),if_neg (by omega)]
theorem upL_gone {V:Lw} {R:Rc} (h:V.gone=true):upL V R=none:=by unfold upL;rw [if_pos h]
theorem upL_gone5 {V V':Lw} {R:Rc} (h:upL V R=some V') (hg:V'.gone=true):R.kind=5:=by
  unfold upL at h
  split at h
  · cases h
  rename_i h0
  split at h
  · split at h
    · cases h;exact absurd hg h0
    · cases h
  split at h
  · split at h
    · cases h;exact absurd hg h0
    · cases h
  split at h
  · split at h
    · cases h;exact absurd hg h0
    · cases h
  split at h
  · split at h
    · cases h;exact absurd hg h0
    · cases h
  split at h
  · assumption
  · cases h
theorem upL_five {V V':Lw} {R:Rc} (h:upL V R=some V') (h5:R.kind=5):V'.gone=true:=by
  unfold upL at h
  rw [h5] at h
  split at h
  · cases h
  · simp at h
    rw [← h]
theorem foldL_gone {l:List Rc} {V:Lw} (h:foldL l=some V) (hg:V.gone=true):∃ r t,l=r :: t∧r.kind=5:=by
  match l,h with
  | [b],h =>
    unfold foldL at h
    split at h
    · cases h;cases hg
    · cases h
  | r :: s :: t,h =>
    rw [foldL_cons r (by simp)] at h
    cases e:foldL (s :: t) with
    | none=>rw [e] at h;cases h
    | some V0=>rw [e] at h;exact ⟨r,_,rfl,upL_gone5 h hg⟩
theorem foldL_at {l:List Rc} {k:Nat} {R:Rc} (hR:l[k]?=some R) (hk:k+1 < l.length):foldL (l.drop k)=(foldL (l.drop (k+1))).bind fun V=>upL V R:=by
  obtain ⟨h,rfl⟩:=List.getElem?_eq_some_iff.1 hR
  rw [List.drop_eq_getElem_cons h,foldL_cons _ (by intro e;have:=congrArg List.length e;simp at this;omega)]
theorem foldL_no1 {l:List Rc} {k:Nat} {R:Rc} (hR:l[k]?=some R) (hk:k+1 < l.length) (h:R.kind=1):foldL l=none:=by
  have e:foldL (l.drop k)=none:=by
    rw [foldL_at hR hk]
    cases foldL (l.drop (k+1)) with
    | none=>rfl
    | some V=>exact upL_kind1 h
  simpa using foldL_none (by omega) e 0 (Nat.zero_le _)
theorem foldL_no5 {l:List Rc} {k:Nat} {R:Rc} (hR:l[k]?=some R) (hk:0 < k) (h:R.kind=5):foldL l=none:=by
  have hl:=(List.getElem?_eq_some_iff.1 hR).1
  obtain ⟨j,rfl⟩:∃ j,k=j+1:=⟨k - 1,by omega⟩
  have e:foldL (l.drop j)=none:=by
    obtain ⟨r,hr⟩:∃ r,l[j]?=some r:=⟨_,List.getElem?_eq_getElem (by omega)⟩
    rw [foldL_at hr hl]
    cases e2:foldL (l.drop (j+1)) with
    | none=>rfl
    | some V =>
      refine upL_gone ?_
      rcases Nat.lt_or_ge (j+1+1) l.length with h2 | h2
      · rw [foldL_at hR h2] at e2
        cases e3:foldL (l.drop (j+1+1)) with
        | none=>rw [e3] at e2;cases e2
        | some V0=>rw [e3] at e2;exact upL_five e2 h
      · obtain ⟨hlt,rfl⟩:=List.getElem?_eq_some_iff.1 hR
        rw [List.drop_eq_getElem_cons hlt,List.drop_eq_nil_of_le h2] at e2
        unfold foldL at e2
        split at e2
        · rename_i hc;rw [h] at hc;omega
        · cases e2
  simpa using foldL_none (by omega) e 0 (Nat.zero_le _)
theorem foldL_noL {l:List Rc} {m:Nat} {R:Rc} (hR:l[m]?=some R) (hm:l.length=m+1) (h:R.kind≠1):foldL l=none:=by
  obtain ⟨hlt,rfl⟩:=List.getElem?_eq_some_iff.1 hR
  have e:foldL (l.drop m)=none:=by
    rw [List.drop_eq_getElem_cons hlt,List.drop_eq_nil_of_le (by omega)]
    exact foldL_one_no _ fun hc=>h hc.1
  simpa using foldL_none hlt e 0 (Nat.zero_le _)
theorem foldL_no {l:List Rc} {k:Nat} (hk:k < l.length) (h:foldL (l.drop k)=none):foldL l=none:=by simpa using foldL_none hk h 0 (Nat.zero_le _)
theorem ltS_iff_ne {a b:ByteArray} (h:ltS b a=false):ltS a b=true ↔ b≠a:=by
  refine ⟨fun e=>(ltS_ne e).symm,fun e=>?_⟩
  rcases ltS_total a b with h1 | h1 | h1
  · exact h1
  · exact absurd h1.symm e
  · rw [h] at h1;cases h1
open Go.RowKit Go.BigFrame

set_option maxHeartbeats 2000000 in
theorem before_ok (a b:ByteArray) (w:World) (ha:a.size≤9000000000000000000) (hb:b.size≤9000000000000000000) :
  Calls Tryz.prog 15 #[.string a,.string b] w fun e w'=>e=.returned (.bool (ltS a b))∧∃ n,w'=w.drewN n:=by
 go_enter Tryz.func15,Tryz.ntmps15
 go_wp2_with fail
 go_loopw [5] (fun i wr=>∃ k:Nat,k≤a.size∧k≤b.size∧i=.int .i64 k∧(∀ j,j < k→a.data.toList[j]?=b.data.toList[j]?)∧∃ q,wr=w.drewN q) (fun i _=>b.size - (intOf i).toNat)
 case atStart=>exact ⟨0,Nat.zero_le _,Nat.zero_le _,rfl,fun j hj=>by omega,0,rfl⟩
 case round =>
  obtain ⟨k,hka',hkb',rfl,hall,q,rfl⟩:=hrel
  have HA:=hid_ hall
  have hi0:(0:Int)≤(k:Int):=Int.natCast_nonneg _
  clear hall
  by_cases hlb:k < b.size
  ·have hib:(k:Int) < (b.size:Int):=by omega
   by_cases hla:k=a.size
   ·have hz:((k:Int)==(a.size:Int))=true:=beq_iff_eq.2 (by omega)
    have HE:Hid (ltS a b=true):=hid_ (lt_of_end (by rw [ba_len];exact (cpL_is HA.out (by rw [ba_len];omega) (by rw [ba_len];omega) (.inl (by rw [ba_len];exact hla))).trans hla) (by rw [ba_len,ba_len];omega))
    clear hla
    go_wp2_with fail
    go_ret
    refine ⟨by rw [HE.out];rfl,?_⟩
    first | exact ⟨_,rfl⟩ | exact ⟨_,drewN_drewN _ _ _⟩
   ·have hz:((k:Int)==(a.size:Int))=false:=beq_eq_false_iff_ne.2 (by omega)
    have hka:k < a.size:=by omega
    have hkb:k < b.size:=hlb
    have hia:(k:Int) < (a.size:Int):=by omega
    clear hla
    by_cases he:a[k]=b[k]
    ·have hne:((a[k].toNat:Int) != (b[k].toNat:Int))=false:=by rw [he];simp
     have HS:Hid (∀ j,j < k+1→a.data.toList[j]?=b.data.toList[j]?):=hid_ (fun j hj=>by
      rcases Nat.lt_succ_iff_lt_or_eq.1 hj with h | rfl
      ·exact HA.out j h
      ·rw [ba_get hka,ba_get hkb,he])
     clear he
     go_wp2_with fail
     go_quiet (fail)
     go_wp2_with fail
     go_roundw
     case rel=>exact ⟨k+1,by omega,by omega,by go_num,HS.out,_,by first | rfl | exact drewN_drewN _ _ _⟩
     case measure=>simp [intOf];omega
    ·have hne:((a[k].toNat:Int) != (b[k].toNat:Int))=true:=by
      rw [bne_iff_ne]
      intro e
      exact he (u8_eq (by omega))
     have hcp:cpL a.data.toList b.data.toList=k:=cpL_is HA.out (by rw [ba_len];omega) (by rw [ba_len];omega) (.inr (.inr ⟨a[k],b[k],ba_get hka,ba_get hkb,he⟩))
     have HE:Hid (decide (a[k].toNat < b[k].toNat)=ltS a b):=hid_ (by
      by_cases hlt:a[k].toNat < b[k].toNat
      ·have:ltS a b=true:=lt_of_stop (a:=a[k]) (b:=b[k]) (by rw [hcp];exact ba_get hka) (by rw [hcp];exact ba_get hkb) hlt
       rw [this];simp [hlt]
      ·have h2:b[k].toNat < a[k].toNat:=by
        have:a[k].toNat≠b[k].toNat:=fun e=>he (u8_eq e)
        omega
       have:ltS b a=true:=lt_of_stop (a:=b[k]) (b:=a[k]) (by rw [cp_comm,hcp];exact ba_get hkb) (by rw [cp_comm,hcp];exact ba_get hka) h2
       rw [ltS_asymm this];simp [hlt])
     clear he hcp
     go_wp2_with fail
     go_quiet (fail)
     go_wp2_with fail
     go_quiet (fail)
     go_wp2_with fail
     go_ret
     refine ⟨by rw [← HE.out];rfl,?_⟩
     first | exact ⟨_,rfl⟩ | exact ⟨_,drewN_drewN _ _ _⟩ | (simp only [drewN_drewN];exact ⟨_,rfl⟩)
  ·obtain rfl:k=b.size:=by omega
   have HE:Hid (ltS a b=false):=hid_ (by
    cases h:ltS a b with
    | false=>rfl
    | true =>
     have hcp:cpL a.data.toList b.data.toList=b.size:=cpL_is HA.out (by rw [ba_len];omega) (by rw [ba_len];omega) (.inr (.inl (by rw [ba_len])))
     rcases Nat.lt_or_ge b.size a.size with h1 | h1
     ·have:ltS b a=true:=lt_of_end (by rw [cp_comm,hcp,ba_len]) (by rw [ba_len,ba_len];exact h1)
      rw [ltS_asymm this] at h;cases h
     ·have he:a=b:=ba_eq (eq_of_cp (by rw [hcp,ba_len];omega) (by rw [hcp,ba_len]))
      rw [he,ltS_irrefl] at h;cases h)
   go_wp2_with fail
   go_ret
   refine ⟨by rw [HE.out];rfl,?_⟩
   first | exact ⟨_,rfl⟩ | exact ⟨_,drewN_drewN _ _ _⟩
set_option maxHeartbeats 1000000 in
theorem rin_ok (low high:ByteArray) (unb:Bool) (key:ByteArray) (w:World) (h1:low.size≤9000000000000000000) (h2:high.size≤9000000000000000000) (h3:key.size≤9000000000000000000) :
    Calls Tryz.prog 90 #[.string low,.string high,.bool unb,.string key] w fun e w'=>e=.returned (.bool (inS low high unb key))∧∃ n,w'=w.drewN n:=by
  have HE:∀ b,ltS key low=b→inS low high unb key=(!b && (unb || ltS key high)):=fun b hb=>by rw [← hb];rfl
  have H:=hid_ HE
  clear HE
  cases ha:ltS key low with
  | true =>
    have HA:=hid_ ha
    clear ha
    go_enter Tryz.func90,Tryz.ntmps90
    go_wp2_with fail
    refine (before_ok key low _ h3 h1).mono ?_
    rintro e w1 ⟨rfl,q,rfl⟩
    rw [HA.out]
    go_wp2_with fail
    go_ret
    exact ⟨by rw [H.out true HA.out];rfl,_,rfl⟩
  | false =>
    have HA:=hid_ ha
    clear ha
    cases unb with
    | true =>
      go_enter Tryz.func90,Tryz.ntmps90
      go_wp2_with fail
      refine (before_ok key low _ h3 h1).mono ?_
      rintro e w1 ⟨rfl,q,rfl⟩
      rw [HA.out]
      go_wp2_with fail
      go_ret
      exact ⟨by rw [H.out false HA.out];rfl,_,rfl⟩
    | false =>
      go_enter Tryz.func90,Tryz.ntmps90
      go_wp2_with fail
      refine (before_ok key low _ h3 h1).mono ?_
      rintro e w1 ⟨rfl,q,rfl⟩
      rw [HA.out]
      go_wp2_with fail
      refine (before_ok key high _ h3 h2).mono ?_
      rintro e w2 ⟨rfl,q2,rfl⟩
      go_wp2_with fail
      go_ret
      exact ⟨by rw [H.out false HA.out];simp,_,by first | rfl | exact drewN_drewN _ _ _⟩
theorem rvin_ok (V:Vw) (ve:Value) (key:ByteArray) (w:World) (h1:SzOk V.low) (h2:SzOk V.high) (h3:SzOk key) :
    Calls Tryz.prog 87 #[vwV V ve,.string key] w fun e w'=>e=.returned (.bool (inS V.low V.high V.unb key))∧Fr none_ w w':=by
  have F0:=hid_ ((Fr.refl none_ w).alloc (.cells (vwA V ve) 116))
  have H:=hid_ (And.intro h1 (And.intro h2 h3))
  clear h1 h2 h3
  go_enter Tryz.func87,Tryz.ntmps87
  go_wp2_with fail
  refine (rin_ok V.low V.high V.unb key _ H.out.1.le H.out.2.1.le H.out.2.2.le).mono ?_
  rintro e w1 ⟨rfl,q,rfl⟩
  go_wp2
  go_ret
  exact ⟨rfl,F0.out.drewN q⟩
def Rising (L:List Et):Prop:=∀ (j:Nat) (p q:Et),L[j]?=some p→L[j+1]?=some q→ltS p.1 q.1=true
def AtIs (L:List Et) (key:ByteArray) (k:Int):Prop:=(∃ (i:Nat) (p:Et),k=(i:Int)∧L[i]?=some p∧p.1=key)∨(k=-1∧∀ (i:Nat) (p:Et),L[i]?=some p→p.1≠key)
set_option maxHeartbeats 2000000 in
theorem rat_ok (V:Vw) (A:Option Addr) (c:Nat) (key:ByteArray) (w:World) (h:VwIn w V A c):Calls Tryz.prog 57 #[vwV V (.slice A V.ents.length c),.string key] w fun e w'=>∃ k:Int,e=.returned (.int .i64 k)∧AtIs V.ents key k∧Fr none_ w w':=by
  obtain ⟨w0,hw0⟩:∃ z,z=w.alloc (.cells (vwA V (.slice A V.ents.length c)) 116):=⟨_,rfl⟩
  have f0:Fr none_ w w0:=by rw [hw0];exact (Fr.refl none_ w).alloc _
  have BV:Hid (Blk w0 w.heap.size 116 (vwA V (.slice A V.ents.length c))):=hid_ (by rw [hw0];exact Blk.new w _ _)
  have F0:=hid_ f0
  have HI:=hid_ (h.keep f0)
  have h1000:=h.ok.ents.1
  clear h f0
  go_enter Tryz.func57,Tryz.ntmps57
  go_upto_region 1 with fail
  change Code.wp _ _ _ _ (w.alloc (.cells (vwA V (.slice A V.ents.length c)) 116))
  rw [← hw0]
  clear hw0
  go_wp2_with fail
  go_loopw [5] (fun i wr=>∃ k:Nat,k≤V.ents.length∧i=.int .i64 k∧(∀ (j:Nat) (p:Et),j < k→V.ents[j]?=some p→p.1≠key)∧w0=wr) (fun i _=>V.ents.length - (intOf i).toNat)
  case atStart=>exact ⟨0,Nat.zero_le _,rfl,fun j p hj=>by omega,rfl⟩
  case round =>
    obtain ⟨k,hk,rfl,hall,rfl⟩:=hrel
    have HA:=hid_ hall
    have hi0:(0:Int)≤(k:Int):=Int.natCast_nonneg _
    have v4:w0.cell? ⟨w.heap.size,4,none⟩=some (.slice A V.ents.length c):=BV.out.cell' rfl
    clear hall
    by_cases hlt:k < V.ents.length
    · obtain ⟨q,hq⟩:∃ q,V.ents[k]?=some q:=⟨_,List.getElem?_eq_getElem hlt⟩
      have HQ:=hid_ hq
      obtain ⟨b,off,rfl,hb,d0,d1⟩:=et_at HI.out.rd hq
      have hi1:(k:Int) < (V.ents.length:Int):=by omega
      clear hq d1
      cases hc:sEq q.1 key with
      | true =>
        have hd:(q.1.toList==key.toList)=true:=hc
        have HC:=hid_ (sEq_iff.1 hc)
        clear hc
        go_wp2_with fail
        go_ret
        exact ⟨(k:Int),rfl,.inl ⟨k,q,rfl,HQ.out,HC.out⟩,F0.out⟩
      | false =>
        have hd:(q.1.toList==key.toList)=false:=hc
        have HC:Hid (q.1≠key):=hid_ (fun e=>by rw [sEq_iff.2 e] at hc;cases hc)
        clear hc
        go_wp2_with fail
        go_roundw
        case rel =>
          refine ⟨k+1,by omega,by go_num,fun j p hj hp=>?_,by first | rfl | trivial⟩
          rcases Nat.lt_succ_iff_lt_or_eq.1 hj with h | rfl
          · exact HA.out j p h hp
          · obtain rfl:=Option.some.inj (HQ.out.symm.trans hp)
            exact HC.out
        case measure=>simp [intOf];omega
    · have hi1:¬ (k:Int) < (V.ents.length:Int):=by omega
      go_wp2_with fail
      go_ret
      exact ⟨-1,rfl,.inr ⟨rfl,fun j p hp=>HA.out j p (by have:=(List.getElem?_eq_some_iff.1 hp).1;omega) hp⟩,F0.out⟩
theorem Rising.tail {q:Et} {t:List Et} (h:Rising (q :: t)):Rising t:=fun j p r hp hr=>h (j+1) p r (by simpa using hp) (by simpa using hr)
theorem Rising.behind {q:Et}:∀ {t:List Et},Rising (q :: t)→∀ p ∈ t,ltS q.1 p.1=true
  | [],_,p,hp=>by cases hp
  | r :: t,h,p,hp=>by
    have h0:ltS q.1 r.1=true:=h 0 q r rfl rfl
    rcases List.mem_cons.1 hp with rfl | hp
    · exact h0
    · exact ltS_trans h0 (Rising.behind h.tail p hp)
theorem at_mem:∀ {L:List Et},Rising L→∀ {p:Et},p ∈ L→atB L p.1=true
  | [],_,p,hp=>by cases hp
  | q :: t,h,p,hp=>by
    rcases List.mem_cons.1 hp with rfl | hp
    · have hz:plN (p :: t) p.1=0:=by rw [plN,if_neg (by rw [ltS_irrefl];simp)]
      rw [atB_some (p:=p) (by rw [hz];rfl)]
      exact sEq_iff.2 rfl
    · have h1:=h.behind p hp
      have ih:=at_mem h.tail hp
      have ha:atB (q :: t) p.1=atB t p.1:=by
        unfold atB
        rw [plN,if_pos h1]
        simp
      rw [ha];exact ih
theorem at_rising {L:List Et} {key:ByteArray} {k:Int} (h:Rising L) (ha:AtIs L key k):atB L key=decide (0≤k):=by
  rcases ha with ⟨i,p,rfl,hp,rfl⟩ | ⟨rfl,hno⟩
  · have:(decide ((0:Int)≤(i:Int)))=true:=by simp
    rw [this]
    exact at_mem h (List.mem_of_getElem? hp)
  · show atB L key=false
    cases hc:atB L key with
    | false=>rfl
    | true =>
      have hlt:=atB_lt hc
      obtain ⟨p,hp⟩:∃ p,L[plN L key]?=some p:=⟨_,List.getElem?_eq_getElem hlt⟩
      rw [atB_some hp] at hc
      exact absurd (sEq_iff.1 hc) (hno _ p hp)
open Go.RowKit Go.BigFrame

set_option maxHeartbeats 2000000 in
theorem rkright_ok (k:ByteArray) (w:World) (h:SzOk k):Calls Tryz.prog 40 #[.string k] w fun e w'=>e=.returned (.bool (decide (1≤k.size) && decide (k.size≤16)))∧Fr none_ w w':=by
  have hl:=h.le
  clear h
  go_enter Tryz.func40,Tryz.ntmps40
  by_cases h1:1≤k.size
  · have e1:decide ((0:Int) < (k.size:Int))=true:=decide_eq_true (by omega)
    have H1:=hid_ h1
    by_cases h2:k.size≤16
    · have e2:decide ((k.size:Int) < 17)=true:=decide_eq_true (by omega)
      have H2:=hid_ h2
      clear h1 h2
      go_wp2
      go_ret
      exact ⟨by simp [H1.out,H2.out],Fr.refl _ _⟩
    · have e2:decide ((k.size:Int) < 17)=false:=decide_eq_false (by omega)
      have H2:=hid_ h2
      clear h1 h2
      go_wp2
      go_ret
      exact ⟨by simp [H1.out,H2.out],Fr.refl _ _⟩
  · have e1:decide ((0:Int) < (k.size:Int))=false:=decide_eq_false (by omega)
    have H1:=hid_ h1
    clear h1
    go_wp2
    go_ret
    exact ⟨by simp [H1.out],Fr.refl _ _⟩
set_option maxHeartbeats 2000000 in
theorem rfits_ok (p:Rw) (w:World) (h1:SzOk p.1) (h2:SzOk p.2):Calls Tryz.prog 12 #[rwV p] w fun e w'=>e=.returned (.bool (fitsR p))∧Fr none_ w w':=by
  have hl:=h2.le
  have H1:=hid_ h1
  obtain ⟨w0,hw0⟩:∃ z,z=w.alloc (.cells #[.string p.1,.string p.2] 25):=⟨_,rfl⟩
  have f0:Fr none_ w w0:=by rw [hw0];exact (Fr.refl none_ w).alloc _
  have B0:Hid (Blk w0 w.heap.size 25 #[.string p.1,.string p.2]):=hid_ (by rw [hw0];exact Blk.new w _ _)
  have F0:=hid_ f0
  clear h1 h2 f0
  go_enter Tryz.func12,Tryz.ntmps12
  go_upto_region 1 with fail
  change Code.wp _ _ _ _ (w.alloc (.cells #[.string p.1,.string p.2] 25))
  rw [← hw0]
  clear hw0
  have c0:w0.cell? ⟨w.heap.size,0,none⟩=some (.string p.1):=B0.out.cell' rfl
  go_wp2_with fail
  refine (rkright_ok p.1 _ H1.out).mono ?_
  rintro e w1 ⟨rfl,hf⟩
  have c1:w1.cell? ⟨w.heap.size,1,none⟩=some (.string p.2):=(B0.out.fr hf id).cell' rfl
  replace F0:=hid_ (F0.out.then_none hf)
  clear c0 hf
  obtain ⟨b,hb⟩:∃ b,(decide (1≤p.1.size) && decide (p.1.size≤16))=b:=⟨_,rfl⟩
  rw [hb]
  have HB:=hid_ hb
  clear hb
  cases b with
  | false =>
    go_wp2
    go_ret
    exact ⟨by simp [fitsR,HB.out],F0.out⟩
  | true =>
    by_cases h2:p.2.size≤16
    · have e2:decide ((p.2.size:Int)≤16)=true:=by simp;omega
      have H2:=hid_ h2
      clear h2
      go_wp2
      go_ret
      exact ⟨by simp [fitsR,HB.out,H2.out],F0.out⟩
    · have e2:decide ((p.2.size:Int)≤16)=false:=by simp;omega
      have H2:=hid_ h2
      clear h2
      go_wp2
      go_ret
      exact ⟨by simp [fitsR,HB.out,H2.out],F0.out⟩
set_option maxHeartbeats 4000000 in
theorem rfind_ok (L:List Rw) (A:Option Addr) (c:Nat) (key:ByteArray) (w:World) (h:Reads w 2 A L.length (rwFlat L)) (ho:RwsOk L) (hk:SzOk key) :
  Calls Tryz.prog 55 #[.slice A L.length c,.string key] w fun e w'=>e=.returned (.tuple #[.int .i64 (plR L key:Nat),.bool (atR L key)])∧Fr none_ w w':=by
 have H0:=hid_ h
 have hle:=plR_le L key
 have h1000:=ho.1
 have HSZ:=hid_ (And.intro ho.2 hk)
 clear h ho hk
 go_enter Tryz.func55,Tryz.ntmps55
 go_wp2_with fail
 go_loopw [6] (fun i wr=>∃ k:Nat,k≤plR L key∧i=.int .i64 k∧Fr none_ w wr) (fun i _=>plR L key - (intOf i).toNat)
 case atStart=>exact ⟨0,Nat.zero_le _,rfl,Fr.refl _ _⟩
 case round =>
  obtain ⟨k,hk,rfl,hF⟩:=hrel
  have H:=hid_ (H0.out.none_fr hF)
  have F:=hid_ hF
  clear hF
  have hi0:(0:Int)≤(k:Int):=Int.natCast_nonneg _
  by_cases hlt:k < plR L key
  ·have hkl:k < L.length:=by omega
   have hi1:(k:Int) < (L.length:Int):=by omega
   have hd1:decide ((k:Int) < (L.length:Int))=true:=by simp;omega
   obtain ⟨p,hp⟩:∃ p,L[k]?=some p:=⟨_,List.getElem?_eq_getElem hkl⟩
   obtain ⟨b,off,rfl,hb,c0,c1⟩:=rw_at H.out hp
   have hcmp:ltS p.1 key=true:=plR_in hlt hp
   have hsz:=(HSZ.out.1 p (List.mem_of_getElem? hp)).1
   have HCMP:=hid_ hcmp
   clear hp hcmp c1
   go_wp2_with fail
   refine (before_ok p.1 key _ hsz.le HSZ.out.2.le).mono ?_
   rintro e w1 ⟨rfl,q,rfl⟩
   rw [HCMP.out]
   have FQ:=hid_ (F.out.drewN q)
   clear c0
   go_wp2_with fail
   go_roundw
   case rel=>exact ⟨k+1,by omega,by go_num,FQ.out⟩
   case measure=>simp [intOf];omega
  ·obtain rfl:k=plR L key:=by omega
   by_cases hl:plR L key < L.length
   ·obtain ⟨p,hp⟩:∃ p,L[plR L key]?=some p:=⟨_,List.getElem?_eq_getElem hl⟩
    obtain ⟨b,off,rfl,hb,c0,c1⟩:=rw_at H.out hp
    have hcmp:ltS p.1 key=false:=plR_at hp
    have hat:atR L key=sEq p.1 key:=atR_some hp
    have HAT:=hid_ hat
    have hsz:=(HSZ.out.1 p (List.mem_of_getElem? hp)).1
    obtain ⟨n,hn⟩:∃ n,n=plR L key:=⟨_,rfl⟩
    have hi1:(n:Int) < (L.length:Int):=by omega
    have hd1:decide ((n:Int) < (L.length:Int))=true:=by simp;omega
    rw [← hn] at c0 c1 hi0
    rw [← hn]
    have HCMP:=hid_ hcmp
    have HN:=hid_ hn
    clear hp hcmp c1 hl hlt hn hk hle hat
    go_wp2_with fail
    refine (before_ok p.1 key _ hsz.le HSZ.out.2.le).mono ?_
    rintro e w1 ⟨rfl,q,rfl⟩
    rw [HCMP.out]
    have FQ:=hid_ (F.out.drewN q)
    go_wp2_with fail
    go_quiet (fail)
    go_wp2_with fail
    go_ret2
    exact ⟨by rw [HAT.out,← HN.out];rfl,by repeat (first | exact F.out | apply Fr.drewN | apply Fr.drew)⟩
   ·have he:plR L key=L.length:=by omega
    have HE:=hid_ he
    have hat:atR L key=false:=atR_none he
    have HAT:=hid_ hat
    have hd1:decide ((L.length:Int) < (L.length:Int))=false:=by simp
    rw [he]
    clear he hl hlt hk hle hat
    go_wp2_with fail
    go_ret2
    exact ⟨by rw [HAT.out,HE.out];rfl,F.out⟩
set_option maxHeartbeats 4000000 in
theorem rright_ok (L:List Rw) (A:Option Addr) (c:Nat) (w:World) (h:Reads w 2 A L.length (rwFlat L)) (ho:RwsOk L) :
  Calls Tryz.prog 39 #[.slice A L.length c] w (RightPost L w):=by
 have H1:=hid_ h
 have OK:=hid_ ho
 have h1000:=ho.1
 clear h ho
 go_enter Tryz.func39,Tryz.ntmps39
 go_wp2_with fail
 go_loopw [3] (fun i wr=>∃ k:Nat,k≤L.length∧i=.int .i64 k∧RightTo L k∧Fr none_ w wr) (fun i _=>L.length - (intOf i).toNat)
 case atStart=>exact ⟨0,Nat.zero_le _,rfl,⟨fun j p hj=>by omega,fun j p q hj=>by omega⟩,Fr.refl _ _⟩
 case round =>
  obtain ⟨k,hk,rfl,hst,hF⟩:=hrel
  have ST:=hid_ hst
  have H:=hid_ (H1.out.none_fr hF)
  have F:=hid_ hF
  clear hst hF
  have hi0:(0:Int)≤(k:Int):=Int.natCast_nonneg _
  by_cases hlt:k < L.length
  ·have hi1':(k:Int) < (L.length:Int):=by omega
   obtain ⟨p,hp⟩:∃ p,L[k]?=some p:=⟨_,List.getElem?_eq_getElem hlt⟩
   obtain ⟨b,off,rfl,hb2,c0,c1⟩:=rw_at H.out hp
   have HP:=hid_ hp
   have hpk:=OK.out.2 p (List.mem_of_getElem? hp)
   have HPK:=hid_ hpk
   clear hp hpk
   go_wp2_with fail
   refine (rfits_ok p wr HPK.out.1 HPK.out.2).mono ?_
   rintro e w1 ⟨rfl,hf1⟩
   replace H:=hid_ (H.out.none_fr hf1)
   replace F:=hid_ (F.out.then_none hf1)
   clear c0 c1 hf1
   cases hfit:fitsR p with
   | false =>
    have hns:¬ RightR L:=fun hS=>by
     have h:=hS.fit p (List.mem_of_getElem? HP.out)
     rw [hfit] at h
     cases h
    have HNS:=hid_ hns
    clear hns hfit
    go_wp2_with fail
    go_ret
    exact ⟨false,rfl,⟨(fun h=>by cases h),fun h=>absurd h HNS.out⟩,F.out⟩
   | true =>
   have HFIT:=hid_ hfit
   clear hfit
   go_upto_region 6 with fail
   go_cut [32] (fun v wq=>∃ bb:Bool,v=.bool bb∧(bb=false ↔ (∀ q,0 < k→L[k - 1]?=some q→ltS q.1 p.1=true))∧Fr none_ w1 wq)
   case first =>
    by_cases hk0:0 < k
    ·obtain ⟨q,hq⟩:∃ q,L[k - 1]?=some q:=⟨_,List.getElem?_eq_getElem (by omega)⟩
     obtain ⟨b3,off3,hA,hb3,d0,d1⟩:=rw_at H.out hq
     obtain ⟨rfl,rfl⟩:b=b3∧off=off3:=by injection hA with hA;injection hA with e1 e2;exact ⟨e1,e2⟩
     obtain ⟨b4,off4,hA4,hb4,g0,g1⟩:=rw_at H.out HP.out
     obtain ⟨rfl,rfl⟩:b=b4∧off=off4:=by injection hA4 with hA4;injection hA4 with e1 e2;exact ⟨e1,e2⟩
     have e0:∀ x:Wx w1,x.to.cell? ⟨b,off+(k - 1) * 2,none⟩=some (.string q.1):=fun x=>x.cell d0
     have e1:∀ x:Wx w1,x.to.cell? ⟨b,off+k * 2,none⟩=some (.string p.1):=fun x=>x.cell g0
     have hqk:=(OK.out.2 q (List.mem_of_getElem? hq)).1
     have HQK:=hid_ hqk
     have HQ:=hid_ hq
     have HQ':Hid ((∀ q',0 < k→L[k - 1]?=some q'→ltS q'.1 p.1=true) ↔ ltS q.1 p.1=true):=hid_ ⟨fun h=>h q hk0 hq,fun h q' _ hq'=>by rw [hq] at hq';cases hq';exact h⟩
     have HC2:Hid (∀ x:Wx w1,Calls Tryz.prog 15 #[.string q.1,.string p.1] x.to fun e w'=>e=.returned (.bool (ltS q.1 p.1))∧Fr none_ x.to w'):=hid_ (fun x=>(before_ok q.1 p.1 x.to HQK.out.le HPK.out.1.le).mono (by rintro e w' ⟨rfl,n,rfl⟩;exact ⟨rfl,(Fr.refl none_ _).drewN n⟩))
     have hw1:IntKind.i64.wrap ((k:Int) - 1)=((k - 1:Nat):Int):=by rw [show (k:Int) - 1=((k - 1:Nat):Int) by omega];exact IntWalk.i64_in _ (by omega)
     have hdk:decide (0 < k)=true:=decide_eq_true hk0
     have hj0:(0:Int)≤((k - 1:Nat):Int):=Int.natCast_nonneg _
     have hj1:((k - 1:Nat):Int) < (L.length:Int):=by omega
     obtain ⟨j,hj⟩:∃ j,j=k - 1:=⟨_,rfl⟩
     rw [← hj] at e0 hw1 hj0 hj1
     have HJ:=hid_ hj
     clear hq hA hA4 d0 d1 g0 g1 hqk hj hk0
     refine wp_region_quiet_x (by kernel_rfl) (by kernel_rfl) ?_
     repeat (first | go_big_quiet_step ((go_at_call 15;exact Calls.quiet_x (HC2.out _))) | quiet_step ((go_at_call 15;exact Calls.quiet_x (HC2.out _))))
     refine wpQuiet_nil ?_
     intro _ hw'
     obtain ⟨xq,hw''⟩:=hw'
     subst hw''
     go_wp2
     go_meet
     case rel=>exact ⟨_,rfl,by
      rw [HQ'.out]
      cases ltS q.1 p.1 <;> simp,xq.fr⟩
    ·have hdk:decide (0 < k)=false:=decide_eq_false hk0
     have hk0':k=0:=by omega
     have HK0:=hid_ hk0'
     clear hk0 hk0'
     refine wp_region_quiet_x (by kernel_rfl) (by kernel_rfl) ?_
     repeat (first | go_big_quiet_step (fail) | quiet_step (fail))
     refine wpQuiet_nil ?_
     intro _ hw'
     obtain ⟨xq,hw''⟩:=hw'
     subst hw''
     go_wp2
     go_meet
     case rel=>exact ⟨false,rfl,⟨fun _ q h=>by have:=HK0.out;omega,fun _=>rfl⟩,xq.fr⟩
   case rest =>
   obtain ⟨bb,rfl,hbb,hf⟩:=hcut
   have F3:=hid_ (F.out.then_none hf)
   have HB:=hid_ hbb
   clear hf hbb H F
   cases bb with
   | true =>
    have hns:¬ RightR L:=fun hS=>by
     have h:=HB.out.2 fun q h0 hq=>hS.ris (k - 1) q p hq (by rw [show k - 1+1=k by omega];exact HP.out)
     cases h
    have HNS:=hid_ hns
    clear hns
    go_wp2_with fail
    go_ret
    exact ⟨false,rfl,⟨(fun h=>by cases h),fun h=>absurd h HNS.out⟩,F3.out⟩
   | false =>
    have hst:RightTo L (k+1):=by
     have h:=HB.out.1 rfl
     refine ⟨fun j p' hj hp'=>?_,fun j p' q hj hp' hq=>?_⟩
     ·rcases Nat.lt_succ_iff_lt_or_eq.1 hj with hj | rfl
      ·exact ST.out.1 j p' hj hp'
      ·rw [HP.out] at hp';cases hp';exact HFIT.out
     ·rcases Nat.lt_succ_iff_lt_or_eq.1 hj with hj | hj
      ·exact ST.out.2 j p' q hj hp' hq
      ·rw [hj,HP.out] at hq
       cases hq
       exact h p' (by omega) (by rw [show k - 1=j by omega];exact hp')
    have HST:=hid_ hst
    clear hst
    go_wp2_with fail
    go_roundw
    case rel=>exact ⟨k+1,by omega,by go_num,HST.out,F3.out⟩
    case measure=>simp [intOf];omega
  ·obtain rfl:k=L.length:=by omega
   have hS:RightR L:=⟨fun p hp=>by obtain ⟨j,hj,e⟩:=List.mem_iff_getElem.1 hp;exact ST.out.1 j p hj (by rw [List.getElem?_eq_getElem hj,e]),fun j p q hp hq=>ST.out.2 j p q (List.getElem?_eq_some_iff.1 hq).1 hp hq⟩
   have HS:=hid_ hS
   clear hS
   go_wp2_with fail
   go_ret
   exact ⟨true,rfl,⟨fun _=>HS.out,fun _=>rfl⟩,F.out⟩
open Go.RowKit

def TxReads (w:World) (A:Option Addr) (n:Nat) (N:List ByteArray):Prop:=
  N.length=n∧(0 < n→∃ b off,A=some ⟨b,off,none⟩∧b < w.heap.size∧∀ k x,N[k]?=some x→w.cell? ⟨b,off+k,none⟩=some (.string x)∧SzOk x)
theorem TxReads.keep {w w':World} {A:Option Addr} {n:Nat} {L:List ByteArray} (h:TxReads w A n L) (hf:Fr none_ w w'):TxReads w' A n L:=
  ⟨h.1,fun hn=>by
    obtain ⟨b,off,hA,hb,hc⟩:=h.2 hn
    exact ⟨b,off,hA,by have:=hf.size;omega,fun k p hp=>⟨cellFr (hc k p hp).1 hf,(hc k p hp).2⟩⟩⟩
theorem Blk.rangeL {w:World} {g:Nat} {t:TypeId} {cs:List Value} (h:Blk w g t cs.toArray):w.rangeAt g 0 cs:=fun j v hj=>by
  rw [Nat.zero_add]
  exact h.cell' (by simpa using hj)
theorem TxReads.at_ {w:World} {A:Option Addr} {n:Nat} {L:List ByteArray} (h:TxReads w A n L) {k:Nat} {x:ByteArray} (hk:L[k]?=some x):∃ b off,A=some ⟨b,off,none⟩∧b < w.heap.size∧w.cell? ⟨b,off+k,none⟩=some (.string x)∧SzOk x:=by
  have hl:=(List.getElem?_eq_some_iff.1 hk).1
  obtain ⟨b,off,hA,hb,hc⟩:=h.2 (by have:=h.1;omega)
  exact ⟨b,off,hA,hb,(hc k x hk).1,(hc k x hk).2⟩
def rowsCh (l:List Rw) (A:Option Addr) (c:Nat):Ch:=⟨{ Rc.zero with rows:=l },A,c,none,0⟩
def Few13Post (l:List Rw) (N:List ByteArray) (w:World) (e:Ending) (w':World):Prop:=∃ b:Bool,e=.returned (.bool b)∧(b=true→l.length≤60∧RightR l∧N.length≤12)∧Fr none_ w w'
set_option maxHeartbeats 4000000 in
theorem few13_ok (l:List Rw) (A B:Option Addr) (c d:Nat) (N:List ByteArray) (w:World) (h:Reads w 2 A l.length (rwFlat l)) (ho:∀ p ∈ l,SzOk p.1∧SzOk p.2) (hc:l.length≤c∧c≤maxLen) (hN:TxReads w B N.length N) (hd:N.length≤d∧d≤maxLen) :
  Calls Tryz.prog 10 #[.slice A l.length c,.slice B N.length d] w (Few13Post l N w):=by
 unfold maxLen at hd hc
 have HC:=hid_ hc
 have H:=hid_ h
 have HO:=hid_ ho
 have HN:=hid_ hN
 have hd1:=hd.1
 have hd2:=hd.2
 have hc1:=hc.1
 have hc2:=hc.2
 clear h ho hN hd hc
 go_enter Tryz.func10,Tryz.ntmps10
 go_wp2_with fail
 go_loopw [5] (fun i wr=>∃ k:Nat,k≤N.length∧k≤13∧i=.int .i64 k∧Fr none_ w wr) (fun i _=>N.length - (intOf i).toNat)
 case atStart=>exact ⟨0,Nat.zero_le _,by omega,rfl,Fr.refl _ _⟩
 case round =>
  obtain ⟨k,hk,hk13,rfl,hF⟩:=hrel
  have F:=hid_ hF
  clear hF
  have hi0:(0:Int)≤(k:Int):=Int.natCast_nonneg _
  by_cases hlt:k < N.length∧k≤12
  ·obtain ⟨hlt,hk12⟩:=hlt
   have hi1:(k:Int) < (N.length:Int):=by omega
   have hi2:(k:Int)≤12:=by omega
   obtain ⟨x,hx⟩:∃ x,N[k]?=some x:=⟨_,List.getElem?_eq_getElem hlt⟩
   obtain ⟨b,off,rfl,hb,hcell,hz⟩:=(HN.out.keep F.out).at_ hx
   have hz:=hz.le
   clear hx
   by_cases hbig:100 < (x.size:Int)
   ·go_wp2_with fail
    go_ret
    exact ⟨false,rfl,(fun h=>by cases h),F.out⟩
   ·go_wp2_with fail
    go_roundw
    case rel=>exact ⟨k+1,by omega,by omega,by go_num,F.out⟩
    case measure=>simp [intOf];omega
  ·have hg:(k:Int) < (N.length:Int)→¬ (k:Int)≤12:=fun h1 h2=>hlt ⟨by omega,by omega⟩
   clear hlt
   go_upto_region 6 with fail
   all_goals
    by_cases h60:(l.length:Int)≤60
    ·have hOK:RwsOk l:=⟨by omega,HO.out⟩
     have hIn:∀ (b:Nat) (w1:World),Fr none_ w w1→b < w1.heap.size→w1.rangeAt b 0 (recL (rowsCh l A c))→InReads w1 (some ⟨b,0,none⟩) 1 [rowsCh l A c]:=fun b w1 hf hb hr =>
      ⟨rfl,fun _=>⟨b,0,rfl,hb,fun k C hC=>by
       have hk:k=0:=by have:=(List.getElem?_eq_some_iff.1 hC).1;simpa using this
       subst hk
       obtain rfl:rowsCh l A c=C:=by simpa using hC
       exact ⟨hr,⟨⟨H.out.none_fr hf,Reads.nil_⟩,SzOk.nil,SzOk.nil,SzOk.nil,SzOk.nil,(fun p hp=>by cases hp),Nat.le_refl _,Nat.zero_le _,by show l.length≤_;omega⟩⟩⟩⟩
     have HIN:=hid_ hIn
     have HOK:=hid_ hOK
     have hRW:RwIn [rowsCh l A c]:=fun C hC=>by
      obtain rfl:C=rowsCh l A c:=by simpa using hC
      exact ⟨SzOk.nil,HO.out⟩
     have HRW:=hid_ hRW
     clear hIn hOK hRW
     go_wp2_with fail
     obtain ⟨wz,hwz⟩:∃ wz,wz=wr.alloc (.cells (recL (rowsCh l A c)).toArray 51):=⟨_,rfl⟩
     change Calls Tryz.prog _ _ (wr.alloc (.cells (recL (rowsCh l A c)).toArray 51)) _
     have FZ:Hid (Fr none_ w wz):=hid_ (by rw [hwz];exact F.out.alloc _)
     have hB:Blk wz wr.heap.size 51 (recL (rowsCh l A c)).toArray:=by rw [hwz];exact Blk.new _ _ _
     have HI:=hid_ (HIN.out _ wz FZ.out hB.lt (Blk.rangeL hB))
     clear hB
     rw [← hwz]
     have HW:=hid_ hwz
     clear hwz
     refine (few7_ok (some ⟨wr.heap.size,0,none⟩) 1 1 [rowsCh l A c] wz HI.out HRW.out (by decide)).mono ?_
     rintro e w1 ⟨b,rfl,-,hf1⟩
     have F1:=hid_ (FZ.out.then_none hf1)
     clear hf1
     cases b with
     | false =>
      go_wp2_with fail
      go_ret
      exact ⟨false,rfl,(fun h=>by cases h),F1.out⟩
     | true =>
      go_wp2_with fail
      refine (rright_ok l A c w1 (H.out.none_fr F1.out) HOK.out).mono ?_
      rintro e w2 ⟨b2,rfl,hb2,hf2⟩
      have F2:=hid_ (F1.out.then_none hf2)
      have HB2:=hid_ hb2
      clear hf2 hb2
      cases b2 with
      | false =>
       go_wp2_with fail
       go_ret
       exact ⟨false,rfl,(fun h=>by cases h),F2.out⟩
      | true =>
       go_wp2_with fail
       go_ret
       exact ⟨decide ((N.length:Int)≤12),rfl,fun h=>⟨by omega,HB2.out.1 trivial,by have:=of_decide_eq_true h;omega⟩,F2.out⟩
    ·go_wp2_with fail
     go_ret
     exact ⟨false,rfl,(fun h=>by cases h),F.out⟩
open Go.RowKit Go.BigFrame

theorem reads_blk7 {w:World} {t:TypeId} {cs:List Value} {b:Nat} (h:Blk w b t cs.toArray):Reads w cs.length (some ⟨b,0,none⟩) 1 cs:=
  ⟨by simp,fun _=>⟨_,rfl,fun j u hu=>by rw [add_lit,Nat.zero_add];exact h.cell' (by simpa using hu)⟩⟩
def RPutPost (L:List Rw) (p:Rw) (w:World) (e:Ending) (w':World):Prop:=
  ∃ A c,e=.returned (.tuple #[.slice A (putR L p).length c,.bool (atR L p.1)])∧w'.ownsRow w.heap.size 25 2 (.slice A (putR L p).length c) (putR L p).length (rwFlat (putR L p))∧Fr none_ w w'
set_option maxHeartbeats 4000000 in
theorem rput_ok (L:List Rw) (A:Option Addr) (c:Nat) (p:Rw) (w:World) (h:Reads w 2 A L.length (rwFlat L)) (ho:RwsOk L) (hc:L.length≤c) (hm:c≤maxLen) (hp:SzOk p.1∧SzOk p.2) :
  Calls Tryz.prog 22 #[.slice A L.length c,rwV p] w (RPutPost L p w):=by
 obtain ⟨i0,hi0,hz0,hs0,hb0⟩:=info_parts row_info
 have Hi:=hid_ (And.intro hi0 (And.intro hz0 (And.intro hs0 hb0)))
 clear hi0 hz0 hs0 hb0
 have HK:=hid_ hp
 have HO:=hid_ ho
 have hpl:=plR_le L p.1
 have h3:=ho.1
 unfold maxLen at hm
 obtain ⟨w0,hw0⟩:∃ z,z=w.alloc (.cells #[.string p.1,.string p.2] 25):=⟨_,rfl⟩
 have f0:Fr none_ w w0:=by rw [hw0];exact (Fr.refl none_ w).alloc _
 have B0:Hid (Blk w0 w.heap.size 25 #[.string p.1,.string p.2]):=hid_ (by rw [hw0];exact Blk.new w _ _)
 have F0:=hid_ f0
 have H:=hid_ (h.none_fr f0)
 clear h ho hp f0
 go_enter Tryz.func22,Tryz.ntmps22
 go_upto_region 1 with fail
 change Code.wp _ _ _ _ (w.alloc (.cells #[.string p.1,.string p.2] 25))
 rw [← hw0]
 clear hw0
 have c0:w0.cell? ⟨w.heap.size,0,none⟩=some (.string p.1):=B0.out.cell' rfl
 go_wp2_with fail
 refine (rfind_ok L A c p.1 w0 H.out HO.out HK.out.1).mono ?_
 rintro e w2 ⟨rfl,hf2⟩
 clear c0
 replace F0:=hid_ (F0.out.then_none hf2)
 replace B0:=hid_ (B0.out.fr hf2 id)
 replace H:=hid_ (H.out.none_fr hf2)
 clear hf2
 obtain ⟨n,hn⟩:∃ n,n=plR L p.1:=⟨_,rfl⟩
 obtain ⟨b,hb⟩:∃ b,b=atR L p.1:=⟨_,rfl⟩
 rw [← hn,← hb]
 rw [← hn] at hpl
 have hlt:b=true→n < L.length:=fun h=>by rw [hn];exact atR_lt (by rw [← hb];exact h)
 have HPUT:Hid (putR L p=L.take n ++ [p] ++ L.drop (n+if b then 1 else 0)):=hid_ (by rw [putR,← hn,← hb])
 have HB:=hid_ hb
 have HN:=hid_ hn
 have HLT:=hid_ hlt
 clear hn hb hlt
 have hi0:(0:Int)≤(n:Int):=Int.natCast_nonneg _
 have hi1:(n:Int)≤(L.length:Int):=by omega
 have hcl:(L.length:Int)≤(c:Int):=by omega
 have hi2:(n:Int)≤(c:Int):=by omega
 have CAP:=hid_ hc
 have FL:=hid_ (rwFlat_take L n)
 have hF0s:=F0.out.size
 go_upto_region 2 with fail
 go_cut [8] (fun v wq=>∃ A' c',v=.slice A' (n+1) c'∧wq.ownsRow w.heap.size 25 2 (.slice A' (n+1) c') (n+1) (rwFlat (L.take n) ++ [.string p.1,.string p.2])∧Fr none_ w2 wq)
 case first =>
  have c0:w2.cell? ⟨w.heap.size,0,none⟩=some (.string p.1):=B0.out.cell' rfl
  have c1:w2.cell? ⟨w.heap.size,1,none⟩=some (.string p.2):=B0.out.cell' rfl
  have hS0:(fun w':World=>Fr none_ w2 w') w2.drew:=(Fr.refl none_ w2).drew
  refine wp_region_U (m:=9) (S:=fun w':World=>Fr none_ w2 w') (by kernel_rfl) ?_
  refine wpAnyU_take2 (i:=1) (v:=_) rfl (by kernel_rfl) (by kernel_rfl) (by kernel_rfl) (by kernel_rfl) (fun _ _ _ h=>h) (.inl ⟨by kernel_rfl,fun w' hS=>by go_simp;rfl⟩) hS0 ?_
  refine wpAnyU_take2 (i:=2) (v:=_) rfl (by kernel_rfl) (by kernel_rfl) (by kernel_rfl) (by kernel_rfl) (fun _ _ _ h=>h) (.inl ⟨by kernel_rfl,fun w' hS=>by go_simp;rfl⟩) hS0 ?_
  refine wpAnyU_take2 (i:=3) (v:=_) rfl (by kernel_rfl) (by kernel_rfl) (by kernel_rfl) (by kernel_rfl) (fun _ _ _ h=>h) (.inl ⟨by kernel_rfl,fun w' hS=>by go_simp;rfl⟩) hS0 ?_
  refine wpAnyU_take2 (i:=5) (v:=_) rfl (by kernel_rfl) (by kernel_rfl) (by kernel_rfl) (by kernel_rfl) (fun _ _ _ h=>h) (.inl ⟨by kernel_rfl,fun w' hS=>by have s_c0:=cellFr c0 hS;have s_c1:=cellFr c1 hS;go_simp;rfl⟩) hS0 ?_
  clear c0 c1 hS0
  obtain ⟨y1,hy1⟩:∃ z,z=w2.drew:=⟨_,rfl⟩
  have F2:Hid (Fr none_ w2 y1):=hid_ (by rw [hy1];exact (Fr.refl none_ w2).drew)
  rw [← hy1]
  clear hy1
  refine wpAnyU_two7 (i:=0) (j:=6) rfl rfl (by kernel_rfl) (by kernel_rfl) (by kernel_rfl) ?_ ?_
  ·skip
   go_simp
   obtain ⟨y3,hy3⟩:∃ z,z=y1.alloc (.cells #[] 25):=⟨_,rfl⟩
   have sy3:y1.heap.size < y3.heap.size:=by rw [hy3];simp [World.size_alloc]
   have f5:Fr none_ y1 y3:=by rw [hy3];exact (Fr.refl none_ _).alloc _
   have OE:Hid (y3.ownsRow w2.heap.size 25 2 (.slice (some ⟨y1.heap.size,0,none⟩) 0 0) 0 []):=hid_ (by rw [hy3];exact own_empty _ _ _ _ (by have:=F2.out.size;omega))
   have F4:=hid_ (F2.out.then_none f5)
   change _∧wpAnyU _ _ _ _ _ _ _ _ _ (y1.alloc (.cells #[] 25))
   rw [← hy3]
   refine ⟨F4.out,?_⟩
   clear hy3 f5
   refine wpAnyU_two7 (i:=4) (j:=6) rfl rfl (by kernel_rfl) (by kernel_rfl) (by kernel_rfl) ?_ ?_
   ·skip
    refine wp_append_any _ (.tmp 16) (.tmp 19) 22 rfl w2.heap.size 25 i0 _ 2 32 Tryz.underlying22 Hi.out.1 Hi.out.2.1 Hi.out.2.2.1 Hi.out.2.2.2 rfl (by omega) (.slice (some ⟨y1.heap.size,0,none⟩) 0 0) (0) ([]) rfl OE.out (A) (n) (c) (rwFlat (L.take n)) rfl (by rw [FL.out];exact (H.out.upto hpl).none_fr F4.out) (rwFlat_one _) (by simp only [maxLen];omega) (by omega) (by have:=F4.out.size;omega) ?_
    intro A8 c9 y6 hown hgr
    simp only [Nat.zero_add,List.nil_append] at hown ⊢
    have sy6:=hgr.size
    have F7:=hid_ (F4.out.grown hgr (fun k hk=>.inr (by have:=(OE.out.lt k hk).1;omega)))
    have O10:=hid_ hown
    refine ⟨.inr F7.out,?_⟩
    clear hown hgr OE
    have O4:=O10
    clear O10
    refine wpAnyU_one7 (i:=6) rfl (by kernel_rfl) (by kernel_rfl) ?_
    go_simp
    obtain ⟨y11,hy11⟩:∃ z,z=y6.alloc (.cells #[.string p.1,.string p.2] 25):=⟨_,rfl⟩
    have sy11:y6.heap.size < y11.heap.size:=by rw [hy11];simp [World.size_alloc]
    have f13:Fr none_ y6 y11:=by rw [hy11];exact (Fr.refl none_ _).alloc _
    replace O4:=hid_ (own_none O4.out f13)
    have BE:Hid (Blk y11 y6.heap.size 25 #[.string p.1,.string p.2]):=hid_ (by rw [hy11];exact Blk.new _ _ _)
    have F12:=hid_ (F7.out.then_none f13)
    change _∧wpAnyU _ _ _ _ _ _ _ _ _ (y6.alloc (.cells #[.string p.1,.string p.2] 25))
    rw [← hy11]
    refine ⟨F12.out,?_⟩
    clear hy11 f13
    refine wpAnyU_one7 (i:=7) rfl (by kernel_rfl) (by kernel_rfl) ?_
    refine wp_append_any _ (.tmp 20) (.tmp 22) 22 rfl w2.heap.size 25 i0 _ 2 32 Tryz.underlying22 Hi.out.1 Hi.out.2.1 Hi.out.2.2.1 Hi.out.2.2.2 rfl (by omega) (.slice A8 (n) c9) (n) (rwFlat (L.take n)) rfl O4.out (some ⟨y6.heap.size,0,none⟩) (1) (1) ([.string p.1,.string p.2]) rfl (reads_blk7 (cs:=[.string p.1,.string p.2]) BE.out) (by simp [Value.oneCell']) (by simp only [maxLen];omega) (by omega) (by have:=F12.out.size;omega) ?_
    intro A16 c17 y14 hown hgr
    have sy14:=hgr.size
    have F15:=hid_ (F12.out.grown hgr (fun k hk=>.inr (by have:=(O4.out.lt k hk).1;omega)))
    clear BE
    have O18:=hid_ hown
    refine ⟨.inr F15.out,?_⟩
    clear hown hgr O4
    have O7:=O18
    clear O18
    refine wpAnyU_one7 (i:=8) rfl (by kernel_rfl) (by kernel_rfl) ?_
    go_simp
    refine ⟨F15.out,?_⟩
    refine wpAnyU_done (by kernel_rfl) ?_ _
    go_wp2_with fail
    go_meet
    case rel=>exact ⟨_,_,rfl,own_base O7.out hF0s,F15.out⟩
   ·skip
    go_simp
    obtain ⟨y19,hy19⟩:∃ z,z=y3.alloc (.cells #[.string p.1,.string p.2] 25):=⟨_,rfl⟩
    have sy19:y3.heap.size < y19.heap.size:=by rw [hy19];simp [World.size_alloc]
    have f21:Fr none_ y3 y19:=by rw [hy19];exact (Fr.refl none_ _).alloc _
    replace OE:=hid_ (own_none OE.out f21)
    have BE:Hid (Blk y19 y3.heap.size 25 #[.string p.1,.string p.2]):=hid_ (by rw [hy19];exact Blk.new _ _ _)
    have F20:=hid_ (F4.out.then_none f21)
    change _∧wpAnyU _ _ _ _ _ _ _ _ _ (y3.alloc (.cells #[.string p.1,.string p.2] 25))
    rw [← hy19]
    refine ⟨F20.out,?_⟩
    clear hy19 f21
    refine wpAnyU_one7 (i:=4) rfl (by kernel_rfl) (by kernel_rfl) ?_
    refine wp_append_any _ (.tmp 16) (.tmp 19) 22 rfl w2.heap.size 25 i0 _ 2 32 Tryz.underlying22 Hi.out.1 Hi.out.2.1 Hi.out.2.2.1 Hi.out.2.2.2 rfl (by omega) (.slice (some ⟨y1.heap.size,0,none⟩) 0 0) (0) ([]) rfl OE.out (A) (n) (c) (rwFlat (L.take n)) rfl (by rw [FL.out];exact (H.out.upto hpl).none_fr F20.out) (rwFlat_one _) (by simp only [maxLen];omega) (by omega) (by have:=F20.out.size;omega) ?_
    intro A24 c25 y22 hown hgr
    simp only [Nat.zero_add,List.nil_append] at hown ⊢
    have sy22:=hgr.size
    have F23:=hid_ (F20.out.grown hgr (fun k hk=>.inr (by have:=(OE.out.lt k hk).1;omega)))
    replace BE:=hid_ (BE.out.fr (Fr.grown (S:=fun b=>(Value.slice (some ⟨y1.heap.size,0,none⟩) 0 0).ownBlock=some b) (Fr.refl _ _) hgr (fun k hk=>.inl hk)) (fun hk=>by simp [Value.ownBlock] at hk;omega))
    have O26:=hid_ hown
    refine ⟨.inr F23.out,?_⟩
    clear hown hgr OE
    have O4:=O26
    clear O26
    refine wpAnyU_one7 (i:=7) rfl (by kernel_rfl) (by kernel_rfl) ?_
    refine wp_append_any _ (.tmp 20) (.tmp 22) 22 rfl w2.heap.size 25 i0 _ 2 32 Tryz.underlying22 Hi.out.1 Hi.out.2.1 Hi.out.2.2.1 Hi.out.2.2.2 rfl (by omega) (.slice A24 (n) c25) (n) (rwFlat (L.take n)) rfl O4.out (some ⟨y3.heap.size,0,none⟩) (1) (1) ([.string p.1,.string p.2]) rfl (reads_blk7 (cs:=[.string p.1,.string p.2]) BE.out) (by simp [Value.oneCell']) (by simp only [maxLen];omega) (by omega) (by have:=F23.out.size;omega) ?_
    intro A29 c30 y27 hown hgr
    have sy27:=hgr.size
    have F28:=hid_ (F23.out.grown hgr (fun k hk=>.inr (by have:=(O4.out.lt k hk).1;omega)))
    clear BE
    have O31:=hid_ hown
    refine ⟨.inr F28.out,?_⟩
    clear hown hgr O4
    have O7:=O31
    clear O31
    refine wpAnyU_one7 (i:=8) rfl (by kernel_rfl) (by kernel_rfl) ?_
    go_simp
    refine ⟨F28.out,?_⟩
    refine wpAnyU_done (by kernel_rfl) ?_ _
    go_wp2_with fail
    go_meet
    case rel=>exact ⟨_,_,rfl,own_base O7.out hF0s,F28.out⟩
  ·skip
   go_simp
   obtain ⟨y32,hy32⟩:∃ z,z=y1.alloc (.cells #[.string p.1,.string p.2] 25):=⟨_,rfl⟩
   have sy32:y1.heap.size < y32.heap.size:=by rw [hy32];simp [World.size_alloc]
   have f34:Fr none_ y1 y32:=by rw [hy32];exact (Fr.refl none_ _).alloc _
   have BE:Hid (Blk y32 y1.heap.size 25 #[.string p.1,.string p.2]):=hid_ (by rw [hy32];exact Blk.new _ _ _)
   have F33:=hid_ (F2.out.then_none f34)
   change _∧wpAnyU _ _ _ _ _ _ _ _ _ (y1.alloc (.cells #[.string p.1,.string p.2] 25))
   rw [← hy32]
   refine ⟨F33.out,?_⟩
   clear hy32 f34
   refine wpAnyU_one7 (i:=0) rfl (by kernel_rfl) (by kernel_rfl) ?_
   go_simp
   obtain ⟨y35,hy35⟩:∃ z,z=y32.alloc (.cells #[] 25):=⟨_,rfl⟩
   have sy35:y32.heap.size < y35.heap.size:=by rw [hy35];simp [World.size_alloc]
   have f37:Fr none_ y32 y35:=by rw [hy35];exact (Fr.refl none_ _).alloc _
   replace BE:=hid_ (BE.out.fr f37 id)
   have OE:Hid (y35.ownsRow w2.heap.size 25 2 (.slice (some ⟨y32.heap.size,0,none⟩) 0 0) 0 []):=hid_ (by rw [hy35];exact own_empty _ _ _ _ (by have:=F33.out.size;omega))
   have F36:=hid_ (F33.out.then_none f37)
   change _∧wpAnyU _ _ _ _ _ _ _ _ _ (y32.alloc (.cells #[] 25))
   rw [← hy35]
   refine ⟨F36.out,?_⟩
   clear hy35 f37
   refine wpAnyU_one7 (i:=4) rfl (by kernel_rfl) (by kernel_rfl) ?_
   refine wp_append_any _ (.tmp 16) (.tmp 19) 22 rfl w2.heap.size 25 i0 _ 2 32 Tryz.underlying22 Hi.out.1 Hi.out.2.1 Hi.out.2.2.1 Hi.out.2.2.2 rfl (by omega) (.slice (some ⟨y32.heap.size,0,none⟩) 0 0) (0) ([]) rfl OE.out (A) (n) (c) (rwFlat (L.take n)) rfl (by rw [FL.out];exact (H.out.upto hpl).none_fr F36.out) (rwFlat_one _) (by simp only [maxLen];omega) (by omega) (by have:=F36.out.size;omega) ?_
   intro A40 c41 y38 hown hgr
   simp only [Nat.zero_add,List.nil_append] at hown ⊢
   have sy38:=hgr.size
   have F39:=hid_ (F36.out.grown hgr (fun k hk=>.inr (by have:=(OE.out.lt k hk).1;omega)))
   replace BE:=hid_ (BE.out.fr (Fr.grown (S:=fun b=>(Value.slice (some ⟨y32.heap.size,0,none⟩) 0 0).ownBlock=some b) (Fr.refl _ _) hgr (fun k hk=>.inl hk)) (fun hk=>by simp [Value.ownBlock] at hk;omega))
   have O42:=hid_ hown
   refine ⟨.inr F39.out,?_⟩
   clear hown hgr OE
   have O4:=O42
   clear O42
   refine wpAnyU_one7 (i:=7) rfl (by kernel_rfl) (by kernel_rfl) ?_
   refine wp_append_any _ (.tmp 20) (.tmp 22) 22 rfl w2.heap.size 25 i0 _ 2 32 Tryz.underlying22 Hi.out.1 Hi.out.2.1 Hi.out.2.2.1 Hi.out.2.2.2 rfl (by omega) (.slice A40 (n) c41) (n) (rwFlat (L.take n)) rfl O4.out (some ⟨y1.heap.size,0,none⟩) (1) (1) ([.string p.1,.string p.2]) rfl (reads_blk7 (cs:=[.string p.1,.string p.2]) BE.out) (by simp [Value.oneCell']) (by simp only [maxLen];omega) (by omega) (by have:=F39.out.size;omega) ?_
   intro A45 c46 y43 hown hgr
   have sy43:=hgr.size
   have F44:=hid_ (F39.out.grown hgr (fun k hk=>.inr (by have:=(O4.out.lt k hk).1;omega)))
   clear BE
   have O47:=hid_ hown
   refine ⟨.inr F44.out,?_⟩
   clear hown hgr O4
   have O7:=O47
   clear O47
   refine wpAnyU_one7 (i:=8) rfl (by kernel_rfl) (by kernel_rfl) ?_
   go_simp
   refine ⟨F44.out,?_⟩
   refine wpAnyU_done (by kernel_rfl) ?_ _
   go_wp2_with fail
   go_meet
   case rel=>exact ⟨_,_,rfl,own_base O7.out hF0s,F44.out⟩
 case rest =>
 obtain ⟨A2,c2,rfl,hown,hf⟩:=hcut
 have O:=hid_ hown
 have F:=hid_ (F0.out.then_none hf)
 replace H:=hid_ (H.out.none_fr hf)
 clear hown hf FL
 obtain ⟨m,hm7⟩:∃ m,m=(n+if b then 1 else 0):=⟨_,rfl⟩
 rw [← hm7] at HPUT
 have hml:m≤L.length:=by
  cases b with
  | false=>simp at hm7;omega
  | true=>have:=HLT.out rfl;simp at hm7;omega
 obtain ⟨A5,hA5⟩:∃ A5,(if c=m then A else Option.map (fun x=>x.add (m * 2)) A)=A5:=⟨_,rfl⟩
 have R2:=H.out.cut hml CAP.out
 rw [hA5] at R2
 have R2':=hid_ R2
 clear R2
 have hdl:(L.drop m).length=L.length - m:=by simp
 have hi3:(0:Int)≤(m:Int):=Int.natCast_nonneg _
 have hi4:(m:Int)≤(L.length:Int):=by omega
 have hi5:(m:Int)≤(c:Int):=by omega
 have hsF:=F.out.size
 have HLEN:Hid ((putR L p).length=n+1+(L.length - m)∧rwFlat (putR L p)=rwFlat (L.take n) ++ [.string p.1,.string p.2] ++ (rwFlat L).drop (m * 2)):=hid_ (by
  rw [HPUT.out]
  refine ⟨by simp;omega,?_⟩
  rw [rwFlat_app,rwFlat_app,rwFlat_single,rwFlat_drop])
 cases b with
 | false =>
  obtain rfl:n=m:=by simpa using hm7.symm
  clear hm7
  go_wp2_with (at_builtin;refine wpList_append_any _ rfl (.tmp 27) (.tmp 30) 22 rfl w.heap.size 25 i0 _ 2 32 Tryz.underlying22 Hi.out.1 Hi.out.2.1 Hi.out.2.2.1 Hi.out.2.2.2 rfl (by omega) (.slice A2 (n+1) c2) (n+1) _ rfl O.out A5 (L.length - n) (c - n) ((rwFlat L).drop (n * 2)) rfl R2'.out (fun u hu=>rwFlat_one L u (List.mem_of_mem_drop hu)) (by simp only [maxLen];omega) (by omega) (by omega) ?_;intro A3 c3 w3 hown3 hgr3)
  have F3:=hid_ (F.out.grown hgr3 (fun k hk=>.inr (O.out.lt k hk).1))
  have O3:=hid_ hown3
  clear hown3 hgr3
  go_wp2_with fail
  go_ret2
  refine ⟨A3,c3,?_,?_,F3.out⟩
  ·rw [HLEN.out.1,← HB.out];rfl
  ·rw [HLEN.out.1,HLEN.out.2];exact O3.out
 | true =>
  obtain rfl:m=n+1:=by simpa using hm7
  clear hm7
  have hw1:IntKind.i64.wrap ((n:Int)+1)=((n+1:Nat):Int):=by rw [show (n:Int)+1=((n+1:Nat):Int) by omega];exact IntWalk.i64_in _ (by omega)
  go_wp2_with (at_builtin;refine wpList_append_any _ rfl (.tmp 27) (.tmp 30) 22 rfl w.heap.size 25 i0 _ 2 32 Tryz.underlying22 Hi.out.1 Hi.out.2.1 Hi.out.2.2.1 Hi.out.2.2.2 rfl (by omega) (.slice A2 (n+1) c2) (n+1) _ rfl O.out A5 (L.length - (n+1)) (c - (n+1)) ((rwFlat L).drop ((n+1) * 2)) rfl R2'.out (fun u hu=>rwFlat_one L u (List.mem_of_mem_drop hu)) (by simp only [maxLen];omega) (by omega) (by omega) ?_;intro A3 c3 w3 hown3 hgr3)
  have F3:=hid_ (F.out.grown hgr3 (fun k hk=>.inr (O.out.lt k hk).1))
  have O3:=hid_ hown3
  clear hown3 hgr3
  go_wp2_with fail
  go_ret2
  refine ⟨A3,c3,?_,?_,F3.out⟩
  ·rw [show (putR L p).length=L.length by rw [HLEN.out.1];omega,← HB.out];rfl
  ·rw [HLEN.out.1,HLEN.out.2];exact O3.out
def RDropPost (L:List Rw) (A0:Option Addr) (c0:Nat) (key:ByteArray) (w:World) (e:Ending) (w':World):Prop:=
  ∃ A c,e=.returned (.tuple #[.slice A (dropR L key).length c,.bool (atR L key)])∧Reads w' 2 A (dropR L key).length (rwFlat (dropR L key))∧(dropR L key).length≤c∧c≤maxLen∧((A=A0∧c=c0∧dropR L key=L)∨w'.ownsRow w.heap.size 25 2 (.slice A (dropR L key).length c) (dropR L key).length (rwFlat (dropR L key)))∧Fr none_ w w'
set_option maxHeartbeats 4000000 in
theorem rdrop_ok (L:List Rw) (A:Option Addr) (c:Nat) (key:ByteArray) (w:World) (h:Reads w 2 A L.length (rwFlat L)) (ho:RwsOk L) (hc:L.length≤c) (hm:c≤maxLen) (hk:SzOk key) :
  Calls Tryz.prog 62 #[.slice A L.length c,.string key] w (RDropPost L A c key w):=by
 obtain ⟨i0,hi0,hz0,hs0,hb0⟩:=info_parts row_info
 have Hi:=hid_ (And.intro hi0 (And.intro hz0 (And.intro hs0 hb0)))
 clear hi0 hz0 hs0 hb0
 have HM:=hid_ hm
 have HK:=hid_ hk
 have HO:=hid_ ho
 have hpl:=plR_le L key
 have h3:=ho.1
 unfold maxLen at hm
 have H:=hid_ h
 clear h ho hk
 go_enter Tryz.func62,Tryz.ntmps62
 go_wp2_with fail
 refine (rfind_ok L A c key w H.out HO.out HK.out).mono ?_
 rintro e w2 ⟨rfl,hf2⟩
 have F0:=hid_ hf2
 replace H:=hid_ (H.out.none_fr hf2)
 clear hf2
 obtain ⟨n,hn⟩:∃ n,n=plR L key:=⟨_,rfl⟩
 cases hb:atR L key with
 | false =>
  have HB:=hid_ hb
  have HD:Hid (dropR L key=L):=hid_ (by unfold dropR;rw [hb];rfl)
  have CAP:=hid_ hc
  rw [← hn]
  rw [← hn] at hpl
  clear hb hn
  go_wp2_with fail
  go_ret2
  refine ⟨A,c,?_,?_,?_,HM.out,.inl ⟨rfl,rfl,HD.out⟩,F0.out⟩
  ·rw [HD.out,HB.out];rfl
  ·rw [HD.out];exact H.out
  ·rw [HD.out];exact CAP.out
 | true =>
  have hlt:n < L.length:=by rw [hn];exact atR_lt hb
  have HD:Hid (dropR L key=L.take n ++ L.drop (n+1)):=hid_ (by unfold dropR;rw [hb,← hn];rfl)
  have HB:=hid_ hb
  rw [← hn]
  rw [← hn] at hpl
  clear hb hn
  have hi0:(0:Int)≤(n:Int):=Int.natCast_nonneg _
  have hi1:(n:Int)≤(L.length:Int):=by omega
  have hcl:(L.length:Int)≤(c:Int):=by omega
  have hi2:(n:Int)≤(c:Int):=by omega
  have hw1:IntKind.i64.wrap ((n:Int)+1)=((n+1:Nat):Int):=by rw [show (n:Int)+1=((n+1:Nat):Int) by omega];exact IntWalk.i64_in _ (by omega)
  have hi3:(0:Int)≤(n:Int)+1:=by omega
  have hi4:(n:Int)+1≤(L.length:Int):=by omega
  have hi5:(n:Int)+1≤(c:Int):=by omega
  have CAP:=hid_ hc
  have FL:=hid_ (rwFlat_take L n)
  have hF0s:=F0.out.size
  obtain ⟨A5,hA5⟩:∃ A5,(if c=n+1 then A else Option.map (fun x=>x.add ((n+1) * 2)) A)=A5:=⟨_,rfl⟩
  have R2:=H.out.cut (show n+1≤L.length by omega) CAP.out
  rw [hA5] at R2
  have R2':=hid_ R2
  clear R2
  go_upto_region 4 with fail
  have hS0:(fun w':World=>Fr none_ w2 w') w2.drew:=(Fr.refl none_ w2).drew
  refine wp_region_U (m:=12) (S:=fun w':World=>Fr none_ w2 w') (by kernel_rfl) ?_
  refine wpAnyU_take2 (i:=1) (v:=_) rfl (by kernel_rfl) (by kernel_rfl) (by kernel_rfl) (by kernel_rfl) (fun _ _ _ h=>h) (.inl ⟨by kernel_rfl,fun w' hS=>by go_simp;rfl⟩) hS0 ?_
  refine wpAnyU_take2 (i:=2) (v:=_) rfl (by kernel_rfl) (by kernel_rfl) (by kernel_rfl) (by kernel_rfl) (fun _ _ _ h=>h) (.inl ⟨by kernel_rfl,fun w' hS=>by go_simp;rfl⟩) hS0 ?_
  refine wpAnyU_take2 (i:=3) (v:=_) rfl (by kernel_rfl) (by kernel_rfl) (by kernel_rfl) (by kernel_rfl) (fun _ _ _ h=>h) (.inl ⟨by kernel_rfl,fun w' hS=>by go_simp;rfl⟩) hS0 ?_
  refine wpAnyU_take2 (i:=5) (v:=_) rfl (by kernel_rfl) (by kernel_rfl) (by kernel_rfl) (by kernel_rfl) (fun _ _ _ h=>h) (.inl ⟨by kernel_rfl,fun w' hS=>by go_simp;rfl⟩) hS0 ?_
  refine wpAnyU_take2 (i:=6) (v:=_) rfl (by kernel_rfl) (by kernel_rfl) (by kernel_rfl) (by kernel_rfl) (fun _ _ _ h=>h) (.inl ⟨by kernel_rfl,fun w' hS=>by go_simp;rfl⟩) hS0 ?_
  refine wpAnyU_take2 (i:=7) (v:=_) rfl (by kernel_rfl) (by kernel_rfl) (by kernel_rfl) (by kernel_rfl) (fun _ _ _ h=>h) (.inl ⟨by kernel_rfl,fun w' hS=>by go_simp;rfl⟩) hS0 ?_
  refine wpAnyU_take2 (i:=8) (v:=_) rfl (by kernel_rfl) (by kernel_rfl) (by kernel_rfl) (by kernel_rfl) (fun _ _ _ h=>h) (.inl ⟨by kernel_rfl,fun w' hS=>by go_simp;rfl⟩) hS0 ?_
  clear hS0
  obtain ⟨y1,hy1⟩:∃ z,z=w2.drew:=⟨_,rfl⟩
  have F2:Hid (Fr none_ w2 y1):=hid_ (by rw [hy1];exact (Fr.refl none_ w2).drew)
  rw [← hy1]
  clear hy1
  refine wpAnyU_one7 (i:=0) rfl (by kernel_rfl) (by kernel_rfl) ?_
  go_simp
  obtain ⟨y3,hy3⟩:∃ z,z=y1.alloc (.cells #[] 25):=⟨_,rfl⟩
  have sy3:y1.heap.size < y3.heap.size:=by rw [hy3];simp [World.size_alloc]
  have f5:Fr none_ y1 y3:=by rw [hy3];exact (Fr.refl none_ _).alloc _
  have OE:Hid (y3.ownsRow w2.heap.size 25 2 (.slice (some ⟨y1.heap.size,0,none⟩) 0 0) 0 []):=hid_ (by rw [hy3];exact own_empty _ _ _ _ (by have:=F2.out.size;omega))
  have F4:=hid_ (F2.out.then_none f5)
  change _∧wpAnyU _ _ _ _ _ _ _ _ _ (y1.alloc (.cells #[] 25))
  rw [← hy3]
  refine ⟨F4.out,?_⟩
  clear hy3 f5
  refine wpAnyU_one7 (i:=4) rfl (by kernel_rfl) (by kernel_rfl) ?_
  refine wp_append_any _ (.tmp 17) (.tmp 20) 22 rfl w2.heap.size 25 i0 _ 2 32 Tryz.underlying22 Hi.out.1 Hi.out.2.1 Hi.out.2.2.1 Hi.out.2.2.2 rfl (by omega) (.slice (some ⟨y1.heap.size,0,none⟩) 0 0) (0) ([]) rfl OE.out (A) (n) (c) (rwFlat (L.take n)) rfl (by rw [FL.out];exact (H.out.upto hpl).none_fr F4.out) (rwFlat_one _) (by simp only [maxLen];omega) (by omega) (by have:=F4.out.size;omega) ?_
  intro A8 c9 y6 hown hgr
  simp only [Nat.zero_add,List.nil_append] at hown ⊢
  have sy6:=hgr.size
  have F7:=hid_ (F4.out.grown hgr (fun k hk=>.inr (by have:=(OE.out.lt k hk).1;omega)))
  have O10:=hid_ hown
  refine ⟨.inr F7.out,?_⟩
  clear hown hgr OE
  have O4:=O10
  clear O10
  refine wpAnyU_one7 (i:=9) rfl (by kernel_rfl) (by kernel_rfl) ?_
  refine wp_append_any _ (.tmp 21) (.tmp 25) 22 rfl w2.heap.size 25 i0 _ 2 32 Tryz.underlying22 Hi.out.1 Hi.out.2.1 Hi.out.2.2.1 Hi.out.2.2.2 rfl (by omega) (.slice A8 (n) c9) (n) (rwFlat (L.take n)) rfl O4.out (A5) (L.length - (n+1)) (c - (n+1)) ((rwFlat L).drop ((n+1) * 2)) rfl (R2'.out.none_fr F7.out) (fun u hu=>rwFlat_one L u (List.mem_of_mem_drop hu)) (by simp only [maxLen];omega) (by omega) (by have:=F7.out.size;omega) ?_
  intro A13 c14 y11 hown hgr
  have sy11:=hgr.size
  have F12:=hid_ (F7.out.grown hgr (fun k hk=>.inr (by have:=(O4.out.lt k hk).1;omega)))
  have O15:=hid_ hown
  refine ⟨.inr F12.out,?_⟩
  clear hown hgr O4
  have O9:=O15
  clear O15
  refine wpAnyU_one7 (i:=10) rfl (by kernel_rfl) (by kernel_rfl) ?_
  go_simp
  refine ⟨F12.out,?_⟩
  refine wpAnyU_one7 (i:=11) rfl (by kernel_rfl) (by kernel_rfl) ?_
  go_simp
  refine ⟨F12.out,?_⟩
  refine wpAnyU_done (by kernel_rfl) ?_ _
  go_wp2_with fail
  go_ret2
  have hlen:(dropR L key).length=n+(L.length - (n+1)):=by rw [HD.out];simp;omega
  have hfl:rwFlat (dropR L key)=rwFlat (L.take n) ++ (rwFlat L).drop ((n+1) * 2):=by rw [HD.out,rwFlat_app,rwFlat_drop]
  refine ⟨A13,c14,?_,?_,?_,?_,.inr ?_,F0.out.then_none F12.out⟩
  ·rw [hlen,HB.out];rfl
  ·rw [hlen,hfl];exact Reads.of_own O9.out
  ·obtain ⟨A',c',e,h1,h2,_⟩:=own_parts O9.out
   injection e with e1 e2 e3
   rw [hlen,e3];exact h1
  ·obtain ⟨A',c',e,h1,h2,_⟩:=own_parts O9.out
   injection e with e1 e2 e3
   rw [e3];exact h2
  ·rw [hlen,hfl];exact own_base O9.out hF0s
def SndCut (high:ByteArray) (unb:Bool) (L:List Rw) (bb:Bool):Prop:=bb=false ↔ ((unb=true→high=nilS)∧RightR L)
set_option maxHeartbeats 4000000 in
theorem rsound_ok (L:List Rw) (A:Option Addr) (c:Nat) (low high:ByteArray) (unb:Bool) (w:World) (h:Reads w 2 A L.length (rwFlat L)) (ho:RwsOk L) (h1:SzOk low) (h2:SzOk high) :
  Calls Tryz.prog 60 #[.slice A L.length c,.string low,.string high,.bool unb] w (SoundLPost low high unb L w):=by
 have H0:=hid_ h
 have HO:=hid_ ho
 have HS:=hid_ (And.intro h1 h2)
 have h3:=ho.1
 clear h ho h1 h2
 go_enter Tryz.func60,Tryz.ntmps60
 go_upto_region 1 with fail
 go_cut [19] (fun u wq=>∃ bb:Bool,u=.bool bb∧SndCut high unb L bb∧Fr none_ w wq)
 case first =>
  go_wp2_with fail
  refine (rright_ok L A c _ H0.out HO.out).mono ?_
  rintro e w1 ⟨b,rfl,hb,hf⟩
  have HB:=hid_ hb
  have F1:=hid_ hf
  clear hb hf
  cases b with
  | false =>
   cases unb with
   | false =>
    go_wp2_with fail
    go_meet
    case rel=>exact ⟨true,rfl,⟨(fun h=>by cases h),fun h=>by have:=HB.out.2 h.2;cases this⟩,F1.out⟩
   | true =>
    go_wp2_with fail
    go_meet
    case rel=>exact ⟨true,rfl,⟨(fun h=>by cases h),fun h=>by have:=HB.out.2 h.2;cases this⟩,F1.out⟩
  | true =>
   cases unb with
   | false =>
    go_wp2_with fail
    go_meet
    case rel=>exact ⟨false,rfl,⟨fun _=>⟨(fun h=>by cases h),HB.out.1 (by simp)⟩,fun _=>rfl⟩,F1.out⟩
   | true =>
    by_cases hb:high=nilS
    ·subst hb
     go_wp2_with fail
     go_meet
     case rel=>exact ⟨false,rfl,⟨fun _=>⟨fun _=>rfl,HB.out.1 (by simp)⟩,fun _=>rfl⟩,F1.out⟩
    ·have hh:high.toList.isEmpty=false:=by
      cases e:high.toList.isEmpty with
      | false=>rfl
      | true=>exact absurd (ba_eq (by rw [← ba_toList,List.isEmpty_iff.1 e])) hb
     have hh2:(!high.toList.isEmpty)=true:=by rw [hh];rfl
     have HH:=hid_ hb
     clear hb
     go_wp2_with fail
     go_meet
     case rel=>exact ⟨true,rfl,⟨(fun h=>by cases h),fun h=>absurd (h.1 rfl) HH.out⟩,F1.out⟩
 case rest =>
  obtain ⟨bb,rfl,hbb,hf⟩:=hcut
  have HB:=hid_ hbb
  have F1:=hid_ hf
  have H1:=hid_ (H0.out.none_fr hf)
  clear hbb hf
  cases bb with
  | true =>
   go_wp2_with fail
   go_ret
   exact ⟨false,rfl,⟨(fun h=>by cases h),fun h=>by have:=HB.out.2 ⟨h.hi,h.right⟩;cases this⟩,F1.out⟩
  | false =>
   go_wp2_with fail
   go_loopw [9] (fun i wr=>∃ k:Nat,k≤L.length∧i=.int .i64 k∧(∀ (j:Nat) (p:Rw),j < k→L[j]?=some p→inS low high unb p.1=true)∧Fr none_ w wr) (fun i _=>L.length - (intOf i).toNat)
   case atStart=>exact ⟨0,Nat.zero_le _,rfl,fun j p hj=>by omega,F1.out⟩
   case round =>
    obtain ⟨k,hk,rfl,hst,hF⟩:=hrel
    have ST:=hid_ hst
    have H:=hid_ (H0.out.none_fr hF)
    have F:=hid_ hF
    clear hst hF
    have hi0:(0:Int)≤(k:Int):=Int.natCast_nonneg _
    by_cases hlt:k < L.length
    ·have hi1':(k:Int) < (L.length:Int):=by omega
     obtain ⟨p,hp⟩:∃ p,L[k]?=some p:=⟨_,List.getElem?_eq_getElem hlt⟩
     obtain ⟨b,off,rfl,hb2,c0,c1⟩:=rw_at H.out hp
     have HP:=hid_ hp
     have hpk:=(HO.out.2 p (List.mem_of_getElem? hp)).1
     have HPK:=hid_ hpk
     clear hp hpk c1
     go_wp2_with fail
     refine (rin_ok low high unb p.1 wr HS.out.1.le HS.out.2.le HPK.out.le).mono ?_
     rintro e w1 ⟨rfl,q,rfl⟩
     have FQ:=hid_ (F.out.drewN q)
     clear c0
     cases hin:inS low high unb p.1 with
     | false =>
      have hns:¬ SoundR low high unb L:=fun hS=>by
       have h:=hS.inn p (List.mem_of_getElem? HP.out)
       rw [hin] at h
       cases h
      have HNS:=hid_ hns
      clear hns hin
      go_wp2_with fail
      go_ret
      exact ⟨false,rfl,⟨(fun h=>by cases h),fun h=>absurd h HNS.out⟩,FQ.out⟩
     | true =>
      have hst:∀ (j:Nat) (p:Rw),j < k+1→L[j]?=some p→inS low high unb p.1=true:=by
       intro j p' hj hp'
       rcases Nat.lt_succ_iff_lt_or_eq.1 hj with hj | rfl
       ·exact ST.out j p' hj hp'
       ·rw [HP.out] at hp';cases hp';exact hin
      have HST:=hid_ hst
      clear hst hin
      go_wp2_with fail
      go_roundw
      case rel=>exact ⟨k+1,by omega,by go_num,HST.out,FQ.out⟩
      case measure=>simp [intOf];omega
    ·obtain rfl:k=L.length:=by omega
     have hS:SoundR low high unb L:=⟨(HB.out.1 rfl).1,(HB.out.1 rfl).2,fun p hp=>by obtain ⟨j,hj,e⟩:=List.mem_iff_getElem.1 hp;exact ST.out j p hj (by rw [List.getElem?_eq_getElem hj,e])⟩
     have HSS:=hid_ hS
     clear hS
     go_wp2_with fail
     go_ret
     exact ⟨true,rfl,⟨fun _=>HSS.out,fun _=>rfl⟩,F.out⟩
def ahR (L:List Rw) (key:ByteArray):List Rw:=L.filter fun p=>ltS p.1 key
theorem ahR_le (L:List Rw) (key:ByteArray):(ahR L key).length≤L.length:=List.length_filter_le _ _
theorem ahR_take {L:List Rw} {key:ByteArray} {k:Nat} {p:Rw} (hp:L[k]?=some p):ahR (L.take (k+1)) key=if ltS p.1 key=true then ahR (L.take k) key ++ [p] else ahR (L.take k) key:=by
  unfold ahR
  rw [List.take_add_one,hp]
  simp only [Option.toList_some,List.filter_append,List.filter_cons,List.filter_nil]
  split <;> simp
set_option maxHeartbeats 4000000 in
theorem rahead_ok (L:List Rw) (A:Option Addr) (c:Nat) (key:ByteArray) (w:World) (h:Reads w 2 A L.length (rwFlat L)) (ho:RwsOk L) (hk:SzOk key) :
  Calls Tryz.prog 63 #[.slice A L.length c,.string key] w (JoinPostR w (ahR L key)):=by
 obtain ⟨i0,hi0,hz0,hs0,hb0⟩:=info_parts row_info
 have Hi:=hid_ (And.intro hi0 (And.intro hz0 (And.intro hs0 hb0)))
 clear hi0 hz0 hs0 hb0
 have H0:=hid_ h
 have HO:=hid_ ho
 have HK:=hid_ hk
 have h3:=ho.1
 clear h ho hk
 go_enter Tryz.func63,Tryz.ntmps63
 go_wp2_with fail
 go_loopw [5,6] (fun v i wr=>∃ k:Nat,k≤L.length∧i=.int .i64 k∧wr.ownsRow w.heap.size 25 2 v (ahR (L.take k) key).length (rwFlat (ahR (L.take k) key))∧Fr none_ w wr) (fun _ i _=>L.length - (intOf i).toNat)
 case atStart=>exact ⟨0,Nat.zero_le _,rfl,World.ownsRow_nil _ _ _ _,Fr.refl _ _⟩
 case round =>
  obtain ⟨k,hk,rfl,hown,hF⟩:=hrel
  obtain ⟨A1,c1,rfl⟩:=hown.shape
  have O:=hid_ hown
  have H:=hid_ (H0.out.none_fr hF)
  have F:=hid_ hF
  clear hown hF
  have hi0:(0:Int)≤(k:Int):=Int.natCast_nonneg _
  by_cases hlt:k < L.length
  ·have hi1':(k:Int) < (L.length:Int):=by omega
   obtain ⟨p,hp⟩:∃ p,L[k]?=some p:=⟨_,List.getElem?_eq_getElem hlt⟩
   obtain ⟨b,off,rfl,hb2,d0,d1⟩:=rw_at H.out hp
   have HT:=hid_ (ahR_take (key:=key) hp)
   have hle:=ahR_le (L.take k) key
   rw [List.length_take] at hle
   have hpk:=(HO.out.2 p (List.mem_of_getElem? hp)).1
   have HPK:=hid_ hpk
   have hfs:=F.out.size
   clear hp hpk
   go_wp2_with fail
   refine (before_ok p.1 key wr HPK.out.le HK.out.le).mono ?_
   rintro e w1 ⟨rfl,q,hw1⟩
   have f1:Fr none_ wr w1:=by rw [hw1];exact (Fr.refl none_ wr).drewN q
   replace O:=hid_ (own_none O.out f1)
   replace F:=hid_ (F.out.then_none f1)
   replace d0:=cellFr d0 f1
   replace d1:=cellFr d1 f1
   have hs1:=f1.size
   clear f1 hw1
   obtain ⟨n,hn⟩:∃ n,n=(ahR (L.take k) key).length:=⟨_,rfl⟩
   rw [← hn] at O hle ⊢
   cases hlt2:ltS p.1 key with
   | false =>
    have HTT:Hid (ahR (L.take (k+1)) key=ahR (L.take k) key):=hid_ (by rw [HT.out,hlt2];rfl)
    have HN:=hid_ hn
    clear hlt2 hn d0 d1
    go_wp2_with fail
    go_roundw
    case rel=>exact ⟨k+1,by omega,by go_num,by rw [HTT.out,← HN.out];exact O.out,F.out⟩
    case measure=>simp [intOf];omega
   | true =>
    have HTT:Hid (ahR (L.take (k+1)) key=ahR (L.take k) key ++ [p]):=hid_ (by rw [HT.out,hlt2];rfl)
    have HN:=hid_ hn
    clear hlt2 hn
    go_wp2_with (at_builtin;refine wpList_append_any _ rfl (.tmp 20) (.tmp 25) 22 rfl w.heap.size 25 i0 _ 2 32 Tryz.underlying22 Hi.out.1 Hi.out.2.1 Hi.out.2.2.1 Hi.out.2.2.2 rfl (by omega) (.slice A1 n c1) n (rwFlat (ahR (L.take k) key)) rfl (own_none O.out ((Fr.refl none_ _).alloc _)) (some ⟨w1.heap.size,0,none⟩) 1 1 [.string p.1,.string p.2] rfl (reads_new w1 _ [.string p.1,.string p.2] _ rfl) (by simp [Value.oneCell']) (by simp only [maxLen];omega) (by omega) (by simp [World.size_alloc];omega) ?_;intro A3 c3 w3 hown3 hgr3)
    have F3:=hid_ ((F.out.alloc (.cells #[.string p.1,.string p.2] 25)).grown hgr3 (fun k hk=>.inr (O.out.lt k hk).1))
    have O3:=hid_ hown3
    clear hown3 hgr3 d0 d1
    go_wp2_with fail
    go_roundw
    case rel=>exact ⟨k+1,by omega,by go_num,by
     rw [HTT.out,List.length_append,List.length_singleton,← HN.out,rwFlat_app,rwFlat_single]
     exact O3.out,F3.out⟩
    case measure=>simp [intOf];omega
  ·obtain rfl:k=L.length:=by omega
   have o:=O.out
   have f:=F.out
   rw [List.take_length] at o
   go_wp2
   go_ret
   rw [List.take_length]
   exact ⟨A1,c1,rfl,o,f⟩
end Go.Proofs.YthpkbppaaagaoaaGreat
