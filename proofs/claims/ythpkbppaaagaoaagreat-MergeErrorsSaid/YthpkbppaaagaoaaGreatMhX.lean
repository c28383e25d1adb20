/- Texts of one proof, merged. -/
import Derived.Deep.QuietTactic
import Derived.BigQuiet
import Derived.BigRegion
import Derived.Test.YthpkbppaaagaoaaGreatMhA
import Derived.Test.YthpkbppaaagaoaaGreatMhB
import Derived.Test.YthpkbppaaagaoaaGreatMhE
import Derived.Test.YthpkbppaaagaoaaGreatMhF
import Derived.Test.YthpkbppaaagaoaaGreatMhG
import Derived.Test.YthpkbppaaagaoaaGreatMhH
import Derived.Test.YthpkbppaaagaoaaGreatMhV
namespace Go.Proofs.YthpkbppaaagaoaaGreat
set_option maxRecDepth 100000
set_option linter.unusedVariables false
open Go.RowKit

def Ris (L:List Et):Prop:=∀ (i:Nat) (p q:Et),L[i]?=some p→L[i+1]?=some q→ltS p.1 q.1=true
theorem lt_of_some {α:Type} {L:List α} {i:Nat} {p:α} (h:L[i]?=some p):i < L.length:=(List.getElem?_eq_some_iff.1 h).1
theorem some_of_lt {α:Type} {L:List α} {i:Nat} (h:i < L.length):∃ p,L[i]?=some p:=⟨_,List.getElem?_eq_getElem h⟩
theorem Ris.lt {L:List Et} (h:Ris L):∀ {i j:Nat} {p q:Et},i < j→L[i]?=some p→L[j]?=some q→ltS p.1 q.1=true:=by
  intro i j p q hij hp hq
  induction j generalizing q with
  | zero=>omega
  | succ j ih =>
    obtain ⟨r,hr⟩:=some_of_lt (L:=L) (i:=j) (by have:=lt_of_some hq;omega)
    have h2:=h j r q hr hq
    rcases Nat.lt_or_ge i j with h1 | h1
    · exact ltS_trans (ih h1 hr) h2
    · obtain rfl:i=j:=by omega
      rw [hp] at hr
      cases hr
      exact h2
theorem plN_uniq {L:List Et} {key:ByteArray} {n:Nat} (h1:∀ (i:Nat) (p:Et),i < n→L[i]?=some p→ltS p.1 key=true) (h2:n=L.length∨∃ p,L[n]?=some p∧ltS p.1 key=false):plN L key=n:=by
  rcases Nat.lt_trichotomy (plN L key) n with h | h | h
  · obtain ⟨p,hp⟩:=some_of_lt (L:=L) (i:=plN L key) (by
      rcases h2 with e | ⟨p,hp,_⟩
      · omega
      · have:=lt_of_some hp;omega)
    have a:=h1 _ _ h hp
    rw [plN_at hp] at a
    cases a
  · exact h
  · rcases h2 with e | ⟨p,hp,hn⟩
    · have:=plN_le L key;omega
    · have:=plN_in h hp
      rw [hn] at this
      cases this
theorem atB_ex {L:List Et} {key:ByteArray} (h:atB L key=true):∃ p,L[plN L key]?=some p∧p.1=key:=by
  obtain ⟨p,hp⟩:=some_of_lt (atB_lt h)
  rw [atB_some hp] at h
  exact ⟨p,hp,sEq_iff.1 h⟩
theorem Ris.at {L:List Et} (h:Ris L) {i:Nat} {p:Et} (hp:L[i]?=some p):plN L p.1=i∧atB L p.1=true:=by
  have e:plN L p.1=i:=plN_uniq (fun j q hj hq=>h.lt hj hq hp) (.inr ⟨p,hp,ltS_irrefl _⟩)
  exact ⟨e,by rw [atB_some (p:=p) (by rw [e];exact hp)];exact sEq_self _⟩
theorem Ris.behind {L:List Et} (h:Ris L) {key:ByteArray} (hn:atB L key=false) {j:Nat} {q:Et} (hj:plN L key≤j) (hq:L[j]?=some q):ltS key q.1=true:=by
  obtain ⟨p,hp⟩:=some_of_lt (L:=L) (i:=plN L key) (by have:=lt_of_some hq;omega)
  have h1:=plN_at hp
  have h2:p.1≠key:=fun e=>by
    rw [atB_some hp,sEq_iff.2 e] at hn
    cases hn
  have h3:ltS key p.1=true:=by
    rcases ltS_total p.1 key with h | h | h
    · rw [h1] at h;cases h
    · exact absurd h h2
    · exact h
  rcases Nat.lt_or_ge (plN L key) j with hl | hl
  · exact ltS_trans h3 (h.lt hl hp hq)
  · obtain rfl:plN L key=j:=by omega
    rw [hp] at hq
    cases hq
    exact h3

theorem putL_get {L:List Et} {n:Nat} {p:Et} (hn:n≤L.length) (i:Nat):(putL L n p)[i]?=if i < n then L[i]? else if i=n then some p else L[i - 1]?:=by
  unfold putL
  by_cases h1:i < n
  · rw [if_pos h1,List.append_assoc,List.getElem?_append_left (by simp;omega),List.getElem?_take,if_pos h1]
  · rw [if_neg h1]
    by_cases h2:i=n
    · subst h2
      rw [if_pos rfl,List.append_assoc,List.getElem?_append_right (by simp;omega)]
      simp [Nat.min_eq_left hn]
    · rw [if_neg h2,List.getElem?_append_right (by simp;omega),List.getElem?_drop]
      congr 1
      simp
      omega
def cutL (L:List Et) (n:Nat):List Et:=L.take n ++ L.drop (n+1)
theorem cutL_get {L:List Et} {n:Nat} (hn:n≤L.length) (i:Nat):(cutL L n)[i]?=if i < n then L[i]? else L[i+1]?:=by
  unfold cutL
  by_cases h1:i < n
  · rw [if_pos h1,List.getElem?_append_left (by simp;omega),List.getElem?_take,if_pos h1]
  · rw [if_neg h1,List.getElem?_append_right (by simp;omega),List.getElem?_drop]
    congr 1
    simp
    omega
theorem Ris.put {L:List Et} (h:Ris L) {key:ByteArray} {pg:Int} (hn:atB L key=false):Ris (putL L (plN L key) (key,pg)):=by
  intro i p q hp hq
  have hle:=plN_le L key
  rw [putL_get hle] at hp hq
  by_cases h1:i+1 < plN L key
  · rw [if_pos (by omega)] at hp
    rw [if_pos h1] at hq
    exact h i p q hp hq
  · rw [if_neg h1] at hq
    by_cases h2:i+1=plN L key
    · rw [if_pos h2] at hq
      rw [if_pos (by omega)] at hp
      obtain rfl:(key,pg)=q:=Option.some.inj hq
      have h4:i < plN L key:=by omega
      exact plN_in h4 hp
    · rw [if_neg h2] at hq
      rw [if_neg (by omega)] at hp
      have hle2:plN L key≤i:=by omega
      by_cases h3:i=plN L key
      · rw [if_pos h3] at hp
        obtain rfl:(key,pg)=p:=Option.some.inj hp
        exact h.behind hn (j:=i+1 - 1) (show plN L key≤i+1 - 1 by rw [Nat.add_sub_cancel];exact hle2) hq
      · rw [if_neg h3] at hp
        exact h (i - 1) p q hp (by rw [show i - 1+1=i+1 - 1 by omega];exact hq)
theorem Ris.cut {L:List Et} (h:Ris L) {n:Nat} (hn:n≤L.length):Ris (cutL L n):=by
  intro i p q hp hq
  rw [cutL_get hn] at hp hq
  by_cases h1:i+1 < n
  · rw [if_pos (by omega)] at hp
    rw [if_pos h1] at hq
    exact h i p q hp hq
  · rw [if_neg h1] at hq
    by_cases h2:i < n
    · rw [if_pos h2] at hp
      exact h.lt (by omega) hp hq
    · rw [if_neg h2] at hp
      exact h (i+1) p q hp hq
theorem Ris.take {L:List Et} (h:Ris L) (n:Nat):Ris (L.take n):=by
  intro i p q hp hq
  rw [List.getElem?_take] at hp hq
  split at hp
  · split at hq
    · exact h i p q hp hq
    · cases hq
  · cases hp
theorem inS_iff {low high:ByteArray} {unb:Bool} {key:ByteArray}:inS low high unb key=true ↔ ltS key low=false∧(unb=true∨ltS key high=true):=by
  unfold inS
  cases ltS key low <;> cases unb <;> simp
theorem Sound.rise {V:Vw} (h:Sound V):Ris V.ents:=h.ris
structure Good (V:Vw):Prop where
  s:Sound V
  h:V.held=true→atB V.ents V.hk=true∧plN V.ents V.hk≠0
theorem pl_low {V:Vw} (h:Sound V) {key:ByteArray} (hi:inS V.low V.high V.unb key=true) (hn:atB V.ents key=false):plN V.ents key≠0:=by
  intro e
  obtain ⟨p,hp,hl⟩:=h.head
  have:=h.rise.behind hn (j:=0) (by omega) hp
  rw [hl] at this
  rw [(inS_iff.1 hi).1] at this
  cases this
theorem sound_put {V:Vw} (h:Sound V) {key:ByteArray} {pg:Int} (hi:inS V.low V.high V.unb key=true) (hn:atB V.ents key=false):Sound { V with ents:=putL V.ents (plN V.ents key) (key,pg) }:=by
  have h0:=pl_low h hi hn
  refine ⟨?_,h.high,fun p hp=>?_,h.rise.put hn⟩
  · obtain ⟨p,hp,hl⟩:=h.head
    exact ⟨p,by show (putL _ _ _)[0]?=_;rw [putL_get (plN_le _ _),if_pos (by omega)];exact hp,hl⟩
  · simp only [putL,List.mem_append,List.mem_cons,List.not_mem_nil,or_false] at hp
    rcases hp with (hp | rfl) | hp
    · exact h.inn p (List.mem_of_mem_take hp)
    · exact hi
    · exact h.inn p (List.mem_of_mem_drop hp)
theorem sound_cut {V:Vw} (h:Sound V) {n:Nat} (h0:n≠0) (hn:n≤V.ents.length):Sound { V with ents:=cutL V.ents n }:=by
  refine ⟨?_,h.high,fun p hp=>?_,h.rise.cut hn⟩
  · obtain ⟨p,hp,hl⟩:=h.head
    exact ⟨p,by show (cutL _ _)[0]?=_;rw [cutL_get hn,if_pos (by omega)];exact hp,hl⟩
  · simp only [cutL,List.mem_append] at hp
    rcases hp with hp | hp
    · exact h.inn p (List.mem_of_mem_take hp)
    · exact h.inn p (List.mem_of_mem_drop hp)
theorem sound_left {V:Vw} (h:Sound V) {n:Nat} {q:Et} (h0:n≠0) (hq:V.ents[n]?=some q):Sound { V with ents:=V.ents.take n,high:=q.1,unb:=false }:=by
  refine ⟨?_,fun e=>by (cases e),fun p hp=>?_,h.rise.take n⟩
  · obtain ⟨p,hp,hl⟩:=h.head
    exact ⟨p,by show (List.take _ _)[0]?=_;rw [List.getElem?_take,if_pos (by omega)];exact hp,hl⟩
  · obtain ⟨i,hi⟩:=List.mem_iff_getElem?.1 hp
    rw [List.getElem?_take] at hi
    split at hi
    · have:=h.inn p (List.mem_of_getElem? hi)
      exact inS_iff.2 ⟨(inS_iff.1 this).1,.inr (h.rise.lt (by omega) hi hq)⟩
    · cases hi
theorem up_good {V V':Vw} {R:Rc} (h:upM V R=some V') (g:Good V):Good V':=by
  unfold upM at h
  split at h
  · rename_i h8
    split at h
    · cases h
    · rename_i hn
      cases h
      have h1:atB V.ents R.key=false:=by
        cases e:atB V.ents R.key with
        | false=>rfl
        | true=>exact absurd (.inl e) hn
      have h2:inS V.low V.high V.unb R.key=true:=by
        cases e:inS V.low V.high V.unb R.key with
        | true=>rfl
        | false=>exact absurd (.inr e) hn
      exact ⟨sound_put g.s h2 h1,fun e=>by
        have e:V.held=true:=e
        rw [h8.2] at e
        cases e⟩
  · split at h
    · rename_i h9
      split at h
      · cases h
      · rename_i hn
        cases h
        have h1:atB V.ents R.key=true:=by
          cases e:atB V.ents R.key with
          | true=>rfl
          | false=>exact absurd (.inl e) hn
        have h2:plN V.ents R.key≠0:=fun e=>hn (.inr e)
        obtain ⟨q,hq,e⟩:=atB_ex h1
        have:=sound_left g.s h2 hq
        rw [e] at this
        exact ⟨⟨this.head,fun e=>by (cases e),this.inn,this.ris⟩,fun e=>by
          have e:V.held=true:=e
          rw [h9.2] at e
          cases e⟩
    · split at h
      · split at h
        · cases h
        · rename_i hn
          cases h
          have h1:atB V.ents R.hkey=true:=by
            cases e:atB V.ents R.hkey with
            | true=>rfl
            | false=>exact absurd (.inl e) hn
          exact ⟨⟨g.s.head,g.s.high,g.s.inn,g.s.ris⟩,fun _=>⟨h1,fun e=>hn (.inr (.inl e))⟩⟩
      · split at h
        · rename_i h11
          cases h
          obtain ⟨h1,h2⟩:=g.h h11.2
          have:=sound_cut g.s h2 (plN_le V.ents V.hk)
          exact ⟨⟨this.head,this.high,this.inn,this.ris⟩,fun e=>by (cases e)⟩
        · cases h
theorem fold_good:∀ {l:List Rc} {V:Vw},foldU l=some V→Good V
  | [],V,h=>by (cases h)
  | [b],V,h=>by
    simp only [foldU] at h
    split at h
    · rename_i hs
      cases h
      exact ⟨hs.2,fun e=>by (cases e)⟩
    · cases h
  | r :: s :: t,V,h=>by
    rw [foldU_cons r (by simp)] at h
    obtain ⟨U,hU,hV⟩:=Option.bind_eq_some_iff.1 h
    exact up_good hV (fold_good hU)

theorem upM_split {V:Vw} {R:Rc} (h:R.kind=9) (hh:V.held=false) (hn:¬ (atB V.ents R.key=false∨plN V.ents R.key=0)):upM V R=some { V with ents:=V.ents.take (plN V.ents R.key),high:=R.key,unb:=false,right:=R.page }:=by
  unfold upM
  rw [if_neg (fun e=>by have:=e.1;rw [h] at this;revert this;decide),if_pos ⟨h,hh⟩,if_neg hn]
theorem upM_drop {V:Vw} {R:Rc} (h:R.kind=11) (hh:V.held=true) :
    upM V R=some { V with ents:=V.ents.take (plN V.ents V.hk) ++ V.ents.drop (plN V.ents V.hk+1),held:=false,hp:=0,hl:=0,hk:=nilS }:=by
  unfold upM
  rw [if_neg (fun e=>by have:=e.1;rw [h] at this;revert this;decide),if_neg (fun e=>by have:=e.1;rw [h] at this;revert this;decide),if_neg (fun e=>by have:=e.1;rw [h] at this;revert this;decide),if_pos ⟨h,hh⟩]
open Go.RowKit Go.BigFrame

set_option maxHeartbeats 4000000 in
theorem rsoundV_ok (V:Vw) (A:Option Addr) (c:Nat) (w:World) (h:VwIn w V A c) :
  Calls Tryz.prog 86 #[vwV V (.slice A V.ents.length c)] w (SoundPost V w):=by
 obtain ⟨w0,hw0⟩:∃ w0,w0=w.alloc (.cells (vwA V (.slice A V.ents.length c)) 116):=⟨_,rfl⟩
 have f0:Fr none_ w w0:=by rw [hw0];exact (Fr.refl none_ w).alloc _
 have F0:=hid_ f0
 have H0:=hid_ (h.keep f0)
 have B0:Hid (Blk w0 w.heap.size 116 (vwA V (.slice A V.ents.length c))):=hid_ (by rw [hw0];exact Blk.new w _ _)
 have h1000:=h.ok.ents.1
 have OK:=hid_ h.ok
 have v0:w0.cell? ⟨w.heap.size,0,none⟩=some (.string V.low):=B0.out.cell' rfl
 have v1:w0.cell? ⟨w.heap.size,1,none⟩=some (.string V.high):=B0.out.cell' rfl
 have v2:w0.cell? ⟨w.heap.size,2,none⟩=some (.bool V.unb):=B0.out.cell' rfl
 have v4:w0.cell? ⟨w.heap.size,4,none⟩=some (.slice A V.ents.length c):=B0.out.cell' rfl
 clear h f0
 by_cases hl0:V.ents.length=0
 ·have hne:¬ Sound V:=fun h=>by
   obtain ⟨p,hp,_⟩:=h.head
   rw [List.getElem?_eq_none (by omega)] at hp
   cases hp
  have HNE:=hid_ hne
  rw [hl0] at v4 hw0
  rw [hl0]
  clear hl0 hne
  go_enter Tryz.func86,Tryz.ntmps86
  go_wp2_with fail
  change Code.wp _ _ _ _ (w.alloc (.cells (vwA V (.slice A 0 c)) 116))
  rw [← hw0]
  clear hw0
  go_quiet (fail)
  go_wp2_with fail
  go_ret
  exact ⟨false,rfl,⟨(fun h=>by cases h),fun h=>absurd h HNE.out⟩,F0.out.drewN _⟩
 obtain ⟨p0,hp0⟩:∃ p,V.ents[0]?=some p:=⟨_,List.getElem?_eq_getElem (by omega)⟩
 obtain ⟨b,off,rfl,hb,c0,c1⟩:=et_at H0.out.rd hp0
 have hd0:decide ((0:Int) < (V.ents.length:Int))=true:=by simp;omega
 have hd0':((V.ents.length:Int)==0)=false:=beq_eq_false_iff_ne.2 (by omega)
 have hi1:(0:Int) < (V.ents.length:Int):=by omega
 simp only [Nat.zero_mul,Nat.add_zero] at c0
 have HP0:=hid_ hp0
 have HL0:=hid_ hl0
 clear hp0 c1 hl0
 by_cases hlow:p0.1=V.low
 case neg =>
  have hne:¬ Sound V:=fun h=>by
   obtain ⟨p,hp,e⟩:=h.head
   rw [HP0.out] at hp
   cases hp
   exact hlow e
  have HNE:=hid_ hne
  have hs1:=sEq_ne hlow
  unfold sEq at hs1
  have hs2:(p0.1.toList != V.low.toList)=true:=by simpa [bne] using hs1
  clear hne hlow
  go_enter Tryz.func86,Tryz.ntmps86
  go_wp2_with fail
  change Code.wp _ _ _ _ (w.alloc (.cells (vwA V (.slice (some ⟨b,off,none⟩) V.ents.length c)) 116))
  rw [← hw0]
  clear hw0
  go_quiet (fail)
  go_wp2_with fail
  go_ret
  exact ⟨false,rfl,⟨(fun h=>by cases h),fun h=>absurd h HNE.out⟩,F0.out.drewN _⟩
 have hs1:(p0.1.toList==V.low.toList)=true:=sEq_iff.2 hlow
 have hs2:(p0.1.toList != V.low.toList)=false:=by simpa [bne] using hs1
 have HLOW:=hid_ hlow
 clear hlow
 by_cases hhi:V.unb=true∧V.high≠nilS
 ·have hne:¬ Sound V:=fun h=>hhi.2 (h.high hhi.1)
  have HNE:=hid_ hne
  rw [hhi.1] at v2
  have hh:V.high.toList.isEmpty=false:=by
   cases e:V.high.toList.isEmpty with
   | false=>rfl
   | true=>exact absurd (ba_eq (by rw [← ba_toList,List.isEmpty_iff.1 e])) hhi.2
  have hh2:(!V.high.toList.isEmpty)=true:=by rw [hh];rfl
  clear hne hhi
  go_enter Tryz.func86,Tryz.ntmps86
  go_wp2_with fail
  change Code.wp _ _ _ _ (w.alloc (.cells (vwA V (.slice (some ⟨b,off,none⟩) V.ents.length c)) 116))
  rw [← hw0]
  clear hw0
  go_quiet (fail)
  go_wp2_with fail
  go_ret
  exact ⟨false,rfl,⟨(fun h=>by cases h),fun h=>absurd h HNE.out⟩,F0.out.drewN _⟩
 have HHI:Hid (V.unb=true→V.high=nilS):=hid_ (fun hu=>Classical.byContradiction fun hn=>hhi ⟨hu,hn⟩)
 clear hhi
 go_enter Tryz.func86,Tryz.ntmps86
 go_upto_region 1 with fail
 change Code.wp _ _ _ _ (w.alloc (.cells (vwA V (.slice (some ⟨b,off,none⟩) V.ents.length c)) 116))
 rw [← hw0]
 clear hw0
 go_cut [26] (fun v wq=>v=.bool false∧Fr none_ w0 wq)
 case first =>
  cases hu:V.unb with
  | false =>
   rw [hu] at v2
   clear hu
   go_quiet (fail)
   go_wp2
   go_meet
   case rel=>exact ⟨rfl,(Fr.refl none_ w0).drewN _⟩
  | true =>
   have hh:=HHI.out hu
   rw [hu] at v2
   rw [hh] at v1
   clear hu hh
   go_quiet (fail)
   go_wp2
   go_meet
   case rel=>exact ⟨rfl,(Fr.refl none_ w0).drewN _⟩
 case rest =>
 obtain ⟨rfl,hf⟩:=hcut
 have B1:=hid_ (B0.out.fr hf id)
 have F1:=hid_ (F0.out.then_none hf)
 have H1:=hid_ (H0.out.keep hf)
 clear hf v0 v1 v2 v4 c0 hs1 hs2 hd0 hd0'
 have v4:wc.cell? ⟨w.heap.size,4,none⟩=some (.slice (some ⟨b,off,none⟩) V.ents.length c):=B1.out.cell' rfl
 go_wp2_with fail
 clear v4 F0 H0 B0
 go_loopw [3] (fun i wr=>∃ k:Nat,k≤V.ents.length∧i=.int .i64 k∧SoundTo V k∧Fr none_ wc wr) (fun i _=>V.ents.length - (intOf i).toNat)
 case atStart=>exact ⟨0,Nat.zero_le _,rfl,⟨fun j p hj=>by omega,fun j p q hj=>by omega⟩,Fr.refl _ _⟩
 case round =>
  obtain ⟨k,hk,rfl,hst,hF⟩:=hrel
  have ST:=hid_ hst
  have B:=hid_ (B1.out.fr hF id)
  have H:=hid_ (H1.out.keep hF)
  have F:=hid_ (F1.out.then_none hF)
  have FC:=hid_ hF
  clear hst hF
  have hi0:(0:Int)≤(k:Int):=Int.natCast_nonneg _
  have vv4:wr.cell? ⟨w.heap.size,4,none⟩=some (.slice (some ⟨b,off,none⟩) V.ents.length c):=B.out.cell' rfl
  by_cases hlt:k < V.ents.length
  ·have hi1':(k:Int) < (V.ents.length:Int):=by omega
   obtain ⟨p,hp⟩:∃ p,V.ents[k]?=some p:=⟨_,List.getElem?_eq_getElem hlt⟩
   obtain ⟨b2,off2,hA,hb2,c0,c1⟩:=et_at H.out.rd hp
   obtain ⟨rfl,rfl⟩:b=b2∧off=off2:=by injection hA with hA;injection hA with e1 e2;exact ⟨e1,e2⟩
   have HP:=hid_ hp
   clear hp hA
   have B2:=B
   have H2:=H
   go_upto_region 6 with fail
   obtain ⟨w2,rfl⟩:∃ z:World,z=wr:=⟨_,rfl⟩
   have F2:=FC
   have hpk:=OK.out.ents.2 p (List.mem_of_getElem? HP.out)
   have HPK:=hid_ hpk
   clear hpk
   go_cut [63] (fun v wq=>∃ bb:Bool,v=.bool bb∧(bb=false ↔ (inS V.low V.high V.unb p.1=true∧∀ q,0 < k→V.ents[k - 1]?=some q→ltS q.1 p.1=true))∧Fr none_ w2 wq)
   case first =>
    have v0:w2.cell? ⟨w.heap.size,0,none⟩=some (.string V.low):=B2.out.cell' rfl
    have v1:w2.cell? ⟨w.heap.size,1,none⟩=some (.string V.high):=B2.out.cell' rfl
    have v2:w2.cell? ⟨w.heap.size,2,none⟩=some (.bool V.unb):=B2.out.cell' rfl
    have v3:w2.cell? ⟨w.heap.size,3,none⟩=some (.int .i64 V.right):=B2.out.cell' rfl
    have v4:w2.cell? ⟨w.heap.size,4,none⟩=some (.slice (some ⟨b,off,none⟩) V.ents.length c):=B2.out.cell' rfl
    have v5:w2.cell? ⟨w.heap.size,5,none⟩=some (.bool V.held):=B2.out.cell' rfl
    have v6:w2.cell? ⟨w.heap.size,6,none⟩=some (.int .i64 V.hp):=B2.out.cell' rfl
    have v7:w2.cell? ⟨w.heap.size,7,none⟩=some (.int .i64 V.hl):=B2.out.cell' rfl
    have v8:w2.cell? ⟨w.heap.size,8,none⟩=some (.string V.hk):=B2.out.cell' rfl
    have y0:∀ x:Wx w2,x.to.cell? ⟨w.heap.size,0,none⟩=some (.string V.low):=fun x=>x.cell v0
    have y1:∀ x:Wx w2,x.to.cell? ⟨w.heap.size,1,none⟩=some (.string V.high):=fun x=>x.cell v1
    have y2:∀ x:Wx w2,x.to.cell? ⟨w.heap.size,2,none⟩=some (.bool V.unb):=fun x=>x.cell v2
    have y3:∀ x:Wx w2,x.to.cell? ⟨w.heap.size,3,none⟩=some (.int .i64 V.right):=fun x=>x.cell v3
    have y4:∀ x:Wx w2,x.to.cell? ⟨w.heap.size,4,none⟩=some (.slice (some ⟨b,off,none⟩) V.ents.length c):=fun x=>x.cell v4
    have y5:∀ x:Wx w2,x.to.cell? ⟨w.heap.size,5,none⟩=some (.bool V.held):=fun x=>x.cell v5
    have y6:∀ x:Wx w2,x.to.cell? ⟨w.heap.size,6,none⟩=some (.int .i64 V.hp):=fun x=>x.cell v6
    have y7:∀ x:Wx w2,x.to.cell? ⟨w.heap.size,7,none⟩=some (.int .i64 V.hl):=fun x=>x.cell v7
    have y8:∀ x:Wx w2,x.to.cell? ⟨w.heap.size,8,none⟩=some (.string V.hk):=fun x=>x.cell v8
    have z0:∀ x:Wx w2,x.to.cell? ⟨b,off+k * 2,none⟩=some (.string p.1):=fun x=>x.cell c0
    clear v0 v1 v2 v3 v4 v5 v6 v7 v8 c0 c1
    cases hin:inS V.low V.high V.unb p.1 with
    | false =>
     have HC:Hid (∀ x:Wx w2,Calls Tryz.prog 87 #[vwV V (.slice (some ⟨b,off,none⟩) V.ents.length c),.string p.1] x.to fun e w'=>e=.returned (.bool false)∧Fr none_ x.to w'):=hid_ (fun x=>by
      have h:=rvin_ok V (.slice (some ⟨b,off,none⟩) V.ents.length c) p.1 x.to OK.out.low OK.out.high HPK.out
      rwa [hin] at h)
     have HIN:=hid_ hin
     clear hin
     refine wp_region_quiet_x (by kernel_rfl) (by kernel_rfl) ?_
     repeat (first | go_big_quiet_step ((go_at_call 87;exact Calls.quiet_x (HC.out _))) | quiet_step ((go_at_call 87;exact Calls.quiet_x (HC.out _))))
     refine wpQuiet_nil ?_
     intro _ hw'
     obtain ⟨xq,hw''⟩:=hw'
     subst hw''
     go_wp2
     go_meet
     case rel=>exact ⟨true,rfl,⟨(fun h=>by cases h),fun h=>by rw [HIN.out] at h;cases h.1⟩,xq.fr⟩
    | true =>
     have HC:Hid (∀ x:Wx w2,Calls Tryz.prog 87 #[vwV V (.slice (some ⟨b,off,none⟩) V.ents.length c),.string p.1] x.to fun e w'=>e=.returned (.bool true)∧Fr none_ x.to w'):=hid_ (fun x=>by
      have h:=rvin_ok V (.slice (some ⟨b,off,none⟩) V.ents.length c) p.1 x.to OK.out.low OK.out.high HPK.out
      rwa [hin] at h)
     have HIN:=hid_ hin
     clear hin
     by_cases hk0:0 < k
     ·obtain ⟨q,hq⟩:∃ q,V.ents[k - 1]?=some q:=⟨_,List.getElem?_eq_getElem (by omega)⟩
      obtain ⟨b3,off3,hA,hb3,d0,d1⟩:=et_at H2.out.rd hq
      obtain ⟨rfl,rfl⟩:b=b3∧off=off3:=by injection hA with hA;injection hA with e1 e2;exact ⟨e1,e2⟩
      have e0:∀ x:Wx w2,x.to.cell? ⟨b,off+(k - 1) * 2,none⟩=some (.string q.1):=fun x=>x.cell d0
      have hqk:=OK.out.ents.2 q (List.mem_of_getElem? hq)
      have HQK:=hid_ hqk
      have HQ:=hid_ hq
      have HQ':Hid ((∀ q',0 < k→V.ents[k - 1]?=some q'→ltS q'.1 p.1=true) ↔ ltS q.1 p.1=true):=hid_ ⟨fun h=>h q hk0 hq,fun h q' _ hq'=>by rw [hq] at hq';cases hq';exact h⟩
      have HC2:Hid (∀ x:Wx w2,Calls Tryz.prog 15 #[.string q.1,.string p.1] x.to fun e w'=>e=.returned (.bool (ltS q.1 p.1))∧Fr none_ x.to w'):=hid_ (fun x=>(before_ok q.1 p.1 x.to HQK.out.le HPK.out.le).mono (by rintro e w' ⟨rfl,n,rfl⟩;exact ⟨rfl,(Fr.refl none_ _).drewN n⟩))
      have hw1:IntKind.i64.wrap ((k:Int) - 1)=((k - 1:Nat):Int):=by rw [show (k:Int) - 1=((k - 1:Nat):Int) by omega];exact IntWalk.i64_in _ (by omega)
      have hdk:decide (0 < k)=true:=decide_eq_true hk0
      have hj0:(0:Int)≤((k - 1:Nat):Int):=Int.natCast_nonneg _
      have hj1:((k - 1:Nat):Int) < (V.ents.length:Int):=by omega
      obtain ⟨j,hj⟩:∃ j,j=k - 1:=⟨_,rfl⟩
      rw [← hj] at e0 hw1 hj0 hj1
      have HJ:=hid_ hj
      clear hq hA d0 d1 hqk hj hk0
      refine wp_region_quiet_x (by kernel_rfl) (by kernel_rfl) ?_
      repeat (first | go_big_quiet_step ((first | (go_at_call 87;exact Calls.quiet_x (HC.out _)) | (go_at_call 15;exact Calls.quiet_x (HC2.out _)))) | quiet_step ((first | (go_at_call 87;exact Calls.quiet_x (HC.out _)) | (go_at_call 15;exact Calls.quiet_x (HC2.out _)))))
      refine wpQuiet_nil ?_
      intro _ hw'
      obtain ⟨xq,hw''⟩:=hw'
      subst hw''
      go_wp2
      go_meet
      case rel=>exact ⟨_,rfl,by
       rw [HIN.out,HQ'.out]
       cases ltS q.1 p.1 <;> simp,xq.fr⟩
     ·have hdk:decide (0 < k)=false:=decide_eq_false hk0
      have hk0':k=0:=by omega
      have HK0:=hid_ hk0'
      clear hk0 hk0'
      refine wp_region_quiet_x (by kernel_rfl) (by kernel_rfl) ?_
      repeat (first | go_big_quiet_step ((go_at_call 87;exact Calls.quiet_x (HC.out _))) | quiet_step ((go_at_call 87;exact Calls.quiet_x (HC.out _))))
      refine wpQuiet_nil ?_
      intro _ hw'
      obtain ⟨xq,hw''⟩:=hw'
      subst hw''
      go_wp2
      go_meet
      case rel=>exact ⟨false,rfl,⟨fun _=>⟨HIN.out,fun q h=>by have:=HK0.out;omega⟩,fun _=>rfl⟩,xq.fr⟩
   case rest =>
   obtain ⟨bb,rfl,hbb,hf⟩:=hcut
   have F3:=hid_ (F2.out.then_none hf)
   have HB:=hid_ hbb
   clear hf hbb B2 H2 F2
   cases bb with
   | true =>
    have hns:¬ Sound V:=fun hS=>by
     have h:=HB.out.2 ⟨hS.inn p (List.mem_of_getElem? HP.out),fun q h0 hq=>hS.ris (k - 1) q p hq (by rw [show k - 1+1=k by omega];exact HP.out)⟩
     cases h
    have HNS:=hid_ hns
    clear hns
    go_wp2_with fail
    go_ret
    exact ⟨false,rfl,⟨(fun h=>by cases h),fun h=>absurd h HNS.out⟩,F1.out.then_none F3.out⟩
   | false =>
    have hst:SoundTo V (k+1):=by
     have h:=HB.out.1 rfl
     refine ⟨fun j p' hj hp'=>?_,fun j p' q hj hp' hq=>?_⟩
     ·rcases Nat.lt_succ_iff_lt_or_eq.1 hj with hj | rfl
      ·exact ST.out.1 j p' hj hp'
      ·rw [HP.out] at hp';cases hp';exact h.1
     ·rcases Nat.lt_succ_iff_lt_or_eq.1 hj with hj | hj
      ·exact ST.out.2 j p' q hj hp' hq
      ·rw [hj,HP.out] at hq
       cases hq
       exact h.2 p' (by omega) (by rw [show k - 1=j by omega];exact hp')
    have HST:=hid_ hst
    clear hst
    go_wp2_with fail
    go_roundw
    case rel=>exact ⟨k+1,by omega,by go_num,HST.out,F3.out⟩
    case measure=>simp [intOf];omega
  ·obtain rfl:k=V.ents.length:=by omega
   have hS:Sound V:=⟨⟨p0,HP0.out,HLOW.out⟩,HHI.out,fun p hp=>by obtain ⟨j,hj,e⟩:=List.mem_iff_getElem.1 hp;exact ST.out.1 j p hj (by rw [List.getElem?_eq_getElem hj,e]),fun j p q hp hq=>ST.out.2 j p q (List.getElem?_eq_some_iff.1 hq).1 hp hq⟩
   have HS:=hid_ hS
   clear hS
   go_wp2_with fail
   go_ret
   exact ⟨true,rfl,⟨fun _=>HS.out,fun _=>rfl⟩,F.out⟩
set_option maxHeartbeats 4000000 in
theorem rahead8_ok (V:Vw) (A:Option Addr) (c:Nat) (key:ByteArray) (w:World) (h:VwIn w V A c) (hk:SzOk key) :
  Calls Tryz.prog 88 #[vwV V (.slice A V.ents.length c),.string key] w fun e w'=>e=.returned (.int .i64 (plN V.ents key:Nat))∧Fr none_ w w':=by
 obtain ⟨w0,hw0⟩:∃ w0,w0=w.alloc (.cells (vwA V (.slice A V.ents.length c)) 116):=⟨_,rfl⟩
 have f0:Fr none_ w w0:=by rw [hw0];exact (Fr.refl none_ w).alloc _
 have F0:=hid_ f0
 have H0:=hid_ (h.keep f0)
 have B0:Hid (Blk w0 w.heap.size 116 (vwA V (.slice A V.ents.length c))):=hid_ (by rw [hw0];exact Blk.new w _ _)
 have hle:=plN_le V.ents key
 have h1000:=h.ok.ents.1
 have HSZ:=hid_ (And.intro h.ok.ents.2 hk)
 clear h f0 hk
 go_enter Tryz.func88,Tryz.ntmps88
 go_wp2_with fail
 change Code.wp _ _ _ _ (w.alloc (.cells (vwA V (.slice A V.ents.length c)) 116))
 rw [← hw0]
 clear hw0
 go_loopw [5] (fun i wr=>∃ k:Nat,k≤plN V.ents key∧i=.int .i64 k∧Fr none_ w0 wr) (fun i _=>plN V.ents key - (intOf i).toNat)
 case atStart=>exact ⟨0,Nat.zero_le _,rfl,Fr.refl _ _⟩
 case round =>
  obtain ⟨k,hk,rfl,hF⟩:=hrel
  have B:=hid_ (B0.out.fr hF id)
  have H:=hid_ (H0.out.keep hF)
  have F:=hid_ hF
  clear hF
  have v4:wr.cell? ⟨w.heap.size,4,none⟩=some (.slice A V.ents.length c):=B.out.cell' rfl
  have hi0:(0:Int)≤(k:Int):=Int.natCast_nonneg _
  by_cases hlt:k < plN V.ents key
  ·have hkl:k < V.ents.length:=by omega
   have hi1:(k:Int) < (V.ents.length:Int):=by omega
   have hd1:decide ((k:Int) < (V.ents.length:Int))=true:=by simp;omega
   obtain ⟨p,hp⟩:∃ p,V.ents[k]?=some p:=⟨_,List.getElem?_eq_getElem hkl⟩
   obtain ⟨b,off,rfl,hb,c0,c1⟩:=et_at H.out.rd hp
   have hcmp:ltS p.1 key=true:=plN_in hlt hp
   have hsz:=HSZ.out.1 p (List.mem_of_getElem? hp)
   have HCMP:=hid_ hcmp
   clear hp hcmp c1
   go_wp2_with fail
   refine (before_ok p.1 key _ hsz.le HSZ.out.2.le).mono ?_
   rintro e w1 ⟨rfl,q,rfl⟩
   rw [HCMP.out]
   have FQ:=hid_ (F.out.drewN q)
   clear v4 c0
   go_wp2_with fail
   go_roundw
   case rel=>exact ⟨k+1,by omega,by go_num,FQ.out⟩
   case measure=>simp [intOf];omega
  ·obtain rfl:k=plN V.ents key:=by omega
   by_cases hl:plN V.ents key < V.ents.length
   ·obtain ⟨p,hp⟩:∃ p,V.ents[plN V.ents key]?=some p:=⟨_,List.getElem?_eq_getElem hl⟩
    obtain ⟨b,off,rfl,hb,c0,c1⟩:=et_at H.out.rd hp
    have hcmp:ltS p.1 key=false:=plN_at hp
    have hsz:=HSZ.out.1 p (List.mem_of_getElem? hp)
    have hat:=atB_some hp
    obtain ⟨n,hn⟩:∃ n,n=plN V.ents key:=⟨_,rfl⟩
    have hi1:(n:Int) < (V.ents.length:Int):=by omega
    have hd1:decide ((n:Int) < (V.ents.length:Int))=true:=by simp;omega
    have hd2:decide (n < V.ents.length)=true:=by simp;omega
    rw [← hn] at c0 c1 hi0
    rw [← hn]
    have HCMP:=hid_ hcmp
    have HAT:=hid_ hat
    have HN:=hid_ hn
    clear hp hcmp c1 hl hlt hat hn hk hle
    go_wp2_with fail
    refine (before_ok p.1 key _ hsz.le HSZ.out.2.le).mono ?_
    rintro e w1 ⟨rfl,q,rfl⟩
    rw [HCMP.out]
    have FQ:=hid_ (F.out.drewN q)
    go_wp2_with fail
    go_ret
    exact ⟨by rw [← HN.out];rfl,F0.out.then_none (by repeat (first | exact FQ.out | apply Fr.drewN | apply Fr.drew))⟩
   ·have he:plN V.ents key=V.ents.length:=by omega
    have hat:=atB_none he
    have HAT:=hid_ hat
    have HE:=hid_ he
    have hd1:decide ((V.ents.length:Int) < (V.ents.length:Int))=false:=by simp
    rw [he]
    clear he hat hl hlt hk hle
    go_wp2_with fail
    go_ret
    exact ⟨by rw [HE.out];rfl,F0.out.then_none (by repeat (first | exact F.out | apply Fr.drewN | apply Fr.drew))⟩

open Go.RowKit

theorem wpList_load_midG {P:Program} {ops:Array Oper} {rest:List Oper} {op:Oper} {a:Act} {w:World} {Q:Exit→Act→World→Prop} (hw:Region.wanted op (yielded ops a.tmps)=true) (ty:TypeId) (x:Operand) (ho:op.op=.load ty x)
    (b o:Nat) (hx:a.eval x=.pointer (some ⟨b,o,none⟩)) (cs:List Value) (d:TypeDesc) (hc:w.rangeAt b o cs)
    (hu:P.underlying ty=some d) (hd:d.isRow=true) (hi:(P.info? ty).map (·.size)=some cs.length)
    (h:wpList P ops Q rest (a.put op.dst (.agg cs.toArray)) w):wpList P ops Q (op :: rest) a w:=by
  unfold wpList
  rw [if_pos hw]
  exact .inl (wp_load_mid ty x ho b o hx cs d hc hu hd hi h)
end Go.Proofs.YthpkbppaaagaoaaGreat
