/- Texts of one proof, merged: Tk7. -/
import Derived.Test.YthpkbppaaagaoaaGreatMhB
namespace Go.Proofs.YthpkbppaaagaoaaGreat
open Go.RowKit Go.BigFrame
set_option maxRecDepth 100000
set_option linter.unusedVariables false

structure TkSt (w wr:World) (low high:ByteArray) (unb:Bool) (M:List Rw):Prop where
  bs:Blk wr w.heap.size 206 #[.string low,.string high,.bool unb]
  bl:Blk wr (w.heap.size+1) 3 #[.int .i64 0]
  bo:∃ v,Blk wr (w.heap.size+1+1) 22 #[v]∧wr.ownsRow (w.heap.size+1+1+1) 25 2 v M.length (rwFlat M)
  fr:Fr none_ w wr
theorem TkSt.keep {w w1 w2:World} {low high:ByteArray} {unb:Bool} {M:List Rw} (h:TkSt w w1 low high unb M) (hf:Fr none_ w1 w2):TkSt w w2 low high unb M:=by
  obtain ⟨v,h1,h2⟩:=h.bo
  exact ⟨h.bs.fr hf id,h.bl.fr hf id,⟨v,h1.fr hf id,own_none h2 hf⟩,h.fr.then_none hf⟩
def GivePost (w:World) (low high:ByteArray) (unb:Bool) (M:List Rw) (p:Rw) (e:Ending) (w':World):Prop:=
  e=.returned (.bool true)∧TkSt w w' low high unb (if inS low high unb p.1=true then M ++ [p] else M)
set_option maxHeartbeats 4000000 in
theorem tgive_ok (w wr:World) (low high:ByteArray) (unb:Bool) (M:List Rw) (p:Rw) (h:TkSt w wr low high unb M) (hM:M.length≤300000) (h1:SzOk low) (h2:SzOk high) (h3:SzOk p.1) :
  Calls Tryz.prog 138 #[rwV p,.pointer (some ⟨w.heap.size,0,none⟩),.pointer (some ⟨w.heap.size+1+1,0,none⟩),.pointer (some ⟨w.heap.size+1,0,none⟩)] wr (GivePost w low high unb M p):=by
 obtain ⟨i0,hi0,hz0,hs0,hb0⟩:=info_parts row_info
 have Hi:=hid_ (And.intro hi0 (And.intro hz0 (And.intro hs0 hb0)))
 have HS:=hid_ (And.intro h1 (And.intro h2 h3))
 obtain ⟨w0,hw0⟩:∃ z,z=wr.alloc (.cells #[.string p.1,.string p.2] 25):=⟨_,rfl⟩
 have f0:Fr none_ wr w0:=by rw [hw0];exact (Fr.refl none_ wr).alloc _
 have B0:Hid (Blk w0 wr.heap.size 25 #[.string p.1,.string p.2]):=hid_ (by rw [hw0];exact Blk.new wr _ _)
 have T0:=hid_ (h.keep f0)
 have hsz:=h.fr.size
 have hszb:=h.bl.lt
 have hlo:=h.bo.elim fun v hv=>hv.1.lt
 clear hi0 hz0 hs0 hb0 h h1 h2 h3 f0
 go_enter Tryz.func138,Tryz.ntmps138
 go_upto_region 1 with fail
 change Code.wp _ _ _ _ (wr.alloc (.cells #[.string p.1,.string p.2] 25))
 rw [← hw0]
 clear hw0
 have c0:w0.cell? ⟨wr.heap.size,0,none⟩=some (.string p.1):=B0.out.cell' rfl
 have s0:w0.cell? ⟨w.heap.size,0,none⟩=some (.string low):=T0.out.bs.cell' rfl
 have s1:w0.cell? ⟨w.heap.size,1,none⟩=some (.string high):=T0.out.bs.cell' rfl
 have s2:w0.cell? ⟨w.heap.size,2,none⟩=some (.bool unb):=T0.out.bs.cell' rfl
 go_wp2_with fail
 refine (in_ok low high unb p.1 w0 HS.out.1.le HS.out.2.1.le HS.out.2.2.le).mono ?_
 rintro e w1 ⟨rfl,q,hw1⟩
 have f1:Fr none_ w0 w1:=by rw [hw1];exact (Fr.refl none_ w0).drewN q
 replace T0:=hid_ (T0.out.keep f1)
 replace B0:=hid_ (B0.out.fr f1 id)
 clear c0 s0 s1 s2 f1 hw1
 cases hin:inS low high unb p.1 with
 | false =>
  have HIN:=hid_ hin
  clear hin
  have l0:w1.cell? ⟨w.heap.size+1,0,none⟩=some (.int .i64 0):=T0.out.bl.cell' rfl
  go_wp2_with fail
  go_ret
  exact ⟨rfl,by rw [HIN.out];exact T0.out⟩
 | true =>
  have HIN:=hid_ hin
  clear hin
  obtain ⟨v,hbo,hown⟩:=T0.out.bo
  obtain ⟨A,c,rfl⟩:=hown.shape
  have O:=hid_ hown
  have BO:=hid_ hbo
  have HNE:=hid_ (And.intro (own_blk_ne hown hbo (by decide)) (And.intro (own_blk_ne hown T0.out.bs (by decide)) (own_blk_ne hown T0.out.bl (by decide))))
  have hob:=fun b hb=>(hown.lt b hb).1
  have HOB:=hid_ hob
  clear hown hob
  have o0:w1.cell? ⟨w.heap.size+1+1,0,none⟩=some (.slice A M.length c):=BO.out.cell' rfl
  have c0:w1.cell? ⟨wr.heap.size,0,none⟩=some (.string p.1):=B0.out.cell' rfl
  have c1:w1.cell? ⟨wr.heap.size,1,none⟩=some (.string p.2):=B0.out.cell' rfl
  have hb1:=B0.out.lt
  have hcl:=hbo.lt
  clear hbo
  go_upto_region 3 with (at_builtin;refine wpList_append_any _ rfl (.tmp 15) (.tmp 17) 22 rfl (w.heap.size+1+1+1) 25 i0 _ 2 32 Tryz.underlying22 Hi.out.1 Hi.out.2.1 Hi.out.2.2.1 Hi.out.2.2.2 rfl (by omega) (.slice A M.length c) M.length (rwFlat M) rfl (O.out.alloc _) (some ⟨w1.heap.size,0,none⟩) 1 1 [.string p.1,.string p.2] rfl (reads_new w1 _ [.string p.1,.string p.2] _ rfl) (by simp [Value.oneCell']) (by simp only [maxLen];omega) (by omega) (by simp;omega) ?_;intro A3 c3 w3 hown3 hgr3;have hf3:Fr (fun k=>(Value.slice A M.length c).ownBlock=some k) w1 w3:=((Fr.refl _ w1).alloc (.cells #[.string p.1,.string p.2] 25)).grown hgr3 (fun k hk=>.inl hk);have O3:=hid_ hown3;have BO3:=hid_ (BO.out.fr hf3 HNE.out.1);have BS3:=hid_ (T0.out.bs.fr hf3 HNE.out.2.1);have BL3:=hid_ (T0.out.bl.fr hf3 HNE.out.2.2);have F3:Hid (Fr none_ w w3):=hid_ (T0.out.fr.trans hf3 (fun _ _=>id) (fun k hk e=>absurd (HOB.out k e) (by omega)));have o3:w3.cell? ⟨w.heap.size+1+1,0,none⟩=some (.slice A M.length c):=BO3.out.cell' rfl;have z3:=BO3.out.frozen 0;clear hown3 hgr3 hf3)
  obtain ⟨w4,hw4⟩:∃ z,z=w3.setCell ⟨w.heap.size+1+1,0,none⟩ (.slice A3 (M.length+1) c3):=⟨_,rfl⟩
  have f4:Fr (only (w.heap.size+1+1)) w3 w4:=by rw [hw4];exact Fr.only1 w3 ⟨w.heap.size+1+1,0,none⟩ _
  have BO4:Blk w4 (w.heap.size+1+1) 22 #[.slice A3 (M.length+1) c3]:=by rw [hw4];exact BO3.out.set_ 0 _
  have O4:=own_fr O3.out f4 (fun k hk e=>own_blk_ne O3.out BO3.out (by decide) (by rw [hk,show k=w.heap.size+1+1 from e]))
  have T4:TkSt w w4 low high unb (M ++ [p]):=⟨BS3.out.fr f4 (only_ne (by omega)),BL3.out.fr f4 (only_ne (by omega)),⟨_,BO4,by rw [List.length_append,rwFlat_app,rwFlat_single];exact O4⟩,F3.out.then_only f4 (.inr (by omega))⟩
  have HT4:=hid_ T4
  change Code.wp _ _ _ _ (w3.setCell ⟨w.heap.size+1+1,0,none⟩ (.slice A3 (M.length+1) c3))
  rw [← hw4]
  clear hw4 f4 BO4 O4 T4 o3 z3 c0 c1 o0
  have l0:w4.cell? ⟨w.heap.size+1,0,none⟩=some (.int .i64 0):=HT4.out.bl.cell' rfl
  go_wp2_with fail
  go_ret
  exact ⟨rfl,by rw [HIN.out];exact HT4.out⟩
def TakePost (L:List Rw) (low high:ByteArray) (unb:Bool) (w:World) (e:Ending) (w':World):Prop:=
  ∃ A c,e=.returned (.slice A (inR low high unb L).length c)∧w'.ownsRow w.heap.size 25 2 (.slice A (inR low high unb L).length c) (inR low high unb L).length (rwFlat (inR low high unb L))∧Fr none_ w w'
theorem inR_take {low high:ByteArray} {unb:Bool} {L:List Rw} {k:Nat} {p:Rw} (hp:L[k]?=some p):inR low high unb (L.take (k+1))=if inS low high unb p.1=true then inR low high unb (L.take k) ++ [p] else inR low high unb (L.take k):=by
  unfold inR
  rw [List.take_add_one,hp,List.filter_append]
  by_cases h:inS low high unb p.1=true
  · rw [if_pos h];simp [h]
  · rw [if_neg h];simp [h]
theorem inR_le (low high:ByteArray) (unb:Bool) (L:List Rw):(inR low high unb L).length≤L.length:=List.length_filter_le _ _
set_option maxHeartbeats 4000000 in
theorem take_ok (L:List Rw) (A:Option Addr) (c:Nat) (low high:ByteArray) (unb:Bool) (w:World) (h:Reads w 2 A L.length (rwFlat L)) (ho:RwsOk L) (h1:SzOk low) (h2:SzOk high) :
  Calls Tryz.prog 129 #[.slice A L.length c,.agg #[.string low,.string high,.bool unb],.int .i64 0,.bool false] w (TakePost L low high unb w):=by
 obtain ⟨w0,hw0⟩:∃ z,z=((w.alloc (.cells #[.string low,.string high,.bool unb] 206)).alloc (.cells #[.int .i64 0] 3)).alloc (.cells #[.slice none 0 0] 22):=⟨_,rfl⟩
 have f0:Fr none_ w w0:=by rw [hw0];exact (((Fr.refl none_ w).alloc _).alloc _).alloc _
 have T0:Hid (TkSt w w0 low high unb []):=hid_ (by
  refine ⟨?_,?_,⟨_,?_,World.ownsRow_nil _ _ _ _⟩,f0⟩
  ·rw [hw0];exact ((Blk.new w _ _).alloc _).alloc _
  ·rw [hw0];exact (Blk.new7 _ _ (by simp)).alloc _
  ·rw [hw0];exact Blk.new7 _ _ (by simp))
 have H0:=hid_ h
 have HO:=hid_ ho
 have HS:=hid_ (And.intro h1 h2)
 have h3:=ho.1
 clear h ho h1 h2 f0
 go_enter Tryz.func129,Tryz.ntmps129
 go_upto_region 2 with fail
 change Code.wp _ _ _ _ (((w.alloc (.cells #[.string low,.string high,.bool unb] 206)).alloc (.cells #[.int .i64 0] 3)).alloc (.cells #[.slice none 0 0] 22))
 rw [← hw0]
 clear hw0
 go_wp2_with fail
 go_loopw [16] (fun i wr=>∃ k:Nat,k≤L.length∧i=.int .i64 k∧TkSt w wr low high unb (inR low high unb (L.take k))) (fun i _=>L.length - (intOf i).toNat)
 case atStart=>exact ⟨0,Nat.zero_le _,rfl,T0.out⟩
 case round =>
  obtain ⟨k,hk,rfl,hT⟩:=hrel
  have T:=hid_ hT
  have H:=hid_ (H0.out.none_fr hT.fr)
  clear hT
  have hi0:(0:Int)≤(k:Int):=Int.natCast_nonneg _
  by_cases hlt:k < L.length
  ·have hi1:(k:Int) < (L.length:Int):=by omega
   obtain ⟨p,hp⟩:∃ p,L[k]?=some p:=⟨_,List.getElem?_eq_getElem hlt⟩
   obtain ⟨b,off,rfl,hb,c0,c1⟩:=rw_at H.out hp
   have HT:=hid_ (inR_take (low:=low) (high:=high) (unb:=unb) hp)
   have hsz:=(HO.out.2 p (List.mem_of_getElem? hp)).1
   have hM:(inR low high unb (L.take k)).length≤300000:=by
    have:=inR_le low high unb (L.take k)
    have h2:(L.take k).length=k:=by simp;omega
    omega
   clear hp
   go_wp2_with fail
   refine (tgive_ok w wr low high unb _ p T.out hM HS.out.1 HS.out.2 hsz).mono ?_
   rintro e w1 ⟨rfl,hT1⟩
   rw [← HT.out] at hT1
   have T1:=hid_ hT1
   clear hT1 c0 c1
   go_wp2_with fail
   go_roundw
   case rel=>exact ⟨k+1,by omega,by go_num,T1.out⟩
   case measure=>simp [intOf];omega
  ·obtain rfl:k=L.length:=by omega
   have hT:=T.out
   rw [List.take_length] at hT
   obtain ⟨v,hbo,hown⟩:=hT.bo
   obtain ⟨A',c',rfl⟩:=hown.shape
   have O:=hid_ hown
   have FF:=hid_ hT.fr
   have v0:wr.cell? ⟨w.heap.size+1+1,0,none⟩=some (.slice A' (inR low high unb L).length c'):=hbo.cell' rfl
   clear hT hbo hown
   go_wp2_with fail
   go_ret
   exact ⟨A',c',rfl,own_base O.out (by omega),FF.out⟩
def SoundLPost (low high:ByteArray) (unb:Bool) (L:List Rw) (w:World) (e:Ending) (w':World):Prop:=∃ b:Bool,e=.returned (.bool b)∧(b=true ↔ SoundR low high unb L)∧Fr none_ w w'
set_option maxHeartbeats 4000000 in
theorem soundL_ok (L:List Rw) (A:Option Addr) (c:Nat) (low high:ByteArray) (unb:Bool) (w:World) (h:Reads w 2 A L.length (rwFlat L)) (ho:RwsOk L) (h1:SzOk low) (h2:SzOk high) :
  Calls Tryz.prog 117 #[.slice A L.length c,.agg #[.string low,.string high,.bool unb]] w (SoundLPost low high unb L w):=by
 obtain ⟨w0,hw0⟩:∃ z,z=w.alloc (.cells #[.string low,.string high,.bool unb] 206):=⟨_,rfl⟩
 have f0:Fr none_ w w0:=by rw [hw0];exact (Fr.refl none_ w).alloc _
 have B0:Hid (Blk w0 w.heap.size 206 #[.string low,.string high,.bool unb]):=hid_ (by rw [hw0];exact Blk.new w _ _)
 have H0:=hid_ (h.none_fr f0)
 have F0:=hid_ f0
 have HO:=hid_ ho
 have HS:=hid_ (And.intro h1 h2)
 have h3:=ho.1
 clear h ho h1 h2 f0
 go_enter Tryz.func117,Tryz.ntmps117
 go_upto_region 1 with fail
 change Code.wp _ _ _ _ (w.alloc (.cells #[.string low,.string high,.bool unb] 206))
 rw [← hw0]
 clear hw0
 go_cut [16] (fun u wq=>∃ bb:Bool,u=.bool bb∧(bb=false ↔ ((unb=true→high=nilS)∧RightR L))∧Fr none_ w0 wq)
 case first =>
  have v1:w0.cell? ⟨w.heap.size,1,none⟩=some (.string high):=B0.out.cell' rfl
  have v2:w0.cell? ⟨w.heap.size,2,none⟩=some (.bool unb):=B0.out.cell' rfl
  by_cases hb:unb=true∧high≠nilS
  ·rw [hb.1] at v2
   have hh:high.toList.isEmpty=false:=by
    cases e:high.toList.isEmpty with
    | false=>rfl
    | true=>exact absurd (ba_eq (by rw [← ba_toList,List.isEmpty_iff.1 e])) hb.2
   have hh2:(!high.toList.isEmpty)=true:=by rw [hh];rfl
   have HB:=hid_ hb
   clear hb
   go_wp2_with fail
   go_meet
   case rel=>exact ⟨true,rfl,⟨(fun h=>by cases h),fun h=>absurd (h.1 HB.out.1) HB.out.2⟩,Fr.refl _ _⟩
  ·have HHI:Hid (unb=true→high=nilS):=hid_ (fun hu=>Classical.byContradiction fun hn=>hb ⟨hu,hn⟩)
   clear hb
   cases unb with
   | false =>
    go_wp2_with fail
    refine (rightR_ok L A c _ H0.out HO.out).mono ?_
    rintro e w1 ⟨b,rfl,hb,hf⟩
    have HB:=hid_ hb
    have F1:=hid_ hf
    clear hb hf
    go_wp2_with fail
    go_meet
    case rel=>exact ⟨_,rfl,by rw [← HB.out];cases b <;> simp,F1.out⟩
   | true =>
    rw [HHI.out (by simp)] at v1
    go_wp2_with fail
    refine (rightR_ok L A c _ H0.out HO.out).mono ?_
    rintro e w1 ⟨b,rfl,hb,hf⟩
    have HB:=hid_ hb
    have F1:=hid_ hf
    clear hb hf
    go_wp2_with fail
    go_meet
    case rel=>exact ⟨_,rfl,by rw [← HB.out];have:=HHI.out (by simp);cases b <;> simp [this],F1.out⟩
 case rest =>
  obtain ⟨bb,rfl,hbb,hf⟩:=hcut
  have HB:=hid_ hbb
  have F1:=hid_ (F0.out.then_none hf)
  have B1:=hid_ (B0.out.fr hf id)
  have H1:=hid_ (H0.out.none_fr hf)
  clear hbb hf
  cases bb with
  | true =>
   go_wp2_with fail
   go_ret
   exact ⟨false,rfl,⟨(fun h=>by cases h),fun h=>by have:=HB.out.2 ⟨h.hi,h.right⟩;cases this⟩,F1.out⟩
  | false =>
   have v0:wc.cell? ⟨w.heap.size,0,none⟩=some (.string low):=B1.out.cell' rfl
   have v1:wc.cell? ⟨w.heap.size,1,none⟩=some (.string high):=B1.out.cell' rfl
   have v2:wc.cell? ⟨w.heap.size,2,none⟩=some (.bool unb):=B1.out.cell' rfl
   go_wp2_with fail
   refine (take_ok L A c low high unb wc H1.out HO.out HS.out.1 HS.out.2).mono ?_
   rintro e w2 ⟨A',c',rfl,hown,hf2⟩
   have F2:=hid_ (F1.out.then_none hf2)
   have hle:=inR_le low high unb L
   obtain ⟨n,hn⟩:∃ n,n=(inR low high unb L).length:=⟨_,rfl⟩
   rw [← hn]
   rw [← hn] at hle
   have HN:=hid_ hn
   clear hown hf2 hn v0 v1 v2
   by_cases he:n=L.length
   ·have e1:((n:Int)==(L.length:Int))=true:=beq_iff_eq.2 (by omega)
    have HE:=hid_ he
    clear he
    go_wp2_with fail
    go_ret
    exact ⟨true,rfl,⟨fun _=>⟨(HB.out.1 (by simp)).1,(HB.out.1 (by simp)).2,inR_all.1 (HN.out.symm.trans HE.out)⟩,fun _=>rfl⟩,F2.out⟩
   ·have e1:((n:Int)==(L.length:Int))=false:=beq_eq_false_iff_ne.2 (by omega)
    have HE:=hid_ he
    clear he
    go_wp2_with fail
    go_ret
    exact ⟨false,rfl,⟨(fun h=>by cases h),fun h=>absurd (HN.out.trans (inR_all.2 h.inn)) HE.out⟩,F2.out⟩
end Go.Proofs.YthpkbppaaagaoaaGreat
