/- Texts of one proof, merged: SimT10, Pm12, Ins, Ins2, Ins3, FwdA, FwdB, Step12. -/
import Derived.BigQuiet
import Derived.Test.YthcpccddcgbanaaGreatDoorPiG
import Derived.Test.YthcpccddcgbanaaGreatDoorPiI
import Derived.Test.YthcpccddcgbanaaGreatDoorPiN
namespace Go.Proofs.YthcpccddcgbanaaGreatDoor
set_option maxRecDepth 100000
set_option linter.unusedVariables false
open Go.RowKit
def freeP (ps:List Pg):Option Nat:=ps.findIdx? fun p=>!p.1
def takeP (ps:List Pg):Int × Int × List Pg:=match freeP ps with
  | some i=>(i,0,ps.set i (true,0,0))
  | none=>(0,3,ps)
def whyP (ps:List Pg) (n:Int):Int:=if n < 0∨(ps.length:Int)≤n then 1 else match ps[n.toNat]? with
  | some (true,_,_)=>0
  | _=>6
def headP (ps:List Pg) (n:Int):Int × Int:=if whyP ps n=0 then (ps[n.toNat]?.getD (false,0,0)).2 else (0,0)
def giveP (ps:List Pg) (n:Int):List Pg:=if whyP ps n=0 then ps.set n.toNat (false,0,0) else ps
def swapB (ps:List Pg) (n a b:Int):Bool:=whyP ps n==0 && (headP ps n).1==a && (headP ps n).2==b
def swapP (ps:List Pg) (n a b c d:Int):List Pg:=if swapB ps n a b=true then ps.set n.toNat (true,c,d) else ps

theorem freeP_some {ps:List Pg} {i:Nat} (h:freeP ps=some i):(∃ s g,ps[i]?=some (false,s,g))∧∀ (j:Nat) (p:Pg),j < i→ps[j]?=some p→p.1=true:=by
  obtain ⟨hlt,hp,hb⟩:=List.findIdx?_eq_some_iff_getElem.1 h
  refine ⟨⟨ps[i].2.1,ps[i].2.2,?_⟩,fun j p hj hpj=>?_⟩
  · rw [List.getElem?_eq_getElem hlt]
    have:ps[i].1=false:=by simpa using hp
    rw [← this]
  · have:=hb j hj
    rw [List.getElem?_eq_getElem (by omega)] at hpj
    obtain rfl:=Option.some.inj hpj
    simpa using this
theorem freeP_none {ps:List Pg} (h:freeP ps=none):∀ (j:Nat) (p:Pg),ps[j]?=some p→p.1=true:=by
  intro j p hj
  have:=List.findIdx?_eq_none_iff.1 h p (List.mem_of_getElem? hj)
  simpa using this
theorem whyP_zero {ps:List Pg} {n:Int} (h:whyP ps n=0):∃ (i:Nat) (s g:Int),n=i∧ps[i]?=some (true,s,g):=by
  unfold whyP at h
  split at h
  · cases h
  · split at h
    · rename_i hn s g hp
      exact ⟨n.toNat,s,g,by omega,hp⟩
    · cases h
theorem whyP_of {ps:List Pg} {i:Nat} {s g:Int} (h:ps[i]?=some (true,s,g)):whyP ps i=0:=by
  have:=(List.getElem?_eq_some_iff.1 h).1
  unfold whyP
  rw [if_neg (by omega),Int.toNat_natCast,h]
theorem headP_of {ps:List Pg} {i:Nat} {s g:Int} (h:ps[i]?=some (true,s,g)):headP ps i=(s,g):=by
  unfold headP
  rw [if_pos (whyP_of h),Int.toNat_natCast,h]
  rfl
theorem giveP_len (ps:List Pg) (n:Int):(giveP ps n).length=ps.length:=by unfold giveP;split <;> simp
theorem swapP_len (ps:List Pg) (n a b c d:Int):(swapP ps n a b c d).length=ps.length:=by unfold swapP;split <;> simp
theorem takeP_len (ps:List Pg):(takeP ps).2.2.length=ps.length:=by unfold takeP;split <;> simp

structure Sim (ps:List Pg) (L:List Rp):Prop where
  len:ps.length≤256
  cnt:L.length=ps.countP (·.1)
  uniq:(L.map (·.1)).Nodup
  mem:∀ (i:Nat) (s g:Int),ps[i]?=some (true,s,g) ↔ ((i:Int),s,g) ∈ L
  rng:∀ p ∈ L,∃ i:Nat,p.1=i∧i < ps.length
theorem Sim.short {ps:List Pg} {L:List Rp} (h:Sim ps L):L.length≤1000:=by
  have:=List.countP_le_length (p:=fun x:Pg=>x.1) (l:=ps)
  have:=h.cnt
  have:=h.len
  omega
theorem uniq_at {L:List Rp} (h:(L.map (·.1)).Nodup) {j k:Nat} {p q:Rp} (hj:L[j]?=some p) (hk:L[k]?=some q) (e:p.1=q.1):j=k:=by
  have hj':(L.map (·.1))[j]?=some p.1:=by simp [hj]
  have hk':(L.map (·.1))[k]?=some q.1:=by simp [hk]
  have hjl:=(List.getElem?_eq_some_iff.1 hj').1
  refine (List.getElem?_inj hjl h).1 ?_
  rw [hj',hk',e]
theorem find_mem {L:List Rp} (h:(L.map (·.1)).Nodup) {n s g:Int} (hm:(n,s,g) ∈ L):∃ j:Nat,findL L n=j∧L[j]?=some (n,s,g):=by
  obtain ⟨j,hj,he⟩:=List.mem_iff_getElem.1 hm
  have hj':L[j]?=some (n,s,g):=by rw [List.getElem?_eq_getElem hj,he]
  exact ⟨j,findL_at L n j _ hj' rfl (fun k q hk hq e=>by have:=uniq_at h hq hj' e;omega),hj'⟩
theorem Sim.used {ps:List Pg} {L:List Rp} (h:Sim ps L) {i:Nat} {s g:Int} (hi:ps[i]?=some (true,s,g)):∃ j:Nat,findL L i=j∧L[j]?=some ((i:Int),s,g):=find_mem h.uniq ((h.mem i s g).1 hi)
theorem Sim.unused {ps:List Pg} {L:List Rp} (h:Sim ps L) {i:Nat} {s g:Int} (hi:ps[i]?=some (false,s,g)):findL L i=-1:=
  findL_no L i (fun p hp e=>by
    have:=(h.mem i p.2.1 p.2.2).2 (by rw [← e];exact hp)
    rw [hi] at this
    cases this)
theorem Sim.why {ps:List Pg} {L:List Rp} (h:Sim ps L) (n:Int):whyL ps.length L n=whyP ps n:=by
  unfold whyL whyP
  split
  · rfl
  · rename_i hn
    have hlt:n.toNat < ps.length:=by omega
    obtain ⟨b,s,g,hp⟩:∃ b s g,ps[n.toNat]?=some (b,s,g):=⟨_,_,_,List.getElem?_eq_getElem hlt⟩
    have en:((n.toNat:Nat):Int)=n:=by omega
    rw [hp]
    cases b with
    | true =>
      obtain ⟨j,hj,_⟩:=h.used hp
      rw [en] at hj
      rw [hj,if_neg (by omega)]
    | false =>
      have:=h.unused hp
      rw [en] at this
      rw [this,if_pos rfl]
theorem Sim.init (n:Nat) (h:n≤256):Sim (List.replicate n (false,0,0)) []:=by
  refine ⟨by simpa using h,by simp [List.countP_replicate],by simp,fun i s g=>?_,fun p hp=>by cases hp⟩
  constructor
  · intro hi
    rw [List.getElem?_replicate] at hi
    split at hi <;> simp at hi
  · intro hm;cases hm
theorem count_set (ps:List Pg) (i:Nat) (p q:Pg) (hi:ps[i]?=some p):(ps.set i q).countP (·.1)+(if p.1=true then 1 else 0)=ps.countP (·.1)+(if q.1=true then 1 else 0):=by
  obtain ⟨hlt,rfl⟩:=List.getElem?_eq_some_iff.1 hi
  rw [List.countP_set (h:=hlt)]
  have:(if ps[i].1=true then 1 else 0)≤ps.countP (·.1):=by
    split
    · rename_i hb
      exact List.countP_pos_iff.2 ⟨ps[i],List.getElem_mem hlt,hb⟩
    · omega
  omega

theorem Sim.take_ {ps:List Pg} {L:List Rp} (h:Sim ps L) {i:Nat} {s g:Int} (hi:ps[i]?=some (false,s,g)):Sim (ps.set i (true,0,0)) (L ++ [((i:Int),0,0)]):=by
  have hlt:=(List.getElem?_eq_some_iff.1 hi).1
  have hno:∀ p ∈ L,p.1≠(i:Int):=fun p hp e=>by
    have:=(h.mem i p.2.1 p.2.2).2 (by rw [← e];exact hp)
    rw [hi] at this
    cases this
  refine ⟨by simpa using h.len,?_,?_,fun j s' g'=>?_,fun p hp=>?_⟩
  · have:=count_set ps i _ (true,0,0) hi
    have:=h.cnt
    simp at *
    omega
  · rw [List.map_append,List.nodup_append]
    refine ⟨h.uniq,by simp,fun a ha b hb=>?_⟩
    obtain ⟨p,hp,rfl⟩:=List.mem_map.1 ha
    obtain rfl:b=(i:Int):=by simpa using hb
    exact hno p hp
  · by_cases hj:j=i
    · subst hj
      rw [List.getElem?_set_self hlt]
      constructor
      · intro e
        simp at e
        obtain ⟨rfl,rfl⟩:=e
        simp
      · intro hm
        rcases List.mem_append.1 hm with hm | hm
        · exact absurd rfl (hno _ hm)
        · simp at hm
          obtain ⟨rfl,rfl⟩:=hm
          rfl
    · rw [List.getElem?_set_ne (fun e=>hj e.symm),h.mem]
      simp
      omega
  · rcases List.mem_append.1 hp with hp | hp
    · simpa using h.rng p hp
    · obtain rfl:p=((i:Int),0,0):=by simpa using hp
      exact ⟨i,rfl,by simpa using hlt⟩

theorem Sim.give_ {ps:List Pg} {L:List Rp} (h:Sim ps L) {i j:Nat} {s g:Int} (hi:ps[i]?=some (true,s,g)) (hj:L[j]?=some ((i:Int),s,g)):Sim (ps.set i (false,0,0)) (L.eraseIdx j):=by
  have hlt:=(List.getElem?_eq_some_iff.1 hi).1
  have hjl:=(List.getElem?_eq_some_iff.1 hj).1
  refine ⟨by simpa using h.len,?_,?_,fun k s' g'=>?_,fun p hp=>?_⟩
  · have:=count_set ps i _ (false,0,0) hi
    have:=h.cnt
    rw [List.length_eraseIdx,if_pos hjl]
    simp at *
    omega
  · exact h.uniq.sublist ((List.eraseIdx_sublist L j).map _)
  · rw [List.mem_eraseIdx_iff_getElem?]
    by_cases hk:k=i
    · subst hk
      rw [List.getElem?_set_self hlt]
      constructor
      · intro e;simp at e
      · rintro ⟨m,hm,hx⟩
        exact absurd (uniq_at h.uniq hx hj rfl) hm
    · rw [List.getElem?_set_ne (fun e=>hk e.symm),h.mem]
      constructor
      · intro hm
        obtain ⟨m,hx⟩:=List.mem_iff_getElem?.1 hm
        refine ⟨m,fun e=>?_,hx⟩
        subst e
        rw [hj] at hx
        simp at hx
        omega
      · rintro ⟨m,_,hx⟩
        exact List.mem_of_getElem? hx
  · simpa using h.rng p (List.mem_of_mem_eraseIdx hp)

theorem Sim.swap_ {ps:List Pg} {L:List Rp} (h:Sim ps L) {i j:Nat} {s g:Int} (hi:ps[i]?=some (true,s,g)) (hj:L[j]?=some ((i:Int),s,g)) (c d:Int):Sim (ps.set i (true,c,d)) (L.set j ((i:Int),c,d)):=by
  have hlt:=(List.getElem?_eq_some_iff.1 hi).1
  have hjl:=(List.getElem?_eq_some_iff.1 hj).1
  have hmap:(L.set j ((i:Int),c,d)).map (·.1)=L.map (·.1):=by
    apply List.ext_getElem?
    intro m
    rw [List.getElem?_map,List.getElem?_map]
    by_cases hm:m=j
    · subst hm
      rw [List.getElem?_set_self hjl,hj];rfl
    · rw [List.getElem?_set_ne (fun e=>hm e.symm)]
  refine ⟨by simpa using h.len,?_,by rw [hmap];exact h.uniq,fun k s' g'=>?_,fun p hp=>?_⟩
  · have:=count_set ps i _ (true,c,d) hi
    have:=h.cnt
    simp at *
    omega
  · rw [List.mem_iff_getElem?]
    by_cases hk:k=i
    · subst hk
      rw [List.getElem?_set_self hlt]
      constructor
      · intro e
        simp at e
        obtain ⟨rfl,rfl⟩:=e
        exact ⟨j,List.getElem?_set_self hjl⟩
      · rintro ⟨m,hx⟩
        by_cases hm:m=j
        · subst hm
          rw [List.getElem?_set_self hjl] at hx
          simp at hx
          obtain ⟨rfl,rfl⟩:=hx
          rfl
        · rw [List.getElem?_set_ne (fun e=>hm e.symm)] at hx
          exact absurd (uniq_at h.uniq hx hj rfl) hm
    · rw [List.getElem?_set_ne (fun e=>hk e.symm),h.mem,List.mem_iff_getElem?]
      constructor
      · rintro ⟨m,hx⟩
        refine ⟨m,?_⟩
        rw [List.getElem?_set_ne (fun e=>?_)]
        · exact hx
        · subst e
          rw [hj] at hx
          simp at hx
          omega
      · rintro ⟨m,hx⟩
        refine ⟨m,?_⟩
        by_cases hm:m=j
        · subst hm
          rw [List.getElem?_set_self hjl] at hx
          simp at hx
          omega
        · rw [List.getElem?_set_ne (fun e=>hm e.symm)] at hx
          exact hx
  · rcases List.mem_or_eq_of_mem_set hp with hp | rfl
    · simpa using h.rng p hp
    · exact ⟨i,rfl,by simpa using hlt⟩

theorem used_same (ps:List Pg) (L:List Rp) (hs:Sim ps L):rusedTo L ps.length=usedTo ps ps.length:=by
  unfold rusedTo usedTo
  refine List.filter_congr fun i hi=>?_
  have hlt:i < ps.length:=List.mem_range.1 hi
  obtain ⟨b,s,g,hp⟩:∃ b s g,ps[i]?=some (b,s,g):=⟨_,_,_,List.getElem?_eq_getElem hlt⟩
  rw [hp]
  cases b with
  | true =>
    obtain ⟨j,hj,_⟩:=hs.used hp
    simp [hj]
  | false=>simp [hs.unused hp]

def RStep (w:World) (n:Nat) (res:Value→Value) (ps':List Pg) (e:Ending) (w':World):Prop:=
  ∃ A c L',e=.returned (res (rtab n (.slice A L'.length c)))∧ROwn w' (.slice A L'.length c) L'∧Sim ps' L'∧Fr none_ w w'

section
variable (ps:List Pg) (A:Option Addr) (c:Nat) (L:List Rp) (w:World)

theorem rtake_any (h:ROwn w (.slice A L.length c) L) (hs:Sim ps L):Calls Tryz.prog 35 #[rtab ps.length (.slice A L.length c)] w
    (RStep w ps.length (fun t=>.tuple #[t,.int .i64 (takeP ps).1,.int .i64 (takeP ps).2.1]) (takeP ps).2.2):=by
  cases hf:freeP ps with
  | none =>
    have e1:takeP ps=(0,3,ps):=by unfold takeP;rw [hf]
    rw [e1]
    refine (rtake_full ps.length A c L w h hs.short (by have:=hs.len;omega) (fun j hj=>?_)).mono fun _ _ ⟨he,hw⟩=>⟨A,c,L,he,own_none h hw,hs,hw⟩
    obtain ⟨p,hp⟩:∃ p,ps[j]?=some p:=⟨_,List.getElem?_eq_getElem hj⟩
    have hu:=freeP_none hf j p hp
    obtain ⟨b,s,g⟩:=p
    obtain rfl:b=true:=hu
    obtain ⟨k,hk,_⟩:=hs.used hp
    omega
  | some i =>
    have e1:takeP ps=((i:Int),0,ps.set i (true,0,0)):=by unfold takeP;rw [hf]
    obtain ⟨⟨s,g,hi⟩,hb⟩:=freeP_some hf
    have hlt:=(List.getElem?_eq_some_iff.1 hi).1
    rw [e1]
    refine (rtake_ok ps.length i A c L w h hs.short (by have:=hs.len;omega) hlt (hs.unused hi) (fun j hj=>?_)).mono fun _ _ ⟨A',c',he,ho,hf⟩=>⟨A',c',_,he,ho,hs.take_ hi,hf⟩
    obtain ⟨p,hp⟩:∃ p,ps[j]?=some p:=⟨_,List.getElem?_eq_getElem (by omega)⟩
    have hu:=hb j p hj hp
    obtain ⟨b,s',g'⟩:=p
    obtain rfl:b=true:=hu
    obtain ⟨k,hk,_⟩:=hs.used hp
    omega

theorem rgive_any (h:ROwn w (.slice A L.length c) L) (hs:Sim ps L) (n:Int):Calls Tryz.prog 44 #[rtab ps.length (.slice A L.length c),.int .i64 n] w
    (RStep w ps.length (fun t=>.tuple #[t,.int .i64 (whyP ps n)]) (giveP ps n)):=by
  by_cases hk:whyP ps n=0
  · obtain ⟨i,s,g,rfl,hi⟩:=whyP_zero hk
    have e1:giveP ps i=ps.set i (false,0,0):=by unfold giveP;rw [if_pos hk,Int.toNat_natCast]
    have hlt:=(List.getElem?_eq_some_iff.1 hi).1
    obtain ⟨j,hj,hjl⟩:=hs.used hi
    rw [hk,e1]
    exact (rgive_ok ps.length i A c L w h hs.short (by omega) (by omega) j hj).mono fun _ _ ⟨A',c',he,ho,hf⟩=>⟨A',c',_,he,ho,hs.give_ hi hjl,hf⟩
  · have e1:giveP ps n=ps:=by unfold giveP;rw [if_neg hk]
    rw [e1]
    exact (rgive_err ps.length n A c L w h hs.short _ (hs.why n) hk).mono fun _ _ ⟨he,hw⟩=>⟨A,c,L,he,own_none h hw,hs,hw⟩

theorem rswap_any (h:ROwn w (.slice A L.length c) L) (hs:Sim ps L) (n a b x y:Int):Calls Tryz.prog 36 #[rtab ps.length (.slice A L.length c),.int .i64 n,.agg #[.int .i64 a,.int .i64 b],.agg #[.int .i64 x,.int .i64 y]] w
    (RStep w ps.length (fun t=>.tuple #[t,.bool (swapB ps n a b),.int .i64 (whyP ps n)]) (swapP ps n a b x y)):=by
  by_cases hk:whyP ps n=0
  · obtain ⟨i,s,g,rfl,hi⟩:=whyP_zero hk
    have hlt:=(List.getElem?_eq_some_iff.1 hi).1
    obtain ⟨j,hj,hjl⟩:=hs.used hi
    have eb:swapB ps i a b=(s==a && g==b):=by unfold swapB;rw [hk,headP_of hi];simp
    by_cases hc:s=a∧g=b
    · obtain ⟨rfl,rfl⟩:=hc
      have eb2:swapB ps i s g=true:=by rw [eb];simp
      have ep:swapP ps i s g x y=ps.set i (true,x,y):=by unfold swapP;rw [eb2,Int.toNat_natCast];simp
      rw [hk,eb2,ep]
      exact (rswap_yes ps.length i A c L s g x y w h hs.short (by omega) (by omega) j i hj hjl).mono fun _ _ ⟨A',c',he,ho,hf⟩=>⟨A',c',_,he,ho,hs.swap_ hi hjl x y,hf.1⟩
    · have eb2:swapB ps i a b=false:=by rw [eb];simpa using hc
      have ep:swapP ps i a b x y=ps:=by unfold swapP;rw [eb2];simp
      rw [hk,eb2,ep]
      exact (rswap_no ps.length i A c L a b x y w h hs.short (by omega) (by omega) j i s g hj hjl hc).mono fun _ _ ⟨he,hw⟩=>⟨A,c,L,he,own_none h hw,hs,hw⟩
  · have eb:swapB ps n a b=false:=by unfold swapB;simp [hk]
    have ep:swapP ps n a b x y=ps:=by unfold swapP;rw [eb];simp
    rw [eb,ep]
    exact (rswap_err ps.length n A c L a b x y w h hs.short _ (hs.why n) hk).mono fun _ _ ⟨he,hw⟩=>⟨A,c,L,he,own_none h hw,hs,hw⟩

theorem rpages_any (h:ROwn w (.slice A L.length c) L) (hs:Sim ps L):Calls Tryz.prog 49 #[rtab ps.length (.slice A L.length c)] w (PagesPost ps w):=by
  refine (rpages ps.length A c L w h hs.short (by have:=hs.len;omega)).mono fun e w' ⟨A',c',he,ho,hf⟩=>?_
  have:=used_same ps L hs
  rw [this] at he ho
  exact ⟨A',c',he,ho,hf⟩
end
open Go.RowKit

theorem whyP_pgC (ps:List Pg) (n:Int):whyP ps n=pgC ps n:=by
  unfold whyP pgC
  split
  · rfl
  · rename_i h
    obtain ⟨q,hq⟩:∃ q,ps[n.toNat]?=some q:=⟨_,List.getElem?_eq_getElem (by omega)⟩
    obtain ⟨u,s,g⟩:=q
    rw [hq]
    cases u <;> rfl
theorem takeR_eq {ps:List Pg} {p c:Int} {ps':List Pg} (h:TakeR ps p c ps'):takeP ps=(p,c,ps'):=by
  unfold takeP
  rcases h with ⟨i,s,g,h1,h2,rfl,rfl,rfl⟩ | ⟨h1,rfl,rfl,rfl⟩
  · cases hf:freeP ps with
    | none=>exact absurd (freeP_none hf i _ h1) (by simp)
    | some k =>
      obtain ⟨⟨s',g',k1⟩,k2⟩:=freeP_some hf
      obtain rfl:k=i:=by
        rcases Nat.lt_trichotomy k i with e | e | e
        · exact absurd (h2 k _ e k1) (by simp)
        · exact e
        · exact absurd (k2 i _ e h1) (by simp)
      rfl
  · cases hf:freeP ps' with
    | none=>rfl
    | some k =>
      obtain ⟨⟨s',g',k1⟩,_⟩:=freeP_some hf
      exact absurd (h1 k _ k1) (by simp)
theorem giveR_eq {ps:List Pg} {n k:Int} {ps':List Pg} (h:GiveR ps n k ps'):whyP ps n=k∧giveP ps n=ps':=by
  unfold giveP
  rcases h with ⟨i,s,g,rfl,h1,rfl,rfl⟩ | ⟨h1,rfl,rfl⟩
  · rw [whyP_of h1]
    exact ⟨rfl,by simp⟩
  · rw [whyP_pgC,if_neg h1]
    exact ⟨rfl,rfl⟩
theorem swapR_eq {ps:List Pg} {n a b c d:Int} {ok:Bool} {k:Int} {ps':List Pg} (h:SwapR ps n a b c d ok k ps'):whyP ps n=k∧swapB ps n a b=ok∧swapP ps n a b c d=ps':=by
  unfold swapP swapB
  rcases h with ⟨i,s,g,rfl,h1,rfl,rfl,rfl⟩ | ⟨h1,rfl,rfl,rfl⟩
  · rw [whyP_of h1,headP_of h1]
    unfold swapPs
    by_cases e:s=a∧g=b
    · obtain ⟨rfl,rfl⟩:=e
      simp
    · rw [if_neg e]
      have:(s==a && g==b)=false:=by
        rw [Bool.and_eq_false_iff]
        by_cases e1:s=a
        · exact .inr (by simpa using fun e2=>e ⟨e1,e2⟩)
        · exact .inl (by simpa using e1)
      simp [this]
  · rw [whyP_pgC]
    have:(pgC ps' n==0)=false:=by simpa using h1
    rw [this]
    exact ⟨rfl,rfl,by simp⟩
structure Dm (slots last:Int) (ss:List Sl) (ps:List Pg) (LP:List RaP) (L:List Rp):Prop where
  sim:SimA ss LP
  ns:(ss.length:Int)=slots
  gen:∀ s ∈ ss,0≤s.gen∧s.gen≤last
  xg:∀ p ∈ LP,0≤p.xg
  tb:Sim ps L
section
variable {slots last:Int} {ss:List Sl} {ps:List Pg} {LP:List RaP} {L:List Rp}
theorem Dm.slot (h:Dm slots last ss ps LP L) {i:Nat} {s:Sl} (hs:ss[i]?=some s):slotP LP (i+1:Nat)=(s.gen,s.used):=h.sim.slot i s hs
theorem Dm.gen0 (h:Dm slots last ss ps LP L) (n:Nat):0≤(slotP LP n).1:=by
  rcases slotTo_spec LP (n:Int) LP.length with ⟨h1,_⟩ | ⟨j,p,a1,a2,a3,a4,a5⟩
  · rw [slotP,h1];decide
  · rw [slotP,a4];exact h.xg p (List.mem_of_getElem? a2)
theorem Dm.first (h:Dm slots last ss ps LP L) {i:Nat} {s:Sl} (hs:ss[i]?=some s) (hu:s.used=false∧s.gen≠last) (hm:∀ j t,j < i→ss[j]?=some t→t.used=true∨t.gen=last)
    {k:Nat} (hk:(k:Int)+1≤slots) (hno:NoSlot last LP k) (k1:(slotP LP (k+1:Nat)).2=false) (k2:(slotP LP (k+1:Nat)).1 < last):k=i:=by
  rcases Nat.lt_trichotomy k i with hl | rfl | hl
  · have hkl:k < ss.length:=by have:=h.ns;omega
    obtain ⟨t,ht⟩:∃ t,ss[k]?=some t:=⟨_,List.getElem?_eq_getElem hkl⟩
    rw [h.slot ht] at k1 k2
    rcases hm k t hl ht with e | e
    · rw [show t.used=true from e] at k1;cases k1
    · have k2':t.gen < last:=k2
      omega
  · rfl
  · have:=hno (i+1) (by omega) (by omega)
    rw [h.slot hs] at this
    have hg:=h.gen s (List.mem_of_getElem? hs)
    rcases this with e | e
    · rw [show s.used=true from e] at hu;cases hu.1
    · have e':last≤s.gen:=e
      exact absurd (show s.gen=last by omega) hu.2
theorem Dm.nope (h:Dm slots last ss ps LP L) (hm:∀ (j:Nat) t,ss[j]?=some t→t.used=true∨t.gen=last) {k:Nat} (hk:(k:Int)+1≤slots) (k1:(slotP LP (k+1:Nat)).2=false) (k2:(slotP LP (k+1:Nat)).1 < last):False:=by
  have hkl:k < ss.length:=by have:=h.ns;omega
  obtain ⟨t,ht⟩:∃ t,ss[k]?=some t:=⟨_,List.getElem?_eq_getElem hkl⟩
  rw [h.slot ht] at k1 k2
  rcases hm k t ht with e | e
  · rw [show t.used=true from e] at k1;cases k1
  · have k2':t.gen < last:=k2
    omega
theorem Dm.some_ (h:Dm slots last ss ps LP L) {i:Nat} {s:Sl} (hs:ss[i]?=some s) (hu:s.used=false∧s.gen≠last) (hno:NoSlot last LP slots.toNat):False:=by
  have hi:=(List.getElem?_eq_some_iff.1 hs).1
  have:=hno (i+1) (by omega) (by have:=h.ns;omega)
  rw [h.slot hs] at this
  have hg:=h.gen s (List.mem_of_getElem? hs)
  rcases this with e | e
  · rw [show s.used=true from e] at hu;cases hu.1
  · have e':last≤s.gen:=e
    exact absurd (show s.gen=last by omega) hu.2
theorem Dm.why (h:Dm slots last ss ps LP L):∀ k,k≤ss.length→whyTo LP k=allocErr (ss.take k)
  | 0,_=>rfl
  | k+1,hk=>by
    have ih:=Dm.why h k (by omega)
    obtain ⟨s,hs⟩:∃ s,ss[k]?=some s:=⟨_,List.getElem?_eq_getElem (by omega)⟩
    have e:=h.sim.slot k s hs
    cases hu:s.used with
    | true=>rw [allocErr_used hs hu,whyTo,e,hu];exact ih
    | false=>rw [allocErr_worn hs hu,whyTo,e,hu];rfl
def NewA (A A2:Option Addr) (w:World):Prop:=A2=A∨∀ ad,A2=some ad→w.heap.size≤ad.block
theorem Dm.alloc (h:Dm slots last ss ps LP L) {w w':World} {e:Ending} {R:Rc} {sl gn k:Int} {ss':List Sl} {A A' B':Option Addr} {c ca cb:Nat} (hx:AllocR last ss R sl gn k ss') (hp:RAllocPost slots last LP R A c A' ca B' cb w e w') :
    ∃ LP' A2 c2,e=.returned (.tuple #[raV slots last LP' A2 c2,.agg #[.int .i64 sl,.int .i64 gn],.int .i64 k])∧RaIn w' LP' A2 c2∧Dm slots last ss' ps LP' L∧LP'.length≤LP.length+1∧((A2=A∧LP'.length=LP.length)∨∀ ad,A2=some ad→w.heap.size≤ad.block)∧(∀ q ∈ LP',q ∈ LP∨(q.R=R∧q.A=A'∧q.B=B'))∧Fr none_ w w':=by
  rcases hp with ⟨i2,A2,c2,b1,b2,b3,b4,rfl,b6,b7,b8⟩ | ⟨b1,rfl,b3,b4⟩
  · rcases hx with ⟨i,s,vr,ve,x1,x2,x3,rfl,rfl,rfl,rfl⟩ | ⟨x1,rfl,rfl,rfl,rfl⟩
    · obtain rfl:=h.first x1 x2 x3 b1 b2 b3 b4
      have e2:(slotP LP ((i2+1:Nat):Int)).1=s.gen:=by
        have:=h.slot x1
        rw [this]
      rw [e2] at b6
      have hg:=h.gen s (List.mem_of_getElem? x1)
      refine ⟨_,A2,c2,by rw [e2],b6,⟨h.sim.put x1 x2.1 rfl rfl rfl rfl rfl,by rw [List.length_set];exact h.ns,fun t ht=>?_,fun p hp=>?_,h.tb⟩,by simp,.inr b7,fun q hq=>?_,b8⟩
      · rcases List.mem_or_eq_of_mem_set ht with ht | rfl
        · exact h.gen t ht
        · show 0≤s.gen+1∧s.gen+1≤last
          have:=x2.2
          omega
      · rcases List.mem_append.1 hp with hp | hp
        · exact h.xg p hp
        · obtain rfl:=List.mem_singleton.1 hp
          show 0≤s.gen+1
          omega
      · rcases List.mem_append.1 hq with hq | hq
        · exact .inl hq
        · obtain rfl:=List.mem_singleton.1 hq
          exact .inr ⟨rfl,rfl,rfl⟩
    · exact (h.nope x1 b1 b3 b4).elim
  · rcases hx with ⟨i,s,vr,ve,x1,x2,x3,rfl,rfl,rfl,rfl⟩ | ⟨x1,rfl,rfl,rfl,rfl⟩
    · exact (h.some_ x1 x2 b1).elim
    · have hns:=h.ns
      have e1:whyTo LP slots.toNat=allocErr ss':=by
        have:=h.why ss'.length (Nat.le_refl _)
        rw [List.take_length] at this
        rw [← this,show slots.toNat=ss'.length by omega]
      exact ⟨LP,A,c,by rw [e1],b3,h,Nat.le_succ _,.inl ⟨rfl,rfl⟩,fun q hq=>.inl hq,b4⟩
theorem Dm.free (h:Dm slots last ss ps LP L) {w w':World} {e:Ending} {s g k:Int} {ss':List Sl} {A:Option Addr} (hx:FreeR ss s g k ss') (hp:RFreePost slots last LP s g A w e w') :
    ∃ LP' A2 c2,e=.returned (.tuple #[raV slots last LP' A2 c2,.int .i64 k])∧RaIn w' LP' A2 c2∧Dm slots last ss' ps LP' L∧LP'.length=LP.length∧NewA A A2 w∧(∀ q ∈ LP',∃ q' ∈ LP,q.R=q'.R∧q.A=q'.A∧q.B=q'.B)∧Fr none_ w w':=by
  obtain ⟨LP',A2,c2,k2,h1,rfl,h3,h4,h5⟩:=hp
  have hns:=h.ns
  have same:∀ q ∈ LP,∃ q' ∈ LP,q.R=q'.R∧q.A=q'.A∧q.B=q'.B:=fun q hq=>⟨q,hq,rfl,rfl,rfl⟩
  rcases hx with ⟨i,y,rfl,x1,x2,rfl,rfl,rfl⟩ | ⟨x1,rfl,rfl⟩
  · have hi:=(List.getElem?_eq_some_iff.1 x1).1
    obtain ⟨j0,p0,a1,a2,a3,a4,_⟩:=h.sim.find x1 x2
    rcases h1 with ⟨e1,_⟩ | ⟨_,e1,_⟩ | ⟨_,j,p,e1,e2,e3,e4,e5,rfl,rfl⟩
    · exact absurd ⟨by omega,by omega⟩ e1
    · exact absurd ⟨a2,a3,a4⟩ (e1 j0 p0 a1)
    · refine ⟨_,A2,c2,rfl,h3,⟨h.sim.free x1 e2 e3 e5 rfl rfl,by rw [List.length_set];exact hns,fun t ht=>?_,fun q hq=>?_,h.tb⟩,by simp,h4,fun q hq=>?_,h5⟩
      · rcases List.mem_or_eq_of_mem_set ht with ht | rfl
        · exact h.gen t ht
        · exact h.gen y (List.mem_of_getElem? x1)
      · rcases List.mem_or_eq_of_mem_set hq with hq | rfl
        · exact h.xg q hq
        · exact h.xg p (List.mem_of_getElem? e2)
      · rcases List.mem_or_eq_of_mem_set hq with hq | rfl
        · exact same q hq
        · exact ⟨p,List.mem_of_getElem? e2,rfl,rfl,rfl⟩
  · rcases atC_cases ss' s g with ⟨c1,c2'⟩ | ⟨i,y,rfl,c2',⟨c3,c4⟩ | ⟨c3,_⟩⟩
    · rcases h1 with ⟨_,rfl,rfl⟩ | ⟨e1,_⟩ | ⟨e1,_⟩
      · exact ⟨_,A2,c2,by rw [c1],h3,h,rfl,h4,same,h5⟩
      · exact absurd e1 (by omega)
      · exact absurd e1 (by omega)
    · have hi:=(List.getElem?_eq_some_iff.1 c2').1
      rcases h1 with ⟨e1,_⟩ | ⟨_,_,rfl,rfl⟩ | ⟨_,j,p,_,e2,e3,e4,e5,_⟩
      · exact absurd ⟨by omega,by omega⟩ e1
      · exact ⟨_,A2,c2,by rw [c3],h3,h,rfl,h4,same,h5⟩
      · exact absurd ⟨e3,e4,e5⟩ (h.sim.stale c2' c4 j p e2)
    · exact absurd c3 x1
end
open Go.RowKit

structure Dt where
  page:Int
  os:Int
  og:Int
  news:Int
  stage:Int
  pages:List Int
  bases:List Rc
  head:Rc
  refs:List (Int × Int)
  at_:Int
  done:Bool
  err:Int
structure Ia where
  mv:Value
  pv:Value
  bv:Value
  rv:Value
  Cs:List Cr
  hvr:Value
  hve:Value
  ev:Value
abbrev inA (D:Dt) (a:Ia):Array Value:=#[.int .i64 D.page,.int .i64 D.os,.int .i64 D.og,.int .i64 D.news,a.mv,.int .i64 D.stage,a.pv,a.bv,.int .i64 D.head.kind,.string D.head.low,.string D.head.high,.bool D.head.unb,.int .i64 D.head.right,a.hvr,a.hve,.string D.head.key,.string D.head.val,.int .i64 D.head.page,.int .i64 D.head.hpage,.int .i64 D.head.hleft,.string D.head.hkey,.int .i64 D.head.nslot,.int .i64 D.head.ngen,a.rv,.int .i64 D.at_,.bool D.done,a.ev]
abbrev intF (l:List Int):List Value:=l.map fun n=>Value.int .i64 n
def Er (w:World) (v:Value) (c:Int):Prop:=v=errOf c∨∃ p s,Ev w v p s c
theorem Er.shape {w:World} {v:Value} {c:Int} (h:Er w v c):v=.nilIface∨∃ t x,v=.iface t x:=by
  rcases h with rfl | ⟨p,s,⟨_,rfl⟩ | ⟨_,b,rfl,_⟩⟩
  · unfold errOf;split
    · exact .inl rfl
    · exact .inr ⟨_,_,rfl⟩
  · exact .inl rfl
  · exact .inr ⟨_,_,rfl⟩
theorem Er.keep {w w':World} {v:Value} {c:Int} (h:Er w v c) (hf:Fr none_ w w'):Er w' v c:=by
  rcases h with h | ⟨p,s,h⟩
  · exact .inl h
  · exact .inr ⟨p,s,h.keep hf⟩
theorem Er.fr {w w':World} {v:Value} {c:Int} {S:Nat→Prop} (h:Er w v c) (hf:Fr S w w') (hS:∀ b cs,Blk w b 190 cs→¬ S b):Er w' v c:=by
  rcases h with h | ⟨p,s,h⟩
  · exact .inl h
  · exact .inr ⟨p,s,h.fr hf hS⟩
theorem Er.only {w w':World} {v:Value} {c:Int} {g:Nat} {t:TypeId} {cs:Array Value} (h:Er w v c) (hf:Fr (only g) w w') (hg:Blk w g t cs) (hne:190≠t):Er w' v c:=
  h.fr hf (fun b _ hb=>only_ne (Blk.ne_ hb hg hne))
theorem Ev.er {w:World} {v:Value} {p:ByteArray} {s c:Int} (h:Ev w v p s c):Er w v c:=.inr ⟨p,s,h⟩
def RowsOk (R:Rc):Prop:=R.rows.length≤1000∧R.ents.length≤1000
structure Inst (w:World) (B i:Nat) (D:Dt) (a:Ia):Prop where
  b:Blk w i 112 (inA D a)
  p:w.ownsRow B 3 1 a.pv D.pages.length (intF D.pages)
  bs:w.ownsRow B 55 15 a.bv a.Cs.length (crFlat a.Cs)
  cs:a.Cs.map (·.R)=D.bases
  bo:∀ C ∈ a.Cs,RecOwn w 0 C.R (.slice C.A C.R.rows.length C.c) (.slice C.B C.R.ents.length C.d)
  r:w.ownsRow B 48 2 a.rv D.refs.length (rf9Flat D.refs)
  h:RecOwn w 0 D.head a.hvr a.hve
  e:Er w a.ev D.err
  le:B≤i
  zb:∀ R ∈ D.bases,RowsOk R
  zh:RowsOk D.head
  zp:D.pages.length≤4∧D.bases.length≤4∧D.refs.length≤5
def foot (i:Nat) (a:Ia):Nat→Prop:=fun k=>k=i∨a.pv.ownBlock=some k∨a.bv.ownBlock=some k∨a.rv.ownBlock=some k
theorem own_blk {w:World} {base:Nat} {e:TypeId} {size n:Nat} {v:Value} {xs:List Value} (h:w.ownsRow base e size v n xs) {k:Nat} (hk:v.ownBlock=some k):base≤k∧∃ cs,Blk w k e cs:=by
  rcases h.2 with ⟨rfl,rfl⟩ | ⟨g,cap,cur,rfl,hb,hh,hc,hm,hs,ht⟩
  · simp [Value.ownBlock] at hk
  · obtain rfl:g=k:=by simpa [Value.ownBlock] using hk
    exact ⟨hb,cur,hh⟩
section
variable {w w':World} {B i:Nat} {D:Dt} {a:Ia} {S:Nat→Prop}
theorem Inst.foot_le (h:Inst w B i D a) {k:Nat} (hk:foot i a k):B≤k:=by
  rcases hk with rfl | hk | hk | hk
  · exact h.le
  · exact (own_blk h.p hk).1
  · exact (own_blk h.bs hk).1
  · exact (own_blk h.r hk).1
theorem Inst.foot_blk (h:Inst w B i D a) {k:Nat} (hk:foot i a k):∃ t cs,Blk w k t cs∧(t=112∨t=3∨t=55∨t=48):=by
  rcases hk with rfl | hk | hk | hk
  · exact ⟨_,_,h.b,.inl rfl⟩
  · obtain ⟨_,cs,hb⟩:=own_blk h.p hk
    exact ⟨_,cs,hb,.inr (.inl rfl)⟩
  · obtain ⟨_,cs,hb⟩:=own_blk h.bs hk
    exact ⟨_,cs,hb,.inr (.inr (.inl rfl))⟩
  · obtain ⟨_,cs,hb⟩:=own_blk h.r hk
    exact ⟨_,cs,hb,.inr (.inr (.inr rfl))⟩
theorem Inst.foot_lt (h:Inst w B i D a) {k:Nat} (hk:foot i a k):k < w.heap.size:=by
  obtain ⟨t,cs,hb,_⟩:=h.foot_blk hk
  exact hb.lt
theorem Inst.fr (h:Inst w B i D a) (hf:Fr S w w') (h1:∀ k,foot i a k→¬ S k) (h2:∀ k t cs,Blk w k t cs→(t=170∨t=172∨t=190)→¬ S k):Inst w' B i D a:=by
  have hrec:∀ R vr ve,RecOwn w 0 R vr ve→RecOwn w' 0 R vr ve:=fun R vr ve hR =>
    hR.fr hf (fun k hk=>by obtain ⟨_,cs,hb⟩:=own_blk hR.r hk;exact h2 k _ cs hb (.inl rfl)) (fun k hk=>by obtain ⟨_,cs,hb⟩:=own_blk hR.e hk;exact h2 k _ cs hb (.inr (.inl rfl)))
  exact ⟨h.b.fr hf (h1 i (.inl rfl)),own_fr h.p hf (fun k hk=>h1 k (.inr (.inl hk))),own_fr h.bs hf (fun k hk=>h1 k (.inr (.inr (.inl hk)))),h.cs,
    fun C hC=>hrec _ _ _ (h.bo C hC),own_fr h.r hf (fun k hk=>h1 k (.inr (.inr (.inr hk)))),hrec _ _ _ h.h,h.e.fr hf (fun b cs hb=>h2 b _ cs hb (.inr (.inr rfl))),h.le,h.zb,h.zh,h.zp⟩
theorem Inst.keep (h:Inst w B i D a) (hf:Fr none_ w w'):Inst w' B i D a:=h.fr hf (fun _ _=>id) (fun _ _ _ _ _=>id)
theorem Inst.beside (h:Inst w B i D a) {g:Nat} {t:TypeId} {cs:Array Value} (hf:Fr (only g) w w') (hg:Blk w g t cs) (hn:t≠112∧t≠3∧t≠55∧t≠170∧t≠172∧t≠190) (hr:t=48→a.rv.ownBlock≠some g):Inst w' B i D a:=by
  refine h.fr hf (fun k hk=>?_) (fun k t' cs' hb ht=>?_)
  · refine only_ne ?_
    rintro rfl
    obtain ⟨t',cs',hb,ht⟩:=h.foot_blk hk
    obtain ⟨rfl,_⟩:=hb.uniq hg
    rcases ht with rfl | rfl | rfl | rfl
    · exact hn.1 rfl
    · exact hn.2.1 rfl
    · exact hn.2.2.1 rfl
    · rcases hk with rfl | hk | hk | hk
      · exact absurd (h.b.uniq hg).1 (by decide)
      · obtain ⟨_,cs2,hb2⟩:=own_blk h.p hk
        exact absurd (hb2.uniq hg).1 (by decide)
      · obtain ⟨_,cs2,hb2⟩:=own_blk h.bs hk
        exact absurd (hb2.uniq hg).1 (by decide)
      · exact hr rfl hk
  · refine only_ne ?_
    rintro rfl
    obtain ⟨rfl,_⟩:=hb.uniq hg
    rcases ht with rfl | rfl | rfl
    · exact hn.2.2.2.1 rfl
    · exact hn.2.2.2.2.1 rfl
    · exact hn.2.2.2.2.2 rfl
end
theorem Mm.mall_ty {w:World} {m:Nat} {k:Int} {l:Lm} {x:St} (h:Mm w m k l x) {b:Nat} {t:TypeId} {cs:Array Value} (hb:Blk w b t cs) (hn:t≠94∧t≠147∧t≠149∧t≠144):¬ mall m x b:=by
  obtain ⟨cs,hG,_⟩:=h.ar.hG
  obtain ⟨cap,cur,hT0,hH,_⟩:=id h.tb
  rintro (e | e | e | e | e)
  · exact Blk.ne_ hb h.b hn.1 e
  · exact Blk.ne_ hb hG hn.2.1 e
  · exact Blk.ne_ hb hH hn.2.2.1 e
  · exact Blk.ne_ hb h.ck.hC hn.2.2.2 e
  · exact h.ck.mne hb e.symm
theorem Inst.mall {w w':World} {B i:Nat} {D:Dt} {a:Ia} {m:Nat} {k:Int} {l:Lm} {x:St} (h:Inst w B i D a) (hM:Mm w m k l x) (hf:Fr (mall m x) w w'):Inst w' B i D a:=by
  refine h.fr hf (fun b hb=>?_) (fun b t cs hb ht=>?_)
  · obtain ⟨t,cs,hbb,ht⟩:=h.foot_blk hb
    refine hM.mall_ty hbb ?_
    rcases ht with rfl | rfl | rfl | rfl <;> decide
  · refine hM.mall_ty hb ?_
    rcases ht with rfl | rfl | rfl <;> decide
theorem Mm.beside {w w':World} {m:Nat} {k:Int} {l:Lm} {x:St} (h:Mm w m k l x) {g:Nat} {t:TypeId} {cs:Array Value} (hf:Fr (only g) w w') (hg:Blk w g t cs) (hn:t≠94∧t≠147∧t≠149∧t≠144) (hn2:t≠138∧t≠141∧t≠170∧t≠172):Mm w' m k l x:=by
  obtain ⟨cs',hG,_⟩:=h.ar.hG
  obtain ⟨cap,cur,hT0,hH,_⟩:=id h.tb
  exact ⟨h.b.fr hf (only_ne (Blk.ne_ h.b hg hn.1.symm)),h.ar.beside hf hg hn2.2.2.1.symm hn2.2.2.2.symm (Blk.ne_ h.ar.hA hg hn2.1.symm) (Blk.ne_ hG hg hn.2.1.symm),h.tb.fr hf (only_ne (Blk.ne_ hT0 hg hn2.2.1.symm)) (only_ne (Blk.ne_ hH hg hn.2.2.1.symm)),h.ck.fr hf (only_ne (Blk.ne_ h.ck.hC hg hn.2.2.2.symm)) (only_ne (h.ck.mne hg))⟩
open Go.RowKit

theorem Inst.reb {w w':World} {B i:Nat} {D D':Dt} {a a':Ia} (h:Inst w B i D a) (hf:Fr (only i) w w') (hb:Blk w' i 112 (inA D' a')) (hp:D'.pages=D.pages∧D'.bases=D.bases∧D'.refs=D.refs∧D'.head=D.head) (ha:a'.pv=a.pv∧a'.bv=a.bv∧a'.rv=a.rv∧a'.Cs=a.Cs∧a'.hvr=a.hvr∧a'.hve=a.hve) (he:Er w' a'.ev D'.err):Inst w' B i D' a':=by
  obtain ⟨p1,p2,p3,p4⟩:=hp
  obtain ⟨a1,a2,a3,a4,a5,a6⟩:=ha
  have hrec:∀ R vr ve,RecOwn w 0 R vr ve→RecOwn w' 0 R vr ve:=fun R vr ve hR=>hR.only hf h.b (by decide) (by decide)
  refine ⟨hb,?_,?_,?_,?_,?_,?_,he,h.le,?_,?_,?_⟩
  · rw [p1,a1];exact own_fr h.p hf (fun k hk e=>own_blk_ne h.p h.b (by decide) (by rw [hk,show k=i from e]))
  · rw [a2,a4];exact own_fr h.bs hf (fun k hk e=>own_blk_ne h.bs h.b (by decide) (by rw [hk,show k=i from e]))
  · rw [a4,p2];exact h.cs
  · rw [a4];exact fun C hC=>hrec _ _ _ (h.bo C hC)
  · rw [a3,p3];exact own_fr h.r hf (fun k hk e=>own_blk_ne h.r h.b (by decide) (by rw [hk,show k=i from e]))
  · rw [p4,a5,a6];exact hrec _ _ _ h.h
  · rw [p2];exact h.zb
  · rw [p4];exact h.zh
  · rw [p1,p2,p3];exact h.zp
theorem Inst.shapes {w:World} {B i:Nat} {D:Dt} {a:Ia} (h:Inst w B i D a):∃ A c A' c' A'' c'',a.pv=.slice A D.pages.length c∧a.rv=.slice A' D.refs.length c'∧a.bv=.slice A'' D.bases.length c'':=by
  obtain ⟨A,c,h1⟩:=h.p.shape
  obtain ⟨A',c',h2⟩:=h.r.shape
  obtain ⟨A'',c'',h3⟩:=h.bs.shape
  refine ⟨A,c,A',c',A'',c'',h1,h2,?_⟩
  have hl:=congrArg List.length h.cs
  rw [List.length_map] at hl
  rw [h3,hl]
theorem Blk.there_at {w:World} {g o n:Nat} {t:TypeId} {cs:Array Value} (h:Blk w g t cs) (hn:o+n≤cs.size):w.there g o n:=by
  intro j hj
  refine ⟨?_,h.frozen _⟩
  rw [h.cell,Array.getElem?_eq_getElem (by omega)]
  rfl
theorem setA_head (D:Dt) (a:Ia) (hd:Rc) (vr ve:Value):setA (inA D a) 8 (recA hd vr ve).toList=inA { D with head:=hd } { a with hvr:=vr,hve:=ve }:=by
  simp only [setA,List.setIfInBounds_toArray,List.set_cons_zero,List.set_cons_succ]
theorem Inst.rehead {w w':World} {B i:Nat} {D:Dt} {a:Ia} (h:Inst w B i D a) (hf:Fr (only i) w w') {hd:Rc} {vr ve:Value} {s t:Int} (hb:Blk w' i 112 (inA { D with head:=hd,stage:=s,at_:=t } { a with hvr:=vr,hve:=ve })) (hr:RecOwn w 0 hd vr ve) (hz:RowsOk hd):Inst w' B i { D with head:=hd,stage:=s,at_:=t } { a with hvr:=vr,hve:=ve }:=by
  have hrec:∀ R vr ve,RecOwn w 0 R vr ve→RecOwn w' 0 R vr ve:=fun R vr ve hR=>hR.only hf h.b (by decide) (by decide)
  exact ⟨hb,own_fr h.p hf (fun k hk e=>own_blk_ne h.p h.b (by decide) (by rw [hk,show k=i from e])),own_fr h.bs hf (fun k hk e=>own_blk_ne h.bs h.b (by decide) (by rw [hk,show k=i from e])),h.cs,fun C hC=>hrec _ _ _ (h.bo C hC),own_fr h.r hf (fun k hk e=>own_blk_ne h.r h.b (by decide) (by rw [hk,show k=i from e])),hrec _ _ _ hr,h.e.only hf h.b (by decide),h.le,h.zb,hz,h.zp⟩
theorem over_ok {w:World} {B i:Nat} {D:Dt} {a:Ia} (h:Inst w B i D a):Calls Tryz.prog 15 #[.pointer (some ⟨i,0,none⟩)] w fun e w'=>e=.returned (.bool (D.stage==7))∧w=w':=by
  have c5:w.cell? ⟨i,5,none⟩=some (.int .i64 D.stage):=h.b.cell' rfl
  clear h
  go_enter Tryz.func15,Tryz.ntmps15
  go_wp2
  go_ret
  exact ⟨rfl,rfl⟩
def undoD (D:Dt) (c:Int):Dt:={ D with err:=c,stage:=if D.refs.length=0 then (if D.pages.length=0 then 7 else 6) else 5 }
set_option maxHeartbeats 2000000 in
theorem undo_n {w:World} {B i:Nat} {D:Dt} {a:Ia} (c:Int) (h:Inst w B i D a) (hv:Er w .nilIface c):Calls Tryz.prog 72 #[.pointer (some ⟨i,0,none⟩),.nilIface] w fun e w'=>e=.returned (.bool ((undoD D c).stage==7))∧Inst w' B i (undoD D c) { a with ev:=.nilIface }∧Fr (only i) w w':=by
 obtain ⟨A,c1,A',c2,A'',c3,e1,e2,e3⟩:=h.shapes
 have H:=hid_ h
 have HV:=hid_ hv
 have i5:w.cell? ⟨i,5,none⟩=some (.int .i64 D.stage):=h.b.cell' rfl
 have i6:w.cell? ⟨i,6,none⟩=some (.slice A D.pages.length c1):=by rw [← e1];exact h.b.cell' rfl
 have i23:w.cell? ⟨i,23,none⟩=some (.slice A' D.refs.length c2):=by rw [← e2];exact h.b.cell' rfl
 have i26:w.cell? ⟨i,26,none⟩=some a.ev:=h.b.cell' rfl
 have y5:=h.b.frozen 5
 have y26:=h.b.frozen 26
 have B5:=h.b.set_ 26 .nilIface
 have E1:=hid_ e1
 have E2:=hid_ e2
 clear h hv e1 e2 e3
 have fr0:Fr (only i) w (w.setCell ⟨i,26,none⟩ .nilIface):=Fr.only1 w ⟨i,26,none⟩ .nilIface
 have done:∀ (s:Int) (w':World),Fr (only i) w w'→Blk w' i 112 (inA { D with err:=c,stage:=s } { a with ev:=.nilIface })→undoD D c={ D with err:=c,stage:=s }→(Inst w' B i (undoD D c) { a with ev:=.nilIface }∧Fr (only i) w w'):=fun s w' hf hb e =>
  ⟨by rw [e];exact H.out.reb hf hb ⟨rfl,rfl,rfl,rfl⟩ ⟨rfl,rfl,rfl,rfl,rfl,rfl⟩ (HV.out.only hf H.out.b (by decide)),hf⟩
 have DN:=hid_ done
 have HB:=hid_ B5
 have HF:=hid_ fr0
 clear done B5 fr0
 by_cases hr:D.refs.length=0
 ·have z1:((D.refs.length:Int)==0)=true:=by simp [hr]
  by_cases hp:D.pages.length=0
  ·have z2:((D.pages.length:Int)==0)=true:=by simp [hp]
   have hu:undoD D c={ D with err:=c,stage:=7 }:=by simp [undoD,hr,hp]
   have HU:=hid_ hu
   clear hr hp hu
   go_enter Tryz.func72,Tryz.ntmps72
   go_upto_region 4 with fail
   obtain ⟨w1,hw1⟩:∃ z,z=((w.setCell ⟨i,26,none⟩ .nilIface).setCell ⟨i,5,none⟩ (.int .i64 5)).setCell ⟨i,5,none⟩ (.int .i64 6):=⟨_,rfl⟩
   have B1:=hid_ ((HB.out.set_ 5 (.int .i64 5)).set_ 5 (.int .i64 6))
   have F1:Hid (Fr (only i) w w1):=hid_ (by rw [hw1];exact (HF.out.trans (Fr.only1 _ ⟨i,5,none⟩ (.int .i64 5)) (fun _ _=>id) (fun _ _=>id)).trans (Fr.only1 _ ⟨i,5,none⟩ (.int .i64 6)) (fun _ _=>id) (fun _ _=>id))
   rw [← hw1] at B1
   change Code.wp _ _ _ _ (((w.setCell ⟨i,26,none⟩ .nilIface).setCell ⟨i,5,none⟩ (.int .i64 5)).setCell ⟨i,5,none⟩ (.int .i64 6))
   rw [← hw1]
   clear hw1 i5 i6 i23 i26 y5 y26
   have i5:w1.cell? ⟨i,5,none⟩=some (.int .i64 6):=B1.out.cell' rfl
   have i6:w1.cell? ⟨i,6,none⟩=some (.slice A D.pages.length c1):=B1.out.cell' (by rw [← E1.out];rfl)
   have i23:w1.cell? ⟨i,23,none⟩=some (.slice A' D.refs.length c2):=B1.out.cell' (by rw [← E2.out];rfl)
   have y5:=B1.out.frozen 5
   go_wp2_with fail
   have HI:=hid_ (DN.out 7 _ (F1.out.trans (Fr.only1 _ ⟨i,5,none⟩ (.int .i64 7)) (fun _ _=>id) (fun _ _=>id)) (B1.out.set_ 5 (.int .i64 7)) HU.out)
   refine (over_ok HI.out.1).mono ?_
   rintro e w1 ⟨rfl,rfl⟩
   go_wp2_with fail
   go_ret
   exact ⟨rfl,HI.out.1,HI.out.2⟩
  ·have z2:((D.pages.length:Int)==0)=false:=by simp [hp]
   have hu:undoD D c={ D with err:=c,stage:=6 }:=by simp [undoD,hr,hp]
   have HU:=hid_ hu
   clear hr hp hu
   go_enter Tryz.func72,Tryz.ntmps72
   go_wp2_with fail
   have HI:=hid_ (DN.out 6 _ ((HF.out.trans (Fr.only1 _ ⟨i,5,none⟩ (.int .i64 5)) (fun _ _=>id) (fun _ _=>id)).trans (Fr.only1 _ ⟨i,5,none⟩ (.int .i64 6)) (fun _ _=>id) (fun _ _=>id)) ((HB.out.set_ 5 (.int .i64 5)).set_ 5 (.int .i64 6)) HU.out)
   refine (over_ok HI.out.1).mono ?_
   rintro e w1 ⟨rfl,rfl⟩
   go_wp2_with fail
   go_ret
   exact ⟨rfl,HI.out.1,HI.out.2⟩
 ·have z1:((D.refs.length:Int)==0)=false:=by simp [hr]
  have hu:undoD D c={ D with err:=c,stage:=5 }:=by simp [undoD,hr]
  have HU:=hid_ hu
  clear hr hu
  go_enter Tryz.func72,Tryz.ntmps72
  go_wp2_with fail
  have HI:=hid_ (DN.out 5 _ (HF.out.trans (Fr.only1 _ ⟨i,5,none⟩ (.int .i64 5)) (fun _ _=>id) (fun _ _=>id)) (HB.out.set_ 5 (.int .i64 5)) HU.out)
  refine (over_ok HI.out.1).mono ?_
  rintro e w1 ⟨rfl,rfl⟩
  go_wp2_with fail
  go_ret
  exact ⟨rfl,HI.out.1,HI.out.2⟩
set_option maxHeartbeats 2000000 in
theorem undo_i {w:World} {B i:Nat} {D:Dt} {a:Ia} (tv:TypeId) (xv:Value) (c:Int) (h:Inst w B i D a) (hv:Er w (.iface tv xv) c):Calls Tryz.prog 72 #[.pointer (some ⟨i,0,none⟩),(.iface tv xv)] w fun e w'=>e=.returned (.bool ((undoD D c).stage==7))∧Inst w' B i (undoD D c) { a with ev:=(.iface tv xv) }∧Fr (only i) w w':=by
 obtain ⟨A,c1,A',c2,A'',c3,e1,e2,e3⟩:=h.shapes
 have H:=hid_ h
 have HV:=hid_ hv
 have i5:w.cell? ⟨i,5,none⟩=some (.int .i64 D.stage):=h.b.cell' rfl
 have i6:w.cell? ⟨i,6,none⟩=some (.slice A D.pages.length c1):=by rw [← e1];exact h.b.cell' rfl
 have i23:w.cell? ⟨i,23,none⟩=some (.slice A' D.refs.length c2):=by rw [← e2];exact h.b.cell' rfl
 have i26:w.cell? ⟨i,26,none⟩=some a.ev:=h.b.cell' rfl
 have y5:=h.b.frozen 5
 have y26:=h.b.frozen 26
 have B5:=h.b.set_ 26 (.iface tv xv)
 have E1:=hid_ e1
 have E2:=hid_ e2
 clear h hv e1 e2 e3
 have fr0:Fr (only i) w (w.setCell ⟨i,26,none⟩ (.iface tv xv)):=Fr.only1 w ⟨i,26,none⟩ (.iface tv xv)
 have done:∀ (s:Int) (w':World),Fr (only i) w w'→Blk w' i 112 (inA { D with err:=c,stage:=s } { a with ev:=(.iface tv xv) })→undoD D c={ D with err:=c,stage:=s }→(Inst w' B i (undoD D c) { a with ev:=(.iface tv xv) }∧Fr (only i) w w'):=fun s w' hf hb e =>
  ⟨by rw [e];exact H.out.reb hf hb ⟨rfl,rfl,rfl,rfl⟩ ⟨rfl,rfl,rfl,rfl,rfl,rfl⟩ (HV.out.only hf H.out.b (by decide)),hf⟩
 have DN:=hid_ done
 have HB:=hid_ B5
 have HF:=hid_ fr0
 clear done B5 fr0
 by_cases hr:D.refs.length=0
 ·have z1:((D.refs.length:Int)==0)=true:=by simp [hr]
  by_cases hp:D.pages.length=0
  ·have z2:((D.pages.length:Int)==0)=true:=by simp [hp]
   have hu:undoD D c={ D with err:=c,stage:=7 }:=by simp [undoD,hr,hp]
   have HU:=hid_ hu
   clear hr hp hu
   go_enter Tryz.func72,Tryz.ntmps72
   go_upto_region 4 with fail
   obtain ⟨w1,hw1⟩:∃ z,z=((w.setCell ⟨i,26,none⟩ (.iface tv xv)).setCell ⟨i,5,none⟩ (.int .i64 5)).setCell ⟨i,5,none⟩ (.int .i64 6):=⟨_,rfl⟩
   have B1:=hid_ ((HB.out.set_ 5 (.int .i64 5)).set_ 5 (.int .i64 6))
   have F1:Hid (Fr (only i) w w1):=hid_ (by rw [hw1];exact (HF.out.trans (Fr.only1 _ ⟨i,5,none⟩ (.int .i64 5)) (fun _ _=>id) (fun _ _=>id)).trans (Fr.only1 _ ⟨i,5,none⟩ (.int .i64 6)) (fun _ _=>id) (fun _ _=>id))
   rw [← hw1] at B1
   change Code.wp _ _ _ _ (((w.setCell ⟨i,26,none⟩ (.iface tv xv)).setCell ⟨i,5,none⟩ (.int .i64 5)).setCell ⟨i,5,none⟩ (.int .i64 6))
   rw [← hw1]
   clear hw1 i5 i6 i23 i26 y5 y26
   have i5:w1.cell? ⟨i,5,none⟩=some (.int .i64 6):=B1.out.cell' rfl
   have i6:w1.cell? ⟨i,6,none⟩=some (.slice A D.pages.length c1):=B1.out.cell' (by rw [← E1.out];rfl)
   have i23:w1.cell? ⟨i,23,none⟩=some (.slice A' D.refs.length c2):=B1.out.cell' (by rw [← E2.out];rfl)
   have y5:=B1.out.frozen 5
   go_wp2_with fail
   have HI:=hid_ (DN.out 7 _ (F1.out.trans (Fr.only1 _ ⟨i,5,none⟩ (.int .i64 7)) (fun _ _=>id) (fun _ _=>id)) (B1.out.set_ 5 (.int .i64 7)) HU.out)
   refine (over_ok HI.out.1).mono ?_
   rintro e w1 ⟨rfl,rfl⟩
   go_wp2_with fail
   go_ret
   exact ⟨rfl,HI.out.1,HI.out.2⟩
  ·have z2:((D.pages.length:Int)==0)=false:=by simp [hp]
   have hu:undoD D c={ D with err:=c,stage:=6 }:=by simp [undoD,hr,hp]
   have HU:=hid_ hu
   clear hr hp hu
   go_enter Tryz.func72,Tryz.ntmps72
   go_wp2_with fail
   have HI:=hid_ (DN.out 6 _ ((HF.out.trans (Fr.only1 _ ⟨i,5,none⟩ (.int .i64 5)) (fun _ _=>id) (fun _ _=>id)).trans (Fr.only1 _ ⟨i,5,none⟩ (.int .i64 6)) (fun _ _=>id) (fun _ _=>id)) ((HB.out.set_ 5 (.int .i64 5)).set_ 5 (.int .i64 6)) HU.out)
   refine (over_ok HI.out.1).mono ?_
   rintro e w1 ⟨rfl,rfl⟩
   go_wp2_with fail
   go_ret
   exact ⟨rfl,HI.out.1,HI.out.2⟩
 ·have z1:((D.refs.length:Int)==0)=false:=by simp [hr]
  have hu:undoD D c={ D with err:=c,stage:=5 }:=by simp [undoD,hr]
  have HU:=hid_ hu
  clear hr hu
  go_enter Tryz.func72,Tryz.ntmps72
  go_wp2_with fail
  have HI:=hid_ (DN.out 5 _ (HF.out.trans (Fr.only1 _ ⟨i,5,none⟩ (.int .i64 5)) (fun _ _=>id) (fun _ _=>id)) (HB.out.set_ 5 (.int .i64 5)) HU.out)
  refine (over_ok HI.out.1).mono ?_
  rintro e w1 ⟨rfl,rfl⟩
  go_wp2_with fail
  go_ret
  exact ⟨rfl,HI.out.1,HI.out.2⟩
theorem undo_ok {w:World} {B i:Nat} {D:Dt} {a:Ia} (v:Value) (c:Int) (h:Inst w B i D a) (hv:Er w v c):Calls Tryz.prog 72 #[.pointer (some ⟨i,0,none⟩),v] w fun e w'=>e=.returned (.bool ((undoD D c).stage==7))∧Inst w' B i (undoD D c) { a with ev:=v }∧Fr (only i) w w':=by
  rcases hv.shape with rfl | ⟨tv,xv,rfl⟩
  · exact undo_n c h hv
  · exact undo_i tv xv c h hv
open Go.RowKit

def OffMem (t:TypeId):Prop:=t≠94∧t≠147∧t≠149∧t≠144∧t≠138∧t≠141∧t≠170∧t≠172
instance (t:TypeId):Decidable (OffMem t):=by unfold OffMem;infer_instance
theorem Mm.ty {w w':World} {m:Nat} {k:Int} {l:Lm} {x:St} {S:Nat→Prop} (h:Mm w m k l x) (hf:Fr S w w') (hS:∀ b,S b→∃ t cs,Blk w b t cs∧OffMem t):Mm w' m k l x:=by
  obtain ⟨cs',hG,hc⟩:=h.ar.hG
  obtain ⟨cap,cur,hT0,hH,_⟩:=id h.tb
  have no:∀ {g:Nat} {t:TypeId} {cs:Array Value},Blk w g t cs→¬ OffMem t→¬ S g:=fun hb hn hs=>by
    obtain ⟨t',cs',hb',ho⟩:=hS _ hs
    obtain ⟨rfl,_⟩:=hb.uniq hb'
    exact hn ho
  have hrec:∀ R vr ve,RecOwn w 0 R vr ve→RecOwn w' 0 R vr ve:=fun R vr ve hR =>
    hR.fr hf (fun k hk=>by obtain ⟨_,cs,hb⟩:=own_blk hR.r hk;exact no hb (by decide)) (fun k hk=>by obtain ⟨_,cs,hb⟩:=own_blk hR.e hk;exact no hb (by decide))
  refine ⟨h.b.fr hf (no h.b (by decide)),⟨h.ar.hA.fr hf (no h.ar.hA (by decide)),⟨cs',hG.fr hf (no hG (by decide)),hc⟩,fun i s hs=>hrec _ _ _ (h.ar.own i s hs),h.ar.l40,h.ar.len,h.ar.gen,h.ar.sz⟩,h.tb.fr hf (no hT0 (by decide)) (no hH (by decide)),h.ck.fr hf (no h.ck.hC (by decide)) ?_⟩
  intro hs
  obtain ⟨t,cs,hb,_⟩:=hS _ hs
  exact h.ck.mne hb rfl
theorem Inst.off {w:World} {B i:Nat} {D:Dt} {a:Ia} (h:Inst w B i D a):∀ b,foot i a b→∃ t cs,Blk w b t cs∧OffMem t:=fun b hb=>by
  obtain ⟨t,cs,hbb,ht⟩:=h.foot_blk hb
  refine ⟨t,cs,hbb,?_⟩
  rcases ht with rfl | rfl | rfl | rfl <;> decide
theorem Er.grown {w w':World} {v:Value} {c:Int} (h:Er w v c) {b size n:Nat} {e:TypeId} {u:Value} {xs:List Value} (ho:w.ownsRow b e size u n xs) (hne:190≠e) (hg:w.grownBy w' u.ownBlock):Er w' v c:=by
  rcases h with h | ⟨p,s,h | ⟨h,bb,hv,hb⟩⟩
  · exact .inl h
  · exact .inr ⟨p,s,.inl h⟩
  · refine .inr ⟨p,s,.inr ⟨h,bb,hv,hb.grown hg ?_⟩⟩
    exact (own_blk_ne ho hb (Ne.symm hne)).symm
theorem Inst.pushP {w w1:World} {B i:Nat} {D:Dt} {a:Ia} (h:Inst w B i D a) {v':Value} {n:Int} (ho:w1.ownsRow B 3 1 v' (D.pages.length+1) (intF D.pages ++ [.int .i64 n])) (hg:w.grownBy w1 a.pv.ownBlock) (hn:D.pages.length≤3):Inst (w1.setCell ⟨i,6,none⟩ v') B i { D with pages:=D.pages ++ [n] } { a with pv:=v' }∧Fr (foot i a) w (w1.setCell ⟨i,6,none⟩ v'):=by
  have f1:Fr (only i) w1 (w1.setCell ⟨i,6,none⟩ v'):=Fr.only1 w1 ⟨i,6,none⟩ v'
  have hb1:Blk w1 i 112 (inA D a):=h.b.grown hg (Ne.symm (own_blk_ne h.p h.b (by decide)))
  have hrec:∀ R vr ve,RecOwn w 0 R vr ve→RecOwn (w1.setCell ⟨i,6,none⟩ v') 0 R vr ve:=fun R vr ve hR=>(hR.grown h.p (by decide) (by decide) hg).only f1 hb1 (by decide) (by decide)
  refine ⟨⟨hb1.set_ 6 v',by have:=own_fr ho f1 (fun k hk e=>own_blk_ne ho hb1 (by decide) (by rw [hk,show k=i from e]));simpa [intF] using this,own_fr (own_kept h.bs h.p (by decide) hg) f1 (fun k hk e=>own_blk_ne (own_kept h.bs h.p (by decide) hg) hb1 (by decide) (by rw [hk,show k=i from e])),h.cs,fun E hE=>hrec _ _ _ (h.bo E hE),own_fr (own_kept h.r h.p (by decide) hg) f1 (fun k hk e=>own_blk_ne (own_kept h.r h.p (by decide) hg) hb1 (by decide) (by rw [hk,show k=i from e])),hrec _ _ _ h.h,(h.e.grown h.p (by decide) hg).only f1 hb1 (by decide),h.le,h.zb,h.zh,⟨by simp;omega,h.zp.2⟩⟩,?_⟩
  exact (Fr.grown (Fr.refl (foot i a) w) hg (fun k hk=>.inl (.inr (.inl hk)))).setCell (p:=⟨i,6,none⟩) (.inl (.inl (Eq.refl i))) v'
theorem Inst.pushB {w w1:World} {B i:Nat} {D:Dt} {a:Ia} (h:Inst w B i D a) {v':Value} {C:Cr} (ho:w1.ownsRow B 55 15 v' (a.Cs.length+1) (crFlat a.Cs ++ (crA C).toList)) (hg:w.grownBy w1 a.bv.ownBlock) (hC:RecOwn w 0 C.R (.slice C.A C.R.rows.length C.c) (.slice C.B C.R.ents.length C.d)) (hz:RowsOk C.R) (hn:D.bases.length≤3):Inst (w1.setCell ⟨i,7,none⟩ v') B i { D with bases:=D.bases ++ [C.R] } { a with bv:=v',Cs:=a.Cs ++ [C] }∧Fr (foot i a) w (w1.setCell ⟨i,7,none⟩ v'):=by
  have f1:Fr (only i) w1 (w1.setCell ⟨i,7,none⟩ v'):=Fr.only1 w1 ⟨i,7,none⟩ v'
  have hb1:Blk w1 i 112 (inA D a):=h.b.grown hg (Ne.symm (own_blk_ne h.bs h.b (by decide)))
  have hrec:∀ R vr ve,RecOwn w 0 R vr ve→RecOwn (w1.setCell ⟨i,7,none⟩ v') 0 R vr ve:=fun R vr ve hR=>(hR.grown h.bs (by decide) (by decide) hg).only f1 hb1 (by decide) (by decide)
  refine ⟨⟨hb1.set_ 7 v',own_fr (own_kept h.p h.bs (by decide) hg) f1 (fun k hk e=>own_blk_ne (own_kept h.p h.bs (by decide) hg) hb1 (by decide) (by rw [hk,show k=i from e])),by have:=own_fr ho f1 (fun k hk e=>own_blk_ne ho hb1 (by decide) (by rw [hk,show k=i from e]));simpa [crFlat_snoc] using this,by rw [List.map_append,h.cs];rfl,fun E hE=>by
    rcases List.mem_append.1 hE with hE | hE
    · exact hrec _ _ _ (h.bo E hE)
    · obtain rfl:E=C:=by simpa using hE
      exact hrec _ _ _ hC,own_fr (own_kept h.r h.bs (by decide) hg) f1 (fun k hk e=>own_blk_ne (own_kept h.r h.bs (by decide) hg) hb1 (by decide) (by rw [hk,show k=i from e])),hrec _ _ _ h.h,(h.e.grown h.bs (by decide) hg).only f1 hb1 (by decide),h.le,fun R hR=>by
    rcases List.mem_append.1 hR with hR | hR
    · exact h.zb R hR
    · obtain rfl:R=C.R:=by simpa using hR
      exact hz,h.zh,⟨h.zp.1,by simp;omega,h.zp.2.2⟩⟩,?_⟩
  exact (Fr.grown (Fr.refl (foot i a) w) hg (fun k hk=>.inl (.inr (.inr (.inl hk))))).setCell (p:=⟨i,7,none⟩) (.inl (.inl (Eq.refl i))) v'
theorem Inst.pushR {w w1:World} {B i:Nat} {D:Dt} {a:Ia} (h:Inst w B i D a) {v':Value} {s g:Int} (ho:w1.ownsRow B 48 2 v' (D.refs.length+1) (rf9Flat D.refs ++ [.int .i64 s,.int .i64 g])) (hg:w.grownBy w1 a.rv.ownBlock) (hn:D.refs.length≤4):Inst (w1.setCell ⟨i,23,none⟩ v') B i { D with refs:=D.refs ++ [(s,g)] } { a with rv:=v' }∧Fr (foot i a) w (w1.setCell ⟨i,23,none⟩ v'):=by
  have f1:Fr (only i) w1 (w1.setCell ⟨i,23,none⟩ v'):=Fr.only1 w1 ⟨i,23,none⟩ v'
  have hb1:Blk w1 i 112 (inA D a):=h.b.grown hg (Ne.symm (own_blk_ne h.r h.b (by decide)))
  have hrec:∀ R vr ve,RecOwn w 0 R vr ve→RecOwn (w1.setCell ⟨i,23,none⟩ v') 0 R vr ve:=fun R vr ve hR=>(hR.grown h.r (by decide) (by decide) hg).only f1 hb1 (by decide) (by decide)
  refine ⟨⟨hb1.set_ 23 v',own_fr (own_kept h.p h.r (by decide) hg) f1 (fun k hk e=>own_blk_ne (own_kept h.p h.r (by decide) hg) hb1 (by decide) (by rw [hk,show k=i from e])),own_fr (own_kept h.bs h.r (by decide) hg) f1 (fun k hk e=>own_blk_ne (own_kept h.bs h.r (by decide) hg) hb1 (by decide) (by rw [hk,show k=i from e])),h.cs,fun E hE=>hrec _ _ _ (h.bo E hE),by have:=own_fr ho f1 (fun k hk e=>own_blk_ne ho hb1 (by decide) (by rw [hk,show k=i from e]));simpa [rf9Flat_snoc] using this,hrec _ _ _ h.h,(h.e.grown h.r (by decide) hg).only f1 hb1 (by decide),h.le,h.zb,h.zh,⟨h.zp.1,h.zp.2.1,by simp;omega⟩⟩,?_⟩
  exact (Fr.grown (Fr.refl (foot i a) w) hg (fun k hk=>.inl (.inr (.inr (.inr hk))))).setCell (p:=⟨i,23,none⟩) (.inl (.inl (Eq.refl i))) v'
def FootLe (i:Nat) (a a':Ia) (w:World):Prop:=∀ k,foot i a' k→foot i a k∨w.heap.size≤k
theorem FootLe.refl (i:Nat) (a:Ia) (w:World):FootLe i a a w:=fun k h=>.inl h
theorem FootLe.same {i:Nat} {a a':Ia} (w:World) (h1:a'.pv=a.pv) (h2:a'.bv=a.bv) (h3:a'.rv=a.rv):FootLe i a a' w:=fun k h=>by
  unfold foot at h ⊢
  rw [h1,h2,h3] at h
  exact .inl h
theorem FootLe.trans {i:Nat} {a b c:Ia} {w w':World} (h:FootLe i a b w) (h':FootLe i b c w') (hs:w.heap.size≤w'.heap.size):FootLe i a c w:=fun k hk=>by
  rcases h' k hk with h1 | h1
  · exact h k h1
  · exact .inr (by omega)
theorem FootLe.push {i:Nat} {a a':Ia} {w w1:World} (hs:w.heap.size≤w1.heap.size) (h:(a'.pv=a.pv∨a'.pv.ownBlock=a.pv.ownBlock∨a'.pv.ownBlock=some w1.heap.size)∧(a'.bv=a.bv∨a'.bv.ownBlock=a.bv.ownBlock∨a'.bv.ownBlock=some w1.heap.size)∧(a'.rv=a.rv∨a'.rv.ownBlock=a.rv.ownBlock∨a'.rv.ownBlock=some w1.heap.size)):FootLe i a a' w:=fun k hk=>by
  have one:∀ {u v:Value},(u=v∨u.ownBlock=v.ownBlock∨u.ownBlock=some w1.heap.size)→u.ownBlock=some k→v.ownBlock=some k∨w.heap.size≤k:=by
    rintro u v (rfl | e | e) hk
    · exact .inl hk
    · exact .inl (e ▸ hk)
    · rw [hk] at e
      injection e with e
      exact .inr (by omega)
  rcases hk with rfl | hk | hk | hk
  · exact .inl (.inl rfl)
  · exact (one h.1 hk).imp (fun h=>.inr (.inl h)) id
  · exact (one h.2.1 hk).imp (fun h=>.inr (.inr (.inl h))) id
  · exact (one h.2.2 hk).imp (fun h=>.inr (.inr (.inr h))) id
def mf (m:Nat) (x:St) (i:Nat) (a:Ia):Nat→Prop:=fun k=>mall m x k∨foot i a k
theorem mf_m {m:Nat} {x:St} {i:Nat} {a:Ia} {w w':World} (h:Fr (mall m x) w w'):Fr (mf m x i a) w w':=h.mono (fun _ _=>.inl)
theorem mf_f {m:Nat} {x:St} {i:Nat} {a:Ia} {w w':World} (h:Fr (foot i a) w w'):Fr (mf m x i a) w w':=h.mono (fun _ _=>.inr)
theorem mf_i {m:Nat} {x:St} {i:Nat} {a:Ia} {w w':World} (h:Fr (only i) w w'):Fr (mf m x i a) w w':=h.mono (fun _ _ e=>.inr (.inl e))
theorem mf_tr {m:Nat} {x:St} {i:Nat} {a:Ia} {b c d:World} (h:Fr (mf m x i a) b c) (k:Fr (mf m x i a) c d):Fr (mf m x i a) b d:=h.trans k (fun _ _=>id) (fun _ _=>id)
theorem Ev.nil_iff {w:World} {v:Value} {p:ByteArray} {s c:Int} (h:Ev w v p s c):(c=0∧v=.nilIface)∨(c≠0∧∃ b,v=.iface 188 (.pointer (some ⟨b,0,none⟩))):=by
  rcases h with h | ⟨h,b,hv,_⟩
  · exact .inl h
  · exact .inr ⟨h,b,hv⟩
def putD (D:Dt) (kk sl gn:Int):Dt:=if kk=0 then { D with refs:=D.refs ++ [(sl,gn)] } else D
def PutPost (m:Nat) (k:Int) (l:Lm) (x:St) (B i:Nat) (D:Dt) (a:Ia) (R:Rc) (w:World) (e:Ending) (w':World):Prop:=
  ∃ sl gn kk ss' v a',e=.returned v∧AllocR l.n x.ss R sl gn kk ss'∧Ev w' v sArena9 0 kk∧Mm w' m (k+1) l { x with ss:=ss' }∧Inst w' B i (putD D kk sl gn) a'∧Fr (mf m x i a) w w'∧FootLe i a a' w∧(a'.pv=a.pv∧a'.bv=a.bv∧a'.Cs=a.Cs∧a'.mv=a.mv∧a'.hvr=a.hvr∧a'.hve=a.hve)
set_option maxHeartbeats 4000000 in
theorem put_ok {w:World} {m:Nat} {k:Int} {l:Lm} {x:St} {B i:Nat} {D:Dt} {a:Ia} (h:Inst w B i D a) (hM:Mm w m k l x) (h0:0≤k) (h1:k≤100000) (R:Rc) (A:Option Addr) (c:Nat) (E:Option Addr) (d:Nat) (hR:RecOwn w 0 R (.slice A R.rows.length c) (.slice E R.ents.length d)) (hz:RowsOk R) (hn:D.refs.length≤4) (hB:B≤w.heap.size) :
  Calls Tryz.prog 70 #[.pointer (some ⟨i,0,none⟩),.pointer (some ⟨m,0,none⟩),recV R (.slice A R.rows.length c) (.slice E R.ents.length d)] w (PutPost m k l x B i D a R w):=by
 obtain ⟨Ap,cp,A2,c2,A3,c3,e1,e2,e3⟩:=h.shapes
 have E2:=hid_ e2
 clear e1 e3
 obtain ⟨j0,hj0,hy0,ht0,hc0⟩:=info_parts ref_info9
 have Hj:=hid_ (And.intro hj0 (And.intro hy0 (And.intro ht0 hc0)))
 have HS:=hid_ (And.intro hz (And.intro hn hB))
 clear hj0 hy0 ht0 hc0
 have I0:=hid_ h
 have M0:=hid_ hM
 have O0:=hid_ hR
 have F:=hid_ (Fr.refl none_ w)
 clear h hM hR e2
 go_enter Tryz.func70,Tryz.ntmps70
 go_upto_region 1 with fail
 obtain ⟨w0,hw0⟩:∃ z,z=w.alloc (.cells (recA R (.slice A R.rows.length c) (.slice E R.ents.length d)) 55):=⟨_,rfl⟩
 have fw0:Fr none_ w w0:=by rw [hw0];exact (Fr.refl none_ w).alloc _
 have BR:Hid (Blk w0 w.heap.size 55 (recA R (.slice A R.rows.length c) (.slice E R.ents.length d))):=hid_ (by rw [hw0];exact Blk.new w _ _)
 replace I0:=hid_ (I0.out.keep fw0)
 replace M0:=hid_ (M0.out.keep fw0)
 replace O0:=hid_ (O0.out.keep fw0)
 replace F:=hid_ (F.out.then_none fw0)
 change Code.wp _ _ _ _ (w.alloc (.cells (recA R (.slice A R.rows.length c) (.slice E R.ents.length d)) 55))
 rw [← hw0]
 clear hw0 fw0
 have r0:w0.cell? ⟨w.heap.size,0,none⟩=some (.int .i64 R.kind):=BR.out.cell' rfl
 have r1:w0.cell? ⟨w.heap.size,1,none⟩=some (.string R.low):=BR.out.cell' rfl
 have r2:w0.cell? ⟨w.heap.size,2,none⟩=some (.string R.high):=BR.out.cell' rfl
 have r3:w0.cell? ⟨w.heap.size,3,none⟩=some (.bool R.unb):=BR.out.cell' rfl
 have r4:w0.cell? ⟨w.heap.size,4,none⟩=some (.int .i64 R.right):=BR.out.cell' rfl
 have r5:w0.cell? ⟨w.heap.size,5,none⟩=some (.slice A R.rows.length c):=BR.out.cell' rfl
 have r6:w0.cell? ⟨w.heap.size,6,none⟩=some (.slice E R.ents.length d):=BR.out.cell' rfl
 have r7:w0.cell? ⟨w.heap.size,7,none⟩=some (.string R.key):=BR.out.cell' rfl
 have r8:w0.cell? ⟨w.heap.size,8,none⟩=some (.string R.val):=BR.out.cell' rfl
 have r9:w0.cell? ⟨w.heap.size,9,none⟩=some (.int .i64 R.page):=BR.out.cell' rfl
 have r10:w0.cell? ⟨w.heap.size,10,none⟩=some (.int .i64 R.hpage):=BR.out.cell' rfl
 have r11:w0.cell? ⟨w.heap.size,11,none⟩=some (.int .i64 R.hleft):=BR.out.cell' rfl
 have r12:w0.cell? ⟨w.heap.size,12,none⟩=some (.string R.hkey):=BR.out.cell' rfl
 have r13:w0.cell? ⟨w.heap.size,13,none⟩=some (.int .i64 R.nslot):=BR.out.cell' rfl
 have r14:w0.cell? ⟨w.heap.size,14,none⟩=some (.int .i64 R.ngen):=BR.out.cell' rfl
 go_wp2_with fail
 refine (memAlloc_any m k l x _ M0.out h0 h1 R A c E d (fun w' hf=>(O0.out.only hf M0.out.b (by decide) (by decide)).reads) HS.out.1).mono ?_
 rintro e w1 ⟨sl,gn,kk,ss',v,rfl,hA,hev,hM1,hf1⟩
 have RA:=hid_ hA
 have EV:=hid_ hev
 have I1:=hid_ (I0.out.mall M0.out hf1)
 have M1:=hid_ hM1
 have F1:Hid (Fr (mall m x) w w1):=hid_ ((F.out.mono (fun _ _ e=>e.elim)).trans (S':=mall m x) (S'':=mall m x) hf1 (fun _ _=>id) (fun _ _=>id))
 have NX:Hid (∀ k,a.rv.ownBlock=some k→k < w1.heap.size):=hid_ (fun k hk=>(own_blk I1.out.r hk).2.elim fun _ hb=>hb.lt)
 clear hA hev hM1 hf1 I0 M0 O0 BR F
 clear r0 r1 r2 r3 r4 r5 r6 r7 r8 r9 r10 r11 r12 r13 r14
 go_upto_region 2 with fail
 obtain ⟨w2,hw2⟩:∃ z,z=w1.alloc (.cells #[.int .i64 sl,.int .i64 gn] 48):=⟨_,rfl⟩
 have fw2:Fr none_ w1 w2:=by rw [hw2];exact (Fr.refl none_ w1).alloc _
 have BX:Hid (Blk w2 w1.heap.size 48 (#[.int .i64 sl,.int .i64 gn])):=hid_ (by rw [hw2];exact Blk.new w1 _ _)
 replace EV:=hid_ (EV.out.keep fw2)
 replace I1:=hid_ (I1.out.keep fw2)
 replace M1:=hid_ (M1.out.keep fw2)
 replace F1:=hid_ (F1.out.then_none fw2)
 change Code.wp _ _ _ _ (w1.alloc (.cells #[.int .i64 sl,.int .i64 gn] 48))
 rw [← hw2]
 clear hw2 fw2
 have hsw:=F1.out.size
 rcases EV.out.nil_iff with ⟨rfl,rfl⟩ | ⟨hkk,b,rfl⟩
 rotate_left
 ·have hq:=HS
  have HK:=hid_ hkk
  clear hkk hq
  go_wp2_with fail
  go_ret
  exact ⟨sl,gn,kk,ss',_,a,rfl,RA.out,EV.out,M1.out,by rw [show putD D kk sl gn=D from if_neg HK.out];exact I1.out,mf_m F1.out,FootLe.refl _ _ _,rfl,rfl,rfl,rfl,rfl,rfl⟩
 go_upto_region 3 with fail
 have i23:w2.cell? ⟨i,23,none⟩=some (.slice A2 D.refs.length c2):=by rw [← E2.out];exact I1.out.b.cell' rfl
 have x0:w2.cell? ⟨w1.heap.size,0,none⟩=some (.int .i64 sl):=BX.out.cell' rfl
 have x1:w2.cell? ⟨w1.heap.size,1,none⟩=some (.int .i64 gn):=BX.out.cell' rfl
 clear i23 x0 x1
 have hS0:(fun w':World=>Blk w' i 112 (inA D a)∧Blk w' w1.heap.size 48 #[.int .i64 sl,.int .i64 gn]) w2.drew:=⟨I1.out.b.drew,BX.out.drew⟩
 refine wp_region_U (m:=8) (S:=(fun w':World=>Blk w' i 112 (inA D a)∧Blk w' w1.heap.size 48 #[.int .i64 sl,.int .i64 gn])) (by kernel_rfl) ?_
 refine wpAnyU_take2 (i:=0) (v:=_) rfl (by kernel_rfl) (by kernel_rfl) (by kernel_rfl) (by kernel_rfl) (fun _ _ _ h=>h) (.inl ⟨by kernel_rfl,fun w' hS=>by go_simp;rfl⟩) hS0 ?_
 refine wpAnyU_take2 (i:=1) (v:=_) rfl (by kernel_rfl) (by kernel_rfl) (by kernel_rfl) (by kernel_rfl) (fun _ _ _ h=>h) (.inl ⟨by kernel_rfl,fun w' hS=>by go_simp;rfl⟩) hS0 ?_
 refine wpAnyU_take2 (i:=2) (v:=_) rfl (by kernel_rfl) (by kernel_rfl) (by kernel_rfl) (by kernel_rfl) (fun _ _ _ h=>h) (.inl ⟨by kernel_rfl,fun w' hS=>by go_simp;rfl⟩) hS0 ?_
 refine wpAnyU_take2 (i:=3) (v:=_) rfl (by kernel_rfl) (by kernel_rfl) (by kernel_rfl) (by kernel_rfl) (fun _ _ _ h=>h) (.inl ⟨by kernel_rfl,fun w' hS=>by go_simp;rfl⟩) hS0 ?_
 refine wpAnyU_take2 (i:=4) (v:=_) rfl (by kernel_rfl) (by kernel_rfl) (by kernel_rfl) (by kernel_rfl) (fun _ _ _ h=>h) (.inl ⟨by kernel_rfl,fun w' hS=>by have s_:w'.cell? ⟨i,23,none⟩=some (.slice A2 D.refs.length c2):=(by rw [← E2.out];exact hS.1.cell' rfl);go_simp;rfl⟩) hS0 ?_
 refine wpAnyU_take2 (i:=5) (v:=_) rfl (by kernel_rfl) (by kernel_rfl) (by kernel_rfl) (by kernel_rfl) (fun _ _ _ h=>h) (.inl ⟨by kernel_rfl,fun w' hS=>by have s_0:w'.cell? ⟨w1.heap.size,0,none⟩=some (.int .i64 sl):=hS.2.cell' rfl;have s_1:w'.cell? ⟨w1.heap.size,1,none⟩=some (.int .i64 gn):=hS.2.cell' rfl;go_simp;rfl⟩) hS0 ?_
 refine wpAnyU_oneW (i:=6) rfl (by kernel_rfl) (by kernel_rfl) ?_
 go_simp
 refine ⟨⟨hS0.1.alloc _,hS0.2.alloc _⟩,?_⟩
 obtain ⟨w3,hw3⟩:∃ z,z=w2.drew.alloc (.cells #[.int .i64 sl,.int .i64 gn] 48):=⟨_,rfl⟩
 have f3:Fr none_ w2 w3:=by rw [hw3];exact (Fr.refl none_ w2).drew.alloc _
 have PR:Hid (Blk w3 w2.heap.size 48 #[.int .i64 sl,.int .i64 gn]):=hid_ (by rw [hw3];exact Blk.new w2.drew _ _)
 replace EV:=hid_ (EV.out.keep f3)
 replace I1:=hid_ (I1.out.keep f3)
 replace M1:=hid_ (M1.out.keep f3)
 replace F1:=hid_ (F1.out.then_none f3)
 replace BX:=hid_ (BX.out.fr f3 id)
 change wpAnyU _ _ _ _ _ _ _ _ _ (w2.drew.alloc (.cells #[.int .i64 sl,.int .i64 gn] 48))
 rw [← hw3]
 clear hw3 f3 hS0
 refine wpAnyU_oneW (i:=7) rfl (by kernel_rfl) (by kernel_rfl) ?_
 refine wp_append_at _ (.tmp 21) (.tmp 23) 66 rfl B 48 j0 _ 2 16 Tryz.underlying66 Hj.out.1 Hj.out.2.1 Hj.out.2.2.1 Hj.out.2.2.2 rfl (by omega) (.slice A2 D.refs.length c2) D.refs.length (rf9Flat D.refs) rfl (by rw [← E2.out];exact I1.out.r) (some ⟨w2.heap.size,0,none⟩) 1 1 [.int .i64 sl,.int .i64 gn] rfl (reads_blk9 PR.out) (by simp [Value.oneCell']) (by have:=HS.out.2.1;simp only [maxLen];omega) (by have:=HS.out.2.1;omega) (by have:=HS.out.2.2;have:=F1.out.size;omega) ?_
 intro v' w4 hown hgr hat
 rw [← E2.out] at hgr hat
 refine ⟨.inr ⟨I1.out.b.grown hgr (Ne.symm (own_blk_ne I1.out.r I1.out.b (by decide))),BX.out.grown hgr ?_⟩,?_⟩
 ·exact fun e=>absurd (NX.out _ e.symm) (Nat.lt_irrefl _)
 have i23:∃ u,w4.cell? ⟨i,23,none⟩=some u:=⟨_,(I1.out.b.grown hgr (Ne.symm (own_blk_ne I1.out.r I1.out.b (by decide)))).cell' rfl⟩
 obtain ⟨u23,i23⟩:=i23
 have y23:=(I1.out.b.grown hgr (Ne.symm (own_blk_ne I1.out.r I1.out.b (by decide)))).frozen 23
 have hp:=I1.out.pushR hown hgr HS.out.2.1
 obtain ⟨A5,c5,rfl⟩:=hown.shape
 have hpM:=M1.out.ty hp.2 I1.out.off
 have HP:=hid_ (And.intro hp.1 (And.intro hpM (And.intro hp.2 hat)))
 clear hp hpM hown hgr hat PR
 refine wpAnyU_oneW (i:=8) rfl (by kernel_rfl) (by kernel_rfl) ?_
 go_simp
 refine wpAnyU_oneW (i:=9) rfl (by kernel_rfl) (by kernel_rfl) ?_
 go_simp
 refine wpAnyU_oneW (i:=10) rfl (by kernel_rfl) (by kernel_rfl) ?_
 go_simp
 refine wpAnyU_done (by kernel_rfl) ?_ _
 go_wp2_with fail
 go_ret
 refine ⟨sl,gn,0,ss',_,{ a with rv:=.slice A5 (D.refs.length+1) c5 },rfl,RA.out,.inl ⟨rfl,rfl⟩,HP.out.2.1,by rw [show putD D 0 sl gn={ D with refs:=D.refs ++ [(sl,gn)] } from if_pos rfl];exact HP.out.1,mf_tr (mf_m F1.out) (mf_f HP.out.2.2.1),FootLe.push (w1:=w3) F1.out.size ⟨.inl rfl,.inl rfl,.inr HP.out.2.2.2⟩,rfl,rfl,rfl,rfl,rfl,rfl⟩
open Go.RowKit

theorem Inst.setStage {w:World} {B i:Nat} {D:Dt} {a:Ia} (h:Inst w B i D a) (s:Int):Inst (w.setCell ⟨i,5,none⟩ (.int .i64 s)) B i { D with stage:=s } a∧Fr (only i) w (w.setCell ⟨i,5,none⟩ (.int .i64 s)):=by
  have f1:=Fr.only1 w ⟨i,5,none⟩ (.int .i64 s)
  exact ⟨h.reb f1 (h.b.set_ 5 _) ⟨rfl,rfl,rfl,rfl⟩ ⟨rfl,rfl,rfl,rfl,rfl,rfl⟩ (h.e.only f1 h.b (by decide)),f1⟩
theorem Inst.setEnd {w:World} {B i:Nat} {D:Dt} {a:Ia} (h:Inst w B i D a):Inst ((w.setCell ⟨i,5,none⟩ (.int .i64 7)).setCell ⟨i,25,none⟩ (.bool true)) B i { D with stage:=7,done:=true } a∧Fr (only i) w ((w.setCell ⟨i,5,none⟩ (.int .i64 7)).setCell ⟨i,25,none⟩ (.bool true)):=by
  have f1:Fr (only i) w ((w.setCell ⟨i,5,none⟩ (.int .i64 7)).setCell ⟨i,25,none⟩ (.bool true)):=(Fr.only1 w ⟨i,5,none⟩ (.int .i64 7)).trans (Fr.only1 _ ⟨i,25,none⟩ (.bool true)) (fun _ _=>id) (fun _ _=>id)
  exact ⟨h.reb f1 ((h.b.set_ 5 _).set_ 25 _) ⟨rfl,rfl,rfl,rfl⟩ ⟨rfl,rfl,rfl,rfl,rfl,rfl⟩ (h.e.only f1 h.b (by decide)),f1⟩
theorem Inst.only_off {w:World} {B i:Nat} {D:Dt} {a:Ia} (h:Inst w B i D a):∀ b,only i b→∃ t cs,Blk w b t cs∧OffMem t:=by
  rintro b e
  obtain rfl:b=i:=e
  exact ⟨_,_,h.b,by decide⟩
def SameIa (a a':Ia):Prop:=a'.mv=a.mv∧a'.pv=a.pv∧a'.bv=a.bv∧a'.Cs=a.Cs
def fwd3D (D:Dt) (kk sl gn:Int):Dt:=if kk=0 then { D with refs:=D.refs ++ [(sl,gn)],stage:=4 } else undoD D kk
def Fwd3 (m:Nat) (k:Int) (l:Lm) (x:St) (B i:Nat) (D:Dt) (a:Ia) (w:World) (e:Ending) (w':World):Prop:=
  ∃ sl gn kk ss' a',e=.returned (.bool ((fwd3D D kk sl gn).stage==7))∧AllocR l.n x.ss D.head sl gn kk ss'∧Mm w' m (k+1) l { x with ss:=ss' }∧Inst w' B i (fwd3D D kk sl gn) a'∧Fr (mf m x i a) w w'∧FootLe i a a' w∧SameIa a a'
set_option maxHeartbeats 8000000 in
theorem fwd3 {w:World} {m:Nat} {k:Int} {l:Lm} {x:St} {B i:Nat} {D:Dt} {a:Ia} (h:Inst w B i D a) (hM:Mm w m k l x) (h0:0≤k) (h1:k≤100000) (hs:D.stage=3) (hn:D.refs.length≤4) (hB:B≤w.heap.size) :
  Calls Tryz.prog 42 #[.pointer (some ⟨i,0,none⟩),.pointer (some ⟨m,0,none⟩)] w (Fwd3 m k l x B i D a w):=by
 obtain ⟨Ah,ch,Eh,dh,eh1,eh2⟩:=h.h.shape
 have E1:=hid_ (And.intro eh1 (And.intro eh2 hs))
 have HN:=hid_ (And.intro hn hB)
 have I0:=hid_ h
 have M0:=hid_ hM
 have i5:w.cell? ⟨i,5,none⟩=some (.int .i64 3):=by rw [← hs];exact h.b.cell' rfl
 have i8:w.cell? ⟨i,8,none⟩=some (.int .i64 D.head.kind):=h.b.cell' rfl
 have i9:w.cell? ⟨i,9,none⟩=some (.string D.head.low):=h.b.cell' rfl
 have i10:w.cell? ⟨i,10,none⟩=some (.string D.head.high):=h.b.cell' rfl
 have i11:w.cell? ⟨i,11,none⟩=some (.bool D.head.unb):=h.b.cell' rfl
 have i12:w.cell? ⟨i,12,none⟩=some (.int .i64 D.head.right):=h.b.cell' rfl
 have i13:w.cell? ⟨i,13,none⟩=some (.slice Ah D.head.rows.length ch):=by rw [← eh1];exact h.b.cell' rfl
 have i14:w.cell? ⟨i,14,none⟩=some (.slice Eh D.head.ents.length dh):=by rw [← eh2];exact h.b.cell' rfl
 have i15:w.cell? ⟨i,15,none⟩=some (.string D.head.key):=h.b.cell' rfl
 have i16:w.cell? ⟨i,16,none⟩=some (.string D.head.val):=h.b.cell' rfl
 have i17:w.cell? ⟨i,17,none⟩=some (.int .i64 D.head.page):=h.b.cell' rfl
 have i18:w.cell? ⟨i,18,none⟩=some (.int .i64 D.head.hpage):=h.b.cell' rfl
 have i19:w.cell? ⟨i,19,none⟩=some (.int .i64 D.head.hleft):=h.b.cell' rfl
 have i20:w.cell? ⟨i,20,none⟩=some (.string D.head.hkey):=h.b.cell' rfl
 have i21:w.cell? ⟨i,21,none⟩=some (.int .i64 D.head.nslot):=h.b.cell' rfl
 have i22:w.cell? ⟨i,22,none⟩=some (.int .i64 D.head.ngen):=h.b.cell' rfl
 have O0:=hid_ h.h
 rw [eh1,eh2] at O0
 have zh:=h.zh
 clear h hM hs hn hB eh1 eh2
 go_enter Tryz.func42,Tryz.ntmps42
 go_wp2_with fail
 refine (put_ok I0.out M0.out h0 h1 D.head Ah ch Eh dh O0.out zh HN.out.1 HN.out.2).mono ?_
 rintro e w1 ⟨sl,gn,kk,ss',v,a',rfl,hA,hev,hM1,hI1,hf1,hfl,hsm⟩
 have R1:=hid_ hA
 have EV:=hid_ hev
 have M1:=hid_ hM1
 have I1:=hid_ hI1
 have F1:=hid_ (And.intro hf1 (And.intro hfl hsm))
 clear hA hev hM1 hI1 hf1 hfl hsm O0 zh i5 i8 i9 i10 i11 i12 i13 i14 i15 i16 i17 i18 i19 i20 i21 i22
 rcases EV.out.nil_iff with ⟨rfl,rfl⟩ | ⟨hkk,b,rfl⟩
 ·replace I1:=hid_ (show Inst w1 B i { D with refs:=D.refs ++ [(sl,gn)] } a' from (by have hq:=I1.out;rwa [show putD D 0 sl gn={ D with refs:=D.refs ++ [(sl,gn)] } from if_pos rfl] at hq))
  have y5:=I1.out.b.frozen 5
  have i5:w1.cell? ⟨i,5,none⟩=some (.int .i64 D.stage):=I1.out.b.cell' rfl
  go_wp2_with fail
  have I2:=hid_ (I1.out.setStage 4)
  refine (over_ok I2.out.1).mono ?_
  rintro e w3 ⟨rfl,rfl⟩
  go_wp2_with fail
  go_ret
  have ef:fwd3D D 0 sl gn={ D with refs:=D.refs ++ [(sl,gn)],stage:=4 }:=if_pos rfl
  refine ⟨sl,gn,0,ss',a',by rw [ef];rfl,R1.out,M1.out.ty I2.out.2 I1.out.only_off,by rw [ef];exact I2.out.1,mf_tr F1.out.1 (mf_i I2.out.2),F1.out.2.1,F1.out.2.2.2.2.2.1,F1.out.2.2.1,F1.out.2.2.2.1,F1.out.2.2.2.2.1⟩
 ·have HK:=hid_ hkk
  clear hkk
  replace I1:=hid_ (show Inst w1 B i D a' from (by have hq:=I1.out;rwa [show putD D kk sl gn=D from if_neg HK.out] at hq))
  go_wp2_with fail
  refine (undo_ok _ kk I1.out EV.out.er).mono ?_
  rintro e w3 ⟨rfl,hI3,hf3⟩
  have I3:=hid_ (And.intro hI3 hf3)
  clear hI3 hf3
  go_wp2_with fail
  go_ret
  have ef:fwd3D D kk sl gn=undoD D kk:=if_neg HK.out
  refine ⟨sl,gn,kk,ss',{ a' with ev:=.iface 188 (.pointer (some ⟨b,0,none⟩)) },by rw [ef];rfl,R1.out,M1.out.ty I3.out.2 I1.out.only_off,by rw [ef];exact I3.out.1,mf_tr F1.out.1 (mf_i I3.out.2),F1.out.2.1,F1.out.2.2.2.2.2.1,F1.out.2.2.1,F1.out.2.2.2.1,F1.out.2.2.2.2.1⟩
open Go.RowKit

def fwd4D (D:Dt) (ok:Bool) (c:Int):Dt:=if ok=true then { D with stage:=7,done:=true } else undoD D c
def Fwd4 (m:Nat) (k:Int) (l:Lm) (x:St) (B i:Nat) (D:Dt) (a:Ia) (s g:Int) (w:World) (e:Ending) (w':World):Prop:=
  ∃ ok c ps' a',e=.returned (.bool ((fwd4D D ok c).stage==7))∧SwapR x.ps D.page D.os D.og s g ok c ps'∧Mm w' m (k+1) l { x with ps:=ps' }∧Inst w' B i (fwd4D D ok c) a'∧Fr (mf m x i a) w w'∧FootLe i a a' w∧(SameIa a a'∧a'.rv=a.rv)
theorem SwapR.err {ps:List Pg} {n a b c d:Int} {ok:Bool} {k:Int} {ps':List Pg} (h:SwapR ps n a b c d ok k ps') (hk:k≠0):ok=false:=by
  rcases h with ⟨i,s,g,_,_,_,h,_⟩ | ⟨_,h,_⟩
  · exact absurd h hk
  · exact h
theorem rf9_get:∀ (l:List (Int × Int)) (j:Nat) (p:Int × Int),l[j]?=some p→(rf9Flat l)[j * 2]?=some (.int .i64 p.1)∧(rf9Flat l)[j * 2+1]?=some (.int .i64 p.2)
  | [],j,p,h=>by simp at h
  | q :: l,0,p,h=>by
    obtain rfl:q=p:=by simpa using h
    simp [rf9Flat]
  | q :: l,j+1,p,h=>by
    have:=rf9_get l j p (by simpa using h)
    rw [show (j+1) * 2=j * 2+1+1 by omega]
    simpa [rf9Flat] using this
theorem last_row {l:List (Int × Int)} {j:Nat} {s g:Int} (hl:l.length=j+1) (hj:l[j]?=some (s,g)):(rf9Flat l)[j * 2]?=some (.int .i64 s)∧(rf9Flat l)[j * 2+1]?=some (.int .i64 g):=rf9_get l j (s,g) hj
set_option maxHeartbeats 8000000 in
theorem fwd4 {w:World} {m:Nat} {k:Int} {l:Lm} {x:St} {B i:Nat} {D:Dt} {a:Ia} (h:Inst w B i D a) (hM:Mm w m k l x) (h0:0≤k) (h1:k≤100000) (hs:D.stage=4) {j:Nat} {s g:Int} (hl:D.refs.length=j+1) (hj:D.refs[j]?=some (s,g)) :
  Calls Tryz.prog 42 #[.pointer (some ⟨i,0,none⟩),.pointer (some ⟨m,0,none⟩)] w (Fwd4 m k l x B i D a s g w):=by
 obtain ⟨A2,c2,e2,hcap,-,hcells⟩:=own_parts h.r
 obtain ⟨gb,rfl,hgb,hcc⟩:=hcells (by omega)
 have hz9:=h.zp.2.2
 have E1:=hid_ (And.intro e2 hs)
 have I0:=hid_ h
 have M0:=hid_ hM
 have i5:w.cell? ⟨i,5,none⟩=some (.int .i64 4):=by rw [← hs];exact h.b.cell' rfl
 have i0:w.cell? ⟨i,0,none⟩=some (.int .i64 D.page):=h.b.cell' rfl
 have i1:w.cell? ⟨i,1,none⟩=some (.int .i64 D.os):=h.b.cell' rfl
 have i2:w.cell? ⟨i,2,none⟩=some (.int .i64 D.og):=h.b.cell' rfl
 have i23:w.cell? ⟨i,23,none⟩=some (.slice (some ⟨gb,0,none⟩) (j+1) c2):=by rw [← hl,← e2];exact h.b.cell' rfl
 have g0:w.cell? ⟨gb,j * 2,none⟩=some (.int .i64 s):=hcc _ _ (last_row hl hj).1
 have g1:w.cell? ⟨gb,j * 2+1,none⟩=some (.int .i64 g):=hcc _ _ (last_row hl hj).2
 have hwj:IntKind.i64.wrap (j:Int)=(j:Int):=IntWalk.i64_in _ (by have:=h.zp.2.2;omega)
 have nI:¬ mall m x i∧¬ mall m x gb:=⟨hM.mall_ty h.b (by decide),by
  have hgk:a.rv.ownBlock=some gb:=by rw [e2];rfl
  obtain ⟨_,cs,hb⟩:=own_blk h.r hgk
  exact hM.mall_ty hb (by decide)⟩
 rw [hl] at hcap hz9
 clear h hM hs hl hj e2 hcc
 go_enter Tryz.func42,Tryz.ntmps42
 go_upto_region 4 with fail
 have hS0:(fun w':World=>Fr (mall m x) w w') w.drew:=(Fr.refl _ w).drew
 refine wp_region_U (m:=29) (S:=fun w':World=>Fr (mall m x) w w') (by kernel_rfl) ?_
 refine wpAnyU_take2 (i:=0) (v:=_) rfl (by kernel_rfl) (by kernel_rfl) (by kernel_rfl) (by kernel_rfl) (fun _ _ _ h=>h) (.inl ⟨by kernel_rfl,fun w' hS=>by go_simp;rfl⟩) hS0 ?_
 refine wpAnyU_take2 (i:=1) (v:=_) rfl (by kernel_rfl) (by kernel_rfl) (by kernel_rfl) (by kernel_rfl) (fun _ _ _ h=>h) (.inl ⟨by kernel_rfl,fun w' hS=>by go_simp;rfl⟩) hS0 ?_
 refine wpAnyU_take2 (i:=2) (v:=_) rfl (by kernel_rfl) (by kernel_rfl) (by kernel_rfl) (by kernel_rfl) (fun _ _ _ h=>h) (.inl ⟨by kernel_rfl,fun w' hS=>by go_simp;rfl⟩) hS0 ?_
 refine wpAnyU_take2 (i:=3) (v:=_) rfl (by kernel_rfl) (by kernel_rfl) (by kernel_rfl) (by kernel_rfl) (fun _ _ _ h=>h) (.inl ⟨by kernel_rfl,fun w' hS=>by go_simp;rfl⟩) hS0 ?_
 refine wpAnyU_take2 (i:=4) (v:=_) rfl (by kernel_rfl) (by kernel_rfl) (by kernel_rfl) (by kernel_rfl) (fun _ _ _ h=>h) (.inl ⟨by kernel_rfl,fun w' hS=>by go_simp;rfl⟩) hS0 ?_
 refine wpAnyU_take2 (i:=5) (v:=_) rfl (by kernel_rfl) (by kernel_rfl) (by kernel_rfl) (by kernel_rfl) (fun _ _ _ h=>h) (.inl ⟨by kernel_rfl,fun w' hS=>by have s_:=cellFrS i0 hS nI.1;go_simp;rfl⟩) hS0 ?_
 refine wpAnyU_take2 (i:=6) (v:=_) rfl (by kernel_rfl) (by kernel_rfl) (by kernel_rfl) (by kernel_rfl) (fun _ _ _ h=>h) (.inl ⟨by kernel_rfl,fun w' hS=>by go_simp;rfl⟩) hS0 ?_
 refine wpAnyU_take2 (i:=7) (v:=_) rfl (by kernel_rfl) (by kernel_rfl) (by kernel_rfl) (by kernel_rfl) (fun _ _ _ h=>h) (.inl ⟨by kernel_rfl,fun w' hS=>by go_simp;rfl⟩) hS0 ?_
 refine wpAnyU_take2 (i:=8) (v:=_) rfl (by kernel_rfl) (by kernel_rfl) (by kernel_rfl) (by kernel_rfl) (fun _ _ _ h=>h) (.inl ⟨by kernel_rfl,fun w' hS=>by go_simp;rfl⟩) hS0 ?_
 refine wpAnyU_take2 (i:=9) (v:=_) rfl (by kernel_rfl) (by kernel_rfl) (by kernel_rfl) (by kernel_rfl) (fun _ _ _ h=>h) (.inl ⟨by kernel_rfl,fun w' hS=>by go_simp;rfl⟩) hS0 ?_
 refine wpAnyU_take2 (i:=10) (v:=_) rfl (by kernel_rfl) (by kernel_rfl) (by kernel_rfl) (by kernel_rfl) (fun _ _ _ h=>h) (.inl ⟨by kernel_rfl,fun w' hS=>by have s_0:=cellFrS i1 hS nI.1;have s_1:=cellFrS i2 hS nI.1;go_simp;rfl⟩) hS0 ?_
 refine wpAnyU_take2 (i:=11) (v:=_) rfl (by kernel_rfl) (by kernel_rfl) (by kernel_rfl) (by kernel_rfl) (fun _ _ _ h=>h) (.inl ⟨by kernel_rfl,fun w' hS=>by go_simp;rfl⟩) hS0 ?_
 refine wpAnyU_take2 (i:=12) (v:=_) rfl (by kernel_rfl) (by kernel_rfl) (by kernel_rfl) (by kernel_rfl) (fun _ _ _ h=>h) (.inl ⟨by kernel_rfl,fun w' hS=>by go_simp;rfl⟩) hS0 ?_
 refine wpAnyU_take2 (i:=13) (v:=_) rfl (by kernel_rfl) (by kernel_rfl) (by kernel_rfl) (by kernel_rfl) (fun _ _ _ h=>h) (.inl ⟨by kernel_rfl,fun w' hS=>by go_simp;rfl⟩) hS0 ?_
 refine wpAnyU_take2 (i:=14) (v:=_) rfl (by kernel_rfl) (by kernel_rfl) (by kernel_rfl) (by kernel_rfl) (fun _ _ _ h=>h) (.inl ⟨by kernel_rfl,fun w' hS=>by have s_:=cellFrS i23 hS nI.1;go_simp;rfl⟩) hS0 ?_
 refine wpAnyU_take2 (i:=15) (v:=_) rfl (by kernel_rfl) (by kernel_rfl) (by kernel_rfl) (by kernel_rfl) (fun _ _ _ h=>h) (.inl ⟨by kernel_rfl,fun w' hS=>by go_simp;rfl⟩) hS0 ?_
 refine wpAnyU_take2 (i:=16) (v:=_) rfl (by kernel_rfl) (by kernel_rfl) (by kernel_rfl) (by kernel_rfl) (fun _ _ _ h=>h) (.inl ⟨by kernel_rfl,fun w' hS=>by go_simp;rfl⟩) hS0 ?_
 refine wpAnyU_take2 (i:=17) (v:=_) rfl (by kernel_rfl) (by kernel_rfl) (by kernel_rfl) (by kernel_rfl) (fun _ _ _ h=>h) (.inl ⟨by kernel_rfl,fun w' hS=>by go_simp;rfl⟩) hS0 ?_
 refine wpAnyU_take2 (i:=18) (v:=_) rfl (by kernel_rfl) (by kernel_rfl) (by kernel_rfl) (by kernel_rfl) (fun _ _ _ h=>h) (.inl ⟨by kernel_rfl,fun w' hS=>by have s_:=cellFrS i23 hS nI.1;go_simp;rfl⟩) hS0 ?_
 refine wpAnyU_take2 (i:=19) (v:=_) rfl (by kernel_rfl) (by kernel_rfl) (by kernel_rfl) (by kernel_rfl) (fun _ _ _ h=>h) (.inl ⟨by kernel_rfl,fun w' hS=>by go_simp;rfl⟩) hS0 ?_
 refine wpAnyU_take2 (i:=20) (v:=_) rfl (by kernel_rfl) (by kernel_rfl) (by kernel_rfl) (by kernel_rfl) (fun _ _ _ h=>h) (.inl ⟨by kernel_rfl,fun w' hS=>by have s_w:=hwj;go_simp;rfl⟩) hS0 ?_
 refine wpAnyU_take2 (i:=21) (v:=_) rfl (by kernel_rfl) (by kernel_rfl) (by kernel_rfl) (by kernel_rfl) (fun _ _ _ h=>h) (.inl ⟨by kernel_rfl,fun w' hS=>by have s_w:=hwj;have s_l:(j:Int) < (j:Int)+1:=Int.lt_succ _;go_simp;rfl⟩) hS0 ?_
 refine wpAnyU_take2 (i:=22) (v:=_) rfl (by kernel_rfl) (by kernel_rfl) (by kernel_rfl) (by kernel_rfl) (fun _ _ _ h=>h) (.inl ⟨by kernel_rfl,fun w' hS=>by have s_0:=cellFrS g0 hS nI.2;have s_1:=cellFrS g1 hS nI.2;go_simp;rfl⟩) hS0 ?_
 clear i0 i1 i2 i5 i23 g0 g1 hwj
 refine wpAnyU_oneW (i:=23) rfl (by kernel_rfl) (by kernel_rfl) ?_
 go_simp
 refine (memSwap_any m k l x _ (M0.out.keep (Fr.refl none_ w).drew) h0 h1 D.page D.os D.og s g).mono ?_
 rintro e w1 ⟨ok,c,ps',v,rfl,hR,hev,hM1,hf1⟩
 have R1:=hid_ hR
 have EV:=hid_ hev
 have M1:=hid_ hM1
 have fS:Fr (mall m x) w w1:=(Fr.refl (mall m x) w).drew.trans hf1 (fun _ _=>id) (fun _ _=>id)
 have I1:=hid_ (I0.out.mall M0.out fS)
 refine ⟨fS,?_⟩
 clear hR hev hM1 hf1 hS0
 refine wpAnyU_take2 (i:=24) (v:=_) rfl (by kernel_rfl) (by kernel_rfl) (by kernel_rfl) (by kernel_rfl) (fun _ _ _ h=>h) (.inl ⟨by kernel_rfl,fun w' hS=>by go_simp;rfl⟩) fS ?_
 refine wpAnyU_take2 (i:=25) (v:=_) rfl (by kernel_rfl) (by kernel_rfl) (by kernel_rfl) (by kernel_rfl) (fun _ _ _ h=>h) (.inl ⟨by kernel_rfl,fun w' hS=>by go_simp;rfl⟩) fS ?_
 refine wpAnyU_take2 (i:=26) (v:=_) rfl (by kernel_rfl) (by kernel_rfl) (by kernel_rfl) (by kernel_rfl) (fun _ _ _ h=>h) (.inl ⟨by kernel_rfl,fun w' hS=>by go_simp;rfl⟩) fS ?_
 refine wpAnyU_take2 (i:=27) (v:=_) rfl (by kernel_rfl) (by kernel_rfl) (by kernel_rfl) (by kernel_rfl) (fun _ _ _ h=>h) (.inl ⟨by kernel_rfl,fun w' hS=>by go_simp;rfl⟩) fS ?_
 refine wpAnyU_take2 (i:=28) (v:=_) rfl (by kernel_rfl) (by kernel_rfl) (by kernel_rfl) (by kernel_rfl) (fun _ _ _ h=>h) (.inl ⟨by kernel_rfl,fun w' hS=>by go_simp;rfl⟩) fS ?_
 refine wpAnyU_done (by kernel_rfl) ?_ _
 have FS:=hid_ fS
 clear fS
 cases ok with
 | true =>
  obtain rfl:c=0:=by
   rcases Int.decEq c 0 with hc | hc
   ·exact absurd (R1.out.err hc) (by simp)
   ·exact hc
  obtain rfl:v=.nilIface:=by
   rcases EV.out.nil_iff with ⟨_,h⟩ | ⟨h,_⟩
   ·exact h
   ·exact absurd rfl h
  have y5:=I1.out.b.frozen 5
  have y25:=I1.out.b.frozen 25
  have i5:w1.cell? ⟨i,5,none⟩=some (.int .i64 D.stage):=I1.out.b.cell' rfl
  have i25:w1.cell? ⟨i,25,none⟩=some (.bool D.done):=I1.out.b.cell' rfl
  go_wp2_with fail
  have I2:=hid_ I1.out.setEnd
  refine (over_ok I2.out.1).mono ?_
  rintro e w3 ⟨rfl,rfl⟩
  go_wp2_with fail
  go_ret
  have ef:fwd4D D true 0={ D with stage:=7,done:=true }:=if_pos rfl
  exact ⟨true,0,ps',a,by rw [ef];rfl,R1.out,M1.out.ty I2.out.2 I1.out.only_off,by rw [ef];exact I2.out.1,mf_tr (mf_m FS.out) (mf_i I2.out.2),FootLe.refl _ _ _,⟨rfl,rfl,rfl,rfl⟩,rfl⟩
 | false =>
  have ef:fwd4D D false c=undoD D c:=if_neg (by simp)
  rcases EV.out.nil_iff with ⟨rfl,rfl⟩ | ⟨hkk,b,rfl⟩
  ·go_wp2_with fail
   refine (undo_ok _ _ I1.out EV.out.er).mono ?_
   rintro e w3 ⟨rfl,hI3,hf3⟩
   have I3:=hid_ (And.intro hI3 hf3)
   clear hI3 hf3
   go_wp2_with fail
   go_ret
   exact ⟨false,0,ps',{ a with ev:=.nilIface },by rw [ef];rfl,R1.out,M1.out.ty I3.out.2 I1.out.only_off,by rw [ef];exact I3.out.1,mf_tr (mf_m FS.out) (mf_i I3.out.2),FootLe.refl _ _ _,⟨rfl,rfl,rfl,rfl⟩,rfl⟩
  ·go_wp2_with fail
   refine (undo_ok _ _ I1.out EV.out.er).mono ?_
   rintro e w3 ⟨rfl,hI3,hf3⟩
   have I3:=hid_ (And.intro hI3 hf3)
   clear hI3 hf3
   go_wp2_with fail
   go_ret
   exact ⟨false,c,ps',{ a with ev:=.iface 188 (.pointer (some ⟨b,0,none⟩)) },by rw [ef];rfl,R1.out,M1.out.ty I3.out.2 I1.out.only_off,by rw [ef];exact I3.out.1,mf_tr (mf_m FS.out) (mf_i I3.out.2),FootLe.refl _ _ _,⟨rfl,rfl,rfl,rfl⟩,rfl⟩
open Go.RowKit

theorem step_over {w:World} {B i:Nat} {D:Dt} {a:Ia} (v:Value) (h:Inst w B i D a) (hs:D.stage=7):Calls Tryz.prog 11 #[.pointer (some ⟨i,0,none⟩),v] w fun e w'=>e=.returned (.bool true)∧w=w':=by
  have H:=hid_ h
  have ho:(D.stage==7)=true:=by simp [hs]
  clear h hs
  go_enter Tryz.func11,Tryz.ntmps11
  go_wp2_with fail
  refine (over_ok H.out).mono ?_
  rintro e w1 ⟨rfl,rfl⟩
  go_wp2_with fail
  go_ret
  exact ⟨rfl,rfl⟩
theorem step_fwd {w:World} {B i:Nat} {D:Dt} {a:Ia} {v:Value} {Post:Ending→World→Prop} (h:Inst w B i D a) (h7:D.stage≠7) (h5:D.stage≠5) (h6:D.stage≠6) (hf:Calls Tryz.prog 42 #[.pointer (some ⟨i,0,none⟩),v] w Post) (hp:∀ e w',Post e w'→∃ b,e=.returned (.bool b)):Calls Tryz.prog 11 #[.pointer (some ⟨i,0,none⟩),v] w Post:=by
  have H:=hid_ h
  have HF:=hid_ hf
  have HP:=hid_ hp
  have d7:(D.stage==7)=false:=by simp [h7]
  have d5:(D.stage==5)=false:=by simp [h5]
  have d6:(D.stage==6)=false:=by simp [h6]
  have i5:w.cell? ⟨i,5,none⟩=some (.int .i64 D.stage):=h.b.cell' rfl
  clear h h7 h5 h6 hf hp
  go_enter Tryz.func11,Tryz.ntmps11
  go_wp2_with fail
  refine (over_ok H.out).mono ?_
  rintro e w1 ⟨rfl,rfl⟩
  go_wp2_with fail
  refine HF.out.mono ?_
  intro e w2 h2
  obtain ⟨b,rfl⟩:=HP.out e w2 h2
  have H2:=hid_ h2
  clear h2
  go_wp2_with fail
  exact H2.out
theorem done_ok {w:World} {B i:Nat} {D:Dt} {a:Ia} (h:Inst w B i D a) (hs:D.stage=7):Calls Tryz.prog 14 #[.pointer (some ⟨i,0,none⟩)] w fun e w'=>e=.returned (.tuple #[.bool D.done,a.ev])∧Fr none_ w w':=by
  have H:=hid_ h
  have ho:(D.stage==7)=true:=by simp [hs]
  have i25:w.cell? ⟨i,25,none⟩=some (.bool D.done):=h.b.cell' rfl
  have i26:w.cell? ⟨i,26,none⟩=some a.ev:=h.b.cell' rfl
  have hsh:=h.e.shape
  clear h hs
  rcases hsh with h | ⟨t,x,h⟩
  all_goals
    rw [h] at i26 ⊢
    clear h
    go_enter Tryz.func14,Tryz.ntmps14
    go_wp2_with fail
    refine (over_ok H.out).mono ?_
    rintro e w1 ⟨rfl,rfl⟩
    go_wp2_with fail
    go_quiet (fail)
    go_wp2_with fail
    go_ret2
    exact ⟨rfl,by first | exact Fr.refl _ _ | exact (Fr.refl _ _).drew | exact (Fr.refl _ _).drewN _⟩
theorem done_busy {w:World} {B i:Nat} {D:Dt} {a:Ia} (h:Inst w B i D a) (hs:D.stage≠7):Calls Tryz.prog 14 #[.pointer (some ⟨i,0,none⟩)] w fun e w'=>e=.returned (.tuple #[.bool false,errV 11])∧w=w':=by
  have H:=hid_ h
  have ho:(D.stage==7)=false:=by simp [hs]
  clear h hs
  go_enter Tryz.func14,Tryz.ntmps14
  go_wp2_with fail
  refine (over_ok H.out).mono ?_
  rintro e w1 ⟨rfl,rfl⟩
  go_wp2_with fail
  go_ret2
  exact ⟨rfl,rfl⟩
theorem ihead_ok {w:World} {B i:Nat} {D:Dt} {a:Ia} (h:Inst w B i D a) (hd:D.done=true) {j:Nat} {s g:Int} (hl:D.refs.length=j+1) (hj:D.refs[j]?=some (s,g)):Calls Tryz.prog 17 #[.pointer (some ⟨i,0,none⟩)] w fun e w'=>e=.returned (.agg #[.int .i64 s,.int .i64 g])∧Fr none_ w w':=by
 obtain ⟨A2,c2,e2,hcap,-,hcells⟩:=own_parts h.r
 obtain ⟨gb,rfl,hgb,hcc⟩:=hcells (by omega)
 have hwj:IntKind.i64.wrap (j:Int)=(j:Int):=IntWalk.i64_in _ (by have:=h.zp.2.2;omega)
 have f0:Fr none_ w (w.alloc (.cells #[.int .i64 0,.int .i64 0] 48)):=(Fr.refl none_ w).alloc _
 have i23:w.cell? ⟨i,23,none⟩=some (.slice (some ⟨gb,0,none⟩) (j+1) c2):=by rw [← hl,← e2];exact h.b.cell' rfl
 have i25:w.cell? ⟨i,25,none⟩=some (.bool true):=by rw [← hd];exact h.b.cell' rfl
 have g0:w.cell? ⟨gb,j * 2,none⟩=some (.int .i64 s):=hcc _ _ (last_row hl hj).1
 have g1:w.cell? ⟨gb,j * 2+1,none⟩=some (.int .i64 g):=hcc _ _ (last_row hl hj).2
 replace i23:=cellFr i23 f0
 replace i25:=cellFr i25 f0
 replace g0:=cellFr g0 f0
 replace g1:=cellFr g1 f0
 have K:=Blk.new w 48 #[.int .i64 0,.int .i64 0]
 have KK:=hid_ K
 have hcap2:j+1≤c2:=by rw [hl] at hcap;exact hcap
 clear h hd hl hj e2 hcc hcap K
 obtain ⟨w0,hw0⟩:∃ z,z=w.alloc (.cells #[.int .i64 0,.int .i64 0] 48):=⟨_,rfl⟩
 have F0:=hid_ f0
 rw [← hw0] at i23 i25 g0 g1 KK F0
 clear f0
 go_enter Tryz.func17,Tryz.ntmps17
 go_upto_region 1 with fail
 change Code.wp _ _ _ _ (w.alloc (.cells #[.int .i64 0,.int .i64 0] 48))
 rw [← hw0]
 clear hw0
 go_upto_region 3 with fail
 have hS0:(fun w':World=>Fr none_ w0 w') w0.drew:=(Fr.refl none_ w0).drew
 refine wp_region_U (m:=12) (S:=fun w':World=>Fr none_ w0 w') (by kernel_rfl) ?_
 refine wpAnyU_take2 (i:=0) (v:=_) rfl (by kernel_rfl) (by kernel_rfl) (by kernel_rfl) (by kernel_rfl) (fun _ _ _ h=>h) (.inl ⟨by kernel_rfl,fun w' hS=>by go_simp;rfl⟩) hS0 ?_
 refine wpAnyU_take2 (i:=1) (v:=_) rfl (by kernel_rfl) (by kernel_rfl) (by kernel_rfl) (by kernel_rfl) (fun _ _ _ h=>h) (.inl ⟨by kernel_rfl,fun w' hS=>by go_simp;rfl⟩) hS0 ?_
 refine wpAnyU_take2 (i:=2) (v:=_) rfl (by kernel_rfl) (by kernel_rfl) (by kernel_rfl) (by kernel_rfl) (fun _ _ _ h=>h) (.inl ⟨by kernel_rfl,fun w' hS=>by go_simp;rfl⟩) hS0 ?_
 refine wpAnyU_take2 (i:=3) (v:=_) rfl (by kernel_rfl) (by kernel_rfl) (by kernel_rfl) (by kernel_rfl) (fun _ _ _ h=>h) (.inl ⟨by kernel_rfl,fun w' hS=>by have s_:=cellFr i23 hS;go_simp;rfl⟩) hS0 ?_
 refine wpAnyU_take2 (i:=4) (v:=_) rfl (by kernel_rfl) (by kernel_rfl) (by kernel_rfl) (by kernel_rfl) (fun _ _ _ h=>h) (.inl ⟨by kernel_rfl,fun w' hS=>by go_simp;rfl⟩) hS0 ?_
 refine wpAnyU_take2 (i:=5) (v:=_) rfl (by kernel_rfl) (by kernel_rfl) (by kernel_rfl) (by kernel_rfl) (fun _ _ _ h=>h) (.inl ⟨by kernel_rfl,fun w' hS=>by go_simp;rfl⟩) hS0 ?_
 refine wpAnyU_take2 (i:=6) (v:=_) rfl (by kernel_rfl) (by kernel_rfl) (by kernel_rfl) (by kernel_rfl) (fun _ _ _ h=>h) (.inl ⟨by kernel_rfl,fun w' hS=>by go_simp;rfl⟩) hS0 ?_
 refine wpAnyU_take2 (i:=7) (v:=_) rfl (by kernel_rfl) (by kernel_rfl) (by kernel_rfl) (by kernel_rfl) (fun _ _ _ h=>h) (.inl ⟨by kernel_rfl,fun w' hS=>by have s_:=cellFr i23 hS;go_simp;rfl⟩) hS0 ?_
 refine wpAnyU_take2 (i:=8) (v:=_) rfl (by kernel_rfl) (by kernel_rfl) (by kernel_rfl) (by kernel_rfl) (fun _ _ _ h=>h) (.inl ⟨by kernel_rfl,fun w' hS=>by go_simp;rfl⟩) hS0 ?_
 refine wpAnyU_take2 (i:=9) (v:=_) rfl (by kernel_rfl) (by kernel_rfl) (by kernel_rfl) (by kernel_rfl) (fun _ _ _ h=>h) (.inl ⟨by kernel_rfl,fun w' hS=>by have s_w:=hwj;go_simp;rfl⟩) hS0 ?_
 refine wpAnyU_take2 (i:=10) (v:=_) rfl (by kernel_rfl) (by kernel_rfl) (by kernel_rfl) (by kernel_rfl) (fun _ _ _ h=>h) (.inl ⟨by kernel_rfl,fun w' hS=>by have s_w:=hwj;have s_l:(j:Int) < (j:Int)+1:=Int.lt_succ _;go_simp;rfl⟩) hS0 ?_
 refine wpAnyU_take2 (i:=11) (v:=_) rfl (by kernel_rfl) (by kernel_rfl) (by kernel_rfl) (by kernel_rfl) (fun _ _ _ h=>h) (.inl ⟨by kernel_rfl,fun w' hS=>by have s_0:=cellFr g0 hS;have s_1:=cellFr g1 hS;go_simp;rfl⟩) hS0 ?_
 clear hS0 i23 i25 g0 g1 hwj
 have y0:=KK.out.frozen 0
 have y1:=KK.out.frozen 1
 have z0:w0.cell? ⟨w.heap.size,0,none⟩=some (.int .i64 0):=KK.out.cell' rfl
 have z1:w0.cell? ⟨w.heap.size,1,none⟩=some (.int .i64 0):=KK.out.cell' rfl
 refine wpAnyU_oneW (i:=12) rfl (by kernel_rfl) (by kernel_rfl) ?_
 go_simp
 clear y0 y1 z0 z1
 obtain ⟨qb,qf⟩:=box2 KK.out (.int .i64 s) (.int .i64 g)
 obtain ⟨w5,hw5⟩:∃ z,z=((w0.setCell ⟨w.heap.size,0,none⟩ (.int .i64 s)).setCell ⟨w.heap.size,1,none⟩ (.int .i64 g)).drew:=⟨_,rfl⟩
 have qb2:Blk w5 w.heap.size 48 #[.int .i64 s,.int .i64 g]:=by rw [hw5];exact qb.drew
 have HQ:Hid (Fr (only w.heap.size) w0 w5):=hid_ (by rw [hw5];exact qf.drew)
 rw [← hw5]
 clear hw5 qb qf
 have q0:=qb2.cell' (i:=0) rfl
 have q1:=qb2.cell' (i:=1) rfl
 refine wpAnyU_done (by kernel_rfl) ?_ _
 go_wp2_with fail
 refine bodyPost_ret (v:=.agg #[.int .i64 s,.int .i64 g]) ?_ rfl ⟨rfl,F0.out.then_only HQ.out (.inr (Nat.le_refl _))⟩
 simp [results,Tryz.results17,go_sem,q0,q1]
end Go.Proofs.YthcpccddcgbanaaGreatDoor
