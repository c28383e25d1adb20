/- Texts of one proof, merged: ErrOf, Code, Map2, Map3, Rt10, Rt10b, Rt10c, Rt10d, Rt10e, At. -/
import Derived.Deep.RegionHeld3
import Derived.Deep.RegionLaw
import Derived.Deep.RegionWith
import Derived.Deep.MidRow
import Derived.Test.YthcpccddcgbanaaGreatDoorPiA
import Derived.Test.YthcpccddcgbanaaGreatDoorPiC
import Derived.Test.YthcpccddcgbanaaGreatDoorPiH
namespace Go.Proofs.YthcpccddcgbanaaGreatDoor
set_option maxRecDepth 100000
set_option linter.unusedVariables false
open Go.RowKit

def errOf (k:Int):Value:=if k=0 then .nilIface else errV k
theorem errOf_pos {k:Int} (h:k≠0):errOf k=errV k:=if_neg h
open Go.RowKit

def Laid (w:World):Prop:=w.cell? ⟨0,0,none⟩=some (.iface 194 (.agg #[.pointer (some ⟨1,30,none⟩)]))
theorem Laid.lt {w:World} (h:Laid w):0 < w.heap.size:=World.block_lt_of_cell? w _ h
theorem Laid.fr {w w':World} {S:Nat→Prop} (h:Laid w) (hf:Fr S w w') (hS:¬ S 0):Laid w':=
  (World.cell?_of_block (hf.block 0 h.lt hS)).trans h
theorem Laid.alloc {w:World} (h:Laid w) (o:Obj):Laid (w.alloc o):=h.fr ((Fr.refl none_ w).alloc o) id

theorem code_nil (w:World):Calls Tryz.prog 19 #[.nilIface] w fun e w'=>e=.returned (.int .i64 0)∧Fr none_ w w':=by
  go_enter Tryz.func19,Tryz.ntmps19
  go_wp2_with (go_at_call 57;refine (as_nil _ _).mono ?_;rintro e w' ⟨rfl,rfl⟩)
  go_ret
  exact ⟨rfl,by repeat (first | exact Fr.refl _ _ | apply Fr.drew | apply Fr.alloc)⟩

open Go.RowKit

theorem page_info:(Tryz.prog.info? 149).map (fun i=>(i.zero,i.size,i.bytes))=some (some (.agg #[.bool false,.int .i64 0,.int .i64 0]),3,24):=by kernel_rfl

theorem run_make_rowN {P:Program} (t e:TypeId) (i:TypeInfo) (z:Value) (ht:P.underlying t=some (.slice e)) (hi:P.info? e=some i) (hz:i.zero=some z)
    (kl kc:IntKind) (n c:Nat) (hnc:n≤c) (hbytes:i.bytes * c≤281474976710656) (h63:c≤9223372036854775807) (w:World) :
    (Instr.makeSlice t (.int kl (n:Int)) (.int kc (c:Int))).run P w=.ok (.slice (some ⟨w.heap.size,0,none⟩) n c) (w.alloc (.cells (madeCells z.cells (c * i.size)) e)):=by
  have hb:(i.bytes:Int) * (c:Int)≤281474976710656:=by
    have h:((i.bytes * c:Nat):Int)≤281474976710656:=by omega
    rwa [Int.natCast_mul] at h
  have hr:=run_make (P:=P) w t e i z ht hi hz kl kc n c (by omega) (by omega) hb (by omega)
  simp only [Int.toNat_natCast] at hr
  exact hr

theorem madeCells3 (a b c:Value) (n i:Nat) (hi:i < n):(madeCells #[a,b,c] (n * 3))[i * 3]?=some a∧(madeCells #[a,b,c] (n * 3))[i * 3+1]?=some b∧(madeCells #[a,b,c] (n * 3))[i * 3+1+1]?=some c:=by
  have h0:i * 3 < n * 3:=by omega
  have h1:i * 3+1 < n * 3:=by omega
  have h2:i * 3+1+1 < n * 3:=by omega
  refine ⟨?_,?_,?_⟩
  · simp [madeCells,h0]
  · have:(i * 3+1) % 3=1:=by omega
    simp [madeCells,h1,this]
  · have:(i * 3+1+1) % 3=2:=by omega
    simp [madeCells,h2,this]

def NewPost (n:Nat) (w:World) (e:Ending) (w':World):Prop:=
  e=.returned (.pointer (some ⟨w.heap.size+1,0,none⟩))∧Tbl w' (w.heap.size+1) w.heap.size (List.replicate n (false,0,0))∧Fr none_ w w'∧w'.heap.size=w.heap.size+2

theorem mapNew_ok (n:Nat) (w:World) (h1:1≤n) (h2:n≤256):Calls Tryz.prog 26 #[.int .i64 n] w (NewPost n w):=by
  have hfin:NewPost n w (.returned (.pointer (some ⟨w.heap.size+1,0,none⟩))) ((w.alloc (.cells (madeCells #[.bool false,.int .i64 0,.int .i64 0] (n * 3)) 149)).alloc (.cells #[.slice (some ⟨w.heap.size,0,none⟩) n n] 141)):=by
    refine ⟨rfl,⟨n,madeCells #[.bool false,.int .i64 0,.int .i64 0] (n * 3),?_,?_,by simpa using h2,by simp,by unfold maxLen;omega,by simp [size_madeCells],?_⟩,((Fr.refl _ _).alloc _).alloc _,by simp⟩
    · have:=Blk.new (w.alloc (.cells (madeCells #[.bool false,.int .i64 0,.int .i64 0] (n * 3)) 149)) 141 #[.slice (some ⟨w.heap.size,0,none⟩) n n]
      simpa using this
    · exact (Blk.new w _ _).alloc _
    · intro i p hi
      obtain ⟨hlt,rfl⟩:i < n∧p=(false,0,0):=by
        rw [List.getElem?_replicate] at hi
        split at hi
        · exact ⟨by assumption,by simpa using hi.symm⟩
        · cases hi
      exact madeCells3 _ _ _ n i hlt
  obtain ⟨i0,hi0,hz0,hs0,hb0⟩:=info_parts page_info
  have hmk:=fun W=>run_make_rowN (P:=Tryz.prog) 139 149 i0 _ Tryz.underlying139 hi0 hz0 .i64 .i64 n n (Nat.le_refl _) (by rw [hb0];omega) (by omega) W
  rw [hs0] at hmk
  simp only [Value.cells] at hmk
  have H:=hid_ hfin
  clear hfin hi0 hz0 hs0 hb0
  go_enter Tryz.func26,Tryz.ntmps26
  go_wp2
  go_ret
  exact H.out

theorem take_full (T G:Nat) (ps:List Pg) (w:World) (h:Tbl w T G ps) (hu:∀ (j:Nat) (p:Pg),ps[j]?=some p→p.1=true) :
    Calls Tryz.prog 29 #[.pointer (some ⟨T,0,none⟩)] w fun e w'=>e=.returned (.tuple #[.int .i64 0,errV 3])∧w=w':=by
  obtain ⟨cap,cur,hT,hG,h1,h2,h3,h4,h5⟩:=h
  have c0:w.cell? ⟨T,0,none⟩=some (.slice (some ⟨G,0,none⟩) ps.length cap):=hT.cell' (i:=0) rfl
  have hc:∀ k,k < ps.length→w.cell? ⟨G,k * 3,none⟩=some (.bool true):=fun k hk=>by
    have hi:ps[k]?=some ps[k]:=List.getElem?_eq_getElem hk
    have:=hG.cell' (h5 k _ hi).1
    rwa [hu k _ hi] at this
  have Hc:=hid_ hc
  clear hT hG h5 hu hc
  go_enter Tryz.func29,Tryz.ntmps29
  go_wp2
  go_loop [13] (fun i=>∃ k:Nat,k≤ps.length∧i=.int .i64 k) (fun i=>ps.length - (intOf i).toNat)
  case atStart=>exact ⟨0,Nat.zero_le _,rfl⟩
  case round =>
    obtain ⟨k,hk,rfl⟩:=hrel
    by_cases hlt:k < ps.length
    · have hcx:=Hc.out k hlt
      go_wp2
      go_round
      case rel=>exact ⟨k+1,by omega,by go_num⟩
      case measure=>simp [intOf];omega
    · go_wp2
      go_ret2
      exact ⟨rfl,rfl⟩

theorem mtake_ok (T G:Nat) (ps:List Pg) (n:Nat) (s g:Int) (w:World) (h:Tbl w T G ps) (hn:ps[n]?=some (false,s,g)) (hu:∀ (j:Nat) (p:Pg),j < n→ps[j]?=some p→p.1=true) :
    Calls Tryz.prog 29 #[.pointer (some ⟨T,0,none⟩)] w fun e w'=>e=.returned (.tuple #[.int .i64 n,.nilIface])∧w'=setPg w G n (true,0,0):=by
  obtain ⟨cap,cur,hT,hG,h1,h2,h3,h4,h5⟩:=h
  have hnl:n < ps.length:=(List.getElem?_eq_some_iff.1 hn).1
  have c0:w.cell? ⟨T,0,none⟩=some (.slice (some ⟨G,0,none⟩) ps.length cap):=hT.cell' (i:=0) rfl
  have hc:∀ k,k < n→w.cell? ⟨G,k * 3,none⟩=some (.bool true):=fun k hk=>by
    have hi:ps[k]?=some ps[k]:=List.getElem?_eq_getElem (by omega)
    have:=hG.cell' (h5 k _ hi).1
    rwa [hu k _ hk hi] at this
  obtain ⟨d0,d1,d2⟩:=h5 n _ hn
  have e0:=hG.cell' d0
  have e1:=hG.cell' d1
  have e2:=hG.cell' d2
  have f:=hG.frozen
  have f0:=f (n * 3)
  have f1:=f (n * 3+1)
  have f2:=f (n * 3+1+1)
  have Hc:=hid_ hc
  clear hT hG h5 hu hc hn f d0 d1 d2
  go_enter Tryz.func29,Tryz.ntmps29
  go_wp2
  go_loop [13] (fun i=>∃ k:Nat,k≤n∧i=.int .i64 k) (fun i=>ps.length - (intOf i).toNat)
  case atStart=>exact ⟨0,Nat.zero_le _,rfl⟩
  case round =>
    obtain ⟨k,hk,rfl⟩:=hrel
    by_cases hlt:k < n
    · have hcx:=Hc.out k hlt
      go_wp2
      go_round
      case rel=>exact ⟨k+1,by omega,by go_num⟩
      case measure=>simp [intOf];omega
    · obtain rfl:k=n:=by omega
      go_wp2
      go_ret2
      exact ⟨rfl,rfl⟩
open Go.RowKit

theorem int_info:(Tryz.prog.info? 3).map (fun i=>(i.zero,i.size,i.bytes))=some (some (.int .i64 0),1,8):=by kernel_rfl

def usedTo (ps:List Pg) (k:Nat):List Nat:=(List.range k).filter fun i=>(ps[i]?.map (·.1)).getD false
theorem usedTo_hit (ps:List Pg) (k:Nat) (h:(ps[k]?.map (·.1)).getD false=true):usedTo ps (k+1)=usedTo ps k ++ [k]:=by
  simp [usedTo,List.range_succ,List.filter_append,h]
theorem usedTo_miss (ps:List Pg) (k:Nat) (h:(ps[k]?.map (·.1)).getD false=false):usedTo ps (k+1)=usedTo ps k:=by
  simp [usedTo,List.range_succ,List.filter_append,h]
theorem usedTo_le (ps:List Pg) (k:Nat):(usedTo ps k).length≤k:=by
  have:=List.length_filter_le (fun i=>(ps[i]?.map (·.1)).getD false) (List.range k)
  simpa [usedTo] using this
def ints (l:List Nat):List Value:=l.map fun (i:Nat)=>.int .i64 (i:Int)

def PagesPost (ps:List Pg) (w:World) (e:Ending) (w':World):Prop:=
  ∃ A c,e=.returned (.slice A (usedTo ps ps.length).length c)∧w'.ownsRow w.heap.size 3 1 (.slice A (usedTo ps ps.length).length c) (usedTo ps ps.length).length (ints (usedTo ps ps.length))∧Fr none_ w w'

theorem pages_ok (T G:Nat) (ps:List Pg) (w:World) (h:Tbl w T G ps) :
  Calls Tryz.prog 74 #[.pointer (some ⟨T,0,none⟩)] w (PagesPost ps w):=by
 obtain ⟨i0,hi0,hz0,hs0,hb0⟩:=info_parts int_info
 obtain ⟨cap,cur,hT,hG,h1,h2,h3,h4,h5⟩:=h
 have c0:w.cell? ⟨T,0,none⟩=some (.slice (some ⟨G,0,none⟩) ps.length cap):=hT.cell' (i:=0) rfl
 have hgl:=hG.lt
 have hc:∀ k,k < ps.length→w.cell? ⟨G,k * 3,none⟩=some (.bool ((ps[k]?.map (·.1)).getD false))∧(∃ u,w.cell? ⟨G,k * 3+1,none⟩=some (.int .i64 u))∧(∃ u,w.cell? ⟨G,k * 3+1+1,none⟩=some (.int .i64 u)):=fun k hk=>by
  have hi:ps[k]?=some ps[k]:=List.getElem?_eq_getElem hk
  obtain ⟨d0,d1,d2⟩:=h5 k _ hi
  exact ⟨by simpa [hi] using hG.cell' d0,⟨_,hG.cell' d1⟩,⟨_,hG.cell' d2⟩⟩
 have Hc:=hid_ hc
 have Hi:=hid_ (And.intro hi0 (And.intro hz0 (And.intro hs0 hb0)))
 clear hT hG h5 hc hi0 hz0 hs0 hb0
 go_enter Tryz.func74,Tryz.ntmps74
 go_wp2
 go_loopw [3,13] (fun v i wr=>∃ k:Nat,k≤ps.length∧i=.int .i64 k∧wr.ownsRow w.heap.size 3 1 v (usedTo ps k).length (ints (usedTo ps k))∧Fr none_ w wr) (fun _ i _=>ps.length - (intOf i).toNat)
 case atStart=>exact ⟨0,Nat.zero_le _,rfl,World.ownsRow_nil w w.heap.size 3 1,Fr.refl _ _⟩
 case round =>
  obtain ⟨k,hk,rfl,hown,hfr⟩:=hrel
  have hsz:=hfr.size
  have hul:=usedTo_le ps k
  by_cases hlt:k < ps.length
  ·obtain ⟨g0,⟨u1,g1⟩,⟨u2,g2⟩⟩:=Hc.out k hlt
   have b1:=hfr.below0
   have c1:wr.cell? ⟨G,k * 3,none⟩=_:=(b1.cell (p:=⟨G,k * 3,none⟩) hgl).trans g0
   have c2:wr.cell? ⟨G,k * 3+1,none⟩=_:=(b1.cell (p:=⟨G,k * 3+1,none⟩) hgl).trans g1
   have c3:wr.cell? ⟨G,k * 3+1+1,none⟩=_:=(b1.cell (p:=⟨G,k * 3+1+1,none⟩) hgl).trans g2
   have Ho:=hid_ hown
   have Hf:=hid_ hfr
   clear g0 g1 g2 b1 hown hfr
   generalize hub:(ps[k]?.map (·.1)).getD false=b at c1
   cases b with
   | false =>
    have Hm:=hid_ (usedTo_miss ps k hub)
    clear hub
    go_wp2
    go_roundw
    case rel=>exact ⟨k+1,by omega,by go_num,by rw [Hm.out];exact (Ho.out.alloc _),Hf.out.alloc _⟩
    case measure=>simp [intOf];omega
   | true =>
    have Hm:=hid_ (usedTo_hit ps k hub)
    clear hub
    go_wp2_with (at_builtin;refine wpList_append_own _ rfl _ _ 39 rfl w.heap.size 3 i0 (.int .i64 0) 1 8 Tryz.underlying39 Hi.out.1 Hi.out.2.1 Hi.out.2.2.1 Hi.out.2.2.2 rfl (by decide) _ _ _ rfl ((Ho.out.alloc _).alloc _) ⟨wr.heap.size+1,0,none⟩ 1 1 [.int .i64 k] rfl rfl ?c1 ?c2 ?c3 ?c4 ?c5 ?_)
    case c1=>exact one_new_at _ _ _ _ (by simp)
    case c2=>intro u hu;simp at hu;subst hu;rfl
    case c3=>unfold maxLen;omega
    case c4=>omega
    case c5=>simp;omega
    intro v' w1 hown1 hgr _
    have R:w1.ownsRow w.heap.size 3 1 v' (usedTo ps (k+1)).length (ints (usedTo ps (k+1)))∧Fr none_ w w1:=by
     refine ⟨?_,((Hf.out.alloc _).alloc _).grown hgr (fun b hb=>.inr (Ho.out.lt b hb).1)⟩
     rw [Hm.out]
     simpa [ints] using hown1
    have HR:=hid_ R
    clear R hown1 hgr
    go_wp2
    go_roundw
    case rel=>exact ⟨k+1,by omega,by go_num,HR.out.1,HR.out.2⟩
    case measure=>simp [intOf];omega
  ·obtain rfl:k=ps.length:=by omega
   have Ho:=hid_ hown
   have Hf:=hid_ hfr
   clear hown hfr
   go_wp2
   go_ret
   obtain ⟨A,c,hv⟩:=Ho.out.shape
   have hx:=Ho.out
   rw [hv] at hx
   exact ⟨A,c,by rw [← hv];rfl,hx,Hf.out⟩
open Go.RowKit

abbrev Rp:=Int × Int × Int
def rtFlat (L:List Rp):List Value:=L.flatMap fun p=>[.int .i64 p.1,.int .i64 p.2.1,.int .i64 p.2.2]
theorem rtFlat_get:∀ (L:List Rp) (i:Nat) (p:Rp),L[i]?=some p→(rtFlat L)[i * 3]?=some (.int .i64 p.1)∧(rtFlat L)[i * 3+1]?=some (.int .i64 p.2.1)∧(rtFlat L)[i * 3+1+1]?=some (.int .i64 p.2.2)
  | [],i,p,h=>by simp at h
  | q :: L,0,p,h=>by
    obtain rfl:q=p:=by simpa using h
    simp [rtFlat]
  | q :: L,i+1,p,h=>by
    have:=rtFlat_get L i p (by simpa using h)
    rw [show (i+1) * 3=i * 3+1+1+1 by omega]
    simpa [rtFlat,List.flatMap_cons] using this
theorem rtFlat_app (L M:List Rp):rtFlat (L ++ M)=rtFlat L ++ rtFlat M:=by simp [rtFlat]
theorem rtFlat_take (L:List Rp) (i:Nat):rtFlat (L.take i)=(rtFlat L).take (i * 3):=by
  induction L generalizing i with
  | nil=>simp [rtFlat]
  | cons p L ih =>
    cases i with
    | zero=>simp [rtFlat]
    | succ i =>
      have:=ih i
      rw [show (i+1) * 3=i * 3+3 by omega]
      simp only [rtFlat,List.take_succ_cons,List.flatMap_cons,List.cons_append,List.nil_append] at *
      rw [this]
theorem rtFlat_drop (L:List Rp) (i:Nat):rtFlat (L.drop i)=(rtFlat L).drop (i * 3):=by
  induction L generalizing i with
  | nil=>simp [rtFlat]
  | cons p L ih =>
    cases i with
    | zero=>simp [rtFlat]
    | succ i =>
      have:=ih i
      rw [show (i+1) * 3=i * 3+3 by omega]
      simp only [rtFlat,List.drop_succ_cons,List.flatMap_cons,List.cons_append,List.nil_append] at *
      rw [this]
theorem rtFlat_one (L:List Rp):∀ u ∈ rtFlat L,u.oneCell'=true:=by
  intro u hu
  simp only [rtFlat,List.mem_flatMap,List.mem_cons,List.not_mem_nil,or_false] at hu
  obtain ⟨p,_,rfl | rfl | rfl⟩:=hu <;> rfl

def findL:List Rp→Int→Int
  | [],_=>-1
  | p :: L,n=>if p.1=n then 0 else if findL L n < 0 then -1 else findL L n+1
theorem findL_ge (L:List Rp) (n:Int):-1≤findL L n∧findL L n < L.length:=by
  induction L with
  | nil=>simp [findL]
  | cons p L ih=>simp only [findL,List.length_cons];split <;> (try split) <;> omega
theorem findL_at:∀ (L:List Rp) (n:Int) (i:Nat) (p:Rp),L[i]?=some p→p.1=n→(∀ j q,j < i→L[j]?=some q→q.1≠n)→findL L n=i
  | [],n,i,p,h,_,_=>by simp at h
  | q :: L,n,0,p,h,hp,_=>by
    obtain rfl:q=p:=by simpa using h
    simp [findL,hp]
  | q :: L,n,i+1,p,h,hp,hb=>by
    have h0:q.1≠n:=hb 0 q (by omega) rfl
    have:=findL_at L n i p (by simpa using h) hp (fun j r hj hr=>hb (j+1) r (by omega) (by simpa using hr))
    simp only [findL,if_neg h0,this]
    rw [if_neg (by omega)]
    omega
theorem findL_no (L:List Rp) (n:Int) (h:∀ p ∈ L,p.1≠n):findL L n=-1:=by
  induction L with
  | nil=>rfl
  | cons p L ih=>simp [findL,h p (by simp),ih (fun q hq=>h q (by simp [hq]))]

abbrev ROwn (w:World) (v:Value) (L:List Rp):Prop:=w.ownsRow 0 159 3 v L.length (rtFlat L)
abbrev rtab (count:Int) (v:Value):Value:=.agg #[.int .i64 count,v]
abbrev rbox (count:Int) (v:Value):Obj:=.cells #[.int .i64 count,v] 38

theorem rown_cell {w:World} {A:Option Addr} {c:Nat} {L:List Rp} (h:ROwn w (.slice A L.length c) L):0 < L.length→∃ g,A=some ⟨g,0,none⟩∧g < w.heap.size∧∀ i p,L[i]?=some p →
    w.cell? ⟨g,i * 3,none⟩=some (.int .i64 p.1)∧w.cell? ⟨g,i * 3+1,none⟩=some (.int .i64 p.2.1)∧w.cell? ⟨g,i * 3+1+1,none⟩=some (.int .i64 p.2.2):=by
  intro hn
  obtain ⟨A',c',hv,_,_,hp⟩:=own_parts h
  obtain ⟨g,hA,hg,hc⟩:=hp hn
  have hA':A=some ⟨g,0,none⟩:=by
    injection hv with h1
    rw [h1,hA]
  refine ⟨g,hA',hg,fun i p hi=>?_⟩
  obtain ⟨d0,d1,d2⟩:=rtFlat_get L i p hi
  exact ⟨hc _ _ d0,hc _ _ d1,hc _ _ d2⟩

set_option maxHeartbeats 400000 in
theorem find_any (count n:Int) (A:Option Addr) (c:Nat) (L:List Rp) (w:World) (h:ROwn w (.slice A L.length c) L) (hl:L.length≤1000) :
    Calls Tryz.prog 65 #[rtab count (.slice A L.length c),.int .i64 n] w fun e w'=>e=.returned (.int .i64 (findL L n))∧w'=w.alloc (rbox count (.slice A L.length c)):=by
  have hcell:=rown_cell h
  have Hc:=hid_ hcell
  clear hcell h
  go_enter Tryz.func65,Tryz.ntmps65
  go_wp2_with fail
  go_loop [5] (fun i=>∃ k:Nat,k≤L.length∧i=.int .i64 k∧∀ j q,j < k→L[j]?=some q→q.1≠n) (fun i=>L.length - (intOf i).toNat)
  case atStart=>exact ⟨0,Nat.zero_le _,rfl,fun j q hj=>by omega⟩
  case round =>
    obtain ⟨k,hk,rfl,hb⟩:=hrel
    have Hb:=hid_ hb
    clear hb
    by_cases hlt:k < L.length
    · obtain ⟨g,rfl,hgl,hcl⟩:=Hc.out (by omega)
      obtain ⟨p,hp⟩:∃ p,L[k]?=some p:=⟨L[k],List.getElem?_eq_getElem hlt⟩
      have c0:=(hcl k p hp).1
      have Hp:=hid_ hp
      clear hcl hp
      by_cases he:p.1=n
      · have Hf:=hid_ (findL_at L n k p Hp.out he Hb.out)
        have he2:(p.1==n)=true:=by simpa using he
        clear he
        go_wp2
        go_ret
        exact ⟨by rw [Hf.out];rfl,rfl⟩
      · have he2:(p.1==n)=false:=by simpa using he
        have He:=hid_ he
        clear he
        go_wp2
        go_round
        case rel=>exact ⟨k+1,by omega,by go_num,fun j q hj hq=>by
          rcases Nat.lt_or_ge j k with h1 | h1
          · exact Hb.out j q h1 hq
          · obtain rfl:j=k:=by omega
            obtain rfl:p=q:=by have:=Hp.out.symm.trans hq;simpa using this
            exact He.out⟩
        case measure=>simp [intOf];omega
    · obtain rfl:k=L.length:=by omega
      have Hf:=hid_ (findL_no L n (fun p hp=>by
        obtain ⟨j,hj,hpj⟩:=List.mem_iff_getElem.1 hp
        exact Hb.out j p hj (by rw [List.getElem?_eq_getElem hj,hpj])))
      go_wp2
      go_ret
      exact ⟨by rw [Hf.out];rfl,rfl⟩
open Go.RowKit

theorem rtnew (n:Int) (w:World):Calls Tryz.prog 32 #[.int .i64 n] w fun e w'=>e=.returned (.tuple #[rtab n (.slice none 0 0),.bool (decide (1≤n) && decide (n≤256))])∧Fr none_ w w':=by
  by_cases h1:1≤n
  · by_cases h2:n≤256
    · have hb:(decide (1≤n) && decide (n≤256))=true:=by simp [h1,h2]
      rw [hb]
      go_enter Tryz.func32,Tryz.ntmps32
      go_wp2
      exact bodyPost_ret (v:=.tuple #[rtab n (.slice none 0 0),.bool true]) (by simp [results,Tryz.results32,go_sem]) rfl ⟨rfl,by repeat (first | exact Fr.refl _ _ | apply Fr.drew | apply Fr.alloc)⟩
    · have hb:(decide (1≤n) && decide (n≤256))=false:=by simp [h2]
      rw [hb]
      go_enter Tryz.func32,Tryz.ntmps32
      go_wp2
      exact bodyPost_ret (v:=.tuple #[rtab n (.slice none 0 0),.bool false]) (by simp [results,Tryz.results32,go_sem]) rfl ⟨rfl,by repeat (first | exact Fr.refl _ _ | apply Fr.drew | apply Fr.alloc)⟩
  · have hb:(decide (1≤n) && decide (n≤256))=false:=by simp [h1]
    rw [hb]
    go_enter Tryz.func32,Tryz.ntmps32
    go_wp2
    exact bodyPost_ret (v:=.tuple #[rtab n (.slice none 0 0),.bool false]) (by simp [results,Tryz.results32,go_sem]) rfl ⟨rfl,by repeat (first | exact Fr.refl _ _ | apply Fr.drew | apply Fr.alloc)⟩

section
variable (count n:Int) (A:Option Addr) (c:Nat) (L:List Rp) (w:World)
theorem why_arg (hn:n < 0∨count≤n):Calls Tryz.prog 66 #[rtab count (.slice A L.length c),.int .i64 n] w fun e w'=>e=.returned (.int .i64 1)∧w'=w.alloc (rbox count (.slice A L.length c)):=by
  by_cases hn0:n < 0
  · clear hn
    go_enter Tryz.func66,Tryz.ntmps66
    go_wp2
    go_ret
    exact ⟨rfl,rfl⟩
  · have hle:count≤n:=by omega
    clear hn
    go_enter Tryz.func66,Tryz.ntmps66
    go_wp2
    go_ret
    exact ⟨rfl,rfl⟩

theorem why_none (h:ROwn w (.slice A L.length c) L) (hl:L.length≤1000) (h0:0≤n) (h1:n < count) (hf:findL L n=-1) :
    Calls Tryz.prog 66 #[rtab count (.slice A L.length c),.int .i64 n] w fun e w'=>e=.returned (.int .i64 6)∧w'=(w.alloc (rbox count (.slice A L.length c))).alloc (rbox count (.slice A L.length c)):=by
  have H:=hid_ h
  have Hf:=hid_ hf
  clear h hf
  go_enter Tryz.func66,Tryz.ntmps66
  go_wp2_with fail
  refine (find_any count n A c L _ (H.out.alloc _) hl).mono ?_
  rintro e w1 ⟨rfl,rfl⟩
  rw [Hf.out]
  go_wp2
  go_ret
  exact ⟨rfl,rfl⟩

theorem why_ok (h:ROwn w (.slice A L.length c) L) (hl:L.length≤1000) (h0:0≤n) (h1:n < count) (hf:0≤findL L n) :
    Calls Tryz.prog 66 #[rtab count (.slice A L.length c),.int .i64 n] w fun e w'=>e=.returned (.int .i64 0)∧w'=(w.alloc (rbox count (.slice A L.length c))).alloc (rbox count (.slice A L.length c)):=by
  have H:=hid_ h
  clear h
  go_enter Tryz.func66,Tryz.ntmps66
  go_wp2_with fail
  refine (find_any count n A c L _ (H.out.alloc _) hl).mono ?_
  rintro e w1 ⟨rfl,rfl⟩
  go_wp2
  go_ret
  exact ⟨rfl,rfl⟩
end

def whyL (count:Int) (L:List Rp) (n:Int):Int:=if n < 0∨count≤n then 1 else if findL L n=-1 then 6 else 0

theorem rhead_ok (count n:Int) (A:Option Addr) (c:Nat) (L:List Rp) (w:World) (h:ROwn w (.slice A L.length c) L) (hl:L.length≤1000) (h0:0≤n) (h1:n < count) (i:Nat) (m s g:Int) (hf:findL L n=i) (hi:L[i]?=some (m,s,g)) :
  Calls Tryz.prog 77 #[rtab count (.slice A L.length c),.int .i64 n] w fun e w'=>e=.returned (.tuple #[.agg #[.int .i64 s,.int .i64 g],.int .i64 0])∧Fr none_ w w':=by
 have hil:i < L.length:=(List.getElem?_eq_some_iff.1 hi).1
 obtain ⟨b,rfl,hb,hcl⟩:=rown_cell h (by omega)
 obtain ⟨_,d1,d2⟩:=hcl i _ hi
 have H:=hid_ h
 have Hf:=hid_ hf
 have Hg:=hid_ (show 0≤findL L n by omega)
 clear h hf hcl hi
 go_enter Tryz.func77,Tryz.ntmps77
 go_wp2_with fail
 refine (why_ok count n _ c L _ (own_none H.out (by repeat (first | exact Fr.refl _ _ | apply Fr.drew | apply Fr.alloc))) hl h0 h1 Hg.out).mono ?_
 rintro e w1 ⟨rfl,hw1⟩
 have f1:Fr none_ ((w.alloc (rbox count (.slice (some ⟨b,0,none⟩) L.length c))).alloc (.cells #[.int .i64 0,.int .i64 0] 48)) w1:=by
  rw [hw1];repeat (first | exact Fr.refl _ _ | apply Fr.alloc)
 have f0:Fr none_ w w1:=(((Fr.refl none_ w).alloc _).alloc _).then_none f1
 have k2:=((Blk.new w 38 #[.int .i64 count,.slice (some ⟨b,0,none⟩) L.length c]).alloc (.cells #[.int .i64 0,.int .i64 0] 48)).fr f1 id
 have k4:=(Blk.new (w.alloc (rbox count (.slice (some ⟨b,0,none⟩) L.length c))) 48 #[.int .i64 0,.int .i64 0]).fr f1 id
 rw [World.size_alloc] at k4
 have c20:w1.cell? ⟨w.heap.size,0,none⟩=some (.int .i64 count):=k2.cell' rfl
 have c21:w1.cell? ⟨w.heap.size,1,none⟩=some (.slice (some ⟨b,0,none⟩) L.length c):=k2.cell' rfl
 have c40:w1.cell? ⟨w.heap.size+1,0,none⟩=some (.int .i64 0):=k4.cell' rfl
 have c41:w1.cell? ⟨w.heap.size+1,1,none⟩=some (.int .i64 0):=k4.cell' rfl
 have z40:=k4.frozen 0
 have z41:=k4.frozen 1
 have e1:w1.cell? ⟨b,i * 3+1,none⟩=some (.int .i64 s):=(f0.below0.cell (p:=⟨b,i * 3+1,none⟩) hb).trans d1
 have e2:w1.cell? ⟨b,i * 3+1+1,none⟩=some (.int .i64 g):=(f0.below0.cell (p:=⟨b,i * 3+1+1,none⟩) hb).trans d2
 have H1:=hid_ (own_none H.out f0)
 have F1:=hid_ f0
 have K4:=hid_ k4
 have hz2:=k2.lt
 have hz4:=k4.lt
 have hi0:(0:Int)≤(i:Int):=Int.natCast_nonneg _
 have hi1:(i:Int) < (L.length:Int):=by omega
 have n1:=World.new_ne w1 ⟨b,i * 3+1,none⟩ e1
 have n2:=World.new_ne w1 ⟨w.heap.size,0,none⟩ c20
 have n4:=World.new_ne w1 ⟨w.heap.size+1,0,none⟩ c40
 have hbz:b < w1.heap.size:=by omega
 have hbn:b≠w.heap.size+1:=by omega
 have hbn2:w.heap.size+1≠b:=by omega
 clear f0 f1 hw1 k2 k4 d1 d2
 go_wp2_with fail
 go_region_held3 (fun w'=>w'.cell? ⟨w.heap.size,0,none⟩=some (.int .i64 count)∧w'.cell? ⟨w.heap.size,1,none⟩=some (.slice (some ⟨b,0,none⟩) L.length c)∧w'.cell? ⟨b,i * 3+1,none⟩=some (.int .i64 s)∧w'.cell? ⟨b,i * 3+1+1,none⟩=some (.int .i64 g)) (go_keep)
  (first | (go_at_call 65;refine (find_any count n _ c L _ ?_ hl).mono ?_;(exact own_none H1.out (by repeat (first | exact Fr.refl _ _ | apply Fr.drew | apply Fr.alloc)));rintro e w' ⟨rfl,rfl⟩;rw [Hf.out]))
 all_goals go_wp2
 have q:=(((K4.out.set_ 0 (.int .i64 s)).set_ 1 (.int .i64 g)).alloc (rbox count (.slice (some ⟨b,0,none⟩) L.length c))).drew
 have q0:=q.cell' (i:=0) rfl
 have q1:=q.cell' (i:=1) rfl
 clear q c40 c41 z40 z41
 refine bodyPost_ret (v:=.tuple #[.agg #[.int .i64 s,.int .i64 g],.int .i64 0]) ?_ rfl ⟨rfl,?_⟩
 ·simp [results,Tryz.results77,go_sem,q0,q1]
 ·repeat (first | exact F1.out | apply Fr.drew | apply Fr.alloc | refine Fr.setCell ?_ (.inr (by simp)) _)
open Go.RowKit

theorem rpage_info:(Tryz.prog.info? 159).map (fun i=>(i.zero,i.size,i.bytes))=some (some (.agg #[.int .i64 0,.int .i64 0,.int .i64 0]),3,24):=by kernel_rfl

structure RLoop (w wr:World) (count:Int) (v:Value) (L:List Rp):Prop where
  b0:Blk wr w.heap.size 38 #[.int .i64 count,v]
  own:ROwn wr v L
  fr:Fr none_ w wr
theorem RLoop.none_ {w wr w':World} {count:Int} {v:Value} {L:List Rp} (h:RLoop w wr count v L) (hf:Fr none_ wr w'):RLoop w w' count v L:=
  ⟨h.b0.fr hf id,own_none h.own hf,h.fr.then_none hf⟩

def RTakePost (w:World) (count:Int) (L:List Rp) (n:Nat) (e:Ending) (w':World):Prop:=
  ∃ A c,e=.returned (.tuple #[rtab count (.slice A (L ++ [((n:Int),0,0)]).length c),.int .i64 n,.int .i64 0])∧ROwn w' (.slice A (L ++ [((n:Int),0,0)]).length c) (L ++ [((n:Int),0,0)])∧Fr none_ w w'

set_option maxHeartbeats 1000000 in
theorem rtake_full (count:Nat) (A:Option Addr) (c:Nat) (L:List Rp) (w:World) (h:ROwn w (.slice A L.length c) L) (hl:L.length≤1000) (hc:count≤1000) (hu:∀ j:Nat,j < count→0≤findL L j) :
    Calls Tryz.prog 35 #[rtab count (.slice A L.length c)] w fun e w'=>e=.returned (.tuple #[rtab count (.slice A L.length c),.int .i64 0,.int .i64 3])∧Fr none_ w w':=by
  have H:=hid_ h
  have Hu:=hid_ hu
  clear h hu
  go_enter Tryz.func35,Tryz.ntmps35
  go_wp2_with fail
  go_loopw [5] (fun i wr=>∃ k:Nat,k≤count∧i=.int .i64 k∧RLoop w wr count (.slice A L.length c) L∧Blk wr (w.heap.size+1) 38 #[.int .i64 0,.slice none 0 0]) (fun i _=>count - (intOf i).toNat)
  case atStart =>
    refine ⟨0,Nat.zero_le _,rfl,⟨(Blk.new w _ _).alloc _,own_none H.out (((Fr.refl none_ w).alloc _).alloc _),((Fr.refl none_ w).alloc _).alloc _⟩,?_⟩
    have:=Blk.new (w.alloc (rbox count (.slice A L.length c))) 38 #[.int .i64 0,.slice none 0 0]
    simpa using this
  case round =>
    obtain ⟨k,hk,rfl,hR,hB⟩:=hrel
    have c0:wr.cell? ⟨w.heap.size,0,none⟩=some (.int .i64 count):=hR.b0.cell' rfl
    have c1:wr.cell? ⟨w.heap.size,1,none⟩=some (.slice A L.length c):=hR.b0.cell' rfl
    have z0:=hR.b0.lt
    have z1:=hB.lt
    have d0:wr.cell? ⟨w.heap.size+1,0,none⟩=some (.int .i64 0):=hB.cell' rfl
    have d1:wr.cell? ⟨w.heap.size+1,1,none⟩=some (.slice none 0 0):=hB.cell' rfl
    have y0:=hB.frozen 0
    have y1:=hB.frozen 1
    have R:=hid_ hR
    have B:=hid_ hB
    clear hR hB
    by_cases hlt:k < count
    · have hge:=Hu.out k hlt
      go_wp2_with fail
      refine (find_any count k A c L wr R.out.own hl).mono ?_
      rintro e w' ⟨rfl,rfl⟩
      go_wp2
      go_roundw
      case rel=>exact ⟨k+1,by omega,by go_num,R.out.none_ ((Fr.refl none_ _).alloc _),B.out.alloc _⟩
      case measure=>simp [intOf];omega
    · go_wp2
      have q:=((B.out.set_ 0 (.int .i64 count)).set_ 1 (.slice A L.length c))
      have q0:=q.cell' (i:=0) rfl
      have q1:=q.cell' (i:=1) rfl
      clear q d0 d1 y0 y1
      refine bodyPost_ret (v:=.tuple #[rtab count (.slice A L.length c),.int .i64 0,.int .i64 3]) ?_ rfl ⟨rfl,?_⟩
      · simp [results,Tryz.results35,go_sem,q0,q1]
      · exact (R.out.fr.setCell (p:=⟨w.heap.size+1,0,none⟩) (.inr (by simp)) _).setCell (p:=⟨w.heap.size+1,1,none⟩) (.inr (by simp)) _

set_option maxHeartbeats 1000000 in
theorem rtake_ok (count n:Nat) (A:Option Addr) (c:Nat) (L:List Rp) (w:World) (h:ROwn w (.slice A L.length c) L) (hl:L.length≤1000) (hc:count≤1000) (hn:n < count) (hf:findL L n=-1) (hu:∀ j:Nat,j < n→0≤findL L j) :
  Calls Tryz.prog 35 #[rtab count (.slice A L.length c)] w (RTakePost w count L n):=by
 obtain ⟨i0,hi0,hz0,hs0,hb0⟩:=info_parts rpage_info
 have H:=hid_ h
 have Hu:=hid_ hu
 have Hf:=hid_ hf
 have Hi:=hid_ (And.intro hi0 (And.intro hz0 (And.intro hs0 hb0)))
 clear h hu hf hi0 hz0 hs0 hb0
 go_enter Tryz.func35,Tryz.ntmps35
 go_wp2_with fail
 go_loopw [5] (fun i wr=>∃ k:Nat,k≤n∧i=.int .i64 k∧RLoop w wr count (.slice A L.length c) L∧Blk wr (w.heap.size+1) 38 #[.int .i64 0,.slice none 0 0]) (fun i _=>count - (intOf i).toNat)
 case atStart =>
  refine ⟨0,Nat.zero_le _,rfl,⟨(Blk.new w _ _).alloc _,own_none H.out (((Fr.refl none_ w).alloc _).alloc _),((Fr.refl none_ w).alloc _).alloc _⟩,?_⟩
  have:=Blk.new (w.alloc (rbox count (.slice A L.length c))) 38 #[.int .i64 0,.slice none 0 0]
  simpa using this
 case round =>
  obtain ⟨k,hk,rfl,hR,hB⟩:=hrel
  have c0:wr.cell? ⟨w.heap.size,0,none⟩=some (.int .i64 count):=hR.b0.cell' rfl
  have c1:wr.cell? ⟨w.heap.size,1,none⟩=some (.slice A L.length c):=hR.b0.cell' rfl
  have z0:=hR.b0.lt
  have z1:=hB.lt
  have R:=hid_ hR
  have B:=hid_ hB
  clear hR hB
  by_cases hlt:k < n
  ·have hge:=Hu.out k hlt
   go_wp2_with fail
   refine (find_any count k A c L wr R.out.own hl).mono ?_
   rintro e w' ⟨rfl,rfl⟩
   go_wp2
   go_roundw
   case rel=>exact ⟨k+1,by omega,by go_num,R.out.none_ ((Fr.refl none_ _).alloc _),B.out.alloc _⟩
   case measure=>simp [intOf];omega
  ·obtain rfl:k=n:=by omega
   go_wp2_with fail
   refine (find_any count k A c L wr R.out.own hl).mono ?_
   rintro e w2 ⟨rfl,hw2⟩
   rw [Hf.out]
   have R2:Hid (RLoop w w2 count (.slice A L.length c) L):=hid_ (by rw [hw2];exact R.out.none_ ((Fr.refl none_ wr).alloc _))
   have B2:Hid (Blk w2 (w.heap.size+1) 38 #[.int .i64 0,.slice none 0 0]):=hid_ (by rw [hw2];exact B.out.alloc _)
   have e0:w2.cell? ⟨w.heap.size,0,none⟩=some (.int .i64 count):=R2.out.b0.cell' rfl
   have e1:w2.cell? ⟨w.heap.size,1,none⟩=some (.slice A L.length c):=R2.out.b0.cell' rfl
   have y0:=R2.out.b0.lt
   have y1:=B2.out.lt
   clear hw2 c0 c1 z0 z1
   have hsrc:Hid (Reads (w2.alloc (.cells #[] 159)) 3 A L.length (rtFlat L)):=hid_ ((Reads.of_own R2.out.own).alloc _)
   go_wp2_with (first
    | (at_builtin;refine wpList_append_any _ rfl (.tmp 16) (.tmp 18) 36 rfl w2.heap.size 159 i0 _ 3 24 Tryz.underlying36 Hi.out.1 Hi.out.2.1 Hi.out.2.2.1 Hi.out.2.2.2 rfl (by omega) (.slice (some ⟨w2.heap.size,0,none⟩) 0 0) 0 [] rfl (own_empty_at _ _ _ _ _ (Nat.le_refl _) rfl) A L.length c (rtFlat L) rfl hsrc.out (rtFlat_one L) (by simp only [maxLen];omega) (by omega) (by simp) ?_;intro A1 c1 w3 hown3 hgr3;simp only [Nat.zero_add,List.nil_append] at hown3;have F3:=hid_ (((Fr.refl none_ w2).alloc (.cells #[] 159)).grown hgr3 (fun k hk=>.inr (by simp [Value.ownBlock] at hk;omega)));have O3:=hid_ hown3;clear hown3 hgr3;have hz3:=F3.out.size)
    | (at_builtin;refine wpList_append_any _ rfl (.tmp 19) (.tmp 22) 36 rfl w2.heap.size 159 i0 _ 3 24 Tryz.underlying36 Hi.out.1 Hi.out.2.1 Hi.out.2.2.1 Hi.out.2.2.2 rfl (by omega) (.slice A1 L.length c1) L.length (rtFlat L) rfl (O3.out.alloc _) (some ⟨w3.heap.size,0,none⟩) 1 1 [.int .i64 k,.int .i64 0,.int .i64 0] rfl (reads_new _ _ _ _ rfl) (by simp [Value.oneCell']) (by simp only [maxLen];omega) (by omega) (by simp;omega) ?_;intro A2 c2 w4 hown4 hgr4;have F4:=hid_ ((F3.out.alloc (.cells #[.int .i64 k,.int .i64 0,.int .i64 0] 159)).grown hgr4 (fun j hj=>.inr (O3.out.lt j hj).1));have O4:=hid_ hown4;clear hown4 hgr4;have R4:=hid_ (R2.out.none_ F4.out);have g0:w4.cell? ⟨w.heap.size,0,none⟩=some (.int .i64 count):=R4.out.b0.cell' rfl;have g1:w4.cell? ⟨w.heap.size,1,none⟩=some (.slice A L.length c):=R4.out.b0.cell' rfl;have f1:=R4.out.b0.frozen 1;have B4:=hid_ (B2.out.fr F4.out id);have g2:w4.cell? ⟨w.heap.size+1,0,none⟩=some (.int .i64 0):=B4.out.cell' rfl;have g3:w4.cell? ⟨w.heap.size+1,1,none⟩=some (.slice none 0 0):=B4.out.cell' rfl;have f2:=B4.out.frozen 0;have f3:=B4.out.frozen 1))
   have q:=(((B4.out.far (p:=⟨w.heap.size,1,none⟩) (by simp) (.slice A2 (L.length+1) c2)).set_ 0 (.int .i64 count)).set_ 1 (.slice A2 (L.length+1) c2))
   have q0:=q.cell' (i:=0) rfl
   have q1:=q.cell' (i:=1) rfl
   clear q g0 g1 g2 g3 f1 f2 f3
   refine bodyPost_ret (v:=.tuple #[rtab count (.slice A2 (L.length+1) c2),.int .i64 k,.int .i64 0]) ?_ rfl ?_
   ·simp [results,Tryz.results35,go_sem,q0,q1]
   ·refine ⟨A2,c2,by simp,?_,?_⟩
    ·have:=O4.out
     have hfl:rtFlat (L ++ [((k:Int),0,0)])=rtFlat L ++ [.int .i64 k,.int .i64 0,.int .i64 0]:=by simp [rtFlat]
     have hlen:(L ++ [((k:Int),0,0)]).length=L.length+1:=by simp
     unfold ROwn
     rw [hfl,hlen]
     refine own_fr (S:=fun b=>b=w.heap.size∨b=w.heap.size+1) (own_base this (Nat.zero_le _)) ?_ ?_
     ·exact (((Fr.refl _ _).setCell (p:=⟨w.heap.size,1,none⟩) (.inl (.inl rfl)) _).setCell (p:=⟨w.heap.size+1,0,none⟩) (.inl (.inr rfl)) _).setCell (p:=⟨w.heap.size+1,1,none⟩) (.inl (.inr rfl)) _
     ·intro j hj
      have:=(O4.out.lt j hj).1
      omega
    ·exact ((R4.out.fr.setCell (p:=⟨w.heap.size,1,none⟩) (.inr (by simp)) _).setCell (p:=⟨w.heap.size+1,0,none⟩) (.inr (by simp)) _).setCell (p:=⟨w.heap.size+1,1,none⟩) (.inr (by simp)) _

def rusedTo (L:List Rp) (k:Nat):List Nat:=(List.range k).filter fun i=>decide (0≤findL L i)
theorem rusedTo_hit (L:List Rp) (k:Nat) (h:0≤findL L k):rusedTo L (k+1)=rusedTo L k ++ [k]:=by
  simp [rusedTo,List.range_succ,List.filter_append,h]
theorem rusedTo_miss (L:List Rp) (k:Nat) (h:¬ 0≤findL L k):rusedTo L (k+1)=rusedTo L k:=by
  simp [rusedTo,List.range_succ,List.filter_append,h]
theorem rusedTo_le (L:List Rp) (k:Nat):(rusedTo L k).length≤k:=by
  have:=List.length_filter_le (fun i:Nat=>decide (0≤findL L i)) (List.range k)
  simpa [rusedTo] using this

def RPagesPost (L:List Rp) (count:Nat) (w:World) (e:Ending) (w':World):Prop:=
  ∃ A c,e=.returned (.slice A (rusedTo L count).length c)∧w'.ownsRow w.heap.size 3 1 (.slice A (rusedTo L count).length c) (rusedTo L count).length (ints (rusedTo L count))∧Fr none_ w w'

set_option maxHeartbeats 1000000 in
theorem rpages (count:Nat) (A:Option Addr) (c:Nat) (L:List Rp) (w:World) (h:ROwn w (.slice A L.length c) L) (hl:L.length≤1000) (hc:count≤1000) :
  Calls Tryz.prog 49 #[rtab count (.slice A L.length c)] w (RPagesPost L count w):=by
 obtain ⟨i0,hi0,hz0,hs0,hb0⟩:=info_parts int_info
 have H:=hid_ h
 have Hi:=hid_ (And.intro hi0 (And.intro hz0 (And.intro hs0 hb0)))
 clear h hi0 hz0 hs0 hb0
 go_enter Tryz.func49,Tryz.ntmps49
 go_wp2_with fail
 go_loopw [3,4] (fun v i wr=>∃ k:Nat,k≤count∧i=.int .i64 k∧RLoop w wr count (.slice A L.length c) L∧wr.ownsRow w.heap.size 3 1 v (rusedTo L k).length (ints (rusedTo L k))) (fun _ i _=>count - (intOf i).toNat)
 case atStart =>
  exact ⟨0,Nat.zero_le _,rfl,⟨Blk.new w _ _,own_none H.out ((Fr.refl none_ w).alloc _),(Fr.refl none_ w).alloc _⟩,World.ownsRow_nil _ _ _ _⟩
 case round =>
  obtain ⟨k,hk,rfl,hR,hO⟩:=hrel
  have c0:wr.cell? ⟨w.heap.size,0,none⟩=some (.int .i64 count):=hR.b0.cell' rfl
  have c1:wr.cell? ⟨w.heap.size,1,none⟩=some (.slice A L.length c):=hR.b0.cell' rfl
  have z0:=hR.b0.lt
  have hul:=rusedTo_le L k
  have R:=hid_ hR
  have O:=hid_ hO
  clear hR hO
  by_cases hlt:k < count
  ·go_wp2_with fail
   refine (find_any count k A c L wr R.out.own hl).mono ?_
   rintro e w2 ⟨rfl,hw2⟩
   have R2:Hid (RLoop w w2 count (.slice A L.length c) L):=hid_ (by rw [hw2];exact R.out.none_ ((Fr.refl none_ wr).alloc _))
   have O2:Hid (w2.ownsRow w.heap.size 3 1 u3 (rusedTo L k).length (ints (rusedTo L k))):=hid_ (by rw [hw2];exact O.out.alloc _)
   have y0:=R2.out.b0.lt
   clear hw2 c0 c1 z0
   by_cases hge:0≤findL L k
   ·have Hm:=hid_ (rusedTo_hit L k hge)
    go_wp2_with (at_builtin;refine wpList_append_own _ rfl _ _ 39 rfl w.heap.size 3 i0 (.int .i64 0) 1 8 Tryz.underlying39 Hi.out.1 Hi.out.2.1 Hi.out.2.2.1 Hi.out.2.2.2 rfl (by decide) _ _ _ rfl (O2.out.alloc _) ⟨w2.heap.size,0,none⟩ 1 1 [.int .i64 k] rfl rfl ?c1 ?c2 ?c3 ?c4 ?c5 ?_)
    case c1=>exact one_new_at _ _ _ _ rfl
    case c2=>intro u hu;simp at hu;subst hu;rfl
    case c3=>unfold maxLen;omega
    case c4=>omega
    case c5=>simp;omega
    intro v' w3 hown1 hgr _
    have F3:Fr (fun b=>u3.ownBlock=some b) w2 w3:=((Fr.refl _ w2).alloc _).grown hgr (fun b hb=>.inl hb)
    have R3:Hid (RLoop w w3 count (.slice A L.length c) L):=hid_ ⟨R2.out.b0.fr F3 (own_blk_ne O2.out R2.out.b0 (by decide)),own_fr R2.out.own F3 (own_own_ne R2.out.own O2.out (by decide)),
     R2.out.fr.trans F3 (fun _ _=>id) (fun i hi e=>by have:=(O2.out.lt i e).1;omega)⟩
    have O3:Hid (w3.ownsRow w.heap.size 3 1 v' (rusedTo L (k+1)).length (ints (rusedTo L (k+1)))):=hid_ (by
     rw [Hm.out]
     simpa [ints] using hown1)
    clear hown1 hgr F3
    go_wp2
    go_roundw
    case rel=>exact ⟨k+1,by omega,by go_num,R3.out,O3.out⟩
    case measure=>simp [intOf];omega
   ·have Hm:=hid_ (rusedTo_miss L k hge)
    go_wp2
    go_roundw
    case rel=>exact ⟨k+1,by omega,by go_num,R2.out,by rw [Hm.out];exact O2.out⟩
    case measure=>simp [intOf];omega
  ·obtain rfl:k=count:=by omega
   go_wp2
   go_ret
   obtain ⟨A',c',hv⟩:=O.out.shape
   have hx:=O.out
   rw [hv] at hx
   exact ⟨A',c',by rw [← hv];rfl,hx,R.out.fr⟩
open Go.RowKit

theorem why_any (count n:Int) (A:Option Addr) (c:Nat) (L:List Rp) (w:World) (h:ROwn w (.slice A L.length c) L) (hl:L.length≤1000) :
    Calls Tryz.prog 66 #[rtab count (.slice A L.length c),.int .i64 n] w fun e w'=>e=.returned (.int .i64 (whyL count L n))∧Fr none_ w w':=by
  by_cases hn:n < 0∨count≤n
  · have:whyL count L n=1:=by rw [whyL,if_pos hn]
    rw [this]
    exact (why_arg count n A c L w hn).mono fun _ _ ⟨h1,h2⟩=>⟨h1,h2 ▸ (Fr.refl none_ w).alloc _⟩
  · by_cases hf:findL L n=-1
    · have:whyL count L n=6:=by rw [whyL,if_neg hn,if_pos hf]
      rw [this]
      exact (why_none count n A c L w h hl (by omega) (by omega) hf).mono fun _ _ ⟨h1,h2⟩=>⟨h1,h2 ▸ ((Fr.refl none_ w).alloc _).alloc _⟩
    · have:whyL count L n=0:=by rw [whyL,if_neg hn,if_neg hf]
      rw [this]
      exact (why_ok count n A c L w h hl (by omega) (by omega) (by have:=(findL_ge L n).1;omega)).mono fun _ _ ⟨h1,h2⟩=>⟨h1,h2 ▸ ((Fr.refl none_ w).alloc _).alloc _⟩

structure GSt (w w':World) (count:Int) (v:Value) (L:List Rp) (b:Nat) (x y:Value):Prop where
  b0:Blk w' w.heap.size 38 #[.int .i64 count,v]
  b1:Blk w' b 38 #[x,y]
  fr:Fr none_ w w'
  own:ROwn w' v L
  hb:w.heap.size < b
theorem GSt.keep {w w' w2:World} {count:Int} {v x y:Value} {L:List Rp} {b:Nat} (h:GSt w w' count v L b x y) (hf:Fr none_ w' w2):GSt w w2 count v L b x y:=
  ⟨h.b0.fr hf id,h.b1.fr hf id,h.fr.then_none hf,own_none h.own hf,h.hb⟩
theorem GSt.drew {w w':World} {count:Int} {v x y:Value} {L:List Rp} {b:Nat} (h:GSt w w' count v L b x y):GSt w w'.drew count v L b x y:=h.keep ((Fr.refl none_ w').drew)
theorem GSt.res {w w':World} {count:Int} {v x y:Value} {L:List Rp} {b:Nat} (h:GSt w w' count v L b x y) (x' y':Value):GSt w ((w'.setCell ⟨b,0,none⟩ x').setCell ⟨b,1,none⟩ y') count v L b x' y':=by
  have hb:=h.hb
  have hf:Fr (only b) w' ((w'.setCell ⟨b,0,none⟩ x').setCell ⟨b,1,none⟩ y'):=((Fr.refl (only b) w').setCell (p:=⟨b,0,none⟩) (.inl (Eq.refl b)) _).setCell (p:=⟨b,1,none⟩) (.inl (Eq.refl b)) _
  refine ⟨h.b0.fr hf (only_ne (by omega)),(h.b1.set_ 0 x').set_ 1 y',h.fr.then_only hf (.inr (by omega)),own_fr h.own hf (fun k hk e=>?_),hb⟩
  exact own_blk_ne h.own h.b1 (by decide) (by rw [hk,show k=b from e])
theorem GSt.cells {w w':World} {count:Int} {v x y:Value} {L:List Rp} {b:Nat} (h:GSt w w' count v L b x y) :
    w'.cell? ⟨w.heap.size,0,none⟩=some (.int .i64 count)∧w'.cell? ⟨w.heap.size,1,none⟩=some v∧w'.cell? ⟨b,0,none⟩=some x∧w'.cell? ⟨b,1,none⟩=some y:=
  ⟨h.b0.cell' rfl,h.b0.cell' rfl,h.b1.cell' rfl,h.b1.cell' rfl⟩

set_option maxHeartbeats 1000000 in
theorem rgive_err (count n:Int) (A:Option Addr) (c:Nat) (L:List Rp) (w:World) (h:ROwn w (.slice A L.length c) L) (hl:L.length≤1000) (k:Int) (hk:whyL count L n=k) (hk0:k≠0) :
    Calls Tryz.prog 44 #[rtab count (.slice A L.length c),.int .i64 n] w fun e w'=>e=.returned (.tuple #[rtab count (.slice A L.length c),.int .i64 k])∧Fr none_ w w':=by
  have H:=hid_ h
  have Hk:=hid_ hk
  have hkb:(k==0)=false:=by simpa using hk0
  clear h hk hk0
  go_enter Tryz.func44,Tryz.ntmps44
  go_wp2_with fail
  refine (why_any count n A c L _ (own_none H.out (by repeat (first | exact Fr.refl _ _ | apply Fr.alloc))) hl).mono ?_
  rintro e w1 ⟨rfl,hf1⟩
  rw [Hk.out]
  have S1:Hid (GSt w w1 count (.slice A L.length c) L (w.heap.size+1) (.int .i64 0) (.slice none 0 0)):=by
    have k4:=(Blk.new (w.alloc (rbox count (.slice A L.length c))) 38 #[.int .i64 0,.slice none 0 0]).fr hf1 id
    rw [World.size_alloc] at k4
    have F:=(((Fr.refl none_ w).alloc (rbox count (.slice A L.length c))).alloc (.cells #[.int .i64 0,.slice none 0 0] 38)).then_none hf1
    exact ⟨((Blk.new w _ _).alloc _).fr hf1 id,k4,F,own_none H.out F,by omega⟩
  obtain ⟨c20,c21,_,_⟩:=S1.out.cells
  have n2:=S1.out.b0.lt
  have n4:=S1.out.b1.lt
  clear hf1
  go_wp2_with fail
  go_region_held3 (fun w'=>w'.cell? ⟨w.heap.size,0,none⟩=some (.int .i64 count)∧w'.cell? ⟨w.heap.size,1,none⟩=some (.slice A L.length c))
    (first | (have T:=S1.out.drew;exact ⟨T.cells.1,T.cells.2.1⟩) | (have T:=S2.out;exact ⟨T.cells.1,T.cells.2.1⟩) | (have T:=S2.out.res (.int .i64 count) (.slice A L.length c);exact ⟨T.cells.1,T.cells.2.1⟩))
    (first | (go_at_call 66;refine (why_any count n A c L _ ?_ hl).mono ?_;(exact S1.out.drew.own);rintro e w2 ⟨rfl,hf2⟩;rw [Hk.out];have S2:=hid_ (S1.out.drew.keep hf2);clear hf2;obtain ⟨_,_,r0,r1⟩:=S2.out.cells;have r2:=S2.out.b1.frozen 0;have r3:=S2.out.b1.frozen 1))
  clear r0 r1 r2 r3 c20 c21
  have S3:=hid_ (S2.out.res (.int .i64 count) (.slice A L.length c))
  obtain ⟨_,_,q0,q1⟩:=S3.out.cells
  go_wp2
  refine bodyPost_ret (v:=.tuple #[rtab count (.slice A L.length c),.int .i64 k]) ?_ rfl ⟨rfl,S3.out.fr⟩
  simp [results,Tryz.results44,go_sem,q0,q1]

def RGivePost (w:World) (count:Int) (L:List Rp) (i:Nat) (e:Ending) (w':World):Prop:=
  ∃ A c,e=.returned (.tuple #[rtab count (.slice A (L.eraseIdx i).length c),.int .i64 0])∧ROwn w' (.slice A (L.eraseIdx i).length c) (L.eraseIdx i)∧Fr none_ w w'

set_option maxHeartbeats 1000000 in
theorem rgive_ok (count n:Int) (A:Option Addr) (c:Nat) (L:List Rp) (w:World) (h:ROwn w (.slice A L.length c) L) (hl:L.length≤1000) (h0:0≤n) (h1:n < count) (i:Nat) (hf:findL L n=i) :
  Calls Tryz.prog 44 #[rtab count (.slice A L.length c),.int .i64 n] w (RGivePost w count L i):=by
 obtain ⟨i0,hi0,hz0,hs0,hb0⟩:=info_parts rpage_info
 have Hi:=hid_ (And.intro hi0 (And.intro hz0 (And.intro hs0 hb0)))
 have hil:i < L.length:=by have:=(findL_ge L n).2;omega
 have H:=hid_ h
 have Hf:=hid_ hf
 have Hk:Hid (whyL count L n=0):=hid_ (by rw [whyL,if_neg (by omega),if_neg (by omega)])
 have hcap:L.length≤c∧c≤maxLen:=by
  obtain ⟨A',c',hv,h2,h3,_⟩:=own_parts h
  injection hv with _ _ h4
  omega
 obtain ⟨hc1,hc2⟩:=hcap
 unfold maxLen at hc2
 clear h hf hi0 hz0 hs0 hb0
 go_enter Tryz.func44,Tryz.ntmps44
 go_wp2_with fail
 refine (why_any count n A c L _ (own_none H.out (by repeat (first | exact Fr.refl _ _ | apply Fr.alloc))) hl).mono ?_
 rintro e w1 ⟨rfl,hf1⟩
 rw [Hk.out]
 have S1:Hid (GSt w w1 count (.slice A L.length c) L (w.heap.size+1) (.int .i64 0) (.slice none 0 0)):=by
  have k4:=(Blk.new (w.alloc (rbox count (.slice A L.length c))) 38 #[.int .i64 0,.slice none 0 0]).fr hf1 id
  rw [World.size_alloc] at k4
  have F:=(((Fr.refl none_ w).alloc (rbox count (.slice A L.length c))).alloc (.cells #[.int .i64 0,.slice none 0 0] 38)).then_none hf1
  exact ⟨((Blk.new w _ _).alloc _).fr hf1 id,k4,F,own_none H.out F,by omega⟩
 obtain ⟨c20,c21,_,_⟩:=S1.out.cells
 clear hf1
 go_wp2_with fail
 refine (find_any count n A c L w1 S1.out.own hl).mono ?_
 rintro e w2 ⟨rfl,hw2⟩
 rw [Hf.out]
 have S2:Hid (GSt w w2 count (.slice A L.length c) L (w.heap.size+1) (.int .i64 0) (.slice none 0 0)):=hid_ (S1.out.keep (by rw [hw2];exact (Fr.refl none_ w1).alloc _))
 clear hw2 c20 c21 S1
 obtain ⟨c20,c21,_,_⟩:=S2.out.cells
 have n2:=S2.out.b0.lt
 have f21:=S2.out.b0.frozen 1
 have hi0':(0:Int)≤(i:Int):=Int.natCast_nonneg _
 obtain ⟨j,hj⟩:∃ j:Nat,j=i+1:=⟨_,rfl⟩
 have hsum:IntKind.i64.wrap ((i:Int)+1)=(j:Int):=by rw [IntWalk.i64_in _ (by omega)];omega
 have hic:i≤c:=by omega
 have hjl:j≤L.length:=by omega
 have hj0:(0:Int)≤(j:Int):=Int.natCast_nonneg _
 have Hj:=hid_ hj
 clear hj
 have hsrc1:Hid (Reads w2 3 A i ((rtFlat L).take (i * 3))):=hid_ ((Reads.of_own S2.out.own).upto (by omega))
 have hsrc2:Hid (Reads w2 3 (if c=j then A else A.map (·.add (j * 3))) (L.length - j) ((rtFlat L).drop (j * 3))):=hid_ ((Reads.of_own S2.out.own).cut hjl hc1)
 go_wp2_with fail
 go_region_law (first
  | (refine step_append_any _ (by rfl) (.tmp 18) (.tmp 22) 36 (by rfl) w2.heap.size 159 i0 _ 3 24 Tryz.underlying36 Hi.out.1 Hi.out.2.1 Hi.out.2.2.1 Hi.out.2.2.2 rfl (by omega) (.slice (some ⟨w2.heap.size,0,none⟩) 0 0) 0 [] (by rfl) (own_none (own_empty_at w2 _ _ _ _ (Nat.le_refl _) rfl) (Fr.refl none_ _).drew) A i c ((rtFlat L).take (i * 3)) (by rfl) ((hsrc1.out.alloc _).drew) (fun u hu=>rtFlat_one L u (List.mem_of_mem_take hu)) (by simp only [maxLen];omega) (by omega) (by simp) ?_;intro A1 c1 w3 hown3 hgr3;simp only [Nat.zero_add,List.nil_append] at hown3;have F3:=hid_ ((((Fr.refl none_ w2).alloc (.cells #[] 159)).drew).grown hgr3 (fun k hk=>.inr (by simp [Value.ownBlock] at hk;omega)));have O3:=hid_ hown3;clear hown3 hgr3;have S3:=hid_ (S2.out.keep F3.out);obtain ⟨_,e21,_,_⟩:=S3.out.cells)
  | (refine step_append_any _ (by rfl) (.tmp 23) (.tmp 28) 36 (by rfl) w2.heap.size 159 i0 _ 3 24 Tryz.underlying36 Hi.out.1 Hi.out.2.1 Hi.out.2.2.1 Hi.out.2.2.2 rfl (by omega) (.slice A1 i c1) i ((rtFlat L).take (i * 3)) (by rfl) O3.out (if c=j then A else A.map (·.add (j * 3))) (L.length - j) (c - j) ((rtFlat L).drop (j * 3)) (by rfl) (hsrc2.out.none_fr F3.out) (fun u hu=>rtFlat_one L u (List.mem_of_mem_drop hu)) (by simp only [maxLen];omega) (by omega) F3.out.size ?_;intro A2 c2 w4 hown4 hgr4;have F4:=hid_ (F3.out.grown hgr4 (fun k hk=>.inr (O3.out.lt k hk).1));have O4:=hid_ hown4;clear hown4 hgr4;have S4:=hid_ (S2.out.keep F4.out);obtain ⟨_,g21,_,_⟩:=S4.out.cells;have h21:=S4.out.b0.frozen 1)
  | go_simp)
 all_goals
  have hlen:i+(L.length - j)=(L.eraseIdx i).length:=by
   have:=Hj.out
   rw [List.length_eraseIdx,if_pos hil]
   omega
  have hfl:(rtFlat L).take (i * 3) ++ (rtFlat L).drop (j * 3)=rtFlat (L.eraseIdx i):=by
   rw [List.eraseIdx_eq_take_drop_succ,rtFlat_app,rtFlat_take,rtFlat_drop,Hj.out]
  have O5:=O4.out
  rw [hfl] at O5
  have O6:=hid_ O5
  have HL:=hid_ hlen
  clear hfl hlen O5 O4
  obtain ⟨_,_,r2,r3⟩:=S4.out.cells
  have r4:=S4.out.b1.frozen 0
  have r5:=S4.out.b1.frozen 1
  have r6:=S4.out.b1.lt
  go_wp2
  all_goals
   have q:=(((S4.out.b1.far (p:=⟨w.heap.size,1,none⟩) (by simp) (.slice A2 (i+(L.length - j)) c2)).set_ 0 (.int .i64 count)).set_ 1 (.slice A2 (i+(L.length - j)) c2))
   have q0:=q.cell' (i:=0) rfl
   have q1:=q.cell' (i:=1) rfl
   clear q r2 r3 r4 r5 g21 h21
   refine bodyPost_ret (v:=.tuple #[rtab count (.slice A2 (i+(L.length - j)) c2),.int .i64 0]) ?_ rfl ⟨A2,c2,by rw [← HL.out],?_,?_⟩
   ·simp [results,Tryz.results44,go_sem,q0,q1]
   ·unfold ROwn
    rw [← HL.out]
    refine own_fr (S:=fun b=>b=w.heap.size∨b=w.heap.size+1) (own_base O6.out (Nat.zero_le _)) ?_ ?_
    ·exact (((Fr.refl _ _).setCell (p:=⟨w.heap.size,1,none⟩) (.inl (.inl rfl)) _).setCell (p:=⟨w.heap.size+1,0,none⟩) (.inl (.inr rfl)) _).setCell (p:=⟨w.heap.size+1,1,none⟩) (.inl (.inr rfl)) _
    ·intro k hk
     have:=(O6.out.lt k hk).1
     have:=S2.out.b1.lt
     omega
   ·exact ((S4.out.fr.setCell (p:=⟨w.heap.size,1,none⟩) (.inr (by simp)) _).setCell (p:=⟨w.heap.size+1,0,none⟩) (.inr (by simp)) _).setCell (p:=⟨w.heap.size+1,1,none⟩) (.inr (by simp)) _
open Go.RowKit

theorem neq_yes (s g a b:Int) (h:¬(s=a∧g=b)) (w:World):(binOp .neq 48 (.agg #[.int .i64 s,.int .i64 g]) (.agg #[.int .i64 a,.int .i64 b])).run Tryz.prog w=.ok (.bool true) w:=by
  rw [neq_ref]
  have:(s==a && g==b)=false:=by simpa using h
  rw [this];rfl

structure SSt (w w':World) (count:Int) (v:Value) (L:List Rp) (a b c d:Int) (x y:Value):Prop where
  g:GSt w w' count v L (w.heap.size+1+1+1) x y
  b2:Blk w' (w.heap.size+1) 48 #[.int .i64 a,.int .i64 b]
  b3:Blk w' (w.heap.size+1+1) 48 #[.int .i64 c,.int .i64 d]
theorem SSt.keep {w w' w2:World} {count:Int} {v x y:Value} {L:List Rp} {a b c d:Int} (h:SSt w w' count v L a b c d x y) (hf:Fr none_ w' w2):SSt w w2 count v L a b c d x y:=
  ⟨h.g.keep hf,h.b2.fr hf id,h.b3.fr hf id⟩
theorem SSt.drew {w w':World} {count:Int} {v x y:Value} {L:List Rp} {a b c d:Int} (h:SSt w w' count v L a b c d x y):SSt w w'.drew count v L a b c d x y:=h.keep ((Fr.refl none_ w').drew)
theorem SSt.res {w w':World} {count:Int} {v x y:Value} {L:List Rp} {a b c d:Int} (h:SSt w w' count v L a b c d x y) (x' y':Value) :
    SSt w ((w'.setCell ⟨w.heap.size+1+1+1,0,none⟩ x').setCell ⟨w.heap.size+1+1+1,1,none⟩ y') count v L a b c d x' y':=
  ⟨h.g.res x' y',(h.b2.far (by simp) _).far (by simp) _,(h.b3.far (by simp) _).far (by simp) _⟩
theorem SSt.start (w w1:World) (count:Int) (v:Value) (L:List Rp) (a b c d:Int) (h:ROwn w v L)
    (hf:Fr none_ ((((w.alloc (rbox count v)).alloc (.cells #[.int .i64 a,.int .i64 b] 48)).alloc (.cells #[.int .i64 c,.int .i64 d] 48)).alloc (.cells #[.int .i64 0,.slice none 0 0] 38)) w1) :
    SSt w w1 count v L a b c d (.int .i64 0) (.slice none 0 0):=by
  have F:=((((Fr.refl none_ w).alloc (rbox count v)).alloc (.cells #[.int .i64 a,.int .i64 b] 48)).alloc (.cells #[.int .i64 c,.int .i64 d] 48)).alloc (.cells #[.int .i64 0,.slice none 0 0] 38)
  have k2:=(Blk.new (w.alloc (rbox count v)) 48 #[.int .i64 a,.int .i64 b])
  have k3:=(Blk.new ((w.alloc (rbox count v)).alloc (.cells #[.int .i64 a,.int .i64 b] 48)) 48 #[.int .i64 c,.int .i64 d])
  have k4:=(Blk.new (((w.alloc (rbox count v)).alloc (.cells #[.int .i64 a,.int .i64 b] 48)).alloc (.cells #[.int .i64 c,.int .i64 d] 48)) 38 #[.int .i64 0,.slice none 0 0])
  simp only [World.size_alloc] at k2 k3 k4
  exact ⟨⟨((((Blk.new w _ _).alloc _).alloc _).alloc _).fr hf id,k4.fr hf id,F.then_none hf,own_none h (F.then_none hf),by omega⟩,((k2.alloc _).alloc _).fr hf id,(k3.alloc _).fr hf id⟩

set_option maxHeartbeats 1000000 in
theorem rswap_err (count n:Int) (A:Option Addr) (cp:Nat) (L:List Rp) (a b c d:Int) (w:World) (h:ROwn w (.slice A L.length cp) L) (hl:L.length≤1000) (k:Int) (hk:whyL count L n=k) (hk0:k≠0) :
    Calls Tryz.prog 36 #[rtab count (.slice A L.length cp),.int .i64 n,.agg #[.int .i64 a,.int .i64 b],.agg #[.int .i64 c,.int .i64 d]] w fun e w'=>e=.returned (.tuple #[rtab count (.slice A L.length cp),.bool false,.int .i64 k])∧Fr none_ w w':=by
  have H:=hid_ h
  have Hk:=hid_ hk
  have hkb:(k==0)=false:=by simpa using hk0
  clear h hk hk0
  go_enter Tryz.func36,Tryz.ntmps36
  go_wp2_with fail
  refine (why_any count n A cp L _ (own_none H.out (by repeat (first | exact Fr.refl _ _ | apply Fr.alloc))) hl).mono ?_
  rintro e w1 ⟨rfl,hf1⟩
  rw [Hk.out]
  have S1:=hid_ (SSt.start w w1 count _ L a b c d H.out hf1)
  obtain ⟨c20,c21,_,_⟩:=S1.out.g.cells
  have n2:=S1.out.g.b0.lt
  have n4:=S1.out.g.b1.lt
  clear hf1
  go_wp2_with fail
  go_region_held3 (fun w'=>w'.cell? ⟨w.heap.size,0,none⟩=some (.int .i64 count)∧w'.cell? ⟨w.heap.size,1,none⟩=some (.slice A L.length cp))
    (first | (have T:=S1.out.drew.g;exact ⟨T.cells.1,T.cells.2.1⟩) | (have T:=S2.out.g;exact ⟨T.cells.1,T.cells.2.1⟩) | (have T:=(S2.out.res (.int .i64 count) (.slice A L.length cp)).g;exact ⟨T.cells.1,T.cells.2.1⟩))
    (first | (go_at_call 66;refine (why_any count n A cp L _ ?_ hl).mono ?_;(exact S1.out.drew.g.own);rintro e w2 ⟨rfl,hf2⟩;rw [Hk.out];have S2:=hid_ (S1.out.drew.keep hf2);clear hf2;obtain ⟨_,_,r0,r1⟩:=S2.out.g.cells;have r2:=S2.out.g.b1.frozen 0;have r3:=S2.out.g.b1.frozen 1))
  clear r0 r1 r2 r3 c20 c21
  have S3:=hid_ (S2.out.res (.int .i64 count) (.slice A L.length cp))
  obtain ⟨_,_,q0,q1⟩:=S3.out.g.cells
  go_wp2
  refine bodyPost_ret (v:=.tuple #[rtab count (.slice A L.length cp),.bool false,.int .i64 k]) ?_ rfl ⟨rfl,S3.out.g.fr⟩
  simp [results,Tryz.results36,go_sem,q0,q1]

set_option maxHeartbeats 1000000 in
theorem rswap_no (count n:Int) (A:Option Addr) (cp:Nat) (L:List Rp) (a b c d:Int) (w:World) (h:ROwn w (.slice A L.length cp) L) (hl:L.length≤1000) (h0:0≤n) (h1:n < count) (i:Nat) (m s g:Int) (hf:findL L n=i) (hi:L[i]?=some (m,s,g)) (hne:¬(s=a∧g=b)) :
    Calls Tryz.prog 36 #[rtab count (.slice A L.length cp),.int .i64 n,.agg #[.int .i64 a,.int .i64 b],.agg #[.int .i64 c,.int .i64 d]] w fun e w'=>e=.returned (.tuple #[rtab count (.slice A L.length cp),.bool false,.int .i64 0])∧Fr none_ w w':=by
  have hil:i < L.length:=(List.getElem?_eq_some_iff.1 hi).1
  have H:=hid_ h
  have Hf:=hid_ hf
  have Hk:Hid (whyL count L n=0):=hid_ (by rw [whyL,if_neg (by omega),if_neg (by omega)])
  have Hx:=hid_ hi
  have hq:=neq_yes s g a b hne
  clear h hf hi hne
  go_enter Tryz.func36,Tryz.ntmps36
  go_wp2_with fail
  refine (why_any count n A cp L _ (own_none H.out (by repeat (first | exact Fr.refl _ _ | apply Fr.alloc))) hl).mono ?_
  rintro e w1 ⟨rfl,hf1⟩
  rw [Hk.out]
  have S1:=hid_ (SSt.start w w1 count _ L a b c d H.out hf1)
  obtain ⟨c20,c21,_,_⟩:=S1.out.g.cells
  clear hf1
  go_wp2_with fail
  refine (find_any count n A cp L w1 S1.out.g.own hl).mono ?_
  rintro e w2 ⟨rfl,hw2⟩
  rw [Hf.out]
  have S2:Hid (SSt w w2 count (.slice A L.length cp) L a b c d (.int .i64 0) (.slice none 0 0)):=hid_ (S1.out.keep (by rw [hw2];exact (Fr.refl none_ w1).alloc _))
  clear hw2 c20 c21
  obtain ⟨gb,hA,hgl,hcl⟩:=rown_cell S2.out.g.own (by omega)
  obtain ⟨_,e1,e2⟩:=hcl i _ Hx.out
  have HA:=hid_ hA
  clear hcl
  subst hA
  obtain ⟨c20,c21,r0,r1⟩:=S2.out.g.cells
  have d0:w2.cell? ⟨w.heap.size+1,0,none⟩=some (.int .i64 a):=S2.out.b2.cell' rfl
  have d1:w2.cell? ⟨w.heap.size+1,1,none⟩=some (.int .i64 b):=S2.out.b2.cell' rfl
  have r2:=S2.out.g.b1.frozen 0
  have r3:=S2.out.g.b1.frozen 1
  have hi0:(0:Int)≤(i:Int):=Int.natCast_nonneg _
  have hi1:(i:Int) < (L.length:Int):=by omega
  go_wp2_with fail
  go_quiet (fail)
  go_wp2
  have S3:=hid_ ((S2.out.keep ((Fr.refl none_ w2).drewN nq)).res (.int .i64 count) (.slice (some ⟨gb,0,none⟩) L.length cp))
  obtain ⟨_,_,q0,q1⟩:=S3.out.g.cells
  clear r0 r1 r2 r3
  refine bodyPost_ret (v:=.tuple #[rtab count (.slice (some ⟨gb,0,none⟩) L.length cp),.bool false,.int .i64 0]) ?_ rfl ⟨rfl,S3.out.g.fr⟩
  simp [results,Tryz.results36,go_sem,q0,q1]

def RSwapPost (w:World) (count:Int) (L:List Rp) (i:Nat) (m c d:Int) (e:Ending) (w':World):Prop:=
  ∃ A cp,e=.returned (.tuple #[rtab count (.slice A (L.set i (m,c,d)).length cp),.bool true,.int .i64 0])∧ROwn w' (.slice A (L.set i (m,c,d)).length cp) (L.set i (m,c,d))∧Fr none_ w w'∧(∀ ad,A=some ad→w.heap.size≤ad.block)

theorem rtFlat_set:∀ (L:List Rp) (i:Nat) (m s g c d:Int),L[i]?=some (m,s,g)→((rtFlat L).set (i * 3+1) (.int .i64 c)).set (i * 3+1+1) (.int .i64 d)=rtFlat (L.set i (m,c,d))
  | [],i,m,s,g,c,d,h=>by simp at h
  | q :: L,0,m,s,g,c,d,h=>by
    obtain rfl:q=(m,s,g):=by simpa using h
    simp [rtFlat]
  | q :: L,i+1,m,s,g,c,d,h=>by
    have:=rtFlat_set L i m s g c d (by simpa using h)
    rw [show (i+1) * 3=i * 3+1+1+1 by omega]
    simpa [rtFlat,List.flatMap_cons] using this

set_option maxHeartbeats 1000000 in
theorem rswap_yes (count n:Int) (A:Option Addr) (cp:Nat) (L:List Rp) (a b c d:Int) (w:World) (h:ROwn w (.slice A L.length cp) L) (hl:L.length≤1000) (h0:0≤n) (h1:n < count) (i:Nat) (m:Int) (hf:findL L n=i) (hi:L[i]?=some (m,a,b)) :
  Calls Tryz.prog 36 #[rtab count (.slice A L.length cp),.int .i64 n,.agg #[.int .i64 a,.int .i64 b],.agg #[.int .i64 c,.int .i64 d]] w (RSwapPost w count L i m c d):=by
 obtain ⟨i0,hi0',hz0,hs0,hb0⟩:=info_parts rpage_info
 have Hi:=hid_ (And.intro hi0' (And.intro hz0 (And.intro hs0 hb0)))
 have hil:i < L.length:=(List.getElem?_eq_some_iff.1 hi).1
 have H:=hid_ h
 have Hf:=hid_ hf
 have Hk:Hid (whyL count L n=0):=hid_ (by rw [whyL,if_neg (by omega),if_neg (by omega)])
 have Hx:=hid_ hi
 clear h hf hi hi0' hz0 hs0 hb0
 go_enter Tryz.func36,Tryz.ntmps36
 go_wp2_with fail
 refine (why_any count n A cp L _ (own_none H.out (by repeat (first | exact Fr.refl _ _ | apply Fr.alloc))) hl).mono ?_
 rintro e w1 ⟨rfl,hf1⟩
 rw [Hk.out]
 have S1:=hid_ (SSt.start w w1 count _ L a b c d H.out hf1)
 obtain ⟨c20,c21,_,_⟩:=S1.out.g.cells
 clear hf1
 go_wp2_with fail
 refine (find_any count n A cp L w1 S1.out.g.own hl).mono ?_
 rintro e w2 ⟨rfl,hw2⟩
 rw [Hf.out]
 have S2:Hid (SSt w w2 count (.slice A L.length cp) L a b c d (.int .i64 0) (.slice none 0 0)):=hid_ (S1.out.keep (by rw [hw2];exact (Fr.refl none_ w1).alloc _))
 clear hw2 c20 c21
 obtain ⟨gb,hA,hgl,hcl⟩:=rown_cell S2.out.g.own (by omega)
 obtain ⟨_,e1,e2⟩:=hcl i _ Hx.out
 clear hcl
 subst hA
 obtain ⟨c20,c21,r0,r1⟩:=S2.out.g.cells
 have d0:w2.cell? ⟨w.heap.size+1,0,none⟩=some (.int .i64 a):=S2.out.b2.cell' rfl
 have d1:w2.cell? ⟨w.heap.size+1,1,none⟩=some (.int .i64 b):=S2.out.b2.cell' rfl
 have hi0:(0:Int)≤(i:Int):=Int.natCast_nonneg _
 have hi1:(i:Int) < (L.length:Int):=by omega
 have hz2:=S2.out.g.b0.lt
 go_wp2_with fail
 go_quiet (fail)
 obtain ⟨wq,hwq⟩:∃ wq,wq=w2.drewN nq:=⟨_,rfl⟩
 rw [← hwq]
 have Sq:Hid (SSt w wq count (.slice (some ⟨gb,0,none⟩) L.length cp) L a b c d (.int .i64 0) (.slice none 0 0)):=hid_ (by rw [hwq];exact S2.out.keep ((Fr.refl none_ w2).drewN nq))
 clear hwq c20 c21 r0 r1 d0 d1 hz2 e1 e2
 have hzq:=Sq.out.g.b0.lt
 obtain ⟨c20,c21,_,_⟩:=Sq.out.g.cells
 have hmax:Hid (0+L.length≤maxLen):=hid_ (by simp only [maxLen];omega)
 have hby:Hid ((0+L.length) * 24≤140737488355328):=hid_ (by omega)
 have hbs:Hid (wq.heap.size≤(wq.alloc (.cells #[] 159)).heap.size):=hid_ (by simp)
 have hsrc:Hid (Reads (wq.alloc (.cells #[] 159)) 3 (some ⟨gb,0,none⟩) L.length (rtFlat L)):=hid_ ((Reads.of_own Sq.out.g.own).alloc _)
 go_wp2_with (at_builtin;refine wpList_append_any _ rfl (.tmp 33) (.tmp 35) 36 rfl wq.heap.size 159 i0 _ 3 24 Tryz.underlying36 Hi.out.1 Hi.out.2.1 Hi.out.2.2.1 Hi.out.2.2.2 rfl (by omega) (.slice (some ⟨wq.heap.size,0,none⟩) 0 0) 0 [] rfl (own_empty_at wq _ _ _ _ (Nat.le_refl _) rfl) (some ⟨gb,0,none⟩) L.length cp (rtFlat L) rfl hsrc.out (rtFlat_one L) hmax.out hby.out hbs.out ?_;intro A1 c1 w3 hown3 hgr3;simp only [Nat.zero_add,List.nil_append] at hown3;have F3:=hid_ (((Fr.refl none_ wq).alloc (.cells #[] 159)).grown hgr3 (fun k hk=>.inr (by simp [Value.ownBlock] at hk;omega)));clear hgr3;obtain ⟨g1,hA1,hg1,hcl1⟩:=rown_cell (own_base hown3 (Nat.zero_le _)) (by omega);subst hA1;obtain ⟨x0,x1,x2⟩:=hcl1 i _ Hx.out;have y1:=hown3.frozenAt (i * 3+1);have y2:=hown3.frozenAt (i * 3+1+1);have O3:=hid_ hown3;clear hown3 hcl1;have S3:=hid_ (Sq.out.keep F3.out);have j0:w3.cell? ⟨w.heap.size+1+1,0,none⟩=some (.int .i64 c):=S3.out.b3.cell' rfl;have j1:w3.cell? ⟨w.heap.size+1+1,1,none⟩=some (.int .i64 d):=S3.out.b3.cell' rfl;obtain ⟨k0,k1,k2,k3⟩:=S3.out.g.cells;have k4:=S3.out.g.b0.frozen 1;have k5:=S3.out.g.b1.frozen 0;have k6:=S3.out.g.b1.frozen 1;have k7:wq.heap.size≤g1:=(O3.out.lt g1 rfl).1;have k8:=Sq.out.g.b1.lt;have k9:¬ g1=w.heap.size:=by omega)
 have hg3:¬ g1=w.heap.size+1+1+1:=by have:=k7;have:=k8;omega
 have q:=(((S3.out.g.b1.far (p:=⟨g1,i * 3+1,none⟩) (by show w.heap.size+1+1+1≠g1;omega) (.int .i64 c)).far (p:=⟨g1,i * 3+1+1,none⟩) (by show w.heap.size+1+1+1≠g1;omega) (.int .i64 d)).far (p:=⟨w.heap.size,1,none⟩) (by show w.heap.size+1+1+1≠w.heap.size;omega) (.slice (some ⟨g1,0,none⟩) L.length c1)).set_ 0 (.int .i64 count) |>.set_ 1 (.slice (some ⟨g1,0,none⟩) L.length c1)
 have q0:=q.cell' (i:=0) rfl
 have q1:=q.cell' (i:=1) rfl
 clear q k0 k1 k2 k3 k4 k5 k6 j0 j1 x0 x1 x2 y1 y2
 refine bodyPost_ret (v:=.tuple #[rtab count (.slice (some ⟨g1,0,none⟩) L.length c1),.bool true,.int .i64 0]) ?_ rfl ⟨some ⟨g1,0,none⟩,c1,by simp,?_,?_,fun ad e=>by cases e;show w.heap.size≤g1;omega⟩
 ·simp [results,Tryz.results36,go_sem,q0,q1]
 ·unfold ROwn
  rw [List.length_set,← rtFlat_set L i m a b c d Hx.out]
  have o1:=((O3.out.stored (i * 3+1) (.int .i64 c)).1.stored (i * 3+1+1) (.int .i64 d)).1
  refine own_fr (S:=fun b=>b=w.heap.size∨b=w.heap.size+1+1+1) (own_base o1 (Nat.zero_le _)) ?_ ?_
  ·exact (((Fr.refl _ _).setCell (p:=⟨w.heap.size,1,none⟩) (.inl (.inl rfl)) _).setCell (p:=⟨w.heap.size+1+1+1,0,none⟩) (.inl (.inr rfl)) _).setCell (p:=⟨w.heap.size+1+1+1,1,none⟩) (.inl (.inr rfl)) _
  ·intro k hk
   obtain rfl:g1=k:=by simpa [Value.ownBlock] using hk
   omega
 ·exact ((((S3.out.g.fr.setCell (p:=⟨g1,i * 3+1,none⟩) (.inr (by show w.heap.size≤g1;omega)) _).setCell (p:=⟨g1,i * 3+1+1,none⟩) (.inr (by show w.heap.size≤g1;omega)) _).setCell (p:=⟨w.heap.size,1,none⟩) (.inr (Nat.le_refl w.heap.size)) _).setCell (p:=⟨w.heap.size+1+1+1,0,none⟩) (.inr (by show w.heap.size≤w.heap.size+1+1+1;omega)) _).setCell (p:=⟨w.heap.size+1+1+1,1,none⟩) (.inr (by show w.heap.size≤w.heap.size+1+1+1;omega)) _
open Go.RowKit

def atC (ss:List Sl) (sl gn:Int):Int:=
  if sl < 1∨(ss.length:Int) < sl then 1 else
  match ss[(sl - 1).toNat]? with
  | some s=>if s.used=true∧s.gen=gn then 0 else 4
  | none=>1
theorem atC_cases (ss:List Sl) (sl gn:Int):(atC ss sl gn=1∧(sl < 1∨(ss.length:Int) < sl))∨∃ (i:Nat) (s:Sl),sl=(i:Int)+1∧ss[i]?=some s∧((atC ss sl gn=4∧¬ (s.used=true∧s.gen=gn))∨(atC ss sl gn=0∧s.used=true∧s.gen=gn)):=by
  unfold atC
  by_cases h:sl < 1∨(ss.length:Int) < sl
  · exact .inl ⟨if_pos h,h⟩
  · rw [if_neg h]
    have hl:(sl - 1).toNat < ss.length:=by omega
    refine .inr ⟨(sl - 1).toNat,ss[(sl - 1).toNat],by omega,List.getElem?_eq_getElem hl,?_⟩
    rw [List.getElem?_eq_getElem hl]
    by_cases h2:ss[(sl - 1).toNat].used=true∧ss[(sl - 1).toNat].gen=gn
    · exact .inr ⟨if_pos h2,h2⟩
    · exact .inl ⟨if_neg h2,h2⟩

section
variable (w:World) (a G:Nat) (last:Int) (ss:List Sl) (sl gn:Int)
variable {w a G last ss}
theorem at_arg1 (h:Ar w a G last ss) (h1:sl < 1):Calls Tryz.prog 85 #[.pointer (some ⟨a,0,none⟩),.agg #[.int .i64 sl,.int .i64 gn]] w fun e w'=>e=.returned (.tuple #[.pointer none,errV 1])∧Fr none_ w w':=by
  have F0:=hid_ ((Fr.refl none_ w).alloc (.cells #[.int .i64 sl,.int .i64 gn] 48))
  have h1:decide (sl < 1)=true:=by simpa using h1
  clear h
  go_enter Tryz.func85,Tryz.ntmps85
  go_wp2_with fail
  go_quiet (fail)
  have FQ:=hid_ (F0.out.drewN nq)
  go_wp2
  go_ret2
  exact ⟨rfl,FQ.out⟩
theorem at_arg2 (h:Ar w a G last ss) (h1:¬ sl < 1) (h2:(ss.length:Int) < sl):Calls Tryz.prog 85 #[.pointer (some ⟨a,0,none⟩),.agg #[.int .i64 sl,.int .i64 gn]] w fun e w'=>e=.returned (.tuple #[.pointer none,errV 1])∧Fr none_ w w':=by
  have F0:=hid_ ((Fr.refl none_ w).alloc (.cells #[.int .i64 sl,.int .i64 gn] 48))
  have h1:decide (sl < 1)=false:=by simpa using h1
  have h2:decide ((ss.length:Int) < sl)=true:=by simpa using h2
  have lA:=h.ltA
  have lA1:a < w.heap.size+1:=by omega
  have c0:w.cell? ⟨a,0,none⟩=some (.slice (some ⟨G,0,none⟩) ss.length ss.length):=h.hA.cell' rfl
  clear h
  go_enter Tryz.func85,Tryz.ntmps85
  go_wp2_with fail
  go_quiet (fail)
  have FQ:=hid_ (F0.out.drewN nq)
  go_wp2
  go_ret2
  exact ⟨rfl,FQ.out⟩
theorem at_stale {i:Nat} {s:Sl} (h:Ar w a G last ss) (hs:ss[i]?=some s) (hi:sl=(i:Int)+1) (hb:¬ (s.used=true∧s.gen=gn)):Calls Tryz.prog 85 #[.pointer (some ⟨a,0,none⟩),.agg #[.int .i64 sl,.int .i64 gn]] w fun e w'=>e=.returned (.tuple #[.pointer none,errV 4])∧Fr none_ w w':=by
  have hlen:=h.len
  have hlt:=(List.getElem?_eq_some_iff.1 hs).1
  obtain ⟨w0,hw0⟩:∃ w0,w0=w.alloc (.cells #[.int .i64 sl,.int .i64 gn] 48):=⟨_,rfl⟩
  have f0:Fr none_ w w0:=by rw [hw0];exact (Fr.refl none_ w).alloc _
  have F0:=hid_ f0
  have X0:=h.keep f0
  have p0:Blk w0 w.heap.size 48 #[.int .i64 sl,.int .i64 gn]:=by rw [hw0];exact Blk.new w _ _
  have x0:w0.cell? ⟨w.heap.size,0,none⟩=some (.int .i64 sl):=p0.cell' rfl
  have x1:w0.cell? ⟨w.heap.size,1,none⟩=some (.int .i64 gn):=p0.cell' rfl
  have h1:decide (sl < 1)=false:=by simp;omega
  have h2:decide ((ss.length:Int) < sl)=false:=by simp;omega
  have hw:IntKind.i64.wrap (sl - 1)=(i:Int):=by rw [show sl - 1=(i:Int) by omega];exact IntWalk.i64_in _ (by omega)
  have hi0:(0:Int)≤(i:Int):=Int.natCast_nonneg _
  have hi1:(i:Int) < (ss.length:Int):=by omega
  have c0:w0.cell? ⟨a,0,none⟩=some (.slice (some ⟨G,0,none⟩) ss.length ss.length):=X0.hA.cell' rfl
  have g0:w0.cell? ⟨G,i * 17,none⟩=some (.int .i64 s.gen):=X0.cell hs 0 rfl
  have lA:=h.ltA
  have lA1:a < w.heap.size+1:=by omega
  cases hu:s.used with
  | false =>
    have g1:w0.cell? ⟨G,i * 17+1,none⟩=some (.bool false):=by rw [← hu];exact X0.cell hs 1 rfl
    clear h hi f0 hb X0 p0 hs hlt
    go_enter Tryz.func85,Tryz.ntmps85
    go_wp2_with fail
    change Code.wp _ _ _ _ (w.alloc (.cells #[.int .i64 sl,.int .i64 gn] 48))
    rw [← hw0]
    clear hw0
    go_quiet (fail)
    go_wp2_with fail
    go_quiet (fail)
    go_wp2_with fail
    go_quiet (fail)
    go_wp2
    go_ret2
    exact ⟨rfl,by repeat (first | exact F0.out | apply Fr.drewN | apply Fr.drew)⟩
  | true =>
    have g1:w0.cell? ⟨G,i * 17+1,none⟩=some (.bool true):=by rw [← hu];exact X0.cell hs 1 rfl
    have hg:(s.gen==gn)=false:=by
      have:s.gen≠gn:=fun e=>hb ⟨hu,e⟩
      simpa using this
    clear h hi f0 hb X0 p0 hs hlt
    go_enter Tryz.func85,Tryz.ntmps85
    go_wp2_with fail
    change Code.wp _ _ _ _ (w.alloc (.cells #[.int .i64 sl,.int .i64 gn] 48))
    rw [← hw0]
    clear hw0
    go_quiet (fail)
    go_wp2_with fail
    go_quiet (fail)
    go_wp2_with fail
    go_quiet (fail)
    go_wp2
    go_ret2
    exact ⟨rfl,by repeat (first | exact F0.out | apply Fr.drewN | apply Fr.drew)⟩
theorem at_ok {i:Nat} {s:Sl} (h:Ar w a G last ss) (hs:ss[i]?=some s) (hi:sl=(i:Int)+1) (hu:s.used=true) (hg:s.gen=gn):Calls Tryz.prog 85 #[.pointer (some ⟨a,0,none⟩),.agg #[.int .i64 sl,.int .i64 gn]] w fun e w'=>e=.returned (.tuple #[.pointer (some ⟨G,i * 17,none⟩),.nilIface])∧Fr none_ w w':=by
  have hlen:=h.len
  have hlt:=(List.getElem?_eq_some_iff.1 hs).1
  obtain ⟨w0,hw0⟩:∃ w0,w0=w.alloc (.cells #[.int .i64 sl,.int .i64 gn] 48):=⟨_,rfl⟩
  have f0:Fr none_ w w0:=by rw [hw0];exact (Fr.refl none_ w).alloc _
  have F0:=hid_ f0
  have X0:=h.keep f0
  have p0:Blk w0 w.heap.size 48 #[.int .i64 sl,.int .i64 gn]:=by rw [hw0];exact Blk.new w _ _
  have x0:w0.cell? ⟨w.heap.size,0,none⟩=some (.int .i64 sl):=p0.cell' rfl
  have x1:w0.cell? ⟨w.heap.size,1,none⟩=some (.int .i64 gn):=p0.cell' rfl
  have h1:decide (sl < 1)=false:=by simp;omega
  have h2:decide ((ss.length:Int) < sl)=false:=by simp;omega
  have hw:IntKind.i64.wrap (sl - 1)=(i:Int):=by rw [show sl - 1=(i:Int) by omega];exact IntWalk.i64_in _ (by omega)
  have hi0:(0:Int)≤(i:Int):=Int.natCast_nonneg _
  have hi1:(i:Int) < (ss.length:Int):=by omega
  have c0:w0.cell? ⟨a,0,none⟩=some (.slice (some ⟨G,0,none⟩) ss.length ss.length):=X0.hA.cell' rfl
  have g0:w0.cell? ⟨G,i * 17,none⟩=some (.int .i64 gn):=by rw [← hg];exact X0.cell hs 0 rfl
  have g1:w0.cell? ⟨G,i * 17+1,none⟩=some (.bool true):=by rw [← hu];exact X0.cell hs 1 rfl
  have lA:=h.ltA
  have lA1:a < w.heap.size+1:=by omega
  clear h hi f0 X0 p0 hs hlt
  go_enter Tryz.func85,Tryz.ntmps85
  go_wp2_with fail
  change Code.wp _ _ _ _ (w.alloc (.cells #[.int .i64 sl,.int .i64 gn] 48))
  rw [← hw0]
  clear hw0
  go_quiet (fail)
  go_wp2_with fail
  go_quiet (fail)
  go_wp2_with fail
  go_quiet (fail)
  go_wp2
  go_ret2
  exact ⟨rfl,by repeat (first | exact F0.out | apply Fr.drewN | apply Fr.drew)⟩
theorem at_bad (h:Ar w a G last ss) (hb:atC ss sl gn≠0):Calls Tryz.prog 85 #[.pointer (some ⟨a,0,none⟩),.agg #[.int .i64 sl,.int .i64 gn]] w fun e w'=>e=.returned (.tuple #[.pointer none,errV (atC ss sl gn)])∧Fr none_ w w':=by
  rcases atC_cases ss sl gn with ⟨e,h1⟩ | ⟨i,s,hi,hs,⟨e,hn⟩ | ⟨e,_⟩⟩
  · rw [e]
    by_cases h2:sl < 1
    · exact at_arg1 sl gn h h2
    · exact at_arg2 sl gn h h2 (by omega)
  · rw [e]
    exact at_stale sl gn h hs hi hn
  · exact absurd e hb
end
end Go.Proofs.YthcpccddcgbanaaGreatDoor
