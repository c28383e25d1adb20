/- Texts of one proof, merged. -/
import Derived.Deep.QuietTactic
import Derived.BigQuiet
import Derived.BigRegion
import Derived.Test.YthpkbppaaagaoaaGreatMhA
import Derived.Test.YthpkbppaaagaoaaGreatMhB
import Derived.Test.YthpkbppaaagaoaaGreatMhG
import Derived.Test.YthpkbppaaagaoaaGreatMhM
import Derived.Test.YthpkbppaaagaoaaGreatMhV
namespace Go.Proofs.YthpkbppaaagaoaaGreat
set_option maxRecDepth 100000
set_option linter.unusedVariables false
open Go.RowKit Go.BigFrame

def partR (L:List Rw) (low high:ByteArray) (unb:Bool):List Rw:=L.filter fun p=>inS low high unb p.1
theorem partR_le (L:List Rw) (low high:ByteArray) (unb:Bool):(partR L low high unb).length≤L.length:=List.length_filter_le _ _
theorem partR_take {L:List Rw} {low high:ByteArray} {unb:Bool} {k:Nat} {p:Rw} (hp:L[k]?=some p):partR (L.take (k+1)) low high unb=if inS low high unb p.1=true then partR (L.take k) low high unb ++ [p] else partR (L.take k) low high unb:=by
  unfold partR
  rw [List.take_add_one,hp,List.filter_append]
  cases h:inS low high unb p.1 <;> simp [h]
set_option maxHeartbeats 4000000 in
theorem take13_ok (L:List Rw) (A:Option Addr) (c:Nat) (low high:ByteArray) (unb:Bool) (w:World) (h:Reads w 2 A L.length (rwFlat L)) (ho:RwsOk L) (hlo:SzOk low) (hhi:SzOk high) :
  Calls Tryz.prog 64 #[.slice A L.length c,.string low,.string high,.bool unb,.int .i64 0,.bool false] w (JoinPostR w (partR L low high unb)):=by
 obtain ⟨i0,hi0,hz0,hs0,hb0⟩:=info_parts row_info
 have Hi:=hid_ (And.intro hi0 (And.intro hz0 (And.intro hs0 hb0)))
 clear hi0 hz0 hs0 hb0
 have H0:=hid_ h
 have HO:=hid_ ho
 have HL:=hid_ hlo
 have HH:=hid_ hhi
 have h3:=ho.1
 clear h ho hlo hhi
 go_enter Tryz.func64,Tryz.ntmps64
 go_wp2_with fail
 go_loopw [13,14] (fun v i wr=>∃ k:Nat,k≤L.length∧i=.int .i64 k∧wr.ownsRow w.heap.size 25 2 v (partR (L.take k) low high unb).length (rwFlat (partR (L.take k) low high unb))∧Fr none_ w wr) (fun _ i _=>L.length - (intOf i).toNat)
 case atStart=>exact ⟨0,Nat.zero_le _,rfl,World.ownsRow_nil _ _ _ _,Fr.refl _ _⟩
 case round =>
  obtain ⟨k,hk,rfl,hown,hF⟩:=hrel
  obtain ⟨A1,c1,rfl⟩:=hown.shape
  have O:=hid_ hown
  have H:=hid_ (H0.out.none_fr hF)
  have F:=hid_ hF
  clear hown hF
  have hi0:(0:Int)≤(k:Int):=Int.natCast_nonneg _
  by_cases hlt:k < L.length
  ·have hi1':(k:Int) < (L.length:Int):=by omega
   obtain ⟨p,hp⟩:∃ p,L[k]?=some p:=⟨_,List.getElem?_eq_getElem hlt⟩
   obtain ⟨b,off,rfl,hb2,d0,d1⟩:=rw_at H.out hp
   have HT:=hid_ (partR_take (low:=low) (high:=high) (unb:=unb) hp)
   have hle:=partR_le (L.take k) low high unb
   rw [List.length_take] at hle
   have hpk:=(HO.out.2 p (List.mem_of_getElem? hp)).1
   have HPK:=hid_ hpk
   have hfs:=F.out.size
   clear hp hpk
   go_wp2_with fail
   refine (rin_ok low high unb p.1 wr HL.out.le HH.out.le HPK.out.le).mono ?_
   rintro e w1 ⟨rfl,q,hw1⟩
   have f1:Fr none_ wr w1:=by rw [hw1];exact (Fr.refl none_ wr).drewN q
   replace O:=hid_ (own_none O.out f1)
   replace F:=hid_ (F.out.then_none f1)
   replace d0:=cellFr d0 f1
   replace d1:=cellFr d1 f1
   have hs1:=f1.size
   clear f1 hw1
   obtain ⟨n,hn⟩:∃ n,n=(partR (L.take k) low high unb).length:=⟨_,rfl⟩
   rw [← hn] at O hle ⊢
   cases hlt2:inS low high unb p.1 with
   | false =>
    have HTT:Hid (partR (L.take (k+1)) low high unb=partR (L.take k) low high unb):=hid_ (by rw [HT.out,hlt2];rfl)
    have HN:=hid_ hn
    clear hlt2 hn d0 d1
    go_wp2_with fail
    go_roundw
    case rel=>exact ⟨k+1,by omega,by go_num,by rw [HTT.out,← HN.out];exact O.out,F.out⟩
    case measure=>simp [intOf];omega
   | true =>
    have HTT:Hid (partR (L.take (k+1)) low high unb=partR (L.take k) low high unb ++ [p]):=hid_ (by rw [HT.out,hlt2];rfl)
    have HN:=hid_ hn
    clear hlt2 hn
    go_wp2_with (at_builtin;refine wpList_append_any _ rfl (.tmp 39) (.tmp 44) 22 rfl w.heap.size 25 i0 _ 2 32 Tryz.underlying22 Hi.out.1 Hi.out.2.1 Hi.out.2.2.1 Hi.out.2.2.2 rfl (by omega) (.slice A1 n c1) n (rwFlat (partR (L.take k) low high unb)) rfl (own_none O.out ((Fr.refl none_ _).alloc _)) (some ⟨w1.heap.size,0,none⟩) 1 1 [.string p.1,.string p.2] rfl (reads_new w1 _ [.string p.1,.string p.2] _ rfl) (by simp [Value.oneCell']) (by simp only [maxLen];omega) (by omega) (by simp [World.size_alloc];omega) ?_;intro A3 c3 w3 hown3 hgr3)
    have F3:=hid_ ((F.out.alloc (.cells #[.string p.1,.string p.2] 25)).grown hgr3 (fun k hk=>.inr (O.out.lt k hk).1))
    have O3:=hid_ hown3
    clear hown3 hgr3 d0 d1
    go_wp2_with fail
    go_roundw
    case rel=>exact ⟨k+1,by omega,by go_num,by
     rw [HTT.out,List.length_append,List.length_singleton,← HN.out,rwFlat_app,rwFlat_single]
     exact O3.out,F3.out⟩
    case measure=>simp [intOf];omega
  ·obtain rfl:k=L.length:=by omega
   have o:=O.out
   have f:=F.out
   rw [List.take_length] at o
   go_wp2
   go_ret
   rw [List.take_length]
   exact ⟨A1,c1,rfl,o,f⟩
set_option maxHeartbeats 2000000 in
theorem part13_ok (L:List Rw) (A:Option Addr) (c:Nat) (low high:ByteArray) (w:World) (h:Reads w 2 A L.length (rwFlat L)) (ho:RwsOk L) (hlo:SzOk low) (hhi:SzOk high) :
    Calls Tryz.prog 32 #[.slice A L.length c,.string low,.string high] w (JoinPostR w (partR L low high high.toList.isEmpty)):=by
  have H:=hid_ h
  have HO:=hid_ ho
  have HL:=hid_ hlo
  have HH:=hid_ hhi
  clear h ho hlo hhi
  go_enter Tryz.func32,Tryz.ntmps32
  go_wp2_with fail
  refine (take13_ok L A c low high high.toList.isEmpty w H.out HO.out HL.out HH.out).mono ?_
  rintro e w1 ⟨A1,c1,rfl,ho,hf⟩
  have P:=hid_ (And.intro ho hf)
  clear ho hf
  go_wp2_with fail
  go_ret
  exact ⟨A1,c1,rfl,P.out.1,P.out.2⟩
open Go.RowKit Go.BigFrame

def kOk (s:ByteArray):Bool:=decide (1≤s.size) && decide (s.size≤16)
def sepB (out:List ByteArray) (x:ByteArray):Bool:=kOk x && (match out.getLast? with
  | none=>true
  | some z=>ltS z x)
def sepsTo (N:List ByteArray):Nat→List ByteArray
  | 0=>[]
  | k+1=>match N[k]? with
    | some x=>if sepB (sepsTo N k) x then sepsTo N k ++ [x] else sepsTo N k
    | none=>sepsTo N k
theorem sepsTo_y {N:List ByteArray} {k:Nat} {x:ByteArray} (hx:N[k]?=some x) (h:sepB (sepsTo N k) x=true):sepsTo N (k+1)=sepsTo N k ++ [x]:=by
  rw [sepsTo,hx];simp only [];rw [if_pos h]
theorem sepsTo_n {N:List ByteArray} {k:Nat} {x:ByteArray} (hx:N[k]?=some x) (h:sepB (sepsTo N k) x=false):sepsTo N (k+1)=sepsTo N k:=by
  rw [sepsTo,hx];simp only [];rw [if_neg (by rw [h];decide)]
theorem sepsTo_le (N:List ByteArray):∀ k,(sepsTo N k).length≤k
  | 0=>Nat.le_refl _
  | k+1=>by
    have:=sepsTo_le N k
    rw [sepsTo]
    split
    · split
      · simp;omega
      · omega
    · omega
structure SepsOk (S:List ByteArray):Prop where
  k:∀ x ∈ S,kOk x=true
  r:∀ (j:Nat) (x y:ByteArray),S[j]?=some x→S[j+1]?=some y→ltS x y=true
theorem sepsTo_ok (N:List ByteArray):∀ k,SepsOk (sepsTo N k)
  | 0=>⟨(fun x hx=>by cases hx),(fun j x y hx=>by cases hx)⟩
  | k+1=>by
    have ih:=sepsTo_ok N k
    rw [sepsTo]
    split
    · rename_i x hx
      by_cases h:sepB (sepsTo N k) x=true
      · rw [if_pos h]
        unfold sepB at h
        rw [Bool.and_eq_true] at h
        refine ⟨fun y hy=>?_,fun j a b ha hb=>?_⟩
        · rcases List.mem_append.1 hy with hy | hy
          · exact ih.k y hy
          · obtain rfl:y=x:=by simpa using hy
            exact h.1
        · have hbl:=(List.getElem?_eq_some_iff.1 hb).1
          rw [List.length_append,List.length_singleton] at hbl
          rw [List.getElem?_append_left (by omega)] at ha
          rcases Nat.lt_or_ge (j+1) (sepsTo N k).length with hl | hl
          · rw [List.getElem?_append_left hl] at hb
            exact ih.r j a b ha hb
          · have hj:j+1=(sepsTo N k).length:=by omega
            rw [List.getElem?_append_right hl,hj,Nat.sub_self] at hb
            obtain rfl:x=b:=by simpa using hb
            have h2:=h.2
            rw [List.getLast?_eq_getElem?,show (sepsTo N k).length - 1=j by omega,ha] at h2
            exact h2
      · rw [if_neg h];exact ih
    · exact ih
theorem str_info:(Tryz.prog.info? 9).map (fun i=>(i.zero,i.size,i.bytes))=some (some (.string ⟨#[]⟩),1,16):=by kernel_rfl
abbrev txFlat (S:List ByteArray):List Value:=S.map Value.string
def SepsPost (S:List ByteArray) (w:World) (e:Ending) (w':World):Prop:=∃ A c,e=.returned (.slice A S.length c)∧w'.ownsRow w.heap.size 9 1 (.slice A S.length c) S.length (txFlat S)∧Fr none_ w w'
set_option maxHeartbeats 4000000 in
theorem seps_ok (N:List ByteArray) (B:Option Addr) (d:Nat) (w:World) (hN:TxReads w B N.length N) (hd:N.length≤12) :
  Calls Tryz.prog 11 #[.slice B N.length d] w (SepsPost (sepsTo N N.length) w):=by
 obtain ⟨i0,hi0,hz0,hs0,hb0⟩:=info_parts str_info
 have Hi:=hid_ (And.intro hi0 (And.intro hz0 (And.intro hs0 hb0)))
 clear hi0 hz0 hs0 hb0
 have HN:=hid_ hN
 clear hN
 go_enter Tryz.func11,Tryz.ntmps11
 go_wp2_with fail
 go_loopw [3,4] (fun v i wr=>∃ k:Nat,k≤N.length∧i=.int .i64 k∧wr.ownsRow w.heap.size 9 1 v (sepsTo N k).length (txFlat (sepsTo N k))∧Fr none_ w wr) (fun _ i _=>N.length - (intOf i).toNat)
 case atStart=>exact ⟨0,Nat.zero_le _,rfl,World.ownsRow_nil _ _ _ _,Fr.refl _ _⟩
 case round =>
  obtain ⟨k,hk,rfl,hown,hF⟩:=hrel
  obtain ⟨A1,c1,rfl⟩:=hown.shape
  have O:=hid_ hown
  have F:=hid_ hF
  clear hown hF
  have hi0:(0:Int)≤(k:Int):=Int.natCast_nonneg _
  by_cases hlt:k < N.length
  ·have hi1':(k:Int) < (N.length:Int):=by omega
   obtain ⟨x,hx⟩:∃ x,N[k]?=some x:=⟨_,List.getElem?_eq_getElem hlt⟩
   obtain ⟨b,off,rfl,hb,hcell,hz⟩:=(HN.out.keep F.out).at_ hx
   have HX:=hid_ hx
   have hle:=sepsTo_le N k
   have HZ:=hid_ hz
   have hfs:=F.out.size
   clear hx hz
   have e0:∀ x':Wx wr,x'.to.cell? ⟨b,off+k,none⟩=some (.string x):=fun x'=>x'.cell hcell
   have HC1:Hid (∀ x':Wx wr,Calls Tryz.prog 40 #[.string x] x'.to fun e w'=>e=.returned (.bool (kOk x))∧Fr none_ x'.to w'):=hid_ (fun x'=>rkright_ok x x'.to HZ.out)
   obtain ⟨S,hS⟩:∃ S,S=sepsTo N k:=⟨_,rfl⟩
   rw [← hS] at O hle ⊢
   have HS:=hid_ hS
   clear hS
   obtain ⟨n,hn⟩:∃ n,n=S.length:=⟨_,rfl⟩
   rw [← hn] at O hle ⊢
   have HNn:=hid_ hn
   clear hn
   go_upto_region 5 with fail
   go_cut [33] (fun v wq=>v=.bool (sepB S x)∧Fr none_ wr wq)
   case first =>
    cases hko:kOk x with
    | false =>
     have HV:Hid (sepB S x=false):=hid_ (by unfold sepB;rw [hko];rfl)
     rw [hko] at HC1
     clear hko
     refine wp_region_quiet_x (by kernel_rfl) (by kernel_rfl) ?_
     repeat (first | go_big_quiet_step ((go_at_call 40;exact Calls.quiet_x (HC1.out _))) | quiet_step ((go_at_call 40;exact Calls.quiet_x (HC1.out _))))
     refine wpQuiet_nil ?_
     intro _ hw'
     obtain ⟨xq,hw''⟩:=hw'
     subst hw''
     go_wp2
     go_meet
     case rel=>exact ⟨by rw [HV.out],xq.fr⟩
    | true =>
     rw [hko] at HC1
     rcases Nat.eq_zero_or_pos n with h0 | h0
     ·subst h0
      have hS0:S=[]:=List.length_eq_zero_iff.1 HNn.out.symm
      have HV:Hid (sepB S x=true):=hid_ (by unfold sepB;rw [hko,hS0];rfl)
      clear hko
      refine wp_region_quiet_x (by kernel_rfl) (by kernel_rfl) ?_
      repeat (first | go_big_quiet_step ((go_at_call 40;exact Calls.quiet_x (HC1.out _))) | quiet_step ((go_at_call 40;exact Calls.quiet_x (HC1.out _))))
      refine wpQuiet_nil ?_
      intro _ hw'
      obtain ⟨xq,hw''⟩:=hw'
      subst hw''
      go_wp2
      go_meet
      case rel=>exact ⟨by rw [HV.out],xq.fr⟩
     ·obtain ⟨z,hz⟩:∃ z,S[n - 1]?=some z:=⟨_,List.getElem?_eq_getElem (by have:=HNn.out;omega)⟩
      have HV:Hid (sepB S x=ltS z x):=hid_ (by unfold sepB;rw [hko,List.getLast?_eq_getElem?,← HNn.out,hz];rfl)
      obtain ⟨A',c',hA,_,_,hpp⟩:=own_parts O.out
      obtain ⟨g,hg,hglt,hgc⟩:=hpp h0
      obtain ⟨rfl,rfl⟩:A'=A1∧c'=c1:=by injection hA with h1 h2 h3;exact ⟨h1.symm,h3.symm⟩
      subst hg
      have g1:=hgc (n - 1) (.string z) (by rw [List.getElem?_map,hz];rfl)
      have e1:∀ x':Wx wr,x'.to.cell? ⟨g,n - 1,none⟩=some (.string z):=fun x'=>x'.cell g1
      have hzz:SzOk z:=by
       have:=(sepsTo_ok N k).k z (by rw [← HS.out];exact List.mem_of_getElem? hz)
       unfold kOk at this
       rw [Bool.and_eq_true] at this
       have h2:=of_decide_eq_true this.2
       show z.size≤_
       omega
      have HC2:Hid (∀ x':Wx wr,Calls Tryz.prog 15 #[.string z,.string x] x'.to fun e w'=>e=.returned (.bool (ltS z x))∧Fr none_ x'.to w'):=hid_ (fun x'=>(before_ok z x x'.to hzz.le HZ.out.le).mono (by rintro e w' ⟨rfl,n,rfl⟩;exact ⟨rfl,(Fr.refl none_ _).drewN n⟩))
      have hw1:IntKind.i64.wrap ((n:Int) - 1)=((n - 1:Nat):Int):=by rw [show (n:Int) - 1=((n - 1:Nat):Int) by omega];exact IntWalk.i64_in _ (by omega)
      have hne:((n:Int)==0)=false:=by simp;omega
      have hde:decide ((n:Int)=0)=false:=decide_eq_false (by omega)
      have hj0:(0:Int)≤((n - 1:Nat):Int):=Int.natCast_nonneg _
      have hj1:((n - 1:Nat):Int) < (n:Int):=by omega
      obtain ⟨j,hj⟩:∃ j,j=n - 1:=⟨_,rfl⟩
      rw [← hj] at e1 hw1 hj0 hj1
      clear hko hz hA g1 hgc hzz hj
      refine wp_region_quiet_x (by kernel_rfl) (by kernel_rfl) ?_
      repeat (first | go_big_quiet_step (first | (go_at_call 40;exact Calls.quiet_x (HC1.out _)) | (go_at_call 15;exact Calls.quiet_x (HC2.out _))) | quiet_step (first | (go_at_call 40;exact Calls.quiet_x (HC1.out _)) | (go_at_call 15;exact Calls.quiet_x (HC2.out _))))
      refine wpQuiet_nil ?_
      intro _ hw'
      obtain ⟨xq,hw''⟩:=hw'
      subst hw''
      go_wp2
      go_meet
      case rel=>exact ⟨by rw [HV.out],xq.fr⟩
   case rest =>
   obtain ⟨rfl,hf⟩:=hcut
   have F2:=hid_ (F.out.then_none hf)
   replace O:=hid_ (own_none O.out hf)
   have c2:=cellFr hcell hf
   have hs2:=hf.size
   clear hf hcell e0
   cases hsb:sepB S x with
   | false =>
    have HT:=hid_ (sepsTo_n HX.out (by rw [← HS.out];exact hsb))
    clear hsb
    go_wp2_with fail
    go_roundw
    case rel=>exact ⟨k+1,by omega,by go_num,by rw [HT.out,← HS.out,← HNn.out];exact O.out,F2.out⟩
    case measure=>simp [intOf];omega
   | true =>
    have HT:=hid_ (sepsTo_y HX.out (by rw [← HS.out];exact hsb))
    clear hsb
    go_wp2_with (at_builtin;refine wpList_append_any _ rfl (.tmp 34) (.tmp 39) 23 rfl w.heap.size 9 i0 _ 1 16 Tryz.underlying23 Hi.out.1 Hi.out.2.1 Hi.out.2.2.1 Hi.out.2.2.2 rfl (by omega) (.slice A1 n c1) n (txFlat S) rfl (own_none O.out ((Fr.refl none_ _).alloc _)) (some ⟨_,0,none⟩) 1 1 [.string x] rfl (reads_new _ _ [.string x] _ rfl) (by simp [Value.oneCell']) (by simp only [maxLen];omega) (by omega) (by simp [World.size_alloc];omega) ?_;intro A3 c3 w3 hown3 hgr3)
    have F3:=hid_ ((F2.out.alloc (.cells #[.string x] 9)).grown hgr3 (fun k hk=>.inr (O.out.lt k hk).1))
    have O3:=hid_ hown3
    clear hown3 hgr3 c2
    go_wp2_with fail
    go_roundw
    case rel=>exact ⟨k+1,by omega,by go_num,by
     rw [HT.out,← HS.out,List.length_append,List.length_singleton,← HNn.out]
     show World.ownsRow _ _ _ _ _ _ (List.map _ (S ++ [x]))
     rw [List.map_append]
     exact O3.out,F3.out⟩
    case measure=>simp [intOf];omega
  ·obtain rfl:k=N.length:=by omega
   have o:=O.out
   have f:=F.out
   go_wp2
   go_ret
   exact ⟨A1,c1,rfl,o,f⟩
open Go.RowKit Go.BigFrame

def sepAt (S:List ByteArray) (i:Nat):ByteArray:=(S[i]?).getD nilS
def leafLow (S:List ByteArray):Nat→ByteArray
  | 0=>nilS
  | j+1=>sepAt S j
def lfR13 (l:List Rw) (S:List ByteArray) (i:Nat):Rc:=
  { Rc.zero with kind:=1,low:=leafLow S i,high:=sepAt S i,unb:=decide (i=S.length),right:=if i < S.length then (i:Int)+2 else 0,rows:=partR l (leafLow S i) (sepAt S i) (sepAt S i).toList.isEmpty }
def RecPost (R:Rc) (w:World) (e:Ending) (w':World):Prop:=∃ A c,e=.returned (.agg (recA R (.slice A R.rows.length c) (.slice none 0 0)))∧w'.ownsRow w.heap.size 25 2 (.slice A R.rows.length c) R.rows.length (rwFlat R.rows)∧Fr none_ w w'
theorem TxReads.sz {w:World} {A:Option Addr} {n:Nat} {S:List ByteArray} (h:TxReads w A n S) (i:Nat):SzOk (sepAt S i):=by
  unfold sepAt
  cases hx:S[i]? with
  | none=>exact SzOk.nil
  | some x=>obtain ⟨_,_,_,_,_,hz⟩:=h.at_ hx;exact hz
theorem TxReads.szl {w:World} {A:Option Addr} {n:Nat} {S:List ByteArray} (h:TxReads w A n S) (i:Nat):SzOk (leafLow S i):=by
  cases i with
  | zero=>exact SzOk.nil
  | succ i=>exact h.sz i
set_option maxHeartbeats 4000000 in
theorem leaf13_ok (l:List Rw) (A B:Option Addr) (c d:Nat) (S:List ByteArray) (i:Nat) (w:World) (h:Reads w 2 A l.length (rwFlat l)) (ho:RwsOk l) (hS:TxReads w B S.length S) (hd:S.length≤12) (hi:i≤S.length) :
  Calls Tryz.prog 42 #[.slice A l.length c,.slice B S.length d,.int .i64 i] w (RecPost (lfR13 l S i) w):=by
 have H:=hid_ h
 have HO:=hid_ ho
 have HS:=hid_ hS
 have hi0:(0:Int)≤(i:Int):=Int.natCast_nonneg _
 clear h ho hS
 obtain ⟨w0,hw0⟩:∃ z,z=w.alloc (.cells recZ 51):=⟨_,rfl⟩
 have f0:Fr none_ w w0:=by rw [hw0];exact (Fr.refl none_ w).alloc _
 have B0:Hid (Blk w0 w.heap.size 51 recZ):=hid_ (by rw [hw0];exact Blk.new w _ _)
 have F0:=hid_ f0
 have hs0:=B0.out.lt
 clear f0
 have ZL:=hid_ (HS.out.szl i)
 have ZH:=hid_ (HS.out.sz i)
 go_enter Tryz.func42,Tryz.ntmps42
 go_upto_region 1 with fail
 change Code.wp _ _ _ _ (w.alloc (.cells recZ 51))
 rw [← hw0]
 clear hw0
 rcases Nat.eq_zero_or_pos i with hz | hz
 ·have hgt:¬ (0:Int) < (i:Int):=by omega
  rcases Nat.lt_or_ge i S.length with hl | hl
  ·skip
   subst hz
   have eb:((0:Int)==(S.length:Int))=false:=by simp;omega
   go_upto_region 2 with fail
   obtain ⟨w1,hw1⟩:∃ z,z=w0.alloc (.cells (recA ⟨1,nilS,nilS,false,2,[],[],nilS,nilS,0,0,0,nilS,0,0⟩ (.slice none 0 0) (.slice none 0 0)) 51):=⟨_,rfl⟩
   change Code.wp _ _ _ _ (w0.alloc (.cells (recA ⟨1,nilS,nilS,false,2,[],[],nilS,nilS,0,0,0,nilS,0,0⟩ (.slice none 0 0) (.slice none 0 0)) 51))
   rw [← hw1]
   have P1:Hid (Blk w1 w0.heap.size 51 (recA ⟨1,nilS,nilS,false,2,[],[],nilS,nilS,0,0,0,nilS,0,0⟩ (.slice none 0 0) (.slice none 0 0))∧Fr none_ w0 w1):=hid_ (by rw [hw1];exact ⟨Blk.new _ _ _,(Fr.refl none_ _).alloc _⟩)
   clear hw1
   have B1:=hid_ P1.out.1
   have F1:=hid_ (F0.out.then_none P1.out.2)
   have Z1:Hid (Blk w1 w.heap.size 51 recZ):=hid_ (B0.out.fr P1.out.2 id)
   clear P1
   have hxh:S[0]?=some (sepAt S 0):=by unfold sepAt;rw [List.getElem?_eq_getElem (by omega)];rfl
   obtain ⟨b2,off2,rfl,hb2,hch,_⟩:=(HS.out.keep F1.out).at_ hxh
   rw [Nat.add_zero] at hch
   have hi1:((0:Nat):Int) < (S.length:Int):=by omega
   clear hxh
   have sc:=B1.out.cell' (i:=2) rfl
   have sz:=B1.out.frozen 2
   go_upto_region 7 with fail
   obtain ⟨w2,hw2⟩:∃ z,z=w1.setCell ⟨w0.heap.size,2,none⟩ (.string (sepAt S 0)):=⟨_,rfl⟩
   change Code.wp _ _ _ _ (w1.setCell ⟨w0.heap.size,2,none⟩ (.string (sepAt S 0)))
   rw [← hw2]
   have B2:Hid (Blk w2 w0.heap.size 51 (recA ⟨1,nilS,(sepAt S 0),false,2,[],[],nilS,nilS,0,0,0,nilS,0,0⟩ (.slice none 0 0) (.slice none 0 0))):=hid_ (by rw [hw2];exact B1.out.set_ 2 (.string (sepAt S 0)))
   have F2:=hid_ (F1.out.then_only (show Fr (only w0.heap.size) w1 w2 by rw [hw2];exact Fr.only1 _ ⟨w0.heap.size,2,none⟩ _) (.inr (by omega)))
   have Z2:Hid (Blk w2 w.heap.size 51 recZ):=hid_ (Z1.out.fr (show Fr (only w0.heap.size) w1 w2 by rw [hw2];exact Fr.only1 _ ⟨w0.heap.size,2,none⟩ _) (only_ne (by omega)))
   clear hw2 B1 F1 Z1 sc sz
   have hR:lfR13 l S 0=⟨1,nilS,(sepAt S 0),false,2,partR l nilS (sepAt S 0) ((sepAt S 0)).toList.isEmpty,[],nilS,nilS,0,0,0,nilS,0,0⟩:=by
    have e1:decide (0=S.length)=false:=by simp;omega
    have e2:(if 0 < S.length then ((0:Nat):Int)+2 else 0)=2:=by rw [if_pos (by omega)];rfl
    have e3:sepAt S 0=(sepAt S 0):=rfl
    unfold lfR13;rw [e1,e2,e3];rfl
   have HR:=hid_ hR
   have q1:=B2.out.cell' (i:=1) rfl
   have q2:=B2.out.cell' (i:=2) rfl
   have zlo:=ZL.out
   have zhi:=ZH.out
   clear hR
   go_wp2_with fail
   refine (part13_ok l A c nilS (sepAt S 0) w2 (H.out.none_fr F2.out) HO.out SzOk.nil zhi).mono ?_
   rintro e w7 ⟨A1,c1,rfl,ho,hf⟩
   have O7:=hid_ ho
   have F7:=hid_ (F2.out.then_none hf)
   have B7:=hid_ (B2.out.fr hf id)
   have Z7:=hid_ (Z2.out.fr hf id)
   have hs7:=F2.out.size
   clear ho hf q1 q2 zlo zhi
   have sc:=B7.out.cell' (i:=5) rfl
   have sz:=B7.out.frozen 5
   obtain ⟨nn,hnn⟩:∃ z,z=partR l nilS (sepAt S 0) ((sepAt S 0)).toList.isEmpty:=⟨_,rfl⟩
   rw [← hnn] at O7 ⊢
   have HNN:=hid_ hnn
   clear hnn
   go_upto_region 8 with fail
   obtain ⟨w8,hw8⟩:∃ z,z=w7.setCell ⟨w0.heap.size,5,none⟩ (.slice A1 nn.length c1):=⟨_,rfl⟩
   change Code.wp _ _ _ _ (w7.setCell ⟨w0.heap.size,5,none⟩ (.slice A1 nn.length c1))
   rw [← hw8]
   have B8:Hid (Blk w8 w0.heap.size 51 (recA ⟨1,nilS,(sepAt S 0),false,2,nn,[],nilS,nilS,0,0,0,nilS,0,0⟩ (.slice A1 nn.length c1) (.slice none 0 0))):=hid_ (by rw [hw8];exact B7.out.set_ 5 (.slice A1 nn.length c1))
   have f8:Fr (only w0.heap.size) w7 w8:=by rw [hw8];exact Fr.only1 _ ⟨w0.heap.size,5,none⟩ _
   have F8:=hid_ (F7.out.then_only f8 (.inr (by omega)))
   have Z8:=hid_ (Z7.out.fr f8 (only_ne (by omega)))
   have O8:=hid_ (own_fr O7.out f8 (fun k hk e=>own_blk_ne O7.out B7.out (by decide) (by rw [hk,show k=w0.heap.size from e])))
   clear hw8 f8 B7 F7 Z7 O7 sc sz
   go_wp2_with (first | (refine wpList_load_mid rfl 51 (.tmp 7) rfl w0.heap.size 0 rfl (recA ⟨1,nilS,(sepAt S 0),false,2,nn,[],nilS,nilS,0,0,0,nilS,0,0⟩ (.slice A1 nn.length c1) (.slice none 0 0)).toList _ (Blk.range7 (l:=(recA ⟨1,nilS,(sepAt S 0),false,2,nn,[],nilS,nilS,0,0,0,nilS,0,0⟩ (.slice A1 nn.length c1) (.slice none 0 0)).toList) B8.out) Tryz.underlying51 rfl rec_size ?_) | (refine wpList_store_mid rfl 51 (.tmp 6) (.tmp 40) rfl w.heap.size 0 (recA ⟨1,nilS,(sepAt S 0),false,2,nn,[],nilS,nilS,0,0,0,nilS,0,0⟩ (.slice A1 nn.length c1) (.slice none 0 0)) rfl rfl (Z8.out.there9 rfl) rec_size (by simp [Value.oneCell']) ?_;have ov:=Z8.out.over9 (recA ⟨1,nilS,(sepAt S 0),false,2,nn,[],nilS,nilS,0,0,0,nilS,0,0⟩ (.slice A1 nn.length c1) (.slice none 0 0)).toList rfl;obtain ⟨w9,hw9⟩:∃ z,z=w8.setCells w.heap.size 0 (recA ⟨1,nilS,(sepAt S 0),false,2,nn,[],nilS,nilS,0,0,0,nilS,0,0⟩ (.slice A1 nn.length c1) (.slice none 0 0)).toList:=⟨_,rfl⟩;rw [← hw9] at ov;change wpList _ _ _ _ _ (w8.setCells w.heap.size 0 (recA ⟨1,nilS,(sepAt S 0),false,2,nn,[],nilS,nilS,0,0,0,nilS,0,0⟩ (.slice A1 nn.length c1) (.slice none 0 0)).toList);rw [← hw9];have OV:=hid_ ov;clear hw9 ov))
   refine bodyPost_ret (results_cell7 _ _ rfl w.heap.size 0 (recA ⟨1,nilS,(sepAt S 0),false,2,nn,[],nilS,nilS,0,0,0,nilS,0,0⟩ (.slice A1 nn.length c1) (.slice none 0 0)).toList _ rfl (Blk.range7 (l:=(recA ⟨1,nilS,(sepAt S 0),false,2,nn,[],nilS,nilS,0,0,0,nilS,0,0⟩ (.slice A1 nn.length c1) (.slice none 0 0)).toList) OV.out.1) Tryz.underlying51 rfl rec_size) rfl ?_
   rw [HR.out,← HNN.out]
   exact ⟨A1,c1,rfl,own_base (own_fr O8.out OV.out.2 (fun k hk e=>own_blk_ne O8.out Z8.out (by decide) (by rw [hk,show k=w.heap.size from e]))) (by omega),F8.out.then_only OV.out.2 (.inr (Nat.le_refl _))⟩
  ·skip
   subst hz
   have eb:((0:Int)==(S.length:Int))=true:=by simp;omega
   go_upto_region 2 with fail
   obtain ⟨w1,hw1⟩:∃ z,z=w0.alloc (.cells (recA ⟨1,nilS,nilS,true,2,[],[],nilS,nilS,0,0,0,nilS,0,0⟩ (.slice none 0 0) (.slice none 0 0)) 51):=⟨_,rfl⟩
   change Code.wp _ _ _ _ (w0.alloc (.cells (recA ⟨1,nilS,nilS,true,2,[],[],nilS,nilS,0,0,0,nilS,0,0⟩ (.slice none 0 0) (.slice none 0 0)) 51))
   rw [← hw1]
   have P1:Hid (Blk w1 w0.heap.size 51 (recA ⟨1,nilS,nilS,true,2,[],[],nilS,nilS,0,0,0,nilS,0,0⟩ (.slice none 0 0) (.slice none 0 0))∧Fr none_ w0 w1):=hid_ (by rw [hw1];exact ⟨Blk.new _ _ _,(Fr.refl none_ _).alloc _⟩)
   clear hw1
   have B1:=hid_ P1.out.1
   have F1:=hid_ (F0.out.then_none P1.out.2)
   have Z1:Hid (Blk w1 w.heap.size 51 recZ):=hid_ (B0.out.fr P1.out.2 id)
   clear P1
   have hi1:¬ (0:Int) < (S.length:Int):=by omega
   have sc:=B1.out.cell' (i:=4) rfl
   have sz:=B1.out.frozen 4
   go_upto_region 7 with fail
   obtain ⟨w2,hw2⟩:∃ z,z=w1.setCell ⟨w0.heap.size,4,none⟩ (.int .i64 0):=⟨_,rfl⟩
   change Code.wp _ _ _ _ (w1.setCell ⟨w0.heap.size,4,none⟩ (.int .i64 0))
   rw [← hw2]
   have B2:Hid (Blk w2 w0.heap.size 51 (recA ⟨1,nilS,nilS,true,0,[],[],nilS,nilS,0,0,0,nilS,0,0⟩ (.slice none 0 0) (.slice none 0 0))):=hid_ (by rw [hw2];exact B1.out.set_ 4 (.int .i64 0))
   have F2:=hid_ (F1.out.then_only (show Fr (only w0.heap.size) w1 w2 by rw [hw2];exact Fr.only1 _ ⟨w0.heap.size,4,none⟩ _) (.inr (by omega)))
   have Z2:Hid (Blk w2 w.heap.size 51 recZ):=hid_ (Z1.out.fr (show Fr (only w0.heap.size) w1 w2 by rw [hw2];exact Fr.only1 _ ⟨w0.heap.size,4,none⟩ _) (only_ne (by omega)))
   clear hw2 B1 F1 Z1 sc sz
   have hR:lfR13 l S 0=⟨1,nilS,nilS,true,0,partR l nilS nilS (nilS).toList.isEmpty,[],nilS,nilS,0,0,0,nilS,0,0⟩:=by
    have e1:decide (0=S.length)=true:=by simp;omega
    have e2:(if 0 < S.length then ((0:Nat):Int)+2 else 0)=0:=by rw [if_neg (by omega)]
    have e3:sepAt S 0=nilS:=by unfold sepAt;rw [List.getElem?_eq_none (by omega)];rfl
    unfold lfR13;rw [e1,e2,e3];rfl
   have HR:=hid_ hR
   have q1:=B2.out.cell' (i:=1) rfl
   have q2:=B2.out.cell' (i:=2) rfl
   have zlo:=ZL.out
   have zhi:=ZH.out
   clear hR
   go_wp2_with fail
   refine (part13_ok l A c nilS nilS w2 (H.out.none_fr F2.out) HO.out SzOk.nil SzOk.nil).mono ?_
   rintro e w7 ⟨A1,c1,rfl,ho,hf⟩
   have O7:=hid_ ho
   have F7:=hid_ (F2.out.then_none hf)
   have B7:=hid_ (B2.out.fr hf id)
   have Z7:=hid_ (Z2.out.fr hf id)
   have hs7:=F2.out.size
   clear ho hf q1 q2 zlo zhi
   have sc:=B7.out.cell' (i:=5) rfl
   have sz:=B7.out.frozen 5
   obtain ⟨nn,hnn⟩:∃ z,z=partR l nilS nilS (nilS).toList.isEmpty:=⟨_,rfl⟩
   rw [← hnn] at O7 ⊢
   have HNN:=hid_ hnn
   clear hnn
   go_upto_region 8 with fail
   obtain ⟨w8,hw8⟩:∃ z,z=w7.setCell ⟨w0.heap.size,5,none⟩ (.slice A1 nn.length c1):=⟨_,rfl⟩
   change Code.wp _ _ _ _ (w7.setCell ⟨w0.heap.size,5,none⟩ (.slice A1 nn.length c1))
   rw [← hw8]
   have B8:Hid (Blk w8 w0.heap.size 51 (recA ⟨1,nilS,nilS,true,0,nn,[],nilS,nilS,0,0,0,nilS,0,0⟩ (.slice A1 nn.length c1) (.slice none 0 0))):=hid_ (by rw [hw8];exact B7.out.set_ 5 (.slice A1 nn.length c1))
   have f8:Fr (only w0.heap.size) w7 w8:=by rw [hw8];exact Fr.only1 _ ⟨w0.heap.size,5,none⟩ _
   have F8:=hid_ (F7.out.then_only f8 (.inr (by omega)))
   have Z8:=hid_ (Z7.out.fr f8 (only_ne (by omega)))
   have O8:=hid_ (own_fr O7.out f8 (fun k hk e=>own_blk_ne O7.out B7.out (by decide) (by rw [hk,show k=w0.heap.size from e])))
   clear hw8 f8 B7 F7 Z7 O7 sc sz
   go_wp2_with (first | (refine wpList_load_mid rfl 51 (.tmp 7) rfl w0.heap.size 0 rfl (recA ⟨1,nilS,nilS,true,0,nn,[],nilS,nilS,0,0,0,nilS,0,0⟩ (.slice A1 nn.length c1) (.slice none 0 0)).toList _ (Blk.range7 (l:=(recA ⟨1,nilS,nilS,true,0,nn,[],nilS,nilS,0,0,0,nilS,0,0⟩ (.slice A1 nn.length c1) (.slice none 0 0)).toList) B8.out) Tryz.underlying51 rfl rec_size ?_) | (refine wpList_store_mid rfl 51 (.tmp 6) (.tmp 40) rfl w.heap.size 0 (recA ⟨1,nilS,nilS,true,0,nn,[],nilS,nilS,0,0,0,nilS,0,0⟩ (.slice A1 nn.length c1) (.slice none 0 0)) rfl rfl (Z8.out.there9 rfl) rec_size (by simp [Value.oneCell']) ?_;have ov:=Z8.out.over9 (recA ⟨1,nilS,nilS,true,0,nn,[],nilS,nilS,0,0,0,nilS,0,0⟩ (.slice A1 nn.length c1) (.slice none 0 0)).toList rfl;obtain ⟨w9,hw9⟩:∃ z,z=w8.setCells w.heap.size 0 (recA ⟨1,nilS,nilS,true,0,nn,[],nilS,nilS,0,0,0,nilS,0,0⟩ (.slice A1 nn.length c1) (.slice none 0 0)).toList:=⟨_,rfl⟩;rw [← hw9] at ov;change wpList _ _ _ _ _ (w8.setCells w.heap.size 0 (recA ⟨1,nilS,nilS,true,0,nn,[],nilS,nilS,0,0,0,nilS,0,0⟩ (.slice A1 nn.length c1) (.slice none 0 0)).toList);rw [← hw9];have OV:=hid_ ov;clear hw9 ov))
   refine bodyPost_ret (results_cell7 _ _ rfl w.heap.size 0 (recA ⟨1,nilS,nilS,true,0,nn,[],nilS,nilS,0,0,0,nilS,0,0⟩ (.slice A1 nn.length c1) (.slice none 0 0)).toList _ rfl (Blk.range7 (l:=(recA ⟨1,nilS,nilS,true,0,nn,[],nilS,nilS,0,0,0,nilS,0,0⟩ (.slice A1 nn.length c1) (.slice none 0 0)).toList) OV.out.1) Tryz.underlying51 rfl rec_size) rfl ?_
   rw [HR.out,← HNN.out]
   exact ⟨A1,c1,rfl,own_base (own_fr O8.out OV.out.2 (fun k hk e=>own_blk_ne O8.out Z8.out (by decide) (by rw [hk,show k=w.heap.size from e]))) (by omega),F8.out.then_only OV.out.2 (.inr (Nat.le_refl _))⟩
 ·have hgt:(0:Int) < (i:Int):=by omega
  rcases Nat.lt_or_ge i S.length with hl | hl
  ·skip
   obtain ⟨j,rfl⟩:∃ j,i=j+1:=⟨i - 1,by omega⟩
   have eb:(((j:Int)+1)==(S.length:Int))=false:=by simp;omega
   have eb2:(((j+1:Nat):Int)==(S.length:Int))=false:=by simp;omega
   go_upto_region 2 with fail
   obtain ⟨w1,hw1⟩:∃ z,z=w0.alloc (.cells (recA ⟨1,nilS,nilS,false,((j:Int)+1+2),[],[],nilS,nilS,0,0,0,nilS,0,0⟩ (.slice none 0 0) (.slice none 0 0)) 51):=⟨_,rfl⟩
   change Code.wp _ _ _ _ (w0.alloc (.cells (recA ⟨1,nilS,nilS,false,((j:Int)+1+2),[],[],nilS,nilS,0,0,0,nilS,0,0⟩ (.slice none 0 0) (.slice none 0 0)) 51))
   rw [← hw1]
   have P1:Hid (Blk w1 w0.heap.size 51 (recA ⟨1,nilS,nilS,false,((j:Int)+1+2),[],[],nilS,nilS,0,0,0,nilS,0,0⟩ (.slice none 0 0) (.slice none 0 0))∧Fr none_ w0 w1):=hid_ (by rw [hw1];exact ⟨Blk.new _ _ _,(Fr.refl none_ _).alloc _⟩)
   clear hw1
   have B1:=hid_ P1.out.1
   have F1:=hid_ (F0.out.then_none P1.out.2)
   have Z1:Hid (Blk w1 w.heap.size 51 recZ):=hid_ (B0.out.fr P1.out.2 id)
   clear P1
   have hxl:S[j]?=some (sepAt S j):=by unfold sepAt;rw [List.getElem?_eq_getElem (by omega)];rfl
   obtain ⟨b,off,rfl,hb,hcl,_⟩:=(HS.out.keep F1.out).at_ hxl
   have hj0:(0:Int)≤(j:Int):=Int.natCast_nonneg _
   have hj1:(j:Int) < (S.length:Int):=by omega
   have hwj:IntKind.i64.wrap (((j+1:Nat):Int) - 1)=(j:Int):=by rw [show ((j+1:Nat):Int) - 1=(j:Int) by omega];exact IntWalk.i64_in _ (by omega)
   clear hxl
   have sc:=B1.out.cell' (i:=1) rfl
   have sz:=B1.out.frozen 1
   go_upto_region 4 with fail
   obtain ⟨w2,hw2⟩:∃ z,z=w1.setCell ⟨w0.heap.size,1,none⟩ (.string (sepAt S j)):=⟨_,rfl⟩
   change Code.wp _ _ _ _ (w1.setCell ⟨w0.heap.size,1,none⟩ (.string (sepAt S j)))
   rw [← hw2]
   have B2:Hid (Blk w2 w0.heap.size 51 (recA ⟨1,(sepAt S j),nilS,false,((j:Int)+1+2),[],[],nilS,nilS,0,0,0,nilS,0,0⟩ (.slice none 0 0) (.slice none 0 0))):=hid_ (by rw [hw2];exact B1.out.set_ 1 (.string (sepAt S j)))
   have F2:=hid_ (F1.out.then_only (show Fr (only w0.heap.size) w1 w2 by rw [hw2];exact Fr.only1 _ ⟨w0.heap.size,1,none⟩ _) (.inr (by omega)))
   have Z2:Hid (Blk w2 w.heap.size 51 recZ):=hid_ (Z1.out.fr (show Fr (only w0.heap.size) w1 w2 by rw [hw2];exact Fr.only1 _ ⟨w0.heap.size,1,none⟩ _) (only_ne (by omega)))
   clear hw2 B1 F1 Z1 sc sz
   clear hcl
   have hxh:S[(j+1)]?=some (sepAt S (j+1)):=by unfold sepAt;rw [List.getElem?_eq_getElem (by omega)];rfl
   obtain ⟨b2,off2,hbb,hb2,hch,_⟩:=(HS.out.keep F2.out).at_ hxh
   obtain ⟨rfl,rfl⟩:b=b2∧off=off2:=by injection hbb with hbb;injection hbb with e1 e2;exact ⟨e1,e2⟩
   have hi1:(((j+1):Nat):Int) < (S.length:Int):=by omega
   clear hxh
   have sc:=B2.out.cell' (i:=2) rfl
   have sz:=B2.out.frozen 2
   go_upto_region 7 with fail
   obtain ⟨w3,hw3⟩:∃ z,z=w2.setCell ⟨w0.heap.size,2,none⟩ (.string (sepAt S (j+1))):=⟨_,rfl⟩
   change Code.wp _ _ _ _ (w2.setCell ⟨w0.heap.size,2,none⟩ (.string (sepAt S (j+1))))
   rw [← hw3]
   have B3:Hid (Blk w3 w0.heap.size 51 (recA ⟨1,(sepAt S j),(sepAt S (j+1)),false,((j:Int)+1+2),[],[],nilS,nilS,0,0,0,nilS,0,0⟩ (.slice none 0 0) (.slice none 0 0))):=hid_ (by rw [hw3];exact B2.out.set_ 2 (.string (sepAt S (j+1))))
   have F3:=hid_ (F2.out.then_only (show Fr (only w0.heap.size) w2 w3 by rw [hw3];exact Fr.only1 _ ⟨w0.heap.size,2,none⟩ _) (.inr (by omega)))
   have Z3:Hid (Blk w3 w.heap.size 51 recZ):=hid_ (Z2.out.fr (show Fr (only w0.heap.size) w2 w3 by rw [hw3];exact Fr.only1 _ ⟨w0.heap.size,2,none⟩ _) (only_ne (by omega)))
   clear hw3 B2 F2 Z2 sc sz
   have hR:lfR13 l S (j+1)=⟨1,(sepAt S j),(sepAt S (j+1)),false,((j:Int)+1+2),partR l (sepAt S j) (sepAt S (j+1)) ((sepAt S (j+1))).toList.isEmpty,[],nilS,nilS,0,0,0,nilS,0,0⟩:=by
    have e1:decide ((j+1)=S.length)=false:=by simp;omega
    have e2:(if (j+1) < S.length then (((j+1):Nat):Int)+2 else 0)=((j:Int)+1+2):=by rw [if_pos (by omega)];push_cast;rfl
    have e3:sepAt S (j+1)=(sepAt S (j+1)):=rfl
    unfold lfR13;rw [e1,e2,e3];rfl
   have HR:=hid_ hR
   have q1:=B3.out.cell' (i:=1) rfl
   have q2:=B3.out.cell' (i:=2) rfl
   have zlo:=ZL.out
   have zhi:=ZH.out
   clear hR
   go_wp2_with fail
   refine (part13_ok l A c (sepAt S j) (sepAt S (j+1)) w3 (H.out.none_fr F3.out) HO.out zlo zhi).mono ?_
   rintro e w7 ⟨A1,c1,rfl,ho,hf⟩
   have O7:=hid_ ho
   have F7:=hid_ (F3.out.then_none hf)
   have B7:=hid_ (B3.out.fr hf id)
   have Z7:=hid_ (Z3.out.fr hf id)
   have hs7:=F3.out.size
   clear ho hf q1 q2 zlo zhi
   have sc:=B7.out.cell' (i:=5) rfl
   have sz:=B7.out.frozen 5
   obtain ⟨nn,hnn⟩:∃ z,z=partR l (sepAt S j) (sepAt S (j+1)) ((sepAt S (j+1))).toList.isEmpty:=⟨_,rfl⟩
   rw [← hnn] at O7 ⊢
   have HNN:=hid_ hnn
   clear hnn
   go_upto_region 8 with fail
   obtain ⟨w8,hw8⟩:∃ z,z=w7.setCell ⟨w0.heap.size,5,none⟩ (.slice A1 nn.length c1):=⟨_,rfl⟩
   change Code.wp _ _ _ _ (w7.setCell ⟨w0.heap.size,5,none⟩ (.slice A1 nn.length c1))
   rw [← hw8]
   have B8:Hid (Blk w8 w0.heap.size 51 (recA ⟨1,(sepAt S j),(sepAt S (j+1)),false,((j:Int)+1+2),nn,[],nilS,nilS,0,0,0,nilS,0,0⟩ (.slice A1 nn.length c1) (.slice none 0 0))):=hid_ (by rw [hw8];exact B7.out.set_ 5 (.slice A1 nn.length c1))
   have f8:Fr (only w0.heap.size) w7 w8:=by rw [hw8];exact Fr.only1 _ ⟨w0.heap.size,5,none⟩ _
   have F8:=hid_ (F7.out.then_only f8 (.inr (by omega)))
   have Z8:=hid_ (Z7.out.fr f8 (only_ne (by omega)))
   have O8:=hid_ (own_fr O7.out f8 (fun k hk e=>own_blk_ne O7.out B7.out (by decide) (by rw [hk,show k=w0.heap.size from e])))
   clear hw8 f8 B7 F7 Z7 O7 sc sz
   go_wp2_with (first | (refine wpList_load_mid rfl 51 (.tmp 7) rfl w0.heap.size 0 rfl (recA ⟨1,(sepAt S j),(sepAt S (j+1)),false,((j:Int)+1+2),nn,[],nilS,nilS,0,0,0,nilS,0,0⟩ (.slice A1 nn.length c1) (.slice none 0 0)).toList _ (Blk.range7 (l:=(recA ⟨1,(sepAt S j),(sepAt S (j+1)),false,((j:Int)+1+2),nn,[],nilS,nilS,0,0,0,nilS,0,0⟩ (.slice A1 nn.length c1) (.slice none 0 0)).toList) B8.out) Tryz.underlying51 rfl rec_size ?_) | (refine wpList_store_mid rfl 51 (.tmp 6) (.tmp 40) rfl w.heap.size 0 (recA ⟨1,(sepAt S j),(sepAt S (j+1)),false,((j:Int)+1+2),nn,[],nilS,nilS,0,0,0,nilS,0,0⟩ (.slice A1 nn.length c1) (.slice none 0 0)) rfl rfl (Z8.out.there9 rfl) rec_size (by simp [Value.oneCell']) ?_;have ov:=Z8.out.over9 (recA ⟨1,(sepAt S j),(sepAt S (j+1)),false,((j:Int)+1+2),nn,[],nilS,nilS,0,0,0,nilS,0,0⟩ (.slice A1 nn.length c1) (.slice none 0 0)).toList rfl;obtain ⟨w9,hw9⟩:∃ z,z=w8.setCells w.heap.size 0 (recA ⟨1,(sepAt S j),(sepAt S (j+1)),false,((j:Int)+1+2),nn,[],nilS,nilS,0,0,0,nilS,0,0⟩ (.slice A1 nn.length c1) (.slice none 0 0)).toList:=⟨_,rfl⟩;rw [← hw9] at ov;change wpList _ _ _ _ _ (w8.setCells w.heap.size 0 (recA ⟨1,(sepAt S j),(sepAt S (j+1)),false,((j:Int)+1+2),nn,[],nilS,nilS,0,0,0,nilS,0,0⟩ (.slice A1 nn.length c1) (.slice none 0 0)).toList);rw [← hw9];have OV:=hid_ ov;clear hw9 ov))
   refine bodyPost_ret (results_cell7 _ _ rfl w.heap.size 0 (recA ⟨1,(sepAt S j),(sepAt S (j+1)),false,((j:Int)+1+2),nn,[],nilS,nilS,0,0,0,nilS,0,0⟩ (.slice A1 nn.length c1) (.slice none 0 0)).toList _ rfl (Blk.range7 (l:=(recA ⟨1,(sepAt S j),(sepAt S (j+1)),false,((j:Int)+1+2),nn,[],nilS,nilS,0,0,0,nilS,0,0⟩ (.slice A1 nn.length c1) (.slice none 0 0)).toList) OV.out.1) Tryz.underlying51 rfl rec_size) rfl ?_
   rw [HR.out,← HNN.out]
   exact ⟨A1,c1,rfl,own_base (own_fr O8.out OV.out.2 (fun k hk e=>own_blk_ne O8.out Z8.out (by decide) (by rw [hk,show k=w.heap.size from e]))) (by omega),F8.out.then_only OV.out.2 (.inr (Nat.le_refl _))⟩
  ·skip
   obtain ⟨j,rfl⟩:∃ j,i=j+1:=⟨i - 1,by omega⟩
   have eb:(((j:Int)+1)==(S.length:Int))=true:=by simp;omega
   have eb2:(((j+1:Nat):Int)==(S.length:Int))=true:=by simp;omega
   go_upto_region 2 with fail
   obtain ⟨w1,hw1⟩:∃ z,z=w0.alloc (.cells (recA ⟨1,nilS,nilS,true,((j:Int)+1+2),[],[],nilS,nilS,0,0,0,nilS,0,0⟩ (.slice none 0 0) (.slice none 0 0)) 51):=⟨_,rfl⟩
   change Code.wp _ _ _ _ (w0.alloc (.cells (recA ⟨1,nilS,nilS,true,((j:Int)+1+2),[],[],nilS,nilS,0,0,0,nilS,0,0⟩ (.slice none 0 0) (.slice none 0 0)) 51))
   rw [← hw1]
   have P1:Hid (Blk w1 w0.heap.size 51 (recA ⟨1,nilS,nilS,true,((j:Int)+1+2),[],[],nilS,nilS,0,0,0,nilS,0,0⟩ (.slice none 0 0) (.slice none 0 0))∧Fr none_ w0 w1):=hid_ (by rw [hw1];exact ⟨Blk.new _ _ _,(Fr.refl none_ _).alloc _⟩)
   clear hw1
   have B1:=hid_ P1.out.1
   have F1:=hid_ (F0.out.then_none P1.out.2)
   have Z1:Hid (Blk w1 w.heap.size 51 recZ):=hid_ (B0.out.fr P1.out.2 id)
   clear P1
   have hxl:S[j]?=some (sepAt S j):=by unfold sepAt;rw [List.getElem?_eq_getElem (by omega)];rfl
   obtain ⟨b,off,rfl,hb,hcl,_⟩:=(HS.out.keep F1.out).at_ hxl
   have hj0:(0:Int)≤(j:Int):=Int.natCast_nonneg _
   have hj1:(j:Int) < (S.length:Int):=by omega
   have hwj:IntKind.i64.wrap (((j+1:Nat):Int) - 1)=(j:Int):=by rw [show ((j+1:Nat):Int) - 1=(j:Int) by omega];exact IntWalk.i64_in _ (by omega)
   clear hxl
   have sc:=B1.out.cell' (i:=1) rfl
   have sz:=B1.out.frozen 1
   go_upto_region 4 with fail
   obtain ⟨w2,hw2⟩:∃ z,z=w1.setCell ⟨w0.heap.size,1,none⟩ (.string (sepAt S j)):=⟨_,rfl⟩
   change Code.wp _ _ _ _ (w1.setCell ⟨w0.heap.size,1,none⟩ (.string (sepAt S j)))
   rw [← hw2]
   have B2:Hid (Blk w2 w0.heap.size 51 (recA ⟨1,(sepAt S j),nilS,true,((j:Int)+1+2),[],[],nilS,nilS,0,0,0,nilS,0,0⟩ (.slice none 0 0) (.slice none 0 0))):=hid_ (by rw [hw2];exact B1.out.set_ 1 (.string (sepAt S j)))
   have F2:=hid_ (F1.out.then_only (show Fr (only w0.heap.size) w1 w2 by rw [hw2];exact Fr.only1 _ ⟨w0.heap.size,1,none⟩ _) (.inr (by omega)))
   have Z2:Hid (Blk w2 w.heap.size 51 recZ):=hid_ (Z1.out.fr (show Fr (only w0.heap.size) w1 w2 by rw [hw2];exact Fr.only1 _ ⟨w0.heap.size,1,none⟩ _) (only_ne (by omega)))
   clear hw2 B1 F1 Z1 sc sz
   clear hcl
   have hi1:¬ ((j+1:Nat):Int) < (S.length:Int):=by omega
   have sc:=B2.out.cell' (i:=4) rfl
   have sz:=B2.out.frozen 4
   go_upto_region 7 with fail
   obtain ⟨w3,hw3⟩:∃ z,z=w2.setCell ⟨w0.heap.size,4,none⟩ (.int .i64 0):=⟨_,rfl⟩
   change Code.wp _ _ _ _ (w2.setCell ⟨w0.heap.size,4,none⟩ (.int .i64 0))
   rw [← hw3]
   have B3:Hid (Blk w3 w0.heap.size 51 (recA ⟨1,(sepAt S j),nilS,true,0,[],[],nilS,nilS,0,0,0,nilS,0,0⟩ (.slice none 0 0) (.slice none 0 0))):=hid_ (by rw [hw3];exact B2.out.set_ 4 (.int .i64 0))
   have F3:=hid_ (F2.out.then_only (show Fr (only w0.heap.size) w2 w3 by rw [hw3];exact Fr.only1 _ ⟨w0.heap.size,4,none⟩ _) (.inr (by omega)))
   have Z3:Hid (Blk w3 w.heap.size 51 recZ):=hid_ (Z2.out.fr (show Fr (only w0.heap.size) w2 w3 by rw [hw3];exact Fr.only1 _ ⟨w0.heap.size,4,none⟩ _) (only_ne (by omega)))
   clear hw3 B2 F2 Z2 sc sz
   have hR:lfR13 l S (j+1)=⟨1,(sepAt S j),nilS,true,0,partR l (sepAt S j) nilS (nilS).toList.isEmpty,[],nilS,nilS,0,0,0,nilS,0,0⟩:=by
    have e1:decide ((j+1)=S.length)=true:=by simp;omega
    have e2:(if (j+1) < S.length then (((j+1):Nat):Int)+2 else 0)=0:=by rw [if_neg (by omega)]
    have e3:sepAt S (j+1)=nilS:=by unfold sepAt;rw [List.getElem?_eq_none (by omega)];rfl
    unfold lfR13;rw [e1,e2,e3];rfl
   have HR:=hid_ hR
   have q1:=B3.out.cell' (i:=1) rfl
   have q2:=B3.out.cell' (i:=2) rfl
   have zlo:=ZL.out
   have zhi:=ZH.out
   clear hR
   go_wp2_with fail
   refine (part13_ok l A c (sepAt S j) nilS w3 (H.out.none_fr F3.out) HO.out zlo SzOk.nil).mono ?_
   rintro e w7 ⟨A1,c1,rfl,ho,hf⟩
   have O7:=hid_ ho
   have F7:=hid_ (F3.out.then_none hf)
   have B7:=hid_ (B3.out.fr hf id)
   have Z7:=hid_ (Z3.out.fr hf id)
   have hs7:=F3.out.size
   clear ho hf q1 q2 zlo zhi
   have sc:=B7.out.cell' (i:=5) rfl
   have sz:=B7.out.frozen 5
   obtain ⟨nn,hnn⟩:∃ z,z=partR l (sepAt S j) nilS (nilS).toList.isEmpty:=⟨_,rfl⟩
   rw [← hnn] at O7 ⊢
   have HNN:=hid_ hnn
   clear hnn
   go_upto_region 8 with fail
   obtain ⟨w8,hw8⟩:∃ z,z=w7.setCell ⟨w0.heap.size,5,none⟩ (.slice A1 nn.length c1):=⟨_,rfl⟩
   change Code.wp _ _ _ _ (w7.setCell ⟨w0.heap.size,5,none⟩ (.slice A1 nn.length c1))
   rw [← hw8]
   have B8:Hid (Blk w8 w0.heap.size 51 (recA ⟨1,(sepAt S j),nilS,true,0,nn,[],nilS,nilS,0,0,0,nilS,0,0⟩ (.slice A1 nn.length c1) (.slice none 0 0))):=hid_ (by rw [hw8];exact B7.out.set_ 5 (.slice A1 nn.length c1))
   have f8:Fr (only w0.heap.size) w7 w8:=by rw [hw8];exact Fr.only1 _ ⟨w0.heap.size,5,none⟩ _
   have F8:=hid_ (F7.out.then_only f8 (.inr (by omega)))
   have Z8:=hid_ (Z7.out.fr f8 (only_ne (by omega)))
   have O8:=hid_ (own_fr O7.out f8 (fun k hk e=>own_blk_ne O7.out B7.out (by decide) (by rw [hk,show k=w0.heap.size from e])))
   clear hw8 f8 B7 F7 Z7 O7 sc sz
   go_wp2_with (first | (refine wpList_load_mid rfl 51 (.tmp 7) rfl w0.heap.size 0 rfl (recA ⟨1,(sepAt S j),nilS,true,0,nn,[],nilS,nilS,0,0,0,nilS,0,0⟩ (.slice A1 nn.length c1) (.slice none 0 0)).toList _ (Blk.range7 (l:=(recA ⟨1,(sepAt S j),nilS,true,0,nn,[],nilS,nilS,0,0,0,nilS,0,0⟩ (.slice A1 nn.length c1) (.slice none 0 0)).toList) B8.out) Tryz.underlying51 rfl rec_size ?_) | (refine wpList_store_mid rfl 51 (.tmp 6) (.tmp 40) rfl w.heap.size 0 (recA ⟨1,(sepAt S j),nilS,true,0,nn,[],nilS,nilS,0,0,0,nilS,0,0⟩ (.slice A1 nn.length c1) (.slice none 0 0)) rfl rfl (Z8.out.there9 rfl) rec_size (by simp [Value.oneCell']) ?_;have ov:=Z8.out.over9 (recA ⟨1,(sepAt S j),nilS,true,0,nn,[],nilS,nilS,0,0,0,nilS,0,0⟩ (.slice A1 nn.length c1) (.slice none 0 0)).toList rfl;obtain ⟨w9,hw9⟩:∃ z,z=w8.setCells w.heap.size 0 (recA ⟨1,(sepAt S j),nilS,true,0,nn,[],nilS,nilS,0,0,0,nilS,0,0⟩ (.slice A1 nn.length c1) (.slice none 0 0)).toList:=⟨_,rfl⟩;rw [← hw9] at ov;change wpList _ _ _ _ _ (w8.setCells w.heap.size 0 (recA ⟨1,(sepAt S j),nilS,true,0,nn,[],nilS,nilS,0,0,0,nilS,0,0⟩ (.slice A1 nn.length c1) (.slice none 0 0)).toList);rw [← hw9];have OV:=hid_ ov;clear hw9 ov))
   refine bodyPost_ret (results_cell7 _ _ rfl w.heap.size 0 (recA ⟨1,(sepAt S j),nilS,true,0,nn,[],nilS,nilS,0,0,0,nilS,0,0⟩ (.slice A1 nn.length c1) (.slice none 0 0)).toList _ rfl (Blk.range7 (l:=(recA ⟨1,(sepAt S j),nilS,true,0,nn,[],nilS,nilS,0,0,0,nilS,0,0⟩ (.slice A1 nn.length c1) (.slice none 0 0)).toList) OV.out.1) Tryz.underlying51 rfl rec_size) rfl ?_
   rw [HR.out,← HNN.out]
   exact ⟨A1,c1,rfl,own_base (own_fr O8.out OV.out.2 (fun k hk e=>own_blk_ne O8.out Z8.out (by decide) (by rw [hk,show k=w.heap.size from e]))) (by omega),F8.out.then_only OV.out.2 (.inr (Nat.le_refl _))⟩
open Go.RowKit Go.BigFrame

def rootE (S:List ByteArray):Nat→List Et
  | 0=>[(nilS,1)]
  | k+1=>rootE S k ++ [(sepAt S k,(k:Int)+2)]
theorem rootE_len (S:List ByteArray):∀ k,(rootE S k).length=k+1
  | 0=>rfl
  | k+1=>by rw [rootE,List.length_append,rootE_len S k];rfl
def rootR (S:List ByteArray):Rc:={ Rc.zero with kind:=7,unb:=true,ents:=rootE S S.length }
abbrev rootA (v:Value):Array Value:=recA ⟨7,nilS,nilS,true,0,[],[],nilS,nilS,0,0,0,nilS,0,0⟩ (.slice none 0 0) v
def RootPost (R:Rc) (w:World) (e:Ending) (w':World):Prop:=∃ B d,e=.returned (.agg (recA R (.slice none 0 0) (.slice B R.ents.length d)))∧w'.ownsRow w.heap.size 132 2 (.slice B R.ents.length d) R.ents.length (etFlat R.ents)∧Fr none_ w w'
theorem ent_info13:(Tryz.prog.info? 132).map (fun i=>(i.zero,i.size,i.bytes))=some (some (.agg #[.string ⟨#[]⟩,.int .i64 0]),2,24):=by kernel_rfl
theorem str_sz:∀ w,(sizeOf 9).run Tryz.prog w=.ok 1 w:=fun w=>by kernel_rfl
theorem ex_index1 {oi:Oper} {a:Act} (t e:TypeId) (x y:Operand) (b off n m c:Nat) (ho:oi.op=.indexAddr t x y) (hx:a.eval x=.slice (some ⟨b,off,none⟩) m c) (hy:a.eval y=.int .i64 n) (hu:Tryz.prog.underlying t=some (.slice e)) (hs:∀ w,(sizeOf e).run Tryz.prog w=.ok 1 w) (hn:n < m) (w:World) :
    (execOp a.eval oi).run Tryz.prog w=.ok (.value (.pointer (some ⟨b,off+n,none⟩))) w:=by
  unfold execOp
  simp only [ho,hx,hy,Sem.run_bind,Sem.run_pure]
  have h0:(0:Int)≤(n:Int):=Int.natCast_nonneg _
  have h1:(n:Int) < (m:Int):=by omega
  simp [go_sem,hu,hs,h0,h1]
set_option maxHeartbeats 4000000 in
theorem root13_ok (S:List ByteArray) (B:Option Addr) (d:Nat) (w:World) (hS:TxReads w B S.length S) (hd:S.length≤12) :
  Calls Tryz.prog 43 #[.slice B S.length d] w (RootPost (rootR S) w):=by
 obtain ⟨i0,hi0,hz0,hs0,hb0⟩:=info_parts ent_info13
 have Hi:=hid_ (And.intro hi0 (And.intro hz0 (And.intro hs0 hb0)))
 clear hi0 hz0 hs0 hb0
 have HS:=hid_ hS
 clear hS
 obtain ⟨w0,hw0⟩:∃ z,z=w.alloc (.cells recZ 51):=⟨_,rfl⟩
 have f0:Fr none_ w w0:=by rw [hw0];exact (Fr.refl none_ w).alloc _
 have B0:Hid (Blk w0 w.heap.size 51 recZ):=hid_ (by rw [hw0];exact Blk.new w _ _)
 have F0:=hid_ f0
 have hs0:w0.heap.size=w.heap.size+1:=by rw [hw0];simp [World.size_alloc]
 clear f0
 go_enter Tryz.func43,Tryz.ntmps43
 go_upto_region 1 with fail
 change Code.wp _ _ _ _ (w.alloc (.cells recZ 51))
 rw [← hw0]
 clear hw0
 go_upto_region 2 with fail
 obtain ⟨w2,hw2⟩:∃ z,z=(w0.alloc (.cells #[.string nilS,.int .i64 1] 132)).alloc (.cells (rootA (.slice (some ⟨w.heap.size+1,0,none⟩) 1 1)) 51):=⟨_,rfl⟩
 change Code.wp _ _ _ _ ((w0.alloc (.cells #[.string nilS,.int .i64 1] 132)).alloc (.cells (rootA (.slice (some ⟨w.heap.size+1,0,none⟩) 1 1)) 51))
 rw [← hw2]
 have hO:Hid (w2.ownsRow w.heap.size 132 2 (.slice (some ⟨w.heap.size+1,0,none⟩) 1 1) 1 [.string nilS,.int .i64 1]):=hid_ (by
  rw [hw2,← hs0]
  refine own_none (w:=w0.alloc (.cells #[.string nilS,.int .i64 1] 132)) ?_ ((Fr.refl none_ _).alloc _)
  exact ⟨rfl,.inr ⟨w0.heap.size,1,_,rfl,by omega,heap_alloc_new w0 _,Nat.le_refl _,by decide,rfl,rfl⟩⟩)
 have B2:Hid (Blk w2 (w.heap.size+1+1) 51 (rootA (.slice (some ⟨w.heap.size+1,0,none⟩) 1 1))):=hid_ (by
  rw [hw2]
  have:=Blk.new (w0.alloc (.cells #[.string nilS,.int .i64 1] 132)) 51 (rootA (.slice (some ⟨w.heap.size+1,0,none⟩) 1 1))
  rw [World.size_alloc,hs0] at this
  exact this)
 have Z2:Hid (Blk w2 w.heap.size 51 recZ):=hid_ (by rw [hw2];exact (B0.out.alloc _).alloc _)
 have F2:Hid (Fr none_ w w2):=hid_ (by rw [hw2];exact (F0.out.alloc _).alloc _)
 clear hw2 B0 F0
 go_wp2_with fail
 go_loopw [4] (fun i wr=>∃ (k c:Nat) (A:Option Addr),k≤S.length∧i=.int .i64 k∧wr.ownsRow w.heap.size 132 2 (.slice A (k+1) c) (k+1) (etFlat (rootE S k))∧Blk wr (w.heap.size+1+1) 51 (rootA (.slice A (k+1) c))∧Blk wr w.heap.size 51 recZ∧Fr none_ w wr) (fun i _=>S.length - (intOf i).toNat)
 case atStart=>exact ⟨0,1,_,Nat.zero_le _,rfl,hO.out,B2.out,Z2.out,F2.out⟩
 case round =>
  obtain ⟨k,c,A,hk,rfl,ho,hb,hz,hf⟩:=hrel
  have O:=hid_ ho
  have BB:=hid_ hb
  have Z:=hid_ hz
  have F:=hid_ hf
  have hfs:=hf.size
  clear ho hb hz hf hO B2 Z2 F2
  have hi0:(0:Int)≤(k:Int):=Int.natCast_nonneg _
  by_cases hlt:k < S.length
  ·have hi1:(k:Int) < (S.length:Int):=by omega
   have hx:S[k]?=some (sepAt S k):=by unfold sepAt;rw [List.getElem?_eq_getElem hlt];rfl
   obtain ⟨b,off,rfl,hbl,hcl,_⟩:=(HS.out.keep F.out).at_ hx
   have s6:=BB.out.cell' (i:=6) rfl
   have hwk:IntKind.i64.wrap ((k:Int)+2)=(k:Int)+2:=IntWalk.i64_in _ (by omega)
   clear hx
   go_upto_region 5 with fail
   have hS0:(fun w':World=>Fr none_ wr w') wr.drew:=(Fr.refl none_ wr).drew
   refine wp_region_u 10 (fun w':World=>Fr none_ wr w') (by kernel_rfl) ?_
   refine u_take 0 (some 14) (.pointer (some ⟨w.heap.size+1+1,6,none⟩)) rfl rfl (by kernel_rfl) (by kernel_rfl) (by kernel_rfl) (by kernel_rfl) (fun _ _ _ h=>h) (y_val (by kernel_rfl) (fun w' hS=>by kernel_rfl)) hS0 ?_
   go_frame
   refine u_take 1 (some 15) (.slice A (k+1) c) rfl rfl (by kernel_rfl) (by kernel_rfl) (by kernel_rfl) (by kernel_rfl) (fun _ _ _ h=>h) (y_cell 49 (.tmp 14) ⟨w.heap.size+1+1,6,none⟩ _ (by kernel_rfl) rfl (by kernel_rfl) (fun w' hS=>cellFr s6 hS) Tryz.underlying49 rfl) hS0 ?_
   go_frame
   refine u_take 2 (some 16) (.slice (some ⟨b,off,none⟩) S.length d) rfl rfl (by kernel_rfl) (by kernel_rfl) (by kernel_rfl) (by kernel_rfl) (fun _ _ _ h=>h) (y_val (by kernel_rfl) (fun w' hS=>by kernel_rfl)) hS0 ?_
   go_frame
   refine u_take 3 (some 17) (.int .i64 k) rfl rfl (by kernel_rfl) (by kernel_rfl) (by kernel_rfl) (by kernel_rfl) (fun _ _ _ h=>h) (y_val (by kernel_rfl) (fun w' hS=>by kernel_rfl)) hS0 ?_
   go_frame
   refine u_take 4 (some 18) (.pointer (some ⟨b,off+k,none⟩)) rfl rfl (by kernel_rfl) (by kernel_rfl) (by kernel_rfl) (by kernel_rfl) (fun _ _ _ h=>h) (.inl ⟨by kernel_rfl,fun w' hS=>ex_index1 23 9 (.tmp 16) (.tmp 17) b off k S.length d rfl (by kernel_rfl) (by kernel_rfl) Tryz.underlying23 str_sz hlt w'⟩) hS0 ?_
   go_frame
   refine u_take 5 (some 19) (.string (sepAt S k)) rfl rfl (by kernel_rfl) (by kernel_rfl) (by kernel_rfl) (by kernel_rfl) (fun _ _ _ h=>h) (y_cell 9 (.tmp 18) ⟨b,off+k,none⟩ _ (by kernel_rfl) rfl (by kernel_rfl) (fun w' hS=>cellFr hcl hS) Tryz.underlying9 rfl) hS0 ?_
   go_frame
   refine u_take 6 (some 20) (.int .i64 k) rfl rfl (by kernel_rfl) (by kernel_rfl) (by kernel_rfl) (by kernel_rfl) (fun _ _ _ h=>h) (y_val (by kernel_rfl) (fun w' hS=>by kernel_rfl)) hS0 ?_
   go_frame
   refine u_take 7 (some 21) (.int .i64 ((k:Int)+2)) rfl rfl (by kernel_rfl) (by kernel_rfl) (by kernel_rfl) (by kernel_rfl) (fun _ _ _ h=>h) (y_int hwk (by kernel_rfl) (fun w' hS=>by kernel_rfl)) hS0 ?_
   go_frame
   refine u_take 8 (some 22) (.agg #[.string (sepAt S k),.int .i64 ((k:Int)+2)]) rfl rfl (by kernel_rfl) (by kernel_rfl) (by kernel_rfl) (by kernel_rfl) (fun _ _ _ h=>h) (y_val (by kernel_rfl) (fun w' hS=>by kernel_rfl)) hS0 ?_
   go_frame
   obtain ⟨y0,hy0⟩:∃ z,z=wr.drew:=⟨_,rfl⟩
   have fy:Fr none_ wr y0:=by rw [hy0];exact (Fr.refl none_ wr).drew
   have OY:=hid_ (own_none O.out fy)
   have hsy:y0.heap.size=wr.heap.size:=by rw [hy0];rfl
   rw [← hy0]
   have FY:=hid_ fy
   clear hy0 fy
   refine u_one 9 rfl (by kernel_rfl) (by kernel_rfl) ?_
   go_simp
   obtain ⟨y1,hy1⟩:∃ z,z=y0.alloc (.cells #[.string (sepAt S k),.int .i64 ((k:Int)+2)] 132):=⟨_,rfl⟩
   have f1:Fr none_ y0 y1:=by rw [hy1];exact (Fr.refl none_ _).alloc _
   have hR:Reads y1 2 (some ⟨wr.heap.size,0,none⟩) 1 [.string (sepAt S k),.int .i64 ((k:Int)+2)]:=by rw [hy1,← hsy];exact reads_new y0 _ [.string (sepAt S k),.int .i64 ((k:Int)+2)] _ rfl
   have HRd:=hid_ hR
   have O1:=hid_ (own_none OY.out f1)
   have F1:=hid_ (FY.out.then_none f1)
   have hs1:=f1.size
   change _∧UwA _ _ _ _ _ _ _ _ _ (y0.alloc (.cells #[.string (sepAt S k),.int .i64 ((k:Int)+2)] 132))
   rw [← hy1]
   refine ⟨F1.out,?_⟩
   clear hy1 f1 hR OY FY
   try go_frame
   refine u_one 10 rfl (by kernel_rfl) (by kernel_rfl) ?_
   refine wp_append_any _ (.tmp 15) (.tmp 23) 49 rfl w.heap.size 132 i0 _ 2 24 Tryz.underlying49 Hi.out.1 Hi.out.2.1 Hi.out.2.2.1 Hi.out.2.2.2 rfl (by omega) (.slice A (k+1) c) (k+1) (etFlat (rootE S k)) rfl O1.out (some ⟨wr.heap.size,0,none⟩) 1 1 [.string (sepAt S k),.int .i64 ((k:Int)+2)] rfl HRd.out (by simp [Value.oneCell']) (by simp only [maxLen];omega) (by omega) (by omega) ?_
   intro A3 c3 w3 hown3 hgr3
   have hne:∀ kk,(Value.slice A (k+1) c).ownBlock=some kk→kk≠w.heap.size+1+1∧kk≠w.heap.size:=fun kk hkk=>⟨fun e=>own_blk_ne O.out BB.out (by decide) (by rw [hkk,e]),fun e=>own_blk_ne O.out Z.out (by decide) (by rw [hkk,e])⟩
   have fg:Fr (fun q=>(Value.slice A (k+1) c).ownBlock=some q) y1 w3:=(Fr.refl _ y1).grown hgr3 (fun kk hkk=>.inl hkk)
   have B3:=hid_ ((BB.out.fr F1.out id).fr fg (fun e=>(hne _ e).1 rfl))
   have Z3:=hid_ ((Z.out.fr F1.out id).fr fg (fun e=>(hne _ e).2 rfl))
   have F3:=hid_ ((F.out.then_none F1.out).grown hgr3 (fun kk hkk=>.inr (O.out.lt kk hkk).1))
   have O3:=hid_ hown3
   have sc:=B3.out.cell' (i:=6) rfl
   have sz:=B3.out.frozen 6
   clear hown3 hgr3 fg hne s6
   refine ⟨.inl (by omega),?_⟩
   go_frame
   refine u_one 11 rfl (by kernel_rfl) (by kernel_rfl) ?_
   go_simp
   first | refine ⟨.inl (by omega),?_⟩ | skip
   try go_frame
   refine u_one 12 rfl (by kernel_rfl) (by kernel_rfl) ?_
   go_simp
   obtain ⟨w4,hw4⟩:∃ z,z=w3.setCell ⟨w.heap.size+1+1,6,none⟩ (.slice A3 (k+1+1) c3):=⟨_,rfl⟩
   change UwA _ _ _ _ _ _ _ _ _ (w3.setCell ⟨w.heap.size+1+1,6,none⟩ (.slice A3 (k+1+1) c3))
   rw [← hw4]
   have f4:Fr (only (w.heap.size+1+1)) w3 w4:=by rw [hw4];exact Fr.only1 _ ⟨w.heap.size+1+1,6,none⟩ _
   have B4:Hid (Blk w4 (w.heap.size+1+1) 51 (rootA (.slice A3 (k+1+1) c3))):=hid_ (by rw [hw4];exact B3.out.set_ 6 (.slice A3 (k+1+1) c3))
   have Z4:=hid_ (Z3.out.fr f4 (only_ne (by omega)))
   have F4:=hid_ (F3.out.then_only f4 (.inr (by omega)))
   have O4:=hid_ (own_fr O3.out f4 (fun kk hkk e=>own_blk_ne O3.out B3.out (by decide) (by rw [hkk,show kk=w.heap.size+1+1 from e])))
   clear hw4 f4 B3 Z3 F3 O3 sc sz
   refine u_done (by kernel_rfl) ?_
   go_wp2_with fail
   go_roundw
   case rel=>exact ⟨k+1,c3,A3,by omega,by go_num,by
    have:=O4.out
    rw [rootE,show etFlat (rootE S k ++ [(sepAt S k,(k:Int)+2)])=etFlat (rootE S k) ++ [.string (sepAt S k),.int .i64 ((k:Int)+2)] by simp [etFlat,etCells]]
    exact this,B4.out,Z4.out,F4.out⟩
   case measure=>simp [intOf];omega
  ·obtain rfl:k=S.length:=by omega
   have hi1:¬ ((S.length:Int) < (S.length:Int)):=by omega
   go_wp2_with (first | (refine wpList_load_mid rfl 51 (.tmp 3) rfl (w.heap.size+1+1) 0 rfl (rootA (.slice A (S.length+1) c)).toList _ (Blk.range7 (l:=(rootA (.slice A (S.length+1) c)).toList) BB.out) Tryz.underlying51 rfl rec_size ?_) | (refine wpList_store_mid rfl 51 (.tmp 2) (.tmp 26) rfl w.heap.size 0 (rootA (.slice A (S.length+1) c)) rfl rfl (Z.out.there9 rfl) rec_size (by simp [Value.oneCell']) ?_;have ov:=Z.out.over9 (rootA (.slice A (S.length+1) c)).toList rfl;obtain ⟨w9,hw9⟩:∃ z,z=wr.setCells w.heap.size 0 (rootA (.slice A (S.length+1) c)).toList:=⟨_,rfl⟩;rw [← hw9] at ov;change wpList _ _ _ _ _ (wr.setCells w.heap.size 0 (rootA (.slice A (S.length+1) c)).toList);rw [← hw9];have OV:=hid_ ov;clear hw9 ov))
   refine bodyPost_ret (results_cell7 _ _ rfl w.heap.size 0 (rootA (.slice A (S.length+1) c)).toList _ rfl (Blk.range7 (l:=(rootA (.slice A (S.length+1) c)).toList) OV.out.1) Tryz.underlying51 rfl rec_size) rfl ?_
   have hl:(rootR S).ents.length=S.length+1:=rootE_len S _
   exact ⟨A,c,by rw [hl];rfl,by rw [hl];exact own_fr O.out OV.out.2 (fun kk hkk e=>own_blk_ne O.out Z.out (by decide) (by rw [hkk,show kk=w.heap.size from e])),F.out.then_only OV.out.2 (.inr (Nat.le_refl _))⟩
open Go.RowKit

theorem ltS_nil (a:ByteArray):ltS a nilS=false:=by
  unfold ltS
  cases a.data.toList <;> rfl
theorem nil_ltS {a:ByteArray} (h:a≠nilS):ltS nilS a=true:=by
  rcases ltS_total nilS a with e | e | e
  · exact e
  · exact absurd e.symm h
  · rw [ltS_nil] at e;cases e
theorem kOk_ne {a:ByteArray} (h:kOk a=true):a≠nilS:=by
  rintro rfl
  revert h
  decide
theorem kOk_sz {a:ByteArray} (h:kOk a=true):SzOk a:=by
  unfold kOk at h
  rw [Bool.and_eq_true] at h
  have:=of_decide_eq_true h.2
  unfold SzOk
  omega
theorem ne_isEmpty {a:ByteArray} (h:a≠nilS):a.toList.isEmpty=false:=by
  cases e:a.toList.isEmpty with
  | false=>rfl
  | true=>exact absurd (ba_eq (by rw [← ba_toList,List.isEmpty_iff.1 e])) h
theorem nil_isEmpty:nilS.toList.isEmpty=true:=by rw [ba_toList];rfl
section
variable {S:List ByteArray} {l:List Rw}
theorem sepAt_in {i:Nat} (hi:i < S.length):S[i]?=some (sepAt S i):=by
  unfold sepAt
  rw [List.getElem?_eq_getElem hi]
  rfl
theorem sepAt_out {i:Nat} (hi:S.length≤i):sepAt S i=nilS:=by
  unfold sepAt
  rw [List.getElem?_eq_none hi]
  rfl
theorem SepsOk.kAt (h:SepsOk S) {i:Nat} (hi:i < S.length):kOk (sepAt S i)=true:=h.k _ (List.mem_of_getElem? (sepAt_in hi))
theorem SepsOk.low (h:SepsOk S) {i:Nat} (hi:i < S.length):ltS (leafLow S i) (leafLow S (i+1))=true:=by
  cases i with
  | zero=>exact nil_ltS (kOk_ne (h.kAt hi))
  | succ j=>exact h.r j _ _ (sepAt_in (by omega)) (sepAt_in hi)
theorem SepsOk.low2 (h:SepsOk S) {i j:Nat} (hij:i < j) (hj:j≤S.length):ltS (leafLow S i) (leafLow S j)=true:=by
  obtain ⟨d,rfl⟩:∃ d,j=i+d+1:=⟨j - i - 1,by omega⟩
  induction d with
  | zero=>exact h.low hj
  | succ d ih=>exact ltS_trans (ih (by omega) (by omega)) (h.low hj)
theorem SepsOk.szAt (h:SepsOk S) (i:Nat):SzOk (sepAt S i):=by
  rcases Nat.lt_or_ge i S.length with hi | hi
  · exact kOk_sz (h.kAt hi)
  · rw [sepAt_out hi];exact SzOk.nil
theorem SepsOk.szLow (h:SepsOk S) (i:Nat):SzOk (leafLow S i):=by
  cases i with
  | zero=>exact SzOk.nil
  | succ j=>exact h.szAt j
theorem filt_app {a b:ByteArray} (hab:ltS a b=true):∀ {l:List Rw},PwR l→l.filter (fun p=>inS a b false p.1) ++ l.filter (fun p=>!ltS p.1 b)=l.filter (fun p=>!ltS p.1 a)
  | [],_=>rfl
  | p :: t,h=>by
    rw [PwR,List.pairwise_cons] at h
    cases hb:ltS p.1 b with
    | true =>
      have hin:inS a b false p.1=!ltS p.1 a:=by unfold inS;rw [hb];simp
      have ih:=filt_app hab h.2
      rw [List.filter_cons,List.filter_cons,List.filter_cons,hin,hb]
      cases ha:ltS p.1 a <;> simp [ih]
    | false =>
      have hall:∀ q ∈ p :: t,ltS q.1 b=false:=by
        intro q hq
        rcases List.mem_cons.1 hq with rfl | hq
        · exact hb
        · cases e:ltS q.1 b with
          | false=>rfl
          | true=>rw [ltS_trans (h.1 q hq) e] at hb;cases hb
      have h1:(p :: t).filter (fun p=>inS a b false p.1)=[]:=List.filter_eq_nil_iff.2 fun q hq hh=>by
        have:=(inS_iff7.1 hh).2
        rw [hall q hq] at this
        simp at this
      rw [h1,List.nil_append]
      refine List.filter_congr fun q hq=>?_
      rw [hall q hq]
      cases e:ltS q.1 a with
      | false=>rfl
      | true=>have:=ltS_trans e hab;rw [hall q hq] at this;cases this
theorem lf_rows_in (h:SepsOk S) {i:Nat} (hi:i < S.length):(lfR13 l S i).rows=l.filter fun p=>inS (leafLow S i) (leafLow S (i+1)) false p.1:=by
  show partR l _ _ _=_
  rw [ne_isEmpty (kOk_ne (h.kAt hi))]
  rfl
theorem lf_rows_last {i:Nat} (hi:i=S.length):(lfR13 l S i).rows=l.filter fun p=>inS (leafLow S i) nilS true p.1:=by
  show partR l _ _ _=_
  rw [sepAt_out (by omega),nil_isEmpty]
  rfl
theorem lf_rows_sub {i:Nat}:∀ p ∈ (lfR13 l S i).rows,p ∈ l:=fun p hp=>(List.mem_filter.1 hp).1
theorem lf_len (i:Nat):(lfR13 l S i).rows.length≤l.length:=List.length_filter_le _ _
theorem lf_in (h:SepsOk S) {i:Nat} (hi:i≤S.length):∀ p ∈ (lfR13 l S i).rows,inS (leafLow S i) (sepAt S i) (decide (i=S.length)) p.1=true:=fun p hp=>by
  by_cases e:i=S.length
  · rw [lf_rows_last e] at hp
    rw [decide_eq_true e,sepAt_out (by omega)]
    exact (List.mem_filter.1 hp).2
  · rw [lf_rows_in h (by omega)] at hp
    rw [decide_eq_false e]
    exact (List.mem_filter.1 hp).2
theorem lf_right (hl:RightR l) (i:Nat):RightR (lfR13 l S i).rows:=RightR.of_pw (List.Pairwise.filter _ hl.pw) fun p hp=>hl.fit p (lf_rows_sub p hp)
theorem lf_sound (hl:RightR l) (h:SepsOk S) {i:Nat} (hi:i≤S.length):SoundR (leafLow S i) (sepAt S i) (decide (i=S.length)) (lfR13 l S i).rows:=
  ⟨fun e=>sepAt_out (by have:=of_decide_eq_true e;omega),lf_right hl i,lf_in h hi⟩
theorem lf_fold (hl:RightR l) (h:SepsOk S) {i:Nat} (hi:i≤S.length):foldL [lfR13 l S i]=some (baseL (lfR13 l S i)):=foldL_one _ rfl (lf_sound hl h hi)
def tailR (l:List Rw) (S:List ByteArray) (j:Nat):List Rw:=l.filter fun p=>!ltS p.1 (leafLow S j)
theorem tail_step (hl:RightR l) (h:SepsOk S) {j:Nat} (hj:j < S.length):(lfR13 l S j).rows ++ tailR l S (j+1)=tailR l S j:=by
  rw [lf_rows_in h hj]
  exact filt_app (h.low hj) hl.pw
theorem tail_last {j:Nat} (hj:j=S.length):(lfR13 l S j).rows=tailR l S j:=by
  rw [lf_rows_last hj]
  refine List.filter_congr fun q _=>?_
  unfold inS
  simp
theorem tail_zero:tailR l S 0=l:=by
  unfold tailR
  refine List.filter_eq_self.2 fun q _=>?_
  show (!ltS q.1 nilS)=true
  rw [ltS_nil]
  rfl
def segR (l:List Rw) (S:List ByteArray):Nat→Nat→List Rw
  | _,0=>[]
  | j,d+1=>(lfR13 l S j).rows ++ segR l S (j+1) d
theorem seg_add:∀ (d j e:Nat),segR l S j (d+e)=segR l S j d ++ segR l S (j+d) e
  | 0,j,e=>by simp [segR]
  | d+1,j,e=>by
    rw [show d+1+e=(d+e)+1 by omega,segR,segR,seg_add d (j+1) e,List.append_assoc,show j+1+d=j+(d+1) by omega]
theorem seg_tail (hl:RightR l) (h:SepsOk S):∀ (d j:Nat),j+d=S.length→segR l S j (d+1)=tailR l S j
  | 0,j,e=>by rw [segR,segR,List.append_nil];exact tail_last (by omega)
  | d+1,j,e=>by rw [segR,seg_tail hl h d (j+1) (by omega)];exact tail_step hl h (by omega)
theorem seg_all (hl:RightR l) (h:SepsOk S):segR l S 0 (S.length+1)=l:=by rw [seg_tail hl h S.length 0 (by omega),tail_zero]
theorem seg_mid (hl:RightR l) (h:SepsOk S) {i:Nat} (h1:1≤i) (h2:i≤S.length):segR l S 0 (i - 1) ++ ((lfR13 l S (i - 1)).rows ++ ((lfR13 l S i).rows ++ segR l S (i+1) (S.length - i)))=l:=by
  have:=seg_all hl h
  rw [show S.length+1=(i - 1)+(S.length - i+1+1) by omega,seg_add,show 0+(i - 1)=i - 1 by omega,segR,segR,show i - 1+1=i by omega] at this
  exact this
end
theorem plR_in_app {key:ByteArray} {M:List Rw}:∀ {A:List Rw},(∀ p ∈ A,ltS p.1 key=true)→plR (A ++ M) key=A.length+plR M key
  | [],_=>by simp
  | a :: t,h=>by
    rw [List.cons_append,plR,if_pos (h a (List.mem_cons_self)),plR_in_app (fun p hp=>h p (List.mem_cons_of_mem _ hp)),List.length_cons]
    omega
theorem plR_out_app {key:ByteArray} {B:List Rw} (hB:∀ p ∈ B,ltS key p.1=true):∀ {L:List Rw},plR (L ++ B) key=plR L key
  | []=>by
    rw [List.nil_append]
    cases B with
    | nil=>rfl
    | cons q t =>
      show plR (q :: t) key=0
      rw [plR,if_neg (by rw [ltS_asymm (hB q (List.mem_cons_self))];decide)]
  | a :: t=>by
    rw [List.cons_append,plR,plR,plR_out_app hB]
theorem atR_in_app {key:ByteArray} {A M:List Rw} (h:∀ p ∈ A,ltS p.1 key=true):atR (A ++ M) key=atR M key:=by
  unfold atR
  rw [plR_in_app h,List.getElem?_append_right (by omega),Nat.add_sub_cancel_left]
theorem atR_out_app {key:ByteArray} {L B:List Rw} (hB:∀ p ∈ B,ltS key p.1=true):atR (L ++ B) key=atR L key:=by
  unfold atR
  rw [plR_out_app hB]
  have:=plR_le L key
  rcases Nat.lt_or_ge (plR L key) L.length with h | h
  · rw [List.getElem?_append_left h]
  · have e:plR L key=L.length:=by omega
    rw [e,List.getElem?_append_right (Nat.le_refl _),Nat.sub_self,List.getElem?_eq_none (Nat.le_refl _)]
    cases B with
    | nil=>rfl
    | cons q t =>
      show sEq q.1 key=false
      exact sEq_ne (fun e=>by have:=hB q (List.mem_cons_self);rw [e,ltS_irrefl] at this;cases this)
theorem putR_app {A L B:List Rw} {r:Rw} (hA:∀ p ∈ A,ltS p.1 r.1=true) (hB:∀ p ∈ B,ltS r.1 p.1=true):putR (A ++ (L ++ B)) r=A ++ (putR L r ++ B):=by
  have h1:putR (A ++ (L ++ B)) r=A ++ putR (L ++ B) r:=by
    unfold putR
    rw [plR_in_app hA,atR_in_app hA,List.take_length_add_append,Nat.add_assoc,List.drop_length_add_append]
    simp
  have h2:putR (L ++ B) r=putR L r ++ B:=by
    unfold putR
    have hp:=plR_le L r.1
    rw [plR_out_app hB,atR_out_app hB,List.take_append_of_le_length hp,List.drop_append_of_le_length (by
      by_cases e:atR L r.1=true
      · have:=atR_lt e;rw [if_pos e];omega
      · rw [if_neg e];omega)]
    simp
  rw [h1,h2]
theorem fits_sz {p:Rw} (h:fitsR p=true):SzOk p.1∧SzOk p.2:=by
  unfold fitsR at h
  rw [Bool.and_eq_true,Bool.and_eq_true] at h
  have h1:=of_decide_eq_true h.1.2
  have h2:=of_decide_eq_true h.2
  unfold SzOk
  omega
theorem RightR.rows {L:List Rw} (h:RightR L) (hl:L.length≤300000):RwsOk L:=⟨hl,fun p hp=>fits_sz (h.fit p hp)⟩
theorem rootE_at (S:List ByteArray):∀ (k j:Nat),j≤k→(rootE S k)[j]?=some (leafLow S j,(j:Int)+1)
  | 0, j, h => by obtain rfl : j = 0 := by omega
                  rfl
  | k+1,j,h=>by
    rw [rootE]
    rcases Nat.lt_or_ge j (k+1) with h1 | h1
    · rw [List.getElem?_append_left (by rw [rootE_len];exact h1)]
      exact rootE_at S k j (by omega)
    · obtain rfl:j=k+1:=by omega
      rw [List.getElem?_append_right (by rw [rootE_len];exact Nat.le_refl _),rootE_len,Nat.sub_self]
      show some (sepAt S k,(k:Int)+2)=some (sepAt S k,((k+1:Nat):Int)+1)
      congr 2
theorem plN_is {L:List Et} {key:ByteArray} {i:Nat} (h1:∀ (j:Nat) (p:Et),j < i→L[j]?=some p→ltS p.1 key=true) (h2:∃ p,L[i]?=some p∧ltS p.1 key=false):plN L key=i:=by
  obtain ⟨p,hp,hk⟩:=h2
  have hil:=(List.getElem?_eq_some_iff.1 hp).1
  rcases Nat.lt_trichotomy (plN L key) i with h | h | h
  · obtain ⟨q,hq⟩:∃ q,L[plN L key]?=some q:=⟨_,List.getElem?_eq_getElem (by omega)⟩
    have:=plN_at hq
    rw [h1 _ _ h hq] at this
    cases this
  · exact h
  · have:=plN_in h hp
    rw [hk] at this
    cases this
section
variable {S:List ByteArray} {i:Nat}
theorem root_pl (h:SepsOk S) (h2:i≤S.length):plN (rootE S S.length) (leafLow S i)=i:=by
  refine plN_is (fun j p hj hp=>?_) ⟨_,rootE_at S S.length i h2,ltS_irrefl _⟩
  rw [rootE_at S S.length j (by omega)] at hp
  rw [← Option.some.inj hp]
  exact h.low2 hj h2
theorem root_at (h:SepsOk S) (h2:i≤S.length):atB (rootE S S.length) (leafLow S i)=true:=by
  rw [atB_some (by rw [root_pl h h2];exact rootE_at S S.length i h2)]
  exact sEq_self _
def rootV (S:List ByteArray):Vw:=baseV (rootR S)
theorem root_fold (h:SepsOk S):foldU [rootR S]=some (rootV S):=by
  refine foldU_one _ rfl ⟨⟨_,rootE_at S S.length 0 (Nat.zero_le _),rfl⟩,fun _=>rfl,fun p hp=>?_,fun j p q hp hq=>?_⟩
  · show inS nilS nilS true p.1=true
    unfold inS
    rw [ltS_nil]
    rfl
  · have hp':(rootE S S.length)[j]?=some p:=hp
    have hq':(rootE S S.length)[j+1]?=some q:=hq
    have hl:=(List.getElem?_eq_some_iff.1 hq').1
    rw [rootE_len] at hl
    rw [rootE_at S S.length j (by omega)] at hp'
    rw [rootE_at S S.length (j+1) (by omega)] at hq'
    rw [← Option.some.inj hp',← Option.some.inj hq']
    exact h.low (by omega)
def hrec13 (S:List ByteArray) (i:Nat) (s g:Int):Rc:={ Rc.zero with kind:=10,hpage:=(i:Int)+1,hleft:=(i:Int),hkey:=leafLow S i,nslot:=s,ngen:=g }
theorem held_fold (h:SepsOk S) (h1:1≤i) (h2:i≤S.length) (s g:Int):foldU [hrec13 S i s g,rootR S]=some { rootV S with held:=true,hp:=(i:Int)+1,hl:=(i:Int),hk:=leafLow S i }:=by
  rw [foldU_cons _ (by simp),root_fold h]
  show upM (rootV S) (hrec13 S i s g)=_
  unfold upM
  have e1:(rootV S).held=false:=rfl
  have e2:(hrec13 S i s g).kind=10:=rfl
  have e3:(rootV S).ents=rootE S S.length:=rfl
  have e4:(hrec13 S i s g).hkey=leafLow S i:=rfl
  rw [if_neg (by rw [e2];omega),if_neg (by rw [e2];omega),if_pos ⟨e2,e1⟩,e3,e4,root_pl h h2,root_at h h2,rootE_at S S.length i h2,rootE_at S S.length (i - 1) (by omega),if_neg]
  · rfl
  · rintro (e | e | e | e)
    · cases e
    · omega
    · exact e rfl
    · refine e ?_
      show some (((i - 1:Nat):Int)+1)=some (i:Int)
      congr 1
      omega
def dropV (S:List ByteArray) (i:Nat):Vw:={ rootV S with ents:=(rootE S S.length).take i ++ (rootE S S.length).drop (i+1) }
theorem drop_fold (h:SepsOk S) (h1:1≤i) (h2:i≤S.length) (s g hs hg:Int):foldU [hang (kindC 11) hs hg,hrec13 S i s g,rootR S]=some (dropV S i):=by
  rw [foldU_cons _ (by simp),held_fold h h1 h2]
  show upM _ (hang (kindC 11) hs hg)=_
  unfold upM
  have e2:(hang (kindC 11) hs hg).kind=11:=rfl
  rw [if_neg (by rw [e2];omega),if_neg (by rw [e2];omega),if_neg (by rw [e2];omega),if_pos ⟨e2,rfl⟩]
  show some { rootV S with ents:=(rootE S S.length).take (plN (rootE S S.length) (leafLow S i)) ++ (rootE S S.length).drop (plN (rootE S S.length) (leafLow S i)+1),held:=false,hp:=0,hl:=0,hk:=nilS }=_
  rw [root_pl h h2]
  rfl
theorem drop_len (h2:i≤S.length):(dropV S i).ents.length=S.length:=by
  show ((rootE S S.length).take i ++ (rootE S S.length).drop (i+1)).length=_
  rw [List.length_append,List.length_take,List.length_drop,rootE_len]
  omega
theorem drop_no (h:SepsOk S) (h2:i≤S.length):∀ (j:Nat) (p:Et),(dropV S i).ents[j]?=some p→p.1≠leafLow S i:=fun j p hp=>by
  have hp':((rootE S S.length).take i ++ (rootE S S.length).drop (i+1))[j]?=some p:=hp
  have hl:=rootE_len S S.length
  have htl:((rootE S S.length).take i).length=i:=by rw [List.length_take];omega
  rcases Nat.lt_or_ge j i with hj | hj
  · rw [List.getElem?_append_left (by omega),List.getElem?_take,if_pos hj,rootE_at S S.length j (by omega)] at hp'
    rw [← Option.some.inj hp']
    exact ltS_ne (h.low2 hj h2)
  · rw [List.getElem?_append_right (by omega),htl,List.getElem?_drop] at hp'
    have hb:=(List.getElem?_eq_some_iff.1 hp').1
    rw [rootE_at S S.length _ (by omega)] at hp'
    rw [← Option.some.inj hp']
    exact (ltS_ne (h.low2 (show i < i+1+(j - i) by omega) (by omega))).symm
end
open Go.RowKit

def okR (low key:ByteArray) (L:List Rw):Prop:=RightR L∧(∀ p ∈ L,inS low key false p.1=true)∧L.length≤200
def cf13 (N:Nat) (l:List Rw) (S:List ByteArray) (i:Nat) (hs hg rs rg:Int) (sp:Int→Prop):Cf where
  N:=N
  last:=999
  i:=i
  hs:=hs
  hg:=hg
  key:=leafLow S i
  low:=leafLow S (i - 1)
  VG:=baseL (lfR13 l S i)
  ok:=okR (leafLow S (i - 1)) (leafLow S i)
  Z:=[hrec13 S i rs rg,rootR S]
  O:=fun p=>if p=S.length+2 then [lfR13 l S i] else [lfR13 l S (p - 1)]
  sp:=sp
theorem low_sep {S:List ByteArray} {i:Nat} (h1:1≤i):leafLow S i=sepAt S (i - 1):=by
  obtain ⟨j,rfl⟩:∃ j,i=j+1:=⟨i - 1,by omega⟩
  rfl
theorem key_in {S:List ByteArray} (hS:SepsOk S) {i:Nat} (h2:i≤S.length):inS (leafLow S i) (sepAt S i) (decide (i=S.length)) (leafLow S i)=true:=by
  refine inS_iff7.2 ⟨ltS_irrefl _,?_⟩
  by_cases e:i=S.length
  · exact .inl (decide_eq_true e)
  · exact .inr (hS.low (i:=i) (by omega))
theorem ets_nil:EtsOk []:=⟨Nat.zero_le _,fun _ h=>by cases h⟩
theorem rws_nil:RwsOk []:=⟨Nat.zero_le _,fun _ h=>by cases h⟩
section
variable {l:List Rw} {S:List ByteArray} {i N:Nat} {hs hg rs rg:Int} {sp:Int→Prop}
theorem lf_prec (hl:RightR l) (hn:l.length≤60) (hS:SepsOk S) (j:Nat):PRec (lfR13 l S j):=by
  have h:=lf_len (l:=l) (S:=S) j
  exact ⟨⟨hS.szLow j,hS.szAt j,SzOk.nil,SzOk.nil,ets_nil⟩,SzOk.nil,(lf_right hl j).rows (by omega),by omega,Nat.zero_le _⟩
theorem root_prec (hS:SepsOk S) (hd:S.length≤12):PRec (rootR S):=by
  have h:(rootE S S.length).length≤13:=by rw [rootE_len];omega
  refine ⟨⟨SzOk.nil,SzOk.nil,SzOk.nil,SzOk.nil,⟨Nat.le_trans h (by decide),fun p hp=>?_⟩⟩,SzOk.nil,rws_nil,Nat.zero_le _,Nat.le_trans h (by decide)⟩
  have hp':p ∈ rootE S S.length:=hp
  obtain ⟨j,hj⟩:=List.mem_iff_getElem?.1 hp'
  have hjl:=(List.getElem?_eq_some_iff.1 hj).1
  rw [rootE_len] at hjl
  rw [rootE_at S S.length j (by omega)] at hj
  rw [← Option.some.inj hj]
  exact hS.szLow j
theorem hold_prec (hS:SepsOk S) (s g:Int):PRec (hrec13 S i s g):=⟨⟨SzOk.nil,SzOk.nil,SzOk.nil,hS.szLow i,ets_nil⟩,SzOk.nil,rws_nil,Nat.zero_le _,Nat.zero_le _⟩
theorem cf13_ok (hl:RightR l) (hn:l.length≤60) (hS:SepsOk S) (h1:1≤i) (h2:i≤S.length):CfOk (cf13 N l S i hs hg rs rg sp):=by
  have hlt:ltS (leafLow S (i - 1)) (leafLow S i)=true:=hS.low2 (by omega) h2
  have hk:=key_in hS h2
  have hlen:=lf_len (l:=l) (S:=S) i
  refine ⟨hS.szLow i,?_,inS_iff7.2 ⟨ltS_asymm hlt,(inS_iff7.1 hk).2⟩,rfl,?_,fun L hL=>?_,?_,h1⟩
  · cases h:inS (leafLow S (i - 1)) (leafLow S i) false (leafLow S i) with
    | false=>exact h
    | true=>have:=(inS_iff7.1 h).2;rw [ltS_irrefl] at this;simp at this
  · show (lfR13 l S i).rows.length≤400
    omega
  · exact upL_merge_yes (V:=(cf13 N l S i hs hg rs rg sp).VP L) (R:=mergeR (cf13 N l S i hs hg rs rg sp).gone) rfl ⟨rfl,rfl,rfl,lf_sound hl hS h2,(inS_iff7.1 hk).2⟩ (joins_of (mid:=leafLow S i) (fun p hp=>by have:=(inS_iff7.1 (hL.2.1 p hp)).2;simpa using this) (lf_sound hl hS h2))
  · exact ⟨⟨SzOk.nil,hS.szAt i,hS.szLow i,SzOk.nil,ets_nil⟩,SzOk.nil,(lf_right hl i).rows (by omega),(show (lfR13 l S i).rows.length≤500 by omega),Nat.zero_le _⟩
def laidR (l:List Rw) (S:List ByteArray) (M:Nat):Nat→List Rc:=fun p=>if p=0 then [leafR] else if p < M then [lfR13 l S (p - 1)] else []
theorem laidR_step (l:List Rw) (S:List ByteArray) (i:Nat):(fun q=>if q=i+1 then lfR13 l S i :: [] else laidR l S (i+1) q)=laidR l S (i+2):=by
  funext q
  unfold laidR
  by_cases e:q=i+1
  · subst e
    rw [if_pos rfl,if_neg (by omega),if_pos (by omega)]
    rfl
  · rw [if_neg e]
    by_cases e0:q=0
    · rw [if_pos e0,if_pos e0]
    · rw [if_neg e0,if_neg e0]
      by_cases h:q < i+1
      · rw [if_pos h,if_pos (by omega)]
      · rw [if_neg h,if_neg (by omega)]
def rootedR (l:List Rw) (S:List ByteArray):Nat→List Rc:=fun p=>if p=0 then [rootR S] else laidR l S (S.length+2) p
def heldR (l:List Rw) (S:List ByteArray) (i:Nat) (rs rg:Int):Nat→List Rc:=fun p=>if p=0 then [hrec13 S i rs rg,rootR S] else laidR l S (S.length+2) p
theorem heldR_leaf {p:Nat} (h1:1≤p) (h2:p≤S.length+1):heldR l S i rs rg p=[lfR13 l S (p - 1)]:=by
  unfold heldR laidR
  rw [if_neg (by omega),if_neg (by omega),if_pos (by omega)]
theorem sfx_one {j:Nat} {d:List Nat} (h:d≠[]) (hd:d <:+ [j]):d=[j]:=by
  rcases List.suffix_cons_iff.1 hd with e | e
  · exact e
  · exact absurd (List.suffix_nil.1 e) h
theorem wd0 (hl:RightR l) (hn:l.length≤60) (hS:SepsOk S) (hd:S.length≤12) (h1:1≤i) (h2:i≤S.length) {x:St} {js:Nat→List Nat} {u:Nat} {gm:Int} (h:Lay x js (heldR l S i rs rg) (S.length+2) N u gm) (hh:x.ps[0]?=some (true,hs,hg)) :
  Wd (cf13 N l S i hs hg rs rg sp) 0 (lfR13 l S (i - 1)).rows x js (S.length+1):=by
 have hrc:∀ p,1≤p→p≤S.length+1→(js p).map (recOf x.ss)=[lfR13 l S (p - 1)]:=fun p a b=>by rw [h.rc p,heldR_leaf a b]
 have hone:∀ p,1≤p→p≤S.length+1→∃ j,js p=[j]:=fun p a b=>by
  have:=congrArg List.length (hrc p a b)
  rw [List.length_map] at this
  exact List.length_eq_one_iff.1 this
 have hz:(js 0).map (recOf x.ss)=[hrec13 S i rs rg,rootR S]:=h.rc 0
 have hv:∀ p,1≤p→p≤S.length+1→viewOf x.ss (js p)=some (baseL (lfR13 l S (p - 1))):=fun p a b=>by
  unfold viewOf
  rw [hrc p a b,lf_fold hl hS (by omega)]
 have hlenp:∀ p,(js p).length≤2:=fun p=>by
  rcases Nat.eq_zero_or_pos p with rfl | hp
  ·have:=congrArg List.length hz
   rw [List.length_map] at this
   rw [this]
   exact Nat.le_refl _
  ·rcases Nat.lt_or_ge p (S.length+2) with hp2 | hp2
   ·obtain ⟨j,e⟩:=hone p hp (by omega)
    rw [e]
    exact Nat.le_succ _
   ·rw [h.ou p hp2];exact Nat.zero_le _
 have hok:okR (leafLow S (i - 1)) (leafLow S i) (lfR13 l S (i - 1)).rows:=by
  refine ⟨lf_right hl _,fun p hp=>?_,Nat.le_trans (lf_len _) (by omega)⟩
  have:=lf_in (l:=l) hS (show i - 1≤S.length by omega) p hp
  rw [decide_eq_false (by omega),← low_sep h1] at this
  exact this
 have hpre:(cf13 N l S i hs hg rs rg sp).Pre (lfR13 l S (i - 1)).rows (viewOf x.ss (js i)):=by
  show viewOf x.ss (js i)=some ((cf13 N l S i hs hg rs rg sp).VP _)
  rw [hv i h1 (by omega)]
  show some (baseL (lfR13 l S (i - 1)))=some ⟨leafLow S (i - 1),leafLow S i,false,(i:Int)+1,(lfR13 l S (i - 1)).rows,false⟩
  have e1:(lfR13 l S (i - 1)).high=leafLow S i:=(low_sep h1).symm
  have e2:(lfR13 l S (i - 1)).unb=false:=decide_eq_false (by omega)
  have e3:(lfR13 l S (i - 1)).right=(i:Int)+1:=by
   show (if i - 1 < S.length then ((i - 1:Nat):Int)+2 else 0)=_
   rw [if_pos (by omega)]
   omega
  unfold baseL
  rw [e1,e2,e3]
  rfl
 refine ⟨fun p hp=>?_,fun p hp=>h.ou p (show S.length+2≤p from hp),(show i+1≤S.length+1 by omega),fun p j hj=>?_,fun p a b=>?_,fun p=>Nat.le_trans (hlenp p) (by decide),fun d a b e=>?_,?_,?_,fun d a b=>.inl ⟨_,hok,?_⟩,?_,hok,fun _=>hh,(fun e=>by cases e),?_,fun p a b _ _=>?_,Nat.zero_le _⟩
 ·obtain ⟨s,g,k1,k2⟩:=h.pg p (by omega)
  refine ⟨s,g,k1,k2,fun e=>?_⟩
  rcases Nat.eq_zero_or_pos p with rfl | hp0
  ·rw [e] at hz;cases hz
  ·obtain ⟨j,e'⟩:=hone p hp0 hp
   rw [e] at e';cases e'
 ·have hm:recOf x.ss j ∈ (js p).map (recOf x.ss):=List.mem_map.2 ⟨j,hj,rfl⟩
  rcases Nat.eq_zero_or_pos p with rfl | hp0
  ·rw [hz] at hm
   rcases List.mem_cons.1 hm with e | hm
   ·rw [e];exact hold_prec hS _ _
   ·rw [List.mem_singleton.1 hm];exact root_prec hS hd
  ·rcases Nat.lt_or_ge p (S.length+2) with hp2 | hp2
   ·rw [hrc p hp0 (by omega)] at hm
    rw [List.mem_singleton.1 hm]
    exact lf_prec hl hn hS _
   ·rw [h.ou p hp2] at hj;cases hj
 ·rw [hrc p a b];rfl
 ·exfalso
  obtain ⟨j,e'⟩:=hone (i+1) (by omega) (by omega)
  have b':d <:+ js (i+1):=b
  rw [e'] at b'
  exact e (show d=js (i+1) by rw [e'];exact sfx_one a b')
 ·show viewOf x.ss (js (i+1))=_
  rw [hv (i+1) (by omega) (by omega),if_pos rfl]
  rfl
 ·show (js (i+1)).length=_
  obtain ⟨j,e'⟩:=hone (i+1) (by omega) (by omega)
  rw [e',if_pos rfl]
  rfl
 ·obtain ⟨j,e'⟩:=hone i h1 (by omega)
  have b':d <:+ js i:=b
  rw [e'] at b'
  rw [sfx_one a b',← e']
  exact hpre
 ·rw [if_pos (Nat.zero_le _)];exact hpre
 ·rw [if_pos (by omega)];exact hz
 ·rw [hrc p a b]
  show _=if p=S.length+2 then _ else _
  rw [if_neg (by omega)]
structure PgOk (x:St) (js:Nat→List Nat) (p:Nat) (V:Lw):Prop where
  pg:∃ s g,x.ps[p]?=some (true,s,g)∧Links x.ss (js p) s g
  ne:js p≠[]
  pr:∀ j ∈ js p,PRec (recOf x.ss j)
  ln:(js p).length≤20
  vw:viewOf x.ss (js p)=some V
inductive Bel (x:St) (js:Nat→List Nat):ByteArray→Nat→Nat→List Rw→Prop
  | last {p:Nat} {V:Lw} (h:PgOk x js p V) (g:V.gone=false) (u:V.unb=true):Bel x js V.low p 1 V.rows
  | more {p q k:Nat} {V:Lw} {R:List Rw} (h:PgOk x js p V) (g:V.gone=false) (u:V.unb=false) (r:V.right=(q:Int)) (t:Bel x js V.high q k R):Bel x js V.low p (k+1) (V.rows ++ R)
section
variable {x:St} {js:Nat→List Nat}
theorem Bel.last' {p:Nat} {V:Lw} (h:PgOk x js p V) (g:V.gone=false) (u:V.unb=true) {low:ByteArray} (hl:V.low=low) {R:List Rw} (hR:V.rows=R):Bel x js low p 1 R:=by
  rw [← hl,← hR]
  exact .last h g u
theorem Bel.more' {p q k:Nat} {V:Lw} {R:List Rw} (h:PgOk x js p V) (g:V.gone=false) (u:V.unb=false) (r:V.right=(q:Int)) (t:Bel x js V.high q k R) {low:ByteArray} (hl:V.low=low) {R':List Rw} (hR:V.rows ++ R=R') {k':Nat} (hk:k'=k+1):Bel x js low p k' R':=by
  rw [← hl,← hR,hk]
  exact .more h g u r t
theorem bel_tail (hp:∀ p,i+2≤p→p≤S.length+1→PgOk x js p (baseL (lfR13 l S (p - 1)))):∀ (d j:Nat),j+d=S.length→i+1≤j→Bel x js (leafLow S j) (j+1) (d+1) (segR l S j (d+1))
  | 0,j,e,hj=>by
    refine Bel.last' (hp (j+1) (by omega) (by omega)) rfl (decide_eq_true (by omega)) rfl ?_
    show (lfR13 l S j).rows=_
    rw [segR,segR,List.append_nil]
  | d+1,j,e,hj=>by
    refine Bel.more' (hp (j+1) (by omega) (by omega)) rfl (decide_eq_false (by omega)) (q:=j+2) ?_ (bel_tail hp d (j+1) (by omega) (by omega)) rfl rfl rfl
    show (if j < S.length then (j:Int)+2 else 0)=_
    rw [if_pos (by omega)]
    rfl
theorem bel_head (hp:∀ p,1≤p→p < i→PgOk x js p (baseL (lfR13 l S (p - 1)))) (h2:i≤S.length) {k:Nat} {R:List Rw} (t:Bel x js (leafLow S (i - 1)) i k R):∀ (d j:Nat),j+d=i - 1→1≤i→Bel x js (leafLow S j) (j+1) (d+k) (segR l S j d ++ R)
  | 0,j,e,h1=>by
    obtain rfl:j=i - 1:=by omega
    rw [segR,List.nil_append,Nat.zero_add,show i - 1+1=i by omega]
    exact t
  | d+1,j,e,h1=>by
    refine Bel.more' (hp (j+1) (by omega) (by omega)) rfl (decide_eq_false (by omega)) (q:=j+2) ?_ (bel_head hp h2 t d (j+1) (by omega) h1) rfl ?_ (by omega)
    · show (if j < S.length then (j:Int)+2 else 0)=_
      rw [if_pos (by omega)]
      rfl
    · show (lfR13 l S j).rows ++ (segR l S (j+1) d ++ R)=segR l S j (d+1) ++ R
      rw [segR,List.append_assoc]
end
section
variable {x:St} {js:Nat→List Nat} {M Φ:Nat} {cur:List Rw}
theorem wd_pgok (hw:Wd (cf13 N l S i hs hg rs rg sp) Φ cur x js M) {p:Nat} (hp:p≤M) {V:Lw} (hv:viewOf x.ss (js p)=some V):PgOk x js p V:=by
  obtain ⟨s,g,k1,k2,k3⟩:=hw.pg p hp
  exact ⟨⟨s,g,k1,k2⟩,k3,hw.pr p,hw.ln p,hv⟩
theorem wd_other (hl:RightR l) (hS:SepsOk S) (hw:Wd (cf13 N l S i hs hg rs rg sp) Φ cur x js M) {p:Nat} (h1:1≤p) (hp:p≤M) (hM:p≤S.length+1) (hn1:p≠i) (hn2:p≠i+1):PgOk x js p (baseL (lfR13 l S (p - 1))):=by
  refine wd_pgok hw hp ?_
  have:=hw.ot p h1 hp hn1 hn2
  unfold viewOf
  rw [this]
  show foldL (if p=S.length+2 then _ else _)=_
  rw [if_neg (by omega),lf_fold hl hS (by omega)]
def allR (l:List Rw) (S:List ByteArray) (i:Nat) (cur:List Rw):List Rw:=segR l S 0 (i - 1) ++ (cur ++ ((lfR13 l S i).rows ++ segR l S (i+1) (S.length - i)))
theorem allR_l (hl:RightR l) (hS:SepsOk S) (h1:1≤i) (h2:i≤S.length):allR l S i (lfR13 l S (i - 1)).rows=l:=seg_mid hl hS h1 h2
theorem bel_done (hl:RightR l) (hS:SepsOk S) (h1:1≤i) (h2:i≤S.length) (hw:Wd (cf13 N l S i hs hg rs rg sp) Φ cur x js M) (hM:S.length+1≤M) (hv:viewOf x.ss (js i)=some ((cf13 N l S i hs hg rs rg sp).VQ cur)) :
    Bel x js nilS 1 S.length (allR l S i cur):=by
  have hoth:∀ p,1≤p→p≤S.length+1→p≠i→p≠i+1→PgOk x js p (baseL (lfR13 l S (p - 1))):=fun p a b c d=>wd_other hl hS hw a (by omega) b c d
  have hP:=wd_pgok hw (p:=i) (by omega) hv
  have hi:Bel x js (leafLow S (i - 1)) i (S.length - i+1) (cur ++ ((lfR13 l S i).rows ++ segR l S (i+1) (S.length - i))):=by
    by_cases e:i=S.length
    · rw [show S.length - i=0 by omega,segR,List.append_nil]
      exact Bel.last' hP rfl (decide_eq_true e) rfl rfl
    · obtain ⟨d,hd⟩:∃ d,S.length - i=d+1:=⟨S.length - i - 1,by omega⟩
      rw [hd,← List.append_assoc]
      refine Bel.more' hP rfl (decide_eq_false e) (q:=i+2) ?_ (bel_tail (l:=l) (S:=S) (i:=i) (fun p a b=>hoth p (by omega) b (by omega) (by omega)) d (i+1) (by omega) (by omega)) rfl rfl rfl
      show (if i < S.length then (i:Int)+2 else 0)=_
      rw [if_pos (by omega)]
      rfl
  have:=bel_head (l:=l) (fun p a b=>hoth p a (by omega) (by omega) (by omega)) h2 hi (i - 1) 0 (by omega) h1
  rw [show i - 1+(S.length - i+1)=S.length by omega] at this
  exact this
end
end
open Go.RowKit

structure CfMore (c:Cf):Prop where
  lk:ltS c.low c.key=true
  vr:∀ p ∈ c.VG.rows,ltS p.1 c.key=false
theorem cf13_more {l:List Rw} {S:List ByteArray} {i N:Nat} {hs hg rs rg:Int} {sp:Int→Prop} (hS:SepsOk S) (h1:1≤i) (h2:i≤S.length):CfMore (cf13 N l S i hs hg rs rg sp):=
  ⟨hS.low2 (by omega) h2,fun p hp=>(inS_iff7.1 (lf_in hS h2 p hp)).1⟩
def putRc (r:Rw) (a b:Int):Rc:=hang { Rc.zero with kind:=2,key:=r.1,val:=r.2 } a b
def splRc (key:ByteArray) (q a b:Int):Rc:=hang { Rc.zero with kind:=4,key:=key,page:=q } a b
section
variable {c:Cf} {Φ:Nat} {cur:List Rw} {x:St} {js:Nat→List Nat} {M:Nat}
theorem upL_put {V:Lw} {r:Rw} {a b:Int} (hg:V.gone=false) (hf:fitsR r=true) (hin:inS V.low V.high V.unb r.1=true):upL V (putRc r a b)=some { V with rows:=putR V.rows r }:=by
  unfold upL
  have e:(putRc r a b).kind=2:=rfl
  rw [if_neg (by rw [hg];decide),if_pos e,if_pos ⟨hf,hin⟩]
  rfl
theorem upL_spl {V:Lw} {key:ByteArray} {q a b:Int} (hg:V.gone=false) (hin:inS V.low V.high V.unb key=true) (hlt:ltS V.low key=true):upL V (splRc key q a b)=some { V with rows:=V.rows.take (plR V.rows key),high:=key,unb:=false,right:=q }:=by
  unfold upL
  have e:(splRc key q a b).kind=4:=rfl
  rw [if_neg (by rw [hg];decide),if_neg (by rw [e];omega),if_neg (by rw [e];omega),if_pos e,if_pos ⟨hin,hlt⟩]
  rfl
theorem in_vq (hm:CfMore c) (hc:CfOk c) {key:ByteArray} (hin:inS c.low c.key false key=true):inS c.low c.VG.high c.VG.unb key=true:=by
  obtain ⟨h1,h2⟩:=inS_iff7.1 hin
  have h3:ltS key c.key=true:=by simpa using h2
  exact inS_iff7.2 ⟨h1,(inS_iff7.1 hc.k2).2.imp id (ltS_trans h3)⟩
theorem Wd.put13 (hc:CfOk c) (hm:CfMore c) (h:Wd c Φ cur x js M) {s g a b:Int} {r:Rw} (hl:Loose x js s g (putRc r a b)) (hh:x.ps[c.i]?=some (true,a,b)) (hf:fitsR r=true) (hin:inS c.low c.key false r.1=true) (hcu:c.ok (putR cur r)) (hln:(js c.i).length+1≤20) (hvq:2≤Φ→viewOf x.ss (js c.i)=some (c.VQ cur)) :
    ∃ i,Pushed c x js M c.i i s g a b (putRc r a b)∧Wd c Φ (putR cur r) { x with ps:=x.ps.set c.i (true,s,g) } (pushJs js c.i i) M∧(2≤Φ→viewOf x.ss (pushJs js c.i i c.i)=some (c.VQ (putR cur r))):=by
  have hM:=h.iM
  have hi1:=hc.i1
  obtain ⟨i,P⟩:=h.pushed (p:=c.i) (by omega) hl ⟨rfl,rfl⟩ hh
  obtain ⟨s1,g1,k1,k2,k3⟩:=h.pg c.i (by omega)
  have hlt:ltS r.1 c.key=true:=by have:=(inS_iff7.1 hin).2;simpa using this
  have hv1:Φ≤1→viewOf x.ss (i :: js c.i)=some (c.VP (putR cur r)):=fun hΦ=>by
    have hp:=h.p1
    rw [if_pos hΦ] at hp
    rw [viewOf_cons k3,show viewOf x.ss (js c.i)=some (c.VP cur) from hp,P.rc]
    exact upL_put rfl hf hin
  have hv2:2≤Φ→viewOf x.ss (i :: js c.i)=some (c.VQ (putR cur r)):=fun hΦ=>by
    rw [viewOf_cons k3,hvq hΦ,P.rc]
    refine (upL_put rfl hf (in_vq hm hc hin)).trans ?_
    have e:putR (cur ++ c.VG.rows) r=putR cur r ++ c.VG.rows:=putR_app (A:=[]) (fun _ h=>by cases h) fun p hp=>lt_ge7 hlt (hm.vr p hp)
    show some ({ c.VQ cur with rows:=putR (cur ++ c.VG.rows) r }:Lw)=_
    rw [e]
    rfl
  have hpr:PRec (putRc r a b):=by
    obtain ⟨z1,z2⟩:=fits_sz hf
    exact ⟨⟨SzOk.nil,SzOk.nil,z1,SzOk.nil,ets_nil⟩,z2,rws_nil,Nat.zero_le _,Nat.zero_le _⟩
  refine ⟨i,P,⟨P.pg,push_ou h (by omega),h.iM,push_pr h P hpr,push_lf h P (by omega),push_ln h hln,fun d h1 h2 h3=>?_,?_,?_,fun d h1 h2=>?_,?_,hcu,fun h3=>?_,fun h3=>?_,?_,fun p q1 q2 q3 q4=>?_,h.f3⟩,fun hΦ=>?_⟩
  · rw [push_ne js (by omega)] at h2 h3
    exact h.g0 d h1 h2 h3
  · rw [push_ne js (by omega)]
    exact h.g1
  · rw [push_ne js (by omega)]
    exact h.gl
  · rw [push_at] at h2
    rcases List.suffix_cons_iff.1 h2 with e | h2
    · rw [e]
      by_cases hΦ:Φ≤1
      · exact .inl ⟨_,hcu,hv1 hΦ⟩
      · exact .inr ⟨by omega,_,.inl (hv2 (by omega))⟩
    · exact h.p0 d h1 h2
  · rw [push_at]
    by_cases hΦ:Φ≤1
    · rw [if_pos hΦ];exact hv1 hΦ
    · rw [if_neg hΦ];exact .inl (hv2 (by omega))
  · show (x.ps.set c.i (true,s,g))[0]?=_
    rw [List.getElem?_set_ne (by omega)];exact h.h0 h3
  · obtain ⟨s2,g2,e1,e2⟩:=h.h3 h3
    refine ⟨s2,g2,?_,e2⟩
    show (x.ps.set c.i (true,s,g))[0]?=_
    rw [List.getElem?_set_ne (by omega)];exact e1
  · show (pushJs js c.i i 0).map (recOf x.ss)=_
    rw [push_ne js (by omega)];exact h.z0
  · show (pushJs js c.i i p).map (recOf x.ss)=_
    rw [push_ne js q3];exact h.ot p q1 q2 q3 q4
  · rw [push_at];exact hv2 hΦ
theorem Wd.ps (h:Wd c Φ cur x js M) {ps':List Pg} (he:∀ p,p≤M→ps'[p]?=x.ps[p]?):Wd c Φ cur { x with ps:=ps' } js M:=by
  refine ⟨fun p hp=>?_,h.ou,h.iM,h.pr,h.lf,h.ln,h.g0,h.g1,h.gl,h.p0,h.p1,h.cu,fun h3=>?_,fun h3=>?_,h.z0,h.ot,h.f3⟩
  · obtain ⟨s,g,k1,k2,k3⟩:=h.pg p hp
    exact ⟨s,g,(he p hp).trans k1,k2,k3⟩
  · exact (he 0 (Nat.zero_le _)).trans (h.h0 h3)
  · obtain ⟨s,g,k1,k2⟩:=h.h3 h3
    exact ⟨s,g,(he 0 (Nat.zero_le _)).trans k1,k2⟩
theorem Wd.newp (hc:CfOk c) (h:Wd c Φ cur x js M) {s g:Int} {R:Rc} (hl:Loose x js s g R) (hR:R.nslot=0∧R.ngen=0) (hh:x.ps[M+1]?=some (true,0,0)) (hpr:PRec R) (hlf:R.kind=1) (hO:c.O (M+1)=[R]) :
    ∃ i:Nat,s=(i:Int)+1∧Adv x js { x with ps:=x.ps.set (M+1) (true,s,g) } (pushJs js (M+1) i) s∧(∀ q,i ∉ js q)∧Wd c Φ cur { x with ps:=x.ps.set (M+1) (true,s,g) } (pushJs js (M+1) i) (M+1):=by
  have hM:=h.iM
  have hi1:=hc.i1
  obtain ⟨i,e1,ad,rc,li,ni⟩:=adv_push hl (x.ps.set (M+1) (true,s,g)) (M+1)
  have hnil:js (M+1)=[]:=h.ou (M+1) (by omega)
  have hli:Links x.ss (i :: js (M+1)) s g:=li 0 0 hR.1 hR.2 (by rw [hnil];exact ⟨rfl,rfl⟩)
  have hps:∀ p,p≠M+1→(x.ps.set (M+1) (true,s,g))[p]?=x.ps[p]?:=fun p hp=>List.getElem?_set_ne (fun e=>hp e.symm)
  have hone:pushJs js (M+1) i (M+1)=[i]:=by rw [push_at,hnil]
  refine ⟨i,e1,ad,ni,⟨fun p hp=>?_,fun p hp=>?_,(show c.i+1≤M+1 by omega),fun p j hj=>?_,fun p q1 q2=>?_,fun p=>?_,fun d h1 h2 h3=>?_,?_,?_,fun d h1 h2=>?_,?_,h.cu,fun h3=>?_,fun h3=>?_,?_,fun p q1 q2 q3 q4=>?_,h.f3⟩⟩
  · by_cases e:p=M+1
    · subst e
      exact ⟨s,g,by show (x.ps.set (M+1) (true,s,g))[M+1]?=_;rw [List.getElem?_set_self (List.getElem?_eq_some_iff.1 hh).1],by rw [push_at];exact hli,by rw [push_at];simp⟩
    · obtain ⟨s2,g2,r1,r2,r3⟩:=h.pg p (by omega)
      exact ⟨s2,g2,(hps p e).trans r1,by rw [push_ne js e];exact r2,by rw [push_ne js e];exact r3⟩
  · rw [push_ne js (by omega)];exact h.ou p (by omega)
  · by_cases e:p=M+1
    · subst e
      rw [hone] at hj
      rw [List.mem_singleton.1 hj]
      show PRec (recOf x.ss i)
      rw [rc];exact hpr
    · rw [push_ne js e] at hj
      exact h.pr p j hj
  · by_cases e:p=M+1
    · subst e
      rw [hone]
      show decide ((recOf x.ss i).kind=1)=true
      rw [rc,hlf];rfl
    · rw [push_ne js e]
      exact h.lf p q1 (by omega)
  · by_cases e:p=M+1
    · subst e;rw [hone];exact (by decide:1≤20)
    · rw [push_ne js e];exact h.ln p
  · rw [push_ne js (by omega)] at h2 h3;exact h.g0 d h1 h2 h3
  · rw [push_ne js (by omega)];exact h.g1
  · rw [push_ne js (by omega)];exact h.gl
  · rw [push_ne js (by omega)] at h2;exact h.p0 d h1 h2
  · rw [push_ne js (by omega)];exact h.p1
  · exact (hps 0 (by omega)).trans (h.h0 h3)
  · obtain ⟨s2,g2,r1,r2⟩:=h.h3 h3
    exact ⟨s2,g2,(hps 0 (by omega)).trans r1,r2⟩
  · rw [push_ne js (by omega)];exact h.z0
  · by_cases e:p=M+1
    · subst e
      rw [hone,hO]
      show [recOf x.ss i]=_
      rw [rc]
    · rw [push_ne js e]
      exact h.ot p q1 (by omega) q3 q4
theorem Wd.spl (hc:CfOk c) (hm:CfMore c) (h:Wd c Φ cur x js M) (hΦ:2≤Φ) {s g a b q:Int} (hl:Loose x js s g (splRc c.key q a b)) (hh:x.ps[c.i]?=some (true,a,b)) (hq:q≠(c.i:Int)+1∧c.sp q) (hln:(js c.i).length+1≤20) (hvq:viewOf x.ss (js c.i)=some (c.VQ cur)) (hcl:∀ p ∈ cur,ltS p.1 c.key=true) :
    ∃ i,Pushed c x js M c.i i s g a b (splRc c.key q a b)∧Wd c Φ cur { x with ps:=x.ps.set c.i (true,s,g) } (pushJs js c.i i) M∧viewOf x.ss (pushJs js c.i i c.i)=some (c.VS cur q):=by
  have hM:=h.iM
  have hi1:=hc.i1
  obtain ⟨i,P⟩:=h.pushed (p:=c.i) (by omega) hl ⟨rfl,rfl⟩ hh
  obtain ⟨s1,g1,k1,k2,k3⟩:=h.pg c.i (by omega)
  have hv:viewOf x.ss (i :: js c.i)=some (c.VS cur q):=by
    rw [viewOf_cons k3,hvq,P.rc]
    refine (upL_spl rfl hc.k2 hm.lk).trans ?_
    have e:(cur ++ c.VG.rows).take (plR (cur ++ c.VG.rows) c.key)=cur:=by
      have e1:plR c.VG.rows c.key=0:=by
        cases hr:c.VG.rows with
        | nil=>rfl
        | cons p t=>rw [plR,if_neg (by rw [hm.vr p (by rw [hr];exact List.mem_cons_self)];decide)]
      rw [plR_in_app hcl,e1,Nat.add_zero,List.take_left]
    show some ({ c.VQ cur with rows:=(cur ++ c.VG.rows).take (plR (cur ++ c.VG.rows) c.key),high:=c.key,unb:=false,right:=q }:Lw)=_
    rw [e]
    rfl
  have hpr:PRec (splRc c.key q a b):=⟨⟨SzOk.nil,SzOk.nil,hc.kz,SzOk.nil,ets_nil⟩,SzOk.nil,rws_nil,Nat.zero_le _,Nat.zero_le _⟩
  refine ⟨i,P,⟨P.pg,push_ou h (by omega),h.iM,push_pr h P hpr,push_lf h P (by omega),push_ln h hln,fun d h1 h2 h3=>?_,?_,?_,fun d h1 h2=>?_,?_,h.cu,fun h3=>?_,fun h3=>?_,?_,fun p q1 q2 q3 q4=>?_,h.f3⟩,?_⟩
  · rw [push_ne js (by omega)] at h2 h3
    exact h.g0 d h1 h2 h3
  · rw [push_ne js (by omega)]
    exact h.g1
  · rw [push_ne js (by omega)]
    exact h.gl
  · rw [push_at] at h2
    rcases List.suffix_cons_iff.1 h2 with e | h2
    · rw [e]
      exact .inr ⟨hΦ,_,.inr ⟨q,hq,hv⟩⟩
    · exact h.p0 d h1 h2
  · rw [push_at,if_neg (by omega)];exact .inr ⟨q,hq,hv⟩
  · show (x.ps.set c.i (true,s,g))[0]?=_
    rw [List.getElem?_set_ne (by omega)];exact h.h0 h3
  · obtain ⟨s2,g2,e1,e2⟩:=h.h3 h3
    refine ⟨s2,g2,?_,e2⟩
    show (x.ps.set c.i (true,s,g))[0]?=_
    rw [List.getElem?_set_ne (by omega)];exact e1
  · show (pushJs js c.i i 0).map (recOf x.ss)=_
    rw [push_ne js (by omega)];exact h.z0
  · show (pushJs js c.i i p).map (recOf x.ss)=_
    rw [push_ne js q3];exact h.ot p q1 q2 q3 q4
  · rw [push_at];exact hv
theorem Wd.more {sp':Int→Prop} (h:Wd c Φ cur x js M) (hs:∀ q,c.sp q→sp' q):Wd { c with sp:=sp' } Φ cur x js M:=by
  have hp:∀ {L v},c.Post L v→({ c with sp:=sp' }:Cf).Post L v:=fun {L v} hh=>hh.imp id fun ⟨q,h1,h2⟩=>⟨q,⟨h1.1,hs q h1.2⟩,h2⟩
  refine ⟨h.pg,h.ou,h.iM,h.pr,h.lf,h.ln,h.g0,h.g1,h.gl,fun d h1 h2=>(h.p0 d h1 h2).imp id fun ⟨a,L,b⟩=>⟨a,L,hp b⟩,?_,h.cu,h.h0,h.h3,h.z0,h.ot,h.f3⟩
  have:=h.p1
  by_cases hΦ:Φ≤1
  · rw [if_pos hΦ] at this ⊢;exact this
  · rw [if_neg hΦ] at this ⊢;exact hp this
end
open Go.RowKit

section
variable {c:Cf} {Φ:Nat} {cur cur':List Rw} {W w w':World} {m:Nat} {k k':Int} {l:Lm} {x x':St} {js js':Nat→List Nat} {M M' b0 u u':Nat} {L:List H1} {q:Int}
theorem Hps.other (P:Hps c Φ cur W w m k l x js M b0 u L) (hM:Mm w' m k' l x') (hk:k≤k') (hf:Fr (mall m x) w w') (hsa:SameA x x') (hw:Wd c Φ cur' x' js' M') (he:Env13 c Φ Φ x js x' js' q) (hq:∀ z ∈ L,z.ph.slot≠q∨z.ph.cnt=0) (hr:Room x' c.N (u'+Φ+cntL L) (k'+1)) :
    Hps c Φ cur' W w' m k' l x' js' M' b0 u' L:=by
  have hk0:=P.k0
  refine ⟨hM,hw,by omega,fun b hb=>P.mb b (by rw [mall_sa hsa] at hb;exact hb),Nat.le_trans P.bw hf.size,?_,P.ls,hr,fun z hz=>?_,P.dj,P.dn⟩
  · exact P.f.trans hf (fun _ _=>id) (fun g hg e=>by have:=P.mb g e;omega)
  · obtain ⟨hH,hK,hI⟩:=P.hp z hz
    have hfr:Hlp x.ss b0 w' z.h z.ph z.y:=hH.fr hf (fun p hp e=>by
        obtain ⟨_,t,cs,hb,ht⟩:=hH.foot_blk hp
        refine P.mm.mall_ty hb ?_ e
        rcases ht with rfl | rfl | rfl | rfl | rfl | rfl <;> decide) (fun p t cs hb ht e=>by
        refine P.mm.mall_ty hb ?_ e
        rcases ht with rfl | rfl | rfl | rfl <;> decide)
    obtain ⟨on1,on2⟩:=hI.on
    have hstn:Stn x.ss x'.ss z.ph.js:=Stn.same (fun j hj=>by
      obtain ⟨p,hp⟩:=on2 j hj
      obtain ⟨y,q1,q2⟩:=P.wd.used p j hp
      rw [q1]
      exact he.ad.sl j y q1 q2 (he.qn p j hp))
    exact ⟨hfr.stn on1 hstn,hK,hI.env he (hq z hz)⟩
theorem Hps.q0 (P:Hps c Φ cur W w m k l x js M b0 u L):∀ z ∈ L,z.ph.slot≠(0:Int)∨z.ph.cnt=0:=fun z hz=>by
  obtain ⟨_,_,hI⟩:=P.hp z hz
  by_cases h:z.ph.cnt=0
  · exact .inr h
  · obtain ⟨_,_,hl⟩:=loose_of hI h
    have:=loose_pos hl
    exact .inl (by omega)
theorem Hps.head (P:Hps c Φ cur W w m k l x js M b0 u L) (hM:Mm w' m (k+1) l x) (hf:Fr (mall m x) w w'):Hps c Φ cur W w' m (k+1) l x js M b0 u L:=
  P.other hM (by omega) hf (SameA.refl x) P.wd (Env13.refl P.wd (zero_q js)) P.q0 (P.rm.mono (by omega))
theorem Hps.alloc (P:Hps c Φ cur W w m k l x js M b0 u L) {R:Rc} {s g:Int} {ss':List Sl} (ha:AllocR l.n x.ss R s g 0 ss') (hM:Mm w' m (k+1) l { x with ss:=ss' }) (hf:Fr (mall m x) w w') :
    Hps c Φ cur W w' m (k+1) l { x with ss:=ss' } js M b0 (u+1) L∧Loose { x with ss:=ss' } js s g R∧∀ z ∈ L,z.ph.slot≠s∨z.ph.cnt=0:=by
  obtain ⟨ad,hlo⟩:=adv_alloc P.wd.used ha 0
  have hsame:∀ p,∀ j ∈ js p,ss'[j]?=x.ss[j]?:=fun p j hj=>by
    obtain ⟨y,q1,q2⟩:=P.wd.used p j hj
    rw [q1]
    exact ad.sl j y q1 q2 (by omega)
  have hen:Env13 c Φ Φ x js { x with ss:=ss' } js 0:=⟨ad,Nat.le_refl _,P.wd.f3,fun _=>rfl,zero_q js⟩
  have hr:=P.rm.alloc ha
  rw [show u+Φ+cntL L+1=u+1+Φ+cntL L by omega] at hr
  refine ⟨P.other hM (by omega) hf ⟨rfl,rfl,rfl,rfl,rfl,rfl⟩ (P.wd.stand hsame) hen P.q0 hr,hlo,fun z hz=>?_⟩
  obtain ⟨_,_,hI⟩:=P.hp z hz
  by_cases h:z.ph.cnt=0
  · exact .inr h
  · refine .inl (fun e=>?_)
    obtain ⟨_,_,i2,y2,r1,r2,r3,_⟩:=loose_of hI h
    obtain ⟨i,y,q1,_,_,_,_,q6,_⟩:=allocR_slot ha
    have hii:i=i2:=by omega
    subst hii
    have:=q6 y2 r2
    rw [r3] at this
    cases this
theorem Hps.alloc_ok (P:Hps c Φ cur W w m k l x js M b0 u L) (hu:u+Φ+cntL L < c.N) (hg:k+1 < l.n) {R:Rc} {s g cc:Int} {ss':List Sl} (ha:AllocR l.n x.ss R s g cc ss'):cc=0:=P.rm.alloc_ok hu hg ha
theorem Hps.more {sp':Int→Prop} (P:Hps c Φ cur W w m k l x js M b0 u L) (hs:∀ q,c.sp q→sp' q):Hps { c with sp:=sp' } Φ cur W w m k l x js M b0 u L:=by
  refine ⟨P.mm,P.wd.more hs,P.k0,P.mb,P.bw,P.f,P.ls,P.rm,fun z hz=>?_,P.dj,P.dn⟩
  obtain ⟨a,b,hI⟩:=P.hp z hz
  refine ⟨a,b,?_⟩
  generalize z.ph=ph at hI ⊢
  cases ph with
  | going p d s0 g0=>exact hI
  | taking p d s0 g0=>exact hI
  | job t page os og R st =>
    match t,hI with
    | 0,hI=>exact hI
    | 1,hI=>exact hI
    | 2,hI=>exact hI
    | t+3,hI=>exact hI
  | over d'=>exact hI
end
theorem cnt_le (ph:Ps):ph.cnt≤1:=by
  rcases Nat.lt_or_ge ph.cnt 2 with h | h
  · omega
  · have h0:ph.cnt≠0:=by omega
    obtain ⟨t,page,os,og,R,s,g,rfl | rfl,_⟩:=cnt_slot h0
    · exact Nat.le_refl 1
    · exact Nat.le_refl 1
theorem cntL_le (L:List H1):cntL L≤L.length:=by
  unfold cntL
  induction L with
  | nil=>exact Nat.le_refl _
  | cons a r ih =>
    have:=cnt_le a.ph
    simp only [List.map_cons,List.sum_cons,List.length_cons]
    omega
theorem jl_le {f:Prop} [Decidable f] {A B n:Nat} (hA:A≤n) (hB:B≤n) (st:Jst):jl f A B st≤n+3:=by
  cases st with
  | head=>rw [jl_head];split <;> omega
  | swap s g=>rw [jl_swap];split <;> omega
  | free s g=>rw [jl_free];omega
section
variable {c:Cf} {Φ:Nat} {cur:List Rw} {x:St} {js:Nat→List Nat} {M:Nat} {H:Hm}
theorem mu_le (hw:Wd c Φ cur x js M) {ph:Ps} (hi:HI c Φ x js H ph):mu c Φ x js ph≤2 * (js c.i).length+20:=by
  have h3:=d3_le Φ
  have ht:t0 c Φ js≤(js c.i).length+6:=by unfold t0;split <;> omega
  have hgl:(js (c.i+1)).length≤2:=by have:=hw.gl;split at this <;> omega
  have hg:g0 c Φ js≤(js c.i).length+11:=by unfold g0;split <;> omega
  cases ph with
  | going p d s0 g0' =>
    show muG c Φ js p d≤_
    unfold muG
    by_cases hp:p=0
    · rw [if_pos hp];omega
    · rw [if_neg hp]
      obtain ⟨_,_,h4,_⟩:=(show OnLd _ _ _ _ _ _ from hi).2 (by omega)
      have:=h4.length_le
      split
      · split <;> omega
      · omega
  | taking p d s0 g0' =>
    show muT c Φ js p d≤_
    unfold muT
    by_cases hp:p=0
    · rw [if_pos hp];omega
    · rw [if_neg hp]
      obtain ⟨_,_,h4,_⟩:=hi.2.2.2.2 (by omega)
      have:=h4.length_le
      split
      · split <;> omega
      · omega
  | job t page os og R st =>
    show muJ c Φ x js os og st t≤_
    match t with
    | 0=>exact Nat.le_trans (jl_le (n:=(js c.i).length+11) (by omega) hg st) (by omega)
    | 1=>exact Nat.le_trans (jl_le (n:=(js c.i).length+11) (by omega) (by omega) st) (by omega)
    | t+2=>exact Nat.le_trans (jl_le (n:=(js c.i).length+11) (by omega) (by omega) st) (by omega)
  | over d=>exact Nat.zero_le _
theorem js0_le (hw:Wd c Φ cur x js M):(js 0).length≤c.Z.length+1:=by
  have:=congrArg List.length hw.z0
  rw [List.length_map] at this
  rw [this]
  split <;> simp
theorem swap_flags {ps:List Pg} {n a b s g:Int} {ok:Bool} {k:Int} {ps':List Pg} (h:SwapR ps n a b s g ok k ps'):ps'.map (·.1)=ps.map (·.1):=by
  rcases h with ⟨i,s',g',_,h2,_,_,rfl⟩ | ⟨_,_,_,rfl⟩
  · unfold swapPs
    split
    · rw [List.map_set]
      refine List.ext_getElem? fun j=>?_
      rcases Nat.decEq i j with hne | rfl
      · rw [List.getElem?_set_ne hne]
      · have hl:=(List.getElem?_eq_some_iff.1 h2).1
        rw [List.getElem?_set_self (by rw [List.length_map];exact hl),List.getElem?_map,h2]
        rfl
    · rfl
  · rfl
theorem step_flags {last:Int} {x':St} {ph ph':Ps} {G:Lw} {a b:Int} (h:HStep last x H ph ph' G a b x'):x'.ps.map (·.1)=x.ps.map (·.1):=by
  cases h with
  | jY hw=>exact swap_flags hw
  | jN hw=>exact swap_flags hw
  | _=>rfl
end
structure RunSt (c:Cf) (cur:List Rw) (W:World) (m:Nat) (l:Lm) (M b0 u:Nat) (L:List H1) (x0:St) (nI:Nat) (Φ:Nat) (k:Int) (x:St) (js:Nat→List Nat) (L':List H1) (w:World):Prop where
  hp:Hps c Φ cur W w m k l x js M b0 u L'
  hs:L'.map (·.h)=L.map (·.h)
  fl:x.ps.map (·.1)=x0.ps.map (·.1)
  ln:(js c.i).length+(if Φ≤1 then 1 else 0)≤nI
theorem map_set_h {L L':List H1} {i:Nat} {z z':H1} (h:L'.map (·.h)=L.map (·.h)) (hz:L'[i]?=some z) (hh:z'.h=z.h):(L'.set i z').map (·.h)=L.map (·.h):=by
  rw [← h,List.map_set]
  refine List.ext_getElem? fun j=>?_
  rcases Nat.decEq i j with hne | rfl
  · rw [List.getElem?_set_ne hne]
  · have hl:=(List.getElem?_eq_some_iff.1 hz).1
    rw [List.getElem?_set_self (by rw [List.length_map];exact hl),List.getElem?_map,hz,hh]
    rfl
section
variable {c:Cf} {cur:List Rw} {W w:World} {m:Nat} {l:Lm} {M b0 u:Nat} {L L':List H1} {x0:St} {nI Φ:Nat} {k:Int} {x:St} {js:Nat→List Nat}
theorem RunSt.len (R:RunSt c cur W m l M b0 u L x0 nI Φ k x js L' w):L'.length=L.length:=by
  have:=congrArg List.length R.hs
  rwa [List.length_map,List.length_map] at this
structure RunOk (c:Cf) (l:Lm) (u:Nat) (L:List H1) (nI:Nat):Prop where
  ok:CfOk c
  u:u+3+L.length < c.N
  n:l.n=999
  i:nI≤18
  z:c.Z.length≤2
theorem run_step (O:RunOk c l u L nI) (R:RunSt c cur W m l M b0 u L x0 nI Φ k x js L' w) {i:Nat} {z:H1} (hz:L'[i]?=some z) (ho:z.ph.isOver=false) (hk:k≤990) :
    Calls Tryz.prog 18 #[.pointer (some ⟨z.h,0,none⟩),.pointer (some ⟨m,0,none⟩)] w fun e w'=>∃ Φ' x' js' z',e=.returned (.bool z'.ph.isOver)∧RunSt c cur W m l M b0 u L x0 nI Φ' (k+1) x' js' (L'.set i z') w'∧Kept13 w w'∧Φ≤Φ'∧z'.h=z.h∧mu c Φ' x' js' z'.ph+1≤mu c Φ x js z.ph∧(Fresh c Φ x js z.ph→mu c Φ' x' js' z'.ph+1=mu c Φ x js z.ph∧Fresh c Φ' x' js' z'.ph):=by
  have h3:=R.hp.wd.f3
  have hcl:=cntL_le L'
  rw [R.len] at hcl
  have hu:=O.u
  have hn:=O.n
  have hi:=O.i
  have hzl:=O.z
  have hln:=R.ln
  have h0:=js0_le R.hp.wd
  obtain ⟨hH,hK,hI⟩:=R.hp.hp z (List.mem_of_getElem? hz)
  refine (hps_step O.ok R.hp hz ho (by omega) (by omega) (by omega) ⟨by omega,by omega⟩).mono ?_
  rintro e w' ⟨Φ',js',x',z',rfl,P,hst,⟨u0,S⟩,hh,hkp⟩
  obtain ⟨m1,m2⟩:=mu_step O.ok R.hp.wd hK hst hI S
  refine ⟨Φ',x',js',z',rfl,⟨P,map_set_h R.hs hz hh,(step_flags hst).trans R.fl,?_⟩,hkp,S.en.le,hh,m1,m2⟩
  have hpl:=S.pl
  have hle:=S.en.le
  by_cases h1:Φ≤1
  · rw [if_pos h1] at hln
    by_cases h2:Φ'≤1
    · rw [if_pos h2]
      rw [if_neg (by omega)] at hpl
      omega
    · rw [if_neg h2]
      rw [if_pos (by omega)] at hpl
      omega
  · rw [if_neg h1] at hln
    rw [if_neg (by omega)] at hpl ⊢
    omega
end
open Go.RowKit Go.BigFrame

theorem Kept13.refl (w:World):Kept13 w w:=⟨none_,Fr.refl none_ w,fun _ _ _ _ _=>id⟩
theorem Kept13.none_ {w w':World} (h:Fr none_ w w'):Kept13 w w':=⟨_,h,fun _ _ _ _ _=>id⟩
theorem Kept13.blk {w w':World} (h:Kept13 w w') {q:Nat} {t:TypeId} {cs:Array Value} (hb:Blk w q t cs) (ht:OffT t):Blk w' q t cs:=by
  obtain ⟨S,hf,hS⟩:=h
  exact hb.fr hf (hS q t cs hb ht)
theorem Kept13.trans {a b c:World} (h:Kept13 a b) (k:Kept13 b c):Kept13 a c:=by
  obtain ⟨S,hf,hS⟩:=id h
  obtain ⟨S',hf',hS'⟩:=k
  refine ⟨fun q=>S q∨S' q,hf.trans hf' (fun _ _ e=>.inl e) (fun _ _ e=>.inr e),fun q t cs hb ht e=>?_⟩
  rcases e with e | e
  · exact hS q t cs hb ht e
  · exact hS' q t cs (h.blk hb ht) ht e
theorem Kept13.own {w w':World} (h:Kept13 w w') {base:Nat} {t:TypeId} {size:Nat} {v:Value} {n:Nat} {xs:List Value} (ho:w.ownsRow base t size v n xs) (ht:OffT t):w'.ownsRow base t size v n xs:=by
  obtain ⟨S,hf,hS⟩:=h
  exact own_fr ho hf (fun k hk=>by obtain ⟨_,cs,hb⟩:=own_blk ho hk;exact hS k t cs hb ht)
theorem Kept13.size {w w':World} (h:Kept13 w w'):w.heap.size≤w'.heap.size:=by
  obtain ⟨S,hf,_⟩:=h
  exact hf.size
def hsAt (L:List H1) (i:Nat):Nat:=(L.map (·.h)).getD i 0
abbrev ptrsH (L:List H1) (T:List Nat):List Value:=T.map fun i=>hptr (hsAt L i)
theorem hsAt_of {L L':List H1} {i:Nat} {z:H1} (h:L'.map (·.h)=L.map (·.h)) (hz:L'[i]?=some z):hsAt L i=z.h:=by
  unfold hsAt
  rw [← h,List.getD_eq_getElem?_getD,List.getElem?_map,hz]
  rfl
theorem ptr_at {w:World} {b:Nat} {t:TypeId} {A:Option Addr} {cap:Nat} {L:List H1} {T:List Nat} (h:w.ownsRow b t 1 (.slice A T.length cap) T.length (ptrsH L T)) {j:Nat} {i:Nat} (hj:T[j]?=some i):∃ g off,A=some ⟨g,off,none⟩∧g < w.heap.size∧w.cell? ⟨g,off+j,none⟩=some (hptr (hsAt L i)):=by
  have hl:=(List.getElem?_eq_some_iff.1 hj).1
  obtain ⟨ad,rfl,hc⟩:=(Reads.of_own h).2 (by omega)
  obtain ⟨g,cap',hv,_,_⟩:=h.form (by omega)
  have hA:(some ad:Option Addr)=some ⟨g,0,none⟩:=by injection hv
  obtain rfl:=Option.some.inj hA
  have h1:=hc j (hptr (hsAt L i)) (by rw [List.getElem?_map,hj];rfl)
  rw [add_lit] at h1
  exact ⟨g,0,rfl,World.block_lt_of_cell? w _ h1,h1⟩
section
variable {c:Cf} {cur:List Rw} {W w:World} {m:Nat} {l:Lm} {M b0 u:Nat} {L L1:List H1} {x0:St} {nI Φ:Nat} {k:Int} {x:St} {js:Nat→List Nat}
def RunsP13 (c:Cf) (cur:List Rw) (W:World) (m:Nat) (l:Lm) (M b0 u:Nat) (L:List H1) (x0:St) (nI Φ:Nat) (k:Int) (L1:List H1) (T:List Nat) (w:World) (e:Ending) (w':World):Prop:=
  ∃ Φ' k' x' js' L',e=.returned (.bool true)∧RunSt c cur W m l M b0 u L x0 nI Φ' k' x' js' L' w'∧Φ≤Φ'∧k≤k'∧k'≤k+30 * T.length∧(∀ i ∈ T,∃ z,L'[i]?=some z∧z.ph.isOver=true)∧(∀ i,i ∉ T→L'[i]?=L1[i]?)∧Kept13 w w'
structure RunJ (c:Cf) (cur:List Rw) (W:World) (m:Nat) (l:Lm) (M b0 u:Nat) (L:List H1) (x0:St) (nI Φ:Nat) (k:Int) (L1:List H1) (T:List Nat) (w:World) (j:Nat) (Φ':Nat) (k':Int) (x':St) (js':Nat→List Nat) (L':List H1) (w':World):Prop where
  r:RunSt c cur W m l M b0 u L x0 nI Φ' k' x' js' L' w'
  f:Φ≤Φ'
  k0:k≤k'
  k1:k'≤k+30 * (j:Int)
  o:∀ i ∈ T.take j,∃ z,L'[i]?=some z∧z.ph.isOver=true
  s:∀ i,i ∉ T→L'[i]?=L1[i]?
  kp:Kept13 w w'
structure RunI (c:Cf) (cur:List Rw) (W:World) (m:Nat) (l:Lm) (M b0 u:Nat) (L:List H1) (x0:St) (nI Φ:Nat) (k:Int) (L1:List H1) (T:List Nat) (w:World) (j i:Nat) (n:Nat) (Φ':Nat) (k':Int) (x':St) (js':Nat→List Nat) (L':List H1) (z:H1) (w':World):Prop where
  r:RunSt c cur W m l M b0 u L x0 nI Φ' k' x' js' L' w'
  f:Φ≤Φ'
  k0:k≤k'
  k1:k'≤k+30 * (j:Int)+n
  o:∀ i ∈ T.take j,∃ z,L'[i]?=some z∧z.ph.isOver=true
  s:∀ i,i ∉ T→L'[i]?=L1[i]?
  kp:Kept13 w w'
  gz:L'[i]?=some z
  le:mu c Φ' x' js' z.ph+n≤29
theorem RunSt.mu_le (hI4:nI≤4) (R:RunSt c cur W m l M b0 u L x0 nI Φ k x js L1 w) {i:Nat} {z:H1} (hz:L1[i]?=some z):mu c Φ x js z.ph≤28:=by
  obtain ⟨_,_,hI⟩:=R.hp.hp z (List.mem_of_getElem? hz)
  have:=Go.Proofs.YthpkbppaaagaoaaGreat.mu_le R.hp.wd hI
  have h1:=R.ln
  omega
theorem RunSt.get (R:RunSt c cur W m l M b0 u L x0 nI Φ k x js L1 w) {i:Nat} (hi:i < L.length):∃ z,L1[i]?=some z:=⟨_,List.getElem?_eq_getElem (by rw [R.len];exact hi)⟩
theorem over_ex {ph:Ps} (h:ph.isOver=true):∃ d,ph=.over d:=by
  cases ph with
  | over d=>exact ⟨d,rfl⟩
  | going p d s g=>cases h
  | taking p d s g=>cases h
  | job t a b c R s=>cases h
theorem step_endL (R:RunSt c cur W m l M b0 u L x0 nI Φ k x js L1 w) {i:Nat} {z:H1} (hz:L1[i]?=some z) (ho:z.ph.isOver=true) :
    Calls Tryz.prog 18 #[.pointer (some ⟨z.h,0,none⟩),.pointer (some ⟨m,0,none⟩)] w fun e w'=>e=.returned (.bool true)∧w=w':=by
  obtain ⟨hH,_,_⟩:=R.hp.hp z (List.mem_of_getElem? hz)
  obtain ⟨d,hd⟩:=over_ex ho
  rw [hd] at hH
  exact hstep_end _ hH
theorem run_next {j i n Φ':Nat} {k':Int} {x':St} {js':Nat→List Nat} {L':List H1} {z:H1} {T:List Nat} {w':World} (I:RunI c cur W m l M b0 u L x0 nI Φ k L1 T w j i n Φ' k' x' js' L' z w') (hi:T[j]?=some i) (ho:z.ph.isOver=true):RunJ c cur W m l M b0 u L x0 nI Φ k L1 T w (j+1) Φ' k' x' js' L' w':=by
  refine ⟨I.r,I.f,I.k0,?_,fun q hq=>?_,I.s,I.kp⟩
  · have h1:=I.k1
    have h2:=I.le
    push_cast
    omega
  · rw [List.take_add_one,hi] at hq
    rcases List.mem_append.1 hq with hq | hq
    · exact I.o q hq
    · obtain rfl:q=i:=by simpa using hq
      exact ⟨z,I.gz,ho⟩
theorem run_turn {j i n Φ' Φ'':Nat} {k':Int} {x' x'':St} {js' js'':Nat→List Nat} {L':List H1} {z z':H1} {T:List Nat} {w' w'':World} (I:RunI c cur W m l M b0 u L x0 nI Φ k L1 T w j i n Φ' k' x' js' L' z w') (hi:T[j]?=some i) (ho:z.ph.isOver=false) (hR:RunSt c cur W m l M b0 u L x0 nI Φ'' (k'+1) x'' js'' (L'.set i z') w'') (hk:Kept13 w' w'') (hf:Φ'≤Φ'') (hm:mu c Φ'' x'' js'' z'.ph+1≤mu c Φ' x' js' z.ph):RunI c cur W m l M b0 u L x0 nI Φ k L1 T w j i (n+1) Φ'' (k'+1) x'' js'' (L'.set i z') z' w'':=by
  have hz:=I.gz
  have hil:=(List.getElem?_eq_some_iff.1 hz).1
  have hle:=I.le
  refine ⟨hR,Nat.le_trans I.f hf,by have:=I.k0;omega,by have:=I.k1;push_cast;omega,fun q hq=>?_,fun q hq=>?_,I.kp.trans hk,by rw [List.getElem?_set_self hil],by omega⟩
  · have hq2:=I.o q hq
    rcases Nat.decEq i q with hne | rfl
    · rw [List.getElem?_set_ne hne];exact hq2
    · obtain ⟨z2,h1,h2⟩:=hq2
      rw [hz] at h1
      obtain rfl:=Option.some.inj h1
      rw [ho] at h2
      cases h2
  · rw [List.getElem?_set_ne (fun e=>hq (by rw [← e];exact List.mem_of_getElem? hi))]
    exact I.s q hq
set_option maxHeartbeats 4000000 in
theorem runs13_ok (O:RunOk c l u L nI) (hI4:nI≤4) (T:List Nat) (hT:∀ i ∈ T,i < L.length) (R:RunSt c cur W m l M b0 u L x0 nI Φ k x js L1 w) (hk:k+30 * T.length≤980) {b:Nat} {A:Option Addr} {cap:Nat} (ho:w.ownsRow b 41 1 (.slice A T.length cap) T.length (ptrsH L T)) :
  Calls Tryz.prog 27 #[.slice A T.length cap,.pointer (some ⟨m,0,none⟩)] w (RunsP13 c cur W m l M b0 u L x0 nI Φ k L1 T w):=by
 have hk0:0≤k:=R.hp.k0
 have HO:=hid_ O
 have HT:=hid_ hT
 have HR:=hid_ R
 have HW:=hid_ ho
 clear O hT R ho
 go_enter Tryz.func27,Tryz.ntmps27
 go_wp2_with fail
 go_loopw [10] (fun v wr=>∃ (j:Nat) (Φ':Nat) (k':Int) (x':St) (js':Nat→List Nat) (L':List H1),j≤T.length∧v=.int .i64 j∧RunJ c cur W m l M b0 u L x0 nI Φ k L1 T w j Φ' k' x' js' L' wr) (fun v _=>T.length - (intOf v).toNat)
 case atStart=>exact ⟨0,Φ,k,x,js,L1,Nat.zero_le _,rfl,HR.out,Nat.le_refl _,Int.le_refl _,by omega,fun i hi=>by simp at hi,fun _ _=>rfl,Kept13.refl _⟩
 case round =>
  obtain ⟨j,Φ1,k1,x1,js1,L2,hj,rfl,hJ⟩:=hrel
  have J:=hid_ hJ
  clear hJ
  have hi0:(0:Int)≤(j:Int):=Int.natCast_nonneg _
  by_cases hlt:j < T.length
  ·have hi1:(j:Int) < (T.length:Int):=by omega
   obtain ⟨i,hi⟩:∃ i,T[j]?=some i:=⟨_,List.getElem?_eq_getElem hlt⟩
   obtain ⟨g,off,rfl,hg,hc⟩:=ptr_at (J.out.kp.own HW.out ⟨by decide,by decide⟩) hi
   obtain ⟨z,hz⟩:=J.out.r.get (HT.out i (List.mem_of_getElem? hi))
   rw [hsAt_of J.out.r.hs hz] at hc
   have HI:=hid_ hi
   have I0:Hid (RunI c cur W m l M b0 u L x0 nI Φ k L1 T w j i 0 Φ1 k1 x1 js1 L2 z wr):=hid_ ⟨J.out.r,J.out.f,J.out.k0,by have:=J.out.k1;omega,J.out.o,J.out.s,J.out.kp,hz,by have:=J.out.r.mu_le hI4 hz;omega⟩
   have HZ:=hid_ (J.out.r.hp.hp z (List.mem_of_getElem? hz))
   clear hi hz
   obtain ⟨wo,rfl⟩:∃ wo:World,wo=wr:=⟨_,rfl⟩
   go_wp2_with fail
   obtain ⟨zh,hzh⟩:∃ q,q=z.h:=⟨_,rfl⟩
   rw [← hzh]
   have ZH:=hid_ hzh
   clear hzh
   go_loopw [7] (fun v wr=>∃ (n:Nat) (Φ':Nat) (k':Int) (x':St) (js':Nat→List Nat) (L':List H1) (z':H1),n≤30∧v=.int .i64 n∧z'.h=zh∧RunI c cur W m l M b0 u L x0 nI Φ k L1 T w j i n Φ' k' x' js' L' z' wr) (fun v _=>100 - (intOf v).toNat)
   case atStart=>exact ⟨0,Φ1,k1,x1,js1,L2,z,Nat.zero_le _,rfl,ZH.out.symm,I0.out⟩
   case round =>
    obtain ⟨n,Φ2,k2,x2,js2,L3,z2,hn,rfl,hh2,hI⟩:=hrel
    have I:=hid_ hI
    have HH:=hid_ hh2
    clear hI hh2
    have hn0:(0:Int)≤(n:Int):=Int.natCast_nonneg _
    have HN:=hid_ (show mu c Φ2 x2 js2 z2.ph+n≤29 from I.out.le)
    cases hov:z2.ph.isOver with
    | true =>
     have OV:=hid_ hov
     clear hov
     have hst:=hid_ (by have:=step_endL I.out.r I.out.gz OV.out;rw [HH.out] at this;exact this)
     go_wp2_with fail
     refine hst.out.mono ?_
     rintro e w2 ⟨rfl,rfl⟩
     go_wp2_with fail
     go_roundw
     case rel=>exact ⟨j+1,Φ2,k2,x2,js2,L3,by omega,by go_num,run_next I.out HI.out OV.out⟩
     case measure=>simp [intOf];omega
    | false =>
     have OV:=hid_ hov
     clear hov
     have hst:=hid_ (by
      have:=run_step HO.out I.out.r I.out.gz OV.out (by have:=I.out.k1;have:=HN.out;omega)
      rw [HH.out] at this
      exact this)
     go_wp2_with fail
     refine hst.out.mono ?_
     rintro e w2 ⟨Φ3,x3,js3,z3,rfl,hR3,hk3,hf3,hh3,hm3,_⟩
     have I3:Hid (RunI c cur W m l M b0 u L x0 nI Φ k L1 T w j i (n+1) Φ3 (k2+1) x3 js3 (L3.set i z3) z3 w2):=hid_ (run_turn I.out HI.out OV.out hR3 hk3 hf3 hm3)
     have H3:=hid_ hh3
     clear hst hR3 hk3 hf3 hh3 hm3
     cases hov:z3.ph.isOver with
     | true =>
      have OV3:=hid_ hov
      clear hov
      go_wp2_with fail
      go_roundw
      case rel=>exact ⟨j+1,Φ3,k2+1,x3,js3,L3.set i z3,by omega,by go_num,run_next I3.out HI.out OV3.out⟩
      case measure=>simp [intOf];omega
     | false =>
      clear hov
      have hn2:¬ ((n:Int) > 200):=by have:=HN.out;omega
      go_wp2_with fail
      go_roundw
      case rel=>exact ⟨n+1,Φ3,k2+1,x3,js3,L3.set i z3,z3,by have:=HN.out;omega,by go_num,H3.out,I3.out⟩
      case measure=>simp [intOf];omega
  ·obtain rfl:j=T.length:=by omega
   have hi1:¬ ((T.length:Int) < (T.length:Int)):=by omega
   go_wp2_with fail
   go_ret
   exact ⟨Φ1,k1,x1,js1,L2,rfl,J.out.r,J.out.f,J.out.k0,J.out.k1,by simpa using J.out.o,J.out.s,J.out.kp⟩
end
open Go.RowKit

theorem Ar.range {w:World} {a G:Nat} {last:Int} {ss:List Sl} (h:Ar w a G last ss) {i:Nat} {s:Sl} (hs:ss[i]?=some s):w.rangeAt G (i * 17) (slL s):=fun j v hv=>h.cell hs j hv
open Go.RowKit

theorem Mm.mall_lt {w:World} {m:Nat} {k:Int} {l:Lm} {x:St} (h:Mm w m k l x):∀ i,mall m x i→i < w.heap.size:=by
  obtain ⟨cs,hG,_⟩:=h.ar.hG
  obtain ⟨cap,cur,hT0,hH,_⟩:=id h.tb
  rintro i (e | e | e | e | e)
  · rw [e];exact h.b.lt
  · rw [e];exact hG.lt
  · rw [e];exact hH.lt
  · rw [e];exact h.ck.hC.lt
  · obtain ⟨es,clock,hm,r⟩:=h.ck.hM
    rw [e]
    rcases Nat.lt_or_ge x.M w.heap.size with h1 | h1
    · exact h1
    · rw [Array.getElem?_eq_none h1] at hm;cases hm
open Go.RowKit Go.BigFrame

abbrev lim13 (s:Nat):Lm:=⟨s,40,1,4,4,999⟩
theorem lim13_right {s:Nat} (h:s=20∨s=200):(lim13 s).Right:=by
  rcases h with rfl | rfl <;> exact ⟨by decide,by decide,by decide,by decide,by decide,by decide⟩
theorem Fr.up13 {S:Nat→Prop} {a b c:World} (h:Fr none_ a b) (k:Fr S b c) (hg:∀ i,S i→a.heap.size≤i):Fr none_ a c:=h.trans k (fun _ _=>id) (fun i hi e=>by have:=hg i e;omega)
theorem Ev.zero13 {w:World} {v:Value} {p:ByteArray} {s:Int} (h:Ev w v p s 0):v=.nilIface:=by
  rcases h with ⟨_,h⟩ | ⟨h,_⟩
  · exact h
  · exact absurd rfl h
structure LdSt (W:World) (m s:Nat) (js:Nat→List Nat) (rs:Nat→List Rc) (M u:Nat) (k:Int) (x:St) (w:World):Prop where
  mm:Mm w m k (lim13 s) x
  lay:Lay x js rs M s u (u:Int)
  ps:x.ps.length=40
  al:∀ q,mall m x q→W.heap.size≤q
  f:Fr none_ W w
section
variable {W w w':World} {m s:Nat} {js:Nat→List Nat} {rs:Nat→List Rc} {M u:Nat} {k:Int} {x:St}
theorem LdSt.keep (h:LdSt W m s js rs M u k x w) (hf:Fr none_ w w'):LdSt W m s js rs M u k x w':=⟨h.mm.keep hf,h.lay,h.ps,h.al,h.f.then_none hf⟩
theorem LdSt.head (h:LdSt W m s js rs M u k x w) (hm:Mm w' m (k+1) (lim13 s) x) (hf:Fr (mall m x) w w'):LdSt W m s js rs M u (k+1) x w':=⟨hm,h.lay,h.ps,h.al,h.f.up13 hf h.al⟩
theorem LdSt.headAt (h:LdSt W m s js rs M u k x w) {p:Nat} (hp:p < M) {n a b c:Int} (hn:n=(p:Int)) (hh:HeadR x.ps n a b c):c=0∧x.ps[p]?=some (true,a,b):=by
  obtain ⟨s',g',k1,k2⟩:=h.lay.pg p hp
  subst hn
  rcases hh with ⟨i,e1,e2,e3⟩ | ⟨e1,_⟩
  · obtain rfl:p=i:=by omega
    exact ⟨e3,e2⟩
  · exact absurd (pgC_used k1) e1
theorem LdSt.take (h:LdSt W m s js rs M u k x w) (hM:M < 40) {n c:Int} {ps':List Pg} (ht:TakeR x.ps n c ps') (hm:Mm w' m (k+1) (lim13 s) { x with ps:=ps' }) (hf:Fr (mall m x) w w'):n=(M:Int)∧c=0∧ps'[M]?=some (true,0,0)∧LdSt W m s js rs (M+1) u (k+1) { x with ps:=ps' } w':=by
  obtain ⟨e1,e2,e3,e4,e5⟩:=h.lay.take (by rw [h.ps];exact hM) ht
  exact ⟨e1,e2,e4,hm,e5,e3.trans h.ps,h.al,h.f.up13 hf h.al⟩
theorem LdSt.alloc (h:LdSt W m s js rs M u k x w) (hu:u < s) (hu2:u < 999) {R:Rc} {sl gn c:Int} {ss':List Sl} (ha:AllocR 999 x.ss R sl gn c ss') (hm:Mm w' m (k+1) (lim13 s) { x with ss:=ss' }) (hf:Fr (mall m x) w w'):c=0∧LdSt W m s js rs M (u+1) (k+1) { x with ss:=ss' } w'∧Loose { x with ss:=ss' } js sl gn R:=by
  obtain rfl:=h.lay.rm.alloc_ok hu (by omega) ha
  obtain ⟨e1,e2⟩:=h.lay.alloc ha
  exact ⟨rfl,⟨hm,by push_cast;exact e1,h.ps,h.al,h.f.up13 hf h.al⟩,e2⟩
theorem LdSt.swap (h:LdSt W m s js rs M u k x w) {sl gn:Int} {R:Rc} (hl:Loose x js sl gn R) {p:Nat} (hp:p < M) {d:List Nat} (hd:d=[]∧R.nslot=0∧R.ngen=0∨d=js p) {a b:Int} (hh:x.ps[p]?=some (true,a,b)) (hn:d=js p→R.nslot=a∧R.ngen=b) {n:Int} (hpn:n=(p:Int)) {ok:Bool} {c:Int} {ps':List Pg} (hs:SwapR x.ps n a b sl gn ok c ps') (hm:Mm w' m (k+1) (lim13 s) { x with ps:=ps' }) (hf:Fr (mall m x) w w') :
    ok=true∧c=0∧ps'[p]?=some (true,sl,gn)∧∃ i:Nat,LdSt W m s (fun q=>if q=p then i :: d else js q) (fun q=>if q=p then R :: d.map (recOf x.ss) else rs q) M u (k+1) { x with ps:=ps' } w':=by
  obtain ⟨e1,e2,e3,e4,i,_,e6⟩:=h.lay.swap hl hp hd hh hn hpn hs
  exact ⟨e1,e2,e4,i,hm,e6,e3.trans h.ps,h.al,h.f.up13 hf h.al⟩
end
set_option maxHeartbeats 4000000 in
theorem laid13_ok (l:List Rw) (A B:Option Addr) (c d:Nat) (S:List ByteArray) (s:Nat) (w:World) (h:Reads w 2 A l.length (rwFlat l)) (ho:RwsOk l) (hr:l.length≤60) (hS:TxReads w B S.length S) (hd:S.length≤12) (hs:s=20∨s=200) (hs2:S.length+3≤s) :
  Calls Tryz.prog 14 #[.slice A l.length c,.slice B S.length d,.int .i64 s] w fun e w'=>∃ m x js,e=.returned (.tuple #[.pointer (some ⟨m,0,none⟩),.bool true])∧LdSt w m s js (rootedR l S) (S.length+2) (S.length+3) (3 * (S.length:Int)+6) x w':=by
 have H:=hid_ h
 have HO:=hid_ ho
 have HS:=hid_ hS
 have HR:=hid_ (lim13_right hs)
 clear h ho hS
 go_enter Tryz.func14,Tryz.ntmps14
 go_wp2_with fail
 refine (memNew_ok (lim13 s) w HR.out).mono ?_
 rintro e w1 ⟨m,a,G,vr,ve,T,Hh,C,M,rfl,hM,hf,b1,b2,b3,b4,b5⟩
 obtain ⟨x0,hx0⟩:∃ z:St,z=⟨a,G,⟨1,true,leafR,vr,ve⟩ :: List.replicate ((lim13 s).s - 1) Sl.zero,T,Hh,(true,1,1) :: List.replicate ((lim13 s).p - 1) (false,0,0),C,M,1,0,.map []⟩:=⟨_,rfl⟩
 rw [← hx0] at hM
 have L0:Hid (LdSt w m s (fun q=>if q=0 then [0] else []) (laidR l S 1) 1 1 0 x0 w1):=hid_ (by
  have hl:=lay_new (x:=x0) (s:=s) (p:=40) (vr:=vr) (ve:=ve) (by omega) (by rw [hx0]) (by rw [hx0])
  have e:(fun q=>if q=0 then [leafR] else [])=laidR l S 1:=by
   funext q;unfold laidR
   by_cases e0:q=0
   ·rw [if_pos e0,if_pos e0]
   ·rw [if_neg e0,if_neg e0,if_neg (by omega)]
  rw [e] at hl
  refine ⟨hM,hl,by rw [hx0];simp,?_,hf⟩
  rw [hx0]
  rintro i (e | e | e | e | e)
  ·rw [e];exact b1
  ·rw [show i=G from e];exact b4
  ·rw [show i=Hh from e];exact b5
  ·rw [show i=C from e];exact b2
  ·rw [show i=M from e];exact b3)
 clear hM hf b1 b2 b3 b4 b5 hx0
 go_wp2_with fail
 go_loopw [10] (fun vi wr=>∃ (i:Nat) (x:St) (js:Nat→List Nat),i≤S.length+1∧vi=.int .i64 i∧LdSt w m s js (laidR l S (i+1)) (i+1) (i+1) (3 * (i:Int)) x wr) (fun vi _=>S.length+1 - (intOf vi).toNat)
 case atStart=>exact ⟨0,x0,_,Nat.zero_le _,rfl,L0.out⟩
 case round =>
  obtain ⟨i,x,js,hi,rfl,hL⟩:=hrel
  have Q:=hid_ hL
  clear hL L0
  have hi0:(0:Int)≤(i:Int):=Int.natCast_nonneg _
  by_cases hlt:i≤S.length
  ·have hi1:(i:Int)≤(S.length:Int):=by omega
   have hwk:IntKind.i64.wrap ((i:Int)+1)=(i:Int)+1:=IntWalk.i64_in _ (by omega)
   go_wp2_with fail
   refine (memTake_any m _ _ _ _ Q.out.mm (by omega) (by omega)).mono ?_
   rintro e w2 ⟨n,c2,ps2,v2,rfl,hT,hE,hM2,hf2⟩
   obtain ⟨hn,rfl,hp2,hL2⟩:=Q.out.take (by omega) hT hM2 hf2
   obtain rfl:=hE.zero13
   obtain rfl:n=(i:Int)+1:=by rw [hn];push_cast;rfl
   have Q2:=hid_ hL2
   have P2:=hid_ hp2
   clear hT hE hM2 hf2 hn hp2 hL2
   go_wp2_with fail
   refine (leaf13_ok l A B c d S i w2 (H.out.none_fr Q2.out.f) HO.out (HS.out.keep Q2.out.f) hd hlt).mono ?_
   rintro e w3 ⟨A3,c3,rfl,ho3,hf3⟩
   have Q3:=hid_ (Q2.out.keep hf3)
   have O3:Hid (RecOwn w3 w2.heap.size (lfR13 l S i) (.slice A3 (lfR13 l S i).rows.length c3) (.slice none 0 0)):=hid_ ⟨ho3,World.ownsRow_nil _ _ _ _⟩
   clear Q2 ho3 hf3
   go_wp2_with fail
   refine (memAlloc_any m _ _ _ _ Q3.out.mm (by omega) (by omega) (lfR13 l S i) A3 c3 none 0 (fun w' hf=>(O3.out.only hf Q3.out.mm.b (by decide) (by decide)).reads) ⟨Nat.le_trans (partR_le _ _ _ _) (by omega),Nat.zero_le _⟩).mono ?_
   rintro e w4 ⟨sl,gn,kk,ss4,v4,rfl,hA4,hE4,hM4,hf4⟩
   obtain ⟨rfl,hL4,hLo⟩:=Q3.out.alloc (by omega) (by omega) hA4 hM4 hf4
   obtain rfl:=hE4.zero13
   have Q4:=hid_ hL4
   have LO:=hid_ hLo
   clear Q3 O3 hA4 hE4 hM4 hf4 hL4 hLo
   go_wp2_with fail
   obtain ⟨w5,hw5⟩:∃ z,z=w4.alloc (.cells #[.int .i64 sl,.int .i64 gn] 36):=⟨_,rfl⟩
   rw [← hw5]
   have Q5:=hid_ (Q4.out.keep (w':=w5) (by rw [hw5];exact (Fr.refl none_ w4).alloc _))
   clear Q4 hw5
   refine (memSwap_any m _ _ _ _ Q5.out.mm (by omega) (by omega) ((i:Int)+1) 0 0 sl gn).mono ?_
   rintro e w6 ⟨ok,kk,ps6,v6,rfl,hS6,hE6,hM6,hf6⟩
   obtain ⟨rfl,rfl,_,i',hL6⟩:=Q5.out.swap (d:=[]) (p:=i+1) LO.out (by omega) (.inl ⟨rfl,rfl,rfl⟩) P2.out (fun _=>⟨rfl,rfl⟩) (by push_cast;rfl) hS6 hM6 hf6
   rw [show (fun q=>if q=i+1 then lfR13 l S i :: List.map (recOf ss4) [] else laidR l S (i+1) q)=laidR l S (i+2) from laidR_step l S i,show 3 * (i:Int)+1+1+1=3 * ((i+1:Nat):Int) by push_cast;omega] at hL6
   have Q6:=hid_ hL6
   clear Q5 P2 LO hS6 hE6 hM6 hf6 hL6
   go_wp2_with fail
   go_roundw
   case rel=>exact ⟨i+1,_,_,by omega,by go_num,Q6.out⟩
   case measure=>simp [intOf];omega
  ·obtain rfl:i=S.length+1:=by omega
   have hi1:¬ (((S.length+1:Nat):Int)≤(S.length:Int)):=by omega
   have hnz:js 0≠[]:=fun e=>by
    have:=Q.out.lay.rc 0
    rw [e] at this
    cases this
   have NZ:=hid_ hnz
   clear hnz
   go_wp2_with fail
   refine (memHead_any m _ _ _ _ Q.out.mm (by omega) (by omega) 0).mono ?_
   rintro e w2 ⟨a2,b2,c2,v2,rfl,hH,hE,hM2,hf2⟩
   obtain ⟨rfl,hp2⟩:=Q.out.headAt (p:=0) (by omega) rfl hH
   obtain rfl:=hE.zero13
   have Q2:=hid_ (Q.out.head hM2 hf2)
   have P2:=hid_ hp2
   clear Q hH hE hM2 hf2 hp2
   go_wp2_with fail
   obtain ⟨w3,hw3⟩:∃ z,z=w2.alloc (.cells #[.int .i64 a2,.int .i64 b2] 36):=⟨_,rfl⟩
   rw [← hw3]
   have Q3:=hid_ (Q2.out.keep (w':=w3) (by rw [hw3];exact (Fr.refl none_ w2).alloc _))
   have BH:Hid (Blk w3 w2.heap.size 36 #[.int .i64 a2,.int .i64 b2]):=hid_ (by rw [hw3];exact Blk.new w2 _ _)
   clear Q2 hw3
   refine (root13_ok S B d w3 (HS.out.keep Q3.out.f) hd).mono ?_
   rintro e w4 ⟨B4,d4,rfl,ho4,hf4⟩
   have Q4:=hid_ (Q3.out.keep hf4)
   have O4:Hid (RecOwn w4 w3.heap.size (rootR S) (.slice none 0 0) (.slice B4 (rootR S).ents.length d4)):=hid_ ⟨World.ownsRow_nil _ _ _ _,ho4⟩
   have BH4:=hid_ (BH.out.fr hf4 id)
   clear Q3 BH ho4 hf4
   go_wp2_with fail
   refine (memAlloc_any m _ _ _ _ Q4.out.mm (by omega) (by omega) (rootR S) none 0 B4 d4 (fun w' hf=>(O4.out.only hf Q4.out.mm.b (by decide) (by decide)).reads) ⟨Nat.zero_le _,by have:=rootE_len S S.length;show (rootE S S.length).length≤1000;omega⟩).mono ?_
   rintro e w5 ⟨sl,gn,kk,ss5,v5,rfl,hA5,hE5,hM5,hf5⟩
   obtain ⟨rfl,hL5,hLo⟩:=Q4.out.alloc (by omega) (by omega) hA5 hM5 hf5
   obtain rfl:=hE5.zero13
   have BH5:=hid_ (BH4.out.fr hf5 (Q4.out.mm.mall_ty BH4.out (by decide)))
   have Q5:=hid_ hL5
   have LO:=hid_ hLo
   clear Q4 O4 BH4 hA5 hE5 hM5 hf5 hL5 hLo
   go_upto_region 14 with fail
   obtain ⟨w6,hw6⟩:∃ z,z=w5.alloc (.cells #[.int .i64 sl,.int .i64 gn] 36):=⟨_,rfl⟩
   change Code.wp _ _ _ _ (w5.alloc (.cells #[.int .i64 sl,.int .i64 gn] 36))
   rw [← hw6]
   have f6:Fr none_ w5 w6:=by rw [hw6];exact (Fr.refl none_ w5).alloc _
   have Q6:=hid_ (Q5.out.keep f6)
   have BX:Hid (Blk w6 w5.heap.size 36 #[.int .i64 sl,.int .i64 gn]):=hid_ (by rw [hw6];exact Blk.new w5 _ _)
   have BH6:=hid_ (BH5.out.fr f6 id)
   clear Q5 BH5 hw6 f6
   have x0:=BX.out.cell' (i:=0) rfl
   have x1:=BX.out.cell' (i:=1) rfl
   have y0:=BH6.out.cell' (i:=0) rfl
   have y1:=BH6.out.cell' (i:=1) rfl
   go_wp2_with fail
   refine (memSwap_any m _ _ _ _ Q6.out.mm (by omega) (by omega) 0 a2 b2 sl gn).mono ?_
   rintro e w7 ⟨ok,kk,ps7,v7,rfl,hS7,hE7,hM7,hf7⟩
   obtain ⟨rfl,rfl,_,i',hL7⟩:=Q6.out.swap (d:=[]) (p:=0) LO.out (by omega) (.inl ⟨rfl,rfl,rfl⟩) P2.out (fun e=>absurd e.symm NZ.out) rfl hS7 hM7 hf7
   obtain rfl:=hE7.zero13
   have Q7:Hid (LdSt w m s _ (rootedR l S) (S.length+2) (S.length+3) (3 * (S.length:Int)+6) _ w7):=hid_ (by
    have e1:3 * ((S.length+1:Nat):Int)+1+1+1=3 * (S.length:Int)+6:=by push_cast;omega
    rw [e1] at hL7
    exact hL7)
   clear Q6 P2 LO BX BH6 x0 x1 y0 y1 hS7 hE7 hM7 hf7 hL7
   go_wp2_with fail
   go_ret2
   exact ⟨m,_,_,rfl,Q7.out⟩
open Go.RowKit Go.BigFrame

theorem LdSt.beside {W w w':World} {m s:Nat} {js:Nat→List Nat} {rs:Nat→List Rc} {M u:Nat} {k:Int} {x:St} (h:LdSt W m s js rs M u k x w) {g:Nat} {t:TypeId} {cs:Array Value} (hf:Fr (only g) w w') (hb:Blk w g t cs) (h1:t≠111∧t≠164∧t≠155∧t≠179) (h2:t≠161∧t≠168∧t≠25∧t≠132) (hg:W.heap.size≤g):LdSt W m s js rs M u k x w':=
  ⟨h.mm.beside hf hb h1 h2,h.lay,h.ps,h.al,h.f.then_only hf (.inr hg)⟩
def HeldPost (W:World) (m s:Nat) (l:List Rw) (S:List ByteArray) (i u:Nat) (k:Int) (e:Ending) (w':World):Prop:=
  ∃ hs hg rs rg x js,e=.returned (.tuple #[.agg #[.int .i64 hs,.int .i64 hg],.agg #[.int .i64 ((i:Int)+1),.int .i64 (i:Int),.string (leafLow S i)],.bool true])∧LdSt W m s js (heldR l S i rs rg) (S.length+2) (u+1) (k+3) x w'∧x.ps[0]?=some (true,hs,hg)
set_option maxHeartbeats 4000000 in
theorem held13_ok (l:List Rw) (S:List ByteArray) (B:Option Addr) (d:Nat) (i:Nat) {W w:World} {m s u:Nat} {k:Int} {js:Nat→List Nat} {x:St} (hS:TxReads w B S.length S) (hd:S.length≤12) (h1:1≤i) (h2:i≤S.length) (hL:LdSt W m s js (rootedR l S) (S.length+2) u k x w) (hu:u < s) (hu2:u < 999) (h0:0≤k) (hk:k≤90000) :
  Calls Tryz.prog 16 #[.pointer (some ⟨m,0,none⟩),.slice B S.length d,.int .i64 i] w (HeldPost W m s l S i u k):=by
 obtain ⟨j,rfl⟩:∃ j,i=j+1:=⟨i - 1,by omega⟩
 obtain ⟨b,off,rfl,hb,hc,hz⟩:=hS.at_ (sepAt_in (S:=S) (i:=j) (by omega))
 have HS:=hid_ hS
 have HWw:=hid_ hL.f.size
 have Q:=hid_ hL
 obtain ⟨w0,hw0⟩:∃ z,z=(w.alloc (.cells #[.int .i64 0,.int .i64 0] 36)).alloc (.cells #[.int .i64 0,.int .i64 0,.string ⟨#[]⟩] 38):=⟨_,rfl⟩
 have f0:Fr none_ w w0:=by rw [hw0];exact ((Fr.refl none_ w).alloc _).alloc _
 have BR:Hid (Blk w0 w.heap.size 36 #[.int .i64 0,.int .i64 0]):=hid_ (by rw [hw0];exact (Blk.new w _ _).alloc _)
 have BO:Hid (Blk w0 (w.heap.size+1) 38 #[.int .i64 0,.int .i64 0,.string ⟨#[]⟩]):=hid_ (by rw [hw0];exact Blk.new7 _ _ (by simp))
 have Q0:=hid_ (Q.out.keep f0)
 have hc0:=cellFr hc f0
 have hj0:(0:Int)≤(j:Int):=Int.natCast_nonneg _
 have hj1:(j:Int) < (S.length:Int):=by omega
 clear hS hL Q f0 hc
 go_enter Tryz.func16,Tryz.ntmps16
 go_upto_region 1 with fail
 change Code.wp _ _ _ _ ((w.alloc (.cells #[.int .i64 0,.int .i64 0] 36)).alloc (.cells #[.int .i64 0,.int .i64 0,.string ⟨#[]⟩] 38))
 rw [← hw0]
 have hsz:w.heap.size+1 < w0.heap.size:=BO.out.lt
 clear hw0
 go_upto_region 2 with fail
 obtain ⟨w1,hw1⟩:∃ z,z=w0.alloc (.cells #[.int .i64 ((j:Int)+1+1),.int .i64 ((j:Int)+1),.string (sepAt S j)] 38):=⟨_,rfl⟩
 change Code.wp _ _ _ _ (w0.alloc (.cells #[.int .i64 ((j:Int)+1+1),.int .i64 ((j:Int)+1),.string (sepAt S j)] 38))
 rw [← hw1]
 have f1:Fr none_ w0 w1:=by rw [hw1];exact (Fr.refl none_ w0).alloc _
 have BL:Hid (Blk w1 w0.heap.size 38 #[.int .i64 ((j:Int)+1+1),.int .i64 ((j:Int)+1),.string (sepAt S j)]):=hid_ (by rw [hw1];exact Blk.new w0 _ _)
 have BR1:=hid_ (BR.out.fr f1 id)
 have BO1:=hid_ (BO.out.fr f1 id)
 have Q1:=hid_ (Q0.out.keep f1)
 have hnz:js 0≠[]:=fun e=>by
  have:=Q1.out.lay.rc 0
  rw [e] at this
  cases this
 have NZ:=hid_ hnz
 clear hw1 f1 hnz BR BO Q0
 go_wp2_with fail
 refine (memHead_any m _ _ _ _ Q1.out.mm (by omega) (by omega) 0).mono ?_
 rintro e w2 ⟨a2,b2,c2,v2,rfl,hH,hE,hM2,hf2⟩
 obtain ⟨rfl,hp2⟩:=Q1.out.headAt (p:=0) (by omega) rfl hH
 obtain rfl:=hE.zero13
 have BR2:=hid_ (BR1.out.fr hf2 (Q1.out.mm.mall_ty BR1.out (by decide)))
 have BO2:=hid_ (BO1.out.fr hf2 (Q1.out.mm.mall_ty BO1.out (by decide)))
 have BL2:=hid_ (BL.out.fr hf2 (Q1.out.mm.mall_ty BL.out (by decide)))
 have Q2:=hid_ (Q1.out.head hM2 hf2)
 have P2:=hid_ hp2
 clear Q1 BR1 BO1 BL hH hE hM2 hf2 hp2
 go_upto_region 3 with fail
 obtain ⟨w3,hw3⟩:∃ z,z=w2.alloc (.cells #[.int .i64 a2,.int .i64 b2] 36):=⟨_,rfl⟩
 change Code.wp _ _ _ _ (w2.alloc (.cells #[.int .i64 a2,.int .i64 b2] 36))
 rw [← hw3]
 have f3:Fr none_ w2 w3:=by rw [hw3];exact (Fr.refl none_ w2).alloc _
 have BH:Hid (Blk w3 w2.heap.size 36 #[.int .i64 a2,.int .i64 b2]):=hid_ (by rw [hw3];exact Blk.new w2 _ _)
 have BR3:=hid_ (BR2.out.fr f3 id)
 have BO3:=hid_ (BO2.out.fr f3 id)
 have BL3:=hid_ (BL2.out.fr f3 id)
 have Q3:=hid_ (Q2.out.keep f3)
 clear hw3 f3 BR2 BO2 BL2 Q2
 have l0:=BL3.out.cell' (i:=0) rfl
 have l1:=BL3.out.cell' (i:=1) rfl
 have l2:=BL3.out.cell' (i:=2) rfl
 have h0':=BH.out.cell' (i:=0) rfl
 have h1':=BH.out.cell' (i:=1) rfl
 go_wp2_with fail
 refine (memAlloc_any m _ _ _ _ Q3.out.mm (by omega) (by omega) (hrec13 S (j+1) a2 b2) none 0 none 0 (fun w' hf=>⟨Reads.nil_,Reads.nil_⟩) ⟨Nat.zero_le _,Nat.zero_le _⟩).mono ?_
 rintro e w4 ⟨sl,gn,kk,ss4,v4,rfl,hA4,hE4,hM4,hf4⟩
 obtain ⟨rfl,hL4,hLo⟩:=Q3.out.alloc hu hu2 hA4 hM4 hf4
 obtain rfl:=hE4.zero13
 have BR4:=hid_ (BR3.out.fr hf4 (Q3.out.mm.mall_ty BR3.out (by decide)))
 have BO4:=hid_ (BO3.out.fr hf4 (Q3.out.mm.mall_ty BO3.out (by decide)))
 have BL4:=hid_ (BL3.out.fr hf4 (Q3.out.mm.mall_ty BL3.out (by decide)))
 have BH4:=hid_ (BH.out.fr hf4 (Q3.out.mm.mall_ty BH.out (by decide)))
 have Q4:=hid_ hL4
 have LO:=hid_ hLo
 clear Q3 BR3 BO3 BL3 BH hA4 hE4 hM4 hf4 hL4 hLo l0 l1 l2 h0' h1'
 go_upto_region 4 with fail
 obtain ⟨w5,hw5⟩:∃ z,z=w4.alloc (.cells #[.int .i64 sl,.int .i64 gn] 36):=⟨_,rfl⟩
 change Code.wp _ _ _ _ (w4.alloc (.cells #[.int .i64 sl,.int .i64 gn] 36))
 rw [← hw5]
 have f5:Fr none_ w4 w5:=by rw [hw5];exact (Fr.refl none_ w4).alloc _
 have BX:Hid (Blk w5 w4.heap.size 36 #[.int .i64 sl,.int .i64 gn]):=hid_ (by rw [hw5];exact Blk.new w4 _ _)
 have BR5:=hid_ (BR4.out.fr f5 id)
 have BO5:=hid_ (BO4.out.fr f5 id)
 have BL5:=hid_ (BL4.out.fr f5 id)
 have BH5:=hid_ (BH4.out.fr f5 id)
 have Q5:=hid_ (Q4.out.keep f5)
 clear hw5 f5 BR4 BO4 BL4 BH4 Q4
 have x0:=BX.out.cell' (i:=0) rfl
 have x1:=BX.out.cell' (i:=1) rfl
 have y0:=BH5.out.cell' (i:=0) rfl
 have y1:=BH5.out.cell' (i:=1) rfl
 go_wp2_with fail
 refine (memSwap_any m _ _ _ _ Q5.out.mm (by omega) (by omega) 0 a2 b2 sl gn).mono ?_
 rintro e w6 ⟨ok,kk,ps6,v6,rfl,hS6,hE6,hM6,hf6⟩
 obtain ⟨rfl,rfl,hp6,i',hL6⟩:=Q5.out.swap (d:=js 0) (p:=0) LO.out (by omega) (.inr rfl) P2.out (fun _=>⟨rfl,rfl⟩) rfl hS6 hM6 hf6
 obtain rfl:=hE6.zero13
 have BR6:=hid_ (BR5.out.fr hf6 (Q5.out.mm.mall_ty BR5.out (by decide)))
 have BO6:=hid_ (BO5.out.fr hf6 (Q5.out.mm.mall_ty BO5.out (by decide)))
 have BL6:=hid_ (BL5.out.fr hf6 (Q5.out.mm.mall_ty BL5.out (by decide)))
 have BX6:=hid_ (BX.out.fr hf6 (Q5.out.mm.mall_ty BX.out (by decide)))
 have Q6:Hid (LdSt W m s _ (heldR l S (j+1) a2 b2) (S.length+2) (u+1) (k+3) _ w6):=hid_ (by
  have e1:(js 0).map (recOf ss4)=[rootR S]:=Q5.out.lay.rc 0
  have e2:k+1+1+1=k+3:=by omega
  rw [e1,e2] at hL6
  have e3:(fun q=>if q=0 then [hrec13 S (j+1) a2 b2,rootR S] else rootedR l S q)=heldR l S (j+1) a2 b2:=by
   funext q
   unfold heldR rootedR
   by_cases e:q=0
   ·rw [if_pos e,if_pos e]
   ·rw [if_neg e,if_neg e,if_neg e]
  rw [e3] at hL6
  exact hL6)
 have P6:=hid_ hp6
 clear Q5 P2 LO NZ BR5 BO5 BL5 BX BH5 x0 x1 y0 y1 hS6 hE6 hM6 hf6 hL6 hp6
 have x0:=BX6.out.cell' (i:=0) rfl
 have x1:=BX6.out.cell' (i:=1) rfl
 have l0:=BL6.out.cell' (i:=0) rfl
 have l1:=BL6.out.cell' (i:=1) rfl
 have l2:=BL6.out.cell' (i:=2) rfl
 have r0:=BR6.out.cell' (i:=0) rfl
 have r1:=BR6.out.cell' (i:=1) rfl
 have r2:=BR6.out.frozen 0
 have r3:=BR6.out.frozen 1
 have o0:=BO6.out.cell' (i:=0) rfl
 have o1:=BO6.out.cell' (i:=1) rfl
 have o2:=BO6.out.cell' (i:=2) rfl
 have o3:=BO6.out.frozen 0
 have o4:=BO6.out.frozen 1
 have o5:=BO6.out.frozen 2
 have hd1:=BR6.out.lt
 have hd2:=BO6.out.lt
 have hd3:=BL6.out.lt
 have hd4:=BX6.out.lt
 go_wp2_with fail
 go_region
 go_wp2_with fail
 clear x0 x1 l0 l1 l2 r0 r1 r2 r3 o0 o1 o2 o3 o4 o5
 obtain ⟨q1,f7⟩:=box2 BR6.out (.int .i64 sl) (.int .i64 gn)
 have BO7:=BO6.out.fr f7 (only_ne (by omega))
 obtain ⟨q2,f8⟩:=box3 BO7 (.int .i64 ((j:Int)+1+1)) (.int .i64 ((j:Int)+1)) (.string (sepAt S j))
 have q1':=q1.fr f8 (only_ne (by omega))
 have Q8:=((Q6.out.beside f7 BR6.out (by decide) (by decide) HWw.out).beside f8 BO7 (by decide) (by decide) (Nat.le_succ_of_le HWw.out)).keep (Fr.refl none_ _).drew
 have c0:=q1'.drew.cell' (i:=0) rfl
 have c1:=q1'.drew.cell' (i:=1) rfl
 have c2:=q2.drew.cell' (i:=0) rfl
 have c3:=q2.drew.cell' (i:=1) rfl
 have c4:=q2.drew.cell' (i:=2) rfl
 refine bodyPost_ret (v:=.tuple #[.agg #[.int .i64 sl,.int .i64 gn],.agg #[.int .i64 ((j:Int)+1+1),.int .i64 ((j:Int)+1),.string (sepAt S j)],.bool true]) ?_ rfl ?_
 ·simp [results,Tryz.results16,go_sem,c0,c1,c2,c3,c4]
 ·exact ⟨sl,gn,a2,b2,{ { x with ss:=ss4 } with ps:=ps6 },_,rfl,Q8,P6.out⟩
end Go.Proofs.YthpkbppaaagaoaaGreat
