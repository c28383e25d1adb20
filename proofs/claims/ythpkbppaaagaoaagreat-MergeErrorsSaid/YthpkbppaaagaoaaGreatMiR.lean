/- Texts of one proof, merged: Dr13, Go13, Bg13, Sm10, Ak13, Ty13. -/
import Derived.BigRegion
import Derived.WalkSpells
import Derived.WalkLawsBesides
import Derived.Deep.QuietTactic
import Derived.BigQuiet
import Derived.Test.YthpkbppaaagaoaaGreatMhA
import Derived.Test.YthpkbppaaagaoaaGreatMhI
import Derived.Test.YthpkbppaaagaoaaGreatMhK
import Derived.Test.YthpkbppaaagaoaaGreatMhM
import Derived.Test.YthpkbppaaagaoaaGreatMhN
import Derived.Test.YthpkbppaaagaoaaGreatMhP
import Derived.Test.YthpkbppaaagaoaaGreatMhV
import Derived.Test.YthpkbppaaagaoaaGreatMhW
import Derived.Test.YthpkbppaaagaoaaGreatMhX
namespace Go.Proofs.YthpkbppaaagaoaaGreat
set_option maxRecDepth 100000
set_option linter.unusedVariables false
open Go.RowKit Go.BigFrame

open Go.RowKit Go.BigFrame

open Go.RowKit Go.BigFrame

section
variable {c:Cf} {Φ:Nat} {cur:List Rw} {W w w':World} {m:Nat} {k:Int} {lm:Lm} {x:St} {js:Nat→List Nat} {M b0 u:Nat} {L:List H1}
theorem Hps.keep (P:Hps c Φ cur W w m k lm x js M b0 u L) (hf:Fr none_ w w'):Hps c Φ cur W w' m k lm x js M b0 u L:=
  ⟨P.mm.keep hf,P.wd,P.k0,P.mb,Nat.le_trans P.bw hf.size,P.f.then_none hf,P.ls,P.rm,fun z hz=>⟨(P.hp z hz).1.keep hf,(P.hp z hz).2⟩,P.dj,P.dn⟩
theorem RunSt.keep {x0:St} {nI:Nat} {L':List H1} (R:RunSt c cur W m lm M b0 u L x0 nI Φ k x js L' w) (hf:Fr none_ w w'):RunSt c cur W m lm M b0 u L x0 nI Φ k x js L' w':=⟨R.hp.keep hf,R.hs,R.fl,R.ln⟩
def newH (c:Cf) (h g:Nat):Hm:=⟨0,c.hs,c.hg,(c.i:Int)+1,(c.i:Int),c.key,(c.i:Int),.pointer (some ⟨g,0,none⟩),.pointer none,goingF h,.nilFunc,Lw.zero,.slice none 0 0,0,0,false,false,.nilIface⟩
def newY (c:Cf) (h g:Nat):Hz:=⟨newH c h g,g,LdS.new ((c.i:Int)+1),0,0,⟨.nilFunc,.slice none 0 0,.slice none 0 0,.slice none 0 0,[],.slice none 0 0,.slice none 0 0,.nilIface⟩,0⟩
theorem Hps.begin_ (P:Hps c Φ cur W w m k lm x js M b0 u L) {e:Ending} (hb:BegPost13 0 c.hs c.hg ((c.i:Int)+1) (c.i:Int) c.key w e w'):∃ h y,e=.returned (hptr h)∧Hps c Φ cur W w' m k lm x js M b0 u (L ++ [⟨h,.going 0 [] 0 0,y⟩])∧Fr none_ w w':=by
  obtain ⟨h,g,rfl,hh,hB,hL,hne,hf⟩:=hb
  have P':=P.keep hf
  have hbw:=P.bw
  have hg:=hL.lb
  refine ⟨h,(newY c h g),rfl,⟨P'.mm,P'.wd,P'.k0,P'.mb,P'.bw,P'.f,P'.ls,?_,fun z hz=>?_,?_,?_⟩,hf⟩
  · have:cntL (L ++ [⟨h,.going 0 [] 0 0,(newY c h g)⟩])=cntL L:=by
      unfold cntL
      rw [List.map_append,List.sum_append]
      rfl
    rw [this]
    exact P'.rm
  · rcases List.mem_append.1 hz with hz | hz
    · exact P'.hp z hz
    · obtain rfl:=List.mem_singleton.1 hz
      exact ⟨⟨hB,⟨none,0,rfl,⟨World.ownsRow_nil _ _ _ _,⟨SzOk.nil,SzOk.nil,rws_nil⟩⟩⟩,Nat.le_trans hbw hh,⟨rfl,rfl,rfl,hL.base hbw,LdPh.new _ _ _ _ _⟩⟩,⟨rfl,rfl,rfl,rfl,rfl,rfl⟩,(show OnLd _ _ _ _ _ _ from ⟨fun _=>⟨rfl,rfl,rfl⟩,fun e=>absurd e (Nat.lt_irrefl 0)⟩)⟩
  · have key:∀ (j:Nat) (b:H1),L[j]?=some b→∀ q,(q=h∨q=g)→¬ hfoot b.h b.ph b.y q:=fun j b hj q hq e=>by
      have:=(P.hp b (List.mem_of_getElem? hj)).1.foot_lt e
      rcases hq with rfl | rfl <;> omega
    have hfn:∀ q,hfoot h (.going 0 [] 0 0) (newY c h g) q→q=h∨q=g:=fun q hq=>by
      rcases hq with e | e | e | e
      · exact .inl e
      · exact .inr e
      · cases e
      · cases e
    intro i j a b ha hb hij
    rcases Nat.lt_or_ge i L.length with hi | hi
    · rw [List.getElem?_append_left hi] at ha
      rcases Nat.lt_or_ge j L.length with hj | hj
      · rw [List.getElem?_append_left hj] at hb
        exact P.dj i j a b ha hb hij
      · rw [List.getElem?_append_right hj] at hb
        obtain rfl:=List.mem_singleton.1 (List.mem_of_getElem? hb)
        exact ⟨fun q h1 h2=>key i a ha q (hfn q h2) h1,fun _=>.inr rfl⟩
    · rw [List.getElem?_append_right hi] at ha
      obtain rfl:=List.mem_singleton.1 (List.mem_of_getElem? ha)
      rcases Nat.lt_or_ge j L.length with hj | hj
      · rw [List.getElem?_append_left hj] at hb
        exact ⟨fun q h1 h2=>key j b hb q (hfn q h1) h2,fun _=>.inl rfl⟩
      · rw [List.getElem?_append_right hj] at hb
        have h1:=(List.getElem?_eq_some_iff.1 ha).1
        have h2:=(List.getElem?_eq_some_iff.1 hb).1
        simp at h1 h2
        omega
  · have:doneL (L ++ [⟨h,.going 0 [] 0 0,(newY c h g)⟩])=doneL L:=by
      unfold doneL
      rw [List.countP_append]
      rfl
    rw [this]
    exact P'.dn
theorem Hlp.done_ {b0 h:Nat} {d:Bool} {y:Hz} {ss:List Sl} (H:Hlp ss b0 w h (.over d) y):Calls Tryz.prog 24 #[.pointer (some ⟨h,0,none⟩)] w fun e w'=>e=.returned (.tuple #[.bool d,.nilIface])∧Fr none_ w w':=by
  obtain ⟨h1,h2,h3⟩:=H.sub
  refine (mdone_ok H.b h1 (.inl h3)).mono ?_
  rintro e w' ⟨rfl,hf⟩
  exact ⟨by rw [h2,h3],hf⟩
theorem Hlp.overB {b0 h:Nat} {ph:Ps} {y:Hz} {ss:List Sl} (H:Hlp ss b0 w h ph y):y.H.over=ph.isOver:=by
  have hs:=H.sub
  cases ph with
  | going p d s g=>exact hs.1
  | taking p d s g=>exact hs.1
  | job t page os og R st=>exact hs.1
  | over d=>exact hs.1
theorem Hlp.over_ {b0 h:Nat} {ph:Ps} {y:Hz} {ss:List Sl} (H:Hlp ss b0 w h ph y):Calls Tryz.prog 28 #[.pointer (some ⟨h,0,none⟩)] w fun e w'=>e=.returned (.bool ph.isOver)∧w=w':=by
  rw [← H.overB]
  exact mover_ok H.b
end
section
variable {l:List Rw} {S:List ByteArray} {i s:Nat} {hs hg rs rg:Int} {sp:Int→Prop} {W w:World} {m u nI:Nat} {k:Int} {x x0:St} {js:Nat→List Nat}
theorem start0 (hl:RightR l) (hn:l.length≤60) (hS:SepsOk S) (hd:S.length≤12) (h1:1≤i) (h2:i≤S.length) (hs2:20≤s) (hL:LdSt W m s js (heldR l S i rs rg) (S.length+2) u k x w) (hh:x.ps[0]?=some (true,hs,hg)) (hk:(u:Int)≤k) :
    Hps (cf13 s l S i hs hg rs rg sp) 0 (lfR13 l S (i - 1)).rows W w m k (lim13 s) x js (S.length+1) w.heap.size u []:=by
  refine ⟨hL.mm,wd0 hl hn hS hd h1 h2 hL.lay hh,by omega,fun b hb=>⟨hL.al b hb,hL.mm.mall_lt b hb⟩,Nat.le_refl _,hL.f,⟨hs2,rfl⟩,?_,(fun z hz=>by cases hz),(fun i j a b ha=>by simp at ha),rfl⟩
  have:=hL.lay.rm.mono (show (u:Int)≤k+1 by omega)
  exact this
theorem start_len (hl:Lay x js (heldR l S i rs rg) (S.length+2) s u (u:Int)) (h1:1≤i) (h2:i≤S.length):(js i).length=1∧(js (i+1)).length=1:=by
  refine ⟨?_,?_⟩
  · have:=congrArg List.length (hl.rc i)
    rw [List.length_map,heldR_leaf h1 (by omega)] at this
    exact this
  · have:=congrArg List.length (hl.rc (i+1))
    rw [List.length_map,heldR_leaf (by omega) (by omega)] at this
    exact this
theorem runOk (hl:RightR l) (hn:l.length≤60) (hS:SepsOk S) (h1:1≤i) (h2:i≤S.length) {L:List H1} (hu:u+3+L.length < s) (hI:nI≤18):RunOk (cf13 s l S i hs hg rs rg sp) (lim13 s) u L nI:=
  ⟨cf13_ok hl hn hS h1 h2,hu,rfl,hI,Nat.le_refl 2⟩
theorem start_mu {c:Cf} (e1:(js c.i).length=1) (e2:(js (c.i+1)).length=1):mu c 0 x js (.going 0 [] 0 0)=10∧Fresh c 0 x js (.going 0 [] 0 0):=by
  refine ⟨?_,.inl rfl,by omega⟩
  show muG c 0 js 0 []=10
  rw [muG0]
  unfold g0 t0
  rw [e1,e2]
  rfl
section
variable {L L':List H1} {cur:List Rw} {M b0:Nat}
theorem end_bel (hl:RightR l) (hS:SepsOk S) (h1:1≤i) (h2:i≤S.length) (P:Hps (cf13 s l S i hs hg rs rg fun _=>False) 3 cur W w m k (lim13 s) x js M b0 u L) (hM:S.length+1≤M):Bel x js nilS 1 S.length (allR l S i cur):=by
  refine bel_done hl hS h1 h2 P.wd hM ?_
  have:=P.wd.p1
  rw [if_neg (by omega)] at this
  rcases this with e | ⟨q,hq,_⟩
  · exact e
  · exact hq.2.elim
end
end
open Go.RowKit Go.BigFrame
set_option maxHeartbeats 2000000 in
theorem sameRows_ok (L:List Rw) (A A2:Option Addr) (c c2:Nat) (w:World) (h:Reads w 2 A L.length (rwFlat L)) (h2:Reads w 2 A2 L.length (rwFlat L)) (hl:L.length≤300000) :
    Calls Tryz.prog 25 #[.slice A L.length c,.slice A2 L.length c2] w fun e w'=>e=.returned (.bool true)∧Fr none_ w w':=by
  have H:=hid_ (And.intro h h2)
  clear h h2
  go_enter Tryz.func25,Tryz.ntmps25
  go_wp2_with fail
  go_loopw [5] (fun i wr=>∃ k:Nat,k≤L.length∧i=.int .i64 k∧Fr none_ w wr) (fun i _=>L.length - (intOf i).toNat)
  case atStart=>exact ⟨0,Nat.zero_le _,rfl,Fr.refl _ _⟩
  case round =>
    obtain ⟨k,hk,rfl,hF⟩:=hrel
    have F:=hid_ hF
    have R1:=hid_ (H.out.1.none_fr hF)
    have R2:=hid_ (H.out.2.none_fr hF)
    clear hF
    have hi0:(0:Int)≤(k:Int):=Int.natCast_nonneg _
    by_cases hlt:k < L.length
    · obtain ⟨p,hp⟩:∃ p,L[k]?=some p:=⟨_,List.getElem?_eq_getElem hlt⟩
      obtain ⟨b1,o1,rfl,hb1,d0,d1⟩:=rw_at R1.out hp
      obtain ⟨b2,o2,rfl,hb2,e0,e1⟩:=rw_at R2.out hp
      have hi1:(k:Int) < (L.length:Int):=by omega
      clear hp
      go_wp2_with fail
      go_quiet (fail)
      have FQ:=hid_ (F.out.drewN nq)
      clear d0 d1 e0 e1
      go_wp2
      go_roundw
      case rel=>exact ⟨k+1,by omega,by go_num,FQ.out⟩
      case measure=>simp [intOf];omega
    · obtain rfl:k=L.length:=by omega
      go_wp2
      go_ret
      exact ⟨rfl,F.out⟩
open Go.RowKit Go.BigFrame

theorem mu_pos {c:Cf} {Φ:Nat} {x:St} {js:Nat→List Nat} {ph:Ps} (h:ph.isOver=false):1≤mu c Φ x js ph:=by
  have h3:=d3_le Φ
  have ht:1≤t0 c Φ js:=by unfold t0;omega
  cases ph with
  | going p d s0 g0' =>
    show 1≤muG c Φ js p d
    unfold muG g0
    split
    · omega
    · split <;> omega
  | taking p d s0 g0' =>
    show 1≤muT c Φ js p d
    unfold muT
    split
    · omega
    · split <;> omega
  | job t page os og R st =>
    show 1≤muJ c Φ x js os og st t
    have hj:∀ {f:Prop} [Decidable f] {A B:Nat},1≤jl f A B st:=fun {f _ A B}=>by
      cases st with
      | head=>rw [jl_head];split <;> omega
      | swap s g=>rw [jl_swap];split <;> omega
      | free s g=>rw [jl_free];omega
    match t with
    | 0=>exact hj
    | 1=>exact hj
    | t+2=>exact hj
  | over d=>cases h
section
variable {c:Cf} {Φ:Nat} {cur:List Rw} {W w:World} {m:Nat} {k:Int} {lm:Lm} {x:St} {js:Nat→List Nat} {M b0 u:Nat} {L:List H1}
theorem Hps.over3 (P:Hps c Φ cur W w m k lm x js M b0 u L) {z:H1} (hz:z ∈ L) (ho:z.ph.isOver=true):Φ=3:=by
  obtain ⟨d,hd⟩:=over_ex ho
  obtain ⟨_,_,hI⟩:=P.hp z hz
  rw [hd] at hI
  exact hI.1
theorem Hps.one_done {z:H1} (P:Hps c Φ cur W w m k lm x js M b0 u [z]) (ho:z.ph.isOver=true):Φ=3∧z.ph=.over true:=by
  have h3:=P.over3 (List.mem_singleton.2 rfl) ho
  refine ⟨h3,?_⟩
  obtain ⟨d,hd⟩:=over_ex ho
  have:=P.dn
  rw [if_pos h3] at this
  unfold doneL at this
  cases d with
  | true=>exact hd
  | false =>
    rw [List.countP_cons,hd] at this
    simp at this
structure Run1 (c:Cf) (cur:List Rw) (W:World) (m:Nat) (lm:Lm) (M b0 u:Nat) (h:Nat) (x0:St) (nI:Nat) (n:Nat) (Φ:Nat) (k:Int) (x:St) (js:Nat→List Nat) (z:H1) (w:World):Prop where
  r:RunSt c cur W m lm M b0 u [⟨h,.over true,newY c 0 0⟩] x0 nI Φ k x js [z] w
  hh:z.h=h
  mu:mu c Φ x js z.ph=n
  fr:Fresh c Φ x js z.ph
theorem Run1.over_iff {h nI n:Nat} {x0:St} {z:H1} (R:Run1 c cur W m lm M b0 u h x0 nI n Φ k x js z w):z.ph.isOver=decide (n=0):=by
  cases ho:z.ph.isOver with
  | true =>
    obtain ⟨d,hd⟩:=over_ex ho
    have:=R.mu
    rw [hd] at this
    have h0:0=n:=this
    exact (decide_eq_true h0.symm).symm
  | false =>
    have:=mu_pos (c:=c) (Φ:=Φ) (x:=x) (js:=js) ho
    rw [R.mu] at this
    exact (decide_eq_false (by omega)).symm
theorem run1_step {h nI n:Nat} {x0:St} {z:H1} (O:RunOk c lm u [⟨h,.over true,newY c 0 0⟩] nI) (R:Run1 c cur W m lm M b0 u h x0 nI (n+1) Φ k x js z w) (hk:k≤990) :
    Calls Tryz.prog 18 #[.pointer (some ⟨h,0,none⟩),.pointer (some ⟨m,0,none⟩)] w fun e w'=>∃ Φ' x' js' z',e=.returned (.bool (decide (n=0)))∧Run1 c cur W m lm M b0 u h x0 nI n Φ' (k+1) x' js' z' w':=by
  have ho:=R.over_iff
  rw [decide_eq_false (by omega)] at ho
  have:=run_step O R.r (i:=0) (z:=z) rfl ho hk
  rw [R.hh] at this
  refine this.mono ?_
  rintro e w' ⟨Φ',x',js',z',rfl,R',_,_,hh,_,hm⟩
  obtain ⟨m1,m2⟩:=hm R.fr
  have R1:Run1 c cur W m lm M b0 u h x0 nI n Φ' (k+1) x' js' z' w':=⟨R',hh,by have:=R.mu;omega,m2⟩
  exact ⟨Φ',x',js',z',by rw [R1.over_iff],R1⟩
theorem Run1.keep {w':World} {h nI n:Nat} {x0:St} {z:H1} (R:Run1 c cur W m lm M b0 u h x0 nI n Φ k x js z w) (hf:Fr none_ w w'):Run1 c cur W m lm M b0 u h x0 nI n Φ k x js z w':=⟨R.r.keep hf,R.hh,R.mu,R.fr⟩
theorem Run1.z_ {h nI n:Nat} {x0:St} {z:H1} (R:Run1 c cur W m lm M b0 u h x0 nI n Φ k x js z w):Hlp x.ss b0 w h z.ph z.y:=by
  have:=(R.r.hp.hp z (List.mem_singleton.2 rfl)).1
  rw [R.hh] at this
  exact this
theorem run1_over {h nI n:Nat} {x0:St} {z:H1} (R:Run1 c cur W m lm M b0 u h x0 nI n Φ k x js z w):Calls Tryz.prog 28 #[.pointer (some ⟨h,0,none⟩)] w fun e w'=>e=.returned (.bool (decide (n=0)))∧w=w':=by
  rw [← R.over_iff]
  exact R.z_.over_
theorem Run1.end_ {h nI:Nat} {x0:St} {z:H1} (R:Run1 c cur W m lm M b0 u h x0 nI 0 Φ k x js z w):Φ=3∧z.ph=.over true:=R.r.hp.one_done R.over_iff
theorem run1_done {h nI:Nat} {x0:St} {z:H1} (R:Run1 c cur W m lm M b0 u h x0 nI 0 Φ k x js z w):Calls Tryz.prog 24 #[.pointer (some ⟨h,0,none⟩)] w fun e w'=>e=.returned (.tuple #[.bool true,.nilIface])∧Fr none_ w w':=by
  have hz:=R.z_
  rw [R.end_.2] at hz
  exact hz.done_
end
section
variable {c:Cf} {Φ:Nat} {cur:List Rw} {W w:World} {m:Nat} {k:Int} {lm:Lm} {x:St} {js:Nat→List Nat} {M b0 u:Nat}
end
def lA13:List Rw:=[(⟨#[97]⟩,nilS),(⟨#[98]⟩,nilS),(⟨#[99]⟩,nilS)]
def sA13:List ByteArray:=[⟨#[99]⟩]
theorem lA_right:RightR lA13:=by
  refine ⟨fun p hp=>?_,fun i p q hp hq=>?_⟩
  · simp only [lA13,List.mem_cons,List.not_mem_nil,or_false] at hp
    rcases hp with rfl | rfl | rfl <;> decide
  · match i,hp,hq with
    | 0,hp,hq =>
      obtain rfl:(⟨#[97]⟩,nilS)=p:=Option.some.inj hp
      obtain rfl:(⟨#[98]⟩,nilS)=q:=Option.some.inj hq
      decide
    | 1,hp,hq =>
      obtain rfl:(⟨#[98]⟩,nilS)=p:=Option.some.inj hp
      obtain rfl:(⟨#[99]⟩,nilS)=q:=Option.some.inj hq
      decide
    | 2,hp,hq=>cases hq
    | i+3,hp,hq=>cases hp
theorem sA_ok:SepsOk sA13:=by
  refine ⟨fun x hx=>?_,fun j x y hx hy=>?_⟩
  · obtain rfl:=List.mem_singleton.1 hx
    decide
  · cases j with
    | zero=>cases hy
    | succ j=>cases hx
theorem reads_blk {w:World} {b:Nat} {t:TypeId} {xs:List Value} (hb:Blk w b t xs.toArray) {size n:Nat} (h:xs.length=n * size):Reads w size (some ⟨b,0,none⟩) n xs:=
  ⟨h,fun _=>⟨_,rfl,fun j u hu=>by
    rw [add_lit,Nat.zero_add]
    exact hb.cell' (by simpa using hu)⟩⟩
theorem tx_one {w:World} {b:Nat} {x:ByteArray} (hb:Blk w b 9 #[.string x]) (hz:SzOk x):TxReads w (some ⟨b,0,none⟩) 1 [x]:=
  ⟨rfl,fun _=>⟨b,0,rfl,hb.lt,fun k y hk=>by
    cases k with
    | zero =>
      obtain rfl:x=y:=by simpa using hk
      exact ⟨hb.cell' rfl,hz⟩
    | succ k=>simp at hk⟩⟩
set_option maxHeartbeats 4000000 in
theorem awake13_ok (w:World):Calls Tryz.prog 13 #[] w fun e w'=>e=.returned (.bool true)∧Fr none_ w w':=by
 go_enter Tryz.func13,Tryz.ntmps13
 go_wp2_with fail
 obtain ⟨w1,hw1⟩:∃ z,z=(w.alloc (.cells #[.string ⟨#[97]⟩,.string ⟨#[]⟩,.string ⟨#[98]⟩,.string ⟨#[]⟩,.string ⟨#[99]⟩,.string ⟨#[]⟩] 25)).alloc (.cells #[.string ⟨#[99]⟩] 9):=⟨_,rfl⟩
 rw [← hw1]
 have f1:Fr none_ w w1:=by rw [hw1];exact ((Fr.refl none_ w).alloc _).alloc _
 have HR:Hid (Reads w1 2 (some ⟨w.heap.size,0,none⟩) 3 (rwFlat lA13)):=hid_ (by rw [hw1];exact (reads_blk (Blk.new w _ _) (n:=3) (size:=2) rfl:Reads _ 2 (some ⟨w.heap.size,0,none⟩) 3 [.string ⟨#[97]⟩,.string ⟨#[]⟩,.string ⟨#[98]⟩,.string ⟨#[]⟩,.string ⟨#[99]⟩,.string ⟨#[]⟩]).alloc _)
 have HT:Hid (TxReads w1 (some ⟨w.heap.size+1,0,none⟩) 1 sA13):=hid_ (tx_one (by rw [hw1];exact Blk.new7 _ _ (by simp)) (kOk_sz (by decide)))
 have F1:=hid_ f1
 clear hw1 f1
 refine (laid13_ok lA13 (some ⟨w.heap.size,0,none⟩) (some ⟨w.heap.size+1,0,none⟩) 3 1 sA13 20 w1 HR.out (lA_right.rows (by decide)) (by decide) HT.out (by decide) (.inl rfl) (by decide)).mono ?_
 rintro e w2 ⟨m,x,js,rfl,hL⟩
 have Q:=hid_ hL
 clear HT hL
 go_wp2_with fail
 obtain ⟨w3,hw3⟩:∃ z,z=w2.alloc (.cells #[.string ⟨#[99]⟩] 9):=⟨_,rfl⟩
 rw [← hw3]
 have f3:Fr none_ w2 w3:=by rw [hw3];exact (Fr.refl none_ w2).alloc _
 have HT:Hid (TxReads w3 (some ⟨w2.heap.size,0,none⟩) 1 sA13):=hid_ (tx_one (by rw [hw3];exact Blk.new w2 _ _) (kOk_sz (by decide)))
 have Q3:=hid_ (Q.out.keep f3)
 clear hw3 f3 Q
 refine (held13_ok lA13 sA13 (some ⟨w2.heap.size,0,none⟩) 1 1 HT.out (by decide) (by decide) (by decide) Q3.out (by decide) (by decide) (by decide) (by decide)).mono ?_
 rintro e w4 ⟨hs,hg,rs,rg,x4,js4,rfl,hL4,hp4⟩
 have P0:=hid_ (start0 (sp:=fun _=>False) lA_right (by decide) sA_ok (by decide) (by decide) (by decide) (by decide) hL4 hp4 (by decide))
 have LN:=hid_ (start_len hL4.lay (by decide) (by decide))
 clear HT Q3 hL4 hp4
 go_upto_region 6 with fail
 obtain ⟨w5,hw5⟩:∃ z,z=(w4.alloc (.cells #[.int .i64 hs,.int .i64 hg] 36)).alloc (.cells #[.int .i64 2,.int .i64 1,.string (leafLow sA13 1)] 38):=⟨_,rfl⟩
 change Code.wp _ _ _ _ ((w4.alloc (.cells #[.int .i64 hs,.int .i64 hg] 36)).alloc (.cells #[.int .i64 2,.int .i64 1,.string (leafLow sA13 1)] 38))
 rw [← hw5]
 have f5:Fr none_ w4 w5:=by rw [hw5];exact ((Fr.refl none_ w4).alloc _).alloc _
 have B1:Blk w5 w4.heap.size 36 #[.int .i64 hs,.int .i64 hg]:=by rw [hw5];exact (Blk.new w4 _ _).alloc _
 have B2:Blk w5 (w4.heap.size+1) 38 #[.int .i64 2,.int .i64 1,.string (leafLow sA13 1)]:=by rw [hw5];exact Blk.new7 _ _ (by simp)
 have a0:=B1.cell' (i:=0) rfl
 have a1:=B1.cell' (i:=1) rfl
 have b0:=B2.cell' (i:=0) rfl
 have b1:=B2.cell' (i:=1) rfl
 have b2:=B2.cell' (i:=2) rfl
 have P5:=hid_ (P0.out.keep f5)
 clear hw5 f5 B1 B2 P0
 go_wp2_with fail
 refine (mbegin_ok 0 hs hg 2 1 (leafLow sA13 1) w5).mono ?_
 intro e w6 hbeg
 obtain ⟨h,y,rfl,hP6,hf6⟩:=P5.out.begin_ (c:=cf13 20 lA13 sA13 1 hs hg rs rg fun _=>False) hbeg
 have O:Hid (RunOk (cf13 20 lA13 sA13 1 hs hg rs rg fun _=>False) (lim13 20) 5 [⟨h,.over true,newY (cf13 20 lA13 sA13 1 hs hg rs rg fun _=>False) 0 0⟩] 2):=hid_ (runOk lA_right (by decide) sA_ok (by decide) (by decide) (show 5+3+1 < 20 by decide) (by decide))
 have R0:Hid (Run1 (cf13 20 lA13 sA13 1 hs hg rs rg fun _=>False) (lfR13 lA13 sA13 0).rows w1 m (lim13 20) 2 w4.heap.size 5 h x4 2 10 0 12 x4 js4 ⟨h,.going 0 [] 0 0,y⟩ w6):=hid_ (by
  obtain ⟨l1,l2⟩:=LN.out
  obtain ⟨m1,m2⟩:=start_mu (c:=cf13 20 lA13 sA13 1 hs hg rs rg fun _=>False) (x:=x4) (js:=js4) l1 l2
  refine ⟨⟨hP6,rfl,rfl,?_⟩,rfl,m1,m2⟩
  show (js4 1).length+_≤2
  rw [l1]
  decide)
 clear hbeg hP6 hf6 P5 LN a0 a1 b0 b1 b2
 go_wp2_with fail
 obtain ⟨c0,hc0⟩:∃ c,c=cf13 20 lA13 sA13 1 hs hg rs rg fun _=>False:=⟨_,rfl⟩
 rw [← hc0] at R0 O
 have C0:=hid_ hc0
 clear hc0
 go_loopw [37] (fun v wr=>∃ (j:Nat) (Φ:Nat) (x:St) (js:Nat→List Nat) (z:H1),j≤9∧v=.int .i64 j∧Run1 c0 (lfR13 lA13 sA13 0).rows w1 m (lim13 20) 2 w4.heap.size 5 h x4 2 (10 - j) Φ (12+j) x js z wr) (fun v _=>9 - (intOf v).toNat)
 case atStart=>exact ⟨0,0,x4,js4,_,by omega,rfl,R0.out⟩
 case round =>
  obtain ⟨j,Φ,x5,js5,z,hj,rfl,hR⟩:=hrel
  have R:=hid_ hR
  clear hR R0
  have hj0:(0:Int)≤(j:Int):=Int.natCast_nonneg _
  by_cases hlt:j < 9
  ·have hj1:(j:Int) < 9:=by omega
   have hst:=hid_ (by
    have hR:=R.out
    rw [show 10 - j=(9 - j)+1 by omega] at hR
    exact run1_step O.out hR (by omega))
   go_wp2_with fail
   refine hst.out.mono ?_
   rintro e w7 ⟨Φ',x',js',z',rfl,hR'⟩
   have R':=hid_ hR'
   clear hst hR' R
   go_wp2_with fail
   go_roundw
   case rel=>exact ⟨j+1,Φ',x',js',z',by omega,by go_num,by
    have:=R'.out
    rw [show 9 - j=10 - (j+1) by omega,show 12+(j:Int)+1=12+((j+1:Nat):Int) by push_cast;omega] at this
    exact this⟩
   case measure=>simp [intOf];omega
  ·obtain rfl:j=9:=by omega
   have hj1:¬ (((9:Nat):Int) < 9):=by omega
   go_wp2_with fail
   refine (run1_over R.out).mono ?_
   rintro e w7 ⟨rfl,rfl⟩
   go_wp2_with fail
   refine (run1_step (n:=0) O.out R.out (by omega)).mono ?_
   rintro e w8 ⟨Φ',x',js',z',rfl,hR'⟩
   obtain ⟨rfl,hz⟩:=hR'.end_
   have hB:Bel x' js' nilS 1 1 lA13:=by
    have P:=hR'.r.hp
    rw [C0.out] at P
    have:=end_bel lA_right sA_ok (by decide) (by decide) P (by decide)
    rw [allR_l lA_right sA_ok (by decide) (by decide)] at this
    exact this
   have R8:=hid_ hR'
   have HB:=hid_ hB
   clear hR' hB R hz
   go_wp2_with fail
   refine (below13_ok w8 R8.out.r.hp.mm (by decide) (by decide) HB.out (by decide) (by decide)).mono ?_
   rintro e w9 ⟨A9,c9,rfl,ho9,hf9⟩
   have R9:=hid_ (R8.out.keep hf9)
   have H9:=hid_ (Reads.of_own ho9)
   clear R8 ho9 hf9
   go_wp2_with fail
   refine (run1_done R9.out).mono ?_
   rintro e w10 ⟨rfl,hf10⟩
   have R10:=hid_ (R9.out.keep hf10)
   have hsm:=hid_ (sameRows_ok lA13 A9 (some ⟨w.heap.size,0,none⟩) c9 3 w10 (H9.out.none_fr hf10) (HR.out.none_fr R10.out.r.hp.f) (by decide))
   clear R9 H9 hf10
   go_wp2_with fail
   refine hsm.out.mono ?_
   rintro e w11 ⟨rfl,hf11⟩
   have FF:=hid_ ((F1.out.then_none R10.out.r.hp.f).then_none hf11)
   clear hsm hf11
   go_wp2_with fail
   go_ret
   exact ⟨rfl,FF.out⟩
open Go.RowKit

def Bytes13 (w:World) (A:Option Addr) (n:Nat):Prop:=∀ k,k < n→∃ b off x,A=some ⟨b,off,none⟩∧b < w.heap.size∧w.cell? ⟨b,off+k,none⟩=some (.int .u8 x)∧0≤x∧x≤255
theorem Bytes13.keep {w w':World} {A:Option Addr} {n:Nat} (h:Bytes13 w A n) (hf:Fr none_ w w'):Bytes13 w' A n:=fun k hk=>by
  obtain ⟨b,off,x,hA,hb,hc,h0,h1⟩:=h k hk
  exact ⟨b,off,x,hA,by have:=hf.size;omega,cellFr hc hf,h0,h1⟩
end Go.Proofs.YthpkbppaaagaoaaGreat
