/- Texts of one proof, merged: Lw7. -/
import Derived.Test.YthpkbppaaagaoaaGreatMhA
import Derived.Test.YthpkbppaaagaoaaGreatMhC
namespace Go.Proofs.YthpkbppaaagaoaaGreat
open Go.RowKit Go.BigFrame
set_option maxRecDepth 100000
set_option linter.unusedVariables false

structure Lw where
  low:ByteArray
  high:ByteArray
  unb:Bool
  right:Int
  rows:List Rw
  gone:Bool
def Lw.zero:Lw:=⟨nilS,nilS,false,0,[],false⟩
abbrev lwA (V:Lw) (vr:Value):Array Value:=#[.string V.low,.string V.high,.bool V.unb,.int .i64 V.right,vr,.bool V.gone]
abbrev lwV (V:Lw) (vr:Value):Value:=.agg (lwA V vr)
structure Lw.Ok (V:Lw):Prop where
  low:SzOk V.low
  high:SzOk V.high
  rows:RwsOk V.rows
structure LwIn (b0:Nat) (w:World) (V:Lw) (A:Option Addr) (c:Nat):Prop where
  own:w.ownsRow b0 25 2 (.slice A V.rows.length c) V.rows.length (rwFlat V.rows)
  ok:V.Ok
theorem LwIn.keep {b0:Nat} {w w':World} {V:Lw} {A:Option Addr} {c:Nat} (h:LwIn b0 w V A c) (hf:Fr none_ w w'):LwIn b0 w' V A c:=⟨own_none h.own hf,h.ok⟩
theorem LwIn.rd {b0:Nat} {w:World} {V:Lw} {A:Option Addr} {c:Nat} (h:LwIn b0 w V A c):Reads w 2 A V.rows.length (rwFlat V.rows):=Reads.of_own h.own
theorem LwIn.caps {b0:Nat} {w:World} {V:Lw} {A:Option Addr} {c:Nat} (h:LwIn b0 w V A c):V.rows.length≤c∧c≤maxLen:=by
  obtain ⟨A',c',e,h1,h2,_⟩:=own_parts h.own
  have e1:c=c':=by injection e
  subst e1
  exact ⟨h1,h2⟩
open Classical in
noncomputable def upL (V:Lw) (R:Rc):Option Lw:=
  if V.gone=true then none
  else if R.kind=2 then
    if fitsR (R.key,R.val)=true∧inS V.low V.high V.unb R.key=true then some { V with rows:=putR V.rows (R.key,R.val) } else none
  else if R.kind=3 then
    if inS V.low V.high V.unb R.key=true then some { V with rows:=dropR V.rows R.key } else none
  else if R.kind=4 then
    if inS V.low V.high V.unb R.key=true∧ltS V.low R.key=true then some { V with rows:=V.rows.take (plR V.rows R.key),high:=R.key,unb:=false,right:=R.page } else none
  else if R.kind=6 then
    if (V.unb=false∧V.high=R.key∧SoundR R.key R.high R.unb R.rows∧(R.unb=true∨ltS R.key R.high=true))∧joinR V.rows R.rows=true then some { V with rows:=V.rows ++ R.rows,high:=R.high,unb:=R.unb,right:=R.right } else none
  else if R.kind=5 then some { V with gone:=true }
  else none
def MergeOk (V:Lw) (R:Rc):Prop:=V.gone=false∧V.unb=false∧V.high=R.key∧SoundR R.key R.high R.unb R.rows∧(R.unb=true∨ltS R.key R.high=true)
theorem upL_merge_yes {V:Lw} {R:Rc} (h6:R.kind=6) (h:MergeOk V R) (hj:joinR V.rows R.rows=true):upL V R=some { V with rows:=V.rows ++ R.rows,high:=R.high,unb:=R.unb,right:=R.right }:=by
  obtain ⟨h1,h2⟩:=h
  unfold upL
  rw [if_neg (by rw [h1];decide),if_neg (by omega),if_neg (by omega),if_neg (by omega),if_pos h6,if_pos ⟨h2,hj⟩]
theorem upL_merge_no {V:Lw} {R:Rc} (h6:R.kind=6) (h:¬ (MergeOk V R∧joinR V.rows R.rows=true)):upL V R=none:=by
  unfold upL
  cases hg:V.gone with
  | true=>rw [if_pos rfl]
  | false=>rw [if_neg (by decide),if_neg (by omega),if_neg (by omega),if_neg (by omega),if_pos h6,if_neg (fun x=>h ⟨⟨hg,x.1⟩,x.2⟩)]
def baseL (R:Rc):Lw:=⟨R.low,R.high,R.unb,R.right,R.rows,false⟩
open Classical in
noncomputable def foldL:List Rc→Option Lw
  | []=>none
  | [b]=>if b.kind=1∧SoundR b.low b.high b.unb b.rows then some (baseL b) else none
  | r :: s :: t=>(foldL (s :: t)).bind fun V=>upL V r
theorem foldL_cons (r:Rc) {l:List Rc} (h:l≠[]):foldL (r :: l)=(foldL l).bind fun V=>upL V r:=by
  cases l with
  | nil=>exact absurd rfl h
  | cons s t=>rfl
theorem foldL_none {l:List Rc} {j:Nat} (hj:j < l.length) (h:foldL (l.drop j)=none):∀ k,k≤j→foldL (l.drop k)=none:=by
  have step:∀ d k,k+d=j→foldL (l.drop k)=none:=by
    intro d
    induction d with
    | zero =>
      intro k e
      have e':k=j:=by omega
      rw [e']
      exact h
    | succ d ih =>
      intro k e
      have:=ih (k+1) (by omega)
      rw [List.drop_eq_getElem_cons (by omega:k < l.length),foldL_cons _ (by intro e;have:=congrArg List.length e;simp at this;omega),this]
      rfl
  intro k hk
  exact step (j - k) k (by omega)
theorem foldL_one (D:Rc) (h:D.kind=1) (hs:SoundR D.low D.high D.unb D.rows):foldL [D]=some (baseL D):=if_pos ⟨h,hs⟩
theorem foldL_one_no (D:Rc) (h:¬ (D.kind=1∧SoundR D.low D.high D.unb D.rows)):foldL [D]=none:=if_neg h
def KindL (R:Rc):Prop:=1≤R.kind∧R.kind≤6
theorem upL_len {V V':Lw} {R:Rc} (h:upL V R=some V'):V'.rows.length≤V.rows.length+R.rows.length+1:=by
  unfold upL at h
  split at h
  · cases h
  split at h
  · split at h
    · cases h;have:=putR_len V.rows (R.key,R.val);show (putR _ _).length≤_;omega
    · cases h
  split at h
  · split at h
    · cases h;have:=dropR_len V.rows R.key;show (dropR _ _).length≤_;omega
    · cases h
  split at h
  · split at h
    · cases h;show (List.take _ _).length≤_;simp;omega
    · cases h
  split at h
  · split at h
    · cases h;show (V.rows ++ R.rows).length≤_;simp
    · cases h
  split at h
  · cases h;show V.rows.length≤_;omega
  · cases h
theorem RwsOk.take {L:List Rw} (h:RwsOk L) (n:Nat):RwsOk (L.take n):=⟨by have:=h.1;simp;omega,fun p hp=>h.2 p (List.mem_of_mem_take hp)⟩
theorem RwsOk.put {L:List Rw} {r:Rw} (h:RwsOk L) (hl:L.length < 300000) (hr:SzOk r.1∧SzOk r.2):RwsOk (putR L r):=by
  refine ⟨by have:=putR_len L r;omega,fun p hp=>?_⟩
  simp only [putR,List.mem_append,List.mem_cons,List.not_mem_nil,or_false] at hp
  rcases hp with (hp | rfl) | hp
  · exact h.2 p (List.mem_of_mem_take hp)
  · exact hr
  · exact h.2 p (List.mem_of_mem_drop hp)
theorem RwsOk.drop_ {L:List Rw} (h:RwsOk L) (key:ByteArray):RwsOk (dropR L key):=by
  refine ⟨by have:=dropR_len L key;have:=h.1;omega,fun p hp=>?_⟩
  unfold dropR at hp
  split at hp
  · rcases List.mem_append.1 hp with hp | hp
    · exact h.2 p (List.mem_of_mem_take hp)
    · exact h.2 p (List.mem_of_mem_drop hp)
  · exact h.2 p hp
theorem RwsOk.app {L M:List Rw} (h:RwsOk L) (h':RwsOk M) (hl:L.length+M.length≤300000):RwsOk (L ++ M):=by
  refine ⟨by simp;omega,fun p hp=>?_⟩
  rcases List.mem_append.1 hp with hp | hp
  · exact h.2 p hp
  · exact h'.2 p hp
theorem frOnly7 {b o:Nat} {w w':World} (h:Fr (only b) w w') (u:Value):Fr (only b) w (w'.setCell ⟨b,o,none⟩ u):=Fr.setCell (p:=⟨b,o,none⟩) h (.inl rfl) u
theorem box6 {w1:World} {b:Nat} {t:TypeId} {c0 c1 c2 c3 c4 c5:Value} (h:Blk w1 b t #[c0,c1,c2,c3,c4,c5]) (x0 x1 x2 x3 x4 x5:Value) :
    Blk ((((((w1.setCell ⟨b,0,none⟩ x0).setCell ⟨b,1,none⟩ x1).setCell ⟨b,2,none⟩ x2).setCell ⟨b,3,none⟩ x3).setCell ⟨b,4,none⟩ x4).setCell ⟨b,5,none⟩ x5) b t #[x0,x1,x2,x3,x4,x5]∧Fr (only b) w1 ((((((w1.setCell ⟨b,0,none⟩ x0).setCell ⟨b,1,none⟩ x1).setCell ⟨b,2,none⟩ x2).setCell ⟨b,3,none⟩ x3).setCell ⟨b,4,none⟩ x4).setCell ⟨b,5,none⟩ x5):=by
  refine ⟨?_,((((((Fr.refl (only b) w1).setCell (p:=⟨b,0,none⟩) (.inl (Eq.refl _)) x0).setCell (p:=⟨b,1,none⟩) (.inl (Eq.refl _)) x1).setCell (p:=⟨b,2,none⟩) (.inl (Eq.refl _)) x2).setCell (p:=⟨b,3,none⟩) (.inl (Eq.refl _)) x3).setCell (p:=⟨b,4,none⟩) (.inl (Eq.refl _)) x4).setCell (p:=⟨b,5,none⟩) (.inl (Eq.refl _)) x5⟩
  have e:=((((((h.set_ 0 x0).set_ 1 x1).set_ 2 x2).set_ 3 x3).set_ 4 x4).set_ 5 x5)
  simp only [List.setIfInBounds_toArray,List.set_cons_zero,List.set_cons_succ] at e
  exact e
theorem hasL_ok (V:Lw) (vr:Value) (key:ByteArray) (w:World) (h1:SzOk V.low) (h2:SzOk V.high) (h3:SzOk key) :
    Calls Tryz.prog 131 #[lwV V vr,.string key] w fun e w'=>e=.returned (.bool (inS V.low V.high V.unb key))∧Fr none_ w w':=by
  have F0:=hid_ ((Fr.refl none_ w).alloc (.cells (lwA V vr) 101))
  have H:=hid_ (And.intro h1 (And.intro h2 h3))
  clear h1 h2 h3
  go_enter Tryz.func131,Tryz.ntmps131
  go_wp2_with fail
  refine (in_ok V.low V.high V.unb key _ H.out.1.le H.out.2.1.le H.out.2.2.le).mono ?_
  rintro e w1 ⟨rfl,q,rfl⟩
  go_wp2
  go_ret
  exact ⟨rfl,F0.out.drewN q⟩
def UpLPost (b0:Nat) (V:Lw) (R:Rc) (w:World) (e:Ending) (w':World):Prop:=
  (∃ V' A' c',upL V R=some V'∧e=.returned (.tuple #[lwV V' (.slice A' V'.rows.length c'),.bool true])∧LwIn b0 w' V' A' c'∧Fr none_ w w') ∨
  (upL V R=none∧∃ V' A' n c',e=.returned (.tuple #[lwV V' (.slice A' n c'),.bool false])∧Fr none_ w w')
abbrev lwZ:Array Value:=#[.string ⟨#[]⟩,.string ⟨#[]⟩,.bool false,.int .i64 0,.slice none 0 0,.bool false]
structure UlSt (w w':World) (V:Lw) (R:Rc) (sl vr ve:Value):Prop where
  bv:Blk w' w.heap.size 101 (lwA V sl)
  br:Blk w' (w.heap.size+1) 51 (recA R vr ve)
  bo:Blk w' (w.heap.size+1+1) 101 lwZ
  fr:Fr none_ w w'
theorem UlSt.keep {w w1 w2:World} {V:Lw} {R:Rc} {sl vr ve:Value} (h:UlSt w w1 V R sl vr ve) (hf:Fr none_ w1 w2):UlSt w w2 V R sl vr ve:=
  ⟨h.bv.fr hf id,h.br.fr hf id,h.bo.fr hf id,h.fr.then_none hf⟩
abbrev ulW (V:Lw) (R:Rc) (sl vr ve:Value) (w:World):World:=((w.alloc (.cells (lwA V sl) 101)).alloc (.cells (recA R vr ve) 51)).alloc (.cells lwZ 101)
theorem ul_start (V:Lw) (R:Rc) (sl vr ve:Value) (w:World):UlSt w (ulW V R sl vr ve w) V R sl vr ve:=
  ⟨((Blk.new w _ _).alloc _).alloc _,(Blk.new7 _ _ (by simp)).alloc _,Blk.new7 _ _ (by simp),(((Fr.refl none_ w).alloc _).alloc _).alloc _⟩
theorem LwIn.far {b0:Nat} {w w':World} {V:Lw} {A:Option Addr} {c X:Nat} {t:TypeId} {cs:Array Value} (h:LwIn b0 w V A c) (hX:Blk w X t cs) (hne:25≠t) (hf:Fr (only X) w w'):LwIn b0 w' V A c:=
  ⟨own_fr h.own hf (fun k hk e=>own_blk_ne h.own hX hne (by rw [hk,show k=X from e])),h.ok⟩
theorem lwin_of_own {b0 b:Nat} {w:World} {n c:Nat} {A:Option Addr} {V:Lw} (h:w.ownsRow b 25 2 (.slice A n c) n (rwFlat V.rows)) (hb:b0≤b) (hn:V.rows.length=n) (ho:V.Ok):LwIn b0 w V A c:=by
  subst hn
  exact ⟨own_base h hb,ho⟩
set_option maxHeartbeats 8000000 in
theorem upl_put (b0:Nat) (V:Lw) (R:Rc) (A:Option Addr) (c:Nat) (B:Option Addr) (d:Nat) (ve:Value) (w:World) (h:LwIn b0 w V A c) (hb0:b0≤w.heap.size) (hl:V.rows.length < 300000) (hR:Reads w 2 B R.rows.length (rwFlat R.rows)) (hk:SzOk R.key∧SzOk R.high∧SzOk R.val∧RwsOk R.rows) (hkd:R.kind=2) :
  Calls Tryz.prog 119 #[lwV V (.slice A V.rows.length c),recV R (.slice B R.rows.length d) ve] w (UpLPost b0 V R w):=by
 obtain ⟨vr,hvr⟩:∃ vr,vr=Value.slice B R.rows.length d:=⟨_,rfl⟩
 rw [← hvr]
 have U:=hid_ (ul_start V R (.slice A V.rows.length c) vr ve w)
 obtain ⟨w0,hw0⟩:∃ w0,w0=ulW V R (.slice A V.rows.length c) vr ve w:=⟨_,rfl⟩
 rw [← hw0] at U
 have HK:=hid_ hk
 have HVR:=hid_ hvr
 have OK:=hid_ h.ok
 have H:=hid_ (h.keep U.out.fr)
 have HRR:=hid_ (hR.none_fr U.out.fr)
 have CAP:=hid_ h.caps
 clear h hk hR hvr
 have HUP:Hid (V.gone=true→upL V R=none):=hid_ (fun hg=>by unfold upL;rw [if_pos hg])
 have HP:Hid (V.gone=false→upL V R=if fitsR (R.key,R.val)=true∧inS V.low V.high V.unb R.key=true then some { V with rows:=putR V.rows (R.key,R.val) } else none):=hid_ (fun hg=>by unfold upL;rw [if_neg (by rw [hg];decide),if_pos hkd])
 go_enter Tryz.func119,Tryz.ntmps119
 go_upto_region 1 with fail
 change Code.wp _ _ _ _ (ulW V R (.slice A V.rows.length c) vr ve w)
 rw [← hw0]
 clear hw0
 have v4:w0.cell? ⟨w.heap.size,4,none⟩=some (.slice A V.rows.length c):=U.out.bv.cell' rfl
 have v5:w0.cell? ⟨w.heap.size,5,none⟩=some (.bool V.gone):=U.out.bv.cell' rfl
 have r0:w0.cell? ⟨w.heap.size+1,0,none⟩=some (.int .i64 R.kind):=U.out.br.cell' rfl
 have r7:w0.cell? ⟨w.heap.size+1,7,none⟩=some (.string R.key):=U.out.br.cell' rfl
 have r8:w0.cell? ⟨w.heap.size+1,8,none⟩=some (.string R.val):=U.out.br.cell' rfl
 rw [hkd] at r0
 go_wp2_with fail
 refine (putR_ok V.rows A c (R.key,R.val) w0 H.out.rd OK.out.rows CAP.out.1 CAP.out.2 ⟨HK.out.1,HK.out.2.2.1⟩).mono ?_
 rintro e w1 (⟨hfit,A',c',rfl,hown,hf⟩ | ⟨hfit,rfl,hf⟩)
 rotate_left
 ·have HF:=hid_ hfit
  clear v4 v5 r0 r7 r8
  replace U:=hid_ (U.out.keep hf)
  clear hf hfit
  have v4:w1.cell? ⟨w.heap.size,4,none⟩=some (.slice A V.rows.length c):=U.out.bv.cell' rfl
  have y4:=U.out.bv.frozen 4
  go_upto_region 10 with fail
  obtain ⟨w2,hw2⟩:∃ z,z=w1.setCell ⟨w.heap.size,4,none⟩ (.slice none 0 0):=⟨_,rfl⟩
  have f2:Fr (only w.heap.size) w1 w2:=by rw [hw2];exact Fr.only1 w1 ⟨w.heap.size,4,none⟩ _
  have BV:Hid (Blk w2 w.heap.size 101 (lwA V (.slice none 0 0))):=hid_ (by rw [hw2];exact U.out.bv.set_ 4 _)
  have BO:Hid (Blk w2 (w.heap.size+1+1) 101 lwZ):=hid_ (U.out.bo.fr f2 (only_ne (by omega)))
  have F2:Hid (Fr none_ w w2):=hid_ (U.out.fr.then_only f2 (.inr (Nat.le_refl _)))
  change Code.wp _ _ _ _ (w1.setCell ⟨w.heap.size,4,none⟩ (.slice none 0 0))
  rw [← hw2]
  clear hw2 f2 v4 y4 U
  have v0:w2.cell? ⟨w.heap.size,0,none⟩=some (.string V.low):=BV.out.cell' rfl
  have v1:w2.cell? ⟨w.heap.size,1,none⟩=some (.string V.high):=BV.out.cell' rfl
  have v2:w2.cell? ⟨w.heap.size,2,none⟩=some (.bool V.unb):=BV.out.cell' rfl
  have v3:w2.cell? ⟨w.heap.size,3,none⟩=some (.int .i64 V.right):=BV.out.cell' rfl
  have v4:w2.cell? ⟨w.heap.size,4,none⟩=some (.slice none 0 0):=BV.out.cell' rfl
  have v5:w2.cell? ⟨w.heap.size,5,none⟩=some (.bool V.gone):=BV.out.cell' rfl
  have s0:w2.cell? ⟨w.heap.size+1+1,0,none⟩=some (.string nilS):=BO.out.cell' rfl
  have z0:=BO.out.frozen 0
  have s1:w2.cell? ⟨w.heap.size+1+1,1,none⟩=some (.string nilS):=BO.out.cell' rfl
  have z1:=BO.out.frozen 1
  have s2:w2.cell? ⟨w.heap.size+1+1,2,none⟩=some (.bool false):=BO.out.cell' rfl
  have z2:=BO.out.frozen 2
  have s3:w2.cell? ⟨w.heap.size+1+1,3,none⟩=some (.int .i64 0):=BO.out.cell' rfl
  have z3:=BO.out.frozen 3
  have s4:w2.cell? ⟨w.heap.size+1+1,4,none⟩=some (.slice none 0 0):=BO.out.cell' rfl
  have z4:=BO.out.frozen 4
  have s5:w2.cell? ⟨w.heap.size+1+1,5,none⟩=some (.bool false):=BO.out.cell' rfl
  have z5:=BO.out.frozen 5
  go_wp2_with fail
  clear s0 z0 s1 z1 s2 z2 s3 z3 s4 z4 s5 z5 v0 v1 v2 v3 v4 v5
  obtain ⟨qb,qf⟩:=box6 BO.out (.string V.low) (.string V.high) (.bool V.unb) (.int .i64 V.right) (.slice none 0 0) (.bool V.gone)
  have q0:=qb.cell' (i:=0) rfl
  have q1:=qb.cell' (i:=1) rfl
  have q2:=qb.cell' (i:=2) rfl
  have q3:=qb.cell' (i:=3) rfl
  have q4:=qb.cell' (i:=4) rfl
  have q5:=qb.cell' (i:=5) rfl
  have hno:upL V R=none:=by
   cases hg:V.gone with
   | true=>exact HUP.out hg
   | false=>rw [HP.out hg,if_neg (by rw [HF.out];simp)]
  have hfr:=F2.out.then_only qf (.inr (by omega))
  refine bodyPost_ret (v:=.tuple #[.agg #[(.string V.low),(.string V.high),(.bool V.unb),(.int .i64 V.right),(.slice none 0 0),(.bool V.gone)],.bool false]) ?_ rfl (.inr ⟨hno,V,none,0,0,rfl,hfr⟩)
  simp [results,Tryz.results119,go_sem,q0,q1,q2,q3,q4,q5]
 ·have HF:=hid_ hfit
  obtain ⟨L',hL'⟩:∃ L',L'=putR V.rows (R.key,R.val):=⟨_,rfl⟩
  rw [← hL'] at hown ⊢
  have HOK:Hid (Lw.Ok { V with rows:=L' }):=hid_ ⟨OK.out.low,OK.out.high,by show RwsOk L';rw [hL'];exact OK.out.rows.put hl ⟨HK.out.1,HK.out.2.2.1⟩⟩
  have HP':Hid (V.gone=false→upL V R=if inS V.low V.high V.unb R.key=true then some { V with rows:=L' } else none):=hid_ (fun hg=>by rw [HP.out hg,hL'];simp [HF.out])
  have O:=hid_ (own_base hown (by have:=U.out.fr.size;omega:w.heap.size≤w0.heap.size))
  replace U:=hid_ (U.out.keep hf)
  clear hf hfit hown hL' v4 v5 r0 r7 r8 HP
  have v4:w1.cell? ⟨w.heap.size,4,none⟩=some (.slice A V.rows.length c):=U.out.bv.cell' rfl
  have y4:=U.out.bv.frozen 4
  go_upto_region 10 with fail
  obtain ⟨w2,hw2⟩:∃ z,z=w1.setCell ⟨w.heap.size,4,none⟩ (.slice A' L'.length c'):=⟨_,rfl⟩
  have f2:Fr (only w.heap.size) w1 w2:=by rw [hw2];exact Fr.only1 w1 ⟨w.heap.size,4,none⟩ _
  have U2:Hid (UlSt w w2 V R (.slice A' L'.length c') vr ve):=hid_ ⟨by rw [hw2];exact U.out.bv.set_ 4 _,U.out.br.fr f2 (only_ne (by omega)),U.out.bo.fr f2 (only_ne (by omega)),U.out.fr.then_only f2 (.inr (Nat.le_refl _))⟩
  have O2:=hid_ (own_fr O.out f2 (fun k hk e=>own_blk_ne O.out U.out.bv (by decide) (by rw [hk,show k=w.heap.size from e])))
  change Code.wp _ _ _ _ (w1.setCell ⟨w.heap.size,4,none⟩ (.slice A' L'.length c'))
  rw [← hw2]
  clear hw2 f2 v4 y4 U O
  go_upto_region 12 with fail
  have hS0:(fun w':World=>(Blk w' w.heap.size 101 (lwA V (.slice A' L'.length c'))∧Blk w' (w.heap.size+1) 51 (recA R vr ve))∧Fr none_ w w') w2.drew:=⟨⟨U2.out.bv.drew,U2.out.br.drew⟩,U2.out.fr.drew⟩
  refine wp_region_U (m:=10) (S:=fun w':World=>(Blk w' w.heap.size 101 (lwA V (.slice A' L'.length c'))∧Blk w' (w.heap.size+1) 51 (recA R vr ve))∧Fr none_ w w') (by kernel_rfl) ?_
  cases hg:V.gone with
  | true =>
   have HG:=hid_ hg
   clear hg
   refine wpAnyU_take2 (i:=0) (v:=_) rfl (by kernel_rfl) (by kernel_rfl) (by kernel_rfl) (by kernel_rfl) (fun _ _ _ h=>h) (.inl ⟨by kernel_rfl,fun w' hS=>by have v0:w'.cell? ⟨w.heap.size,0,none⟩=some (.string V.low):=hS.1.1.cell' rfl;have v1:w'.cell? ⟨w.heap.size,1,none⟩=some (.string V.high):=hS.1.1.cell' rfl;have v2:w'.cell? ⟨w.heap.size,2,none⟩=some (.bool V.unb):=hS.1.1.cell' rfl;have v3:w'.cell? ⟨w.heap.size,3,none⟩=some (.int .i64 V.right):=hS.1.1.cell' rfl;have v4:w'.cell? ⟨w.heap.size,4,none⟩=some (.slice A' L'.length c'):=hS.1.1.cell' rfl;have v5:w'.cell? ⟨w.heap.size,5,none⟩=some (.bool V.gone):=hS.1.1.cell' rfl;go_simp;rfl⟩) hS0 ?_
   refine wpAnyU_take2 (i:=1) (v:=_) rfl (by kernel_rfl) (by kernel_rfl) (by kernel_rfl) (by kernel_rfl) (fun _ _ _ h=>h) (.inl ⟨by kernel_rfl,fun w' hS=>by skip;go_simp;rfl⟩) hS0 ?_
   refine wpAnyU_take2 (i:=2) (v:=_) rfl (by kernel_rfl) (by kernel_rfl) (by kernel_rfl) (by kernel_rfl) (fun _ _ _ h=>h) (.inl ⟨by kernel_rfl,fun w' hS=>by skip;go_simp;rfl⟩) hS0 ?_
   refine wpAnyU_take2 (i:=3) (v:=undef) rfl (by kernel_rfl) (by kernel_rfl) (by kernel_rfl) (by kernel_rfl) (fun _ _ _ h=>h) (.inr ⟨by kernel_rfl,rfl⟩) hS0 ?_
   refine wpAnyU_take2 (i:=4) (v:=undef) rfl (by kernel_rfl) (by kernel_rfl) (by kernel_rfl) (by kernel_rfl) (fun _ _ _ h=>h) (.inr ⟨by kernel_rfl,rfl⟩) hS0 ?_
   refine wpAnyU_take2 (i:=5) (v:=undef) rfl (by kernel_rfl) (by kernel_rfl) (by kernel_rfl) (by kernel_rfl) (fun _ _ _ h=>h) (.inr ⟨by kernel_rfl,rfl⟩) hS0 ?_
   refine wpAnyU_take2 (i:=6) (v:=undef) rfl (by kernel_rfl) (by kernel_rfl) (by kernel_rfl) (by kernel_rfl) (fun _ _ _ h=>h) (.inr ⟨by kernel_rfl,rfl⟩) hS0 ?_
   refine wpAnyU_take2 (i:=7) (v:=_) rfl (by kernel_rfl) (by kernel_rfl) (by kernel_rfl) (by kernel_rfl) (fun _ _ _ h=>h) (.inl ⟨by kernel_rfl,fun w' hS=>by skip;go_simp;rfl⟩) hS0 ?_
   have US:=U2
   have s0:w2.cell? ⟨w.heap.size+1+1,0,none⟩=some (.string nilS):=US.out.bo.cell' rfl
   have z0:=US.out.bo.frozen 0
   have s1:w2.cell? ⟨w.heap.size+1+1,1,none⟩=some (.string nilS):=US.out.bo.cell' rfl
   have z1:=US.out.bo.frozen 1
   have s2:w2.cell? ⟨w.heap.size+1+1,2,none⟩=some (.bool false):=US.out.bo.cell' rfl
   have z2:=US.out.bo.frozen 2
   have s3:w2.cell? ⟨w.heap.size+1+1,3,none⟩=some (.int .i64 0):=US.out.bo.cell' rfl
   have z3:=US.out.bo.frozen 3
   have s4:w2.cell? ⟨w.heap.size+1+1,4,none⟩=some (.slice none 0 0):=US.out.bo.cell' rfl
   have z4:=US.out.bo.frozen 4
   have s5:w2.cell? ⟨w.heap.size+1+1,5,none⟩=some (.bool false):=US.out.bo.cell' rfl
   have z5:=US.out.bo.frozen 5
   have BO:=hid_ US.out.bo
   have FX:=hid_ US.out.fr
   refine wpAnyU_one7 (i:=8) rfl (by kernel_rfl) (by kernel_rfl) ?_
   go_simp
   obtain ⟨qb,qf⟩:=box6 BO.out (.string V.low) (.string V.high) (.bool V.unb) (.int .i64 V.right) (.slice A' L'.length c') (.bool V.gone)
   have h8:=hid_ (And.intro (And.intro (US.out.bv.fr qf (only_ne (by omega))) (US.out.br.fr qf (only_ne (by omega)))) (US.out.fr.then_only qf (.inr (by omega))))
   have QF:=hid_ qf
   have QB:=hid_ qb
   clear qf qb
   refine ⟨⟨⟨h8.out.1.1.drew,h8.out.1.2.drew⟩,h8.out.2.drew⟩,?_⟩
   refine wpAnyU_one7 (i:=9) rfl (by kernel_rfl) (by kernel_rfl) ?_
   go_simp
   refine ⟨⟨⟨h8.out.1.1.drew,h8.out.1.2.drew⟩,h8.out.2.drew⟩,?_⟩
   refine wpAnyU_done (by kernel_rfl) ?_ _
   clear s0 z0 s1 z1 s2 z2 s3 z3 s4 z4 s5 z5 hS0
   have q0:=QB.out.cell' (i:=0) rfl
   have q1:=QB.out.cell' (i:=1) rfl
   have q2:=QB.out.cell' (i:=2) rfl
   have q3:=QB.out.cell' (i:=3) rfl
   have q4:=QB.out.cell' (i:=4) rfl
   have q5:=QB.out.cell' (i:=5) rfl
   have h8F:=hid_ h8.out.2
   clear h8
   have HNO:=hid_ (HUP.out HG.out)
   go_wp2
   refine bodyPost_ret (v:=.tuple #[.agg #[(.string V.low),(.string V.high),(.bool V.unb),(.int .i64 V.right),(.slice A' L'.length c'),(.bool V.gone)],.bool false]) ?_ rfl (.inr ⟨HNO.out,V,A',L'.length,c',rfl,h8F.out.drew⟩)
   simp [results,Tryz.results119,go_sem,q0,q1,q2,q3,q4,q5]
  | false =>
   have HG:=hid_ hg
   clear hg
   refine wpAnyU_take2 (i:=0) (v:=_) rfl (by kernel_rfl) (by kernel_rfl) (by kernel_rfl) (by kernel_rfl) (fun _ _ _ h=>h) (.inl ⟨by kernel_rfl,fun w' hS=>by have v0:w'.cell? ⟨w.heap.size,0,none⟩=some (.string V.low):=hS.1.1.cell' rfl;have v1:w'.cell? ⟨w.heap.size,1,none⟩=some (.string V.high):=hS.1.1.cell' rfl;have v2:w'.cell? ⟨w.heap.size,2,none⟩=some (.bool V.unb):=hS.1.1.cell' rfl;have v3:w'.cell? ⟨w.heap.size,3,none⟩=some (.int .i64 V.right):=hS.1.1.cell' rfl;have v4:w'.cell? ⟨w.heap.size,4,none⟩=some (.slice A' L'.length c'):=hS.1.1.cell' rfl;have v5:w'.cell? ⟨w.heap.size,5,none⟩=some (.bool V.gone):=hS.1.1.cell' rfl;go_simp;rfl⟩) hS0 ?_
   refine wpAnyU_take2 (i:=1) (v:=_) rfl (by kernel_rfl) (by kernel_rfl) (by kernel_rfl) (by kernel_rfl) (fun _ _ _ h=>h) (.inl ⟨by kernel_rfl,fun w' hS=>by skip;go_simp;rfl⟩) hS0 ?_
   refine wpAnyU_take2 (i:=2) (v:=_) rfl (by kernel_rfl) (by kernel_rfl) (by kernel_rfl) (by kernel_rfl) (fun _ _ _ h=>h) (.inl ⟨by kernel_rfl,fun w' hS=>by skip;go_simp;rfl⟩) hS0 ?_
   refine wpAnyU_take2 (i:=3) (v:=_) rfl (by kernel_rfl) (by kernel_rfl) (by kernel_rfl) (by kernel_rfl) (fun _ _ _ h=>h) (.inl ⟨by kernel_rfl,fun w' hS=>by have v0:w'.cell? ⟨w.heap.size,0,none⟩=some (.string V.low):=hS.1.1.cell' rfl;have v1:w'.cell? ⟨w.heap.size,1,none⟩=some (.string V.high):=hS.1.1.cell' rfl;have v2:w'.cell? ⟨w.heap.size,2,none⟩=some (.bool V.unb):=hS.1.1.cell' rfl;have v3:w'.cell? ⟨w.heap.size,3,none⟩=some (.int .i64 V.right):=hS.1.1.cell' rfl;have v4:w'.cell? ⟨w.heap.size,4,none⟩=some (.slice A' L'.length c'):=hS.1.1.cell' rfl;have v5:w'.cell? ⟨w.heap.size,5,none⟩=some (.bool V.gone):=hS.1.1.cell' rfl;go_simp;rfl⟩) hS0 ?_
   refine wpAnyU_take2 (i:=4) (v:=_) rfl (by kernel_rfl) (by kernel_rfl) (by kernel_rfl) (by kernel_rfl) (fun _ _ _ h=>h) (.inl ⟨by kernel_rfl,fun w' hS=>by skip;go_simp;rfl⟩) hS0 ?_
   refine wpAnyU_take2 (i:=5) (v:=_) rfl (by kernel_rfl) (by kernel_rfl) (by kernel_rfl) (by kernel_rfl) (fun _ _ _ h=>h) (.inl ⟨by kernel_rfl,fun w' hS=>by have r7:w'.cell? ⟨w.heap.size+1,7,none⟩=some (.string R.key):=hS.1.2.cell' rfl;go_simp;rfl⟩) hS0 ?_
   refine wpAnyU_one7 (i:=6) rfl (by kernel_rfl) (by kernel_rfl) ?_
   go_simp
   refine (hasL_ok V (.slice A' L'.length c') R.key _ OK.out.low OK.out.high HK.out.1).mono ?_
   rintro e w3 ⟨rfl,hf3⟩
   have f3:Fr none_ w2 w3:=(Fr.refl none_ w2).drew.then_none hf3
   have US:=hid_ (U2.out.keep f3)
   have O3:=hid_ (own_none O2.out f3)
   clear hf3 f3
   have hS3:(fun w':World=>(Blk w' w.heap.size 101 (lwA V (.slice A' L'.length c'))∧Blk w' (w.heap.size+1) 51 (recA R vr ve))∧Fr none_ w w') w3:=⟨⟨US.out.bv,US.out.br⟩,US.out.fr⟩
   refine ⟨hS3,?_⟩
   refine wpAnyU_take2 (i:=7) (v:=_) rfl (by kernel_rfl) (by kernel_rfl) (by kernel_rfl) (by kernel_rfl) (fun _ _ _ h=>h) (.inl ⟨by kernel_rfl,fun w' hS=>by skip;go_simp;rfl⟩) hS3 ?_
   have s0:w3.cell? ⟨w.heap.size+1+1,0,none⟩=some (.string nilS):=US.out.bo.cell' rfl
   have z0:=US.out.bo.frozen 0
   have s1:w3.cell? ⟨w.heap.size+1+1,1,none⟩=some (.string nilS):=US.out.bo.cell' rfl
   have z1:=US.out.bo.frozen 1
   have s2:w3.cell? ⟨w.heap.size+1+1,2,none⟩=some (.bool false):=US.out.bo.cell' rfl
   have z2:=US.out.bo.frozen 2
   have s3:w3.cell? ⟨w.heap.size+1+1,3,none⟩=some (.int .i64 0):=US.out.bo.cell' rfl
   have z3:=US.out.bo.frozen 3
   have s4:w3.cell? ⟨w.heap.size+1+1,4,none⟩=some (.slice none 0 0):=US.out.bo.cell' rfl
   have z4:=US.out.bo.frozen 4
   have s5:w3.cell? ⟨w.heap.size+1+1,5,none⟩=some (.bool false):=US.out.bo.cell' rfl
   have z5:=US.out.bo.frozen 5
   have BO:=hid_ US.out.bo
   have FX:=hid_ US.out.fr
   refine wpAnyU_one7 (i:=8) rfl (by kernel_rfl) (by kernel_rfl) ?_
   go_simp
   obtain ⟨qb,qf⟩:=box6 BO.out (.string V.low) (.string V.high) (.bool V.unb) (.int .i64 V.right) (.slice A' L'.length c') (.bool V.gone)
   have h8:=hid_ (And.intro (And.intro (US.out.bv.fr qf (only_ne (by omega))) (US.out.br.fr qf (only_ne (by omega)))) (US.out.fr.then_only qf (.inr (by omega))))
   have QF:=hid_ qf
   have QB:=hid_ qb
   clear qf qb
   refine ⟨h8.out,?_⟩
   refine wpAnyU_one7 (i:=9) rfl (by kernel_rfl) (by kernel_rfl) ?_
   go_simp
   refine ⟨h8.out,?_⟩
   refine wpAnyU_done (by kernel_rfl) ?_ _
   clear s0 z0 s1 z1 s2 z2 s3 z3 s4 z4 s5 z5 hS0
   have q0:=QB.out.cell' (i:=0) rfl
   have q1:=QB.out.cell' (i:=1) rfl
   have q2:=QB.out.cell' (i:=2) rfl
   have q3:=QB.out.cell' (i:=3) rfl
   have q4:=QB.out.cell' (i:=4) rfl
   have q5:=QB.out.cell' (i:=5) rfl
   have h8F:=hid_ h8.out.2
   clear h8
   have OF:=hid_ (own_fr O3.out QF.out (fun k hk e=>own_blk_ne O3.out BO.out (by decide) (by rw [hk,show k=w.heap.size+1+1 from e])))
   cases hin:inS V.low V.high V.unb R.key with
   | false =>
    have HI:=hid_ hin
    have hup:=HP'.out HG.out
    rw [hin] at hup
    have HUQ:=hid_ hup
    clear hin hup
    go_wp2
    refine bodyPost_ret (v:=.tuple #[.agg #[(.string V.low),(.string V.high),(.bool V.unb),(.int .i64 V.right),(.slice A' L'.length c'),(.bool V.gone)],.bool false]) ?_ rfl (.inr ⟨by rw [HUQ.out];rfl,V,A',L'.length,c',rfl,h8F.out⟩)
    simp [results,Tryz.results119,go_sem,q0,q1,q2,q3,q4,q5]
   | true =>
    have HI:=hid_ hin
    have hup:=HP'.out HG.out
    rw [hin] at hup
    have HUQ:=hid_ hup
    clear hin hup
    go_wp2
    refine bodyPost_ret (v:=.tuple #[.agg #[(.string V.low),(.string V.high),(.bool V.unb),(.int .i64 V.right),(.slice A' L'.length c'),(.bool V.gone)],.bool true]) ?_ rfl (.inl ⟨{ V with rows:=L' },A',c',by rw [HUQ.out];rfl,rfl,lwin_of_own OF.out hb0 rfl HOK.out,h8F.out⟩)
    simp [results,Tryz.results119,go_sem,q0,q1,q2,q3,q4,q5]
set_option maxHeartbeats 8000000 in
theorem upl_del (b0:Nat) (V:Lw) (R:Rc) (A:Option Addr) (c:Nat) (B:Option Addr) (d:Nat) (ve:Value) (w:World) (h:LwIn b0 w V A c) (hb0:b0≤w.heap.size) (hl:V.rows.length < 300000) (hR:Reads w 2 B R.rows.length (rwFlat R.rows)) (hk:SzOk R.key∧SzOk R.high∧SzOk R.val∧RwsOk R.rows) (hkd:R.kind=3) :
  Calls Tryz.prog 119 #[lwV V (.slice A V.rows.length c),recV R (.slice B R.rows.length d) ve] w (UpLPost b0 V R w):=by
 obtain ⟨vr,hvr⟩:∃ vr,vr=Value.slice B R.rows.length d:=⟨_,rfl⟩
 rw [← hvr]
 have U:=hid_ (ul_start V R (.slice A V.rows.length c) vr ve w)
 obtain ⟨w0,hw0⟩:∃ w0,w0=ulW V R (.slice A V.rows.length c) vr ve w:=⟨_,rfl⟩
 rw [← hw0] at U
 have HK:=hid_ hk
 have HVR:=hid_ hvr
 have OK:=hid_ h.ok
 have H:=hid_ (h.keep U.out.fr)
 have HRR:=hid_ (hR.none_fr U.out.fr)
 have CAP:=hid_ h.caps
 clear h hk hR hvr
 have HUP:Hid (V.gone=true→upL V R=none):=hid_ (fun hg=>by unfold upL;rw [if_pos hg])
 have HP:Hid (V.gone=false→upL V R=if inS V.low V.high V.unb R.key=true then some { V with rows:=dropR V.rows R.key } else none):=hid_ (fun hg=>by unfold upL;rw [if_neg (by rw [hg];decide),if_neg (by omega),if_pos hkd])
 go_enter Tryz.func119,Tryz.ntmps119
 go_upto_region 1 with fail
 change Code.wp _ _ _ _ (ulW V R (.slice A V.rows.length c) vr ve w)
 rw [← hw0]
 clear hw0
 have v4:w0.cell? ⟨w.heap.size,4,none⟩=some (.slice A V.rows.length c):=U.out.bv.cell' rfl
 have v5:w0.cell? ⟨w.heap.size,5,none⟩=some (.bool V.gone):=U.out.bv.cell' rfl
 have r0:w0.cell? ⟨w.heap.size+1,0,none⟩=some (.int .i64 R.kind):=U.out.br.cell' rfl
 have r7:w0.cell? ⟨w.heap.size+1,7,none⟩=some (.string R.key):=U.out.br.cell' rfl
 have r8:w0.cell? ⟨w.heap.size+1,8,none⟩=some (.string R.val):=U.out.br.cell' rfl
 rw [hkd] at r0
 go_wp2_with fail
 refine (dropR_ok V.rows A c R.key w0 H.out.rd OK.out.rows CAP.out.1 CAP.out.2 HK.out.1).mono ?_
 rintro e w1 ⟨A',c',rfl,hown,hf⟩
 obtain ⟨L',hL'⟩:∃ L',L'=dropR V.rows R.key:=⟨_,rfl⟩
 rw [← hL'] at hown ⊢
 have HOK:Hid (Lw.Ok { V with rows:=L' }):=hid_ ⟨OK.out.low,OK.out.high,by show RwsOk L';rw [hL'];exact OK.out.rows.drop_ R.key⟩
 have HP':Hid (V.gone=false→upL V R=if inS V.low V.high V.unb R.key=true then some { V with rows:=L' } else none):=hid_ (fun hg=>by rw [HP.out hg,hL'])
 have O:=hid_ (own_base hown (by have:=U.out.fr.size;omega:w.heap.size≤w0.heap.size))
 replace U:=hid_ (U.out.keep hf)
 clear hf hown hL' v4 v5 r0 r7 r8 HP
 have v4:w1.cell? ⟨w.heap.size,4,none⟩=some (.slice A V.rows.length c):=U.out.bv.cell' rfl
 have y4:=U.out.bv.frozen 4
 go_upto_region 14 with fail
 obtain ⟨w2,hw2⟩:∃ z,z=w1.setCell ⟨w.heap.size,4,none⟩ (.slice A' L'.length c'):=⟨_,rfl⟩
 have f2:Fr (only w.heap.size) w1 w2:=by rw [hw2];exact Fr.only1 w1 ⟨w.heap.size,4,none⟩ _
 have U2:Hid (UlSt w w2 V R (.slice A' L'.length c') vr ve):=hid_ ⟨by rw [hw2];exact U.out.bv.set_ 4 _,U.out.br.fr f2 (only_ne (by omega)),U.out.bo.fr f2 (only_ne (by omega)),U.out.fr.then_only f2 (.inr (Nat.le_refl _))⟩
 have O2:=hid_ (own_fr O.out f2 (fun k hk e=>own_blk_ne O.out U.out.bv (by decide) (by rw [hk,show k=w.heap.size from e])))
 change Code.wp _ _ _ _ (w1.setCell ⟨w.heap.size,4,none⟩ (.slice A' L'.length c'))
 rw [← hw2]
 clear hw2 f2 v4 y4 U O
 have hS0:(fun w':World=>(Blk w' w.heap.size 101 (lwA V (.slice A' L'.length c'))∧Blk w' (w.heap.size+1) 51 (recA R vr ve))∧Fr none_ w w') w2.drew:=⟨⟨U2.out.bv.drew,U2.out.br.drew⟩,U2.out.fr.drew⟩
 refine wp_region_U (m:=10) (S:=fun w':World=>(Blk w' w.heap.size 101 (lwA V (.slice A' L'.length c'))∧Blk w' (w.heap.size+1) 51 (recA R vr ve))∧Fr none_ w w') (by kernel_rfl) ?_
 cases hg:V.gone with
 | true =>
  have HG:=hid_ hg
  clear hg
  refine wpAnyU_take2 (i:=0) (v:=_) rfl (by kernel_rfl) (by kernel_rfl) (by kernel_rfl) (by kernel_rfl) (fun _ _ _ h=>h) (.inl ⟨by kernel_rfl,fun w' hS=>by have v0:w'.cell? ⟨w.heap.size,0,none⟩=some (.string V.low):=hS.1.1.cell' rfl;have v1:w'.cell? ⟨w.heap.size,1,none⟩=some (.string V.high):=hS.1.1.cell' rfl;have v2:w'.cell? ⟨w.heap.size,2,none⟩=some (.bool V.unb):=hS.1.1.cell' rfl;have v3:w'.cell? ⟨w.heap.size,3,none⟩=some (.int .i64 V.right):=hS.1.1.cell' rfl;have v4:w'.cell? ⟨w.heap.size,4,none⟩=some (.slice A' L'.length c'):=hS.1.1.cell' rfl;have v5:w'.cell? ⟨w.heap.size,5,none⟩=some (.bool V.gone):=hS.1.1.cell' rfl;go_simp;rfl⟩) hS0 ?_
  refine wpAnyU_take2 (i:=1) (v:=_) rfl (by kernel_rfl) (by kernel_rfl) (by kernel_rfl) (by kernel_rfl) (fun _ _ _ h=>h) (.inl ⟨by kernel_rfl,fun w' hS=>by skip;go_simp;rfl⟩) hS0 ?_
  refine wpAnyU_take2 (i:=2) (v:=_) rfl (by kernel_rfl) (by kernel_rfl) (by kernel_rfl) (by kernel_rfl) (fun _ _ _ h=>h) (.inl ⟨by kernel_rfl,fun w' hS=>by skip;go_simp;rfl⟩) hS0 ?_
  refine wpAnyU_take2 (i:=3) (v:=undef) rfl (by kernel_rfl) (by kernel_rfl) (by kernel_rfl) (by kernel_rfl) (fun _ _ _ h=>h) (.inr ⟨by kernel_rfl,rfl⟩) hS0 ?_
  refine wpAnyU_take2 (i:=4) (v:=undef) rfl (by kernel_rfl) (by kernel_rfl) (by kernel_rfl) (by kernel_rfl) (fun _ _ _ h=>h) (.inr ⟨by kernel_rfl,rfl⟩) hS0 ?_
  refine wpAnyU_take2 (i:=5) (v:=undef) rfl (by kernel_rfl) (by kernel_rfl) (by kernel_rfl) (by kernel_rfl) (fun _ _ _ h=>h) (.inr ⟨by kernel_rfl,rfl⟩) hS0 ?_
  refine wpAnyU_take2 (i:=6) (v:=undef) rfl (by kernel_rfl) (by kernel_rfl) (by kernel_rfl) (by kernel_rfl) (fun _ _ _ h=>h) (.inr ⟨by kernel_rfl,rfl⟩) hS0 ?_
  refine wpAnyU_take2 (i:=7) (v:=_) rfl (by kernel_rfl) (by kernel_rfl) (by kernel_rfl) (by kernel_rfl) (fun _ _ _ h=>h) (.inl ⟨by kernel_rfl,fun w' hS=>by skip;go_simp;rfl⟩) hS0 ?_
  have US:=U2
  have s0:w2.cell? ⟨w.heap.size+1+1,0,none⟩=some (.string nilS):=US.out.bo.cell' rfl
  have z0:=US.out.bo.frozen 0
  have s1:w2.cell? ⟨w.heap.size+1+1,1,none⟩=some (.string nilS):=US.out.bo.cell' rfl
  have z1:=US.out.bo.frozen 1
  have s2:w2.cell? ⟨w.heap.size+1+1,2,none⟩=some (.bool false):=US.out.bo.cell' rfl
  have z2:=US.out.bo.frozen 2
  have s3:w2.cell? ⟨w.heap.size+1+1,3,none⟩=some (.int .i64 0):=US.out.bo.cell' rfl
  have z3:=US.out.bo.frozen 3
  have s4:w2.cell? ⟨w.heap.size+1+1,4,none⟩=some (.slice none 0 0):=US.out.bo.cell' rfl
  have z4:=US.out.bo.frozen 4
  have s5:w2.cell? ⟨w.heap.size+1+1,5,none⟩=some (.bool false):=US.out.bo.cell' rfl
  have z5:=US.out.bo.frozen 5
  have BO:=hid_ US.out.bo
  have FX:=hid_ US.out.fr
  refine wpAnyU_one7 (i:=8) rfl (by kernel_rfl) (by kernel_rfl) ?_
  go_simp
  obtain ⟨qb,qf⟩:=box6 BO.out (.string V.low) (.string V.high) (.bool V.unb) (.int .i64 V.right) (.slice A' L'.length c') (.bool V.gone)
  have h8:=hid_ (And.intro (And.intro (US.out.bv.fr qf (only_ne (by omega))) (US.out.br.fr qf (only_ne (by omega)))) (US.out.fr.then_only qf (.inr (by omega))))
  have QF:=hid_ qf
  have QB:=hid_ qb
  clear qf qb
  refine ⟨⟨⟨h8.out.1.1.drew,h8.out.1.2.drew⟩,h8.out.2.drew⟩,?_⟩
  refine wpAnyU_one7 (i:=9) rfl (by kernel_rfl) (by kernel_rfl) ?_
  go_simp
  refine ⟨⟨⟨h8.out.1.1.drew,h8.out.1.2.drew⟩,h8.out.2.drew⟩,?_⟩
  refine wpAnyU_done (by kernel_rfl) ?_ _
  clear s0 z0 s1 z1 s2 z2 s3 z3 s4 z4 s5 z5 hS0
  have q0:=QB.out.cell' (i:=0) rfl
  have q1:=QB.out.cell' (i:=1) rfl
  have q2:=QB.out.cell' (i:=2) rfl
  have q3:=QB.out.cell' (i:=3) rfl
  have q4:=QB.out.cell' (i:=4) rfl
  have q5:=QB.out.cell' (i:=5) rfl
  have h8F:=hid_ h8.out.2
  clear h8
  have HNO:=hid_ (HUP.out HG.out)
  go_wp2
  refine bodyPost_ret (v:=.tuple #[.agg #[(.string V.low),(.string V.high),(.bool V.unb),(.int .i64 V.right),(.slice A' L'.length c'),(.bool V.gone)],.bool false]) ?_ rfl (.inr ⟨HNO.out,V,A',L'.length,c',rfl,h8F.out.drew⟩)
  simp [results,Tryz.results119,go_sem,q0,q1,q2,q3,q4,q5]
 | false =>
  have HG:=hid_ hg
  clear hg
  refine wpAnyU_take2 (i:=0) (v:=_) rfl (by kernel_rfl) (by kernel_rfl) (by kernel_rfl) (by kernel_rfl) (fun _ _ _ h=>h) (.inl ⟨by kernel_rfl,fun w' hS=>by have v0:w'.cell? ⟨w.heap.size,0,none⟩=some (.string V.low):=hS.1.1.cell' rfl;have v1:w'.cell? ⟨w.heap.size,1,none⟩=some (.string V.high):=hS.1.1.cell' rfl;have v2:w'.cell? ⟨w.heap.size,2,none⟩=some (.bool V.unb):=hS.1.1.cell' rfl;have v3:w'.cell? ⟨w.heap.size,3,none⟩=some (.int .i64 V.right):=hS.1.1.cell' rfl;have v4:w'.cell? ⟨w.heap.size,4,none⟩=some (.slice A' L'.length c'):=hS.1.1.cell' rfl;have v5:w'.cell? ⟨w.heap.size,5,none⟩=some (.bool V.gone):=hS.1.1.cell' rfl;go_simp;rfl⟩) hS0 ?_
  refine wpAnyU_take2 (i:=1) (v:=_) rfl (by kernel_rfl) (by kernel_rfl) (by kernel_rfl) (by kernel_rfl) (fun _ _ _ h=>h) (.inl ⟨by kernel_rfl,fun w' hS=>by skip;go_simp;rfl⟩) hS0 ?_
  refine wpAnyU_take2 (i:=2) (v:=_) rfl (by kernel_rfl) (by kernel_rfl) (by kernel_rfl) (by kernel_rfl) (fun _ _ _ h=>h) (.inl ⟨by kernel_rfl,fun w' hS=>by skip;go_simp;rfl⟩) hS0 ?_
  refine wpAnyU_take2 (i:=3) (v:=_) rfl (by kernel_rfl) (by kernel_rfl) (by kernel_rfl) (by kernel_rfl) (fun _ _ _ h=>h) (.inl ⟨by kernel_rfl,fun w' hS=>by have v0:w'.cell? ⟨w.heap.size,0,none⟩=some (.string V.low):=hS.1.1.cell' rfl;have v1:w'.cell? ⟨w.heap.size,1,none⟩=some (.string V.high):=hS.1.1.cell' rfl;have v2:w'.cell? ⟨w.heap.size,2,none⟩=some (.bool V.unb):=hS.1.1.cell' rfl;have v3:w'.cell? ⟨w.heap.size,3,none⟩=some (.int .i64 V.right):=hS.1.1.cell' rfl;have v4:w'.cell? ⟨w.heap.size,4,none⟩=some (.slice A' L'.length c'):=hS.1.1.cell' rfl;have v5:w'.cell? ⟨w.heap.size,5,none⟩=some (.bool V.gone):=hS.1.1.cell' rfl;go_simp;rfl⟩) hS0 ?_
  refine wpAnyU_take2 (i:=4) (v:=_) rfl (by kernel_rfl) (by kernel_rfl) (by kernel_rfl) (by kernel_rfl) (fun _ _ _ h=>h) (.inl ⟨by kernel_rfl,fun w' hS=>by skip;go_simp;rfl⟩) hS0 ?_
  refine wpAnyU_take2 (i:=5) (v:=_) rfl (by kernel_rfl) (by kernel_rfl) (by kernel_rfl) (by kernel_rfl) (fun _ _ _ h=>h) (.inl ⟨by kernel_rfl,fun w' hS=>by have r7:w'.cell? ⟨w.heap.size+1,7,none⟩=some (.string R.key):=hS.1.2.cell' rfl;go_simp;rfl⟩) hS0 ?_
  refine wpAnyU_one7 (i:=6) rfl (by kernel_rfl) (by kernel_rfl) ?_
  go_simp
  refine (hasL_ok V (.slice A' L'.length c') R.key _ OK.out.low OK.out.high HK.out.1).mono ?_
  rintro e w3 ⟨rfl,hf3⟩
  have f3:Fr none_ w2 w3:=(Fr.refl none_ w2).drew.then_none hf3
  have US:=hid_ (U2.out.keep f3)
  have O3:=hid_ (own_none O2.out f3)
  clear hf3 f3
  have hS3:(fun w':World=>(Blk w' w.heap.size 101 (lwA V (.slice A' L'.length c'))∧Blk w' (w.heap.size+1) 51 (recA R vr ve))∧Fr none_ w w') w3:=⟨⟨US.out.bv,US.out.br⟩,US.out.fr⟩
  refine ⟨hS3,?_⟩
  refine wpAnyU_take2 (i:=7) (v:=_) rfl (by kernel_rfl) (by kernel_rfl) (by kernel_rfl) (by kernel_rfl) (fun _ _ _ h=>h) (.inl ⟨by kernel_rfl,fun w' hS=>by skip;go_simp;rfl⟩) hS3 ?_
  have s0:w3.cell? ⟨w.heap.size+1+1,0,none⟩=some (.string nilS):=US.out.bo.cell' rfl
  have z0:=US.out.bo.frozen 0
  have s1:w3.cell? ⟨w.heap.size+1+1,1,none⟩=some (.string nilS):=US.out.bo.cell' rfl
  have z1:=US.out.bo.frozen 1
  have s2:w3.cell? ⟨w.heap.size+1+1,2,none⟩=some (.bool false):=US.out.bo.cell' rfl
  have z2:=US.out.bo.frozen 2
  have s3:w3.cell? ⟨w.heap.size+1+1,3,none⟩=some (.int .i64 0):=US.out.bo.cell' rfl
  have z3:=US.out.bo.frozen 3
  have s4:w3.cell? ⟨w.heap.size+1+1,4,none⟩=some (.slice none 0 0):=US.out.bo.cell' rfl
  have z4:=US.out.bo.frozen 4
  have s5:w3.cell? ⟨w.heap.size+1+1,5,none⟩=some (.bool false):=US.out.bo.cell' rfl
  have z5:=US.out.bo.frozen 5
  have BO:=hid_ US.out.bo
  have FX:=hid_ US.out.fr
  refine wpAnyU_one7 (i:=8) rfl (by kernel_rfl) (by kernel_rfl) ?_
  go_simp
  obtain ⟨qb,qf⟩:=box6 BO.out (.string V.low) (.string V.high) (.bool V.unb) (.int .i64 V.right) (.slice A' L'.length c') (.bool V.gone)
  have h8:=hid_ (And.intro (And.intro (US.out.bv.fr qf (only_ne (by omega))) (US.out.br.fr qf (only_ne (by omega)))) (US.out.fr.then_only qf (.inr (by omega))))
  have QF:=hid_ qf
  have QB:=hid_ qb
  clear qf qb
  refine ⟨h8.out,?_⟩
  refine wpAnyU_one7 (i:=9) rfl (by kernel_rfl) (by kernel_rfl) ?_
  go_simp
  refine ⟨h8.out,?_⟩
  refine wpAnyU_done (by kernel_rfl) ?_ _
  clear s0 z0 s1 z1 s2 z2 s3 z3 s4 z4 s5 z5 hS0
  have q0:=QB.out.cell' (i:=0) rfl
  have q1:=QB.out.cell' (i:=1) rfl
  have q2:=QB.out.cell' (i:=2) rfl
  have q3:=QB.out.cell' (i:=3) rfl
  have q4:=QB.out.cell' (i:=4) rfl
  have q5:=QB.out.cell' (i:=5) rfl
  have h8F:=hid_ h8.out.2
  clear h8
  have OF:=hid_ (own_fr O3.out QF.out (fun k hk e=>own_blk_ne O3.out BO.out (by decide) (by rw [hk,show k=w.heap.size+1+1 from e])))
  cases hin:inS V.low V.high V.unb R.key with
  | false =>
   have HI:=hid_ hin
   have hup:=HP'.out HG.out
   rw [hin] at hup
   have HUQ:=hid_ hup
   clear hin hup
   go_wp2
   refine bodyPost_ret (v:=.tuple #[.agg #[(.string V.low),(.string V.high),(.bool V.unb),(.int .i64 V.right),(.slice A' L'.length c'),(.bool V.gone)],.bool false]) ?_ rfl (.inr ⟨by rw [HUQ.out];rfl,V,A',L'.length,c',rfl,h8F.out⟩)
   simp [results,Tryz.results119,go_sem,q0,q1,q2,q3,q4,q5]
  | true =>
   have HI:=hid_ hin
   have hup:=HP'.out HG.out
   rw [hin] at hup
   have HUQ:=hid_ hup
   clear hin hup
   go_wp2
   refine bodyPost_ret (v:=.tuple #[.agg #[(.string V.low),(.string V.high),(.bool V.unb),(.int .i64 V.right),(.slice A' L'.length c'),(.bool V.gone)],.bool true]) ?_ rfl (.inl ⟨{ V with rows:=L' },A',c',by rw [HUQ.out];rfl,rfl,lwin_of_own OF.out hb0 rfl HOK.out,h8F.out⟩)
   simp [results,Tryz.results119,go_sem,q0,q1,q2,q3,q4,q5]
set_option maxHeartbeats 8000000 in
theorem upl_split (b0:Nat) (V:Lw) (R:Rc) (A:Option Addr) (c:Nat) (B:Option Addr) (d:Nat) (ve:Value) (w:World) (h:LwIn b0 w V A c) (hb0:b0≤w.heap.size) (hl:V.rows.length < 300000) (hR:Reads w 2 B R.rows.length (rwFlat R.rows)) (hk:SzOk R.key∧SzOk R.high∧SzOk R.val∧RwsOk R.rows) (hkd:R.kind=4) :
  Calls Tryz.prog 119 #[lwV V (.slice A V.rows.length c),recV R (.slice B R.rows.length d) ve] w (UpLPost b0 V R w):=by
 obtain ⟨vr,hvr⟩:∃ vr,vr=Value.slice B R.rows.length d:=⟨_,rfl⟩
 rw [← hvr]
 have U:=hid_ (ul_start V R (.slice A V.rows.length c) vr ve w)
 obtain ⟨w0,hw0⟩:∃ w0,w0=ulW V R (.slice A V.rows.length c) vr ve w:=⟨_,rfl⟩
 rw [← hw0] at U
 have HK:=hid_ hk
 have HVR:=hid_ hvr
 have OK:=hid_ h.ok
 have H:=hid_ (h.keep U.out.fr)
 have HRR:=hid_ (hR.none_fr U.out.fr)
 have CAP:=hid_ h.caps
 clear h hk hR hvr
 have HUP:Hid (upL V R=if (V.gone=false∧inS V.low V.high V.unb R.key=true∧ltS V.low R.key=true) then some { V with rows:=V.rows.take (plR V.rows R.key),high:=R.key,unb:=false,right:=R.page } else none):=hid_ (by
  unfold upL
  cases hg:V.gone with
  | true=>rw [if_pos rfl,if_neg (fun h=>by cases h.1)]
  | false=>rw [if_neg (by decide),if_neg (by omega),if_neg (by omega),if_pos hkd];simp)
 go_enter Tryz.func119,Tryz.ntmps119
 go_upto_region 1 with fail
 change Code.wp _ _ _ _ (ulW V R (.slice A V.rows.length c) vr ve w)
 rw [← hw0]
 clear hw0
 have v4:w0.cell? ⟨w.heap.size,4,none⟩=some (.slice A V.rows.length c):=U.out.bv.cell' rfl
 have v5:w0.cell? ⟨w.heap.size,5,none⟩=some (.bool V.gone):=U.out.bv.cell' rfl
 have r0:w0.cell? ⟨w.heap.size+1,0,none⟩=some (.int .i64 R.kind):=U.out.br.cell' rfl
 have r7:w0.cell? ⟨w.heap.size+1,7,none⟩=some (.string R.key):=U.out.br.cell' rfl
 have r8:w0.cell? ⟨w.heap.size+1,8,none⟩=some (.string R.val):=U.out.br.cell' rfl
 rw [hkd] at r0
 go_upto_region 15 with fail
 go_cut [6] (fun u wq=>∃ ob:Bool,u=.bool ob∧(ob=true ↔ (V.gone=false∧inS V.low V.high V.unb R.key=true∧ltS V.low R.key=true))∧Fr none_ w0 wq)
 case first =>
  cases hg:V.gone with
  | true =>
   have HG:=hid_ hg
   clear hg
   go_wp2_with fail
   go_meet
   case rel=>exact ⟨false,rfl,⟨(fun h=>by cases h),fun h=>by have:=HG.out;rw [h.1] at this;cases this⟩,Fr.refl _ _⟩
  | false =>
   have HG:=hid_ hg
   clear hg v4 v5
   have v0:w0.cell? ⟨w.heap.size,0,none⟩=some (.string V.low):=U.out.bv.cell' rfl
   have v1:w0.cell? ⟨w.heap.size,1,none⟩=some (.string V.high):=U.out.bv.cell' rfl
   have v2:w0.cell? ⟨w.heap.size,2,none⟩=some (.bool V.unb):=U.out.bv.cell' rfl
   have v3:w0.cell? ⟨w.heap.size,3,none⟩=some (.int .i64 V.right):=U.out.bv.cell' rfl
   have v4:w0.cell? ⟨w.heap.size,4,none⟩=some (.slice A V.rows.length c):=U.out.bv.cell' rfl
   have v5:w0.cell? ⟨w.heap.size,5,none⟩=some (.bool V.gone):=U.out.bv.cell' rfl
   rw [HG.out] at v5
   go_wp2_with fail
   refine (hasL_ok { V with gone:=false } (.slice A V.rows.length c) R.key _ OK.out.low OK.out.high HK.out.1).mono ?_
   rintro e w1 ⟨rfl,hf1⟩
   have F1:=hid_ hf1
   clear v0 v1 v2 v3 v4 v5 r0 r7 r8
   have v0:w1.cell? ⟨w.heap.size,0,none⟩=some (.string V.low):=(U.out.bv.fr hf1 id).cell' rfl
   have r7:w1.cell? ⟨w.heap.size+1,7,none⟩=some (.string R.key):=(U.out.br.fr hf1 id).cell' rfl
   clear hf1
   cases hin:inS V.low V.high V.unb R.key with
   | false =>
    have HI:=hid_ hin
    clear hin
    go_wp2_with fail
    go_meet
    case rel=>exact ⟨false,rfl,⟨(fun h=>by cases h),fun h=>by have:=HI.out;rw [h.2.1] at this;cases this⟩,F1.out⟩
   | true =>
    have HI:=hid_ hin
    clear hin
    go_wp2_with fail
    refine (compare_ok V.low R.key _ OK.out.low.le HK.out.1.le).mono ?_
    rintro e w2 ⟨rfl,q,hw2⟩
    have F2:Hid (Fr none_ w0 w2):=hid_ (by rw [hw2];exact F1.out.drewN q)
    have hc:=cmp_neg V.low R.key
    clear hw2
    cases hl2:ltS V.low R.key with
    | false =>
     rw [hl2] at hc
     have HL:=hid_ hl2
     clear hl2
     go_wp2_with fail
     go_meet
     case rel=>exact ⟨false,rfl,⟨(fun h=>by cases h),fun h=>by have:=HL.out;rw [h.2.2] at this;cases this⟩,F2.out⟩
    | true =>
     rw [hl2] at hc
     have HL:=hid_ hl2
     clear hl2
     go_wp2_with fail
     go_meet
     case rel=>exact ⟨true,rfl,⟨fun _=>⟨HG.out,HI.out,HL.out⟩,fun _=>rfl⟩,F2.out⟩
 case rest =>
 obtain ⟨ob,rfl,hob,hf⟩:=hcut
 have HOB:=hid_ hob
 replace U:=hid_ (U.out.keep hf)
 replace H:=hid_ (H.out.keep hf)
 clear hob hf v4 v5 r0 r7 r8
 have v4:wc.cell? ⟨w.heap.size,4,none⟩=some (.slice A V.rows.length c):=U.out.bv.cell' rfl
 have r7:wc.cell? ⟨w.heap.size+1,7,none⟩=some (.string R.key):=U.out.br.cell' rfl
 have hsz:=U.out.fr.size
 go_wp2_with fail
 refine (cutR_ok V.rows A c R.key wc H.out.rd OK.out.rows CAP.out.1 CAP.out.2 HK.out.1).mono ?_
 rintro e w1 ⟨A',c',B',n',d',rfl,hown,hf⟩
 obtain ⟨L',hL'⟩:∃ L',L'=V.rows.take (plR V.rows R.key):=⟨_,rfl⟩
 rw [← hL'] at hown ⊢
 have HOK:Hid (Lw.Ok { V with rows:=L',high:=R.key,unb:=false,right:=R.page }):=hid_ ⟨OK.out.low,HK.out.1,by show RwsOk L';rw [hL'];exact OK.out.rows.take _⟩
 have HUP':Hid (upL V R=if ob=true then some { V with rows:=L',high:=R.key,unb:=false,right:=R.page } else none):=hid_ (by rw [HUP.out,hL'];by_cases h:ob=true;rw [if_pos h,if_pos (HOB.out.1 h)];rw [if_neg h,if_neg (fun x=>h (HOB.out.2 x))])
 have O:=hid_ (own_base hown (by omega:w.heap.size≤wc.heap.size))
 replace U:=hid_ (U.out.keep hf)
 clear hf hown hL' v4 r7
 have v4:w1.cell? ⟨w.heap.size,4,none⟩=some (.slice A V.rows.length c):=U.out.bv.cell' rfl
 have y4:=U.out.bv.frozen 4
 go_upto_region 17 with fail
 obtain ⟨w2,hw2⟩:∃ z,z=w1.setCell ⟨w.heap.size,4,none⟩ (.slice A' L'.length c'):=⟨_,rfl⟩
 have f2:Fr (only w.heap.size) w1 w2:=by rw [hw2];exact Fr.only1 w1 ⟨w.heap.size,4,none⟩ _
 have U2:Hid (UlSt w w2 V R (.slice A' L'.length c') vr ve):=hid_ ⟨by rw [hw2];exact U.out.bv.set_ 4 _,U.out.br.fr f2 (only_ne (by omega)),U.out.bo.fr f2 (only_ne (by omega)),U.out.fr.then_only f2 (.inr (Nat.le_refl _))⟩
 have O2:=hid_ (own_fr O.out f2 (fun k hk e=>own_blk_ne O.out U.out.bv (by decide) (by rw [hk,show k=w.heap.size from e])))
 change Code.wp _ _ _ _ (w1.setCell ⟨w.heap.size,4,none⟩ (.slice A' L'.length c'))
 rw [← hw2]
 clear hw2 f2 v4 y4 U O
 have v1:w2.cell? ⟨w.heap.size,1,none⟩=some (.string V.high):=U2.out.bv.cell' rfl
 have y1:=U2.out.bv.frozen 1
 have v2:w2.cell? ⟨w.heap.size,2,none⟩=some (.bool V.unb):=U2.out.bv.cell' rfl
 have y2:=U2.out.bv.frozen 2
 have v3:w2.cell? ⟨w.heap.size,3,none⟩=some (.int .i64 V.right):=U2.out.bv.cell' rfl
 have y3:=U2.out.bv.frozen 3
 have r7:w2.cell? ⟨w.heap.size+1,7,none⟩=some (.string R.key):=U2.out.br.cell' rfl
 have r9:w2.cell? ⟨w.heap.size+1,9,none⟩=some (.int .i64 R.page):=U2.out.br.cell' rfl
 have hS0:(fun w':World=>Fr (only w.heap.size) w2 w') w2.drew:=(Fr.refl (only w.heap.size) w2).drew
 refine wp_region_U (m:=10) (S:=fun w':World=>Fr (only w.heap.size) w2 w') (by kernel_rfl) ?_
 refine wpAnyU_take2 (i:=0) (v:=_) rfl (by kernel_rfl) (by kernel_rfl) (by kernel_rfl) (by kernel_rfl) (fun _ _ _ h=>h) (.inl ⟨by kernel_rfl,fun w' hS=>by have s_r7:=cellFrS r7 hS (only_ne (by simp));have s_r9:=cellFrS r9 hS (only_ne (by simp));go_simp;rfl⟩) hS0 ?_
 refine wpAnyU_take2 (i:=1) (v:=_) rfl (by kernel_rfl) (by kernel_rfl) (by kernel_rfl) (by kernel_rfl) (fun _ _ _ h=>h) (.inl ⟨by kernel_rfl,fun w' hS=>by have s_r7:=cellFrS r7 hS (only_ne (by simp));have s_r9:=cellFrS r9 hS (only_ne (by simp));go_simp;rfl⟩) hS0 ?_
 refine wpAnyU_take2 (i:=2) (v:=_) rfl (by kernel_rfl) (by kernel_rfl) (by kernel_rfl) (by kernel_rfl) (fun _ _ _ h=>h) (.inl ⟨by kernel_rfl,fun w' hS=>by have s_r7:=cellFrS r7 hS (only_ne (by simp));have s_r9:=cellFrS r9 hS (only_ne (by simp));go_simp;rfl⟩) hS0 ?_
 refine wpAnyU_take2 (i:=3) (v:=_) rfl (by kernel_rfl) (by kernel_rfl) (by kernel_rfl) (by kernel_rfl) (fun _ _ _ h=>h) (.inl ⟨by kernel_rfl,fun w' hS=>by have s_r7:=cellFrS r7 hS (only_ne (by simp));have s_r9:=cellFrS r9 hS (only_ne (by simp));go_simp;rfl⟩) hS0 ?_
 clear hS0
 refine wpAnyU_one7 (i:=4) rfl (by kernel_rfl) (by kernel_rfl) ?_
 go_simp
 refine ⟨by repeat (first | exact Fr.refl _ _ | apply Fr.drew | apply frOnly7),?_⟩
 refine wpAnyU_one7 (i:=5) rfl (by kernel_rfl) (by kernel_rfl) ?_
 go_simp
 refine ⟨by repeat (first | exact Fr.refl _ _ | apply Fr.drew | apply frOnly7),?_⟩
 refine wpAnyU_one7 (i:=6) rfl (by kernel_rfl) (by kernel_rfl) ?_
 go_simp
 refine ⟨by repeat (first | exact Fr.refl _ _ | apply Fr.drew | apply frOnly7),?_⟩
 refine wpAnyU_one7 (i:=7) rfl (by kernel_rfl) (by kernel_rfl) ?_
 go_simp
 refine ⟨by repeat (first | exact Fr.refl _ _ | apply Fr.drew | apply frOnly7),?_⟩
 refine wpAnyU_one7 (i:=8) rfl (by kernel_rfl) (by kernel_rfl) ?_
 go_simp
 refine ⟨by repeat (first | exact Fr.refl _ _ | apply Fr.drew | apply frOnly7),?_⟩
 refine wpAnyU_one7 (i:=9) rfl (by kernel_rfl) (by kernel_rfl) ?_
 go_simp
 refine ⟨by repeat (first | exact Fr.refl _ _ | apply Fr.drew | apply frOnly7),?_⟩
 refine wpAnyU_done (by kernel_rfl) ?_ _
 obtain ⟨w5,hw5⟩:∃ z,z=(((w2.setCell ⟨w.heap.size,1,none⟩ (.string R.key)).setCell ⟨w.heap.size,2,none⟩ (.bool false)).setCell ⟨w.heap.size,3,none⟩ (.int .i64 R.page)).drew:=⟨_,rfl⟩
 have f5:Fr (only w.heap.size) w2 w5:=by rw [hw5];exact ((((Fr.refl (only w.heap.size) w2).setCell (p:=⟨w.heap.size,1,none⟩) (.inl (Eq.refl _)) _).setCell (p:=⟨w.heap.size,2,none⟩) (.inl (Eq.refl _)) _).setCell (p:=⟨w.heap.size,3,none⟩) (.inl (Eq.refl _)) _).drew
 have BV5:Hid (Blk w5 w.heap.size 101 #[.string V.low,.string R.key,.bool false,.int .i64 R.page,.slice A' L'.length c',.bool V.gone]):=hid_ (by rw [hw5];exact (((U2.out.bv.set_ 1 _).set_ 2 _).set_ 3 _).drew)
 have BO5:=hid_ (U2.out.bo.fr f5 (only_ne (by omega)))
 have O5:=hid_ (own_fr O2.out f5 (fun k hk e=>own_blk_ne O2.out U2.out.bv (by decide) (by rw [hk,show k=w.heap.size from e])))
 have F5:=hid_ (U2.out.fr.then_only f5 (.inr (Nat.le_refl _)))
 rw [← hw5]
 clear hw5 f5 O2 U2 v1 v2 v3 y1 y2 y3 r7 r9
 cases ob with
 | false =>
  have v0:w5.cell? ⟨w.heap.size,0,none⟩=some (.string V.low):=BV5.out.cell' rfl
  have v1:w5.cell? ⟨w.heap.size,1,none⟩=some (.string R.key):=BV5.out.cell' rfl
  have v2:w5.cell? ⟨w.heap.size,2,none⟩=some (.bool false):=BV5.out.cell' rfl
  have v3:w5.cell? ⟨w.heap.size,3,none⟩=some (.int .i64 R.page):=BV5.out.cell' rfl
  have v4:w5.cell? ⟨w.heap.size,4,none⟩=some (.slice A' L'.length c'):=BV5.out.cell' rfl
  have v5:w5.cell? ⟨w.heap.size,5,none⟩=some (.bool V.gone):=BV5.out.cell' rfl
  have s0:w5.cell? ⟨w.heap.size+1+1,0,none⟩=some (.string nilS):=BO5.out.cell' rfl
  have z0:=BO5.out.frozen 0
  have s1:w5.cell? ⟨w.heap.size+1+1,1,none⟩=some (.string nilS):=BO5.out.cell' rfl
  have z1:=BO5.out.frozen 1
  have s2:w5.cell? ⟨w.heap.size+1+1,2,none⟩=some (.bool false):=BO5.out.cell' rfl
  have z2:=BO5.out.frozen 2
  have s3:w5.cell? ⟨w.heap.size+1+1,3,none⟩=some (.int .i64 0):=BO5.out.cell' rfl
  have z3:=BO5.out.frozen 3
  have s4:w5.cell? ⟨w.heap.size+1+1,4,none⟩=some (.slice none 0 0):=BO5.out.cell' rfl
  have z4:=BO5.out.frozen 4
  have s5:w5.cell? ⟨w.heap.size+1+1,5,none⟩=some (.bool false):=BO5.out.cell' rfl
  have z5:=BO5.out.frozen 5
  go_wp2_with fail
  clear s0 z0 s1 z1 s2 z2 s3 z3 s4 z4 s5 z5 v0 v1 v2 v3 v4 v5
  obtain ⟨qb,qf⟩:=box6 (BO5.out) (.string V.low) (.string R.key) (.bool false) (.int .i64 R.page) (.slice A' L'.length c') (.bool V.gone)
  have q0:=qb.cell' (i:=0) rfl
  have q1:=qb.cell' (i:=1) rfl
  have q2:=qb.cell' (i:=2) rfl
  have q3:=qb.cell' (i:=3) rfl
  have q4:=qb.cell' (i:=4) rfl
  have q5:=qb.cell' (i:=5) rfl
  have HFR:=hid_ (F5.out.then_only qf (.inr (by omega)))
  refine bodyPost_ret (v:=.tuple #[.agg #[(.string V.low),(.string R.key),(.bool false),(.int .i64 R.page),(.slice A' L'.length c'),(.bool V.gone)],.bool false]) ?_ rfl (.inr ⟨by rw [HUP'.out];rfl,{ V with rows:=L',high:=R.key,unb:=false,right:=R.page },A',L'.length,c',rfl,HFR.out⟩)
  simp [results,Tryz.results119,go_sem,q0,q1,q2,q3,q4,q5]
 | true =>
  have v0:w5.cell? ⟨w.heap.size,0,none⟩=some (.string V.low):=BV5.out.cell' rfl
  have v1:w5.cell? ⟨w.heap.size,1,none⟩=some (.string R.key):=BV5.out.cell' rfl
  have v2:w5.cell? ⟨w.heap.size,2,none⟩=some (.bool false):=BV5.out.cell' rfl
  have v3:w5.cell? ⟨w.heap.size,3,none⟩=some (.int .i64 R.page):=BV5.out.cell' rfl
  have v4:w5.cell? ⟨w.heap.size,4,none⟩=some (.slice A' L'.length c'):=BV5.out.cell' rfl
  have v5:w5.cell? ⟨w.heap.size,5,none⟩=some (.bool V.gone):=BV5.out.cell' rfl
  have s0:w5.cell? ⟨w.heap.size+1+1,0,none⟩=some (.string nilS):=BO5.out.cell' rfl
  have z0:=BO5.out.frozen 0
  have s1:w5.cell? ⟨w.heap.size+1+1,1,none⟩=some (.string nilS):=BO5.out.cell' rfl
  have z1:=BO5.out.frozen 1
  have s2:w5.cell? ⟨w.heap.size+1+1,2,none⟩=some (.bool false):=BO5.out.cell' rfl
  have z2:=BO5.out.frozen 2
  have s3:w5.cell? ⟨w.heap.size+1+1,3,none⟩=some (.int .i64 0):=BO5.out.cell' rfl
  have z3:=BO5.out.frozen 3
  have s4:w5.cell? ⟨w.heap.size+1+1,4,none⟩=some (.slice none 0 0):=BO5.out.cell' rfl
  have z4:=BO5.out.frozen 4
  have s5:w5.cell? ⟨w.heap.size+1+1,5,none⟩=some (.bool false):=BO5.out.cell' rfl
  have z5:=BO5.out.frozen 5
  go_wp2_with fail
  clear s0 z0 s1 z1 s2 z2 s3 z3 s4 z4 s5 z5 v0 v1 v2 v3 v4 v5
  obtain ⟨qb,qf⟩:=box6 (BO5.out) (.string V.low) (.string R.key) (.bool false) (.int .i64 R.page) (.slice A' L'.length c') (.bool V.gone)
  have q0:=qb.cell' (i:=0) rfl
  have q1:=qb.cell' (i:=1) rfl
  have q2:=qb.cell' (i:=2) rfl
  have q3:=qb.cell' (i:=3) rfl
  have q4:=qb.cell' (i:=4) rfl
  have q5:=qb.cell' (i:=5) rfl
  have HFR:=hid_ (F5.out.then_only qf (.inr (by omega)))
  have OF:=own_fr O5.out qf (fun k hk e=>own_blk_ne O5.out BO5.out (by decide) (by rw [hk,show k=w.heap.size+1+1 from e]))
  refine bodyPost_ret (v:=.tuple #[.agg #[(.string V.low),(.string R.key),(.bool false),(.int .i64 R.page),(.slice A' L'.length c'),(.bool V.gone)],.bool true]) ?_ rfl (.inl ⟨{ V with rows:=L',high:=R.key,unb:=false,right:=R.page },A',c',by rw [HUP'.out];rfl,rfl,lwin_of_own OF hb0 rfl HOK.out,HFR.out⟩)
  simp [results,Tryz.results119,go_sem,q0,q1,q2,q3,q4,q5]
set_option maxHeartbeats 8000000 in
theorem upl_merge (b0:Nat) (V:Lw) (R:Rc) (A:Option Addr) (c:Nat) (B:Option Addr) (d:Nat) (ve:Value) (w:World) (h:LwIn b0 w V A c) (hb0:b0≤w.heap.size) (hl:V.rows.length < 300000) (hR:Reads w 2 B R.rows.length (rwFlat R.rows)) (hk:SzOk R.key∧SzOk R.high∧SzOk R.val∧RwsOk R.rows) (hkd:R.kind=6) (hlr:V.rows.length+R.rows.length≤300000) :
  Calls Tryz.prog 119 #[lwV V (.slice A V.rows.length c),recV R (.slice B R.rows.length d) ve] w (UpLPost b0 V R w):=by
 obtain ⟨vr,hvr⟩:∃ vr,vr=Value.slice B R.rows.length d:=⟨_,rfl⟩
 rw [← hvr]
 have U:=hid_ (ul_start V R (.slice A V.rows.length c) vr ve w)
 obtain ⟨w0,hw0⟩:∃ w0,w0=ulW V R (.slice A V.rows.length c) vr ve w:=⟨_,rfl⟩
 rw [← hw0] at U
 have HK:=hid_ hk
 have HVR:=hid_ hvr
 have OK:=hid_ h.ok
 have H:=hid_ (h.keep U.out.fr)
 have HRR:=hid_ (hR.none_fr U.out.fr)
 have CAP:=hid_ h.caps
 clear h hk hR hvr
 go_enter Tryz.func119,Tryz.ntmps119
 go_upto_region 1 with fail
 change Code.wp _ _ _ _ (ulW V R (.slice A V.rows.length c) vr ve w)
 rw [← hw0]
 clear hw0
 have v4:w0.cell? ⟨w.heap.size,4,none⟩=some (.slice A V.rows.length c):=U.out.bv.cell' rfl
 have v5:w0.cell? ⟨w.heap.size,5,none⟩=some (.bool V.gone):=U.out.bv.cell' rfl
 have r0:w0.cell? ⟨w.heap.size+1,0,none⟩=some (.int .i64 R.kind):=U.out.br.cell' rfl
 have r7:w0.cell? ⟨w.heap.size+1,7,none⟩=some (.string R.key):=U.out.br.cell' rfl
 have r8:w0.cell? ⟨w.heap.size+1,8,none⟩=some (.string R.val):=U.out.br.cell' rfl
 rw [hkd] at r0
 have r2:w0.cell? ⟨w.heap.size+1,2,none⟩=some (.string R.high):=U.out.br.cell' rfl
 have r3:w0.cell? ⟨w.heap.size+1,3,none⟩=some (.bool R.unb):=U.out.br.cell' rfl
 have r5:w0.cell? ⟨w.heap.size+1,5,none⟩=some vr:=U.out.br.cell' rfl
 go_upto_region 19 with fail
 obtain ⟨w1,hw1⟩:∃ z,z=w0.alloc (.cells #[.string R.key,.string R.high,.bool R.unb] 206):=⟨_,rfl⟩
 have f1:Fr none_ w0 w1:=by rw [hw1];exact (Fr.refl none_ w0).alloc _
 have BS:Hid (Blk w1 w0.heap.size 206 #[.string R.key,.string R.high,.bool R.unb]):=hid_ (by rw [hw1];exact Blk.new w0 _ _)
 change Code.wp _ _ _ _ (w0.alloc (.cells #[.string R.key,.string R.high,.bool R.unb] 206))
 rw [← hw1]
 replace U:=hid_ (U.out.keep f1)
 replace H:=hid_ (H.out.keep f1)
 replace HRR:=hid_ (HRR.out.none_fr f1)
 clear hw1 f1 v4 v5 r0 r7 r8 r2 r3 r5
 go_cut [6] (fun u wq=>∃ ob:Bool,u=.bool ob∧(ob=true ↔ MergeOk V R)∧Fr none_ w1 wq)
 case first =>
  have v1:w1.cell? ⟨w.heap.size,1,none⟩=some (.string V.high):=U.out.bv.cell' rfl
  have v2:w1.cell? ⟨w.heap.size,2,none⟩=some (.bool V.unb):=U.out.bv.cell' rfl
  have r2:w1.cell? ⟨w.heap.size+1,2,none⟩=some (.string R.high):=U.out.br.cell' rfl
  have r3:w1.cell? ⟨w.heap.size+1,3,none⟩=some (.bool R.unb):=U.out.br.cell' rfl
  have r5:w1.cell? ⟨w.heap.size+1,5,none⟩=some vr:=U.out.br.cell' rfl
  have r7:w1.cell? ⟨w.heap.size+1,7,none⟩=some (.string R.key):=U.out.br.cell' rfl
  have p0:w1.cell? ⟨w0.heap.size,0,none⟩=some (.string R.key):=BS.out.cell' rfl
  have p1:w1.cell? ⟨w0.heap.size,1,none⟩=some (.string R.high):=BS.out.cell' rfl
  have p2:w1.cell? ⟨w0.heap.size,2,none⟩=some (.bool R.unb):=BS.out.cell' rfl
  rw [HVR.out] at r5
  cases hg:V.gone with
  | true =>
   have HG:=hid_ hg
   clear hg
   go_wp2_with fail
   go_meet
   case rel=>exact ⟨false,rfl,⟨(fun h=>by cases h),fun h=>by have:=HG.out;rw [h.1] at this;cases this⟩,Fr.refl _ _⟩
  | false =>
   have HG:=hid_ hg
   clear hg
   cases hu:V.unb with
   | true =>
    have HU:=hid_ hu
    rw [hu] at v2
    clear hu
    go_wp2_with fail
    go_meet
    case rel=>exact ⟨false,rfl,⟨(fun h=>by cases h),fun h=>by have:=HU.out;rw [h.2.1] at this;cases this⟩,Fr.refl _ _⟩
   | false =>
    have HU:=hid_ hu
    rw [hu] at v2
    clear hu
    by_cases hh:V.high=R.key
    case neg =>
     have hs1:=sEq_ne hh
     unfold sEq at hs1
     have HH:=hid_ hh
     clear hh
     go_wp2_with fail
     go_meet
     case rel=>exact ⟨false,rfl,⟨(fun h=>by cases h),fun h=>absurd h.2.2.1 HH.out⟩,Fr.refl _ _⟩
    have hs1:(V.high.toList==R.key.toList)=true:=sEq_iff.2 hh
    have HH:=hid_ hh
    clear hh
    go_wp2_with fail
    refine (soundL_ok R.rows B d R.key R.high R.unb w1 HRR.out HK.out.2.2.2 HK.out.1 HK.out.2.1).mono ?_
    rintro e w2 ⟨b,rfl,hb,hf2⟩
    have HB:=hid_ hb
    have F2:=hid_ hf2
    have r3:w2.cell? ⟨w.heap.size+1,3,none⟩=some (.bool R.unb):=(U.out.br.fr hf2 id).cell' rfl
    have r7:w2.cell? ⟨w.heap.size+1,7,none⟩=some (.string R.key):=(U.out.br.fr hf2 id).cell' rfl
    have r2:w2.cell? ⟨w.heap.size+1,2,none⟩=some (.string R.high):=(U.out.br.fr hf2 id).cell' rfl
    clear hb hf2 p0 p1 p2 v1 v2 r5 hs1
    cases b with
    | false =>
     go_wp2_with fail
     go_meet
     case rel=>exact ⟨false,rfl,⟨(fun h=>by cases h),fun h=>by have:=HB.out.2 h.2.2.2.1;simp at this⟩,F2.out⟩
    | true =>
     cases hru:R.unb with
     | true =>
      have HRU:=hid_ hru
      rw [hru] at r3
      clear hru
      go_wp2_with fail
      go_meet
      case rel=>exact ⟨true,rfl,⟨fun _=>⟨HG.out,HU.out,HH.out,HB.out.1 (by simp),.inl HRU.out⟩,fun _=>rfl⟩,F2.out⟩
     | false =>
      have HRU:=hid_ hru
      rw [hru] at r3
      clear hru
      go_wp2_with fail
      refine (compare_ok R.key R.high _ HK.out.1.le HK.out.2.1.le).mono ?_
      rintro e w3 ⟨rfl,q,hw3⟩
      have F3:Hid (Fr none_ w1 w3):=hid_ (by rw [hw3];exact F2.out.drewN q)
      have hc:=cmp_neg R.key R.high
      clear hw3
      cases hl2:ltS R.key R.high with
      | false =>
       rw [hl2] at hc
       have HL:=hid_ hl2
       clear hl2
       go_wp2_with fail
       go_meet
       case rel=>exact ⟨false,rfl,⟨(fun h=>by cases h),fun h=>by rcases h.2.2.2.2 with h | h;(have:=HRU.out;rw [h] at this;cases this);(have:=HL.out;rw [h] at this;cases this)⟩,F3.out⟩
      | true =>
       rw [hl2] at hc
       have HL:=hid_ hl2
       clear hl2
       go_wp2_with fail
       go_meet
       case rel=>exact ⟨true,rfl,⟨fun _=>⟨HG.out,HU.out,HH.out,HB.out.1 (by simp),.inr HL.out⟩,fun _=>rfl⟩,F3.out⟩
 case rest =>
 obtain ⟨ob,rfl,hob,hf⟩:=hcut
 have HOB:=hid_ hob
 replace U:=hid_ (U.out.keep hf)
 replace H:=hid_ (H.out.keep hf)
 replace HRR:=hid_ (HRR.out.none_fr hf)
 clear hob hf BS
 have v4:wc.cell? ⟨w.heap.size,4,none⟩=some (.slice A V.rows.length c):=U.out.bv.cell' rfl
 have r5:wc.cell? ⟨w.heap.size+1,5,none⟩=some vr:=U.out.br.cell' rfl
 rw [HVR.out] at r5
 have hsz:=U.out.fr.size
 go_wp2_with fail
 refine (joinR_ok V.rows R.rows A B c d wc H.out.rd HRR.out OK.out.rows HK.out.2.2.2).mono ?_
 rintro e w1 (⟨hj,A',c',rfl,hown,hf⟩ | ⟨hj,rfl,hf⟩)
 rotate_left
 ·have HJ:=hid_ hj
  replace U:=hid_ (U.out.keep hf)
  clear hf hj v4 r5
  have HNO:Hid (upL V R=none):=hid_ (upL_merge_no hkd (fun h=>by have:=HJ.out;rw [h.2] at this;cases this))
  have v0:w1.cell? ⟨w.heap.size,0,none⟩=some (.string V.low):=U.out.bv.cell' rfl
  have v1:w1.cell? ⟨w.heap.size,1,none⟩=some (.string V.high):=U.out.bv.cell' rfl
  have v2:w1.cell? ⟨w.heap.size,2,none⟩=some (.bool V.unb):=U.out.bv.cell' rfl
  have v3:w1.cell? ⟨w.heap.size,3,none⟩=some (.int .i64 V.right):=U.out.bv.cell' rfl
  have v4:w1.cell? ⟨w.heap.size,4,none⟩=some (.slice A V.rows.length c):=U.out.bv.cell' rfl
  have v5:w1.cell? ⟨w.heap.size,5,none⟩=some (.bool V.gone):=U.out.bv.cell' rfl
  have s0:w1.cell? ⟨w.heap.size+1+1,0,none⟩=some (.string nilS):=U.out.bo.cell' rfl
  have z0:=U.out.bo.frozen 0
  have s1:w1.cell? ⟨w.heap.size+1+1,1,none⟩=some (.string nilS):=U.out.bo.cell' rfl
  have z1:=U.out.bo.frozen 1
  have s2:w1.cell? ⟨w.heap.size+1+1,2,none⟩=some (.bool false):=U.out.bo.cell' rfl
  have z2:=U.out.bo.frozen 2
  have s3:w1.cell? ⟨w.heap.size+1+1,3,none⟩=some (.int .i64 0):=U.out.bo.cell' rfl
  have z3:=U.out.bo.frozen 3
  have s4:w1.cell? ⟨w.heap.size+1+1,4,none⟩=some (.slice none 0 0):=U.out.bo.cell' rfl
  have z4:=U.out.bo.frozen 4
  have s5:w1.cell? ⟨w.heap.size+1+1,5,none⟩=some (.bool false):=U.out.bo.cell' rfl
  have z5:=U.out.bo.frozen 5
  go_wp2_with fail
  clear s0 z0 s1 z1 s2 z2 s3 z3 s4 z4 s5 z5 v0 v1 v2 v3 v4 v5
  obtain ⟨qb,qf⟩:=box6 (U.out.bo) (.string V.low) (.string V.high) (.bool V.unb) (.int .i64 V.right) (.slice A V.rows.length c) (.bool V.gone)
  have q0:=qb.cell' (i:=0) rfl
  have q1:=qb.cell' (i:=1) rfl
  have q2:=qb.cell' (i:=2) rfl
  have q3:=qb.cell' (i:=3) rfl
  have q4:=qb.cell' (i:=4) rfl
  have q5:=qb.cell' (i:=5) rfl
  have HFR:=hid_ (U.out.fr.then_only qf (.inr (by omega)))
  refine bodyPost_ret (v:=.tuple #[.agg #[(.string V.low),(.string V.high),(.bool V.unb),(.int .i64 V.right),(.slice A V.rows.length c),(.bool V.gone)],.bool false]) ?_ rfl (.inr ⟨HNO.out,V,A,_,c,rfl,HFR.out⟩)
  simp [results,Tryz.results119,go_sem,q0,q1,q2,q3,q4,q5]
 have HJ:=hid_ hj
 obtain ⟨L',hL'⟩:∃ L',L'=V.rows ++ R.rows:=⟨_,rfl⟩
 have hll:V.rows.length+R.rows.length=L'.length:=by rw [hL',List.length_append]
 rw [← hL'] at hown
 rw [← hL']
 have HOK:Hid (Lw.Ok { V with rows:=L',high:=R.high,unb:=R.unb,right:=R.right }):=hid_ ⟨OK.out.low,HK.out.2.1,by show RwsOk L';rw [hL'];exact OK.out.rows.app HK.out.2.2.2 hlr⟩
 have HUP':Hid (upL V R=if ob=true then some { V with rows:=L',high:=R.high,unb:=R.unb,right:=R.right } else none):=hid_ (by rw [hL'];by_cases h:ob=true;rw [if_pos h,upL_merge_yes hkd (HOB.out.1 h) HJ.out];rw [if_neg h,upL_merge_no hkd (fun x=>h (HOB.out.2 x.1))])
 have O:=hid_ (own_base hown (by omega:w.heap.size≤wc.heap.size))
 replace U:=hid_ (U.out.keep hf)
 clear hf hown hL' v4 r5 hj hll
 obtain ⟨w2,hw2⟩:∃ z,z=w1:=⟨_,rfl⟩
 have v1:w1.cell? ⟨w.heap.size,1,none⟩=some (.string V.high):=U.out.bv.cell' rfl
 have v2:w1.cell? ⟨w.heap.size,2,none⟩=some (.bool V.unb):=U.out.bv.cell' rfl
 have v3:w1.cell? ⟨w.heap.size,3,none⟩=some (.int .i64 V.right):=U.out.bv.cell' rfl
 have v4:w1.cell? ⟨w.heap.size,4,none⟩=some (.slice A V.rows.length c):=U.out.bv.cell' rfl
 go_upto_region 23 with fail
 subst hw2
 have y1:=U.out.bv.frozen 1
 have y2:=U.out.bv.frozen 2
 have y3:=U.out.bv.frozen 3
 have y4:=U.out.bv.frozen 4
 have r2:w2.cell? ⟨w.heap.size+1,2,none⟩=some (.string R.high):=U.out.br.cell' rfl
 have r3:w2.cell? ⟨w.heap.size+1,3,none⟩=some (.bool R.unb):=U.out.br.cell' rfl
 have r4:w2.cell? ⟨w.heap.size+1,4,none⟩=some (.int .i64 R.right):=U.out.br.cell' rfl
 have hS0:(fun w':World=>Fr (only w.heap.size) w2 w') w2.drew:=(Fr.refl (only w.heap.size) w2).drew
 refine wp_region_U (m:=15) (S:=fun w':World=>Fr (only w.heap.size) w2 w') (by kernel_rfl) ?_
 refine wpAnyU_take2 (i:=0) (v:=_) rfl (by kernel_rfl) (by kernel_rfl) (by kernel_rfl) (by kernel_rfl) (fun _ _ _ h=>h) (.inl ⟨by kernel_rfl,fun w' hS=>by have s_r2:=cellFrS r2 hS (only_ne (by simp));have s_r3:=cellFrS r3 hS (only_ne (by simp));have s_r4:=cellFrS r4 hS (only_ne (by simp));go_simp;rfl⟩) hS0 ?_
 refine wpAnyU_take2 (i:=1) (v:=_) rfl (by kernel_rfl) (by kernel_rfl) (by kernel_rfl) (by kernel_rfl) (fun _ _ _ h=>h) (.inl ⟨by kernel_rfl,fun w' hS=>by have s_r2:=cellFrS r2 hS (only_ne (by simp));have s_r3:=cellFrS r3 hS (only_ne (by simp));have s_r4:=cellFrS r4 hS (only_ne (by simp));go_simp;rfl⟩) hS0 ?_
 refine wpAnyU_take2 (i:=2) (v:=_) rfl (by kernel_rfl) (by kernel_rfl) (by kernel_rfl) (by kernel_rfl) (fun _ _ _ h=>h) (.inl ⟨by kernel_rfl,fun w' hS=>by have s_r2:=cellFrS r2 hS (only_ne (by simp));have s_r3:=cellFrS r3 hS (only_ne (by simp));have s_r4:=cellFrS r4 hS (only_ne (by simp));go_simp;rfl⟩) hS0 ?_
 refine wpAnyU_take2 (i:=3) (v:=_) rfl (by kernel_rfl) (by kernel_rfl) (by kernel_rfl) (by kernel_rfl) (fun _ _ _ h=>h) (.inl ⟨by kernel_rfl,fun w' hS=>by have s_r2:=cellFrS r2 hS (only_ne (by simp));have s_r3:=cellFrS r3 hS (only_ne (by simp));have s_r4:=cellFrS r4 hS (only_ne (by simp));go_simp;rfl⟩) hS0 ?_
 refine wpAnyU_take2 (i:=4) (v:=_) rfl (by kernel_rfl) (by kernel_rfl) (by kernel_rfl) (by kernel_rfl) (fun _ _ _ h=>h) (.inl ⟨by kernel_rfl,fun w' hS=>by have s_r2:=cellFrS r2 hS (only_ne (by simp));have s_r3:=cellFrS r3 hS (only_ne (by simp));have s_r4:=cellFrS r4 hS (only_ne (by simp));go_simp;rfl⟩) hS0 ?_
 refine wpAnyU_take2 (i:=5) (v:=_) rfl (by kernel_rfl) (by kernel_rfl) (by kernel_rfl) (by kernel_rfl) (fun _ _ _ h=>h) (.inl ⟨by kernel_rfl,fun w' hS=>by have s_r2:=cellFrS r2 hS (only_ne (by simp));have s_r3:=cellFrS r3 hS (only_ne (by simp));have s_r4:=cellFrS r4 hS (only_ne (by simp));go_simp;rfl⟩) hS0 ?_
 refine wpAnyU_take2 (i:=6) (v:=_) rfl (by kernel_rfl) (by kernel_rfl) (by kernel_rfl) (by kernel_rfl) (fun _ _ _ h=>h) (.inl ⟨by kernel_rfl,fun w' hS=>by have s_r2:=cellFrS r2 hS (only_ne (by simp));have s_r3:=cellFrS r3 hS (only_ne (by simp));have s_r4:=cellFrS r4 hS (only_ne (by simp));go_simp;rfl⟩) hS0 ?_
 clear hS0
 refine wpAnyU_one7 (i:=7) rfl (by kernel_rfl) (by kernel_rfl) ?_
 go_simp
 refine ⟨by repeat (first | exact Fr.refl _ _ | apply Fr.drew | apply frOnly7),?_⟩
 refine wpAnyU_one7 (i:=8) rfl (by kernel_rfl) (by kernel_rfl) ?_
 go_simp
 refine ⟨by repeat (first | exact Fr.refl _ _ | apply Fr.drew | apply frOnly7),?_⟩
 refine wpAnyU_one7 (i:=9) rfl (by kernel_rfl) (by kernel_rfl) ?_
 go_simp
 refine ⟨by repeat (first | exact Fr.refl _ _ | apply Fr.drew | apply frOnly7),?_⟩
 refine wpAnyU_one7 (i:=10) rfl (by kernel_rfl) (by kernel_rfl) ?_
 go_simp
 refine ⟨by repeat (first | exact Fr.refl _ _ | apply Fr.drew | apply frOnly7),?_⟩
 refine wpAnyU_one7 (i:=11) rfl (by kernel_rfl) (by kernel_rfl) ?_
 go_simp
 refine ⟨by repeat (first | exact Fr.refl _ _ | apply Fr.drew | apply frOnly7),?_⟩
 refine wpAnyU_one7 (i:=12) rfl (by kernel_rfl) (by kernel_rfl) ?_
 go_simp
 refine ⟨by repeat (first | exact Fr.refl _ _ | apply Fr.drew | apply frOnly7),?_⟩
 refine wpAnyU_one7 (i:=13) rfl (by kernel_rfl) (by kernel_rfl) ?_
 go_simp
 refine ⟨by repeat (first | exact Fr.refl _ _ | apply Fr.drew | apply frOnly7),?_⟩
 refine wpAnyU_one7 (i:=14) rfl (by kernel_rfl) (by kernel_rfl) ?_
 go_simp
 refine ⟨by repeat (first | exact Fr.refl _ _ | apply Fr.drew | apply frOnly7),?_⟩
 refine wpAnyU_done (by kernel_rfl) ?_ _
 obtain ⟨w5,hw5⟩:∃ z,z=((((w2.setCell ⟨w.heap.size,4,none⟩ (.slice A' L'.length c')).setCell ⟨w.heap.size,1,none⟩ (.string R.high)).setCell ⟨w.heap.size,2,none⟩ (.bool R.unb)).setCell ⟨w.heap.size,3,none⟩ (.int .i64 R.right)).drew:=⟨_,rfl⟩
 have f5:Fr (only w.heap.size) w2 w5:=by rw [hw5];exact (frOnly7 (frOnly7 (frOnly7 (frOnly7 (Fr.refl _ w2) _) _) _) _).drew
 have BV5:Hid (Blk w5 w.heap.size 101 #[.string V.low,.string R.high,.bool R.unb,.int .i64 R.right,.slice A' L'.length c',.bool V.gone]):=hid_ (by rw [hw5];exact ((((U.out.bv.set_ 4 _).set_ 1 _).set_ 2 _).set_ 3 _).drew)
 have BO5:=hid_ (U.out.bo.fr f5 (only_ne (by omega)))
 have O5:=hid_ (own_fr O.out f5 (fun k hk e=>own_blk_ne O.out U.out.bv (by decide) (by rw [hk,show k=w.heap.size from e])))
 have F5:=hid_ (U.out.fr.then_only f5 (.inr (Nat.le_refl _)))
 rw [← hw5]
 clear hw5 f5 O U v1 v2 v3 v4 y1 y2 y3 y4 r2 r3 r4
 cases ob with
 | false =>
  have v0:w5.cell? ⟨w.heap.size,0,none⟩=some (.string V.low):=BV5.out.cell' rfl
  have v1:w5.cell? ⟨w.heap.size,1,none⟩=some (.string R.high):=BV5.out.cell' rfl
  have v2:w5.cell? ⟨w.heap.size,2,none⟩=some (.bool R.unb):=BV5.out.cell' rfl
  have v3:w5.cell? ⟨w.heap.size,3,none⟩=some (.int .i64 R.right):=BV5.out.cell' rfl
  have v4:w5.cell? ⟨w.heap.size,4,none⟩=some (.slice A' L'.length c'):=BV5.out.cell' rfl
  have v5:w5.cell? ⟨w.heap.size,5,none⟩=some (.bool V.gone):=BV5.out.cell' rfl
  have s0:w5.cell? ⟨w.heap.size+1+1,0,none⟩=some (.string nilS):=BO5.out.cell' rfl
  have z0:=BO5.out.frozen 0
  have s1:w5.cell? ⟨w.heap.size+1+1,1,none⟩=some (.string nilS):=BO5.out.cell' rfl
  have z1:=BO5.out.frozen 1
  have s2:w5.cell? ⟨w.heap.size+1+1,2,none⟩=some (.bool false):=BO5.out.cell' rfl
  have z2:=BO5.out.frozen 2
  have s3:w5.cell? ⟨w.heap.size+1+1,3,none⟩=some (.int .i64 0):=BO5.out.cell' rfl
  have z3:=BO5.out.frozen 3
  have s4:w5.cell? ⟨w.heap.size+1+1,4,none⟩=some (.slice none 0 0):=BO5.out.cell' rfl
  have z4:=BO5.out.frozen 4
  have s5:w5.cell? ⟨w.heap.size+1+1,5,none⟩=some (.bool false):=BO5.out.cell' rfl
  have z5:=BO5.out.frozen 5
  go_wp2_with fail
  clear s0 z0 s1 z1 s2 z2 s3 z3 s4 z4 s5 z5 v0 v1 v2 v3 v4 v5
  obtain ⟨qb,qf⟩:=box6 (BO5.out) (.string V.low) (.string R.high) (.bool R.unb) (.int .i64 R.right) (.slice A' L'.length c') (.bool V.gone)
  have q0:=qb.cell' (i:=0) rfl
  have q1:=qb.cell' (i:=1) rfl
  have q2:=qb.cell' (i:=2) rfl
  have q3:=qb.cell' (i:=3) rfl
  have q4:=qb.cell' (i:=4) rfl
  have q5:=qb.cell' (i:=5) rfl
  have HFR:=hid_ (F5.out.then_only qf (.inr (by omega)))
  refine bodyPost_ret (v:=.tuple #[.agg #[(.string V.low),(.string R.high),(.bool R.unb),(.int .i64 R.right),(.slice A' L'.length c'),(.bool V.gone)],.bool false]) ?_ rfl (.inr ⟨by rw [HUP'.out];rfl,{ V with rows:=L',high:=R.high,unb:=R.unb,right:=R.right },A',L'.length,c',rfl,HFR.out⟩)
  simp [results,Tryz.results119,go_sem,q0,q1,q2,q3,q4,q5]
 | true =>
  have v0:w5.cell? ⟨w.heap.size,0,none⟩=some (.string V.low):=BV5.out.cell' rfl
  have v1:w5.cell? ⟨w.heap.size,1,none⟩=some (.string R.high):=BV5.out.cell' rfl
  have v2:w5.cell? ⟨w.heap.size,2,none⟩=some (.bool R.unb):=BV5.out.cell' rfl
  have v3:w5.cell? ⟨w.heap.size,3,none⟩=some (.int .i64 R.right):=BV5.out.cell' rfl
  have v4:w5.cell? ⟨w.heap.size,4,none⟩=some (.slice A' L'.length c'):=BV5.out.cell' rfl
  have v5:w5.cell? ⟨w.heap.size,5,none⟩=some (.bool V.gone):=BV5.out.cell' rfl
  have s0:w5.cell? ⟨w.heap.size+1+1,0,none⟩=some (.string nilS):=BO5.out.cell' rfl
  have z0:=BO5.out.frozen 0
  have s1:w5.cell? ⟨w.heap.size+1+1,1,none⟩=some (.string nilS):=BO5.out.cell' rfl
  have z1:=BO5.out.frozen 1
  have s2:w5.cell? ⟨w.heap.size+1+1,2,none⟩=some (.bool false):=BO5.out.cell' rfl
  have z2:=BO5.out.frozen 2
  have s3:w5.cell? ⟨w.heap.size+1+1,3,none⟩=some (.int .i64 0):=BO5.out.cell' rfl
  have z3:=BO5.out.frozen 3
  have s4:w5.cell? ⟨w.heap.size+1+1,4,none⟩=some (.slice none 0 0):=BO5.out.cell' rfl
  have z4:=BO5.out.frozen 4
  have s5:w5.cell? ⟨w.heap.size+1+1,5,none⟩=some (.bool false):=BO5.out.cell' rfl
  have z5:=BO5.out.frozen 5
  go_wp2_with fail
  clear s0 z0 s1 z1 s2 z2 s3 z3 s4 z4 s5 z5 v0 v1 v2 v3 v4 v5
  obtain ⟨qb,qf⟩:=box6 (BO5.out) (.string V.low) (.string R.high) (.bool R.unb) (.int .i64 R.right) (.slice A' L'.length c') (.bool V.gone)
  have q0:=qb.cell' (i:=0) rfl
  have q1:=qb.cell' (i:=1) rfl
  have q2:=qb.cell' (i:=2) rfl
  have q3:=qb.cell' (i:=3) rfl
  have q4:=qb.cell' (i:=4) rfl
  have q5:=qb.cell' (i:=5) rfl
  have HFR:=hid_ (F5.out.then_only qf (.inr (by omega)))
  have OF:=own_fr O5.out qf (fun k hk e=>own_blk_ne O5.out BO5.out (by decide) (by rw [hk,show k=w.heap.size+1+1 from e]))
  refine bodyPost_ret (v:=.tuple #[.agg #[(.string V.low),(.string R.high),(.bool R.unb),(.int .i64 R.right),(.slice A' L'.length c'),(.bool V.gone)],.bool true]) ?_ rfl (.inl ⟨{ V with rows:=L',high:=R.high,unb:=R.unb,right:=R.right },A',c',by rw [HUP'.out];rfl,rfl,lwin_of_own OF hb0 rfl HOK.out,HFR.out⟩)
  simp [results,Tryz.results119,go_sem,q0,q1,q2,q3,q4,q5]
set_option maxHeartbeats 8000000 in
theorem upl_remove (b0:Nat) (V:Lw) (R:Rc) (A:Option Addr) (c:Nat) (B:Option Addr) (d:Nat) (ve:Value) (w:World) (h:LwIn b0 w V A c) (hb0:b0≤w.heap.size) (hl:V.rows.length < 300000) (hR:Reads w 2 B R.rows.length (rwFlat R.rows)) (hk:SzOk R.key∧SzOk R.high∧SzOk R.val∧RwsOk R.rows) (hkd:R.kind=5) :
  Calls Tryz.prog 119 #[lwV V (.slice A V.rows.length c),recV R (.slice B R.rows.length d) ve] w (UpLPost b0 V R w):=by
 obtain ⟨vr,hvr⟩:∃ vr,vr=Value.slice B R.rows.length d:=⟨_,rfl⟩
 rw [← hvr]
 have U:=hid_ (ul_start V R (.slice A V.rows.length c) vr ve w)
 obtain ⟨w0,hw0⟩:∃ w0,w0=ulW V R (.slice A V.rows.length c) vr ve w:=⟨_,rfl⟩
 rw [← hw0] at U
 have HK:=hid_ hk
 have HVR:=hid_ hvr
 have OK:=hid_ h.ok
 have H:=hid_ (h.keep U.out.fr)
 have HRR:=hid_ (hR.none_fr U.out.fr)
 have CAP:=hid_ h.caps
 clear h hk hR hvr
 have HUP:Hid (upL V R=if V.gone=true then none else some { V with gone:=true }):=hid_ (by unfold upL;rw [if_neg (by omega:¬ R.kind=2),if_neg (by omega:¬ R.kind=3),if_neg (by omega:¬ R.kind=4),if_neg (by omega:¬ R.kind=6),if_pos hkd])
 go_enter Tryz.func119,Tryz.ntmps119
 go_upto_region 1 with fail
 change Code.wp _ _ _ _ (ulW V R (.slice A V.rows.length c) vr ve w)
 rw [← hw0]
 clear hw0
 have v4:w0.cell? ⟨w.heap.size,4,none⟩=some (.slice A V.rows.length c):=U.out.bv.cell' rfl
 have v5:w0.cell? ⟨w.heap.size,5,none⟩=some (.bool V.gone):=U.out.bv.cell' rfl
 have r0:w0.cell? ⟨w.heap.size+1,0,none⟩=some (.int .i64 R.kind):=U.out.br.cell' rfl
 have r7:w0.cell? ⟨w.heap.size+1,7,none⟩=some (.string R.key):=U.out.br.cell' rfl
 have r8:w0.cell? ⟨w.heap.size+1,8,none⟩=some (.string R.val):=U.out.br.cell' rfl
 rw [hkd] at r0
 have y5:=U.out.bv.frozen 5
 go_upto_region 25 with fail
 obtain ⟨w1,hw1⟩:∃ z,z=w0.setCell ⟨w.heap.size,5,none⟩ (.bool true):=⟨_,rfl⟩
 have f1:Fr (only w.heap.size) w0 w1:=by rw [hw1];exact Fr.only1 w0 ⟨w.heap.size,5,none⟩ _
 have U1:Hid (UlSt w w1 { V with gone:=true } R (.slice A V.rows.length c) vr ve):=hid_ ⟨by rw [hw1];exact U.out.bv.set_ 5 _,U.out.br.fr f1 (only_ne (by omega)),U.out.bo.fr f1 (only_ne (by omega)),U.out.fr.then_only f1 (.inr (Nat.le_refl _))⟩
 have H1:=hid_ (H.out.far U.out.bv (by decide) f1)
 change Code.wp _ _ _ _ (w0.setCell ⟨w.heap.size,5,none⟩ (.bool true))
 rw [← hw1]
 clear hw1 f1 v4 v5 r0 r7 r8 y5 U H
 have r0:w1.cell? ⟨w.heap.size+1,0,none⟩=some (.int .i64 R.kind):=U1.out.br.cell' rfl
 rw [hkd] at r0
 cases hg:V.gone with
 | true =>
  have HG:=hid_ hg
  have hup:=HUP.out
  rw [hg] at hup
  have HUQ:=hid_ hup
  clear hg hup
  have v0:w1.cell? ⟨w.heap.size,0,none⟩=some (.string V.low):=U1.out.bv.cell' rfl
  have v1:w1.cell? ⟨w.heap.size,1,none⟩=some (.string V.high):=U1.out.bv.cell' rfl
  have v2:w1.cell? ⟨w.heap.size,2,none⟩=some (.bool V.unb):=U1.out.bv.cell' rfl
  have v3:w1.cell? ⟨w.heap.size,3,none⟩=some (.int .i64 V.right):=U1.out.bv.cell' rfl
  have v4:w1.cell? ⟨w.heap.size,4,none⟩=some (.slice A V.rows.length c):=U1.out.bv.cell' rfl
  have v5:w1.cell? ⟨w.heap.size,5,none⟩=some (.bool true):=U1.out.bv.cell' rfl
  have s0:w1.cell? ⟨w.heap.size+1+1,0,none⟩=some (.string nilS):=U1.out.bo.cell' rfl
  have z0:=U1.out.bo.frozen 0
  have s1:w1.cell? ⟨w.heap.size+1+1,1,none⟩=some (.string nilS):=U1.out.bo.cell' rfl
  have z1:=U1.out.bo.frozen 1
  have s2:w1.cell? ⟨w.heap.size+1+1,2,none⟩=some (.bool false):=U1.out.bo.cell' rfl
  have z2:=U1.out.bo.frozen 2
  have s3:w1.cell? ⟨w.heap.size+1+1,3,none⟩=some (.int .i64 0):=U1.out.bo.cell' rfl
  have z3:=U1.out.bo.frozen 3
  have s4:w1.cell? ⟨w.heap.size+1+1,4,none⟩=some (.slice none 0 0):=U1.out.bo.cell' rfl
  have z4:=U1.out.bo.frozen 4
  have s5:w1.cell? ⟨w.heap.size+1+1,5,none⟩=some (.bool false):=U1.out.bo.cell' rfl
  have z5:=U1.out.bo.frozen 5
  go_wp2_with fail
  clear s0 z0 s1 z1 s2 z2 s3 z3 s4 z4 s5 z5 v0 v1 v2 v3 v4 v5
  obtain ⟨qb,qf⟩:=box6 (U1.out.bo) (.string V.low) (.string V.high) (.bool V.unb) (.int .i64 V.right) (.slice A V.rows.length c) (.bool true)
  have q0:=qb.cell' (i:=0) rfl
  have q1:=qb.cell' (i:=1) rfl
  have q2:=qb.cell' (i:=2) rfl
  have q3:=qb.cell' (i:=3) rfl
  have q4:=qb.cell' (i:=4) rfl
  have q5:=qb.cell' (i:=5) rfl
  have HFR:=hid_ (U1.out.fr.then_only qf (.inr (by omega)))
  refine bodyPost_ret (v:=.tuple #[.agg #[(.string V.low),(.string V.high),(.bool V.unb),(.int .i64 V.right),(.slice A V.rows.length c),(.bool true)],.bool false]) ?_ rfl (.inr ⟨by rw [HUQ.out];rfl,{ V with gone:=true },A,_,c,rfl,HFR.out⟩)
  simp [results,Tryz.results119,go_sem,q0,q1,q2,q3,q4,q5]
 | false =>
  have HG:=hid_ hg
  have hup:=HUP.out
  rw [hg] at hup
  have HUQ:=hid_ hup
  clear hg hup
  have v0:w1.cell? ⟨w.heap.size,0,none⟩=some (.string V.low):=U1.out.bv.cell' rfl
  have v1:w1.cell? ⟨w.heap.size,1,none⟩=some (.string V.high):=U1.out.bv.cell' rfl
  have v2:w1.cell? ⟨w.heap.size,2,none⟩=some (.bool V.unb):=U1.out.bv.cell' rfl
  have v3:w1.cell? ⟨w.heap.size,3,none⟩=some (.int .i64 V.right):=U1.out.bv.cell' rfl
  have v4:w1.cell? ⟨w.heap.size,4,none⟩=some (.slice A V.rows.length c):=U1.out.bv.cell' rfl
  have v5:w1.cell? ⟨w.heap.size,5,none⟩=some (.bool true):=U1.out.bv.cell' rfl
  have s0:w1.cell? ⟨w.heap.size+1+1,0,none⟩=some (.string nilS):=U1.out.bo.cell' rfl
  have z0:=U1.out.bo.frozen 0
  have s1:w1.cell? ⟨w.heap.size+1+1,1,none⟩=some (.string nilS):=U1.out.bo.cell' rfl
  have z1:=U1.out.bo.frozen 1
  have s2:w1.cell? ⟨w.heap.size+1+1,2,none⟩=some (.bool false):=U1.out.bo.cell' rfl
  have z2:=U1.out.bo.frozen 2
  have s3:w1.cell? ⟨w.heap.size+1+1,3,none⟩=some (.int .i64 0):=U1.out.bo.cell' rfl
  have z3:=U1.out.bo.frozen 3
  have s4:w1.cell? ⟨w.heap.size+1+1,4,none⟩=some (.slice none 0 0):=U1.out.bo.cell' rfl
  have z4:=U1.out.bo.frozen 4
  have s5:w1.cell? ⟨w.heap.size+1+1,5,none⟩=some (.bool false):=U1.out.bo.cell' rfl
  have z5:=U1.out.bo.frozen 5
  go_wp2_with fail
  clear s0 z0 s1 z1 s2 z2 s3 z3 s4 z4 s5 z5 v0 v1 v2 v3 v4 v5
  obtain ⟨qb,qf⟩:=box6 (U1.out.bo) (.string V.low) (.string V.high) (.bool V.unb) (.int .i64 V.right) (.slice A V.rows.length c) (.bool true)
  have q0:=qb.cell' (i:=0) rfl
  have q1:=qb.cell' (i:=1) rfl
  have q2:=qb.cell' (i:=2) rfl
  have q3:=qb.cell' (i:=3) rfl
  have q4:=qb.cell' (i:=4) rfl
  have q5:=qb.cell' (i:=5) rfl
  have HFR:=hid_ (U1.out.fr.then_only qf (.inr (by omega)))
  have HL:=(H1.out.far U1.out.bo (by decide) qf)
  refine bodyPost_ret (v:=.tuple #[.agg #[(.string V.low),(.string V.high),(.bool V.unb),(.int .i64 V.right),(.slice A V.rows.length c),(.bool true)],.bool true]) ?_ rfl (.inl ⟨{ V with gone:=true },A,c,by rw [HUQ.out];rfl,rfl,⟨HL.own,⟨HL.ok.low,HL.ok.high,HL.ok.rows⟩⟩,HFR.out⟩)
  simp [results,Tryz.results119,go_sem,q0,q1,q2,q3,q4,q5]
set_option maxHeartbeats 8000000 in
theorem upl_other (b0:Nat) (V:Lw) (R:Rc) (A:Option Addr) (c:Nat) (B:Option Addr) (d:Nat) (ve:Value) (w:World) (h:LwIn b0 w V A c) (hb0:b0≤w.heap.size) (hl:V.rows.length < 300000) (hR:Reads w 2 B R.rows.length (rwFlat R.rows)) (hk:SzOk R.key∧SzOk R.high∧SzOk R.val∧RwsOk R.rows) (hkd:R.kind≠2∧R.kind≠3∧R.kind≠4∧R.kind≠5∧R.kind≠6) :
  Calls Tryz.prog 119 #[lwV V (.slice A V.rows.length c),recV R (.slice B R.rows.length d) ve] w (UpLPost b0 V R w):=by
 obtain ⟨vr,hvr⟩:∃ vr,vr=Value.slice B R.rows.length d:=⟨_,rfl⟩
 rw [← hvr]
 have U:=hid_ (ul_start V R (.slice A V.rows.length c) vr ve w)
 obtain ⟨w0,hw0⟩:∃ w0,w0=ulW V R (.slice A V.rows.length c) vr ve w:=⟨_,rfl⟩
 rw [← hw0] at U
 have HK:=hid_ hk
 have HVR:=hid_ hvr
 have OK:=hid_ h.ok
 have H:=hid_ (h.keep U.out.fr)
 have HRR:=hid_ (hR.none_fr U.out.fr)
 have CAP:=hid_ h.caps
 clear h hk hR hvr
 have HUP:Hid (upL V R=none):=hid_ (by unfold upL;split;rfl;rw [if_neg hkd.1,if_neg hkd.2.1,if_neg hkd.2.2.1,if_neg hkd.2.2.2.2,if_neg hkd.2.2.2.1])
 have e2:(R.kind==2)=false:=beq_eq_false_iff_ne.2 hkd.1
 have e3:(R.kind==3)=false:=beq_eq_false_iff_ne.2 hkd.2.1
 have e4:(R.kind==4)=false:=beq_eq_false_iff_ne.2 hkd.2.2.1
 have e5:(R.kind==5)=false:=beq_eq_false_iff_ne.2 hkd.2.2.2.1
 have e6:(R.kind==6)=false:=beq_eq_false_iff_ne.2 hkd.2.2.2.2
 clear hkd
 go_enter Tryz.func119,Tryz.ntmps119
 go_upto_region 1 with fail
 change Code.wp _ _ _ _ (ulW V R (.slice A V.rows.length c) vr ve w)
 rw [← hw0]
 clear hw0
 have v4:w0.cell? ⟨w.heap.size,4,none⟩=some (.slice A V.rows.length c):=U.out.bv.cell' rfl
 have v5:w0.cell? ⟨w.heap.size,5,none⟩=some (.bool V.gone):=U.out.bv.cell' rfl
 have r0:w0.cell? ⟨w.heap.size+1,0,none⟩=some (.int .i64 R.kind):=U.out.br.cell' rfl
 have r7:w0.cell? ⟨w.heap.size+1,7,none⟩=some (.string R.key):=U.out.br.cell' rfl
 have r8:w0.cell? ⟨w.heap.size+1,8,none⟩=some (.string R.val):=U.out.br.cell' rfl
 clear v4 v5
 have v0:w0.cell? ⟨w.heap.size,0,none⟩=some (.string V.low):=U.out.bv.cell' rfl
 have v1:w0.cell? ⟨w.heap.size,1,none⟩=some (.string V.high):=U.out.bv.cell' rfl
 have v2:w0.cell? ⟨w.heap.size,2,none⟩=some (.bool V.unb):=U.out.bv.cell' rfl
 have v3:w0.cell? ⟨w.heap.size,3,none⟩=some (.int .i64 V.right):=U.out.bv.cell' rfl
 have v4:w0.cell? ⟨w.heap.size,4,none⟩=some (.slice A V.rows.length c):=U.out.bv.cell' rfl
 have v5:w0.cell? ⟨w.heap.size,5,none⟩=some (.bool V.gone):=U.out.bv.cell' rfl
 have s0:w0.cell? ⟨w.heap.size+1+1,0,none⟩=some (.string nilS):=U.out.bo.cell' rfl
 have z0:=U.out.bo.frozen 0
 have s1:w0.cell? ⟨w.heap.size+1+1,1,none⟩=some (.string nilS):=U.out.bo.cell' rfl
 have z1:=U.out.bo.frozen 1
 have s2:w0.cell? ⟨w.heap.size+1+1,2,none⟩=some (.bool false):=U.out.bo.cell' rfl
 have z2:=U.out.bo.frozen 2
 have s3:w0.cell? ⟨w.heap.size+1+1,3,none⟩=some (.int .i64 0):=U.out.bo.cell' rfl
 have z3:=U.out.bo.frozen 3
 have s4:w0.cell? ⟨w.heap.size+1+1,4,none⟩=some (.slice none 0 0):=U.out.bo.cell' rfl
 have z4:=U.out.bo.frozen 4
 have s5:w0.cell? ⟨w.heap.size+1+1,5,none⟩=some (.bool false):=U.out.bo.cell' rfl
 have z5:=U.out.bo.frozen 5
 cases hg:V.gone with
 | true =>
  have HG:=hid_ hg
  rw [hg] at v5
  clear hg
  go_wp2_with fail
  clear s0 z0 s1 z1 s2 z2 s3 z3 s4 z4 s5 z5 v0 v1 v2 v3 v4 v5
  obtain ⟨qb,qf⟩:=box6 U.out.bo (.string V.low) (.string V.high) (.bool V.unb) (.int .i64 V.right) (.slice A V.rows.length c) (.bool true)
  have q0:=qb.cell' (i:=0) rfl
  have q1:=qb.cell' (i:=1) rfl
  have q2:=qb.cell' (i:=2) rfl
  have q3:=qb.cell' (i:=3) rfl
  have q4:=qb.cell' (i:=4) rfl
  have q5:=qb.cell' (i:=5) rfl
  have HFR:=hid_ (U.out.fr.then_only qf (.inr (by omega)))
  refine bodyPost_ret (v:=.tuple #[.agg #[(.string V.low),(.string V.high),(.bool V.unb),(.int .i64 V.right),(.slice A V.rows.length c),(.bool true)],.bool false]) ?_ rfl (.inr ⟨HUP.out,{ V with gone:=true },A,_,c,rfl,HFR.out⟩)
  simp [results,Tryz.results119,go_sem,q0,q1,q2,q3,q4,q5]
 | false =>
  have HG:=hid_ hg
  rw [hg] at v5
  clear hg
  go_wp2_with fail
  clear s0 z0 s1 z1 s2 z2 s3 z3 s4 z4 s5 z5 v0 v1 v2 v3 v4 v5
  obtain ⟨qb,qf⟩:=box6 U.out.bo (.string V.low) (.string V.high) (.bool V.unb) (.int .i64 V.right) (.slice A V.rows.length c) (.bool false)
  have q0:=qb.cell' (i:=0) rfl
  have q1:=qb.cell' (i:=1) rfl
  have q2:=qb.cell' (i:=2) rfl
  have q3:=qb.cell' (i:=3) rfl
  have q4:=qb.cell' (i:=4) rfl
  have q5:=qb.cell' (i:=5) rfl
  have HFR:=hid_ (U.out.fr.then_only qf (.inr (by omega)))
  refine bodyPost_ret (v:=.tuple #[.agg #[(.string V.low),(.string V.high),(.bool V.unb),(.int .i64 V.right),(.slice A V.rows.length c),(.bool false)],.bool false]) ?_ rfl (.inr ⟨HUP.out,{ V with gone:=false },A,_,c,rfl,HFR.out⟩)
  simp [results,Tryz.results119,go_sem,q0,q1,q2,q3,q4,q5]

theorem upl_ok (b0:Nat) (V:Lw) (R:Rc) (A:Option Addr) (c:Nat) (B:Option Addr) (d:Nat) (ve:Value) (w:World) (h:LwIn b0 w V A c) (hb0:b0≤w.heap.size) (hl:V.rows.length < 300000) (hR:Reads w 2 B R.rows.length (rwFlat R.rows)) (hk:SzOk R.key∧SzOk R.high∧SzOk R.val∧RwsOk R.rows) (hlr:V.rows.length+R.rows.length≤300000) :
    Calls Tryz.prog 119 #[lwV V (.slice A V.rows.length c),recV R (.slice B R.rows.length d) ve] w (UpLPost b0 V R w):=by
  by_cases h2:R.kind=2
  · exact upl_put b0 V R A c B d ve w h hb0 hl hR hk h2
  by_cases h3:R.kind=3
  · exact upl_del b0 V R A c B d ve w h hb0 hl hR hk h3
  by_cases h4:R.kind=4
  · exact upl_split b0 V R A c B d ve w h hb0 hl hR hk h4
  by_cases h5:R.kind=5
  · exact upl_remove b0 V R A c B d ve w h hb0 hl hR hk h5
  by_cases h6:R.kind=6
  · exact upl_merge b0 V R A c B d ve w h hb0 hl hR hk h6 hlr
  exact upl_other b0 V R A c B d ve w h hb0 hl hR hk ⟨h2,h3,h4,h5,h6⟩
end Go.Proofs.YthpkbppaaagaoaaGreat
