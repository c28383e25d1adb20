/- Texts of one proof, merged: Mc9, U7, Ldr10, LdrA10, Uw, Cmp, Qx, Vw, Join, Rw7, Res7, Qs7, Ux, Uv, LdrB10, Rs7. -/
import Derived.BigRegion
import Derived.Deep.MidRow
import Derived.IntWalk
import Derived.Deep.QuietTactic
import Derived.BigQuiet
import Derived.WalkSpells
import Derived.WalkLawsBesides
import Derived.Deep.DeepCutAuto
import Derived.Deep.RegionHeld3
import Derived.Test.YthpkbppaaagaoaaGreatMhA
namespace Go.Proofs.YthpkbppaaagaoaaGreat
set_option maxRecDepth 100000
set_option linter.unusedVariables false
open Go.RowKit

theorem mapAt_bad {T H:Nat} {ps:List Pg} (n:Int) (w:World) (h:Tbl w T H ps) (hb:pgC ps n≠0):Calls Tryz.prog 84 #[.pointer (some ⟨T,0,none⟩),.int .i64 n] w fun e w'=>e=.returned (.tuple #[.pointer none,errV (pgC ps n)])∧w=w':=by
  by_cases h1:n < 0∨(ps.length:Int)≤n
  · have e:pgC ps n=1:=if_pos h1
    rw [e]
    exact mapAt_arg T H ps n w h h1
  · obtain ⟨i,rfl⟩:∃ i:Nat,n=(i:Int):=⟨n.toNat,by omega⟩
    obtain ⟨⟨u,s,g⟩,hp⟩:∃ p,ps[i]?=some p:=⟨_,List.getElem?_eq_getElem (by omega)⟩
    cases u with
    | true =>
      have e:pgC ps (i:Int)=0:=by unfold pgC;rw [if_neg h1];simp [hp]
      exact absurd e hb
    | false =>
      have e:pgC ps (i:Int)=6:=by unfold pgC;rw [if_neg h1];simp [hp]
      rw [e]
      exact mapAt_none T H ps i s g w h hp
theorem pgC_zero {ps:List Pg} {n:Int} (h:pgC ps n=0):∃ (i:Nat) (s g:Int),n=(i:Int)∧ps[i]?=some (true,s,g):=by
  unfold pgC at h
  split at h
  · cases h
  · rename_i h1
    split at h
    · rename_i h2
      obtain ⟨⟨u,s,g⟩,hp⟩:∃ p,ps[n.toNat]?=some p:=⟨_,List.getElem?_eq_getElem (by omega)⟩
      rw [hp] at h2
      obtain rfl:u=true:=by simpa using h2
      exact ⟨n.toNat,s,g,by omega,hp⟩
    · cases h
theorem pgC_used {ps:List Pg} {i:Nat} {s g:Int} (h:ps[i]?=some (true,s,g)):pgC ps (i:Int)=0:=by
  have hlt:=(List.getElem?_eq_some_iff.1 h).1
  unfold pgC
  rw [if_neg (by omega)]
  simp [h]
def TakeR (ps:List Pg) (n c:Int) (ps':List Pg):Prop:=
  (∃ (i:Nat) (s g:Int),ps[i]?=some (false,s,g)∧(∀ (j:Nat) (p:Pg),j < i→ps[j]?=some p→p.1=true)∧n=(i:Int)∧c=0∧ps'=ps.set i (true,0,0)) ∨
  ((∀ (j:Nat) (p:Pg),ps[j]?=some p→p.1=true)∧n=0∧c=3∧ps'=ps)
theorem first_free:∀ ps:List Pg,(∃ (i:Nat) (s g:Int),ps[i]?=some (false,s,g)∧(∀ (j:Nat) (p:Pg),j < i→ps[j]?=some p→p.1=true))∨(∀ (j:Nat) (p:Pg),ps[j]?=some p→p.1=true)
  | []=>.inr (fun j p h=>by simp at h)
  | (false,s,g) :: r=>.inl ⟨0,s,g,rfl,fun j p hj=>absurd hj (Nat.not_lt_zero j)⟩
  | (true,s,g) :: r=>by
    rcases first_free r with ⟨i,s',g',h1,h2⟩ | h
    · refine .inl ⟨i+1,s',g',by simpa using h1,fun j p hj hp=>?_⟩
      cases j with
      | zero => obtain rfl : (true, s, g) = p := by simpa using hp
                rfl
      | succ j=>exact h2 j p (by omega) (by simpa using hp)
    · refine .inr (fun j p hp=>?_)
      cases j with
      | zero => obtain rfl : (true, s, g) = p := by simpa using hp
                rfl
      | succ j=>exact h j p (by simpa using hp)
theorem take_any {T H:Nat} {ps:List Pg} (w:World) (h:Tbl w T H ps):Calls Tryz.prog 58 #[.pointer (some ⟨T,0,none⟩)] w fun e w'=>∃ n c ps',e=.returned (.tuple #[.int .i64 n,errOf c])∧TakeR ps n c ps'∧Tbl w' T H ps'∧Fr (only H) w w':=by
  rcases first_free ps with ⟨i,s,g,h1,h2⟩ | h1
  · refine (mtake_ok T H ps i s g w h h1 h2).mono ?_
    rintro e w' ⟨rfl,rfl⟩
    exact ⟨(i:Int),0,ps.set i (true,0,0),rfl,.inl ⟨i,s,g,h1,h2,rfl,rfl,rfl⟩,h.set_ (List.getElem?_eq_some_iff.1 h1).1 _,setPg_only _ _ _ _⟩
  · refine (take_full T H ps w h h1).mono ?_
    rintro e w' ⟨rfl,rfl⟩
    exact ⟨0,3,ps,rfl,.inr ⟨h1,rfl,rfl,rfl⟩,h,Fr.refl _ _⟩
def HeadR (ps:List Pg) (n s g c:Int):Prop:=(∃ i:Nat,n=(i:Int)∧ps[i]?=some (true,s,g)∧c=0)∨(pgC ps n≠0∧s=0∧g=0∧c=pgC ps n)
theorem head_any {T H:Nat} {ps:List Pg} (n:Int) (w:World) (h:Tbl w T H ps):Calls Tryz.prog 51 #[.pointer (some ⟨T,0,none⟩),.int .i64 n] w fun e w'=>∃ s g c,e=.returned (.tuple #[.agg #[.int .i64 s,.int .i64 g],errOf c])∧HeadR ps n s g c∧Fr none_ w w':=by
  by_cases hb:pgC ps n=0
  · obtain ⟨i,s,g,rfl,hp⟩:=pgC_zero hb
    exact (head_ok T H ps i s g w h hp).mono fun e w' hh=>⟨s,g,0,hh.1,.inl ⟨i,rfl,hp,rfl⟩,hh.2⟩
  · exact (head_bad n w h hb).mono fun e w' hh=>⟨0,0,pgC ps n,by rw [errOf_pos hb];exact hh.1,.inr ⟨hb,rfl,rfl,rfl⟩,hh.2⟩
def SwapR (ps:List Pg) (n a b c d:Int) (ok:Bool) (k:Int) (ps':List Pg):Prop:=
  (∃ (i:Nat) (s g:Int),n=(i:Int)∧ps[i]?=some (true,s,g)∧ok=(s==a && g==b)∧k=0∧ps'=swapPs ps i s g a b c d)∨(pgC ps n≠0∧ok=false∧k=pgC ps n∧ps'=ps)
theorem swap_any {T H:Nat} {ps:List Pg} (n a b c d:Int) (w:World) (h:Tbl w T H ps):Calls Tryz.prog 54 #[.pointer (some ⟨T,0,none⟩),.int .i64 n,.agg #[.int .i64 a,.int .i64 b],.agg #[.int .i64 c,.int .i64 d]] w fun e w'=>∃ ok k ps',e=.returned (.tuple #[.bool ok,errOf k])∧SwapR ps n a b c d ok k ps'∧Tbl w' T H ps'∧Fr (only H) w w':=by
  by_cases hb:pgC ps n=0
  · obtain ⟨i,s,g,rfl,hp⟩:=pgC_zero hb
    exact (swap_ok T H ps i s g a b c d w h hp).mono fun e w' hh=>⟨_,0,_,hh.1,.inl ⟨i,s,g,rfl,hp,rfl,rfl,rfl⟩,hh.2.1,hh.2.2⟩
  · exact (swap_err (some ⟨T,0,none⟩) n (pgC ps n) a b c d w (fun w1 hf=>mapAt_bad n w1 (h.keep hf) hb)).mono fun e w' hh=>⟨false,pgC ps n,ps,by rw [errOf_pos hb];exact hh.1,.inr ⟨hb,rfl,rfl,rfl⟩,h.keep hh.2,hh.2.mono (fun _ _ e=>e.elim)⟩
def AllocR (last:Int) (ss:List Sl) (R:Rc) (sl gn c:Int) (ss':List Sl):Prop:=
  (∃ (i:Nat) (s:Sl) (vr ve:Value),ss[i]?=some s∧(s.used=false∧s.gen≠last)∧(∀ (j:Nat) (t:Sl),j < i→ss[j]?=some t→t.used=true∨t.gen=last)∧sl=(i:Int)+1∧gn=s.gen+1∧c=0∧ss'=ss.set i ⟨s.gen+1,true,R,vr,ve⟩) ∨
  ((∀ (j:Nat) (t:Sl),ss[j]?=some t→t.used=true∨t.gen=last)∧sl=0∧gn=0∧c=allocErr ss∧ss'=ss)
theorem allocErr_pos (ss:List Sl):allocErr ss≠0:=by unfold allocErr;split <;> decide
theorem alloc_any (R:Rc) (A:Option Addr) (c:Nat) (B:Option Addr) (d:Nat) {w:World} {a G:Nat} {last:Int} {ss:List Sl} (h:Ar w a G last ss) (hr:RecReads w R A B) (hz:R.rows.length≤1000∧R.ents.length≤1000) :
    Calls Tryz.prog 53 #[.pointer (some ⟨a,0,none⟩),recV R (.slice A R.rows.length c) (.slice B R.ents.length d)] w fun e w'=>∃ sl gn k ss',e=.returned (.tuple #[.agg #[.int .i64 sl,.int .i64 gn],errOf k])∧AllocR last ss R sl gn k ss'∧Ar w' a G last ss'∧Fr (only G) w w':=by
  refine (alloc_ok R A c B d w a G last ss h hr hz).mono ?_
  rintro e w' (⟨i,s,vr,ve,h1,h2,h3,rfl,hA,-,hf⟩ | ⟨h1,rfl,hf⟩)
  · exact ⟨_,_,0,_,rfl,.inl ⟨i,s,vr,ve,h1,h2,h3,rfl,rfl,rfl,rfl⟩,hA,hf⟩
  · exact ⟨0,0,allocErr ss,ss,by rw [errOf_pos (allocErr_pos ss)],.inr ⟨h1,rfl,rfl,rfl,rfl⟩,h.keep hf,hf.mono (fun _ _ e=>e.elim)⟩
def FreeR (ss:List Sl) (sl gn c:Int) (ss':List Sl):Prop:=
  (∃ (i:Nat) (s:Sl),sl=(i:Int)+1∧ss[i]?=some s∧s.used=true∧s.gen=gn∧c=0∧ss'=ss.set i ⟨s.gen,false,Rc.zero,.slice none 0 0,.slice none 0 0⟩)∨(atC ss sl gn≠0∧c=atC ss sl gn∧ss'=ss)
theorem free_any (sl gn:Int) {w:World} {a G:Nat} {last:Int} {ss:List Sl} (h:Ar w a G last ss):Calls Tryz.prog 101 #[.pointer (some ⟨a,0,none⟩),.agg #[.int .i64 sl,.int .i64 gn]] w fun e w'=>∃ c ss',e=.returned (errOf c)∧FreeR ss sl gn c ss'∧Ar w' a G last ss'∧Fr (only G) w w':=by
  by_cases hb:atC ss sl gn=0
  · obtain ⟨i,s,h1,h2,h3,h4⟩:=at_live hb
    refine (free_ok sl gn h h2 h1 h3 h4).mono ?_
    rintro e w' ⟨rfl,hA,hf⟩
    exact ⟨0,_,rfl,.inl ⟨i,s,h1,h2,h3,h4,rfl,rfl⟩,hA,hf⟩
  · exact (free_bad sl gn h hb).mono fun e w' hh=>⟨atC ss sl gn,ss,by rw [errOf_pos hb];exact hh.1,.inr ⟨hb,rfl,rfl⟩,h.keep hh.2,hh.2.mono (fun _ _ e=>e.elim)⟩
def LoadR (ss:List Sl) (sl gn:Int) (R:Rc) (c:Int):Prop:=
  (∃ (i:Nat) (s:Sl),sl=(i:Int)+1∧ss[i]?=some s∧s.used=true∧s.gen=gn∧c=0∧R=s.R)∨(atC ss sl gn≠0∧c=atC ss sl gn∧R=Rc.zero)
theorem load_any (sl gn:Int) {w:World} {a G:Nat} {last:Int} {ss:List Sl} (h:Ar w a G last ss):Calls Tryz.prog 59 #[.pointer (some ⟨a,0,none⟩),.agg #[.int .i64 sl,.int .i64 gn]] w fun e w'=>∃ R A c B d k,e=.returned (.tuple #[recV R (.slice A R.rows.length c) (.slice B R.ents.length d),errOf k])∧LoadR ss sl gn R k∧RecOwn w' w.heap.size R (.slice A R.rows.length c) (.slice B R.ents.length d)∧Fr none_ w w':=by
  by_cases hb:atC ss sl gn=0
  · obtain ⟨i,s,h1,h2,h3,h4⟩:=at_live hb
    refine (load_ok sl gn h h2 h1 h3 h4).mono ?_
    rintro e w' ⟨A,c,B,d,rfl,hO,hf⟩
    exact ⟨s.R,A,c,B,d,0,rfl,.inl ⟨i,s,h1,h2,h3,h4,rfl,rfl⟩,hO,hf⟩
  · refine (load_bad sl gn h hb).mono ?_
    rintro e w' ⟨rfl,hf⟩
    exact ⟨Rc.zero,none,0,none,0,atC ss sl gn,by rw [errOf_pos hb];rfl,.inr ⟨hb,rfl,rfl⟩,RecOwn.zero _ _,hf⟩
section
variable (m:Nat) (k:Int) (l:Lm) (x:St) (w:World)
theorem memTake_any (h:Mm w m k l x) (h0:0≤k) (h1:k≤100000):Calls Tryz.prog 29 #[.pointer (some ⟨m,0,none⟩)] w fun e w'=>∃ n c ps' v,e=.returned (.tuple #[.int .i64 n,v])∧TakeR x.ps n c ps'∧Ev w' v sTable9 0 c∧Mm w' m (k+1) l { x with ps:=ps' }∧Fr (mall m x) w w':=by
  have H:=hid_ h
  clear h
  go_enter Tryz.func29,Tryz.ntmps29
  go_wp2_with fail
  refine (tick_mm m k l x _ H.out h0 h1).mono ?_
  rintro e w1 ⟨rfl,hM1,hf1⟩
  have M1:=hid_ hM1
  have F1:=hid_ hf1
  clear hM1 hf1
  have c8:w1.cell? ⟨m,8,none⟩=some (.pointer (some ⟨x.T,0,none⟩)):=M1.out.b.cell' rfl
  go_wp2_with fail
  refine (take_any _ M1.out.tb).mono ?_
  rintro e w2 ⟨n,c,ps',rfl,hR,hT2,hf2⟩
  have R2:=hid_ hR
  have M2:=hid_ (M1.out.tbPut hT2 hf2)
  have F2:=hid_ (mall_tr F1.out (mall_H hf2))
  clear hR hT2 hf2 c8
  go_wp2_with fail
  refine (fat_ev sTable9 0 c _).mono ?_
  rintro e w3 ⟨v,rfl,hev,hf3⟩
  have E3:=hid_ hev
  have F3:=hid_ hf3
  clear hev hf3
  go_wp2_with fail
  go_ret2
  exact ⟨n,c,ps',v,rfl,R2.out,E3.out,M2.out.keep F3.out,F2.out.then_none F3.out⟩
theorem memHead_any (h:Mm w m k l x) (h0:0≤k) (h1:k≤100000) (n:Int):Calls Tryz.prog 19 #[.pointer (some ⟨m,0,none⟩),.int .i64 n] w fun e w'=>∃ s g c v,e=.returned (.tuple #[.agg #[.int .i64 s,.int .i64 g],v])∧HeadR x.ps n s g c∧Ev w' v sTable9 n c∧Mm w' m (k+1) l x∧Fr (mall m x) w w':=by
 have H:=hid_ (h.keep ((Fr.refl none_ w).alloc (.cells #[.int .i64 0,.int .i64 0] 36)))
 have hltm:=h.b.lt
 have B0:=hid_ (Blk.new w 36 #[.int .i64 0,.int .i64 0])
 have F0:=hid_ ((Fr.refl none_ w).alloc (.cells #[.int .i64 0,.int .i64 0] 36))
 clear h
 go_enter Tryz.func19,Tryz.ntmps19
 go_wp2_with fail
 refine (tick_mm m k l x _ H.out h0 h1).mono ?_
 rintro e w1 ⟨rfl,hM1,hf1⟩
 have M1:=hid_ hM1
 have nB:¬ mall m x w.heap.size:=H.out.nref B0.out
 have B4:=hid_ (B0.out.fr hf1 nB)
 have F1:=hid_ ((F0.out.mono (fun _ _ e=>e.elim)).trans (S':=mall m x) (S'':=mall m x) hf1 (fun _ _=>id) (fun _ _=>id):Fr (mall m x) w w1)
 clear hM1 hf1 nB
 have c8:w1.cell? ⟨m,8,none⟩=some (.pointer (some ⟨x.T,0,none⟩)):=M1.out.b.cell' rfl
 go_wp2_with fail
 refine (head_any n _ M1.out.tb).mono ?_
 rintro e w2 ⟨s,g,c,rfl,hR,hf2⟩
 have R2:=hid_ hR
 clear hR
 replace M1:=hid_ (M1.out.keep hf2)
 replace F1:=hid_ (F1.out.then_none hf2)
 replace B4:=hid_ (B4.out.fr hf2 id)
 clear hf2 c8
 go_upto_region 5 with fail
 obtain ⟨w3,hw3⟩:∃ z,z=w2.alloc (.cells #[.int .i64 s,.int .i64 g] 36):=⟨_,rfl⟩
 have fw3:Fr none_ w2 w3:=by rw [hw3];exact (Fr.refl none_ w2).alloc _
 have B6:Hid (Blk w3 w2.heap.size 36 (#[.int .i64 s,.int .i64 g])):=hid_ (by rw [hw3];exact Blk.new w2 _ _)
 replace M1:=hid_ (M1.out.keep fw3)
 replace F1:=hid_ (F1.out.then_none fw3)
 replace B4:=hid_ (B4.out.fr fw3 id)
 change Code.wp _ _ _ _ (w2.alloc (.cells #[.int .i64 s,.int .i64 g] 36))
 rw [← hw3]
 clear hw3 fw3
 have x0:w3.cell? ⟨w2.heap.size,0,none⟩=some (.int .i64 s):=B6.out.cell' rfl
 have x1:w3.cell? ⟨w2.heap.size,1,none⟩=some (.int .i64 g):=B6.out.cell' rfl
 have hS1:(fun w':World=>Fr none_ w3 w') w3.drew:=(Fr.refl none_ w3).drew
 refine wp_region_U (m:=4) (S:=fun w':World=>Fr none_ w3 w') (by kernel_rfl) ?_
 refine wpAnyU_take2 (i:=0) (v:=_) rfl (by kernel_rfl) (by kernel_rfl) (by kernel_rfl) (by kernel_rfl) (fun _ _ _ h=>h) (.inl ⟨by kernel_rfl,fun w' hS=>by have s_0:=cellFr x0 hS;have s_1:=cellFr x1 hS;go_simp;rfl⟩) hS1 ?_
 refine wpAnyU_take2 (i:=1) (v:=_) rfl (by kernel_rfl) (by kernel_rfl) (by kernel_rfl) (by kernel_rfl) (fun _ _ _ h=>h) (.inl ⟨by kernel_rfl,fun w' hS=>by go_simp;rfl⟩) hS1 ?_
 refine wpAnyU_take2 (i:=2) (v:=_) rfl (by kernel_rfl) (by kernel_rfl) (by kernel_rfl) (by kernel_rfl) (fun _ _ _ h=>h) (.inl ⟨by kernel_rfl,fun w' hS=>by go_simp;rfl⟩) hS1 ?_
 refine wpAnyU_oneW (i:=3) rfl (by kernel_rfl) (by kernel_rfl) ?_
 go_simp
 refine (fat_ev sTable9 n c _).mono ?_
 rintro e w4 ⟨v,rfl,hev,hf4⟩
 have fS4:=hS1.then_none hf4
 refine ⟨fS4,?_⟩
 have E4:=hid_ hev
 replace M1:=hid_ (M1.out.keep fS4)
 replace F1:=hid_ (F1.out.then_none fS4)
 replace B4:=hid_ (B4.out.fr fS4 id)
 replace B6:=hid_ (B6.out.fr fS4 id)
 have y0:=B4.out.frozen 0
 have y1:=B4.out.frozen 1
 have z0:w4.cell? ⟨w.heap.size,0,none⟩=some (.int .i64 0):=B4.out.cell' rfl
 have z1:w4.cell? ⟨w.heap.size,1,none⟩=some (.int .i64 0):=B4.out.cell' rfl
 clear hS1 x0 x1 hev hf4 fS4
 refine wpAnyU_oneW (i:=4) rfl (by kernel_rfl) (by kernel_rfl) ?_
 go_simp
 clear y0 y1 z0 z1
 obtain ⟨qb,qf⟩:=box2 B4.out (.int .i64 s) (.int .i64 g)
 obtain ⟨w5,hw5⟩:∃ z,z=((w4.setCell ⟨w.heap.size,0,none⟩ (.int .i64 s)).setCell ⟨w.heap.size,1,none⟩ (.int .i64 g)):=⟨_,rfl⟩
 have qb2:Blk w5 w.heap.size 36 #[.int .i64 s,.int .i64 g]:=by rw [hw5];exact qb
 have qf2:Fr (only w.heap.size) w4 w5:=by rw [hw5];exact qf
 rw [← hw5]
 clear hw5 qb qf
 have q0:=qb2.cell' (i:=0) rfl
 have q1:=qb2.cell' (i:=1) rfl
 refine wpAnyU_oneW (i:=5) rfl (by kernel_rfl) (by kernel_rfl) ?_
 go_simp
 refine wpAnyU_done (by kernel_rfl) ?_ _
 go_wp2_with fail
 refine bodyPost_ret (v:=.tuple #[.agg #[.int .i64 s,.int .i64 g],v]) ?_ rfl ⟨s,g,c,v,rfl,R2.out,E4.out.only qf2 B4.out (by decide),M1.out.ref B4.out qf2,F1.out.then_only qf2 (.inr (Nat.le_refl _))⟩
 simp [results,Tryz.results19,go_sem,q0,q1]
set_option maxHeartbeats 2000000 in
theorem memSwap_any (h:Mm w m k l x) (h0:0≤k) (h1:k≤100000) (n a b c d:Int):Calls Tryz.prog 21 #[.pointer (some ⟨m,0,none⟩),.int .i64 n,.agg #[.int .i64 a,.int .i64 b],.agg #[.int .i64 c,.int .i64 d]] w fun e w'=>∃ ok kk ps' v,e=.returned (.tuple #[.bool ok,v])∧SwapR x.ps n a b c d ok kk ps'∧Ev w' v sTable9 n kk∧Mm w' m (k+1) l { x with ps:=ps' }∧Fr (mall m x) w w':=by
 obtain ⟨w0,hw0⟩:∃ z,z=(w.alloc (.cells #[.int .i64 a,.int .i64 b] 36)).alloc (.cells #[.int .i64 c,.int .i64 d] 36):=⟨_,rfl⟩
 have f0:Fr none_ w w0:=by rw [hw0];exact ((Fr.refl none_ w).alloc _).alloc _
 have B0:=hid_ (show Blk w0 w.heap.size 36 #[.int .i64 a,.int .i64 b] by rw [hw0];exact (Blk.new w _ _).alloc _)
 have B1:=hid_ (show Blk w0 (w.heap.size+1) 36 #[.int .i64 c,.int .i64 d] by rw [hw0];have:=Blk.new (w.alloc (.cells #[.int .i64 a,.int .i64 b] 36)) 36 #[.int .i64 c,.int .i64 d];rwa [World.size_alloc] at this)
 have H:=hid_ (h.keep f0)
 have F0:=hid_ f0
 clear h f0
 go_enter Tryz.func21,Tryz.ntmps21
 go_upto_region 1 with fail
 change Code.wp _ _ _ _ ((w.alloc (.cells #[.int .i64 a,.int .i64 b] 36)).alloc (.cells #[.int .i64 c,.int .i64 d] 36))
 rw [← hw0]
 clear hw0
 go_wp2_with fail
 refine (tick_mm m k l x _ H.out h0 h1).mono ?_
 rintro e w1 ⟨rfl,hM1,hf1⟩
 have M1:=hid_ hM1
 have B4:=hid_ (B0.out.fr hf1 (H.out.nref B0.out))
 have B5:=hid_ (B1.out.fr hf1 (H.out.nref B1.out))
 have F1:=hid_ ((F0.out.mono (fun _ _ e=>e.elim)).trans (S':=mall m x) (S'':=mall m x) hf1 (fun _ _=>id) (fun _ _=>id):Fr (mall m x) w w1)
 clear hM1 hf1
 have c8:w1.cell? ⟨m,8,none⟩=some (.pointer (some ⟨x.T,0,none⟩)):=M1.out.b.cell' rfl
 have x0:w1.cell? ⟨w.heap.size,0,none⟩=some (.int .i64 a):=B4.out.cell' rfl
 have x1:w1.cell? ⟨w.heap.size,1,none⟩=some (.int .i64 b):=B4.out.cell' rfl
 have y0:w1.cell? ⟨w.heap.size+1,0,none⟩=some (.int .i64 c):=B5.out.cell' rfl
 have y1:w1.cell? ⟨w.heap.size+1,1,none⟩=some (.int .i64 d):=B5.out.cell' rfl
 have nH:¬ only x.H m∧¬ only x.H w.heap.size∧¬ only x.H (w.heap.size+1):=by
  obtain ⟨cap,cur,hT0,hH,_⟩:=id M1.out.tb
  exact ⟨only_ne (Blk.ne_ M1.out.b hH (by decide)),only_ne (Blk.ne_ B4.out hH (by decide)),only_ne (Blk.ne_ B5.out hH (by decide))⟩
 go_upto_region 4 with fail
 have hS1:(fun w':World=>Fr (only x.H) w1 w') w1.drew:=(Fr.refl _ w1).drew
 refine wp_region_U (m:=13) (S:=fun w':World=>Fr (only x.H) w1 w') (by kernel_rfl) ?_
 refine wpAnyU_take2 (i:=0) (v:=_) rfl (by kernel_rfl) (by kernel_rfl) (by kernel_rfl) (by kernel_rfl) (fun _ _ _ h=>h) (.inl ⟨by kernel_rfl,fun w' hS=>by go_simp;rfl⟩) hS1 ?_
 refine wpAnyU_take2 (i:=1) (v:=_) rfl (by kernel_rfl) (by kernel_rfl) (by kernel_rfl) (by kernel_rfl) (fun _ _ _ h=>h) (.inl ⟨by kernel_rfl,fun w' hS=>by go_simp;rfl⟩) hS1 ?_
 refine wpAnyU_take2 (i:=2) (v:=_) rfl (by kernel_rfl) (by kernel_rfl) (by kernel_rfl) (by kernel_rfl) (fun _ _ _ h=>h) (.inl ⟨by kernel_rfl,fun w' hS=>by go_simp;rfl⟩) hS1 ?_
 refine wpAnyU_take2 (i:=3) (v:=_) rfl (by kernel_rfl) (by kernel_rfl) (by kernel_rfl) (by kernel_rfl) (fun _ _ _ h=>h) (.inl ⟨by kernel_rfl,fun w' hS=>by have s_:=cellFrS c8 hS nH.1;go_simp;rfl⟩) hS1 ?_
 refine wpAnyU_take2 (i:=4) (v:=_) rfl (by kernel_rfl) (by kernel_rfl) (by kernel_rfl) (by kernel_rfl) (fun _ _ _ h=>h) (.inl ⟨by kernel_rfl,fun w' hS=>by go_simp;rfl⟩) hS1 ?_
 refine wpAnyU_take2 (i:=5) (v:=_) rfl (by kernel_rfl) (by kernel_rfl) (by kernel_rfl) (by kernel_rfl) (fun _ _ _ h=>h) (.inl ⟨by kernel_rfl,fun w' hS=>by have s_0:=cellFrS x0 hS nH.2.1;have s_1:=cellFrS x1 hS nH.2.1;go_simp;rfl⟩) hS1 ?_
 refine wpAnyU_take2 (i:=6) (v:=_) rfl (by kernel_rfl) (by kernel_rfl) (by kernel_rfl) (by kernel_rfl) (fun _ _ _ h=>h) (.inl ⟨by kernel_rfl,fun w' hS=>by have s_0:=cellFrS y0 hS nH.2.2;have s_1:=cellFrS y1 hS nH.2.2;go_simp;rfl⟩) hS1 ?_
 clear c8 x0 x1 y0 y1
 refine wpAnyU_oneW (i:=7) rfl (by kernel_rfl) (by kernel_rfl) ?_
 go_simp
 refine (swap_any n a b c d _ (M1.out.tb.keep (Fr.refl none_ w1).drew)).mono ?_
 rintro e w2 ⟨ok,kk,ps',rfl,hR,hT2,hf2⟩
 have R2:=hid_ hR
 have M2:=hid_ ((M1.out.keep (Fr.refl none_ w1).drew).tbPut hT2 hf2)
 have fS:Fr (only x.H) w1 w2:=(Fr.refl (only x.H) w1).drew.then_only hf2 (.inl (Eq.refl _))
 have F2:=hid_ (mall_tr F1.out (mall_H fS))
 refine ⟨fS,?_⟩
 clear hT2 hf2 hS1 hR
 refine wpAnyU_take2 (i:=8) (v:=_) rfl (by kernel_rfl) (by kernel_rfl) (by kernel_rfl) (by kernel_rfl) (fun _ _ _ h=>h) (.inl ⟨by kernel_rfl,fun w' hS=>by go_simp;rfl⟩) fS ?_
 refine wpAnyU_take2 (i:=9) (v:=_) rfl (by kernel_rfl) (by kernel_rfl) (by kernel_rfl) (by kernel_rfl) (fun _ _ _ h=>h) (.inl ⟨by kernel_rfl,fun w' hS=>by go_simp;rfl⟩) fS ?_
 refine wpAnyU_take2 (i:=10) (v:=_) rfl (by kernel_rfl) (by kernel_rfl) (by kernel_rfl) (by kernel_rfl) (fun _ _ _ h=>h) (.inl ⟨by kernel_rfl,fun w' hS=>by go_simp;rfl⟩) fS ?_
 refine wpAnyU_take2 (i:=11) (v:=_) rfl (by kernel_rfl) (by kernel_rfl) (by kernel_rfl) (by kernel_rfl) (fun _ _ _ h=>h) (.inl ⟨by kernel_rfl,fun w' hS=>by go_simp;rfl⟩) fS ?_
 refine wpAnyU_take2 (i:=12) (v:=_) rfl (by kernel_rfl) (by kernel_rfl) (by kernel_rfl) (by kernel_rfl) (fun _ _ _ h=>h) (.inl ⟨by kernel_rfl,fun w' hS=>by go_simp;rfl⟩) fS ?_
 refine wpAnyU_done (by kernel_rfl) ?_ _
 go_wp2_with fail
 refine (fat_ev sTable9 n kk _).mono ?_
 rintro e w3 ⟨v,rfl,hev,hf3⟩
 have E3:=hid_ hev
 have F3:=hid_ hf3
 clear hev hf3
 go_wp2_with fail
 go_ret2
 exact ⟨ok,kk,ps',v,rfl,R2.out,E3.out,M2.out.keep F3.out,F2.out.then_none F3.out⟩
set_option maxHeartbeats 4000000 in
theorem memAlloc_any (h:Mm w m k l x) (h0:0≤k) (h1:k≤100000) (R:Rc) (A:Option Addr) (c:Nat) (B:Option Addr) (d:Nat) (hr:∀ w',Fr (only m) w w'→RecReads w' R A B) (hz:R.rows.length≤1000∧R.ents.length≤1000) :
  Calls Tryz.prog 20 #[.pointer (some ⟨m,0,none⟩),recV R (.slice A R.rows.length c) (.slice B R.ents.length d)] w fun e w'=>∃ sl gn kk ss' v,e=.returned (.tuple #[.agg #[.int .i64 sl,.int .i64 gn],v])∧AllocR l.n x.ss R sl gn kk ss'∧Ev w' v sArena9 0 kk∧Mm w' m (k+1) l { x with ss:=ss' }∧Fr (mall m x) w w':=by
 obtain ⟨w0,hw0⟩:∃ z,z=(w.alloc (recB R (.slice A R.rows.length c) (.slice B R.ents.length d))).alloc (.cells #[.int .i64 0,.int .i64 0] 36):=⟨_,rfl⟩
 have f0:Fr none_ w w0:=by rw [hw0];exact ((Fr.refl none_ w).alloc _).alloc _
 have B0:=hid_ (show Blk w0 w.heap.size 51 (recA R (.slice A R.rows.length c) (.slice B R.ents.length d)) by rw [hw0];exact (Blk.new w _ _).alloc _)
 have B1:=hid_ (show Blk w0 (w.heap.size+1) 36 #[.int .i64 0,.int .i64 0] by rw [hw0];have:=Blk.new (w.alloc (recB R (.slice A R.rows.length c) (.slice B R.ents.length d))) 36 #[.int .i64 0,.int .i64 0];rwa [World.size_alloc] at this)
 have H:=hid_ (h.keep f0)
 have F0:=hid_ f0
 have HR:=hid_ hr
 clear h f0 hr
 go_enter Tryz.func20,Tryz.ntmps20
 go_upto_region 1 with fail
 change Code.wp _ _ _ _ ((w.alloc (recB R (.slice A R.rows.length c) (.slice B R.ents.length d))).alloc (.cells #[.int .i64 0,.int .i64 0] 36))
 rw [← hw0]
 clear hw0
 go_wp2_with fail
 refine (tick_mo m k l x _ H.out h0 h1).mono ?_
 rintro e w1 ⟨rfl,hM1,hf1⟩
 have M1:=hid_ hM1
 have B4:=hid_ (B0.out.fr hf1 (only_ne (Blk.ne_ B0.out H.out.b (by decide))))
 have B5:=hid_ (B1.out.fr hf1 (only_ne (Blk.ne_ B1.out H.out.b (by decide))))
 have FO:Hid (Fr (only m) w w1):=hid_ ((F0.out.mono (fun _ _ e=>e.elim)).trans (S':=only m) (S'':=only m) hf1 (fun _ _=>id) (fun _ _=>id))
 have F1:Hid (Fr (mall m x) w w1):=hid_ (mall_m FO.out)
 have RD:=hid_ (HR.out w1 FO.out)
 have hszw:=FO.out.size
 clear hM1 hf1
 have c7:w1.cell? ⟨m,7,none⟩=some (.pointer (some ⟨x.a,0,none⟩)):=M1.out.b.cell' rfl
 have nG:¬ only x.G m∧¬ only x.G w.heap.size∧¬ only x.G (w.heap.size+1):=⟨only_ne (M1.out.ar.gne M1.out.b (by decide)),only_ne (M1.out.ar.gne B4.out (by decide)),only_ne (M1.out.ar.gne B5.out (by decide))⟩
 go_upto_region 4 with fail
 go_cut [6,7] (fun u v wq=>∃ (b:Nat) (sl gn kk:Int) (ss':List Sl),u=.pointer (some ⟨b,0,none⟩)∧v=errOf kk∧w1.heap.size≤b∧Blk wq b 36 #[.int .i64 sl,.int .i64 gn]∧AllocR l.n x.ss R sl gn kk ss'∧Mm wq m (k+1) l { x with ss:=ss' }∧Fr (only x.G) w1 wq)
 case first =>
  have hS1:(fun w':World=>Fr (only x.G) w1 w') w1.drew:=(Fr.refl _ w1).drew
  refine wp_region_U (m:=12) (S:=fun w':World=>Fr (only x.G) w1 w') (by kernel_rfl) ?_
  refine wpAnyU_take2 (i:=0) (v:=_) rfl (by kernel_rfl) (by kernel_rfl) (by kernel_rfl) (by kernel_rfl) (fun _ _ _ h=>h) (.inl ⟨by kernel_rfl,fun w' hS=>by go_simp;rfl⟩) hS1 ?_
  refine wpAnyU_take2 (i:=1) (v:=_) rfl (by kernel_rfl) (by kernel_rfl) (by kernel_rfl) (by kernel_rfl) (fun _ _ _ h=>h) (.inl ⟨by kernel_rfl,fun w' hS=>by go_simp;rfl⟩) hS1 ?_
  refine wpAnyU_take2 (i:=2) (v:=_) rfl (by kernel_rfl) (by kernel_rfl) (by kernel_rfl) (by kernel_rfl) (fun _ _ _ h=>h) (.inl ⟨by kernel_rfl,fun w' hS=>by go_simp;rfl⟩) hS1 ?_
  refine wpAnyU_take2 (i:=3) (v:=_) rfl (by kernel_rfl) (by kernel_rfl) (by kernel_rfl) (by kernel_rfl) (fun _ _ _ h=>h) (.inl ⟨by kernel_rfl,fun w' hS=>by have s_:=cellFrS c7 hS nG.1;go_simp;rfl⟩) hS1 ?_
  refine wpAnyU_take2 (i:=4) (v:=_) rfl (by kernel_rfl) (by kernel_rfl) (by kernel_rfl) (by kernel_rfl) (fun _ _ _ h=>h) (.inl ⟨by kernel_rfl,fun w' hS=>by have s_0:w'.cell? ⟨w.heap.size,0,none⟩=some (.int .i64 R.kind):=cellFrS (B4.out.cell' rfl) hS nG.2.1;have s_1:w'.cell? ⟨w.heap.size,1,none⟩=some (.string R.low):=cellFrS (B4.out.cell' rfl) hS nG.2.1;have s_2:w'.cell? ⟨w.heap.size,2,none⟩=some (.string R.high):=cellFrS (B4.out.cell' rfl) hS nG.2.1;have s_3:w'.cell? ⟨w.heap.size,3,none⟩=some (.bool R.unb):=cellFrS (B4.out.cell' rfl) hS nG.2.1;have s_4:w'.cell? ⟨w.heap.size,4,none⟩=some (.int .i64 R.right):=cellFrS (B4.out.cell' rfl) hS nG.2.1;have s_5:w'.cell? ⟨w.heap.size,5,none⟩=some (.slice A R.rows.length c):=cellFrS (B4.out.cell' rfl) hS nG.2.1;have s_6:w'.cell? ⟨w.heap.size,6,none⟩=some (.slice B R.ents.length d):=cellFrS (B4.out.cell' rfl) hS nG.2.1;have s_7:w'.cell? ⟨w.heap.size,7,none⟩=some (.string R.key):=cellFrS (B4.out.cell' rfl) hS nG.2.1;have s_8:w'.cell? ⟨w.heap.size,8,none⟩=some (.string R.val):=cellFrS (B4.out.cell' rfl) hS nG.2.1;have s_9:w'.cell? ⟨w.heap.size,9,none⟩=some (.int .i64 R.page):=cellFrS (B4.out.cell' rfl) hS nG.2.1;have s_10:w'.cell? ⟨w.heap.size,10,none⟩=some (.int .i64 R.hpage):=cellFrS (B4.out.cell' rfl) hS nG.2.1;have s_11:w'.cell? ⟨w.heap.size,11,none⟩=some (.int .i64 R.hleft):=cellFrS (B4.out.cell' rfl) hS nG.2.1;have s_12:w'.cell? ⟨w.heap.size,12,none⟩=some (.string R.hkey):=cellFrS (B4.out.cell' rfl) hS nG.2.1;have s_13:w'.cell? ⟨w.heap.size,13,none⟩=some (.int .i64 R.nslot):=cellFrS (B4.out.cell' rfl) hS nG.2.1;have s_14:w'.cell? ⟨w.heap.size,14,none⟩=some (.int .i64 R.ngen):=cellFrS (B4.out.cell' rfl) hS nG.2.1;go_simp;rfl⟩) hS1 ?_
  clear c7
  refine wpAnyU_two (i:=5) (j:=9) rfl rfl rfl rfl (by kernel_rfl) ?_ ?_
  ·go_simp
   refine (alloc_any R A c B d (M1.out.ar.keep ((Fr.refl none_ w1).drew)) (RD.out.keep ((Fr.refl none_ w1).drew)) hz).mono ?_
   rintro e w3 ⟨sl,gn,kk,ss',rfl,hR,hA3,hf3⟩
   have R3:=hid_ hR
   have M3:=hid_ ((M1.out.keep ((Fr.refl none_ w1).drew)).arPut hA3 hf3)
   have fS:Fr (only x.G) w1 w3:=((Fr.refl (only x.G) w1).then_none ((Fr.refl none_ w1).drew)).then_only hf3 (.inl (Eq.refl _))
   refine ⟨fS,?_⟩
   clear hR hA3 hf3 hS1
   have hb:w1.heap.size≤w3.heap.size:=fS.size
   refine wpAnyU_take2 (i:=6) (v:=_) rfl (by kernel_rfl) (by kernel_rfl) (by kernel_rfl) (by kernel_rfl) (fun _ _ _ h=>h) (.inl ⟨by kernel_rfl,fun w' hS=>by go_simp;rfl⟩) fS ?_
   refine wpAnyU_take2 (i:=7) (v:=_) rfl (by kernel_rfl) (by kernel_rfl) (by kernel_rfl) (by kernel_rfl) (fun _ _ _ h=>h) (.inl ⟨by kernel_rfl,fun w' hS=>by go_simp;rfl⟩) fS ?_
   refine wpAnyU_take2 (i:=8) (v:=_) rfl (by kernel_rfl) (by kernel_rfl) (by kernel_rfl) (by kernel_rfl) (fun _ _ _ h=>h) (.inl ⟨by kernel_rfl,fun w' hS=>by go_simp;rfl⟩) fS ?_
   refine wpAnyU_oneW (i:=9) rfl (by kernel_rfl) (by kernel_rfl) ?_
   go_simp
   refine ⟨fS.alloc _,?_⟩
   obtain ⟨w4,hw4⟩:∃ z,z=w3.alloc (.cells #[.int .i64 0,.int .i64 0] 36):=⟨_,rfl⟩
   have f4:Fr none_ w3 w4:=by rw [hw4];exact (Fr.refl none_ w3).alloc _
   have BA:=hid_ (show Blk w4 w3.heap.size 36 #[.int .i64 0,.int .i64 0] by rw [hw4];exact Blk.new w3 _ _)
   replace M3:=hid_ (M3.out.keep f4)
   replace fS:=fS.then_none f4
   rw [← hw4]
   clear hw4 f4
   have y0:=BA.out.frozen 0
   have y1:=BA.out.frozen 1
   have z0:w4.cell? ⟨w3.heap.size,0,none⟩=some (.int .i64 0):=BA.out.cell' rfl
   have z1:w4.cell? ⟨w3.heap.size,1,none⟩=some (.int .i64 0):=BA.out.cell' rfl
   refine wpAnyU_oneW (i:=10) rfl (by kernel_rfl) (by kernel_rfl) ?_
   go_simp
   clear y0 y1 z0 z1
   obtain ⟨qb,qf⟩:=box2 BA.out (.int .i64 sl) (.int .i64 gn)
   obtain ⟨w5,hw5⟩:∃ z,z=(w4.setCell ⟨w3.heap.size,0,none⟩ (.int .i64 sl)).setCell ⟨w3.heap.size,1,none⟩ (.int .i64 gn):=⟨_,rfl⟩
   rw [← hw5] at qb qf
   rw [← hw5]
   have fS5:=fS.then_only qf (.inr hb)
   refine ⟨fS5,?_⟩
   have M5:=hid_ (M3.out.ref BA.out qf)
   have Q5:=hid_ qb
   clear hw5 qb qf
   refine wpAnyU_take2 (i:=11) (v:=_) rfl (by kernel_rfl) (by kernel_rfl) (by kernel_rfl) (by kernel_rfl) (fun _ _ _ h=>h) (.inl ⟨by kernel_rfl,fun w' hS=>by go_simp;rfl⟩) fS5 ?_
   refine wpAnyU_done (by kernel_rfl) ?_ _
   go_wp2_with fail
   go_meet
   exact ⟨_,sl,gn,kk,ss',rfl,rfl,hb,Q5.out,R3.out,M5.out,fS5⟩
  ·go_simp
   refine ⟨((Fr.refl (only x.G) w1).alloc _).drew,?_⟩
   obtain ⟨w2,hw2⟩:∃ z,z=(w1.alloc (.cells #[.int .i64 0,.int .i64 0] 36)).drew:=⟨_,rfl⟩
   have f2:Fr none_ w1 w2:=by rw [hw2];exact ((Fr.refl none_ w1).alloc _).drew
   have BA:=hid_ (show Blk w2 w1.heap.size 36 #[.int .i64 0,.int .i64 0] by rw [hw2];exact (Blk.new w1 _ _).drew)
   rw [← hw2]
   clear hw2 hS1
   refine wpAnyU_oneW (i:=5) rfl (by kernel_rfl) (by kernel_rfl) ?_
   go_simp
   refine (alloc_any R A c B d (M1.out.ar.keep (f2)) (RD.out.keep (f2)) hz).mono ?_
   rintro e w3 ⟨sl,gn,kk,ss',rfl,hR,hA3,hf3⟩
   have R3:=hid_ hR
   have M3:=hid_ ((M1.out.keep (f2)).arPut hA3 hf3)
   have fS:Fr (only x.G) w1 w3:=((Fr.refl (only x.G) w1).then_none (f2)).then_only hf3 (.inl (Eq.refl _))
   refine ⟨fS,?_⟩
   have hb:w1.heap.size≤w1.heap.size:=Nat.le_refl _
   replace BA:=hid_ (BA.out.fr hf3 (only_ne ((M1.out.ar.keep f2).gne BA.out (by decide))))
   clear hR hA3 hf3 f2
   refine wpAnyU_take2 (i:=6) (v:=_) rfl (by kernel_rfl) (by kernel_rfl) (by kernel_rfl) (by kernel_rfl) (fun _ _ _ h=>h) (.inl ⟨by kernel_rfl,fun w' hS=>by go_simp;rfl⟩) fS ?_
   refine wpAnyU_take2 (i:=7) (v:=_) rfl (by kernel_rfl) (by kernel_rfl) (by kernel_rfl) (by kernel_rfl) (fun _ _ _ h=>h) (.inl ⟨by kernel_rfl,fun w' hS=>by go_simp;rfl⟩) fS ?_
   refine wpAnyU_take2 (i:=8) (v:=_) rfl (by kernel_rfl) (by kernel_rfl) (by kernel_rfl) (by kernel_rfl) (fun _ _ _ h=>h) (.inl ⟨by kernel_rfl,fun w' hS=>by go_simp;rfl⟩) fS ?_
   have y0:=BA.out.frozen 0
   have y1:=BA.out.frozen 1
   have z0:w3.cell? ⟨w1.heap.size,0,none⟩=some (.int .i64 0):=BA.out.cell' rfl
   have z1:w3.cell? ⟨w1.heap.size,1,none⟩=some (.int .i64 0):=BA.out.cell' rfl
   refine wpAnyU_oneW (i:=10) rfl (by kernel_rfl) (by kernel_rfl) ?_
   go_simp
   clear y0 y1 z0 z1
   obtain ⟨qb,qf⟩:=box2 BA.out (.int .i64 sl) (.int .i64 gn)
   obtain ⟨w5,hw5⟩:∃ z,z=(w3.setCell ⟨w1.heap.size,0,none⟩ (.int .i64 sl)).setCell ⟨w1.heap.size,1,none⟩ (.int .i64 gn):=⟨_,rfl⟩
   rw [← hw5] at qb qf
   rw [← hw5]
   have fS5:=fS.then_only qf (.inr hb)
   refine ⟨fS5,?_⟩
   have M5:=hid_ (M3.out.ref BA.out qf)
   have Q5:=hid_ qb
   clear hw5 qb qf
   refine wpAnyU_take2 (i:=11) (v:=_) rfl (by kernel_rfl) (by kernel_rfl) (by kernel_rfl) (by kernel_rfl) (fun _ _ _ h=>h) (.inl ⟨by kernel_rfl,fun w' hS=>by go_simp;rfl⟩) fS5 ?_
   refine wpAnyU_done (by kernel_rfl) ?_ _
   go_wp2_with fail
   go_meet
   exact ⟨_,sl,gn,kk,ss',rfl,rfl,hb,Q5.out,R3.out,M5.out,fS5⟩
 case rest =>
  obtain ⟨b,sl,gn,kk,ss',rfl,rfl,hb,hbb,hR,hM,hf⟩:=hcut
  have M6:=hid_ hM
  have R6:=hid_ hR
  have B6:=hid_ hbb
  have F6:=hid_ (mall_tr F1.out (mall_G hf))
  have B7:=hid_ (B5.out.fr hf nG.2.2)
  clear hM hR hbb hf nG
  go_upto_region 5 with fail
  have x0:wc.cell? ⟨b,0,none⟩=some (.int .i64 sl):=B6.out.cell' rfl
  have x1:wc.cell? ⟨b,1,none⟩=some (.int .i64 gn):=B6.out.cell' rfl
  have hS1:(fun w':World=>Fr none_ wc w') wc.drew:=(Fr.refl none_ wc).drew
  refine wp_region_U (m:=3) (S:=fun w':World=>Fr none_ wc w') (by kernel_rfl) ?_
  refine wpAnyU_take2 (i:=0) (v:=_) rfl (by kernel_rfl) (by kernel_rfl) (by kernel_rfl) (by kernel_rfl) (fun _ _ _ h=>h) (.inl ⟨by kernel_rfl,fun w' hS=>by have s_0:=cellFr x0 hS;have s_1:=cellFr x1 hS;go_simp;rfl⟩) hS1 ?_
  refine wpAnyU_take2 (i:=1) (v:=_) rfl (by kernel_rfl) (by kernel_rfl) (by kernel_rfl) (by kernel_rfl) (fun _ _ _ h=>h) (.inl ⟨by kernel_rfl,fun w' hS=>by go_simp;rfl⟩) hS1 ?_
  refine wpAnyU_oneW (i:=2) rfl (by kernel_rfl) (by kernel_rfl) ?_
  go_simp
  refine (fat_ev sArena9 0 kk _).mono ?_
  rintro e w4 ⟨v,rfl,hev,hf4⟩
  have fS4:=hS1.then_none hf4
  refine ⟨fS4,?_⟩
  have E4:=hid_ hev
  replace M6:=hid_ (M6.out.keep fS4)
  replace F6:=hid_ (F6.out.then_none fS4)
  replace B7:=hid_ (B7.out.fr fS4 id)
  have y0:=B7.out.frozen 0
  have y1:=B7.out.frozen 1
  have z0:w4.cell? ⟨w.heap.size+1,0,none⟩=some (.int .i64 0):=B7.out.cell' rfl
  have z1:w4.cell? ⟨w.heap.size+1,1,none⟩=some (.int .i64 0):=B7.out.cell' rfl
  clear hS1 x0 x1 hev hf4 fS4
  refine wpAnyU_oneW (i:=3) rfl (by kernel_rfl) (by kernel_rfl) ?_
  go_simp
  clear y0 y1 z0 z1
  obtain ⟨qb,qf⟩:=box2 B7.out (.int .i64 sl) (.int .i64 gn)
  obtain ⟨w5,hw5⟩:∃ z,z=((w4.setCell ⟨w.heap.size+1,0,none⟩ (.int .i64 sl)).setCell ⟨w.heap.size+1,1,none⟩ (.int .i64 gn)):=⟨_,rfl⟩
  have qb2:Blk w5 (w.heap.size+1) 36 #[.int .i64 sl,.int .i64 gn]:=by rw [hw5];exact qb
  have qf2:Fr (only (w.heap.size+1)) w4 w5:=by rw [hw5];exact qf
  rw [← hw5]
  clear hw5 qb qf
  have q0:=qb2.cell' (i:=0) rfl
  have q1:=qb2.cell' (i:=1) rfl
  refine wpAnyU_oneW (i:=4) rfl (by kernel_rfl) (by kernel_rfl) ?_
  go_simp
  refine wpAnyU_done (by kernel_rfl) ?_ _
  go_wp2_with fail
  refine bodyPost_ret (v:=.tuple #[.agg #[.int .i64 sl,.int .i64 gn],v]) ?_ rfl ⟨sl,gn,kk,ss',v,rfl,R6.out,E4.out.only qf2 B7.out (by decide),M6.out.ref B7.out qf2,F6.out.then_only qf2 (.inr (by omega))⟩
  simp [results,Tryz.results20,go_sem,q0,q1]
set_option maxHeartbeats 2000000 in
theorem memFree_any (h:Mm w m k l x) (h0:0≤k) (h1:k≤100000) (sl gn:Int):Calls Tryz.prog 81 #[.pointer (some ⟨m,0,none⟩),.agg #[.int .i64 sl,.int .i64 gn]] w fun e w'=>∃ c ss' v,e=.returned v∧FreeR x.ss sl gn c ss'∧Ev w' v sArena9 sl c∧Mm w' m (k+1) l { x with ss:=ss' }∧Fr (mall m x) w w':=by
 obtain ⟨w0,hw0⟩:∃ z,z=w.alloc (.cells #[.int .i64 sl,.int .i64 gn] 36):=⟨_,rfl⟩
 have f0:Fr none_ w w0:=by rw [hw0];exact (Fr.refl none_ w).alloc _
 have B0:=hid_ (show Blk w0 w.heap.size 36 #[.int .i64 sl,.int .i64 gn] by rw [hw0];exact Blk.new w _ _)
 have H:=hid_ (h.keep f0)
 have F0:=hid_ f0
 clear h f0
 go_enter Tryz.func81,Tryz.ntmps81
 go_upto_region 1 with fail
 change Code.wp _ _ _ _ (w.alloc (.cells #[.int .i64 sl,.int .i64 gn] 36))
 rw [← hw0]
 clear hw0
 go_wp2_with fail
 refine (tick_mm m k l x _ H.out h0 h1).mono ?_
 rintro e w1 ⟨rfl,hM1,hf1⟩
 have M1:=hid_ hM1
 have B4:=hid_ (B0.out.fr hf1 (H.out.nref B0.out))
 have F1:=hid_ ((F0.out.mono (fun _ _ e=>e.elim)).trans (S':=mall m x) (S'':=mall m x) hf1 (fun _ _=>id) (fun _ _=>id):Fr (mall m x) w w1)
 clear hM1 hf1
 have c7:w1.cell? ⟨m,7,none⟩=some (.pointer (some ⟨x.a,0,none⟩)):=M1.out.b.cell' rfl
 have x0:w1.cell? ⟨w.heap.size,0,none⟩=some (.int .i64 sl):=B4.out.cell' rfl
 have x1:w1.cell? ⟨w.heap.size,1,none⟩=some (.int .i64 gn):=B4.out.cell' rfl
 have nG:¬ only x.G m∧¬ only x.G w.heap.size:=⟨only_ne (M1.out.ar.gne M1.out.b (by decide)),only_ne (M1.out.ar.gne B4.out (by decide))⟩
 go_upto_region 4 with fail
 have hS1:(fun w':World=>Fr (only x.G) w1 w') w1.drew:=(Fr.refl _ w1).drew
 refine wp_region_U (m:=10) (S:=fun w':World=>Fr (only x.G) w1 w') (by kernel_rfl) ?_
 refine wpAnyU_take2 (i:=0) (v:=_) rfl (by kernel_rfl) (by kernel_rfl) (by kernel_rfl) (by kernel_rfl) (fun _ _ _ h=>h) (.inl ⟨by kernel_rfl,fun w' hS=>by go_simp;rfl⟩) hS1 ?_
 refine wpAnyU_take2 (i:=1) (v:=_) rfl (by kernel_rfl) (by kernel_rfl) (by kernel_rfl) (by kernel_rfl) (fun _ _ _ h=>h) (.inl ⟨by kernel_rfl,fun w' hS=>by have s_:=cellFrS x0 hS nG.2;go_simp;rfl⟩) hS1 ?_
 refine wpAnyU_take2 (i:=2) (v:=_) rfl (by kernel_rfl) (by kernel_rfl) (by kernel_rfl) (by kernel_rfl) (fun _ _ _ h=>h) (.inl ⟨by kernel_rfl,fun w' hS=>by go_simp;rfl⟩) hS1 ?_
 refine wpAnyU_take2 (i:=3) (v:=_) rfl (by kernel_rfl) (by kernel_rfl) (by kernel_rfl) (by kernel_rfl) (fun _ _ _ h=>h) (.inl ⟨by kernel_rfl,fun w' hS=>by go_simp;rfl⟩) hS1 ?_
 refine wpAnyU_take2 (i:=4) (v:=_) rfl (by kernel_rfl) (by kernel_rfl) (by kernel_rfl) (by kernel_rfl) (fun _ _ _ h=>h) (.inl ⟨by kernel_rfl,fun w' hS=>by go_simp;rfl⟩) hS1 ?_
 refine wpAnyU_take2 (i:=5) (v:=_) rfl (by kernel_rfl) (by kernel_rfl) (by kernel_rfl) (by kernel_rfl) (fun _ _ _ h=>h) (.inl ⟨by kernel_rfl,fun w' hS=>by have s_:=cellFrS c7 hS nG.1;go_simp;rfl⟩) hS1 ?_
 refine wpAnyU_take2 (i:=6) (v:=_) rfl (by kernel_rfl) (by kernel_rfl) (by kernel_rfl) (by kernel_rfl) (fun _ _ _ h=>h) (.inl ⟨by kernel_rfl,fun w' hS=>by have s_0:=cellFrS x0 hS nG.2;have s_1:=cellFrS x1 hS nG.2;go_simp;rfl⟩) hS1 ?_
 clear c7 x0 x1
 refine wpAnyU_oneW (i:=7) rfl (by kernel_rfl) (by kernel_rfl) ?_
 go_simp
 refine (free_any sl gn (M1.out.ar.keep (Fr.refl none_ w1).drew)).mono ?_
 rintro e w2 ⟨c,ss',rfl,hR,hA2,hf2⟩
 have R2:=hid_ hR
 have M2:=hid_ ((M1.out.keep (Fr.refl none_ w1).drew).arPut hA2 hf2)
 have fS:Fr (only x.G) w1 w2:=(Fr.refl (only x.G) w1).drew.then_only hf2 (.inl (Eq.refl _))
 have F2:=hid_ (mall_tr F1.out (mall_G fS))
 refine ⟨fS,?_⟩
 clear hR hA2 hf2 hS1
 refine wpAnyU_oneW (i:=8) rfl (by kernel_rfl) (by kernel_rfl) ?_
 go_simp
 refine (fat_ev sArena9 sl c _).mono ?_
 rintro e w3 ⟨v,rfl,hev,hf3⟩
 have fS3:=fS.then_none hf3
 have E3:=hid_ hev
 have F3:=hid_ hf3
 clear hev hf3
 refine ⟨fS3,?_⟩
 refine wpAnyU_take2 (i:=9) (v:=_) rfl (by kernel_rfl) (by kernel_rfl) (by kernel_rfl) (by kernel_rfl) (fun _ _ _ h=>h) (.inl ⟨by kernel_rfl,fun w' hS=>by go_simp;rfl⟩) fS3 ?_
 refine wpAnyU_done (by kernel_rfl) ?_ _
 go_wp2_with fail
 go_ret
 exact ⟨c,ss',v,rfl,R2.out,E3.out,M2.out.keep F3.out,F2.out.then_none F3.out⟩
set_option maxHeartbeats 4000000 in
theorem memLoad_any (h:Mm w m k l x) (h0:0≤k) (h1:k≤100000) (sl gn:Int) :
  Calls Tryz.prog 77 #[.pointer (some ⟨m,0,none⟩),.agg #[.int .i64 sl,.int .i64 gn]] w fun e w'=>∃ R A c B d kk v,e=.returned (.tuple #[recV R (.slice A R.rows.length c) (.slice B R.ents.length d),v])∧LoadR x.ss sl gn R kk∧Ev w' v sArena9 sl kk∧Mm w' m (k+1) l x∧RecOwn w' w.heap.size R (.slice A R.rows.length c) (.slice B R.ents.length d)∧Fr (mall m x) w w':=by
 obtain ⟨w0,hw0⟩:∃ z,z=(w.alloc (.cells #[.int .i64 sl,.int .i64 gn] 36)).alloc (.cells recZ 51):=⟨_,rfl⟩
 have f0:Fr none_ w w0:=by rw [hw0];exact ((Fr.refl none_ w).alloc _).alloc _
 have B0:=hid_ (show Blk w0 w.heap.size 36 #[.int .i64 sl,.int .i64 gn] by rw [hw0];exact (Blk.new w _ _).alloc _)
 have B1:=hid_ (show Blk w0 (w.heap.size+1) 51 recZ by rw [hw0];have:=Blk.new (w.alloc (.cells #[.int .i64 sl,.int .i64 gn] 36)) 51 recZ;rwa [World.size_alloc] at this)
 have H:=hid_ (h.keep f0)
 have F0:=hid_ f0
 clear h f0
 go_enter Tryz.func77,Tryz.ntmps77
 go_upto_region 1 with fail
 change Code.wp _ _ _ _ ((w.alloc (.cells #[.int .i64 sl,.int .i64 gn] 36)).alloc (.cells recZ 51))
 rw [← hw0]
 clear hw0
 go_wp2_with fail
 refine (tick_mo m k l x _ H.out h0 h1).mono ?_
 rintro e w1 ⟨rfl,hM1,hf1⟩
 have M1:=hid_ hM1
 have B4:=hid_ (B0.out.fr hf1 (only_ne (Blk.ne_ B0.out H.out.b (by decide))))
 have B5:=hid_ (B1.out.fr hf1 (only_ne (Blk.ne_ B1.out H.out.b (by decide))))
 have FO:Hid (Fr (only m) w w1):=hid_ ((F0.out.mono (fun _ _ e=>e.elim)).trans (S':=only m) (S'':=only m) hf1 (fun _ _=>id) (fun _ _=>id))
 have F1:Hid (Fr (mall m x) w w1):=hid_ (mall_m FO.out)
 have hszw:=FO.out.size
 clear hM1 hf1
 have c7:w1.cell? ⟨m,7,none⟩=some (.pointer (some ⟨x.a,0,none⟩)):=M1.out.b.cell' rfl
 have x0:w1.cell? ⟨w.heap.size,0,none⟩=some (.int .i64 sl):=B4.out.cell' rfl
 have x1:w1.cell? ⟨w.heap.size,1,none⟩=some (.int .i64 gn):=B4.out.cell' rfl
 go_upto_region 4 with fail
 go_cut [6,7] (fun u v wq=>∃ (b:Nat) (R:Rc) (A:Option Addr) (c:Nat) (B:Option Addr) (d:Nat) (kk:Int),u=.pointer (some ⟨b,0,none⟩)∧v=errOf kk∧w1.heap.size≤b∧Blk wq b 51 (recA R (.slice A R.rows.length c) (.slice B R.ents.length d))∧LoadR x.ss sl gn R kk∧RecOwn wq w1.heap.size R (.slice A R.rows.length c) (.slice B R.ents.length d)∧Fr none_ w1 wq)
 case first =>
  have hS1:(fun w':World=>Fr none_ w1 w') w1.drew:=(Fr.refl none_ w1).drew
  refine wp_region_U (m:=12) (S:=fun w':World=>Fr none_ w1 w') (by kernel_rfl) ?_
  refine wpAnyU_take2 (i:=0) (v:=_) rfl (by kernel_rfl) (by kernel_rfl) (by kernel_rfl) (by kernel_rfl) (fun _ _ _ h=>h) (.inl ⟨by kernel_rfl,fun w' hS=>by go_simp;rfl⟩) hS1 ?_
  refine wpAnyU_take2 (i:=1) (v:=_) rfl (by kernel_rfl) (by kernel_rfl) (by kernel_rfl) (by kernel_rfl) (fun _ _ _ h=>h) (.inl ⟨by kernel_rfl,fun w' hS=>by go_simp;rfl⟩) hS1 ?_
  refine wpAnyU_take2 (i:=2) (v:=_) rfl (by kernel_rfl) (by kernel_rfl) (by kernel_rfl) (by kernel_rfl) (fun _ _ _ h=>h) (.inl ⟨by kernel_rfl,fun w' hS=>by go_simp;rfl⟩) hS1 ?_
  refine wpAnyU_take2 (i:=3) (v:=_) rfl (by kernel_rfl) (by kernel_rfl) (by kernel_rfl) (by kernel_rfl) (fun _ _ _ h=>h) (.inl ⟨by kernel_rfl,fun w' hS=>by have s_:=cellFr c7 hS;go_simp;rfl⟩) hS1 ?_
  refine wpAnyU_take2 (i:=4) (v:=_) rfl (by kernel_rfl) (by kernel_rfl) (by kernel_rfl) (by kernel_rfl) (fun _ _ _ h=>h) (.inl ⟨by kernel_rfl,fun w' hS=>by have s_0:=cellFr x0 hS;have s_1:=cellFr x1 hS;go_simp;rfl⟩) hS1 ?_
  clear c7 x0 x1
  refine wpAnyU_two (i:=5) (j:=9) rfl rfl rfl rfl (by kernel_rfl) ?_ ?_
  ·go_simp
   refine (load_any sl gn (M1.out.ar.keep ((Fr.refl none_ w1).drew))).mono ?_
   rintro e w3 ⟨R,A,c,B,d,kk,rfl,hR,hO3,hf3⟩
   have R3:=hid_ hR
   have O3:=hid_ (hO3.base (b':=w1.heap.size) ((Fr.refl none_ w1).drew).size)
   have fS:=((Fr.refl none_ w1).drew).then_none hf3
   refine ⟨fS,?_⟩
   clear hR hO3 hf3 hS1
   have hb:w1.heap.size≤w3.heap.size:=fS.size
   refine wpAnyU_take2 (i:=6) (v:=_) rfl (by kernel_rfl) (by kernel_rfl) (by kernel_rfl) (by kernel_rfl) (fun _ _ _ h=>h) (.inl ⟨by kernel_rfl,fun w' hS=>by go_simp;rfl⟩) fS ?_
   refine wpAnyU_take2 (i:=7) (v:=_) rfl (by kernel_rfl) (by kernel_rfl) (by kernel_rfl) (by kernel_rfl) (fun _ _ _ h=>h) (.inl ⟨by kernel_rfl,fun w' hS=>by go_simp;rfl⟩) fS ?_
   refine wpAnyU_take2 (i:=8) (v:=_) rfl (by kernel_rfl) (by kernel_rfl) (by kernel_rfl) (by kernel_rfl) (fun _ _ _ h=>h) (.inl ⟨by kernel_rfl,fun w' hS=>by go_simp;rfl⟩) fS ?_
   refine wpAnyU_oneW (i:=9) rfl (by kernel_rfl) (by kernel_rfl) ?_
   go_simp
   refine ⟨fS.alloc _,?_⟩
   obtain ⟨w4,hw4⟩:∃ z,z=w3.alloc (.cells recZ 51):=⟨_,rfl⟩
   have f4:Fr none_ w3 w4:=by rw [hw4];exact (Fr.refl none_ w3).alloc _
   have BA:=hid_ (show Blk w4 w3.heap.size 51 recZ by rw [hw4];exact Blk.new w3 _ _)
   replace O3:=hid_ (O3.out.keep f4)
   replace fS:=fS.then_none f4
   change wpAnyU _ _ _ _ _ _ _ _ _ (w3.alloc (.cells recZ 51))
   rw [← hw4]
   clear hw4 f4
   refine wpAnyU_oneW (i:=10) rfl (by kernel_rfl) (by kernel_rfl) ?_
   refine wp_store_mid 51 (.tmp 6) (.tmp 23) rfl w3.heap.size 0 (recA R (.slice A R.rows.length c) (.slice B R.ents.length d)) rfl rfl (BA.out.there9 rfl) rec_size (by simp [Value.oneCell']) ?_
   obtain ⟨w5,hw5⟩:∃ z,z=w4.setCells (w3.heap.size) 0 (recA R (.slice A R.rows.length c) (.slice B R.ents.length d)).toList:=⟨_,rfl⟩
   have ov:=BA.out.over9 (recA R (.slice A R.rows.length c) (.slice B R.ents.length d)).toList rfl
   rw [← hw5] at ov
   have fS5:=fS.then_only ov.2 (.inr hb)
   have O5:=hid_ (O3.out.only ov.2 BA.out (by decide) (by decide))
   have Q5:=hid_ (show Blk w5 (w3.heap.size) 51 (recA R (.slice A R.rows.length c) (.slice B R.ents.length d)) from ov.1)
   refine ⟨.inr (by rw [← hw5];exact fS5),?_⟩
   change wpAnyU _ _ _ _ _ _ _ _ _ (w4.setCells (w3.heap.size) 0 (recA R (.slice A R.rows.length c) (.slice B R.ents.length d)).toList)
   rw [← hw5]
   clear hw5 ov
   refine wpAnyU_take2 (i:=11) (v:=_) rfl (by kernel_rfl) (by kernel_rfl) (by kernel_rfl) (by kernel_rfl) (fun _ _ _ h=>h) (.inl ⟨by kernel_rfl,fun w' hS=>by go_simp;rfl⟩) fS5 ?_
   refine wpAnyU_done (by kernel_rfl) ?_ _
   go_wp2_with fail
   go_meet
   exact ⟨_,R,A,c,B,d,kk,rfl,rfl,hb,Q5.out,R3.out,O5.out,fS5⟩
  ·go_simp
   refine ⟨((Fr.refl none_ w1).alloc _).drew,?_⟩
   obtain ⟨w2,hw2⟩:∃ z,z=(w1.alloc (.cells recZ 51)).drew:=⟨_,rfl⟩
   have f2:Fr none_ w1 w2:=by rw [hw2];exact ((Fr.refl none_ w1).alloc _).drew
   have BA:=hid_ (show Blk w2 w1.heap.size 51 recZ by rw [hw2];exact (Blk.new w1 _ _).drew)
   change wpAnyU _ _ _ _ _ _ _ _ _ ((w1.alloc (.cells recZ 51)).drew)
   rw [← hw2]
   clear hw2 hS1
   refine wpAnyU_oneW (i:=5) rfl (by kernel_rfl) (by kernel_rfl) ?_
   go_simp
   refine (load_any sl gn (M1.out.ar.keep (f2))).mono ?_
   rintro e w3 ⟨R,A,c,B,d,kk,rfl,hR,hO3,hf3⟩
   have R3:=hid_ hR
   have O3:=hid_ (hO3.base (b':=w1.heap.size) (f2).size)
   have fS:=(f2).then_none hf3
   refine ⟨fS,?_⟩
   have hb:w1.heap.size≤w1.heap.size:=Nat.le_refl _
   replace BA:=hid_ (BA.out.fr hf3 id)
   clear hR hO3 hf3 f2
   refine wpAnyU_take2 (i:=6) (v:=_) rfl (by kernel_rfl) (by kernel_rfl) (by kernel_rfl) (by kernel_rfl) (fun _ _ _ h=>h) (.inl ⟨by kernel_rfl,fun w' hS=>by go_simp;rfl⟩) fS ?_
   refine wpAnyU_take2 (i:=7) (v:=_) rfl (by kernel_rfl) (by kernel_rfl) (by kernel_rfl) (by kernel_rfl) (fun _ _ _ h=>h) (.inl ⟨by kernel_rfl,fun w' hS=>by go_simp;rfl⟩) fS ?_
   refine wpAnyU_take2 (i:=8) (v:=_) rfl (by kernel_rfl) (by kernel_rfl) (by kernel_rfl) (by kernel_rfl) (fun _ _ _ h=>h) (.inl ⟨by kernel_rfl,fun w' hS=>by go_simp;rfl⟩) fS ?_
   refine wpAnyU_oneW (i:=10) rfl (by kernel_rfl) (by kernel_rfl) ?_
   refine wp_store_mid 51 (.tmp 6) (.tmp 23) rfl w1.heap.size 0 (recA R (.slice A R.rows.length c) (.slice B R.ents.length d)) rfl rfl (BA.out.there9 rfl) rec_size (by simp [Value.oneCell']) ?_
   obtain ⟨w5,hw5⟩:∃ z,z=w3.setCells (w1.heap.size) 0 (recA R (.slice A R.rows.length c) (.slice B R.ents.length d)).toList:=⟨_,rfl⟩
   have ov:=BA.out.over9 (recA R (.slice A R.rows.length c) (.slice B R.ents.length d)).toList rfl
   rw [← hw5] at ov
   have fS5:=fS.then_only ov.2 (.inr hb)
   have O5:=hid_ (O3.out.only ov.2 BA.out (by decide) (by decide))
   have Q5:=hid_ (show Blk w5 (w1.heap.size) 51 (recA R (.slice A R.rows.length c) (.slice B R.ents.length d)) from ov.1)
   refine ⟨.inr (by rw [← hw5];exact fS5),?_⟩
   change wpAnyU _ _ _ _ _ _ _ _ _ (w3.setCells (w1.heap.size) 0 (recA R (.slice A R.rows.length c) (.slice B R.ents.length d)).toList)
   rw [← hw5]
   clear hw5 ov
   refine wpAnyU_take2 (i:=11) (v:=_) rfl (by kernel_rfl) (by kernel_rfl) (by kernel_rfl) (by kernel_rfl) (fun _ _ _ h=>h) (.inl ⟨by kernel_rfl,fun w' hS=>by go_simp;rfl⟩) fS5 ?_
   refine wpAnyU_done (by kernel_rfl) ?_ _
   go_wp2_with fail
   go_meet
   exact ⟨_,R,A,c,B,d,kk,rfl,rfl,hb,Q5.out,R3.out,O5.out,fS5⟩
 case rest =>
  obtain ⟨b,R,A,c,B,d,kk,rfl,rfl,hb,hbb,hR,hO,hf⟩:=hcut
  have R6:=hid_ hR
  have M6:=hid_ (M1.out.keep hf)
  have O6:=hid_ hO
  have B6:=hid_ hbb
  have F6:=hid_ (F1.out.then_none hf)
  have B7:=hid_ (B5.out.fr hf id)
  have B8:=hid_ (B4.out.fr hf id)
  clear hO hbb hf hR
  go_upto_region 5 with fail
  have hS1:(fun w':World=>Fr none_ wc w') wc.drew:=(Fr.refl none_ wc).drew
  refine wp_region_U (m:=5) (S:=fun w':World=>Fr none_ wc w') (by kernel_rfl) ?_
  refine wpAnyU_take2 (i:=0) (v:=_) rfl (by kernel_rfl) (by kernel_rfl) (by kernel_rfl) (by kernel_rfl) (fun _ _ _ h=>h) (.inl ⟨by kernel_rfl,fun w' hS=>by have s_0:w'.cell? ⟨b,0,none⟩=some (.int .i64 R.kind):=cellFr (B6.out.cell' rfl) hS;have s_1:w'.cell? ⟨b,1,none⟩=some (.string R.low):=cellFr (B6.out.cell' rfl) hS;have s_2:w'.cell? ⟨b,2,none⟩=some (.string R.high):=cellFr (B6.out.cell' rfl) hS;have s_3:w'.cell? ⟨b,3,none⟩=some (.bool R.unb):=cellFr (B6.out.cell' rfl) hS;have s_4:w'.cell? ⟨b,4,none⟩=some (.int .i64 R.right):=cellFr (B6.out.cell' rfl) hS;have s_5:w'.cell? ⟨b,5,none⟩=some (.slice A R.rows.length c):=cellFr (B6.out.cell' rfl) hS;have s_6:w'.cell? ⟨b,6,none⟩=some (.slice B R.ents.length d):=cellFr (B6.out.cell' rfl) hS;have s_7:w'.cell? ⟨b,7,none⟩=some (.string R.key):=cellFr (B6.out.cell' rfl) hS;have s_8:w'.cell? ⟨b,8,none⟩=some (.string R.val):=cellFr (B6.out.cell' rfl) hS;have s_9:w'.cell? ⟨b,9,none⟩=some (.int .i64 R.page):=cellFr (B6.out.cell' rfl) hS;have s_10:w'.cell? ⟨b,10,none⟩=some (.int .i64 R.hpage):=cellFr (B6.out.cell' rfl) hS;have s_11:w'.cell? ⟨b,11,none⟩=some (.int .i64 R.hleft):=cellFr (B6.out.cell' rfl) hS;have s_12:w'.cell? ⟨b,12,none⟩=some (.string R.hkey):=cellFr (B6.out.cell' rfl) hS;have s_13:w'.cell? ⟨b,13,none⟩=some (.int .i64 R.nslot):=cellFr (B6.out.cell' rfl) hS;have s_14:w'.cell? ⟨b,14,none⟩=some (.int .i64 R.ngen):=cellFr (B6.out.cell' rfl) hS;go_simp;rfl⟩) hS1 ?_
  refine wpAnyU_take2 (i:=1) (v:=_) rfl (by kernel_rfl) (by kernel_rfl) (by kernel_rfl) (by kernel_rfl) (fun _ _ _ h=>h) (.inl ⟨by kernel_rfl,fun w' hS=>by go_simp;rfl⟩) hS1 ?_
  refine wpAnyU_take2 (i:=2) (v:=_) rfl (by kernel_rfl) (by kernel_rfl) (by kernel_rfl) (by kernel_rfl) (fun _ _ _ h=>h) (.inl ⟨by kernel_rfl,fun w' hS=>by have s_:w'.cell? ⟨w.heap.size,0,none⟩=some (.int .i64 sl):=cellFr (B8.out.cell' rfl) hS;go_simp;rfl⟩) hS1 ?_
  refine wpAnyU_take2 (i:=3) (v:=_) rfl (by kernel_rfl) (by kernel_rfl) (by kernel_rfl) (by kernel_rfl) (fun _ _ _ h=>h) (.inl ⟨by kernel_rfl,fun w' hS=>by go_simp;rfl⟩) hS1 ?_
  refine wpAnyU_oneW (i:=4) rfl (by kernel_rfl) (by kernel_rfl) ?_
  go_simp
  refine (fat_ev sArena9 sl kk _).mono ?_
  rintro e w4 ⟨v,rfl,hev,hf4⟩
  have fS4:=hS1.then_none hf4
  refine ⟨fS4,?_⟩
  have E4:=hid_ hev
  replace M6:=hid_ (M6.out.keep fS4)
  replace F6:=hid_ (F6.out.then_none fS4)
  replace B7:=hid_ (B7.out.fr fS4 id)
  replace O6:=hid_ (O6.out.keep fS4)
  clear hev hf4 fS4
  refine wpAnyU_oneW (i:=5) rfl (by kernel_rfl) (by kernel_rfl) ?_
  refine wp_store_mid 51 (.tmp 4) (.tmp 25) rfl (w.heap.size+1) 0 (recA R (.slice A R.rows.length c) (.slice B R.ents.length d)) rfl rfl (B7.out.there9 rfl) rec_size (by simp [Value.oneCell']) ?_
  obtain ⟨w5,hw5⟩:∃ z,z=w4.setCells (w.heap.size+1) 0 (recA R (.slice A R.rows.length c) (.slice B R.ents.length d)).toList:=⟨_,rfl⟩
  have ov:=B7.out.over9 (recA R (.slice A R.rows.length c) (.slice B R.ents.length d)).toList rfl
  rw [← hw5] at ov
  have qb2:Blk w5 (w.heap.size+1) 51 (recA R (.slice A R.rows.length c) (.slice B R.ents.length d)):=ov.1
  have qf2:Fr (only (w.heap.size+1)) w4 w5:=ov.2
  refine ⟨.inl (by decide),?_⟩
  change wpAnyU _ _ _ _ _ _ _ _ _ (w4.setCells (w.heap.size+1) 0 (recA R (.slice A R.rows.length c) (.slice B R.ents.length d)).toList)
  rw [← hw5]
  clear hw5 ov hS1
  refine wpAnyU_oneW (i:=6) rfl (by kernel_rfl) (by kernel_rfl) ?_
  go_simp
  refine wpAnyU_done (by kernel_rfl) ?_ _
  go_wp2_with fail
  have q0:=qb2.cell' (i:=0) rfl
  have q1:=qb2.cell' (i:=1) rfl
  have q2:=qb2.cell' (i:=2) rfl
  have q3:=qb2.cell' (i:=3) rfl
  have q4:=qb2.cell' (i:=4) rfl
  have q5:=qb2.cell' (i:=5) rfl
  have q6:=qb2.cell' (i:=6) rfl
  have q7:=qb2.cell' (i:=7) rfl
  have q8:=qb2.cell' (i:=8) rfl
  have q9:=qb2.cell' (i:=9) rfl
  have q10:=qb2.cell' (i:=10) rfl
  have q11:=qb2.cell' (i:=11) rfl
  have q12:=qb2.cell' (i:=12) rfl
  have q13:=qb2.cell' (i:=13) rfl
  have q14:=qb2.cell' (i:=14) rfl
  refine bodyPost_ret (v:=.tuple #[recV R (.slice A R.rows.length c) (.slice B R.ents.length d),v]) ?_ rfl ⟨R,A,c,B,d,kk,v,rfl,R6.out,E4.out.only qf2 B7.out (by decide),M6.out.rec9 B7.out qf2,(O6.out.only qf2 B7.out (by decide) (by decide)).base hszw,F6.out.then_only qf2 (.inr (by omega))⟩
  simp [results,Tryz.results77,go_sem,q0,q1,q2,q3,q4,q5,q6,q7,q8,q9,q10,q11,q12,q13,q14]
end
open Go.RowKit
theorem Blk.there7 {w:World} {g n:Nat} {t:TypeId} {cs:Array Value} (h:Blk w g t cs) (hn:cs.size=n):w.there g 0 n:=by
  subst hn
  intro j hj
  refine ⟨?_,h.frozen _⟩
  rw [h.cell,Nat.zero_add,Array.getElem?_eq_getElem hj]
  rfl
theorem Blk.new7 {w:World} {b:Nat} (t:TypeId) (cs:Array Value) (h:b=w.heap.size):Blk (w.alloc (.cells cs t)) b t cs:=by
  subst h
  exact Blk.new w t cs
theorem Blk.over7 {w:World} {g:Nat} {t:TypeId} {zs:Array Value} (h:Blk w g t zs) (vs:List Value) (hz:zs.size=vs.length):Blk (w.setCells g 0 vs) g t vs.toArray∧Fr (only g) w (w.setCells g 0 vs):=by
  refine ⟨?_,Fr.setCells _ _ _ (Fr.refl _ _) (.inl rfl)⟩
  have h:=Blk.setCells vs 0 _ _ h
  have e:setA zs 0 vs=vs.toArray:=by
    apply Array.ext_getElem?
    intro k
    rcases Nat.lt_or_ge k vs.length with h1 | h1
    · have:=setA_in vs zs 0 k vs[k] (List.getElem?_eq_getElem h1) (by omega)
      rw [Nat.zero_add] at this
      rw [this,List.getElem?_toArray,List.getElem?_eq_getElem h1]
    · rw [Array.getElem?_eq_none (by rw [setA_size];omega),Array.getElem?_eq_none (by simpa using h1)]
  rwa [e] at h
theorem Blk.range7 {w:World} {g:Nat} {t:TypeId} {l:List Value} (h:Blk w g t l.toArray):w.rangeAt g 0 l:=fun j v hv=>by
  rw [Nat.zero_add]
  exact h.cell' (by simpa using hv)
section
variable {P:Program} {md:Region.Mode} {ops:Array Oper} {Q:Exit→Act→World→Prop} {S:World→Prop}
theorem wpAnyU_one7 {m i:Nat} {oi:Oper} {fuel:Nat} {listed:Array Bool} {a:Act} {w:World} (hi:ops[i]?=some oi) (hw:Region.wanted oi (yielded ops a.tmps)=true) (hr:Region.ready md ops listed=[i])
    (h:Oper.wp P oi a w (fun a' w'=>(m≤i∨S w')∧wpAnyU P md ops Q S m fuel (listed.setIfInBounds i true) a' w') Q):wpAnyU P md ops Q S m (fuel+1) listed a w:=by
  refine wpAnyU_all hr (by simp) (fun j hj=>?_)
  obtain rfl:j=i:=by simpa using hj
  unfold wpOp
  simp only [hi,hw,if_true]
  exact .inl h
theorem wpAnyU_two7 {m i j:Nat} {oi oj:Oper} {fuel:Nat} {listed:Array Bool} {a:Act} {w:World} (hi:ops[i]?=some oi) (hj:ops[j]?=some oj) (wi:Region.wanted oi (yielded ops a.tmps)=true) (wj:Region.wanted oj (yielded ops a.tmps)=true) (hr:Region.ready md ops listed=[i,j])
    (h1:Oper.wp P oi a w (fun a' w'=>(m≤i∨S w')∧wpAnyU P md ops Q S m fuel (listed.setIfInBounds i true) a' w') Q)
    (h2:Oper.wp P oj a w (fun a' w'=>(m≤j∨S w')∧wpAnyU P md ops Q S m fuel (listed.setIfInBounds j true) a' w') Q):wpAnyU P md ops Q S m (fuel+1) listed a w:=by
  refine wpAnyU_all hr (by simp) (fun k hk=>?_)
  have hk':k=i∨k=j:=by simpa using hk
  rcases hk' with rfl | rfl
  · unfold wpOp
    simp only [hi,wi,if_true]
    exact .inl h1
  · unfold wpOp
    simp only [hj,wj,if_true]
    exact .inl h2
end
open Go.RowKit Go.BigFrame

structure LdS where
  n:Int
  begun:Bool
  over:Bool
  hs:Int
  hg:Int
  ns:Int
  ng:Int
  A:Option Addr
  c:Nat
  L:List Cr
  B:Option Addr
  e:Nat
  refs:List (Int × Int)
  ve:Value
abbrev ldA (s:LdS):Array Value:=#[.int .i64 s.n,.bool s.begun,.bool s.over,.int .i64 s.hs,.int .i64 s.hg,.int .i64 s.ns,.int .i64 s.ng,.slice s.A s.L.length s.c,.slice s.B s.refs.length s.e,s.ve]
abbrev LdS.new (n:Int):LdS:=⟨n,false,false,0,0,0,0,none,0,[],none,0,[],.nilIface⟩
structure Ldr (b0:Nat) (w:World) (g:Nat) (s:LdS):Prop where
  b:Blk w g 135 (ldA s)
  lb:b0≤g
  l:w.ownsRow b0 51 15 (.slice s.A s.L.length s.c) s.L.length (crFlat s.L)
  r:w.ownsRow b0 36 2 (.slice s.B s.refs.length s.e) s.refs.length (rf9Flat s.refs)
  own:∀ C ∈ s.L,RecOwn w b0 C.R (.slice C.A C.R.rows.length C.c) (.slice C.B C.R.ents.length C.d)
theorem Ldr.fr {b0 g:Nat} {w w':World} {s:LdS} {S:Nat→Prop} (h:Ldr b0 w g s) (hf:Fr S w w') (hS:∀ i,S i→i < b0):Ldr b0 w' g s:=
  ⟨h.b.fr hf (fun e=>by have:=hS g e;have:=h.lb;omega),h.lb,
   own_fr h.l hf (fun k hk e=>by have:=hS k e;have:=(h.l.lt k hk).1;omega),
   own_fr h.r hf (fun k hk e=>by have:=hS k e;have:=(h.r.lt k hk).1;omega),
   fun C hC=>(h.own C hC).fr hf (fun k hk e=>by have:=hS k e;have:=((h.own C hC).r.lt k hk).1;omega) (fun k hk e=>by have:=hS k e;have:=((h.own C hC).e.lt k hk).1;omega)⟩
theorem Ldr.keep {b0 g:Nat} {w w':World} {s:LdS} (h:Ldr b0 w g s) (hf:Fr none_ w w'):Ldr b0 w' g s:=h.fr hf (fun _ e=>e.elim)
theorem Ldr.upd {b0 g:Nat} {w w':World} {s s':LdS} (h:Ldr b0 w g s) (hb:Blk w' g 135 (ldA s')) (hf:Fr (only g) w w') (e:(s'.A,s'.c,s'.L,s'.B,s'.e,s'.refs)=(s.A,s.c,s.L,s.B,s.e,s.refs)):Ldr b0 w' g s':=by
  obtain ⟨n',bg',ov',hs',hg',ns',ng',A',c',L',B',e',refs',ve'⟩:=s'
  obtain ⟨n,bg,ov,hs,hg,ns,ng,A,c,L,B,e0,refs,ve⟩:=s
  simp only [Prod.mk.injEq] at e
  obtain ⟨rfl,rfl,rfl,rfl,rfl,rfl⟩:=e
  have hl:=h.l
  have hr:=h.r
  have ho:=h.own
  exact ⟨hb,h.lb,own_fr hl hf (fun k hk e=>own_blk_ne hl h.b (by decide) (by rw [hk,show k=g from e])),own_fr hr hf (fun k hk e=>own_blk_ne hr h.b (by decide) (by rw [hk,show k=g from e])),fun C hC=>(ho C hC).only hf h.b (by decide) (by decide)⟩
theorem Mm.ldr {w w':World} {m:Nat} {k:Int} {l:Lm} {x:St} {b:Nat} {cs:Array Value} (h:Mm w m k l x) (hb:Blk w b 135 cs) (hf:Fr (only b) w w'):Mm w' m k l x:=by
  obtain ⟨cs',hG,_⟩:=h.ar.hG
  obtain ⟨cap,cur,hT0,hH,_⟩:=id h.tb
  exact ⟨h.b.fr hf (only_ne (Blk.ne_ h.b hb (by decide))),h.ar.beside hf hb (by decide) (by decide) (Blk.ne_ h.ar.hA hb (by decide)) (Blk.ne_ hG hb (by decide)),h.tb.fr hf (only_ne (Blk.ne_ hT0 hb (by decide))) (only_ne (Blk.ne_ hH hb (by decide))),h.ck.fr hf (only_ne (Blk.ne_ h.ck.hC hb (by decide))) (only_ne (h.ck.mne hb))⟩
theorem Mm.grown {w w':World} {m:Nat} {k:Int} {l:Lm} {x:St} {base size n:Nat} {e:TypeId} {v:Value} {xs:List Value} (h:Mm w m k l x) (ho:w.ownsRow base e size v n xs) (he:e=51∨e=36) (hg:w.grownBy w' v.ownBlock):Mm w' m k l x:=by
  obtain ⟨cs',hG,hc⟩:=h.ar.hG
  obtain ⟨cap,cur,hT0,hH,_⟩:=id h.tb
  have hf:Fr (fun b=>v.ownBlock=some b) w w':=Fr.grown (Fr.refl _ _) hg (fun k hk=>.inl hk)
  have hM:¬ v.ownBlock=some x.M:=by
    rcases ho.2 with ⟨rfl,_⟩ | ⟨g',cap,cur,rfl,_,hh,_⟩
    · simp [Value.ownBlock]
    · intro e'
      have e2:g'=x.M:=by simpa [Value.ownBlock] using e'
      exact h.ck.mne (show Blk w g' e _ from hh) e2.symm
  have n1:e≠111:=by rcases he with rfl | rfl <;> decide
  have n2:e≠161:=by rcases he with rfl | rfl <;> decide
  have n3:e≠164:=by rcases he with rfl | rfl <;> decide
  have n4:25≠e:=by rcases he with rfl | rfl <;> decide
  have n5:132≠e:=by rcases he with rfl | rfl <;> decide
  exact ⟨h.b.fr hf (own_blk_ne ho h.b n1),⟨h.ar.hA.fr hf (own_blk_ne ho h.ar.hA n2),⟨cs',hG.fr hf (own_blk_ne ho hG n3),hc⟩,fun i s hs=>(h.ar.own i s hs).grown ho n4 n5 hg,h.ar.l40,h.ar.len,h.ar.gen,h.ar.sz⟩,
    h.tb.fr hf (own_blk_ne ho hT0 (by rcases he with rfl | rfl <;> decide)) (own_blk_ne ho hH (by rcases he with rfl | rfl <;> decide)),h.ck.fr hf (own_blk_ne ho h.ck.hC (by rcases he with rfl | rfl <;> decide)) hM⟩
theorem ldBegin_ok (n:Int) (w:World):Calls Tryz.prog 94 #[.int .i64 n] w fun e w'=>e=.returned (.pointer (some ⟨w.heap.size,0,none⟩))∧Ldr w.heap.size w' w.heap.size (LdS.new n)∧Fr none_ w w':=by
  go_enter Tryz.func94,Tryz.ntmps94
  go_wp2
  go_ret
  exact ⟨rfl,⟨Blk.new w _ _,Nat.le_refl _,World.ownsRow_nil _ _ _ _,World.ownsRow_nil _ _ _ _,fun C hC=>by cases hC⟩,(Fr.refl none_ w).alloc _⟩
theorem ldOver_ok {b0 g:Nat} {w:World} {s:LdS} (h:Ldr b0 w g s):Calls Tryz.prog 75 #[.pointer (some ⟨g,0,none⟩)] w fun e w'=>e=.returned (.bool s.over)∧w=w':=by
  have c2:w.cell? ⟨g,2,none⟩=some (.bool s.over):=h.b.cell' rfl
  clear h
  go_enter Tryz.func75,Tryz.ntmps75
  go_wp2
  go_ret
  exact ⟨rfl,rfl⟩
theorem ldStop_ok {b0 g:Nat} {w:World} {s:LdS} (v:Value) (hv:v=.nilIface∨∃ t u,v=.iface t u) (h:Ldr b0 w g s):Calls Tryz.prog 76 #[.pointer (some ⟨g,0,none⟩),v] w fun e w'=>e=.returned (.bool true)∧Ldr b0 w' g { s with over:=true,ve:=v }∧Fr (only g) w w':=by
  have H:=hid_ h
  have c2:w.cell? ⟨g,2,none⟩=some (.bool s.over):=h.b.cell' rfl
  have c9:w.cell? ⟨g,9,none⟩=some s.ve:=h.b.cell' rfl
  have y2:=h.b.frozen 2
  have y9:=h.b.frozen 9
  have hs0:=h.b.lt
  clear h
  go_enter Tryz.func76,Tryz.ntmps76
  rcases hv with rfl | ⟨t,u,rfl⟩
  · go_wp2
    go_ret
    have b1:=(H.out.b.set_ 2 (.bool true)).set_ 9 .nilIface
    have f1:Fr (only g) w ((w.setCell ⟨g,2,none⟩ (.bool true)).setCell ⟨g,9,none⟩ .nilIface):=Fr.setCell (p:=⟨g,9,none⟩) (Fr.only1 w ⟨g,2,none⟩ _) (.inl rfl) _
    exact ⟨rfl,H.out.upd b1 f1 rfl,f1⟩
  · go_wp2
    go_ret
    have b1:=(H.out.b.set_ 2 (.bool true)).set_ 9 (.iface t u)
    have f1:Fr (only g) w ((w.setCell ⟨g,2,none⟩ (.bool true)).setCell ⟨g,9,none⟩ (.iface t u)):=Fr.setCell (p:=⟨g,9,none⟩) (Fr.only1 w ⟨g,2,none⟩ _) (.inl rfl) _
    exact ⟨rfl,H.out.upd b1 f1 rfl,f1⟩
open Go.RowKit Go.BigFrame

def lown (m:Nat) (x:St) (g:Nat) (s:LdS):Nat→Prop:=fun i=>mall m x i∨i=g∨(Value.slice s.A s.L.length s.c).ownBlock=some i∨(Value.slice s.B s.refs.length s.e).ownBlock=some i
def LdFirstO (b0 g m:Nat) (k:Int) (l:Lm) (x:St) (s:LdS) (w:World) (e:Ending) (w':World):Prop:=
  ∃ (a b c:Int) (v:Value),HeadR x.ps s.n a b c∧Ev w' v sTable9 s.n c∧Mm w' m (k+1) l x∧Fr (lown m x g s) w w' ∧
    ((c≠0∧e=.returned (.bool true)∧Ldr b0 w' g { s with over:=true,ve:=v }) ∨
     (c=0∧a=0∧b=0∧e=.returned (.bool true)∧Ldr b0 w' g { s with over:=true,ve:=errV 10 }) ∨
     (c=0∧¬ (a=0∧b=0)∧e=.returned (.bool false)∧Ldr b0 w' g { s with begun:=true,hs:=a,hg:=b,ns:=a,ng:=b }))
set_option maxHeartbeats 4000000 in
theorem step_firstO {b0 g m:Nat} {k:Int} {l:Lm} {x:St} {w:World} {s:LdS} (h:Ldr b0 w g s) (hm:Mm w m k l x) (hb:∀ i,mall m x i→i < b0) (h0:0≤k) (h1:k≤100000) (ho:s.over=false) (hg:s.begun=false) :
  Calls Tryz.prog 45 #[.pointer (some ⟨g,0,none⟩),.pointer (some ⟨m,0,none⟩)] w (LdFirstO b0 g m k l x s w):=by
 have H:=hid_ h
 have HM:=hid_ hm
 have HB:=hid_ hb
 have HO:=hid_ ho
 have c1:w.cell? ⟨g,1,none⟩=some (.bool false):=by rw [← hg];exact h.b.cell' rfl
 have c0:w.cell? ⟨g,0,none⟩=some (.int .i64 s.n):=h.b.cell' rfl
 have hsg:=h.b.lt
 have HG:=hid_ hg
 clear h hm hb ho hg
 go_enter Tryz.func45,Tryz.ntmps45
 go_wp2_with fail
 refine (ldOver_ok H.out).mono ?_
 rintro e w' ⟨rfl,rfl⟩
 rw [HO.out]
 go_wp2_with fail
 refine (memHead_any m k l x _ HM.out h0 h1 s.n).mono ?_
 rintro e w1 ⟨a,b,c,v,rfl,hhd,hev,hmm,hf1⟩
 have HD:=hid_ hhd
 have EV:=hid_ hev
 replace H:=hid_ (H.out.fr hf1 HB.out)
 replace HM:=hid_ hmm
 have F1:=hid_ (hf1.mono (S':=lown m x g s) (fun i _ e=>.inl e))
 have hsz1:=hf1.size
 clear hhd hev hmm hf1 c0 c1
 go_upto_region 5 with fail
 obtain ⟨w2,hw2⟩:∃ z,z=w1.alloc (.cells #[.int .i64 a,.int .i64 b] 36):=⟨_,rfl⟩
 have f2:Fr none_ w1 w2:=by rw [hw2];exact (Fr.refl none_ w1).alloc _
 have BR:Hid (Blk w2 w1.heap.size 36 #[.int .i64 a,.int .i64 b]):=hid_ (by rw [hw2];exact Blk.new w1 _ _)
 change Code.wp _ _ _ _ (w1.alloc (.cells #[.int .i64 a,.int .i64 b] 36))
 rw [← hw2]
 clear hw2
 replace H:=hid_ (H.out.keep f2)
 replace HM:=hid_ (HM.out.keep f2)
 replace EV:=hid_ (EV.out.keep f2)
 replace F1:=hid_ (F1.out.then_none f2)
 clear f2
 have hlb:=H.out.lb
 have r0:w2.cell? ⟨w1.heap.size,0,none⟩=some (.int .i64 a):=BR.out.cell' rfl
 have r1:w2.cell? ⟨w1.heap.size,1,none⟩=some (.int .i64 b):=BR.out.cell' rfl
 have hgl:g < w1.heap.size:=by omega
 have hq:=eql_ref
 rcases EV.out with ⟨hc,rfl⟩ | ⟨hc,q,rfl,-⟩
 ·have HC:=hid_ hc
  clear hc
  by_cases hz:a=0∧b=0
  ·obtain ⟨rfl,rfl⟩:=hz
   go_wp2_with fail
   refine (ldStop_ok (errV 10) (.inr ⟨_,_,rfl⟩) H.out).mono ?_
   rintro e w3 ⟨rfl,hl3,hf3⟩
   go_wp2_with fail
   go_ret
   exact ⟨0,0,c,.nilIface,HD.out,.inl ⟨HC.out,rfl⟩,HM.out.ldr H.out.b hf3,F1.out.then_only hf3 (.inl (.inr (.inl rfl))),.inr (.inl ⟨HC.out,rfl,rfl,rfl,hl3⟩)⟩
  ·have hd:(a==0 && b==0)=false:=by
    simp only [Bool.and_eq_false_iff,beq_eq_false_iff_ne]
    omega
   have HZ:=hid_ hz
   clear hz
   have y1:=H.out.b.frozen 1
   have y3:=H.out.b.frozen 3
   have y4:=H.out.b.frozen 4
   have y5:=H.out.b.frozen 5
   have y6:=H.out.b.frozen 6
   have hsg2:=H.out.b.lt
   have g1:w2.cell? ⟨g,1,none⟩=some (.bool s.begun):=H.out.b.cell' rfl
   have g3:w2.cell? ⟨g,3,none⟩=some (.int .i64 s.hs):=H.out.b.cell' rfl
   have g4:w2.cell? ⟨g,4,none⟩=some (.int .i64 s.hg):=H.out.b.cell' rfl
   have g5:w2.cell? ⟨g,5,none⟩=some (.int .i64 s.ns):=H.out.b.cell' rfl
   have g6:w2.cell? ⟨g,6,none⟩=some (.int .i64 s.ng):=H.out.b.cell' rfl
   go_wp2_with fail
   go_region
   have b3:=(((((H.out.b.set_ 1 (.bool true)).set_ 3 (.int .i64 a)).set_ 4 (.int .i64 b)).set_ 5 (.int .i64 a)).set_ 6 (.int .i64 b)).drew
   have f3:=(Fr.setCell (p:=⟨g,6,none⟩) (Fr.setCell (p:=⟨g,5,none⟩) (Fr.setCell (p:=⟨g,4,none⟩) (Fr.setCell (p:=⟨g,3,none⟩) (Fr.only1 w2 ⟨g,1,none⟩ (.bool true)) (.inl rfl) (.int .i64 a)) (.inl rfl) (.int .i64 b)) (.inl rfl) (.int .i64 a)) (.inl rfl) (.int .i64 b)).drew
   obtain ⟨w3,hw3⟩:∃ z,z=(((((w2.setCell ⟨g,1,none⟩ (.bool true)).setCell ⟨g,3,none⟩ (.int .i64 a)).setCell ⟨g,4,none⟩ (.int .i64 b)).setCell ⟨g,5,none⟩ (.int .i64 a)).setCell ⟨g,6,none⟩ (.int .i64 b)).drew:=⟨_,rfl⟩
   rw [← hw3] at b3 f3 ⊢
   clear hw3
   have L3:Hid (Ldr b0 w3 g { s with begun:=true,hs:=a,hg:=b,ns:=a,ng:=b }):=hid_ (H.out.upd b3 f3 rfl)
   replace HM:=hid_ (HM.out.ldr H.out.b f3)
   replace F1:=hid_ (F1.out.then_only f3 (.inl (.inr (.inl rfl))))
   clear b3 f3 g1 g3 g4 g5 g6 y1 y3 y4 y5 y6 r0 r1 hq hd
   go_wp2_with fail
   go_ret
   exact ⟨a,b,c,.nilIface,HD.out,.inl ⟨HC.out,rfl⟩,HM.out,F1.out,.inr (.inr ⟨HC.out,HZ.out,rfl,L3.out⟩)⟩
 ·have HC:=hid_ hc
  have EQ:=hid_ EV.out
  clear hc
  go_wp2_with fail
  refine (ldStop_ok (.iface 156 (.pointer (some ⟨q,0,none⟩))) (.inr ⟨_,_,rfl⟩) H.out).mono ?_
  rintro e w3 ⟨rfl,hl3,hf3⟩
  go_wp2_with fail
  go_ret
  exact ⟨a,b,c,_,HD.out,EQ.out.only hf3 H.out.b (by decide),HM.out.ldr H.out.b hf3,F1.out.then_only hf3 (.inl (.inr (.inl rfl))),.inl ⟨HC.out,rfl,hl3⟩⟩
open Go.RowKit
structure UwA (P:Program) (md:Region.Mode) (ops:Array Oper) (Q:Exit→Act→World→Prop) (S:World→Prop) (m fuel:Nat) (listed:Array Bool) (a:Act) (w:World):Prop where
  h:wpAnyU P md ops Q S m fuel listed a w
section
variable {P:Program} {md:Region.Mode} {ops:Array Oper} {Q:Exit→Act→World→Prop} {S:World→Prop} {m fuel:Nat} {listed:Array Bool} {a:Act} {w:World} {oi:Oper}
theorem u_take (i:Nat) (d:Option Tmp) (v:Value) (hi:ops[i]?=some oi) (hd:oi.dst=d) (hs:Region.noSelect ops=true) (hf:Region.free md ops listed i=true) (hr:(Region.ready md ops listed).contains i=true)
    (hm:((List.range ops.size).all (fun j=>!decide (m≤j) || decide (j=i) || waitsB md ops ops.size j i) && closedB md ops listed)=true)
    (hQ:∀ c a w,Q (.panic c) (a.put oi.dst v) w→Q (.panic c) a w) (hy:YieldsIf P ops S oi v a) (hS:S w)
    (h:UwA P md ops Q S m fuel (listed.setIfInBounds i true) (a.put d v) w):UwA P md ops Q S m (fuel+1) listed a w:=by
  subst hd
  exact ⟨wpAnyU_take2 hi hs hf hr hm hQ hy hS h.h⟩
theorem y_val {v:Value} (hw:Region.wanted oi (yielded ops a.tmps)=true) (hx:∀ w,S w→(execOp a.eval oi).run P w=.ok (.value v) w):YieldsIf P ops S oi v a:=.inl ⟨hw,hx⟩
theorem run_loadAt_cellU (w:World) (ad:Addr) (ty:TypeId) (v:Value) (d:TypeDesc) (hc:w.cell? ad=some v) (hu:P.underlying ty=some d) (hd:d.isRow=false) :
    (Instr.loadAt ty (.pointer (some ad))).run P w=.ok v w:=by
  have hagg:(isAgg ty).run P w=.ok false w:=by
    unfold isAgg
    rw [Sem.run_bind,run_underlying hu w]
    cases d <;> simp_all
  have hl:(load ad).run P w=.ok v w:=by
    rw [run_load,hc]
  simp only [Instr.loadAt,Instr.sureAddr,loadVar,Sem.run_bind,Sem.run_pure,Result.andThen_ok,hagg,Bool.false_eq_true,if_false,hl]
theorem y_cell {v:Value} (ty:TypeId) (x:Operand) (ad:Addr) (td:TypeDesc) (hw:Region.wanted oi (yielded ops a.tmps)=true) (ho:oi.op=.load ty x) (hx:a.eval x=.pointer (some ad)) (hc:∀ w,S w→w.cell? ad=some v) (hu:P.underlying ty=some td) (hr:td.isRow=false):YieldsIf P ops S oi v a:=
  .inl ⟨hw,fun w hS=>by
    unfold execOp
    simp only [ho,hx,Sem.run_bind,Sem.run_pure,Result.andThen_ok,run_loadAt_cellU w ad ty v td (hc w hS) hu hr]⟩
theorem u_one (i:Nat) (hi:ops[i]?=some oi) (hw:Region.wanted oi (yielded ops a.tmps)=true) (hr:Region.ready md ops listed=[i])
    (h:Oper.wp P oi a w (fun a' w'=>(m≤i∨S w')∧UwA P md ops Q S m fuel (listed.setIfInBounds i true) a' w') Q):UwA P md ops Q S m (fuel+1) listed a w:=by
  refine ⟨wpAnyU_all hr (by simp) (fun j hj=>?_)⟩
  obtain rfl:j=i:=by simpa using hj
  refine wpOp_mono (K:=fun a' w'=>(m≤j∨S w')∧UwA P md ops Q S m fuel (listed.setIfInBounds j true) a' w') (fun a' w' h'=>⟨h'.1,h'.2.h⟩) ?_
  unfold wpOp
  simp only [hi,hw,if_true]
  exact .inl h
theorem u_call (i:Nat) (d:Option Tmp) (f:FuncId) (vs:Array Value) (v:Value) (F:World→Prop) (hi:ops[i]?=some oi) (hd:oi.dst=d) (hw:Region.wanted oi (yielded ops a.tmps)=true) (hr:Region.ready md ops listed=[i])
    (hx:(execOp a.eval oi).run P w=.ok (.enter f vs) w) (hc:Calls P f vs w (fun e w'=>e=.returned v∧F w'))
    (h:∀ w',F w'→S w'∧UwA P md ops Q S m fuel (listed.setIfInBounds i true) (a.put d v) w'):UwA P md ops Q S m (fuel+1) listed a w:=by
  subst hd
  refine u_one i hi hw hr ?_
  unfold Oper.wp
  rw [hx,Oper.upon_enter]
  refine hc.mono ?_
  rintro e w' ⟨rfl,hF⟩
  exact ⟨.inr (h w' hF).1,(h w' hF).2⟩
theorem u_callE (i:Nat) (d:Option Tmp) (f:FuncId) (vs:Array Value) (F:Value→World→Prop) (hi:ops[i]?=some oi) (hd:oi.dst=d) (hw:Region.wanted oi (yielded ops a.tmps)=true) (hr:Region.ready md ops listed=[i])
    (hx:(execOp a.eval oi).run P w=.ok (.enter f vs) w) (hc:Calls P f vs w (fun e w'=>∃ v,e=.returned v∧F v w'))
    (h:∀ v w',F v w'→S w'∧UwA P md ops Q S m fuel (listed.setIfInBounds i true) (a.put d v) w'):UwA P md ops Q S m (fuel+1) listed a w:=by
  subst hd
  refine u_one i hi hw hr ?_
  unfold Oper.wp
  rw [hx,Oper.upon_enter]
  refine hc.mono ?_
  rintro e w' ⟨v,rfl,hF⟩
  exact ⟨.inr (h v w' hF).1,(h v w' hF).2⟩
theorem u_store (i:Nat) (ty:TypeId) (x y:Operand) (b o:Nat) (cells:Array Value) (hi:ops[i]?=some oi) (hd:oi.dst=none) (hw:Region.wanted oi (yielded ops a.tmps)=true) (hr:Region.ready md ops listed=[i])
    (ho:oi.op=.store ty x y) (hx:a.eval x=.pointer (some ⟨b,o,none⟩)) (hy:a.eval y=.agg cells) (ht:w.there b o cells.size) (hz:(P.info? ty).map (·.size)=some cells.size) (h1:cells.all (·.oneCell')=true)
    (h:∀ w',w'=w.setCells b o cells.toList→S w'∧UwA P md ops Q S m fuel (listed.setIfInBounds i true) a w'):UwA P md ops Q S m (fuel+1) listed a w:=by
  refine u_one i hi hw hr ?_
  refine wp_store_mid ty x y ho b o cells hx hy ht hz h1 ?_
  rw [hd]
  exact ⟨.inr (h _ rfl).1,(h _ rfl).2⟩
theorem u_done (hr:Region.ready md ops listed=[]) (h:Q .normal a w):UwA P md ops Q S m fuel listed a w:=⟨wpAnyU_done hr h fuel⟩
theorem wp_region_u (m:Nat) (S:World→Prop) {id:Nat} (hm:P.follows .mixedOrders=true)
    (h:UwA P .any ops Q S m ops.size (Array.replicate ops.size false) a w.drew):(Code.region id ops true).wp P Q a w:=wp_region_U hm h.h
end
open Go.RowKit

def ltL:List UInt8→List UInt8→Bool
  | [],[]=>false
  | [],_ :: _=>true
  | _ :: _,[]=>false
  | a :: x,b :: y=>decide (a.toNat < b.toNat) || (decide (a.toNat=b.toNat) && ltL x y)
theorem u8_eq {a b:UInt8} (h:a.toNat=b.toNat):a=b:=UInt8.toNat_inj.1 h
theorem ltL_cons {a b:UInt8} {x y:List UInt8}:ltL (a :: x) (b :: y)=true ↔ a.toNat < b.toNat∨a.toNat=b.toNat∧ltL x y=true:=by
  simp [ltL]
theorem ltL_irrefl:∀ x:List UInt8,ltL x x=false
  | []=>rfl
  | a :: x=>by simp [ltL,ltL_irrefl x]
theorem ltL_trans:∀ {x y z:List UInt8},ltL x y=true→ltL y z=true→ltL x z=true
  | [],[],_,h,_=>by simp [ltL] at h
  | [],_ :: _,[],_,h=>by simp [ltL] at h
  | [],_ :: _,_ :: _,_,_=>rfl
  | _ :: _,[],_,h,_=>by simp [ltL] at h
  | _ :: _,_ :: _,[],_,h=>by simp [ltL] at h
  | a :: x,b :: y,c :: z,h,k=>by
    rw [ltL_cons] at h k ⊢
    rcases h with h | ⟨h,h'⟩ <;> rcases k with k | ⟨k,k'⟩
    · left;omega
    · left;omega
    · left;omega
    · right;exact ⟨by omega,ltL_trans h' k'⟩
theorem ltL_total:∀ (x y:List UInt8),ltL x y=true∨x=y∨ltL y x=true
  | [],[]=>.inr (.inl rfl)
  | [],_ :: _=>.inl rfl
  | _ :: _,[]=>.inr (.inr rfl)
  | a :: x,b :: y=>by
    rw [ltL_cons,ltL_cons]
    rcases Nat.lt_trichotomy a.toNat b.toNat with h | h | h
    · exact .inl (.inl h)
    · rcases ltL_total x y with k | rfl | k
      · exact .inl (.inr ⟨h,k⟩)
      · exact .inr (.inl (by rw [u8_eq h]))
      · exact .inr (.inr (.inr ⟨h.symm,k⟩))
    · exact .inr (.inr (.inl h))
def cpL:List UInt8→List UInt8→Nat
  | a :: x,b :: y=>if a=b then cpL x y+1 else 0
  | _,_=>0
theorem cpL_le:∀ (x y:List UInt8),cpL x y≤x.length∧cpL x y≤y.length
  | [],_=>⟨Nat.le_refl _,Nat.zero_le _⟩
  | _ :: _,[]=>⟨Nat.zero_le _,Nat.le_refl _⟩
  | a :: x,b :: y=>by
    have:=cpL_le x y
    rw [cpL]
    split <;> simp <;> omega
theorem cpL_in:∀ {x y:List UInt8} {i:Nat},i < cpL x y→x[i]?=y[i]?
  | [],_,i,h=>by simp [cpL] at h
  | _ :: _,[],i,h=>by simp [cpL] at h
  | a :: x,b :: y,i,h=>by
    rw [cpL] at h
    split at h
    · rename_i e
      cases i with
      | zero=>simp [e]
      | succ i=>simpa using cpL_in (x:=x) (y:=y) (i:=i) (by omega)
    · omega
theorem cpL_stop:∀ {x y:List UInt8} {a b:UInt8},x[cpL x y]?=some a→y[cpL x y]?=some b→a≠b
  | [],_,a,b,h,_=>by simp at h
  | _ :: _,[],a,b,_,h=>by simp at h
  | c :: x,d :: y,a,b,h,k=>by
    rw [cpL] at h k
    split at h
    · rename_i e
      rw [if_pos e] at k
      exact cpL_stop (x:=x) (y:=y) (by simpa using h) (by simpa using k)
    · rename_i e
      rw [if_neg e] at k
      have h1:c=a:=by simpa using h
      have h2:d=b:=by simpa using k
      rw [← h1,← h2];exact e
theorem cpL_is:∀ {x y:List UInt8} {n:Nat},(∀ i,i < n→x[i]?=y[i]?)→n≤x.length→n≤y.length→(n=x.length∨n=y.length∨∃ a b,x[n]?=some a∧y[n]?=some b∧a≠b)→cpL x y=n
  | [],y,n,_,h1,_,_=>by
    obtain rfl:n=0:=by simpa using h1
    simp [cpL]
  | _ :: _,[],n,_,_,h2,_=>by
    obtain rfl:n=0:=by simpa using h2
    simp [cpL]
  | c :: x,d :: y,0,_,_,_,h=>by
    rcases h with h | h | ⟨a,b,h1,h2,h3⟩
    · simp at h
    · simp at h
    · have e1:c=a:=by simpa using h1
      have e2:d=b:=by simpa using h2
      rw [cpL,if_neg (by rw [e1,e2];exact h3)]
  | c :: x,d :: y,n+1,hi,h1,h2,h=>by
    have e0:c=d:=by simpa using hi 0 (by omega)
    rw [cpL,if_pos e0]
    congr 1
    refine cpL_is (fun i hn=>by simpa using hi (i+1) (by omega)) (by simpa using h1) (by simpa using h2) ?_
    rcases h with h | h | ⟨a,b,h1,h2,h3⟩
    · exact .inl (by simpa using h)
    · exact .inr (.inl (by simpa using h))
    · exact .inr (.inr ⟨a,b,by simpa using h1,by simpa using h2,h3⟩)
theorem lt_of_end:∀ {x y:List UInt8},cpL x y=x.length→x.length < y.length→ltL x y=true
  | [],[],_,h=>by simp at h
  | [],_ :: _,_,_=>rfl
  | _ :: _,[],_,h=>by simp at h
  | a :: x,b :: y,h,hl=>by
    rw [cpL] at h
    split at h
    · rename_i e
      rw [ltL_cons]
      right
      exact ⟨by rw [e],lt_of_end (by simpa using h) (by simpa using hl)⟩
    · simp at h
theorem cp_comm:∀ x y:List UInt8,cpL x y=cpL y x
  | [],[]=>rfl
  | [],_ :: _=>rfl
  | _ :: _,[]=>rfl
  | a :: x,b :: y=>by
    rw [cpL,cpL]
    by_cases h:a=b
    · rw [if_pos h,if_pos h.symm,cp_comm x y]
    · rw [if_neg h,if_neg (fun e=>h e.symm)]
theorem lt_of_stop:∀ {x y:List UInt8} {a b:UInt8},x[cpL x y]?=some a→y[cpL x y]?=some b→a.toNat < b.toNat→ltL x y=true
  | [],_,a,b,h,_,_=>by simp at h
  | _ :: _,[],a,b,_,h,_=>by simp at h
  | c :: x,d :: y,a,b,h,k,l=>by
    rw [ltL_cons]
    rw [cpL] at h k
    split at h
    · rename_i e
      rw [if_pos e] at k
      exact .inr ⟨by rw [e],lt_of_stop (by simpa using h) (by simpa using k) l⟩
    · rename_i e
      rw [if_neg e] at k
      have h1:c=a:=by simpa using h
      have h2:d=b:=by simpa using k
      rw [h1,h2];exact .inl l
theorem eq_of_cp {x y:List UInt8} (h1:cpL x y=x.length) (h2:cpL x y=y.length):x=y:=by
  apply List.ext_getElem?
  intro i
  rcases Nat.lt_or_ge i (cpL x y) with h | h
  · exact cpL_in h
  · rw [List.getElem?_eq_none (by omega),List.getElem?_eq_none (by omega)]

def ltS (a b:ByteArray):Bool:=ltL a.data.toList b.data.toList
theorem ba_eq {a b:ByteArray} (h:a.data.toList=b.data.toList):a=b:=by
  cases a;cases b
  congr
  exact Array.toList_inj.1 h
theorem ltS_irrefl (a:ByteArray):ltS a a=false:=ltL_irrefl _
theorem ltS_trans {a b c:ByteArray} (h:ltS a b=true) (k:ltS b c=true):ltS a c=true:=ltL_trans h k
theorem ltS_total (a b:ByteArray):ltS a b=true∨a=b∨ltS b a=true:=by
  rcases ltL_total a.data.toList b.data.toList with h | h | h
  · exact .inl h
  · exact .inr (.inl (ba_eq h))
  · exact .inr (.inr h)
theorem ltS_asymm {a b:ByteArray} (h:ltS a b=true):ltS b a=false:=by
  cases h':ltS b a with
  | false=>rfl
  | true=>have:=ltS_trans h h';rw [ltS_irrefl] at this;cases this
theorem ltS_ne {a b:ByteArray} (h:ltS a b=true):a≠b:=by rintro rfl;rw [ltS_irrefl] at h;cases h
theorem ba_toList (a:ByteArray):a.toList=a.data.toList:=ByteArray.toList_eq a
def sEq (a b:ByteArray):Bool:=a.toList==b.toList
theorem sEq_iff {a b:ByteArray}:sEq a b=true ↔ a=b:=by
  unfold sEq
  rw [beq_iff_eq,ba_toList,ba_toList]
  exact ⟨ba_eq,fun h=>by rw [h]⟩
theorem sEq_self (a:ByteArray):sEq a a=true:=sEq_iff.2 rfl
theorem sEq_ne {a b:ByteArray} (h:a≠b):sEq a b=false:=by
  cases e:sEq a b with
  | false=>rfl
  | true=>exact absurd (sEq_iff.1 e) h
def cmpI (a b:ByteArray):Int:=if ltS a b=true then -1 else if a=b then 0 else 1
theorem cmp_lt {a b:ByteArray} (h:ltS a b=true):cmpI a b=-1:=if_pos h
theorem cmp_eq (a:ByteArray):cmpI a a=0:=by rw [cmpI,if_neg (by rw [ltS_irrefl];decide),if_pos rfl]
theorem cmp_gt {a b:ByteArray} (h:ltS b a=true):cmpI a b=1:=by rw [cmpI,if_neg (by rw [ltS_asymm h];decide),if_neg (fun e=>ltS_ne h e.symm)]
theorem cmp_neg (a b:ByteArray):decide (cmpI a b < 0)=ltS a b:=by
  rcases ltS_total a b with h | rfl | h
  · rw [cmp_lt h,h];rfl
  · rw [cmp_eq,ltS_irrefl];rfl
  · rw [cmp_gt h,ltS_asymm h];rfl
theorem cmp_le (a b:ByteArray):decide (cmpI a b≤0)=!ltS b a:=by
  rcases ltS_total a b with h | rfl | h
  · rw [cmp_lt h,ltS_asymm h];rfl
  · rw [cmp_eq,ltS_irrefl];rfl
  · rw [cmp_gt h,h];rfl
theorem cmp_ge (a b:ByteArray):decide (0≤cmpI a b)=!ltS a b:=by
  rcases ltS_total a b with h | rfl | h
  · rw [cmp_lt h,h];rfl
  · rw [cmp_eq,ltS_irrefl];rfl
  · rw [cmp_gt h,ltS_asymm h];rfl
def inS (low high:ByteArray) (unb:Bool) (key:ByteArray):Bool:=!ltS key low && (unb || ltS key high)

theorem ba_len (a:ByteArray):a.data.toList.length=a.size:=by simp
theorem ba_get {a:ByteArray} {i:Nat} (h:i < a.size):a.data.toList[i]?=some a[i]:=by
  rw [List.getElem?_eq_getElem (by rw [ba_len];exact h)]
  rfl

theorem drewN_drewN (w:World) (a b:Nat):(w.drewN a).drewN b=w.drewN (a+b):=by
  simp [World.drewN,Nat.add_assoc]
set_option maxHeartbeats 2000000 in
theorem common_ok (a b:ByteArray) (w:World) (ha:a.size≤9000000000000000000) (hb:b.size≤9000000000000000000) :
  Calls Tryz.prog 126 #[.string a,.string b] w fun e w'=>e=.returned (.int .i64 (cpL a.data.toList b.data.toList:Nat))∧∃ n,w'=w.drewN n:=by
 by_cases hmin:b.size < a.size
 ·go_enter Tryz.func126,Tryz.ntmps126
  go_wp2
  go_loopw [5,11] (fun n i wr=>∃ k:Nat,k≤b.size∧n=.int .i64 k∧i=.int .i64 k∧(∀ j,j < k→a.data.toList[j]?=b.data.toList[j]?)∧∃ q,wr=w.drewN q) (fun _ i _=>b.size - (intOf i).toNat)
  case atStart=>exact ⟨0,Nat.zero_le _,rfl,rfl,fun j hj=>by omega,0,rfl⟩
  case round =>
   obtain ⟨k,hk,rfl,rfl,hall,q,rfl⟩:=hrel
   have HA:=hid_ hall
   clear hall
   by_cases hlt:k < b.size
   ·have hka:k < a.size:=by omega
    have hkb:k < b.size:=by omega
    have hi0:(0:Int)≤(k:Int):=Int.natCast_nonneg _
    have hia:(k:Int) < (a.size:Int):=by omega
    have hib:(k:Int) < (b.size:Int):=by omega
    by_cases he:a[k]=b[k]
    ·have hne:((a[k].toNat:Int) != (b[k].toNat:Int))=false:=by rw [he];simp
     have HS:Hid (∀ j,j < k+1→a.data.toList[j]?=b.data.toList[j]?):=hid_ (fun j hj=>by
      rcases Nat.lt_succ_iff_lt_or_eq.1 hj with h | rfl
      ·exact HA.out j h
      ·rw [ba_get hka,ba_get hkb,he])
     clear he
     go_wp2_with fail
     go_quiet (fail)
     go_wp2_with fail
     go_roundw
     case rel=>exact ⟨k+1,by omega,by go_num,by go_num,HS.out,_,rfl⟩
     case measure=>simp [intOf];omega
    ·have hne:((a[k].toNat:Int) != (b[k].toNat:Int))=true:=by
      rw [bne_iff_ne]
      intro e
      exact he (u8_eq (by omega))
     have HE:Hid (cpL a.data.toList b.data.toList=k):=hid_ (cpL_is HA.out (by rw [ba_len];omega) (by rw [ba_len];omega) (.inr (.inr ⟨a[k],b[k],ba_get hka,ba_get hkb,he⟩)))
     clear he
     go_wp2_with fail
     go_quiet (fail)
     go_wp2_with fail
     go_ret
     refine ⟨by rw [HE.out];rfl,?_⟩
     first | exact ⟨_,rfl⟩ | exact ⟨_,drewN_drewN _ _ _⟩
   ·obtain rfl:k=b.size:=by omega
    have HE:Hid (cpL a.data.toList b.data.toList=b.size):=hid_ (cpL_is HA.out (by rw [ba_len];omega) (by rw [ba_len];omega) (by rw [ba_len,ba_len];omega))
    go_wp2_with fail
    go_ret
    refine ⟨by rw [HE.out];rfl,?_⟩
    first | exact ⟨_,rfl⟩ | exact ⟨_,drewN_drewN _ _ _⟩
 ·go_enter Tryz.func126,Tryz.ntmps126
  go_wp2
  go_loopw [5,11] (fun n i wr=>∃ k:Nat,k≤a.size∧n=.int .i64 k∧i=.int .i64 k∧(∀ j,j < k→a.data.toList[j]?=b.data.toList[j]?)∧∃ q,wr=w.drewN q) (fun _ i _=>a.size - (intOf i).toNat)
  case atStart=>exact ⟨0,Nat.zero_le _,rfl,rfl,fun j hj=>by omega,0,rfl⟩
  case round =>
   obtain ⟨k,hk,rfl,rfl,hall,q,rfl⟩:=hrel
   have HA:=hid_ hall
   clear hall
   by_cases hlt:k < a.size
   ·have hka:k < a.size:=by omega
    have hkb:k < b.size:=by omega
    have hi0:(0:Int)≤(k:Int):=Int.natCast_nonneg _
    have hia:(k:Int) < (a.size:Int):=by omega
    have hib:(k:Int) < (b.size:Int):=by omega
    by_cases he:a[k]=b[k]
    ·have hne:((a[k].toNat:Int) != (b[k].toNat:Int))=false:=by rw [he];simp
     have HS:Hid (∀ j,j < k+1→a.data.toList[j]?=b.data.toList[j]?):=hid_ (fun j hj=>by
      rcases Nat.lt_succ_iff_lt_or_eq.1 hj with h | rfl
      ·exact HA.out j h
      ·rw [ba_get hka,ba_get hkb,he])
     clear he
     go_wp2_with fail
     go_quiet (fail)
     go_wp2_with fail
     go_roundw
     case rel=>exact ⟨k+1,by omega,by go_num,by go_num,HS.out,_,rfl⟩
     case measure=>simp [intOf];omega
    ·have hne:((a[k].toNat:Int) != (b[k].toNat:Int))=true:=by
      rw [bne_iff_ne]
      intro e
      exact he (u8_eq (by omega))
     have HE:Hid (cpL a.data.toList b.data.toList=k):=hid_ (cpL_is HA.out (by rw [ba_len];omega) (by rw [ba_len];omega) (.inr (.inr ⟨a[k],b[k],ba_get hka,ba_get hkb,he⟩)))
     clear he
     go_wp2_with fail
     go_quiet (fail)
     go_wp2_with fail
     go_ret
     refine ⟨by rw [HE.out];rfl,?_⟩
     first | exact ⟨_,rfl⟩ | exact ⟨_,drewN_drewN _ _ _⟩
   ·obtain rfl:k=a.size:=by omega
    have HE:Hid (cpL a.data.toList b.data.toList=a.size):=hid_ (cpL_is HA.out (by rw [ba_len];omega) (by rw [ba_len];omega) (by rw [ba_len,ba_len];omega))
    go_wp2_with fail
    go_ret
    refine ⟨by rw [HE.out];rfl,?_⟩
    first | exact ⟨_,rfl⟩ | exact ⟨_,drewN_drewN _ _ _⟩

set_option maxHeartbeats 2000000 in
theorem compare_ok (a b:ByteArray) (w:World) (ha:a.size≤9000000000000000000) (hb:b.size≤9000000000000000000) :
  Calls Tryz.prog 115 #[.string a,.string b] w fun e w'=>e=.returned (.int .i64 (cmpI a b))∧∃ n,w'=w.drewN n:=by
 obtain ⟨n,hn⟩:∃ n,n=cpL a.data.toList b.data.toList:=⟨_,rfl⟩
 have hle:=cpL_le a.data.toList b.data.toList
 rw [ba_len,ba_len,← hn] at hle
 obtain ⟨hla,hlb⟩:=hle
 have HN:=hid_ hn
 clear hn
 by_cases h1:n=a.size
 ·have hA:((n:Int)==(a.size:Int))=true:=beq_iff_eq.2 (by omega)
  by_cases h2:n=b.size
  ·have hB:((n:Int)==(b.size:Int))=true:=beq_iff_eq.2 (by omega)
   have he:a=b:=ba_eq (eq_of_cp (by rw [ba_len,← HN.out,h1]) (by rw [ba_len,← HN.out,h2]))
   have HE:Hid (cmpI a b=0):=hid_ (by rw [he];exact cmp_eq b)
   clear h1 h2 he
   go_enter Tryz.func115,Tryz.ntmps115
   go_wp2_with fail
   refine (common_ok a b w ha hb).mono ?_
   rintro e w1 ⟨rfl,q,rfl⟩
   rw [← HN.out]
   go_wp2_with fail
   go_ret
   refine ⟨by rw [HE.out];rfl,?_⟩
   first | exact ⟨_,rfl⟩ | exact ⟨_,drewN_drewN _ _ _⟩
  ·have hB:((n:Int)==(b.size:Int))=false:=beq_eq_false_iff_ne.2 (by omega)
   have HE:Hid (cmpI a b=-1):=hid_ (cmp_lt (lt_of_end (by rw [ba_len,← HN.out,h1]) (by rw [ba_len,ba_len];omega)))
   clear h1 h2
   go_enter Tryz.func115,Tryz.ntmps115
   go_wp2_with fail
   refine (common_ok a b w ha hb).mono ?_
   rintro e w1 ⟨rfl,q,rfl⟩
   rw [← HN.out]
   go_wp2_with fail
   go_ret
   refine ⟨by rw [HE.out];rfl,?_⟩
   first | exact ⟨_,rfl⟩ | exact ⟨_,drewN_drewN _ _ _⟩
 ·have hA:((n:Int)==(a.size:Int))=false:=beq_eq_false_iff_ne.2 (by omega)
  by_cases h2:n=b.size
  ·have hB:((n:Int)==(b.size:Int))=true:=beq_iff_eq.2 (by omega)
   have HE:Hid (cmpI a b=1):=hid_ (cmp_gt (lt_of_end (by rw [cp_comm,ba_len,← HN.out,h2]) (by rw [ba_len,ba_len];omega)))
   clear h1 h2
   go_enter Tryz.func115,Tryz.ntmps115
   go_wp2_with fail
   refine (common_ok a b w ha hb).mono ?_
   rintro e w1 ⟨rfl,q,rfl⟩
   rw [← HN.out]
   go_wp2_with fail
   go_ret
   refine ⟨by rw [HE.out];rfl,?_⟩
   first | exact ⟨_,rfl⟩ | exact ⟨_,drewN_drewN _ _ _⟩
  ·have hB:((n:Int)==(b.size:Int))=false:=beq_eq_false_iff_ne.2 (by omega)
   have hka:n < a.size:=by omega
   have hkb:n < b.size:=by omega
   have hi0:(0:Int)≤(n:Int):=Int.natCast_nonneg _
   have hia:(n:Int) < (a.size:Int):=by omega
   have hib:(n:Int) < (b.size:Int):=by omega
   have ga:a.data.toList[cpL a.data.toList b.data.toList]?=some a[n]:=by rw [← HN.out];exact ba_get hka
   have gb:b.data.toList[cpL a.data.toList b.data.toList]?=some b[n]:=by rw [← HN.out];exact ba_get hkb
   have hst:=cpL_stop ga gb
   by_cases h3:a[n].toNat < b[n].toNat
   ·have hC:decide (a[n].toNat < b[n].toNat)=true:=decide_eq_true h3
    have HE:Hid (cmpI a b=-1):=hid_ (cmp_lt (lt_of_stop ga gb h3))
    clear h1 h2 h3 ga gb hst
    go_enter Tryz.func115,Tryz.ntmps115
    go_wp2_with fail
    refine (common_ok a b w ha hb).mono ?_
    rintro e w1 ⟨rfl,q,rfl⟩
    rw [← HN.out]
    go_wp2_with fail
    go_quiet (fail)
    go_wp2_with fail
    go_ret
    refine ⟨by rw [HE.out];rfl,?_⟩
    first | exact ⟨_,rfl⟩ | exact ⟨_,drewN_drewN _ _ _⟩
   ·have hC:decide (a[n].toNat < b[n].toNat)=false:=decide_eq_false h3
    have hgt:b[n].toNat < a[n].toNat:=by
     rcases Nat.lt_trichotomy a[n].toNat b[n].toNat with h | h | h
     ·exact absurd h h3
     ·exact absurd (u8_eq h) hst
     ·exact h
    rw [cp_comm] at ga gb
    have HE:Hid (cmpI a b=1):=hid_ (cmp_gt (lt_of_stop gb ga hgt))
    clear h1 h2 h3 ga gb hst hgt
    go_enter Tryz.func115,Tryz.ntmps115
    go_wp2_with fail
    refine (common_ok a b w ha hb).mono ?_
    rintro e w1 ⟨rfl,q,rfl⟩
    rw [← HN.out]
    go_wp2_with fail
    go_quiet (fail)
    go_wp2_with fail
    go_ret
    refine ⟨by rw [HE.out];rfl,?_⟩
    first | exact ⟨_,rfl⟩ | exact ⟨_,drewN_drewN _ _ _⟩

set_option maxHeartbeats 2000000 in
theorem in_ok (low high:ByteArray) (unb:Bool) (key:ByteArray) (w:World) (h1:low.size≤9000000000000000000) (h2:high.size≤9000000000000000000) (h3:key.size≤9000000000000000000) :
    Calls Tryz.prog 124 #[.string low,.string high,.bool unb,.string key] w fun e w'=>e=.returned (.bool (inS low high unb key))∧∃ n,w'=w.drewN n:=by
  have ca:=cmp_le low key
  have cb:=cmp_neg key high
  cases ha:ltS key low with
  | true =>
    have hr:Hid (inS low high unb key=false):=hid_ (by simp [inS,ha])
    rw [ha] at ca
    have ca':decide (cmpI low key≤0)=false:=ca
    clear ca cb ha
    go_enter Tryz.func124,Tryz.ntmps124
    go_wp2_with fail
    refine (compare_ok low key w h1 h3).mono ?_
    rintro e w1 ⟨rfl,q,rfl⟩
    go_wp2_with fail
    go_ret
    refine ⟨by rw [hr.out];rfl,?_⟩
    first | exact ⟨_,rfl⟩ | exact ⟨_,drewN_drewN _ _ _⟩
  | false =>
    rw [ha] at ca
    have ca':decide (cmpI low key≤0)=true:=ca
    cases unb with
    | true =>
      have hr:Hid (inS low high true key=true):=hid_ (by simp [inS,ha])
      clear ca cb ha
      go_enter Tryz.func124,Tryz.ntmps124
      go_wp2_with fail
      refine (compare_ok low key w h1 h3).mono ?_
      rintro e w1 ⟨rfl,q,rfl⟩
      go_wp2_with fail
      go_ret
      refine ⟨by rw [hr.out];rfl,?_⟩
      first | exact ⟨_,rfl⟩ | exact ⟨_,drewN_drewN _ _ _⟩
    | false =>
      have hr:Hid (inS low high false key=ltS key high):=hid_ (by simp [inS,ha])
      have CB:=hid_ cb
      clear ca cb ha
      go_enter Tryz.func124,Tryz.ntmps124
      go_wp2_with fail
      refine (compare_ok low key w h1 h3).mono ?_
      rintro e w1 ⟨rfl,q,rfl⟩
      go_wp2_with fail
      refine (compare_ok key high _ h3 h2).mono ?_
      rintro e w1 ⟨rfl,q2,rfl⟩
      go_wp2_with fail
      go_ret
      refine ⟨by rw [hr.out,← CB.out];rfl,?_⟩
      first | exact ⟨_,rfl⟩ | exact ⟨_,drewN_drewN _ _ _⟩
open Go

structure Wx (w:World) where
  v:World
  h:Fr none_ w v
instance Wx.some_ (w:World):Nonempty (Wx w):=⟨⟨w,Fr.refl _ _⟩⟩
def Wx.to {w:World} (x:Wx w):World:=x.v
theorem Wx.fr {w:World} (x:Wx w):Fr none_ w x.to:=x.h
theorem Wx.cell {w:World} (x:Wx w) {b o:Nat} {v:Value} (h:w.cell? ⟨b,o,none⟩=some v):x.to.cell? ⟨b,o,none⟩=some v:=
  (World.cell?_of_block (x.h.block b (World.block_lt_of_cell? w _ h) id)).trans h
section
variable {P:Program} {w:World}
theorem wp_region_quiet_x {id:Nat} {Q:Exit→Act→World→Prop} {a:Act} {l:List Oper} (hm:P.follows .mixedOrders=true) (hB:Region.lexB .any l.toArray=true)
    (h:wpQuiet P l.toArray (fun w'=>∃ x:Wx w,w'=x.to) (fun a'=>∀ w',(∃ x:Wx w,w'=x.to)→Q .normal a' w') l a):(Code.region id l.toArray true).wp P Q a w:=
  wp_region_quiet (C:=fun w'=>∃ x:Wx w,w'=x.to) hm hB ⟨⟨_,(Fr.refl none_ w).drew⟩,rfl⟩ (by simpa using h)
theorem Calls.quiet_x {f:FuncId} {args:Array Value} {x:Wx w} {v:Value}
    (h:Calls P f args x.to fun e w'=>e=.returned v∧Fr none_ x.to w'):Calls P f args x.to fun e w''=>e=.returned v∧∃ y:Wx w,w''=y.to:=
  h.mono fun _ w' ⟨he,hf⟩=>⟨he,⟨w',x.h.then_none hf⟩,rfl⟩
end
open Go.RowKit Go.BigFrame

structure Vw where
  low:ByteArray
  high:ByteArray
  unb:Bool
  right:Int
  ents:List Et
  held:Bool
  hp:Int
  hl:Int
  hk:ByteArray
def Vw.zero:Vw:=⟨nilS,nilS,false,0,[],false,0,0,nilS⟩
abbrev vwA (V:Vw) (ve:Value):Array Value:=#[.string V.low,.string V.high,.bool V.unb,.int .i64 V.right,ve,.bool V.held,.int .i64 V.hp,.int .i64 V.hl,.string V.hk]
abbrev vwV (V:Vw) (ve:Value):Value:=.agg (vwA V ve)
def SzOk (s:ByteArray):Prop:=s.size≤9000000000000000000
theorem SzOk.le {s:ByteArray} (h:SzOk s):s.size≤9000000000000000000:=h
theorem SzOk.nil:SzOk nilS:=by unfold SzOk;decide
def EtsOk (L:List Et):Prop:=L.length≤1000∧∀ p ∈ L,SzOk p.1
structure Vw.Ok (V:Vw):Prop where
  low:SzOk V.low
  high:SzOk V.high
  hk:SzOk V.hk
  ents:EtsOk V.ents
structure VwIn (w:World) (V:Vw) (A:Option Addr) (c:Nat):Prop where
  rd:Reads w 2 A V.ents.length (etFlat V.ents)
  cap:V.ents.length≤c
  capm:c≤maxLen
  ok:V.Ok
theorem VwIn.keep {w w':World} {V:Vw} {A:Option Addr} {c:Nat} (h:VwIn w V A c) (hf:Fr none_ w w'):VwIn w' V A c:=⟨h.rd.none_fr hf,h.cap,h.capm,h.ok⟩

def plN:List Et→ByteArray→Nat
  | [],_=>0
  | p :: t,key=>if ltS p.1 key=true then plN t key+1 else 0
theorem plN_le:∀ (L:List Et) (key:ByteArray),plN L key≤L.length
  | [],_=>Nat.le_refl _
  | p :: t,key=>by
    have:=plN_le t key
    rw [plN]
    split <;> simp <;> omega
theorem plN_in:∀ {L:List Et} {key:ByteArray} {i:Nat} {p:Et},i < plN L key→L[i]?=some p→ltS p.1 key=true
  | [],_,i,p,h,_=>by simp [plN] at h
  | q :: t,key,i,p,h,hp=>by
    rw [plN] at h
    split at h
    · cases i with
      | zero =>
        obtain rfl:q=p:=by simpa using hp
        assumption
      | succ i=>exact plN_in (L:=t) (i:=i) (by omega) (by simpa using hp)
    · omega
theorem plN_at:∀ {L:List Et} {key:ByteArray} {p:Et},L[plN L key]?=some p→ltS p.1 key=false
  | [],_,p,h=>by simp at h
  | q :: t,key,p,h=>by
    rw [plN] at h
    split at h
    · exact plN_at (L:=t) (by simpa using h)
    · obtain rfl:q=p:=by simpa using h
      rename_i h1
      simpa using h1
def atB (L:List Et) (key:ByteArray):Bool:=
  match L[plN L key]? with
  | some p=>sEq p.1 key
  | none=>false
theorem atB_some {L:List Et} {key:ByteArray} {p:Et} (h:L[plN L key]?=some p):atB L key=sEq p.1 key:=by simp [atB,h]
theorem atB_none {L:List Et} {key:ByteArray} (h:plN L key=L.length):atB L key=false:=by simp [atB,h]

structure Sound (V:Vw):Prop where
  head:∃ p,V.ents[0]?=some p∧p.1=V.low
  high:V.unb=true→V.high=nilS
  inn:∀ p ∈ V.ents,inS V.low V.high V.unb p.1=true
  ris:∀ (i:Nat) (p q:Et),V.ents[i]?=some p→V.ents[i+1]?=some q→ltS p.1 q.1=true
def SoundTo (V:Vw) (k:Nat):Prop:=(∀ (j:Nat) (p:Et),j < k→V.ents[j]?=some p→inS V.low V.high V.unb p.1=true)∧∀ (j:Nat) (p q:Et),j+1 < k→V.ents[j]?=some p→V.ents[j+1]?=some q→ltS p.1 q.1=true
def SoundPost (V:Vw) (w:World) (e:Ending) (w':World):Prop:=∃ b:Bool,e=.returned (.bool b)∧(b=true ↔ Sound V)∧Fr none_ w w'
open Go.RowKit Go.BigFrame

theorem etFlat_app (L M:List Et):etFlat (L ++ M)=etFlat L ++ etFlat M:=by simp [etFlat]
theorem etFlat_take:∀ (L:List Et) (n:Nat),etFlat (L.take n)=(etFlat L).take (n * 2)
  | [],n=>by simp [etFlat]
  | p :: t,0=>by simp [etFlat]
  | p :: t,n+1=>by
    have:=etFlat_take t n
    rw [show (n+1) * 2=n * 2+1+1 by omega]
    show etCells p ++ etFlat (t.take n)=(etCells p ++ etFlat t).take (n * 2+1+1)
    rw [this]
    rfl
theorem etFlat_drop (L:List Et) (n:Nat):etFlat (L.drop n)=(etFlat L).drop (n * 2):=by
  have h:etFlat L=etFlat (L.take n) ++ etFlat (L.drop n):=by rw [← etFlat_app,List.take_append_drop]
  rcases Nat.lt_or_ge L.length n with hl | hl
  · rw [List.drop_eq_nil_of_le (by omega),List.drop_eq_nil_of_le (by rw [etFlat_len];omega)]
    rfl
  · rw [h,List.drop_left' (by rw [etFlat_len];simp;omega)]
open Go.RowKit Go.BigFrame

def plR:List Rw→ByteArray→Nat
  | [],_=>0
  | p :: t,key=>if ltS p.1 key=true then plR t key+1 else 0
theorem plR_le:∀ (L:List Rw) (key:ByteArray),plR L key≤L.length
  | [],_=>Nat.le_refl _
  | p :: t,key=>by
    have:=plR_le t key
    rw [plR]
    split <;> simp <;> omega
theorem plR_in:∀ {L:List Rw} {key:ByteArray} {i:Nat} {p:Rw},i < plR L key→L[i]?=some p→ltS p.1 key=true
  | [],_,i,p,h,_=>by simp [plR] at h
  | q :: t,key,i,p,h,hp=>by
    rw [plR] at h
    split at h
    · cases i with
      | zero =>
        obtain rfl:q=p:=by simpa using hp
        assumption
      | succ i=>exact plR_in (L:=t) (i:=i) (by omega) (by simpa using hp)
    · omega
theorem plR_at:∀ {L:List Rw} {key:ByteArray} {p:Rw},L[plR L key]?=some p→ltS p.1 key=false
  | [],_,p,h=>by simp at h
  | q :: t,key,p,h=>by
    rw [plR] at h
    split at h
    · exact plR_at (L:=t) (by simpa using h)
    · obtain rfl:q=p:=by simpa using h
      rename_i h1
      simpa using h1
def atR (L:List Rw) (key:ByteArray):Bool:=
  match L[plR L key]? with
  | some p=>sEq p.1 key
  | none=>false
theorem atR_some {L:List Rw} {key:ByteArray} {p:Rw} (h:L[plR L key]?=some p):atR L key=sEq p.1 key:=by simp [atR,h]
theorem atR_none {L:List Rw} {key:ByteArray} (h:plR L key=L.length):atR L key=false:=by simp [atR,h]
theorem atR_lt {L:List Rw} {key:ByteArray} (h:atR L key=true):plR L key < L.length:=by
  have h1:=plR_le L key
  rcases Nat.lt_or_ge (plR L key) L.length with h2 | h2
  · exact h2
  · rw [atR_none (by omega)] at h;cases h
def fitsR (p:Rw):Bool:=(decide (1≤p.1.size) && decide (p.1.size≤16)) && decide (p.2.size≤16)
structure RightR (L:List Rw):Prop where
  fit:∀ p ∈ L,fitsR p=true
  ris:∀ (i:Nat) (p q:Rw),L[i]?=some p→L[i+1]?=some q→ltS p.1 q.1=true
def RightTo (L:List Rw) (k:Nat):Prop:=(∀ (j:Nat) (p:Rw),j < k→L[j]?=some p→fitsR p=true)∧∀ (j:Nat) (p q:Rw),j+1 < k→L[j]?=some p→L[j+1]?=some q→ltS p.1 q.1=true
def RwsOk (L:List Rw):Prop:=L.length≤300000∧∀ p ∈ L,SzOk p.1∧SzOk p.2
def putR (L:List Rw) (r:Rw):List Rw:=L.take (plR L r.1) ++ [r] ++ L.drop (plR L r.1+if atR L r.1 then 1 else 0)
def dropR (L:List Rw) (key:ByteArray):List Rw:=if atR L key then L.take (plR L key) ++ L.drop (plR L key+1) else L
theorem putR_len (L:List Rw) (r:Rw):(putR L r).length≤L.length+1:=by
  have:=plR_le L r.1
  simp only [putR,List.length_append,List.length_take,List.length_drop,List.length_cons,List.length_nil]
  omega
theorem dropR_len (L:List Rw) (key:ByteArray):(dropR L key).length≤L.length:=by
  unfold dropR
  split
  · simp only [List.length_append,List.length_take,List.length_drop];omega
  · exact Nat.le_refl _
def inR (low high:ByteArray) (unb:Bool) (L:List Rw):List Rw:=L.filter fun p=>inS low high unb p.1
theorem inR_all {low high:ByteArray} {unb:Bool} {L:List Rw}:(inR low high unb L).length=L.length ↔ ∀ p ∈ L,inS low high unb p.1=true:=by
  unfold inR
  rw [List.length_filter_eq_length_iff]
structure SoundR (low high:ByteArray) (unb:Bool) (L:List Rw):Prop where
  hi:unb=true→high=nilS
  right:RightR L
  inn:∀ p ∈ L,inS low high unb p.1=true
abbrev PtR:=Option Addr × Nat × List Rw
abbrev ptRV (x:PtR):Value:=.slice x.1 x.2.2.length x.2.1
def ptRL (ps:List PtR):List Rw:=(ps.map (·.2.2)).flatten
theorem rwFlat_app (L M:List Rw):rwFlat (L ++ M)=rwFlat L ++ rwFlat M:=by simp [rwFlat]
theorem rwFlat_take:∀ (L:List Rw) (n:Nat),rwFlat (L.take n)=(rwFlat L).take (n * 2)
  | [],n=>by simp [rwFlat]
  | p :: t,0=>by simp [rwFlat]
  | p :: t,n+1=>by
    have:=rwFlat_take t n
    rw [show (n+1) * 2=n * 2+1+1 by omega]
    show rwCells p ++ rwFlat (t.take n)=(rwCells p ++ rwFlat t).take (n * 2+1+1)
    rw [this]
    rfl
theorem rwFlat_drop (L:List Rw) (n:Nat):rwFlat (L.drop n)=(rwFlat L).drop (n * 2):=by
  have h:rwFlat L=rwFlat (L.take n) ++ rwFlat (L.drop n):=by rw [← rwFlat_app,List.take_append_drop]
  rcases Nat.lt_or_ge L.length n with hl | hl
  · rw [List.drop_eq_nil_of_le (by omega),List.drop_eq_nil_of_le (by rw [rwFlat_len];omega)]
    rfl
  · rw [h,List.drop_left' (by rw [rwFlat_len];simp;omega)]
theorem ptRL_take {ps:List PtR} {k:Nat} {x:PtR} (h:ps[k]?=some x):ptRL (ps.take (k+1))=ptRL (ps.take k) ++ x.2.2:=by
  simp [ptRL,List.take_add_one,h]
theorem ptRL_le (ps:List PtR):∀ k,(ptRL (ps.take k)).length≤(ptRL ps).length:=fun k=>by
  have:ptRL ps=ptRL (ps.take k) ++ ptRL (ps.drop k):=by
    unfold ptRL
    rw [← List.flatten_append,← List.map_append,List.take_append_drop]
  rw [this,List.length_append]
  omega
def JoinPostR (w:World) (L:List Rw) (e:Ending) (w':World):Prop:=
  ∃ A c,e=.returned (.slice A L.length c)∧w'.ownsRow w.heap.size 25 2 (.slice A L.length c) L.length (rwFlat L)∧Fr none_ w w'
set_option maxHeartbeats 2000000 in
theorem list_ok (b:Nat) (ps:List PtR) (w:World) (hb:∀ (i:Nat) x,ps[i]?=some x→w.cell? ⟨b,i,none⟩=some (ptRV x)) (hr:∀ x ∈ ps,Reads w 2 x.1 x.2.2.length (rwFlat x.2.2)) (hl:(ptRL ps).length≤900000) (hn:ps.length≤10) :
    Calls Tryz.prog 127 #[.slice (some ⟨b,0,none⟩) ps.length ps.length] w (JoinPostR w (ptRL ps)):=by
  obtain ⟨i0,hi0,hz0,hs0,hb0⟩:=info_parts row_info
  have Hi:=hid_ (And.intro hi0 (And.intro hz0 (And.intro hs0 hb0)))
  have HB:=hid_ hb
  have HR:=hid_ hr
  clear hi0 hz0 hs0 hb0 hb hr
  go_enter Tryz.func127,Tryz.ntmps127
  go_wp2_with fail
  go_loopw [3,8] (fun v i wr=>∃ k:Nat,k≤ps.length∧i=.int .i64 k∧wr.ownsRow w.heap.size 25 2 v (ptRL (ps.take k)).length (rwFlat (ptRL (ps.take k)))∧Fr none_ w wr) (fun _ i _=>ps.length - (intOf i).toNat)
  case atStart=>exact ⟨0,Nat.zero_le _,rfl,World.ownsRow_nil _ _ _ _,Fr.refl _ _⟩
  case round =>
    obtain ⟨k,hk,rfl,hown,hF⟩:=hrel
    obtain ⟨A,c,rfl⟩:=hown.shape
    have O:=hid_ hown
    have F:=hid_ hF
    clear hown hF
    have hi0:(0:Int)≤(k:Int):=Int.natCast_nonneg _
    by_cases hlt:k < ps.length
    · have hi1:(k:Int) < (ps.length:Int):=by omega
      obtain ⟨x,hx⟩:∃ x,ps[k]?=some x:=⟨_,List.getElem?_eq_getElem hlt⟩
      obtain ⟨A2,c2,L2⟩:=x
      have hc:wr.cell? ⟨b,k,none⟩=some (.slice A2 L2.length c2):=cellFr (HB.out k _ hx) F.out
      have R:=hid_ ((HR.out _ (List.mem_of_getElem? hx)).none_fr F.out)
      have HT:=hid_ (ptRL_take hx)
      have hle:(ptRL (ps.take k)).length+L2.length≤(ptRL ps).length:=by
        have:=ptRL_le ps (k+1)
        rw [HT.out,List.length_append] at this
        exact this
      have hfs:=F.out.size
      clear hx
      go_wp2_with (at_builtin;refine wpList_append_any _ rfl (.tmp 12) (.tmp 13) 22 rfl w.heap.size 25 i0 _ 2 32 Tryz.underlying22 Hi.out.1 Hi.out.2.1 Hi.out.2.2.1 Hi.out.2.2.2 rfl (by omega) (.slice A (ptRL (ps.take k)).length c) (ptRL (ps.take k)).length (rwFlat (ptRL (ps.take k))) rfl O.out A2 L2.length c2 (rwFlat L2) rfl R.out (rwFlat_one _) (by simp only [maxLen];omega) (by omega) hfs ?_;intro A3 c3 w3 hown3 hgr3)
      have R3:w3.ownsRow w.heap.size 25 2 (.slice A3 ((ptRL (ps.take k)).length+L2.length) c3) (ptRL (ps.take (k+1))).length (rwFlat (ptRL (ps.take (k+1))))∧Fr none_ w w3:=by
        refine ⟨?_,F.out.grown hgr3 (fun b hb=>.inr (O.out.lt b hb).1)⟩
        rw [HT.out,List.length_append,rwFlat_app]
        exact hown3
      have HR3:=hid_ R3
      clear R3 hown3 hgr3
      go_wp2
      go_roundw
      case rel=>exact ⟨k+1,by omega,by go_num,HR3.out.1,HR3.out.2⟩
      case measure=>simp [intOf];omega
    · obtain rfl:k=ps.length:=by omega
      have o:=O.out
      have f:=F.out
      rw [List.take_length] at o
      go_wp2
      go_ret
      rw [List.take_length]
      exact ⟨A,c,rfl,o,f⟩
set_option maxHeartbeats 2000000 in
theorem bright_ok (k:ByteArray) (w:World) (h:SzOk k):Calls Tryz.prog 141 #[.string k] w fun e w'=>e=.returned (.bool (decide (1≤k.size) && decide (k.size≤16)))∧Fr none_ w w':=by
  have hl:=h.le
  clear h
  go_enter Tryz.func141,Tryz.ntmps141
  by_cases h1:1≤k.size
  · have e1:decide ((1:Int)≤(k.size:Int))=true:=by simp;omega
    have H1:=hid_ h1
    by_cases h2:k.size≤16
    · have e2:decide ((k.size:Int)≤16)=true:=by simp;omega
      have H2:=hid_ h2
      clear h1 h2
      go_wp2
      go_ret
      exact ⟨by simp [H1.out,H2.out],Fr.refl _ _⟩
    · have e2:decide ((k.size:Int)≤16)=false:=by simp;omega
      have H2:=hid_ h2
      clear h1 h2
      go_wp2
      go_ret
      exact ⟨by simp [H1.out,H2.out],Fr.refl _ _⟩
  · have e1:decide ((1:Int)≤(k.size:Int))=false:=by simp;omega
    have H1:=hid_ h1
    clear h1
    go_wp2
    go_ret
    exact ⟨by simp [H1.out],Fr.refl _ _⟩
abbrev rwV (p:Rw):Value:=.agg #[.string p.1,.string p.2]
set_option maxHeartbeats 2000000 in
theorem fits_ok (p:Rw) (w:World) (h1:SzOk p.1) (h2:SzOk p.2):Calls Tryz.prog 137 #[rwV p] w fun e w'=>e=.returned (.bool (fitsR p))∧Fr none_ w w':=by
  have hl:=h2.le
  have H1:=hid_ h1
  obtain ⟨w0,hw0⟩:∃ z,z=w.alloc (.cells #[.string p.1,.string p.2] 25):=⟨_,rfl⟩
  have f0:Fr none_ w w0:=by rw [hw0];exact (Fr.refl none_ w).alloc _
  have B0:Hid (Blk w0 w.heap.size 25 #[.string p.1,.string p.2]):=hid_ (by rw [hw0];exact Blk.new w _ _)
  have F0:=hid_ f0
  clear h1 h2 f0
  go_enter Tryz.func137,Tryz.ntmps137
  go_upto_region 1 with fail
  change Code.wp _ _ _ _ (w.alloc (.cells #[.string p.1,.string p.2] 25))
  rw [← hw0]
  clear hw0
  have c0:w0.cell? ⟨w.heap.size,0,none⟩=some (.string p.1):=B0.out.cell' rfl
  go_wp2_with fail
  refine (bright_ok p.1 _ H1.out).mono ?_
  rintro e w1 ⟨rfl,hf⟩
  have c1:w1.cell? ⟨w.heap.size,1,none⟩=some (.string p.2):=(B0.out.fr hf id).cell' rfl
  replace F0:=hid_ (F0.out.then_none hf)
  clear c0 hf
  obtain ⟨b,hb⟩:∃ b,(decide (1≤p.1.size) && decide (p.1.size≤16))=b:=⟨_,rfl⟩
  rw [hb]
  have HB:=hid_ hb
  clear hb
  cases b with
  | false =>
    go_wp2
    go_ret
    exact ⟨by simp [fitsR,HB.out],F0.out⟩
  | true =>
    by_cases h2:p.2.size≤16
    · have e2:decide ((p.2.size:Int)≤16)=true:=by simp;omega
      have H2:=hid_ h2
      clear h2
      go_wp2
      go_ret
      exact ⟨by simp [fitsR,HB.out,H2.out],F0.out⟩
    · have e2:decide ((p.2.size:Int)≤16)=false:=by simp;omega
      have H2:=hid_ h2
      clear h2
      go_wp2
      go_ret
      exact ⟨by simp [fitsR,HB.out,H2.out],F0.out⟩
set_option maxHeartbeats 4000000 in
theorem placeR_ok (L:List Rw) (A:Option Addr) (c:Nat) (key:ByteArray) (w:World) (h:Reads w 2 A L.length (rwFlat L)) (ho:RwsOk L) (hk:SzOk key) :
    Calls Tryz.prog 140 #[.slice A L.length c,.string key] w fun e w'=>e=.returned (.int .i64 (plR L key:Nat))∧Fr none_ w w':=by
  have H0:=hid_ h
  have hle:=plR_le L key
  have h1000:=ho.1
  have HSZ:=hid_ (And.intro ho.2 hk)
  clear h ho hk
  go_enter Tryz.func140,Tryz.ntmps140
  go_wp2_with fail
  go_loopw [5] (fun i wr=>∃ k:Nat,k≤plR L key∧i=.int .i64 k∧Fr none_ w wr) (fun i _=>plR L key - (intOf i).toNat)
  case atStart=>exact ⟨0,Nat.zero_le _,rfl,Fr.refl _ _⟩
  case round =>
    obtain ⟨k,hk,rfl,hF⟩:=hrel
    have H:=hid_ (H0.out.none_fr hF)
    have F:=hid_ hF
    clear hF
    have hi0:(0:Int)≤(k:Int):=Int.natCast_nonneg _
    by_cases hlt:k < plR L key
    · have hkl:k < L.length:=by omega
      have hi1:(k:Int) < (L.length:Int):=by omega
      have hd1:decide ((k:Int) < (L.length:Int))=true:=by simp;omega
      obtain ⟨p,hp⟩:∃ p,L[k]?=some p:=⟨_,List.getElem?_eq_getElem hkl⟩
      obtain ⟨b,off,rfl,hb,c0,c1⟩:=rw_at H.out hp
      have hcmp:decide (cmpI p.1 key < 0)=true:=by rw [cmp_neg];exact plR_in hlt hp
      have hsz:=(HSZ.out.1 p (List.mem_of_getElem? hp)).1
      have HCMP:=hid_ hcmp
      clear hp hcmp c1
      go_wp2_with fail
      refine (compare_ok p.1 key _ hsz.le HSZ.out.2.le).mono ?_
      rintro e w1 ⟨rfl,q,rfl⟩
      have hcmp:=HCMP.out
      have FQ:=hid_ (F.out.drewN q)
      clear c0
      go_wp2_with fail
      go_roundw
      case rel=>exact ⟨k+1,by omega,by go_num,FQ.out⟩
      case measure=>simp [intOf];omega
    · obtain rfl:k=plR L key:=by omega
      by_cases hl:plR L key < L.length
      · obtain ⟨p,hp⟩:∃ p,L[plR L key]?=some p:=⟨_,List.getElem?_eq_getElem hl⟩
        obtain ⟨b,off,rfl,hb,c0,c1⟩:=rw_at H.out hp
        have hcmp:decide (cmpI p.1 key < 0)=false:=by rw [cmp_neg];exact plR_at hp
        have hsz:=(HSZ.out.1 p (List.mem_of_getElem? hp)).1
        obtain ⟨n,hn⟩:∃ n,n=plR L key:=⟨_,rfl⟩
        have hi1:(n:Int) < (L.length:Int):=by omega
        have hd1:decide ((n:Int) < (L.length:Int))=true:=by simp;omega
        rw [← hn] at c0 c1 hi0
        rw [← hn]
        have HCMP:=hid_ hcmp
        have HN:=hid_ hn
        clear hp hcmp c1 hl hlt hn hk hle
        go_wp2_with fail
        refine (compare_ok p.1 key _ hsz.le HSZ.out.2.le).mono ?_
        rintro e w1 ⟨rfl,q,rfl⟩
        have hcmp:=HCMP.out
        have FQ:=hid_ (F.out.drewN q)
        go_wp2_with fail
        go_ret
        exact ⟨by rw [← HN.out];rfl,FQ.out⟩
      · have he:plR L key=L.length:=by omega
        have HE:=hid_ he
        have hd1:decide ((L.length:Int) < (L.length:Int))=false:=by simp
        rw [he]
        clear he hl hlt hk hle
        go_wp2_with fail
        go_ret
        exact ⟨by rw [HE.out];rfl,F.out⟩
set_option maxHeartbeats 4000000 in
theorem findR_ok (L:List Rw) (A:Option Addr) (c:Nat) (key:ByteArray) (w:World) (h:Reads w 2 A L.length (rwFlat L)) (ho:RwsOk L) (hk:SzOk key) :
    Calls Tryz.prog 139 #[.slice A L.length c,.string key] w fun e w'=>e=.returned (.tuple #[.int .i64 (plR L key:Nat),.bool (atR L key)])∧Fr none_ w w':=by
  have H0:=hid_ h
  have HO:=hid_ ho
  have HK:=hid_ hk
  have hle:=plR_le L key
  have h1000:=ho.1
  clear h ho hk
  go_enter Tryz.func139,Tryz.ntmps139
  go_wp2_with fail
  refine (placeR_ok L A c key _ H0.out HO.out HK.out).mono ?_
  rintro e w1 ⟨rfl,hf⟩
  have H:=hid_ (H0.out.none_fr hf)
  have F:=hid_ hf
  clear hf
  obtain ⟨n,hn⟩:∃ n,n=plR L key:=⟨_,rfl⟩
  rw [← hn]
  rw [← hn] at hle
  have HN:=hid_ hn
  have hi0:(0:Int)≤(n:Int):=Int.natCast_nonneg _
  by_cases hl:n < L.length
  · obtain ⟨p,hp⟩:∃ p,L[n]?=some p:=⟨_,List.getElem?_eq_getElem hl⟩
    obtain ⟨b,off,rfl,hb,c0,c1⟩:=rw_at H.out hp
    have hat:atR L key=sEq p.1 key:=atR_some (by rw [← hn];exact hp)
    have HAT:=hid_ hat
    have hi1:(n:Int) < (L.length:Int):=by omega
    have hd1:decide ((n:Int) < (L.length:Int))=true:=by simp;omega
    have hd2:decide (n < L.length)=true:=by simp;omega
    clear hp c1 hat hn hl
    go_wp2_with fail
    go_quiet (fail)
    go_wp2_with fail
    go_ret2
    exact ⟨by rw [HAT.out,← HN.out];rfl,by repeat (first | exact F.out | apply Fr.drewN | apply Fr.drew)⟩
  · have he:n=L.length:=by omega
    have hat:atR L key=false:=atR_none (by rw [← hn];exact he)
    have HAT:=hid_ hat
    have hd1:decide ((n:Int) < (L.length:Int))=false:=by simp;omega
    have hd2:decide (n < L.length)=false:=by simp;omega
    clear hat hn hl he
    go_wp2_with fail
    go_quiet (fail)
    go_wp2_with fail
    go_ret2
    exact ⟨by rw [HAT.out,← HN.out];rfl,by repeat (first | exact F.out | apply Fr.drewN | apply Fr.drew)⟩
theorem copyR_ok (L:List Rw) (A:Option Addr) (c:Nat) (w:World) (h:Reads w 2 A L.length (rwFlat L)) (hl:L.length≤300000) :
    Calls Tryz.prog 116 #[.slice A L.length c] w (JoinPostR w L):=by
  have H:=hid_ h
  clear h
  go_enter Tryz.func116,Tryz.ntmps116
  go_wp2_with fail
  have hB:=Blk.new w 22 #[.slice A L.length c]
  refine (list_ok w.heap.size [(A,c,L)] _ ?_ ?_ ?_ ?_).mono ?_
  · intro i x hx
    match i,hx with
    | 0,hx=>cases hx;rw [hB.cell];rfl
    | k+1,hx=>simp at hx
  · intro x hx
    obtain rfl:x=(A,c,L):=by simpa using hx
    exact H.out.alloc _
  · simp [ptRL];omega
  · simp
  rintro e w1 ⟨A',c',rfl,ho,hf⟩
  rw [show ptRL [(A,c,L)]=L by simp [ptRL]] at ho ⊢
  have O:=hid_ ho
  have F:=hid_ hf
  clear ho hf hB
  go_wp2
  go_ret
  exact ⟨A',c',rfl,own_base O.out (by simp),(((Fr.refl none_ w).alloc _).then_none F.out)⟩
open Go.RowKit
section
variable {P:Program} {fn:Func} (tmps:Array Value) (w:World)
theorem results_cell7 {t:Tmp} {ty:TypeId} (h:fn.results=#[.cell t ty]) (b o:Nat) (cs:List Value) (d:TypeDesc) (ha:tmps.getD t undef=.pointer (some ⟨b,o,none⟩)) (hc:w.rangeAt b o cs)
    (hu:P.underlying ty=some d) (hd:d.isRow=true) (hi:(P.info? ty).map (·.size)=some cs.length):(results fn tmps).run P w=.ok (.agg cs.toArray) w:=by
  have hl:=run_loadVar_mid (P:=P) w b o ty cs d hc hu hd hi
  have ha':tmps[t]?.getD undef=.pointer (some ⟨b,o,none⟩):=by simpa using ha
  simp [results,h,ha',asAddr,hl]
theorem results_cell_tmp7 {t s:Tmp} {ty:TypeId} (h:fn.results=#[.cell t ty,.tmp s]) (b o:Nat) (cs:List Value) (d:TypeDesc) (ha:tmps.getD t undef=.pointer (some ⟨b,o,none⟩)) (hc:w.rangeAt b o cs)
    (hu:P.underlying ty=some d) (hd:d.isRow=true) (hi:(P.info? ty).map (·.size)=some cs.length):(results fn tmps).run P w=.ok (.tuple #[.agg cs.toArray,tmps.getD s undef]) w:=by
  have hl:=run_loadVar_mid (P:=P) w b o ty cs d hc hu hd hi
  have ha':tmps[t]?.getD undef=.pointer (some ⟨b,o,none⟩):=by simpa using ha
  simp [results,h,ha',asAddr,hl]
end
open Go.RowKit Go.BigFrame
section
structure Qw7 (P:Program) (ops:Array Oper) (C:World→Prop) (Q:Act→Prop) (l:List Oper) (a:Act):Prop where
  h:wpQuiet P ops C Q l a
variable {P:Program} {ops:Array Oper} {C:World→Prop} {Q:Act→Prop} {a:Act} {o:Oper} {rest:List Oper}
theorem q_skip7 (d:Option Tmp) (hd:o.dst=d) (hw:Region.wanted o (yielded ops a.tmps)=false) (h:Qw7 P ops C Q rest (a.put d undef)):Qw7 P ops C Q (o :: rest) a:=by
  subst hd
  exact ⟨wpQuiet_skip hw h.h⟩
theorem q_val7 (d:Option Tmp) (v:Value) (hd:o.dst=d) (hw:Region.wanted o (yielded ops a.tmps)=true) (hx:∀ w,C w→(execOp a.eval o).run P w=.ok (.value v) w) (h:Qw7 P ops C Q rest (a.put d v)):Qw7 P ops C Q (o :: rest) a:=by
  subst hd
  refine ⟨wpQuiet_want hw fun K hK=>⟨v,fun w hC=>?_,hK _ h.h⟩⟩
  unfold Oper.quietAt
  rw [hx w hC]
  exact ⟨rfl,rfl⟩
theorem run_loadAt_cell7 (w:World) (ad:Addr) (ty:TypeId) (v:Value) (d:TypeDesc) (hc:w.cell? ad=some v) (hu:P.underlying ty=some d) (hd:d.isRow=false) :
    (Instr.loadAt ty (.pointer (some ad))).run P w=.ok v w:=by
  have hagg:(isAgg ty).run P w=.ok false w:=by
    unfold isAgg
    rw [Sem.run_bind,run_underlying hu w]
    cases d <;> simp_all
  have hl:(load ad).run P w=.ok v w:=by
    rw [run_load,hc]
  simp only [Instr.loadAt,Instr.sureAddr,loadVar,Sem.run_bind,Sem.run_pure,Result.andThen_ok,hagg,Bool.false_eq_true,if_false,hl]
theorem q_cell7 (d:Option Tmp) (v:Value) (ty:TypeId) (x:Operand) (ad:Addr) (td:TypeDesc) (hd:o.dst=d) (hw:Region.wanted o (yielded ops a.tmps)=true) (ho:o.op=.load ty x) (hx:a.eval x=.pointer (some ad)) (hc:∀ w,C w→w.cell? ad=some v) (hu:P.underlying ty=some td) (hr:td.isRow=false) (h:Qw7 P ops C Q rest (a.put d v)):Qw7 P ops C Q (o :: rest) a:=
  q_val7 d v hd hw (fun w hC=>by
    unfold execOp
    simp only [ho,hx,Sem.run_bind,Sem.run_pure,Result.andThen_ok,run_loadAt_cell7 w ad ty v td (hc w hC) hu hr]) h
theorem q_done7 (h:Q a):Qw7 P ops C Q [] a:=⟨h⟩
theorem wp_region_q7 (C:World→Prop) {id:Nat} {K:Exit→Act→World→Prop} {l:List Oper} {w:World} (hm:P.follows .mixedOrders=true) (hB:Region.lexB .any l.toArray=true) (h0:C w.drew)
    (h:Qw7 P l.toArray C (fun a'=>∀ w',C w'→K .normal a' w') l a):(Code.region id l.toArray true).wp P K a w:=
  wp_region_quiet (C:=C) hm hB h0 (by simpa using h.h)
theorem q_bool7 (d:Option Tmp) (b c:Bool) (hbc:b=c) (hd:o.dst=d) (hw:Region.wanted o (yielded ops a.tmps)=true) (hx:∀ w,C w→(execOp a.eval o).run P w=.ok (.value (.bool b)) w) (h:Qw7 P ops C Q rest (a.put d (.bool c))):Qw7 P ops C Q (o :: rest) a:=
  q_val7 d (.bool c) hd hw (fun w hC=>by rw [← hbc];exact hx w hC) h
end
open Go.RowKit
theorem run_sliceHi {n m c:Nat} {A:Option Addr} (t e:TypeId) (hu:Tryz.prog.underlying t=some (.slice e)) (hs:∀ w,(sizeOf e).run Tryz.prog w=.ok 2 w) (hb:n≤c) (w:World) :
    (Instr.sliceAt t (.slice A m c) none (some (.int .i64 n)) none).run Tryz.prog w=.ok (.slice A n c) w:=by
  have h1:(n:Int)≤(c:Int):=by omega
  have h0:(0:Int)≤(n:Int):=Int.natCast_nonneg _
  simp [hu,go_sem,h1,h0,hs]
theorem run_sliceLo {n m c:Nat} {A:Option Addr} (t e:TypeId) (hu:Tryz.prog.underlying t=some (.slice e)) (hs:∀ w,(sizeOf e).run Tryz.prog w=.ok 2 w) (hb:n≤m) (hc:m≤c) (w:World) :
    (Instr.sliceAt t (.slice A m c) (some (.int .i64 n)) none none).run Tryz.prog w=.ok (.slice (if c=n then A else A.map (·.add (n * 2))) (m - n) (c - n)) w:=by
  have h1:(n:Int)≤(c:Int):=by omega
  have h2:(n:Int)≤(m:Int):=by omega
  have h0:(0:Int)≤(n:Int):=Int.natCast_nonneg _
  simp [hu,go_sem,h0,h2,hs]
section
variable {ops:Array Oper} {S:World→Prop} {a:Act} {oi:Oper}
theorem y_sliceHi {n m c:Nat} {A:Option Addr} (t:TypeId) (x h:Operand) (e:TypeId) (hw:Region.wanted oi (yielded ops a.tmps)=true) (ho:oi.op=.slice t x none (some h) none) (hu:Tryz.prog.underlying t=some (.slice e)) (hs:∀ w,(sizeOf e).run Tryz.prog w=.ok 2 w)
    (hx:a.eval x=.slice A m c) (hh:a.eval h=.int .i64 n) (hb:n≤c):YieldsIf Tryz.prog ops S oi (.slice A n c) a:=.inl ⟨hw,fun w hS=>by
  unfold execOp
  simp only [ho,Option.map_none,Option.map_some,hx,hh,Sem.run_bind,Sem.run_pure,Result.andThen_ok,run_sliceHi t e hu hs hb]⟩
theorem y_int {P:Program} {x y:Int} (hxy:x=y) (hw:Region.wanted oi (yielded ops a.tmps)=true) (hx:∀ w,S w→(execOp a.eval oi).run P w=.ok (.value (.int .i64 x)) w):YieldsIf P ops S oi (.int .i64 y) a:=.inl ⟨hw,fun w hS=>by rw [← hxy];exact hx w hS⟩
theorem y_sliceLo {n m c:Nat} {A:Option Addr} (t:TypeId) (x h:Operand) (e:TypeId) (hw:Region.wanted oi (yielded ops a.tmps)=true) (ho:oi.op=.slice t x (some h) none none) (hu:Tryz.prog.underlying t=some (.slice e)) (hs:∀ w,(sizeOf e).run Tryz.prog w=.ok 2 w)
    (hx:a.eval x=.slice A m c) (hh:a.eval h=.int .i64 n) (hb:n≤m) (hc:m≤c):YieldsIf Tryz.prog ops S oi (.slice (if c=n then A else A.map (·.add (n * 2))) (m - n) (c - n)) a:=.inl ⟨hw,fun w hS=>by
  unfold execOp
  simp only [ho,Option.map_none,Option.map_some,hx,hh,Sem.run_bind,Sem.run_pure,Result.andThen_ok,run_sliceLo t e hu hs hb hc]⟩
theorem ent_sz:∀ w,(sizeOf 132).run Tryz.prog w=.ok 2 w:=fun w=>by kernel_rfl
variable {P:Program} {md:Region.Mode} {Q:Exit→Act→World→Prop} {m fuel:Nat} {listed:Array Bool} {w:World}
theorem u_run (i:Nat) (d:Option Tmp) (v:Value) (w2:World) (hi:ops[i]?=some oi) (hd:oi.dst=d) (hw:Region.wanted oi (yielded ops a.tmps)=true) (hr:Region.ready md ops listed=[i])
    (hx:(execOp a.eval oi).run P w=.ok (.value v) w2) (hS:m≤i∨S w2) (h:UwA P md ops Q S m fuel (listed.setIfInBounds i true) (a.put d v) w2):UwA P md ops Q S m (fuel+1) listed a w:=by
  subst hd
  refine u_one i hi hw hr ?_
  unfold Oper.wp
  rw [hx,Oper.upon_value]
  exact ⟨hS,h⟩
theorem wp_known {K:Act→World→Prop} (v:Value) (w2:World) (hx:(execOp a.eval oi).run P w=.ok (.value v) w2) (h:K (a.put oi.dst v) w2):Oper.wp P oi a w K Q:=by
  unfold Oper.wp
  rw [hx,Oper.upon_value]
  exact h
theorem q_int7 {o:Oper} {rest:List Oper} {C:World→Prop} {R:Act→Prop} (d:Option Tmp) (x y:Int) (hxy:x=y) (hd:o.dst=d) (hw:Region.wanted o (yielded ops a.tmps)=true) (hx:∀ w,C w→(execOp a.eval o).run P w=.ok (.value (.int .i64 x)) w) (h:Qw7 P ops C R rest (a.put d (.int .i64 y))):Qw7 P ops C R (o :: rest) a:=
  q_val7 d (.int .i64 y) hd hw (fun w hC=>by rw [← hxy];exact hx w hC) h
theorem ex_max (x:Operand) (t1 t2:TypeId) (k:Int) (ho:oi.op=.call { callee:=.builtin .max,args:=#[x,.const (.int .i64 0)],argTypes:=#[t1,t2] }) (hx:a.eval x=.int .i64 k) (hk:0≤k) (w:World):(execOp a.eval oi).run Tryz.prog w=.ok (.value (.int .i64 k)) w:=by
  unfold execOp
  simp only [ho,resolve,invoke,builtin,Sem.run_bind,Sem.run_pure,Result.andThen_ok,List.map_toArray,List.map_cons,List.map_nil,hx]
  rw [show a.eval (.const (.int .i64 0))=Value.int .i64 0 from rfl]
  have h1:¬ k < 0:=by omega
  simp [go_sem,Builtin.max_,Builtin.max2,h1]
theorem ex_index (t e:TypeId) (x y:Operand) (b off n m c:Nat) (ho:oi.op=.indexAddr t x y) (hx:a.eval x=.slice (some ⟨b,off,none⟩) m c) (hy:a.eval y=.int .i64 n) (hu:Tryz.prog.underlying t=some (.slice e)) (hs:∀ w,(sizeOf e).run Tryz.prog w=.ok 2 w) (hn:n < m) (w:World) :
    (execOp a.eval oi).run Tryz.prog w=.ok (.value (.pointer (some ⟨b,off+n * 2,none⟩))) w:=by
  unfold execOp
  simp only [ho,hx,hy,Sem.run_bind,Sem.run_pure]
  have h0:(0:Int)≤(n:Int):=Int.natCast_nonneg _
  have h1:(n:Int) < (m:Int):=by omega
  simp [go_sem,hu,hs,h0,h1]
theorem wpList_known {rest:List Oper} (hgd:oi.guard=none) (v:Value) (w2:World) (hx:(execOp a.eval oi).run P w=.ok (.value v) w2) (h:wpList P ops Q rest (a.put oi.dst v) w2):wpList P ops Q (oi :: rest) a w:=
  wpList_plain hgd fun _ hK=>wp_known v w2 hx (hK _ _ h)
theorem u_two {oj:Oper} (i j:Nat) (hi:ops[i]?=some oi) (hj:ops[j]?=some oj) (wi:Region.wanted oi (yielded ops a.tmps)=true) (wj:Region.wanted oj (yielded ops a.tmps)=true) (hr:Region.ready md ops listed=[i,j])
    (h1:Oper.wp P oi a w (fun a' w'=>(m≤i∨S w')∧UwA P md ops Q S m fuel (listed.setIfInBounds i true) a' w') Q)
    (h2:Oper.wp P oj a w (fun a' w'=>(m≤j∨S w')∧UwA P md ops Q S m fuel (listed.setIfInBounds j true) a' w') Q):UwA P md ops Q S m (fuel+1) listed a w:=
  ⟨wpAnyU_two7 hi hj wi wj hr (Oper.wp_mono (fun a' w' h'=>⟨h'.1,h'.2.h⟩) h1) (Oper.wp_mono (fun a' w' h'=>⟨h'.1,h'.2.h⟩) h2)⟩
end
open Go.RowKit
open Go
section
variable {P:Program} {md:Region.Mode} {ops:Array Oper} {Q:Exit→Act→World→Prop} {S:World→Prop}
def wpAnyV (P:Program) (md:Region.Mode) (ops:Array Oper) (Q:Exit→Act→World→Prop) (S:World→Prop) (m:Nat):Nat→Array Bool→Act→World→Prop
  | 0,listed,a,w=>Region.ready md ops listed=[]∧Q .normal a w
  | fuel+1,listed,a,w =>
    (Region.ready md ops listed=[]→Q .normal a w) ∧
    ∀ i ∈ Region.ready md ops listed,wpOp P ops Q i (fun a' w'=>(m≤i∨(S w→S w'))∧wpAnyV P md ops Q S m fuel (listed.setIfInBounds i true) a' w') a w
theorem wpAny_of_V {m:Nat}:∀ (fuel:Nat) (listed:Array Bool) (a:Act) (w:World),wpAnyV P md ops Q S m fuel listed a w→wpAny P md ops Q fuel listed a w
  | 0,_,_,_,h=>h
  | fuel+1,_,_,_,h=>⟨h.1,fun i hi=>wpOp_mono (fun a' w' h'=>wpAny_of_V fuel _ a' w' h'.2) (h.2 i hi)⟩
theorem wpAnyV_of_U {m:Nat}:∀ (fuel:Nat) (listed:Array Bool) (a:Act) (w:World),wpAnyU P md ops Q S m fuel listed a w→wpAnyV P md ops Q S m fuel listed a w
  | 0,_,_,_,h=>h
  | fuel+1,_,_,_,h=>⟨h.1,fun i hi=>wpOp_mono (fun a' w' h'=>⟨h'.1.imp_right (fun hs _=>hs),wpAnyV_of_U fuel _ a' w' h'.2⟩) (h.2 i hi)⟩
theorem wpAnyV_pure {m i:Nat} {oi:Oper} {v:Value} (hi:ops[i]?=some oi) (hsel:∀ (j:Nat) (o:Oper) cs b,ops[j]?=some o→o.op≠.select cs b)
    (hQ:∀ c a w,Q (.panic c) (a.put oi.dst v) w→Q (.panic c) a w) :
    ∀ (fuel:Nat) (listed:Array Bool) (a:Act) (w:World),
      (∀ j oj,ops[j]?=some oj→j≠i→listed.getD j true=false→(∀ e ∈ oj.after,Region.binds md e=true→e.on≠i)→oi.apart ops oj=true) →
      i ∈ Region.ready md ops listed→YieldsIf P ops (fun _=>True) oi v a →
      wpAnyV P md ops Q S m fuel (listed.setIfInBounds i true) (a.put oi.dst v) w→wpAnyV P md ops Q S m (fuel+1) listed a w:=by
  intro fuel
  induction fuel with
  | zero =>
    intro listed a w _ hr hy H
    refine ⟨fun h=>(by rw [h] at hr;cases hr),fun j hj=>?_⟩
    by_cases hji:j=i
    · subst hji;exact hy.wpOp hi trivial ⟨.inr id,H⟩
    · have:=ready_mono hj hji
      rw [H.1] at this
      cases this
  | succ fuel ih =>
    intro listed a w hfree hr hy H
    refine ⟨fun h=>(by rw [h] at hr;cases hr),fun j hj=>?_⟩
    by_cases hji:j=i
    · subst hji;exact hy.wpOp hi trivial ⟨.inr id,H⟩
    · have h1:=H.2 j (ready_mono hj hji)
      obtain ⟨hjun,oj,hoj,hall⟩:=mem_ready.1 hj
      have hnot:∀ e ∈ oj.after,Region.binds md e=true→e.on≠i:=fun e he hb heq=>by
        have h1:=hall e he hb
        have h0:=(mem_ready.1 hr).1
        rw [heq] at h1
        rcases Nat.lt_or_ge i listed.size with h' | h'
        · simp [h'] at h0 h1;rw [h0] at h1;cases h1
        · simp [Array.getElem?_eq_none h'] at h1
      have h2:=wpOp_putIf hoj (hfree j oj hoj hji hjun hnot) (fun cs b=>hsel i oi cs b hi) (fun cs b=>hsel j oj cs b hoj) hQ hy h1
      have hfree':∀ k ok,ops[k]?=some ok→k≠i→(listed.setIfInBounds j true).getD k true=false →
          (∀ e ∈ ok.after,Region.binds md e=true→e.on≠i)→oi.apart ops ok=true:=fun k ok hk hki hun hno=>by
        refine hfree k ok hk hki ?_ hno
        by_cases hjk:j=k
        · subst hjk;exact hjun
        · rw [getD_set_ne true hjk] at hun;exact hun
      refine wpOp_mono (fun a' w' h3=>?_) h2
      refine ⟨h3.2.1,ih (listed.setIfInBounds j true) a' w' hfree' (ready_mono hr (Ne.symm hji)) h3.1 ?_⟩
      rw [Array.setIfInBounds_comm _ _ hji]
      exact h3.2.2
theorem wp_region_u1 (m:Nat) (S:World→Prop) (i n:Nat) (d:Option Tmp) (v:Value) {id:Nat} {oi:Oper} {a:Act} {w:World} (hm:P.follows .mixedOrders=true) (hn:ops.size=n+1) (hi:ops[i]?=some oi) (hd:oi.dst=d)
    (hs:Region.noSelect ops=true) (hf:Region.free .any ops (Array.replicate ops.size false) i=true) (hr:(Region.ready .any ops (Array.replicate ops.size false)).contains i=true)
    (hQ:∀ c a w,Q (.panic c) (a.put oi.dst v) w→Q (.panic c) a w) (hy:YieldsIf P ops (fun _=>True) oi v a)
    (h:UwA P .any ops Q S m n ((Array.replicate ops.size false).setIfInBounds i true) (a.put d v) w.drew):(Code.region id ops true).wp P Q a w:=by
  subst hd
  refine wp_region_any hm (wpAny_of_V (S:=S) (m:=m) _ _ _ _ ?_)
  rw [show ops.size=n+1 from hn]
  rw [show ops.size=n+1 from hn] at hf hr h
  exact wpAnyV_pure hi (Region.noSelect_spec hs) hQ n _ _ _ (Region.free_spec hi hf) (by simpa using hr) hy (wpAnyV_of_U _ _ _ _ h.h)
variable {oi:Oper} {a:Act} {w:World}
theorem wp_knownD {K:Act→World→Prop} (d:Option Tmp) (hd:oi.dst=d) (v:Value) (w2:World) (hx:(execOp a.eval oi).run P w=.ok (.value v) w2) (h:K (a.put d v) w2):Oper.wp P oi a w K Q:=by
  subst hd
  unfold Oper.wp
  rw [hx,Oper.upon_value]
  exact h
theorem wp_dst {K:Act→World→Prop} (d:Option Tmp) (hd:oi.dst=d) (h:oi.dst=d→Oper.wp P oi a w K Q):Oper.wp P oi a w K Q:=h hd
end
open Go.RowKit Go.BigFrame

theorem lim_size9:(Tryz.prog.info? 94).map (·.size)=some 6:=by kernel_rfl
theorem memLimits_ok {m:Nat} {k:Int} {l:Lm} {x:St} (w:World) (h:Mm w m k l x):Calls Tryz.prog 78 #[.pointer (some ⟨m,0,none⟩)] w fun e w'=>e=.returned (.agg (lmA l))∧Fr none_ w w':=by
  obtain ⟨w0,hw0⟩:∃ z,z=w.alloc (.cells #[.int .i64 0,.int .i64 0,.int .i64 0,.int .i64 0,.int .i64 0,.int .i64 0] 94):=⟨_,rfl⟩
  have f0:Fr none_ w w0:=by rw [hw0];exact (Fr.refl none_ w).alloc _
  have BZ:Hid (Blk w0 w.heap.size 94 #[.int .i64 0,.int .i64 0,.int .i64 0,.int .i64 0,.int .i64 0,.int .i64 0]):=hid_ (by rw [hw0];exact Blk.new w _ _)
  have h2:=h.b.fr f0 id
  have F0:=hid_ f0
  have c1:w0.cell? ⟨m,1,none⟩=some (.int .i64 (l.s:Int)):=h2.cell' rfl
  have c2:w0.cell? ⟨m,2,none⟩=some (.int .i64 (l.p:Int)):=h2.cell' rfl
  have c3:w0.cell? ⟨m,3,none⟩=some (.int .i64 l.t):=h2.cell' rfl
  have c4:w0.cell? ⟨m,4,none⟩=some (.int .i64 l.r):=h2.cell' rfl
  have c5:w0.cell? ⟨m,5,none⟩=some (.int .i64 l.c):=h2.cell' rfl
  have c6:w0.cell? ⟨m,6,none⟩=some (.int .i64 l.n):=h2.cell' rfl
  clear h h2 f0
  go_enter Tryz.func78,Tryz.ntmps78
  go_upto_region 1 with fail
  change Code.wp _ _ _ _ (w.alloc (.cells #[.int .i64 0,.int .i64 0,.int .i64 0,.int .i64 0,.int .i64 0,.int .i64 0] 94))
  rw [← hw0]
  clear hw0
  go_wp2_with (refine wpList_store_mid rfl 94 (.tmp 2) (.tmp 9) rfl w.heap.size 0 (lmA l) rfl rfl (BZ.out.there9 rfl) lim_size9 (by simp [Value.oneCell']) ?_;have ov:=BZ.out.over9 (lmA l).toList rfl;obtain ⟨w9,hw9⟩:∃ z,z=w0.setCells w.heap.size 0 (lmA l).toList:=⟨_,rfl⟩;rw [← hw9] at ov;change wpList _ _ _ _ _ (w0.setCells w.heap.size 0 (lmA l).toList);rw [← hw9];have OV:=hid_ ov;clear hw9 ov)
  exact bodyPost_ret (results_cell7 _ _ rfl w.heap.size 0 (lmA l).toList _ rfl (Blk.range7 (l:=(lmA l).toList) OV.out.1) Tryz.underlying94 rfl lim_size9) rfl ⟨rfl,F0.out.then_only OV.out.2 (.inr (Nat.le_refl _))⟩
theorem ld_range5 {w:World} {g:Nat} {s:LdS} (h:Blk w g 135 (ldA s)):w.rangeAt g 5 [.int .i64 s.ns,.int .i64 s.ng]:=fun j v hv=>by
  match j,hv with
  | 0,hv=>have e:some _=some v:=hv;rw [← e];exact h.cell' rfl
  | 1,hv=>have e:some _=some v:=hv;rw [← e];exact h.cell' rfl
  | k+2,hv=>simp at hv
theorem ref_size9:(Tryz.prog.info? 36).map (·.size)=some 2:=by kernel_rfl
structure LdW (b0 g b m:Nat) (k:Int) (l:Lm) (x:St) (w:World) (s:LdS) (C:Cr) (vl:Value) (nl:Nat) (xl:List Value) (vr:Value) (nr:Nat) (xr:List Value) (wr:World):Prop where
  l_:wr.ownsRow b0 51 15 vl nl xl
  r_:wr.ownsRow b0 36 2 vr nr xr
  nl:∀ k,vl.ownBlock=some k→k≠b
  bg:Blk wr g 135 (ldA s)
  bt:Blk wr b 51 (crA C)
  lb:b0≤g
  own:∀ D ∈ s.L ++ [C],RecOwn wr b0 D.R (.slice D.A D.R.rows.length D.c) (.slice D.B D.R.ents.length D.d)
  mm:Mm wr m k l x
  f:Fr (lown m x g s) w wr
  ol:∀ k,vl.ownBlock=some k→(Value.slice s.A s.L.length s.c).ownBlock=some k∨w.heap.size≤k
  or_:∀ k,vr.ownBlock=some k→(Value.slice s.B s.refs.length s.e).ownBlock=some k∨w.heap.size≤k
section
variable {b0 g b m:Nat} {k:Int} {l:Lm} {x:St} {w wr w':World} {s:LdS} {C:Cr} {vl:Value} {nl:Nat} {xl:List Value} {vr:Value} {nr:Nat} {xr:List Value}
theorem LdW.keep (h:LdW b0 g b m k l x w s C vl nl xl vr nr xr wr) (hf:Fr none_ wr w'):LdW b0 g b m k l x w s C vl nl xl vr nr xr w':=
  ⟨own_none h.l_ hf,own_none h.r_ hf,h.nl,h.bg.fr hf id,h.bt.fr hf id,h.lb,fun D hD=>(h.own D hD).keep hf,h.mm.keep hf,h.f.then_none hf,h.ol,h.or_⟩
theorem LdW.sz (h:LdW b0 g b m k l x w s C vl nl xl vr nr xr wr):b0≤wr.heap.size:=by have:=h.bg.lt;have:=h.lb;omega
theorem LdW.putL (h:LdW b0 g b m k l x w s C vl nl xl vr nr xr wr) {v':Value} {q:Nat} {ys:List Value} (ho:w'.ownsRow b0 51 15 v' (nl+q) (xl ++ ys)) (hg:wr.grownBy w' vl.ownBlock) (hat:v'.ownBlock=vl.ownBlock∨v'.ownBlock=some wr.heap.size):LdW b0 g b m k l x w s C v' (nl+q) (xl ++ ys) vr nr xr w':=
  ⟨ho,own_kept h.r_ h.l_ (by decide) hg,fun k hk=>by
      rcases hat with e | e
      · exact h.nl k (e ▸ hk)
      · have h1:=h.bt.lt
        have:wr.heap.size=k:=Option.some.inj (e.symm.trans hk)
        omega,h.bg.grown hg (fun e=>own_blk_ne h.l_ h.bg (by decide) e.symm),h.bt.grown hg (fun e=>h.nl b e.symm rfl),h.lb,fun D hD=>(h.own D hD).grown h.l_ (by decide) (by decide) hg,h.mm.grown h.l_ (.inl rfl) hg,h.f.grown hg (fun k hk=>(h.ol k hk).imp (fun e=>.inr (.inr (.inl e))) id),fun k hk=>by
      rcases hat with e | e
      · exact h.ol k (e ▸ hk)
      · have:wr.heap.size=k:=Option.some.inj (e.symm.trans hk)
        have:=h.f.size
        exact .inr (by omega),h.or_⟩
theorem LdW.putR (h:LdW b0 g b m k l x w s C vl nl xl vr nr xr wr) {v':Value} {q:Nat} {ys:List Value} (ho:w'.ownsRow b0 36 2 v' (nr+q) (xr ++ ys)) (hg:wr.grownBy w' vr.ownBlock) (hat:v'.ownBlock=vr.ownBlock∨v'.ownBlock=some wr.heap.size):LdW b0 g b m k l x w s C vl nl xl v' (nr+q) (xr ++ ys) w':=
  ⟨own_kept h.l_ h.r_ (by decide) hg,ho,h.nl,h.bg.grown hg (fun e=>own_blk_ne h.r_ h.bg (by decide) e.symm),h.bt.grown hg (fun e=>own_blk_ne h.r_ h.bt (by decide) e.symm),h.lb,fun D hD=>(h.own D hD).grown h.r_ (by decide) (by decide) hg,h.mm.grown h.r_ (.inr rfl) hg,h.f.grown hg (fun k hk=>(h.or_ k hk).imp (fun e=>.inr (.inr (.inr e))) id),h.ol,fun k hk=>by
      rcases hat with e | e
      · exact h.or_ k (e ▸ hk)
      · have:wr.heap.size=k:=Option.some.inj (e.symm.trans hk)
        have:=h.f.size
        exact .inr (by omega)⟩
theorem LdW.fin {A' B':Option Addr} {c' d':Nat} (h:LdW b0 g b m k l x w s C (.slice A' (s.L.length+1) c') (s.L.length+1) (crFlat s.L ++ (crA C).toList) (.slice B' (s.refs.length+1) d') (s.refs.length+1) (rf9Flat s.refs ++ [.int .i64 s.ns,.int .i64 s.ng]) wr)
    (hb:Blk w' g 135 #[.int .i64 s.n,.bool s.begun,.bool s.over,.int .i64 s.hs,.int .i64 s.hg,.int .i64 s.ns,.int .i64 s.ng,.slice A' (s.L.length+1) c',.slice B' (s.refs.length+1) d',s.ve]) (hf:Fr (only g) wr w') :
    Ldr b0 w' g ⟨s.n,s.begun,s.over,s.hs,s.hg,s.ns,s.ng,A',c',s.L ++ [C],B',d',s.refs ++ [(s.ns,s.ng)],s.ve⟩∧Mm w' m k l x∧Blk w' b 51 (crA C)∧Fr (lown m x g s) w w'∧(∀ k,(Value.slice A' (s.L.length+1) c').ownBlock=some k→(Value.slice s.A s.L.length s.c).ownBlock=some k∨w.heap.size≤k)∧(∀ k,(Value.slice B' (s.refs.length+1) d').ownBlock=some k→(Value.slice s.B s.refs.length s.e).ownBlock=some k∨w.heap.size≤k):=by
  have e1:(s.L ++ [C]).length=s.L.length+1:=by simp
  have e2:(s.refs ++ [(s.ns,s.ng)]).length=s.refs.length+1:=by simp
  refine ⟨⟨?_,h.lb,?_,?_,fun D hD=>(h.own D hD).only hf h.bg (by decide) (by decide)⟩,h.mm.ldr h.bg hf,h.bt.fr hf (only_ne (Blk.ne_ h.bt h.bg (by decide))),h.f.then_only hf (.inl (.inr (.inl rfl))),h.ol,h.or_⟩
  · show Blk w' g 135 #[.int .i64 s.n,.bool s.begun,.bool s.over,.int .i64 s.hs,.int .i64 s.hg,.int .i64 s.ns,.int .i64 s.ng,.slice A' (s.L ++ [C]).length c',.slice B' (s.refs ++ [(s.ns,s.ng)]).length d',s.ve]
    rw [e1,e2]
    exact hb
  · show w'.ownsRow b0 51 15 (.slice A' (s.L ++ [C]).length c') (s.L ++ [C]).length (crFlat (s.L ++ [C]))
    rw [e1,crFlat_snoc]
    exact own_fr h.l_ hf (fun k hk e=>own_blk_ne h.l_ h.bg (by decide) (by rw [hk,show k=g from e]))
  · show w'.ownsRow b0 36 2 (.slice B' (s.refs ++ [(s.ns,s.ng)]).length d') (s.refs ++ [(s.ns,s.ng)]).length (rf9Flat (s.refs ++ [(s.ns,s.ng)]))
    rw [e2,rf9Flat_snoc]
    exact own_fr h.r_ hf (fun k hk e=>own_blk_ne h.r_ h.bg (by decide) (by rw [hk,show k=g from e]))
end
def LdNextO (b0 g m:Nat) (k:Int) (l:Lm) (x:St) (s:LdS) (w:World) (e:Ending) (w':World):Prop:=
  ∃ (R:Rc) (A:Option Addr) (c:Nat) (B:Option Addr) (d:Nat) (kk:Int) (v:Value),LoadR x.ss s.ns s.ng R kk∧Ev w' v sArena9 s.ns kk∧Mm w' m (k+1) l x∧Fr (lown m x g s) w w' ∧
    ((kk≠0∧e=.returned (.bool true)∧Ldr b0 w' g { s with over:=true,ve:=v }) ∨
     (kk=0∧∃ (A':Option Addr) (c':Nat) (B':Option Addr) (d':Nat) (ov:Bool) (ve:Value),e=.returned (.bool ov)∧Ldr b0 w' g ⟨s.n,s.begun,ov,s.hs,s.hg,R.nslot,R.ngen,A',c',s.L ++ [⟨R,A,c,B,d⟩],B',d',s.refs ++ [(s.ns,s.ng)],ve⟩∧(∀ k,(Value.slice A' (s.L.length+1) c').ownBlock=some k→(Value.slice s.A s.L.length s.c).ownBlock=some k∨w.heap.size≤k)∧(∀ k,(Value.slice B' (s.refs.length+1) d').ownBlock=some k→(Value.slice s.B s.refs.length s.e).ownBlock=some k∨w.heap.size≤k) ∧
       ((R.nslot=0∧R.ngen=0∧ov=true∧ve=.nilIface)∨(¬ (R.nslot=0∧R.ngen=0)∧l.s≤s.L.length+1∧ov=true∧ve=errV 10)∨(¬ (R.nslot=0∧R.ngen=0)∧s.L.length+1 < l.s∧ov=false∧ve=s.ve))))
set_option maxHeartbeats 8000000 in
theorem step_nextO {b0 g m:Nat} {k:Int} {l:Lm} {x:St} {w:World} {s:LdS} (h:Ldr b0 w g s) (hm:Mm w m k l x) (hb:∀ i,mall m x i→i < b0) (h0:0≤k) (h1:k≤100000) (ho:s.over=false) (hg:s.begun=true) (hl1:s.L.length≤5000) (hl2:s.refs.length≤5000) :
  Calls Tryz.prog 45 #[.pointer (some ⟨g,0,none⟩),.pointer (some ⟨m,0,none⟩)] w (LdNextO b0 g m k l x s w):=by
 have H:=hid_ h
 have HM:=hid_ hm
 have HB:=hid_ hb
 have HO:=hid_ ho
 have c1:w.cell? ⟨g,1,none⟩=some (.bool true):=by rw [← hg];exact h.b.cell' rfl
 have c5:w.cell? ⟨g,5,none⟩=some (.int .i64 s.ns):=h.b.cell' rfl
 have c6:w.cell? ⟨g,6,none⟩=some (.int .i64 s.ng):=h.b.cell' rfl
 have hsg:=h.b.lt
 have HG:=hid_ hg
 obtain ⟨i0,hi0,hz0,hs0,hb0⟩:=info_parts rec_info9
 have Hi:=hid_ (And.intro hi0 (And.intro hz0 (And.intro hs0 hb0)))
 obtain ⟨j0,hj0,hy0,ht0,hc0⟩:=info_parts ref_info9
 have Hj:=hid_ (And.intro hj0 (And.intro hy0 (And.intro ht0 hc0)))
 clear hi0 hz0 hs0 hb0 hj0 hy0 ht0 hc0 h hm hb ho hg
 go_enter Tryz.func45,Tryz.ntmps45
 go_wp2_with fail
 refine (ldOver_ok H.out).mono ?_
 rintro e w' ⟨rfl,rfl⟩
 rw [HO.out]
 go_wp2_with fail
 refine (memLoad_any m k l x _ HM.out h0 h1 s.ns s.ng).mono ?_
 rintro e w1 ⟨R,A,c,B,d,kk,v,rfl,hld,hev,hmm,hro,hf1⟩
 have LD:=hid_ hld
 have EV:=hid_ hev
 have RO:=hid_ (hro.base (show b0≤w.heap.size by have:=H.out.lb;omega))
 replace H:=hid_ (H.out.fr hf1 HB.out)
 replace HM:=hid_ hmm
 have F1:=hid_ (hf1.mono (S':=lown m x g s) (fun i _ e=>.inl e))
 have hsz1:=hf1.size
 have hNL1:Hid (∀ k,(Value.slice s.A s.L.length s.c).ownBlock=some k→k≠w1.heap.size):=hid_ (fun k hk=>by have:=(H.out.l.lt k hk).2;omega)
 clear hld hev hmm hro hf1 c1 c5 c6
 go_upto_region 12 with (refine wpList_store_mid rfl 51 (.tmp 7) (.tmp 56) rfl w1.heap.size 0 (crA (⟨R,A,c,B,d⟩:Cr)) rfl rfl (new_there w1 _ recZ) rec_size (by simp [Value.oneCell']) ?_;obtain ⟨w2,hw2⟩:∃ z,z=(w1.alloc (.cells recZ 51)).setCells w1.heap.size 0 (crA (⟨R,A,c,B,d⟩:Cr)).toList:=⟨_,rfl⟩;change wpList _ _ _ _ _ ((w1.alloc (.cells recZ 51)).setCells w1.heap.size 0 (crA (⟨R,A,c,B,d⟩:Cr)).toList);rw [← hw2];have P2:Hid (Blk w2 w1.heap.size 51 (crA (⟨R,A,c,B,d⟩:Cr))∧Fr none_ w1 w2):=hid_ (by rw [hw2];exact new_copy w1 _ recZ _ rfl);clear hw2)
 replace H:=hid_ (H.out.keep P2.out.2)
 replace HM:=hid_ (HM.out.keep P2.out.2)
 replace EV:=hid_ (EV.out.keep P2.out.2)
 replace RO:=hid_ (RO.out.keep P2.out.2)
 replace F1:=hid_ (F1.out.then_none P2.out.2)
 have BT:=hid_ P2.out.1
 have hszb:=P2.out.1.lt
 have hlb:=H.out.lb
 obtain ⟨b,hbq⟩:∃ b,b=w1.heap.size:=⟨_,rfl⟩
 rw [← hbq] at BT hszb
 rw [← hbq]
 have hgb:g < b:=by have:=H.out.b;omega
 have hNL:Hid (∀ k,(Value.slice s.A s.L.length s.c).ownBlock=some k→k≠b):=hid_ (by rw [hbq];exact hNL1.out)
 clear hbq P2
 rcases EV.out with ⟨hc,rfl⟩ | ⟨hc,q,rfl,-⟩
 rotate_left
 ·have HC:=hid_ hc
  have EQ:=hid_ EV.out
  clear hc
  go_wp2_with fail
  refine (ldStop_ok (.iface 156 (.pointer (some ⟨q,0,none⟩))) (.inr ⟨_,_,rfl⟩) H.out).mono ?_
  rintro e w3 ⟨rfl,hl3,hf3⟩
  go_wp2_with fail
  go_ret
  exact ⟨R,A,c,B,d,kk,_,LD.out,EQ.out.only hf3 H.out.b (by decide),HM.out.ldr H.out.b hf3,F1.out.then_only hf3 (.inl (.inr (.inl rfl))),.inl ⟨HC.out,rfl,hl3⟩⟩
 have HC:=hid_ hc
 clear hc EV
 have P0:Hid (LdW b0 g b m (k+1) l x w s (⟨R,A,c,B,d⟩:Cr) (.slice s.A s.L.length s.c) s.L.length (crFlat s.L) (.slice s.B s.refs.length s.e) s.refs.length (rf9Flat s.refs) w2):=hid_ ⟨H.out.l,H.out.r,hNL.out,H.out.b,BT.out,hlb,fun D hD=>by
  rcases List.mem_append.1 hD with h | h
  ·exact H.out.own D h
  ·obtain rfl:D=⟨R,A,c,B,d⟩:=by simpa using h
   exact RO.out,HM.out,F1.out,fun k hk=>.inl hk,fun k hk=>.inl hk⟩
 clear H HM RO F1 BT hNL
 go_upto_region 14 with fail
 (try go_frame)
 go_cut [4] (fun u wq=>∃ (A':Option Addr) (c':Nat) (B':Option Addr) (d':Nat),u=.bool false∧Ldr b0 wq g (⟨s.n,s.begun,s.over,s.hs,s.hg,s.ns,s.ng,A',c',s.L ++ [⟨R,A,c,B,d⟩],B',d',s.refs ++ [(s.ns,s.ng)],s.ve⟩:LdS)∧Mm wq m (k+1) l x∧Blk wq b 51 (crA (⟨R,A,c,B,d⟩:Cr))∧Fr (lown m x g s) w wq∧(∀ k,(Value.slice A' (s.L.length+1) c').ownBlock=some k→(Value.slice s.A s.L.length s.c).ownBlock=some k∨w.heap.size≤k)∧(∀ k,(Value.slice B' (s.refs.length+1) d').ownBlock=some k→(Value.slice s.B s.refs.length s.e).ownBlock=some k∨w.heap.size≤k))
 case first =>
  have hS0:(fun w':World=>Blk w' g 135 (ldA s)∧Blk w' b 51 (crA (⟨R,A,c,B,d⟩:Cr))) w2.drew:=⟨P0.out.bg.drew,P0.out.bt.drew⟩
  refine wp_region_u1 21 (fun w':World=>Blk w' g 135 (ldA s)∧Blk w' b 51 (crA (⟨R,A,c,B,d⟩:Cr))) 1 24 (some 64) (.pointer (some ⟨g,0,none⟩)) (by kernel_rfl) rfl rfl rfl (by kernel_rfl) (by kernel_rfl) (by kernel_rfl) (fun _ _ _ h=>h) (y_val (by kernel_rfl) (fun w' hS=>by kernel_rfl)) ?_
  refine u_take 0 (some 63) (.pointer (some ⟨g,0,none⟩)) rfl rfl (by kernel_rfl) (by kernel_rfl) (by kernel_rfl) (by kernel_rfl) (fun _ _ _ h=>h) (y_val (by kernel_rfl) (fun w' hS=>by kernel_rfl)) hS0 ?_
  go_frame
  refine u_take 2 (some 65) (.pointer (some ⟨g,0,none⟩)) rfl rfl (by kernel_rfl) (by kernel_rfl) (by kernel_rfl) (by kernel_rfl) (fun _ _ _ h=>h) (y_val (by kernel_rfl) (fun w' hS=>by kernel_rfl)) hS0 ?_
  go_frame
  refine u_take 3 (some 66) (.pointer (some ⟨g,0,none⟩)) rfl rfl (by kernel_rfl) (by kernel_rfl) (by kernel_rfl) (by kernel_rfl) (fun _ _ _ h=>h) (y_val (by kernel_rfl) (fun w' hS=>by kernel_rfl)) hS0 ?_
  go_frame
  refine u_take 4 (some 67) (.pointer (some ⟨g,7,none⟩)) rfl rfl (by kernel_rfl) (by kernel_rfl) (by kernel_rfl) (by kernel_rfl) (fun _ _ _ h=>h) (y_val (by kernel_rfl) (fun w' hS=>by kernel_rfl)) hS0 ?_
  go_frame
  refine u_take 5 (some 68) (.slice s.A s.L.length s.c) rfl rfl (by kernel_rfl) (by kernel_rfl) (by kernel_rfl) (by kernel_rfl) (fun _ _ _ h=>h) (y_cell 67 (.tmp 67) ⟨g,7,none⟩ _ (by kernel_rfl) rfl (by kernel_rfl) (fun w' hS=>hS.1.cell' rfl) Tryz.underlying67 rfl) hS0 ?_
  go_frame
  refine u_take 6 (some 69) (.agg (crA (⟨R,A,c,B,d⟩:Cr))) rfl rfl (by kernel_rfl) (by kernel_rfl) (by kernel_rfl) (by kernel_rfl) (fun _ _ _ h=>h) (yieldsIf_load_mid (by kernel_rfl) 51 (.tmp 7) rfl b 0 (by kernel_rfl) (crA (⟨R,A,c,B,d⟩:Cr)).toList _ (fun w' hS=>Blk.range7 (l:=(crA (⟨R,A,c,B,d⟩:Cr)).toList) hS.2) Tryz.underlying51 rfl rec_size) hS0 ?_
  go_frame
  refine u_take 9 (some 72) (.pointer (some ⟨g,0,none⟩)) rfl rfl (by kernel_rfl) (by kernel_rfl) (by kernel_rfl) (by kernel_rfl) (fun _ _ _ h=>h) (y_val (by kernel_rfl) (fun w' hS=>by kernel_rfl)) hS0 ?_
  go_frame
  refine u_take 10 (some 73) (.pointer (some ⟨g,0,none⟩)) rfl rfl (by kernel_rfl) (by kernel_rfl) (by kernel_rfl) (by kernel_rfl) (fun _ _ _ h=>h) (y_val (by kernel_rfl) (fun w' hS=>by kernel_rfl)) hS0 ?_
  go_frame
  refine u_take 11 (some 74) (.pointer (some ⟨g,8,none⟩)) rfl rfl (by kernel_rfl) (by kernel_rfl) (by kernel_rfl) (by kernel_rfl) (fun _ _ _ h=>h) (y_val (by kernel_rfl) (fun w' hS=>by kernel_rfl)) hS0 ?_
  go_frame
  refine u_take 12 (some 75) (.slice s.B s.refs.length s.e) rfl rfl (by kernel_rfl) (by kernel_rfl) (by kernel_rfl) (by kernel_rfl) (fun _ _ _ h=>h) (y_cell 68 (.tmp 74) ⟨g,8,none⟩ _ (by kernel_rfl) rfl (by kernel_rfl) (fun w' hS=>hS.1.cell' rfl) Tryz.underlying68 rfl) hS0 ?_
  go_frame
  refine u_take 13 (some 76) (.pointer (some ⟨g,0,none⟩)) rfl rfl (by kernel_rfl) (by kernel_rfl) (by kernel_rfl) (by kernel_rfl) (fun _ _ _ h=>h) (y_val (by kernel_rfl) (fun w' hS=>by kernel_rfl)) hS0 ?_
  go_frame
  refine u_take 14 (some 77) (.pointer (some ⟨g,0,none⟩)) rfl rfl (by kernel_rfl) (by kernel_rfl) (by kernel_rfl) (by kernel_rfl) (fun _ _ _ h=>h) (y_val (by kernel_rfl) (fun w' hS=>by kernel_rfl)) hS0 ?_
  go_frame
  refine u_take 15 (some 78) (.pointer (some ⟨g,5,none⟩)) rfl rfl (by kernel_rfl) (by kernel_rfl) (by kernel_rfl) (by kernel_rfl) (fun _ _ _ h=>h) (y_val (by kernel_rfl) (fun w' hS=>by kernel_rfl)) hS0 ?_
  go_frame
  refine u_take 16 (some 79) (.agg #[.int .i64 s.ns,.int .i64 s.ng]) rfl rfl (by kernel_rfl) (by kernel_rfl) (by kernel_rfl) (by kernel_rfl) (fun _ _ _ h=>h) (yieldsIf_load_mid (by kernel_rfl) 36 (.tmp 78) rfl g 5 (by kernel_rfl) [.int .i64 s.ns,.int .i64 s.ng] _ (fun w' hS=>ld_range5 hS.1) Tryz.underlying36 rfl ref_size9) hS0 ?_
  go_frame
  clear hS0
  obtain ⟨y0,hy0⟩:∃ z,z=w2.drew:=⟨_,rfl⟩
  have Q0:=hid_ (P0.out.keep (Fr.refl none_ w2).drew)
  rw [← hy0] at Q0
  rw [← hy0]
  clear hy0 P0
  refine u_two 7 17 rfl rfl (by kernel_rfl) (by kernel_rfl) (by kernel_rfl) ?_ ?_
  ·skip
   refine wp_knownD (some 70) rfl (.slice (some ⟨y0.heap.size,0,none⟩) 1 1) (y0.alloc (.cells (crA (⟨R,A,c,B,d⟩:Cr)) 51)) (by kernel_rfl) ⟨(.inr ⟨(Q0.out.keep ((Fr.refl none_ _).alloc _)).bg,(Q0.out.keep ((Fr.refl none_ _).alloc _)).bt⟩),?_⟩
   go_frame
   obtain ⟨y1,hy1⟩:∃ z,z=y0.alloc (.cells (crA (⟨R,A,c,B,d⟩:Cr)) 51):=⟨_,rfl⟩
   have f2:Fr none_ y0 y1:=by rw [hy1];exact (Fr.refl none_ _).alloc _
   have B4:Hid (Blk y1 y0.heap.size 51 (crA (⟨R,A,c,B,d⟩:Cr))):=hid_ (by rw [hy1];exact Blk.new _ _ _)
   have Q3:=hid_ (Q0.out.keep f2)
   rw [← hy1]
   clear hy1 f2 Q0
   refine u_two 8 17 rfl rfl (by kernel_rfl) (by kernel_rfl) (by kernel_rfl) ?_ ?_
   ·skip
    refine wp_dst (some 71) rfl (fun hds=>?_)
    refine wp_append_at _ (.tmp 68) (.tmp 70) 67 rfl b0 51 i0 _ 15 192 Tryz.underlying67 Hi.out.1 Hi.out.2.1 Hi.out.2.2.1 Hi.out.2.2.2 rfl (by omega) _ _ _ (by kernel_rfl) Q3.out.l_ (some ⟨y0.heap.size,0,none⟩) 1 1 (crA (⟨R,A,c,B,d⟩:Cr)).toList (by kernel_rfl) (reads_blk9 B4.out) (cr_one _) (by simp only [maxLen];omega) (by omega) Q3.out.sz ?_
    intro v7 y6 hown hgr hat
    have Q5:=hid_ (Q3.out.putL hown hgr hat)
    refine ⟨.inr ⟨Q5.out.bg,Q5.out.bt⟩,?_⟩
    rw [hds]
    clear hown hgr hat hds Q3 B4
    go_frame
    refine u_run 17 (some 80) (.slice (some ⟨y6.heap.size,0,none⟩) 1 1) (y6.alloc (.cells #[.int .i64 s.ns,.int .i64 s.ng] 36)) rfl rfl (by kernel_rfl) (by kernel_rfl) (by kernel_rfl) (.inr ⟨(Q5.out.keep ((Fr.refl none_ _).alloc _)).bg,(Q5.out.keep ((Fr.refl none_ _).alloc _)).bt⟩) ?_
    go_frame
    obtain ⟨y8,hy8⟩:∃ z,z=y6.alloc (.cells #[.int .i64 s.ns,.int .i64 s.ng] 36):=⟨_,rfl⟩
    have f9:Fr none_ y6 y8:=by rw [hy8];exact (Fr.refl none_ _).alloc _
    have B11:Hid (Blk y8 y6.heap.size 36 #[.int .i64 s.ns,.int .i64 s.ng]):=hid_ (by rw [hy8];exact Blk.new _ _ _)
    have Q10:=hid_ (Q5.out.keep f9)
    rw [← hy8]
    clear hy8 f9 Q5
    refine u_one 18 rfl (by kernel_rfl) (by kernel_rfl) ?_
    refine wp_dst (some 81) rfl (fun hds=>?_)
    refine wp_append_at _ (.tmp 75) (.tmp 80) 68 rfl b0 36 j0 _ 2 16 Tryz.underlying68 Hj.out.1 Hj.out.2.1 Hj.out.2.2.1 Hj.out.2.2.2 rfl (by omega) _ _ _ (by kernel_rfl) Q10.out.r_ (some ⟨y6.heap.size,0,none⟩) 1 1 [.int .i64 s.ns,.int .i64 s.ng] (by kernel_rfl) (reads_blk9 B11.out) (by simp [Value.oneCell']) (by simp only [maxLen];omega) (by omega) Q10.out.sz ?_
    intro v14 y13 hown hgr hat
    have Q12:=hid_ (Q10.out.putR hown hgr hat)
    refine ⟨.inr ⟨Q12.out.bg,Q12.out.bt⟩,?_⟩
    rw [hds]
    clear hown hgr hat hds Q10 B11
    go_frame
    obtain ⟨A',c',e1⟩:=Q12.out.l_.shape
    obtain ⟨B',d',e2⟩:=Q12.out.r_.shape
    subst e1
    subst e2
    (try go_frame)
    refine u_run 19 (some 82) (.pointer (some ⟨g,0,none⟩)) y13 rfl rfl (by kernel_rfl) (by kernel_rfl) (by kernel_rfl) (.inr ⟨Q12.out.bg,Q12.out.bt⟩) ?_
    go_frame
    refine u_run 20 (some 83) (.pointer (some ⟨g,7,none⟩)) y13 rfl rfl (by kernel_rfl) (by kernel_rfl) (by kernel_rfl) (.inr ⟨Q12.out.bg,Q12.out.bt⟩) ?_
    go_frame
    refine u_one 21 rfl (by kernel_rfl) (by kernel_rfl) ?_
    have c7:y13.cell? ⟨g,7,none⟩=some (.slice s.A s.L.length s.c):=Q12.out.bg.cell' rfl
    have y7:=Q12.out.bg.frozen 7
    go_simp
    have hk:=And.intro (Q12.out.bg.set_ 7 (.slice A' (s.L.length+1) c')) (Fr.only1 y13 ⟨g,7,none⟩ (.slice A' (s.L.length+1) c'))
    obtain ⟨y15,hy15⟩:∃ z,z=y13.setCell ⟨g,7,none⟩ (.slice A' (s.L.length+1) c'):=⟨_,rfl⟩
    rw [← hy15] at hk
    rw [← hy15]
    have K16:=hid_ hk
    clear hk hy15 c7 y7
    refine u_run 22 (some 84) (.pointer (some ⟨g,0,none⟩)) y15 rfl rfl (by kernel_rfl) (by kernel_rfl) (by kernel_rfl) (.inl (by decide)) ?_
    go_frame
    refine u_run 23 (some 85) (.pointer (some ⟨g,8,none⟩)) y15 rfl rfl (by kernel_rfl) (by kernel_rfl) (by kernel_rfl) (.inl (by decide)) ?_
    go_frame
    refine u_one 24 rfl (by kernel_rfl) (by kernel_rfl) ?_
    have c7:y15.cell? ⟨g,8,none⟩=some (.slice s.B s.refs.length s.e):=K16.out.1.cell' rfl
    have y7:=K16.out.1.frozen 8
    go_simp
    have hk:=And.intro (K16.out.1.set_ 8 (.slice B' (s.refs.length+1) d')) (Fr.setCell (p:=⟨g,8,none⟩) K16.out.2 (.inl rfl) (.slice B' (s.refs.length+1) d'))
    obtain ⟨y17,hy17⟩:∃ z,z=y15.setCell ⟨g,8,none⟩ (.slice B' (s.refs.length+1) d'):=⟨_,rfl⟩
    rw [← hy17] at hk
    rw [← hy17]
    have K18:=hid_ hk
    clear hk hy17 c7 y7
    have FIN:=hid_ (Q12.out.fin K18.out.1 K18.out.2)
    refine u_done (by kernel_rfl) ?_
    (try simp only [Exit.then])
    (try go_frame)
    (first | (rename_i hKm;refine hKm _ _ ?_) | (rename_i hKm _;refine hKm _ _ ?_) | (rename_i hKm _ _;refine hKm _ _ ?_) | (rename_i hKm _ _ _;refine hKm _ _ ?_))
    go_meet
    case rel=>exact ⟨A',c',B',d',rfl,FIN.out⟩
   ·skip
    refine wp_knownD (some 80) rfl (.slice (some ⟨y1.heap.size,0,none⟩) 1 1) (y1.alloc (.cells #[.int .i64 s.ns,.int .i64 s.ng] 36)) (by kernel_rfl) ⟨(.inr ⟨(Q3.out.keep ((Fr.refl none_ _).alloc _)).bg,(Q3.out.keep ((Fr.refl none_ _).alloc _)).bt⟩),?_⟩
    go_frame
    obtain ⟨y19,hy19⟩:∃ z,z=y1.alloc (.cells #[.int .i64 s.ns,.int .i64 s.ng] 36):=⟨_,rfl⟩
    have f20:Fr none_ y1 y19:=by rw [hy19];exact (Fr.refl none_ _).alloc _
    have B22:Hid (Blk y19 y1.heap.size 36 #[.int .i64 s.ns,.int .i64 s.ng]):=hid_ (by rw [hy19];exact Blk.new _ _ _)
    have Q21:=hid_ (Q3.out.keep f20)
    replace B4:=hid_ (B4.out.fr f20 id)
    rw [← hy19]
    clear hy19 f20 Q3
    refine u_one 8 rfl (by kernel_rfl) (by kernel_rfl) ?_
    refine wp_dst (some 71) rfl (fun hds=>?_)
    refine wp_append_at _ (.tmp 68) (.tmp 70) 67 rfl b0 51 i0 _ 15 192 Tryz.underlying67 Hi.out.1 Hi.out.2.1 Hi.out.2.2.1 Hi.out.2.2.2 rfl (by omega) _ _ _ (by kernel_rfl) Q21.out.l_ (some ⟨y0.heap.size,0,none⟩) 1 1 (crA (⟨R,A,c,B,d⟩:Cr)).toList (by kernel_rfl) (reads_blk9 B4.out) (cr_one _) (by simp only [maxLen];omega) (by omega) Q21.out.sz ?_
    intro v25 y24 hown hgr hat
    have Q23:=hid_ (Q21.out.putL hown hgr hat)
    replace B22:=hid_ (B22.out.grown hgr (fun e=>own_blk_ne Q21.out.l_ B22.out (by decide) e.symm))
    refine ⟨.inr ⟨Q23.out.bg,Q23.out.bt⟩,?_⟩
    rw [hds]
    clear hown hgr hat hds Q21 B4
    go_frame
    refine u_one 18 rfl (by kernel_rfl) (by kernel_rfl) ?_
    refine wp_dst (some 81) rfl (fun hds=>?_)
    refine wp_append_at _ (.tmp 75) (.tmp 80) 68 rfl b0 36 j0 _ 2 16 Tryz.underlying68 Hj.out.1 Hj.out.2.1 Hj.out.2.2.1 Hj.out.2.2.2 rfl (by omega) _ _ _ (by kernel_rfl) Q23.out.r_ (some ⟨y1.heap.size,0,none⟩) 1 1 [.int .i64 s.ns,.int .i64 s.ng] (by kernel_rfl) (reads_blk9 B22.out) (by simp [Value.oneCell']) (by simp only [maxLen];omega) (by omega) Q23.out.sz ?_
    intro v28 y27 hown hgr hat
    have Q26:=hid_ (Q23.out.putR hown hgr hat)
    refine ⟨.inr ⟨Q26.out.bg,Q26.out.bt⟩,?_⟩
    rw [hds]
    clear hown hgr hat hds Q23 B22
    go_frame
    obtain ⟨A',c',e1⟩:=Q26.out.l_.shape
    obtain ⟨B',d',e2⟩:=Q26.out.r_.shape
    subst e1
    subst e2
    (try go_frame)
    refine u_run 19 (some 82) (.pointer (some ⟨g,0,none⟩)) y27 rfl rfl (by kernel_rfl) (by kernel_rfl) (by kernel_rfl) (.inr ⟨Q26.out.bg,Q26.out.bt⟩) ?_
    go_frame
    refine u_run 20 (some 83) (.pointer (some ⟨g,7,none⟩)) y27 rfl rfl (by kernel_rfl) (by kernel_rfl) (by kernel_rfl) (.inr ⟨Q26.out.bg,Q26.out.bt⟩) ?_
    go_frame
    refine u_one 21 rfl (by kernel_rfl) (by kernel_rfl) ?_
    have c7:y27.cell? ⟨g,7,none⟩=some (.slice s.A s.L.length s.c):=Q26.out.bg.cell' rfl
    have y7:=Q26.out.bg.frozen 7
    go_simp
    have hk:=And.intro (Q26.out.bg.set_ 7 (.slice A' (s.L.length+1) c')) (Fr.only1 y27 ⟨g,7,none⟩ (.slice A' (s.L.length+1) c'))
    obtain ⟨y29,hy29⟩:∃ z,z=y27.setCell ⟨g,7,none⟩ (.slice A' (s.L.length+1) c'):=⟨_,rfl⟩
    rw [← hy29] at hk
    rw [← hy29]
    have K30:=hid_ hk
    clear hk hy29 c7 y7
    refine u_run 22 (some 84) (.pointer (some ⟨g,0,none⟩)) y29 rfl rfl (by kernel_rfl) (by kernel_rfl) (by kernel_rfl) (.inl (by decide)) ?_
    go_frame
    refine u_run 23 (some 85) (.pointer (some ⟨g,8,none⟩)) y29 rfl rfl (by kernel_rfl) (by kernel_rfl) (by kernel_rfl) (.inl (by decide)) ?_
    go_frame
    refine u_one 24 rfl (by kernel_rfl) (by kernel_rfl) ?_
    have c7:y29.cell? ⟨g,8,none⟩=some (.slice s.B s.refs.length s.e):=K30.out.1.cell' rfl
    have y7:=K30.out.1.frozen 8
    go_simp
    have hk:=And.intro (K30.out.1.set_ 8 (.slice B' (s.refs.length+1) d')) (Fr.setCell (p:=⟨g,8,none⟩) K30.out.2 (.inl rfl) (.slice B' (s.refs.length+1) d'))
    obtain ⟨y31,hy31⟩:∃ z,z=y29.setCell ⟨g,8,none⟩ (.slice B' (s.refs.length+1) d'):=⟨_,rfl⟩
    rw [← hy31] at hk
    rw [← hy31]
    have K32:=hid_ hk
    clear hk hy31 c7 y7
    have FIN:=hid_ (Q26.out.fin K32.out.1 K32.out.2)
    refine u_done (by kernel_rfl) ?_
    (try simp only [Exit.then])
    (try go_frame)
    (first | (rename_i hKm;refine hKm _ _ ?_) | (rename_i hKm _;refine hKm _ _ ?_) | (rename_i hKm _ _;refine hKm _ _ ?_) | (rename_i hKm _ _ _;refine hKm _ _ ?_))
    go_meet
    case rel=>exact ⟨A',c',B',d',rfl,FIN.out⟩
  ·skip
   refine wp_knownD (some 80) rfl (.slice (some ⟨y0.heap.size,0,none⟩) 1 1) (y0.alloc (.cells #[.int .i64 s.ns,.int .i64 s.ng] 36)) (by kernel_rfl) ⟨(.inr ⟨(Q0.out.keep ((Fr.refl none_ _).alloc _)).bg,(Q0.out.keep ((Fr.refl none_ _).alloc _)).bt⟩),?_⟩
   go_frame
   obtain ⟨y33,hy33⟩:∃ z,z=y0.alloc (.cells #[.int .i64 s.ns,.int .i64 s.ng] 36):=⟨_,rfl⟩
   have f34:Fr none_ y0 y33:=by rw [hy33];exact (Fr.refl none_ _).alloc _
   have B36:Hid (Blk y33 y0.heap.size 36 #[.int .i64 s.ns,.int .i64 s.ng]):=hid_ (by rw [hy33];exact Blk.new _ _ _)
   have Q35:=hid_ (Q0.out.keep f34)
   rw [← hy33]
   clear hy33 f34 Q0
   refine u_run 7 (some 70) (.slice (some ⟨y33.heap.size,0,none⟩) 1 1) (y33.alloc (.cells (crA (⟨R,A,c,B,d⟩:Cr)) 51)) rfl rfl (by kernel_rfl) (by kernel_rfl) (by kernel_rfl) (.inr ⟨(Q35.out.keep ((Fr.refl none_ _).alloc _)).bg,(Q35.out.keep ((Fr.refl none_ _).alloc _)).bt⟩) ?_
   go_frame
   obtain ⟨y37,hy37⟩:∃ z,z=y33.alloc (.cells (crA (⟨R,A,c,B,d⟩:Cr)) 51):=⟨_,rfl⟩
   have f38:Fr none_ y33 y37:=by rw [hy37];exact (Fr.refl none_ _).alloc _
   have B40:Hid (Blk y37 y33.heap.size 51 (crA (⟨R,A,c,B,d⟩:Cr))):=hid_ (by rw [hy37];exact Blk.new _ _ _)
   have Q39:=hid_ (Q35.out.keep f38)
   replace B36:=hid_ (B36.out.fr f38 id)
   rw [← hy37]
   clear hy37 f38 Q35
   refine u_one 8 rfl (by kernel_rfl) (by kernel_rfl) ?_
   refine wp_dst (some 71) rfl (fun hds=>?_)
   refine wp_append_at _ (.tmp 68) (.tmp 70) 67 rfl b0 51 i0 _ 15 192 Tryz.underlying67 Hi.out.1 Hi.out.2.1 Hi.out.2.2.1 Hi.out.2.2.2 rfl (by omega) _ _ _ (by kernel_rfl) Q39.out.l_ (some ⟨y33.heap.size,0,none⟩) 1 1 (crA (⟨R,A,c,B,d⟩:Cr)).toList (by kernel_rfl) (reads_blk9 B40.out) (cr_one _) (by simp only [maxLen];omega) (by omega) Q39.out.sz ?_
   intro v43 y42 hown hgr hat
   have Q41:=hid_ (Q39.out.putL hown hgr hat)
   replace B36:=hid_ (B36.out.grown hgr (fun e=>own_blk_ne Q39.out.l_ B36.out (by decide) e.symm))
   refine ⟨.inr ⟨Q41.out.bg,Q41.out.bt⟩,?_⟩
   rw [hds]
   clear hown hgr hat hds Q39 B40
   go_frame
   refine u_one 18 rfl (by kernel_rfl) (by kernel_rfl) ?_
   refine wp_dst (some 81) rfl (fun hds=>?_)
   refine wp_append_at _ (.tmp 75) (.tmp 80) 68 rfl b0 36 j0 _ 2 16 Tryz.underlying68 Hj.out.1 Hj.out.2.1 Hj.out.2.2.1 Hj.out.2.2.2 rfl (by omega) _ _ _ (by kernel_rfl) Q41.out.r_ (some ⟨y0.heap.size,0,none⟩) 1 1 [.int .i64 s.ns,.int .i64 s.ng] (by kernel_rfl) (reads_blk9 B36.out) (by simp [Value.oneCell']) (by simp only [maxLen];omega) (by omega) Q41.out.sz ?_
   intro v46 y45 hown hgr hat
   have Q44:=hid_ (Q41.out.putR hown hgr hat)
   refine ⟨.inr ⟨Q44.out.bg,Q44.out.bt⟩,?_⟩
   rw [hds]
   clear hown hgr hat hds Q41 B36
   go_frame
   obtain ⟨A',c',e1⟩:=Q44.out.l_.shape
   obtain ⟨B',d',e2⟩:=Q44.out.r_.shape
   subst e1
   subst e2
   (try go_frame)
   refine u_run 19 (some 82) (.pointer (some ⟨g,0,none⟩)) y45 rfl rfl (by kernel_rfl) (by kernel_rfl) (by kernel_rfl) (.inr ⟨Q44.out.bg,Q44.out.bt⟩) ?_
   go_frame
   refine u_run 20 (some 83) (.pointer (some ⟨g,7,none⟩)) y45 rfl rfl (by kernel_rfl) (by kernel_rfl) (by kernel_rfl) (.inr ⟨Q44.out.bg,Q44.out.bt⟩) ?_
   go_frame
   refine u_one 21 rfl (by kernel_rfl) (by kernel_rfl) ?_
   have c7:y45.cell? ⟨g,7,none⟩=some (.slice s.A s.L.length s.c):=Q44.out.bg.cell' rfl
   have y7:=Q44.out.bg.frozen 7
   go_simp
   have hk:=And.intro (Q44.out.bg.set_ 7 (.slice A' (s.L.length+1) c')) (Fr.only1 y45 ⟨g,7,none⟩ (.slice A' (s.L.length+1) c'))
   obtain ⟨y47,hy47⟩:∃ z,z=y45.setCell ⟨g,7,none⟩ (.slice A' (s.L.length+1) c'):=⟨_,rfl⟩
   rw [← hy47] at hk
   rw [← hy47]
   have K48:=hid_ hk
   clear hk hy47 c7 y7
   refine u_run 22 (some 84) (.pointer (some ⟨g,0,none⟩)) y47 rfl rfl (by kernel_rfl) (by kernel_rfl) (by kernel_rfl) (.inl (by decide)) ?_
   go_frame
   refine u_run 23 (some 85) (.pointer (some ⟨g,8,none⟩)) y47 rfl rfl (by kernel_rfl) (by kernel_rfl) (by kernel_rfl) (.inl (by decide)) ?_
   go_frame
   refine u_one 24 rfl (by kernel_rfl) (by kernel_rfl) ?_
   have c7:y47.cell? ⟨g,8,none⟩=some (.slice s.B s.refs.length s.e):=K48.out.1.cell' rfl
   have y7:=K48.out.1.frozen 8
   go_simp
   have hk:=And.intro (K48.out.1.set_ 8 (.slice B' (s.refs.length+1) d')) (Fr.setCell (p:=⟨g,8,none⟩) K48.out.2 (.inl rfl) (.slice B' (s.refs.length+1) d'))
   obtain ⟨y49,hy49⟩:∃ z,z=y47.setCell ⟨g,8,none⟩ (.slice B' (s.refs.length+1) d'):=⟨_,rfl⟩
   rw [← hy49] at hk
   rw [← hy49]
   have K50:=hid_ hk
   clear hk hy49 c7 y7
   have FIN:=hid_ (Q44.out.fin K50.out.1 K50.out.2)
   refine u_done (by kernel_rfl) ?_
   (try simp only [Exit.then])
   (try go_frame)
   (first | (rename_i hKm;refine hKm _ _ ?_) | (rename_i hKm _;refine hKm _ _ ?_) | (rename_i hKm _ _;refine hKm _ _ ?_) | (rename_i hKm _ _ _;refine hKm _ _ ?_))
   go_meet
   case rel=>exact ⟨A',c',B',d',rfl,FIN.out⟩
 case rest =>
 obtain ⟨A',c',B',d',rfl,hL,hM,hT,hF,ho1⟩:=hcut
 obtain ⟨w3,rfl⟩:∃ z:World,z=wc:=⟨_,rfl⟩
 have HL:=hid_ hL
 have HM:=hid_ hM
 have HT:=hid_ hT
 have HF:=hid_ hF
 have HOW:=hid_ ho1
 have hlc:(s.L ++ [(⟨R,A,c,B,d⟩:Cr)]).length=s.L.length+1:=by simp
 clear hL hM hT hF ho1
 have b13:w3.cell? ⟨b,13,none⟩=some (.int .i64 R.nslot):=HT.out.cell' rfl
 have b14:w3.cell? ⟨b,14,none⟩=some (.int .i64 R.ngen):=HT.out.cell' rfl
 have g5:w3.cell? ⟨g,5,none⟩=some (.int .i64 s.ns):=HL.out.b.cell' rfl
 have g6:w3.cell? ⟨g,6,none⟩=some (.int .i64 s.ng):=HL.out.b.cell' rfl
 have y5:=HL.out.b.frozen 5
 have y6:=HL.out.b.frozen 6
 go_upto_region 16 with fail
 obtain ⟨w4,hw4⟩:∃ z,z=(w3.setCell ⟨g,5,none⟩ (.int .i64 R.nslot)).setCell ⟨g,6,none⟩ (.int .i64 R.ngen):=⟨_,rfl⟩
 have f4:Fr (only g) w3 w4:=by rw [hw4];exact Fr.setCell (p:=⟨g,6,none⟩) (Fr.only1 w3 ⟨g,5,none⟩ _) (.inl rfl) _
 have b4:=(HL.out.b.set_ 5 (.int .i64 R.nslot)).set_ 6 (.int .i64 R.ngen)
 rw [← hw4] at b4
 rw [← hw4]
 clear hw4 b13 b14 g5 g6 y5 y6
 have L4:Hid (Ldr b0 w4 g (⟨s.n,s.begun,s.over,s.hs,s.hg,R.nslot,R.ngen,A',c',s.L ++ [⟨R,A,c,B,d⟩],B',d',s.refs ++ [(s.ns,s.ng)],s.ve⟩:LdS)):=hid_ (HL.out.upd b4 f4 rfl)
 replace HM:=hid_ (HM.out.ldr HL.out.b f4)
 replace HF:=hid_ (HF.out.then_only f4 (.inl (.inr (.inl rfl))))
 clear HL HT f4 b4
 have hg5:w4.cell? ⟨g,5,none⟩=some (.int .i64 R.nslot):=L4.out.b.cell' rfl
 have hg6:w4.cell? ⟨g,6,none⟩=some (.int .i64 R.ngen):=L4.out.b.cell' rfl
 have hq:=eql_ref
 by_cases hz:R.nslot=0∧R.ngen=0
 ·have hd:(R.nslot==0 && R.ngen==0)=true:=by simp [hz.1,hz.2]
  have HZ:=hid_ hz
  clear hz
  go_wp2_with fail
  refine (ldStop_ok .nilIface (.inl rfl) L4.out).mono ?_
  rintro e w5 ⟨rfl,hl5,hf5⟩
  go_wp2_with fail
  go_ret
  exact ⟨R,A,c,B,d,kk,.nilIface,LD.out,.inl ⟨HC.out,rfl⟩,HM.out.ldr L4.out.b hf5,HF.out.then_only hf5 (.inl (.inr (.inl rfl))),.inr ⟨HC.out,A',c',B',d',true,.nilIface,rfl,hl5,HOW.out.1,HOW.out.2,.inl ⟨HZ.out.1,HZ.out.2,rfl,rfl⟩⟩⟩
 ·have hd:(R.nslot==0 && R.ngen==0)=false:=by
   simp only [Bool.and_eq_false_iff,beq_eq_false_iff_ne]
   omega
  have HZ:=hid_ hz
  clear hz
  have hg7:w4.cell? ⟨g,7,none⟩=some (.slice A' (s.L.length+1) c'):=by have:=L4.out.b.cell' (i:=7) (v:=.slice A' (s.L ++ [(⟨R,A,c,B,d⟩:Cr)]).length c') rfl;rwa [hlc] at this
  go_upto_region 18 with fail
  (try go_frame)
  go_cut [107] (fun u wq=>u=.bool (decide ((l.s:Int)≤((s.L.length+1:Nat):Int)))∧Fr none_ w4 wq)
  case first =>
   have hS0:(fun w':World=>Fr none_ w4 w') w4.drew:=(Fr.refl none_ w4).drew
   refine wp_region_u 9 (fun w':World=>Fr none_ w4 w') (by kernel_rfl) ?_
   refine u_take 0 (some 99) (.pointer (some ⟨g,0,none⟩)) rfl rfl (by kernel_rfl) (by kernel_rfl) (by kernel_rfl) (by kernel_rfl) (fun _ _ _ h=>h) (y_val (by kernel_rfl) (fun w' hS=>by kernel_rfl)) hS0 ?_
   go_frame
   refine u_take 1 (some 100) (.pointer (some ⟨g,0,none⟩)) rfl rfl (by kernel_rfl) (by kernel_rfl) (by kernel_rfl) (by kernel_rfl) (fun _ _ _ h=>h) (y_val (by kernel_rfl) (fun w' hS=>by kernel_rfl)) hS0 ?_
   go_frame
   refine u_take 2 (some 101) (.pointer (some ⟨g,7,none⟩)) rfl rfl (by kernel_rfl) (by kernel_rfl) (by kernel_rfl) (by kernel_rfl) (fun _ _ _ h=>h) (y_val (by kernel_rfl) (fun w' hS=>by kernel_rfl)) hS0 ?_
   go_frame
   refine u_take 3 (some 102) (.slice A' (s.L.length+1) c') rfl rfl (by kernel_rfl) (by kernel_rfl) (by kernel_rfl) (by kernel_rfl) (fun _ _ _ h=>h) (y_cell 67 (.tmp 101) ⟨g,7,none⟩ _ (by kernel_rfl) rfl (by kernel_rfl) (fun w' hS=>cellFr hg7 hS) Tryz.underlying67 rfl) hS0 ?_
   go_frame
   refine u_take 4 (some 103) (.int .i64 ((s.L.length+1:Nat):Int)) rfl rfl (by kernel_rfl) (by kernel_rfl) (by kernel_rfl) (by kernel_rfl) (fun _ _ _ h=>h) (y_val (by kernel_rfl) (fun w' hS=>by kernel_rfl)) hS0 ?_
   go_frame
   refine u_take 5 (some 104) (.pointer (some ⟨m,0,none⟩)) rfl rfl (by kernel_rfl) (by kernel_rfl) (by kernel_rfl) (by kernel_rfl) (fun _ _ _ h=>h) (y_val (by kernel_rfl) (fun w' hS=>by kernel_rfl)) hS0 ?_
   go_frame
   clear hS0
   refine u_call 6 (some 105) 78 #[.pointer (some ⟨m,0,none⟩)] (.agg (lmA l)) (Fr none_ w4.drew) rfl rfl (by kernel_rfl) (by kernel_rfl) (by kernel_rfl) (memLimits_ok _ (HM.out.keep (Fr.refl none_ w4).drew)) ?_
   intro w5 hf5
   have F5:=hid_ (((Fr.refl none_ w4).drew).then_none hf5)
   refine ⟨F5.out,?_⟩
   go_frame
   refine u_run 7 (some 106) (.int .i64 (l.s:Int)) w5 rfl rfl (by kernel_rfl) (by kernel_rfl) (by kernel_rfl) (.inr F5.out) ?_
   go_frame
   refine u_run 8 (some 107) (.bool (decide ((l.s:Int)≤((s.L.length+1:Nat):Int)))) w5 rfl rfl (by kernel_rfl) (by kernel_rfl) (by kernel_rfl) (.inr F5.out) ?_
   go_frame
   refine u_done (by kernel_rfl) ?_
   (try simp only [Exit.then])
   (try go_frame)
   (first | (rename_i hKm;refine hKm _ _ ?_) | (rename_i hKm _;refine hKm _ _ ?_) | (rename_i hKm _ _;refine hKm _ _ ?_) | (rename_i hKm _ _ _;refine hKm _ _ ?_))
   go_meet
   case rel=>exact ⟨rfl,F5.out⟩
  case rest =>
  obtain ⟨rfl,hf5⟩:=hcut
  obtain ⟨w5,rfl⟩:∃ z:World,z=wc:=⟨_,rfl⟩
  replace L4:=hid_ (L4.out.keep hf5)
  replace HM:=hid_ (HM.out.keep hf5)
  replace HF:=hid_ (HF.out.then_none hf5)
  clear hf5 hg5 hg6 hg7 hq hd
  by_cases hle:l.s≤s.L.length+1
  ·have hd:decide ((l.s:Int)≤((s.L.length+1:Nat):Int))=true:=by simp;omega
   have HLE:=hid_ hle
   rw [hd]
   clear hd hle
   go_wp2_with fail
   refine (ldStop_ok (errV 10) (.inr ⟨_,_,rfl⟩) L4.out).mono ?_
   rintro e w6 ⟨rfl,hl6,hf6⟩
   go_wp2_with fail
   go_ret
   exact ⟨R,A,c,B,d,kk,.nilIface,LD.out,.inl ⟨HC.out,rfl⟩,HM.out.ldr L4.out.b hf6,HF.out.then_only hf6 (.inl (.inr (.inl rfl))),.inr ⟨HC.out,A',c',B',d',true,errV 10,rfl,hl6,HOW.out.1,HOW.out.2,.inr (.inl ⟨HZ.out,HLE.out,rfl,rfl⟩)⟩⟩
  ·have hd:decide ((l.s:Int)≤((s.L.length+1:Nat):Int))=false:=by simp;omega
   have HLE:=hid_ hle
   rw [hd]
   clear hd hle
   go_wp2_with fail
   go_ret
   exact ⟨R,A,c,B,d,kk,.nilIface,LD.out,.inl ⟨HC.out,rfl⟩,HM.out,HF.out,.inr ⟨HC.out,A',c',B',d',false,s.ve,rfl,by rw [← HO.out];exact L4.out,HOW.out.1,HOW.out.2,.inr (.inr ⟨HZ.out,by have:=HLE.out;omega,rfl,rfl⟩)⟩⟩
open Go.RowKit Go.BigFrame

def RightPost (L:List Rw) (w:World) (e:Ending) (w':World):Prop:=∃ b:Bool,e=.returned (.bool b)∧(b=true ↔ RightR L)∧Fr none_ w w'
set_option maxHeartbeats 4000000 in
theorem rightR_ok (L:List Rw) (A:Option Addr) (c:Nat) (w:World) (h:Reads w 2 A L.length (rwFlat L)) (ho:RwsOk L) :
  Calls Tryz.prog 128 #[.slice A L.length c] w (RightPost L w):=by
 have H1:=hid_ h
 have OK:=hid_ ho
 have h1000:=ho.1
 clear h ho
 go_enter Tryz.func128,Tryz.ntmps128
 go_wp2_with fail
 go_loopw [7] (fun i wr=>∃ k:Nat,k≤L.length∧i=.int .i64 k∧RightTo L k∧Fr none_ w wr) (fun i _=>L.length - (intOf i).toNat)
 case atStart=>exact ⟨0,Nat.zero_le _,rfl,⟨fun j p hj=>by omega,fun j p q hj=>by omega⟩,Fr.refl _ _⟩
 case round =>
  obtain ⟨k,hk,rfl,hst,hF⟩:=hrel
  have ST:=hid_ hst
  have H:=hid_ (H1.out.none_fr hF)
  have F:=hid_ hF
  clear hst hF
  have hi0:(0:Int)≤(k:Int):=Int.natCast_nonneg _
  by_cases hlt:k < L.length
  ·have hi1':(k:Int) < (L.length:Int):=by omega
   obtain ⟨p,hp⟩:∃ p,L[k]?=some p:=⟨_,List.getElem?_eq_getElem hlt⟩
   obtain ⟨b,off,rfl,hb2,c0,c1⟩:=rw_at H.out hp
   have HP:=hid_ hp
   clear hp
   go_upto_region 4 with fail
   obtain ⟨X,hX⟩:∃ X,X=wr.heap.size:=⟨_,rfl⟩
   obtain ⟨w2,hw2⟩:∃ w2,w2=wr.alloc (.cells #[.string p.1,.string p.2] 25):=⟨_,rfl⟩
   have f2:Fr none_ wr w2:=by rw [hw2];exact (Fr.refl none_ wr).alloc _
   have BX:Hid (Blk w2 X 25 #[.string p.1,.string p.2]):=hid_ (by rw [hw2,hX];exact Blk.new wr _ _)
   have H2:=hid_ (H.out.none_fr f2)
   have F2:=hid_ (F.out.then_none f2)
   rw [← hX]
   change Code.wp _ _ _ _ (wr.alloc (.cells #[.string p.1,.string p.2] 25))
   rw [← hw2]
   clear hw2 hX f2 c0 c1
   have hpk:=OK.out.2 p (List.mem_of_getElem? HP.out)
   have HPK:=hid_ hpk
   clear hpk
   go_cut [30] (fun v wq=>∃ bb:Bool,v=.bool bb∧(bb=false ↔ (fitsR p=true∧∀ q,0 < k→L[k - 1]?=some q→ltS q.1 p.1=true))∧Fr none_ w2 wq)
   case first =>
    have x0:w2.cell? ⟨X,0,none⟩=some (.string p.1):=BX.out.cell' rfl
    have x1:w2.cell? ⟨X,1,none⟩=some (.string p.2):=BX.out.cell' rfl
    have z0:∀ x:Wx w2,x.to.cell? ⟨X,0,none⟩=some (.string p.1):=fun x=>x.cell x0
    have z1:∀ x:Wx w2,x.to.cell? ⟨X,1,none⟩=some (.string p.2):=fun x=>x.cell x1
    clear x0 x1
    cases hin:fitsR p with
    | false =>
     have HC:Hid (∀ x:Wx w2,Calls Tryz.prog 137 #[rwV p] x.to fun e w'=>e=.returned (.bool false)∧Fr none_ x.to w'):=hid_ (fun x=>by
      have h:=fits_ok p x.to HPK.out.1 HPK.out.2
      rwa [hin] at h)
     have HIN:=hid_ hin
     clear hin
     refine wp_region_quiet_x (by kernel_rfl) (by kernel_rfl) ?_
     repeat (first | go_big_quiet_step ((go_at_call 137;exact Calls.quiet_x (HC.out _))) | quiet_step ((go_at_call 137;exact Calls.quiet_x (HC.out _))))
     refine wpQuiet_nil ?_
     intro _ hw'
     obtain ⟨xq,hw''⟩:=hw'
     subst hw''
     go_wp2
     go_meet
     case rel=>exact ⟨true,rfl,⟨(fun h=>by cases h),fun h=>by rw [HIN.out] at h;cases h.1⟩,xq.fr⟩
    | true =>
     have HC:Hid (∀ x:Wx w2,Calls Tryz.prog 137 #[rwV p] x.to fun e w'=>e=.returned (.bool true)∧Fr none_ x.to w'):=hid_ (fun x=>by
      have h:=fits_ok p x.to HPK.out.1 HPK.out.2
      rwa [hin] at h)
     have HIN:=hid_ hin
     clear hin
     by_cases hk0:0 < k
     ·obtain ⟨q,hq⟩:∃ q,L[k - 1]?=some q:=⟨_,List.getElem?_eq_getElem (by omega)⟩
      obtain ⟨b3,off3,hA,hb3,d0,d1⟩:=rw_at H2.out hq
      obtain ⟨rfl,rfl⟩:b=b3∧off=off3:=by injection hA with hA;injection hA with e1 e2;exact ⟨e1,e2⟩
      have e0:∀ x:Wx w2,x.to.cell? ⟨b,off+(k - 1) * 2,none⟩=some (.string q.1):=fun x=>x.cell d0
      have hqk:=(OK.out.2 q (List.mem_of_getElem? hq)).1
      have HQK:=hid_ hqk
      have HQ:=hid_ hq
      have HQ':Hid ((∀ q',0 < k→L[k - 1]?=some q'→ltS q'.1 p.1=true) ↔ ltS q.1 p.1=true):=hid_ ⟨fun h=>h q hk0 hq,fun h q' _ hq'=>by rw [hq] at hq';cases hq';exact h⟩
      have HC2:Hid (∀ x:Wx w2,Calls Tryz.prog 115 #[.string q.1,.string p.1] x.to fun e w'=>e=.returned (.int .i64 (cmpI q.1 p.1))∧Fr none_ x.to w'):=hid_ (fun x=>(compare_ok q.1 p.1 x.to HQK.out.le HPK.out.1.le).mono (by rintro e w' ⟨rfl,n,rfl⟩;exact ⟨rfl,(Fr.refl none_ _).drewN n⟩))
      have hw1:IntKind.i64.wrap ((k:Int) - 1)=((k - 1:Nat):Int):=by rw [show (k:Int) - 1=((k - 1:Nat):Int) by omega];exact IntWalk.i64_in _ (by omega)
      have hdk:decide (0 < k)=true:=decide_eq_true hk0
      have hj0:(0:Int)≤((k - 1:Nat):Int):=Int.natCast_nonneg _
      have hj1:((k - 1:Nat):Int) < (L.length:Int):=by omega
      obtain ⟨j,hj⟩:∃ j,j=k - 1:=⟨_,rfl⟩
      rw [← hj] at e0 hw1 hj0 hj1
      have HJ:=hid_ hj
      have hge:=cmp_ge q.1 p.1
      have HGE:=hid_ hge
      clear hq hA d0 d1 hqk hj hge hk0
      refine wp_region_quiet_x (by kernel_rfl) (by kernel_rfl) ?_
      repeat (first | go_big_quiet_step ((first | (go_at_call 137;exact Calls.quiet_x (HC.out _)) | (go_at_call 115;exact Calls.quiet_x (HC2.out _)))) | quiet_step ((first | (go_at_call 137;exact Calls.quiet_x (HC.out _)) | (go_at_call 115;exact Calls.quiet_x (HC2.out _)))))
      refine wpQuiet_nil ?_
      intro _ hw'
      obtain ⟨xq,hw''⟩:=hw'
      subst hw''
      go_wp2
      go_meet
      case rel=>exact ⟨_,rfl,by
       rw [HGE.out,HIN.out,HQ'.out]
       cases ltS q.1 p.1 <;> simp,xq.fr⟩
     ·have hdk:decide (0 < k)=false:=decide_eq_false hk0
      have hk0':k=0:=by omega
      have HK0:=hid_ hk0'
      clear hk0 hk0'
      refine wp_region_quiet_x (by kernel_rfl) (by kernel_rfl) ?_
      repeat (first | go_big_quiet_step ((go_at_call 137;exact Calls.quiet_x (HC.out _))) | quiet_step ((go_at_call 137;exact Calls.quiet_x (HC.out _))))
      refine wpQuiet_nil ?_
      intro _ hw'
      obtain ⟨xq,hw''⟩:=hw'
      subst hw''
      go_wp2
      go_meet
      case rel=>exact ⟨false,rfl,⟨fun _=>⟨HIN.out,fun q h=>by have:=HK0.out;omega⟩,fun _=>rfl⟩,xq.fr⟩
   case rest =>
   obtain ⟨bb,rfl,hbb,hf⟩:=hcut
   have F3:=hid_ (F2.out.then_none hf)
   have HB:=hid_ hbb
   clear hf hbb H2 BX F2
   cases bb with
   | true =>
    have hns:¬ RightR L:=fun hS=>by
     have h:=HB.out.2 ⟨hS.fit p (List.mem_of_getElem? HP.out),fun q h0 hq=>hS.ris (k - 1) q p hq (by rw [show k - 1+1=k by omega];exact HP.out)⟩
     cases h
    have HNS:=hid_ hns
    clear hns
    go_wp2_with fail
    go_ret
    exact ⟨false,rfl,⟨(fun h=>by cases h),fun h=>absurd h HNS.out⟩,F3.out⟩
   | false =>
    have hst:RightTo L (k+1):=by
     have h:=HB.out.1 rfl
     refine ⟨fun j p' hj hp'=>?_,fun j p' q hj hp' hq=>?_⟩
     ·rcases Nat.lt_succ_iff_lt_or_eq.1 hj with hj | rfl
      ·exact ST.out.1 j p' hj hp'
      ·rw [HP.out] at hp';cases hp';exact h.1
     ·rcases Nat.lt_succ_iff_lt_or_eq.1 hj with hj | hj
      ·exact ST.out.2 j p' q hj hp' hq
      ·rw [hj,HP.out] at hq
       cases hq
       exact h.2 p' (by omega) (by rw [show k - 1=j by omega];exact hp')
    have HST:=hid_ hst
    clear hst
    go_wp2_with fail
    go_roundw
    case rel=>exact ⟨k+1,by omega,by go_num,HST.out,F3.out⟩
    case measure=>simp [intOf];omega
  ·obtain rfl:k=L.length:=by omega
   have hS:RightR L:=⟨fun p hp=>by obtain ⟨j,hj,e⟩:=List.mem_iff_getElem.1 hp;exact ST.out.1 j p hj (by rw [List.getElem?_eq_getElem hj,e]),fun j p q hp hq=>ST.out.2 j p q (List.getElem?_eq_some_iff.1 hq).1 hp hq⟩
   have HS:=hid_ hS
   clear hS
   go_wp2_with fail
   go_ret
   exact ⟨true,rfl,⟨fun _=>HS.out,fun _=>rfl⟩,F.out⟩

def PutRPost (L:List Rw) (p:Rw) (w:World) (e:Ending) (w':World):Prop:=
  (fitsR p=true∧∃ A c,e=.returned (.tuple #[.slice A (putR L p).length c,.bool (atR L p.1),.nilIface])∧w'.ownsRow w.heap.size 25 2 (.slice A (putR L p).length c) (putR L p).length (rwFlat (putR L p))∧Fr none_ w w') ∨
  (fitsR p=false∧e=.returned (.tuple #[.slice none 0 0,.bool false,errV 1])∧Fr none_ w w')
theorem ptR_three (a b c:PtR):ptRL [a,b,c]=a.2.2 ++ b.2.2 ++ c.2.2:=by simp [ptRL]
theorem ptR_two (a b:PtR):ptRL [a,b]=a.2.2 ++ b.2.2:=by simp [ptRL]
theorem ptR_one (a:PtR):ptRL [a]=a.2.2:=by simp [ptRL]
theorem rwFlat_single (p:Rw):rwFlat [p]=[.string p.1,.string p.2]:=by simp [rwFlat,rwCells]
set_option maxHeartbeats 4000000 in
theorem putR_ok (L:List Rw) (A:Option Addr) (c:Nat) (p:Rw) (w:World) (h:Reads w 2 A L.length (rwFlat L)) (ho:RwsOk L) (hc:L.length≤c) (hm:c≤maxLen) (hp:SzOk p.1∧SzOk p.2) :
  Calls Tryz.prog 130 #[.slice A L.length c,rwV p] w (PutRPost L p w):=by
 have HK:=hid_ hp
 have HO:=hid_ ho
 have hpl:=plR_le L p.1
 have h3:=ho.1
 unfold maxLen at hm
 obtain ⟨w0,hw0⟩:∃ z,z=w.alloc (.cells #[.string p.1,.string p.2] 25):=⟨_,rfl⟩
 have f0:Fr none_ w w0:=by rw [hw0];exact (Fr.refl none_ w).alloc _
 have B0:Hid (Blk w0 w.heap.size 25 #[.string p.1,.string p.2]):=hid_ (by rw [hw0];exact Blk.new w _ _)
 have F0:=hid_ f0
 have H:=hid_ (h.none_fr f0)
 clear h ho hp f0
 go_enter Tryz.func130,Tryz.ntmps130
 go_upto_region 1 with fail
 change Code.wp _ _ _ _ (w.alloc (.cells #[.string p.1,.string p.2] 25))
 rw [← hw0]
 clear hw0
 have c0:w0.cell? ⟨w.heap.size,0,none⟩=some (.string p.1):=B0.out.cell' rfl
 have c1:w0.cell? ⟨w.heap.size,1,none⟩=some (.string p.2):=B0.out.cell' rfl
 go_wp2_with fail
 refine (fits_ok p _ HK.out.1 HK.out.2).mono ?_
 rintro e w1 ⟨rfl,hf1⟩
 clear c0 c1
 replace F0:=hid_ (F0.out.then_none hf1)
 replace B0:=hid_ (B0.out.fr hf1 id)
 replace H:=hid_ (H.out.none_fr hf1)
 clear hf1
 cases hfit:fitsR p with
 | false =>
  have HF:=hid_ hfit
  clear hfit
  go_wp2
  go_ret3
  exact .inr ⟨HF.out,rfl,F0.out⟩
 | true =>
 have HF:=hid_ hfit
 clear hfit
 have c0:w1.cell? ⟨w.heap.size,0,none⟩=some (.string p.1):=B0.out.cell' rfl
 have c1:w1.cell? ⟨w.heap.size,1,none⟩=some (.string p.2):=B0.out.cell' rfl
 go_wp2_with fail
 refine (findR_ok L A c p.1 w1 H.out HO.out HK.out.1).mono ?_
 rintro e w2 ⟨rfl,hf2⟩
 clear c0 c1
 replace F0:=hid_ (F0.out.then_none hf2)
 replace B0:=hid_ (B0.out.fr hf2 id)
 replace H:=hid_ (H.out.none_fr hf2)
 clear hf2
 obtain ⟨n,hn⟩:∃ n,n=plR L p.1:=⟨_,rfl⟩
 obtain ⟨b,hb⟩:∃ b,b=atR L p.1:=⟨_,rfl⟩
 rw [← hn,← hb]
 rw [← hn] at hpl
 have hlt:b=true→n < L.length:=fun h=>by rw [hn];exact atR_lt (by rw [← hb];exact h)
 have HPUT:Hid (putR L p=L.take n ++ [p] ++ L.drop (n+if b then 1 else 0)):=hid_ (by rw [putR,← hn,← hb])
 have HB:=hid_ hb
 have HN:=hid_ hn
 clear hn hb
 have hi0:(0:Int)≤(n:Int):=Int.natCast_nonneg _
 have hi1:(n:Int)≤(L.length:Int):=by omega
 have hcl:(L.length:Int)≤(c:Int):=by omega
 have hi2:(n:Int)≤(c:Int):=by omega
 have CAP:=hid_ hc
 go_upto_if 22 with fail
 go_cut [9] (fun u wq=>∃ m:Nat,m=(n+if b then 1 else 0)∧u=.int .i64 m∧wq=w2)
 case first =>
  cases b with
  | false =>
   go_wp2
   go_meet
   case rel=>exact ⟨n,by simp,rfl,rfl⟩
  | true =>
   have:=hlt rfl
   go_wp2
   go_meet
   case rel =>
    refine ⟨n+1,by simp,?_,rfl⟩
    go_num
 case rest =>
  obtain ⟨m,hm7,rfl,rfl⟩:=hcut
  have hml:m≤L.length:=by
   cases b with
   | false=>simp at hm7;omega
   | true=>have:=hlt rfl;simp at hm7;omega
  rw [← hm7] at HPUT
  clear hm7 hlt
  obtain ⟨A5,hA5⟩:∃ A5,(if c=m then A else Option.map (fun x=>x.add (m * 2)) A)=A5:=⟨_,rfl⟩
  have R1:=hid_ (H.out.upto hpl)
  have R2:=H.out.cut hml CAP.out
  rw [hA5] at R2
  have R2':=hid_ R2
  clear R2
  have htl:(L.take n).length=n:=by simp;omega
  have hdl:(L.drop m).length=L.length - m:=by simp
  have hi3:(0:Int)≤(m:Int):=Int.natCast_nonneg _
  have hi4:(m:Int)≤(L.length:Int):=by omega
  have hi5:(m:Int)≤(c:Int):=by omega
  go_upto_region 7 with fail
  have c0:wc.cell? ⟨w.heap.size,0,none⟩=some (.string p.1):=B0.out.cell' rfl
  have c1:wc.cell? ⟨w.heap.size,1,none⟩=some (.string p.2):=B0.out.cell' rfl
  have hS0:(fun w':World=>Fr none_ wc w') wc.drew:=(Fr.refl none_ wc).drew
  refine wp_region_U (m:=14) (S:=fun w':World=>Fr none_ wc w') (by kernel_rfl) ?_
  refine wpAnyU_take2 (i:=0) (v:=_) rfl (by kernel_rfl) (by kernel_rfl) (by kernel_rfl) (by kernel_rfl) (fun _ _ _ h=>h) (.inl ⟨by kernel_rfl,fun w' hS=>by have s_c0:=cellFr c0 hS;have s_c1:=cellFr c1 hS;go_simp;rfl⟩) hS0 ?_
  refine wpAnyU_take2 (i:=1) (v:=_) rfl (by kernel_rfl) (by kernel_rfl) (by kernel_rfl) (by kernel_rfl) (fun _ _ _ h=>h) (.inl ⟨by kernel_rfl,fun w' hS=>by have s_c0:=cellFr c0 hS;have s_c1:=cellFr c1 hS;go_simp;rfl⟩) hS0 ?_
  refine wpAnyU_take2 (i:=2) (v:=_) rfl (by kernel_rfl) (by kernel_rfl) (by kernel_rfl) (by kernel_rfl) (fun _ _ _ h=>h) (.inl ⟨by kernel_rfl,fun w' hS=>by have s_c0:=cellFr c0 hS;have s_c1:=cellFr c1 hS;go_simp;rfl⟩) hS0 ?_
  refine wpAnyU_take2 (i:=3) (v:=_) rfl (by kernel_rfl) (by kernel_rfl) (by kernel_rfl) (by kernel_rfl) (fun _ _ _ h=>h) (.inl ⟨by kernel_rfl,fun w' hS=>by have s_c0:=cellFr c0 hS;have s_c1:=cellFr c1 hS;go_simp;rfl⟩) hS0 ?_
  refine wpAnyU_take2 (i:=5) (v:=_) rfl (by kernel_rfl) (by kernel_rfl) (by kernel_rfl) (by kernel_rfl) (fun _ _ _ h=>h) (.inl ⟨by kernel_rfl,fun w' hS=>by have s_c0:=cellFr c0 hS;have s_c1:=cellFr c1 hS;go_simp;rfl⟩) hS0 ?_
  refine wpAnyU_take2 (i:=6) (v:=_) rfl (by kernel_rfl) (by kernel_rfl) (by kernel_rfl) (by kernel_rfl) (fun _ _ _ h=>h) (.inl ⟨by kernel_rfl,fun w' hS=>by have s_c0:=cellFr c0 hS;have s_c1:=cellFr c1 hS;go_simp;rfl⟩) hS0 ?_
  refine wpAnyU_take2 (i:=7) (v:=_) rfl (by kernel_rfl) (by kernel_rfl) (by kernel_rfl) (by kernel_rfl) (fun _ _ _ h=>h) (.inl ⟨by kernel_rfl,fun w' hS=>by have s_c0:=cellFr c0 hS;have s_c1:=cellFr c1 hS;go_simp;rfl⟩) hS0 ?_
  refine wpAnyU_take2 (i:=10) (v:=_) rfl (by kernel_rfl) (by kernel_rfl) (by kernel_rfl) (by kernel_rfl) (fun _ _ _ h=>h) (.inl ⟨by kernel_rfl,fun w' hS=>by have s_c0:=cellFr c0 hS;have s_c1:=cellFr c1 hS;go_simp;rfl⟩) hS0 ?_
  refine wpAnyU_one7 (i:=4) rfl (by kernel_rfl) (by kernel_rfl) ?_
  go_simp
  refine ⟨(Fr.refl none_ wc).drew.alloc _,?_⟩
  refine wpAnyU_one7 (i:=8) rfl (by kernel_rfl) (by kernel_rfl) ?_
  go_simp
  refine ⟨((Fr.refl none_ wc).drew.alloc _).alloc _,?_⟩
  refine wpAnyU_one7 (i:=9) rfl (by kernel_rfl) (by kernel_rfl) ?_
  go_simp
  obtain ⟨w3,hw_w3⟩:∃ z,z=((wc.alloc (.cells #[.string p.1,.string p.2] 25)).alloc (.cells #[.slice A n c,.slice (some ⟨wc.heap.size,0,none⟩) 1 1,.slice A5 (L.length - m) (c - m)] 22)).drew:=⟨_,rfl⟩
  have f3:Fr none_ wc w3:=by rw [hw_w3];repeat (first | exact Fr.refl none_ wc | apply Fr.drew | apply Fr.alloc)
  have B3:=(Blk.new7 (w:=(wc.alloc (.cells #[.string p.1,.string p.2] 25))) (b:=wc.heap.size+1) 22 #[.slice A n c,.slice (some ⟨wc.heap.size,0,none⟩) 1 1,.slice A5 (L.length - m) (c - m)] (by simp)).drew
  rw [← hw_w3] at B3
  have E3:Reads w3 2 (some ⟨wc.heap.size,0,none⟩) 1 (rwFlat [p]):=by
   rw [hw_w3,rwFlat_single]
   exact ((reads_new wc 25 [.string p.1,.string p.2] wc.heap.size rfl).alloc _).drew
  rw [← hw_w3]
  clear hw_w3 c0 c1
  refine (list_ok (wc.heap.size+1) [(A,c,L.take n),(some ⟨wc.heap.size,0,none⟩,1,[p]),(A5,c - m,L.drop m)] w3 ?_ ?_ ?_ ?_).mono ?_
  ·intro i x hx
   match i,hx with
   | 0,hx=>cases hx;rw [B3.cell];show some (Value.slice A n c)=some (Value.slice (A) (L.take n).length (c));rw [htl]
   | 1,hx=>cases hx;rw [B3.cell];show some (Value.slice (some ⟨wc.heap.size,0,none⟩) 1 1)=some (Value.slice (some ⟨wc.heap.size,0,none⟩) ([p]).length (1));rfl
   | 2,hx=>cases hx;rw [B3.cell];show some (Value.slice A5 (L.length - m) (c - m))=some (Value.slice (A5) (L.drop m).length (c - m));rw [hdl]
   | k+3,hx=>simp at hx
  ·intro x hx
   simp only [List.mem_cons,List.not_mem_nil,or_false] at hx
   rcases hx with rfl | rfl | rfl
   ·show Reads w3 2 (A) (L.take n).length (rwFlat (L.take n))
    rw [htl,show rwFlat (L.take n)=(rwFlat L).take (n * 2) from rwFlat_take L n]
    exact R1.out.none_fr f3
   ·show Reads w3 2 (some ⟨wc.heap.size,0,none⟩) ([p]).length (rwFlat ([p]))
    exact E3
   ·show Reads w3 2 (A5) (L.drop m).length (rwFlat (L.drop m))
    rw [hdl,rwFlat_drop]
    exact R2'.out.none_fr f3
  ·simp [ptRL];omega
  ·simp
  rintro e w4 ⟨A',c',rfl,ho,hf4⟩
  rw [ptR_three,show (L.take n ++ [p] ++ L.drop m)=putR L p from HPUT.out.symm] at ho ⊢
  have hs3:=f3.size
  have hs0:=F0.out.size
  have O4:=hid_ (own_base ho (by omega:w.heap.size≤w3.heap.size))
  have F3:Hid (Fr none_ wc w4):=hid_ (f3.then_none hf4)
  have F4:=hid_ (F0.out.then_none F3.out)
  clear ho hf4 B3 E3 f3 htl hdl
  refine ⟨F3.out,?_⟩
  refine wpAnyU_one7 (i:=11) rfl (by kernel_rfl) (by kernel_rfl) ?_
  go_simp
  refine ⟨F3.out,?_⟩
  refine wpAnyU_one7 (i:=12) rfl (by kernel_rfl) (by kernel_rfl) ?_
  go_simp
  refine ⟨F3.out,?_⟩
  refine wpAnyU_one7 (i:=13) rfl (by kernel_rfl) (by kernel_rfl) ?_
  go_simp
  refine ⟨F3.out,?_⟩
  refine wpAnyU_done (by kernel_rfl) ?_ _
  go_wp2
  go_ret3
  exact .inl ⟨HF.out,A',c',by rw [HB.out];rfl,O4.out,F4.out⟩

def DropPost (L:List Rw) (key:ByteArray) (w:World) (e:Ending) (w':World):Prop:=
  ∃ A c,e=.returned (.tuple #[.slice A (dropR L key).length c,.bool (atR L key)])∧w'.ownsRow w.heap.size 25 2 (.slice A (dropR L key).length c) (dropR L key).length (rwFlat (dropR L key))∧Fr none_ w w'
set_option maxHeartbeats 4000000 in
theorem dropR_ok (L:List Rw) (A:Option Addr) (c:Nat) (key:ByteArray) (w:World) (h:Reads w 2 A L.length (rwFlat L)) (ho:RwsOk L) (hc:L.length≤c) (hm:c≤maxLen) (hk:SzOk key) :
  Calls Tryz.prog 132 #[.slice A L.length c,.string key] w (DropPost L key w):=by
 have HK:=hid_ hk
 have HO:=hid_ ho
 have hpl:=plR_le L key
 have h3:=ho.1
 unfold maxLen at hm
 have H:=hid_ h
 clear h ho hk
 go_enter Tryz.func132,Tryz.ntmps132
 go_wp2_with fail
 refine (findR_ok L A c key w H.out HO.out HK.out).mono ?_
 rintro e w1 ⟨rfl,hf⟩
 replace H:=hid_ (H.out.none_fr hf)
 have F0:=hid_ hf
 clear hf
 obtain ⟨n,hn⟩:∃ n,n=plR L key:=⟨_,rfl⟩
 obtain ⟨b,hb⟩:∃ b,b=atR L key:=⟨_,rfl⟩
 rw [← hn,← hb]
 rw [← hn] at hpl
 have hlt:b=true→n < L.length:=fun h=>by rw [hn];exact atR_lt (by rw [← hb];exact h)
 have HD:Hid (dropR L key=if b then L.take n ++ L.drop (n+1) else L):=hid_ (by rw [dropR,← hn,← hb])
 have HB:=hid_ hb
 have CAP:=hid_ hc
 clear hn hb
 have hi0:(0:Int)≤(n:Int):=Int.natCast_nonneg _
 have hs0:=F0.out.size
 cases b with
 | false =>
  have HD':Hid (dropR L key=L):=hid_ (by rw [HD.out];rfl)
  clear hlt
  go_wp2_with fail
  have hB:=Blk.new w1 22 #[.slice A L.length c]
  refine (list_ok (w1.heap.size) [(A,c,L)] _ ?_ ?_ ?_ ?_).mono ?_
  ·intro i x hx
   match i,hx with
   | 0,hx=>cases hx;rw [hB.cell];show some (Value.slice A L.length c)=some (Value.slice (A) (L).length (c));rfl
   | k+1,hx=>simp at hx
  ·intro x hx
   simp only [List.mem_cons,List.not_mem_nil,or_false] at hx
   rcases hx with rfl
   ·show Reads (w1.alloc _) 2 (A) (L).length (rwFlat (L))
    exact H.out.alloc _
  ·simp [ptRL];omega
  ·simp
  rintro e w4 ⟨A',c',rfl,hown,hf4⟩
  rw [ptR_one] at hown ⊢
  have O4:=hid_ (own_base hown (by simp;omega:w.heap.size≤(w1.alloc (.cells #[.slice A L.length c] 22)).heap.size))
  have F4:=hid_ (((F0.out.alloc _).then_none hf4))
  clear hown hf4 hB
  go_wp2
  go_ret2
  refine ⟨A',c',?_,?_,F4.out⟩
  ·rw [HD'.out,HB.out];rfl
  ·rw [HD'.out];exact O4.out
 | true =>
  have hnl:=hlt rfl
  have HD':Hid (dropR L key=L.take n ++ L.drop (n+1)):=hid_ (by rw [HD.out];rfl)
  obtain ⟨m,hm7⟩:∃ m,m=n+1:=⟨_,rfl⟩
  have hml:m≤L.length:=by omega
  have hwr:IntKind.i64.wrap ((n:Int)+1)=(m:Int):=by rw [hm7];exact IntWalk.i64_in _ (by omega)
  rw [← hm7] at HD'
  clear hlt hm7
  obtain ⟨A5,hA5⟩:∃ A5,(if c=m then A else Option.map (fun x=>x.add (m * 2)) A)=A5:=⟨_,rfl⟩
  have R1:=hid_ (H.out.upto hpl)
  have R2:=H.out.cut hml CAP.out
  rw [hA5] at R2
  have R2':=hid_ R2
  clear R2
  have htl:(L.take n).length=n:=by simp;omega
  have hdl:(L.drop m).length=L.length - m:=by simp
  have hi1:(n:Int)≤(L.length:Int):=by omega
  have hi2:(n:Int)≤(c:Int):=by omega
  have hi3:(0:Int)≤(m:Int):=Int.natCast_nonneg _
  have hi4:(m:Int)≤(L.length:Int):=by omega
  have hi5:(m:Int)≤(c:Int):=by omega
  have hcl:(L.length:Int)≤(c:Int):=by omega
  go_upto_region 4 with fail
  have hS0:(fun w':World=>Fr none_ w1 w') w1.drew:=(Fr.refl none_ w1).drew
  refine wp_region_U (m:=11) (S:=fun w':World=>Fr none_ w1 w') (by kernel_rfl) ?_
  refine wpAnyU_take2 (i:=0) (v:=_) rfl (by kernel_rfl) (by kernel_rfl) (by kernel_rfl) (by kernel_rfl) (fun _ _ _ h=>h) (.inl ⟨by kernel_rfl,fun w' hS=>by skip;go_simp;rfl⟩) hS0 ?_
  refine wpAnyU_take2 (i:=1) (v:=_) rfl (by kernel_rfl) (by kernel_rfl) (by kernel_rfl) (by kernel_rfl) (fun _ _ _ h=>h) (.inl ⟨by kernel_rfl,fun w' hS=>by skip;go_simp;rfl⟩) hS0 ?_
  refine wpAnyU_take2 (i:=2) (v:=_) rfl (by kernel_rfl) (by kernel_rfl) (by kernel_rfl) (by kernel_rfl) (fun _ _ _ h=>h) (.inl ⟨by kernel_rfl,fun w' hS=>by skip;go_simp;rfl⟩) hS0 ?_
  refine wpAnyU_take2 (i:=3) (v:=_) rfl (by kernel_rfl) (by kernel_rfl) (by kernel_rfl) (by kernel_rfl) (fun _ _ _ h=>h) (.inl ⟨by kernel_rfl,fun w' hS=>by skip;go_simp;rfl⟩) hS0 ?_
  refine wpAnyU_take2 (i:=4) (v:=_) rfl (by kernel_rfl) (by kernel_rfl) (by kernel_rfl) (by kernel_rfl) (fun _ _ _ h=>h) (.inl ⟨by kernel_rfl,fun w' hS=>by skip;go_simp;rfl⟩) hS0 ?_
  refine wpAnyU_take2 (i:=5) (v:=_) rfl (by kernel_rfl) (by kernel_rfl) (by kernel_rfl) (by kernel_rfl) (fun _ _ _ h=>h) (.inl ⟨by kernel_rfl,fun w' hS=>by skip;go_simp;rfl⟩) hS0 ?_
  refine wpAnyU_take2 (i:=6) (v:=_) rfl (by kernel_rfl) (by kernel_rfl) (by kernel_rfl) (by kernel_rfl) (fun _ _ _ h=>h) (.inl ⟨by kernel_rfl,fun w' hS=>by skip;go_simp;rfl⟩) hS0 ?_
  refine wpAnyU_one7 (i:=7) rfl (by kernel_rfl) (by kernel_rfl) ?_
  go_simp
  refine ⟨(Fr.refl none_ w1).drew.alloc _,?_⟩
  refine wpAnyU_one7 (i:=8) rfl (by kernel_rfl) (by kernel_rfl) ?_
  go_simp
  obtain ⟨w3,hw_w3⟩:∃ z,z=(w1.alloc (.cells #[.slice A n c,.slice A5 (L.length - m) (c - m)] 22)).drew:=⟨_,rfl⟩
  have f3:Fr none_ w1 w3:=by rw [hw_w3];repeat (first | exact Fr.refl none_ w1 | apply Fr.drew | apply Fr.alloc)
  have B3:=(Blk.new7 (w:=w1) (b:=w1.heap.size) 22 #[.slice A n c,.slice A5 (L.length - m) (c - m)] (by simp)).drew
  rw [← hw_w3] at B3
  rw [← hw_w3]
  clear hw_w3
  refine (list_ok (w1.heap.size) [(A,c,L.take n),(A5,c - m,L.drop m)] w3 ?_ ?_ ?_ ?_).mono ?_
  ·intro i x hx
   match i,hx with
   | 0,hx=>cases hx;rw [B3.cell];show some (Value.slice A n c)=some (Value.slice (A) (L.take n).length (c));rw [htl]
   | 1,hx=>cases hx;rw [B3.cell];show some (Value.slice A5 (L.length - m) (c - m))=some (Value.slice (A5) (L.drop m).length (c - m));rw [hdl]
   | k+2,hx=>simp at hx
  ·intro x hx
   simp only [List.mem_cons,List.not_mem_nil,or_false] at hx
   rcases hx with rfl | rfl
   ·show Reads w3 2 (A) (L.take n).length (rwFlat (L.take n))
    rw [htl,show rwFlat (L.take n)=(rwFlat L).take (n * 2) from rwFlat_take L n]
    exact R1.out.none_fr f3
   ·show Reads w3 2 (A5) (L.drop m).length (rwFlat (L.drop m))
    rw [hdl,rwFlat_drop]
    exact R2'.out.none_fr f3
  ·simp [ptRL];omega
  ·simp
  rintro e w4 ⟨A',c',rfl,ho,hf4⟩
  rw [ptR_two,show L.take n ++ L.drop m=dropR L key from HD'.out.symm] at ho ⊢
  have hs3:=f3.size
  have O4:=hid_ (own_base ho (by omega:w.heap.size≤w3.heap.size))
  have F3:Hid (Fr none_ w1 w4):=hid_ (f3.then_none hf4)
  have F4:=hid_ (F0.out.then_none F3.out)
  clear ho hf4 B3 f3 htl hdl
  refine ⟨F3.out,?_⟩
  refine wpAnyU_one7 (i:=9) rfl (by kernel_rfl) (by kernel_rfl) ?_
  go_simp
  refine ⟨F3.out,?_⟩
  refine wpAnyU_one7 (i:=10) rfl (by kernel_rfl) (by kernel_rfl) ?_
  go_simp
  refine ⟨F3.out,?_⟩
  refine wpAnyU_done (by kernel_rfl) ?_ _
  go_wp2
  go_ret2
  exact ⟨A',c',by rw [← HB.out];rfl,O4.out,F4.out⟩

def CutPost (L:List Rw) (key:ByteArray) (w:World) (e:Ending) (w':World):Prop:=
  ∃ A c B n d,e=.returned (.tuple #[.slice A (L.take (plR L key)).length c,.slice B n d])∧w'.ownsRow w.heap.size 25 2 (.slice A (L.take (plR L key)).length c) (L.take (plR L key)).length (rwFlat (L.take (plR L key)))∧Fr none_ w w'
set_option maxHeartbeats 8000000 in
theorem cutR_ok (L:List Rw) (A:Option Addr) (c:Nat) (key:ByteArray) (w:World) (h:Reads w 2 A L.length (rwFlat L)) (ho:RwsOk L) (hc:L.length≤c) (hm:c≤maxLen) (hk:SzOk key) :
  Calls Tryz.prog 133 #[.slice A L.length c,.string key] w (CutPost L key w):=by
 have HK:=hid_ hk
 have HO:=hid_ ho
 have hpl:=plR_le L key
 have h3:=ho.1
 unfold maxLen at hm
 have H:=hid_ h
 clear h ho hk
 go_enter Tryz.func133,Tryz.ntmps133
 go_wp2_with fail
 refine (placeR_ok L A c key w H.out HO.out HK.out).mono ?_
 rintro e w1 ⟨rfl,hf⟩
 replace H:=hid_ (H.out.none_fr hf)
 have F0:=hid_ hf
 clear hf
 obtain ⟨n,hn⟩:∃ n,n=plR L key:=⟨_,rfl⟩
 rw [← hn]
 rw [← hn] at hpl
 have HN:=hid_ hn
 have CAP:=hid_ hc
 clear hn
 have hi0:(0:Int)≤(n:Int):=Int.natCast_nonneg _
 have hs0:=F0.out.size
 obtain ⟨A5,hA5⟩:∃ A5,(if c=n then A else Option.map (fun x=>x.add (n * 2)) A)=A5:=⟨_,rfl⟩
 have R1:=hid_ (H.out.upto hpl)
 have R2:=H.out.cut hpl CAP.out
 rw [hA5] at R2
 have R2':=hid_ R2
 clear R2
 have htl:(L.take n).length=n:=by simp;omega
 have hdl:(L.drop n).length=L.length - n:=by simp
 have hi1:(n:Int)≤(L.length:Int):=by omega
 have hi2:(n:Int)≤(c:Int):=by omega
 have hcl:(L.length:Int)≤(c:Int):=by omega
 go_upto_region 2 with fail
 have hS0:(fun w':World=>Fr none_ w1 w') w1.drew:=(Fr.refl none_ w1).drew
 refine wp_region_U (m:=12) (S:=fun w':World=>Fr none_ w1 w') (by kernel_rfl) ?_
 refine wpAnyU_take2 (i:=0) (v:=_) rfl (by kernel_rfl) (by kernel_rfl) (by kernel_rfl) (by kernel_rfl) (fun _ _ _ h=>h) (.inl ⟨by kernel_rfl,fun w' hS=>by skip;go_simp;rfl⟩) hS0 ?_
 refine wpAnyU_take2 (i:=1) (v:=_) rfl (by kernel_rfl) (by kernel_rfl) (by kernel_rfl) (by kernel_rfl) (fun _ _ _ h=>h) (.inl ⟨by kernel_rfl,fun w' hS=>by skip;go_simp;rfl⟩) hS0 ?_
 refine wpAnyU_take2 (i:=2) (v:=_) rfl (by kernel_rfl) (by kernel_rfl) (by kernel_rfl) (by kernel_rfl) (fun _ _ _ h=>h) (.inl ⟨by kernel_rfl,fun w' hS=>by skip;go_simp;rfl⟩) hS0 ?_
 refine wpAnyU_take2 (i:=5) (v:=_) rfl (by kernel_rfl) (by kernel_rfl) (by kernel_rfl) (by kernel_rfl) (fun _ _ _ h=>h) (.inl ⟨by kernel_rfl,fun w' hS=>by skip;go_simp;rfl⟩) hS0 ?_
 refine wpAnyU_take2 (i:=6) (v:=_) rfl (by kernel_rfl) (by kernel_rfl) (by kernel_rfl) (by kernel_rfl) (fun _ _ _ h=>h) (.inl ⟨by kernel_rfl,fun w' hS=>by skip;go_simp;rfl⟩) hS0 ?_
 refine wpAnyU_take2 (i:=7) (v:=_) rfl (by kernel_rfl) (by kernel_rfl) (by kernel_rfl) (by kernel_rfl) (fun _ _ _ h=>h) (.inl ⟨by kernel_rfl,fun w' hS=>by skip;go_simp;rfl⟩) hS0 ?_
 refine wpAnyU_two7 (i:=3) (j:=8) rfl rfl (by kernel_rfl) (by kernel_rfl) (by kernel_rfl) ?_ ?_
 ·go_simp
  refine ⟨(Fr.refl none_ w1).drew.alloc _,?_⟩
  refine wpAnyU_two7 (i:=4) (j:=8) rfl rfl (by kernel_rfl) (by kernel_rfl) (by kernel_rfl) ?_ ?_
  ·go_simp
   obtain ⟨w3,hw_w3⟩:∃ z,z=(w1.alloc (.cells #[.slice A n c] 22)).drew:=⟨_,rfl⟩
   have f3:Fr none_ w1 w3:=by rw [hw_w3];repeat (first | exact Fr.refl none_ w1 | apply Fr.drew | apply Fr.alloc)
   have B3:=(Blk.new7 (w:=w1) (b:=w1.heap.size) 22 #[.slice A n c] rfl).drew
   rw [← hw_w3] at B3
   rw [← hw_w3]
   clear hw_w3
   refine (list_ok (w1.heap.size) [(A,c,L.take n)] w3 ?_ ?_ ?_ ?_).mono ?_
   ·intro i x hx
    match i,hx with
    | 0,hx=>cases hx;rw [B3.cell];show some (Value.slice A n c)=some (Value.slice (A) (L.take n).length (c));rw [htl]
    | k+1,hx=>simp at hx
   ·intro x hx
    simp only [List.mem_cons,List.not_mem_nil,or_false] at hx
    rcases hx with rfl
    ·show Reads w3 2 (A) (L.take n).length (rwFlat (L.take n))
     rw [htl,show rwFlat (L.take n)=(rwFlat L).take (n * 2) from rwFlat_take L n]
     exact R1.out.none_fr f3
   ·simp [ptRL];omega
   ·simp
   rintro e w4 ⟨A',c',rfl,ho,hf4⟩
   rw [ptR_one] at ho ⊢
   have hs3:=f3.size
   have O4:=hid_ (own_base ho (by omega:w.heap.size≤w3.heap.size))
   have F3:Hid (Fr none_ w1 w4):=hid_ (f3.then_none hf4)
   clear ho hf4 B3
   refine ⟨F3.out,?_⟩
   refine wpAnyU_one7 (i:=8) rfl (by kernel_rfl) (by kernel_rfl) ?_
   go_simp
   obtain ⟨w5,hw5⟩:∃ z,z=w4.alloc (.cells #[.slice A5 (L.length - n) (c - n)] 22):=⟨_,rfl⟩
   have F5:Hid (Fr none_ w1 w5):=hid_ (by rw [hw5];exact F3.out.alloc _)
   have O5:=hid_ (own_none O4.out (by rw [hw5];exact (Fr.refl none_ w4).alloc (.cells #[.slice A5 (L.length - n) (c - n)] 22):Fr none_ w4 w5))
   have B5:Hid (Blk w5 w4.heap.size 22 #[.slice A5 (L.length - n) (c - n)]):=hid_ (by rw [hw5];exact Blk.new w4 _ _)
   rw [← hw5]
   clear hw5
   refine ⟨F5.out,?_⟩
   refine wpAnyU_one7 (i:=9) rfl (by kernel_rfl) (by kernel_rfl) ?_
   go_simp
   refine (list_ok (w4.heap.size) [(A5,c - n,L.drop n)] w5 ?_ ?_ ?_ ?_).mono ?_
   ·intro i x hx
    match i,hx with
    | 0,hx=>cases hx;rw [B5.out.cell];show some (Value.slice A5 (L.length - n) (c - n))=some (Value.slice (A5) (L.drop n).length (c - n));rw [hdl]
    | k+1,hx=>simp at hx
   ·intro x hx
    simp only [List.mem_cons,List.not_mem_nil,or_false] at hx
    rcases hx with rfl
    ·show Reads w5 2 (A5) (L.drop n).length (rwFlat (L.drop n))
     rw [hdl,rwFlat_drop]
     exact R2'.out.none_fr F5.out
   ·simp [ptRL];omega
   ·simp
   rintro e w6 ⟨B',d',rfl,ho6,hf6⟩
   have O6:=hid_ (own_none O5.out hf6)
   have F6:=hid_ (F5.out.then_none hf6)
   have F7:=hid_ (F0.out.then_none F6.out)
   clear ho6 hf6 B5
   refine ⟨F6.out,?_⟩
   refine wpAnyU_one7 (i:=10) rfl (by kernel_rfl) (by kernel_rfl) ?_
   go_simp
   refine ⟨F6.out,?_⟩
   refine wpAnyU_one7 (i:=11) rfl (by kernel_rfl) (by kernel_rfl) ?_
   go_simp
   refine ⟨F6.out,?_⟩
   refine wpAnyU_done (by kernel_rfl) ?_ _
   go_wp2
   go_ret2
   exact ⟨A',c',B',_,d',by rw [← HN.out,htl];rfl,by rw [← HN.out];exact O6.out,F7.out⟩
  ·go_simp
   refine ⟨((Fr.refl none_ w1).drew.alloc _).alloc _,?_⟩
   refine wpAnyU_one7 (i:=4) rfl (by kernel_rfl) (by kernel_rfl) ?_
   go_simp
   obtain ⟨w3,hw_w3⟩:∃ z,z=((w1.alloc (.cells #[.slice A n c] 22)).alloc (.cells #[.slice A5 (L.length - n) (c - n)] 22)).drew:=⟨_,rfl⟩
   have f3:Fr none_ w1 w3:=by rw [hw_w3];repeat (first | exact Fr.refl none_ w1 | apply Fr.drew | apply Fr.alloc)
   have B3:=((Blk.new7 (w:=w1) (b:=w1.heap.size) 22 #[.slice A n c] rfl).alloc (.cells #[.slice A5 (L.length - n) (c - n)] 22)).drew
   have B8:=(Blk.new7 (w:=w1.alloc (.cells #[.slice A n c] 22)) (b:=w1.heap.size+1) 22 #[.slice A5 (L.length - n) (c - n)] (by simp)).drew
   rw [← hw_w3] at B3 B8
   rw [← hw_w3]
   clear hw_w3
   refine (list_ok (w1.heap.size) [(A,c,L.take n)] w3 ?_ ?_ ?_ ?_).mono ?_
   ·intro i x hx
    match i,hx with
    | 0,hx=>cases hx;rw [B3.cell];show some (Value.slice A n c)=some (Value.slice (A) (L.take n).length (c));rw [htl]
    | k+1,hx=>simp at hx
   ·intro x hx
    simp only [List.mem_cons,List.not_mem_nil,or_false] at hx
    rcases hx with rfl
    ·show Reads w3 2 (A) (L.take n).length (rwFlat (L.take n))
     rw [htl,show rwFlat (L.take n)=(rwFlat L).take (n * 2) from rwFlat_take L n]
     exact R1.out.none_fr f3
   ·simp [ptRL];omega
   ·simp
   rintro e w4 ⟨A',c',rfl,ho,hf4⟩
   rw [ptR_one] at ho ⊢
   have hs3:=f3.size
   have O4:=hid_ (own_base ho (by omega:w.heap.size≤w3.heap.size))
   have F3:Hid (Fr none_ w1 w4):=hid_ (f3.then_none hf4)
   have F5:=F3
   have O5:=O4
   have B5:=hid_ (B8.fr hf4 id)
   clear ho hf4 B3 B8
   refine ⟨F3.out,?_⟩
   refine wpAnyU_one7 (i:=9) rfl (by kernel_rfl) (by kernel_rfl) ?_
   go_simp
   refine (list_ok (w1.heap.size+1) [(A5,c - n,L.drop n)] w4 ?_ ?_ ?_ ?_).mono ?_
   ·intro i x hx
    match i,hx with
    | 0,hx=>cases hx;rw [B5.out.cell];show some (Value.slice A5 (L.length - n) (c - n))=some (Value.slice (A5) (L.drop n).length (c - n));rw [hdl]
    | k+1,hx=>simp at hx
   ·intro x hx
    simp only [List.mem_cons,List.not_mem_nil,or_false] at hx
    rcases hx with rfl
    ·show Reads w4 2 (A5) (L.drop n).length (rwFlat (L.drop n))
     rw [hdl,rwFlat_drop]
     exact R2'.out.none_fr F5.out
   ·simp [ptRL];omega
   ·simp
   rintro e w6 ⟨B',d',rfl,ho6,hf6⟩
   have O6:=hid_ (own_none O5.out hf6)
   have F6:=hid_ (F5.out.then_none hf6)
   have F7:=hid_ (F0.out.then_none F6.out)
   clear ho6 hf6 B5
   refine ⟨F6.out,?_⟩
   refine wpAnyU_one7 (i:=10) rfl (by kernel_rfl) (by kernel_rfl) ?_
   go_simp
   refine ⟨F6.out,?_⟩
   refine wpAnyU_one7 (i:=11) rfl (by kernel_rfl) (by kernel_rfl) ?_
   go_simp
   refine ⟨F6.out,?_⟩
   refine wpAnyU_done (by kernel_rfl) ?_ _
   go_wp2
   go_ret2
   exact ⟨A',c',B',_,d',by rw [← HN.out,htl];rfl,by rw [← HN.out];exact O6.out,F7.out⟩
 ·go_simp
  refine ⟨(Fr.refl none_ w1).drew.alloc _,?_⟩
  refine wpAnyU_one7 (i:=3) rfl (by kernel_rfl) (by kernel_rfl) ?_
  go_simp
  refine ⟨((Fr.refl none_ w1).drew.alloc _).alloc _,?_⟩
  refine wpAnyU_one7 (i:=4) rfl (by kernel_rfl) (by kernel_rfl) ?_
  go_simp
  obtain ⟨w3,hw_w3⟩:∃ z,z=((w1.alloc (.cells #[.slice A5 (L.length - n) (c - n)] 22)).alloc (.cells #[.slice A n c] 22)).drew:=⟨_,rfl⟩
  have f3:Fr none_ w1 w3:=by rw [hw_w3];repeat (first | exact Fr.refl none_ w1 | apply Fr.drew | apply Fr.alloc)
  have B8:=((Blk.new7 (w:=w1) (b:=w1.heap.size) 22 #[.slice A5 (L.length - n) (c - n)] rfl).alloc (.cells #[.slice A n c] 22)).drew
  have B3:=(Blk.new7 (w:=w1.alloc (.cells #[.slice A5 (L.length - n) (c - n)] 22)) (b:=w1.heap.size+1) 22 #[.slice A n c] (by simp)).drew
  rw [← hw_w3] at B3 B8
  rw [← hw_w3]
  clear hw_w3
  refine (list_ok (w1.heap.size+1) [(A,c,L.take n)] w3 ?_ ?_ ?_ ?_).mono ?_
  ·intro i x hx
   match i,hx with
   | 0,hx=>cases hx;rw [B3.cell];show some (Value.slice A n c)=some (Value.slice (A) (L.take n).length (c));rw [htl]
   | k+1,hx=>simp at hx
  ·intro x hx
   simp only [List.mem_cons,List.not_mem_nil,or_false] at hx
   rcases hx with rfl
   ·show Reads w3 2 (A) (L.take n).length (rwFlat (L.take n))
    rw [htl,show rwFlat (L.take n)=(rwFlat L).take (n * 2) from rwFlat_take L n]
    exact R1.out.none_fr f3
  ·simp [ptRL];omega
  ·simp
  rintro e w4 ⟨A',c',rfl,ho,hf4⟩
  rw [ptR_one] at ho ⊢
  have hs3:=f3.size
  have O4:=hid_ (own_base ho (by omega:w.heap.size≤w3.heap.size))
  have F3:Hid (Fr none_ w1 w4):=hid_ (f3.then_none hf4)
  have F5:=F3
  have O5:=O4
  have B5:=hid_ (B8.fr hf4 id)
  clear ho hf4 B3 B8
  refine ⟨F3.out,?_⟩
  refine wpAnyU_one7 (i:=9) rfl (by kernel_rfl) (by kernel_rfl) ?_
  go_simp
  refine (list_ok (w1.heap.size) [(A5,c - n,L.drop n)] w4 ?_ ?_ ?_ ?_).mono ?_
  ·intro i x hx
   match i,hx with
   | 0,hx=>cases hx;rw [B5.out.cell];show some (Value.slice A5 (L.length - n) (c - n))=some (Value.slice (A5) (L.drop n).length (c - n));rw [hdl]
   | k+1,hx=>simp at hx
  ·intro x hx
   simp only [List.mem_cons,List.not_mem_nil,or_false] at hx
   rcases hx with rfl
   ·show Reads w4 2 (A5) (L.drop n).length (rwFlat (L.drop n))
    rw [hdl,rwFlat_drop]
    exact R2'.out.none_fr F5.out
  ·simp [ptRL];omega
  ·simp
  rintro e w6 ⟨B',d',rfl,ho6,hf6⟩
  have O6:=hid_ (own_none O5.out hf6)
  have F6:=hid_ (F5.out.then_none hf6)
  have F7:=hid_ (F0.out.then_none F6.out)
  clear ho6 hf6 B5
  refine ⟨F6.out,?_⟩
  refine wpAnyU_one7 (i:=10) rfl (by kernel_rfl) (by kernel_rfl) ?_
  go_simp
  refine ⟨F6.out,?_⟩
  refine wpAnyU_one7 (i:=11) rfl (by kernel_rfl) (by kernel_rfl) ?_
  go_simp
  refine ⟨F6.out,?_⟩
  refine wpAnyU_done (by kernel_rfl) ?_ _
  go_wp2
  go_ret2
  exact ⟨A',c',B',_,d',by rw [← HN.out,htl];rfl,by rw [← HN.out];exact O6.out,F7.out⟩

def joinR (a b:List Rw):Bool:=
  match a[a.length - 1]?,b[0]? with
  | some p,some q=>ltS p.1 q.1
  | _,_=>true
def JoinRPost (a b:List Rw) (w:World) (e:Ending) (w':World):Prop:=
  (joinR a b=true∧∃ A c,e=.returned (.tuple #[.slice A (a ++ b).length c,.nilIface])∧w'.ownsRow w.heap.size 25 2 (.slice A (a ++ b).length c) (a ++ b).length (rwFlat (a ++ b))∧Fr none_ w w') ∨
  (joinR a b=false∧e=.returned (.tuple #[.slice none 0 0,errV 2])∧Fr none_ w w')
theorem joinR_some {a b:List Rw} {p q:Rw} (h:a[a.length - 1]?=some p) (h':b[0]?=some q):joinR a b=ltS p.1 q.1:=by simp [joinR,h,h']
theorem joinR_nil {a b:List Rw} (h:a.length=0∨b.length=0):joinR a b=true:=by
  rcases h with h | h
  · rw [List.eq_nil_of_length_eq_zero h];simp [joinR]
  · rw [List.eq_nil_of_length_eq_zero h];unfold joinR;split <;> simp_all
set_option maxHeartbeats 4000000 in
theorem joinR_ok (a b:List Rw) (A B:Option Addr) (c d:Nat) (w:World) (ha:Reads w 2 A a.length (rwFlat a)) (hb:Reads w 2 B b.length (rwFlat b)) (hoa:RwsOk a) (hob:RwsOk b) :
  Calls Tryz.prog 134 #[.slice A a.length c,.slice B b.length d] w (JoinRPost a b w):=by
 have HA:=hid_ ha
 have HB:=hid_ hb
 have OA:=hid_ hoa
 have OB:=hid_ hob
 have l1:=hoa.1
 have l2:=hob.1
 clear ha hb hoa hob
 go_enter Tryz.func134,Tryz.ntmps134
 go_upto_region 1 with fail
 go_cut [28] (fun u wq=>u=.bool (!joinR a b)∧Fr none_ w wq)
 case rest =>
  obtain ⟨rfl,hf⟩:=hcut
  have F0:=hid_ hf
  have hs0:=hf.size
  clear hf
  cases hj:joinR a b with
  | false =>
   have HJ:=hid_ hj
   clear hj
   go_wp2_with fail
   go_ret2
   exact .inr ⟨HJ.out,rfl,F0.out⟩
  | true =>
   have HJ:=hid_ hj
   clear hj
   go_wp2_with fail
   have hB:=Blk.new wc 22 #[.slice A a.length c,.slice B b.length d]
   refine (list_ok (wc.heap.size) [(A,c,a),(B,d,b)] (wc.alloc (.cells #[.slice A a.length c,.slice B b.length d] 22)) ?_ ?_ ?_ ?_).mono ?_
   ·intro i x hx
    match i,hx with
    | 0,hx=>cases hx;rw [hB.cell];show some (Value.slice A a.length c)=some (Value.slice (A) (a).length (c));rfl
    | 1,hx=>cases hx;rw [hB.cell];show some (Value.slice B b.length d)=some (Value.slice (B) (b).length (d));rfl
    | k+2,hx=>simp at hx
   ·intro x hx
    simp only [List.mem_cons,List.not_mem_nil,or_false] at hx
    rcases hx with rfl | rfl
    ·show Reads (wc.alloc (.cells #[.slice A a.length c,.slice B b.length d] 22)) 2 (A) (a).length (rwFlat (a))
     exact (HA.out.none_fr F0.out).alloc _
    ·show Reads (wc.alloc (.cells #[.slice A a.length c,.slice B b.length d] 22)) 2 (B) (b).length (rwFlat (b))
     exact (HB.out.none_fr F0.out).alloc _
   ·simp [ptRL];omega
   ·simp
   rintro e w4 ⟨A',c',rfl,hown,hf4⟩
   rw [ptR_two] at hown ⊢
   have O4:=hid_ (own_base hown (by simp;omega:w.heap.size≤(wc.alloc (.cells #[.slice A a.length c,.slice B b.length d] 22)).heap.size))
   have F4:=hid_ (((F0.out.alloc _).then_none hf4))
   clear hown hf4 hB
   go_wp2
   go_ret2
   exact .inl ⟨HJ.out,A',c',by rw [List.length_append];rfl,O4.out,F4.out⟩
 case first =>
  by_cases h1:a.length=0
  ·have e1:decide ((0:Int) < (a.length:Int))=false:=decide_eq_false (by omega)
   have e2:decide (0 < a.length)=false:=decide_eq_false (by omega)
   have HJ:=hid_ (joinR_nil (a:=a) (b:=b) (.inl h1))
   have hdd:(0:Int)≤0:=by omega
   clear h1
   go_quiet (fail)
   go_wp2
   go_meet
   case rel=>exact ⟨by rw [HJ.out];rfl,by repeat (first | exact Fr.refl none_ w | apply Fr.drewN | apply Fr.drew)⟩
  ·have e1:decide ((0:Int) < (a.length:Int))=true:=decide_eq_true (by omega)
   have e2:decide (0 < a.length)=true:=decide_eq_true (by omega)
   by_cases h2:b.length=0
   ·have e3:decide ((0:Int) < (b.length:Int))=false:=decide_eq_false (by omega)
    have e4:decide (0 < b.length)=false:=decide_eq_false (by omega)
    have HJ:=hid_ (joinR_nil (a:=a) (b:=b) (.inr h2))
    clear h1 h2
    go_quiet (fail)
    go_wp2
    go_meet
    case rel=>exact ⟨by rw [HJ.out];rfl,by repeat (first | exact Fr.refl none_ w | apply Fr.drewN | apply Fr.drew)⟩
   ·have e3:decide ((0:Int) < (b.length:Int))=true:=decide_eq_true (by omega)
    have e4:decide (0 < b.length)=true:=decide_eq_true (by omega)
    obtain ⟨n,hn⟩:∃ n,n=a.length - 1:=⟨_,rfl⟩
    obtain ⟨p,hp⟩:∃ p,a[n]?=some p:=⟨_,List.getElem?_eq_getElem (by omega)⟩
    obtain ⟨q,hq⟩:∃ q,b[0]?=some q:=⟨_,List.getElem?_eq_getElem (by omega)⟩
    obtain ⟨gb,go,rfl,hgb,c0,c1⟩:=rw_at HA.out hp
    obtain ⟨hb2,ho2,rfl,hhb,d0,d1⟩:=rw_at HB.out hq
    have hw1:IntKind.i64.wrap ((a.length:Int) - 1)=(n:Int):=by rw [show (a.length:Int) - 1=(n:Int) by omega];exact IntWalk.i64_in _ (by omega)
    have hi0:(0:Int)≤(n:Int):=Int.natCast_nonneg _
    have hi1:(n:Int) < (a.length:Int):=by omega
    have hi2:(0:Int) < (b.length:Int):=by omega
    have HJ:=hid_ (joinR_some (by rw [← hn];exact hp) hq)
    have HC:Hid (∀ x:Wx w,Calls Tryz.prog 115 #[.string p.1,.string q.1] x.to fun e w'=>e=.returned (.int .i64 (cmpI p.1 q.1))∧Fr none_ x.to w'):=hid_ (fun x=>(compare_ok p.1 q.1 x.to (OA.out.2 p (List.mem_of_getElem? hp)).1.le (OB.out.2 q (List.mem_of_getElem? hq)).1.le).mono (by rintro e w' ⟨rfl,n,rfl⟩;exact ⟨rfl,(Fr.refl none_ _).drewN n⟩))
    have HGE:=hid_ (cmp_ge p.1 q.1)
    simp only [Nat.zero_mul,Nat.add_zero] at d0
    have y0:∀ x:Wx w,x.to.cell? ⟨gb,go+n * 2,none⟩=some (.string p.1):=fun x=>x.cell c0
    have y1:∀ x:Wx w,x.to.cell? ⟨hb2,ho2,none⟩=some (.string q.1):=fun x=>x.cell d0
    clear hp hq c0 c1 d0 d1 hn h1 h2
    refine wp_region_quiet_x (by kernel_rfl) (by kernel_rfl) ?_
    repeat (first | go_big_quiet_step ((go_at_call 115;exact Calls.quiet_x (HC.out _))) | quiet_step ((go_at_call 115;exact Calls.quiet_x (HC.out _))))
    refine wpQuiet_nil ?_
    intro _ hw'
    obtain ⟨xq,hw''⟩:=hw'
    subst hw''
    go_wp2
    go_meet
    case rel=>exact ⟨by rw [HJ.out,← HGE.out],xq.fr⟩
end Go.Proofs.YthpkbppaaagaoaaGreat
