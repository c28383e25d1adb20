/- Texts of one proof, merged: Mc9. -/
import Derived.Test.YthcpccddcgbanaaGreatDoorPiM
namespace Go.Proofs.YthcpccddcgbanaaGreatDoor
open Go.RowKit
set_option maxRecDepth 100000
set_option linter.unusedVariables false

theorem mapAt_bad {T H:Nat} {ps:List Pg} (n:Int) (w:World) (h:Tbl w T H ps) (hb:pgC ps n≠0):Calls Tryz.prog 63 #[.pointer (some ⟨T,0,none⟩),.int .i64 n] w fun e w'=>e=.returned (.tuple #[.pointer none,errV (pgC ps n)])∧w=w':=by
  by_cases h1:n < 0∨(ps.length:Int)≤n
  · have e:pgC ps n=1:=if_pos h1
    rw [e]
    exact mapAt_arg T H ps n w h h1
  · obtain ⟨i,rfl⟩:∃ i:Nat,n=(i:Int):=⟨n.toNat,by omega⟩
    obtain ⟨⟨u,s,g⟩,hp⟩:∃ p,ps[i]?=some p:=⟨_,List.getElem?_eq_getElem (by omega)⟩
    cases u with
    | true =>
      have e:pgC ps (i:Int)=0:=by unfold pgC;rw [if_neg h1];simp [hp]
      exact absurd e hb
    | false =>
      have e:pgC ps (i:Int)=6:=by unfold pgC;rw [if_neg h1];simp [hp]
      rw [e]
      exact mapAt_none T H ps i s g w h hp
theorem pgC_zero {ps:List Pg} {n:Int} (h:pgC ps n=0):∃ (i:Nat) (s g:Int),n=(i:Int)∧ps[i]?=some (true,s,g):=by
  unfold pgC at h
  split at h
  · cases h
  · rename_i h1
    split at h
    · rename_i h2
      obtain ⟨⟨u,s,g⟩,hp⟩:∃ p,ps[n.toNat]?=some p:=⟨_,List.getElem?_eq_getElem (by omega)⟩
      rw [hp] at h2
      obtain rfl:u=true:=by simpa using h2
      exact ⟨n.toNat,s,g,by omega,hp⟩
    · cases h
theorem pgC_used {ps:List Pg} {i:Nat} {s g:Int} (h:ps[i]?=some (true,s,g)):pgC ps (i:Int)=0:=by
  have hlt:=(List.getElem?_eq_some_iff.1 h).1
  unfold pgC
  rw [if_neg (by omega)]
  simp [h]
def TakeR (ps:List Pg) (n c:Int) (ps':List Pg):Prop:=
  (∃ (i:Nat) (s g:Int),ps[i]?=some (false,s,g)∧(∀ (j:Nat) (p:Pg),j < i→ps[j]?=some p→p.1=true)∧n=(i:Int)∧c=0∧ps'=ps.set i (true,0,0)) ∨
  ((∀ (j:Nat) (p:Pg),ps[j]?=some p→p.1=true)∧n=0∧c=3∧ps'=ps)
theorem first_free:∀ ps:List Pg,(∃ (i:Nat) (s g:Int),ps[i]?=some (false,s,g)∧(∀ (j:Nat) (p:Pg),j < i→ps[j]?=some p→p.1=true))∨(∀ (j:Nat) (p:Pg),ps[j]?=some p→p.1=true)
  | []=>.inr (fun j p h=>by simp at h)
  | (false,s,g) :: r=>.inl ⟨0,s,g,rfl,fun j p hj=>absurd hj (Nat.not_lt_zero j)⟩
  | (true,s,g) :: r=>by
    rcases first_free r with ⟨i,s',g',h1,h2⟩ | h
    · refine .inl ⟨i+1,s',g',by simpa using h1,fun j p hj hp=>?_⟩
      cases j with
      | zero => obtain rfl : (true, s, g) = p := by simpa using hp
                rfl
      | succ j=>exact h2 j p (by omega) (by simpa using hp)
    · refine .inr (fun j p hp=>?_)
      cases j with
      | zero => obtain rfl : (true, s, g) = p := by simpa using hp
                rfl
      | succ j=>exact h j p (by simpa using hp)
theorem take_any {T H:Nat} {ps:List Pg} (w:World) (h:Tbl w T H ps):Calls Tryz.prog 29 #[.pointer (some ⟨T,0,none⟩)] w fun e w'=>∃ n c ps',e=.returned (.tuple #[.int .i64 n,errOf c])∧TakeR ps n c ps'∧Tbl w' T H ps'∧Fr (only H) w w':=by
  rcases first_free ps with ⟨i,s,g,h1,h2⟩ | h1
  · refine (mtake_ok T H ps i s g w h h1 h2).mono ?_
    rintro e w' ⟨rfl,rfl⟩
    exact ⟨(i:Int),0,ps.set i (true,0,0),rfl,.inl ⟨i,s,g,h1,h2,rfl,rfl,rfl⟩,h.set_ (List.getElem?_eq_some_iff.1 h1).1 _,setPg_only _ _ _ _⟩
  · refine (take_full T H ps w h h1).mono ?_
    rintro e w' ⟨rfl,rfl⟩
    exact ⟨0,3,ps,rfl,.inr ⟨h1,rfl,rfl,rfl⟩,h,Fr.refl _ _⟩
def HeadR (ps:List Pg) (n s g c:Int):Prop:=(∃ i:Nat,n=(i:Int)∧ps[i]?=some (true,s,g)∧c=0)∨(pgC ps n≠0∧s=0∧g=0∧c=pgC ps n)
theorem head_any {T H:Nat} {ps:List Pg} (n:Int) (w:World) (h:Tbl w T H ps):Calls Tryz.prog 59 #[.pointer (some ⟨T,0,none⟩),.int .i64 n] w fun e w'=>∃ s g c,e=.returned (.tuple #[.agg #[.int .i64 s,.int .i64 g],errOf c])∧HeadR ps n s g c∧Fr none_ w w':=by
  by_cases hb:pgC ps n=0
  · obtain ⟨i,s,g,rfl,hp⟩:=pgC_zero hb
    exact (head_ok T H ps i s g w h hp).mono fun e w' hh=>⟨s,g,0,hh.1,.inl ⟨i,rfl,hp,rfl⟩,hh.2⟩
  · exact (head_bad n w h hb).mono fun e w' hh=>⟨0,0,pgC ps n,by rw [errOf_pos hb];exact hh.1,.inr ⟨hb,rfl,rfl,rfl⟩,hh.2⟩
def SwapR (ps:List Pg) (n a b c d:Int) (ok:Bool) (k:Int) (ps':List Pg):Prop:=
  (∃ (i:Nat) (s g:Int),n=(i:Int)∧ps[i]?=some (true,s,g)∧ok=(s==a && g==b)∧k=0∧ps'=swapPs ps i s g a b c d)∨(pgC ps n≠0∧ok=false∧k=pgC ps n∧ps'=ps)
theorem swap_any {T H:Nat} {ps:List Pg} (n a b c d:Int) (w:World) (h:Tbl w T H ps):Calls Tryz.prog 30 #[.pointer (some ⟨T,0,none⟩),.int .i64 n,.agg #[.int .i64 a,.int .i64 b],.agg #[.int .i64 c,.int .i64 d]] w fun e w'=>∃ ok k ps',e=.returned (.tuple #[.bool ok,errOf k])∧SwapR ps n a b c d ok k ps'∧Tbl w' T H ps'∧Fr (only H) w w':=by
  by_cases hb:pgC ps n=0
  · obtain ⟨i,s,g,rfl,hp⟩:=pgC_zero hb
    exact (swap_ok T H ps i s g a b c d w h hp).mono fun e w' hh=>⟨_,0,_,hh.1,.inl ⟨i,s,g,rfl,hp,rfl,rfl,rfl⟩,hh.2.1,hh.2.2⟩
  · exact (swap_err (some ⟨T,0,none⟩) n (pgC ps n) a b c d w (fun w1 hf=>mapAt_bad n w1 (h.keep hf) hb)).mono fun e w' hh=>⟨false,pgC ps n,ps,by rw [errOf_pos hb];exact hh.1,.inr ⟨hb,rfl,rfl,rfl⟩,h.keep hh.2,hh.2.mono (fun _ _ e=>e.elim)⟩
def GiveR (ps:List Pg) (n k:Int) (ps':List Pg):Prop:=
  (∃ (i:Nat) (s g:Int),n=(i:Int)∧ps[i]?=some (true,s,g)∧k=0∧ps'=ps.set i (false,0,0))∨(pgC ps n≠0∧k=pgC ps n∧ps'=ps)
theorem give_any {T H:Nat} {ps:List Pg} (n:Int) (w:World) (h:Tbl w T H ps):Calls Tryz.prog 68 #[.pointer (some ⟨T,0,none⟩),.int .i64 n] w fun e w'=>∃ k ps',e=.returned (errOf k)∧GiveR ps n k ps'∧Tbl w' T H ps'∧Fr (only H) w w':=by
  by_cases hb:pgC ps n=0
  · obtain ⟨i,s,g,rfl,hp⟩:=pgC_zero hb
    refine (give_ok T H ps i s g w h hp).mono ?_
    rintro e w' ⟨rfl,rfl⟩
    exact ⟨0,_,rfl,.inl ⟨i,s,g,rfl,hp,rfl,rfl⟩,h.set_ (List.getElem?_eq_some_iff.1 hp).1 _,setPg_only _ _ _ _⟩
  · refine (give_err (some ⟨T,0,none⟩) n (pgC ps n) w (fun w1 e=>by subst e;exact mapAt_bad n w1 h hb)).mono ?_
    rintro e w' ⟨rfl,rfl⟩
    exact ⟨pgC ps n,ps,by rw [errOf_pos hb],.inr ⟨hb,rfl,rfl⟩,h,Fr.refl _ _⟩
def AllocR (last:Int) (ss:List Sl) (R:Rc) (sl gn c:Int) (ss':List Sl):Prop:=
  (∃ (i:Nat) (s:Sl) (vr ve:Value),ss[i]?=some s∧(s.used=false∧s.gen≠last)∧(∀ (j:Nat) (t:Sl),j < i→ss[j]?=some t→t.used=true∨t.gen=last)∧sl=(i:Int)+1∧gn=s.gen+1∧c=0∧ss'=ss.set i ⟨s.gen+1,true,R,vr,ve⟩) ∨
  ((∀ (j:Nat) (t:Sl),ss[j]?=some t→t.used=true∨t.gen=last)∧sl=0∧gn=0∧c=allocErr ss∧ss'=ss)
theorem allocErr_pos (ss:List Sl):allocErr ss≠0:=by unfold allocErr;split <;> decide
theorem alloc_any (R:Rc) (A:Option Addr) (c:Nat) (B:Option Addr) (d:Nat) {w:World} {a G:Nat} {last:Int} {ss:List Sl} (h:Ar w a G last ss) (hr:RecReads w R A B) (hz:R.rows.length≤1000∧R.ents.length≤1000) :
    Calls Tryz.prog 28 #[.pointer (some ⟨a,0,none⟩),recV R (.slice A R.rows.length c) (.slice B R.ents.length d)] w fun e w'=>∃ sl gn k ss',e=.returned (.tuple #[.agg #[.int .i64 sl,.int .i64 gn],errOf k])∧AllocR last ss R sl gn k ss'∧Ar w' a G last ss'∧Fr (only G) w w':=by
  refine (alloc_ok R A c B d w a G last ss h hr hz).mono ?_
  rintro e w' (⟨i,s,vr,ve,h1,h2,h3,rfl,hA,-,hf⟩ | ⟨h1,rfl,hf⟩)
  · exact ⟨_,_,0,_,rfl,.inl ⟨i,s,vr,ve,h1,h2,h3,rfl,rfl,rfl,rfl⟩,hA,hf⟩
  · exact ⟨0,0,allocErr ss,ss,by rw [errOf_pos (allocErr_pos ss)],.inr ⟨h1,rfl,rfl,rfl,rfl⟩,h.keep hf,hf.mono (fun _ _ e=>e.elim)⟩
def FreeR (ss:List Sl) (sl gn c:Int) (ss':List Sl):Prop:=
  (∃ (i:Nat) (s:Sl),sl=(i:Int)+1∧ss[i]?=some s∧s.used=true∧s.gen=gn∧c=0∧ss'=ss.set i ⟨s.gen,false,Rc.zero,.slice none 0 0,.slice none 0 0⟩)∨(atC ss sl gn≠0∧c=atC ss sl gn∧ss'=ss)
theorem free_any (sl gn:Int) {w:World} {a G:Nat} {last:Int} {ss:List Sl} (h:Ar w a G last ss):Calls Tryz.prog 67 #[.pointer (some ⟨a,0,none⟩),.agg #[.int .i64 sl,.int .i64 gn]] w fun e w'=>∃ c ss',e=.returned (errOf c)∧FreeR ss sl gn c ss'∧Ar w' a G last ss'∧Fr (only G) w w':=by
  by_cases hb:atC ss sl gn=0
  · obtain ⟨i,s,h1,h2,h3,h4⟩:=at_live hb
    refine (free_ok sl gn h h2 h1 h3 h4).mono ?_
    rintro e w' ⟨rfl,hA,hf⟩
    exact ⟨0,_,rfl,.inl ⟨i,s,h1,h2,h3,h4,rfl,rfl⟩,hA,hf⟩
  · exact (free_bad sl gn h hb).mono fun e w' hh=>⟨atC ss sl gn,ss,by rw [errOf_pos hb];exact hh.1,.inr ⟨hb,rfl,rfl⟩,h.keep hh.2,hh.2.mono (fun _ _ e=>e.elim)⟩
section
variable (m:Nat) (k:Int) (l:Lm) (x:St) (w:World)
theorem memTake_any (h:Mm w m k l x) (h0:0≤k) (h1:k≤100000):Calls Tryz.prog 69 #[.pointer (some ⟨m,0,none⟩)] w fun e w'=>∃ n c ps' v,e=.returned (.tuple #[.int .i64 n,v])∧TakeR x.ps n c ps'∧Ev w' v sTable9 0 c∧Mm w' m (k+1) l { x with ps:=ps' }∧Fr (mall m x) w w':=by
  have H:=hid_ h
  clear h
  go_enter Tryz.func69,Tryz.ntmps69
  go_wp2_with fail
  refine (tick_mm m k l x _ H.out h0 h1).mono ?_
  rintro e w1 ⟨rfl,hM1,hf1⟩
  have M1:=hid_ hM1
  have F1:=hid_ hf1
  clear hM1 hf1
  have c8:w1.cell? ⟨m,8,none⟩=some (.pointer (some ⟨x.T,0,none⟩)):=M1.out.b.cell' rfl
  go_wp2_with fail
  refine (take_any _ M1.out.tb).mono ?_
  rintro e w2 ⟨n,c,ps',rfl,hR,hT2,hf2⟩
  have R2:=hid_ hR
  have M2:=hid_ (M1.out.tbPut hT2 hf2)
  have F2:=hid_ (mall_tr F1.out (mall_H hf2))
  clear hR hT2 hf2 c8
  go_wp2_with fail
  refine (fat_ev sTable9 0 c _).mono ?_
  rintro e w3 ⟨v,rfl,hev,hf3⟩
  have E3:=hid_ hev
  have F3:=hid_ hf3
  clear hev hf3
  go_wp2_with fail
  go_ret2
  exact ⟨n,c,ps',v,rfl,R2.out,E3.out,M2.out.keep F3.out,F2.out.then_none F3.out⟩
theorem memGive_any (h:Mm w m k l x) (h0:0≤k) (h1:k≤100000) (n:Int):Calls Tryz.prog 41 #[.pointer (some ⟨m,0,none⟩),.int .i64 n] w fun e w'=>∃ c ps' v,e=.returned v∧GiveR x.ps n c ps'∧Ev w' v sTable9 n c∧Mm w' m (k+1) l { x with ps:=ps' }∧Fr (mall m x) w w':=by
  have H:=hid_ h
  clear h
  go_enter Tryz.func41,Tryz.ntmps41
  go_wp2_with fail
  refine (tick_mm m k l x _ H.out h0 h1).mono ?_
  rintro e w1 ⟨rfl,hM1,hf1⟩
  have M1:=hid_ hM1
  have F1:=hid_ hf1
  clear hM1 hf1
  have c8:w1.cell? ⟨m,8,none⟩=some (.pointer (some ⟨x.T,0,none⟩)):=M1.out.b.cell' rfl
  go_wp2_with fail
  refine (give_any n _ M1.out.tb).mono ?_
  rintro e w2 ⟨c,ps',rfl,hR,hT2,hf2⟩
  have R2:=hid_ hR
  have M2:=hid_ (M1.out.tbPut hT2 hf2)
  have F2:=hid_ (mall_tr F1.out (mall_H hf2))
  clear hR hT2 hf2 c8
  go_wp2_with fail
  refine (fat_ev sTable9 n c _).mono ?_
  rintro e w3 ⟨v,rfl,hev,hf3⟩
  have E3:=hid_ hev
  have F3:=hid_ hf3
  clear hev hf3
  go_wp2_with fail
  go_ret
  exact ⟨c,ps',v,rfl,R2.out,E3.out,M2.out.keep F3.out,F2.out.then_none F3.out⟩
theorem memHead_any (h:Mm w m k l x) (h0:0≤k) (h1:k≤100000) (n:Int):Calls Tryz.prog 21 #[.pointer (some ⟨m,0,none⟩),.int .i64 n] w fun e w'=>∃ s g c v,e=.returned (.tuple #[.agg #[.int .i64 s,.int .i64 g],v])∧HeadR x.ps n s g c∧Ev w' v sTable9 n c∧Mm w' m (k+1) l x∧Fr (mall m x) w w':=by
 have H:=hid_ (h.keep ((Fr.refl none_ w).alloc (.cells #[.int .i64 0,.int .i64 0] 48)))
 have hltm:=h.b.lt
 have B0:=hid_ (Blk.new w 48 #[.int .i64 0,.int .i64 0])
 have F0:=hid_ ((Fr.refl none_ w).alloc (.cells #[.int .i64 0,.int .i64 0] 48))
 clear h
 go_enter Tryz.func21,Tryz.ntmps21
 go_wp2_with fail
 refine (tick_mm m k l x _ H.out h0 h1).mono ?_
 rintro e w1 ⟨rfl,hM1,hf1⟩
 have M1:=hid_ hM1
 have nB:¬ mall m x w.heap.size:=H.out.nref B0.out
 have B4:=hid_ (B0.out.fr hf1 nB)
 have F1:=hid_ ((F0.out.mono (fun _ _ e=>e.elim)).trans (S':=mall m x) (S'':=mall m x) hf1 (fun _ _=>id) (fun _ _=>id):Fr (mall m x) w w1)
 clear hM1 hf1 nB
 have c8:w1.cell? ⟨m,8,none⟩=some (.pointer (some ⟨x.T,0,none⟩)):=M1.out.b.cell' rfl
 go_wp2_with fail
 refine (head_any n _ M1.out.tb).mono ?_
 rintro e w2 ⟨s,g,c,rfl,hR,hf2⟩
 have R2:=hid_ hR
 clear hR
 replace M1:=hid_ (M1.out.keep hf2)
 replace F1:=hid_ (F1.out.then_none hf2)
 replace B4:=hid_ (B4.out.fr hf2 id)
 clear hf2 c8
 go_upto_region 5 with fail
 obtain ⟨w3,hw3⟩:∃ z,z=w2.alloc (.cells #[.int .i64 s,.int .i64 g] 48):=⟨_,rfl⟩
 have fw3:Fr none_ w2 w3:=by rw [hw3];exact (Fr.refl none_ w2).alloc _
 have B6:Hid (Blk w3 w2.heap.size 48 (#[.int .i64 s,.int .i64 g])):=hid_ (by rw [hw3];exact Blk.new w2 _ _)
 replace M1:=hid_ (M1.out.keep fw3)
 replace F1:=hid_ (F1.out.then_none fw3)
 replace B4:=hid_ (B4.out.fr fw3 id)
 change Code.wp _ _ _ _ (w2.alloc (.cells #[.int .i64 s,.int .i64 g] 48))
 rw [← hw3]
 clear hw3 fw3
 have x0:w3.cell? ⟨w2.heap.size,0,none⟩=some (.int .i64 s):=B6.out.cell' rfl
 have x1:w3.cell? ⟨w2.heap.size,1,none⟩=some (.int .i64 g):=B6.out.cell' rfl
 have hS1:(fun w':World=>Fr none_ w3 w') w3.drew:=(Fr.refl none_ w3).drew
 refine wp_region_U (m:=4) (S:=fun w':World=>Fr none_ w3 w') (by kernel_rfl) ?_
 refine wpAnyU_take2 (i:=0) (v:=_) rfl (by kernel_rfl) (by kernel_rfl) (by kernel_rfl) (by kernel_rfl) (fun _ _ _ h=>h) (.inl ⟨by kernel_rfl,fun w' hS=>by have s_0:=cellFr x0 hS;have s_1:=cellFr x1 hS;go_simp;rfl⟩) hS1 ?_
 refine wpAnyU_take2 (i:=1) (v:=_) rfl (by kernel_rfl) (by kernel_rfl) (by kernel_rfl) (by kernel_rfl) (fun _ _ _ h=>h) (.inl ⟨by kernel_rfl,fun w' hS=>by go_simp;rfl⟩) hS1 ?_
 refine wpAnyU_take2 (i:=2) (v:=_) rfl (by kernel_rfl) (by kernel_rfl) (by kernel_rfl) (by kernel_rfl) (fun _ _ _ h=>h) (.inl ⟨by kernel_rfl,fun w' hS=>by go_simp;rfl⟩) hS1 ?_
 refine wpAnyU_oneW (i:=3) rfl (by kernel_rfl) (by kernel_rfl) ?_
 go_simp
 refine (fat_ev sTable9 n c _).mono ?_
 rintro e w4 ⟨v,rfl,hev,hf4⟩
 have fS4:=hS1.then_none hf4
 refine ⟨fS4,?_⟩
 have E4:=hid_ hev
 replace M1:=hid_ (M1.out.keep fS4)
 replace F1:=hid_ (F1.out.then_none fS4)
 replace B4:=hid_ (B4.out.fr fS4 id)
 replace B6:=hid_ (B6.out.fr fS4 id)
 have y0:=B4.out.frozen 0
 have y1:=B4.out.frozen 1
 have z0:w4.cell? ⟨w.heap.size,0,none⟩=some (.int .i64 0):=B4.out.cell' rfl
 have z1:w4.cell? ⟨w.heap.size,1,none⟩=some (.int .i64 0):=B4.out.cell' rfl
 clear hS1 x0 x1 hev hf4 fS4
 refine wpAnyU_oneW (i:=4) rfl (by kernel_rfl) (by kernel_rfl) ?_
 go_simp
 clear y0 y1 z0 z1
 obtain ⟨qb,qf⟩:=box2 B4.out (.int .i64 s) (.int .i64 g)
 obtain ⟨w5,hw5⟩:∃ z,z=((w4.setCell ⟨w.heap.size,0,none⟩ (.int .i64 s)).setCell ⟨w.heap.size,1,none⟩ (.int .i64 g)):=⟨_,rfl⟩
 have qb2:Blk w5 w.heap.size 48 #[.int .i64 s,.int .i64 g]:=by rw [hw5];exact qb
 have qf2:Fr (only w.heap.size) w4 w5:=by rw [hw5];exact qf
 rw [← hw5]
 clear hw5 qb qf
 have q0:=qb2.cell' (i:=0) rfl
 have q1:=qb2.cell' (i:=1) rfl
 refine wpAnyU_oneW (i:=5) rfl (by kernel_rfl) (by kernel_rfl) ?_
 go_simp
 refine wpAnyU_done (by kernel_rfl) ?_ _
 go_wp2_with fail
 refine bodyPost_ret (v:=.tuple #[.agg #[.int .i64 s,.int .i64 g],v]) ?_ rfl ⟨s,g,c,v,rfl,R2.out,E4.out.only qf2 B4.out (by decide),M1.out.ref B4.out qf2,F1.out.then_only qf2 (.inr (Nat.le_refl _))⟩
 simp [results,Tryz.results21,go_sem,q0,q1]
set_option maxHeartbeats 2000000 in
theorem memSwap_any (h:Mm w m k l x) (h0:0≤k) (h1:k≤100000) (n a b c d:Int):Calls Tryz.prog 71 #[.pointer (some ⟨m,0,none⟩),.int .i64 n,.agg #[.int .i64 a,.int .i64 b],.agg #[.int .i64 c,.int .i64 d]] w fun e w'=>∃ ok kk ps' v,e=.returned (.tuple #[.bool ok,v])∧SwapR x.ps n a b c d ok kk ps'∧Ev w' v sTable9 n kk∧Mm w' m (k+1) l { x with ps:=ps' }∧Fr (mall m x) w w':=by
 obtain ⟨w0,hw0⟩:∃ z,z=(w.alloc (.cells #[.int .i64 a,.int .i64 b] 48)).alloc (.cells #[.int .i64 c,.int .i64 d] 48):=⟨_,rfl⟩
 have f0:Fr none_ w w0:=by rw [hw0];exact ((Fr.refl none_ w).alloc _).alloc _
 have B0:=hid_ (show Blk w0 w.heap.size 48 #[.int .i64 a,.int .i64 b] by rw [hw0];exact (Blk.new w _ _).alloc _)
 have B1:=hid_ (show Blk w0 (w.heap.size+1) 48 #[.int .i64 c,.int .i64 d] by rw [hw0];have:=Blk.new (w.alloc (.cells #[.int .i64 a,.int .i64 b] 48)) 48 #[.int .i64 c,.int .i64 d];rwa [World.size_alloc] at this)
 have H:=hid_ (h.keep f0)
 have F0:=hid_ f0
 clear h f0
 go_enter Tryz.func71,Tryz.ntmps71
 go_upto_region 1 with fail
 change Code.wp _ _ _ _ ((w.alloc (.cells #[.int .i64 a,.int .i64 b] 48)).alloc (.cells #[.int .i64 c,.int .i64 d] 48))
 rw [← hw0]
 clear hw0
 go_wp2_with fail
 refine (tick_mm m k l x _ H.out h0 h1).mono ?_
 rintro e w1 ⟨rfl,hM1,hf1⟩
 have M1:=hid_ hM1
 have B4:=hid_ (B0.out.fr hf1 (H.out.nref B0.out))
 have B5:=hid_ (B1.out.fr hf1 (H.out.nref B1.out))
 have F1:=hid_ ((F0.out.mono (fun _ _ e=>e.elim)).trans (S':=mall m x) (S'':=mall m x) hf1 (fun _ _=>id) (fun _ _=>id):Fr (mall m x) w w1)
 clear hM1 hf1
 have c8:w1.cell? ⟨m,8,none⟩=some (.pointer (some ⟨x.T,0,none⟩)):=M1.out.b.cell' rfl
 have x0:w1.cell? ⟨w.heap.size,0,none⟩=some (.int .i64 a):=B4.out.cell' rfl
 have x1:w1.cell? ⟨w.heap.size,1,none⟩=some (.int .i64 b):=B4.out.cell' rfl
 have y0:w1.cell? ⟨w.heap.size+1,0,none⟩=some (.int .i64 c):=B5.out.cell' rfl
 have y1:w1.cell? ⟨w.heap.size+1,1,none⟩=some (.int .i64 d):=B5.out.cell' rfl
 have nH:¬ only x.H m∧¬ only x.H w.heap.size∧¬ only x.H (w.heap.size+1):=by
  obtain ⟨cap,cur,hT0,hH,_⟩:=id M1.out.tb
  exact ⟨only_ne (Blk.ne_ M1.out.b hH (by decide)),only_ne (Blk.ne_ B4.out hH (by decide)),only_ne (Blk.ne_ B5.out hH (by decide))⟩
 go_upto_region 4 with fail
 have hS1:(fun w':World=>Fr (only x.H) w1 w') w1.drew:=(Fr.refl _ w1).drew
 refine wp_region_U (m:=13) (S:=fun w':World=>Fr (only x.H) w1 w') (by kernel_rfl) ?_
 refine wpAnyU_take2 (i:=0) (v:=_) rfl (by kernel_rfl) (by kernel_rfl) (by kernel_rfl) (by kernel_rfl) (fun _ _ _ h=>h) (.inl ⟨by kernel_rfl,fun w' hS=>by go_simp;rfl⟩) hS1 ?_
 refine wpAnyU_take2 (i:=1) (v:=_) rfl (by kernel_rfl) (by kernel_rfl) (by kernel_rfl) (by kernel_rfl) (fun _ _ _ h=>h) (.inl ⟨by kernel_rfl,fun w' hS=>by go_simp;rfl⟩) hS1 ?_
 refine wpAnyU_take2 (i:=2) (v:=_) rfl (by kernel_rfl) (by kernel_rfl) (by kernel_rfl) (by kernel_rfl) (fun _ _ _ h=>h) (.inl ⟨by kernel_rfl,fun w' hS=>by go_simp;rfl⟩) hS1 ?_
 refine wpAnyU_take2 (i:=3) (v:=_) rfl (by kernel_rfl) (by kernel_rfl) (by kernel_rfl) (by kernel_rfl) (fun _ _ _ h=>h) (.inl ⟨by kernel_rfl,fun w' hS=>by have s_:=cellFrS c8 hS nH.1;go_simp;rfl⟩) hS1 ?_
 refine wpAnyU_take2 (i:=4) (v:=_) rfl (by kernel_rfl) (by kernel_rfl) (by kernel_rfl) (by kernel_rfl) (fun _ _ _ h=>h) (.inl ⟨by kernel_rfl,fun w' hS=>by go_simp;rfl⟩) hS1 ?_
 refine wpAnyU_take2 (i:=5) (v:=_) rfl (by kernel_rfl) (by kernel_rfl) (by kernel_rfl) (by kernel_rfl) (fun _ _ _ h=>h) (.inl ⟨by kernel_rfl,fun w' hS=>by have s_0:=cellFrS x0 hS nH.2.1;have s_1:=cellFrS x1 hS nH.2.1;go_simp;rfl⟩) hS1 ?_
 refine wpAnyU_take2 (i:=6) (v:=_) rfl (by kernel_rfl) (by kernel_rfl) (by kernel_rfl) (by kernel_rfl) (fun _ _ _ h=>h) (.inl ⟨by kernel_rfl,fun w' hS=>by have s_0:=cellFrS y0 hS nH.2.2;have s_1:=cellFrS y1 hS nH.2.2;go_simp;rfl⟩) hS1 ?_
 clear c8 x0 x1 y0 y1
 refine wpAnyU_oneW (i:=7) rfl (by kernel_rfl) (by kernel_rfl) ?_
 go_simp
 refine (swap_any n a b c d _ (M1.out.tb.keep (Fr.refl none_ w1).drew)).mono ?_
 rintro e w2 ⟨ok,kk,ps',rfl,hR,hT2,hf2⟩
 have R2:=hid_ hR
 have M2:=hid_ ((M1.out.keep (Fr.refl none_ w1).drew).tbPut hT2 hf2)
 have fS:Fr (only x.H) w1 w2:=(Fr.refl (only x.H) w1).drew.then_only hf2 (.inl (Eq.refl _))
 have F2:=hid_ (mall_tr F1.out (mall_H fS))
 refine ⟨fS,?_⟩
 clear hT2 hf2 hS1 hR
 refine wpAnyU_take2 (i:=8) (v:=_) rfl (by kernel_rfl) (by kernel_rfl) (by kernel_rfl) (by kernel_rfl) (fun _ _ _ h=>h) (.inl ⟨by kernel_rfl,fun w' hS=>by go_simp;rfl⟩) fS ?_
 refine wpAnyU_take2 (i:=9) (v:=_) rfl (by kernel_rfl) (by kernel_rfl) (by kernel_rfl) (by kernel_rfl) (fun _ _ _ h=>h) (.inl ⟨by kernel_rfl,fun w' hS=>by go_simp;rfl⟩) fS ?_
 refine wpAnyU_take2 (i:=10) (v:=_) rfl (by kernel_rfl) (by kernel_rfl) (by kernel_rfl) (by kernel_rfl) (fun _ _ _ h=>h) (.inl ⟨by kernel_rfl,fun w' hS=>by go_simp;rfl⟩) fS ?_
 refine wpAnyU_take2 (i:=11) (v:=_) rfl (by kernel_rfl) (by kernel_rfl) (by kernel_rfl) (by kernel_rfl) (fun _ _ _ h=>h) (.inl ⟨by kernel_rfl,fun w' hS=>by go_simp;rfl⟩) fS ?_
 refine wpAnyU_take2 (i:=12) (v:=_) rfl (by kernel_rfl) (by kernel_rfl) (by kernel_rfl) (by kernel_rfl) (fun _ _ _ h=>h) (.inl ⟨by kernel_rfl,fun w' hS=>by go_simp;rfl⟩) fS ?_
 refine wpAnyU_done (by kernel_rfl) ?_ _
 go_wp2_with fail
 refine (fat_ev sTable9 n kk _).mono ?_
 rintro e w3 ⟨v,rfl,hev,hf3⟩
 have E3:=hid_ hev
 have F3:=hid_ hf3
 clear hev hf3
 go_wp2_with fail
 go_ret2
 exact ⟨ok,kk,ps',v,rfl,R2.out,E3.out,M2.out.keep F3.out,F2.out.then_none F3.out⟩
set_option maxHeartbeats 4000000 in
theorem memAlloc_any (h:Mm w m k l x) (h0:0≤k) (h1:k≤100000) (R:Rc) (A:Option Addr) (c:Nat) (B:Option Addr) (d:Nat) (hr:∀ w',Fr (only m) w w'→RecReads w' R A B) (hz:R.rows.length≤1000∧R.ents.length≤1000) :
  Calls Tryz.prog 86 #[.pointer (some ⟨m,0,none⟩),recV R (.slice A R.rows.length c) (.slice B R.ents.length d)] w fun e w'=>∃ sl gn kk ss' v,e=.returned (.tuple #[.agg #[.int .i64 sl,.int .i64 gn],v])∧AllocR l.n x.ss R sl gn kk ss'∧Ev w' v sArena9 0 kk∧Mm w' m (k+1) l { x with ss:=ss' }∧Fr (mall m x) w w':=by
 obtain ⟨w0,hw0⟩:∃ z,z=(w.alloc (recB R (.slice A R.rows.length c) (.slice B R.ents.length d))).alloc (.cells #[.int .i64 0,.int .i64 0] 48):=⟨_,rfl⟩
 have f0:Fr none_ w w0:=by rw [hw0];exact ((Fr.refl none_ w).alloc _).alloc _
 have B0:=hid_ (show Blk w0 w.heap.size 55 (recA R (.slice A R.rows.length c) (.slice B R.ents.length d)) by rw [hw0];exact (Blk.new w _ _).alloc _)
 have B1:=hid_ (show Blk w0 (w.heap.size+1) 48 #[.int .i64 0,.int .i64 0] by rw [hw0];have:=Blk.new (w.alloc (recB R (.slice A R.rows.length c) (.slice B R.ents.length d))) 48 #[.int .i64 0,.int .i64 0];rwa [World.size_alloc] at this)
 have H:=hid_ (h.keep f0)
 have F0:=hid_ f0
 have HR:=hid_ hr
 clear h f0 hr
 go_enter Tryz.func86,Tryz.ntmps86
 go_upto_region 1 with fail
 change Code.wp _ _ _ _ ((w.alloc (recB R (.slice A R.rows.length c) (.slice B R.ents.length d))).alloc (.cells #[.int .i64 0,.int .i64 0] 48))
 rw [← hw0]
 clear hw0
 go_wp2_with fail
 refine (tick_mo m k l x _ H.out h0 h1).mono ?_
 rintro e w1 ⟨rfl,hM1,hf1⟩
 have M1:=hid_ hM1
 have B4:=hid_ (B0.out.fr hf1 (only_ne (Blk.ne_ B0.out H.out.b (by decide))))
 have B5:=hid_ (B1.out.fr hf1 (only_ne (Blk.ne_ B1.out H.out.b (by decide))))
 have FO:Hid (Fr (only m) w w1):=hid_ ((F0.out.mono (fun _ _ e=>e.elim)).trans (S':=only m) (S'':=only m) hf1 (fun _ _=>id) (fun _ _=>id))
 have F1:Hid (Fr (mall m x) w w1):=hid_ (mall_m FO.out)
 have RD:=hid_ (HR.out w1 FO.out)
 have hszw:=FO.out.size
 clear hM1 hf1
 have c7:w1.cell? ⟨m,7,none⟩=some (.pointer (some ⟨x.a,0,none⟩)):=M1.out.b.cell' rfl
 have nG:¬ only x.G m∧¬ only x.G w.heap.size∧¬ only x.G (w.heap.size+1):=⟨only_ne (M1.out.ar.gne M1.out.b (by decide)),only_ne (M1.out.ar.gne B4.out (by decide)),only_ne (M1.out.ar.gne B5.out (by decide))⟩
 go_upto_region 4 with fail
 go_cut [6,7] (fun u v wq=>∃ (b:Nat) (sl gn kk:Int) (ss':List Sl),u=.pointer (some ⟨b,0,none⟩)∧v=errOf kk∧w1.heap.size≤b∧Blk wq b 48 #[.int .i64 sl,.int .i64 gn]∧AllocR l.n x.ss R sl gn kk ss'∧Mm wq m (k+1) l { x with ss:=ss' }∧Fr (only x.G) w1 wq)
 case first =>
  have hS1:(fun w':World=>Fr (only x.G) w1 w') w1.drew:=(Fr.refl _ w1).drew
  refine wp_region_U (m:=12) (S:=fun w':World=>Fr (only x.G) w1 w') (by kernel_rfl) ?_
  refine wpAnyU_take2 (i:=0) (v:=_) rfl (by kernel_rfl) (by kernel_rfl) (by kernel_rfl) (by kernel_rfl) (fun _ _ _ h=>h) (.inl ⟨by kernel_rfl,fun w' hS=>by go_simp;rfl⟩) hS1 ?_
  refine wpAnyU_take2 (i:=1) (v:=_) rfl (by kernel_rfl) (by kernel_rfl) (by kernel_rfl) (by kernel_rfl) (fun _ _ _ h=>h) (.inl ⟨by kernel_rfl,fun w' hS=>by go_simp;rfl⟩) hS1 ?_
  refine wpAnyU_take2 (i:=2) (v:=_) rfl (by kernel_rfl) (by kernel_rfl) (by kernel_rfl) (by kernel_rfl) (fun _ _ _ h=>h) (.inl ⟨by kernel_rfl,fun w' hS=>by go_simp;rfl⟩) hS1 ?_
  refine wpAnyU_take2 (i:=3) (v:=_) rfl (by kernel_rfl) (by kernel_rfl) (by kernel_rfl) (by kernel_rfl) (fun _ _ _ h=>h) (.inl ⟨by kernel_rfl,fun w' hS=>by have s_:=cellFrS c7 hS nG.1;go_simp;rfl⟩) hS1 ?_
  refine wpAnyU_take2 (i:=4) (v:=_) rfl (by kernel_rfl) (by kernel_rfl) (by kernel_rfl) (by kernel_rfl) (fun _ _ _ h=>h) (.inl ⟨by kernel_rfl,fun w' hS=>by have s_0:w'.cell? ⟨w.heap.size,0,none⟩=some (.int .i64 R.kind):=cellFrS (B4.out.cell' rfl) hS nG.2.1;have s_1:w'.cell? ⟨w.heap.size,1,none⟩=some (.string R.low):=cellFrS (B4.out.cell' rfl) hS nG.2.1;have s_2:w'.cell? ⟨w.heap.size,2,none⟩=some (.string R.high):=cellFrS (B4.out.cell' rfl) hS nG.2.1;have s_3:w'.cell? ⟨w.heap.size,3,none⟩=some (.bool R.unb):=cellFrS (B4.out.cell' rfl) hS nG.2.1;have s_4:w'.cell? ⟨w.heap.size,4,none⟩=some (.int .i64 R.right):=cellFrS (B4.out.cell' rfl) hS nG.2.1;have s_5:w'.cell? ⟨w.heap.size,5,none⟩=some (.slice A R.rows.length c):=cellFrS (B4.out.cell' rfl) hS nG.2.1;have s_6:w'.cell? ⟨w.heap.size,6,none⟩=some (.slice B R.ents.length d):=cellFrS (B4.out.cell' rfl) hS nG.2.1;have s_7:w'.cell? ⟨w.heap.size,7,none⟩=some (.string R.key):=cellFrS (B4.out.cell' rfl) hS nG.2.1;have s_8:w'.cell? ⟨w.heap.size,8,none⟩=some (.string R.val):=cellFrS (B4.out.cell' rfl) hS nG.2.1;have s_9:w'.cell? ⟨w.heap.size,9,none⟩=some (.int .i64 R.page):=cellFrS (B4.out.cell' rfl) hS nG.2.1;have s_10:w'.cell? ⟨w.heap.size,10,none⟩=some (.int .i64 R.hpage):=cellFrS (B4.out.cell' rfl) hS nG.2.1;have s_11:w'.cell? ⟨w.heap.size,11,none⟩=some (.int .i64 R.hleft):=cellFrS (B4.out.cell' rfl) hS nG.2.1;have s_12:w'.cell? ⟨w.heap.size,12,none⟩=some (.string R.hkey):=cellFrS (B4.out.cell' rfl) hS nG.2.1;have s_13:w'.cell? ⟨w.heap.size,13,none⟩=some (.int .i64 R.nslot):=cellFrS (B4.out.cell' rfl) hS nG.2.1;have s_14:w'.cell? ⟨w.heap.size,14,none⟩=some (.int .i64 R.ngen):=cellFrS (B4.out.cell' rfl) hS nG.2.1;go_simp;rfl⟩) hS1 ?_
  clear c7
  refine wpAnyU_two (i:=5) (j:=9) rfl rfl rfl rfl (by kernel_rfl) ?_ ?_
  ·go_simp
   refine (alloc_any R A c B d (M1.out.ar.keep ((Fr.refl none_ w1).drew)) (RD.out.keep ((Fr.refl none_ w1).drew)) hz).mono ?_
   rintro e w3 ⟨sl,gn,kk,ss',rfl,hR,hA3,hf3⟩
   have R3:=hid_ hR
   have M3:=hid_ ((M1.out.keep ((Fr.refl none_ w1).drew)).arPut hA3 hf3)
   have fS:Fr (only x.G) w1 w3:=((Fr.refl (only x.G) w1).then_none ((Fr.refl none_ w1).drew)).then_only hf3 (.inl (Eq.refl _))
   refine ⟨fS,?_⟩
   clear hR hA3 hf3 hS1
   have hb:w1.heap.size≤w3.heap.size:=fS.size
   refine wpAnyU_take2 (i:=6) (v:=_) rfl (by kernel_rfl) (by kernel_rfl) (by kernel_rfl) (by kernel_rfl) (fun _ _ _ h=>h) (.inl ⟨by kernel_rfl,fun w' hS=>by go_simp;rfl⟩) fS ?_
   refine wpAnyU_take2 (i:=7) (v:=_) rfl (by kernel_rfl) (by kernel_rfl) (by kernel_rfl) (by kernel_rfl) (fun _ _ _ h=>h) (.inl ⟨by kernel_rfl,fun w' hS=>by go_simp;rfl⟩) fS ?_
   refine wpAnyU_take2 (i:=8) (v:=_) rfl (by kernel_rfl) (by kernel_rfl) (by kernel_rfl) (by kernel_rfl) (fun _ _ _ h=>h) (.inl ⟨by kernel_rfl,fun w' hS=>by go_simp;rfl⟩) fS ?_
   refine wpAnyU_oneW (i:=9) rfl (by kernel_rfl) (by kernel_rfl) ?_
   go_simp
   refine ⟨fS.alloc _,?_⟩
   obtain ⟨w4,hw4⟩:∃ z,z=w3.alloc (.cells #[.int .i64 0,.int .i64 0] 48):=⟨_,rfl⟩
   have f4:Fr none_ w3 w4:=by rw [hw4];exact (Fr.refl none_ w3).alloc _
   have BA:=hid_ (show Blk w4 w3.heap.size 48 #[.int .i64 0,.int .i64 0] by rw [hw4];exact Blk.new w3 _ _)
   replace M3:=hid_ (M3.out.keep f4)
   replace fS:=fS.then_none f4
   rw [← hw4]
   clear hw4 f4
   have y0:=BA.out.frozen 0
   have y1:=BA.out.frozen 1
   have z0:w4.cell? ⟨w3.heap.size,0,none⟩=some (.int .i64 0):=BA.out.cell' rfl
   have z1:w4.cell? ⟨w3.heap.size,1,none⟩=some (.int .i64 0):=BA.out.cell' rfl
   refine wpAnyU_oneW (i:=10) rfl (by kernel_rfl) (by kernel_rfl) ?_
   go_simp
   clear y0 y1 z0 z1
   obtain ⟨qb,qf⟩:=box2 BA.out (.int .i64 sl) (.int .i64 gn)
   obtain ⟨w5,hw5⟩:∃ z,z=(w4.setCell ⟨w3.heap.size,0,none⟩ (.int .i64 sl)).setCell ⟨w3.heap.size,1,none⟩ (.int .i64 gn):=⟨_,rfl⟩
   rw [← hw5] at qb qf
   rw [← hw5]
   have fS5:=fS.then_only qf (.inr hb)
   refine ⟨fS5,?_⟩
   have M5:=hid_ (M3.out.ref BA.out qf)
   have Q5:=hid_ qb
   clear hw5 qb qf
   refine wpAnyU_take2 (i:=11) (v:=_) rfl (by kernel_rfl) (by kernel_rfl) (by kernel_rfl) (by kernel_rfl) (fun _ _ _ h=>h) (.inl ⟨by kernel_rfl,fun w' hS=>by go_simp;rfl⟩) fS5 ?_
   refine wpAnyU_done (by kernel_rfl) ?_ _
   go_wp2_with fail
   go_meet
   exact ⟨_,sl,gn,kk,ss',rfl,rfl,hb,Q5.out,R3.out,M5.out,fS5⟩
  ·go_simp
   refine ⟨((Fr.refl (only x.G) w1).alloc _).drew,?_⟩
   obtain ⟨w2,hw2⟩:∃ z,z=(w1.alloc (.cells #[.int .i64 0,.int .i64 0] 48)).drew:=⟨_,rfl⟩
   have f2:Fr none_ w1 w2:=by rw [hw2];exact ((Fr.refl none_ w1).alloc _).drew
   have BA:=hid_ (show Blk w2 w1.heap.size 48 #[.int .i64 0,.int .i64 0] by rw [hw2];exact (Blk.new w1 _ _).drew)
   rw [← hw2]
   clear hw2 hS1
   refine wpAnyU_oneW (i:=5) rfl (by kernel_rfl) (by kernel_rfl) ?_
   go_simp
   refine (alloc_any R A c B d (M1.out.ar.keep (f2)) (RD.out.keep (f2)) hz).mono ?_
   rintro e w3 ⟨sl,gn,kk,ss',rfl,hR,hA3,hf3⟩
   have R3:=hid_ hR
   have M3:=hid_ ((M1.out.keep (f2)).arPut hA3 hf3)
   have fS:Fr (only x.G) w1 w3:=((Fr.refl (only x.G) w1).then_none (f2)).then_only hf3 (.inl (Eq.refl _))
   refine ⟨fS,?_⟩
   have hb:w1.heap.size≤w1.heap.size:=Nat.le_refl _
   replace BA:=hid_ (BA.out.fr hf3 (only_ne ((M1.out.ar.keep f2).gne BA.out (by decide))))
   clear hR hA3 hf3 f2
   refine wpAnyU_take2 (i:=6) (v:=_) rfl (by kernel_rfl) (by kernel_rfl) (by kernel_rfl) (by kernel_rfl) (fun _ _ _ h=>h) (.inl ⟨by kernel_rfl,fun w' hS=>by go_simp;rfl⟩) fS ?_
   refine wpAnyU_take2 (i:=7) (v:=_) rfl (by kernel_rfl) (by kernel_rfl) (by kernel_rfl) (by kernel_rfl) (fun _ _ _ h=>h) (.inl ⟨by kernel_rfl,fun w' hS=>by go_simp;rfl⟩) fS ?_
   refine wpAnyU_take2 (i:=8) (v:=_) rfl (by kernel_rfl) (by kernel_rfl) (by kernel_rfl) (by kernel_rfl) (fun _ _ _ h=>h) (.inl ⟨by kernel_rfl,fun w' hS=>by go_simp;rfl⟩) fS ?_
   have y0:=BA.out.frozen 0
   have y1:=BA.out.frozen 1
   have z0:w3.cell? ⟨w1.heap.size,0,none⟩=some (.int .i64 0):=BA.out.cell' rfl
   have z1:w3.cell? ⟨w1.heap.size,1,none⟩=some (.int .i64 0):=BA.out.cell' rfl
   refine wpAnyU_oneW (i:=10) rfl (by kernel_rfl) (by kernel_rfl) ?_
   go_simp
   clear y0 y1 z0 z1
   obtain ⟨qb,qf⟩:=box2 BA.out (.int .i64 sl) (.int .i64 gn)
   obtain ⟨w5,hw5⟩:∃ z,z=(w3.setCell ⟨w1.heap.size,0,none⟩ (.int .i64 sl)).setCell ⟨w1.heap.size,1,none⟩ (.int .i64 gn):=⟨_,rfl⟩
   rw [← hw5] at qb qf
   rw [← hw5]
   have fS5:=fS.then_only qf (.inr hb)
   refine ⟨fS5,?_⟩
   have M5:=hid_ (M3.out.ref BA.out qf)
   have Q5:=hid_ qb
   clear hw5 qb qf
   refine wpAnyU_take2 (i:=11) (v:=_) rfl (by kernel_rfl) (by kernel_rfl) (by kernel_rfl) (by kernel_rfl) (fun _ _ _ h=>h) (.inl ⟨by kernel_rfl,fun w' hS=>by go_simp;rfl⟩) fS5 ?_
   refine wpAnyU_done (by kernel_rfl) ?_ _
   go_wp2_with fail
   go_meet
   exact ⟨_,sl,gn,kk,ss',rfl,rfl,hb,Q5.out,R3.out,M5.out,fS5⟩
 case rest =>
  obtain ⟨b,sl,gn,kk,ss',rfl,rfl,hb,hbb,hR,hM,hf⟩:=hcut
  have M6:=hid_ hM
  have R6:=hid_ hR
  have B6:=hid_ hbb
  have F6:=hid_ (mall_tr F1.out (mall_G hf))
  have B7:=hid_ (B5.out.fr hf nG.2.2)
  clear hM hR hbb hf nG
  go_upto_region 5 with fail
  have x0:wc.cell? ⟨b,0,none⟩=some (.int .i64 sl):=B6.out.cell' rfl
  have x1:wc.cell? ⟨b,1,none⟩=some (.int .i64 gn):=B6.out.cell' rfl
  have hS1:(fun w':World=>Fr none_ wc w') wc.drew:=(Fr.refl none_ wc).drew
  refine wp_region_U (m:=3) (S:=fun w':World=>Fr none_ wc w') (by kernel_rfl) ?_
  refine wpAnyU_take2 (i:=0) (v:=_) rfl (by kernel_rfl) (by kernel_rfl) (by kernel_rfl) (by kernel_rfl) (fun _ _ _ h=>h) (.inl ⟨by kernel_rfl,fun w' hS=>by have s_0:=cellFr x0 hS;have s_1:=cellFr x1 hS;go_simp;rfl⟩) hS1 ?_
  refine wpAnyU_take2 (i:=1) (v:=_) rfl (by kernel_rfl) (by kernel_rfl) (by kernel_rfl) (by kernel_rfl) (fun _ _ _ h=>h) (.inl ⟨by kernel_rfl,fun w' hS=>by go_simp;rfl⟩) hS1 ?_
  refine wpAnyU_oneW (i:=2) rfl (by kernel_rfl) (by kernel_rfl) ?_
  go_simp
  refine (fat_ev sArena9 0 kk _).mono ?_
  rintro e w4 ⟨v,rfl,hev,hf4⟩
  have fS4:=hS1.then_none hf4
  refine ⟨fS4,?_⟩
  have E4:=hid_ hev
  replace M6:=hid_ (M6.out.keep fS4)
  replace F6:=hid_ (F6.out.then_none fS4)
  replace B7:=hid_ (B7.out.fr fS4 id)
  have y0:=B7.out.frozen 0
  have y1:=B7.out.frozen 1
  have z0:w4.cell? ⟨w.heap.size+1,0,none⟩=some (.int .i64 0):=B7.out.cell' rfl
  have z1:w4.cell? ⟨w.heap.size+1,1,none⟩=some (.int .i64 0):=B7.out.cell' rfl
  clear hS1 x0 x1 hev hf4 fS4
  refine wpAnyU_oneW (i:=3) rfl (by kernel_rfl) (by kernel_rfl) ?_
  go_simp
  clear y0 y1 z0 z1
  obtain ⟨qb,qf⟩:=box2 B7.out (.int .i64 sl) (.int .i64 gn)
  obtain ⟨w5,hw5⟩:∃ z,z=((w4.setCell ⟨w.heap.size+1,0,none⟩ (.int .i64 sl)).setCell ⟨w.heap.size+1,1,none⟩ (.int .i64 gn)):=⟨_,rfl⟩
  have qb2:Blk w5 (w.heap.size+1) 48 #[.int .i64 sl,.int .i64 gn]:=by rw [hw5];exact qb
  have qf2:Fr (only (w.heap.size+1)) w4 w5:=by rw [hw5];exact qf
  rw [← hw5]
  clear hw5 qb qf
  have q0:=qb2.cell' (i:=0) rfl
  have q1:=qb2.cell' (i:=1) rfl
  refine wpAnyU_oneW (i:=4) rfl (by kernel_rfl) (by kernel_rfl) ?_
  go_simp
  refine wpAnyU_done (by kernel_rfl) ?_ _
  go_wp2_with fail
  refine bodyPost_ret (v:=.tuple #[.agg #[.int .i64 sl,.int .i64 gn],v]) ?_ rfl ⟨sl,gn,kk,ss',v,rfl,R6.out,E4.out.only qf2 B7.out (by decide),M6.out.ref B7.out qf2,F6.out.then_only qf2 (.inr (by omega))⟩
  simp [results,Tryz.results86,go_sem,q0,q1]
set_option maxHeartbeats 2000000 in
theorem memFree_any (h:Mm w m k l x) (h0:0≤k) (h1:k≤100000) (sl gn:Int):Calls Tryz.prog 40 #[.pointer (some ⟨m,0,none⟩),.agg #[.int .i64 sl,.int .i64 gn]] w fun e w'=>∃ c ss' v,e=.returned v∧FreeR x.ss sl gn c ss'∧Ev w' v sArena9 sl c∧Mm w' m (k+1) l { x with ss:=ss' }∧Fr (mall m x) w w':=by
 obtain ⟨w0,hw0⟩:∃ z,z=w.alloc (.cells #[.int .i64 sl,.int .i64 gn] 48):=⟨_,rfl⟩
 have f0:Fr none_ w w0:=by rw [hw0];exact (Fr.refl none_ w).alloc _
 have B0:=hid_ (show Blk w0 w.heap.size 48 #[.int .i64 sl,.int .i64 gn] by rw [hw0];exact Blk.new w _ _)
 have H:=hid_ (h.keep f0)
 have F0:=hid_ f0
 clear h f0
 go_enter Tryz.func40,Tryz.ntmps40
 go_upto_region 1 with fail
 change Code.wp _ _ _ _ (w.alloc (.cells #[.int .i64 sl,.int .i64 gn] 48))
 rw [← hw0]
 clear hw0
 go_wp2_with fail
 refine (tick_mm m k l x _ H.out h0 h1).mono ?_
 rintro e w1 ⟨rfl,hM1,hf1⟩
 have M1:=hid_ hM1
 have B4:=hid_ (B0.out.fr hf1 (H.out.nref B0.out))
 have F1:=hid_ ((F0.out.mono (fun _ _ e=>e.elim)).trans (S':=mall m x) (S'':=mall m x) hf1 (fun _ _=>id) (fun _ _=>id):Fr (mall m x) w w1)
 clear hM1 hf1
 have c7:w1.cell? ⟨m,7,none⟩=some (.pointer (some ⟨x.a,0,none⟩)):=M1.out.b.cell' rfl
 have x0:w1.cell? ⟨w.heap.size,0,none⟩=some (.int .i64 sl):=B4.out.cell' rfl
 have x1:w1.cell? ⟨w.heap.size,1,none⟩=some (.int .i64 gn):=B4.out.cell' rfl
 have nG:¬ only x.G m∧¬ only x.G w.heap.size:=⟨only_ne (M1.out.ar.gne M1.out.b (by decide)),only_ne (M1.out.ar.gne B4.out (by decide))⟩
 go_upto_region 4 with fail
 have hS1:(fun w':World=>Fr (only x.G) w1 w') w1.drew:=(Fr.refl _ w1).drew
 refine wp_region_U (m:=10) (S:=fun w':World=>Fr (only x.G) w1 w') (by kernel_rfl) ?_
 refine wpAnyU_take2 (i:=0) (v:=_) rfl (by kernel_rfl) (by kernel_rfl) (by kernel_rfl) (by kernel_rfl) (fun _ _ _ h=>h) (.inl ⟨by kernel_rfl,fun w' hS=>by go_simp;rfl⟩) hS1 ?_
 refine wpAnyU_take2 (i:=1) (v:=_) rfl (by kernel_rfl) (by kernel_rfl) (by kernel_rfl) (by kernel_rfl) (fun _ _ _ h=>h) (.inl ⟨by kernel_rfl,fun w' hS=>by have s_:=cellFrS x0 hS nG.2;go_simp;rfl⟩) hS1 ?_
 refine wpAnyU_take2 (i:=2) (v:=_) rfl (by kernel_rfl) (by kernel_rfl) (by kernel_rfl) (by kernel_rfl) (fun _ _ _ h=>h) (.inl ⟨by kernel_rfl,fun w' hS=>by go_simp;rfl⟩) hS1 ?_
 refine wpAnyU_take2 (i:=3) (v:=_) rfl (by kernel_rfl) (by kernel_rfl) (by kernel_rfl) (by kernel_rfl) (fun _ _ _ h=>h) (.inl ⟨by kernel_rfl,fun w' hS=>by go_simp;rfl⟩) hS1 ?_
 refine wpAnyU_take2 (i:=4) (v:=_) rfl (by kernel_rfl) (by kernel_rfl) (by kernel_rfl) (by kernel_rfl) (fun _ _ _ h=>h) (.inl ⟨by kernel_rfl,fun w' hS=>by go_simp;rfl⟩) hS1 ?_
 refine wpAnyU_take2 (i:=5) (v:=_) rfl (by kernel_rfl) (by kernel_rfl) (by kernel_rfl) (by kernel_rfl) (fun _ _ _ h=>h) (.inl ⟨by kernel_rfl,fun w' hS=>by have s_:=cellFrS c7 hS nG.1;go_simp;rfl⟩) hS1 ?_
 refine wpAnyU_take2 (i:=6) (v:=_) rfl (by kernel_rfl) (by kernel_rfl) (by kernel_rfl) (by kernel_rfl) (fun _ _ _ h=>h) (.inl ⟨by kernel_rfl,fun w' hS=>by have s_0:=cellFrS x0 hS nG.2;have s_1:=cellFrS x1 hS nG.2;go_simp;rfl⟩) hS1 ?_
 clear c7 x0 x1
 refine wpAnyU_oneW (i:=7) rfl (by kernel_rfl) (by kernel_rfl) ?_
 go_simp
 refine (free_any sl gn (M1.out.ar.keep (Fr.refl none_ w1).drew)).mono ?_
 rintro e w2 ⟨c,ss',rfl,hR,hA2,hf2⟩
 have R2:=hid_ hR
 have M2:=hid_ ((M1.out.keep (Fr.refl none_ w1).drew).arPut hA2 hf2)
 have fS:Fr (only x.G) w1 w2:=(Fr.refl (only x.G) w1).drew.then_only hf2 (.inl (Eq.refl _))
 have F2:=hid_ (mall_tr F1.out (mall_G fS))
 refine ⟨fS,?_⟩
 clear hR hA2 hf2 hS1
 refine wpAnyU_oneW (i:=8) rfl (by kernel_rfl) (by kernel_rfl) ?_
 go_simp
 refine (fat_ev sArena9 sl c _).mono ?_
 rintro e w3 ⟨v,rfl,hev,hf3⟩
 have fS3:=fS.then_none hf3
 have E3:=hid_ hev
 have F3:=hid_ hf3
 clear hev hf3
 refine ⟨fS3,?_⟩
 refine wpAnyU_take2 (i:=9) (v:=_) rfl (by kernel_rfl) (by kernel_rfl) (by kernel_rfl) (by kernel_rfl) (fun _ _ _ h=>h) (.inl ⟨by kernel_rfl,fun w' hS=>by go_simp;rfl⟩) fS3 ?_
 refine wpAnyU_done (by kernel_rfl) ?_ _
 go_wp2_with fail
 go_ret
 exact ⟨c,ss',v,rfl,R2.out,E3.out,M2.out.keep F3.out,F2.out.then_none F3.out⟩
end
end Go.Proofs.YthcpccddcgbanaaGreatDoor
