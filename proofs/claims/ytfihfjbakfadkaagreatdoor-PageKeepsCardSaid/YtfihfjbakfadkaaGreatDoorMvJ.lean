/- Texts of one proof, merged: LdrB10. -/
import Derived.Test.YtfihfjbakfadkaaGreatDoorMvI
namespace Go.Proofs.YtfihfjbakfadkaaGreatDoor
open Go.RowKit Go.BigFrame
set_option maxRecDepth 100000
set_option linter.unusedVariables false

theorem lim_size9:(Tryz.prog.info? 67).map (·.size)=some 6:=by kernel_rfl
theorem memLimits_ok {m:Nat} {k:Int} {l:Lm} {x:St} (w:World) (h:Mm w m k l x):Calls Tryz.prog 63 #[.pointer (some ⟨m,0,none⟩)] w fun e w'=>e=.returned (.agg (lmA l))∧Fr none_ w w':=by
  obtain ⟨w0,hw0⟩:∃ z,z=w.alloc (.cells #[.int .i64 0,.int .i64 0,.int .i64 0,.int .i64 0,.int .i64 0,.int .i64 0] 67):=⟨_,rfl⟩
  have f0:Fr none_ w w0:=by rw [hw0];exact (Fr.refl none_ w).alloc _
  have BZ:Hid (Blk w0 w.heap.size 67 #[.int .i64 0,.int .i64 0,.int .i64 0,.int .i64 0,.int .i64 0,.int .i64 0]):=hid_ (by rw [hw0];exact Blk.new w _ _)
  have h2:=h.b.fr f0 id
  have F0:=hid_ f0
  have c1:w0.cell? ⟨m,1,none⟩=some (.int .i64 (l.s:Int)):=h2.cell' rfl
  have c2:w0.cell? ⟨m,2,none⟩=some (.int .i64 (l.p:Int)):=h2.cell' rfl
  have c3:w0.cell? ⟨m,3,none⟩=some (.int .i64 l.t):=h2.cell' rfl
  have c4:w0.cell? ⟨m,4,none⟩=some (.int .i64 l.r):=h2.cell' rfl
  have c5:w0.cell? ⟨m,5,none⟩=some (.int .i64 l.c):=h2.cell' rfl
  have c6:w0.cell? ⟨m,6,none⟩=some (.int .i64 l.n):=h2.cell' rfl
  clear h h2 f0
  go_enter Tryz.func63,Tryz.ntmps63
  go_upto_region 1 with fail
  change Code.wp _ _ _ _ (w.alloc (.cells #[.int .i64 0,.int .i64 0,.int .i64 0,.int .i64 0,.int .i64 0,.int .i64 0] 67))
  rw [← hw0]
  clear hw0
  go_wp2_with (refine wpList_store_mid rfl 67 (.tmp 2) (.tmp 9) rfl w.heap.size 0 (lmA l) rfl rfl (BZ.out.there9 rfl) lim_size9 (by simp [Value.oneCell']) ?_;have ov:=BZ.out.over9 (lmA l).toList rfl;obtain ⟨w9,hw9⟩:∃ z,z=w0.setCells w.heap.size 0 (lmA l).toList:=⟨_,rfl⟩;rw [← hw9] at ov;change wpList _ _ _ _ _ (w0.setCells w.heap.size 0 (lmA l).toList);rw [← hw9];have OV:=hid_ ov;clear hw9 ov)
  exact bodyPost_ret (results_cell7 _ _ rfl w.heap.size 0 (lmA l).toList _ rfl (Blk.range7 (l:=(lmA l).toList) OV.out.1) Tryz.underlying67 rfl lim_size9) rfl ⟨rfl,F0.out.then_only OV.out.2 (.inr (Nat.le_refl _))⟩
theorem ld_range5 {w:World} {g:Nat} {s:LdS} (h:Blk w g 137 (ldA s)):w.rangeAt g 5 [.int .i64 s.ns,.int .i64 s.ng]:=fun j v hv=>by
  match j,hv with
  | 0,hv=>have e:some _=some v:=hv;rw [← e];exact h.cell' rfl
  | 1,hv=>have e:some _=some v:=hv;rw [← e];exact h.cell' rfl
  | k+2,hv=>simp at hv
theorem ref_size9:(Tryz.prog.info? 23).map (·.size)=some 2:=by kernel_rfl
structure LdW (b0 g b m:Nat) (k:Int) (l:Lm) (x:St) (w:World) (s:LdS) (C:Cr) (vl:Value) (nl:Nat) (xl:List Value) (vr:Value) (nr:Nat) (xr:List Value) (wr:World):Prop where
  l_:wr.ownsRow b0 33 15 vl nl xl
  r_:wr.ownsRow b0 23 2 vr nr xr
  nl:∀ k,vl.ownBlock=some k→k≠b
  bg:Blk wr g 137 (ldA s)
  bt:Blk wr b 33 (crA C)
  lb:b0≤g
  own:∀ D ∈ s.L ++ [C],RecOwn wr b0 D.R (.slice D.A D.R.rows.length D.c) (.slice D.B D.R.ents.length D.d)
  mm:Mm wr m k l x
  f:Fr (lown m x g s) w wr
  ol:∀ k,vl.ownBlock=some k→(Value.slice s.A s.L.length s.c).ownBlock=some k∨w.heap.size≤k
  or_:∀ k,vr.ownBlock=some k→(Value.slice s.B s.refs.length s.e).ownBlock=some k∨w.heap.size≤k
section
variable {b0 g b m:Nat} {k:Int} {l:Lm} {x:St} {w wr w':World} {s:LdS} {C:Cr} {vl:Value} {nl:Nat} {xl:List Value} {vr:Value} {nr:Nat} {xr:List Value}
theorem LdW.keep (h:LdW b0 g b m k l x w s C vl nl xl vr nr xr wr) (hf:Fr none_ wr w'):LdW b0 g b m k l x w s C vl nl xl vr nr xr w':=
  ⟨own_none h.l_ hf,own_none h.r_ hf,h.nl,h.bg.fr hf id,h.bt.fr hf id,h.lb,fun D hD=>(h.own D hD).keep hf,h.mm.keep hf,h.f.then_none hf,h.ol,h.or_⟩
theorem LdW.sz (h:LdW b0 g b m k l x w s C vl nl xl vr nr xr wr):b0≤wr.heap.size:=by have:=h.bg.lt;have:=h.lb;omega
theorem LdW.putL (h:LdW b0 g b m k l x w s C vl nl xl vr nr xr wr) {v':Value} {q:Nat} {ys:List Value} (ho:w'.ownsRow b0 33 15 v' (nl+q) (xl ++ ys)) (hg:wr.grownBy w' vl.ownBlock) (hat:v'.ownBlock=vl.ownBlock∨v'.ownBlock=some wr.heap.size):LdW b0 g b m k l x w s C v' (nl+q) (xl ++ ys) vr nr xr w':=
  ⟨ho,own_kept h.r_ h.l_ (by decide) hg,fun k hk=>by
      rcases hat with e | e
      · exact h.nl k (e ▸ hk)
      · have h1:=h.bt.lt
        have:wr.heap.size=k:=Option.some.inj (e.symm.trans hk)
        omega,h.bg.grown hg (fun e=>own_blk_ne h.l_ h.bg (by decide) e.symm),h.bt.grown hg (fun e=>h.nl b e.symm rfl),h.lb,fun D hD=>(h.own D hD).grown h.l_ (by decide) (by decide) hg,h.mm.grown h.l_ (.inl rfl) hg,h.f.grown hg (fun k hk=>(h.ol k hk).imp (fun e=>.inr (.inr (.inl e))) id),fun k hk=>by
      rcases hat with e | e
      · exact h.ol k (e ▸ hk)
      · have:wr.heap.size=k:=Option.some.inj (e.symm.trans hk)
        have:=h.f.size
        exact .inr (by omega),h.or_⟩
theorem LdW.putR (h:LdW b0 g b m k l x w s C vl nl xl vr nr xr wr) {v':Value} {q:Nat} {ys:List Value} (ho:w'.ownsRow b0 23 2 v' (nr+q) (xr ++ ys)) (hg:wr.grownBy w' vr.ownBlock) (hat:v'.ownBlock=vr.ownBlock∨v'.ownBlock=some wr.heap.size):LdW b0 g b m k l x w s C vl nl xl v' (nr+q) (xr ++ ys) w':=
  ⟨own_kept h.l_ h.r_ (by decide) hg,ho,h.nl,h.bg.grown hg (fun e=>own_blk_ne h.r_ h.bg (by decide) e.symm),h.bt.grown hg (fun e=>own_blk_ne h.r_ h.bt (by decide) e.symm),h.lb,fun D hD=>(h.own D hD).grown h.r_ (by decide) (by decide) hg,h.mm.grown h.r_ (.inr rfl) hg,h.f.grown hg (fun k hk=>(h.or_ k hk).imp (fun e=>.inr (.inr (.inr e))) id),h.ol,fun k hk=>by
      rcases hat with e | e
      · exact h.or_ k (e ▸ hk)
      · have:wr.heap.size=k:=Option.some.inj (e.symm.trans hk)
        have:=h.f.size
        exact .inr (by omega)⟩
theorem LdW.fin {A' B':Option Addr} {c' d':Nat} (h:LdW b0 g b m k l x w s C (.slice A' (s.L.length+1) c') (s.L.length+1) (crFlat s.L ++ (crA C).toList) (.slice B' (s.refs.length+1) d') (s.refs.length+1) (rf9Flat s.refs ++ [.int .i64 s.ns,.int .i64 s.ng]) wr)
    (hb:Blk w' g 137 #[.int .i64 s.n,.bool s.begun,.bool s.over,.int .i64 s.hs,.int .i64 s.hg,.int .i64 s.ns,.int .i64 s.ng,.slice A' (s.L.length+1) c',.slice B' (s.refs.length+1) d',s.ve]) (hf:Fr (only g) wr w') :
    Ldr b0 w' g ⟨s.n,s.begun,s.over,s.hs,s.hg,s.ns,s.ng,A',c',s.L ++ [C],B',d',s.refs ++ [(s.ns,s.ng)],s.ve⟩∧Mm w' m k l x∧Blk w' b 33 (crA C)∧Fr (lown m x g s) w w'∧(∀ k,(Value.slice A' (s.L.length+1) c').ownBlock=some k→(Value.slice s.A s.L.length s.c).ownBlock=some k∨w.heap.size≤k)∧(∀ k,(Value.slice B' (s.refs.length+1) d').ownBlock=some k→(Value.slice s.B s.refs.length s.e).ownBlock=some k∨w.heap.size≤k):=by
  have e1:(s.L ++ [C]).length=s.L.length+1:=by simp
  have e2:(s.refs ++ [(s.ns,s.ng)]).length=s.refs.length+1:=by simp
  refine ⟨⟨?_,h.lb,?_,?_,fun D hD=>(h.own D hD).only hf h.bg (by decide) (by decide)⟩,h.mm.ldr h.bg hf,h.bt.fr hf (only_ne (Blk.ne_ h.bt h.bg (by decide))),h.f.then_only hf (.inl (.inr (.inl rfl))),h.ol,h.or_⟩
  · show Blk w' g 137 #[.int .i64 s.n,.bool s.begun,.bool s.over,.int .i64 s.hs,.int .i64 s.hg,.int .i64 s.ns,.int .i64 s.ng,.slice A' (s.L ++ [C]).length c',.slice B' (s.refs ++ [(s.ns,s.ng)]).length d',s.ve]
    rw [e1,e2]
    exact hb
  · show w'.ownsRow b0 33 15 (.slice A' (s.L ++ [C]).length c') (s.L ++ [C]).length (crFlat (s.L ++ [C]))
    rw [e1,crFlat_snoc]
    exact own_fr h.l_ hf (fun k hk e=>own_blk_ne h.l_ h.bg (by decide) (by rw [hk,show k=g from e]))
  · show w'.ownsRow b0 23 2 (.slice B' (s.refs ++ [(s.ns,s.ng)]).length d') (s.refs ++ [(s.ns,s.ng)]).length (rf9Flat (s.refs ++ [(s.ns,s.ng)]))
    rw [e2,rf9Flat_snoc]
    exact own_fr h.r_ hf (fun k hk e=>own_blk_ne h.r_ h.bg (by decide) (by rw [hk,show k=g from e]))
end
def LdNextO (b0 g m:Nat) (k:Int) (l:Lm) (x:St) (s:LdS) (w:World) (e:Ending) (w':World):Prop:=
  ∃ (R:Rc) (A:Option Addr) (c:Nat) (B:Option Addr) (d:Nat) (kk:Int) (v:Value),LoadR x.ss s.ns s.ng R kk∧Ev w' v sArena9 s.ns kk∧Mm w' m (k+1) l x∧Fr (lown m x g s) w w' ∧
    ((kk≠0∧e=.returned (.bool true)∧Ldr b0 w' g { s with over:=true,ve:=v }) ∨
     (kk=0∧∃ (A':Option Addr) (c':Nat) (B':Option Addr) (d':Nat) (ov:Bool) (ve:Value),e=.returned (.bool ov)∧Ldr b0 w' g ⟨s.n,s.begun,ov,s.hs,s.hg,R.nslot,R.ngen,A',c',s.L ++ [⟨R,A,c,B,d⟩],B',d',s.refs ++ [(s.ns,s.ng)],ve⟩∧(∀ k,(Value.slice A' (s.L.length+1) c').ownBlock=some k→(Value.slice s.A s.L.length s.c).ownBlock=some k∨w.heap.size≤k)∧(∀ k,(Value.slice B' (s.refs.length+1) d').ownBlock=some k→(Value.slice s.B s.refs.length s.e).ownBlock=some k∨w.heap.size≤k) ∧
       ((R.nslot=0∧R.ngen=0∧ov=true∧ve=.nilIface)∨(¬ (R.nslot=0∧R.ngen=0)∧l.s≤s.L.length+1∧ov=true∧ve=errV 10)∨(¬ (R.nslot=0∧R.ngen=0)∧s.L.length+1 < l.s∧ov=false∧ve=s.ve))))
set_option maxHeartbeats 8000000 in
theorem step_nextO {b0 g m:Nat} {k:Int} {l:Lm} {x:St} {w:World} {s:LdS} (h:Ldr b0 w g s) (hm:Mm w m k l x) (hb:∀ i,mall m x i→i < b0) (h0:0≤k) (h1:k≤100000) (ho:s.over=false) (hg:s.begun=true) (hl1:s.L.length≤5000) (hl2:s.refs.length≤5000) :
  Calls Tryz.prog 28 #[.pointer (some ⟨g,0,none⟩),.pointer (some ⟨m,0,none⟩)] w (LdNextO b0 g m k l x s w):=by
 have H:=hid_ h
 have HM:=hid_ hm
 have HB:=hid_ hb
 have HO:=hid_ ho
 have c1:w.cell? ⟨g,1,none⟩=some (.bool true):=by rw [← hg];exact h.b.cell' rfl
 have c5:w.cell? ⟨g,5,none⟩=some (.int .i64 s.ns):=h.b.cell' rfl
 have c6:w.cell? ⟨g,6,none⟩=some (.int .i64 s.ng):=h.b.cell' rfl
 have hsg:=h.b.lt
 have HG:=hid_ hg
 obtain ⟨i0,hi0,hz0,hs0,hb0⟩:=info_parts rec_info9
 have Hi:=hid_ (And.intro hi0 (And.intro hz0 (And.intro hs0 hb0)))
 obtain ⟨j0,hj0,hy0,ht0,hc0⟩:=info_parts ref_info9
 have Hj:=hid_ (And.intro hj0 (And.intro hy0 (And.intro ht0 hc0)))
 clear hi0 hz0 hs0 hb0 hj0 hy0 ht0 hc0 h hm hb ho hg
 go_enter Tryz.func28,Tryz.ntmps28
 go_wp2_with fail
 refine (ldOver_ok H.out).mono ?_
 rintro e w' ⟨rfl,rfl⟩
 rw [HO.out]
 go_wp2_with fail
 refine (memLoad_any m k l x _ HM.out h0 h1 s.ns s.ng).mono ?_
 rintro e w1 ⟨R,A,c,B,d,kk,v,rfl,hld,hev,hmm,hro,hf1⟩
 have LD:=hid_ hld
 have EV:=hid_ hev
 have RO:=hid_ (hro.base (show b0≤w.heap.size by have:=H.out.lb;omega))
 replace H:=hid_ (H.out.fr hf1 HB.out)
 replace HM:=hid_ hmm
 have F1:=hid_ (hf1.mono (S':=lown m x g s) (fun i _ e=>.inl e))
 have hsz1:=hf1.size
 have hNL1:Hid (∀ k,(Value.slice s.A s.L.length s.c).ownBlock=some k→k≠w1.heap.size):=hid_ (fun k hk=>by have:=(H.out.l.lt k hk).2;omega)
 clear hld hev hmm hro hf1 c1 c5 c6
 go_upto_region 12 with (refine wpList_store_mid rfl 33 (.tmp 7) (.tmp 56) rfl w1.heap.size 0 (crA (⟨R,A,c,B,d⟩:Cr)) rfl rfl (new_there w1 _ recZ) rec_size (by simp [Value.oneCell']) ?_;obtain ⟨w2,hw2⟩:∃ z,z=(w1.alloc (.cells recZ 33)).setCells w1.heap.size 0 (crA (⟨R,A,c,B,d⟩:Cr)).toList:=⟨_,rfl⟩;change wpList _ _ _ _ _ ((w1.alloc (.cells recZ 33)).setCells w1.heap.size 0 (crA (⟨R,A,c,B,d⟩:Cr)).toList);rw [← hw2];have P2:Hid (Blk w2 w1.heap.size 33 (crA (⟨R,A,c,B,d⟩:Cr))∧Fr none_ w1 w2):=hid_ (by rw [hw2];exact new_copy w1 _ recZ _ rfl);clear hw2)
 replace H:=hid_ (H.out.keep P2.out.2)
 replace HM:=hid_ (HM.out.keep P2.out.2)
 replace EV:=hid_ (EV.out.keep P2.out.2)
 replace RO:=hid_ (RO.out.keep P2.out.2)
 replace F1:=hid_ (F1.out.then_none P2.out.2)
 have BT:=hid_ P2.out.1
 have hszb:=P2.out.1.lt
 have hlb:=H.out.lb
 obtain ⟨b,hbq⟩:∃ b,b=w1.heap.size:=⟨_,rfl⟩
 rw [← hbq] at BT hszb
 rw [← hbq]
 have hgb:g < b:=by have:=H.out.b;omega
 have hNL:Hid (∀ k,(Value.slice s.A s.L.length s.c).ownBlock=some k→k≠b):=hid_ (by rw [hbq];exact hNL1.out)
 clear hbq P2
 rcases EV.out with ⟨hc,rfl⟩ | ⟨hc,q,rfl,-⟩
 rotate_left
 ·have HC:=hid_ hc
  have EQ:=hid_ EV.out
  clear hc
  go_wp2_with fail
  refine (ldStop_ok (.iface 239 (.pointer (some ⟨q,0,none⟩))) (.inr ⟨_,_,rfl⟩) H.out).mono ?_
  rintro e w3 ⟨rfl,hl3,hf3⟩
  go_wp2_with fail
  go_ret
  exact ⟨R,A,c,B,d,kk,_,LD.out,EQ.out.only hf3 H.out.b (by decide),HM.out.ldr H.out.b hf3,F1.out.then_only hf3 (.inl (.inr (.inl rfl))),.inl ⟨HC.out,rfl,hl3⟩⟩
 have HC:=hid_ hc
 clear hc EV
 have P0:Hid (LdW b0 g b m (k+1) l x w s (⟨R,A,c,B,d⟩:Cr) (.slice s.A s.L.length s.c) s.L.length (crFlat s.L) (.slice s.B s.refs.length s.e) s.refs.length (rf9Flat s.refs) w2):=hid_ ⟨H.out.l,H.out.r,hNL.out,H.out.b,BT.out,hlb,fun D hD=>by
  rcases List.mem_append.1 hD with h | h
  ·exact H.out.own D h
  ·obtain rfl:D=⟨R,A,c,B,d⟩:=by simpa using h
   exact RO.out,HM.out,F1.out,fun k hk=>.inl hk,fun k hk=>.inl hk⟩
 clear H HM RO F1 BT hNL
 go_upto_region 14 with fail
 (try go_frame)
 go_cut [4] (fun u wq=>∃ (A':Option Addr) (c':Nat) (B':Option Addr) (d':Nat),u=.bool false∧Ldr b0 wq g (⟨s.n,s.begun,s.over,s.hs,s.hg,s.ns,s.ng,A',c',s.L ++ [⟨R,A,c,B,d⟩],B',d',s.refs ++ [(s.ns,s.ng)],s.ve⟩:LdS)∧Mm wq m (k+1) l x∧Blk wq b 33 (crA (⟨R,A,c,B,d⟩:Cr))∧Fr (lown m x g s) w wq∧(∀ k,(Value.slice A' (s.L.length+1) c').ownBlock=some k→(Value.slice s.A s.L.length s.c).ownBlock=some k∨w.heap.size≤k)∧(∀ k,(Value.slice B' (s.refs.length+1) d').ownBlock=some k→(Value.slice s.B s.refs.length s.e).ownBlock=some k∨w.heap.size≤k))
 case first =>
  have hS0:(fun w':World=>Blk w' g 137 (ldA s)∧Blk w' b 33 (crA (⟨R,A,c,B,d⟩:Cr))) w2.drew:=⟨P0.out.bg.drew,P0.out.bt.drew⟩
  refine wp_region_u1 21 (fun w':World=>Blk w' g 137 (ldA s)∧Blk w' b 33 (crA (⟨R,A,c,B,d⟩:Cr))) 1 24 (some 64) (.pointer (some ⟨g,0,none⟩)) (by kernel_rfl) rfl rfl rfl (by kernel_rfl) (by kernel_rfl) (by kernel_rfl) (fun _ _ _ h=>h) (y_val (by kernel_rfl) (fun w' hS=>by kernel_rfl)) ?_
  refine u_take 0 (some 63) (.pointer (some ⟨g,0,none⟩)) rfl rfl (by kernel_rfl) (by kernel_rfl) (by kernel_rfl) (by kernel_rfl) (fun _ _ _ h=>h) (y_val (by kernel_rfl) (fun w' hS=>by kernel_rfl)) hS0 ?_
  go_frame
  refine u_take 2 (some 65) (.pointer (some ⟨g,0,none⟩)) rfl rfl (by kernel_rfl) (by kernel_rfl) (by kernel_rfl) (by kernel_rfl) (fun _ _ _ h=>h) (y_val (by kernel_rfl) (fun w' hS=>by kernel_rfl)) hS0 ?_
  go_frame
  refine u_take 3 (some 66) (.pointer (some ⟨g,0,none⟩)) rfl rfl (by kernel_rfl) (by kernel_rfl) (by kernel_rfl) (by kernel_rfl) (fun _ _ _ h=>h) (y_val (by kernel_rfl) (fun w' hS=>by kernel_rfl)) hS0 ?_
  go_frame
  refine u_take 4 (some 67) (.pointer (some ⟨g,7,none⟩)) rfl rfl (by kernel_rfl) (by kernel_rfl) (by kernel_rfl) (by kernel_rfl) (fun _ _ _ h=>h) (y_val (by kernel_rfl) (fun w' hS=>by kernel_rfl)) hS0 ?_
  go_frame
  refine u_take 5 (some 68) (.slice s.A s.L.length s.c) rfl rfl (by kernel_rfl) (by kernel_rfl) (by kernel_rfl) (by kernel_rfl) (fun _ _ _ h=>h) (y_cell 24 (.tmp 67) ⟨g,7,none⟩ _ (by kernel_rfl) rfl (by kernel_rfl) (fun w' hS=>hS.1.cell' rfl) Tryz.underlying24 rfl) hS0 ?_
  go_frame
  refine u_take 6 (some 69) (.agg (crA (⟨R,A,c,B,d⟩:Cr))) rfl rfl (by kernel_rfl) (by kernel_rfl) (by kernel_rfl) (by kernel_rfl) (fun _ _ _ h=>h) (yieldsIf_load_mid (by kernel_rfl) 33 (.tmp 7) rfl b 0 (by kernel_rfl) (crA (⟨R,A,c,B,d⟩:Cr)).toList _ (fun w' hS=>Blk.range7 (l:=(crA (⟨R,A,c,B,d⟩:Cr)).toList) hS.2) Tryz.underlying33 rfl rec_size) hS0 ?_
  go_frame
  refine u_take 9 (some 72) (.pointer (some ⟨g,0,none⟩)) rfl rfl (by kernel_rfl) (by kernel_rfl) (by kernel_rfl) (by kernel_rfl) (fun _ _ _ h=>h) (y_val (by kernel_rfl) (fun w' hS=>by kernel_rfl)) hS0 ?_
  go_frame
  refine u_take 10 (some 73) (.pointer (some ⟨g,0,none⟩)) rfl rfl (by kernel_rfl) (by kernel_rfl) (by kernel_rfl) (by kernel_rfl) (fun _ _ _ h=>h) (y_val (by kernel_rfl) (fun w' hS=>by kernel_rfl)) hS0 ?_
  go_frame
  refine u_take 11 (some 74) (.pointer (some ⟨g,8,none⟩)) rfl rfl (by kernel_rfl) (by kernel_rfl) (by kernel_rfl) (by kernel_rfl) (fun _ _ _ h=>h) (y_val (by kernel_rfl) (fun w' hS=>by kernel_rfl)) hS0 ?_
  go_frame
  refine u_take 12 (some 75) (.slice s.B s.refs.length s.e) rfl rfl (by kernel_rfl) (by kernel_rfl) (by kernel_rfl) (by kernel_rfl) (fun _ _ _ h=>h) (y_cell 27 (.tmp 74) ⟨g,8,none⟩ _ (by kernel_rfl) rfl (by kernel_rfl) (fun w' hS=>hS.1.cell' rfl) Tryz.underlying27 rfl) hS0 ?_
  go_frame
  refine u_take 13 (some 76) (.pointer (some ⟨g,0,none⟩)) rfl rfl (by kernel_rfl) (by kernel_rfl) (by kernel_rfl) (by kernel_rfl) (fun _ _ _ h=>h) (y_val (by kernel_rfl) (fun w' hS=>by kernel_rfl)) hS0 ?_
  go_frame
  refine u_take 14 (some 77) (.pointer (some ⟨g,0,none⟩)) rfl rfl (by kernel_rfl) (by kernel_rfl) (by kernel_rfl) (by kernel_rfl) (fun _ _ _ h=>h) (y_val (by kernel_rfl) (fun w' hS=>by kernel_rfl)) hS0 ?_
  go_frame
  refine u_take 15 (some 78) (.pointer (some ⟨g,5,none⟩)) rfl rfl (by kernel_rfl) (by kernel_rfl) (by kernel_rfl) (by kernel_rfl) (fun _ _ _ h=>h) (y_val (by kernel_rfl) (fun w' hS=>by kernel_rfl)) hS0 ?_
  go_frame
  refine u_take 16 (some 79) (.agg #[.int .i64 s.ns,.int .i64 s.ng]) rfl rfl (by kernel_rfl) (by kernel_rfl) (by kernel_rfl) (by kernel_rfl) (fun _ _ _ h=>h) (yieldsIf_load_mid (by kernel_rfl) 23 (.tmp 78) rfl g 5 (by kernel_rfl) [.int .i64 s.ns,.int .i64 s.ng] _ (fun w' hS=>ld_range5 hS.1) Tryz.underlying23 rfl ref_size9) hS0 ?_
  go_frame
  clear hS0
  obtain ⟨y0,hy0⟩:∃ z,z=w2.drew:=⟨_,rfl⟩
  have Q0:=hid_ (P0.out.keep (Fr.refl none_ w2).drew)
  rw [← hy0] at Q0
  rw [← hy0]
  clear hy0 P0
  refine u_two 7 17 rfl rfl (by kernel_rfl) (by kernel_rfl) (by kernel_rfl) ?_ ?_
  ·skip
   refine wp_knownD (some 70) rfl (.slice (some ⟨y0.heap.size,0,none⟩) 1 1) (y0.alloc (.cells (crA (⟨R,A,c,B,d⟩:Cr)) 33)) (by kernel_rfl) ⟨(.inr ⟨(Q0.out.keep ((Fr.refl none_ _).alloc _)).bg,(Q0.out.keep ((Fr.refl none_ _).alloc _)).bt⟩),?_⟩
   go_frame
   obtain ⟨y1,hy1⟩:∃ z,z=y0.alloc (.cells (crA (⟨R,A,c,B,d⟩:Cr)) 33):=⟨_,rfl⟩
   have f2:Fr none_ y0 y1:=by rw [hy1];exact (Fr.refl none_ _).alloc _
   have B4:Hid (Blk y1 y0.heap.size 33 (crA (⟨R,A,c,B,d⟩:Cr))):=hid_ (by rw [hy1];exact Blk.new _ _ _)
   have Q3:=hid_ (Q0.out.keep f2)
   rw [← hy1]
   clear hy1 f2 Q0
   refine u_two 8 17 rfl rfl (by kernel_rfl) (by kernel_rfl) (by kernel_rfl) ?_ ?_
   ·skip
    refine wp_dst (some 71) rfl (fun hds=>?_)
    refine wp_append_at _ (.tmp 68) (.tmp 70) 24 rfl b0 33 i0 _ 15 192 Tryz.underlying24 Hi.out.1 Hi.out.2.1 Hi.out.2.2.1 Hi.out.2.2.2 rfl (by omega) _ _ _ (by kernel_rfl) Q3.out.l_ (some ⟨y0.heap.size,0,none⟩) 1 1 (crA (⟨R,A,c,B,d⟩:Cr)).toList (by kernel_rfl) (reads_blk9 B4.out) (cr_one _) (by simp only [maxLen];omega) (by omega) Q3.out.sz ?_
    intro v7 y6 hown hgr hat
    have Q5:=hid_ (Q3.out.putL hown hgr hat)
    refine ⟨.inr ⟨Q5.out.bg,Q5.out.bt⟩,?_⟩
    rw [hds]
    clear hown hgr hat hds Q3 B4
    go_frame
    refine u_run 17 (some 80) (.slice (some ⟨y6.heap.size,0,none⟩) 1 1) (y6.alloc (.cells #[.int .i64 s.ns,.int .i64 s.ng] 23)) rfl rfl (by kernel_rfl) (by kernel_rfl) (by kernel_rfl) (.inr ⟨(Q5.out.keep ((Fr.refl none_ _).alloc _)).bg,(Q5.out.keep ((Fr.refl none_ _).alloc _)).bt⟩) ?_
    go_frame
    obtain ⟨y8,hy8⟩:∃ z,z=y6.alloc (.cells #[.int .i64 s.ns,.int .i64 s.ng] 23):=⟨_,rfl⟩
    have f9:Fr none_ y6 y8:=by rw [hy8];exact (Fr.refl none_ _).alloc _
    have B11:Hid (Blk y8 y6.heap.size 23 #[.int .i64 s.ns,.int .i64 s.ng]):=hid_ (by rw [hy8];exact Blk.new _ _ _)
    have Q10:=hid_ (Q5.out.keep f9)
    rw [← hy8]
    clear hy8 f9 Q5
    refine u_one 18 rfl (by kernel_rfl) (by kernel_rfl) ?_
    refine wp_dst (some 81) rfl (fun hds=>?_)
    refine wp_append_at _ (.tmp 75) (.tmp 80) 27 rfl b0 23 j0 _ 2 16 Tryz.underlying27 Hj.out.1 Hj.out.2.1 Hj.out.2.2.1 Hj.out.2.2.2 rfl (by omega) _ _ _ (by kernel_rfl) Q10.out.r_ (some ⟨y6.heap.size,0,none⟩) 1 1 [.int .i64 s.ns,.int .i64 s.ng] (by kernel_rfl) (reads_blk9 B11.out) (by simp [Value.oneCell']) (by simp only [maxLen];omega) (by omega) Q10.out.sz ?_
    intro v14 y13 hown hgr hat
    have Q12:=hid_ (Q10.out.putR hown hgr hat)
    refine ⟨.inr ⟨Q12.out.bg,Q12.out.bt⟩,?_⟩
    rw [hds]
    clear hown hgr hat hds Q10 B11
    go_frame
    obtain ⟨A',c',e1⟩:=Q12.out.l_.shape
    obtain ⟨B',d',e2⟩:=Q12.out.r_.shape
    subst e1
    subst e2
    (try go_frame)
    refine u_run 19 (some 82) (.pointer (some ⟨g,0,none⟩)) y13 rfl rfl (by kernel_rfl) (by kernel_rfl) (by kernel_rfl) (.inr ⟨Q12.out.bg,Q12.out.bt⟩) ?_
    go_frame
    refine u_run 20 (some 83) (.pointer (some ⟨g,7,none⟩)) y13 rfl rfl (by kernel_rfl) (by kernel_rfl) (by kernel_rfl) (.inr ⟨Q12.out.bg,Q12.out.bt⟩) ?_
    go_frame
    refine u_one 21 rfl (by kernel_rfl) (by kernel_rfl) ?_
    have c7:y13.cell? ⟨g,7,none⟩=some (.slice s.A s.L.length s.c):=Q12.out.bg.cell' rfl
    have y7:=Q12.out.bg.frozen 7
    go_simp
    have hk:=And.intro (Q12.out.bg.set_ 7 (.slice A' (s.L.length+1) c')) (Fr.only1 y13 ⟨g,7,none⟩ (.slice A' (s.L.length+1) c'))
    obtain ⟨y15,hy15⟩:∃ z,z=y13.setCell ⟨g,7,none⟩ (.slice A' (s.L.length+1) c'):=⟨_,rfl⟩
    rw [← hy15] at hk
    rw [← hy15]
    have K16:=hid_ hk
    clear hk hy15 c7 y7
    refine u_run 22 (some 84) (.pointer (some ⟨g,0,none⟩)) y15 rfl rfl (by kernel_rfl) (by kernel_rfl) (by kernel_rfl) (.inl (by decide)) ?_
    go_frame
    refine u_run 23 (some 85) (.pointer (some ⟨g,8,none⟩)) y15 rfl rfl (by kernel_rfl) (by kernel_rfl) (by kernel_rfl) (.inl (by decide)) ?_
    go_frame
    refine u_one 24 rfl (by kernel_rfl) (by kernel_rfl) ?_
    have c7:y15.cell? ⟨g,8,none⟩=some (.slice s.B s.refs.length s.e):=K16.out.1.cell' rfl
    have y7:=K16.out.1.frozen 8
    go_simp
    have hk:=And.intro (K16.out.1.set_ 8 (.slice B' (s.refs.length+1) d')) (Fr.setCell (p:=⟨g,8,none⟩) K16.out.2 (.inl rfl) (.slice B' (s.refs.length+1) d'))
    obtain ⟨y17,hy17⟩:∃ z,z=y15.setCell ⟨g,8,none⟩ (.slice B' (s.refs.length+1) d'):=⟨_,rfl⟩
    rw [← hy17] at hk
    rw [← hy17]
    have K18:=hid_ hk
    clear hk hy17 c7 y7
    have FIN:=hid_ (Q12.out.fin K18.out.1 K18.out.2)
    refine u_done (by kernel_rfl) ?_
    (try simp only [Exit.then])
    (try go_frame)
    (first | (rename_i hKm;refine hKm _ _ ?_) | (rename_i hKm _;refine hKm _ _ ?_) | (rename_i hKm _ _;refine hKm _ _ ?_) | (rename_i hKm _ _ _;refine hKm _ _ ?_))
    go_meet
    case rel=>exact ⟨A',c',B',d',rfl,FIN.out⟩
   ·skip
    refine wp_knownD (some 80) rfl (.slice (some ⟨y1.heap.size,0,none⟩) 1 1) (y1.alloc (.cells #[.int .i64 s.ns,.int .i64 s.ng] 23)) (by kernel_rfl) ⟨(.inr ⟨(Q3.out.keep ((Fr.refl none_ _).alloc _)).bg,(Q3.out.keep ((Fr.refl none_ _).alloc _)).bt⟩),?_⟩
    go_frame
    obtain ⟨y19,hy19⟩:∃ z,z=y1.alloc (.cells #[.int .i64 s.ns,.int .i64 s.ng] 23):=⟨_,rfl⟩
    have f20:Fr none_ y1 y19:=by rw [hy19];exact (Fr.refl none_ _).alloc _
    have B22:Hid (Blk y19 y1.heap.size 23 #[.int .i64 s.ns,.int .i64 s.ng]):=hid_ (by rw [hy19];exact Blk.new _ _ _)
    have Q21:=hid_ (Q3.out.keep f20)
    replace B4:=hid_ (B4.out.fr f20 id)
    rw [← hy19]
    clear hy19 f20 Q3
    refine u_one 8 rfl (by kernel_rfl) (by kernel_rfl) ?_
    refine wp_dst (some 71) rfl (fun hds=>?_)
    refine wp_append_at _ (.tmp 68) (.tmp 70) 24 rfl b0 33 i0 _ 15 192 Tryz.underlying24 Hi.out.1 Hi.out.2.1 Hi.out.2.2.1 Hi.out.2.2.2 rfl (by omega) _ _ _ (by kernel_rfl) Q21.out.l_ (some ⟨y0.heap.size,0,none⟩) 1 1 (crA (⟨R,A,c,B,d⟩:Cr)).toList (by kernel_rfl) (reads_blk9 B4.out) (cr_one _) (by simp only [maxLen];omega) (by omega) Q21.out.sz ?_
    intro v25 y24 hown hgr hat
    have Q23:=hid_ (Q21.out.putL hown hgr hat)
    replace B22:=hid_ (B22.out.grown hgr (fun e=>own_blk_ne Q21.out.l_ B22.out (by decide) e.symm))
    refine ⟨.inr ⟨Q23.out.bg,Q23.out.bt⟩,?_⟩
    rw [hds]
    clear hown hgr hat hds Q21 B4
    go_frame
    refine u_one 18 rfl (by kernel_rfl) (by kernel_rfl) ?_
    refine wp_dst (some 81) rfl (fun hds=>?_)
    refine wp_append_at _ (.tmp 75) (.tmp 80) 27 rfl b0 23 j0 _ 2 16 Tryz.underlying27 Hj.out.1 Hj.out.2.1 Hj.out.2.2.1 Hj.out.2.2.2 rfl (by omega) _ _ _ (by kernel_rfl) Q23.out.r_ (some ⟨y1.heap.size,0,none⟩) 1 1 [.int .i64 s.ns,.int .i64 s.ng] (by kernel_rfl) (reads_blk9 B22.out) (by simp [Value.oneCell']) (by simp only [maxLen];omega) (by omega) Q23.out.sz ?_
    intro v28 y27 hown hgr hat
    have Q26:=hid_ (Q23.out.putR hown hgr hat)
    refine ⟨.inr ⟨Q26.out.bg,Q26.out.bt⟩,?_⟩
    rw [hds]
    clear hown hgr hat hds Q23 B22
    go_frame
    obtain ⟨A',c',e1⟩:=Q26.out.l_.shape
    obtain ⟨B',d',e2⟩:=Q26.out.r_.shape
    subst e1
    subst e2
    (try go_frame)
    refine u_run 19 (some 82) (.pointer (some ⟨g,0,none⟩)) y27 rfl rfl (by kernel_rfl) (by kernel_rfl) (by kernel_rfl) (.inr ⟨Q26.out.bg,Q26.out.bt⟩) ?_
    go_frame
    refine u_run 20 (some 83) (.pointer (some ⟨g,7,none⟩)) y27 rfl rfl (by kernel_rfl) (by kernel_rfl) (by kernel_rfl) (.inr ⟨Q26.out.bg,Q26.out.bt⟩) ?_
    go_frame
    refine u_one 21 rfl (by kernel_rfl) (by kernel_rfl) ?_
    have c7:y27.cell? ⟨g,7,none⟩=some (.slice s.A s.L.length s.c):=Q26.out.bg.cell' rfl
    have y7:=Q26.out.bg.frozen 7
    go_simp
    have hk:=And.intro (Q26.out.bg.set_ 7 (.slice A' (s.L.length+1) c')) (Fr.only1 y27 ⟨g,7,none⟩ (.slice A' (s.L.length+1) c'))
    obtain ⟨y29,hy29⟩:∃ z,z=y27.setCell ⟨g,7,none⟩ (.slice A' (s.L.length+1) c'):=⟨_,rfl⟩
    rw [← hy29] at hk
    rw [← hy29]
    have K30:=hid_ hk
    clear hk hy29 c7 y7
    refine u_run 22 (some 84) (.pointer (some ⟨g,0,none⟩)) y29 rfl rfl (by kernel_rfl) (by kernel_rfl) (by kernel_rfl) (.inl (by decide)) ?_
    go_frame
    refine u_run 23 (some 85) (.pointer (some ⟨g,8,none⟩)) y29 rfl rfl (by kernel_rfl) (by kernel_rfl) (by kernel_rfl) (.inl (by decide)) ?_
    go_frame
    refine u_one 24 rfl (by kernel_rfl) (by kernel_rfl) ?_
    have c7:y29.cell? ⟨g,8,none⟩=some (.slice s.B s.refs.length s.e):=K30.out.1.cell' rfl
    have y7:=K30.out.1.frozen 8
    go_simp
    have hk:=And.intro (K30.out.1.set_ 8 (.slice B' (s.refs.length+1) d')) (Fr.setCell (p:=⟨g,8,none⟩) K30.out.2 (.inl rfl) (.slice B' (s.refs.length+1) d'))
    obtain ⟨y31,hy31⟩:∃ z,z=y29.setCell ⟨g,8,none⟩ (.slice B' (s.refs.length+1) d'):=⟨_,rfl⟩
    rw [← hy31] at hk
    rw [← hy31]
    have K32:=hid_ hk
    clear hk hy31 c7 y7
    have FIN:=hid_ (Q26.out.fin K32.out.1 K32.out.2)
    refine u_done (by kernel_rfl) ?_
    (try simp only [Exit.then])
    (try go_frame)
    (first | (rename_i hKm;refine hKm _ _ ?_) | (rename_i hKm _;refine hKm _ _ ?_) | (rename_i hKm _ _;refine hKm _ _ ?_) | (rename_i hKm _ _ _;refine hKm _ _ ?_))
    go_meet
    case rel=>exact ⟨A',c',B',d',rfl,FIN.out⟩
  ·skip
   refine wp_knownD (some 80) rfl (.slice (some ⟨y0.heap.size,0,none⟩) 1 1) (y0.alloc (.cells #[.int .i64 s.ns,.int .i64 s.ng] 23)) (by kernel_rfl) ⟨(.inr ⟨(Q0.out.keep ((Fr.refl none_ _).alloc _)).bg,(Q0.out.keep ((Fr.refl none_ _).alloc _)).bt⟩),?_⟩
   go_frame
   obtain ⟨y33,hy33⟩:∃ z,z=y0.alloc (.cells #[.int .i64 s.ns,.int .i64 s.ng] 23):=⟨_,rfl⟩
   have f34:Fr none_ y0 y33:=by rw [hy33];exact (Fr.refl none_ _).alloc _
   have B36:Hid (Blk y33 y0.heap.size 23 #[.int .i64 s.ns,.int .i64 s.ng]):=hid_ (by rw [hy33];exact Blk.new _ _ _)
   have Q35:=hid_ (Q0.out.keep f34)
   rw [← hy33]
   clear hy33 f34 Q0
   refine u_run 7 (some 70) (.slice (some ⟨y33.heap.size,0,none⟩) 1 1) (y33.alloc (.cells (crA (⟨R,A,c,B,d⟩:Cr)) 33)) rfl rfl (by kernel_rfl) (by kernel_rfl) (by kernel_rfl) (.inr ⟨(Q35.out.keep ((Fr.refl none_ _).alloc _)).bg,(Q35.out.keep ((Fr.refl none_ _).alloc _)).bt⟩) ?_
   go_frame
   obtain ⟨y37,hy37⟩:∃ z,z=y33.alloc (.cells (crA (⟨R,A,c,B,d⟩:Cr)) 33):=⟨_,rfl⟩
   have f38:Fr none_ y33 y37:=by rw [hy37];exact (Fr.refl none_ _).alloc _
   have B40:Hid (Blk y37 y33.heap.size 33 (crA (⟨R,A,c,B,d⟩:Cr))):=hid_ (by rw [hy37];exact Blk.new _ _ _)
   have Q39:=hid_ (Q35.out.keep f38)
   replace B36:=hid_ (B36.out.fr f38 id)
   rw [← hy37]
   clear hy37 f38 Q35
   refine u_one 8 rfl (by kernel_rfl) (by kernel_rfl) ?_
   refine wp_dst (some 71) rfl (fun hds=>?_)
   refine wp_append_at _ (.tmp 68) (.tmp 70) 24 rfl b0 33 i0 _ 15 192 Tryz.underlying24 Hi.out.1 Hi.out.2.1 Hi.out.2.2.1 Hi.out.2.2.2 rfl (by omega) _ _ _ (by kernel_rfl) Q39.out.l_ (some ⟨y33.heap.size,0,none⟩) 1 1 (crA (⟨R,A,c,B,d⟩:Cr)).toList (by kernel_rfl) (reads_blk9 B40.out) (cr_one _) (by simp only [maxLen];omega) (by omega) Q39.out.sz ?_
   intro v43 y42 hown hgr hat
   have Q41:=hid_ (Q39.out.putL hown hgr hat)
   replace B36:=hid_ (B36.out.grown hgr (fun e=>own_blk_ne Q39.out.l_ B36.out (by decide) e.symm))
   refine ⟨.inr ⟨Q41.out.bg,Q41.out.bt⟩,?_⟩
   rw [hds]
   clear hown hgr hat hds Q39 B40
   go_frame
   refine u_one 18 rfl (by kernel_rfl) (by kernel_rfl) ?_
   refine wp_dst (some 81) rfl (fun hds=>?_)
   refine wp_append_at _ (.tmp 75) (.tmp 80) 27 rfl b0 23 j0 _ 2 16 Tryz.underlying27 Hj.out.1 Hj.out.2.1 Hj.out.2.2.1 Hj.out.2.2.2 rfl (by omega) _ _ _ (by kernel_rfl) Q41.out.r_ (some ⟨y0.heap.size,0,none⟩) 1 1 [.int .i64 s.ns,.int .i64 s.ng] (by kernel_rfl) (reads_blk9 B36.out) (by simp [Value.oneCell']) (by simp only [maxLen];omega) (by omega) Q41.out.sz ?_
   intro v46 y45 hown hgr hat
   have Q44:=hid_ (Q41.out.putR hown hgr hat)
   refine ⟨.inr ⟨Q44.out.bg,Q44.out.bt⟩,?_⟩
   rw [hds]
   clear hown hgr hat hds Q41 B36
   go_frame
   obtain ⟨A',c',e1⟩:=Q44.out.l_.shape
   obtain ⟨B',d',e2⟩:=Q44.out.r_.shape
   subst e1
   subst e2
   (try go_frame)
   refine u_run 19 (some 82) (.pointer (some ⟨g,0,none⟩)) y45 rfl rfl (by kernel_rfl) (by kernel_rfl) (by kernel_rfl) (.inr ⟨Q44.out.bg,Q44.out.bt⟩) ?_
   go_frame
   refine u_run 20 (some 83) (.pointer (some ⟨g,7,none⟩)) y45 rfl rfl (by kernel_rfl) (by kernel_rfl) (by kernel_rfl) (.inr ⟨Q44.out.bg,Q44.out.bt⟩) ?_
   go_frame
   refine u_one 21 rfl (by kernel_rfl) (by kernel_rfl) ?_
   have c7:y45.cell? ⟨g,7,none⟩=some (.slice s.A s.L.length s.c):=Q44.out.bg.cell' rfl
   have y7:=Q44.out.bg.frozen 7
   go_simp
   have hk:=And.intro (Q44.out.bg.set_ 7 (.slice A' (s.L.length+1) c')) (Fr.only1 y45 ⟨g,7,none⟩ (.slice A' (s.L.length+1) c'))
   obtain ⟨y47,hy47⟩:∃ z,z=y45.setCell ⟨g,7,none⟩ (.slice A' (s.L.length+1) c'):=⟨_,rfl⟩
   rw [← hy47] at hk
   rw [← hy47]
   have K48:=hid_ hk
   clear hk hy47 c7 y7
   refine u_run 22 (some 84) (.pointer (some ⟨g,0,none⟩)) y47 rfl rfl (by kernel_rfl) (by kernel_rfl) (by kernel_rfl) (.inl (by decide)) ?_
   go_frame
   refine u_run 23 (some 85) (.pointer (some ⟨g,8,none⟩)) y47 rfl rfl (by kernel_rfl) (by kernel_rfl) (by kernel_rfl) (.inl (by decide)) ?_
   go_frame
   refine u_one 24 rfl (by kernel_rfl) (by kernel_rfl) ?_
   have c7:y47.cell? ⟨g,8,none⟩=some (.slice s.B s.refs.length s.e):=K48.out.1.cell' rfl
   have y7:=K48.out.1.frozen 8
   go_simp
   have hk:=And.intro (K48.out.1.set_ 8 (.slice B' (s.refs.length+1) d')) (Fr.setCell (p:=⟨g,8,none⟩) K48.out.2 (.inl rfl) (.slice B' (s.refs.length+1) d'))
   obtain ⟨y49,hy49⟩:∃ z,z=y47.setCell ⟨g,8,none⟩ (.slice B' (s.refs.length+1) d'):=⟨_,rfl⟩
   rw [← hy49] at hk
   rw [← hy49]
   have K50:=hid_ hk
   clear hk hy49 c7 y7
   have FIN:=hid_ (Q44.out.fin K50.out.1 K50.out.2)
   refine u_done (by kernel_rfl) ?_
   (try simp only [Exit.then])
   (try go_frame)
   (first | (rename_i hKm;refine hKm _ _ ?_) | (rename_i hKm _;refine hKm _ _ ?_) | (rename_i hKm _ _;refine hKm _ _ ?_) | (rename_i hKm _ _ _;refine hKm _ _ ?_))
   go_meet
   case rel=>exact ⟨A',c',B',d',rfl,FIN.out⟩
 case rest =>
 obtain ⟨A',c',B',d',rfl,hL,hM,hT,hF,ho1⟩:=hcut
 obtain ⟨w3,rfl⟩:∃ z:World,z=wc:=⟨_,rfl⟩
 have HL:=hid_ hL
 have HM:=hid_ hM
 have HT:=hid_ hT
 have HF:=hid_ hF
 have HOW:=hid_ ho1
 have hlc:(s.L ++ [(⟨R,A,c,B,d⟩:Cr)]).length=s.L.length+1:=by simp
 clear hL hM hT hF ho1
 have b13:w3.cell? ⟨b,13,none⟩=some (.int .i64 R.nslot):=HT.out.cell' rfl
 have b14:w3.cell? ⟨b,14,none⟩=some (.int .i64 R.ngen):=HT.out.cell' rfl
 have g5:w3.cell? ⟨g,5,none⟩=some (.int .i64 s.ns):=HL.out.b.cell' rfl
 have g6:w3.cell? ⟨g,6,none⟩=some (.int .i64 s.ng):=HL.out.b.cell' rfl
 have y5:=HL.out.b.frozen 5
 have y6:=HL.out.b.frozen 6
 go_upto_region 16 with fail
 obtain ⟨w4,hw4⟩:∃ z,z=(w3.setCell ⟨g,5,none⟩ (.int .i64 R.nslot)).setCell ⟨g,6,none⟩ (.int .i64 R.ngen):=⟨_,rfl⟩
 have f4:Fr (only g) w3 w4:=by rw [hw4];exact Fr.setCell (p:=⟨g,6,none⟩) (Fr.only1 w3 ⟨g,5,none⟩ _) (.inl rfl) _
 have b4:=(HL.out.b.set_ 5 (.int .i64 R.nslot)).set_ 6 (.int .i64 R.ngen)
 rw [← hw4] at b4
 rw [← hw4]
 clear hw4 b13 b14 g5 g6 y5 y6
 have L4:Hid (Ldr b0 w4 g (⟨s.n,s.begun,s.over,s.hs,s.hg,R.nslot,R.ngen,A',c',s.L ++ [⟨R,A,c,B,d⟩],B',d',s.refs ++ [(s.ns,s.ng)],s.ve⟩:LdS)):=hid_ (HL.out.upd b4 f4 rfl)
 replace HM:=hid_ (HM.out.ldr HL.out.b f4)
 replace HF:=hid_ (HF.out.then_only f4 (.inl (.inr (.inl rfl))))
 clear HL HT f4 b4
 have hg5:w4.cell? ⟨g,5,none⟩=some (.int .i64 R.nslot):=L4.out.b.cell' rfl
 have hg6:w4.cell? ⟨g,6,none⟩=some (.int .i64 R.ngen):=L4.out.b.cell' rfl
 have hq:=eql_ref
 by_cases hz:R.nslot=0∧R.ngen=0
 ·have hd:(R.nslot==0 && R.ngen==0)=true:=by simp [hz.1,hz.2]
  have HZ:=hid_ hz
  clear hz
  go_wp2_with fail
  refine (ldStop_ok .nilIface (.inl rfl) L4.out).mono ?_
  rintro e w5 ⟨rfl,hl5,hf5⟩
  go_wp2_with fail
  go_ret
  exact ⟨R,A,c,B,d,kk,.nilIface,LD.out,.inl ⟨HC.out,rfl⟩,HM.out.ldr L4.out.b hf5,HF.out.then_only hf5 (.inl (.inr (.inl rfl))),.inr ⟨HC.out,A',c',B',d',true,.nilIface,rfl,hl5,HOW.out.1,HOW.out.2,.inl ⟨HZ.out.1,HZ.out.2,rfl,rfl⟩⟩⟩
 ·have hd:(R.nslot==0 && R.ngen==0)=false:=by
   simp only [Bool.and_eq_false_iff,beq_eq_false_iff_ne]
   omega
  have HZ:=hid_ hz
  clear hz
  have hg7:w4.cell? ⟨g,7,none⟩=some (.slice A' (s.L.length+1) c'):=by have:=L4.out.b.cell' (i:=7) (v:=.slice A' (s.L ++ [(⟨R,A,c,B,d⟩:Cr)]).length c') rfl;rwa [hlc] at this
  go_upto_region 18 with fail
  (try go_frame)
  go_cut [107] (fun u wq=>u=.bool (decide ((l.s:Int)≤((s.L.length+1:Nat):Int)))∧Fr none_ w4 wq)
  case first =>
   have hS0:(fun w':World=>Fr none_ w4 w') w4.drew:=(Fr.refl none_ w4).drew
   refine wp_region_u 9 (fun w':World=>Fr none_ w4 w') (by kernel_rfl) ?_
   refine u_take 0 (some 99) (.pointer (some ⟨g,0,none⟩)) rfl rfl (by kernel_rfl) (by kernel_rfl) (by kernel_rfl) (by kernel_rfl) (fun _ _ _ h=>h) (y_val (by kernel_rfl) (fun w' hS=>by kernel_rfl)) hS0 ?_
   go_frame
   refine u_take 1 (some 100) (.pointer (some ⟨g,0,none⟩)) rfl rfl (by kernel_rfl) (by kernel_rfl) (by kernel_rfl) (by kernel_rfl) (fun _ _ _ h=>h) (y_val (by kernel_rfl) (fun w' hS=>by kernel_rfl)) hS0 ?_
   go_frame
   refine u_take 2 (some 101) (.pointer (some ⟨g,7,none⟩)) rfl rfl (by kernel_rfl) (by kernel_rfl) (by kernel_rfl) (by kernel_rfl) (fun _ _ _ h=>h) (y_val (by kernel_rfl) (fun w' hS=>by kernel_rfl)) hS0 ?_
   go_frame
   refine u_take 3 (some 102) (.slice A' (s.L.length+1) c') rfl rfl (by kernel_rfl) (by kernel_rfl) (by kernel_rfl) (by kernel_rfl) (fun _ _ _ h=>h) (y_cell 24 (.tmp 101) ⟨g,7,none⟩ _ (by kernel_rfl) rfl (by kernel_rfl) (fun w' hS=>cellFr hg7 hS) Tryz.underlying24 rfl) hS0 ?_
   go_frame
   refine u_take 4 (some 103) (.int .i64 ((s.L.length+1:Nat):Int)) rfl rfl (by kernel_rfl) (by kernel_rfl) (by kernel_rfl) (by kernel_rfl) (fun _ _ _ h=>h) (y_val (by kernel_rfl) (fun w' hS=>by kernel_rfl)) hS0 ?_
   go_frame
   refine u_take 5 (some 104) (.pointer (some ⟨m,0,none⟩)) rfl rfl (by kernel_rfl) (by kernel_rfl) (by kernel_rfl) (by kernel_rfl) (fun _ _ _ h=>h) (y_val (by kernel_rfl) (fun w' hS=>by kernel_rfl)) hS0 ?_
   go_frame
   clear hS0
   refine u_call 6 (some 105) 63 #[.pointer (some ⟨m,0,none⟩)] (.agg (lmA l)) (Fr none_ w4.drew) rfl rfl (by kernel_rfl) (by kernel_rfl) (by kernel_rfl) (memLimits_ok _ (HM.out.keep (Fr.refl none_ w4).drew)) ?_
   intro w5 hf5
   have F5:=hid_ (((Fr.refl none_ w4).drew).then_none hf5)
   refine ⟨F5.out,?_⟩
   go_frame
   refine u_run 7 (some 106) (.int .i64 (l.s:Int)) w5 rfl rfl (by kernel_rfl) (by kernel_rfl) (by kernel_rfl) (.inr F5.out) ?_
   go_frame
   refine u_run 8 (some 107) (.bool (decide ((l.s:Int)≤((s.L.length+1:Nat):Int)))) w5 rfl rfl (by kernel_rfl) (by kernel_rfl) (by kernel_rfl) (.inr F5.out) ?_
   go_frame
   refine u_done (by kernel_rfl) ?_
   (try simp only [Exit.then])
   (try go_frame)
   (first | (rename_i hKm;refine hKm _ _ ?_) | (rename_i hKm _;refine hKm _ _ ?_) | (rename_i hKm _ _;refine hKm _ _ ?_) | (rename_i hKm _ _ _;refine hKm _ _ ?_))
   go_meet
   case rel=>exact ⟨rfl,F5.out⟩
  case rest =>
  obtain ⟨rfl,hf5⟩:=hcut
  obtain ⟨w5,rfl⟩:∃ z:World,z=wc:=⟨_,rfl⟩
  replace L4:=hid_ (L4.out.keep hf5)
  replace HM:=hid_ (HM.out.keep hf5)
  replace HF:=hid_ (HF.out.then_none hf5)
  clear hf5 hg5 hg6 hg7 hq hd
  by_cases hle:l.s≤s.L.length+1
  ·have hd:decide ((l.s:Int)≤((s.L.length+1:Nat):Int))=true:=by simp;omega
   have HLE:=hid_ hle
   rw [hd]
   clear hd hle
   go_wp2_with fail
   refine (ldStop_ok (errV 10) (.inr ⟨_,_,rfl⟩) L4.out).mono ?_
   rintro e w6 ⟨rfl,hl6,hf6⟩
   go_wp2_with fail
   go_ret
   exact ⟨R,A,c,B,d,kk,.nilIface,LD.out,.inl ⟨HC.out,rfl⟩,HM.out.ldr L4.out.b hf6,HF.out.then_only hf6 (.inl (.inr (.inl rfl))),.inr ⟨HC.out,A',c',B',d',true,errV 10,rfl,hl6,HOW.out.1,HOW.out.2,.inr (.inl ⟨HZ.out,HLE.out,rfl,rfl⟩)⟩⟩
  ·have hd:decide ((l.s:Int)≤((s.L.length+1:Nat):Int))=false:=by simp;omega
   have HLE:=hid_ hle
   rw [hd]
   clear hd hle
   go_wp2_with fail
   go_ret
   exact ⟨R,A,c,B,d,kk,.nilIface,LD.out,.inl ⟨HC.out,rfl⟩,HM.out,HF.out,.inr ⟨HC.out,A',c',B',d',false,s.ve,rfl,by rw [← HO.out];exact L4.out,HOW.out.1,HOW.out.2,.inr (.inr ⟨HZ.out,by have:=HLE.out;omega,rfl,rfl⟩)⟩⟩
def LdNext (b0 g m:Nat) (k:Int) (l:Lm) (x:St) (s:LdS) (w:World) (e:Ending) (w':World):Prop:=
  ∃ (R:Rc) (A:Option Addr) (c:Nat) (B:Option Addr) (d:Nat) (kk:Int) (v:Value),LoadR x.ss s.ns s.ng R kk∧Ev w' v sArena9 s.ns kk∧Mm w' m (k+1) l x∧Fr (lall m x b0) w w' ∧
    ((kk≠0∧e=.returned (.bool true)∧Ldr b0 w' g { s with over:=true,ve:=v }) ∨
     (kk=0∧∃ (A':Option Addr) (c':Nat) (B':Option Addr) (d':Nat) (ov:Bool) (ve:Value),e=.returned (.bool ov)∧Ldr b0 w' g ⟨s.n,s.begun,ov,s.hs,s.hg,R.nslot,R.ngen,A',c',s.L ++ [⟨R,A,c,B,d⟩],B',d',s.refs ++ [(s.ns,s.ng)],ve⟩ ∧
       ((R.nslot=0∧R.ngen=0∧ov=true∧ve=.nilIface)∨(¬ (R.nslot=0∧R.ngen=0)∧l.s≤s.L.length+1∧ov=true∧ve=errV 10)∨(¬ (R.nslot=0∧R.ngen=0)∧s.L.length+1 < l.s∧ov=false∧ve=s.ve))))
theorem step_next {b0 g m:Nat} {k:Int} {l:Lm} {x:St} {w:World} {s:LdS} (h:Ldr b0 w g s) (hm:Mm w m k l x) (hb:∀ i,mall m x i→i < b0) (h0:0≤k) (h1:k≤100000) (ho:s.over=false) (hg:s.begun=true) (hl1:s.L.length≤5000) (hl2:s.refs.length≤5000) :
    Calls Tryz.prog 28 #[.pointer (some ⟨g,0,none⟩),.pointer (some ⟨m,0,none⟩)] w (LdNext b0 g m k l x s w):=(step_nextO h hm hb h0 h1 ho hg hl1 hl2).mono fun e w' hh=>by
  obtain ⟨R,A,c,B,d,kk,v,h1,h2,h3,h4,h5⟩:=hh
  refine ⟨R,A,c,B,d,kk,v,h1,h2,h3,h4.mono (fun i _ e=>h.lall i e),?_⟩
  rcases h5 with h5 | ⟨h5,A',c',B',d',ov,ve,h6,h7,_,_,h8⟩
  · exact .inl h5
  · exact .inr ⟨h5,A',c',B',d',ov,ve,h6,h7,h8⟩
end Go.Proofs.YtfihfjbakfadkaaGreatDoor
