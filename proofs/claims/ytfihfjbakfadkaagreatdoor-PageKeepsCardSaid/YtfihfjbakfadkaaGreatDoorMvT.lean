/- Texts of one proof, merged: Now10. -/
import Derived.Test.YtfihfjbakfadkaaGreatDoorMvO
import Derived.Test.YtfihfjbakfadkaaGreatDoorMvP
import Derived.Test.YtfihfjbakfadkaaGreatDoorMvS
namespace Go.Proofs.YtfihfjbakfadkaaGreatDoor
open Go.RowKit Go.BigFrame
set_option maxRecDepth 100000
set_option linter.unusedVariables false

theorem results_cell_tmp_tmp7 {P:Program} {fn:Func} (tmps:Array Value) (w:World) {t s r:Tmp} {ty:TypeId} (h:fn.results=#[.cell t ty,.tmp s,.tmp r]) (b o:Nat) (cs:List Value) (d:TypeDesc) (ha:tmps.getD t undef=.pointer (some ⟨b,o,none⟩)) (hc:w.rangeAt b o cs)
    (hu:P.underlying ty=some d) (hd:d.isRow=true) (hi:(P.info? ty).map (·.size)=some cs.length):(results fn tmps).run P w=.ok (.tuple #[.agg cs.toArray,tmps.getD s undef,tmps.getD r undef]) w:=by
  have hl:=run_loadVar_mid (P:=P) w b o ty cs d hc hu hd hi
  have ha':tmps[t]?.getD undef=.pointer (some ⟨b,o,none⟩):=by simpa using ha
  simp [results,h,ha',asAddr,hl]
theorem LwRd.fr0 {w w':World} {S:Nat→Prop} {V:Lw} {A:Option Addr} {c:Nat} (h:LwRd 0 w V A c) (hf:Fr S w w') (hS:w.ownsRow 0 143 2 (.slice A V.rows.length c) V.rows.length (rwFlat V.rows)→∀ i,(Value.slice A V.rows.length c).ownBlock=some i→¬ S i):LwRd 0 w' V A c:=by
  rcases h.src with hs | ho
  · rcases Nat.eq_zero_or_pos V.rows.length with h0 | h0
    · exact ⟨⟨h.rd.1,fun hn=>absurd hn (by omega)⟩,h.cap,h.capm,h.ok,.inl fun h1=>absurd h1 (by omega)⟩
    · obtain ⟨ad,e,_⟩:=h.rd.2 h0
      exact absurd (hs h0 ad e) (Nat.not_lt_zero _)
  · have o:=own_fr ho hf (hS ho)
    exact ⟨Reads.of_own o,h.cap,h.capm,h.ok,.inr o⟩
def PgD (n hs hg:Int) (l:List Rc) (A:Option Addr) (m cap:Nat) (D:Option Addr) (rn rc:Nat) (w:World) (wv:Array Value) (k:Int):Prop:=
  (∃ leaf lv iv A3 c3 B3 d3,ofM l=some (leaf,lv,iv)∧wv=pgA n hs hg (.slice A m cap) (.slice D rn rc) leaf lv (.slice A3 lv.rows.length c3) iv (.slice B3 iv.ents.length d3)∧LwRd 0 w lv A3 c3∧VwS w iv B3 d3∧k=0)∨(CodeOf l k∧wv=pgZ)
theorem pgD_of {n hs hg:Int} {l:List Rc} {A D:Option Addr} {m cap rn rc:Nat} {w w':World} {e:Ending} (h:ROfPostD 0 n hs hg (.slice A m cap) (.slice D rn rc) l w e w'):∃ (wv:Array Value) (k:Int),e=.returned (.tuple #[.agg wv,.int .i64 k])∧wv.size=21∧wv.all (·.oneCell')=true∧PgD n hs hg l A m cap D rn rc w' wv k∧Fr none_ w w':=by
  rcases h with ⟨leaf,lv,iv,A3,c3,B3,d3,h1,h2,h3,h4,h5,h6⟩ | ⟨k,hk,h2,h4⟩
  · exact ⟨_,0,h2,rfl,by simp [Value.oneCell'],.inl ⟨leaf,lv,iv,A3,c3,B3,d3,h1,rfl,h4,h5,rfl⟩,h6⟩
  · exact ⟨_,k,h2,rfl,by simp [Value.oneCell'],.inr ⟨hk,rfl⟩,h4⟩
def RowT (e:TypeId):Prop:=e=33∨e=23∨e=143∨e=59
def OffRows (w:World) (S:Nat→Prop):Prop:=∀ {b s n:Nat} {e:TypeId} {v:Value} {xs:List Value},w.ownsRow b e s v n xs→RowT e→∀ i,v.ownBlock=some i→¬ S i
theorem OffRows.none_ (w:World):OffRows w none_:=fun _ _ _ _ e=>e
theorem OffRows.only {w:World} {X:Nat} {t:TypeId} {cs:Array Value} (hX:Blk w X t cs) (ht:¬ RowT t):OffRows w (only X):=fun h he i hi e=>own_blk_ne h hX (fun e'=>ht (e' ▸ he)) (by rw [hi,show i=X from e])
theorem PgD.fr {n hs hg:Int} {l:List Rc} {A D:Option Addr} {m cap rn rc:Nat} {w w':World} {S:Nat→Prop} {wv:Array Value} {k:Int} (h:PgD n hs hg l A m cap D rn rc w wv k) (hf:Fr S w w') (hS:OffRows w S):PgD n hs hg l A m cap D rn rc w' wv k:=by
  rcases h with ⟨leaf,lv,iv,A3,c3,B3,d3,h1,h2,h3,h4,h5⟩ | h
  · have o:=own_fr h4.own hf (hS h4.own (.inr (.inr (.inr rfl))))
    exact .inl ⟨leaf,lv,iv,A3,c3,B3,d3,h1,h2,h3.fr0 hf (fun ho=>hS ho (.inr (.inr (.inl rfl)))),⟨⟨Reads.of_own o,h4.cap,h4.capm,h4.ok⟩,o⟩,h5⟩
  · exact .inr h
theorem PgD.pg {n hs hg:Int} {l:List Rc} {A D:Option Addr} {m cap rn rc:Nat} {w:World} {wv:Array Value} {k:Int} (h:PgD n hs hg l A m cap D rn rc w wv k):PgW n hs hg l A m cap D rn rc w wv k:=by
  rcases h with ⟨leaf,lv,iv,A3,c3,B3,d3,h1,h2,h3,h4,h5⟩ | h
  · exact .inl ⟨leaf,lv,iv,A3,c3,B3,d3,h1,h2,h3.ok,h3.rd,h4.toVwIn,h5⟩
  · exact .inr h
structure NowQ (ss:List Sl) (js:List Nat) (s0 g0:Int) (A:Option Addr) (cap:Nat) (D:Option Addr) (rc:Nat) (L:List Ch) (wv:Array Value) (k:Int) (w:World):Prop where
  pg:PgD 0 s0 g0 (L.map (·.R)) A js.length cap D js.length rc w wv k
  lr:L.map (·.R)=js.map (recOf ss)
  lo:w.ownsRow 0 33 15 (.slice A js.length cap) js.length (recFlat L)
  ro:w.ownsRow 0 23 2 (.slice D js.length rc) js.length (rpFlat (js.map (refOf ss)))
  own:∀ X ∈ L,RecOwn w 0 X.R (.slice X.A X.R.rows.length X.c) (.slice X.B X.R.ents.length X.d)
  ok:∀ X ∈ L,PRec X.R
theorem NowQ.fr {ss:List Sl} {js:List Nat} {s0 g0:Int} {A:Option Addr} {cap:Nat} {D:Option Addr} {rc:Nat} {L:List Ch} {wv:Array Value} {k:Int} {w w':World} {S:Nat→Prop} (h:NowQ ss js s0 g0 A cap D rc L wv k w) (hf:Fr S w w') (hS:OffRows w S):NowQ ss js s0 g0 A cap D rc L wv k w':=
  ⟨h.pg.fr hf hS,h.lr,own_fr h.lo hf (hS h.lo (.inl rfl)),own_fr h.ro hf (hS h.ro (.inr (.inl rfl))),fun X hX=>⟨own_fr (h.own X hX).r hf (hS (h.own X hX).r (.inr (.inr (.inl rfl)))),own_fr (h.own X hX).e hf (hS (h.own X hX).e (.inr (.inr (.inr rfl))))⟩,h.ok⟩
theorem NowQ.len {ss:List Sl} {js:List Nat} {s0 g0:Int} {A:Option Addr} {cap:Nat} {D:Option Addr} {rc:Nat} {L:List Ch} {wv:Array Value} {k:Int} {w:World} (h:NowQ ss js s0 g0 A cap D rc L wv k w):L.length=js.length:=by
  have:=congrArg List.length h.lr
  simpa using this
theorem NowQ.ch {ss:List Sl} {js:List Nat} {s0 g0:Int} {A:Option Addr} {cap:Nat} {D:Option Addr} {rc:Nat} {L:List Ch} {wv:Array Value} {k:Int} {w:World} (h:NowQ ss js s0 g0 A cap D rc L wv k w):ChReads w A js.length L:=
  chReads_own h.lo h.len (fun X hX=>by
    have o:=h.own X hX
    have p:=h.ok X hX
    obtain ⟨A2,c2,e2,g1,g2,_⟩:=own_parts o.e
    injection e2 with _ _ e4
    exact ⟨o.reads,p.ok.low,p.ok.high,p.ok.key,p.ok.hkey,p.ok.ents,by omega,by omega⟩)
theorem Blk.range0n {w:World} {g:Nat} {t:TypeId} {cs:Array Value} (h:Blk w g t cs):w.rangeAt g 0 cs.toList:=fun j v hv=>by
  rw [Nat.zero_add]
  exact h.cell' (by simpa using hv)
abbrev chP (p:RaP):Ch:=⟨p.R,p.A,p.c,p.B,p.d⟩
structure NwL (ss:List Sl) (js:List Nat) (LP:List RaP) (k:Nat) (Ls:List Ch) (s g:Int):Prop where
  li:Links ss (js.drop k) s g
  ln:Ls.length=k
  lr:Ls.map (·.R)=(js.take k).map (recOf ss)
  mem:∀ X ∈ Ls,∃ p ∈ LP,X=chP p
theorem now_load {w:World} {ss:List Sl} {js:List Nat} {LP:List RaP} {PA:Option Addr} {pc k:Nat} {Ls:List Ch} {s g:Int} (hsh:Shw w ss js LP PA pc) (hl:NwL ss js LP k Ls s g) (hk:k < js.length) (hss:ss.length≤100) {R:Rc} {A B:Option Addr} {c d:Nat} {kk:Int} (h:RLoadIs 100 LP s g R A B c d kk) :
    kk=0∧NwL ss js LP (k+1) (Ls ++ [⟨R,A,c,B,d⟩]) R.nslot R.ngen∧(js.take (k+1)).map (refOf ss)=(js.take k).map (refOf ss) ++ [(s,g)]:=by
  have hli:=hl.li
  rw [List.drop_eq_getElem_cons hk] at hli
  obtain ⟨h1,y,h2,h3,h4,h5⟩:=hli
  have hjl:js[k] < ss.length:=(List.getElem?_eq_some_iff.1 h2).1
  have hjk:js[k]?=some js[k]:=List.getElem?_eq_getElem hk
  have hrf:refOf ss js[k]=(s,g):=by
    unfold refOf
    rw [slotD h2,h1,h4]
  have hrc:recOf ss js[k]=y.R:=by unfold recOf;rw [slotD h2]
  obtain ⟨p0,hp0,e0,_,v0⟩:=hsh.eq k _ hjk
  rw [hrf] at e0
  rcases h with ⟨hno,_⟩ | ⟨_,hno,_⟩ | ⟨_,i,p,_,hp,e1,e2,_,rfl,rfl,rfl,rfl,rfl,rfl⟩
  · exfalso
    omega
  · exfalso
    simp only [Prod.mk.injEq] at e0
    exact hno k p0 hp0 ⟨e0.1,e0.2,v0⟩
  · have hil:i < js.length:=by have:=(List.getElem?_eq_some_iff.1 hp).1;have:=hsh.len;omega
    obtain ⟨q,hq,e3,e4,_⟩:=hsh.eq i _ (List.getElem?_eq_getElem hil)
    rw [hp] at hq
    obtain rfl:=Option.some.inj hq
    have e5:js[i]=js[k]:=by
      unfold refOf at e3
      simp only [Prod.mk.injEq] at e3
      omega
    have hR:p.R=recOf ss js[k]:=by rw [e4,e5]
    refine ⟨rfl,⟨?_,by rw [List.length_append,hl.ln];rfl,?_,fun X hX=>?_⟩,?_⟩
    · rw [hR,hrc]
      exact h5
    · rw [List.take_add_one,hjk,List.map_append,List.map_append,hl.lr]
      simp [hR]
    · rcases List.mem_append.1 hX with hX | hX
      · exact hl.mem X hX
      · exact ⟨p,List.mem_of_getElem? hp,by simpa using hX⟩
    · rw [List.take_add_one,hjk,List.map_append]
      simp [hrf]
structure NwW (w:World) (b1 gM gR gh gx:Nat) (DM:Array Value) (s0 g0:Int) (wr:World) (vl:Value) (nl:Nat) (xl:List Value) (vr:Value) (nr:Nat) (xr:List Value) (s g:Int):Prop where
  lo:wr.ownsRow b1 33 15 vl nl xl
  ro:wr.ownsRow b1 23 2 vr nr xr
  bm:Blk wr gM 82 DM
  br:Blk wr gR 48 pgZ
  bh:Blk wr gh 23 #[.int .i64 s0,.int .i64 g0]
  bx:Blk wr gx 23 #[.int .i64 s,.int .i64 g]
  lt:gh < b1∧gx < b1∧gh≠gx∧w.heap.size≤gx∧w.heap.size≤b1∧b1≤wr.heap.size
  fr:Fr none_ w wr
section
variable {w:World} {b1 gM gR gh gx:Nat} {DM:Array Value} {s0 g0:Int} {wr w':World} {vl:Value} {nl:Nat} {xl:List Value} {vr:Value} {nr:Nat} {xr:List Value} {s g:Int}
theorem NwW.keep (h:NwW w b1 gM gR gh gx DM s0 g0 wr vl nl xl vr nr xr s g) (hf:Fr none_ wr w'):NwW w b1 gM gR gh gx DM s0 g0 w' vl nl xl vr nr xr s g:=
  ⟨own_none h.lo hf,own_none h.ro hf,h.bm.fr hf id,h.br.fr hf id,h.bh.fr hf id,h.bx.fr hf id,⟨h.lt.1,h.lt.2.1,h.lt.2.2.1,h.lt.2.2.2.1,h.lt.2.2.2.2.1,Nat.le_trans h.lt.2.2.2.2.2 hf.size⟩,h.fr.then_none hf⟩
theorem NwW.growL (h:NwW w b1 gM gR gh gx DM s0 g0 wr vl nl xl vr nr xr s g) {v2:Value} {n2:Nat} {x2:List Value} (ho:w'.ownsRow b1 33 15 v2 n2 x2) (hg:wr.grownBy w' vl.ownBlock):NwW w b1 gM gR gh gx DM s0 g0 w' v2 n2 x2 vr nr xr s g:=by
  have hf:Fr (fun b=>vl.ownBlock=some b) wr w':=Fr.grown (Fr.refl _ _) hg (fun k hk=>.inl hk)
  exact ⟨ho,own_side10 h.ro h.lo (by decide) hg,h.bm.fr hf (own_blk_ne h.lo h.bm (by decide)),h.br.fr hf (own_blk_ne h.lo h.br (by decide)),h.bh.fr hf (own_blk_ne h.lo h.bh (by decide)),h.bx.fr hf (own_blk_ne h.lo h.bx (by decide)),⟨h.lt.1,h.lt.2.1,h.lt.2.2.1,h.lt.2.2.2.1,h.lt.2.2.2.2.1,Nat.le_trans h.lt.2.2.2.2.2 hf.size⟩,h.fr.grown hg (fun b hb=>.inr (by have:=(h.lo.lt b hb).1;have:=h.lt.2.2.2.2.1;omega))⟩
theorem NwW.growR (h:NwW w b1 gM gR gh gx DM s0 g0 wr vl nl xl vr nr xr s g) {v2:Value} {n2:Nat} {x2:List Value} (ho:w'.ownsRow b1 23 2 v2 n2 x2) (hg:wr.grownBy w' vr.ownBlock):NwW w b1 gM gR gh gx DM s0 g0 w' vl nl xl v2 n2 x2 s g:=by
  have hf:Fr (fun b=>vr.ownBlock=some b) wr w':=Fr.grown (Fr.refl _ _) hg (fun k hk=>.inl hk)
  exact ⟨own_side10 h.lo h.ro (by decide) hg,ho,h.bm.fr hf (own_blk_ne h.ro h.bm (by decide)),h.br.fr hf (own_blk_ne h.ro h.br (by decide)),h.bh.fr hf (fun e=>by have:=(h.ro.lt gh e).1;have:=h.lt.1;omega),h.bx.fr hf (fun e=>by have:=(h.ro.lt gx e).1;have:=h.lt.2.1;omega),⟨h.lt.1,h.lt.2.1,h.lt.2.2.1,h.lt.2.2.2.1,h.lt.2.2.2.2.1,Nat.le_trans h.lt.2.2.2.2.2 hf.size⟩,h.fr.grown hg (fun b hb=>.inr (by have:=(h.ro.lt b hb).1;have:=h.lt.2.2.2.2.1;omega))⟩
theorem NwW.setx (h:NwW w b1 gM gR gh gx DM s0 g0 wr vl nl xl vr nr xr s g) {s' g':Int} (hw:w'=(wr.setCell ⟨gx,0,none⟩ (.int .i64 s')).setCell ⟨gx,1,none⟩ (.int .i64 g')):NwW w b1 gM gR gh gx DM s0 g0 w' vl nl xl vr nr xr s' g':=by
  obtain ⟨hb,hf⟩:=box2 h.bx (.int .i64 s') (.int .i64 g')
  rw [← hw] at hb hf
  exact ⟨own_far10 h.lo h.bx (by decide) hf,own_fr h.ro hf (fun k hk e=>by have e':k=gx:=e;have:=(h.ro.lt k hk).1;have:=h.lt.2.1;omega),h.bm.fr hf (only_ne (Blk.ne_ h.bm h.bx (by decide))),h.br.fr hf (only_ne (Blk.ne_ h.br h.bx (by decide))),h.bh.fr hf (only_ne h.lt.2.2.1),hb,⟨h.lt.1,h.lt.2.1,h.lt.2.2.1,h.lt.2.2.2.1,h.lt.2.2.2.2.1,Nat.le_trans h.lt.2.2.2.2.2 hf.size⟩,h.fr.then_only hf (.inr h.lt.2.2.2.1)⟩
end
def NowPost (ss:List Sl) (js:List Nat) (s0 g0:Int) (w:World) (e:Ending) (w':World):Prop:=
  ∃ (A:Option Addr) (cap:Nat) (D:Option Addr) (rc:Nat) (L:List Ch) (wv:Array Value) (k:Int),e=.returned (.tuple #[.agg wv,.int .i64 ((js.length:Int)+1),.int .i64 k])∧wv.size=21∧wv.all (·.oneCell')=true∧NowQ ss js s0 g0 A cap D rc L wv k w'∧Fr none_ w w'
def slLen:Value→Nat
  | .slice _ n _=>n
  | _=>0
set_option maxHeartbeats 16000000 in
theorem now10_ok {ss:List Sl} {js:List Nat} {s0 g0:Int} {LP:List RaP} {PA:Option Addr} {pc:Nat} {T:Option Addr} {tc:Nat} {C:Option Addr} {cn cc:Nat} (w:World) (hsh:Shw w ss js LP PA pc) (ht:ROwn w (.slice T 1 tc) [(0,s0,g0)]) (hli:Links ss js s0 g0) (hne:js≠[]) (hl:js.length≤100) (hss:ss.length≤100) (hpr:∀ j ∈ js,PRec (recOf ss j)) :
  Calls Tryz.prog 21 #[.agg (dmA lim10 100 99 (.slice PA js.length pc) 4 (.slice T 1 tc) 1 99 (.slice C cn cc) 0),.int .i64 0] w (NowPost ss js s0 g0 w):=by
 obtain ⟨DM,hDM⟩:∃ z,z=(dmA lim10 100 99 (.slice PA js.length pc) 4 (.slice T 1 tc) 1 99 (.slice C cn cc) 0):=⟨_,rfl⟩
 rw [← hDM]
 obtain ⟨w0,hw0⟩:∃ z,z=(w.alloc (.cells DM 82)).alloc (.cells pgZ 48):=⟨_,rfl⟩
 have f0:Fr none_ w w0:=by rw [hw0];exact ((Fr.refl none_ w).alloc _).alloc _
 have BM:Hid (Blk w0 w.heap.size 82 DM):=hid_ (by rw [hw0];exact (Blk.new w _ _).alloc _)
 have BR:Hid (Blk w0 (w.heap.size+1) 48 pgZ):=hid_ (by rw [hw0];exact Blk.new_at4 _ _ (by simp))
 have F0:=hid_ f0
 have SH:=hid_ hsh
 have TB:=hid_ ht
 have LI:=hid_ hli
 have HNE:=hid_ hne
 have HL:=hid_ hl
 have HSS:=hid_ hss
 have HPR:=hid_ hpr
 have HDM:=hid_ hDM
 have hz0:¬ (s0=0∧g0=0):=fun e=>hne ((links_zero hli).1 e)
 have HZ:=hid_ hz0
 have hn0:0 < js.length:=List.length_pos_iff.2 hne
 obtain ⟨i0,hi0,hy0,hs0,hb0⟩:=info_parts rec_info9
 have Hi:=hid_ (And.intro hi0 (And.intro hy0 (And.intro hs0 hb0)))
 obtain ⟨j0,hj0,hyj,hsj,hbj⟩:=info_parts ref_info9
 have Hj:=hid_ (And.intro hj0 (And.intro hyj (And.intro hsj hbj)))
 clear hi0 hy0 hs0 hb0 hj0 hyj hsj hbj f0 hsh ht hli hne hl hss hpr hz0 hDM
 go_enter Tryz.func21,Tryz.ntmps21
 go_upto_region 1 with fail
 change Code.wp _ _ _ _ ((w.alloc (.cells DM 82)).alloc (.cells pgZ 48))
 rw [← hw0]
 clear hw0
 obtain ⟨gM,hgM⟩:∃ g,g=w.heap.size:=⟨_,rfl⟩
 rw [← hgM] at BM BR
 rw [← hgM]
 have HGM:=hid_ hgM
 clear hgM
 have c9:w0.cell? ⟨gM,9,none⟩=some (.int .i64 4):=by have h:=BM.out;rw [HDM.out] at h;exact h.cell' rfl
 have c10:w0.cell? ⟨gM,10,none⟩=some (.slice T 1 tc):=by have h:=BM.out;rw [HDM.out] at h;exact h.cell' rfl
 go_wp2_with fail
 refine (rhead_ok 4 0 T tc [(0,s0,g0)] w0 (own_none TB.out F0.out) (by simp) (by omega) (by omega) 0 0 s0 g0 rfl rfl).mono ?_
 rintro e w1 ⟨rfl,hf1⟩
 replace BM:=hid_ (BM.out.fr hf1 id)
 replace BR:=hid_ (BR.out.fr hf1 id)
 replace F0:=hid_ (F0.out.then_none hf1)
 clear hf1 c9 c10
 go_upto_region 2 with fail
 obtain ⟨w2,hw2⟩:∃ z,z=w1.alloc (.cells #[.int .i64 s0,.int .i64 g0] 23):=⟨_,rfl⟩
 have K2:Hid (Blk w2 w1.heap.size 23 #[.int .i64 s0,.int .i64 g0]∧Fr none_ w1 w2):=hid_ (by rw [hw2];exact ⟨Blk.new w1 _ _,(Fr.refl none_ w1).alloc _⟩)
 change Code.wp _ _ _ _ (w1.alloc (.cells #[.int .i64 s0,.int .i64 g0] 23))
 rw [← hw2]
 clear hw2
 have BH:=hid_ K2.out.1
 obtain ⟨gh,hgh⟩:∃ g,g=w1.heap.size:=⟨_,rfl⟩
 rw [← hgh] at BH
 rw [← hgh]
 replace BM:=hid_ (BM.out.fr K2.out.2 id)
 replace BR:=hid_ (BR.out.fr K2.out.2 id)
 replace F0:=hid_ (F0.out.then_none K2.out.2)
 clear hgh K2
 have h0:w2.cell? ⟨gh,0,none⟩=some (.int .i64 s0):=BH.out.cell' rfl
 have h1:w2.cell? ⟨gh,1,none⟩=some (.int .i64 g0):=BH.out.cell' rfl
 have hq:∀ w',(binOp .eql 23 (.agg #[.int .i64 s0,.int .i64 g0]) (.agg #[.int .i64 0,.int .i64 0])).run Tryz.prog w'=.ok (.bool false) w':=fun w'=>by
  rw [eql_ref]
  have e:(s0==0 && g0==0)=false:=by simpa using HZ.out
  rw [e]
 go_upto_region 8 with fail
 go_upto_region 9 with fail
 clear hq
 obtain ⟨w3,hw3⟩:∃ z,z=w2.alloc (.cells #[.int .i64 s0,.int .i64 g0] 23):=⟨_,rfl⟩
 have K3:Hid (Blk w3 w2.heap.size 23 #[.int .i64 s0,.int .i64 g0]∧Fr none_ w2 w3):=hid_ (by rw [hw3];exact ⟨Blk.new w2 _ _,(Fr.refl none_ w2).alloc _⟩)
 skip
 change Code.wp _ _ _ _ (w2.alloc (.cells #[.int .i64 s0,.int .i64 g0] 23))
 rw [← hw3]
 clear hw3
 obtain ⟨gx,hgx⟩:∃ g,g=w2.heap.size:=⟨_,rfl⟩
 have NW:Hid (NwW w w3.heap.size gM (gM+1) gh gx DM s0 g0 w3 (.slice none 0 0) 0 [] (.slice none 0 0) 0 [] s0 g0):=hid_ (by
  have h2:=BH.out.lt
  have h3:=K3.out.1.lt
  have h4:=(F0.out).size
  have h5:=(F0.out.then_none K3.out.2).size
  exact ⟨World.ownsRow_nil _ _ _ _,World.ownsRow_nil _ _ _ _,BM.out.fr K3.out.2 id,BR.out.fr K3.out.2 id,BH.out.fr K3.out.2 id,by rw [hgx];exact K3.out.1,by omega,F0.out.then_none K3.out.2⟩)
 rw [← hgx]
 obtain ⟨b1,hb1⟩:∃ b,b=w3.heap.size:=⟨_,rfl⟩
 rw [← hb1] at NW
 clear hgx hb1 K3 BM BR BH F0 h0 h1
 have NL:Hid (NwL ss js LP 0 [] s0 g0):=hid_ ⟨LI.out,rfl,rfl,fun X hX=>by cases hX⟩
 go_loopw [9,10] (fun v r wr=>∃ (k:Nat) (Ls:List Ch) (A:Option Addr) (c:Nat) (D:Option Addr) (d:Nat) (s g:Int),k < js.length∧v=.slice A k c∧r=.slice D k d∧NwL ss js LP k Ls s g∧NwW w b1 gM (gM+1) gh gx DM s0 g0 wr (.slice A k c) k (recFlat Ls) (.slice D k d) k (rpFlat ((js.take k).map (refOf ss))) s g) (fun v _ _=>js.length - slLen v)
 case atStart=>exact ⟨0,[],none,0,none,0,s0,g0,hn0,rfl,rfl,NL.out,NW.out⟩
 case round =>
  obtain ⟨k,Ls,A,c,D,d,s,g,hk,rfl,rfl,hnl,hnw⟩:=hrel
  have N:=hid_ hnw
  have NLk:=hid_ hnl
  have HK:=hid_ hk
  clear hnl hnw NL NW
  have hk1:(k:Int)≤100:=by have:=HL.out;omega
  have hk0:(0:Int)≤(k:Int):=Int.natCast_nonneg _
  have SHr:=hid_ (SH.out.keep N.out.fr)
  have c6:wr.cell? ⟨gM,6,none⟩=some (.int .i64 100):=by have h:=N.out.bm;rw [HDM.out] at h;exact h.cell' rfl
  have c7:wr.cell? ⟨gM,7,none⟩=some (.int .i64 99):=by have h:=N.out.bm;rw [HDM.out] at h;exact h.cell' rfl
  have c8:wr.cell? ⟨gM,8,none⟩=some (.slice PA js.length pc):=by have h:=N.out.bm;rw [HDM.out] at h;exact h.cell' rfl
  have x0:wr.cell? ⟨gx,0,none⟩=some (.int .i64 s):=N.out.bx.cell' rfl
  have x1:wr.cell? ⟨gx,1,none⟩=some (.int .i64 g):=N.out.bx.cell' rfl
  have HLD:Hid (Calls Tryz.prog 55 #[.agg #[.int .i64 100,.int .i64 99,.slice PA js.length pc],.agg #[.int .i64 s,.int .i64 g]] wr (RLoadPost 100 LP s g wr)):=hid_ (by
   have h:Calls Tryz.prog 55 #[.agg #[.int .i64 100,.int .i64 99,.slice PA LP.length pc],.agg #[.int .i64 s,.int .i64 g]] wr (RLoadPost 100 LP s g wr):=rload_ok 100 99 LP PA pc s g wr SHr.out.ra
   rw [SHr.out.len] at h
   exact h)
  go_wp2_with fail
  refine HLD.out.mono ?_
  rintro e w4 ⟨R,LA,LB,lc,ld,kk,hld,rfl,hrr,hz,hf4⟩
  obtain ⟨rfl,hnl,hrefs⟩:=now_load SHr.out NLk.out HK.out HSS.out hld
  have NLn:=hid_ hnl
  have HRF:=hid_ hrefs
  replace N:=hid_ (N.out.keep hf4)
  clear hnl hrefs hld hrr hz hf4 HLD c6 c7 c8 x0 x1
  go_upto_region 10 with (refine wpList_store_mid rfl 33 (.tmp 12) (.tmp 37) rfl w4.heap.size 0 (recL ⟨R,LA,lc,LB,ld⟩).toArray rfl rfl (new_there w4 _ recZ8) rec_size8 (rec_one ⟨R,LA,lc,LB,ld⟩) ?_;obtain ⟨w5,hw5⟩:∃ z,z=(w4.alloc (.cells recZ8 33)).setCells w4.heap.size 0 (recL ⟨R,LA,lc,LB,ld⟩):=⟨_,rfl⟩;change wpList _ _ _ _ _ ((w4.alloc (.cells recZ8 33)).setCells w4.heap.size 0 (recL ⟨R,LA,lc,LB,ld⟩));rw [← hw5];have Q5:Hid (Blk w5 w4.heap.size 33 (recL ⟨R,LA,lc,LB,ld⟩).toArray∧Fr none_ w4 w5):=hid_ (by rw [hw5];exact new_copy w4 _ recZ8 _ rfl);clear hw5)
  obtain ⟨gc,hgc⟩:∃ g,g=w4.heap.size:=⟨_,rfl⟩
  have BC:=hid_ Q5.out.1
  rw [← hgc] at BC
  rw [← hgc]
  have HGC:Hid (b1≤gc):=hid_ (by rw [hgc];exact N.out.lt.2.2.2.2.2)
  have NGC:Hid (∀ i,(Value.slice A k c).ownBlock=some i→i≠gc):=hid_ (fun i hi=>by have:=(N.out.lo.lt i hi).2;omega)
  replace N:=hid_ (N.out.keep Q5.out.2)
  clear hgc Q5
  go_upto_region 13 with (first | (refine wpList_load_mid rfl 33 (.tmp 12) rfl gc 0 rfl (recL ⟨R,LA,lc,LB,ld⟩) _ (Blk.range0n BC.out) Tryz.underlying33 rfl rec_size8 ?_) | (at_builtin;refine wpList_append_any _ rfl (.tmp 46) (.tmp 48) 24 rfl b1 33 i0 _ 15 192 Tryz.underlying24 Hi.out.1 Hi.out.2.1 Hi.out.2.2.1 Hi.out.2.2.2 rfl (by omega) (.slice A k c) k (recFlat Ls) rfl (N.out.lo.alloc _) (some ⟨w5.heap.size,0,none⟩) 1 1 (recL ⟨R,LA,lc,LB,ld⟩) rfl (reads_new w5 _ (recL ⟨R,LA,lc,LB,ld⟩) _ rfl) (by simp [Value.oneCell']) (by simp only [maxLen];omega) (by omega) (by have h9:=N.out.lt.2.2.2.2.2;simp;omega) ?_;intro A3 c3 w6 hown6 hgr6))
  have N6:Hid (NwW w b1 gM (gM+1) gh gx DM s0 g0 w6 (.slice A3 (k+1) c3) (k+1) (recFlat (Ls ++ [⟨R,LA,lc,LB,ld⟩])) (.slice D k d) k (rpFlat ((js.take k).map (refOf ss))) s g):=hid_ ((N.out.keep ((Fr.refl none_ w5).alloc _)).growL (by
   rw [recFlat_app]
   have e:recFlat [(⟨R,LA,lc,LB,ld⟩:Ch)]=recL ⟨R,LA,lc,LB,ld⟩:=by simp [recFlat]
   rw [e]
   exact hown6) hgr6)
  replace BC:=hid_ ((BC.out.alloc (.cells (recL ⟨R,LA,lc,LB,ld⟩).toArray 33)).fr (Fr.grown (S:=fun b=>(Value.slice A k c).ownBlock=some b) (Fr.refl _ _) hgr6 (fun k hk=>.inl hk)) (fun e=>NGC.out gc e rfl))
  clear hown6 hgr6 N NGC
  have x0:w6.cell? ⟨gx,0,none⟩=some (.int .i64 s):=N6.out.bx.cell' rfl
  have x1:w6.cell? ⟨gx,1,none⟩=some (.int .i64 g):=N6.out.bx.cell' rfl
  go_upto_region 14 with (at_builtin;refine wpList_append_any _ rfl (.tmp 50) (.tmp 52) 27 rfl b1 23 j0 _ 2 16 Tryz.underlying27 Hj.out.1 Hj.out.2.1 Hj.out.2.2.1 Hj.out.2.2.2 rfl (by omega) (.slice D k d) k (rpFlat ((js.take k).map (refOf ss))) rfl (N6.out.ro.alloc _) (some ⟨w6.heap.size,0,none⟩) 1 1 [.int .i64 s,.int .i64 g] rfl (reads_new w6 _ [.int .i64 s,.int .i64 g] _ rfl) (by simp [Value.oneCell']) (by simp only [maxLen];omega) (by omega) (by have h9:=N6.out.lt.2.2.2.2.2;simp;omega) ?_;intro A4 c4 w7 hown7 hgr7)
  have N7:Hid (NwW w b1 gM (gM+1) gh gx DM s0 g0 w7 (.slice A3 (k+1) c3) (k+1) (recFlat (Ls ++ [⟨R,LA,lc,LB,ld⟩])) (.slice A4 (k+1) c4) (k+1) (rpFlat ((js.take (k+1)).map (refOf ss))) s g):=hid_ ((N6.out.keep ((Fr.refl none_ w6).alloc _)).growR (by
   rw [HRF.out]
   have e:rpFlat ((js.take k).map (refOf ss) ++ [(s,g)])=rpFlat ((js.take k).map (refOf ss)) ++ [.int .i64 s,.int .i64 g]:=by simp [rpFlat]
   rw [e]
   exact hown7) hgr7)
  replace BC:=hid_ ((BC.out.alloc (.cells #[.int .i64 s,.int .i64 g] 23)).fr (Fr.grown (S:=fun b=>(Value.slice D k d).ownBlock=some b) (Fr.refl _ _) hgr7 (fun k hk=>.inl hk)) (fun e=>own_blk_ne (N6.out.ro.alloc (.cells #[.int .i64 s,.int .i64 g] 23)) (BC.out.alloc (.cells #[.int .i64 s,.int .i64 g] 23)) (by decide) e))
  clear hown7 hgr7 N6 x0 x1
  have x0:w7.cell? ⟨gx,0,none⟩=some (.int .i64 s):=N7.out.bx.cell' rfl
  have x1:w7.cell? ⟨gx,1,none⟩=some (.int .i64 g):=N7.out.bx.cell' rfl
  have y0:=N7.out.bx.frozen 0
  have y1:=N7.out.bx.frozen 1
  have r13:w7.cell? ⟨gc,13,none⟩=some (.int .i64 R.nslot):=BC.out.cell' rfl
  have r14:w7.cell? ⟨gc,14,none⟩=some (.int .i64 R.ngen):=BC.out.cell' rfl
  go_upto_region 15 with fail
  obtain ⟨w8,hw8⟩:∃ z,z=(w7.setCell ⟨gx,0,none⟩ (.int .i64 R.nslot)).setCell ⟨gx,1,none⟩ (.int .i64 R.ngen):=⟨_,rfl⟩
  have N8:=hid_ (N7.out.setx hw8)
  change Code.wp _ _ _ _ ((w7.setCell ⟨gx,0,none⟩ (.int .i64 R.nslot)).setCell ⟨gx,1,none⟩ (.int .i64 R.ngen))
  rw [← hw8]
  clear hw8 x0 x1 y0 y1 r13 r14 N7 BC
  have x0:w8.cell? ⟨gx,0,none⟩=some (.int .i64 R.nslot):=N8.out.bx.cell' rfl
  have x1:w8.cell? ⟨gx,1,none⟩=some (.int .i64 R.ngen):=N8.out.bx.cell' rfl
  have HZN:Hid (R.nslot=0∧R.ngen=0 ↔ k+1=js.length):=hid_ (by
   rw [links_zero NLn.out.li,List.drop_eq_nil_iff]
   have:=HK.out
   omega)
  by_cases hlast:k+1=js.length
  ·have hq:∀ w',(binOp .eql 23 (.agg #[.int .i64 R.nslot,.int .i64 R.ngen]) (.agg #[.int .i64 0,.int .i64 0])).run Tryz.prog w'=.ok (.bool true) w':=fun w'=>by
    rw [eql_ref]
    have e:=HZN.out.2 hlast
    rw [e.1,e.2]
    rfl
   have HLS:=hid_ hlast
   clear hlast
   have h0:w8.cell? ⟨gh,0,none⟩=some (.int .i64 s0):=N8.out.bh.cell' rfl
   have h1:w8.cell? ⟨gh,1,none⟩=some (.int .i64 g0):=N8.out.bh.cell' rfl
   obtain ⟨L2,hL2⟩:∃ L2,L2=Ls ++ [(⟨R,LA,lc,LB,ld⟩:Ch)]:=⟨_,rfl⟩
   have HM2:Hid (∀ X ∈ L2,∃ p ∈ LP,X=chP p):=hid_ (by rw [hL2];exact NLn.out.mem)
   have HR2:Hid (L2.map (·.R)=js.map (recOf ss)):=hid_ (by
    have e:=NLn.out.lr
    rw [List.take_of_length_le (by have:=HLS.out;omega)] at e
    rw [hL2]
    exact e)
   have HP2:Hid (∀ X ∈ L2,PRec X.R):=hid_ (fun X hX=>by
    have hm:X.R ∈ L2.map (·.R):=List.mem_map.2 ⟨X,hX,rfl⟩
    rw [HR2.out] at hm
    obtain ⟨j,hj,e⟩:=List.mem_map.1 hm
    rw [← e]
    exact HPR.out j hj)
   have HCK:Hid (∀ w',Fr none_ w w'→∀ X ∈ L2,ChOk w' X):=hid_ (fun w' hf X hX=>by
    obtain ⟨p,hp,rfl⟩:=HM2.out X hX
    have h1:=(SH.out.keep hf).ra.recs p hp
    have h2:=HP2.out _ hX
    have h3:=SH.out.cap p hp
    exact ⟨h1,h2.ok.low,h2.ok.high,h2.ok.key,h2.ok.hkey,h2.ok.ents,h3.2.1,h3.2.2⟩)
   have HCR:Hid (ChReads w8 A3 (k+1) L2):=hid_ (chReads_own (by have:=N8.out.lo;rw [← hL2] at this;exact this) (by rw [hL2];exact NLn.out.ln) (HCK.out _ N8.out.fr))
   have HRR:Hid (Reads w8 2 A4 (k+1) (rpFlat (js.map (refOf ss)))):=hid_ (by
    have e:=Reads.of_own N8.out.ro
    rw [List.take_of_length_le (by have:=HLS.out;omega)] at e
    exact e)
   go_wp2_with fail
   have HOWN:Hid (∀ w',Fr none_ w w'→∀ X ∈ L2,RecOwn w' 0 X.R (.slice X.A X.R.rows.length X.c) (.slice X.B X.R.ents.length X.d)):=hid_ (fun w' hf X hX=>by
    obtain ⟨p,hp,rfl⟩:=HM2.out X hX
    exact (SH.out.keep hf).own p hp)
   refine (rof_okD 0 0 s0 g0 A3 (k+1) c3 L2 A4 (k+1) c4 w8 HCR.out (by have:=HL.out;have:=HLS.out;omega) (fun X hX=>⟨(HP2.out X hX).val,(HP2.out X hX).rows,(HP2.out X hX).zr⟩) (fun X hX=>by
    obtain ⟨p,hp,rfl⟩:=HM2.out X hX
    exact (SH.out.cap p hp).1) (fun X hX=>(HP2.out X hX).ze) (Nat.zero_le _) (fun X hX=>(HOWN.out _ N8.out.fr X hX).r) (fun X hX=>(HOWN.out _ N8.out.fr X hX).e)).mono ?_
   intro e w9 hpost
   obtain ⟨wv,kw,rfl,hws,hwo,hwq,hf9⟩:=pgD_of hpost
   have PW:=hid_ hwq
   have N9:=hid_ (N8.out.keep hf9)
   have F89:=hid_ hf9
   clear hpost hwq hf9 hq x0 x1 h0 h1
   go_upto_region 17 with (refine wpList_store_mid rfl 48 (.tmp 14) (.tmp 65) rfl w9.heap.size 0 wv rfl rfl (by rw [hws];exact new_there w9 _ pgZ) (by rw [hws];exact rpage_size) hwo ?_;obtain ⟨w10,hw_⟩:∃ z,z=(w9.alloc (.cells pgZ 48)).setCells w9.heap.size 0 wv.toList:=⟨_,rfl⟩;change wpList _ _ _ _ _ ((w9.alloc (.cells pgZ 48)).setCells w9.heap.size 0 wv.toList);rw [← hw_];have Q10:Hid (Blk w10 w9.heap.size 48 wv∧Fr none_ w9 w10):=hid_ (by rw [hw_];have h9:=new_copy w9 48 pgZ wv.toList (by rw [Array.length_toList,hws];rfl);simpa using h9);clear hw_)
   obtain ⟨gq,hgq⟩:∃ g,g=w9.heap.size:=⟨_,rfl⟩
   have BQ:=hid_ Q10.out.1
   rw [← hgq] at BQ
   rw [← hgq]
   have N10:=hid_ (N9.out.keep Q10.out.2)
   have HGR:Hid (w.heap.size≤gM+1):=hid_ (by have:=HGM.out;omega)
   have F90:Hid (Fr none_ w8 w10):=hid_ (F89.out.then_none Q10.out.2)
   have F910:=hid_ Q10.out.2
   clear hgq Q10 N9 F89
   have hk2:((k:Int)+1)=(js.length:Int):=by have:=HLS.out;omega
   have HK2:=hid_ hk2
   clear hk2
   go_wp2_with (first | (refine wpList_load_mid rfl 48 (.tmp 14) rfl gq 0 rfl wv.toList _ (Blk.range0n BQ.out) Tryz.underlying48 rfl (by rw [Array.length_toList,hws];exact rpage_size) ?_) | (refine wpList_store_mid rfl 48 (.tmp 4) (.tmp 67) rfl (gM+1) 0 wv rfl rfl (by rw [hws];exact N10.out.br.thereN (Nat.le_of_ble_eq_true rfl)) (by rw [hws];exact rpage_size) hwo ?_;have ov:=N10.out.br.over7 wv.toList (by rw [Array.length_toList,hws];rfl);obtain ⟨w11,hw11⟩:∃ z,z=w10.setCells (gM+1) 0 wv.toList:=⟨_,rfl⟩;rw [← hw11] at ov;change wpList _ _ _ _ _ (w10.setCells (gM+1) 0 wv.toList);rw [← hw11];have OV:=hid_ ov;clear hw11 ov))
   have OFF:OffRows w10 (only (gM+1)):=OffRows.only N10.out.br (by unfold RowT;decide)
   have PW11:=hid_ ((PW.out.fr F910.out (OffRows.none_ _)).fr OV.out.2 OFF)
   have FIN:Hid (NowQ ss js s0 g0 A3 c3 A4 c4 L2 wv kw w11∧Fr none_ w w11):=hid_ (by
    have hkl:k+1=js.length:=HLS.out
    have hF:Fr none_ w w11:=N10.out.fr.then_only OV.out.2 (.inr HGR.out)
    have o1:=own_base (own_far10 N10.out.lo N10.out.br (by decide) OV.out.2) (Nat.zero_le _)
    have o2:=own_base (own_far10 N10.out.ro N10.out.br (by decide) OV.out.2) (Nat.zero_le _)
    rw [← hL2,hkl] at o1
    rw [List.take_of_length_le (by omega),hkl] at o2
    refine ⟨⟨?_,HR2.out,o1,o2,HOWN.out _ hF,HP2.out⟩,hF⟩
    rw [← hkl]
    exact PW11.out)
   have HE:Hid (((k:Int)+1+1)=(js.length:Int)+1):=hid_ (by have:=HK2.out;omega)
   refine bodyPost_ret (results_cell_tmp_tmp7 _ _ rfl (gM+1) 0 wv.toList _ rfl (Blk.range7 (l:=wv.toList) OV.out.1) Tryz.underlying48 rfl (by rw [Array.length_toList,hws];exact rpage_size)) rfl ⟨A3,c3,A4,c4,L2,wv,kw,(by rw [← HE.out] <;> rfl),hws,hwo,FIN.out.1,FIN.out.2⟩
  ·have hq:∀ w',(binOp .eql 23 (.agg #[.int .i64 R.nslot,.int .i64 R.ngen]) (.agg #[.int .i64 0,.int .i64 0])).run Tryz.prog w'=.ok (.bool false) w':=fun w'=>by
    rw [eql_ref]
    have h9:¬ (R.nslot=0∧R.ngen=0):=fun e=>hlast (HZN.out.1 e)
    have e:(R.nslot==0 && R.ngen==0)=false:=by simpa using h9
    rw [e]
   have hlt2:k+1 < js.length:=by have:=HK.out;omega
   have HLT:=hid_ hlt2
   have d1:decide (100≤(k:Int)+1)=false:=decide_eq_false (by have:=HL.out;omega)
   have c0:w8.cell? ⟨gM,0,none⟩=some (.int .i64 100):=by have h:=N8.out.bm;rw [HDM.out] at h;exact h.cell' rfl
   clear hlast hlt2
   go_wp2_with fail
   go_roundw
   case rel=>exact ⟨k+1,Ls ++ [⟨R,LA,lc,LB,ld⟩],A3,c3,A4,c4,R.nslot,R.ngen,HLT.out,rfl,rfl,NLn.out,N8.out⟩
   case measure=>simp [slLen];have:=HLT.out;omega
end Go.Proofs.YtfihfjbakfadkaaGreatDoor
