/- Texts of one proof, merged: Pl9, Dcr12, Sma12, Same4, Sam12, Ply12, Pls12, Con12, Trn12, Rr12. -/
import Derived.Deep.DeepCutAuto
import Derived.BigQuiet
import Derived.WalkSpells
import Derived.WalkLawsBesides
import Derived.Deep.QuietTactic
import Derived.Test.YthcpccddcgbanaaGreatDoorPiC
import Derived.Test.YthcpccddcgbanaaGreatDoorPiG
import Derived.Test.YthcpccddcgbanaaGreatDoorPiI
import Derived.Test.YthcpccddcgbanaaGreatDoorPiK
import Derived.Test.YthcpccddcgbanaaGreatDoorPiO
import Derived.Test.YthcpccddcgbanaaGreatDoorPiS
import Derived.Test.YthcpccddcgbanaaGreatDoorPiYC
import Derived.Test.YthcpccddcgbanaaGreatDoorPiYE
import Derived.Test.YthcpccddcgbanaaGreatDoorPiYF
namespace Go.Proofs.YthcpccddcgbanaaGreatDoor
set_option maxRecDepth 100000
set_option linter.unusedVariables false
open Go.RowKit

theorem find_uniq {L:List RaP} {s g:Int} {i j:Nat} (h:FindIs L s g i) (h':FindIs L s g j):i=j:=by
  rcases h with ⟨a,p,e,hp,p1,p2,p3,hb⟩ | ⟨e,_⟩
  · rcases h' with ⟨b,q,e',hq,q1,q2,q3,hc⟩ | ⟨e',_⟩
    · obtain rfl:i=a:=by omega
      obtain rfl:j=b:=by omega
      rcases Nat.lt_trichotomy i j with hlt | heq | hgt
      · exact absurd ⟨p1,p2,p3⟩ (hc i p hlt hp)
      · exact heq
      · exact absurd ⟨q1,q2,q3⟩ (hb j q hgt hq)
    · omega
  · omega
theorem rload_det {slots:Int} {LP:List RaP} {s g:Int} {R:Rc} {A B:Option Addr} {c d:Nat} {k:Int} {R':Rc} {A' B':Option Addr} {c' d':Nat} {k':Int} (h:RLoadIs slots LP s g R A B c d k) (h':RLoadIs slots LP s g R' A' B' c' d' k'):k=k'∧R=R':=by
  rcases h with ⟨a1,hR,_,_,_,_,hk⟩ | ⟨a1,a2,hR,_,_,_,_,hk⟩ | ⟨a1,i,p,a2,a3,a4,a5,a6,hR,_,_,_,_,hk⟩
  · rcases h' with ⟨b1,hR',_,_,_,_,hk'⟩ | ⟨b1,b2,hR',_,_,_,_,hk'⟩ | ⟨b1,j,q,b2,b3,b4,b5,b6,hR',_,_,_,_,hk'⟩
    · exact ⟨hk.trans hk'.symm,hR.trans hR'.symm⟩
    · exact absurd b1 a1
    · exact absurd b1 a1
  · rcases h' with ⟨b1,hR',_,_,_,_,hk'⟩ | ⟨b1,b2,hR',_,_,_,_,hk'⟩ | ⟨b1,j,q,b2,b3,b4,b5,b6,hR',_,_,_,_,hk'⟩
    · exact absurd a1 b1
    · exact ⟨hk.trans hk'.symm,hR.trans hR'.symm⟩
    · exact absurd ⟨b4,b5,b6⟩ (a2 j q b3)
  · rcases h' with ⟨b1,hR',_,_,_,_,hk'⟩ | ⟨b1,b2,hR',_,_,_,_,hk'⟩ | ⟨b1,j,q,b2,b3,b4,b5,b6,hR',_,_,_,_,hk'⟩
    · exact absurd a1 b1
    · exact absurd ⟨a4,a5,a6⟩ (b2 i p a3)
    · obtain rfl:=find_uniq a2 b2
      rw [a3] at b3
      obtain rfl:=Option.some.inj b3
      exact ⟨hk.trans hk'.symm,hR.trans hR'.symm⟩
section
variable {slots:Int} {LP:List RaP} {s0 g0:Int} {cap:Nat}
theorem dpth_det {rs:List (Int × Int)} {s g:Int} (h:DPth slots LP s0 g0 rs s g):∀ {rs':List (Int × Int)} {s' g':Int},DPth slots LP s0 g0 rs' s' g'→rs.length=rs'.length→rs=rs'∧s=s'∧g=g':=by
  induction h with
  | nil =>
    intro rs' s' g' h' hl
    cases h' with
    | nil=>exact ⟨rfl,rfl,rfl⟩
    | snoc h hz hl'=>simp at hl
  | snoc h hz hl ih =>
    intro rs' s' g' h' hlen
    cases h' with
    | nil=>simp at hlen
    | snoc h' hz' hl' =>
      obtain ⟨e1,e2,e3⟩:=ih h' (by simpa using hlen)
      subst e1
      subst e2
      subst e3
      obtain ⟨_,e⟩:=rload_det hl hl'
      subst e
      exact ⟨rfl,rfl,rfl⟩
theorem dpth_pre {rs:List (Int × Int)} {s g:Int} (h:DPth slots LP s0 g0 rs s g):∀ (n:Nat),n < rs.length→∃ (s' g':Int) (R:Rc) (A B:Option Addr) (c d:Nat),DPth slots LP s0 g0 (rs.take n) s' g'∧¬ (s'=0∧g'=0)∧RLoadIs slots LP s' g' R A B c d 0:=by
  induction h with
  | nil=>intro n hn;simp at hn
  | @snoc pre s g R A B c d h hz hl ih =>
    intro n hn
    rw [List.length_append] at hn
    simp only [List.length_cons,List.length_nil] at hn
    rcases Nat.lt_or_ge n pre.length with hlt | hge
    · obtain ⟨s',g',R',A',B',c',d',h1,h2,h3⟩:=ih n hlt
      refine ⟨s',g',R',A',B',c',d',?_,h2,h3⟩
      rw [List.take_append_of_le_length (by omega)]
      exact h1
    · obtain rfl:n=pre.length:=by omega
      refine ⟨s,g,R,A,B,c,d,?_,hz,hl⟩
      rw [List.take_left]
      exact h
def DS (slots:Int) (cap:Nat) (LP:List RaP) (rs:List (Int × Int)) (s g K:Int):Prop:=
  ((s=0∧g=0)∧K=0∧rs.length≤cap)∨(¬ (s=0∧g=0)∧rs.length=cap∧K=10)∨(¬ (s=0∧g=0)∧rs.length < cap∧K≠0∧∃ (R:Rc) (A B:Option Addr) (c d:Nat),RLoadIs slots LP s g R A B c d K)
theorem DS.le {rs:List (Int × Int)} {s g K:Int} (h:DS slots cap LP rs s g K):rs.length≤cap:=by
  rcases h with ⟨_,_,h⟩ | ⟨_,h,_⟩ | ⟨_,h,_⟩ <;> omega
theorem ds_no {rs rs':List (Int × Int)} {s g K s' g' K':Int} (h:DPth slots LP s0 g0 rs s g) (hd:DS slots cap LP rs s g K) (h':DPth slots LP s0 g0 rs' s' g') (hd':DS slots cap LP rs' s' g' K') (hlt:rs.length < rs'.length):False:=by
  obtain ⟨s1,g1,R,A,B,c,d,h1,h2,h3⟩:=dpth_pre h' rs.length hlt
  obtain ⟨_,e2,e3⟩:=dpth_det h h1 (by rw [List.length_take];omega)
  subst e2
  subst e3
  have hle:=hd'.le
  rcases hd with ⟨hz,_⟩ | ⟨_,hc,_⟩ | ⟨_,_,hK,R2,A2,B2,c2,d2,hl⟩
  · exact h2 hz
  · omega
  · exact hK (rload_det hl h3).1
theorem ds_det {rs rs':List (Int × Int)} {s g K s' g' K':Int} (h:DPth slots LP s0 g0 rs s g) (hd:DS slots cap LP rs s g K) (h':DPth slots LP s0 g0 rs' s' g') (hd':DS slots cap LP rs' s' g' K'):rs=rs'∧K=K':=by
  rcases Nat.lt_trichotomy rs.length rs'.length with hlt | heq | hgt
  · exact (ds_no h hd h' hd' hlt).elim
  · obtain ⟨e1,e2,e3⟩:=dpth_det h h' heq
    subst e1
    subst e2
    subst e3
    refine ⟨rfl,?_⟩
    rcases hd with ⟨hz,hk,_⟩ | ⟨hz,hc,hk⟩ | ⟨hz,hc,hK,R2,A2,B2,c2,d2,hl⟩
    · rcases hd' with ⟨hz',hk',_⟩ | ⟨hz',hc',hk'⟩ | ⟨hz',hc',hK',R2,A2,B2,c2,d2,hl'⟩
      · exact hk.trans hk'.symm
      · exact absurd hz hz'
      · exact absurd hz hz'
    · rcases hd' with ⟨hz',hk',_⟩ | ⟨hz',hc',hk'⟩ | ⟨hz',hc',hK',R2,A2,B2,c2,d2,hl'⟩
      · exact absurd hz' hz
      · exact hk.trans hk'.symm
      · omega
    · rcases hd' with ⟨hz',hk',_⟩ | ⟨hz',hc',hk'⟩ | ⟨hz',hc',hK',R3,A3,B3,c3,d3,hl'⟩
      · exact absurd hz' hz
      · omega
      · exact (rload_det hl hl').1
  · exact (ds_no h' hd' h hd hgt).elim
def DRes (slots:Int) (cap:Nat) (LP:List RaP) (s0 g0:Int) (out:List (Int × Int)) (K:Int):Prop:=
  ∃ (rs:List (Int × Int)) (s g:Int),DPth slots LP s0 g0 rs s g∧DS slots cap LP rs s g K∧out=(if K=0 then rs else [])
theorem dres_det {out out':List (Int × Int)} {K K':Int} (h:DRes slots cap LP s0 g0 out K) (h':DRes slots cap LP s0 g0 out' K'):out=out'∧K=K':=by
  obtain ⟨rs,s,g,h1,h2,h3⟩:=h
  obtain ⟨rs',s',g',h1',h2',h3'⟩:=h'
  obtain ⟨e1,e2⟩:=ds_det h1 h2 h1' h2'
  subst e1
  subst e2
  exact ⟨h3.trans h3'.symm,rfl⟩
theorem DRes.le {out:List (Int × Int)} {K:Int} (h:DRes slots cap LP s0 g0 out K):out.length≤cap:=by
  obtain ⟨rs,s,g,h1,h2,rfl⟩:=h
  split
  · exact h2.le
  · exact Nat.zero_le _
structure Sim9 (slots:Int) (LP:List RaP) (ss:List Sl):Prop where
  live:∀ (j:Nat) (y:Sl),ss[j]?=some y→y.used=true→∃ (A B:Option Addr) (c d:Nat),RLoadIs slots LP ((j:Int)+1) y.gen y.R A B c d 0
  dead:∀ (s g:Int),atC ss s g≠0→∃ (R:Rc) (A B:Option Addr) (c d:Nat),RLoadIs slots LP s g R A B c d (atC ss s g)
theorem Sim9.path {ss:List Sl} (hs:Sim9 slots LP ss) {js:List Nat} {s g:Int} (h:Pth ss s0 g0 js s g):DPth slots LP s0 g0 (js.map (refOf ss)) s g:=by
  induction h with
  | nil=>exact .nil
  | @snoc pre s g h j y h1 h2 h3 h4 ih =>
    obtain ⟨A,B,c,d,hl⟩:=hs.live j y h2 h3
    rw [← h1,h4] at hl
    rw [List.map_append]
    have e:[j].map (refOf ss)=[(s,g)]:=by
      show [refOf ss j]=_
      unfold refOf
      rw [slotD h2,h1,h4]
    rw [e]
    exact .snoc ih (by omega) hl
def HErr (w:World) (v:Value) (K:Int):Prop:=(K=0∧v=.nilIface)∨(K≠0∧∃ E:Er2,ErAt w E v∧E.first=K)
theorem HErr.keep {w w':World} {v:Value} {K:Int} (h:HErr w v K) (hf:Fr none_ w w'):HErr w' v K:=by
  rcases h with h | ⟨h,E,h1,h2⟩
  · exact .inl h
  · exact .inr ⟨h,E,h1.keep hf,h2⟩
end
open Go.RowKit Go.BigFrame

inductive RsLs (slots:Int) (LP:List RaP):List (Int × Int)→List Ch→Prop where
  | nil:RsLs slots LP [] []
  | snoc {rs:List (Int × Int)} {Ls:List Ch} {s g:Int} {R:Rc} {A B:Option Addr} {c d:Nat} (h:RsLs slots LP rs Ls) (hl:RLoadIs slots LP s g R A B c d 0):RsLs slots LP (rs ++ [(s,g)]) (Ls ++ [⟨R,A,c,B,d⟩])
theorem RsLs.len {slots:Int} {LP:List RaP} {rs:List (Int × Int)} {Ls:List Ch} (h:RsLs slots LP rs Ls):Ls.length=rs.length:=by
  induction h with
  | nil=>rfl
  | snoc h hl ih=>simp [ih]
def DChainR (slots:Int) (cap:Nat) (LP:List RaP) (s0 g0:Int) (w:World) (e:Ending) (w':World):Prop:=
  (∃ (rs:List (Int × Int)) (Ls:List Ch) (A:Option Addr) (c:Nat) (D:Option Addr) (d:Nat),DPth slots LP s0 g0 rs 0 0∧rs.length≤cap∧e=.returned (.tuple #[.slice A rs.length c,.slice D rs.length d,.int .i64 0])∧Reads w' 2 D rs.length (rpFlat rs)∧Reads w' 15 A rs.length (recFlat Ls)∧RsLs slots LP rs Ls∧Fr none_ w w') ∨
  (∃ (rs:List (Int × Int)) (s g:Int),DPth slots LP s0 g0 rs s g∧rs.length=cap∧¬ (s=0∧g=0)∧e=.returned (.tuple #[.slice none 0 0,.slice none 0 0,.int .i64 10])∧Fr none_ w w') ∨
  (∃ (rs:List (Int × Int)) (s g:Int) (R:Rc) (A B:Option Addr) (c d:Nat) (k:Int),DPth slots LP s0 g0 rs s g∧rs.length < cap∧¬ (s=0∧g=0)∧RLoadIs slots LP s g R A B c d k∧k≠0∧e=.returned (.tuple #[.slice none 0 0,.slice none 0 0,.int .i64 k])∧Fr none_ w w')
set_option maxHeartbeats 16000000 in
theorem dchainr_ok {l:Lm} {last:Int} {LP:List RaP} {PA:Option Addr} {pc:Nat} {tn:Int} {T:Option Addr} {tc:Nat} {L:List Rp} {cn cl:Int} {cv:Value} {kk n:Int} (w:World) (hra:RaIn w LP PA pc) (ht:ROwn w (.slice T L.length tc) L) (hl:L.length≤1000) (h0:0≤n) (h1:n < tn) (i:Nat) (m s0 g0:Int) (hf:findL L n=i) (hi:L[i]?=some (m,s0,g0)) (hls:l.s≤4096) :
  Calls Tryz.prog 54 #[.agg (dmA l (l.s:Int) last (.slice PA LP.length pc) tn (.slice T L.length tc) cn cl cv kk),.int .i64 n] w (DChainR (l.s:Int) l.s LP s0 g0 w):=by
 obtain ⟨DM,hDM⟩:∃ z,z=(dmA l (l.s:Int) last (.slice PA LP.length pc) tn (.slice T L.length tc) cn cl cv kk):=⟨_,rfl⟩
 rw [← hDM]
 obtain ⟨w0,hw0⟩:∃ z,z=(w.alloc (.cells DM 43)):=⟨_,rfl⟩
 have f0:Fr none_ w w0:=by rw [hw0];exact (Fr.refl none_ w).alloc _
 have BM:Hid (Blk w0 w.heap.size 43 DM):=hid_ (by rw [hw0];exact Blk.new w _ _)
 have F0:=hid_ f0
 have TB:=hid_ ht
 have RA:=hid_ hra
 have HL:=hid_ hl
 have H9:=hid_ (And.intro h0 (And.intro h1 (And.intro hf hi)))
 have HLS:=hid_ hls
 have HDM:=hid_ hDM
 obtain ⟨i0,hi0,hy0,hs0,hb0⟩:=info_parts rec_info9
 have Hi:=hid_ (And.intro hi0 (And.intro hy0 (And.intro hs0 hb0)))
 obtain ⟨j0,hj0,hyj,hsj,hbj⟩:=info_parts ref_info9
 have Hj:=hid_ (And.intro hj0 (And.intro hyj (And.intro hsj hbj)))
 clear hi0 hy0 hs0 hb0 hj0 hyj hsj hbj f0 hra ht hl h0 h1 hf hi hls hDM
 go_enter Tryz.func54,Tryz.ntmps54
 go_upto_region 1 with fail
 change Code.wp _ _ _ _ (w.alloc (.cells DM 43))
 rw [← hw0]
 clear hw0
 obtain ⟨gM,hgM⟩:∃ g,g=w.heap.size:=⟨_,rfl⟩
 rw [← hgM] at BM
 rw [← hgM]
 clear hgM
 have c9:w0.cell? ⟨gM,9,none⟩=some (.int .i64 tn):=by have h:=BM.out;rw [HDM.out] at h;exact h.cell' rfl
 have c10:w0.cell? ⟨gM,10,none⟩=some (.slice T L.length tc):=by have h:=BM.out;rw [HDM.out] at h;exact h.cell' rfl
 go_wp2_with fail
 refine (rhead_ok tn n T tc L w0 (own_none TB.out F0.out) HL.out H9.out.1 H9.out.2.1 i m s0 g0 H9.out.2.2.1 H9.out.2.2.2).mono ?_
 rintro e w1 ⟨rfl,hf1⟩
 replace BM:=hid_ (BM.out.fr hf1 id)
 replace F0:=hid_ (F0.out.then_none hf1)
 clear hf1 c9 c10
 go_upto_region 2 with fail
 obtain ⟨w2,hw2⟩:∃ z,z=w1.alloc (.cells #[.int .i64 s0,.int .i64 g0] 48):=⟨_,rfl⟩
 have K2:Hid (Blk w2 w1.heap.size 48 #[.int .i64 s0,.int .i64 g0]∧Fr none_ w1 w2):=hid_ (by rw [hw2];exact ⟨Blk.new w1 _ _,(Fr.refl none_ w1).alloc _⟩)
 change Code.wp _ _ _ _ (w1.alloc (.cells #[.int .i64 s0,.int .i64 g0] 48))
 rw [← hw2]
 clear hw2
 obtain ⟨gx,hgx⟩:∃ g,g=w1.heap.size:=⟨_,rfl⟩
 obtain ⟨b1,hb1⟩:∃ b,b=w2.heap.size:=⟨_,rfl⟩
 have NW:Hid (DcW w b1 gM gx DM w2 (.slice none 0 0) 0 [] (.slice none 0 0) 0 [] s0 g0):=hid_ (by
  have h3:=K2.out.1.lt
  have h4:=(F0.out).size
  have h5:=(F0.out.then_none K2.out.2).size
  exact ⟨World.ownsRow_nil _ _ _ _,World.ownsRow_nil _ _ _ _,BM.out.fr K2.out.2 id,by rw [hgx];exact K2.out.1,by omega,F0.out.then_none K2.out.2⟩)
 rw [← hgx]
 clear hgx hb1 K2 BM F0
 go_wp2_with fail
 go_loopw [9,10] (fun v r wr=>∃ (rs:List (Int × Int)) (Ls:List Ch) (A:Option Addr) (c:Nat) (D:Option Addr) (d:Nat) (s g:Int),rs.length≤l.s∧v=.slice A rs.length c∧r=.slice D rs.length d∧DPth (l.s:Int) LP s0 g0 rs s g∧RsLs (l.s:Int) LP rs Ls∧DcW w b1 gM gx DM wr (.slice A rs.length c) rs.length (recFlat Ls) (.slice D rs.length d) rs.length (rpFlat rs) s g) (fun v _ _=>l.s - slLend v)
 case atStart=>exact ⟨[],[],none,0,none,0,s0,g0,Nat.zero_le _,rfl,rfl,.nil,.nil,NW.out⟩
 case round =>
  obtain ⟨rs,Ls,A,c,D,d,s,g,hk,rfl,rfl,hpt,hrls,hnw⟩:=hrel
  have RLS:=hid_ hrls
  have N:=hid_ hnw
  have P:=hid_ hpt
  have HK:=hid_ hk
  clear hnw hpt hrls NW
  have RAr:=hid_ (RA.out.keep N.out.fr)
  have x0:wr.cell? ⟨gx,0,none⟩=some (.int .i64 s):=N.out.bx.cell' rfl
  have x1:wr.cell? ⟨gx,1,none⟩=some (.int .i64 g):=N.out.bx.cell' rfl
  have c0:wr.cell? ⟨gM,0,none⟩=some (.int .i64 (l.s:Int)):=by have h:=N.out.bm;rw [HDM.out] at h;exact h.cell' rfl
  have c6:wr.cell? ⟨gM,6,none⟩=some (.int .i64 (l.s:Int)):=by have h:=N.out.bm;rw [HDM.out] at h;exact h.cell' rfl
  have c7:wr.cell? ⟨gM,7,none⟩=some (.int .i64 last):=by have h:=N.out.bm;rw [HDM.out] at h;exact h.cell' rfl
  have c8:wr.cell? ⟨gM,8,none⟩=some (.slice PA LP.length pc):=by have h:=N.out.bm;rw [HDM.out] at h;exact h.cell' rfl
  by_cases hz:s=0∧g=0
  ·obtain ⟨hs0,hg0⟩:=hz
   rw [hs0] at x0
   rw [hg0] at x1
   have HSG:=hid_ (And.intro hs0 hg0)
   clear hs0 hg0 c0 c6 c7 c8
   go_wp2_with fail
   go_ret3
   exact .inl ⟨rs,Ls,A,c,D,d,by have h:=P.out;rw [HSG.out.1,HSG.out.2] at h;exact h,HK.out,rfl,Reads.of_own N.out.ro,Reads.of_own N.out.lo,RLS.out,N.out.fr⟩
  ·have HZ:=hid_ hz
   by_cases hfull:rs.length=l.s
   ·have hfl:((rs.length:Int)==(l.s:Int))=true:=by simp [hfull]
    have HFL:=hid_ hfull
    clear hfull c6 c7 c8
    by_cases hs0:s=0
    ·have hgn:(g != 0)=true:=by simpa using (fun e=>hz ⟨hs0,e⟩:¬ g=0)
     rw [hs0] at x0
     clear hs0 hz
     go_wp2_with fail
     go_ret3
     exact .inr (.inl ⟨rs,s,g,P.out,HFL.out,HZ.out,rfl,N.out.fr⟩)
    ·have hsn:(s != 0)=true:=by simpa using hs0
     clear hs0 hz
     go_wp2_with fail
     go_ret3
     exact .inr (.inl ⟨rs,s,g,P.out,HFL.out,HZ.out,rfl,N.out.fr⟩)
   ·by_cases hs0:s=0
    ·have hgn:(g != 0)=true:=by simpa using (fun e=>hz ⟨hs0,e⟩:¬ g=0)
     have HS0:=hid_ hs0
     rw [hs0] at x0
     clear hs0 hz
     have hfl:((rs.length:Int)==(l.s:Int))=false:=by simpa using (fun e=>hfull (Int.ofNat.inj e):¬ ((rs.length:Int)=(l.s:Int)))
     have HFL:=hid_ hfull
     clear hfull
     go_wp2_with fail
     have HLC:Hid (Calls Tryz.prog 78 #[raV (l.s:Int) last LP PA pc,.agg #[.int .i64 0,.int .i64 g]] wr (RLoadPost (l.s:Int) LP s g wr)):=hid_ (by have h:=rload_ok (l.s:Int) last LP PA pc s g wr RAr.out;rw [HS0.out] at h ⊢;exact h)
     refine HLC.out.mono ?_
     rintro e w4 ⟨R,LA,LB,lc,ld,kk2,hld,rfl,-,-,hf4⟩
     replace N:=hid_ (N.out.keep hf4)
     clear hf4 hfl c0 c6 c7 c8 x0 x1
     have hk1:kk2=1:=by
      have e:=HS0.out
      rcases hld with ⟨_,_,_,_,_,_,h⟩ | ⟨h,_⟩ | ⟨h,_⟩
      ·exact h
      ·omega
      ·omega
     obtain rfl:=hk1
     have HLD:=hid_ hld
     clear hld
     have HNO:=hid_ True.intro
     go_upto_region 10 with (refine wpList_store_mid rfl 55 (.tmp 11) (.tmp 42) rfl w4.heap.size 0 (recL ⟨R,LA,lc,LB,ld⟩).toArray rfl rfl (new_there w4 _ recZ8) rec_size8 (rec_one ⟨R,LA,lc,LB,ld⟩) ?_;obtain ⟨w5,hw5⟩:∃ z,z=(w4.alloc (.cells recZ8 55)).setCells w4.heap.size 0 (recL ⟨R,LA,lc,LB,ld⟩):=⟨_,rfl⟩;change wpList _ _ _ _ _ ((w4.alloc (.cells recZ8 55)).setCells w4.heap.size 0 (recL ⟨R,LA,lc,LB,ld⟩));rw [← hw5];have Q5:Hid (Blk w5 w4.heap.size 55 (recL ⟨R,LA,lc,LB,ld⟩).toArray∧Fr none_ w4 w5):=hid_ (by rw [hw5];exact new_copy w4 _ recZ8 _ rfl);clear hw5)
     go_wp2_with fail
     go_ret3
     exact .inr (.inr ⟨rs,s,g,R,LA,LB,lc,ld,1,P.out,by have:=HK.out;have:=HFL.out;omega,HZ.out,HLD.out,by decide,rfl,N.out.fr.then_none Q5.out.2⟩)
    ·have hsn:(s != 0)=true:=by simpa using hs0
     clear hs0 hz
     have hfl:((rs.length:Int)==(l.s:Int))=false:=by simpa using (fun e=>hfull (Int.ofNat.inj e):¬ ((rs.length:Int)=(l.s:Int)))
     have HFL:=hid_ hfull
     clear hfull
     go_wp2_with fail
     refine (rload_ok (l.s:Int) last LP PA pc s g wr RAr.out).mono ?_
     rintro e w4 ⟨R,LA,LB,lc,ld,kk2,hld,rfl,-,-,hf4⟩
     replace N:=hid_ (N.out.keep hf4)
     clear hf4 hfl c0 c6 c7 c8 x0 x1
     have hk:kk2=1∨kk2=4∨kk2=0:=by
      rcases hld with ⟨_,_,_,_,_,_,h⟩ | ⟨_,_,_,_,_,_,_,h⟩ | ⟨_,_,_,_,_,_,_,_,_,_,_,_,_,h⟩
      ·exact .inl h
      ·exact .inr (.inl h)
      ·exact .inr (.inr h)
     have HLD:=hid_ hld
     clear hld
     rcases hk with rfl | rfl | rfl
     ·have HNO:=hid_ True.intro
      clear HNO
      go_upto_region 10 with (refine wpList_store_mid rfl 55 (.tmp 11) (.tmp 42) rfl w4.heap.size 0 (recL ⟨R,LA,lc,LB,ld⟩).toArray rfl rfl (new_there w4 _ recZ8) rec_size8 (rec_one ⟨R,LA,lc,LB,ld⟩) ?_;obtain ⟨w5,hw5⟩:∃ z,z=(w4.alloc (.cells recZ8 55)).setCells w4.heap.size 0 (recL ⟨R,LA,lc,LB,ld⟩):=⟨_,rfl⟩;change wpList _ _ _ _ _ ((w4.alloc (.cells recZ8 55)).setCells w4.heap.size 0 (recL ⟨R,LA,lc,LB,ld⟩));rw [← hw5];have Q5:Hid (Blk w5 w4.heap.size 55 (recL ⟨R,LA,lc,LB,ld⟩).toArray∧Fr none_ w4 w5):=hid_ (by rw [hw5];exact new_copy w4 _ recZ8 _ rfl);clear hw5)
      go_wp2_with fail
      go_ret3
      exact .inr (.inr ⟨rs,s,g,R,LA,LB,lc,ld,1,P.out,by have:=HK.out;have:=HFL.out;omega,HZ.out,HLD.out,by decide,rfl,N.out.fr.then_none Q5.out.2⟩)
     ·have HNO:=hid_ True.intro
      clear HNO
      go_upto_region 10 with (refine wpList_store_mid rfl 55 (.tmp 11) (.tmp 42) rfl w4.heap.size 0 (recL ⟨R,LA,lc,LB,ld⟩).toArray rfl rfl (new_there w4 _ recZ8) rec_size8 (rec_one ⟨R,LA,lc,LB,ld⟩) ?_;obtain ⟨w5,hw5⟩:∃ z,z=(w4.alloc (.cells recZ8 55)).setCells w4.heap.size 0 (recL ⟨R,LA,lc,LB,ld⟩):=⟨_,rfl⟩;change wpList _ _ _ _ _ ((w4.alloc (.cells recZ8 55)).setCells w4.heap.size 0 (recL ⟨R,LA,lc,LB,ld⟩));rw [← hw5];have Q5:Hid (Blk w5 w4.heap.size 55 (recL ⟨R,LA,lc,LB,ld⟩).toArray∧Fr none_ w4 w5):=hid_ (by rw [hw5];exact new_copy w4 _ recZ8 _ rfl);clear hw5)
      go_wp2_with fail
      go_ret3
      exact .inr (.inr ⟨rs,s,g,R,LA,LB,lc,ld,4,P.out,by have:=HK.out;have:=HFL.out;omega,HZ.out,HLD.out,by decide,rfl,N.out.fr.then_none Q5.out.2⟩)
     ·have HNO:=hid_ True.intro
      clear HNO
      go_upto_region 10 with (refine wpList_store_mid rfl 55 (.tmp 11) (.tmp 42) rfl w4.heap.size 0 (recL ⟨R,LA,lc,LB,ld⟩).toArray rfl rfl (new_there w4 _ recZ8) rec_size8 (rec_one ⟨R,LA,lc,LB,ld⟩) ?_;obtain ⟨w5,hw5⟩:∃ z,z=(w4.alloc (.cells recZ8 55)).setCells w4.heap.size 0 (recL ⟨R,LA,lc,LB,ld⟩):=⟨_,rfl⟩;change wpList _ _ _ _ _ ((w4.alloc (.cells recZ8 55)).setCells w4.heap.size 0 (recL ⟨R,LA,lc,LB,ld⟩));rw [← hw5];have Q5:Hid (Blk w5 w4.heap.size 55 (recL ⟨R,LA,lc,LB,ld⟩).toArray∧Fr none_ w4 w5):=hid_ (by rw [hw5];exact new_copy w4 _ recZ8 _ rfl);clear hw5)
      obtain ⟨gc,hgc⟩:∃ g,g=w4.heap.size:=⟨_,rfl⟩
      have BC:=hid_ Q5.out.1
      rw [← hgc] at BC
      rw [← hgc]
      have HGC:Hid (b1≤gc):=hid_ (by rw [hgc];exact N.out.lt.2.2.2)
      have NGC:Hid (∀ i,(Value.slice A rs.length c).ownBlock=some i→i≠gc):=hid_ (fun i hi=>by have:=(N.out.lo.lt i hi).2;omega)
      have hrl:rs.length≤4096:=by have:=HK.out;have:=HLS.out;omega
      have HRL:=hid_ hrl
      clear hrl
      replace N:=hid_ (N.out.keep Q5.out.2)
      clear hgc Q5
      go_upto_region 13 with (first | (refine wpList_load_mid rfl 55 (.tmp 11) rfl gc 0 rfl (recL ⟨R,LA,lc,LB,ld⟩) _ (Blk.range0d BC.out) Tryz.underlying55 rfl rec_size8 ?_) | (at_builtin;refine wpList_append_any _ rfl (.tmp 47) (.tmp 49) 49 rfl b1 55 i0 _ 15 192 Tryz.underlying49 Hi.out.1 Hi.out.2.1 Hi.out.2.2.1 Hi.out.2.2.2 rfl (by omega) (.slice A rs.length c) rs.length (recFlat Ls) rfl (N.out.lo.alloc _) (some ⟨w5.heap.size,0,none⟩) 1 1 (recL ⟨R,LA,lc,LB,ld⟩) rfl (reads_new w5 _ (recL ⟨R,LA,lc,LB,ld⟩) _ rfl) (by simp [Value.oneCell']) (by simp only [maxLen];have:=HRL.out;omega) (by have:=HRL.out;omega) (by have h9:=N.out.lt.2.2.2;simp;omega) ?_;intro A3 c3 w6 hown6 hgr6))
      have N6:Hid (DcW w b1 gM gx DM w6 (.slice A3 (rs.length+1) c3) (rs.length+1) (recFlat (Ls ++ [⟨R,LA,lc,LB,ld⟩])) (.slice D rs.length d) rs.length (rpFlat rs) s g):=hid_ ((N.out.keep ((Fr.refl none_ w5).alloc _)).growL (by
       rw [recFlat_app]
       have e:recFlat [(⟨R,LA,lc,LB,ld⟩:Ch)]=recL ⟨R,LA,lc,LB,ld⟩:=by simp [recFlat]
       rw [e]
       exact hown6) hgr6)
      replace BC:=hid_ ((BC.out.alloc (.cells (recL ⟨R,LA,lc,LB,ld⟩).toArray 55)).fr (Fr.grown (S:=fun b=>(Value.slice A rs.length c).ownBlock=some b) (Fr.refl _ _) hgr6 (fun k hk=>.inl hk)) (fun e=>NGC.out gc e rfl))
      clear hown6 hgr6 N NGC
      have x0:w6.cell? ⟨gx,0,none⟩=some (.int .i64 s):=N6.out.bx.cell' rfl
      have x1:w6.cell? ⟨gx,1,none⟩=some (.int .i64 g):=N6.out.bx.cell' rfl
      go_upto_region 14 with (at_builtin;refine wpList_append_any _ rfl (.tmp 51) (.tmp 53) 66 rfl b1 48 j0 _ 2 16 Tryz.underlying66 Hj.out.1 Hj.out.2.1 Hj.out.2.2.1 Hj.out.2.2.2 rfl (by omega) (.slice D rs.length d) rs.length (rpFlat rs) rfl (N6.out.ro.alloc _) (some ⟨w6.heap.size,0,none⟩) 1 1 [.int .i64 s,.int .i64 g] rfl (reads_new w6 _ [.int .i64 s,.int .i64 g] _ rfl) (by simp [Value.oneCell']) (by simp only [maxLen];have:=HRL.out;omega) (by have:=HRL.out;omega) (by have h9:=N6.out.lt.2.2.2;simp;omega) ?_;intro A4 c4 w7 hown7 hgr7)
      have N7:Hid (DcW w b1 gM gx DM w7 (.slice A3 (rs.length+1) c3) (rs.length+1) (recFlat (Ls ++ [⟨R,LA,lc,LB,ld⟩])) (.slice A4 (rs.length+1) c4) (rs.length+1) (rpFlat (rs ++ [(s,g)])) s g):=hid_ ((N6.out.keep ((Fr.refl none_ w6).alloc _)).growR (by
       rw [rpFlat_snocd]
       exact hown7) hgr7)
      replace BC:=hid_ ((BC.out.alloc (.cells #[.int .i64 s,.int .i64 g] 48)).fr (Fr.grown (S:=fun b=>(Value.slice D rs.length d).ownBlock=some b) (Fr.refl _ _) hgr7 (fun k hk=>.inl hk)) (fun e=>own_blk_ne (N6.out.ro.alloc (.cells #[.int .i64 s,.int .i64 g] 48)) (BC.out.alloc (.cells #[.int .i64 s,.int .i64 g] 48)) (by decide) e))
      clear hown7 hgr7 N6 x0 x1
      have y0:=N7.out.bx.frozen 0
      have y1:=N7.out.bx.frozen 1
      have x0:w7.cell? ⟨gx,0,none⟩=some (.int .i64 s):=N7.out.bx.cell' rfl
      have x1:w7.cell? ⟨gx,1,none⟩=some (.int .i64 g):=N7.out.bx.cell' rfl
      have r13:w7.cell? ⟨gc,13,none⟩=some (.int .i64 R.nslot):=BC.out.cell' rfl
      have r14:w7.cell? ⟨gc,14,none⟩=some (.int .i64 R.ngen):=BC.out.cell' rfl
      have HEQ:∃ w8,w8=(w7.setCell ⟨gx,0,none⟩ (.int .i64 R.nslot)).setCell ⟨gx,1,none⟩ (.int .i64 R.ngen):=⟨_,rfl⟩
      obtain ⟨w8,hw8⟩:=HEQ
      have HW8:=hid_ hw8
      clear hw8
      go_wp2_with fail
      go_roundw
      case rel=>exact ⟨rs ++ [(s,g)],Ls ++ [⟨R,LA,lc,LB,ld⟩],A3,c3,A4,c4,R.nslot,R.ngen,by rw [List.length_append];have:=HK.out;have:=HFL.out;simp;omega,by rw [List.length_append];rfl,by rw [List.length_append];rfl,DPth.snoc P.out HZ.out HLD.out,.snoc RLS.out HLD.out,by rw [List.length_append];exact N7.out.setx rfl⟩
      case measure=>simp [slLend];have:=HK.out;have:=HFL.out;omega
open Go.RowKit

theorem sim9_of {ss:List Sl} {LP:List RaP} {slots:Int} (h:SimA ss LP) (hl:(ss.length:Int)=slots):Sim9 slots LP ss where
  live:=fun j y hy hu=>by
    obtain ⟨i,p,h1,h2,h3,h4,h5⟩:=h.find hy hu
    have hj:=(List.getElem?_eq_some_iff.1 hy).1
    exact ⟨p.A,p.B,p.c,p.d,.inr (.inr ⟨by omega,i,p,.inl ⟨i,p,rfl,h1,h2,h3,h4,fun j' q hj' hq hm=>by have:=h.wf.one i j' p q h1 hq h4 hm.2.2 (h2.trans hm.1.symm);omega⟩,h1,h2,h3,h4,h5.symm,rfl,rfl,rfl,rfl,rfl⟩)⟩
  dead:=fun s g hd=>by
    rcases atC_cases ss s g with ⟨c1,c2⟩ | ⟨i,y,rfl,c2,⟨c3,c4⟩ | ⟨c3,_⟩⟩
    · exact ⟨Rc.zero,none,none,0,0,.inl ⟨by omega,rfl,rfl,rfl,rfl,rfl,c1⟩⟩
    · have hi:=(List.getElem?_eq_some_iff.1 c2).1
      exact ⟨Rc.zero,none,none,0,0,.inr (.inl ⟨by omega,fun j q hq=>h.stale c2 c4 j q hq,rfl,rfl,rfl,rfl,rfl,c3⟩)⟩
    · exact absurd c3 hd
inductive RsOf (slots:Int) (LP:List RaP):List (Int × Int)→List Rc→Prop where
  | nil:RsOf slots LP [] []
  | snoc {rs:List (Int × Int)} {Rs:List Rc} {s g:Int} {R:Rc} (h:RsOf slots LP rs Rs) (hl:∃ (A B:Option Addr) (c d:Nat),RLoadIs slots LP s g R A B c d 0):RsOf slots LP (rs ++ [(s,g)]) (Rs ++ [R])
section
variable {slots:Int} {LP:List RaP} {s0 g0:Int} {cap:Nat}
theorem rsof_det {rs:List (Int × Int)} {Rs:List Rc} (h:RsOf slots LP rs Rs):∀ {rs':List (Int × Int)} {Rs':List Rc},RsOf slots LP rs' Rs'→rs=rs'→Rs=Rs':=by
  induction h with
  | nil =>
    intro rs' Rs' h' e
    cases h' with
    | nil=>rfl
    | snoc h hl=>simp at e
  | snoc h hl ih =>
    intro rs' Rs' h' e
    cases h' with
    | nil=>simp at e
    | snoc h' hl' =>
      obtain ⟨e1,e2⟩:=List.append_inj' e rfl
      rw [ih h' e1]
      injection e2 with e3 _
      injection e3 with e4 e5
      subst e4
      subst e5
      obtain ⟨A,B,c,d,hl⟩:=hl
      obtain ⟨A',B',c',d',hl'⟩:=hl'
      rw [(rload_det hl hl').2]
theorem RsLs.of {rs:List (Int × Int)} {Ls:List Ch} (h:RsLs slots LP rs Ls):RsOf slots LP rs (Ls.map (·.R)):=by
  induction h with
  | nil=>exact .nil
  | snoc h hl ih =>
    rw [List.map_append]
    exact .snoc ih ⟨_,_,_,_,hl⟩
theorem RsLs.reads {rs:List (Int × Int)} {Ls:List Ch} (h:RsLs slots LP rs Ls) {w:World} {A:Option Addr} {c:Nat} (hr:RaIn w LP A c):∀ C ∈ Ls,RecReads w C.R C.A C.B∧C.R.rows.length≤1000∧C.R.ents.length≤1000:=by
  induction h with
  | nil=>intro C hC;cases hC
  | snoc h hl ih =>
    intro C hC
    rcases List.mem_append.1 hC with hC | hC
    · exact ih C hC
    · obtain rfl:=List.mem_singleton.1 hC
      rcases hl with ⟨_,_,_,_,_,_,h⟩ | ⟨_,_,_,_,_,_,_,h⟩ | ⟨_,i,p,_,h2,_,_,_,rfl,rfl,rfl,rfl,rfl,_⟩
      · cases h
      · cases h
      · exact ⟨hr.recs p (List.mem_of_getElem? h2),hr.sz p (List.mem_of_getElem? h2)⟩
theorem Sim9.recs {ss:List Sl} (hs:Sim9 slots LP ss) {js:List Nat} {s g:Int} (h:Pth ss s0 g0 js s g):RsOf slots LP (js.map (refOf ss)) (js.map (recOf ss)):=by
  induction h with
  | nil=>exact .nil
  | @snoc pre s g h j y h1 h2 h3 h4 ih =>
    obtain ⟨A,B,c,d,hl⟩:=hs.live j y h2 h3
    rw [List.map_append,List.map_append]
    have e:[j].map (refOf ss)=[((j:Int)+1,y.gen)]:=by
      show [refOf ss j]=_
      unfold refOf
      rw [slotD h2]
    have e2:[j].map (recOf ss)=[y.R]:=by
      show [recOf ss j]=_
      unfold recOf
      rw [slotD h2]
    rw [e,e2]
    exact .snoc ih ⟨A,B,c,d,hl⟩
structure DRes2 (slots:Int) (cap:Nat) (LP:List RaP) (s0 g0:Int) (out:List (Int × Int)) (Rs:List Rc) (K:Int):Prop where
  r:DRes slots cap LP s0 g0 out K
  o:RsOf slots LP out Rs
theorem RsOf.len {rs:List (Int × Int)} {Rs:List Rc} (h:RsOf slots LP rs Rs):Rs.length=rs.length:=by
  induction h with
  | nil=>rfl
  | snoc h hl ih=>simp [ih]
theorem dres2_det {out out':List (Int × Int)} {Rs Rs':List Rc} {K K':Int} (h:DRes2 slots cap LP s0 g0 out Rs K) (h':DRes2 slots cap LP s0 g0 out' Rs' K'):out=out'∧Rs=Rs':=by
  obtain ⟨e,_⟩:=dres_det h.r h'.r
  exact ⟨e,rsof_det h.o h'.o e⟩
structure RecsAt (w:World) (A:Option Addr) (n:Nat) (Rs:List Rc):Prop where
  n:Rs.length=n
  at_:∀ (k:Nat) (R:Rc),Rs[k]?=some R→∃ (b off:Nat) (RA:Option Addr) (c:Nat) (RB:Option Addr) (d:Nat),A=some ⟨b,off,none⟩∧b < w.heap.size∧w.rangeAt b (off+k * 15) (recA R (.slice RA R.rows.length c) (.slice RB R.ents.length d)).toList∧RecReads w R RA RB∧R.rows.length≤1000∧R.ents.length≤1000
theorem RecsAt.nil (w:World):RecsAt w none 0 []:=⟨rfl,fun k R h=>by simp at h⟩
theorem RecsAt.keep {w w':World} {A:Option Addr} {n:Nat} {Rs:List Rc} (h:RecsAt w A n Rs) (hf:Fr none_ w w'):RecsAt w' A n Rs:=⟨h.n,fun k R hR=>by
  obtain ⟨b,off,RA,c,RB,d,h1,h2,h3,h4,h5⟩:=h.at_ k R hR
  exact ⟨b,off,RA,c,RB,d,h1,Nat.lt_of_lt_of_le h2 hf.size,fun j v hv=>cellFr (h3 j v hv) hf,h4.keep hf,h5⟩⟩
theorem crFlat_get12:∀ {L:List Cr} {k:Nat} {C:Cr},L[k]?=some C→∀ (j:Nat) (v:Value),(crA C).toList[j]?=some v→(crFlat L)[k * 15+j]?=some v
  | [],k,C,h=>by simp at h
  | D :: L,k,C,h=>by
    intro j v hj
    have e:crFlat (D :: L)=(crA D).toList ++ crFlat L:=by simp [crFlat]
    have hl:(crA D).toList.length=15:=rfl
    rw [e]
    cases k with
    | zero =>
      obtain rfl:D=C:=by simpa using h
      have hj':=(List.getElem?_eq_some_iff.1 hj).1
      rw [List.getElem?_append_left (by omega),Nat.zero_mul,Nat.zero_add]
      exact hj
    | succ k =>
      rw [List.getElem?_append_right (by rw [hl];omega),hl,show (k+1) * 15+j - 15=k * 15+j by omega]
      exact crFlat_get12 (by simpa using h) j v hj
theorem recFlat_cr12 (L:List Ch):recFlat L=crFlat (L.map fun C=>(⟨C.R,C.A,C.c,C.B,C.d⟩:Cr)):=by
  unfold recFlat crFlat
  rw [List.map_map]
  rfl
theorem recsAt_of {w:World} {A:Option Addr} {n:Nat} {Cs:List Cr} (h:Reads w 15 A n (crFlat Cs)) (hn:Cs.length=n) (hr:∀ C ∈ Cs,RecReads w C.R C.A C.B∧C.R.rows.length≤1000∧C.R.ents.length≤1000):RecsAt w A n (Cs.map (·.R)):=⟨by rw [List.length_map];exact hn,fun k R hR=>by
  rw [List.getElem?_map] at hR
  cases hk:Cs[k]? with
  | none=>rw [hk] at hR;cases hR
  | some C =>
    rw [hk] at hR
    obtain rfl:C.R=R:=by simpa using hR
    have hkl:=(List.getElem?_eq_some_iff.1 hk).1
    obtain ⟨b,off,hA,hb,hc⟩:=reads_lit h (by decide) (by omega)
    have hm:=hr C (List.mem_of_getElem? hk)
    exact ⟨b,off,C.A,C.c,C.B,C.d,hA,hb,fun j v hv=>by rw [Nat.add_assoc];exact hc _ v (crFlat_get12 hk j v hv),hm.1,hm.2⟩⟩
end
theorem pth_used {ss:List Sl} {s0 g0:Int} {js:List Nat} {s g:Int} (h:Pth ss s0 g0 js s g):∀ j ∈ js,∃ y,ss[j]?=some y∧y.used=true:=by
  induction h with
  | nil=>intro j hj;cases hj
  | snoc h j y h1 h2 h3 h4 ih =>
    intro i hi
    rcases List.mem_append.1 hi with hi | hi
    · exact ih i hi
    · obtain rfl:=List.mem_singleton.1 hi
      exact ⟨y,h2,h3⟩
theorem SimA.sizes {ss:List Sl} {LP:List RaP} (h:SimA ss LP) {w:World} {A:Option Addr} {c:Nat} (hr:RaIn w LP A c):∀ s ∈ ss,s.used=true→s.R.rows.length≤1000∧s.R.ents.length≤1000:=fun s hs hu=>by
  obtain ⟨i,hi⟩:=List.mem_iff_getElem?.1 hs
  obtain ⟨j,p,h1,_,_,_,h5⟩:=h.find hi hu
  rw [← h5]
  exact hr.sz p (List.mem_of_getElem? h1)
def MC12 (slots:Int) (cap:Nat) (LP:List RaP) (s0 g0:Int) (w:World) (e:Ending) (w':World):Prop:=
  ∃ (out:List (Int × Int)) (Rs:List Rc) (K:Int) (A:Option Addr) (c:Nat) (D:Option Addr) (d:Nat) (v:Value),DRes2 slots cap LP s0 g0 out Rs K∧e=.returned (.tuple #[.slice A out.length c,.slice D out.length d,v])∧Reads w' 2 D out.length (rpFlat out)∧RecsAt w' A out.length Rs∧Fr none_ w w'
theorem mchain12 {m:Nat} {k:Int} {l:Lm} {x:St} {LP:List RaP} (w:World) (h:Mm w m k l x) (hs:Sim9 (l.s:Int) LP x.ss) (hl:l.s≤4096) (hz:∀ s ∈ x.ss,s.used=true→s.R.rows.length≤1000∧s.R.ents.length≤1000) (i:Nat) (s0 g0:Int) (hp:x.ps[i]?=some (true,s0,g0)) :
    Calls Tryz.prog 23 #[.pointer (some ⟨m,0,none⟩),.int .i64 (i:Int)] w (MC12 (l.s:Int) l.s LP s0 g0 w):=by
  refine (chain_any w h i s0 g0 hp hl).mono ?_
  rintro e w' he
  rcases he with ⟨js,h1,h2,A,c,B,d,Cs,h3,h4,h5,h6,h7,h8⟩ | ⟨js,s,g,h1,h2,h3,h4,h5⟩ | ⟨js,s,g,b,h1,h2,h3,h4,h5,h6,h7⟩
  · have hl:(js.map (refOf x.ss)).length=js.length:=List.length_map _
    refine ⟨js.map (refOf x.ss),js.map (recOf x.ss),0,A,c,B,d,.nilIface,⟨⟨_,0,0,hs.path h1,.inl ⟨⟨rfl,rfl⟩,rfl,by rw [hl];exact h2⟩,rfl⟩,hs.recs h1⟩,by rw [hl];exact h3,?_,?_,h8⟩
    · rw [hl]
      exact Reads.of_own h6
    · rw [hl,← h4]
      have hcl:Cs.length=js.length:=by have:=congrArg List.length h4;simpa using this
      refine recsAt_of (Reads.of_own h5) hcl (fun C hC=>⟨(h7 C hC).reads,?_⟩)
      have hm:C.R ∈ js.map (recOf x.ss):=by rw [← h4];exact List.mem_map_of_mem hC
      obtain ⟨j,hj,e⟩:=List.mem_map.1 hm
      obtain ⟨y,hy,hu⟩:=pth_used h1 j hj
      have e2:recOf x.ss j=y.R:=by unfold recOf;rw [slotD hy]
      rw [← e,e2]
      exact hz y (List.mem_of_getElem? hy) hu
  · exact ⟨[],[],10,none,0,none,0,errV 10,⟨⟨_,s,g,hs.path h1,.inr (.inl ⟨h3,by rw [List.length_map];exact h2,rfl⟩),rfl⟩,.nil⟩,h4,Reads.nil_,.nil _,h5⟩
  · obtain ⟨R,A,B,c,d,hl⟩:=hs.dead s g h4
    exact ⟨[],[],atC x.ss s g,none,0,none,0,_,⟨⟨_,s,g,hs.path h1,.inr (.inr ⟨h3,by rw [List.length_map];exact h2,h4,R,A,B,c,d,hl⟩),by rw [if_neg h4]⟩,.nil⟩,h5,Reads.nil_,.nil _,h7⟩
theorem dchain12 {l:Lm} {last:Int} {LP:List RaP} {PA:Option Addr} {pc:Nat} {ps:List Pg} {T:Option Addr} {tc:Nat} {L:List Rp} {cn cl:Int} {cv:Value} {kk:Int} (w:World) (hra:RaIn w LP PA pc) (ht:ROwn w (.slice T L.length tc) L) (hsm:Sim ps L) (hpl:ps.length=l.p) (hl:l.s≤4096) (i:Nat) (s0 g0:Int) (hp:ps[i]?=some (true,s0,g0)) :
    Calls Tryz.prog 54 #[.agg (dmA l (l.s:Int) last (.slice PA LP.length pc) (l.p:Int) (.slice T L.length tc) cn cl cv kk),.int .i64 (i:Int)] w (MC12 (l.s:Int) l.s LP s0 g0 w):=by
  obtain ⟨j,hj1,hj2⟩:=hsm.used hp
  have hi:=(List.getElem?_eq_some_iff.1 hp).1
  refine (dchainr_ok (L:=L) (LP:=LP) w hra ht hsm.short (by omega) (by omega) j i s0 g0 hj1 hj2 hl).mono ?_
  rintro e w' he
  rcases he with ⟨rs,Ls,A,c,D,d,h1,h2,h3,h4,h5,h6,h7⟩ | ⟨rs,s,g,h1,h2,h3,h4,h5⟩ | ⟨rs,s,g,R,A,B,c,d,k,h1,h2,h3,h4,h5,h6,h7⟩
  · refine ⟨rs,Ls.map (·.R),0,A,c,D,d,_,⟨⟨rs,0,0,h1,.inl ⟨⟨rfl,rfl⟩,rfl,h2⟩,rfl⟩,h6.of⟩,h3,h4,?_,h7⟩
    have hlen:=h6.len
    rw [recFlat_cr12] at h5
    have:=recsAt_of (Cs:=Ls.map fun C=>(⟨C.R,C.A,C.c,C.B,C.d⟩:Cr)) h5 (by rw [List.length_map];exact hlen) (fun C hC=>by
      obtain ⟨C0,hC0,rfl⟩:=List.mem_map.1 hC
      exact h6.reads (hra.keep h7) C0 hC0)
    rw [List.map_map] at this
    exact this
  · exact ⟨[],[],10,none,0,none,0,_,⟨⟨rs,s,g,h1,.inr (.inl ⟨h3,h2,rfl⟩),rfl⟩,.nil⟩,h4,Reads.nil_,.nil _,h5⟩
  · exact ⟨[],[],k,none,0,none,0,_,⟨⟨rs,s,g,h1,.inr (.inr ⟨h3,h2,h5,R,A,B,c,d,h4⟩),by rw [if_neg h5]⟩,.nil⟩,h6,Reads.nil_,.nil _,h7⟩
open Go.RowKit

structure Sm4 (w w':World) (R:Rc) (A B A2 B2:Option Addr) (c d c2 d2:Nat):Prop where
  b0:Blk w' w.heap.size 55 (recA R (.slice A R.rows.length c) (.slice B R.ents.length d))
  b1:Blk w' (w.heap.size+1) 55 (recA R (.slice A2 R.rows.length c2) (.slice B2 R.ents.length d2))
  rd:RecReads w' R A B
  rd2:RecReads w' R A2 B2
  fr:Fr none_ w w'
theorem Sm4.keep {w w' w2:World} {R:Rc} {A B A2 B2:Option Addr} {c d c2 d2:Nat} (h:Sm4 w w' R A B A2 B2 c d c2 d2) (hf:Fr none_ w' w2):Sm4 w w2 R A B A2 B2 c d c2 d2:=
  ⟨h.b0.fr hf id,h.b1.fr hf id,h.rd.keep hf,h.rd2.keep hf,h.fr.then_none hf⟩

set_option maxHeartbeats 4000000 in
theorem same4_ok (R:Rc) (A:Option Addr) (c:Nat) (B:Option Addr) (d:Nat) (A2:Option Addr) (c2:Nat) (B2:Option Addr) (d2:Nat) (w:World) (h:RecReads w R A B) (h2:RecReads w R A2 B2) (hr:R.rows.length≤1000) (he:R.ents.length≤1000) :
  Calls Tryz.prog 55 #[recV R (.slice A R.rows.length c) (.slice B R.ents.length d),recV R (.slice A2 R.rows.length c2) (.slice B2 R.ents.length d2)] w fun e w'=>e=.returned (.bool true)∧Fr none_ w w':=by
 obtain ⟨w0,hw0⟩:∃ w0,w0=(w.alloc (recB R (.slice A R.rows.length c) (.slice B R.ents.length d))).alloc (recB R (.slice A2 R.rows.length c2) (.slice B2 R.ents.length d2)):=⟨_,rfl⟩
 have M0:Hid (Sm4 w w0 R A B A2 B2 c d c2 d2):=by
  have f0:Fr none_ w w0:=by rw [hw0];exact ((Fr.refl none_ w).alloc _).alloc _
  have k1:=(Blk.new (w.alloc (recB R (.slice A R.rows.length c) (.slice B R.ents.length d))) 55 (recA R (.slice A2 R.rows.length c2) (.slice B2 R.ents.length d2)))
  rw [World.size_alloc] at k1
  exact hid_ ⟨by rw [hw0];exact (Blk.new w _ _).alloc _,by rw [hw0];exact k1,h.keep f0,h2.keep f0,f0⟩
 clear h h2
 go_enter Tryz.func55,Tryz.ntmps55
 go_wp2_with fail
 change Code.wp _ _ _ _ ((w.alloc (recB R (.slice A R.rows.length c) (.slice B R.ents.length d))).alloc (recB R (.slice A2 R.rows.length c2) (.slice B2 R.ents.length d2)))
 rw [← hw0]
 clear hw0
 go_loopw [5] (fun i wr=>∃ k:Nat,k≤R.rows.length∧i=.int .i64 k∧Fr none_ w0 wr) (fun i _=>R.rows.length - (intOf i).toNat)
 case atStart=>exact ⟨0,Nat.zero_le _,rfl,Fr.refl _ _⟩
 case round =>
  obtain ⟨k,hk,rfl,hF⟩:=hrel
  have F:=hid_ hF
  have M:=hid_ (M0.out.keep hF)
  clear hF
  have a0:wr.cell? ⟨w.heap.size,5,none⟩=some (.slice A R.rows.length c):=M.out.b0.cell' rfl
  have a1:wr.cell? ⟨w.heap.size+1,5,none⟩=some (.slice A2 R.rows.length c2):=M.out.b1.cell' rfl
  by_cases hlt:k < R.rows.length
  ·obtain ⟨p,hp⟩:∃ p,R.rows[k]?=some p:=⟨_,List.getElem?_eq_getElem hlt⟩
   obtain ⟨b1,o1,rfl,hb1,d0,d1⟩:=rw_at M.out.rd.r hp
   obtain ⟨b2,o2,rfl,hb2,e0,e1⟩:=rw_at M.out.rd2.r hp
   have hi0:(0:Int)≤(k:Int):=Int.natCast_nonneg _
   have hi1:(k:Int) < (R.rows.length:Int):=by omega
   clear hp
   go_wp2_with fail
   go_quiet (fail)
   have FQ:=hid_ (F.out.drewN nq)
   clear d0 d1 e0 e1 a0 a1
   go_wp2
   go_roundw
   case rel=>exact ⟨k+1,by omega,by go_num,FQ.out⟩
   case measure=>simp [intOf];omega
  ·obtain rfl:k=R.rows.length:=by omega
   have a2:wr.cell? ⟨w.heap.size,6,none⟩=some (.slice B R.ents.length d):=M.out.b0.cell' rfl
   have a3:wr.cell? ⟨w.heap.size+1,6,none⟩=some (.slice B2 R.ents.length d2):=M.out.b1.cell' rfl
   go_wp2_with fail
   clear a0 a1 a2 a3 hlt hk
   go_loopw [6] (fun i wx=>∃ k:Nat,k≤R.ents.length∧i=.int .i64 k∧Fr none_ wr wx) (fun i _=>R.ents.length - (intOf i).toNat)
   case atStart=>exact ⟨0,Nat.zero_le _,rfl,Fr.refl _ _⟩
   case round =>
    obtain ⟨k,hk,rfl,hF⟩:=hrel
    obtain ⟨wx,rfl⟩:∃ wx:World,wx=wr:=⟨_,rfl⟩
    have F2:=hid_ hF
    have M2:=hid_ (M.out.keep hF)
    clear hF
    have a0:wx.cell? ⟨w.heap.size,6,none⟩=some (.slice B R.ents.length d):=M2.out.b0.cell' rfl
    have a1:wx.cell? ⟨w.heap.size+1,6,none⟩=some (.slice B2 R.ents.length d2):=M2.out.b1.cell' rfl
    by_cases hlt:k < R.ents.length
    ·obtain ⟨p,hp⟩:∃ p,R.ents[k]?=some p:=⟨_,List.getElem?_eq_getElem hlt⟩
     obtain ⟨b1,o1,rfl,hb1,d0,d1⟩:=et_at M2.out.rd.e hp
     obtain ⟨b2,o2,rfl,hb2,e0,e1⟩:=et_at M2.out.rd2.e hp
     have hi0:(0:Int)≤(k:Int):=Int.natCast_nonneg _
     have hi1:(k:Int) < (R.ents.length:Int):=by omega
     clear hp
     go_wp2_with fail
     go_quiet (fail)
     have FQ:=hid_ (F2.out.drewN nq)
     clear d0 d1 e0 e1 a0 a1
     go_wp2
     go_roundw
     case rel=>exact ⟨k+1,by omega,by go_num,FQ.out⟩
     case measure=>simp [intOf];omega
    ·obtain rfl:k=R.ents.length:=by omega
     clear a0 a1
     have x0:wx.cell? ⟨w.heap.size,0,none⟩=some (.int .i64 R.kind):=M2.out.b0.cell' rfl
     have y0:wx.cell? ⟨w.heap.size+1,0,none⟩=some (.int .i64 R.kind):=M2.out.b1.cell' rfl
     have x1:wx.cell? ⟨w.heap.size,1,none⟩=some (.string R.low):=M2.out.b0.cell' rfl
     have y1:wx.cell? ⟨w.heap.size+1,1,none⟩=some (.string R.low):=M2.out.b1.cell' rfl
     have x2:wx.cell? ⟨w.heap.size,2,none⟩=some (.string R.high):=M2.out.b0.cell' rfl
     have y2:wx.cell? ⟨w.heap.size+1,2,none⟩=some (.string R.high):=M2.out.b1.cell' rfl
     have x3:wx.cell? ⟨w.heap.size,3,none⟩=some (.bool R.unb):=M2.out.b0.cell' rfl
     have y3:wx.cell? ⟨w.heap.size+1,3,none⟩=some (.bool R.unb):=M2.out.b1.cell' rfl
     have x4:wx.cell? ⟨w.heap.size,4,none⟩=some (.int .i64 R.right):=M2.out.b0.cell' rfl
     have y4:wx.cell? ⟨w.heap.size+1,4,none⟩=some (.int .i64 R.right):=M2.out.b1.cell' rfl
     have x5:wx.cell? ⟨w.heap.size,5,none⟩=some (.slice A R.rows.length c):=M2.out.b0.cell' rfl
     have y5:wx.cell? ⟨w.heap.size+1,5,none⟩=some (.slice A2 R.rows.length c2):=M2.out.b1.cell' rfl
     have x6:wx.cell? ⟨w.heap.size,6,none⟩=some (.slice B R.ents.length d):=M2.out.b0.cell' rfl
     have y6:wx.cell? ⟨w.heap.size+1,6,none⟩=some (.slice B2 R.ents.length d2):=M2.out.b1.cell' rfl
     have x7:wx.cell? ⟨w.heap.size,7,none⟩=some (.string R.key):=M2.out.b0.cell' rfl
     have y7:wx.cell? ⟨w.heap.size+1,7,none⟩=some (.string R.key):=M2.out.b1.cell' rfl
     have x8:wx.cell? ⟨w.heap.size,8,none⟩=some (.string R.val):=M2.out.b0.cell' rfl
     have y8:wx.cell? ⟨w.heap.size+1,8,none⟩=some (.string R.val):=M2.out.b1.cell' rfl
     have x9:wx.cell? ⟨w.heap.size,9,none⟩=some (.int .i64 R.page):=M2.out.b0.cell' rfl
     have y9:wx.cell? ⟨w.heap.size+1,9,none⟩=some (.int .i64 R.page):=M2.out.b1.cell' rfl
     have x10:wx.cell? ⟨w.heap.size,10,none⟩=some (.int .i64 R.hpage):=M2.out.b0.cell' rfl
     have y10:wx.cell? ⟨w.heap.size+1,10,none⟩=some (.int .i64 R.hpage):=M2.out.b1.cell' rfl
     have x11:wx.cell? ⟨w.heap.size,11,none⟩=some (.int .i64 R.hleft):=M2.out.b0.cell' rfl
     have y11:wx.cell? ⟨w.heap.size+1,11,none⟩=some (.int .i64 R.hleft):=M2.out.b1.cell' rfl
     have x12:wx.cell? ⟨w.heap.size,12,none⟩=some (.string R.hkey):=M2.out.b0.cell' rfl
     have y12:wx.cell? ⟨w.heap.size+1,12,none⟩=some (.string R.hkey):=M2.out.b1.cell' rfl
     have x13:wx.cell? ⟨w.heap.size,13,none⟩=some (.int .i64 R.nslot):=M2.out.b0.cell' rfl
     have y13:wx.cell? ⟨w.heap.size+1,13,none⟩=some (.int .i64 R.nslot):=M2.out.b1.cell' rfl
     have x14:wx.cell? ⟨w.heap.size,14,none⟩=some (.int .i64 R.ngen):=M2.out.b0.cell' rfl
     have y14:wx.cell? ⟨w.heap.size+1,14,none⟩=some (.int .i64 R.ngen):=M2.out.b1.cell' rfl
     go_wp2
     go_ret
     exact ⟨rfl,M2.out.fr⟩
open Go.RowKit Go.BigFrame

theorem memLive12 {m:Nat} {k:Int} {l:Lm} {x:St} (w:World) (h:Mm w m k l x):Calls Tryz.prog 51 #[.pointer (some ⟨m,0,none⟩)] w (LivePost x.ss w):=by
  have c7:w.cell? ⟨m,7,none⟩=some (.pointer (some ⟨x.a,0,none⟩)):=h.b.cell' rfl
  have H:=hid_ h
  clear h
  go_enter Tryz.func51,Tryz.ntmps51
  go_wp2_with fail
  refine (live_ok _ H.out.ar).mono ?_
  rintro e w1 ⟨A,c,rfl,ho,hf⟩
  have P:=hid_ (And.intro ho hf)
  clear ho hf
  go_wp2_with fail
  go_ret
  exact ⟨A,c,rfl,P.out.1,P.out.2⟩
theorem memPages12 {m:Nat} {k:Int} {l:Lm} {x:St} (w:World) (h:Mm w m k l x):Calls Tryz.prog 48 #[.pointer (some ⟨m,0,none⟩)] w (PagesPost x.ps w):=by
  have c8:w.cell? ⟨m,8,none⟩=some (.pointer (some ⟨x.T,0,none⟩)):=h.b.cell' rfl
  have H:=hid_ h
  clear h
  go_enter Tryz.func48,Tryz.ntmps48
  go_wp2_with fail
  refine (pages_ok _ _ _ _ H.out.tb).mono ?_
  rintro e w1 ⟨A,c,rfl,ho,hf⟩
  have P:=hid_ (And.intro ho hf)
  clear ho hf
  go_wp2_with fail
  go_ret
  exact ⟨A,c,rfl,P.out.1,P.out.2⟩
theorem rpFlat_get12:∀ (X:List (Int × Int)) (k:Nat) (p:Int × Int),X[k]?=some p→(rpFlat X)[k * 2]?=some (.int .i64 p.1)∧(rpFlat X)[k * 2+1]?=some (.int .i64 p.2)
  | [],k,p,h=>by simp at h
  | q :: X,0,p,h=>by
    obtain rfl:q=p:=by simpa using h
    exact ⟨rfl,rfl⟩
  | q :: X,k+1,p,h=>by
    have:=rpFlat_get12 X k p (by simpa using h)
    have e:∀ j,(rpFlat (q :: X))[j+2]?=(rpFlat X)[j]?:=fun j=>rfl
    exact ⟨by rw [show (k+1) * 2=k * 2+2 by omega,e];exact this.1,by rw [show (k+1) * 2+1=k * 2+1+2 by omega,e];exact this.2⟩
theorem rp_at12 {w:World} {A:Option Addr} {X:List (Int × Int)} (h:Reads w 2 A X.length (rpFlat X)) {k:Nat} {p:Int × Int} (hp:X[k]?=some p):∃ b off,A=some ⟨b,off,none⟩∧b < w.heap.size∧w.cell? ⟨b,off+k * 2,none⟩=some (.int .i64 p.1)∧w.cell? ⟨b,off+k * 2+1,none⟩=some (.int .i64 p.2):=by
  obtain ⟨b,off,e,hb,hc⟩:=reads_lit h (by decide) (by have:=(List.getElem?_eq_some_iff.1 hp).1;omega)
  have:=rpFlat_get12 X k p hp
  exact ⟨b,off,e,hb,hc _ _ this.1,by have:=hc _ _ this.2;rwa [← Nat.add_assoc] at this⟩
set_option maxHeartbeats 4000000 in
theorem sameRefs12r (X:List (Int × Int)) (A B:Option Addr) (c d:Nat) (w:World) (hl:X.length≤5000) (h1:Reads w 2 A X.length (rpFlat X)) (h2:Reads w 2 B X.length (rpFlat X)):Calls Tryz.prog 50 #[.slice A X.length c,.slice B X.length d] w fun e w'=>e=.returned (.bool true)∧Fr none_ w w':=by
  have H1:=hid_ h1
  have H2:=hid_ h2
  clear h1 h2
  go_enter Tryz.func50,Tryz.ntmps50
  go_wp2_with fail
  go_loopw [5] (fun i wr=>∃ k:Nat,k≤X.length∧i=.int .i64 k∧Fr none_ w wr) (fun i _=>X.length - (intOf i).toNat)
  case atStart=>exact ⟨0,Nat.zero_le _,rfl,Fr.refl _ _⟩
  case round =>
    obtain ⟨k,hk,rfl,hfr⟩:=hrel
    have FR:=hid_ hfr
    have hi0:(0:Int)≤(k:Int):=Int.natCast_nonneg _
    clear hfr
    by_cases hlt:k < X.length
    · obtain ⟨p,hp⟩:∃ p,X[k]?=some p:=⟨_,List.getElem?_eq_getElem hlt⟩
      obtain ⟨b1,o1,rfl,hb1,x0,x1⟩:=rp_at12 (H1.out.none_fr FR.out) hp
      obtain ⟨b2,o2,rfl,hb2,y0,y1⟩:=rp_at12 (H2.out.none_fr FR.out) hp
      have hi1:(k:Int) < (X.length:Int):=by omega
      have hq:∀ w',(binOp .neq 48 (.agg #[.int .i64 p.1,.int .i64 p.2]) (.agg #[.int .i64 p.1,.int .i64 p.2])).run Tryz.prog w'=.ok (.bool false) w':=fun w'=>by rw [neq_ref];simp
      clear hp
      go_wp2_with fail
      go_quiet (fail)
      go_wp2_with fail
      go_roundw
      case rel=>exact ⟨k+1,by omega,by go_num,by repeat (first | exact FR.out | apply Fr.drewN | apply Fr.drew)⟩
      case measure=>simp [intOf];omega
    · have hi1:¬ (k:Int) < (X.length:Int):=by omega
      go_wp2_with fail
      go_ret
      exact ⟨rfl,FR.out⟩
section
variable {P:Program} {md:Region.Mode} {ops:Array Oper} {Q:Exit→Act→World→Prop} {S:World→Prop} {m fuel:Nat} {listed:Array Bool} {a:Act} {w:World} {oi:Oper}
theorem u_tkS (i:Nat) (d:Option Tmp) (v:Value) (hi:ops[i]?=some oi) (hd:oi.dst=d) (hy:YieldsIf P ops S oi v a) (hS:S w) (h:UwA P md ops Q S m fuel (listed.setIfInBounds i true) (a.put d v) w)
    (hs:Region.noSelect ops=true:=by kernel_rfl) (hf:Region.free md ops listed i=true:=by kernel_rfl) (hr:(Region.ready md ops listed).contains i=true:=by kernel_rfl)
    (hm:((List.range ops.size).all (fun j=>!decide (m≤j) || decide (j=i) || waitsB md ops ops.size j i) && closedB md ops listed)=true:=by kernel_rfl) (hQ:∀ c a w,Q (.panic c) (a.put oi.dst v) w→Q (.panic c) a w:=by exact fun _ _ _ h=>h):UwA P md ops Q S m (fuel+1) listed a w:=u_take i d v hi hd hs hf hr hm hQ hy hS h
theorem y_vlS {v:Value} (hx:∀ w,S w→(execOp a.eval oi).run P w=.ok (.value v) w) (hw:Region.wanted oi (yielded ops a.tmps)=true:=by kernel_rfl):YieldsIf P ops S oi v a:=y_val hw hx
end
section
variable {oi:Oper} {a:Act}
theorem ex_index15 {oi:Oper} {a:Act} (t e:TypeId) (x y:Operand) (b off n m c:Nat) (ho:oi.op=.indexAddr t x y) (hx:a.eval x=.slice (some ⟨b,off,none⟩) m c) (hy:a.eval y=.int .i64 n) (hu:Tryz.prog.underlying t=some (.slice e)) (hs:∀ w,(sizeOf e).run Tryz.prog w=.ok 15 w) (hn:n < m) (w:World) :
    (execOp a.eval oi).run Tryz.prog w=.ok (.value (.pointer (some ⟨b,off+n * 15,none⟩))) w:=by
  unfold execOp
  simp only [ho,hx,hy,Sem.run_bind,Sem.run_pure]
  have h0:(0:Int)≤(n:Int):=Int.natCast_nonneg _
  have h1:(n:Int) < (m:Int):=by omega
  simp [go_sem,hu,hs,h0,h1]
end
theorem memCount12s {m:Nat} {k:Int} {l:Lm} {x:St} (w:World) (h:Mm w m k l x):Calls Tryz.prog 53 #[.pointer (some ⟨m,0,none⟩)] w fun e w'=>e=.returned (.int .i64 k)∧Fr none_ w w':=by
  have c0:w.cell? ⟨m,0,none⟩=some (.int .i64 k):=h.b.cell' rfl
  clear h
  go_enter Tryz.func53,Tryz.ntmps53
  go_wp2
  go_ret
  exact ⟨rfl,Fr.refl _ _⟩
theorem used_hit12 {ps:List Pg} {u k:Nat} (h:(usedTo ps ps.length)[k]?=some u):∃ s g,ps[u]?=some (true,s,g):=by
  have hm:=List.mem_of_getElem? h
  have key:∀ n,u ∈ usedTo ps n→∃ s g,ps[u]?=some (true,s,g):=by
    intro n
    induction n with
    | zero=>intro hu;simp [usedTo] at hu
    | succ n ih =>
      intro hu
      cases hv:(ps[n]?.map (·.1)).getD false with
      | false=>rw [usedTo_miss ps n hv] at hu;exact ih hu
      | true =>
        rw [usedTo_hit ps n hv] at hu
        rcases List.mem_append.1 hu with hu | hu
        · exact ih hu
        · obtain rfl:=List.mem_singleton.1 hu
          cases hp:ps[u]? with
          | none=>rw [hp] at hv;cases hv
          | some p =>
            obtain ⟨a,s,g⟩:=p
            rw [hp] at hv
            obtain rfl:a=true:=by simpa using hv
            exact ⟨s,g,rfl⟩
  exact key _ hm
structure Both12 (l:Lm) (x:St) (LP:List RaP) (PA:Option Addr) (pc:Nat) (L:List Rp) (T:Option Addr) (tc:Nat) (m:Nat) (k:Int) (w:World):Prop where
  mm:Mm w m k l x
  ra:RaIn w LP PA pc
  tb:ROwn w (.slice T L.length tc) L
  dm:Dm (l.s:Int) l.n x.ss x.ps LP L
  pl:x.ps.length=l.p
  ls:l.s≤4096
  lp:l.p≤5000
theorem Both12.keep {l:Lm} {x:St} {LP:List RaP} {PA:Option Addr} {pc:Nat} {L:List Rp} {T:Option Addr} {tc:Nat} {m:Nat} {k:Int} {w w':World} (h:Both12 l x LP PA pc L T tc m k w) (hf:Fr none_ w w'):Both12 l x LP PA pc L T tc m k w':=⟨h.mm.keep hf,h.ra.keep hf,own_none h.tb hf,h.dm,h.pl,h.ls,h.lp⟩
theorem ints_row12 {w:World} {B n c:Nat} {A:Option Addr} {us:List Nat} (h:w.ownsRow B 3 1 (.slice A n c) n (ints us)) {k u:Nat} (hk:us[k]?=some u):∃ g,A=some ⟨g,0,none⟩∧g < w.heap.size∧w.cell? ⟨g,k,none⟩=some (.int .i64 (u:Int)):=by
  have hl:us.length=n:=by have:=h.1;simpa [ints] using this
  have hkl:k < us.length:=(List.getElem?_eq_some_iff.1 hk).1
  obtain ⟨A',c',e,_,_,hp⟩:=own_parts h
  obtain ⟨g,hg,hlt,hcell⟩:=hp (by omega)
  refine ⟨g,by injection e with e1 _ _;rw [e1,hg],hlt,hcell k _ ?_⟩
  simp [ints,hk]
set_option maxHeartbeats 16000000 in
theorem same12 {l:Lm} {x:St} {LP:List RaP} {PA:Option Addr} {pc:Nat} {L:List Rp} {T:Option Addr} {tc:Nat} {m:Nat} {k:Int} {cn cl:Int} {CA:Option Addr} {cm cc:Nat} {w:World} (h:Both12 l x LP PA pc L T tc m k w) :
  Calls Tryz.prog 13 #[.pointer (some ⟨m,0,none⟩),.agg (dmA l l.s l.n (.slice PA LP.length pc) l.p (.slice T L.length tc) cn cl (.slice CA cm cc) k)] w fun e w'=>e=.returned (.bool true)∧Fr none_ w w':=by
 obtain ⟨DM,hDM⟩:∃ z,z=(dmA l l.s l.n (.slice PA LP.length pc) l.p (.slice T L.length tc) cn cl (.slice CA cm cc) k):=⟨_,rfl⟩
 rw [← hDM]
 obtain ⟨w0,hw0⟩:∃ z,z=(w.alloc (.cells DM 43)):=⟨_,rfl⟩
 have f0:Fr none_ w w0:=by rw [hw0];exact (Fr.refl none_ w).alloc _
 have BM:Hid (Blk w0 w.heap.size 43 DM):=hid_ (by rw [hw0];exact Blk.new w _ _)
 have F0:=hid_ f0
 have HB:=hid_ (h.keep f0)
 have HDM:=hid_ hDM
 clear f0 h hDM
 go_enter Tryz.func13,Tryz.ntmps13
 go_upto_region 1 with fail
 change Code.wp _ _ _ _ (w.alloc (.cells DM 43))
 rw [← hw0]
 clear hw0
 obtain ⟨gb,hgb⟩:∃ g,g=w.heap.size:=⟨_,rfl⟩
 rw [← hgb] at BM
 rw [← hgb]
 clear hgb
 have c6:w0.cell? ⟨gb,6,none⟩=some (.int .i64 (l.s:Int)):=by have h:=BM.out;rw [HDM.out] at h;exact h.cell' rfl
 have c7:w0.cell? ⟨gb,7,none⟩=some (.int .i64 l.n):=by have h:=BM.out;rw [HDM.out] at h;exact h.cell' rfl
 have c8:w0.cell? ⟨gb,8,none⟩=some (.slice PA LP.length pc):=by have h:=BM.out;rw [HDM.out] at h;exact h.cell' rfl
 have c9:w0.cell? ⟨gb,9,none⟩=some (.int .i64 (l.p:Int)):=by have h:=BM.out;rw [HDM.out] at h;exact h.cell' rfl
 have c10:w0.cell? ⟨gb,10,none⟩=some (.slice T L.length tc):=by have h:=BM.out;rw [HDM.out] at h;exact h.cell' rfl
 have c14:w0.cell? ⟨gb,14,none⟩=some (.int .i64 k):=by have h:=BM.out;rw [HDM.out] at h;exact h.cell' rfl
 have hS0:(Fr none_ w0) w0.drew:=(Fr.refl none_ w0).drew
 refine wp_region_u 7 (Fr none_ w0) (by kernel_rfl) ?_
 refine u_tkS 0 (some 16) (.pointer (some ⟨m,0,none⟩)) rfl rfl (y_vlS (fun w' hS=>by kernel_rfl)) hS0 ?_
 go_frame
 refine u_tkS 2 (some 18) (.pointer (some ⟨gb,9,none⟩)) rfl rfl (y_vlS (fun w' hS=>by kernel_rfl)) hS0 ?_
 go_frame
 refine u_tkS 3 (some 19) (.agg #[.int .i64 (l.p:Int),.slice T L.length tc]) rfl rfl (yieldsIf_load_mid (by kernel_rfl) 38 (.tmp 18) rfl gb 9 (by kernel_rfl) [.int .i64 (l.p:Int),.slice T L.length tc] _ (fun w' hS j v hv=>by match j,hv with | 0,hv=>obtain rfl:=Option.some.inj hv;exact cellFr c9 hS | 1,hv=>obtain rfl:=Option.some.inj hv;exact cellFr c10 hS | n+2,hv=>simp at hv) Tryz.underlying38 rfl (by kernel_rfl)) hS0 ?_
 go_frame
 refine u_callE 1 (some 17) 48 #[.pointer (some ⟨m,0,none⟩)] (fun v w'=>∃ A c,v=.slice A (usedTo x.ps x.ps.length).length c∧w'.ownsRow w0.drew.heap.size 3 1 (.slice A (usedTo x.ps x.ps.length).length c) (usedTo x.ps x.ps.length).length (ints (usedTo x.ps x.ps.length))∧Fr none_ w0.drew w') rfl rfl (by kernel_rfl) (by kernel_rfl) (by kernel_rfl) ((memPages12 _ (HB.out.mm.keep hS0)).mono (by rintro e w' ⟨A,c,rfl,h1,h2⟩;exact ⟨_,rfl,A,c,rfl,h1,h2⟩)) ?_
 rintro v w1 ⟨A1,c1,rfl,ho1,hf1⟩
 have F1:=hid_ (hS0.then_none hf1)
 have O1:=hid_ ho1
 clear ho1 hf1
 refine ⟨F1.out,?_⟩
 try go_frame
 refine u_callE 4 (some 20) 49 #[(.agg #[.int .i64 (l.p:Int),.slice T L.length tc])] (fun v w'=>∃ A c,v=.slice A (usedTo x.ps x.ps.length).length c∧w'.ownsRow w1.heap.size 3 1 (.slice A (usedTo x.ps x.ps.length).length c) (usedTo x.ps x.ps.length).length (ints (usedTo x.ps x.ps.length))∧Fr none_ w1 w') rfl rfl (by kernel_rfl) (by kernel_rfl) (by kernel_rfl) (by
  have h:=rpages_any x.ps T tc L w1 (own_none HB.out.tb F1.out) HB.out.dm.tb
  rw [HB.out.pl] at h
  refine h.mono ?_
  rintro e w' ⟨A,c,rfl,h1,h2⟩
  exact ⟨_,rfl,A,c,rfl,h1,h2⟩) ?_
 rintro v w2 ⟨A2,c2,rfl,ho2,hf2⟩
 have F2:=hid_ (F1.out.then_none hf2)
 replace O1:=hid_ (own_none O1.out hf2)
 have O2:=hid_ ho2
 clear ho2 hf2 hS0 F1
 refine ⟨F2.out,?_⟩
 try go_frame
 refine u_tkS 5 (some 5) (.slice A1 (usedTo x.ps x.ps.length).length c1) rfl rfl (y_vlS (fun w' hS=>by kernel_rfl)) F2.out ?_
 go_frame
 refine u_tkS 6 (some 6) (.slice A2 (usedTo x.ps x.ps.length).length c2) rfl rfl (y_vlS (fun w' hS=>by kernel_rfl)) F2.out ?_
 go_frame
 refine u_done (by kernel_rfl) ?_
 obtain ⟨us,hus⟩:∃ us,us=usedTo x.ps x.ps.length:=⟨_,rfl⟩
 rw [← hus] at O1 O2
 rw [← hus]
 have HUS:=hid_ hus
 clear hus
 replace HB:=hid_ (HB.out.keep F2.out)
 replace BM:=hid_ (BM.out.fr F2.out id)
 replace F0:=hid_ (F0.out.then_none F2.out)
 replace c6:w2.cell? ⟨gb,6,none⟩=some (.int .i64 (l.s:Int)):=cellFr c6 F2.out
 replace c7:w2.cell? ⟨gb,7,none⟩=some (.int .i64 l.n):=cellFr c7 F2.out
 replace c8:w2.cell? ⟨gb,8,none⟩=some (.slice PA LP.length pc):=cellFr c8 F2.out
 replace c14:w2.cell? ⟨gb,14,none⟩=some (.int .i64 k):=cellFr c14 F2.out
 clear c9 c10 F2
 go_upto_region 2 with fail
 have hS0:(Fr none_ w2) w2.drew:=(Fr.refl none_ w2).drew
 refine wp_region_u 21 (Fr none_ w2) (by kernel_rfl) ?_
 refine u_tkS 0 (some 21) (.pointer (some ⟨m,0,none⟩)) rfl rfl (y_vlS (fun w' hS=>by kernel_rfl)) hS0 ?_
 go_frame
 refine u_tkS 2 (some 23) (.pointer (some ⟨gb,6,none⟩)) rfl rfl (y_vlS (fun w' hS=>by kernel_rfl)) hS0 ?_
 go_frame
 refine u_tkS 3 (some 24) (.agg #[.int .i64 (l.s:Int),.int .i64 l.n,.slice PA LP.length pc]) rfl rfl (yieldsIf_load_mid (by kernel_rfl) 35 (.tmp 23) rfl gb 6 (by kernel_rfl) [.int .i64 (l.s:Int),.int .i64 l.n,.slice PA LP.length pc] _ (fun w' hS j v hv=>by match j,hv with | 0,hv=>obtain rfl:=Option.some.inj hv;exact cellFr c6 hS | 1,hv=>obtain rfl:=Option.some.inj hv;exact cellFr c7 hS | 2,hv=>obtain rfl:=Option.some.inj hv;exact cellFr c8 hS | n+3,hv=>simp at hv) Tryz.underlying35 rfl (by kernel_rfl)) hS0 ?_
 go_frame
 refine u_callE 1 (some 22) 51 #[.pointer (some ⟨m,0,none⟩)] (fun v w'=>∃ A c,v=.slice A (liveTo x.ss x.ss.length).length c∧Reads w' 2 A (liveTo x.ss x.ss.length).length (rpFlat (liveTo x.ss x.ss.length))∧Fr none_ w2.drew w') rfl rfl (by kernel_rfl) (by kernel_rfl) (by kernel_rfl) ((memLive12 _ (HB.out.mm.keep hS0)).mono (by rintro e w' ⟨A,c,rfl,h1,h2⟩;exact ⟨_,rfl,A,c,rfl,Reads.of_own h1,h2⟩)) ?_
 rintro v w3 ⟨A3,c3,rfl,ho3,hf3⟩
 have F3:=hid_ (hS0.then_none hf3)
 have O3:=hid_ ho3
 clear ho3 hf3
 refine ⟨F3.out,?_⟩
 try go_frame
 refine u_callE 4 (some 25) 52 #[(.agg #[.int .i64 (l.s:Int),.int .i64 l.n,.slice PA LP.length pc])] (fun v w'=>∃ A c,v=.slice A (liveTo x.ss x.ss.length).length c∧Reads w' 2 A (liveTo x.ss x.ss.length).length (rpFlat (liveTo x.ss x.ss.length))∧Fr none_ w3 w') rfl rfl (by kernel_rfl) (by kernel_rfl) (by kernel_rfl) (by
  have h:=rlive_ok (l.s:Int) l.n LP PA pc w3 (by omega) (by have:=HB.out.ls;omega) (HB.out.ra.keep F3.out)
  refine h.mono ?_
  rintro e w' ⟨A,c,rfl,h1,h2⟩
  have hn:=HB.out.dm.ns
  rw [show (l.s:Int).toNat=x.ss.length by omega,HB.out.dm.sim.live x.ss.length (Nat.le_refl _)] at h1 ⊢
  exact ⟨_,rfl,A,c,rfl,Reads.of_own h1,h2⟩) ?_
 rintro v w4 ⟨A4,c4,rfl,ho4,hf4⟩
 have F4:=hid_ (F3.out.then_none hf4)
 replace O3:=hid_ (O3.out.none_fr hf4)
 have O4:=hid_ ho4
 clear ho4 hf4 F3
 refine ⟨F4.out,?_⟩
 try go_frame
 refine u_call 5 (some 26) 50 #[.slice A3 (liveTo x.ss x.ss.length).length c3,.slice A4 (liveTo x.ss x.ss.length).length c4] (.bool true) (Fr none_ w4) rfl rfl (by kernel_rfl) (by kernel_rfl) (by kernel_rfl) (sameRefs12r (liveTo x.ss x.ss.length) A3 A4 c3 c4 w4 (by have:=live_le x.ss x.ss.length;have:=HB.out.dm.ns;have:=HB.out.ls;omega) O3.out O4.out) ?_
 intro w5 hf5
 have F5:=hid_ (F4.out.then_none hf5)
 clear hf5 F4 O3 O4
 refine ⟨F5.out,?_⟩
 try go_frame
 refine u_tkS 6 (some 27) (.bool false) rfl rfl (y_vlS (fun w' hS=>by kernel_rfl)) F5.out ?_
 go_frame
 refine u_tkS 7 (some 28) (.bool false) rfl rfl (y_vlS (fun w' hS=>by kernel_rfl)) F5.out ?_
 go_frame
 refine u_tkS 8 (some 29) (.pointer (some ⟨m,0,none⟩)) rfl rfl (y_vlS (fun w' hS=>by kernel_rfl)) F5.out ?_
 go_frame
 refine u_tkS 10 (some 31) (.pointer (some ⟨gb,14,none⟩)) rfl rfl (y_vlS (fun w' hS=>by kernel_rfl)) F5.out ?_
 go_frame
 refine u_tkS 11 (some 32) (.int .i64 k) rfl rfl (y_cell 3 (.tmp 31) ⟨gb,14,none⟩ _ (by kernel_rfl) rfl (by kernel_rfl) (fun w' hS=>cellFr c14 hS) Tryz.underlying3 rfl) F5.out ?_
 go_frame
 refine u_call 9 (some 30) 53 #[.pointer (some ⟨m,0,none⟩)] (.int .i64 k) (Fr none_ w5) rfl rfl (by kernel_rfl) (by kernel_rfl) (by kernel_rfl) (memCount12s _ (HB.out.mm.keep F5.out)) ?_
 intro w6 hf6
 have F6:=hid_ (F5.out.then_none hf6)
 clear hf6 F5
 refine ⟨F6.out,?_⟩
 try go_frame
 refine u_tkS 12 (some 33) (.bool false) rfl rfl (y_bool (b:=k != k) (by simp) (by kernel_rfl) (fun w' hS=>by kernel_rfl)) F6.out ?_
 go_frame
 refine u_tkS 13 (some 34) (.bool false) rfl rfl (y_vlS (fun w' hS=>by kernel_rfl)) F6.out ?_
 go_frame
 refine u_tkS 14 (some 35) (.bool false) rfl rfl (y_vlS (fun w' hS=>by kernel_rfl)) F6.out ?_
 go_frame
 refine u_tkS 15 (some 36) (.slice A1 us.length c1) rfl rfl (y_vlS (fun w' hS=>by kernel_rfl)) F6.out ?_
 go_frame
 refine u_tkS 16 (some 37) (.int .i64 us.length) rfl rfl (y_vlS (fun w' hS=>by kernel_rfl)) F6.out ?_
 go_frame
 refine u_tkS 17 (some 38) (.slice A2 us.length c2) rfl rfl (y_vlS (fun w' hS=>by kernel_rfl)) F6.out ?_
 go_frame
 refine u_tkS 18 (some 39) (.int .i64 us.length) rfl rfl (y_vlS (fun w' hS=>by kernel_rfl)) F6.out ?_
 go_frame
 refine u_tkS 19 (some 40) (.bool false) rfl rfl (y_bool (b:=(us.length:Int) != (us.length:Int)) (by simp) (by kernel_rfl) (fun w' hS=>by kernel_rfl)) F6.out ?_
 go_frame
 refine u_tkS 20 (some 41) (.bool false) rfl rfl (y_vlS (fun w' hS=>by kernel_rfl)) F6.out ?_
 go_frame
 refine u_done (by kernel_rfl) ?_
 replace HB:=hid_ (HB.out.keep F6.out)
 replace BM:=hid_ (BM.out.fr F6.out id)
 replace F0:=hid_ (F0.out.then_none F6.out)
 replace O1:=hid_ (own_none O1.out F6.out)
 replace O2:=hid_ (own_none O2.out F6.out)
 have HUL:=hid_ (show us.length≤5000 by have:=usedTo_le x.ps x.ps.length;rw [← HUS.out] at this;have:=HB.out.lp;have:=HB.out.pl;omega)
 clear hS0 c6 c7 c8 c14 F6
 go_wp2_with fail
 go_loopw [44] (fun i wr=>∃ q:Nat,q≤us.length∧i=.int .i64 q∧Fr none_ w6 wr) (fun i _=>us.length - (intOf i).toNat)
 case atStart=>exact ⟨0,Nat.zero_le _,rfl,Fr.refl _ _⟩
 case round =>
  obtain ⟨wx,rfl⟩:∃ wx:World,wx=wr:=⟨_,rfl⟩
  obtain ⟨q,hq,rfl,hfr⟩:=hrel
  have hul:=HUL.out
  have FR:=hid_ hfr
  have hi0:(0:Int)≤(q:Int):=Int.natCast_nonneg _
  clear hfr
  by_cases hlt:q < us.length
  ·have hi1:(q:Int) < (us.length:Int):=by omega
   obtain ⟨u,hu⟩:∃ u,us[q]?=some u:=⟨_,List.getElem?_eq_getElem hlt⟩
   obtain ⟨g1,rfl,hb1,x1⟩:=ints_row12 (own_none O1.out FR.out) hu
   obtain ⟨g2,rfl,hb2,x2⟩:=ints_row12 (own_none O2.out FR.out) hu
   rw [HUS.out] at hu
   obtain ⟨s0,g0,hp⟩:=used_hit12 hu
   have HP:=hid_ hp
   have HBr:=hid_ (HB.out.keep FR.out)
   have BMr:=hid_ (BM.out.fr FR.out id)
   clear hu hp hb1 hb2
   go_wp2_with fail
   refine (mchain12 _ HBr.out.mm (sim9_of HBr.out.dm.sim HBr.out.dm.ns) HBr.out.ls (HBr.out.dm.sim.sizes HBr.out.ra) u s0 g0 HP.out).mono ?_
   rintro e w7 ⟨out,Rs,K,A5,c5,D5,d5,v5,hd5,rfl,hr5,ha5,hf5⟩
   have D5':=hid_ hd5
   have R5:=hid_ hr5
   have A5':=hid_ ha5
   have F7:=hid_ (FR.out.then_none hf5)
   replace HBr:=hid_ (HBr.out.keep hf5)
   replace BMr:=hid_ (BMr.out.fr hf5 id)
   clear hd5 hr5 ha5 hf5 x1 x2
   go_wp2_with (refine wpList_load_mid rfl 43 (.tmp 3) rfl gb 0 rfl ((dmA l l.s l.n (.slice PA LP.length pc) l.p (.slice T L.length tc) cn cl (.slice CA cm cc) k)).toList _ (by have h:=BMr.out;rw [HDM.out] at h;exact Blk.range7 (l:=((dmA l l.s l.n (.slice PA LP.length pc) l.p (.slice T L.length tc) cn cl (.slice CA cm cc) k)).toList) h) Tryz.underlying43 rfl (by kernel_rfl) ?_)
   refine (dchain12 _ HBr.out.ra HBr.out.tb HBr.out.dm.tb HBr.out.pl HBr.out.ls u s0 g0 HP.out).mono ?_
   rintro e w8 ⟨out2,Rs2,K2,A6,c6,D6,d6,v6,hd6,rfl,hr6,ha6,hf6⟩
   obtain ⟨rfl,rfl⟩:=dres2_det D5'.out hd6
   replace R5:=hid_ (R5.out.none_fr hf6)
   replace A5':=hid_ (A5'.out.keep hf6)
   have R6:=hid_ hr6
   have A6':=hid_ ha6
   have F8:=hid_ (F7.out.then_none hf6)
   have HOL:=hid_ (show out.length≤5000 by have:=hd6.r.le;have:=HBr.out.ls;omega)
   clear hd6 hr6 ha6 hf6 D5'
   go_wp2_with fail
   refine (sameRefs12r out D5 D6 d5 d6 _ HOL.out R5.out R6.out).mono ?_
   rintro e w9 ⟨rfl,hf9⟩
   replace A5':=hid_ (A5'.out.keep hf9)
   replace A6':=hid_ (A6'.out.keep hf9)
   have F9:=hid_ (F8.out.then_none hf9)
   clear hf9 R5 R6
   go_wp2_with fail
   go_loopw [82] (fun i wr=>∃ j:Nat,j≤out.length∧i=.int .i64 j∧Fr none_ w9 wr) (fun i _=>out.length - (intOf i).toNat)
   case atStart=>exact ⟨0,Nat.zero_le _,rfl,Fr.refl _ _⟩
   case round =>
    obtain ⟨j,hj,rfl,hfj⟩:=hrel
    have FJ:=hid_ hfj
    have hj0:(0:Int)≤(j:Int):=Int.natCast_nonneg _
    clear hfj
    by_cases hjl:j < out.length
    ·have hj1:(j:Int) < (out.length:Int):=by omega
     obtain ⟨R,hR⟩:∃ R,Rs[j]?=some R:=⟨_,List.getElem?_eq_getElem (by have:=A5'.out.n;omega)⟩
     obtain ⟨b1,o1,RA1,k1,RB1,e1,rfl,hb1,hg1,hr1,hs1,hs2⟩:=(A5'.out.keep FJ.out).at_ j R hR
     obtain ⟨b2,o2,RA2,k2,RB2,e2,rfl,hb2,hg2,hr2,_,_⟩:=(A6'.out.keep FJ.out).at_ j R hR
     have G1:=hid_ hg1
     have G2:=hid_ hg2
     have HR:=hid_ (And.intro hr1 (And.intro hr2 (And.intro hs1 hs2)))
     have HJL:=hid_ hjl
     have hol:=HOL.out
     clear hR hb1 hb2 hg1 hg2 hr1 hr2 hs1 hs2
     go_upto_region 16 with fail
     have hS1:(Fr none_ wr) wr.drew:=(Fr.refl none_ wr).drew
     refine wp_region_u 10 (Fr none_ wr) (by kernel_rfl) ?_
     refine u_tkS 0 (some 85) (.slice (some ⟨b1,o1,none⟩) out.length c5) rfl rfl (y_vlS (fun w' hS=>by kernel_rfl)) hS1 ?_
     go_frame
     refine u_tkS 1 (some 86) (.int .i64 j) rfl rfl (y_vlS (fun w' hS=>by kernel_rfl)) hS1 ?_
     go_frame
     refine u_tkS 2 (some 87) (.pointer (some ⟨b1,o1+j * 15,none⟩)) rfl rfl (y_vlS (fun w' hS=>ex_index15 49 55 (.tmp 85) (.tmp 86) b1 o1 j out.length c5 rfl (by kernel_rfl) (by kernel_rfl) Tryz.underlying49 (fun w=>by kernel_rfl) HJL.out w')) hS1 ?_
     go_frame
     refine u_take 3 (some 88) (.agg (recA R (.slice RA1 R.rows.length k1) (.slice RB1 R.ents.length e1))) rfl rfl (by kernel_rfl) (by kernel_rfl) (by kernel_rfl) (by kernel_rfl) (fun _ _ _ h=>h) (yieldsIf_load_mid (by kernel_rfl) 55 (.tmp 87) rfl b1 (o1+j * 15) (by kernel_rfl) _ _ (fun w' hS i v hv=>cellFr (G1.out i v hv) hS) Tryz.underlying55 rfl rec_size) hS1 ?_
     go_frame
     refine u_tkS 4 (some 89) (.slice (some ⟨b2,o2,none⟩) out.length c6) rfl rfl (y_vlS (fun w' hS=>by kernel_rfl)) hS1 ?_
     go_frame
     refine u_tkS 5 (some 90) (.int .i64 j) rfl rfl (y_vlS (fun w' hS=>by kernel_rfl)) hS1 ?_
     go_frame
     refine u_tkS 6 (some 91) (.pointer (some ⟨b2,o2+j * 15,none⟩)) rfl rfl (y_vlS (fun w' hS=>ex_index15 49 55 (.tmp 89) (.tmp 90) b2 o2 j out.length c6 rfl (by kernel_rfl) (by kernel_rfl) Tryz.underlying49 (fun w=>by kernel_rfl) HJL.out w')) hS1 ?_
     go_frame
     refine u_take 7 (some 92) (.agg (recA R (.slice RA2 R.rows.length k2) (.slice RB2 R.ents.length e2))) rfl rfl (by kernel_rfl) (by kernel_rfl) (by kernel_rfl) (by kernel_rfl) (fun _ _ _ h=>h) (yieldsIf_load_mid (by kernel_rfl) 55 (.tmp 91) rfl b2 (o2+j * 15) (by kernel_rfl) _ _ (fun w' hS i v hv=>cellFr (G2.out i v hv) hS) Tryz.underlying55 rfl rec_size) hS1 ?_
     go_frame
     refine u_call 8 (some 93) 55 #[(.agg (recA R (.slice RA1 R.rows.length k1) (.slice RB1 R.ents.length e1))),(.agg (recA R (.slice RA2 R.rows.length k2) (.slice RB2 R.ents.length e2)))] (.bool true) (Fr none_ wr.drew) rfl rfl (by kernel_rfl) (by kernel_rfl) (by kernel_rfl) (same4_ok R RA1 k1 RB1 e1 RA2 k2 RB2 e2 _ (HR.out.1.keep hS1) (HR.out.2.1.keep hS1) HR.out.2.2.1 HR.out.2.2.2) ?_
     intro w10 hf10
     have F10:=hid_ (hS1.then_none hf10)
     clear hf10 hS1 G1 G2 HR
     refine ⟨F10.out,?_⟩
     try go_frame
     refine u_tkS 9 (some 94) (.bool false) rfl rfl (y_vlS (fun w' hS=>by kernel_rfl)) F10.out ?_
     go_frame
     refine u_done (by kernel_rfl) ?_
     go_wp2_with fail
     go_roundw
     case rel=>exact ⟨j+1,by have:=HJL.out;omega,by go_num,FJ.out.then_none F10.out⟩
     case measure=>simp [intOf];have:=HJL.out;omega
    ·obtain rfl:j=out.length:=by omega
     go_wp2_with fail
     go_roundw
     case rel=>exact ⟨q+1,by omega,by go_num,F9.out.then_none FJ.out⟩
     case measure=>simp [intOf];omega
  ·obtain rfl:q=us.length:=by omega
   go_wp2_with fail
   go_ret
   exact ⟨rfl,F0.out.then_none FR.out⟩
open Go.RowKit

structure E1 where
  z:In1
  d:Rz
  y:Rl
structure Dc where
  LP:List RaP
  PA:Option Addr
  pc:Nat
  L:List Rp
  T:Option Addr
  tc:Nat
structure Dk where
  cn:Int
  cl:Int
  CA:Option Addr
  cm:Nat
  cc:Nat
abbrev dcA (l:Lm) (c:Dc) (u:Dk) (k:Int):Array Value:=dmA l l.s l.n (.slice c.PA c.LP.length c.pc) l.p (.slice c.T c.L.length c.tc) u.cn u.cl (.slice u.CA u.cm u.cc) k
def InD (DOC:Nat→Prop) (A:Option Addr):Prop:=∀ ad,A=some ad→DOC ad.block
abbrev riC (e:E1):List Value:=(riA e.z.J e.z.q e.d e.y).toList
def riFlat:List E1→List Value
  | []=>[]
  | e :: L=>riC e ++ riFlat L
theorem riFlat_len:∀ L:List E1,(riFlat L).length=L.length * 29
  | []=>rfl
  | e :: L=>by rw [riFlat,List.length_append,riFlat_len L];show 29+L.length * 29=(L.length+1) * 29;omega
theorem riFlat_snoc:∀ (L:List E1) (e:E1),riFlat (L ++ [e])=riFlat L ++ riC e
  | [],e=>by simp [riFlat]
  | a :: L,e=>by rw [List.cons_append,riFlat,riFlat,riFlat_snoc L e,List.append_assoc]
theorem riFlat_get:∀ {L:List E1} {k:Nat} {e:E1},L[k]?=some e→∀ (j:Nat) (v:Value),(riC e)[j]?=some v→(riFlat L)[k * 29+j]?=some v
  | [],k,e,h=>by simp at h
  | a :: L,k,e,h=>by
    intro j v hj
    have hl:(riC a).length=29:=rfl
    rw [riFlat]
    cases k with
    | zero =>
      obtain rfl:a=e:=by simpa using h
      have hj':=(List.getElem?_eq_some_iff.1 hj).1
      rw [List.getElem?_append_left (by omega),Nat.zero_mul,Nat.zero_add]
      exact hj
    | succ k =>
      rw [List.getElem?_append_right (by rw [hl];omega),hl,show (k+1) * 29+j - 29=k * 29+j by omega]
      exact riFlat_get (by simpa using h) j v hj
def setL (xs:List Value) (o:Nat):List Value→List Value
  | []=>xs
  | v :: r=>setL (xs.set o v) (o+1) r
theorem setL_left:∀ (vs xs ys:List Value) (o:Nat),o+vs.length≤xs.length→setL (xs ++ ys) o vs=setL xs o vs ++ ys
  | [],_,_,_,_=>rfl
  | v :: r,xs,ys,o,h=>by
    rw [List.length_cons] at h
    rw [setL,setL,List.set_append_left _ _ (by omega)]
    exact setL_left r (xs.set o v) ys (o+1) (by rw [List.length_set];omega)
theorem setL_right:∀ (vs xs ys:List Value) (o:Nat),setL (xs ++ ys) (xs.length+o) vs=xs ++ setL ys o vs
  | [],_,_,_=>rfl
  | v :: r,xs,ys,o=>by
    rw [setL,setL,List.set_append_right _ _ (by omega),show xs.length+o - xs.length=o by omega]
    exact setL_right r xs (ys.set o v) (o+1)
theorem setL_all:∀ (vs xs:List Value),xs.length=vs.length→setL xs 0 vs=vs
  | [],xs,h=>by
    have:xs=[]:=List.eq_nil_of_length_eq_zero h
    rw [this];rfl
  | v :: r,[],h=>by simp at h
  | v :: r,x :: xs,h=>by
    have h2:xs.length=r.length:=by simpa using h
    show setL (v :: xs) 1 r=v :: r
    have:=setL_right r [v] xs 0
    rw [setL_all r xs h2] at this
    exact this
theorem riFlat_set:∀ {L:List E1} {k:Nat},k < L.length→∀ e:E1,setL (riFlat L) (k * 29) (riC e)=riFlat (L.set k e)
  | [],k,h=>by simp at h
  | a :: L,k,h=>by
    intro e
    cases k with
    | zero =>
      rw [Nat.zero_mul,riFlat,setL_left _ _ _ _ (by show 0+29≤29;omega),setL_all (riC e) (riC a) rfl]
      rfl
    | succ k =>
      have h1:k < L.length:=by simpa using h
      have ih:=riFlat_set h1 e
      rw [riFlat,show (k+1) * 29=(riC a).length+k * 29 by show _=29+_;omega,setL_right,ih]
      rfl
theorem own_setL {B n c g size:Nat} {t:TypeId}:∀ (vs xs:List Value) (o:Nat) (w:World),w.ownsRow B t size (.slice (some ⟨g,0,none⟩) n c) n xs→(w.setCells g o vs).ownsRow B t size (.slice (some ⟨g,0,none⟩) n c) n (setL xs o vs)
  | [],_,_,_,h=>h
  | v :: r,xs,o,w,h=>own_setL r (xs.set o v) (o+1) _ (h.stored o v).1
structure DocOk (W w:World) (DOC:Nat→Prop) (e:E1):Prop where
  s:SimJ e.z.J e.z.D e.d
  r:RiIn w e.d e.y
  jr:JobRd W e.z.J e.z.q
  p1:0 < e.d.pages.length→InD DOC e.y.pA
  p2:0 < e.d.refs.length→InD DOC e.y.rA
structure Dcs (W w:World) (l:Lm) (x:St) (k:Int) (DOC:Nat→Prop) (gr:Nat) (u:Dk) (c:Dc) (L:List E1):Prop where
  f:Fr none_ W w
  br:Blk w gr 43 (dcA l c u k)
  dm:DocM l x.ss x.ps c.LP c.PA c.pc c.L c.T c.tc w
  rc:∀ z ∈ c.LP,RecReads W z.R z.A z.B
  e:∀ (j:Nat) (e:E1),L[j]?=some e→DocOk W w DOC e
  pa:0 < c.LP.length→InD DOC c.PA
  lt:∀ g,DOC g→g < w.heap.size
  ln:(c.LP.length:Int)≤k+1
theorem reads_doc {w w':World} {S DOC:Nat→Prop} {size n:Nat} {A:Option Addr} {xs:List Value} (h:Reads w size A n xs) (hf:Fr S w w') (hD:0 < n→InD DOC A) (hS:∀ g,DOC g→¬ S g):Reads w' size A n xs:=by
  rcases Nat.eq_zero_or_pos n with h0 | h0
  · exact ⟨h.1,fun hn=>absurd hn (by omega)⟩
  · exact h.fr hf (fun ad had=>hS _ (hD h0 ad had))
theorem DocOk.far {W w w':World} {S DOC:Nat→Prop} {e:E1} (h:DocOk W w DOC e) (hf:Fr S w w') (hS:∀ g,DOC g→¬ S g):DocOk W w' DOC e:=
  ⟨h.s,⟨reads_doc h.r.p hf h.p1 hS,h.r.pm,reads_doc h.r.r hf h.p2 hS,h.r.rm,h.r.lp,h.r.lr⟩,h.jr,h.p1,h.p2⟩
section
variable {W w w':World} {l:Lm} {x:St} {k:Int} {DOC:Nat→Prop} {gr:Nat} {u:Dk} {c:Dc} {L:List E1} {S:Nat→Prop}
theorem DocM.far (h:DocM l x.ss x.ps c.LP c.PA c.pc c.L c.T c.tc w) (hf:Fr S w w') (hW:Fr none_ W w') (hrc:∀ z ∈ c.LP,RecReads W z.R z.A z.B) (hpa:0 < c.LP.length→InD DOC c.PA) (hS:∀ g,DOC g→¬ S g) (hT:∀ g cs,Blk w g 159 cs→¬ S g):DocM l x.ss x.ps c.LP c.PA c.pc c.L c.T c.tc w':=
  ⟨⟨reads_doc h.ra.rd hf hpa hS,h.ra.cap,h.ra.capm,h.ra.len,fun p hp=>(hrc p hp).keep hW,h.ra.sz⟩,own_fr h.tb hf (fun g hg=>by obtain ⟨_,cs,hb⟩:=own_blk h.tb hg;exact hT g cs hb),h.dm,h.pl⟩
theorem Dcs.far (h:Dcs W w l x k DOC gr u c L) (hf:Fr S w w') (hW:Fr none_ W w') (hS:∀ g,DOC g→¬ S g) (hg:¬ S gr) (hT:∀ g cs,Blk w g 159 cs→¬ S g):Dcs W w' l x k DOC gr u c L:=
  ⟨hW,h.br.fr hf hg,h.dm.far hf hW h.rc h.pa hS hT,h.rc,fun j e he=>(h.e j e he).far hf hS,h.pa,fun g hg=>Nat.lt_of_lt_of_le (h.lt g hg) hf.size,h.ln⟩
theorem Dcs.keep (h:Dcs W w l x k DOC gr u c L) (hf:Fr none_ w w'):Dcs W w' l x k DOC gr u c L:=h.far hf (h.f.then_none hf) (fun _ _=>id) id (fun _ _ _=>id)
end
def Apt (DOC:Nat→Prop) (m:Nat) (x:St) (cab gr gb ga:Nat) (Lz:List In1):Prop:=∀ g,DOC g→¬ mall m x g∧g≠cab∧g≠gr∧g≠gb∧g≠ga∧∀ (j:Nat) (z:In1),Lz[j]?=some z→¬ foot z.i z.a g
theorem mall_lt12 {w:World} {m:Nat} {k:Int} {l:Lm} {x:St} (h:Mm w m k l x):∀ i,mall m x i→i < w.heap.size:=by
  obtain ⟨cs,hG,_⟩:=h.ar.hG
  obtain ⟨cap,cur,hT0,hH,_⟩:=id h.tb
  rintro i (e | e | e | e | e)
  · rw [e];exact h.b.lt
  · rw [e];exact hG.lt
  · rw [e];exact hH.lt
  · rw [e];exact h.ck.hC.lt
  · obtain ⟨es,clock,hm,r⟩:=h.ck.hM
    rw [e]
    rcases Nat.lt_or_ge x.M w.heap.size with h1 | h1
    · exact h1
    · rw [Array.getElem?_eq_none h1] at hm;cases hm
theorem mfc_no {W w:World} {m:Nat} {k:Int} {l:Lm} {x:St} {cab:Nat} {cs:List Int} {Lz:List In1} (h:Mny W w m k l x cab cs Lz) {j:Nat} {z:In1} (hz:Lz[j]?=some z) {g:Nat} {t:TypeId} {cc:Array Value} (hb:Blk w g t cc) (ht:t≠94∧t≠147∧t≠149∧t≠144∧t≠112∧t≠3∧t≠55∧t≠48):¬ mfc m x z.i z.a cab g:=by
  rintro (e | e | e)
  · exact h.M.mall_ty hb ⟨ht.1,ht.2.1,ht.2.2.1,ht.2.2.2.1⟩ e
  · obtain ⟨t',cs2,hb',ht'⟩:=(h.e j z hz).I.foot_blk e
    obtain ⟨rfl,_⟩:=hb.uniq hb'
    rcases ht' with rfl | rfl | rfl | rfl
    · exact ht.2.2.2.2.1 rfl
    · exact ht.2.2.2.2.2.1 rfl
    · exact ht.2.2.2.2.2.2.1 rfl
    · exact ht.2.2.2.2.2.2.2 rfl
  · obtain rfl:g=cab:=e
    exact ht.2.2.2.2.2.1 (hb.uniq h.cb).1
section
variable {W w w1 w2 w3:World} {m:Nat} {k:Int} {l:Lm} {x x':St} {cab:Nat} {cs:List Int} {Lz:List In1} {DOC:Nat→Prop} {gr gb ga:Nat} {u:Dk} {c:Dc} {L:List E1} {S:Nat→Prop}
theorem Dcs.code (h:Dcs W w l x k DOC gr u c L) (hM:Mny W w m k l x cab cs Lz) (hA:Apt DOC m x cab gr gb ga Lz) {j:Nat} {z:In1} (hz:Lz[j]?=some z) (hf:Fr (mfc m x z.i z.a cab) w w1) (hW:Fr none_ W w1):Dcs W w1 l x k DOC gr u c L:=by
  refine h.far hf hW (fun g hg hs=>?_) (mfc_no hM hz h.br (by decide)) (fun g cs hb=>mfc_no hM hz hb (by decide))
  obtain ⟨h1,h2,h3,h4,h5,h6⟩:=hA g hg
  rcases hs with e | e | e
  · exact h1 e
  · exact h6 j z hz e
  · exact h2 e
theorem Apt.code (hA:Apt DOC m x cab gr gb ga Lz) (hlt:∀ g,DOC g→g < w.heap.size) {j:Nat} {z:In1} (hz:Lz[j]?=some z) {D':Dt} {a':Ia} (hfl:FootLe z.i z.a a' w) (hsm:x'.a=x.a∧x'.G=x.G∧x'.T=x.T∧x'.H=x.H∧x'.C=x.C∧x'.M=x.M):Apt DOC m x' cab gr gb ga (Lz.set j { z with D:=D',a:=a' }):=by
  intro g hg
  obtain ⟨h1,h2,h3,h4,h5,h6⟩:=hA g hg
  refine ⟨by rw [mall_same hsm];exact h1,h2,h3,h4,h5,fun i z2 h7 e=>?_⟩
  rcases get_set (List.getElem?_eq_some_iff.1 hz).1 h7 with ⟨rfl,rfl⟩ | ⟨_,h8⟩
  · rcases hfl g e with e | e
    · exact h6 i z hz e
    · have:=hlt g hg
      omega
  · exact h6 i z2 h8 e
def docN (DOC:Nat→Prop) (w1 w2:World):Nat→Prop:=fun g=>DOC g∨(w1.heap.size≤g∧g < w2.heap.size)
theorem Apt.doc (hA:Apt DOC m x cab gr gb ga Lz) (hM:Mny W w1 m k l x cab cs Lz) (hgr:gr < w1.heap.size) (hgb:gb < w1.heap.size) (hga:ga < w1.heap.size):Apt (docN DOC w1 w2) m x cab gr gb ga Lz:=by
  intro g hg
  rcases hg with hg | ⟨hg,_⟩
  · exact hA g hg
  · refine ⟨fun e=>?_,fun e=>?_,fun e=>?_,fun e=>?_,fun e=>?_,fun j z hz e=>?_⟩
    · have:=mall_lt12 hM.M g e;omega
    · have:=hM.cb.lt;omega
    · omega
    · omega
    · omega
    · have:=(hM.e j z hz).I.foot_lt e;omega
theorem newB_in {A A2:Option Addr} {n n2 size:Nat} {xs:List Value} (h:NewB A n A2 n2 w1) (hr:Reads w2 size A2 n2 xs) (hs:0 < size) (hold:0 < n→InD DOC A):0 < n2→InD (docN DOC w1 w2) A2:=by
  intro h0 ad had
  rcases h with ⟨e,hle⟩ | h
  · exact .inl (hold (by omega) ad (e ▸ had))
  · obtain ⟨b,off,hb,hlt,_⟩:=reads_lit hr hs h0
    obtain rfl:(⟨b,off,none⟩:Addr)=ad:=Option.some.inj (hb.symm.trans had)
    exact .inr ⟨h _ had,hlt⟩
theorem Dcs.doc (h:Dcs W w1 l x k DOC gr u c L) (hA:Apt DOC m x' cab gr gb ga Lz) (hgr:gr < w1.heap.size) (hgb:gb < w1.heap.size) {j:Nat} {e:E1} (hj:L[j]?=some e) {z':In1} (hzJ:z'.J=e.z.J) (hzq:z'.q=e.z.q) {d':Rz} {y':Rl} {c':Dc}
    (hS:SimJ e.z.J z'.D d') (hR:RiIn w2 d' y') (hm:DocM l x'.ss x'.ps c'.LP c'.PA c'.pc c'.L c'.T c'.tc w2) {k':Int} (hln:(c'.LP.length:Int)≤k'+1) (hrc:∀ z ∈ c'.LP,RecReads W z.R z.A z.B) (hb1:NewB c.PA c.LP.length c'.PA c'.LP.length w1) (hb2:NewB e.y.pA e.d.pages.length y'.pA d'.pages.length w1) (hb3:NewB e.y.rA e.d.refs.length y'.rA d'.refs.length w1)
    (hf:Fr none_ w1 w2) (hf3:Fr (fun g=>g=gb∨g=gr) w2 w3) (hW:Fr none_ W w3) (hbr:Blk w3 gr 43 (dcA l c' u k')) (hbt:∃ cs,Blk w2 gb 68 cs) (hgt:∃ cs,Blk w2 gr 43 cs) :
    Dcs W w3 l x' k' (docN DOC w1 w2) gr u c' (L.set j ⟨z',d',y'⟩):=by
  have hjl:=(List.getElem?_eq_some_iff.1 hj).1
  have he:=h.e j e hj
  have off:∀ g,docN DOC w1 w2 g→¬ (g=gb∨g=gr):=fun g hg=>by
    rcases hg with hg | ⟨hg,_⟩
    · obtain ⟨_,_,h3,h4,_⟩:=hA g hg
      rintro (e | e)
      · exact h4 e
      · exact h3 e
    · rintro (e | e) <;> omega
  have hpa:=newB_in (w2:=w2) hb1 hm.ra.rd (by decide) h.pa
  refine ⟨hW,hbr,hm.far hf3 hW hrc hpa off (fun g cs hb=>?_),hrc,fun i e2 h2=>?_,hpa,fun g hg=>?_,?_⟩
  · obtain ⟨cs1,h1⟩:=hbt
    obtain ⟨cs2,h2⟩:=hgt
    rintro (rfl | rfl)
    · exact absurd (hb.uniq h1).1 (by decide)
    · exact absurd (hb.uniq h2).1 (by decide)
  · rcases get_set hjl h2 with ⟨rfl,rfl⟩ | ⟨n2,g2⟩
    · have:DocOk W w2 (docN DOC w1 w2) ⟨z',d',y'⟩:=⟨by show SimJ z'.J z'.D d';rw [hzJ];exact hS,hR,by show JobRd W z'.J z'.q;rw [hzJ,hzq];exact he.jr,newB_in hb2 hR.p (by decide) he.p1,newB_in hb3 hR.r (by decide) he.p2⟩
      exact this.far hf3 off
    · have e3:=(h.e i e2 g2).far hf (fun _ _=>id)
      have:DocOk W w2 (docN DOC w1 w2) e2:=⟨e3.s,e3.r,e3.jr,fun h0 ad had=>.inl (e3.p1 h0 ad had),fun h0 ad had=>.inl (e3.p2 h0 ad had)⟩
      exact this.far hf3 off
  · rcases hg with hg | ⟨_,hg⟩
    · have:=h.lt g hg;have:=hf.size;have:=hf3.size;omega
    · have:=hf3.size;omega
  · exact hln
end
open Go.RowKit

abbrev newSt12 (a G:Nat) (vr ve:Value) (T H C M:Nat) (l:Lm):St:=⟨a,G,⟨1,true,leafR,vr,ve⟩ :: List.replicate (l.s - 1) Sl.zero,T,H,(true,1,1) :: List.replicate (l.p - 1) (false,0,0),C,M,1,0,.map []⟩
abbrev leafP12:RaP:=⟨1,1,leafR,none,0,none,0,true⟩
theorem dm_new12 {l:Lm} (hl:l.Right) (vr ve:Value):Dm (l.s:Int) l.n ((⟨1,true,leafR,vr,ve⟩:Sl) :: List.replicate (l.s - 1) Sl.zero) ((true,1,1) :: List.replicate (l.p - 1) (false,0,0)) [leafP12] [((0:Int),(1:Int),(1:Int))]:=by
  have hs:=hl.s
  have hp:=hl.p
  have hn:=hl.n
  obtain ⟨ns,hns⟩:∃ ns,l.s=ns+1:=⟨l.s - 1,by omega⟩
  obtain ⟨np,hnp⟩:∃ np,l.p=np+1:=⟨l.p - 1,by omega⟩
  refine ⟨?_,?_,fun s hs2=>?_,fun p hp2=>?_,?_⟩
  · have h0:SimA (List.replicate (ns+1) Sl.zero) []:=SimA.nil (fun i s h=>by
      rw [List.getElem?_replicate] at h
      split at h
      · obtain rfl:=Option.some.inj h;exact ⟨rfl,rfl⟩
      · cases h)
    have h1:=h0.put (i:=0) (s:=Sl.zero) (p:=leafP12) (t:=⟨1,true,leafR,vr,ve⟩) rfl rfl rfl rfl rfl rfl rfl
    rw [hns]
    exact h1
  · show (((List.replicate (l.s - 1) Sl.zero).length+1:Nat):Int)=_
    rw [List.length_replicate]
    omega
  · rcases List.mem_cons.1 hs2 with rfl | h
    · exact ⟨by show (0:Int)≤1;decide,by show (1:Int)≤_;omega⟩
    · obtain rfl:=(List.mem_replicate.1 h).2
      exact ⟨by decide,by show (0:Int)≤_;omega⟩
  · obtain rfl:p=leafP12:=by simpa using hp2
    decide
  · have h0:=Sim.init (np+1) (by omega)
    have h1:=h0.take_ (i:=0) (s:=0) (g:=0) rfl
    have h2:=h1.swap_ (i:=0) (j:=0) (s:=0) (g:=0) rfl rfl 1 1
    rw [hnp]
    exact h2
def begZ (J:Jd):Rz:=if J.news < 0∨4 < J.news then { Rz.zero with over:=true,err:=1 } else Rz.zero
theorem simJ_beg (J:Jd):SimJ J (begD J) (begZ J):=by
  unfold begD begZ
  by_cases h:0≤J.news∧J.news≤4
  · have hn:¬ (J.news < 0∨4 < J.news):=by omega
    rw [if_pos h,if_neg hn]
    by_cases h0:J.news=0
    · rw [if_pos h0]
      unfold madeD
      rw [if_pos h0]
      refine ⟨⟨rfl,rfl,rfl,rfl,rfl,fun _=>rfl,fun _ _=>?_⟩,fun _ _=>⟨rfl,rfl⟩,rfl,rfl,rfl⟩
      show (0:Int)=J.news
      exact h0.symm
    · rw [if_neg h0]
      exact ⟨⟨rfl,rfl,rfl,rfl,rfl,fun _=>rfl,fun _ _=>rfl⟩,fun e _=>absurd e (by show ¬ (1:Int)≤0;decide),rfl,rfl,rfl⟩
  · have hn:J.news < 0∨4 < J.news:=by omega
    rw [if_neg h,if_pos hn]
    exact ⟨⟨rfl,rfl,rfl,rfl,rfl,fun e=>absurd rfl e,fun e=>absurd rfl e⟩,fun _ e=>absurd e (by show ¬ (7:Int)≤4;decide),rfl,rfl,rfl⟩
theorem begZ_nil (J:Jd):(begZ J).pages=[]∧(begZ J).refs=[]:=by unfold begZ;split <;> exact ⟨rfl,rfl⟩
theorem riIn_beg (w:World) (J:Jd):RiIn w (begZ J) ⟨none,0,none,0⟩:=by
  unfold begZ
  split <;> exact ⟨Reads.nil_,⟨Nat.le_refl _,Nat.zero_le _⟩,Reads.nil_,⟨Nat.le_refl _,Nat.zero_le _⟩,Nat.zero_le _,Nat.zero_le _⟩
theorem Mny.far {W w w':World} {m:Nat} {k:Int} {l:Lm} {x:St} {cab:Nat} {cs:List Int} {L:List In1} {S:Nat→Prop} (h:Mny W w m k l x cab cs L) (hf:Fr S w w') (hS:∀ b,S b→∃ t cs,Blk w b t cs∧(t=58∨t=68∨t=43)) (hB:∀ b,S b→W.heap.size≤b):Mny W w' m k l x cab cs L:=by
  have ty:∀ b t cs,S b→Blk w b t cs→(t=58∨t=68∨t=43):=fun b t cs hs hb=>by
    obtain ⟨t',cs',hb',ht⟩:=hS b hs
    obtain ⟨rfl,_⟩:=hb.uniq hb'
    exact ht
  have off:¬ S cab:=fun e=>by rcases ty _ _ _ e h.cb with h | h | h <;> revert h <;> decide
  refine ⟨h.M.ty hf (fun b e=>by obtain ⟨t,cs,hb,ht⟩:=hS b e;exact ⟨t,cs,hb,by rcases ht with rfl | rfl | rfl <;> decide⟩),h.k0,h.k1,h.hW,h.cb.fr hf off,h.ca,h.ct,fun j z hz=>?_,h.dis⟩
  have e:=h.e j z hz
  refine ⟨e.I.fr hf (fun g hg hs=>?_) (fun g t cs' hb ht hs=>?_),e.d,e.j.fr hf hB (fun b t cs' hs hb=>?_),e.mv,e.nw,e.zJ,e.off,e.hWB,Nat.le_trans e.hB hf.size,e.qc⟩
  · obtain ⟨t,cs1,hb1,ht⟩:=e.I.foot_blk hg
    rcases ty _ _ _ hs hb1 with h2 | h2 | h2 <;> rcases ht with h | h | h | h <;> rw [h2] at h <;> revert h <;> decide
  · rcases ty _ _ _ hs hb with h2 | h2 | h2 <;> rcases ht with h | h | h <;> rw [h2] at h <;> revert h <;> decide
  · rcases ty _ _ _ hs hb with h2 | h2 | h2 <;> rw [h2] <;> decide
theorem Mny.add {W w w':World} {m:Nat} {k:Int} {l:Lm} {x:St} {cab:Nat} {cs:List Int} {c':Int} {L:List In1} (h:Mny W w m k l x cab cs L) {z:In1} (hz:InOk W w' cab L.length z) (hf:Fr (only cab) w w') (hcb:Blk w' cab 3 (cellsI (cs.set L.length c'))) (hlt:L.length < cs.length) (hct:CntOk z.D c') (hnew:∀ g,foot z.i z.a g→w.heap.size≤g):Mny W w' m k l x cab (cs.set L.length c') (L ++ [z]):=by
  have hb:=h.cb
  have hca:=h.ca
  have hM':Mm w' m k l x:=h.M.ty hf (fun b e=>by rw [show b=cab from e];exact ⟨_,_,hb,by decide⟩)
  have hold:∀ (j:Nat) (y:In1),L[j]?=some y→InOk W w' cab j y:=fun j y hy=>by
    have e:=h.e j y hy
    exact ⟨e.I.offcab hf hb e.off,e.d,e.j.fr hf (fun b e'=>by rw [show b=cab from e'];exact hca) (fun b t cs e' hb'=>by
      have e2:b=cab:=e'
      subst e2
      obtain ⟨rfl,_⟩:=hb'.uniq hb
      decide),e.mv,e.nw,e.zJ,e.off,e.hWB,Nat.le_trans e.hB hf.size,e.qc⟩
  have get:∀ (i:Nat) (y:In1),(L ++ [z])[i]?=some y→(L[i]?=some y∧i < L.length)∨(y=z∧i=L.length):=fun i y hy=>by
    rcases Nat.lt_or_ge i L.length with h1 | h1
    · rw [List.getElem?_append_left h1] at hy
      exact .inl ⟨hy,h1⟩
    · rw [List.getElem?_append_right h1] at hy
      rcases Nat.eq_zero_or_pos (i - L.length) with h2 | h2
      · rw [h2] at hy
        exact .inr ⟨(by simpa using hy.symm),by omega⟩
      · rw [List.getElem?_eq_none (by simp;omega)] at hy
        cases hy
  refine ⟨hM',h.k0,h.k1,h.hW,hcb,hca,fun j y hy=>?_,fun j y hy=>?_,fun j1 j2 z1 z2 h1 h2 hne g hg hg2=>?_⟩
  · rcases get j y hy with ⟨g1,l1⟩ | ⟨rfl,rfl⟩
    · obtain ⟨c,hc,h3⟩:=h.ct j y g1
      exact ⟨c,by rw [List.getElem?_set_ne (by omega)];exact hc,h3⟩
    · exact ⟨c',List.getElem?_set_self hlt,hct⟩
  · rcases get j y hy with ⟨g1,l1⟩ | ⟨rfl,rfl⟩
    · exact hold j y g1
    · exact hz
  · rcases get j1 z1 h1 with ⟨g1,l1⟩ | ⟨rfl,l1⟩
    · rcases get j2 z2 h2 with ⟨g2,l2⟩ | ⟨rfl,l2⟩
      · exact h.dis j1 j2 z1 z2 g1 g2 hne g hg hg2
      · have:=(h.e j1 z1 g1).I.foot_lt hg
        have:=hnew g hg2
        omega
    · rcases get j2 z2 h2 with ⟨g2,l2⟩ | ⟨rfl,l2⟩
      · have:=(h.e j2 z2 g2).I.foot_lt hg2
        have:=hnew g hg
        omega
      · exact hne (by omega)
abbrev ptF12 (l:List Nat):List Value:=l.map fun i=>Value.pointer (some ⟨i,0,none⟩)
abbrev zs (L:List E1):List In1:=L.map (·.z)
abbrev isOf (L:List E1):List Nat:=L.map (·.z.i)
section
variable {W w w':World} {m:Nat} {k:Int} {l:Lm} {x:St} {cab:Nat} {cs:List Int} {B:Nat} {vp vi:Value} {gr:Nat} {D0:Nat→Prop} {u:Dk} {c:Dc} {L:List E1} {S:Nat→Prop}
structure Low (D0:Nat→Prop) (m:Nat) (x:St) (cab gr B:Nat) (W:World):Prop where
  d:∀ g,D0 g→g < B∧¬ mall m x g∧g≠cab∧g≠gr
  gr:W.heap.size≤gr
  B:W.heap.size≤B
structure Beg (W w:World) (m:Nat) (k:Int) (l:Lm) (x:St) (cab:Nat) (cs:List Int) (B:Nat) (vp vi:Value) (gr:Nat) (D0:Nat→Prop) (u:Dk) (c:Dc) (L:List E1) (Z:List In1):Prop where
  M:Mny W w m k l x cab cs Z
  d:Dcs W w l x k D0 gr u c L
  o:w.ownsRow B 58 1 vp Z.length (ptF12 (Z.map (·.i)))
  b:w.ownsRow B 68 29 vi L.length (riFlat L)
  z:∀ (j:Nat) (z:In1),Z[j]?=some z→B≤z.B
  n:∀ i,Z.length≤i→i < cs.length→cs[i]?=some 0
theorem Beg.keep {Z:List In1} (h:Beg W w m k l x cab cs B vp vi gr D0 u c L Z) (hf:Fr none_ w w'):Beg W w' m k l x cab cs B vp vi gr D0 u c L Z:=⟨h.M.keep hf,h.d.keep hf,own_none h.o hf,own_none h.b hf,h.z,h.n⟩
theorem Beg.begin_ {Z:List In1} (h:Beg W w m k l x cab cs B vp vi gr D0 u c L Z) (hL:Low D0 m x cab gr B W) {J:Jd} {q:Jl} (hj:JobAt W w J q) (hq:q.cab=cab∧q.cao=Z.length) (hzJ:RowsOk J.head∧∀ R ∈ J.bases,RowsOk R) (hlt:Z.length < cs.length) (hBw:B≤w.heap.size) {i:Nat} {a:Ia} (hI:Inst w' w.heap.size i (begD J) a) (hmv:a.mv=jobF q.jb q.cb)
  (hcc:w'.cell? ⟨q.cab,q.cao,none⟩=some (.int .i64 (if 0≤J.news∧J.news≤4 then begC J 0 else 0))) (hcb:∃ cs2:CS (qph q cs),Blk w' q.cab 3 cs2.1) (hf:Fr (only q.cab) w w'):∃ cs',cs'.length=cs.length∧Mny W w' m k l x cab cs' (Z ++ [⟨i,w.heap.size,begD J,a,J,q⟩])∧Dcs W w' l x k D0 gr u c L∧w'.ownsRow B 58 1 vp Z.length (ptF12 (Z.map (·.i)))∧w'.ownsRow B 68 29 vi L.length (riFlat L)∧(∀ (j:Nat) (z:In1),(Z ++ [(⟨i,w.heap.size,begD J,a,J,q⟩:In1)])[j]?=some z→B≤z.B)∧(∀ i,Z.length+1≤i→i < cs'.length→cs'[i]?=some 0):=by
 obtain ⟨hq1,hq2⟩:=hq
 rw [hq1] at hf hcb
 rw [hq1,hq2] at hcc
 have hb:=h.M.cb
 have hca:=h.M.ca
 have hlen:(cs.set Z.length (if 0≤J.news∧J.news≤4 then begC J 0 else 0)).length=cs.length:=List.length_set
 have hcb':Blk w' cab 3 (cellsI (cs.set Z.length (if 0≤J.news∧J.news≤4 then begC J 0 else 0))):=by
  obtain ⟨cs',hb'⟩:=hcb
  have e:cs'.1=cellsI (cs.set Z.length (if 0≤J.news∧J.news≤4 then begC J 0 else 0)):=by
   apply Array.ext_getElem?
   intro o
   rw [cellsI_get]
   rcases Nat.decEq o Z.length with ho | ho
   ·rw [cs'.2 o (by show o≠q.cao;rw [hq2];exact ho),List.getElem?_set_ne (fun e=>ho e.symm)]
    exact cellsI_get cs o
   ·subst ho
    rw [List.getElem?_set_self hlt,← hb'.cell]
    exact hcc
  rw [← e]
  exact hb'
 have offt:∀ {g:Nat} {t:TypeId} {cc:Array Value},Blk w g t cc→t≠3→¬ only cab g:=fun hg ht e=>by
  have e2:_=cab:=e
  subst e2
  exact ht (hg.uniq hb).1
 have hW:Fr none_ W w':=h.d.f.trans hf (fun _ _=>id) (fun g hg e=>by have e2:g=cab:=e;omega)
 refine ⟨_,hlen,h.M.add (z:=⟨i,w.heap.size,begD J,a,J,q⟩) ?_ hf hcb' hlt (cnt_beg J) (fun g hg=>hI.foot_le hg),?_,?_,?_,fun j z hz=>?_,fun i2 h1 h2=>?_⟩
 ·exact ⟨hI,(begD_ok J).1,hj.fr hf (fun b e=>by rw [show b=cab from e];exact hca) (fun b t cs e hb'=>by
   have e2:b=cab:=e
   subst e2
   obtain ⟨rfl,_⟩:=hb'.uniq hb
   decide),hmv,(begD_ok J).2.1,hzJ,fun e=>(by have h1:=hI.foot_le e;have h2:=hb.lt;exact absurd h1 (by omega)),h.d.f.size,hf.size,hq1,hq2⟩
 ·exact h.d.far hf hW (fun g hg e=>(hL.d g hg).2.2.1 e) (offt h.d.br (by decide)) (fun g cs hg=>offt hg (by decide))
 ·exact own_fr h.o hf (fun g hg=>by obtain ⟨_,cs,hg⟩:=own_blk h.o hg;exact offt hg (by decide))
 ·exact own_fr h.b hf (fun g hg=>by obtain ⟨_,cs,hg⟩:=own_blk h.b hg;exact offt hg (by decide))
 ·rcases Nat.lt_or_ge j Z.length with h1 | h1
  ·rw [List.getElem?_append_left h1] at hz
   exact h.z j z hz
  ·rw [List.getElem?_append_right h1] at hz
   rcases Nat.eq_zero_or_pos (j - Z.length) with h2 | h2
   ·rw [h2] at hz
    obtain rfl:_=z:=by simpa using hz
    exact hBw
   ·rw [List.getElem?_eq_none (by simp;omega)] at hz
    cases hz
 ·rw [hlen] at h2
  rw [List.getElem?_set_ne (by omega)]
  exact h.n i2 (by omega) h2
theorem beg_pt {Z:List In1} {z1:In1} {vp':Value} (hL:Low D0 m x cab gr B W) (hM:Mny W w m k l x cab cs (Z ++ [z1])) (hd:Dcs W w l x k D0 gr u c L) (ho:w.ownsRow B 58 1 vp Z.length (ptF12 (Z.map (·.i)))) (hb:w.ownsRow B 68 29 vi L.length (riFlat L)) (hz:∀ (j:Nat) (z:In1),(Z ++ [z1])[j]?=some z→B≤z.B) (hn:∀ i,Z.length+1≤i→i < cs.length→cs[i]?=some 0)
    (hgr:w.grownBy w' vp.ownBlock) (hown:w'.ownsRow B 58 1 vp' (Z.length+1) (ptF12 (Z.map (·.i)) ++ [.pointer (some ⟨z1.i,0,none⟩)])):Beg W w' m k l x cab cs B vp' vi gr D0 u c L (Z ++ [z1]):=by
  have hf:Fr (fun g=>vp.ownBlock=some g) w w':=(Fr.refl _ w).grown hgr (fun g hg=>.inl hg)
  have hB:∀ g,vp.ownBlock=some g→W.heap.size≤g:=fun g hg=>Nat.le_trans hL.B (own_blk ho hg).1
  have ty:∀ g t cs,vp.ownBlock=some g→Blk w g t cs→t=58:=fun g t cs hg hb2=>by
    obtain ⟨_,cs3,hb3⟩:=own_blk ho hg
    exact (hb2.uniq hb3).1
  refine ⟨hM.far hf (fun g hg=>by obtain ⟨_,cs3,hb3⟩:=own_blk ho hg;exact ⟨_,_,hb3,.inl rfl⟩) hB,hd.far hf (hd.f.trans hf (fun _ _=>id) (fun g hg e=>by have:=hB g e;omega)) (fun g hg e=>?_) (fun e=>absurd (ty _ _ _ e hd.br) (by decide)) (fun g cs hb2 e=>absurd (ty _ _ _ e hb2) (by decide)),?_,own_fr hb hf (fun g hg e=>?_),hz,fun i h1 h2=>hn i (by rw [List.length_append] at h1;exact h1) h2⟩
  · have:=(hL.d g hg).1
    have:=(own_blk ho e).1
    omega
  · rw [List.length_append,List.map_append]
    simpa [ptF12] using hown
  · obtain ⟨_,cs3,hb3⟩:=own_blk hb hg
    exact absurd (ty _ _ _ e hb3) (by decide)
theorem Beg.doc {Z:List In1} {z1:In1} {vi':Value} (h:Beg W w m k l x cab cs B vp vi gr D0 u c L (Z ++ [z1])) (hL:Low D0 m x cab gr B W) (hJ:JobRd W z1.J z1.q) (hD:z1.D=begD z1.J) (hlen:L.length=Z.length)
    (hgr:w.grownBy w' vi.ownBlock) (hown:w'.ownsRow B 68 29 vi' (L.length+1) (riFlat L ++ (riA z1.J z1.q (begZ z1.J) ⟨none,0,none,0⟩).toList)):Beg W w' m k l x cab cs B vp vi' gr D0 u c (L ++ [⟨z1,begZ z1.J,⟨none,0,none,0⟩⟩]) (Z ++ [z1]):=by
  have hf:Fr (fun g=>vi.ownBlock=some g) w w':=(Fr.refl _ w).grown hgr (fun g hg=>.inl hg)
  have hB:∀ g,vi.ownBlock=some g→W.heap.size≤g:=fun g hg=>Nat.le_trans hL.B (own_blk h.b hg).1
  have ty:∀ g t cs,vi.ownBlock=some g→Blk w g t cs→t=68:=fun g t cs hg hb2=>by
    obtain ⟨_,cs3,hb3⟩:=own_blk h.b hg
    exact (hb2.uniq hb3).1
  have hd:=h.d.far hf (h.d.f.trans hf (fun _ _=>id) (fun g hg e=>by have:=hB g e;omega)) (fun g hg e=>by have:=(hL.d g hg).1;have:=(own_blk h.b e).1;omega) (fun e=>absurd (ty _ _ _ e h.d.br) (by decide)) (fun g cs hb2 e=>absurd (ty _ _ _ e hb2) (by decide))
  refine ⟨h.M.far hf (fun g hg=>by obtain ⟨_,cs3,hb3⟩:=own_blk h.b hg;exact ⟨_,_,hb3,.inr (.inl rfl)⟩) hB,⟨hd.f,hd.br,hd.dm,hd.rc,fun j e he=>?_,hd.pa,hd.lt,hd.ln⟩,own_fr h.o hf (fun g hg e=>?_),?_,h.z,h.n⟩
  · rcases Nat.lt_or_ge j L.length with h1 | h1
    · rw [List.getElem?_append_left h1] at he
      exact hd.e j e he
    · rw [List.getElem?_append_right h1] at he
      rcases Nat.eq_zero_or_pos (j - L.length) with h2 | h2
      · rw [h2] at he
        obtain rfl:_=e:=by simpa using he
        obtain ⟨n1,n2⟩:=begZ_nil z1.J
        exact ⟨by show SimJ z1.J z1.D (begZ z1.J);rw [hD];exact simJ_beg z1.J,riIn_beg _ _,hJ,fun h0=>(by rw [show ((⟨z1,begZ z1.J,⟨none,0,none,0⟩⟩:E1).d.pages)=[] from n1] at h0;exact absurd h0 (by decide)),fun h0=>(by rw [show ((⟨z1,begZ z1.J,⟨none,0,none,0⟩⟩:E1).d.refs)=[] from n2] at h0;exact absurd h0 (by decide))⟩
      · rw [List.getElem?_eq_none (by simp;omega)] at he
        cases he
  · obtain ⟨_,cs3,hb3⟩:=own_blk h.o hg
    exact absurd (ty _ _ _ e hb3) (by decide)
  · rw [List.length_append,riFlat_snoc]
    exact hown
end
def Apx (DOC:Nat→Prop) (m:Nat) (x:St) (cab gr:Nat) (vp vi:Value) (Lz:List In1):Prop:=∀ g,DOC g→¬ mall m x g∧g≠cab∧g≠gr∧vi.ownBlock≠some g∧vp.ownBlock≠some g∧∀ (j:Nat) (z:In1),Lz[j]?=some z→¬ foot z.i z.a g
structure Pls (W w:World) (m:Nat) (k:Int) (l:Lm) (x:St) (cab:Nat) (cs:List Int) (B:Nat) (vp vi:Value) (gr:Nat) (u:Dk) (c:Dc) (L:List E1):Prop where
  M:Mny W w m k l x cab cs (zs L)
  d:∃ DOC,Dcs W w l x k DOC gr u c L∧Apx DOC m x cab gr vp vi (zs L)
  o:w.ownsRow B 58 1 vp L.length (ptF12 (isOf L))
  b:w.ownsRow B 68 29 vi L.length (riFlat L)
  hg:W.heap.size≤gr
  hB:W.heap.size≤B
structure Mid (W w:World) (m:Nat) (k k':Int) (l:Lm) (x x':St) (cab:Nat) (cs:List Int) (B:Nat) (vp vi:Value) (gr:Nat) (u:Dk) (c:Dc) (L:List E1) (j:Nat) (z':In1):Prop where
  M:Mny W w m k' l x' cab cs ((zs L).set j z')
  d:∃ DOC,Dcs W w l x k DOC gr u c L∧Apx DOC m x' cab gr vp vi ((zs L).set j z')
  o:w.ownsRow B 58 1 vp L.length (ptF12 (isOf L))
  b:w.ownsRow B 68 29 vi L.length (riFlat L)
  hg:W.heap.size≤gr
  hB:W.heap.size≤B
section
variable {W w w' w1 w2 w3:World} {m:Nat} {k k':Int} {l:Lm} {x x':St} {cab:Nat} {cs:List Int} {B:Nat} {vp vi:Value} {gr:Nat} {D0:Nat→Prop} {u:Dk} {c:Dc} {L:List E1} {S:Nat→Prop}
theorem Pls.keep (h:Pls W w m k l x cab cs B vp vi gr u c L) (hf:Fr none_ w w'):Pls W w' m k l x cab cs B vp vi gr u c L:=by
  obtain ⟨DOC,hd,ha⟩:=h.d
  exact ⟨h.M.keep hf,⟨DOC,hd.keep hf,ha⟩,own_none h.o hf,own_none h.b hf,h.hg,h.hB⟩
theorem Mid.keep {j:Nat} {z':In1} (h:Mid W w m k k' l x x' cab cs B vp vi gr u c L j z') (hf:Fr none_ w w'):Mid W w' m k k' l x x' cab cs B vp vi gr u c L j z':=by
  obtain ⟨DOC,hd,ha⟩:=h.d
  exact ⟨h.M.keep hf,⟨DOC,hd.keep hf,ha⟩,own_none h.o hf,own_none h.b hf,h.hg,h.hB⟩
theorem Pls.f (h:Pls W w m k l x cab cs B vp vi gr u c L):Fr none_ W w:=by obtain ⟨DOC,hd,_⟩:=h.d;exact hd.f
theorem Mid.f {j:Nat} {z':In1} (h:Mid W w m k k' l x x' cab cs B vp vi gr u c L j z'):Fr none_ W w:=by obtain ⟨DOC,hd,_⟩:=h.d;exact hd.f
theorem Beg.pls (h:Beg W w m k l x cab cs B vp vi gr D0 u c L (zs L)) (hL:Low D0 m x cab gr B W):Pls W w m k l x cab cs B vp vi gr u c L:=by
  refine ⟨h.M,⟨D0,h.d,fun g hg=>?_⟩,?_,h.b,hL.gr,hL.B⟩
  · obtain ⟨h1,h2,h3,h4⟩:=hL.d g hg
    refine ⟨h2,h3,h4,fun e=>?_,fun e=>?_,fun j z hz e=>?_⟩
    · have:=(own_blk h.b e).1;omega
    · have:=(own_blk h.o e).1;omega
    · have:=(h.M.e j z hz).I.foot_le e
      have:=h.z j z hz
      omega
  · have:=h.o
    rw [List.length_map,List.map_map] at this
    exact this
theorem zs_get {j:Nat} {e:E1} (h:L[j]?=some e):(zs L)[j]?=some e.z:=by rw [List.getElem?_map,h];rfl
theorem Pls.code (h:Pls W w m k l x cab cs B vp vi gr u c L) {j:Nat} {e:E1} (hj:L[j]?=some e) {c0:Int} (hc:cs[j]?=some c0) {D':Dt} {a':Ia} {c':Int} (hst:StepR l.n e.z.J e.z.D x D' x') (hcn:CallsN e.z.D D' c0 c') (hb:Behind W w m k l x x' e.z.B e.z.i D' e.z.a a' e.z.J (qph e.z.q cs) c' w1) (hk:k+1≤100000):Mid W w1 m k (k+1) l x x' cab (cs.set j c') B vp vi gr u c L j { e.z with D:=D',a:=a' }:=by
  obtain ⟨DOC,hd,ha⟩:=h.d
  have hz:=zs_get hj
  have ez:=h.M.e j e.z hz
  have en:=h.M.env hz hc
  obtain ⟨c1,hc1,hct⟩:=h.M.ct j e.z hz
  obtain rfl:c0=c1:=Option.some.inj (hc.symm.trans hc1)
  have hf:Fr (mfc m x e.z.i e.z.a cab) w w1:=by
    have:=hb.f
    rw [show (qph e.z.q cs).cab=cab from ez.qc.1] at this
    exact this
  have hW:Fr none_ W w1:=hd.f.trans hf (fun _ _=>id) (fun g hg e2=>by
    rcases e2 with e2 | e2 | e2
    · have:=h.M.hW g e2;omega
    · have:=ez.I.foot_le e2;have:=ez.hWB;omega
    · have:=h.M.ca;have e3:g=cab:=e2;omega)
  have off:∀ {g:Nat} {t:TypeId} {cc:Array Value},Blk w g t cc→(t≠94∧t≠147∧t≠149∧t≠144∧t≠112∧t≠3∧t≠55∧t≠48)→¬ mfc m x e.z.i e.z.a cab g:=fun hb ht=>mfc_no h.M hz hb ht
  refine ⟨h.M.upd hz (en.next hst hb hk) hf hb.fl (cnt_step hst hct hcn),⟨DOC,?_,fun g hg=>?_⟩,own_fr h.o hf (fun g hg=>by obtain ⟨_,cs,hb⟩:=own_blk h.o hg;exact off hb (by decide)),own_fr h.b hf (fun g hg=>by obtain ⟨_,cs,hb⟩:=own_blk h.b hg;exact off hb (by decide)),h.hg,h.hB⟩
  · refine hd.far hf hW (fun g hg hs=>?_) (off hd.br (by decide)) (fun g cs hb=>off hb (by decide))
    obtain ⟨h1,h2,h3,h4,h5,h6⟩:=ha g hg
    rcases hs with e2 | e2 | e2
    · exact h1 e2
    · exact h6 j e.z hz e2
    · exact h2 e2
  · obtain ⟨h1,h2,h3,h4,h5,h6⟩:=ha g hg
    refine ⟨by rw [mall_same hb.sm];exact h1,h2,h3,h4,h5,fun i z2 h7 e2=>?_⟩
    rcases get_set (List.getElem?_eq_some_iff.1 hz).1 h7 with ⟨rfl,rfl⟩ | ⟨_,h8⟩
    · rcases hb.fl g e2 with e3 | e3
      · exact h6 i e.z hz e3
      · have:=hd.lt g hg
        omega
    · exact h6 i z2 h8 e2
theorem Pls.over (h:Pls W w m k l x cab cs B vp vi gr u c L) {j:Nat} {e:E1} (hj:L[j]?=some e):Mid W w m k k l x x cab cs B vp vi gr u c L j e.z:=by
  obtain ⟨DOC,hd,ha⟩:=h.d
  have e2:(zs L).set j e.z=zs L:=by
    apply List.ext_getElem?
    intro i
    rcases Nat.decEq i j with hij | hij
    · rw [List.getElem?_set_ne (fun e=>hij e.symm)]
    · subst hij
      rw [List.getElem?_set_self (List.getElem?_eq_some_iff.1 (zs_get hj)).1,zs_get hj]
  exact ⟨by rw [e2];exact h.M,⟨DOC,hd,by rw [e2];exact ha⟩,h.o,h.b,h.hg,h.hB⟩
theorem Mid.doc {j:Nat} {z':In1} (h:Mid W w1 m k k' l x x' cab cs B vp vi gr u c L j z') {e:E1} (hj:L[j]?=some e) (hz:z'.i=e.z.i∧z'.J=e.z.J∧z'.q=e.z.q) {gb n cv:Nat} (hvi:vi=.slice (some ⟨gb,0,none⟩) n cv) (hn:n=L.length) {d':Rz} {y':Rl} {c':Dc}
  (hS:SimJ e.z.J z'.D d') (hR:RiIn w2 d' y') (hm:DocM l x'.ss x'.ps c'.LP c'.PA c'.pc c'.L c'.T c'.tc w2) (hln:(c'.LP.length:Int)≤k'+1) (hrc:∀ z ∈ c'.LP,RecReads W z.R z.A z.B) (hb1:NewB c.PA c.LP.length c'.PA c'.LP.length w1) (hb2:NewB e.y.pA e.d.pages.length y'.pA d'.pages.length w1) (hb3:NewB e.y.rA e.d.refs.length y'.rA d'.refs.length w1)
  (hf:Fr none_ w1 w2) (hw3:w3=(w2.setCells gb (j * 29) (riA e.z.J e.z.q d' y').toList).setCells gr 0 (dcA l c' u k').toList):Pls W w3 m k' l x' cab cs B vp vi gr u c' (L.set j ⟨z',d',y'⟩):=by
 obtain ⟨DOC,hd,ha⟩:=h.d
 subst hn
 have hjl:=(List.getElem?_eq_some_iff.1 hj).1
 have hob:vi.ownBlock=some gb:=by rw [hvi];rfl
 obtain ⟨hBb,cb1,hbb⟩:=own_blk h.b hob
 have hbb2:=hbb.fr hf id
 have hgr1:=hd.br
 have hgr2:=hgr1.fr hf id
 have hne:gr≠gb:=Blk.ne_ hgr1 hbb (by decide)
 have f3:Fr (fun g=>g=gb∨g=gr) w2 w3:=by
  rw [hw3]
  exact Fr.setCells _ _ _ (Fr.setCells _ _ _ (Fr.refl _ w2) (.inl (.inl rfl))) (.inl (.inr rfl))
 have hW:Fr none_ W w3:=(hd.f.then_none hf).trans f3 (fun _ _=>id) (fun g hg e2=>by
  have:=h.hg
  have:=h.hB
  rcases e2 with rfl | rfl <;> omega)
 have tyS:∀ b,(b=gb∨b=gr)→∃ t cs,Blk w2 b t cs∧(t=58∨t=68∨t=43):=fun b hb=>by
  rcases hb with rfl | rfl
  ·exact ⟨_,_,hbb2,.inr (.inl rfl)⟩
  ·exact ⟨_,_,hgr2,.inr (.inr rfl)⟩
 have ezs:zs (L.set j ⟨z',d',y'⟩)=(zs L).set j z':=by rw [zs,List.map_set]
 have eis:isOf (L.set j ⟨z',d',y'⟩)=isOf L:=by
  rw [isOf,List.map_set]
  apply List.ext_getElem?
  intro i
  rcases Nat.decEq i j with hij | hij
  ·rw [List.getElem?_set_ne (fun e=>hij e.symm)]
  ·subst hij
   rw [List.getElem?_set_self (by rw [List.length_map];exact hjl),List.getElem?_map,hj]
   show some z'.i=some e.z.i
   rw [hz.1]
 obtain ⟨ga,hga⟩:∃ ga,vp.ownBlock=some ga:=by
  obtain ⟨A',c2,e1,_,_,hp⟩:=own_parts h.o
  obtain ⟨g,hg,_,_⟩:=hp (by omega)
  exact ⟨g,by rw [e1,hg];rfl⟩
 obtain ⟨_,ca1,hba⟩:=own_blk h.o hga
 have hA:Apt DOC m x' cab gr gb ga ((zs L).set j z'):=fun g hg=>by
  obtain ⟨h1,h2,h3,h4,h5,h6⟩:=ha g hg
  exact ⟨h1,h2,h3,fun e2=>h4 (by rw [hob,e2]),fun e2=>h5 (by rw [hga,e2]),h6⟩
 have hA2:=hA.doc (w2:=w2) h.M hgr1.lt hbb.lt hba.lt
 have hrow:=own_setL (riA e.z.J e.z.q d' y').toList (riFlat L) (j * 29) w2 (by rw [← hvi];exact own_none h.b hf)
 rw [show (riA e.z.J e.z.q d' y').toList=riC ⟨z',d',y'⟩ by show _=(riA z'.J z'.q d' y').toList;rw [hz.2.1,hz.2.2],riFlat_set hjl] at hrow
 have hrw:(riA e.z.J e.z.q d' y').toList=riC ⟨z',d',y'⟩:=by show _=(riA z'.J z'.q d' y').toList;rw [hz.2.1,hz.2.2]
 have fb:Fr (only gb) w2 (w2.setCells gb (j * 29) (riC ⟨z',d',y'⟩)):=Fr.setCells _ _ _ (Fr.refl _ w2) (.inl rfl)
 have hgr3:=hgr2.fr fb (only_ne hne)
 have hput:=hgr3.putN (o:=0) (vs:=(dcA l c' u k').toList) (cs':=dcA l c' u k') (w':=w3) (by rw [hw3,hrw]) (by simp only [setA,List.setIfInBounds_toArray,List.set_cons_zero,List.set_cons_succ])
 refine ⟨by rw [ezs];exact (h.M.keep hf).far f3 tyS (fun b hb=>by have:=h.hg;have:=h.hB;rcases hb with rfl | rfl <;> omega),⟨docN DOC w1 w2,?_,?_⟩,?_,?_,h.hg,h.hB⟩
 ·exact hd.doc hA hgr1.lt hbb.lt hj hz.2.1 hz.2.2 hS hR hm hln hrc hb1 hb2 hb3 hf f3 hW hput.1 ⟨_,hbb2⟩ ⟨_,hgr2⟩
 ·rw [ezs]
  intro g hg
  obtain ⟨h1,h2,h3,h4,h5,h6⟩:=hA2 g hg
  exact ⟨h1,h2,h3,fun e2=>h4 (Option.some.inj (hob.symm.trans e2)).symm,fun e2=>h5 (Option.some.inj (hga.symm.trans e2)).symm,h6⟩
 ·rw [List.length_set,eis]
  exact own_fr (own_none h.o hf) f3 (fun g hg e2=>by
   obtain ⟨_,cs2,hb2⟩:=own_blk (own_none h.o hf) hg
   rcases e2 with rfl | rfl
   ·exact absurd (hb2.uniq hbb2).1 (by decide)
   ·exact absurd (hb2.uniq hgr2).1 (by decide))
 ·rw [List.length_set]
  have h2:(w2.setCells gb (j * 29) (riC ⟨z',d',y'⟩)).ownsRow B 68 29 vi L.length (riFlat (L.set j ⟨z',d',y'⟩)):=by rw [hvi];exact hrow
  exact own_fr h2 hput.2 (fun g hg e2=>by
   have e3:g=gr:=e2
   rw [hob] at hg
   exact hne (e3.symm.trans (Option.some.inj hg).symm))
end
open Go.RowKit

theorem ihead_no {w:World} {B i:Nat} {D:Dt} {a:Ia} (h:Inst w B i D a) (hd:D.done=false):Calls Tryz.prog 17 #[.pointer (some ⟨i,0,none⟩)] w fun e w'=>e=.returned (.agg #[.int .i64 0,.int .i64 0])∧Fr none_ w w':=by
  have f0:Fr none_ w (w.alloc (.cells #[.int .i64 0,.int .i64 0] 48)):=(Fr.refl none_ w).alloc _
  have i25:w.cell? ⟨i,25,none⟩=some (.bool false):=by rw [← hd];exact h.b.cell' rfl
  replace i25:=cellFr i25 f0
  have K:=Blk.new w 48 #[.int .i64 0,.int .i64 0]
  have x0:=K.cell' (i:=0) rfl
  have x1:=K.cell' (i:=1) rfl
  have y0:=K.frozen 0
  have y1:=K.frozen 1
  have KK:=hid_ K
  have F0:=hid_ f0
  clear K h hd f0
  go_enter Tryz.func17,Tryz.ntmps17
  go_wp2_with fail
  have q0:=KK.out.cell' (i:=0) rfl
  have q1:=KK.out.cell' (i:=1) rfl
  refine bodyPost_ret (v:=.agg #[.int .i64 0,.int .i64 0]) ?_ rfl ⟨rfl,F0.out⟩
  simp [results,Tryz.results17,go_sem,q0,q1]
theorem ipages_no {w:World} {B i:Nat} {D:Dt} {a:Ia} (h:Inst w B i D a) (hd:D.done=false):Calls Tryz.prog 18 #[.pointer (some ⟨i,0,none⟩)] w fun e w'=>e=.returned (.slice none 0 0)∧Fr none_ w w':=by
  have i25:w.cell? ⟨i,25,none⟩=some (.bool false):=by rw [← hd];exact h.b.cell' rfl
  clear h hd
  go_enter Tryz.func18,Tryz.ntmps18
  go_wp2_with fail
  go_ret
  exact ⟨rfl,Fr.refl _ _⟩
theorem ipages_ok12 {w:World} {B i:Nat} {D:Dt} {a:Ia} (h:Inst w B i D a) (hd:D.done=true) (hp4:D.pages.length≤4):Calls Tryz.prog 18 #[.pointer (some ⟨i,0,none⟩)] w fun e w'=>∃ A c,e=.returned (.slice A D.pages.length c)∧Fr none_ w w':=by
  obtain ⟨j0,hj0,hy0,ht0,hc0⟩:=info_parts (show (Tryz.prog.info? 3).map (fun i=>(i.zero,i.size,i.bytes))=some (some (.int .i64 0),1,8) by kernel_rfl)
  obtain ⟨Ap,cp,_,_,_,_,e1,_,_⟩:=h.shapes
  have i25:w.cell? ⟨i,25,none⟩=some (.bool true):=by rw [← hd];exact h.b.cell' rfl
  have i6:w.cell? ⟨i,6,none⟩=some (.slice Ap D.pages.length cp):=by rw [← e1];exact h.b.cell' rfl
  have hil:=h.b.lt
  have RP:Reads w 1 Ap D.pages.length (intF D.pages):=Reads.of_own (by have:=h.p;rw [e1] at this;exact this)
  have Hj:=hid_ (And.intro hj0 (And.intro hy0 (And.intro ht0 hc0)))
  have HR:=hid_ RP
  clear h hd e1 hj0 hy0 ht0 hc0 RP
  go_enter Tryz.func18,Tryz.ntmps18
  go_wp2_with (at_builtin;refine wpList_append_any _ rfl (.tmp 12) (.tmp 16) 39 rfl w.heap.size 3 j0 _ 1 8 Tryz.underlying39 Hj.out.1 Hj.out.2.1 Hj.out.2.2.1 Hj.out.2.2.2 rfl (by omega) (.slice (some ⟨w.heap.size,0,none⟩) 0 0) 0 [] rfl (own_empty w _ _ _ (Nat.le_refl _)) Ap D.pages.length cp (intF D.pages) rfl (HR.out.alloc _) (by intro u hu;obtain ⟨n,_,rfl⟩:=List.mem_map.1 hu;rfl) (by simp only [maxLen];omega) (by omega) (by simp) ?_;intro A9 c9 w9 hown hgr)
  simp only [Nat.zero_add,List.nil_append] at hown
  have F9:Fr none_ w w9:=((Fr.refl none_ w).alloc _).grown hgr (fun k hk=>.inr (by
    have:w.heap.size=k:=by simpa [Value.ownBlock] using hk
    omega))
  go_ret
  exact ⟨A9,c9,rfl,F9⟩
theorem code_er {w:World} {v:Value} {c:Int} (h:Er w v c) (hL:Laid w):Calls Tryz.prog 19 #[v] w fun e w'=>e=.returned (.int .i64 c)∧Fr none_ w w':=by
  rcases h with rfl | ⟨p,s,⟨rfl,rfl⟩ | ⟨hc,b,rfl,hb⟩⟩
  · unfold errOf
    split
    · rename_i h
      subst h
      exact code_nil w
    · exact codeE (.code c) (errV c) w rfl hL
  · exact code_nil w
  · exact codeE (.at_ p s (.code c)) _ w ⟨b,_,rfl,hb,rfl⟩ hL
theorem er_nil {w:World} {v:Value} {c:Int} (h:Er w v c):(c=0∧v=.nilIface)∨(c≠0∧∃ t x,v=.iface t x):=by
  rcases h with rfl | ⟨p,s,⟨rfl,rfl⟩ | ⟨hc,b,rfl,hb⟩⟩
  · unfold errOf
    split
    · rename_i h
      exact .inl ⟨h,rfl⟩
    · rename_i h
      exact .inr ⟨h,_,_,rfl⟩
  · exact .inl ⟨rfl,rfl⟩
  · exact .inr ⟨hc,_,_,rfl⟩
theorem busy_is (w:World):Calls Tryz.prog 16 #[errV 11,.int .i64 11] w fun e w'=>e=.returned (.bool true)∧Fr none_ w w':=
  (isF 11 11 w).mono (by rintro e w' ⟨rfl,rfl⟩;exact ⟨rfl,Fr.refl _ _⟩)
open Go.RowKit

def DocPost (W:World) (l:Lm) (x':St) (k':Int) (u:Dk) (c:Dc) (e:E1) (D':Dt) (w:World) (ev:Ending) (w2:World):Prop:=
  ∃ (d':Rz) (y':Rl) (c':Dc),ev=.returned (.tuple #[.agg (riA e.z.J e.z.q d' y'),.agg (dcA l c' u k')])∧SimJ e.z.J D' d'∧RiIn w2 d' y'∧DocM l x'.ss x'.ps c'.LP c'.PA c'.pc c'.L c'.T c'.tc w2∧(c'.LP.length:Int)≤k'+1∧(∀ z ∈ c'.LP,RecReads W z.R z.A z.B)∧NewB c.PA c.LP.length c'.PA c'.LP.length w∧NewB e.y.pA e.d.pages.length y'.pA d'.pages.length w∧NewB e.y.rA e.d.refs.length y'.rA d'.refs.length w∧Fr none_ w w2
def TurnPost (W:World) (m:Nat) (k:Int) (l:Lm) (x:St) (cab:Nat) (cs:List Int) (B:Nat) (vp vi:Value) (gr:Nat) (u:Dk) (c:Dc) (L:List E1) (j:Nat) (e:E1) (ev:Ending) (w1:World):Prop:=
  ∃ (D':Dt) (a':Ia) (x':St) (k':Int) (cs':List Int),ev=.returned (.bool (D'.stage==7))∧Mid W w1 m k k' l x x' cab cs' B vp vi gr u c L j { e.z with D:=D',a:=a' }∧k'≤k+1∧cs'.length=cs.length ∧
    ∀ w',Fr none_ w1 w'→Calls Tryz.prog 12 #[.agg (riA e.z.J e.z.q e.d e.y),.agg (dcA l c u k)] w' (DocPost W l x' k' u c e D' w')
section
variable {W w w1 w2 w3:World} {m:Nat} {k k':Int} {l:Lm} {x x':St} {cab:Nat} {cs:List Int} {B:Nat} {vp vi:Value} {gr:Nat} {u:Dk} {c:Dc} {L:List E1}
theorem turn12 (h:Pls W w m k l x cab cs B vp vi gr u c L) {j:Nat} {e:E1} (hj:L[j]?=some e) (hk:k≤200) (hR:l.Right):Calls Tryz.prog 11 #[.pointer (some ⟨e.z.i,0,none⟩),.pointer (some ⟨m,0,none⟩)] w (TurnPost W m k l x cab cs B vp vi gr u c L j e):=by
  have hz:=zs_get hj
  have ez:=h.M.e j e.z hz
  have hk0:=h.M.k0
  have hs:=hR.s
  have hn:=hR.n
  by_cases h7:e.z.D.stage=7
  · refine (step_over _ ez.I h7).mono ?_
    rintro ev w1 ⟨rfl,rfl⟩
    refine ⟨e.z.D,e.z.a,x,k,cs,by rw [h7];rfl,h.over hj,by omega,rfl,fun w' hf=>?_⟩
    obtain ⟨DOC,hd,hA⟩:=h.d
    have he:=hd.e j e hj
    refine (rstep_over (by rw [he.s.over,h7];rfl)).mono ?_
    rintro ev w2 ⟨rfl,hf2⟩
    exact ⟨e.d,e.y,c,rfl,he.s,he.r.keep (hf.then_none hf2),hd.dm.keep (hf.then_none hf2),hd.ln,hd.rc,.inl ⟨rfl,Nat.le_refl _⟩,.inl ⟨rfl,Nat.le_refl _⟩,.inl ⟨rfl,Nat.le_refl _⟩,hf2⟩
  · obtain ⟨c0,hc0,hct⟩:=h.M.ct j e.z hz
    refine (step_any (h.M.env hz hc0) h7).mono ?_
    rintro ev w1 ⟨D',x',a',c',rfl,hst,hcn,hb⟩
    have mid:=h.code hj hc0 hst hcn hb (by omega)
    refine ⟨D',a',x',k+1,cs.set j c',rfl,mid,Int.le_refl _,List.length_set,fun w' hf=>?_⟩
    obtain ⟨DOC,hd,hA⟩:=mid.d
    have he:=hd.e j e hj
    have hln:=hd.ln
    refine (rstep12 (W0:=W) (x:=x) he.s ez.d ez.nw h7 hst (he.r.keep hf) he.jr (hd.f.then_none hf) hd.rc (hd.dm.keep hf) (IntWalk.i64_in _ (by omega)) (by omega) ⟨by omega,by omega,by omega⟩).mono ?_
    rintro ev w2 ⟨d',y',LP',PA',pc',L',T',tc',rfl,hS,hRi,hm,hl,hrc,n1,n2,n3,hf2⟩
    exact ⟨d',y',⟨LP',PA',pc',L',T',tc'⟩,rfl,hS,hRi,hm,by show (LP'.length:Int)≤_;omega,hrc,n1,n2,n3,hf2⟩
theorem Pls.both (h:Pls W w m k l x cab cs B vp vi gr u c L) (hR:l.Right):Both12 l x c.LP c.PA c.pc c.L c.T c.tc m k w:=by
  obtain ⟨DOC,hd,hA⟩:=h.d
  have hs:=hR.s
  have hp:=hR.p
  exact ⟨h.M.M,hd.dm.ra,hd.dm.tb,hd.dm.dm,hd.dm.pl,by omega,by omega⟩
theorem own_cells12 {B' n cv g size:Nat} {t:TypeId} {xs:List Value} (h:w.ownsRow B' t size (.slice (some ⟨g,0,none⟩) n cv) n xs) (hn:0 < n):∀ (i:Nat) (v:Value),xs[i]?=some v→w.cell? ⟨g,i,none⟩=some v:=by
  obtain ⟨A',c',e,_,_,hp⟩:=own_parts h
  obtain ⟨g',hg,_,hc⟩:=hp hn
  injection e with e1 _ _
  rw [hg] at e1
  injection e1 with e2
  injection e2 with e3
  subst e3
  exact hc
theorem own_there12 {B' n cv g size:Nat} {t:TypeId} {xs:List Value} (h:w.ownsRow B' t size (.slice (some ⟨g,0,none⟩) n cv) n xs) (hn:0 < n) {o z:Nat} (ho:o+z≤xs.length):w.there g o z:=fun j hj=>by
  obtain ⟨_,cs,hb⟩:=own_blk h (k:=g) rfl
  refine ⟨?_,hb.frozen _⟩
  rw [own_cells12 h hn (o+j) _ (List.getElem?_eq_getElem (by omega))]
  rfl
theorem own_slice12 {B' n size:Nat} {t:TypeId} {v:Value} {xs:List Value} (h:w.ownsRow B' t size v n xs) (hn:0 < n):∃ g cv,v=.slice (some ⟨g,0,none⟩) n cv∧g < w.heap.size:=by
  obtain ⟨A',c',e,_,_,hp⟩:=own_parts h
  obtain ⟨g',hg,hlt,_⟩:=hp hn
  exact ⟨g',c',by rw [e,hg],hlt⟩
section
variable {gb n cv:Nat} {j:Nat} {e:E1}
theorem Pls.bcell (h:Pls W w m k l x cab cs B vp (.slice (some ⟨gb,0,none⟩) n cv) gr u c L) (hn:n=L.length) (hj:L[j]?=some e) (i:Nat) (v:Value) (hv:(riC e)[i]?=some v):w.cell? ⟨gb,j * 29+i,none⟩=some v:=by
  subst hn
  exact own_cells12 h.b (by have:=(List.getElem?_eq_some_iff.1 hj).1;omega) _ _ (riFlat_get hj i v hv)
theorem Mid.brange {z':In1} (h:Mid W w m k k' l x x' cab cs B vp (.slice (some ⟨gb,0,none⟩) n cv) gr u c L j z') (hn:n=L.length) (hj:L[j]?=some e):w.rangeAt gb (j * 29) (riA e.z.J e.z.q e.d e.y).toList:=fun i v hv=>by
  subst hn
  exact own_cells12 h.b (by have:=(List.getElem?_eq_some_iff.1 hj).1;omega) _ _ (riFlat_get hj i v hv)
theorem Mid.bthere {z':In1} (h:Mid W w m k k' l x x' cab cs B vp (.slice (some ⟨gb,0,none⟩) n cv) gr u c L j z') (hn:n=L.length) (hj:j < L.length):w.there gb (j * 29) 29:=by
  subst hn
  refine own_there12 h.b (by omega) ?_
  rw [riFlat_len]
  omega
theorem Pls.pcell {ga:Nat} (h:Pls W w m k l x cab cs B (.slice (some ⟨ga,0,none⟩) n cv) vi gr u c L) (hn:n=L.length) (hj:L[j]?=some e):w.cell? ⟨ga,j,none⟩=some (.pointer (some ⟨e.z.i,0,none⟩)):=by
  subst hn
  refine own_cells12 h.o (by have:=(List.getElem?_eq_some_iff.1 hj).1;omega) _ _ ?_
  rw [List.getElem?_map,List.getElem?_map,hj]
  rfl
theorem Pls.gblk (h:Pls W w m k l x cab cs B vp vi gr u c L):Blk w gr 43 (dcA l c u k):=by
  obtain ⟨DOC,hd,hA⟩:=h.d
  exact hd.br
theorem Mid.gblk {z':In1} (h:Mid W w m k k' l x x' cab cs B vp vi gr u c L j z'):Blk w gr 43 (dcA l c u k):=by
  obtain ⟨DOC,hd,hA⟩:=h.d
  exact hd.br
theorem Pls.at_ (h:Pls W w m k l x cab cs B vp vi gr u c L) (hj:L[j]?=some e):Inst w e.z.B e.z.i e.z.D e.z.a∧DOk e.z.D∧SimJ e.z.J e.z.D e.d∧RiIn w e.d e.y∧∃ c0,w.cell? ⟨cab,j,none⟩=some (.int .i64 c0)∧0≤c0∧c0≤1:=by
  have hz:=zs_get hj
  have ez:=h.M.e j e.z hz
  obtain ⟨DOC,hd,hA⟩:=h.d
  have he:=hd.e j e hj
  obtain ⟨c0,hc0,h1,h2,_⟩:=h.M.ct j e.z hz
  exact ⟨ez.I,ez.d,he.s,he.r,c0,h.M.cb.cell' (by rw [cellsI_get,hc0];rfl),h1,h2⟩
end
end
section
variable {md:Region.Mode} {ops:Array Oper} {Q:Exit→Act→World→Prop} {S:World→Prop} {m fuel:Nat} {listed:Array Bool} {a:Act} {w:World} {oi:Oper}
theorem u_append (i:Nat) (d:Option Tmp) (hi:ops[i]?=some oi) (hd:oi.dst=d) (hw:Region.wanted oi (yielded ops a.tmps)=true) (hr:Region.ready md ops listed=[i]) (s x:Operand) (t:TypeId) (ho:oi.op=.call { callee:=.builtin .append,args:=#[s,x],argTypes:=#[t,t] })
    (base:Nat) (e:TypeId) (inf:TypeInfo) (z:Value) (size bytes:Nat) (ht:Tryz.prog.underlying t=some (.slice e)) (hinf:Tryz.prog.info? e=some inf) (hz:inf.zero=some z) (hsize:inf.size=size) (hby:inf.bytes=bytes) (hzs:z.cells.size=size) (hsz:0 < size)
    (v:Value) (n:Nat) (xs:List Value) (hs:a.eval s=v) (hown:w.ownsRow base e size v n xs) (A:Option Addr) (mm c:Nat) (news:List Value) (hx:a.eval x=.slice A mm c) (hrd:Reads w size A mm news) (h1:∀ u ∈ news,u.oneCell'=true)
    (h63:n+mm≤maxLen) (hbytes:(n+mm) * bytes≤140737488355328) (hbase:base≤w.heap.size)
    (h:∀ A' c' w',w'.ownsRow base e size (.slice A' (n+mm) c') (n+mm) (xs ++ news)→w.grownBy w' v.ownBlock→S w'∧UwA Tryz.prog md ops Q S m fuel (listed.setIfInBounds i true) (a.put d (.slice A' (n+mm) c')) w'):UwA Tryz.prog md ops Q S m (fuel+1) listed a w:=by
  subst hd
  refine u_one i hi hw hr ?_
  refine wp_append_any w s x t ho base e inf z size bytes ht hinf hz hsize hby hzs hsz v n xs hs hown A mm c news hx hrd h1 h63 hbytes hbase ?_
  intro A' c' w' h2 h3
  exact ⟨.inr (h A' c' w' h2 h3).1,(h A' c' w' h2 h3).2⟩
theorem u_storeM (i:Nat) (ty:TypeId) (x y:Operand) (b o:Nat) (cells:Array Value) (hi:ops[i]?=some oi) (hd:oi.dst=none) (hw:Region.wanted oi (yielded ops a.tmps)=true) (hr:Region.ready md ops listed=[i]) (hmi:m≤i)
    (ho:oi.op=.store ty x y) (hx:a.eval x=.pointer (some ⟨b,o,none⟩)) (hy:a.eval y=.agg cells) (ht:w.there b o cells.size) (hz:(Tryz.prog.info? ty).map (·.size)=some cells.size) (h1:cells.all (·.oneCell')=true)
    (h:∀ w',w'=w.setCells b o cells.toList→UwA Tryz.prog md ops Q S m fuel (listed.setIfInBounds i true) a w'):UwA Tryz.prog md ops Q S m (fuel+1) listed a w:=by
  refine u_one i hi hw hr ?_
  refine wp_store_mid ty x y ho b o cells hx hy ht hz h1 ?_
  rw [hd]
  exact ⟨.inl hmi,h _ rfl⟩
theorem ex_indexZ {oi:Oper} {a:Act} (size:Nat) (t e:TypeId) (x y:Operand) (b n m c:Nat) (ho:oi.op=.indexAddr t x y) (hx:a.eval x=.slice (some ⟨b,0,none⟩) m c) (hy:a.eval y=.int .i64 n) (hu:Tryz.prog.underlying t=some (.slice e)) (hs:∀ w,(sizeOf e).run Tryz.prog w=.ok size w) (hn:n < m) (w:World) :
    (execOp a.eval oi).run Tryz.prog w=.ok (.value (.pointer (some ⟨b,n * size,none⟩))) w:=by
  unfold execOp
  simp only [ho,hx,hy,Sem.run_bind,Sem.run_pure]
  have h0:(0:Int)≤(n:Int):=Int.natCast_nonneg _
  have h1:(n:Int) < (m:Int):=by omega
  simp [go_sem,hu,hs,h0,h1]
end
theorem made_ints12 (n:Nat):madeCells (Value.int IntKind.i64 0).cells (n * 1)=cellsI (List.replicate n 0):=by
  apply Array.toList_inj.1
  exact (toList_madeCells_one (.int .i64 0) (n * 1)).trans (by simp [cellsI])
open Go.RowKit

set_option maxHeartbeats 4000000 in
theorem rright12 (s p t r c n:Int) (w:World):Calls Tryz.prog 20 #[.agg #[.int .i64 s,.int .i64 p,.int .i64 t,.int .i64 r,.int .i64 c,.int .i64 n]] w fun e w'=>e=.returned (.bool (decide (4≤s∧s≤4096∧3≤p∧p≤256∧1≤t∧t≤64∧2≤r∧r≤64∧2≤c∧c≤64∧8≤n∧n≤1099511627776)))∧Fr none_ w w':=by
 by_cases g0:s < 4
 ·have E:decide (4≤s∧s≤4096∧3≤p∧p≤256∧1≤t∧t≤64∧2≤r∧r≤64∧2≤c∧c≤64∧8≤n∧n≤1099511627776)=false:=decide_eq_false (by omega)
  have d0:decide (s < 4)=true:=by simp;omega
  clear g0
  rw [E]
  go_enter Tryz.func20,Tryz.ntmps20
  go_wp2
  go_ret
  exact ⟨rfl,(Fr.refl none_ w).alloc _⟩
 have d0:decide (s < 4)=false:=by simp;omega
 by_cases g1:4096 < s
 ·have E:decide (4≤s∧s≤4096∧3≤p∧p≤256∧1≤t∧t≤64∧2≤r∧r≤64∧2≤c∧c≤64∧8≤n∧n≤1099511627776)=false:=decide_eq_false (by omega)
  have d1:decide (4096 < s)=true:=by simp;omega
  clear g1
  clear g0
  rw [E]
  go_enter Tryz.func20,Tryz.ntmps20
  go_wp2
  go_ret
  exact ⟨rfl,(Fr.refl none_ w).alloc _⟩
 have d1:decide (4096 < s)=false:=by simp;omega
 by_cases g2:p < 3
 ·have E:decide (4≤s∧s≤4096∧3≤p∧p≤256∧1≤t∧t≤64∧2≤r∧r≤64∧2≤c∧c≤64∧8≤n∧n≤1099511627776)=false:=decide_eq_false (by omega)
  have d2:decide (p < 3)=true:=by simp;omega
  clear g2
  clear g0
  clear g1
  rw [E]
  go_enter Tryz.func20,Tryz.ntmps20
  go_wp2
  go_ret
  exact ⟨rfl,(Fr.refl none_ w).alloc _⟩
 have d2:decide (p < 3)=false:=by simp;omega
 by_cases g3:256 < p
 ·have E:decide (4≤s∧s≤4096∧3≤p∧p≤256∧1≤t∧t≤64∧2≤r∧r≤64∧2≤c∧c≤64∧8≤n∧n≤1099511627776)=false:=decide_eq_false (by omega)
  have d3:decide (256 < p)=true:=by simp;omega
  clear g3
  clear g0
  clear g1
  clear g2
  rw [E]
  go_enter Tryz.func20,Tryz.ntmps20
  go_wp2
  go_ret
  exact ⟨rfl,(Fr.refl none_ w).alloc _⟩
 have d3:decide (256 < p)=false:=by simp;omega
 by_cases g4:t < 1
 ·have E:decide (4≤s∧s≤4096∧3≤p∧p≤256∧1≤t∧t≤64∧2≤r∧r≤64∧2≤c∧c≤64∧8≤n∧n≤1099511627776)=false:=decide_eq_false (by omega)
  have d4:decide (t < 1)=true:=by simp;omega
  clear g4
  clear g0
  clear g1
  clear g2
  clear g3
  rw [E]
  go_enter Tryz.func20,Tryz.ntmps20
  go_wp2
  go_ret
  exact ⟨rfl,(Fr.refl none_ w).alloc _⟩
 have d4:decide (t < 1)=false:=by simp;omega
 by_cases g5:64 < t
 ·have E:decide (4≤s∧s≤4096∧3≤p∧p≤256∧1≤t∧t≤64∧2≤r∧r≤64∧2≤c∧c≤64∧8≤n∧n≤1099511627776)=false:=decide_eq_false (by omega)
  have d5:decide (64 < t)=true:=by simp;omega
  clear g5
  clear g0
  clear g1
  clear g2
  clear g3
  clear g4
  rw [E]
  go_enter Tryz.func20,Tryz.ntmps20
  go_wp2
  go_ret
  exact ⟨rfl,(Fr.refl none_ w).alloc _⟩
 have d5:decide (64 < t)=false:=by simp;omega
 by_cases g6:r < 2
 ·have E:decide (4≤s∧s≤4096∧3≤p∧p≤256∧1≤t∧t≤64∧2≤r∧r≤64∧2≤c∧c≤64∧8≤n∧n≤1099511627776)=false:=decide_eq_false (by omega)
  have d6:decide (2≤r)=false:=by simp;omega
  clear g6
  clear g0
  clear g1
  clear g2
  clear g3
  clear g4
  clear g5
  rw [E]
  go_enter Tryz.func20,Tryz.ntmps20
  go_wp2
  go_ret
  exact ⟨rfl,(Fr.refl none_ w).alloc _⟩
 have d6:decide (2≤r)=true:=by simp;omega
 by_cases g7:64 < r
 ·have E:decide (4≤s∧s≤4096∧3≤p∧p≤256∧1≤t∧t≤64∧2≤r∧r≤64∧2≤c∧c≤64∧8≤n∧n≤1099511627776)=false:=decide_eq_false (by omega)
  have d7:decide (r≤64)=false:=by simp;omega
  clear g7
  clear g0
  clear g1
  clear g2
  clear g3
  clear g4
  clear g5
  clear g6
  rw [E]
  go_enter Tryz.func20,Tryz.ntmps20
  go_wp2
  go_ret
  exact ⟨rfl,(Fr.refl none_ w).alloc _⟩
 have d7:decide (r≤64)=true:=by simp;omega
 by_cases g8:c < 2
 ·have E:decide (4≤s∧s≤4096∧3≤p∧p≤256∧1≤t∧t≤64∧2≤r∧r≤64∧2≤c∧c≤64∧8≤n∧n≤1099511627776)=false:=decide_eq_false (by omega)
  have d8:decide (2≤c)=false:=by simp;omega
  clear g8
  clear g0
  clear g1
  clear g2
  clear g3
  clear g4
  clear g5
  clear g6
  clear g7
  rw [E]
  go_enter Tryz.func20,Tryz.ntmps20
  go_wp2
  go_ret
  exact ⟨rfl,(Fr.refl none_ w).alloc _⟩
 have d8:decide (2≤c)=true:=by simp;omega
 by_cases g9:64 < c
 ·have E:decide (4≤s∧s≤4096∧3≤p∧p≤256∧1≤t∧t≤64∧2≤r∧r≤64∧2≤c∧c≤64∧8≤n∧n≤1099511627776)=false:=decide_eq_false (by omega)
  have d9:decide (c≤64)=false:=by simp;omega
  clear g9
  clear g0
  clear g1
  clear g2
  clear g3
  clear g4
  clear g5
  clear g6
  clear g7
  clear g8
  rw [E]
  go_enter Tryz.func20,Tryz.ntmps20
  go_wp2
  go_ret
  exact ⟨rfl,(Fr.refl none_ w).alloc _⟩
 have d9:decide (c≤64)=true:=by simp;omega
 by_cases g10:n < 8
 ·have E:decide (4≤s∧s≤4096∧3≤p∧p≤256∧1≤t∧t≤64∧2≤r∧r≤64∧2≤c∧c≤64∧8≤n∧n≤1099511627776)=false:=decide_eq_false (by omega)
  have d10:decide (8≤n)=false:=by simp;omega
  clear g10
  clear g0
  clear g1
  clear g2
  clear g3
  clear g4
  clear g5
  clear g6
  clear g7
  clear g8
  clear g9
  rw [E]
  go_enter Tryz.func20,Tryz.ntmps20
  go_wp2
  go_ret
  exact ⟨rfl,(Fr.refl none_ w).alloc _⟩
 have d10:decide (8≤n)=true:=by simp;omega
 by_cases g11:1099511627776 < n
 ·have E:decide (4≤s∧s≤4096∧3≤p∧p≤256∧1≤t∧t≤64∧2≤r∧r≤64∧2≤c∧c≤64∧8≤n∧n≤1099511627776)=false:=decide_eq_false (by omega)
  have d11:decide (n≤1099511627776)=false:=by simp;omega
  clear g11
  clear g0
  clear g1
  clear g2
  clear g3
  clear g4
  clear g5
  clear g6
  clear g7
  clear g8
  clear g9
  clear g10
  rw [E]
  go_enter Tryz.func20,Tryz.ntmps20
  go_wp2
  go_ret
  exact ⟨rfl,(Fr.refl none_ w).alloc _⟩
 have d11:decide (n≤1099511627776)=true:=by simp;omega
 have E:decide (4≤s∧s≤4096∧3≤p∧p≤256∧1≤t∧t≤64∧2≤r∧r≤64∧2≤c∧c≤64∧8≤n∧n≤1099511627776)=true:=decide_eq_true (by omega)
 clear g0 g1 g2 g3 g4 g5 g6 g7 g8 g9 g10 g11
 rw [E]
 go_enter Tryz.func20,Tryz.ntmps20
 go_wp2
 go_ret
 exact ⟨rfl,(Fr.refl none_ w).alloc _⟩
end Go.Proofs.YthcpccddcgbanaaGreatDoor
