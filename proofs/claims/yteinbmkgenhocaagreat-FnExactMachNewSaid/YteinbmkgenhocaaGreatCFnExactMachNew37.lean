/- A part of the claim FnExactMachNew. -/
import Derived.Test.YteinbmkgenhocaaGreatCFnExactMachNew36
section
namespace Go.Proofs.YteinbmkgenhocaaGreat.P
open Go Go.RowKit Go.Proofs.YteinbmkgenhocaaGreatW.PrintWords Go.Proofs.YteinbmkgenhocaaGreatW.PrintLast Go.Proofs.YteinbmkgenhocaaGreatW.PrintMore
set_option linter.unusedVariables false
set_option linter.unusedSimpArgs false
attribute [local go_sem] ak au az aA ai aj av ax
structure QS {α:Type} (d:Kd α) (e B:Nat) (P:Nat→Prop) (v:Value) (xs:List α) (W:World):Prop where
  s:Kd.S d e W B P v xs
  h: ∀k,P k→k<W.heap.size
section
variable {α:Type} {d:Kd α} {e B:Nat} {P Q:Nat→Prop} {v:Value} {xs:List α} {W W' :World}
theorem QS.below (h:QS d e B P v xs W) (hb:Below W.heap.size W W'):QS d e B P v xs W' :=⟨Kd.S_below h.s hb,fun k hk=>Nat.lt_of_lt_of_le (h.h k hk) hb.size⟩
theorem QS.kept (h:QS d e B P v xs W) (hk:Kept W W' Q) (hd: ∀k,P k→¬Q k):QS d e B P v xs W' :=⟨Kd.S_step h.s (fun k hp hl=>hk.2 k hl (hd k hp)),fun k hp=>Nat.lt_of_lt_of_le (h.h k hp) hk.1⟩
theorem QS.of {ok:Nat→Prop} {b:Nat} (h:Kd.S d e W b ok v xs) (hb:B≤b): ∃P,QS d e B P v xs W∧(∀k,P k→b≤k)∧(∀k,P k→ok k):=⟨fun k=>b≤k∧k<W.heap.size∧ok k,⟨Kd.S_lower (Kd.S_mono (Kd.S_bound h) (fun _ hk=>⟨hk.2.1,hk.2.2.1,hk.1⟩)) hb,fun _ hk=>hk.2.1⟩,fun _ hk=>hk.1,fun _ hk=>hk.2.2⟩
theorem QS.form (h:Aside0 (QS d e B P v xs W)): ∃A c,v= .slice A xs.length c:=Kd.S_slice h.out.s
theorem QS.cells {A:Option Addr} {n c:Nat} (h:Aside0 (QS d e B P (.slice A n c) xs W)):d.C W A xs.length xs:=(Kd.S_reads' h.out.s).2.2
theorem QS.room {A:Option Addr} {n c:Nat} (h:Aside0 (QS d e B P (.slice A n c) xs W)):xs.length≤c:=by have h1:=Kd.S_reads' h.out.s;omega
end
structure QN {α:Type} (d:Kd α) (e B:Nat) (P:Nat→Prop) (v:Value) (xs:List α) (W:World):Prop where
  s:Kd.N d e W B P v xs
  h: ∀k,P k→k<W.heap.size
section
variable {α:Type} {d:Kd α} {e B:Nat} {P Q:Nat→Prop} {v:Value} {xs:List α} {W W' :World}
theorem QN.below (h:QN d e B P v xs W) (hb:Below W.heap.size W W'):QN d e B P v xs W' :=⟨Kd.N_below h.s hb,fun k hk=>Nat.lt_of_lt_of_le (h.h k hk) hb.size⟩
theorem QN.kept (h:QN d e B P v xs W) (hk:Kept W W' Q) (hd: ∀k,P k→¬Q k):QN d e B P v xs W' :=⟨Kd.N_step h.s (fun k hp hl=>hk.2 k hl (hd k hp)),fun k hp=>Nat.lt_of_lt_of_le (h.h k hp) hk.1⟩
theorem QN.of {ok:Nat→Prop} {b:Nat} (h:Kd.N d e W b ok v xs) (hb:B≤b) (hok: ∀k,ok k→b≤k): ∃P,QN d e B P v xs W∧(∀k,P k→b≤k)∧(∀k,P k→ok k):=⟨fun k=>ok k∧k<W.heap.size,⟨Kd.N_lower (Kd.N_bound h) hb,fun _ hk=>hk.2⟩,fun k hk=>hok k hk.1,fun _ hk=>hk.1⟩
theorem QN.form (h:Aside0 (QN d e B P v xs W)): ∃A c,v= .slice A xs.length c:=Kd.N_slice h.out.s
theorem QN.cells {A:Option Addr} {n c:Nat} (h:Aside0 (QN d e B P (.slice A n c) xs W)):d.C W A xs.length xs:=(Kd.N_reads' h.out.s).2.2
theorem QN.room {A:Option Addr} {n c:Nat} (h:Aside0 (QN d e B P (.slice A n c) xs W)):xs.length≤c:=by have h1:=Kd.N_reads' h.out.s;omega
end
structure QR {α:Type} (d:Kd α) (e B:Nat) (P:Nat→Prop) (v:Value) (xs:List α) (W:World):Prop where
  s:d.R e W B P v xs
  h: ∀k,P k→k<W.heap.size
section
variable {α:Type} {d:Kd α} {e B:Nat} {P Q:Nat→Prop} {v:Value} {xs:List α} {W W' :World}
theorem QR.below (h:QR d e B P v xs W) (hb:Below W.heap.size W W'):QR d e B P v xs W' :=⟨Kd.R_below h.s hb,fun k hk=>Nat.lt_of_lt_of_le (h.h k hk) hb.size⟩
theorem QR.kept (h:QR d e B P v xs W) (hk:Kept W W' Q) (hd: ∀k,P k→¬Q k):QR d e B P v xs W' :=⟨Kd.R_step h.s (fun k hp hl=>hk.2 k hl (hd k hp)),fun k hp=>Nat.lt_of_lt_of_le (h.h k hp) hk.1⟩
theorem QR.of {ok:Nat→Prop} {b:Nat} (h:d.R e W b ok v xs) (hb:B≤b): ∃P,QR d e B P v xs W∧(∀k,P k→b≤k)∧(∀k,P k→ok k):=⟨fun k=>b≤k∧k<W.heap.size∧ok k,⟨Kd.R_lower (Kd.R_mono (Kd.R_bound h) (fun _ hk=>⟨hk.2.1,hk.2.2.1,hk.1⟩)) hb,fun _ hk=>hk.2.1⟩,fun _ hk=>hk.1,fun _ hk=>hk.2.2⟩
theorem QR.form (h:Aside0 (QR d e B P v xs W)): ∃A c,v= .slice A xs.length c:=Kd.R_slice h.out.s
theorem QR.cells {A:Option Addr} {n c:Nat} (h:Aside0 (QR d e B P (.slice A n c) xs W)):d.C W A xs.length xs:=(Kd.R_reads' h.out.s).2.2
theorem QR.room {A:Option Addr} {n c:Nat} (h:Aside0 (QR d e B P (.slice A n c) xs W)):xs.length≤c:=by have h1:=Kd.R_reads' h.out.s;omega
end
theorem vz {α:Type} {d:Kd α} {W:World} {A:Option Addr} {xs:List α} (h:xs= []):d.C W A xs.length xs:=by subst h;exact⟨rfl,Nat.zero_le _,fun h=>absurd h (Nat.lt_irrefl 0)⟩
theorem vB {α:Type} {xs:List α} {c:Nat} (h:xs= []):xs.length≤c:=by subst h;exact Nat.zero_le _
structure QB (P:Nat→Prop) (g:Nat) (o:Obj) (W:World):Prop where
  s:W.heap[g]? =some o
  p:P g
  h: ∀k,P k→k<W.heap.size
theorem QB.below {P:Nat→Prop} {g:Nat} {o:Obj} {W W' :World} (h:QB P g o W) (hb:Below W.heap.size W W'):QB P g o W' :=⟨(hb.block g (h.h g h.p)).trans h.s,h.p,fun k hk=>Nat.lt_of_lt_of_le (h.h k hk) hb.size⟩
theorem QB.kept {P Q:Nat→Prop} {g:Nat} {o:Obj} {W W' :World} (h:QB P g o W) (hk:Kept W W' Q) (hd: ∀k,P k→¬Q k):QB P g o W' :=⟨(hk.2 g (h.h g h.p) (hd g h.p)).trans h.s,h.p,fun k hp=>Nat.lt_of_lt_of_le (h.h k hp) hk.1⟩
theorem QB.put {P:Nat→Prop} {g:Nat} {o o' :Obj} {W W' :World} (h:QB P g o W) (hs:W'.heap[g]? =some o') (hl:W.heap.size≤W'.heap.size):QB P g o' W' :=⟨hs,h.p,fun k hk=>Nat.lt_of_lt_of_le (h.h k hk) hl⟩
theorem QB.of {g:Nat} {o:Obj} {W W' :World} (hs:W'.heap[g]? =some o) (hg:g=W.heap.size): ∃P,QB P g o W' ∧∀k,P k→W.heap.size≤k:=⟨fun k=>k=g,⟨hs,rfl,fun k hk=>hk▸fF hs⟩,fun k hk=>by rw[hk,hg];exact Nat.le_refl _⟩
theorem jh {W W' :World} {g j:Nat} (h:Kept W W' (fun k=>k=g)) (v:Value):Kept W (W'.setCell ⟨g,j,none⟩ v) (fun k=>k=g):=⟨by simpa[World.setCell] using h.1,fun k hl hn=>(Below.heap_setCell W' ⟨g,j,none⟩ v k hn).trans (h.2 k hl hn)⟩
theorem vY {w W:World} {g t:Nat} {u0 u1:Value} (h:W.heap[g]? =some (.cells #[u0,u1] t (0,0))) (hB:Below w.heap.size w W) (hg:w.heap.size≤g) (v0 v1:Value):((W.setCell ⟨g,0,none⟩ v0).setCell ⟨g,1,none⟩ v1).heap[g]? =some (.cells #[v0,v1] t (0,0))∧Kept W ((W.setCell ⟨g,0,none⟩ v0).setCell ⟨g,1,none⟩ v1) (fun k=>k=g)∧Below w.heap.size w ((W.setCell ⟨g,0,none⟩ v0).setCell ⟨g,1,none⟩ v1):=⟨(bg (cs:= #[v0,u1]) (cs' := #[v0,v1]) (bg (cs:= #[u0,u1]) (cs' := #[v0,u1]) h 0 v0 rfl) 1 v1 rfl),(jh (jh (Kept.refl W _) v0) v1),(aK (aK hB hg) hg)⟩
theorem qo {w W:World} {g t:Nat} {u0 u1 u2 u3 u4 u5 u6:Value} (h:W.heap[g]? =some (.cells #[u0,u1,u2,u3,u4,u5,u6] t (0,0))) (hB:Below w.heap.size w W) (hg:w.heap.size≤g) (v0 v1 v2 v3 v4 v5 v6:Value):(((((((W.setCell ⟨g,0,none⟩ v0).setCell ⟨g,1,none⟩ v1).setCell ⟨g,2,none⟩ v2).setCell ⟨g,3,none⟩ v3).setCell ⟨g,4,none⟩ v4).setCell ⟨g,5,none⟩ v5).setCell ⟨g,6,none⟩ v6).heap[g]? =some (.cells #[v0,v1,v2,v3,v4,v5,v6] t (0,0))∧Kept W (((((((W.setCell ⟨g,0,none⟩ v0).setCell ⟨g,1,none⟩ v1).setCell ⟨g,2,none⟩ v2).setCell ⟨g,3,none⟩ v3).setCell ⟨g,4,none⟩ v4).setCell ⟨g,5,none⟩ v5).setCell ⟨g,6,none⟩ v6) (fun k=>k=g)∧Below w.heap.size w (((((((W.setCell ⟨g,0,none⟩ v0).setCell ⟨g,1,none⟩ v1).setCell ⟨g,2,none⟩ v2).setCell ⟨g,3,none⟩ v3).setCell ⟨g,4,none⟩ v4).setCell ⟨g,5,none⟩ v5).setCell ⟨g,6,none⟩ v6):=⟨(bg (cs:= #[v0,v1,v2,v3,v4,v5,u6]) (cs' := #[v0,v1,v2,v3,v4,v5,v6]) (bg (cs:= #[v0,v1,v2,v3,v4,u5,u6]) (cs' := #[v0,v1,v2,v3,v4,v5,u6]) (bg (cs:= #[v0,v1,v2,v3,u4,u5,u6]) (cs' := #[v0,v1,v2,v3,v4,u5,u6]) (bg (cs:= #[v0,v1,v2,u3,u4,u5,u6]) (cs' := #[v0,v1,v2,v3,u4,u5,u6]) (bg (cs:= #[v0,v1,u2,u3,u4,u5,u6]) (cs' := #[v0,v1,v2,u3,u4,u5,u6]) (bg (cs:= #[v0,u1,u2,u3,u4,u5,u6]) (cs' := #[v0,v1,u2,u3,u4,u5,u6]) (bg (cs:= #[u0,u1,u2,u3,u4,u5,u6]) (cs' := #[v0,u1,u2,u3,u4,u5,u6]) h 0 v0 rfl) 1 v1 rfl) 2 v2 rfl) 3 v3 rfl) 4 v4 rfl) 5 v5 rfl) 6 v6 rfl),(jh (jh (jh (jh (jh (jh (jh (Kept.refl W _) v0) v1) v2) v3) v4) v5) v6),(aK (aK (aK (aK (aK (aK (aK hB hg) hg) hg) hg) hg) hg) hg)⟩
set_option maxHeartbeats 8000000 in
set_option maxRecDepth 100000 in
theorem laws_FnExactMachNew.calls (k:Nat) (A0:Option Addr) (c0:Nat) (l0:List S116) (A1:Option Addr) (c1:Nat) (l1:List S122) (r:Bool) (w:World) (hr0:Kd.C kE w A0 l0.length l0) (hc0:l0.length≤c0) (hr1:Kd.C kH w A1 l1.length l1) (hc1:l1.length≤c1) (h:laws_FnExactMachNew.f k l0 l1=some r) (hr_:r=true):
    Calls Tryz.prog 3 #[.agg #[.slice A0 l0.length c0, .slice A1 l1.length c1]] w fun e w' =>e= .returned (.bool r)∧Below w.heap.size w w' :=by
  subst hr_
  have hu1:=Tryz.underlying25
  have hu2:=Tryz.underlying38
  have hu3:=Tryz.underlying33
  have aq:=Aside0.mk hr0
  have ar:=Aside0.mk hc0
  have HR1:=Aside0.mk hr1
  have aw:=Aside0.mk hc1
  clear hr0 hc0 hr1 hc1
  have HB:=Aside0.mk (Below.refl w.heap.size w)
  rw[laws_FnExactMachNew.f]at h
  obtain⟨a,HA1,H⟩:=ob h
  clear h
  go_enter Tryz.func3,Tryz.ntmps3
  by_cases aB:a<0
  · rw[if_pos aB]at H
    have e4:=decide_eq_true aB
    clear aB H
    go_wp2_with (first|((with_reducible refine gd 1 rfl ?_);refine bx 1 #[.slice A0 l0.length c0, .slice A1 l1.length c1] 25 ?_;intro ga_ hg wn hbox hb;have GE_BKa:=Nat.le_trans HB.out.size (Nat.le_of_eq hg.symm);obtain⟨P_BKa,n_BKa,l_BKa⟩:=QB.of hbox hg;have m_BKa:=Aside0.mk n_BKa;have GG_BKa:=Aside0.mk GE_BKa;clear hbox hg n_BKa l_BKa GE_BKa;have n_HB:=Aside0.mk (bi HB.out hb);clear HB;have HB:=n_HB;clear n_HB;clear hb;have BKa:=m_BKa;clear m_BKa;obtain⟨_,_,_,_⟩:=cf2 ⟨BKa.out.s⟩)|(go_at_call 6;refine(gZ.calls k _ _ l0 _ _ l1 1048576 a _ (Kd.C_below aq.out HB.out) ar.out (Kd.C_below HR1.out HB.out) aw.out HA1.out).mono ?_;rintro e wn ⟨rfl,hb⟩;have n_BKa:=Aside0.mk (BKa.out.below hb);have n_HB:=Aside0.mk (bi HB.out hb);clear BKa HB;have BKa:=n_BKa;have HB:=n_HB;clear n_BKa n_HB;clear hb;obtain⟨_,_,_,_⟩:=cf2 ⟨BKa.out.s⟩))
    go_ret
    exact⟨rfl,HB.out⟩
  rw[if_neg aB]at H
  have e4:=decide_eq_false aB
  clear aB
  obtain⟨⟨x,y⟩,HX,H⟩:=ob H
  obtain⟨⟨wa,wb,wc,w3,w4,w5,w6⟩,HWW,H⟩:=ob H
  obtain⟨⟨ga,gb,gc,g3,g4,g5,g6⟩,HGG,H⟩:=ob H
  rw[laws_FnExactMachNew.h]at H
  dsimp only at H HWW HGG
  by_cases a2:gy.f k ga gb gc g3 g4 g5 g6 wa wb wc w3 w4 w5 w6=some true∧ib.f k x y x y=some true
  rotate_left
  · rw[if_neg a2]at H
    cases H
  rw[if_pos a2]at H
  have ci:=Aside0.mk a2.1
  have HE2:=Aside0.mk a2.2
  clear a2
  obtain⟨k1,e5,H⟩:=ob H
  by_cases b7:k1<0
  · rw[if_pos b7]at H
    cases H
  rw[if_neg b7]at H
  have e7:=decide_eq_false b7
  clear b7
  obtain⟨⟨m,b8,aE⟩,HM,H⟩:=ob H
  obtain⟨q,HQ,H⟩:=ob H
  dsimp only at H HQ
  by_cases cU:q<0∨q≠m
  · rw[if_pos cU]at H
    cases H
  clear H
  obtain⟨cV,e6⟩: ¬q<0∧q=m:=by omega
  subst e6
  have e8:=decide_eq_false cV
  clear cV cU
  have hgc:gc= []:=by
    have h_:=HM.out
    unfold fG.f at h_
    split at h_
    ·assumption
    ·cases h_
  have HGC:=Aside0.mk hgc
  clear hgc
  go_upto_region 5 with(first|((with_reducible refine gd 1 rfl ?_);refine bx 1 #[.slice A0 l0.length c0, .slice A1 l1.length c1] 25 ?_;intro ga_ hg wn hbox hb;have GE_BKa:=Nat.le_trans HB.out.size (Nat.le_of_eq hg.symm);obtain⟨P_BKa,n_BKa,l_BKa⟩:=QB.of hbox hg;have m_BKa:=Aside0.mk n_BKa;have GG_BKa:=Aside0.mk GE_BKa;clear hbox hg n_BKa l_BKa GE_BKa;have n_HB:=Aside0.mk (bi HB.out hb);clear HB;have HB:=n_HB;clear n_HB;clear hb;have BKa:=m_BKa;clear m_BKa;obtain⟨_,_,_,_⟩:=cf2 ⟨BKa.out.s⟩)|(go_at_call 6;refine(gZ.calls k _ _ l0 _ _ l1 1048576 a _ (Kd.C_below aq.out HB.out) ar.out (Kd.C_below HR1.out HB.out) aw.out HA1.out).mono ?_;rintro e wn ⟨rfl,hb⟩;have n_BKa:=Aside0.mk (BKa.out.below hb);have n_HB:=Aside0.mk (bi HB.out hb);clear BKa HB;have BKa:=n_BKa;have HB:=n_HB;clear n_BKa n_HB;clear hb;obtain⟨_,_,_,_⟩:=cf2 ⟨BKa.out.s⟩))
  go_upto_region 6 with(first|(go_at_call 8;refine(gu.calls k _ _ l0 _ _ l1 x y _ (Kd.C_below aq.out HB.out) ar.out (Kd.C_below HR1.out HB.out) aw.out HX.out).mono ?_;rintro e wn ⟨aF,aL,rfl,ho0,ho1,hb⟩;have hle:=HB.out.size;obtain⟨P_tX,n_tX,l_tX,q_tX⟩:=QS.of (B:=w.heap.size) ho0 hle;have D_BKa_tX: ∀k_,P_BKa k_→¬P_tX k_:=fun k_ ha_ hx_=>absurd (BKa.out.h k_ ha_) (Nat.not_lt.2 (l_tX k_ hx_));obtain⟨P_tY,n_tY,l_tY,q_tY⟩:=QR.of (B:=w.heap.size) ho1 hle;have D_BKa_tY: ∀k_,P_BKa k_→¬P_tY k_:=fun k_ ha_ hx_=>absurd (BKa.out.h k_ ha_) (Nat.not_lt.2 (l_tY k_ hx_));have m_tX:=Aside0.mk n_tX;have m_tY:=Aside0.mk n_tY;clear hle ho0 n_tX l_tX q_tX ho1 n_tY l_tY q_tY;have n_BKa:=Aside0.mk (BKa.out.below hb);have n_HB:=Aside0.mk (bi HB.out hb);clear BKa HB;have BKa:=n_BKa;have HB:=n_HB;clear n_BKa n_HB;clear hb;have tX:=m_tX;clear m_tX;obtain⟨A_tX,c_tX,rfl⟩:=QS.form tX;have tY:=m_tY;clear m_tY;obtain⟨A_tY,c_tY,rfl⟩:=QR.form tY;obtain⟨_,_,_,_⟩:=cf2 ⟨BKa.out.s⟩)|(go_at_call 7;refine(dW.calls k _ _ x _ _ y wa wb wc w3 w4 w5 w6 _ (QS.cells tX) (QS.room tX) (QR.cells tY) (QR.room tY) HWW.out).mono ?_;rintro e wn ⟨aF,aL,cW,rfl,ho0,ho1,ho2,hb⟩;have hle:=HB.out.size;obtain⟨u,b,aO,cY⟩:=QN.of (B:=w.heap.size) ho0 hle (fun _ h_=>h_);have da: ∀k_,P_BKa k_→¬u k_:=fun k_ ha_ hx_=>absurd (BKa.out.h k_ ha_) (Nat.not_lt.2 (aO k_ hx_));have d7: ∀k_,P_tX k_→¬u k_:=fun k_ ha_ hx_=>absurd (tX.out.h k_ ha_) (Nat.not_lt.2 (aO k_ hx_));have d8: ∀k_,P_tY k_→¬u k_:=fun k_ ha_ hx_=>absurd (tY.out.h k_ ha_) (Nat.not_lt.2 (aO k_ hx_));obtain⟨z,c,aP,db⟩:=QN.of (B:=w.heap.size) ho1 hle (fun _ h_=>h_);have dc: ∀k_,P_BKa k_→¬z k_:=fun k_ ha_ hx_=>absurd (BKa.out.h k_ ha_) (Nat.not_lt.2 (aP k_ hx_));have ea: ∀k_,P_tX k_→¬z k_:=fun k_ ha_ hx_=>absurd (tX.out.h k_ ha_) (Nat.not_lt.2 (aP k_ hx_));have eb: ∀k_,P_tY k_→¬z k_:=fun k_ ha_ hx_=>absurd (tY.out.h k_ ha_) (Nat.not_lt.2 (aP k_ hx_));obtain⟨A,d,aR,dd⟩:=QR.of (B:=w.heap.size) ho2 hle;have de: ∀k_,P_BKa k_→¬A k_:=fun k_ ha_ hx_=>absurd (BKa.out.h k_ ha_) (Nat.not_lt.2 (aR k_ hx_));have ec: ∀k_,P_tX k_→¬A k_:=fun k_ ha_ hx_=>absurd (tX.out.h k_ ha_) (Nat.not_lt.2 (aR k_ hx_));have ee: ∀k_,P_tY k_→¬A k_:=fun k_ ha_ hx_=>absurd (tY.out.h k_ ha_) (Nat.not_lt.2 (aR k_ hx_));have cj:=Aside0.mk b;have ck:=Aside0.mk c;have cl:=Aside0.mk d;clear hle ho0 b aO cY ho1 c aP db ho2 d aR dd;have n_BKa:=Aside0.mk (BKa.out.below hb);have n_tX:=Aside0.mk (tX.out.below hb);have n_tY:=Aside0.mk (tY.out.below hb);have n_HB:=Aside0.mk (bi HB.out hb);clear BKa tX tY HB;have BKa:=n_BKa;have tX:=n_tX;have tY:=n_tY;have HB:=n_HB;clear n_BKa n_tX n_tY n_HB;clear hb;have W0:=cj;clear cj;obtain⟨cm,cn,rfl⟩:=QN.form W0;have W1:=ck;clear ck;obtain⟨co,cp,rfl⟩:=QN.form W1;have W2:=cl;clear cl;obtain⟨cq,cr,rfl⟩:=QR.form W2;obtain⟨_,_,_,_⟩:=cf2 ⟨BKa.out.s⟩;clear tX tY)|((with_reducible refine gd 4 rfl ?_);refine bx 4 #[.slice none 0 0, .slice none 0 0, .slice none 0 0, .int .i64 0, .int .i64 0, .bool false, .int .i64 0] 33 ?_;intro gw_ hg wn hbox hb;have GE_BKw:=Nat.le_trans HB.out.size (Nat.le_of_eq hg.symm);obtain⟨P_BKw,n_BKw,l_BKw⟩:=QB.of hbox hg;have D_BKa_BKw: ∀k_,P_BKa k_→¬P_BKw k_:=fun k_ ha_ hx_=>absurd (BKa.out.h k_ ha_) (Nat.not_lt.2 (l_BKw k_ hx_));have a4: ∀k_,u k_→¬P_BKw k_:=fun k_ ha_ hx_=>absurd (W0.out.h k_ ha_) (Nat.not_lt.2 (l_BKw k_ hx_));have a5: ∀k_,z k_→¬P_BKw k_:=fun k_ ha_ hx_=>absurd (W1.out.h k_ ha_) (Nat.not_lt.2 (l_BKw k_ hx_));have a6: ∀k_,A k_→¬P_BKw k_:=fun k_ ha_ hx_=>absurd (W2.out.h k_ ha_) (Nat.not_lt.2 (l_BKw k_ hx_));have m_BKw:=Aside0.mk n_BKw;have GG_BKw:=Aside0.mk GE_BKw;clear hbox hg n_BKw l_BKw GE_BKw;have n_BKa:=Aside0.mk (BKa.out.below hb);have b:=Aside0.mk (W0.out.below hb);have c:=Aside0.mk (W1.out.below hb);have d:=Aside0.mk (W2.out.below hb);have n_HB:=Aside0.mk (bi HB.out hb);clear BKa W0 W1 W2 HB;have BKa:=n_BKa;have W0:=b;have W1:=c;have W2:=d;have HB:=n_HB;clear n_BKa b c d n_HB;clear hb;have BKw:=m_BKw;clear m_BKw;obtain⟨_,_,_,_⟩:=cf2 ⟨BKa.out.s⟩;obtain⟨_,_,_,_,_,_,_,_,_,_,_,_,_,_⟩:=cf7 ⟨BKw.out.s⟩)|((with_reducible refine cB (t:=33) (p:=4) rfl ?_);refine bT (t:=33) (p:=4) (v:= ?vo_BKw) (w1:=(((((((wn.setCell ⟨gw_,0,none⟩ (.slice cm wa.length cn)).setCell ⟨gw_,1,none⟩ (.slice co wb.length cp)).setCell ⟨gw_,2,none⟩ (.slice cq wc.length cr)).setCell ⟨gw_,3,none⟩ (.int .i64 w3)).setCell ⟨gw_,4,none⟩ (.int .i64 w4)).setCell ⟨gw_,5,none⟩ (.bool w5)).setCell ⟨gw_,6,none⟩ (.int .i64 w6))) ?hg ?ho ?hn ?hr ?_;(case ho=>rfl);(case hg=>rfl);(case hn=>rfl);(case hr=>first|(go_simp;done)|(go_simp;rfl));intro cs hw;obtain⟨hp_,hk_,hb_⟩:=qo BKw.out.s HB.out GG_BKw.out (.slice cm wa.length cn) (.slice co wb.length cp) (.slice cq wc.length cr) (.int .i64 w3) (.int .i64 w4) (.bool w5) (.int .i64 w6);rw[←hw]at hp_ hk_ hb_;have hk:=Kept.mono hk_ (fun k_ (e_:k_=gw_)=>(e_▸BKw.out.p:P_BKw k_));have n_BKw:=Aside0.mk (BKw.out.put hp_ hk_.1);clear hw;have n_BKa:=Aside0.mk (BKa.out.kept hk (D_BKa_BKw));have b:=Aside0.mk (W0.out.kept hk (a4));have c:=Aside0.mk (W1.out.kept hk (a5));have d:=Aside0.mk (W2.out.kept hk (a6));have n_HB:=Aside0.mk hb_;clear BKa W0 W1 W2 BKw HB;have BKa:=n_BKa;have W0:=b;have W1:=c;have W2:=d;have BKw:=n_BKw;have HB:=n_HB;clear n_BKa b c d n_BKw n_HB;clear hp_ hk_ hb_ hk;obtain⟨_,_,_,_⟩:=cf2 ⟨BKa.out.s⟩;obtain⟨_,_,_,_,_,_,_,_,_,_,_,_,_,_⟩:=cf7 ⟨BKw.out.s⟩))
  go_upto_region 7 with(first|(go_at_call 8;refine(gu.calls k _ _ l0 _ _ l1 x y _ (Kd.C_below aq.out HB.out) ar.out (Kd.C_below HR1.out HB.out) aw.out HX.out).mono ?_;rintro e wn ⟨aF,aL,rfl,ho0,ho1,hb⟩;have hle:=HB.out.size;obtain⟨P_X,n_X,l_X,q_X⟩:=QS.of (B:=w.heap.size) ho0 hle;have D_BKa_X: ∀k_,P_BKa k_→¬P_X k_:=fun k_ ha_ hx_=>absurd (BKa.out.h k_ ha_) (Nat.not_lt.2 (l_X k_ hx_));have ct: ∀k_,u k_→¬P_X k_:=fun k_ ha_ hx_=>absurd (W0.out.h k_ ha_) (Nat.not_lt.2 (l_X k_ hx_));have cv: ∀k_,z k_→¬P_X k_:=fun k_ ha_ hx_=>absurd (W1.out.h k_ ha_) (Nat.not_lt.2 (l_X k_ hx_));have cw: ∀k_,A k_→¬P_X k_:=fun k_ ha_ hx_=>absurd (W2.out.h k_ ha_) (Nat.not_lt.2 (l_X k_ hx_));have D_BKw_X: ∀k_,P_BKw k_→¬P_X k_:=fun k_ ha_ hx_=>absurd (BKw.out.h k_ ha_) (Nat.not_lt.2 (l_X k_ hx_));obtain⟨P_Y,n_Y,l_Y,q_Y⟩:=QR.of (B:=w.heap.size) ho1 hle;have D_BKa_Y: ∀k_,P_BKa k_→¬P_Y k_:=fun k_ ha_ hx_=>absurd (BKa.out.h k_ ha_) (Nat.not_lt.2 (l_Y k_ hx_));have cx: ∀k_,u k_→¬P_Y k_:=fun k_ ha_ hx_=>absurd (W0.out.h k_ ha_) (Nat.not_lt.2 (l_Y k_ hx_));have cy: ∀k_,z k_→¬P_Y k_:=fun k_ ha_ hx_=>absurd (W1.out.h k_ ha_) (Nat.not_lt.2 (l_Y k_ hx_));have cA: ∀k_,A k_→¬P_Y k_:=fun k_ ha_ hx_=>absurd (W2.out.h k_ ha_) (Nat.not_lt.2 (l_Y k_ hx_));have D_BKw_Y: ∀k_,P_BKw k_→¬P_Y k_:=fun k_ ha_ hx_=>absurd (BKw.out.h k_ ha_) (Nat.not_lt.2 (l_Y k_ hx_));have m_X:=Aside0.mk n_X;have m_Y:=Aside0.mk n_Y;clear hle ho0 n_X l_X q_X ho1 n_Y l_Y q_Y;have n_BKa:=Aside0.mk (BKa.out.below hb);have b:=Aside0.mk (W0.out.below hb);have c:=Aside0.mk (W1.out.below hb);have d:=Aside0.mk (W2.out.below hb);have n_BKw:=Aside0.mk (BKw.out.below hb);have n_HB:=Aside0.mk (bi HB.out hb);clear BKa W0 W1 W2 BKw HB;have BKa:=n_BKa;have W0:=b;have W1:=c;have W2:=d;have BKw:=n_BKw;have HB:=n_HB;clear n_BKa b c d n_BKw n_HB;clear hb;have X:=m_X;clear m_X;obtain⟨A_X,c_X,rfl⟩:=QS.form X;have Y:=m_Y;clear m_Y;obtain⟨A_Y,c_Y,rfl⟩:=QR.form Y;obtain⟨_,_,_,_⟩:=cf2 ⟨BKa.out.s⟩;obtain⟨_,_,_,_,_,_,_,_,_,_,_,_,_,_⟩:=cf7 ⟨BKw.out.s⟩)|((with_reducible refine gd 5 rfl ?_);refine bx 5 #[.slice none 0 0, .slice none 0 0] 38 ?_;intro gx_ hg wn hbox hb;have GE_BKx:=Nat.le_trans HB.out.size (Nat.le_of_eq hg.symm);obtain⟨P_BKx,n_BKx,l_BKx⟩:=QB.of hbox hg;have D_BKa_BKx: ∀k_,P_BKa k_→¬P_BKx k_:=fun k_ ha_ hx_=>absurd (BKa.out.h k_ ha_) (Nat.not_lt.2 (l_BKx k_ hx_));have a7: ∀k_,u k_→¬P_BKx k_:=fun k_ ha_ hx_=>absurd (W0.out.h k_ ha_) (Nat.not_lt.2 (l_BKx k_ hx_));have a8: ∀k_,z k_→¬P_BKx k_:=fun k_ ha_ hx_=>absurd (W1.out.h k_ ha_) (Nat.not_lt.2 (l_BKx k_ hx_));have a9: ∀k_,A k_→¬P_BKx k_:=fun k_ ha_ hx_=>absurd (W2.out.h k_ ha_) (Nat.not_lt.2 (l_BKx k_ hx_));have D_BKw_BKx: ∀k_,P_BKw k_→¬P_BKx k_:=fun k_ ha_ hx_=>absurd (BKw.out.h k_ ha_) (Nat.not_lt.2 (l_BKx k_ hx_));have D_X_BKx: ∀k_,P_X k_→¬P_BKx k_:=fun k_ ha_ hx_=>absurd (X.out.h k_ ha_) (Nat.not_lt.2 (l_BKx k_ hx_));have D_Y_BKx: ∀k_,P_Y k_→¬P_BKx k_:=fun k_ ha_ hx_=>absurd (Y.out.h k_ ha_) (Nat.not_lt.2 (l_BKx k_ hx_));have m_BKx:=Aside0.mk n_BKx;have GG_BKx:=Aside0.mk GE_BKx;clear hbox hg n_BKx l_BKx GE_BKx;have n_BKa:=Aside0.mk (BKa.out.below hb);have b:=Aside0.mk (W0.out.below hb);have c:=Aside0.mk (W1.out.below hb);have d:=Aside0.mk (W2.out.below hb);have n_BKw:=Aside0.mk (BKw.out.below hb);have n_X:=Aside0.mk (X.out.below hb);have n_Y:=Aside0.mk (Y.out.below hb);have n_HB:=Aside0.mk (bi HB.out hb);clear BKa W0 W1 W2 BKw X Y HB;have BKa:=n_BKa;have W0:=b;have W1:=c;have W2:=d;have BKw:=n_BKw;have X:=n_X;have Y:=n_Y;have HB:=n_HB;clear n_BKa b c d n_BKw n_X n_Y n_HB;clear hb;have BKx:=m_BKx;clear m_BKx;obtain⟨_,_,_,_⟩:=cf2 ⟨BKa.out.s⟩;obtain⟨_,_,_,_,_,_,_,_,_,_,_,_,_,_⟩:=cf7 ⟨BKw.out.s⟩;obtain⟨_,_,_,_⟩:=cf2 ⟨BKx.out.s⟩)|((with_reducible refine cB (t:=38) (p:=5) rfl ?_);refine bT (t:=38) (p:=5) (v:= ?vo_BKx) (w1:=((wn.setCell ⟨gx_,0,none⟩ (.slice A_X x.length c_X)).setCell ⟨gx_,1,none⟩ (.slice A_Y y.length c_Y))) ?hg ?ho ?hn ?hr ?_;(case ho=>rfl);(case hg=>rfl);(case hn=>rfl);(case hr=>first|(go_simp;done)|(go_simp;rfl));intro cs hw;obtain⟨hp_,hk_,hb_⟩:=vY BKx.out.s HB.out GG_BKx.out (.slice A_X x.length c_X) (.slice A_Y y.length c_Y);rw[←hw]at hp_ hk_ hb_;have hk:=Kept.mono hk_ (fun k_ (e_:k_=gx_)=>(e_▸BKx.out.p:P_BKx k_));have n_BKx:=Aside0.mk (BKx.out.put hp_ hk_.1);clear hw;have n_BKa:=Aside0.mk (BKa.out.kept hk (D_BKa_BKx));have b:=Aside0.mk (W0.out.kept hk (a7));have c:=Aside0.mk (W1.out.kept hk (a8));have d:=Aside0.mk (W2.out.kept hk (a9));have n_BKw:=Aside0.mk (BKw.out.kept hk (D_BKw_BKx));have n_X:=Aside0.mk (X.out.kept hk (D_X_BKx));have n_Y:=Aside0.mk (Y.out.kept hk (D_Y_BKx));have n_HB:=Aside0.mk hb_;clear BKa W0 W1 W2 BKw X Y BKx HB;have BKa:=n_BKa;have W0:=b;have W1:=c;have W2:=d;have BKw:=n_BKw;have X:=n_X;have Y:=n_Y;have BKx:=n_BKx;have HB:=n_HB;clear n_BKa b c d n_BKw n_X n_Y n_BKx n_HB;clear hp_ hk_ hb_ hk;obtain⟨_,_,_,_⟩:=cf2 ⟨BKa.out.s⟩;obtain⟨_,_,_,_,_,_,_,_,_,_,_,_,_,_⟩:=cf7 ⟨BKw.out.s⟩;obtain⟨_,_,_,_⟩:=cf2 ⟨BKx.out.s⟩))
  go_upto_region 8 with(first|(go_at_call 9;refine(gD.calls k _ _ x _ _ y ga gb gc g3 g4 g5 g6 _ (QS.cells X) (QS.room X) (QR.cells Y) (QR.room Y) HGG.out).mono ?_;rintro e wn ⟨aF,aL,cW,rfl,⟨PM,ho0,ho1⟩,ho2,hb⟩;have hle:=HB.out.size;obtain⟨D,g,Z,cC⟩:=QS.of (B:=w.heap.size) ho0 hle;have ba: ∀k_,P_BKa k_→¬D k_:=fun k_ ha_ hx_=>absurd (BKa.out.h k_ ha_) (Nat.not_lt.2 (Z k_ hx_));have ca: ∀k_,u k_→¬D k_:=fun k_ ha_ hx_=>absurd (W0.out.h k_ ha_) (Nat.not_lt.2 (Z k_ hx_));have cc: ∀k_,z k_→¬D k_:=fun k_ ha_ hx_=>absurd (W1.out.h k_ ha_) (Nat.not_lt.2 (Z k_ hx_));have cd: ∀k_,A k_→¬D k_:=fun k_ ha_ hx_=>absurd (W2.out.h k_ ha_) (Nat.not_lt.2 (Z k_ hx_));have bb: ∀k_,P_BKw k_→¬D k_:=fun k_ ha_ hx_=>absurd (BKw.out.h k_ ha_) (Nat.not_lt.2 (Z k_ hx_));have cD: ∀k_,P_X k_→¬D k_:=fun k_ ha_ hx_=>absurd (X.out.h k_ ha_) (Nat.not_lt.2 (Z k_ hx_));have cE: ∀k_,P_Y k_→¬D k_:=fun k_ ha_ hx_=>absurd (Y.out.h k_ ha_) (Nat.not_lt.2 (Z k_ hx_));have bc: ∀k_,P_BKx k_→¬D k_:=fun k_ ha_ hx_=>absurd (BKx.out.h k_ ha_) (Nat.not_lt.2 (Z k_ hx_));obtain⟨E,j,ab,cF⟩:=QS.of (B:=w.heap.size) ho1 hle;have bd: ∀k_,P_BKa k_→¬E k_:=fun k_ ha_ hx_=>absurd (BKa.out.h k_ ha_) (Nat.not_lt.2 (ab k_ hx_));have ce: ∀k_,u k_→¬E k_:=fun k_ ha_ hx_=>absurd (W0.out.h k_ ha_) (Nat.not_lt.2 (ab k_ hx_));have cf: ∀k_,z k_→¬E k_:=fun k_ ha_ hx_=>absurd (W1.out.h k_ ha_) (Nat.not_lt.2 (ab k_ hx_));have cg: ∀k_,A k_→¬E k_:=fun k_ ha_ hx_=>absurd (W2.out.h k_ ha_) (Nat.not_lt.2 (ab k_ hx_));have be: ∀k_,P_BKw k_→¬E k_:=fun k_ ha_ hx_=>absurd (BKw.out.h k_ ha_) (Nat.not_lt.2 (ab k_ hx_));have cG: ∀k_,P_X k_→¬E k_:=fun k_ ha_ hx_=>absurd (X.out.h k_ ha_) (Nat.not_lt.2 (ab k_ hx_));have cH: ∀k_,P_Y k_→¬E k_:=fun k_ ha_ hx_=>absurd (Y.out.h k_ ha_) (Nat.not_lt.2 (ab k_ hx_));have bh: ∀k_,P_BKx k_→¬E k_:=fun k_ ha_ hx_=>absurd (BKx.out.h k_ ha_) (Nat.not_lt.2 (ab k_ hx_));obtain⟨G,l,ac,dg⟩:=QR.of (B:=w.heap.size) ho2 hle;have dj: ∀k_,P_BKa k_→¬G k_:=fun k_ ha_ hx_=>absurd (BKa.out.h k_ ha_) (Nat.not_lt.2 (ac k_ hx_));have ef: ∀k_,u k_→¬G k_:=fun k_ ha_ hx_=>absurd (W0.out.h k_ ha_) (Nat.not_lt.2 (ac k_ hx_));have eg: ∀k_,z k_→¬G k_:=fun k_ ha_ hx_=>absurd (W1.out.h k_ ha_) (Nat.not_lt.2 (ac k_ hx_));have eh: ∀k_,A k_→¬G k_:=fun k_ ha_ hx_=>absurd (W2.out.h k_ ha_) (Nat.not_lt.2 (ac k_ hx_));have dk: ∀k_,P_BKw k_→¬G k_:=fun k_ ha_ hx_=>absurd (BKw.out.h k_ ha_) (Nat.not_lt.2 (ac k_ hx_));have cI: ∀k_,P_X k_→¬G k_:=fun k_ ha_ hx_=>absurd (X.out.h k_ ha_) (Nat.not_lt.2 (ac k_ hx_));have cJ: ∀k_,P_Y k_→¬G k_:=fun k_ ha_ hx_=>absurd (Y.out.h k_ ha_) (Nat.not_lt.2 (ac k_ hx_));have dl: ∀k_,P_BKx k_→¬G k_:=fun k_ ha_ hx_=>absurd (BKx.out.h k_ ha_) (Nat.not_lt.2 (ac k_ hx_));have ch: ∀k_,D k_→¬E k_:=fun k_ ha_ hx_=>cF k_ hx_ (cC k_ ha_);have cL:=Aside0.mk g;have cM:=Aside0.mk j;have cN:=Aside0.mk l;clear hle ho0 g Z cC ho1 j ab cF ho2 l ac dg;have n_BKa:=Aside0.mk (BKa.out.below hb);have b:=Aside0.mk (W0.out.below hb);have c:=Aside0.mk (W1.out.below hb);have d:=Aside0.mk (W2.out.below hb);have n_BKw:=Aside0.mk (BKw.out.below hb);have n_X:=Aside0.mk (X.out.below hb);have n_Y:=Aside0.mk (Y.out.below hb);have n_BKx:=Aside0.mk (BKx.out.below hb);have n_HB:=Aside0.mk (bi HB.out hb);clear BKa W0 W1 W2 BKw X Y BKx HB;have BKa:=n_BKa;have W0:=b;have W1:=c;have W2:=d;have BKw:=n_BKw;have X:=n_X;have Y:=n_Y;have BKx:=n_BKx;have HB:=n_HB;clear n_BKa b c d n_BKw n_X n_Y n_BKx n_HB;clear hb;have G0:=cL;clear cL;obtain⟨aS,ad,rfl⟩:=QS.form G0;have G1:=cM;clear cM;obtain⟨al,am,rfl⟩:=QS.form G1;have G2:=cN;clear cN;obtain⟨a0,a1,rfl⟩:=QR.form G2;obtain⟨_,_,_,_⟩:=cf2 ⟨BKa.out.s⟩;obtain⟨_,_,_,_,_,_,_,_,_,_,_,_,_,_⟩:=cf7 ⟨BKw.out.s⟩;obtain⟨_,_,_,_⟩:=cf2 ⟨BKx.out.s⟩)|((with_reducible refine gd 6 rfl ?_);refine bx 6 #[.slice none 0 0, .slice none 0 0, .slice none 0 0, .int .i64 0, .int .i64 0, .bool false, .int .i64 0] 33 ?_;intro gg_ hg wn hbox hb;have GE_BKg:=Nat.le_trans HB.out.size (Nat.le_of_eq hg.symm);obtain⟨P_BKg,n_BKg,l_BKg⟩:=QB.of hbox hg;have D_BKa_BKg: ∀k_,P_BKa k_→¬P_BKg k_:=fun k_ ha_ hx_=>absurd (BKa.out.h k_ ha_) (Nat.not_lt.2 (l_BKg k_ hx_));have bj: ∀k_,u k_→¬P_BKg k_:=fun k_ ha_ hx_=>absurd (W0.out.h k_ ha_) (Nat.not_lt.2 (l_BKg k_ hx_));have bk: ∀k_,z k_→¬P_BKg k_:=fun k_ ha_ hx_=>absurd (W1.out.h k_ ha_) (Nat.not_lt.2 (l_BKg k_ hx_));have bm: ∀k_,A k_→¬P_BKg k_:=fun k_ ha_ hx_=>absurd (W2.out.h k_ ha_) (Nat.not_lt.2 (l_BKg k_ hx_));have D_BKw_BKg: ∀k_,P_BKw k_→¬P_BKg k_:=fun k_ ha_ hx_=>absurd (BKw.out.h k_ ha_) (Nat.not_lt.2 (l_BKg k_ hx_));have D_X_BKg: ∀k_,P_X k_→¬P_BKg k_:=fun k_ ha_ hx_=>absurd (X.out.h k_ ha_) (Nat.not_lt.2 (l_BKg k_ hx_));have D_Y_BKg: ∀k_,P_Y k_→¬P_BKg k_:=fun k_ ha_ hx_=>absurd (Y.out.h k_ ha_) (Nat.not_lt.2 (l_BKg k_ hx_));have D_BKx_BKg: ∀k_,P_BKx k_→¬P_BKg k_:=fun k_ ha_ hx_=>absurd (BKx.out.h k_ ha_) (Nat.not_lt.2 (l_BKg k_ hx_));have an: ∀k_,D k_→¬P_BKg k_:=fun k_ ha_ hx_=>absurd (G0.out.h k_ ha_) (Nat.not_lt.2 (l_BKg k_ hx_));have ao: ∀k_,E k_→¬P_BKg k_:=fun k_ ha_ hx_=>absurd (G1.out.h k_ ha_) (Nat.not_lt.2 (l_BKg k_ hx_));have bo: ∀k_,G k_→¬P_BKg k_:=fun k_ ha_ hx_=>absurd (G2.out.h k_ ha_) (Nat.not_lt.2 (l_BKg k_ hx_));have m_BKg:=Aside0.mk n_BKg;have GG_BKg:=Aside0.mk GE_BKg;clear hbox hg n_BKg l_BKg GE_BKg;have n_BKa:=Aside0.mk (BKa.out.below hb);have b:=Aside0.mk (W0.out.below hb);have c:=Aside0.mk (W1.out.below hb);have d:=Aside0.mk (W2.out.below hb);have n_BKw:=Aside0.mk (BKw.out.below hb);have n_X:=Aside0.mk (X.out.below hb);have n_Y:=Aside0.mk (Y.out.below hb);have n_BKx:=Aside0.mk (BKx.out.below hb);have g:=Aside0.mk (G0.out.below hb);have j:=Aside0.mk (G1.out.below hb);have l:=Aside0.mk (G2.out.below hb);have n_HB:=Aside0.mk (bi HB.out hb);clear BKa W0 W1 W2 BKw X Y BKx G0 G1 G2 HB;have BKa:=n_BKa;have W0:=b;have W1:=c;have W2:=d;have BKw:=n_BKw;have X:=n_X;have Y:=n_Y;have BKx:=n_BKx;have G0:=g;have G1:=j;have G2:=l;have HB:=n_HB;clear n_BKa b c d n_BKw n_X n_Y n_BKx g j l n_HB;clear hb;have BKg:=m_BKg;clear m_BKg;obtain⟨_,_,_,_⟩:=cf2 ⟨BKa.out.s⟩;obtain⟨_,_,_,_,_,_,_,_,_,_,_,_,_,_⟩:=cf7 ⟨BKw.out.s⟩;obtain⟨_,_,_,_⟩:=cf2 ⟨BKx.out.s⟩;obtain⟨_,_,_,_,_,_,_,_,_,_,_,_,_,_⟩:=cf7 ⟨BKg.out.s⟩)|((with_reducible refine cB (t:=33) (p:=6) rfl ?_);refine bT (t:=33) (p:=6) (v:= ?vo_BKg) (w1:=(((((((wn.setCell ⟨gg_,0,none⟩ (.slice aS ga.length ad)).setCell ⟨gg_,1,none⟩ (.slice al gb.length am)).setCell ⟨gg_,2,none⟩ (.slice a0 gc.length a1)).setCell ⟨gg_,3,none⟩ (.int .i64 g3)).setCell ⟨gg_,4,none⟩ (.int .i64 g4)).setCell ⟨gg_,5,none⟩ (.bool g5)).setCell ⟨gg_,6,none⟩ (.int .i64 g6))) ?hg ?ho ?hn ?hr ?_;(case ho=>rfl);(case hg=>rfl);(case hn=>rfl);(case hr=>first|(go_simp;done)|(go_simp;rfl));intro cs hw;obtain⟨hp_,hk_,hb_⟩:=qo BKg.out.s HB.out GG_BKg.out (.slice aS ga.length ad) (.slice al gb.length am) (.slice a0 gc.length a1) (.int .i64 g3) (.int .i64 g4) (.bool g5) (.int .i64 g6);rw[←hw]at hp_ hk_ hb_;have hk:=Kept.mono hk_ (fun k_ (e_:k_=gg_)=>(e_▸BKg.out.p:P_BKg k_));have n_BKg:=Aside0.mk (BKg.out.put hp_ hk_.1);clear hw;have n_BKa:=Aside0.mk (BKa.out.kept hk (D_BKa_BKg));have b:=Aside0.mk (W0.out.kept hk (bj));have c:=Aside0.mk (W1.out.kept hk (bk));have d:=Aside0.mk (W2.out.kept hk (bm));have n_BKw:=Aside0.mk (BKw.out.kept hk (D_BKw_BKg));have n_X:=Aside0.mk (X.out.kept hk (D_X_BKg));have n_Y:=Aside0.mk (Y.out.kept hk (D_Y_BKg));have n_BKx:=Aside0.mk (BKx.out.kept hk (D_BKx_BKg));have g:=Aside0.mk (G0.out.kept hk (an));have j:=Aside0.mk (G1.out.kept hk (ao));have l:=Aside0.mk (G2.out.kept hk (bo));have n_HB:=Aside0.mk hb_;clear BKa W0 W1 W2 BKw X Y BKx G0 G1 G2 BKg HB;have BKa:=n_BKa;have W0:=b;have W1:=c;have W2:=d;have BKw:=n_BKw;have X:=n_X;have Y:=n_Y;have BKx:=n_BKx;have G0:=g;have G1:=j;have G2:=l;have BKg:=n_BKg;have HB:=n_HB;clear n_BKa b c d n_BKw n_X n_Y n_BKx g j l n_BKg n_HB;clear hp_ hk_ hb_ hk;obtain⟨_,_,_,_⟩:=cf2 ⟨BKa.out.s⟩;obtain⟨_,_,_,_,_,_,_,_,_,_,_,_,_,_⟩:=cf7 ⟨BKw.out.s⟩;obtain⟨_,_,_,_⟩:=cf2 ⟨BKx.out.s⟩;obtain⟨_,_,_,_,_,_,_,_,_,_,_,_,_,_⟩:=cf7 ⟨BKg.out.s⟩))
  go_upto_region 10 with(first|(go_at_call 10;refine(gy.calls k _ _ ga _ _ gb _ _ gc g3 g4 g5 g6 _ _ wa _ _ wb _ _ wc w3 w4 w5 w6 true _ (QS.cells G0) (QS.room G0) (QS.cells G1) (QS.room G1) (QR.cells G2) (QR.room G2) (QN.cells W0) (QN.room W0) (QN.cells W1) (QN.room W1) (QR.cells W2) (QR.room W2) ci.out).mono ?_;rintro e wn ⟨rfl,hb⟩;have n_BKa:=Aside0.mk (BKa.out.below hb);have b:=Aside0.mk (W0.out.below hb);have c:=Aside0.mk (W1.out.below hb);have d:=Aside0.mk (W2.out.below hb);have n_BKw:=Aside0.mk (BKw.out.below hb);have n_X:=Aside0.mk (X.out.below hb);have n_Y:=Aside0.mk (Y.out.below hb);have n_BKx:=Aside0.mk (BKx.out.below hb);have g:=Aside0.mk (G0.out.below hb);have j:=Aside0.mk (G1.out.below hb);have l:=Aside0.mk (G2.out.below hb);have n_BKg:=Aside0.mk (BKg.out.below hb);have n_HB:=Aside0.mk (bi HB.out hb);clear BKa W0 W1 W2 BKw X Y BKx G0 G1 G2 BKg HB;have BKa:=n_BKa;have W0:=b;have W1:=c;have W2:=d;have BKw:=n_BKw;have X:=n_X;have Y:=n_Y;have BKx:=n_BKx;have G0:=g;have G1:=j;have G2:=l;have BKg:=n_BKg;have HB:=n_HB;clear n_BKa b c d n_BKw n_X n_Y n_BKx g j l n_BKg n_HB;clear hb;obtain⟨_,_,_,_⟩:=cf2 ⟨BKa.out.s⟩;obtain⟨_,_,_,_,_,_,_,_,_,_,_,_,_,_⟩:=cf7 ⟨BKw.out.s⟩;obtain⟨_,_,_,_⟩:=cf2 ⟨BKx.out.s⟩;obtain⟨_,_,_,_,_,_,_,_,_,_,_,_,_,_⟩:=cf7 ⟨BKg.out.s⟩))
  have hb:Below wn.heap.size wn wn.drew:=aC (Below.refl _ _)
  have n_BKa:=Aside0.mk (BKa.out.below hb)
  have b:=Aside0.mk (W0.out.below hb)
  have c:=Aside0.mk (W1.out.below hb)
  have d:=Aside0.mk (W2.out.below hb)
  have n_BKw:=Aside0.mk (BKw.out.below hb)
  have n_X:=Aside0.mk (X.out.below hb)
  have n_Y:=Aside0.mk (Y.out.below hb)
  have n_BKx:=Aside0.mk (BKx.out.below hb)
  have g:=Aside0.mk (G0.out.below hb)
  have j:=Aside0.mk (G1.out.below hb)
  have l:=Aside0.mk (G2.out.below hb)
  have n_BKg:=Aside0.mk (BKg.out.below hb)
  have n_HB:=Aside0.mk (bi HB.out hb)
  clear BKa W0 W1 W2 BKw X Y BKx G0 G1 G2 BKg HB
  have BKa:=n_BKa
  have W0:=b
  have W1:=c
  have W2:=d
  have BKw:=n_BKw
  have X:=n_X
  have Y:=n_Y
  have BKx:=n_BKx
  have G0:=g
  have G1:=j
  have G2:=l
  have BKg:=n_BKg
  have HB:=n_HB
  clear n_BKa b c d n_BKw n_X n_Y n_BKx g j l n_BKg n_HB
  clear hb
  refine dR (n:=5) (S:=fun w' =>w'.cell? ⟨gx_,0,none⟩=some (.slice A_X x.length c_X)∧w'.cell? ⟨gx_,1,none⟩=some (.slice A_Y y.length c_Y)∧w'.cell? ⟨ga_,0,none⟩=some (.slice A0 l0.length c0)∧w'.cell? ⟨ga_,1,none⟩=some (.slice A1 l1.length c1)) (ds:= []) #[false,false,false,false,false] (by kernel_rfl) rfl rfl ⟨(ae BKx.out.s 0).trans rfl,(ae BKx.out.s 1).trans rfl,(ae BKa.out.s 0).trans rfl,(ae BKa.out.s 1).trans rfl⟩ (fun hHeld=> ?_)
  generalize wn.drew=wn at BKa W0 W1 W2 BKw X Y BKx G0 G1 G2 BKg HB hHeld⊢
  refine take_ (i:=0) (N:=some 27) (v:= ?_) (a' := ?_) #[true,false,false,false,false] rfl rfl (by kernel_rfl) (fun _ _ _ h=>h) (Or.inl ⟨by rfl, ?_⟩) hHeld ?_ ?_
  rotate_left
  · rintro w' ⟨s0,s1,s2,s3⟩
    go_simp
    with_reducible rfl
  rotate_left
  · simp only[Act.put,List.setIfInBounds_toArray,List.set_cons_zero,List.set_cons_succ,bX,bZ]
    rfl
  refine take_ (i:=1) (N:=some 28) (v:= ?_) (a' := ?_) #[true,true,false,false,false] rfl rfl (by kernel_rfl) (fun _ _ _ h=>h) (Or.inl ⟨by rfl, ?_⟩) hHeld ?_ ?_
  rotate_left
  · rintro w' ⟨s0,s1,s2,s3⟩
    go_simp
    with_reducible rfl
  rotate_left
  · simp only[Act.put,List.setIfInBounds_toArray,List.set_cons_zero,List.set_cons_succ,bX,bZ]
    rfl
  refine fo (i:=2) (N:=some 29) #[true,true,true,false,false] rfl rfl (by kernel_rfl) (by decide) (fun K hK=> ?_)
  refine gs Tryz.func8 #[.agg #[.slice A0 l0.length c0, .slice A1 l1.length c1]] rfl rfl ?_
  refine(gu.calls k _ _ l0 _ _ l1 x y _ (Kd.C_below aq.out HB.out) ar.out (Kd.C_below HR1.out HB.out) aw.out HX.out).mono ?_
  rintro e wn ⟨aF,aL,rfl,ho0,ho1,hb⟩
  refine⟨_,rfl, ?_⟩
  have hle:=HB.out.size
  obtain⟨P_sX,n_sX,l_sX,q_sX⟩:=QS.of (B:=w.heap.size) ho0 hle
  have D_BKa_sX: ∀k_,P_BKa k_→¬P_sX k_:=fun k_ ha_ hx_=>absurd (BKa.out.h k_ ha_) (Nat.not_lt.2 (l_sX k_ hx_))
  have ei: ∀k_,u k_→¬P_sX k_:=fun k_ ha_ hx_=>absurd (W0.out.h k_ ha_) (Nat.not_lt.2 (l_sX k_ hx_))
  have ej: ∀k_,z k_→¬P_sX k_:=fun k_ ha_ hx_=>absurd (W1.out.h k_ ha_) (Nat.not_lt.2 (l_sX k_ hx_))
  have el: ∀k_,A k_→¬P_sX k_:=fun k_ ha_ hx_=>absurd (W2.out.h k_ ha_) (Nat.not_lt.2 (l_sX k_ hx_))
  have D_BKw_sX: ∀k_,P_BKw k_→¬P_sX k_:=fun k_ ha_ hx_=>absurd (BKw.out.h k_ ha_) (Nat.not_lt.2 (l_sX k_ hx_))
  have D_X_sX: ∀k_,P_X k_→¬P_sX k_:=fun k_ ha_ hx_=>absurd (X.out.h k_ ha_) (Nat.not_lt.2 (l_sX k_ hx_))
  have D_Y_sX: ∀k_,P_Y k_→¬P_sX k_:=fun k_ ha_ hx_=>absurd (Y.out.h k_ ha_) (Nat.not_lt.2 (l_sX k_ hx_))
  have D_BKx_sX: ∀k_,P_BKx k_→¬P_sX k_:=fun k_ ha_ hx_=>absurd (BKx.out.h k_ ha_) (Nat.not_lt.2 (l_sX k_ hx_))
  have em: ∀k_,D k_→¬P_sX k_:=fun k_ ha_ hx_=>absurd (G0.out.h k_ ha_) (Nat.not_lt.2 (l_sX k_ hx_))
  have en: ∀k_,E k_→¬P_sX k_:=fun k_ ha_ hx_=>absurd (G1.out.h k_ ha_) (Nat.not_lt.2 (l_sX k_ hx_))
  have eo: ∀k_,G k_→¬P_sX k_:=fun k_ ha_ hx_=>absurd (G2.out.h k_ ha_) (Nat.not_lt.2 (l_sX k_ hx_))
  have D_BKg_sX: ∀k_,P_BKg k_→¬P_sX k_:=fun k_ ha_ hx_=>absurd (BKg.out.h k_ ha_) (Nat.not_lt.2 (l_sX k_ hx_))
  obtain⟨P_sY,n_sY,l_sY,q_sY⟩:=QR.of (B:=w.heap.size) ho1 hle
  have D_BKa_sY: ∀k_,P_BKa k_→¬P_sY k_:=fun k_ ha_ hx_=>absurd (BKa.out.h k_ ha_) (Nat.not_lt.2 (l_sY k_ hx_))
  have ep: ∀k_,u k_→¬P_sY k_:=fun k_ ha_ hx_=>absurd (W0.out.h k_ ha_) (Nat.not_lt.2 (l_sY k_ hx_))
  have eq: ∀k_,z k_→¬P_sY k_:=fun k_ ha_ hx_=>absurd (W1.out.h k_ ha_) (Nat.not_lt.2 (l_sY k_ hx_))
  have er: ∀k_,A k_→¬P_sY k_:=fun k_ ha_ hx_=>absurd (W2.out.h k_ ha_) (Nat.not_lt.2 (l_sY k_ hx_))
  have D_BKw_sY: ∀k_,P_BKw k_→¬P_sY k_:=fun k_ ha_ hx_=>absurd (BKw.out.h k_ ha_) (Nat.not_lt.2 (l_sY k_ hx_))
  have D_X_sY: ∀k_,P_X k_→¬P_sY k_:=fun k_ ha_ hx_=>absurd (X.out.h k_ ha_) (Nat.not_lt.2 (l_sY k_ hx_))
  have D_Y_sY: ∀k_,P_Y k_→¬P_sY k_:=fun k_ ha_ hx_=>absurd (Y.out.h k_ ha_) (Nat.not_lt.2 (l_sY k_ hx_))
  have D_BKx_sY: ∀k_,P_BKx k_→¬P_sY k_:=fun k_ ha_ hx_=>absurd (BKx.out.h k_ ha_) (Nat.not_lt.2 (l_sY k_ hx_))
  have es: ∀k_,D k_→¬P_sY k_:=fun k_ ha_ hx_=>absurd (G0.out.h k_ ha_) (Nat.not_lt.2 (l_sY k_ hx_))
  have et: ∀k_,E k_→¬P_sY k_:=fun k_ ha_ hx_=>absurd (G1.out.h k_ ha_) (Nat.not_lt.2 (l_sY k_ hx_))
  have ev: ∀k_,G k_→¬P_sY k_:=fun k_ ha_ hx_=>absurd (G2.out.h k_ ha_) (Nat.not_lt.2 (l_sY k_ hx_))
  have D_BKg_sY: ∀k_,P_BKg k_→¬P_sY k_:=fun k_ ha_ hx_=>absurd (BKg.out.h k_ ha_) (Nat.not_lt.2 (l_sY k_ hx_))
  have m_sX:=Aside0.mk n_sX
  have m_sY:=Aside0.mk n_sY
  clear hle ho0 n_sX l_sX q_sX ho1 n_sY l_sY q_sY
  have n_BKa:=Aside0.mk (BKa.out.below hb)
  have b:=Aside0.mk (W0.out.below hb)
  have c:=Aside0.mk (W1.out.below hb)
  have d:=Aside0.mk (W2.out.below hb)
  have n_BKw:=Aside0.mk (BKw.out.below hb)
  have n_X:=Aside0.mk (X.out.below hb)
  have n_Y:=Aside0.mk (Y.out.below hb)
  have n_BKx:=Aside0.mk (BKx.out.below hb)
  have g:=Aside0.mk (G0.out.below hb)
  have j:=Aside0.mk (G1.out.below hb)
  have l:=Aside0.mk (G2.out.below hb)
  have n_BKg:=Aside0.mk (BKg.out.below hb)
  have n_HB:=Aside0.mk (bi HB.out hb)
  clear BKa W0 W1 W2 BKw X Y BKx G0 G1 G2 BKg HB
  have BKa:=n_BKa
  have W0:=b
  have W1:=c
  have W2:=d
  have BKw:=n_BKw
  have X:=n_X
  have Y:=n_Y
  have BKx:=n_BKx
  have G0:=g
  have G1:=j
  have G2:=l
  have BKg:=n_BKg
  have HB:=n_HB
  clear n_BKa b c d n_BKw n_X n_Y n_BKx g j l n_BKg n_HB
  clear hb
  have sX:=m_sX
  clear m_sX
  obtain⟨A_sX,c_sX,rfl⟩:=QS.form sX
  have sY:=m_sY
  clear m_sY
  obtain⟨A_sY,c_sY,rfl⟩:=QR.form sY
  refine hK.out _ _ ⟨(ae BKx.out.s 0).trans rfl,(ae BKx.out.s 1).trans rfl,(ae BKa.out.s 0).trans rfl,(ae BKa.out.s 1).trans rfl⟩ (fun hHeld=> ?_)
  clear hK K
  refine no 29 ?_
  refine fo (i:=3) (N:=some 30) #[true,true,true,true,false] rfl rfl (by kernel_rfl) (by decide) (fun K hK=> ?_)
  refine gs Tryz.func11 #[.agg #[.slice A_X x.length c_X, .slice A_Y y.length c_Y], .agg #[.slice A_sX x.length c_sX, .slice A_sY y.length c_sY]] rfl rfl ?_
  refine(ib.calls k _ _ x _ _ y _ _ x _ _ y true _ (QS.cells X) (QS.room X) (QR.cells Y) (QR.room Y) (QS.cells sX) (QS.room sX) (QR.cells sY) (QR.room sY) HE2.out).mono ?_
  rintro e wn ⟨rfl,hb⟩
  refine⟨_,rfl, ?_⟩
  clear sX sY
  have n_BKa:=Aside0.mk (BKa.out.below hb)
  have b:=Aside0.mk (W0.out.below hb)
  have c:=Aside0.mk (W1.out.below hb)
  have d:=Aside0.mk (W2.out.below hb)
  have n_BKw:=Aside0.mk (BKw.out.below hb)
  have n_X:=Aside0.mk (X.out.below hb)
  have n_Y:=Aside0.mk (Y.out.below hb)
  have n_BKx:=Aside0.mk (BKx.out.below hb)
  have g:=Aside0.mk (G0.out.below hb)
  have j:=Aside0.mk (G1.out.below hb)
  have l:=Aside0.mk (G2.out.below hb)
  have n_BKg:=Aside0.mk (BKg.out.below hb)
  have n_HB:=Aside0.mk (bi HB.out hb)
  clear BKa W0 W1 W2 BKw X Y BKx G0 G1 G2 BKg HB
  have BKa:=n_BKa
  have W0:=b
  have W1:=c
  have W2:=d
  have BKw:=n_BKw
  have X:=n_X
  have Y:=n_Y
  have BKx:=n_BKx
  have G0:=g
  have G1:=j
  have G2:=l
  have BKg:=n_BKg
  have HB:=n_HB
  clear n_BKa b c d n_BKw n_X n_Y n_BKx g j l n_BKg n_HB
  clear hb
  refine hK.out _ _ ⟨(ae BKx.out.s 0).trans rfl,(ae BKx.out.s 1).trans rfl,(ae BKa.out.s 0).trans rfl,(ae BKa.out.s 1).trans rfl⟩ (fun hHeld=> ?_)
  clear hK K
  refine no 30 ?_
  refine lS (i:=4) (N:=some 31) (v:= ?_) (a' := ?_) #[true,true,true,true,true] rfl rfl (by kernel_rfl) (fun _ _ _ h=>h) (Or.inl ⟨by rfl, ?_⟩) ?_ ?_
  rotate_left
  · intro w'
    go_simp
    with_reducible rfl
  rotate_left
  · simp only[Act.put,List.setIfInBounds_toArray,List.set_cons_zero,List.set_cons_succ,bX,bZ]
    rfl
  refine eQ (by kernel_rfl) ?_
  obtain⟨_,_,_,_⟩:=cf2 ⟨BKa.out.s⟩
  obtain⟨_,_,_,_,_,_,_,_,_,_,_,_,_,_⟩:=cf7 ⟨BKw.out.s⟩
  obtain⟨_,_,_,_⟩:=cf2 ⟨BKx.out.s⟩
  obtain⟨_,_,_,_,_,_,_,_,_,_,_,_,_,_⟩:=cf7 ⟨BKg.out.s⟩
  go_upto_region 14 with(first|(go_at_call 12;refine(iL.calls P_X _ x P_Y _ y 1 k1 w _ HB.out X.out.s Y.out.s e5.out).mono ?_;rintro e wn ⟨rfl,hb0,hk⟩;have n_BKa:=Aside0.mk (BKa.out.kept hk (fun k_ ha_ hx_=>hx_.elim (fun h_=>(D_BKa_X) k_ ha_ h_) (fun h_=>(D_BKa_Y) k_ ha_ h_)));have b:=Aside0.mk (W0.out.kept hk (fun k_ ha_ hx_=>hx_.elim (fun h_=>(ct) k_ ha_ h_) (fun h_=>(cx) k_ ha_ h_)));have c:=Aside0.mk (W1.out.kept hk (fun k_ ha_ hx_=>hx_.elim (fun h_=>(cv) k_ ha_ h_) (fun h_=>(cy) k_ ha_ h_)));have d:=Aside0.mk (W2.out.kept hk (fun k_ ha_ hx_=>hx_.elim (fun h_=>(cw) k_ ha_ h_) (fun h_=>(cA) k_ ha_ h_)));have n_BKw:=Aside0.mk (BKw.out.kept hk (fun k_ ha_ hx_=>hx_.elim (fun h_=>(D_BKw_X) k_ ha_ h_) (fun h_=>(D_BKw_Y) k_ ha_ h_)));have n_BKx:=Aside0.mk (BKx.out.kept hk (fun k_ ha_ hx_=>hx_.elim (fun h_=>(fun k_ a_ b_=>D_X_BKx k_ b_ a_) k_ ha_ h_) (fun h_=>(fun k_ a_ b_=>D_Y_BKx k_ b_ a_) k_ ha_ h_)));have g:=Aside0.mk (G0.out.kept hk (fun k_ ha_ hx_=>hx_.elim (fun h_=>(fun k_ a_ b_=>cD k_ b_ a_) k_ ha_ h_) (fun h_=>(fun k_ a_ b_=>cE k_ b_ a_) k_ ha_ h_)));have j:=Aside0.mk (G1.out.kept hk (fun k_ ha_ hx_=>hx_.elim (fun h_=>(fun k_ a_ b_=>cG k_ b_ a_) k_ ha_ h_) (fun h_=>(fun k_ a_ b_=>cH k_ b_ a_) k_ ha_ h_)));have l:=Aside0.mk (G2.out.kept hk (fun k_ ha_ hx_=>hx_.elim (fun h_=>(fun k_ a_ b_=>cI k_ b_ a_) k_ ha_ h_) (fun h_=>(fun k_ a_ b_=>cJ k_ b_ a_) k_ ha_ h_)));have n_BKg:=Aside0.mk (BKg.out.kept hk (fun k_ ha_ hx_=>hx_.elim (fun h_=>(fun k_ a_ b_=>D_X_BKg k_ b_ a_) k_ ha_ h_) (fun h_=>(fun k_ a_ b_=>D_Y_BKg k_ b_ a_) k_ ha_ h_)));have n_HB:=Aside0.mk hb0;clear BKa W0 W1 W2 BKw BKx G0 G1 G2 BKg HB;have BKa:=n_BKa;have W0:=b;have W1:=c;have W2:=d;have BKw:=n_BKw;have BKx:=n_BKx;have G0:=g;have G1:=j;have G2:=l;have BKg:=n_BKg;have HB:=n_HB;clear n_BKa b c d n_BKw n_BKx g j l n_BKg n_HB;clear X Y hb0 hk;obtain⟨_,_,_,_⟩:=cf2 ⟨BKa.out.s⟩;obtain⟨_,_,_,_,_,_,_,_,_,_,_,_,_,_⟩:=cf7 ⟨BKw.out.s⟩;obtain⟨_,_,_,_⟩:=cf2 ⟨BKx.out.s⟩;obtain⟨_,_,_,_,_,_,_,_,_,_,_,_,_,_⟩:=cf7 ⟨BKg.out.s⟩))
  go_upto_region 16 with(first|(go_at_call 10;refine(gy.calls k _ _ ga _ _ gb _ _ gc g3 g4 g5 g6 _ _ wa _ _ wb _ _ wc w3 w4 w5 w6 true _ (QS.cells G0) (QS.room G0) (QS.cells G1) (QS.room G1) (QR.cells G2) (QR.room G2) (QN.cells W0) (QN.room W0) (QN.cells W1) (QN.room W1) (QR.cells W2) (QR.room W2) ci.out).mono ?_;rintro e wn ⟨rfl,hb⟩;have n_BKa:=Aside0.mk (BKa.out.below hb);have b:=Aside0.mk (W0.out.below hb);have c:=Aside0.mk (W1.out.below hb);have d:=Aside0.mk (W2.out.below hb);have n_BKw:=Aside0.mk (BKw.out.below hb);have n_BKx:=Aside0.mk (BKx.out.below hb);have g:=Aside0.mk (G0.out.below hb);have j:=Aside0.mk (G1.out.below hb);have l:=Aside0.mk (G2.out.below hb);have n_BKg:=Aside0.mk (BKg.out.below hb);have n_HB:=Aside0.mk (bi HB.out hb);clear BKa W0 W1 W2 BKw BKx G0 G1 G2 BKg HB;have BKa:=n_BKa;have W0:=b;have W1:=c;have W2:=d;have BKw:=n_BKw;have BKx:=n_BKx;have G0:=g;have G1:=j;have G2:=l;have BKg:=n_BKg;have HB:=n_HB;clear n_BKa b c d n_BKw n_BKx g j l n_BKg n_HB;clear hb;obtain⟨_,_,_,_⟩:=cf2 ⟨BKa.out.s⟩;obtain⟨_,_,_,_,_,_,_,_,_,_,_,_,_,_⟩:=cf7 ⟨BKw.out.s⟩;obtain⟨_,_,_,_⟩:=cf2 ⟨BKx.out.s⟩;obtain⟨_,_,_,_,_,_,_,_,_,_,_,_,_,_⟩:=cf7 ⟨BKg.out.s⟩))
  clear G2
  have cX:=Aside0.mk (QS.room G1)
  go_upto_region 18 with(first|(go_at_call 13;refine(fG.calls k D E _ _ ga _ _ gb _ _ gc g3 g4 g5 g6 1 q b8 aE w _ HB.out G0.out.s G1.out.s ch HM.out).mono ?_;rintro e cP ⟨rfl,hb0,hk,ho0,ho1⟩;have g:=Aside0.mk ho0;have j:=Aside0.mk ho1;have n_BKa:=Aside0.mk (BKa.out.kept hk (fun k_ ha_ hx_=>hx_.elim (fun h_=>(ba) k_ ha_ h_) (fun h_=>(bd) k_ ha_ h_)));have b:=Aside0.mk (W0.out.kept hk (fun k_ ha_ hx_=>hx_.elim (fun h_=>(ca) k_ ha_ h_) (fun h_=>(ce) k_ ha_ h_)));have c:=Aside0.mk (W1.out.kept hk (fun k_ ha_ hx_=>hx_.elim (fun h_=>(cc) k_ ha_ h_) (fun h_=>(cf) k_ ha_ h_)));have d:=Aside0.mk (W2.out.kept hk (fun k_ ha_ hx_=>hx_.elim (fun h_=>(cd) k_ ha_ h_) (fun h_=>(cg) k_ ha_ h_)));have n_BKw:=Aside0.mk (BKw.out.kept hk (fun k_ ha_ hx_=>hx_.elim (fun h_=>(bb) k_ ha_ h_) (fun h_=>(be) k_ ha_ h_)));have n_BKx:=Aside0.mk (BKx.out.kept hk (fun k_ ha_ hx_=>hx_.elim (fun h_=>(bc) k_ ha_ h_) (fun h_=>(bh) k_ ha_ h_)));have n_BKg:=Aside0.mk (BKg.out.kept hk (fun k_ ha_ hx_=>hx_.elim (fun h_=>(fun k_ a_ b_=>an k_ b_ a_) k_ ha_ h_) (fun h_=>(fun k_ a_ b_=>ao k_ b_ a_) k_ ha_ h_)));have n_HB:=Aside0.mk hb0;clear BKa W0 W1 W2 BKw BKx G0 G1 BKg HB;have BKa:=n_BKa;have W0:=b;have W1:=c;have W2:=d;have BKw:=n_BKw;have BKx:=n_BKx;have G0:=g;have G1:=j;have BKg:=n_BKg;have HB:=n_HB;clear n_BKa b c d n_BKw n_BKx g j n_BKg n_HB;clear hb0 hk ho0 ho1;obtain⟨_,_,_,_⟩:=cf2 ⟨BKa.out.s⟩;obtain⟨_,_,_,_,_,_,_,_,_,_,_,_,_,_⟩:=cf7 ⟨BKw.out.s⟩;obtain⟨_,_,_,_⟩:=cf2 ⟨BKx.out.s⟩))
  have cQ:=(Kd.S_reads' G0.out).1
  have z0:=(Kd.S_reads' G0.out).2
  have b9:=Kd.C_len G1.out
  have Z0:=Aside0.mk z0.2
  have L0:Aside0 (b8.length≤ad):=⟨by rw[←cQ];exact z0.1⟩
  have Z1:Aside0 (Kd.C k70 cP al aE.length aE):=⟨by rw[b9];exact G1.out⟩
  have L1:Aside0 (aE.length≤am):=⟨by rw[b9];exact cX.out⟩
  rw[cQ]at BKg
  rw[←b9]at BKg
  clear z0 cQ b9 G0 G1 cX
  have HB2:=Aside0.mk (Below.refl cP.heap.size cP)
  obtain⟨_,_,_,_,_,_,_,_,_,_,_,_,_,_⟩:=cf7 ⟨BKg.out.s⟩
  go_upto_region 20 with(first|(go_at_call 14;refine(gP.calls k aS ad b8 al am aE a0 a1 gc g3 g4 g5 g6 1 q _ (Kd.C_below Z0.out HB2.out) L0.out (Kd.C_below Z1.out HB2.out) L1.out (vz HGC.out) (vB HGC.out) HQ.out).mono ?_;rintro e wn ⟨rfl,hb⟩;have n_BKa:=Aside0.mk (BKa.out.below hb);have b:=Aside0.mk (W0.out.below hb);have c:=Aside0.mk (W1.out.below hb);have d:=Aside0.mk (W2.out.below hb);have n_BKw:=Aside0.mk (BKw.out.below hb);have n_BKx:=Aside0.mk (BKx.out.below hb);have n_BKg:=Aside0.mk (BKg.out.below hb);have n_HB:=Aside0.mk (bi HB.out hb);have o:=Aside0.mk (bi HB2.out hb);clear BKa W0 W1 W2 BKw BKx BKg HB HB2;have BKa:=n_BKa;have W0:=b;have W1:=c;have W2:=d;have BKw:=n_BKw;have BKx:=n_BKx;have BKg:=n_BKg;have HB:=n_HB;have HB2:=o;clear n_BKa b c d n_BKw n_BKx n_BKg n_HB o;clear hb;obtain⟨_,_,_,_⟩:=cf2 ⟨BKa.out.s⟩;obtain⟨_,_,_,_,_,_,_,_,_,_,_,_,_,_⟩:=cf7 ⟨BKw.out.s⟩;obtain⟨_,_,_,_⟩:=cf2 ⟨BKx.out.s⟩;obtain⟨_,_,_,_,_,_,_,_,_,_,_,_,_,_⟩:=cf7 ⟨BKg.out.s⟩))
  go_upto_region 24 with fail
  go_upto_region 25 with(first|(go_at_call 8;refine(gu.calls k _ _ l0 _ _ l1 x y _ (Kd.C_below aq.out HB.out) ar.out (Kd.C_below HR1.out HB.out) aw.out HX.out).mono ?_;rintro e wn ⟨aF,aL,rfl,ho0,ho1,hb⟩;have hle:=HB.out.size;obtain⟨P_tX,n_tX,l_tX,q_tX⟩:=QS.of (B:=w.heap.size) ho0 hle;have D_BKa_tX: ∀k_,P_BKa k_→¬P_tX k_:=fun k_ ha_ hx_=>absurd (BKa.out.h k_ ha_) (Nat.not_lt.2 (l_tX k_ hx_));have ew: ∀k_,u k_→¬P_tX k_:=fun k_ ha_ hx_=>absurd (W0.out.h k_ ha_) (Nat.not_lt.2 (l_tX k_ hx_));have ex: ∀k_,z k_→¬P_tX k_:=fun k_ ha_ hx_=>absurd (W1.out.h k_ ha_) (Nat.not_lt.2 (l_tX k_ hx_));have ey: ∀k_,A k_→¬P_tX k_:=fun k_ ha_ hx_=>absurd (W2.out.h k_ ha_) (Nat.not_lt.2 (l_tX k_ hx_));have D_BKw_tX: ∀k_,P_BKw k_→¬P_tX k_:=fun k_ ha_ hx_=>absurd (BKw.out.h k_ ha_) (Nat.not_lt.2 (l_tX k_ hx_));have D_BKx_tX: ∀k_,P_BKx k_→¬P_tX k_:=fun k_ ha_ hx_=>absurd (BKx.out.h k_ ha_) (Nat.not_lt.2 (l_tX k_ hx_));have D_BKg_tX: ∀k_,P_BKg k_→¬P_tX k_:=fun k_ ha_ hx_=>absurd (BKg.out.h k_ ha_) (Nat.not_lt.2 (l_tX k_ hx_));obtain⟨P_tY,n_tY,l_tY,q_tY⟩:=QR.of (B:=w.heap.size) ho1 hle;have D_BKa_tY: ∀k_,P_BKa k_→¬P_tY k_:=fun k_ ha_ hx_=>absurd (BKa.out.h k_ ha_) (Nat.not_lt.2 (l_tY k_ hx_));have ez: ∀k_,u k_→¬P_tY k_:=fun k_ ha_ hx_=>absurd (W0.out.h k_ ha_) (Nat.not_lt.2 (l_tY k_ hx_));have eA: ∀k_,z k_→¬P_tY k_:=fun k_ ha_ hx_=>absurd (W1.out.h k_ ha_) (Nat.not_lt.2 (l_tY k_ hx_));have eC: ∀k_,A k_→¬P_tY k_:=fun k_ ha_ hx_=>absurd (W2.out.h k_ ha_) (Nat.not_lt.2 (l_tY k_ hx_));have D_BKw_tY: ∀k_,P_BKw k_→¬P_tY k_:=fun k_ ha_ hx_=>absurd (BKw.out.h k_ ha_) (Nat.not_lt.2 (l_tY k_ hx_));have D_BKx_tY: ∀k_,P_BKx k_→¬P_tY k_:=fun k_ ha_ hx_=>absurd (BKx.out.h k_ ha_) (Nat.not_lt.2 (l_tY k_ hx_));have D_BKg_tY: ∀k_,P_BKg k_→¬P_tY k_:=fun k_ ha_ hx_=>absurd (BKg.out.h k_ ha_) (Nat.not_lt.2 (l_tY k_ hx_));have m_tX:=Aside0.mk n_tX;have m_tY:=Aside0.mk n_tY;clear hle ho0 n_tX l_tX q_tX ho1 n_tY l_tY q_tY;have n_BKa:=Aside0.mk (BKa.out.below hb);have b:=Aside0.mk (W0.out.below hb);have c:=Aside0.mk (W1.out.below hb);have d:=Aside0.mk (W2.out.below hb);have n_BKw:=Aside0.mk (BKw.out.below hb);have n_BKx:=Aside0.mk (BKx.out.below hb);have n_BKg:=Aside0.mk (BKg.out.below hb);have n_HB:=Aside0.mk (bi HB.out hb);have o:=Aside0.mk (bi HB2.out hb);clear BKa W0 W1 W2 BKw BKx BKg HB HB2;have BKa:=n_BKa;have W0:=b;have W1:=c;have W2:=d;have BKw:=n_BKw;have BKx:=n_BKx;have BKg:=n_BKg;have HB:=n_HB;have HB2:=o;clear n_BKa b c d n_BKw n_BKx n_BKg n_HB o;clear hb;have tX:=m_tX;clear m_tX;obtain⟨A_tX,c_tX,rfl⟩:=QS.form tX;have tY:=m_tY;clear m_tY;obtain⟨A_tY,c_tY,rfl⟩:=QR.form tY;obtain⟨_,_,_,_⟩:=cf2 ⟨BKa.out.s⟩;obtain⟨_,_,_,_,_,_,_,_,_,_,_,_,_,_⟩:=cf7 ⟨BKw.out.s⟩;obtain⟨_,_,_,_⟩:=cf2 ⟨BKx.out.s⟩;obtain⟨_,_,_,_,_,_,_,_,_,_,_,_,_,_⟩:=cf7 ⟨BKg.out.s⟩)|(go_at_call 9;refine(gD.calls k _ _ x _ _ y ga gb gc g3 g4 g5 g6 _ (QS.cells tX) (QS.room tX) (QR.cells tY) (QR.room tY) HGG.out).mono ?_;rintro e wn ⟨aF,aL,cW,rfl,⟨PM,ho0,ho1⟩,ho2,hb⟩;have hle:=HB.out.size;obtain⟨M,I,O,dp⟩:=QS.of (B:=w.heap.size) ho0 hle;have dq: ∀k_,P_BKa k_→¬M k_:=fun k_ ha_ hx_=>absurd (BKa.out.h k_ ha_) (Nat.not_lt.2 (O k_ hx_));have eE: ∀k_,u k_→¬M k_:=fun k_ ha_ hx_=>absurd (W0.out.h k_ ha_) (Nat.not_lt.2 (O k_ hx_));have eI: ∀k_,z k_→¬M k_:=fun k_ ha_ hx_=>absurd (W1.out.h k_ ha_) (Nat.not_lt.2 (O k_ hx_));have eJ: ∀k_,A k_→¬M k_:=fun k_ ha_ hx_=>absurd (W2.out.h k_ ha_) (Nat.not_lt.2 (O k_ hx_));have dr: ∀k_,P_BKw k_→¬M k_:=fun k_ ha_ hx_=>absurd (BKw.out.h k_ ha_) (Nat.not_lt.2 (O k_ hx_));have dt: ∀k_,P_BKx k_→¬M k_:=fun k_ ha_ hx_=>absurd (BKx.out.h k_ ha_) (Nat.not_lt.2 (O k_ hx_));have du: ∀k_,P_BKg k_→¬M k_:=fun k_ ha_ hx_=>absurd (BKg.out.h k_ ha_) (Nat.not_lt.2 (O k_ hx_));have eK: ∀k_,P_tX k_→¬M k_:=fun k_ ha_ hx_=>absurd (tX.out.h k_ ha_) (Nat.not_lt.2 (O k_ hx_));have eL: ∀k_,P_tY k_→¬M k_:=fun k_ ha_ hx_=>absurd (tY.out.h k_ ha_) (Nat.not_lt.2 (O k_ hx_));obtain⟨P,J,T,dv⟩:=QS.of (B:=w.heap.size) ho1 hle;have dy: ∀k_,P_BKa k_→¬P k_:=fun k_ ha_ hx_=>absurd (BKa.out.h k_ ha_) (Nat.not_lt.2 (T k_ hx_));have eM: ∀k_,u k_→¬P k_:=fun k_ ha_ hx_=>absurd (W0.out.h k_ ha_) (Nat.not_lt.2 (T k_ hx_));have eN: ∀k_,z k_→¬P k_:=fun k_ ha_ hx_=>absurd (W1.out.h k_ ha_) (Nat.not_lt.2 (T k_ hx_));have eR: ∀k_,A k_→¬P k_:=fun k_ ha_ hx_=>absurd (W2.out.h k_ ha_) (Nat.not_lt.2 (T k_ hx_));have dT: ∀k_,P_BKw k_→¬P k_:=fun k_ ha_ hx_=>absurd (BKw.out.h k_ ha_) (Nat.not_lt.2 (T k_ hx_));have d0: ∀k_,P_BKx k_→¬P k_:=fun k_ ha_ hx_=>absurd (BKx.out.h k_ ha_) (Nat.not_lt.2 (T k_ hx_));have d1: ∀k_,P_BKg k_→¬P k_:=fun k_ ha_ hx_=>absurd (BKg.out.h k_ ha_) (Nat.not_lt.2 (T k_ hx_));have eS: ∀k_,P_tX k_→¬P k_:=fun k_ ha_ hx_=>absurd (tX.out.h k_ ha_) (Nat.not_lt.2 (T k_ hx_));have eV: ∀k_,P_tY k_→¬P k_:=fun k_ ha_ hx_=>absurd (tY.out.h k_ ha_) (Nat.not_lt.2 (T k_ hx_));obtain⟨U,L,W,d2⟩:=QR.of (B:=w.heap.size) ho2 hle;have d3: ∀k_,P_BKa k_→¬U k_:=fun k_ ha_ hx_=>absurd (BKa.out.h k_ ha_) (Nat.not_lt.2 (W k_ hx_));have eW: ∀k_,u k_→¬U k_:=fun k_ ha_ hx_=>absurd (W0.out.h k_ ha_) (Nat.not_lt.2 (W k_ hx_));have e0: ∀k_,z k_→¬U k_:=fun k_ ha_ hx_=>absurd (W1.out.h k_ ha_) (Nat.not_lt.2 (W k_ hx_));have e1: ∀k_,A k_→¬U k_:=fun k_ ha_ hx_=>absurd (W2.out.h k_ ha_) (Nat.not_lt.2 (W k_ hx_));have d4: ∀k_,P_BKw k_→¬U k_:=fun k_ ha_ hx_=>absurd (BKw.out.h k_ ha_) (Nat.not_lt.2 (W k_ hx_));have d5: ∀k_,P_BKx k_→¬U k_:=fun k_ ha_ hx_=>absurd (BKx.out.h k_ ha_) (Nat.not_lt.2 (W k_ hx_));have d6: ∀k_,P_BKg k_→¬U k_:=fun k_ ha_ hx_=>absurd (BKg.out.h k_ ha_) (Nat.not_lt.2 (W k_ hx_));have e2: ∀k_,P_tX k_→¬U k_:=fun k_ ha_ hx_=>absurd (tX.out.h k_ ha_) (Nat.not_lt.2 (W k_ hx_));have e3: ∀k_,P_tY k_→¬U k_:=fun k_ ha_ hx_=>absurd (tY.out.h k_ ha_) (Nat.not_lt.2 (W k_ hx_));have cR:=Aside0.mk I;have cS:=Aside0.mk J;have cT:=Aside0.mk L;clear hle ho0 I O dp ho1 J T dv ho2 L W d2;have n_BKa:=Aside0.mk (BKa.out.below hb);have b:=Aside0.mk (W0.out.below hb);have c:=Aside0.mk (W1.out.below hb);have d:=Aside0.mk (W2.out.below hb);have n_BKw:=Aside0.mk (BKw.out.below hb);have n_BKx:=Aside0.mk (BKx.out.below hb);have n_BKg:=Aside0.mk (BKg.out.below hb);have n_tX:=Aside0.mk (tX.out.below hb);have n_tY:=Aside0.mk (tY.out.below hb);have n_HB:=Aside0.mk (bi HB.out hb);have o:=Aside0.mk (bi HB2.out hb);clear BKa W0 W1 W2 BKw BKx BKg tX tY HB HB2;have BKa:=n_BKa;have W0:=b;have W1:=c;have W2:=d;have BKw:=n_BKw;have BKx:=n_BKx;have BKg:=n_BKg;have tX:=n_tX;have tY:=n_tY;have HB:=n_HB;have HB2:=o;clear n_BKa b c d n_BKw n_BKx n_BKg n_tX n_tY n_HB o;clear hb;have H0:=cR;clear cR;obtain⟨bp,br,rfl⟩:=QS.form H0;have H1:=cS;clear cS;obtain⟨bs,bt,rfl⟩:=QS.form H1;have H2:=cT;clear cT;obtain⟨bw,b0,rfl⟩:=QR.form H2;obtain⟨_,_,_,_⟩:=cf2 ⟨BKa.out.s⟩;obtain⟨_,_,_,_,_,_,_,_,_,_,_,_,_,_⟩:=cf7 ⟨BKw.out.s⟩;obtain⟨_,_,_,_⟩:=cf2 ⟨BKx.out.s⟩;obtain⟨_,_,_,_,_,_,_,_,_,_,_,_,_,_⟩:=cf7 ⟨BKg.out.s⟩;clear tX tY)|((with_reducible refine gd 10 rfl ?_);refine bx 10 #[.slice none 0 0, .slice none 0 0, .slice none 0 0, .int .i64 0, .int .i64 0, .bool false, .int .i64 0] 33 ?_;intro gh_ hg wn hbox hb;have GE_BKh:=Nat.le_trans HB.out.size (Nat.le_of_eq hg.symm);have a3:=Aside0.mk (Nat.le_trans HB2.out.size (Nat.le_of_eq hg.symm));obtain⟨P_BKh,n_BKh,l_BKh⟩:=QB.of hbox hg;have D_BKa_BKh: ∀k_,P_BKa k_→¬P_BKh k_:=fun k_ ha_ hx_=>absurd (BKa.out.h k_ ha_) (Nat.not_lt.2 (l_BKh k_ hx_));have b1: ∀k_,u k_→¬P_BKh k_:=fun k_ ha_ hx_=>absurd (W0.out.h k_ ha_) (Nat.not_lt.2 (l_BKh k_ hx_));have b2: ∀k_,z k_→¬P_BKh k_:=fun k_ ha_ hx_=>absurd (W1.out.h k_ ha_) (Nat.not_lt.2 (l_BKh k_ hx_));have b3: ∀k_,A k_→¬P_BKh k_:=fun k_ ha_ hx_=>absurd (W2.out.h k_ ha_) (Nat.not_lt.2 (l_BKh k_ hx_));have D_BKw_BKh: ∀k_,P_BKw k_→¬P_BKh k_:=fun k_ ha_ hx_=>absurd (BKw.out.h k_ ha_) (Nat.not_lt.2 (l_BKh k_ hx_));have D_BKx_BKh: ∀k_,P_BKx k_→¬P_BKh k_:=fun k_ ha_ hx_=>absurd (BKx.out.h k_ ha_) (Nat.not_lt.2 (l_BKh k_ hx_));have D_BKg_BKh: ∀k_,P_BKg k_→¬P_BKh k_:=fun k_ ha_ hx_=>absurd (BKg.out.h k_ ha_) (Nat.not_lt.2 (l_BKh k_ hx_));have b4: ∀k_,M k_→¬P_BKh k_:=fun k_ ha_ hx_=>absurd (H0.out.h k_ ha_) (Nat.not_lt.2 (l_BKh k_ hx_));have b5: ∀k_,P k_→¬P_BKh k_:=fun k_ ha_ hx_=>absurd (H1.out.h k_ ha_) (Nat.not_lt.2 (l_BKh k_ hx_));have b6: ∀k_,U k_→¬P_BKh k_:=fun k_ ha_ hx_=>absurd (H2.out.h k_ ha_) (Nat.not_lt.2 (l_BKh k_ hx_));have m_BKh:=Aside0.mk n_BKh;have GG_BKh:=Aside0.mk GE_BKh;clear hbox hg n_BKh l_BKh GE_BKh;have n_BKa:=Aside0.mk (BKa.out.below hb);have b:=Aside0.mk (W0.out.below hb);have c:=Aside0.mk (W1.out.below hb);have d:=Aside0.mk (W2.out.below hb);have n_BKw:=Aside0.mk (BKw.out.below hb);have n_BKx:=Aside0.mk (BKx.out.below hb);have n_BKg:=Aside0.mk (BKg.out.below hb);have I:=Aside0.mk (H0.out.below hb);have J:=Aside0.mk (H1.out.below hb);have L:=Aside0.mk (H2.out.below hb);have n_HB:=Aside0.mk (bi HB.out hb);have o:=Aside0.mk (bi HB2.out hb);clear BKa W0 W1 W2 BKw BKx BKg H0 H1 H2 HB HB2;have BKa:=n_BKa;have W0:=b;have W1:=c;have W2:=d;have BKw:=n_BKw;have BKx:=n_BKx;have BKg:=n_BKg;have H0:=I;have H1:=J;have H2:=L;have HB:=n_HB;have HB2:=o;clear n_BKa b c d n_BKw n_BKx n_BKg I J L n_HB o;clear hb;have BKh:=m_BKh;clear m_BKh;obtain⟨_,_,_,_⟩:=cf2 ⟨BKa.out.s⟩;obtain⟨_,_,_,_,_,_,_,_,_,_,_,_,_,_⟩:=cf7 ⟨BKw.out.s⟩;obtain⟨_,_,_,_⟩:=cf2 ⟨BKx.out.s⟩;obtain⟨_,_,_,_,_,_,_,_,_,_,_,_,_,_⟩:=cf7 ⟨BKg.out.s⟩;obtain⟨_,_,_,_,_,_,_,_,_,_,_,_,_,_⟩:=cf7 ⟨BKh.out.s⟩)|((with_reducible refine cB (t:=33) (p:=10) rfl ?_);refine bT (t:=33) (p:=10) (v:= ?vo_BKh) (w1:=(((((((wn.setCell ⟨gh_,0,none⟩ (.slice bp ga.length br)).setCell ⟨gh_,1,none⟩ (.slice bs gb.length bt)).setCell ⟨gh_,2,none⟩ (.slice bw gc.length b0)).setCell ⟨gh_,3,none⟩ (.int .i64 g3)).setCell ⟨gh_,4,none⟩ (.int .i64 g4)).setCell ⟨gh_,5,none⟩ (.bool g5)).setCell ⟨gh_,6,none⟩ (.int .i64 g6))) ?hg ?ho ?hn ?hr ?_;(case ho=>rfl);(case hg=>rfl);(case hn=>rfl);(case hr=>first|(go_simp;done)|(go_simp;rfl));intro cs hw;obtain⟨hp_,hk_,hb_⟩:=qo BKh.out.s HB.out GG_BKh.out (.slice bp ga.length br) (.slice bs gb.length bt) (.slice bw gc.length b0) (.int .i64 g3) (.int .i64 g4) (.bool g5) (.int .i64 g6);obtain⟨-, -,ap⟩:=qo BKh.out.s HB2.out a3.out (.slice bp ga.length br) (.slice bs gb.length bt) (.slice bw gc.length b0) (.int .i64 g3) (.int .i64 g4) (.bool g5) (.int .i64 g6);rw[←hw]at hp_ hk_ hb_ ap;have hk:=Kept.mono hk_ (fun k_ (e_:k_=gh_)=>(e_▸BKh.out.p:P_BKh k_));have n_BKh:=Aside0.mk (BKh.out.put hp_ hk_.1);clear hw;have n_BKa:=Aside0.mk (BKa.out.kept hk (D_BKa_BKh));have b:=Aside0.mk (W0.out.kept hk (b1));have c:=Aside0.mk (W1.out.kept hk (b2));have d:=Aside0.mk (W2.out.kept hk (b3));have n_BKw:=Aside0.mk (BKw.out.kept hk (D_BKw_BKh));have n_BKx:=Aside0.mk (BKx.out.kept hk (D_BKx_BKh));have n_BKg:=Aside0.mk (BKg.out.kept hk (D_BKg_BKh));have I:=Aside0.mk (H0.out.kept hk (b4));have J:=Aside0.mk (H1.out.kept hk (b5));have L:=Aside0.mk (H2.out.kept hk (b6));have n_HB:=Aside0.mk hb_;have o:=Aside0.mk ap;clear BKa W0 W1 W2 BKw BKx BKg H0 H1 H2 BKh HB HB2;have BKa:=n_BKa;have W0:=b;have W1:=c;have W2:=d;have BKw:=n_BKw;have BKx:=n_BKx;have BKg:=n_BKg;have H0:=I;have H1:=J;have H2:=L;have BKh:=n_BKh;have HB:=n_HB;have HB2:=o;clear n_BKa b c d n_BKw n_BKx n_BKg I J L n_BKh n_HB o;clear hp_ hk_ hb_ hk ap;obtain⟨_,_,_,_⟩:=cf2 ⟨BKa.out.s⟩;obtain⟨_,_,_,_,_,_,_,_,_,_,_,_,_,_⟩:=cf7 ⟨BKw.out.s⟩;obtain⟨_,_,_,_⟩:=cf2 ⟨BKx.out.s⟩;obtain⟨_,_,_,_,_,_,_,_,_,_,_,_,_,_⟩:=cf7 ⟨BKg.out.s⟩;obtain⟨_,_,_,_,_,_,_,_,_,_,_,_,_,_⟩:=cf7 ⟨BKh.out.s⟩))
  go_upto_region 27 with(first|(go_at_call 10;refine(gy.calls k _ _ ga _ _ gb _ _ gc g3 g4 g5 g6 _ _ wa _ _ wb _ _ wc w3 w4 w5 w6 true _ (QS.cells H0) (QS.room H0) (QS.cells H1) (QS.room H1) (QR.cells H2) (QR.room H2) (QN.cells W0) (QN.room W0) (QN.cells W1) (QN.room W1) (QR.cells W2) (QR.room W2) ci.out).mono ?_;rintro e wn ⟨rfl,hb⟩;have n_BKa:=Aside0.mk (BKa.out.below hb);have b:=Aside0.mk (W0.out.below hb);have c:=Aside0.mk (W1.out.below hb);have d:=Aside0.mk (W2.out.below hb);have n_BKw:=Aside0.mk (BKw.out.below hb);have n_BKx:=Aside0.mk (BKx.out.below hb);have n_BKg:=Aside0.mk (BKg.out.below hb);have I:=Aside0.mk (H0.out.below hb);have J:=Aside0.mk (H1.out.below hb);have L:=Aside0.mk (H2.out.below hb);have n_BKh:=Aside0.mk (BKh.out.below hb);have n_HB:=Aside0.mk (bi HB.out hb);have o:=Aside0.mk (bi HB2.out hb);clear BKa W0 W1 W2 BKw BKx BKg H0 H1 H2 BKh HB HB2;have BKa:=n_BKa;have W0:=b;have W1:=c;have W2:=d;have BKw:=n_BKw;have BKx:=n_BKx;have BKg:=n_BKg;have H0:=I;have H1:=J;have H2:=L;have BKh:=n_BKh;have HB:=n_HB;have HB2:=o;clear n_BKa b c d n_BKw n_BKx n_BKg I J L n_BKh n_HB o;clear hb;obtain⟨_,_,_,_⟩:=cf2 ⟨BKa.out.s⟩;obtain⟨_,_,_,_,_,_,_,_,_,_,_,_,_,_⟩:=cf7 ⟨BKw.out.s⟩;obtain⟨_,_,_,_⟩:=cf2 ⟨BKx.out.s⟩;obtain⟨_,_,_,_,_,_,_,_,_,_,_,_,_,_⟩:=cf7 ⟨BKg.out.s⟩;obtain⟨_,_,_,_,_,_,_,_,_,_,_,_,_,_⟩:=cf7 ⟨BKh.out.s⟩))
  clear H0 H1 H2
  go_upto_region 29 with(first|(go_at_call 14;refine(gP.calls k aS ad b8 al am aE a0 a1 gc g3 g4 g5 g6 1 q _ (Kd.C_below Z0.out HB2.out) L0.out (Kd.C_below Z1.out HB2.out) L1.out (vz HGC.out) (vB HGC.out) HQ.out).mono ?_;rintro e wn ⟨rfl,hb⟩;have n_BKa:=Aside0.mk (BKa.out.below hb);have b:=Aside0.mk (W0.out.below hb);have c:=Aside0.mk (W1.out.below hb);have d:=Aside0.mk (W2.out.below hb);have n_BKw:=Aside0.mk (BKw.out.below hb);have n_BKx:=Aside0.mk (BKx.out.below hb);have n_BKg:=Aside0.mk (BKg.out.below hb);have n_BKh:=Aside0.mk (BKh.out.below hb);have n_HB:=Aside0.mk (bi HB.out hb);have o:=Aside0.mk (bi HB2.out hb);clear BKa W0 W1 W2 BKw BKx BKg BKh HB HB2;have BKa:=n_BKa;have W0:=b;have W1:=c;have W2:=d;have BKw:=n_BKw;have BKx:=n_BKx;have BKg:=n_BKg;have BKh:=n_BKh;have HB:=n_HB;have HB2:=o;clear n_BKa b c d n_BKw n_BKx n_BKg n_BKh n_HB o;clear hb;obtain⟨_,_,_,_⟩:=cf2 ⟨BKa.out.s⟩;obtain⟨_,_,_,_,_,_,_,_,_,_,_,_,_,_⟩:=cf7 ⟨BKw.out.s⟩;obtain⟨_,_,_,_⟩:=cf2 ⟨BKx.out.s⟩;obtain⟨_,_,_,_,_,_,_,_,_,_,_,_,_,_⟩:=cf7 ⟨BKg.out.s⟩;obtain⟨_,_,_,_,_,_,_,_,_,_,_,_,_,_⟩:=cf7 ⟨BKh.out.s⟩))
  go_wp2
  go_ret
  exact⟨rfl,HB.out⟩
end Go.Proofs.YteinbmkgenhocaaGreat.P
end
section
namespace Go.Proofs.YteinbmkgenhocaaGreat.Kit
open Go Go.RowKit Go.Proofs.YteinbmkgenhocaaGreatW.PrintWords
set_option linter.unusedVariables false
def Evp {α:Type} (g:Nat→Option α) (P:α→Prop):Prop:= ∃r,Ev g r∧P r
theorem Evp.pure {α:Type} {P:α→Prop} (r:α) (h:P r):Evp (fun _=>some r) P:=⟨r,Ev.now r,h⟩
theorem Evp.bind {α β:Type} {g:Nat→Option α} {f:Nat→α→Option β} {P:α→Prop} {Q:β→Prop} (h:Evp g P) (k: ∀a,P a→Evp (fun n=>f n a) Q):Evp (fun n=>(g n).bind (f n)) Q:=by
  obtain⟨a,ha,hp⟩:=h
  obtain⟨r,hr,hq⟩:=k a hp
  exact⟨r,Ev.bind ha hr,hq⟩
theorem Evp.step {α:Type} {g f:Nat→Option α} {P:α→Prop} (h: ∀k,g (k+1)=f k) (k:Evp f P):Evp g P:=by
  obtain⟨r,hr,hp⟩:=k
  exact⟨r,Ev.step h hr,hp⟩
theorem Evp.congr {α:Type} {g f:Nat→Option α} {P:α→Prop} (h: ∀k,g k=f k) (k:Evp f P):Evp g P:=by
  obtain⟨r,hr,hp⟩:=k
  exact⟨r,Ev.congr h hr,hp⟩
theorem Evp.mono {α:Type} {g:Nat→Option α} {P Q:α→Prop} (h:Evp g P) (hpq: ∀r,P r→Q r):Evp g Q:=by
  obtain⟨r,hr,hp⟩:=h
  exact⟨r,hr,hpq r hp⟩
theorem Evp.yes {α:Type} {c:Prop} [Decidable c] {f g:Nat→Option α} {P:α→Prop} (hc:c) (h:Evp f P):Evp (fun n=>if c then f n else g n) P:=by
  simp only[if_pos hc];exact h
theorem Evp.no {α:Type} {c:Prop} [Decidable c] {f g:Nat→Option α} {P:α→Prop} (hc: ¬c) (h:Evp g P):Evp (fun n=>if c then f n else g n) P:=by
  simp only[if_neg hc];exact h
theorem Evp.ite {α:Type} {c:Prop} [Decidable c] {f g:Nat→Option α} {P:α→Prop} (h:c→Evp f P) (k: ¬c→Evp g P):Evp (fun n=>if c then f n else g n) P:=by
  by_cases hc:c
  ·exact Evp.yes hc (h hc)
  ·exact Evp.no hc (k hc)
theorem Ev.of_evp {α:Type} {g:Nat→Option α} {r:α} (h:Evp g (fun x=>x=r)):Ev g r:=by
  obtain⟨x,hx,rfl⟩:=h
  exact hx
theorem Evp.const {α:Type} {o:Option α} {r:α} {P:α→Prop} (h:o=some r) (hp:P r):Evp (fun _=>o) P:=⟨r,⟨0,fun _ _=>h⟩,hp⟩
theorem Evp.rounds {α:Type} {g:Nat→Option α} {r:α} (h:Evp g (fun x=>x=r)): ∃k,g k=some r:=(Ev.of_evp h).rounds
theorem Evp.for_ {ρ:Type} {n:Nat} {g:Nat→Nat→Option ρ} {R:Nat→ρ→Prop} (hend:Evp (g n) (R n)) (hstep: ∀i,i<n→Evp (g (i+1)) (R (i+1))→Evp (g i) (R i)): ∀i,i≤n→Evp (g i) (R i):=by
  have key: ∀d i,i+d=n→Evp (g i) (R i):=by
    intro d
    induction d with
    | zero => intro i hi;have:i=n:=by omega
              subst this;exact hend
    |succ d ih=>intro i hi;exact hstep i (by omega) (ih (i+1) (by omega))
  intro i hi
  exact key (n - i) i (by omega)
theorem Evp.fors {σ ρ:Type} {n:Nat} {g:Nat→σ→Nat→Option ρ} {I:Nat→σ→Prop} {R:Nat→σ→ρ→Prop} (hend: ∀s,I n s→Evp (g n s) (R n s))
    (hstep: ∀i,i<n→(∀s,I (i+1) s→Evp (g (i+1) s) (R (i+1) s))→∀s,I i s→Evp (g i s) (R i s)): ∀i,i≤n→∀s,I i s→Evp (g i s) (R i s):=by
  have key: ∀d i,i+d=n→∀s,I i s→Evp (g i s) (R i s):=by
    intro d
    induction d with
    | zero => intro i hi;have:i=n:=by omega
              subst this;exact hend
    |succ d ih=>intro i hi;exact hstep i (by omega) (ih (i+1) (by omega))
  intro i hi
  exact key (n - i) i (by omega)
theorem drop_at {α:Type} {xs:List α} {i:Nat} (h:i<xs.length):xs.drop i=xs[i]::xs.drop (i+1):=List.drop_eq_getElem_cons h
theorem getD_at {α:Type} {xs:List α} {i:Nat} (h:i<xs.length) (d:α):xs.getD i d=xs[i]:=by
  rw[List.getD_eq_getElem?_getD,List.getElem?_eq_getElem h];rfl
theorem eU {i n:Nat} (h:i<n) (hn:n≤9223372036854775807):wrap64 ((i:Int)+1)=((i+1:Nat):Int):=by unfold wrap64;omega
theorem w64 {n:Int} (h0: -9223372036854775808≤n) (h1:n≤9223372036854775807):wrap64 n=n:=by unfold wrap64;omega
end Go.Proofs.YteinbmkgenhocaaGreat.Kit
end
section
namespace Go.Proofs.YteinbmkgenhocaaGreat.Kit
open Go Go.RowKit Go.Proofs.YteinbmkgenhocaaGreatW.PrintWords Go.Proofs.YteinbmkgenhocaaGreat.P
set_option linter.unusedVariables false
abbrev Cls:=S126
def sup (cs:List Cls) (i:Nat):Int:=(cs.getD i iI).f0
def dZ (cs:List Cls) (i:Nat):List Int:=(cs.getD i iI).f1
def fu (n:Nat) (t:Int):Prop:=t=1∨t=3∨t=4∨(8≤t∧t<8+(n:Int))
structure ClsOk (cs:List Cls):Prop where
  lo:2≤cs.length
  hi:cs.length≤5
  root:sup cs 0= -1∧dZ cs 0= []
  fail:sup cs 1=0∧dZ cs 1= [1]
  up: ∀i,2≤i→i<cs.length→0≤sup cs i∧sup cs i<(i:Int)∧(dZ cs i).length≤2
  fld: ∀i,i<cs.length→∀t∈dZ cs i,fu cs.length t
inductive Up (cs:List Cls):Nat→Nat→Prop
  |refl (a:Nat):Up cs a a
  |step {a b:Nat} (p:Nat) (hp:sup cs a=(p:Int)) (h:Up cs p b):Up cs a b
theorem ClsOk.sup_pos {cs:List Cls} (h:ClsOk cs) {i:Nat} (h1:1≤i) (h2:i<cs.length):0≤sup cs i∧sup cs i<(i:Int):=by
  rcases Nat.lt_or_ge i 2 with h3|h3
  · have:i=1:=by omega
    subst this
    rw[h.fail.1]
    decide
  · have:=h.up i h3 h2
    exact⟨this.1,this.2.1⟩
theorem ClsOk.sup_nat {cs:List Cls} (h:ClsOk cs) {i:Nat} (h1:1≤i) (h2:i<cs.length): ∃p:Nat,sup cs i=(p:Int)∧p<i:=by
  obtain⟨h3,h4⟩:=h.sup_pos h1 h2
  exact⟨(sup cs i).toNat,by omega,by omega⟩
theorem ClsOk.len2 {cs:List Cls} (h:ClsOk cs) {i:Nat} (h2:i<cs.length):(dZ cs i).length≤2:=by
  rcases Nat.lt_or_ge i 2 with h3|h3
  · rcases Nat.lt_or_ge i 1 with h4|h4
    · have:i=0:=by omega
      subst this
      rw[h.root.2];decide
    · have:i=1:=by omega
      subst this
      rw[h.fail.2];decide
  ·exact(h.up i h3 h2).2.2
theorem Up.le {cs:List Cls} (h:ClsOk cs) {a b:Nat} (hu:Up cs a b) (ha:a<cs.length):b≤a:=by
  induction hu with
  |refl a=>exact Nat.le_refl _
  | @step a b p hp _ ih=>
    rcases Nat.eq_zero_or_pos a with h0|h0
    · subst h0
      have:=h.root.1
      omega
    · have:=h.sup_pos h0 ha
      have:=ih (by omega)
      omega
theorem Up.inv {cs:List Cls} {a b:Nat} (hu:Up cs a b):a=b∨∃p:Nat,sup cs a=(p:Int)∧Up cs p b:=by
  cases hu with
  |refl=>exact .inl rfl
  |step p hp h=>exact .inr ⟨p,hp,h⟩
theorem Up.trans {cs:List Cls} {a b c:Nat} (h1:Up cs a b) (h2:Up cs b c):Up cs a c:=by
  induction h1 with
  |refl=>exact h2
  |step p hp _ ih=>exact .step p hp (ih h2)
theorem Up.root {cs:List Cls} (h:ClsOk cs): ∀ {a:Nat},a<cs.length→Up cs a 0:=by
  intro a
  induction a using Nat.strongRecOn with
  | _ a ih=>
    intro ha
    rcases Nat.eq_zero_or_pos a with h0|h0
    ·subst h0;exact .refl 0
    · obtain⟨p,hp,hlt⟩:=h.sup_nat h0 ha
      exact .step p hp (ih p hlt (by omega))
inductive Flds (cs:List Cls):Nat→List Int→Prop
  |root:Flds cs 0 []
  |step {c:Nat} {l:List Int} (p:Nat) (hc:c≠0) (hp:sup cs c=(p:Int)) (h:Flds cs p l):Flds cs c (l++dZ cs c)
theorem Flds.fn {cs:List Cls} {c:Nat} {l l' :List Int} (h:Flds cs c l) (h' :Flds cs c l'):l=l' :=by
  induction h generalizing l' with
  | root=>
    cases h' with
    |root=>rfl
    |step p hc _ _=>exact absurd rfl hc
  | step p hc hp _ ih=>
    cases h' with
    |root=>exact absurd rfl hc
    | step q _ hq hl=>
      have:p=q:=by omega
      subst this
      rw[ih hl]
theorem lY {cs:List Cls} (i:Nat):(aD cs (i:Int)).f0=sup cs i:=rfl
theorem jZ {cs:List Cls} (i:Nat):(aD cs (i:Int)).f1=dZ cs i:=rfl
theorem qp {xs:List Int} {i:Nat} (h:i<xs.length):rd xs (i:Int)=xs[i]:=getD_at h _
def fU (cs:List Cls):Prop:=cs.length≤1048576∧∀i,i<cs.length→(dZ cs i).length≤1048576∧(∀t∈dZ cs i, -9223372036854775808≤t∧t≤9223372036854775807)
theorem gz (a lo hi:Int):aM.f a lo hi=some (decide (lo≤a∧a≤hi)):=by
  unfold aM.f
  by_cases h:lo≤a<;>simp[h]
theorem nL {n:Nat} {t:Int} (hn:n≤1000000000) (h0: -9223372036854775808≤t) (h1:t≤9223372036854775807):
    dF.f (n:Int) t=some (if(0≤t∧t≤4)∨(8≤t∧t<8+(n:Int))then t else -1):=by
  unfold dF.f
  rw[if_pos ⟨by omega,by omega,h0,h1⟩]
  repeat' split
  all_goals first|omega|(congr 1;omega)|rfl
theorem j6 {n:Nat} {t:Int} (hn:n≤1000000000) (h0: -9223372036854775808≤t) (h1:t≤9223372036854775807):
    ∃b,ek.f (n:Int) t=some b∧(b=true↔fu n t):=by
  unfold ek.f
  rw[nL hn h0 h1,Option.bind_some]
  refine⟨_,rfl, ?_⟩
  rw[decide_eq_true_iff]
  unfold fu
  split<;>omega
theorem lh {cs:List Cls} {t:Int} (hn:cs.length≤1000000000): ∃b,cu.f cs t=some b∧(b=true↔fu cs.length t):=by
  unfold cu.f fu
  rw[gz,w64 (n:=8+(cs.length:Int)) (by omega) (by omega),w64 (by omega) (by omega)]
  by_cases h1:t=1
  ·exact⟨true,by rw[if_pos h1],by simp[h1]⟩
  rw[if_neg h1]
  by_cases h2:t=3
  ·exact⟨true,by rw[if_pos h2],by simp[h2]⟩
  rw[if_neg h2]
  by_cases h3:t=4
  ·exact⟨true,by rw[if_pos h3],by simp[h3]⟩
  rw[if_neg h3]
  refine⟨_,rfl, ?_⟩
  simp only[h1,h2,h3,false_or,decide_eq_true_iff]
  omega
theorem jo (cs:List Cls) (a:Int): ∃b,dQ.f cs a=some b∧(b=true↔0≤a∧a<(cs.length:Int)):=by
  unfold dQ.f
  by_cases h:a≥0
  ·rw[if_pos h];exact⟨_,rfl,by rw[decide_eq_true_iff];omega⟩
  ·rw[if_neg h];exact⟨_,rfl,by simp;omega⟩
def Shp (cs:List Cls) (c:Nat):Prop:=(if c=0 then sup cs 0= -1∧(dZ cs 0).length=0 else if c=1 then sup cs 1=0∧dZ cs 1= [1]else 0≤sup cs c∧sup cs c<(c:Int)∧(dZ cs c).length≤2)
theorem oV {cs:List Cls}:Shp cs 0↔sup cs 0= -1∧(dZ cs 0).length=0:=by unfold Shp;rw[if_pos rfl]
theorem qw {cs:List Cls}:Shp cs 1↔sup cs 1=0∧dZ cs 1= [1]:=by unfold Shp;rw[if_neg (by decide),if_pos rfl]
theorem nA {cs:List Cls} {c:Nat} (h:2≤c):Shp cs c↔0≤sup cs c∧sup cs c<(c:Int)∧(dZ cs c).length≤2:=by unfold Shp;rw[if_neg (by omega),if_neg (by omega)]
def At (cs:List Cls) (c:Nat):Prop:=(∀t∈dZ cs c,fu cs.length t)∧Shp cs c
theorem nM {cs:List Cls}:ClsOk cs↔2≤cs.length∧cs.length≤5∧∀c,c<cs.length→At cs c:=by
  constructor
  · intro h
    refine⟨h.lo,h.hi,fun c hc=>⟨h.fld c hc, ?_⟩⟩
    rcases Nat.lt_or_ge c 2 with h2|h2
    · rcases Nat.lt_or_ge c 1 with h1|h1
      · have:c=0:=by omega
        subst this
        exact oV.2 ⟨h.root.1,by rw[h.root.2];rfl⟩
      · have:c=1:=by omega
        subst this
        exact qw.2 h.fail
    ·exact(nA h2).2 (h.up c h2 hc)
  · intro ⟨h1,h2,h3⟩
    have a0:=oV.1 (h3 0 (by omega)).2
    have a1:=qw.1 (h3 1 (by omega)).2
    exact⟨h1,h2,⟨a0.1,List.eq_nil_of_length_eq_zero a0.2⟩,a1,fun i hi hl=>(nA hi).1 (h3 i hl).2,fun i hi=>(h3 i hi).1⟩
theorem pX {cs:List Cls} (hs:fU cs) {c:Nat} (hc:c<cs.length):Evp (fun k=>dP.f k cs (c:Int)) (fun r=>r=true↔At cs c):=by
  unfold dP.f
  refine Evp.yes (by omega) (Evp.yes (by omega) ?_)
  rw[lY,jZ]
  have hl:=(hs.2 c hc).1
  have hl0:=hs.1
  have key: ∀i,i≤(dZ cs c).length→Evp (fun k=>dP.l0 k cs (c:Int) (i:Int) (sup cs c) (dZ cs c)) (fun r=>r=true↔(∀t∈(dZ cs c).drop i,fu cs.length t)∧Shp cs c):=by
    refine Evp.for_ ?_ (fun i hi ih=> ?_)
    · refine Evp.step (f:=fun k=>_) (fun k=>by rw[dP.l0,gz]) (Evp.no (by omega) ?_)
      rw[List.drop_length]
      simp only[List.not_mem_nil,false_implies,implies_true,true_and]
      refine Evp.ite (fun h0=> ?_) (fun h0=> ?_)
      · have:c=0:=by omega
        subst this
        rw[oV]
        refine Evp.ite (fun h=>Evp.pure _ ?_) (fun h=>Evp.pure _ (by simp[h]))
        rw[beq_iff_eq]
        constructor
        ·intro h2;exact⟨h,by omega⟩
        ·intro h2;omega
      · refine Evp.ite (fun h1=> ?_) (fun h1=> ?_)
        · have:c=1:=by omega
          subst this
          rw[qw]
          refine Evp.ite (fun h=> ?_) (fun h=>Evp.pure _ (by simp[h]))
          refine Evp.ite (fun h2=> ?_) (fun h2=>Evp.pure _ ?_)
          · refine Evp.yes (by omega) (Evp.pure _ ?_)
            obtain⟨x,hx⟩:=List.length_eq_one_iff.1 (by omega:(dZ cs 1).length=1)
            rw[hx,show rd [x] 0=x from rfl,beq_iff_eq]
            simp[h]
          · constructor
            ·intro h3;cases h3
            ·intro h3;rw[h3.2]at h2;exact absurd rfl h2
        · rw[nA (by omega)]
          refine Evp.congr (f:=fun k=>if 0≤sup cs c∧sup cs c≤(c:Int) - 1 then some (decide (((dZ cs c).length:Int)≤2))else some false) (fun k=>by rw[w64 (n:=(c:Int) - 1) (by omega) (by omega),Option.bind_some];simp only[decide_eq_true_iff]) ?_
          refine Evp.ite (fun h=>Evp.pure _ ?_) (fun h=>Evp.pure _ ?_)
          · simp only[decide_eq_true_iff]
            omega
          · constructor
            ·intro h3;cases h3
            ·intro h3;omega
    · obtain⟨b,hb,hb2⟩:=lh (cs:=cs) (t:=(dZ cs c)[i]) (by omega)
      refine Evp.step (f:=fun k=>_) (fun k=>by rw[dP.l0,qp hi,hb,Option.bind_some]) (Evp.yes (by omega) (Evp.yes (by omega) ?_))
      rw[eU hi (by omega),drop_at hi]
      refine Evp.ite (fun h=>ih.mono fun r hr=> ?_) (fun h=>Evp.pure _ ?_)
      · rw[hr,List.forall_mem_cons]
        exact⟨fun h2=>⟨⟨hb2.1 h,h2.1⟩,h2.2⟩,fun h2=>⟨h2.1.2,h2.2⟩⟩
      · rw[List.forall_mem_cons]
        exact⟨fun h2=>(by cases h2),fun h2=>absurd (hb2.2 h2.1.1) h⟩
  exact key 0 (Nat.zero_le _)
theorem jD {cs:List Cls} (hs:fU cs):Evp (fun k=>bG.f k cs) (fun r=>r=true↔ClsOk cs):=by
  have hl0:=hs.1
  unfold bG.f
  rw[gz]
  simp only[Option.bind_some]
  refine Evp.ite (fun h=> ?_) (fun h=>Evp.pure _ ?_)
  · simp only [decide_eq_true_iff]at h
    have key: ∀i,i≤cs.length→Evp (fun k=>bG.l0 k cs (i:Int)) (fun r=>r=true↔∀c,i≤c→c<cs.length→At cs c):=by
      refine Evp.for_ ?_ (fun i hi ih=> ?_)
      · refine Evp.step (f:=fun k=>_) (fun k=>by rw[bG.l0]) (Evp.no (by omega) (Evp.pure _ ?_))
        simp only[true_iff]
        intro c h1 h2;omega
      · refine Evp.step (f:=fun k=>_) (fun k=>by rw[bG.l0]) (Evp.yes (by omega) ?_)
        refine Evp.bind (pX hs hi) fun b hb=> ?_
        rw[eU hi (by omega)]
        refine Evp.ite (fun h1=>ih.mono fun r hr=> ?_) (fun h1=>Evp.pure _ ?_)
        · rw[hr]
          constructor
          · intro h2 c h3 h4
            rcases Nat.lt_or_ge i c with h5|h5
            ·exact h2 c h5 h4
            · have:c=i:=by omega
              subst this
              exact hb.1 h1
          ·intro h2 c h3 h4;exact h2 c (by omega) h4
        · constructor
          ·intro h2;cases h2
          ·intro h2;exact absurd (hb.2 (h2 i (Nat.le_refl _) hi)) h1
    refine(key 0 (Nat.zero_le _)).mono fun r hr=> ?_
    rw[hr,nM]
    constructor
    ·intro h2;exact⟨by omega,by omega,fun c hc=>h2 c (Nat.zero_le _) hc⟩
    ·intro h2 c _ hc;exact h2.2.2 c hc
  · simp only[decide_eq_true_iff]at h
    constructor
    ·intro h2;cases h2
    ·intro h2;have:=h2.lo;have:=h2.hi;omega
theorem mV {cs:List Cls} (hs:fU cs):Evp (fun k=>aJ.f k cs) (fun r=>r=true↔ClsOk cs):=by
  have hl0:=hs.1
  have no: ∀ {p:Prop},¬p→((false=true)↔p):=fun h=>⟨fun h2=>(by cases h2),fun h2=>absurd h2 h⟩
  have jno: ¬(2≤cs.length∧cs.length≤5)→Evp (fun k=>aJ.j0 k cs true) (fun r=>r=true↔ClsOk cs):=fun h=>
    Evp.step (f:=fun k=>_) (fun k=>by rw[aJ.j0]) (Evp.yes rfl (Evp.pure _ (no fun h2=>h ⟨h2.lo,h2.hi⟩)))
  unfold aJ.f
  refine Evp.ite (fun h=>jno (by omega)) (fun h=> ?_)
  by_cases h5: ¬cs.length≤5
  ·rw[decide_eq_true (by omega)];exact jno (by omega)
  rw[decide_eq_false (by omega)]
  have h2:2≤cs.length:=by omega
  have loop : (sup cs 0= -1∧dZ cs 0= [])→(sup cs 1=0∧dZ cs 1= [1])→∀i,i≤cs.length→Evp (fun k=>aJ.l0 k cs cs (cs.length:Int) (i:Int)) (fun r=>r=true↔∀c,i≤c→c<cs.length→At cs c):=by
    intro hr hf
    refine Evp.for_ ?_ (fun i hi ih=> ?_)
    · refine Evp.step (f:=fun k=>_) (fun k=>by rw[aJ.l0]) (Evp.no (by omega) (Evp.pure _ ?_))
      simp only[true_iff]
      intro c h1 h2;omega
    · have ih2:At cs i→∀r:Bool,(r=true↔∀c,i+1≤c→c<cs.length→At cs c)→(r=true↔∀c,i≤c→c<cs.length→At cs c):=by
        intro ha r hr
        rw[hr]
        constructor
        · intro h2 c h3 h4
          rcases Nat.lt_or_ge i c with h5|h5
          ·exact h2 c h5 h4
          · have:c=i:=by omega
            subst this
            exact ha
        ·intro h2 c h3 h4;exact h2 c (by omega) h4
      have hno: ¬At cs i→((false=true)↔∀c,i≤c→c<cs.length→At cs c):=fun h=>no fun h2=>h (h2 i (Nat.le_refl _) hi)
      have hl:=(hs.2 i hi).1
      have hb:=(hs.2 i hi).2
      have fl :Shp cs i→
          ∀j,j≤(dZ cs i).length→(∀t∈(dZ cs i).take j,fu cs.length t)→Evp (fun k=>aJ.l1 k cs cs (cs.length:Int) (i:Int) (dZ cs i) ((dZ cs i).length:Int) (j:Int)) (fun r=>r=true↔∀c,i≤c→c<cs.length→At cs c):=by
        intro hc
        have key: ∀j,j≤(dZ cs i).length→∀_:Unit,(∀t∈(dZ cs i).take j,fu cs.length t)→Evp (fun k=>aJ.l1 k cs cs (cs.length:Int) (i:Int) (dZ cs i) ((dZ cs i).length:Int) (j:Int)) (fun r=>r=true↔∀c,i≤c→c<cs.length→At cs c):=by
          refine Evp.fors (g:=fun j (_:Unit) k=>aJ.l1 k cs cs (cs.length:Int) (i:Int) (dZ cs i) ((dZ cs i).length:Int) (j:Int)) (I:=fun j _=> ∀t∈(dZ cs i).take j,fu cs.length t) (R:=fun _ _ r=>r=true↔∀c,i≤c→c<cs.length→At cs c) (fun _ hI=> ?_) (fun j hj ihj _ hI=> ?_)
          · refine Evp.step (f:=fun k=>_) (fun k=>by rw[aJ.l1]) (Evp.no (by omega) ?_)
            rw[eU hi (by omega)]
            refine ih.mono (ih2 ⟨?_,hc⟩)
            simpa using hI
          · obtain⟨b,hb1,hb2⟩:=j6 (n:=cs.length) (t:=(dZ cs i)[j]) (by omega) (hb _ (List.getElem_mem hj)).1 (hb _ (List.getElem_mem hj)).2
            refine Evp.step (f:=fun k=>_) (fun k=>by rw[aJ.l1,qp hj,hb1,Option.bind_some]) (Evp.yes (by omega) (Evp.yes (by omega) (Evp.yes (by omega) ?_)))
            rw[eU hj (by omega)]
            refine Evp.ite (fun h=>ihj () ?_) (fun h=>Evp.pure _ (hno ?_))
            · rw[List.take_succ_eq_append_getElem hj]
              intro t ht
              rcases List.mem_append.1 ht with ht|ht
              ·exact hI t ht
              ·rw[List.mem_singleton.1 ht];exact hb2.1 h
            ·intro ha;exact h (hb2.2 (ha.1 _ (List.getElem_mem hj)))
        exact fun j hj=>key j hj ()
      have j4 : ∀b:Bool,(b=true↔2≤i∧¬(0≤sup cs i∧sup cs i<(i:Int)))→Evp (fun k=>aJ.j4 k cs cs (cs.length:Int) (i:Int) b (sup cs i) (dZ cs i)) (fun r=>r=true↔∀c,i≤c→c<cs.length→At cs c):=by
        intro b hb4
        refine Evp.step (f:=fun k=>_) (fun k=>by rw[aJ.j4]) ?_
        refine Evp.ite (fun h=>Evp.pure _ (hno ?_)) (fun h=> ?_)
        · intro ha
          have h6:=hb4.1 h
          have:=(nA h6.1).1 ha.2
          omega
        · have h6: ¬(2≤i∧¬(0≤sup cs i∧sup cs i<(i:Int))):=fun h7=>h (hb4.2 h7)
          refine Evp.ite (fun h7=>Evp.pure _ (hno ?_)) (fun h7=>fl ?_ 0 (Nat.zero_le _) (by simp))
          · intro ha
            rcases Nat.lt_or_ge i 2 with h8|h8
            · rcases Nat.lt_or_ge i 1 with h9|h9
              · have:i=0:=by omega
                subst this
                have:=(oV.1 ha.2).2
                omega
              · have:i=1:=by omega
                subst this
                rw[hf.2]at h7;exact absurd h7 (by decide)
            · have:=(nA h8).1 ha.2
              omega
          · rcases Nat.lt_or_ge i 2 with h8|h8
            · rcases Nat.lt_or_ge i 1 with h9|h9
              · have:i=0:=by omega
                subst this
                exact oV.2 ⟨hr.1,by rw[hr.2];rfl⟩
              · have:i=1:=by omega
                subst this
                exact qw.2 hf
            ·exact(nA h8).2 (by omega)
      refine Evp.step (f:=fun k=>_) (fun k=>by rw[aJ.l0,lY,jZ]) (Evp.yes (by omega) (Evp.yes (by omega) (Evp.yes (by omega) ?_)))
      refine Evp.ite (fun h=>Evp.ite (fun h8=>j4 _ ?_) (fun h8=>j4 _ ?_)) (fun h=>j4 _ ?_)
      ·simp;omega
      ·rw[decide_eq_true_iff];omega
      ·simp;omega
  have done:(sup cs 0= -1∧dZ cs 0= [])→(sup cs 1=0∧dZ cs 1= [1])→Evp (fun k=>aJ.l0 k cs cs (cs.length:Int) 0) (fun r=>r=true↔ClsOk cs):=by
    intro hr hf
    refine(loop hr hf 0 (Nat.zero_le _)).mono fun r hr2=> ?_
    rw[hr2,nM]
    constructor
    ·intro h3;exact⟨by omega,by omega,fun c hc=>h3 c (Nat.zero_le _) hc⟩
    ·intro h3 c _ hc;exact h3.2.2 c hc
  have j2:(sup cs 0= -1∧dZ cs 0= [])→∀b:Bool,(b=false↔(sup cs 1=0∧dZ cs 1= [1]))→Evp (fun k=>aJ.j2 k cs b) (fun r=>r=true↔ClsOk cs):=by
    intro hr b hb
    refine Evp.step (f:=fun k=>_) (fun k=>by rw[aJ.j2]) ?_
    refine Evp.ite (fun h=>Evp.pure _ (no fun h3=> ?_)) (fun h=>done hr (hb.1 (by simpa using h)))
    have:=hb.2 h3.fail
    rw[h]at this;cases this
  have j1: ∀b:Bool,(b=false↔(sup cs 0= -1∧dZ cs 0= []))→Evp (fun k=>aJ.j1 k cs b) (fun r=>r=true↔ClsOk cs):=by
    intro b hb
    refine Evp.step (f:=fun k=>_) (fun k=>by rw[aJ.j1,show(1:Int)=((1:Nat):Int) from rfl,lY,jZ]) ?_
    refine Evp.ite (fun h=>Evp.pure _ (no fun h3=> ?_)) (fun h=> ?_)
    · have:=hb.2 h3.root
      rw[h]at this;cases this
    · have hr:=hb.1 (by simpa using h)
      refine Evp.yes (by omega) (Evp.ite (fun h1=>Evp.ite (fun h3=>Evp.yes (by omega) (j2 hr _ ?_)) (fun h3=>j2 hr _ ?_)) (fun h1=>j2 hr _ ?_))
      · obtain⟨x,hx⟩:=List.length_eq_one_iff.1 (by omega:(dZ cs 1).length=1)
        rw[hx,show rd [x] 0=x from rfl]
        simp[h1]
      · constructor
        ·intro h4;cases h4
        ·intro h4;rw[h4.2]at h3;exact absurd rfl h3
      · constructor
        ·intro h4;cases h4
        ·intro h4;exact absurd h4.1 h1
  refine Evp.step (f:=fun k=>_) (fun k=>by rw[aJ.j0,show(0:Int)=((0:Nat):Int) from rfl,lY,jZ]) (Evp.no (by decide) (Evp.yes (by omega) ?_))
  refine Evp.ite (fun h1=>j1 _ ?_) (fun h1=>j1 _ ?_)
  · constructor
    · intro h3
      have:(dZ cs 0).length=0:=by simpa using h3
      exact⟨h1,List.eq_nil_of_length_eq_zero this⟩
    ·intro h3;rw[h3.2];rfl
  · constructor
    ·intro h3;cases h3
    ·intro h3;exact absurd h3.1 h1
end Go.Proofs.YteinbmkgenhocaaGreat.Kit
end
