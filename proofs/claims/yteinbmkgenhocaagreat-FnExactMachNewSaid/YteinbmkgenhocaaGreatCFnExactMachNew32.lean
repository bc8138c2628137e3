/- A part of the claim FnExactMachNew. -/
import Derived.Test.YteinbmkgenhocaaGreatCFnExactMachNew31
section
namespace Go.Proofs.YteinbmkgenhocaaGreat.P
open Go.RowKit Go.Proofs.YteinbmkgenhocaaGreatW.PrintWords Go.Proofs.YteinbmkgenhocaaGreatW.PrintLast Go.Proofs.YteinbmkgenhocaaGreatW.PrintMore
attribute [local go_sem] ak au az aA ai aj av ax
set_option linter.unusedVariables false
set_option linter.unusedSimpArgs false
set_option maxHeartbeats 8000000 in
set_option maxRecDepth 100000 in
theorem df.calls (k:Nat) (r:List (S91)) (w:World) (h:df.f k=some r):
  Calls Tryz.prog 29 #[] w fun e w' => ∃z:Value,e= .returned (z)∧Kd.S k91 91 w' w.heap.size (fun _=>True) z r∧Below w.heap.size w w' :=by
 have O:=Tryz.underlying91
 have HB:=Aside0.mk (Below.refl w.heap.size w)
 have H:(df.l0 k (([]:List (S91))) 1)=some r:=h
 clear h
 obtain⟨t,j⟩: ∃y_:List (S91),y_=(([]:List (S91))):=⟨_,rfl⟩
 replace H:(df.l0 k t 1)=some r:=by first|(rw[j];with_reducible exact H)|(have g:=(Option.bind_some _ _).symm.trans H;rw[j];with_reducible exact g)|(have g:=(Option.bind_some _ _).symm.trans H;with_reducible exact g)|with_reducible exact H|(rw[j];exact H)|exact H
 have q:=Aside0.mk j
 clear j
 have H' :=Aside0.mk H
 clear H
 go_enter Tryz.func29,Tryz.ntmps29
 go_wp2_with (first|((with_reducible refine gd 3 rfl ?_);refine Kd.S_lit k91 _ 91 ?hg (N:=3) ?hd (xs:=([]:List (S91))) (inner:= []) (ok:=fun _=>True) (okp:=fun _=>True) ?hr ?hp (fun _ hk=>hk) trivial (Below.refl _ _) (Nat.le_refl _) (by simp) ?_;(case hd=>rfl);(case hg=>rfl);(case hr=>first|(go_simp;done)|(go_simp;rfl));(case hp=>exact(bV.none _ _));intro P w1 ho2 hb hg_ hnew_;clear hg_ hnew_;(first|rw[←q.out]at ho2|(simp only[Int.reduceToNat]at ho2;rw[←q.out]at ho2));have v:=Aside0.mk (Kd.S_lower ho2 (aU bl));replace HB:=hs HB hb;clear hb ho2))
 go_loopg [1,2] k (fun kq v1 v2 w' => ∃(c:List (S91)) (a:Int),v2= .int .i64 a∧Aside0 (df.l0 kq c a=some r)∧Aside0 (kq≤k)∧Aside0 (Kd.S k91 91 w' w.heap.size (fun _=>True) v1 c)∧Aside0 (Below w.heap.size w w'))
 case atStart=>exact⟨(t),(1),(by first|rfl|(simp;done)|(simp[*];done)),H',⟨Nat.le_refl _⟩,⟨by(with_reducible repeat(first|apply Kd.S_alloc|apply Kd.S_drewN|apply Kd.S_drew));exact v.out⟩,⟨bl⟩⟩
 case round=>
  clear H'
  obtain⟨c,a,rfl,HA,A,d,HB⟩:=hrel
  cases gk with
  |zero=>exact absurd HA.out (by simp[df.l0])
  | succ k1=>
   have H:=HA.out
   clear HA
   simp only[df.l0]at H
   by_cases c3:a≤7
   ·rw[if_pos c3]at H
    have J:decide (a≤7)=true:=decide_eq_true c3
    clear c3
    replace H:=Option.bind_eq_some_iff.mp H
    obtain⟨⟨i,t218⟩,B,H⟩:=H
    replace H:(if c.length<4398046511104 then(df.l0 k1 (c++ [(⟨1,(([(⟨i,t218⟩:S31)]:List (S31)))⟩:S91)]) (wrap64 (a+1)))else(none))=some r:=H
    have A4:=Aside0.mk B
    clear B
    obtain⟨n,l⟩: ∃y_:List (S31),y_=(([(⟨i,t218⟩:S31)]:List (S31))):=⟨_,rfl⟩
    replace H:(if c.length<4398046511104 then(df.l0 k1 (c++ [(⟨1,n⟩:S91)]) (wrap64 (a+1)))else(none))=some r:=by first|(rw[l];with_reducible exact H)|(have g:=(Option.bind_some _ _).symm.trans H;rw[l];with_reducible exact g)|(have g:=(Option.bind_some _ _).symm.trans H;with_reducible exact g)|with_reducible exact H|(rw[l];exact H)|exact H
    have s:=Aside0.mk l
    clear l
    by_cases c5:c.length<4398046511104
    ·rw[if_pos c5]at H
     have K:=Aside0.mk c5
     clear c5
     obtain⟨u,m⟩: ∃y_:List (S91),y_=(c++ [(⟨1,n⟩:S91)]):=⟨_,rfl⟩
     replace H:(df.l0 k1 u (wrap64 (a+1)))=some r:=by first|(rw[m];with_reducible exact H)|(have g:=(Option.bind_some _ _).symm.trans H;rw[m];with_reducible exact g)|(have g:=(Option.bind_some _ _).symm.trans H;with_reducible exact g)|with_reducible exact H|(rw[m];exact H)|exact H
     have x:=Aside0.mk m
     clear m
     have H' :=Aside0.mk H
     clear H
     go_wp2_with (first|((with_reducible refine gc 75 rfl ?_);refine gl (some 10) Tryz.func75 #[.int .i64 a] rfl ?_;(with_reducible refine(iM.calls a i t218 _ A4.out).mono ?_);rintro e w6 ⟨rfl,hb⟩;refine⟨_,rfl, ?_⟩;replace d:=Aside0.mk (Kd.S_below (by(with_reducible repeat(first|apply Kd.S_alloc|apply Kd.S_drewN|apply Kd.S_drew));exact d.out) hb);replace HB:=hs HB hb;(try clear hb))|((with_reducible refine gd 11 rfl ?_);refine Kd.R_lit k31 _ 31 ?hg (N:=11) ?hd (xs:=([(⟨i,t218⟩:S31)]:List (S31))) (inner:= [.bool i, .int .i64 t218]) (ok:=fun _=>True) (okp:=fun _=>True) ?hr ?hp (fun _ hk=>hk) trivial (Below.refl _ _) (Nat.le_refl _) (by simp) ?_;(case hd=>rfl);(case hg=>rfl);(case hr=>first|(go_simp;done)|(go_simp;rfl));(case hp=>exact(bV.c2 (show Kd.M k31 _ _ _ (⟨i,t218⟩:S31) [.bool i, .int .i64 t218] from(jT _ _ _ (⟨i,t218⟩:S31))) (bV.none _ _)));intro T w7 p hb hg_ hnew_;clear hg_ hnew_;(first|rw[←s.out]at p|(simp only[Int.reduceToNat]at p;rw[←s.out]at p));have o:=Aside0.mk (Kd.R_lower p (aU bl));replace d:=Aside0.mk (Kd.S_elder' (by(with_reducible repeat(first|apply Kd.S_alloc|apply Kd.S_drewN|apply Kd.S_drew));exact d.out) (Kd.R_base p) hb);replace HB:=hs HB hb;clear hb p;obtain⟨D,E,L⟩:=Kd.R_slice o.out;subst L)|((with_reducible refine iC (b:= .append) (xs:= #[.tmp 8, .tmp 13]) rfl ?_);at_builtin;refine Kd.S_append k91 (w0:=w) w.heap.size rfl (.tmp 8) (.tmp 13) 27 91 (.agg #[(.int .i64 0),(.slice none 0 0)]) 32 rfl Tryz.underlying27 qR rfl (by decide) (by omega) u1 c (⟨1,n⟩:S91) [.int .i64 1, .slice D n.length E] (fun _=>True) (fun k_=>some k_=(.slice D n.length E:Value).ownBlock) rfl rfl ?aP (fun k_ hk_=>((Kd.R_mono (ok' :=fun k_=>((fun _=>True)) k_∧some k_≠(u1:Value).ownBlock) (Kd.R_apart' (o.out) (Kd.S_typed d.out) (by decide)) (fun k_ hk=>⟨trivial,hk.2⟩))).1 k_ hk_.symm) ?aF ?aO ?aB ?aS ?aL ?_;(case aP=>exact lV _ _ _ (⟨1,n⟩:S91) (Kd.R_mono (Kd.R_tight rfl (Kd.R_mono (ok' :=fun k_=>((fun _=>True)) k_∧some k_≠(u1:Value).ownBlock) (Kd.R_apart' (o.out) (Kd.S_typed d.out) (by decide)) (fun k_ hk=>⟨trivial,hk.2⟩))) (fun _ h_=>h_)));(case aB=>exact bl);(case aF=>exact(fun _ _=>trivial));(case aO=>exact(by(with_reducible repeat(first|apply Kd.S_alloc|apply Kd.S_drewN|apply Kd.S_drew));exact Kd.S_mono d.out (fun k_ hk=>⟨trivial,fun e_=>hk.2 e_⟩)));(case aS=>exact(aU bl));(case aL=>have:=K.out;omega);intro U W ho hb hg hat;rw[←x.out]at ho;have G:=Aside0.mk (hb);have I:=Aside0.mk (ho);clear HB;clear d;clear o;have HB:=G;have y:=I;clear G I;clear ho hb hg hat))
     go_roundg k1
     case measure=>have:=A.out;omega
     case rel=>exact⟨(u),(wrap64 (a+1)),(by first|rfl|(simp;done)|(simp[*];done)),H',⟨by have:=A.out;omega⟩,⟨by(with_reducible repeat(first|apply Kd.S_alloc|apply Kd.S_drewN|apply Kd.S_drew));exact y.out⟩,⟨bl⟩⟩
    ·rw[if_neg c5]at H
     exact absurd H (by simp)
   ·rw[if_neg c3]at H
    have J:decide (a≤7)=false:=decide_eq_false c3
    clear c3
    obtain rfl:=Option.some.inj H;clear H
    go_wp2
    go_ret
    exact⟨_,by first|rfl|(simp[bz,bA]<;>rfl)|(simp[*,bz,bA]<;>rfl),by(with_reducible repeat(first|apply Kd.S_alloc|apply Kd.S_drewN|apply Kd.S_drew));exact d.out,bl⟩
def bu.T2:Bool×List (List Nat×List Nat):=(true, [([], []),([0], [0]),([1], [1]),([], []),([3], [3]),([], []),([4,5], [4,5]),([6], [6]),([7], [7]),([2,8], [2,8])])
def bu.B2:List Nat:= [0,1,3,0,8,0,56,120,248,511]
theorem bu.tab2:dJ .any (opsOf Tryz.f30 2)=bu.T2:=by kernel_rfl
theorem bu.bits2:dY bu.T2.2 bu.B2=true:=by kernel_rfl
set_option maxHeartbeats 8000000 in
set_option maxRecDepth 100000 in
theorem bu.calls (k:Nat) (aw:Option Addr) (aE:Nat) (t:List (S126)) (b0:Option Addr) (a0:Nat) (m:List (S104)) (a1:Int) (A2:Option Addr) (c2:Nat) (l2:List (S31)) (r1:Int) (r2:Int) (r3:List (S31)) (r4:List (S31)) (w:World) (cv:Kd.C eB w aw t.length t) (cw:t.length≤aE) (cx:Kd.C dV w b0 m.length m) (cy:m.length≤a0) (hr2:Kd.C k31 w A2 l2.length l2) (hc2:l2.length≤c2) (h:bu.f k t m a1 l2=some (r1,r2,r3,r4)):
  Calls Tryz.prog 30 #[.agg #[.slice aw t.length aE, .slice b0 m.length a0], .int .i64 a1, .slice A2 l2.length c2] w fun e w' => ∃cL cM:Value,e= .returned (.agg #[.int .i64 r1, .int .i64 r2,cL,cM])∧Kd.R k31 31 w' w.heap.size (fun k_=>some k_≠(cM:Value).ownBlock) cL r3∧Kd.R k31 31 w' w.heap.size (fun k_=>some k_≠(cL:Value).ownBlock) cM r4∧Below w.heap.size w w' :=by
 have ef:=Tryz.underlying38
 have eg:=Tryz.underlying70
 have dl:=Aside0.mk cv
 have dp:=Aside0.mk cw
 clear cv cw
 have cA:=Aside0.mk cx
 have dq:=Aside0.mk cy
 clear cx cy
 have HR2:=Aside0.mk hr2
 have el:=Aside0.mk hc2
 clear hr2 hc2
 have HB:=Aside0.mk (Below.refl w.heap.size w)
 have H:((some (([]:List (S31)):List (S31))).bind fun a2=>(if a2.length+l2.length<8796093022208 then(bu.l0 k a1 t m a1 0 (a2++l2) (([]:List (S31))))else(none)))=some (r1,r2,r3,r4):=h
 clear h
 obtain⟨a2,a9⟩: ∃y_:List (S31),y_=(([]:List (S31))):=⟨_,rfl⟩
 replace H:(if a2.length+l2.length<8796093022208 then(bu.l0 k a1 t m a1 0 (a2++l2) (([]:List (S31))))else(none))=some (r1,r2,r3,r4):=by first|(rw[a9];with_reducible exact H)|(have M:=(Option.bind_some _ _).symm.trans H;rw[a9];with_reducible exact M)|(have M:=(Option.bind_some _ _).symm.trans H;with_reducible exact M)|with_reducible exact H|(rw[a9];exact H)|exact H
 have cC:=Aside0.mk a9
 clear a9
 by_cases c4:a2.length+l2.length<8796093022208
 ·rw [if_pos c4]at H
  have c0:=Aside0.mk c4
  clear c4
  obtain⟨bd,ba⟩: ∃y_:List (S31),y_=(a2++l2):=⟨_,rfl⟩
  replace H:(bu.l0 k a1 t m a1 0 bd (([]:List (S31))))=some (r1,r2,r3,r4):=by first|(rw[ba];with_reducible exact H)|(have M:=(Option.bind_some _ _).symm.trans H;rw[ba];with_reducible exact M)|(have M:=(Option.bind_some _ _).symm.trans H;with_reducible exact M)|with_reducible exact H|(rw[ba];exact H)|exact H
  have cS:=Aside0.mk ba
  clear ba
  obtain⟨u,bb⟩: ∃y_:List (S31),y_=(([]:List (S31))):=⟨_,rfl⟩
  replace H:(bu.l0 k a1 t m a1 0 bd u)=some (r1,r2,r3,r4):=by first|(rw[bb];with_reducible exact H)|(have M:=(Option.bind_some _ _).symm.trans H;rw[bb];with_reducible exact M)|(have M:=(Option.bind_some _ _).symm.trans H;with_reducible exact M)|with_reducible exact H|(rw[bb];exact H)|exact H
  have cD:=Aside0.mk bb
  clear bb
  have H' :=Aside0.mk H
  clear H
  go_enter Tryz.func30,Tryz.ntmps30
  go_wp2_with (first|((with_reducible refine gd 3 rfl ?_);refine bx 3 #[.slice aw t.length aE, .slice b0 m.length a0] 38 ?_;intro aq hg w5 hbox hb;have d:=Aside0.mk hbox;have dr:=hz HB hg;have dt:=hz HB hg;replace HB:=hs HB hb;clear hb hbox hg)|((with_reducible refine gd 6 rfl ?_);refine bx 6 #[.int .i64 0, .int .i64 0, .slice none 0 0, .slice none 0 0] 70 ?_;intro I hg w6 hbox hb;have q:=Aside0.mk hbox;have du:=hz HB hg;have dv:=hz HB hg;have cf:=nl d hg;have cg:=ng d hg;replace d:=kb d hb;replace HB:=hs HB hb;clear hb hbox hg)|((with_reducible refine gd 9 rfl ?_);refine Kd.R_lit k31 _ 31 ?hg (N:=9) ?hd (xs:=([]:List (S31))) (inner:= []) (ok:=fun _=>True) (okp:=fun _=>True) ?hr ?hp (fun _ hk=>hk) trivial (Below.refl _ _) (Nat.le_refl _) (by simp) ?_;(case hd=>rfl);(case hg=>rfl);(case hr=>first|(go_simp;done)|(go_simp;rfl));(case hp=>exact(bV.none _ _));intro v228 w7 ch hb hg_ hnew_;clear hg_ hnew_;(first|rw[←cC.out]at ch|(simp only[Int.reduceToNat]at ch;rw[←cC.out]at ch));have bt:=Aside0.mk (Kd.R_lower ch (aU bl));replace d:=kb d hb;replace q:=kb q hb;replace HB:=hs HB hb;clear hb ch)|((with_reducible refine iC (b:= .append) (xs:= #[.tmp 9, .tmp 10]) rfl ?_);at_builtin;refine Kd.R_append_rows k31 (w0:=w) w.heap.size rfl (.tmp 9) (.tmp 10) 68 31 (.agg #[(.bool false),(.int .i64 0)]) 16 rfl Tryz.underlying68 oI rfl (by decide) (by omega) v228 a2 l2 _ _ _ (fun _=>True) (fun _=>False) rfl rfl ?aO ?aR (fun _ _ h=>h) (fun _ h=>h.elim) ?aF ?aB ?aS ?aL ?_;(case aR=>repeat(first|exact(Kd.C_below HR2.out HB.out)|(with_reducible refine Kd.C_alloc ?_ _)|(with_reducible refine Kd.C_drewN ?_ _)|(with_reducible refine Kd.C_drew ?_)));(case aB=>exact bl);(case aF=>exact(fun _ _=>trivial));(case aO=>exact(by(with_reducible repeat(first|apply Kd.R_alloc|apply Kd.R_drewN|apply Kd.R_drew));exact bt.out));(case aS=>exact(aU bl));(case aL=>have:=c0.out;omega);intro eh w9 ho hb hg hat;rw[←cS.out]at ho;have ci:=Aside0.mk (gF (g:=aq) (o:= .cells #[.slice aw t.length aE, .slice b0 m.length a0] 38 (0,0)) (by(with_reducible repeat(first|refine ah ?_ _|refine af ?_|refine ag ?_ _));exact d.out) hg (Kd.R_ne bt.out d.out (by decide)));have cj:=Aside0.mk (gF (g:=I) (o:= .cells #[.int .i64 0, .int .i64 0, .slice none 0 0, .slice none 0 0] 70 (0,0)) (by(with_reducible repeat(first|refine ah ?_ _|refine af ?_|refine ag ?_ _));exact q.out) hg (Kd.R_ne bt.out q.out (by decide)));have ck:=Aside0.mk (hb);have cl:=Aside0.mk (ho);clear d;clear q;clear HB;clear bt;have d:=ci;have q:=cj;have HB:=ck;have ar:=cl;clear ci cj ck cl;clear ho hb hg hat)|((with_reducible refine gd 12 rfl ?_);refine Kd.R_lit k31 _ 31 ?hg (N:=12) ?hd (xs:=([]:List (S31))) (inner:= []) (ok:=fun _=>True) (okp:=fun _=>True) ?hr ?hp (fun _ hk=>hk) trivial (Below.refl _ _) (Nat.le_refl _) (by simp) ?_;(case hd=>rfl);(case hg=>rfl);(case hr=>first|(go_simp;done)|(go_simp;rfl));(case hp=>exact(bV.none _ _));intro v234 em be hb hg_ hnew_;clear hg_ hnew_;(first|rw[←cD.out]at be|(simp only[Int.reduceToNat]at be;rw[←cD.out]at be));have bw:=Aside0.mk (Kd.R_lower (Kd.R_new' be (Kd.R_lt (by(with_reducible repeat(first|apply Kd.R_alloc|apply Kd.R_drewN|apply Kd.R_drew));exact ar.out))) (aU bl));replace ar:=Aside0.mk (Kd.R_elder' (by(with_reducible repeat(first|apply Kd.R_alloc|apply Kd.R_drewN|apply Kd.R_drew));exact ar.out) (Kd.R_base be) hb);replace d:=kb d hb;replace q:=kb q hb;replace HB:=hs HB hb;clear hb be;obtain⟨J,L,c1⟩:=Kd.R_slice bw.out;subst c1;obtain⟨cp,cq,da⟩:=Kd.R_slice ar.out;subst da)|((with_reducible refine gd 7 rfl ?_);refine bx 7 #[.int .i64 0, .int .i64 0, .slice none 0 0, .slice none 0 0] 70 ?_;intro s hg en hbox hb;have a:=Aside0.mk hbox;have dy:=hz HB hg;have dT:=hz HB hg;have a3:=nl d hg;have a4:=ng d hg;have a5:=nl q hg;have a6:=ng q hg;replace ar:=Aside0.mk (Kd.R_below (by(with_reducible repeat(first|apply Kd.R_alloc|apply Kd.R_drewN|apply Kd.R_drew));exact ar.out) hb);replace bw:=Aside0.mk (Kd.R_below (by(with_reducible repeat(first|apply Kd.R_alloc|apply Kd.R_drewN|apply Kd.R_drew));exact bw.out) hb);replace d:=kb d hb;replace q:=kb q hb;replace HB:=hs HB hb;clear hb hbox hg;have d0:=a4.out;have d1:=a3.out;have d2:=a6.out;have d3:=a5.out;have:=cf4 a))
  go_loopg [] k (fun kq w' => ∃(c:List (S31)) (u237002:Value),Aside0 (bu.l0 kq a1 t m a1 0 c u=some (r1,r2,r3,r4))∧Aside0 (kq≤k)∧Aside0 (Kd.R k31 31 w' w.heap.size (fun k_=>some k_≠((.slice J u.length L):Value).ownBlock) u237002 c)∧Aside0 (Kd.R k31 31 w' w.heap.size (fun k_=>some k_≠(u237002:Value).ownBlock) (.slice J u.length L) u)∧Aside0 (w'.heap[aq]? =some (.cells #[(.slice aw t.length aE),(.slice b0 m.length a0)] 38 (0,0)))∧Aside0 (w'.heap[I]? =some (.cells #[.int .i64 0, .int .i64 0,(.slice none 0 0),(.slice none 0 0)] 70 (0,0)))∧Aside0 (w'.heap[s]? =some (.cells #[.int .i64 a1, .int .i64 0,u237002,(.slice J u.length L)] 70 (0,0)))∧Aside0 (Below w.heap.size w w'))
  case atStart=>exact⟨(bd),(.slice cp bd.length cq),H',⟨Nat.le_refl _⟩,⟨by(with_reducible repeat(first|apply Kd.R_alloc|apply Kd.R_drewN|apply Kd.R_drew));exact Kd.R_mono (Kd.R_far (p:=⟨s,3,none⟩) (Kd.R_far (p:=⟨s,2,none⟩) (Kd.R_far (p:=⟨s,1,none⟩) (Kd.R_far (p:=⟨s,0,none⟩) (Kd.R_types ar.out a.out (by decide)) (fun _ hk=>hk.2) (.int .i64 a1)) (fun _ hk=>hk.2) (.int .i64 0)) (fun _ hk=>hk.2) (.slice cp bd.length cq)) (fun _ hk=>hk.2) (.slice J u.length L)) (fun _ hk=>hk.1.2)⟩,⟨by(with_reducible repeat(first|apply Kd.R_alloc|apply Kd.R_drewN|apply Kd.R_drew));exact Kd.R_mono (Kd.R_far (p:=⟨s,3,none⟩) (Kd.R_far (p:=⟨s,2,none⟩) (Kd.R_far (p:=⟨s,1,none⟩) (Kd.R_far (p:=⟨s,0,none⟩) (Kd.R_types bw.out a.out (by decide)) (fun _ hk=>hk.2) (.int .i64 a1)) (fun _ hk=>hk.2) (.int .i64 0)) (fun _ hk=>hk.2) (.slice cp bd.length cq)) (fun _ hk=>hk.2) (.slice J u.length L)) (fun _ hk=>hk.1.2)⟩,kf,kf,kf,⟨bl⟩⟩
  case round=>
   clear H'
   obtain⟨c,u237002,HA,cW,j,r,d,q,a,HB⟩:=hrel
   cases gk with
   |zero=>exact absurd HA.out (by simp[bu.l0])
   | succ k1=>
    have H:=HA.out
    clear HA
    simp only[bu.l0]at H
    by_cases c18:0≤a1
    ·rw [if_pos c18]at H
     have d4:decide (0≤a1)=true:=decide_eq_true c18
     clear c18
     by_cases c19:a1<(m.length:Int)
     ·rw [if_pos c19]at H
      have d5:decide (a1<(m.length:Int))=true:=decide_eq_true c19
      clear c19
      by_cases c20:(c.length:Int)<((aa m a1).f4)
      ·rw[if_pos c20]at H
       have cT:decide ((c.length:Int)<((aa m a1).f4))=true:=decide_eq_true c20
       clear c20
       replace H:=Option.bind_eq_some_iff.mp H
       obtain⟨⟨bh,bj⟩,cN,H⟩:=H
       replace H:(if c.length<8796093022208 then(bu.l0 k1 a1 t m a1 0 (c++ [(⟨bh,bj⟩:S31)]) u)else(none))=some (r1,r2,r3,r4):=H
       have dg:=Aside0.mk cN
       clear cN
       by_cases cE:c.length<8796093022208
       ·rw[if_pos cE]at H
        have cU:=Aside0.mk cE
        clear cE
        obtain⟨b1,bc⟩: ∃y_:List (S31),y_=(c++ [(⟨bh,bj⟩:S31)]):=⟨_,rfl⟩
        replace H:(bu.l0 k1 a1 t m a1 0 b1 u)=some (r1,r2,r3,r4):=by first|(rw[bc];with_reducible exact H)|(have M:=(Option.bind_some _ _).symm.trans H;rw[bc];with_reducible exact M)|(have M:=(Option.bind_some _ _).symm.trans H;with_reducible exact M)|with_reducible exact H|(rw[bc];exact H)|exact H
        have cV:=Aside0.mk bc
        clear bc
        have H' :=Aside0.mk H
        clear H
        try go_wp2
        replace j:=Aside0.mk (Kd.R_drew j.out)
        replace r:=Aside0.mk (Kd.R_drew r.out)
        replace d:=Aside0.mk (af d.out)
        replace q:=Aside0.mk (af q.out)
        replace a:=Aside0.mk (af a.out)
        replace HB:=Aside0.mk (aC HB.out)
        obtain⟨b2,b3,cP⟩:=Kd.R_slice j.out
        (first|subst cP|(injection cP with br cm bs;have cn:=br.symm;have co:=bs.symm;clear br cm bs;subst cn;subst co))
        have a7:0≤(a1:Int):=od
        have a8:a1<(m.length:Int):=od
        obtain⟨l,b4,b5,b6,b7,b8,b9,ca,cc,e237,x,y,z,A,B,D,E,G,O,P,T,U,W,X,Y,Z⟩:=di cA.out a1 a7 a8
        have ab:=G
        have ac:=E
        have ad:=D
        have al:=B
        have am:=A
        have an:=z
        have ao:=y
        have ap:=x
        cases e237
        obtain⟨x,y,z,A,B,D,E,G⟩:=hc8 HB x y z A B D E G
        have bk:=Aside0.mk P
        have cG:=Aside0.mk O
        clear P O
        have bm:=Aside0.mk U
        have cH:=Aside0.mk T
        clear U T
        have bo:=Aside0.mk X
        have cI:=Aside0.mk W
        clear X W
        have bp:=Aside0.mk Z
        have cJ:=Aside0.mk Y
        clear Z Y
        replace a7:=eq_true a7
        replace a8:=eq_true a8
        refine dR (n:=10) (S:=fun w' =>w'.cell? ⟨s,0,none⟩=some (.int .i64 a1)∧w'.cell? ⟨s,1,none⟩=some (.int .i64 0)∧w'.cell? ⟨s,2,none⟩=some (.slice b2 c.length b3)∧w'.cell? ⟨s,3,none⟩=some (.slice J u.length L)∧w'.cell? ⟨aq,0,none⟩=some (.slice aw t.length aE)∧w'.cell? ⟨aq,1,none⟩=some (.slice (some l) m.length a0)∧w'.cell? (l.add ((a1).toNat * 8))=some (.int .i64 ((aa m a1).f0))∧w'.cell? ⟨(l.add ((a1).toNat * 8)).block,(l.add ((a1).toNat * 8)).off+1,none⟩=some (.int .i64 ((aa m a1).f1))∧w'.cell? ⟨(l.add ((a1).toNat * 8)).block,(l.add ((a1).toNat * 8)).off+2,none⟩=some (.slice b4 ((aa m a1).f2).length b5)∧w'.cell? ⟨(l.add ((a1).toNat * 8)).block,(l.add ((a1).toNat * 8)).off+3,none⟩=some (.int .i64 ((aa m a1).f3))∧w'.cell? ⟨(l.add ((a1).toNat * 8)).block,(l.add ((a1).toNat * 8)).off+4,none⟩=some (.int .i64 ((aa m a1).f4))∧w'.cell? ⟨(l.add ((a1).toNat * 8)).block,(l.add ((a1).toNat * 8)).off+5,none⟩=some (.slice b6 ((aa m a1).f5).length b7)∧w'.cell? ⟨(l.add ((a1).toNat * 8)).block,(l.add ((a1).toNat * 8)).off+6,none⟩=some (.slice b8 ((aa m a1).f6).length b9)∧w'.cell? ⟨(l.add ((a1).toNat * 8)).block,(l.add ((a1).toNat * 8)).off+7,none⟩=some (.slice ca ((aa m a1).f7).length cc)) (ds:= []) #[false,false,false,false,false,false,false,false,false,false] (by kernel_rfl) rfl rfl ⟨(ae a.out 0).trans rfl,(ae a.out 1).trans rfl,(ae a.out 2).trans rfl,(ae a.out 3).trans rfl,(ae d.out 0).trans rfl,(ae d.out 1).trans rfl,((HB.out.cell (World.block_lt_of_cell? w _ ap)).trans ap),((HB.out.cell (World.block_lt_of_cell? w _ ao)).trans ao),((HB.out.cell (World.block_lt_of_cell? w _ an)).trans an),((HB.out.cell (World.block_lt_of_cell? w _ am)).trans am),((HB.out.cell (World.block_lt_of_cell? w _ al)).trans al),((HB.out.cell (World.block_lt_of_cell? w _ ad)).trans ad),((HB.out.cell (World.block_lt_of_cell? w _ ac)).trans ac),((HB.out.cell (World.block_lt_of_cell? w _ ab)).trans ab)⟩ (fun hHeld=> ?_);refine cO bu.tab2 bu.bits2 (fun HT_ HW_=> ?_)
        generalize wr.drew=dj at j r d q a HB bk bm bo bp x y z A B D E G hHeld⊢
        refine pu 0 14 #[true,false,false,false,false,false,false,false,false,false] HT_ rfl rfl ?_
        refine pu 3 17 #[true,false,false,true,false,false,false,false,false,false] HT_ rfl rfl ?_
        refine pu 5 19 #[true,false,false,true,false,true,false,false,false,false] HT_ rfl rfl ?_
        refine ta 1 15 #[true,true,false,true,false,true,false,false,false,false] HT_ HW_ hHeld rfl rfl ?_
        refine pu 2 16 #[true,true,true,true,false,true,false,false,false,false] HT_ rfl rfl ?_
        refine ta 4 18 #[true,true,true,true,true,true,false,false,false,false] HT_ HW_ hHeld rfl rfl ?_
        refine pu 6 20 #[true,true,true,true,true,true,true,false,false,false] HT_ rfl rfl ?_
        refine pu 7 21 #[true,true,true,true,true,true,true,true,false,false] HT_ rfl rfl ?_
        refine ta 8 22 #[true,true,true,true,true,true,true,true,true,false] HT_ HW_ hHeld rfl rfl ?_
        refine pu 9 23 #[true,true,true,true,true,true,true,true,true,true] HT_ rfl rfl ?_
        refine eQ (dN HT_.out (by kernel_rfl)) ?_
        try go_wp2
        replace j:=Aside0.mk (Kd.R_drew j.out)
        replace r:=Aside0.mk (Kd.R_drew r.out)
        replace d:=Aside0.mk (af d.out)
        replace q:=Aside0.mk (af q.out)
        replace a:=Aside0.mk (af a.out)
        replace HB:=Aside0.mk (aC HB.out)
        refine dR (n:=7) (S:=fun w' =>w'.cell? ⟨s,0,none⟩=some (.int .i64 a1)∧w'.cell? ⟨s,1,none⟩=some (.int .i64 0)∧w'.cell? ⟨s,2,none⟩=some (.slice b2 c.length b3)∧w'.cell? ⟨s,3,none⟩=some (.slice J u.length L)) (ds:= [6]) #[false,false,false,false,false,false,false] (by kernel_rfl) rfl rfl ⟨(ae a.out 0).trans rfl,(ae a.out 1).trans rfl,(ae a.out 2).trans rfl,(ae a.out 3).trans rfl⟩ (fun hHeld=> ?_)
        generalize dj.drew=eo at j r d q a HB hHeld⊢
        refine lS (i:=0) (N:=some 24) (v:= ?_) (a' := ?_) #[true,false,false,false,false,false,false] rfl rfl (by kernel_rfl) (fun _ _ _ h=>h) (Or.inl ⟨by rfl, ?_⟩) ?_ ?_
        rotate_left
        ·intro w'
         go_simp
         with_reducible rfl
        rotate_left
        ·simp only[Act.put,List.setIfInBounds_toArray,List.set_cons_zero,List.set_cons_succ,bX,bZ]
         rfl
        refine take_ (i:=1) (N:=some 25) (v:= ?_) (a' := ?_) #[true,true,false,false,false,false,false] rfl rfl (by kernel_rfl) (fun _ _ _ h=>h) (Or.inl ⟨by rfl, ?_⟩) hHeld ?_ ?_
        rotate_left
        ·rintro w' ⟨s0,s1,s2,s3⟩
         go_simp
         with_reducible rfl
        rotate_left
        ·simp only[Act.put,List.setIfInBounds_toArray,List.set_cons_zero,List.set_cons_succ,bX,bZ]
         rfl
        refine fo (i:=2) (N:=some 26) #[true,true,true,false,false,false,false] rfl rfl (by kernel_rfl) (by decide) (fun K hK=> ?_)
        refine gs Tryz.func75 #[.int .i64 0] rfl rfl ?_
        with_reducible refine(iM.calls 0 bh bj _ dg.out).mono ?_
        rintro e ep ⟨rfl,hb⟩
        refine⟨_,rfl, ?_⟩
        replace j:=Aside0.mk (Kd.R_below (by(with_reducible repeat(first|apply Kd.R_alloc|apply Kd.R_drewN|apply Kd.R_drew));exact j.out) hb)
        replace r:=Aside0.mk (Kd.R_below (by(with_reducible repeat(first|apply Kd.R_alloc|apply Kd.R_drewN|apply Kd.R_drew));exact r.out) hb)
        replace d:=kb d hb
        replace q:=kb q hb
        replace a:=kb a hb
        replace HB:=hs HB hb
        (try clear hb)
        (try clear hb2)
        (try clear hk)
        (try clear hi)
        refine hK.out _ _ ⟨(ae a.out 0).trans rfl,(ae a.out 1).trans rfl,(ae a.out 2).trans rfl,(ae a.out 3).trans rfl⟩ (fun hHeld=> ?_)
        clear hK K
        refine no 26 ?_
        refine fo (i:=3) (N:=some 27) #[true,true,true,true,false,false,false] rfl rfl (by kernel_rfl) (by decide) (fun K hK=> ?_)
        refine oq (w1:= ?_) (v:= ?_) (by rfl) rfl ?_ ?_
        rotate_left 2
        ·go_simp
         constructor
         ·rfl
         ·rfl
        refine hK.out _ _ ⟨(ae (ag a.out _) 0).trans rfl,(ae (ag a.out _) 1).trans rfl,(ae (ag a.out _) 2).trans rfl,(ae (ag a.out _) 3).trans rfl⟩ (fun hHeld=> ?_)
        clear hK K
        refine no 27 ?_
        refine fo (i:=4) (N:=some 28) #[true,true,true,true,true,false,false] rfl rfl (by kernel_rfl) (by decide) (fun K hK=> ?_)
        refine Kd.R_append_step k31 (w0:=w) w.heap.size (by rfl) (.tmp 25) (.tmp 27) 68 31 (.agg #[(.bool false),(.int .i64 0)]) 16 rfl Tryz.underlying68 oI rfl (by decide) (by omega) (.slice b2 c.length b3) c (⟨bh,bj⟩:S31) [.bool bh, .int .i64 bj] (fun k_=>some k_≠(.slice J u.length L:Value).ownBlock) (fun _=>False) rfl rfl ?aP (fun _ hk=>hk.elim) ?aF ?aO ?aB ?aS ?aL ?_
        (case aP=>exact jT _ _ _ (⟨bh,bj⟩:S31))
        (case aB=>exact bl)
        (case aF=>exact(fun k_ hk=>Kd.fresh' (Kd.R_lt (by(with_reducible repeat(first|apply Kd.R_alloc|apply Kd.R_drewN|apply Kd.R_drew));exact r.out)) k_ hk))
        (case aO=>exact(by(with_reducible repeat(first|apply Kd.R_alloc|apply Kd.R_drewN|apply Kd.R_drew));exact j.out))
        (case aS=>exact(aU bl))
        (case aL=>have:=cU.out;omega)
        intro ei dk ho hb hg hat
        rw[←cV.out]at ho
        have ci:=Aside0.mk (Kd.R_after (ok:=(fun _=>True)) (by(with_reducible repeat(first|apply Kd.R_alloc|apply Kd.R_drewN|apply Kd.R_drew));exact Kd.R_mono r.out (fun _ hk=>⟨trivial,hk⟩)) hg hat)
        have cj:=Aside0.mk (gF (g:=aq) (o:= .cells #[.slice aw t.length aE, .slice (some l) m.length a0] 38 (0,0)) (by(with_reducible repeat(first|refine ah ?_ _|refine af ?_|refine ag ?_ _));exact d.out) hg (Kd.R_ne j.out d.out (by decide)))
        have ck:=Aside0.mk (gF (g:=I) (o:= .cells #[.int .i64 0, .int .i64 0, .slice none 0 0, .slice none 0 0] 70 (0,0)) (by(with_reducible repeat(first|refine ah ?_ _|refine af ?_|refine ag ?_ _));exact q.out) hg (Kd.R_ne j.out q.out (by decide)))
        have cl:=Aside0.mk (gF (g:=s) (o:= .cells #[.int .i64 a1, .int .i64 0, .slice b2 c.length b3, .slice J u.length L] 70 (0,0)) (by(with_reducible repeat(first|refine ah ?_ _|refine af ?_|refine ag ?_ _));exact a.out) hg (Kd.R_ne j.out a.out (by decide)))
        have cX:=Aside0.mk (hb)
        have cY:=Aside0.mk (ho)
        clear r
        clear d
        clear q
        clear a
        clear HB
        clear j
        have r:=ci
        have d:=cj
        have q:=ck
        have a:=cl
        have HB:=cX
        have cF:=cY
        clear ci cj ck cl cX cY
        clear ho hb hg hat
        obtain⟨cr,ct,cQ⟩:=Kd.R_slice cF.out
        (first|subst cQ|(injection cQ with br cm bs;have cn:=br.symm;have co:=bs.symm;clear br cm bs;subst cn;subst co))
        refine hK.out _ _ ⟨(ae a.out 0).trans rfl,(ae a.out 1).trans rfl,(ae a.out 2).trans rfl,(ae a.out 3).trans rfl⟩ (fun hHeld=> ?_)
        clear hK K
        refine no 28 ?_
        refine lS (i:=5) (N:=some 29) (v:= ?_) (a' := ?_) #[true,true,true,true,true,true,false] rfl rfl (by kernel_rfl) (fun _ _ _ h=>h) (Or.inl ⟨by rfl, ?_⟩) ?_ ?_
        rotate_left
        ·intro w'
         go_simp
         with_reducible rfl
        rotate_left
        ·simp only[Act.put,List.setIfInBounds_toArray,List.set_cons_zero,List.set_cons_succ,bX,bZ]
         rfl
        refine vL (i:=6) (N:=none) #[true,true,true,true,true,true,true] rfl rfl (by kernel_rfl) (by decide) (fun K hK=> ?_)
        have ej:dk.cell? ⟨s,2,none⟩=some (.slice b2 c.length b3):=(ae a.out 2).trans rfl
        have d6:=ay a.out 2
        have db:=a3.out
        have dc:=a5.out
        have dd:=a4.out
        have de:=a6.out
        refine uf (w1:= ?_) (by rfl) rfl ?_ ?_
        rotate_left
        ·go_simp
         rfl
        refine hK.out _ _ ?_
        clear hK K
        refine eQ (by kernel_rfl) ?_
        try go_wp2
        go_roundg k1
        case measure=>have:=cW.out;omega
        case rel=>exact⟨(b1),(.slice cr b1.length ct),H',⟨by have:=cW.out;omega⟩,⟨by(with_reducible repeat(first|apply Kd.R_alloc|apply Kd.R_drewN|apply Kd.R_drew));exact Kd.R_mono (Kd.R_far (p:=⟨s,2,none⟩) (Kd.R_types cF.out a.out (by decide)) (fun _ hk=>hk.2) (.slice cr b1.length ct)) (fun _ hk=>hk.1)⟩,⟨by(with_reducible repeat(first|apply Kd.R_alloc|apply Kd.R_drewN|apply Kd.R_drew));exact Kd.R_mono (Kd.R_far (p:=⟨s,2,none⟩) (Kd.R_types r.out a.out (by decide)) (fun _ hk=>hk.2) (.slice cr b1.length ct)) (fun _ hk=>hk.1.2)⟩,kf,kf,kf,⟨bl⟩⟩
       ·rw[if_neg cE]at H
        exact absurd H (by simp)
      ·rw[if_neg c20]at H
       have cT:decide ((c.length:Int)<((aa m a1).f4))=false:=decide_eq_false c20
       clear c20
       simp only[Option.some.injEq,Prod.mk.injEq]at H
       obtain⟨rfl,rfl,rfl,rfl⟩:=H
       try go_wp2
       replace j:=Aside0.mk (Kd.R_drew j.out)
       replace r:=Aside0.mk (Kd.R_drew r.out)
       replace d:=Aside0.mk (af d.out)
       replace q:=Aside0.mk (af q.out)
       replace a:=Aside0.mk (af a.out)
       replace HB:=Aside0.mk (aC HB.out)
       obtain⟨cd,ce,cR⟩:=Kd.R_slice j.out
       (first|subst cR|(injection cR with br cm bs;have cn:=br.symm;have co:=bs.symm;clear br cm bs;subst cn;subst co))
       have a7:0≤(a1:Int):=od
       have a8:a1<(m.length:Int):=od
       obtain⟨l,b4,b5,b6,b7,b8,b9,ca,cc,e237,x,y,z,A,B,D,E,G,O,P,T,U,W,X,Y,Z⟩:=di cA.out a1 a7 a8
       have ab:=G
       have ac:=E
       have ad:=D
       have al:=B
       have am:=A
       have an:=z
       have ao:=y
       have ap:=x
       cases e237
       obtain⟨x,y,z,A,B,D,E,G⟩:=hc8 HB x y z A B D E G
       have bk:=Aside0.mk P
       have cG:=Aside0.mk O
       clear P O
       have bm:=Aside0.mk U
       have cH:=Aside0.mk T
       clear U T
       have bo:=Aside0.mk X
       have cI:=Aside0.mk W
       clear X W
       have bp:=Aside0.mk Z
       have cJ:=Aside0.mk Y
       clear Z Y
       replace a7:=eq_true a7
       replace a8:=eq_true a8
       refine dR (n:=10) (S:=fun w' =>w'.cell? ⟨s,0,none⟩=some (.int .i64 a1)∧w'.cell? ⟨s,1,none⟩=some (.int .i64 0)∧w'.cell? ⟨s,2,none⟩=some (.slice cd c.length ce)∧w'.cell? ⟨s,3,none⟩=some (.slice J u.length L)∧w'.cell? ⟨aq,0,none⟩=some (.slice aw t.length aE)∧w'.cell? ⟨aq,1,none⟩=some (.slice (some l) m.length a0)∧w'.cell? (l.add ((a1).toNat * 8))=some (.int .i64 ((aa m a1).f0))∧w'.cell? ⟨(l.add ((a1).toNat * 8)).block,(l.add ((a1).toNat * 8)).off+1,none⟩=some (.int .i64 ((aa m a1).f1))∧w'.cell? ⟨(l.add ((a1).toNat * 8)).block,(l.add ((a1).toNat * 8)).off+2,none⟩=some (.slice b4 ((aa m a1).f2).length b5)∧w'.cell? ⟨(l.add ((a1).toNat * 8)).block,(l.add ((a1).toNat * 8)).off+3,none⟩=some (.int .i64 ((aa m a1).f3))∧w'.cell? ⟨(l.add ((a1).toNat * 8)).block,(l.add ((a1).toNat * 8)).off+4,none⟩=some (.int .i64 ((aa m a1).f4))∧w'.cell? ⟨(l.add ((a1).toNat * 8)).block,(l.add ((a1).toNat * 8)).off+5,none⟩=some (.slice b6 ((aa m a1).f5).length b7)∧w'.cell? ⟨(l.add ((a1).toNat * 8)).block,(l.add ((a1).toNat * 8)).off+6,none⟩=some (.slice b8 ((aa m a1).f6).length b9)∧w'.cell? ⟨(l.add ((a1).toNat * 8)).block,(l.add ((a1).toNat * 8)).off+7,none⟩=some (.slice ca ((aa m a1).f7).length cc)) (ds:= []) #[false,false,false,false,false,false,false,false,false,false] (by kernel_rfl) rfl rfl ⟨(ae a.out 0).trans rfl,(ae a.out 1).trans rfl,(ae a.out 2).trans rfl,(ae a.out 3).trans rfl,(ae d.out 0).trans rfl,(ae d.out 1).trans rfl,((HB.out.cell (World.block_lt_of_cell? w _ ap)).trans ap),((HB.out.cell (World.block_lt_of_cell? w _ ao)).trans ao),((HB.out.cell (World.block_lt_of_cell? w _ an)).trans an),((HB.out.cell (World.block_lt_of_cell? w _ am)).trans am),((HB.out.cell (World.block_lt_of_cell? w _ al)).trans al),((HB.out.cell (World.block_lt_of_cell? w _ ad)).trans ad),((HB.out.cell (World.block_lt_of_cell? w _ ac)).trans ac),((HB.out.cell (World.block_lt_of_cell? w _ ab)).trans ab)⟩ (fun hHeld=> ?_);refine cO bu.tab2 bu.bits2 (fun HT_ HW_=> ?_)
       generalize wr.drew=eq at j r d q a HB bk bm bo bp x y z A B D E G hHeld⊢
       refine pu 0 14 #[true,false,false,false,false,false,false,false,false,false] HT_ rfl rfl ?_
       refine pu 3 17 #[true,false,false,true,false,false,false,false,false,false] HT_ rfl rfl ?_
       refine pu 5 19 #[true,false,false,true,false,true,false,false,false,false] HT_ rfl rfl ?_
       refine ta 1 15 #[true,true,false,true,false,true,false,false,false,false] HT_ HW_ hHeld rfl rfl ?_
       refine pu 2 16 #[true,true,true,true,false,true,false,false,false,false] HT_ rfl rfl ?_
       refine ta 4 18 #[true,true,true,true,true,true,false,false,false,false] HT_ HW_ hHeld rfl rfl ?_
       refine pu 6 20 #[true,true,true,true,true,true,true,false,false,false] HT_ rfl rfl ?_
       refine pu 7 21 #[true,true,true,true,true,true,true,true,false,false] HT_ rfl rfl ?_
       refine ta 8 22 #[true,true,true,true,true,true,true,true,true,false] HT_ HW_ hHeld rfl rfl ?_
       refine pu 9 23 #[true,true,true,true,true,true,true,true,true,true] HT_ rfl rfl ?_
       refine eQ (dN HT_.out (by kernel_rfl)) ?_
       have d7:=a4.out
       have d8:=a3.out
       have ea:=a6.out
       have eb:=a5.out
       have:=cf4 a
       have ec:=cg.out
       have ee:=cf.out
       have:=cf4 q
       try go_wp2
       refine bodyPost_ret (results_cell_row rfl _ _ I 70 #[.int .i64 a1, .int .i64 0, .slice cd c.length ce, .slice J u.length L] (0,0) _ rfl (by(with_reducible repeat(first|refine ah ?_ _|refine af ?_|refine ag ?_ _));refine bg (cs:= #[.int .i64 a1, .int .i64 0, .slice cd c.length ce, .slice none 0 0]) ?_ 3 _ rfl;(with_reducible repeat(first|refine ah ?_ _|refine af ?_|refine ag ?_ _));refine bg (cs:= #[.int .i64 a1, .int .i64 0, .slice none 0 0, .slice none 0 0]) ?_ 2 _ rfl;(with_reducible repeat(first|refine ah ?_ _|refine af ?_|refine ag ?_ _));refine bg (cs:= #[.int .i64 a1, .int .i64 0, .slice none 0 0, .slice none 0 0]) ?_ 1 _ rfl;(with_reducible repeat(first|refine ah ?_ _|refine af ?_|refine ag ?_ _));refine bg (cs:= #[.int .i64 0, .int .i64 0, .slice none 0 0, .slice none 0 0]) ?_ 0 _ rfl;(with_reducible repeat(first|refine ah ?_ _|refine af ?_|refine ag ?_ _));exact q.out) Tryz.underlying70 rfl (by kernel_rfl)) rfl ?_
       exact⟨_,_,by first|rfl|(simp[bz,bA]<;>rfl)|(simp[*,bz,bA]<;>rfl),by(with_reducible repeat(first|apply Kd.R_alloc|apply Kd.R_drewN|apply Kd.R_drew));exact Kd.R_mono (Kd.R_far (p:=⟨I,3,none⟩) (Kd.R_far (p:=⟨I,2,none⟩) (Kd.R_far (p:=⟨I,1,none⟩) (Kd.R_far (p:=⟨I,0,none⟩) (Kd.R_types j.out q.out (by decide)) (fun _ hk=>hk.2) (.int .i64 a1)) (fun _ hk=>hk.2) (.int .i64 0)) (fun _ hk=>hk.2) (.slice cd c.length ce)) (fun _ hk=>hk.2) (.slice J u.length L)) (fun _ hk=>hk.1),by(with_reducible repeat(first|apply Kd.R_alloc|apply Kd.R_drewN|apply Kd.R_drew));exact Kd.R_mono (Kd.R_far (p:=⟨I,3,none⟩) (Kd.R_far (p:=⟨I,2,none⟩) (Kd.R_far (p:=⟨I,1,none⟩) (Kd.R_far (p:=⟨I,0,none⟩) (Kd.R_types r.out q.out (by decide)) (fun _ hk=>hk.2) (.int .i64 a1)) (fun _ hk=>hk.2) (.int .i64 0)) (fun _ hk=>hk.2) (.slice cd c.length ce)) (fun _ hk=>hk.2) (.slice J u.length L)) (fun _ hk=>hk.1),bl⟩
     ·rw[if_neg c19]at H
      exact absurd H (by simp)
    ·rw[if_neg c18]at H
     exact absurd H (by simp)
 ·rw[if_neg c4]at H
  exact absurd H (by simp)
end Go.Proofs.YteinbmkgenhocaaGreat.P
end
