/- A part of the claim FnExactMachNew. -/
import Derived.Test.YteinbmkgenhocaaGreatCFnExactMachNew30
section
namespace Go.Proofs.YteinbmkgenhocaaGreat.P
open Go.RowKit Go.Proofs.YteinbmkgenhocaaGreatW.PrintWords Go.Proofs.YteinbmkgenhocaaGreatW.PrintLast Go.Proofs.YteinbmkgenhocaaGreatW.PrintMore
attribute [local go_sem] ak au az aA ai aj av ax
set_option linter.unusedVariables false
set_option linter.unusedSimpArgs false
set_option maxHeartbeats 8000000 in
set_option maxRecDepth 100000 in
theorem bP.calls (k:Nat) (cf:Option Addr) (cg:Nat) (br:List (S126)) (ch:Option Addr) (ci:Nat) (m:List (S104)) (r:Bool) (w:World) (cj:Kd.C eB w cf br.length br) (ck:br.length≤cg) (cl:Kd.C dV w ch m.length m) (cm:m.length≤ci) (h:bP.f k br m=some r):
  Calls Tryz.prog 74 #[.agg #[.slice cf br.length cg, .slice ch m.length ci]] w fun e w' =>e= .returned (.bool r)∧Below w.heap.size w w' :=by
 have ee:=Tryz.underlying38
 have cG:=Tryz.underlying104
 have cd:=Aside0.mk cj
 have ce:=Aside0.mk ck
 clear cj ck
 have a2:=Aside0.mk cl
 have cH:=Aside0.mk cm
 clear cl cm
 have HB:=Aside0.mk (Below.refl w.heap.size w)
 have H:(bP.l0 k 0 br m)=some r:=h
 clear h
 have H' :=Aside0.mk H
 clear H
 go_enter Tryz.func74,Tryz.ntmps74
 go_wp2_with (first|((with_reducible refine gd 1 rfl ?_);refine bx 1 #[.slice cf br.length cg, .slice ch m.length ci] 38 ?_;intro cn hg w2 hbox hb;have o:=Aside0.mk hbox;have cI:=hz HB hg;replace HB:=hs HB hb;clear hb hbox hg))
 go_loopg [3] k (fun kq v3 w' => ∃(n:Int),v3= .int .i64 n∧Aside0 (bP.l0 kq n br m=some r)∧Aside0 (kq≤k)∧Aside0 (w'.heap[cn]? =some (.cells #[(.slice cf br.length cg),(.slice ch m.length ci)] 38 (0,0)))∧Aside0 (Below w.heap.size w w'))
 case atStart=>exact⟨(0),(by first|rfl|(simp;done)|(simp[*];done)),H',⟨Nat.le_refl _⟩,kk o,⟨bl⟩⟩
 case round =>
  clear H'
  obtain⟨n,rfl,HA,b8,o,HB⟩:=hrel
  cases gk with
  |zero=>exact absurd HA.out (by simp[bP.l0])
  | succ k1 =>
   have H:=HA.out
   clear HA
   simp only[bP.l0]at H
   by_cases c3:n<(m.length:Int)
   ·rw [if_pos c3]at H
    have cx:decide (n<(m.length:Int))=true:=decide_eq_true c3
    clear c3
    have H' :=Aside0.mk H
    clear H
    have:=cf2 o
    go_wp2
    go_loopg [4] k1 (fun kq v4 w' => ∃(q:Int),v4= .int .i64 q∧Aside0 (bP.l1 kq n q br m=some r)∧Aside0 (kq≤k1)∧Aside0 (w'.heap[cn]? =some (.cells #[(.slice cf br.length cg),(.slice ch m.length ci)] 38 (0,0)))∧Aside0 (Below w.heap.size w w'))
    case atStart=>exact⟨(0),(by first|rfl|(simp;done)|(simp[*];done)),H',⟨Nat.le_refl _⟩,kk o,⟨bl⟩⟩
    case round =>
     clear H'
     obtain⟨q,rfl,HA,b9,o,HB⟩:=hrel
     cases gk with
     |zero=>exact absurd HA.out (by simp[bP.l1])
     | succ k2 =>
      have H:=HA.out
      clear HA
      simp only[bP.l1]at H
      by_cases c5:q<(m.length:Int)
      ·rw [if_pos c5]at H
       have cy:decide (q<(m.length:Int))=true:=decide_eq_true c5
       clear c5
       by_cases c6:0≤n
       ·rw [if_pos c6]at H
        have ef:decide (0≤n)=true:=decide_eq_true c6
        clear c6
        by_cases c7:n<(m.length:Int)
        ·rw [if_pos c7]at H
         have eg:decide (n<(m.length:Int))=true:=decide_eq_true c7
         clear c7
         by_cases c8:0≤q
         ·rw [if_pos c8]at H
          have eh:decide (0≤q)=true:=decide_eq_true c8
          clear c8
          by_cases c9:n=q
          ·rw[if_pos c9]at H
           have cA:=beq_iff_eq.mpr c9
           have cC:=bne_eq_false_iff_eq.mpr c9
           clear c9
           have H' :=Aside0.mk H
           clear H
           have:=cf2 o
           have aL:0≤(n:Int):=od
           have aO:n<(m.length:Int):=od
           obtain⟨aS,ab,ac,ad,al,am,an,ao,ap,bs,t,u,v,x,y,z,A,B,D,E,G,I,J,K,L,M⟩:=di a2.out n aL aO
           cases bs
           obtain⟨t,u,v,x,y,z,A,B⟩:=hc8 HB t u v x y z A B
           have a5:=Aside0.mk E
           have a6:=Aside0.mk D
           clear E D
           have a7:=Aside0.mk I
           have a8:=Aside0.mk G
           clear I G
           have a9:=Aside0.mk K
           have ba:=Aside0.mk J
           clear K J
           have bb:=Aside0.mk M
           have bc:=Aside0.mk L
           clear M L
           replace aL:=eq_true aL
           replace aO:=eq_true aO
           go_wp2_with (first|((with_reducible refine gd 5 rfl ?_);refine bx 5 #[.int .i64 0, .int .i64 0, .slice none 0 0, .int .i64 0, .int .i64 0, .slice none 0 0, .slice none 0 0, .slice none 0 0] 104 ?_;intro p hg ei hbox hb;have s:=Aside0.mk hbox;have a3:=hz HB hg;have ca:=hz HB hg;have aq:=nl o hg;have ar:=ng o hg;replace o:=kb o hb;replace HB:=hs HB hb;clear hb hbox hg;have cJ:=ar.out;have cL:=aq.out;have:=cf8 s;have:=cf2 o;have aP:0≤(q:Int):=od;have aR:q<(m.length:Int):=od;obtain⟨a4,bw,b0,b1,b2,b3,b4,b5,b6,bt,a,b,c,d,g,i,j,l,O,P,T,U,W,X,Y,Z⟩:=di a2.out q aP aR;obtain rfl:aS=a4:=(by injection bt);have a0:aS.block≠p:=Nat.ne_of_lt (Nat.lt_of_lt_of_le (by have:=World.block_lt_of_cell? _ _ a;first|rwa [add_block]at this|exact this) a3.out);obtain⟨a,b,c,d,g,i,j,l⟩:=hc8 HB a b c d g i j l;have bd:=Aside0.mk P;have be:=Aside0.mk O;clear P O;have bh:=Aside0.mk U;have bj:=Aside0.mk T;clear U T;have bk:=Aside0.mk X;have bm:=Aside0.mk W;clear X W;have bo:=Aside0.mk Z;have bp:=Aside0.mk Y;clear Z Y;obtain⟨a,b,c,d,g,i,j,l⟩:=fw8 ⟨p,0,none⟩ (.int .i64 ((aa m n).f0)) a b c d g i j l;obtain⟨a,b,c,d,g,i,j,l⟩:=fw8 ⟨p,1,none⟩ (.int .i64 ((aa m n).f1)) a b c d g i j l;obtain⟨a,b,c,d,g,i,j,l⟩:=fw8 ⟨p,2,none⟩ (.slice ab ((aa m n).f2).length ac) a b c d g i j l;obtain⟨a,b,c,d,g,i,j,l⟩:=fw8 ⟨p,3,none⟩ (.int .i64 ((aa m n).f3)) a b c d g i j l;obtain⟨a,b,c,d,g,i,j,l⟩:=fw8 ⟨p,4,none⟩ (.int .i64 ((aa m n).f4)) a b c d g i j l;obtain⟨a,b,c,d,g,i,j,l⟩:=fw8 ⟨p,5,none⟩ (.slice ad ((aa m n).f5).length al) a b c d g i j l;obtain⟨a,b,c,d,g,i,j,l⟩:=fw8 ⟨p,6,none⟩ (.slice am ((aa m n).f6).length an) a b c d g i j l;obtain⟨a,b,c,d,g,i,j,l⟩:=fw8 ⟨p,7,none⟩ (.slice ao ((aa m n).f7).length ap) a b c d g i j l;clear a0;replace aP:=eq_true aP;replace aR:=eq_true aR)|((with_reducible refine gd 6 rfl ?_);refine bx 6 #[.int .i64 0, .int .i64 0, .slice none 0 0, .int .i64 0, .int .i64 0, .slice none 0 0, .slice none 0 0, .slice none 0 0] 104 ?_;intro b7 hg ej hbox hb;have a1:=Aside0.mk hbox;have cc:=hz HB hg;have aw:=nl o hg;have aB:=ng o hg;have aE:=nl s hg;have aF:=ng s hg;replace o:=kq o hb;replace s:=kp p #[.int .i64 ((aa m n).f0), .int .i64 ((aa m n).f1), .slice ab ((aa m n).f2).length ac, .int .i64 ((aa m n).f3), .int .i64 ((aa m n).f4), .slice ad ((aa m n).f5).length al, .slice am ((aa m n).f6).length an, .slice ao ((aa m n).f7).length ap] 104 hb;replace HB:=hs HB hb;clear hb hbox hg;have cM:=aB.out;have cN:=aw.out;have cP:=aF.out;have cQ:=aE.out;have:=cf8 a1))
           go_roundg k2
           case measure=>have:=b8.out;have:=b9.out;omega
           case rel=>exact⟨(wrap64 (q+1)),(by first|rfl|(simp;done)|(simp[*];done)),H',⟨by have:=b8.out;have:=b9.out;omega⟩,kf,⟨bl⟩⟩
          rw[if_neg c9]at H
          have cA:=beq_eq_false_iff_ne.mpr c9
          have cC:=bne_iff_ne.mpr c9
          by_cases c19:((aa m n).f0)≥0
          ·rw [if_pos c19]at H
           have cp:decide (0≤((aa m n).f0))=true:=decide_eq_true c19
           clear c19
           by_cases c20:((aa m q).f0)≥0
           ·rw [if_pos c20]at H
            have cq:decide (0≤((aa m q).f0))=true:=decide_eq_true c20
            clear c20
            by_cases c21:((aa m n).f1)=((aa m q).f1)
            ·rw[if_pos c21]at H
             have cr:=beq_iff_eq.mpr c21
             have cs:=bne_eq_false_iff_eq.mpr c21
             clear c21
             obtain⟨cD,co,H⟩:=ob H
             by_cases c23:cD=true
             ·subst c23
              replace H:=it H
              by_cases c24:((aa m n).f0)=((aa m q).f0)
              ·rw[if_pos c24]at H
               have ct:=beq_iff_eq.mpr c24
               have cv:=bne_eq_false_iff_eq.mpr c24
               clear c24
               obtain rfl:=Option.some.inj H;clear H
               have:=cf2 o
               have aL:0≤(n:Int):=od
               have aO:n<(m.length:Int):=od
               obtain⟨aS,ab,ac,ad,al,am,an,ao,ap,bs,t,u,v,x,y,z,A,B,D,E,G,I,J,K,L,M⟩:=di a2.out n aL aO
               cases bs
               obtain⟨t,u,v,x,y,z,A,B⟩:=hc8 HB t u v x y z A B
               have a5:=Aside0.mk E
               have a6:=Aside0.mk D
               clear E D
               have a7:=Aside0.mk I
               have a8:=Aside0.mk G
               clear I G
               have a9:=Aside0.mk K
               have ba:=Aside0.mk J
               clear K J
               have bb:=Aside0.mk M
               have bc:=Aside0.mk L
               clear M L
               replace aL:=eq_true aL
               replace aO:=eq_true aO
               go_wp2_with (first|((with_reducible refine gd 5 rfl ?_);refine bx 5 #[.int .i64 0, .int .i64 0, .slice none 0 0, .int .i64 0, .int .i64 0, .slice none 0 0, .slice none 0 0, .slice none 0 0] 104 ?_;intro p hg el hbox hb;have s:=Aside0.mk hbox;have a3:=hz HB hg;have ca:=hz HB hg;have aq:=nl o hg;have ar:=ng o hg;replace o:=kb o hb;replace HB:=hs HB hb;clear hb hbox hg;have cR:=ar.out;have cS:=aq.out;have:=cf8 s;have:=cf2 o;have aP:0≤(q:Int):=od;have aR:q<(m.length:Int):=od;obtain⟨a4,bw,b0,b1,b2,b3,b4,b5,b6,bt,a,b,c,d,g,i,j,l,O,P,T,U,W,X,Y,Z⟩:=di a2.out q aP aR;obtain rfl:aS=a4:=(by injection bt);have a0:aS.block≠p:=Nat.ne_of_lt (Nat.lt_of_lt_of_le (by have:=World.block_lt_of_cell? _ _ a;first|rwa [add_block]at this|exact this) a3.out);obtain⟨a,b,c,d,g,i,j,l⟩:=hc8 HB a b c d g i j l;have bd:=Aside0.mk P;have be:=Aside0.mk O;clear P O;have bh:=Aside0.mk U;have bj:=Aside0.mk T;clear U T;have bk:=Aside0.mk X;have bm:=Aside0.mk W;clear X W;have bo:=Aside0.mk Z;have bp:=Aside0.mk Y;clear Z Y;obtain⟨a,b,c,d,g,i,j,l⟩:=fw8 ⟨p,0,none⟩ (.int .i64 ((aa m n).f0)) a b c d g i j l;obtain⟨a,b,c,d,g,i,j,l⟩:=fw8 ⟨p,1,none⟩ (.int .i64 ((aa m n).f1)) a b c d g i j l;obtain⟨a,b,c,d,g,i,j,l⟩:=fw8 ⟨p,2,none⟩ (.slice ab ((aa m n).f2).length ac) a b c d g i j l;obtain⟨a,b,c,d,g,i,j,l⟩:=fw8 ⟨p,3,none⟩ (.int .i64 ((aa m n).f3)) a b c d g i j l;obtain⟨a,b,c,d,g,i,j,l⟩:=fw8 ⟨p,4,none⟩ (.int .i64 ((aa m n).f4)) a b c d g i j l;obtain⟨a,b,c,d,g,i,j,l⟩:=fw8 ⟨p,5,none⟩ (.slice ad ((aa m n).f5).length al) a b c d g i j l;obtain⟨a,b,c,d,g,i,j,l⟩:=fw8 ⟨p,6,none⟩ (.slice am ((aa m n).f6).length an) a b c d g i j l;obtain⟨a,b,c,d,g,i,j,l⟩:=fw8 ⟨p,7,none⟩ (.slice ao ((aa m n).f7).length ap) a b c d g i j l;clear a0;replace aP:=eq_true aP;replace aR:=eq_true aR)|((with_reducible refine gd 6 rfl ?_);refine bx 6 #[.int .i64 0, .int .i64 0, .slice none 0 0, .int .i64 0, .int .i64 0, .slice none 0 0, .slice none 0 0, .slice none 0 0] 104 ?_;intro b7 hg em hbox hb;have a1:=Aside0.mk hbox;have cc:=hz HB hg;have aw:=nl o hg;have aB:=ng o hg;have aE:=nl s hg;have aF:=ng s hg;replace o:=kq o hb;replace s:=kp p #[.int .i64 ((aa m n).f0), .int .i64 ((aa m n).f1), .slice ab ((aa m n).f2).length ac, .int .i64 ((aa m n).f3), .int .i64 ((aa m n).f4), .slice ad ((aa m n).f5).length al, .slice am ((aa m n).f6).length an, .slice ao ((aa m n).f7).length ap] 104 hb;replace HB:=hs HB hb;clear hb hbox hg;have cT:=aB.out;have cU:=aw.out;have cV:=aF.out;have cW:=aE.out;have:=cf8 a1;have:=cf8 s;have:=cf2 o)|(go_at_call 140;(with_reducible refine(eG.calls k2 _ _ br ((aa m n).f0) ((aa m q).f0) true _ (cb cd.out) ce.out co.out).mono ?_);rintro e w' ⟨rfl,⟨nd,rfl⟩⟩))
               go_ret
               exact fin
              rw[if_neg c24]at H
              have ct:=beq_eq_false_iff_ne.mpr c24
              have cv:=bne_iff_ne.mpr c24
              obtain⟨t203,cw,H⟩:=ob H
              by_cases c37:t203=true
              ·subst c37
               replace H:=it H
               have H' :=Aside0.mk H
               clear H
               have:=cf2 o
               have aL:0≤(n:Int):=od
               have aO:n<(m.length:Int):=od
               obtain⟨aS,ab,ac,ad,al,am,an,ao,ap,bs,t,u,v,x,y,z,A,B,D,E,G,I,J,K,L,M⟩:=di a2.out n aL aO
               cases bs
               obtain⟨t,u,v,x,y,z,A,B⟩:=hc8 HB t u v x y z A B
               have a5:=Aside0.mk E
               have a6:=Aside0.mk D
               clear E D
               have a7:=Aside0.mk I
               have a8:=Aside0.mk G
               clear I G
               have a9:=Aside0.mk K
               have ba:=Aside0.mk J
               clear K J
               have bb:=Aside0.mk M
               have bc:=Aside0.mk L
               clear M L
               replace aL:=eq_true aL
               replace aO:=eq_true aO
               go_wp2_with (first|((with_reducible refine gd 5 rfl ?_);refine bx 5 #[.int .i64 0, .int .i64 0, .slice none 0 0, .int .i64 0, .int .i64 0, .slice none 0 0, .slice none 0 0, .slice none 0 0] 104 ?_;intro p hg en hbox hb;have s:=Aside0.mk hbox;have a3:=hz HB hg;have ca:=hz HB hg;have aq:=nl o hg;have ar:=ng o hg;replace o:=kb o hb;replace HB:=hs HB hb;clear hb hbox hg;have cX:=ar.out;have cY:=aq.out;have:=cf8 s;have:=cf2 o;have aP:0≤(q:Int):=od;have aR:q<(m.length:Int):=od;obtain⟨a4,bw,b0,b1,b2,b3,b4,b5,b6,bt,a,b,c,d,g,i,j,l,O,P,T,U,W,X,Y,Z⟩:=di a2.out q aP aR;obtain rfl:aS=a4:=(by injection bt);have a0:aS.block≠p:=Nat.ne_of_lt (Nat.lt_of_lt_of_le (by have:=World.block_lt_of_cell? _ _ a;first|rwa [add_block]at this|exact this) a3.out);obtain⟨a,b,c,d,g,i,j,l⟩:=hc8 HB a b c d g i j l;have bd:=Aside0.mk P;have be:=Aside0.mk O;clear P O;have bh:=Aside0.mk U;have bj:=Aside0.mk T;clear U T;have bk:=Aside0.mk X;have bm:=Aside0.mk W;clear X W;have bo:=Aside0.mk Z;have bp:=Aside0.mk Y;clear Z Y;obtain⟨a,b,c,d,g,i,j,l⟩:=fw8 ⟨p,0,none⟩ (.int .i64 ((aa m n).f0)) a b c d g i j l;obtain⟨a,b,c,d,g,i,j,l⟩:=fw8 ⟨p,1,none⟩ (.int .i64 ((aa m n).f1)) a b c d g i j l;obtain⟨a,b,c,d,g,i,j,l⟩:=fw8 ⟨p,2,none⟩ (.slice ab ((aa m n).f2).length ac) a b c d g i j l;obtain⟨a,b,c,d,g,i,j,l⟩:=fw8 ⟨p,3,none⟩ (.int .i64 ((aa m n).f3)) a b c d g i j l;obtain⟨a,b,c,d,g,i,j,l⟩:=fw8 ⟨p,4,none⟩ (.int .i64 ((aa m n).f4)) a b c d g i j l;obtain⟨a,b,c,d,g,i,j,l⟩:=fw8 ⟨p,5,none⟩ (.slice ad ((aa m n).f5).length al) a b c d g i j l;obtain⟨a,b,c,d,g,i,j,l⟩:=fw8 ⟨p,6,none⟩ (.slice am ((aa m n).f6).length an) a b c d g i j l;obtain⟨a,b,c,d,g,i,j,l⟩:=fw8 ⟨p,7,none⟩ (.slice ao ((aa m n).f7).length ap) a b c d g i j l;clear a0;replace aP:=eq_true aP;replace aR:=eq_true aR)|((with_reducible refine gd 6 rfl ?_);refine bx 6 #[.int .i64 0, .int .i64 0, .slice none 0 0, .int .i64 0, .int .i64 0, .slice none 0 0, .slice none 0 0, .slice none 0 0] 104 ?_;intro b7 hg eo hbox hb;have a1:=Aside0.mk hbox;have cc:=hz HB hg;have aw:=nl o hg;have aB:=ng o hg;have aE:=nl s hg;have aF:=ng s hg;replace o:=kq o hb;replace s:=kp p #[.int .i64 ((aa m n).f0), .int .i64 ((aa m n).f1), .slice ab ((aa m n).f2).length ac, .int .i64 ((aa m n).f3), .int .i64 ((aa m n).f4), .slice ad ((aa m n).f5).length al, .slice am ((aa m n).f6).length an, .slice ao ((aa m n).f7).length ap] 104 hb;replace HB:=hs HB hb;clear hb hbox hg;have c0:=aB.out;have c1:=aw.out;have da:=aF.out;have db:=aE.out;have:=cf8 a1;have:=cf8 s;have:=cf2 o)|(go_at_call 140;(with_reducible refine(eG.calls k2 _ _ br ((aa m n).f0) ((aa m q).f0) true _ (cb cd.out) ce.out co.out).mono ?_);rintro e w' ⟨rfl,⟨nd,rfl⟩⟩)|(go_at_call 141;(with_reducible refine(bY.calls k2 ((aa m n).f0) ((aa m n).f1) _ _ ((aa m n).f2) ((aa m n).f3) ((aa m n).f4) _ _ ((aa m n).f5) _ _ ((aa m n).f6) _ _ ((aa m n).f7) ((aa m q).f0) ((aa m q).f1) _ _ ((aa m q).f2) ((aa m q).f3) ((aa m q).f4) _ _ ((aa m q).f5) _ _ ((aa m q).f6) _ _ ((aa m q).f7) true _ (cb a5.out) a6.out (cb a7.out) a8.out (cb a9.out) ba.out (cb bb.out) bc.out (cb bd.out) be.out (cb bh.out) bj.out (cb bk.out) bm.out (cb bo.out) bp.out cw.out).mono ?_);rintro e ep ⟨rfl,hb⟩;replace o:=kq o hb;replace s:=kq s hb;replace a1:=kp b7 #[.int .i64 ((aa m q).f0), .int .i64 ((aa m q).f1), .slice bw ((aa m q).f2).length b0, .int .i64 ((aa m q).f3), .int .i64 ((aa m q).f4), .slice b1 ((aa m q).f5).length b2, .slice b3 ((aa m q).f6).length b4, .slice b5 ((aa m q).f7).length b6] 104 hb;replace HB:=hs HB hb))
               go_roundg k2
               case measure=>have:=b8.out;have:=b9.out;omega
               case rel=>exact⟨(wrap64 (q+1)),(by first|rfl|(simp;done)|(simp[*];done)),H',⟨by have:=b8.out;have:=b9.out;omega⟩,kk o,⟨bl⟩⟩
              replace c37:=Bool.eq_false_iff.mpr c37
              subst c37
              replace H:=ie H
              obtain rfl:=Option.some.inj H;clear H
              have:=cf2 o
              have aL:0≤(n:Int):=od
              have aO:n<(m.length:Int):=od
              obtain⟨aS,ab,ac,ad,al,am,an,ao,ap,bs,t,u,v,x,y,z,A,B,D,E,G,I,J,K,L,M⟩:=di a2.out n aL aO
              cases bs
              obtain⟨t,u,v,x,y,z,A,B⟩:=hc8 HB t u v x y z A B
              have a5:=Aside0.mk E
              have a6:=Aside0.mk D
              clear E D
              have a7:=Aside0.mk I
              have a8:=Aside0.mk G
              clear I G
              have a9:=Aside0.mk K
              have ba:=Aside0.mk J
              clear K J
              have bb:=Aside0.mk M
              have bc:=Aside0.mk L
              clear M L
              replace aL:=eq_true aL
              replace aO:=eq_true aO
              go_wp2_with (first|((with_reducible refine gd 5 rfl ?_);refine bx 5 #[.int .i64 0, .int .i64 0, .slice none 0 0, .int .i64 0, .int .i64 0, .slice none 0 0, .slice none 0 0, .slice none 0 0] 104 ?_;intro p hg eq hbox hb;have s:=Aside0.mk hbox;have a3:=hz HB hg;have ca:=hz HB hg;have aq:=nl o hg;have ar:=ng o hg;replace o:=kb o hb;replace HB:=hs HB hb;clear hb hbox hg;have dc:=ar.out;have dd:=aq.out;have:=cf8 s;have:=cf2 o;have aP:0≤(q:Int):=od;have aR:q<(m.length:Int):=od;obtain⟨a4,bw,b0,b1,b2,b3,b4,b5,b6,bt,a,b,c,d,g,i,j,l,O,P,T,U,W,X,Y,Z⟩:=di a2.out q aP aR;obtain rfl:aS=a4:=(by injection bt);have a0:aS.block≠p:=Nat.ne_of_lt (Nat.lt_of_lt_of_le (by have:=World.block_lt_of_cell? _ _ a;first|rwa [add_block]at this|exact this) a3.out);obtain⟨a,b,c,d,g,i,j,l⟩:=hc8 HB a b c d g i j l;have bd:=Aside0.mk P;have be:=Aside0.mk O;clear P O;have bh:=Aside0.mk U;have bj:=Aside0.mk T;clear U T;have bk:=Aside0.mk X;have bm:=Aside0.mk W;clear X W;have bo:=Aside0.mk Z;have bp:=Aside0.mk Y;clear Z Y;obtain⟨a,b,c,d,g,i,j,l⟩:=fw8 ⟨p,0,none⟩ (.int .i64 ((aa m n).f0)) a b c d g i j l;obtain⟨a,b,c,d,g,i,j,l⟩:=fw8 ⟨p,1,none⟩ (.int .i64 ((aa m n).f1)) a b c d g i j l;obtain⟨a,b,c,d,g,i,j,l⟩:=fw8 ⟨p,2,none⟩ (.slice ab ((aa m n).f2).length ac) a b c d g i j l;obtain⟨a,b,c,d,g,i,j,l⟩:=fw8 ⟨p,3,none⟩ (.int .i64 ((aa m n).f3)) a b c d g i j l;obtain⟨a,b,c,d,g,i,j,l⟩:=fw8 ⟨p,4,none⟩ (.int .i64 ((aa m n).f4)) a b c d g i j l;obtain⟨a,b,c,d,g,i,j,l⟩:=fw8 ⟨p,5,none⟩ (.slice ad ((aa m n).f5).length al) a b c d g i j l;obtain⟨a,b,c,d,g,i,j,l⟩:=fw8 ⟨p,6,none⟩ (.slice am ((aa m n).f6).length an) a b c d g i j l;obtain⟨a,b,c,d,g,i,j,l⟩:=fw8 ⟨p,7,none⟩ (.slice ao ((aa m n).f7).length ap) a b c d g i j l;clear a0;replace aP:=eq_true aP;replace aR:=eq_true aR)|((with_reducible refine gd 6 rfl ?_);refine bx 6 #[.int .i64 0, .int .i64 0, .slice none 0 0, .int .i64 0, .int .i64 0, .slice none 0 0, .slice none 0 0, .slice none 0 0] 104 ?_;intro b7 hg er hbox hb;have a1:=Aside0.mk hbox;have cc:=hz HB hg;have aw:=nl o hg;have aB:=ng o hg;have aE:=nl s hg;have aF:=ng s hg;replace o:=kq o hb;replace s:=kp p #[.int .i64 ((aa m n).f0), .int .i64 ((aa m n).f1), .slice ab ((aa m n).f2).length ac, .int .i64 ((aa m n).f3), .int .i64 ((aa m n).f4), .slice ad ((aa m n).f5).length al, .slice am ((aa m n).f6).length an, .slice ao ((aa m n).f7).length ap] 104 hb;replace HB:=hs HB hb;clear hb hbox hg;have de:=aB.out;have dg:=aw.out;have dj:=aF.out;have dk:=aE.out;have:=cf8 a1;have:=cf8 s;have:=cf2 o)|(go_at_call 140;(with_reducible refine(eG.calls k2 _ _ br ((aa m n).f0) ((aa m q).f0) true _ (cb cd.out) ce.out co.out).mono ?_);rintro e w' ⟨rfl,⟨nd,rfl⟩⟩)|(go_at_call 141;(with_reducible refine(bY.calls k2 ((aa m n).f0) ((aa m n).f1) _ _ ((aa m n).f2) ((aa m n).f3) ((aa m n).f4) _ _ ((aa m n).f5) _ _ ((aa m n).f6) _ _ ((aa m n).f7) ((aa m q).f0) ((aa m q).f1) _ _ ((aa m q).f2) ((aa m q).f3) ((aa m q).f4) _ _ ((aa m q).f5) _ _ ((aa m q).f6) _ _ ((aa m q).f7) false _ (cb a5.out) a6.out (cb a7.out) a8.out (cb a9.out) ba.out (cb bb.out) bc.out (cb bd.out) be.out (cb bh.out) bj.out (cb bk.out) bm.out (cb bo.out) bp.out cw.out).mono ?_);rintro e es ⟨rfl,hb⟩;replace o:=kq o hb;replace s:=kq s hb;replace a1:=kp b7 #[.int .i64 ((aa m q).f0), .int .i64 ((aa m q).f1), .slice bw ((aa m q).f2).length b0, .int .i64 ((aa m q).f3), .int .i64 ((aa m q).f4), .slice b1 ((aa m q).f5).length b2, .slice b3 ((aa m q).f6).length b4, .slice b5 ((aa m q).f7).length b6] 104 hb;replace HB:=hs HB hb))
              go_ret
              exact fin
             replace c23:=Bool.eq_false_iff.mpr c23
             subst c23
             replace H:=ie H
             have H' :=Aside0.mk H
             clear H
             have:=cf2 o
             have aL:0≤(n:Int):=od
             have aO:n<(m.length:Int):=od
             obtain⟨aS,ab,ac,ad,al,am,an,ao,ap,bs,t,u,v,x,y,z,A,B,D,E,G,I,J,K,L,M⟩:=di a2.out n aL aO
             cases bs
             obtain⟨t,u,v,x,y,z,A,B⟩:=hc8 HB t u v x y z A B
             have a5:=Aside0.mk E
             have a6:=Aside0.mk D
             clear E D
             have a7:=Aside0.mk I
             have a8:=Aside0.mk G
             clear I G
             have a9:=Aside0.mk K
             have ba:=Aside0.mk J
             clear K J
             have bb:=Aside0.mk M
             have bc:=Aside0.mk L
             clear M L
             replace aL:=eq_true aL
             replace aO:=eq_true aO
             go_wp2_with (first|((with_reducible refine gd 5 rfl ?_);refine bx 5 #[.int .i64 0, .int .i64 0, .slice none 0 0, .int .i64 0, .int .i64 0, .slice none 0 0, .slice none 0 0, .slice none 0 0] 104 ?_;intro p hg et hbox hb;have s:=Aside0.mk hbox;have a3:=hz HB hg;have ca:=hz HB hg;have aq:=nl o hg;have ar:=ng o hg;replace o:=kb o hb;replace HB:=hs HB hb;clear hb hbox hg;have dl:=ar.out;have dp:=aq.out;have:=cf8 s;have:=cf2 o;have aP:0≤(q:Int):=od;have aR:q<(m.length:Int):=od;obtain⟨a4,bw,b0,b1,b2,b3,b4,b5,b6,bt,a,b,c,d,g,i,j,l,O,P,T,U,W,X,Y,Z⟩:=di a2.out q aP aR;obtain rfl:aS=a4:=(by injection bt);have a0:aS.block≠p:=Nat.ne_of_lt (Nat.lt_of_lt_of_le (by have:=World.block_lt_of_cell? _ _ a;first|rwa [add_block]at this|exact this) a3.out);obtain⟨a,b,c,d,g,i,j,l⟩:=hc8 HB a b c d g i j l;have bd:=Aside0.mk P;have be:=Aside0.mk O;clear P O;have bh:=Aside0.mk U;have bj:=Aside0.mk T;clear U T;have bk:=Aside0.mk X;have bm:=Aside0.mk W;clear X W;have bo:=Aside0.mk Z;have bp:=Aside0.mk Y;clear Z Y;obtain⟨a,b,c,d,g,i,j,l⟩:=fw8 ⟨p,0,none⟩ (.int .i64 ((aa m n).f0)) a b c d g i j l;obtain⟨a,b,c,d,g,i,j,l⟩:=fw8 ⟨p,1,none⟩ (.int .i64 ((aa m n).f1)) a b c d g i j l;obtain⟨a,b,c,d,g,i,j,l⟩:=fw8 ⟨p,2,none⟩ (.slice ab ((aa m n).f2).length ac) a b c d g i j l;obtain⟨a,b,c,d,g,i,j,l⟩:=fw8 ⟨p,3,none⟩ (.int .i64 ((aa m n).f3)) a b c d g i j l;obtain⟨a,b,c,d,g,i,j,l⟩:=fw8 ⟨p,4,none⟩ (.int .i64 ((aa m n).f4)) a b c d g i j l;obtain⟨a,b,c,d,g,i,j,l⟩:=fw8 ⟨p,5,none⟩ (.slice ad ((aa m n).f5).length al) a b c d g i j l;obtain⟨a,b,c,d,g,i,j,l⟩:=fw8 ⟨p,6,none⟩ (.slice am ((aa m n).f6).length an) a b c d g i j l;obtain⟨a,b,c,d,g,i,j,l⟩:=fw8 ⟨p,7,none⟩ (.slice ao ((aa m n).f7).length ap) a b c d g i j l;clear a0;replace aP:=eq_true aP;replace aR:=eq_true aR)|((with_reducible refine gd 6 rfl ?_);refine bx 6 #[.int .i64 0, .int .i64 0, .slice none 0 0, .int .i64 0, .int .i64 0, .slice none 0 0, .slice none 0 0, .slice none 0 0] 104 ?_;intro b7 hg ev hbox hb;have a1:=Aside0.mk hbox;have cc:=hz HB hg;have aw:=nl o hg;have aB:=ng o hg;have aE:=nl s hg;have aF:=ng s hg;replace o:=kq o hb;replace s:=kp p #[.int .i64 ((aa m n).f0), .int .i64 ((aa m n).f1), .slice ab ((aa m n).f2).length ac, .int .i64 ((aa m n).f3), .int .i64 ((aa m n).f4), .slice ad ((aa m n).f5).length al, .slice am ((aa m n).f6).length an, .slice ao ((aa m n).f7).length ap] 104 hb;replace HB:=hs HB hb;clear hb hbox hg;have dq:=aB.out;have dr:=aw.out;have ds:=aF.out;have dt:=aE.out;have:=cf8 a1;have:=cf8 s;have:=cf2 o)|(go_at_call 140;(with_reducible refine(eG.calls k2 _ _ br ((aa m n).f0) ((aa m q).f0) false _ (cb cd.out) ce.out co.out).mono ?_);rintro e w' ⟨rfl,⟨nd,rfl⟩⟩))
             go_roundg k2
             case measure=>have:=b8.out;have:=b9.out;omega
             case rel=>exact⟨(wrap64 (q+1)),(by first|rfl|(simp;done)|(simp[*];done)),H',⟨by have:=b8.out;have:=b9.out;omega⟩,kf,⟨bl⟩⟩
            rw[if_neg c21]at H
            have cr:=beq_eq_false_iff_ne.mpr c21
            have cs:=bne_iff_ne.mpr c21
            have H' :=Aside0.mk H
            clear H
            have:=cf2 o
            have aL:0≤(n:Int):=od
            have aO:n<(m.length:Int):=od
            obtain⟨aS,ab,ac,ad,al,am,an,ao,ap,bs,t,u,v,x,y,z,A,B,D,E,G,I,J,K,L,M⟩:=di a2.out n aL aO
            cases bs
            obtain⟨t,u,v,x,y,z,A,B⟩:=hc8 HB t u v x y z A B
            have a5:=Aside0.mk E
            have a6:=Aside0.mk D
            clear E D
            have a7:=Aside0.mk I
            have a8:=Aside0.mk G
            clear I G
            have a9:=Aside0.mk K
            have ba:=Aside0.mk J
            clear K J
            have bb:=Aside0.mk M
            have bc:=Aside0.mk L
            clear M L
            replace aL:=eq_true aL
            replace aO:=eq_true aO
            go_wp2_with (first|((with_reducible refine gd 5 rfl ?_);refine bx 5 #[.int .i64 0, .int .i64 0, .slice none 0 0, .int .i64 0, .int .i64 0, .slice none 0 0, .slice none 0 0, .slice none 0 0] 104 ?_;intro p hg ew hbox hb;have s:=Aside0.mk hbox;have a3:=hz HB hg;have ca:=hz HB hg;have aq:=nl o hg;have ar:=ng o hg;replace o:=kb o hb;replace HB:=hs HB hb;clear hb hbox hg;have du:=ar.out;have dv:=aq.out;have:=cf8 s;have:=cf2 o;have aP:0≤(q:Int):=od;have aR:q<(m.length:Int):=od;obtain⟨a4,bw,b0,b1,b2,b3,b4,b5,b6,bt,a,b,c,d,g,i,j,l,O,P,T,U,W,X,Y,Z⟩:=di a2.out q aP aR;obtain rfl:aS=a4:=(by injection bt);have a0:aS.block≠p:=Nat.ne_of_lt (Nat.lt_of_lt_of_le (by have:=World.block_lt_of_cell? _ _ a;first|rwa [add_block]at this|exact this) a3.out);obtain⟨a,b,c,d,g,i,j,l⟩:=hc8 HB a b c d g i j l;have bd:=Aside0.mk P;have be:=Aside0.mk O;clear P O;have bh:=Aside0.mk U;have bj:=Aside0.mk T;clear U T;have bk:=Aside0.mk X;have bm:=Aside0.mk W;clear X W;have bo:=Aside0.mk Z;have bp:=Aside0.mk Y;clear Z Y;obtain⟨a,b,c,d,g,i,j,l⟩:=fw8 ⟨p,0,none⟩ (.int .i64 ((aa m n).f0)) a b c d g i j l;obtain⟨a,b,c,d,g,i,j,l⟩:=fw8 ⟨p,1,none⟩ (.int .i64 ((aa m n).f1)) a b c d g i j l;obtain⟨a,b,c,d,g,i,j,l⟩:=fw8 ⟨p,2,none⟩ (.slice ab ((aa m n).f2).length ac) a b c d g i j l;obtain⟨a,b,c,d,g,i,j,l⟩:=fw8 ⟨p,3,none⟩ (.int .i64 ((aa m n).f3)) a b c d g i j l;obtain⟨a,b,c,d,g,i,j,l⟩:=fw8 ⟨p,4,none⟩ (.int .i64 ((aa m n).f4)) a b c d g i j l;obtain⟨a,b,c,d,g,i,j,l⟩:=fw8 ⟨p,5,none⟩ (.slice ad ((aa m n).f5).length al) a b c d g i j l;obtain⟨a,b,c,d,g,i,j,l⟩:=fw8 ⟨p,6,none⟩ (.slice am ((aa m n).f6).length an) a b c d g i j l;obtain⟨a,b,c,d,g,i,j,l⟩:=fw8 ⟨p,7,none⟩ (.slice ao ((aa m n).f7).length ap) a b c d g i j l;clear a0;replace aP:=eq_true aP;replace aR:=eq_true aR)|((with_reducible refine gd 6 rfl ?_);refine bx 6 #[.int .i64 0, .int .i64 0, .slice none 0 0, .int .i64 0, .int .i64 0, .slice none 0 0, .slice none 0 0, .slice none 0 0] 104 ?_;intro b7 hg ex hbox hb;have a1:=Aside0.mk hbox;have cc:=hz HB hg;have aw:=nl o hg;have aB:=ng o hg;have aE:=nl s hg;have aF:=ng s hg;replace o:=kq o hb;replace s:=kp p #[.int .i64 ((aa m n).f0), .int .i64 ((aa m n).f1), .slice ab ((aa m n).f2).length ac, .int .i64 ((aa m n).f3), .int .i64 ((aa m n).f4), .slice ad ((aa m n).f5).length al, .slice am ((aa m n).f6).length an, .slice ao ((aa m n).f7).length ap] 104 hb;replace HB:=hs HB hb;clear hb hbox hg;have dy:=aB.out;have dT:=aw.out;have d0:=aF.out;have d1:=aE.out;have:=cf8 a1;have:=cf8 s))
            go_roundg k2
            case measure=>have:=b8.out;have:=b9.out;omega
            case rel=>exact⟨(wrap64 (q+1)),(by first|rfl|(simp;done)|(simp[*];done)),H',⟨by have:=b8.out;have:=b9.out;omega⟩,kf,⟨bl⟩⟩
           rw[if_neg c20]at H
           have cq:decide (0≤((aa m q).f0))=false:=decide_eq_false c20
           clear c20
           have H' :=Aside0.mk H
           clear H
           have:=cf2 o
           have aL:0≤(n:Int):=od
           have aO:n<(m.length:Int):=od
           obtain⟨aS,ab,ac,ad,al,am,an,ao,ap,bs,t,u,v,x,y,z,A,B,D,E,G,I,J,K,L,M⟩:=di a2.out n aL aO
           cases bs
           obtain⟨t,u,v,x,y,z,A,B⟩:=hc8 HB t u v x y z A B
           have a5:=Aside0.mk E
           have a6:=Aside0.mk D
           clear E D
           have a7:=Aside0.mk I
           have a8:=Aside0.mk G
           clear I G
           have a9:=Aside0.mk K
           have ba:=Aside0.mk J
           clear K J
           have bb:=Aside0.mk M
           have bc:=Aside0.mk L
           clear M L
           replace aL:=eq_true aL
           replace aO:=eq_true aO
           go_wp2_with (first|((with_reducible refine gd 5 rfl ?_);refine bx 5 #[.int .i64 0, .int .i64 0, .slice none 0 0, .int .i64 0, .int .i64 0, .slice none 0 0, .slice none 0 0, .slice none 0 0] 104 ?_;intro p hg ey hbox hb;have s:=Aside0.mk hbox;have a3:=hz HB hg;have ca:=hz HB hg;have aq:=nl o hg;have ar:=ng o hg;replace o:=kb o hb;replace HB:=hs HB hb;clear hb hbox hg;have d2:=ar.out;have d3:=aq.out;have:=cf8 s;have:=cf2 o;have aP:0≤(q:Int):=od;have aR:q<(m.length:Int):=od;obtain⟨a4,bw,b0,b1,b2,b3,b4,b5,b6,bt,a,b,c,d,g,i,j,l,O,P,T,U,W,X,Y,Z⟩:=di a2.out q aP aR;obtain rfl:aS=a4:=(by injection bt);have a0:aS.block≠p:=Nat.ne_of_lt (Nat.lt_of_lt_of_le (by have:=World.block_lt_of_cell? _ _ a;first|rwa [add_block]at this|exact this) a3.out);obtain⟨a,b,c,d,g,i,j,l⟩:=hc8 HB a b c d g i j l;have bd:=Aside0.mk P;have be:=Aside0.mk O;clear P O;have bh:=Aside0.mk U;have bj:=Aside0.mk T;clear U T;have bk:=Aside0.mk X;have bm:=Aside0.mk W;clear X W;have bo:=Aside0.mk Z;have bp:=Aside0.mk Y;clear Z Y;obtain⟨a,b,c,d,g,i,j,l⟩:=fw8 ⟨p,0,none⟩ (.int .i64 ((aa m n).f0)) a b c d g i j l;obtain⟨a,b,c,d,g,i,j,l⟩:=fw8 ⟨p,1,none⟩ (.int .i64 ((aa m n).f1)) a b c d g i j l;obtain⟨a,b,c,d,g,i,j,l⟩:=fw8 ⟨p,2,none⟩ (.slice ab ((aa m n).f2).length ac) a b c d g i j l;obtain⟨a,b,c,d,g,i,j,l⟩:=fw8 ⟨p,3,none⟩ (.int .i64 ((aa m n).f3)) a b c d g i j l;obtain⟨a,b,c,d,g,i,j,l⟩:=fw8 ⟨p,4,none⟩ (.int .i64 ((aa m n).f4)) a b c d g i j l;obtain⟨a,b,c,d,g,i,j,l⟩:=fw8 ⟨p,5,none⟩ (.slice ad ((aa m n).f5).length al) a b c d g i j l;obtain⟨a,b,c,d,g,i,j,l⟩:=fw8 ⟨p,6,none⟩ (.slice am ((aa m n).f6).length an) a b c d g i j l;obtain⟨a,b,c,d,g,i,j,l⟩:=fw8 ⟨p,7,none⟩ (.slice ao ((aa m n).f7).length ap) a b c d g i j l;clear a0;replace aP:=eq_true aP;replace aR:=eq_true aR)|((with_reducible refine gd 6 rfl ?_);refine bx 6 #[.int .i64 0, .int .i64 0, .slice none 0 0, .int .i64 0, .int .i64 0, .slice none 0 0, .slice none 0 0, .slice none 0 0] 104 ?_;intro b7 hg ez hbox hb;have a1:=Aside0.mk hbox;have cc:=hz HB hg;have aw:=nl o hg;have aB:=ng o hg;have aE:=nl s hg;have aF:=ng s hg;replace o:=kq o hb;replace s:=kp p #[.int .i64 ((aa m n).f0), .int .i64 ((aa m n).f1), .slice ab ((aa m n).f2).length ac, .int .i64 ((aa m n).f3), .int .i64 ((aa m n).f4), .slice ad ((aa m n).f5).length al, .slice am ((aa m n).f6).length an, .slice ao ((aa m n).f7).length ap] 104 hb;replace HB:=hs HB hb;clear hb hbox hg;have d4:=aB.out;have d5:=aw.out;have d6:=aF.out;have d7:=aE.out;have:=cf8 a1;have:=cf8 s))
           go_roundg k2
           case measure=>have:=b8.out;have:=b9.out;omega
           case rel=>exact⟨(wrap64 (q+1)),(by first|rfl|(simp;done)|(simp[*];done)),H',⟨by have:=b8.out;have:=b9.out;omega⟩,kf,⟨bl⟩⟩
          rw[if_neg c19]at H
          have cp:decide (0≤((aa m n).f0))=false:=decide_eq_false c19
          clear c19
          have H' :=Aside0.mk H
          clear H
          have:=cf2 o
          have aL:0≤(n:Int):=od
          have aO:n<(m.length:Int):=od
          obtain⟨aS,ab,ac,ad,al,am,an,ao,ap,bs,t,u,v,x,y,z,A,B,D,E,G,I,J,K,L,M⟩:=di a2.out n aL aO
          cases bs
          obtain⟨t,u,v,x,y,z,A,B⟩:=hc8 HB t u v x y z A B
          have a5:=Aside0.mk E
          have a6:=Aside0.mk D
          clear E D
          have a7:=Aside0.mk I
          have a8:=Aside0.mk G
          clear I G
          have a9:=Aside0.mk K
          have ba:=Aside0.mk J
          clear K J
          have bb:=Aside0.mk M
          have bc:=Aside0.mk L
          clear M L
          replace aL:=eq_true aL
          replace aO:=eq_true aO
          go_wp2_with (first|((with_reducible refine gd 5 rfl ?_);refine bx 5 #[.int .i64 0, .int .i64 0, .slice none 0 0, .int .i64 0, .int .i64 0, .slice none 0 0, .slice none 0 0, .slice none 0 0] 104 ?_;intro p hg eA hbox hb;have s:=Aside0.mk hbox;have a3:=hz HB hg;have ca:=hz HB hg;have aq:=nl o hg;have ar:=ng o hg;replace o:=kb o hb;replace HB:=hs HB hb;clear hb hbox hg;have d8:=ar.out;have ea:=aq.out;have:=cf8 s;have:=cf2 o;have aP:0≤(q:Int):=od;have aR:q<(m.length:Int):=od;obtain⟨a4,bw,b0,b1,b2,b3,b4,b5,b6,bt,a,b,c,d,g,i,j,l,O,P,T,U,W,X,Y,Z⟩:=di a2.out q aP aR;obtain rfl:aS=a4:=(by injection bt);have a0:aS.block≠p:=Nat.ne_of_lt (Nat.lt_of_lt_of_le (by have:=World.block_lt_of_cell? _ _ a;first|rwa [add_block]at this|exact this) a3.out);obtain⟨a,b,c,d,g,i,j,l⟩:=hc8 HB a b c d g i j l;have bd:=Aside0.mk P;have be:=Aside0.mk O;clear P O;have bh:=Aside0.mk U;have bj:=Aside0.mk T;clear U T;have bk:=Aside0.mk X;have bm:=Aside0.mk W;clear X W;have bo:=Aside0.mk Z;have bp:=Aside0.mk Y;clear Z Y;obtain⟨a,b,c,d,g,i,j,l⟩:=fw8 ⟨p,0,none⟩ (.int .i64 ((aa m n).f0)) a b c d g i j l;obtain⟨a,b,c,d,g,i,j,l⟩:=fw8 ⟨p,1,none⟩ (.int .i64 ((aa m n).f1)) a b c d g i j l;obtain⟨a,b,c,d,g,i,j,l⟩:=fw8 ⟨p,2,none⟩ (.slice ab ((aa m n).f2).length ac) a b c d g i j l;obtain⟨a,b,c,d,g,i,j,l⟩:=fw8 ⟨p,3,none⟩ (.int .i64 ((aa m n).f3)) a b c d g i j l;obtain⟨a,b,c,d,g,i,j,l⟩:=fw8 ⟨p,4,none⟩ (.int .i64 ((aa m n).f4)) a b c d g i j l;obtain⟨a,b,c,d,g,i,j,l⟩:=fw8 ⟨p,5,none⟩ (.slice ad ((aa m n).f5).length al) a b c d g i j l;obtain⟨a,b,c,d,g,i,j,l⟩:=fw8 ⟨p,6,none⟩ (.slice am ((aa m n).f6).length an) a b c d g i j l;obtain⟨a,b,c,d,g,i,j,l⟩:=fw8 ⟨p,7,none⟩ (.slice ao ((aa m n).f7).length ap) a b c d g i j l;clear a0;replace aP:=eq_true aP;replace aR:=eq_true aR)|((with_reducible refine gd 6 rfl ?_);refine bx 6 #[.int .i64 0, .int .i64 0, .slice none 0 0, .int .i64 0, .int .i64 0, .slice none 0 0, .slice none 0 0, .slice none 0 0] 104 ?_;intro b7 hg eC hbox hb;have a1:=Aside0.mk hbox;have cc:=hz HB hg;have aw:=nl o hg;have aB:=ng o hg;have aE:=nl s hg;have aF:=ng s hg;replace o:=kq o hb;replace s:=kp p #[.int .i64 ((aa m n).f0), .int .i64 ((aa m n).f1), .slice ab ((aa m n).f2).length ac, .int .i64 ((aa m n).f3), .int .i64 ((aa m n).f4), .slice ad ((aa m n).f5).length al, .slice am ((aa m n).f6).length an, .slice ao ((aa m n).f7).length ap] 104 hb;replace HB:=hs HB hb;clear hb hbox hg;have eb:=aB.out;have ec:=aw.out;have cE:=aF.out;have cF:=aE.out;have:=cf8 a1;have:=cf8 s))
          go_roundg k2
          case measure=>have:=b8.out;have:=b9.out;omega
          case rel=>exact⟨(wrap64 (q+1)),(by first|rfl|(simp;done)|(simp[*];done)),H',⟨by have:=b8.out;have:=b9.out;omega⟩,kf,⟨bl⟩⟩
         rw[if_neg c8]at H
         exact absurd H (by simp)
        rw[if_neg c7]at H
        exact absurd H (by simp)
       rw[if_neg c6]at H
       exact absurd H (by simp)
      rw[if_neg c5]at H
      have cy:decide (q<(m.length:Int))=false:=decide_eq_false c5
      clear c5
      have H' :=Aside0.mk H
      clear H
      have:=cf2 o
      go_wp2
      go_roundg k2
      case measure=>have:=b8.out;have:=b9.out;omega
      case rel=>exact⟨(wrap64 (n+1)),(by first|rfl|(simp;done)|(simp[*];done)),H',⟨by have:=b8.out;have:=b9.out;omega⟩,kk o,⟨bl⟩⟩
   rw[if_neg c3]at H
   have cx:decide (n<(m.length:Int))=false:=decide_eq_false c3
   clear c3
   obtain rfl:=Option.some.inj H;clear H
   have:=cf2 o
   go_wp2
   go_ret
   exact fin
def aY.T8:Bool×List (List Nat×List Nat):=(true, [([], []),([], []),([1], [1]),([], []),([2,3], [2,3]),([4], [4]),([0,5], [0,5]),([6], [6])])
def aY.B8:List Nat:= [0,0,2,0,14,30,63,127]
theorem aY.tab8:dJ .any (opsOf Tryz.f28 8)=aY.T8:=by kernel_rfl
theorem aY.bits8:dY aY.T8.2 aY.B8=true:=by kernel_rfl
set_option maxHeartbeats 8000000 in
set_option maxRecDepth 100000 in
theorem aY.calls (k:Nat) (aB:Option Addr) (aE:Nat) (t:List (S126)) (b9:Option Addr) (aR:Nat) (a:List (S104)) (r:Bool) (w:World) (cY:Kd.C eB w aB t.length t) (c0:t.length≤aE) (c1:Kd.C dV w b9 a.length a) (da:a.length≤aR) (h:aY.f k t a=some r):
  Calls Tryz.prog 28 #[.agg #[.slice aB t.length aE, .slice b9 a.length aR]] w fun e w' =>e= .returned (.bool r)∧Below w.heap.size w w' :=by
 have eM:=Tryz.underlying38
 have eE:=Tryz.underlying104
 have cf:=Aside0.mk cY
 have cg:=Aside0.mk c0
 clear cY c0
 have aw:=Aside0.mk c1
 have cH:=Aside0.mk da
 clear c1 da
 have HB:=Aside0.mk (Below.refl w.heap.size w)
 have H:((bG.f k t).bind fun cU=>(if cU=true then((aM.f (a.length:Int) 1 4).bind fun t206=>(aY.j0 k (!t206) t a))else(aY.j0 k true t a)))=some r:=h
 clear h
 have dt:=Aside0.mk H
 clear H
 go_enter Tryz.func28,Tryz.ntmps28
 go_upto_region 1 with(first|((with_reducible refine gd 1 rfl ?_);(try(refine aW (by rfl) ?_;dsimp only));refine bx 1 #[.slice aB t.length aE, .slice b9 a.length aR] 38 ?_;intro b0 hg w3 hbox hb;have c:=Aside0.mk hbox;have eI:=hz HB hg;replace HB:=hs HB hb;clear hb hbox hg))
 (try simp only[Act.put,List.setIfInBounds_toArray,List.set_cons_zero,List.set_cons_succ])
 go_cut [14] (fun v14 wc=> ∃(kq:Nat) (cn:Bool),v14= .bool cn∧Aside0 (aY.j0 kq cn t a=some r)∧Aside0 (kq≤k)∧Aside0 (wc.heap[b0]? =some (.cells #[(.slice aB t.length aE),(.slice b9 a.length aR)] 38 (0,0)))∧Aside0 (Below w.heap.size w wc))
 case first=>
  have H:=dt.out
  clear dt
  obtain⟨cU,A4,H⟩:=ob H
  by_cases c5:cU=true
  ·subst c5
   replace H:=it H
   obtain⟨t206,A6,H⟩:=ob H
   have H' :=Aside0.mk H
   clear H
   have:=cf2 c
   go_wp2_with (first|(refine gl (some 6) Tryz.func72 #[.slice aB t.length aE] rfl ?_;(with_reducible refine(bG.calls k _ _ t true _ (cb cf.out) cg.out A4.out).mono ?_);rintro e w8 ⟨rfl,hb⟩;refine⟨_,rfl, ?_⟩;replace c:=kb c hb;replace HB:=hs HB hb;have:=cf2 c)|(go_at_call 52;(with_reducible refine(aM.calls (a.length:Int) 1 4 t206 _ A6.out).mono ?_);rintro e w' ⟨rfl,⟨nd,rfl⟩⟩))
   go_meet
   case rel=>exact⟨_,(!t206),(by first|rfl|(simp;done)|(simp[*];done)),H',⟨by first|omega|exact Nat.le_refl _⟩,kk c,⟨bl⟩⟩
  replace c5:=Bool.eq_false_iff.mpr c5
  subst c5
  replace H:=ie H
  have H' :=Aside0.mk H
  clear H
  have:=cf2 c
  go_wp2_with (first|(refine gl (some 6) Tryz.func72 #[.slice aB t.length aE] rfl ?_;(with_reducible refine(bG.calls k _ _ t false _ (cb cf.out) cg.out A4.out).mono ?_);rintro e eN ⟨rfl,hb⟩;refine⟨_,rfl, ?_⟩;replace c:=kb c hb;replace HB:=hs HB hb))
  go_meet
  case rel=>exact⟨_,(true),(by first|rfl|(simp;done)|(simp[*];done)),H',⟨by first|omega|exact Nat.le_refl _⟩,kk c,⟨bl⟩⟩
 case rest=>
  clear dt
  obtain⟨kq,cn,rfl,HA,cJ,c,HB⟩:=hcut
  cases kq with
  |zero=>exact absurd HA.out (by simp[aY.j0])
  | succ er=>
   have H:=HA.out
   clear HA
   simp only[aY.j0]at H
   by_cases c12:cn=true
   ·subst c12
    replace H:=it H
    obtain rfl:=Option.some.inj H;clear H
    go_wp2
    go_ret
    exact fin
   replace c12:=Bool.eq_false_iff.mpr c12
   subst c12
   replace H:=ie H
   have cV:=Aside0.mk H
   clear H
   go_upto_region 3 with(fail)
   go_cut [37] (fun v37 wc=> ∃(kq:Nat) (ch:Bool),v37= .bool ch∧Aside0 (aY.j1 kq ch t a=some r)∧Aside0 (kq≤er)∧Aside0 (wc.heap[b0]? =some (.cells #[(.slice aB t.length aE),(.slice b9 a.length aR)] 38 (0,0)))∧Aside0 (Below w.heap.size w wc))
   case first=>
    have H:=cV.out
    clear cV
    by_cases c14:0<(a.length:Int)
    ·rw[if_pos c14]at H
     have db:decide (0<(a.length:Int))=true:=decide_eq_true c14
     have eJ:decide (0<a.length)=true:=decide_eq_true (by omega)
     clear c14
     (first|rw[db]|(simp only[bX,bZ];rw[db])|skip)
     by_cases c15:((aa a 0).f0)=(-1)
     ·rw[if_pos c15]at H
      have d6:=beq_iff_eq.mpr c15
      have d7:=bne_eq_false_iff_eq.mpr c15
      clear c15
      by_cases c16:(((aa a 0).f2).length:Int)>0
      ·rw[if_pos c16]at H
       have d8:decide (0<(((aa a 0).f2).length:Int))=true:=decide_eq_true c16
       have ea:decide (0<((aa a 0).f2).length)=true:=decide_eq_true (by omega)
       clear c16
       have H' :=Aside0.mk H
       clear H
       have:=cf2 c
       have aS:0≤(0:Int):=(by omega)
       have a0:0<(a.length:Int):=od
       obtain⟨ci,cL,cM,cN,cP,cQ,cR,cS,cT,e207,o,p,g,q,s,j,l,m,ad,al,am,an,ao,ap,aq,ar⟩:=di aw.out 0 aS a0
       cases e207
       have dc:(0<a.length)=True:=eq_true (by omega)
       (try rw[show((0:Int)).toNat=0 from rfl]at o)
       (try rw[show 0 * 8=0 from rfl]at o)
       (try rw[Addr.add_zero']at o)
       (try rw[show((0:Int)).toNat=0 from rfl]at p)
       (try rw[show 0 * 8=0 from rfl]at p)
       (try rw[Addr.add_zero']at p)
       (try rw[show((0:Int)).toNat=0 from rfl]at g)
       (try rw[show 0 * 8=0 from rfl]at g)
       (try rw[Addr.add_zero']at g)
       (try rw[show((0:Int)).toNat=0 from rfl]at q)
       (try rw[show 0 * 8=0 from rfl]at q)
       (try rw[Addr.add_zero']at q)
       (try rw[show((0:Int)).toNat=0 from rfl]at s)
       (try rw[show 0 * 8=0 from rfl]at s)
       (try rw[Addr.add_zero']at s)
       (try rw[show((0:Int)).toNat=0 from rfl]at j)
       (try rw[show 0 * 8=0 from rfl]at j)
       (try rw[Addr.add_zero']at j)
       (try rw[show((0:Int)).toNat=0 from rfl]at l)
       (try rw[show 0 * 8=0 from rfl]at l)
       (try rw[Addr.add_zero']at l)
       (try rw[show((0:Int)).toNat=0 from rfl]at m)
       (try rw[show 0 * 8=0 from rfl]at m)
       (try rw[Addr.add_zero']at m)
       obtain⟨o,p,g,q,s,j,l,m⟩:=hc8 HB o p g q s j l m
       have co:=Aside0.mk al
       have cp:=Aside0.mk ad
       clear al ad
       have cq:=Aside0.mk an
       have cr:=Aside0.mk am
       clear an am
       have cs:=Aside0.mk ap
       have ct:=Aside0.mk ao
       clear ap ao
       have cv:=Aside0.mk ar
       have cw:=Aside0.mk aq
       clear ar aq
       replace aS:=eq_true aS
       replace a0:=eq_true a0
       have ca:0≤(0:Int):=(by omega)
       have cc:0<(a.length:Int):=od
       obtain⟨cI,du,dv,dy,dT,d0,d1,d2,d3,e208,z,A,u,B,D,v,x,y,a1,a2,a3,a4,a5,a6,a7,a8⟩:=di aw.out 0 ca cc
       obtain rfl:ci=cI:=(by injection e208)
       have eb:(0<a.length)=True:=eq_true (by omega)
       (try rw[show((0:Int)).toNat=0 from rfl]at z)
       (try rw[show 0 * 8=0 from rfl]at z)
       (try rw[Addr.add_zero']at z)
       (try rw[show((0:Int)).toNat=0 from rfl]at A)
       (try rw[show 0 * 8=0 from rfl]at A)
       (try rw[Addr.add_zero']at A)
       (try rw[show((0:Int)).toNat=0 from rfl]at u)
       (try rw[show 0 * 8=0 from rfl]at u)
       (try rw[Addr.add_zero']at u)
       (try rw[show((0:Int)).toNat=0 from rfl]at B)
       (try rw[show 0 * 8=0 from rfl]at B)
       (try rw[Addr.add_zero']at B)
       (try rw[show((0:Int)).toNat=0 from rfl]at D)
       (try rw[show 0 * 8=0 from rfl]at D)
       (try rw[Addr.add_zero']at D)
       (try rw[show((0:Int)).toNat=0 from rfl]at v)
       (try rw[show 0 * 8=0 from rfl]at v)
       (try rw[Addr.add_zero']at v)
       (try rw[show((0:Int)).toNat=0 from rfl]at x)
       (try rw[show 0 * 8=0 from rfl]at x)
       (try rw[Addr.add_zero']at x)
       (try rw[show((0:Int)).toNat=0 from rfl]at y)
       (try rw[show 0 * 8=0 from rfl]at y)
       (try rw[Addr.add_zero']at y)
       obtain⟨z,A,u,B,D,v,x,y⟩:=hc8 HB z A u B D v x y
       have de:=Aside0.mk a2
       have dg:=Aside0.mk a1
       clear a2 a1
       have dj:=Aside0.mk a4
       have dk:=Aside0.mk a3
       clear a4 a3
       have dl:=Aside0.mk a6
       have dp:=Aside0.mk a5
       clear a6 a5
       have dq:=Aside0.mk a8
       have dr:=Aside0.mk a7
       clear a8 a7
       replace ca:=eq_true ca
       replace cc:=eq_true cc
       have ea_:=Option.some.inj (g.symm.trans u)
       injection ea_ with ea_ en_ ec_
       subst ea_
       subst ec_
       clear en_
       have ea_:=Option.some.inj (j.symm.trans v)
       injection ea_ with ea_ en_ ec_
       subst ea_
       subst ec_
       clear en_
       have ea_:=Option.some.inj (l.symm.trans x)
       injection ea_ with ea_ en_ ec_
       subst ea_
       subst ec_
       clear en_
       have ea_:=Option.some.inj (m.symm.trans y)
       injection ea_ with ea_ en_ ec_
       subst ea_
       subst ec_
       clear en_
       go_wp2
       go_meet
       case rel=>exact⟨_,(true),(by first|rfl|(simp;done)|(simp[*];done)),H',⟨by have:=cJ.out;first|omega|exact Nat.le_refl _⟩,kk c,⟨bl⟩⟩
      rw[if_neg c16]at H
      have d8:decide (0<(((aa a 0).f2).length:Int))=false:=decide_eq_false c16
      have ea:decide (0<((aa a 0).f2).length)=false:=decide_eq_false (by omega)
      clear c16
      have H' :=Aside0.mk H
      clear H
      have:=cf2 c
      have aS:0≤(0:Int):=(by omega)
      have a0:0<(a.length:Int):=od
      obtain⟨ci,cL,cM,cN,cP,cQ,cR,cS,cT,e207,o,p,g,q,s,j,l,m,ad,al,am,an,ao,ap,aq,ar⟩:=di aw.out 0 aS a0
      cases e207
      have dc:(0<a.length)=True:=eq_true (by omega)
      (try rw[show((0:Int)).toNat=0 from rfl]at o)
      (try rw[show 0 * 8=0 from rfl]at o)
      (try rw[Addr.add_zero']at o)
      (try rw[show((0:Int)).toNat=0 from rfl]at p)
      (try rw[show 0 * 8=0 from rfl]at p)
      (try rw[Addr.add_zero']at p)
      (try rw[show((0:Int)).toNat=0 from rfl]at g)
      (try rw[show 0 * 8=0 from rfl]at g)
      (try rw[Addr.add_zero']at g)
      (try rw[show((0:Int)).toNat=0 from rfl]at q)
      (try rw[show 0 * 8=0 from rfl]at q)
      (try rw[Addr.add_zero']at q)
      (try rw[show((0:Int)).toNat=0 from rfl]at s)
      (try rw[show 0 * 8=0 from rfl]at s)
      (try rw[Addr.add_zero']at s)
      (try rw[show((0:Int)).toNat=0 from rfl]at j)
      (try rw[show 0 * 8=0 from rfl]at j)
      (try rw[Addr.add_zero']at j)
      (try rw[show((0:Int)).toNat=0 from rfl]at l)
      (try rw[show 0 * 8=0 from rfl]at l)
      (try rw[Addr.add_zero']at l)
      (try rw[show((0:Int)).toNat=0 from rfl]at m)
      (try rw[show 0 * 8=0 from rfl]at m)
      (try rw[Addr.add_zero']at m)
      obtain⟨o,p,g,q,s,j,l,m⟩:=hc8 HB o p g q s j l m
      have co:=Aside0.mk al
      have cp:=Aside0.mk ad
      clear al ad
      have cq:=Aside0.mk an
      have cr:=Aside0.mk am
      clear an am
      have cs:=Aside0.mk ap
      have ct:=Aside0.mk ao
      clear ap ao
      have cv:=Aside0.mk ar
      have cw:=Aside0.mk aq
      clear ar aq
      replace aS:=eq_true aS
      replace a0:=eq_true a0
      have ca:0≤(0:Int):=(by omega)
      have cc:0<(a.length:Int):=od
      obtain⟨cI,du,dv,dy,dT,d0,d1,d2,d3,e208,z,A,u,B,D,v,x,y,a1,a2,a3,a4,a5,a6,a7,a8⟩:=di aw.out 0 ca cc
      obtain rfl:ci=cI:=(by injection e208)
      have eb:(0<a.length)=True:=eq_true (by omega)
      (try rw[show((0:Int)).toNat=0 from rfl]at z)
      (try rw[show 0 * 8=0 from rfl]at z)
      (try rw[Addr.add_zero']at z)
      (try rw[show((0:Int)).toNat=0 from rfl]at A)
      (try rw[show 0 * 8=0 from rfl]at A)
      (try rw[Addr.add_zero']at A)
      (try rw[show((0:Int)).toNat=0 from rfl]at u)
      (try rw[show 0 * 8=0 from rfl]at u)
      (try rw[Addr.add_zero']at u)
      (try rw[show((0:Int)).toNat=0 from rfl]at B)
      (try rw[show 0 * 8=0 from rfl]at B)
      (try rw[Addr.add_zero']at B)
      (try rw[show((0:Int)).toNat=0 from rfl]at D)
      (try rw[show 0 * 8=0 from rfl]at D)
      (try rw[Addr.add_zero']at D)
      (try rw[show((0:Int)).toNat=0 from rfl]at v)
      (try rw[show 0 * 8=0 from rfl]at v)
      (try rw[Addr.add_zero']at v)
      (try rw[show((0:Int)).toNat=0 from rfl]at x)
      (try rw[show 0 * 8=0 from rfl]at x)
      (try rw[Addr.add_zero']at x)
      (try rw[show((0:Int)).toNat=0 from rfl]at y)
      (try rw[show 0 * 8=0 from rfl]at y)
      (try rw[Addr.add_zero']at y)
      obtain⟨z,A,u,B,D,v,x,y⟩:=hc8 HB z A u B D v x y
      have de:=Aside0.mk a2
      have dg:=Aside0.mk a1
      clear a2 a1
      have dj:=Aside0.mk a4
      have dk:=Aside0.mk a3
      clear a4 a3
      have dl:=Aside0.mk a6
      have dp:=Aside0.mk a5
      clear a6 a5
      have dq:=Aside0.mk a8
      have dr:=Aside0.mk a7
      clear a8 a7
      replace ca:=eq_true ca
      replace cc:=eq_true cc
      have ea_:=Option.some.inj (g.symm.trans u)
      injection ea_ with ea_ en_ ec_
      subst ea_
      subst ec_
      clear en_
      have ea_:=Option.some.inj (j.symm.trans v)
      injection ea_ with ea_ en_ ec_
      subst ea_
      subst ec_
      clear en_
      have ea_:=Option.some.inj (l.symm.trans x)
      injection ea_ with ea_ en_ ec_
      subst ea_
      subst ec_
      clear en_
      have ea_:=Option.some.inj (m.symm.trans y)
      injection ea_ with ea_ en_ ec_
      subst ea_
      subst ec_
      clear en_
      have cW:0≤(0:Int):=(by omega)
      have cX:0<(a.length:Int):=od
      obtain⟨ec,es,et,ev,ew,ex,ey,ez,eA,e209,a9,ba,aF,bb,bc,aL,aO,aP,cx,cy,cA,cC,cD,cE,cF,cG⟩:=di aw.out 0 cW cX
      obtain rfl:ci=ec:=(by injection e209)
      have eK:(0<a.length)=True:=eq_true (by omega)
      (try rw[show((0:Int)).toNat=0 from rfl]at a9)
      (try rw[show 0 * 8=0 from rfl]at a9)
      (try rw[Addr.add_zero']at a9)
      (try rw[show((0:Int)).toNat=0 from rfl]at ba)
      (try rw[show 0 * 8=0 from rfl]at ba)
      (try rw[Addr.add_zero']at ba)
      (try rw[show((0:Int)).toNat=0 from rfl]at aF)
      (try rw[show 0 * 8=0 from rfl]at aF)
      (try rw[Addr.add_zero']at aF)
      (try rw[show((0:Int)).toNat=0 from rfl]at bb)
      (try rw[show 0 * 8=0 from rfl]at bb)
      (try rw[Addr.add_zero']at bb)
      (try rw[show((0:Int)).toNat=0 from rfl]at bc)
      (try rw[show 0 * 8=0 from rfl]at bc)
      (try rw[Addr.add_zero']at bc)
      (try rw[show((0:Int)).toNat=0 from rfl]at aL)
      (try rw[show 0 * 8=0 from rfl]at aL)
      (try rw[Addr.add_zero']at aL)
      (try rw[show((0:Int)).toNat=0 from rfl]at aO)
      (try rw[show 0 * 8=0 from rfl]at aO)
      (try rw[Addr.add_zero']at aO)
      (try rw[show((0:Int)).toNat=0 from rfl]at aP)
      (try rw[show 0 * 8=0 from rfl]at aP)
      (try rw[Addr.add_zero']at aP)
      obtain⟨a9,ba,aF,bb,bc,aL,aO,aP⟩:=hc8 HB a9 ba aF bb bc aL aO aP
      have ei:=Aside0.mk cy
      have ej:=Aside0.mk cx
      clear cy cx
      have el:=Aside0.mk cC
      have em:=Aside0.mk cA
      clear cC cA
      have en:=Aside0.mk cE
      have eo:=Aside0.mk cD
      clear cE cD
      have ep:=Aside0.mk cG
      have eq:=Aside0.mk cF
      clear cG cF
      replace cW:=eq_true cW
      replace cX:=eq_true cX
      have ea_:=Option.some.inj (g.symm.trans aF)
      injection ea_ with ea_ en_ ec_
      subst ea_
      subst ec_
      clear en_
      have ea_:=Option.some.inj (j.symm.trans aL)
      injection ea_ with ea_ en_ ec_
      subst ea_
      subst ec_
      clear en_
      have ea_:=Option.some.inj (l.symm.trans aO)
      injection ea_ with ea_ en_ ec_
      subst ea_
      subst ec_
      clear en_
      have ea_:=Option.some.inj (m.symm.trans aP)
      injection ea_ with ea_ en_ ec_
      subst ea_
      subst ec_
      clear en_
      go_wp2
      go_meet
      case rel=>exact⟨_,((((aa a 0).f3) !=1)),(by first|rfl|(simp;done)|(simp[*];done)),H',⟨by have:=cJ.out;first|omega|exact Nat.le_refl _⟩,kk c,⟨bl⟩⟩
     rw[if_neg c15]at H
     have d6:=beq_eq_false_iff_ne.mpr c15
     have d7:=bne_iff_ne.mpr c15
     have H' :=Aside0.mk H
     clear H
     have:=cf2 c
     have aS:0≤(0:Int):=(by omega)
     have a0:0<(a.length:Int):=od
     obtain⟨ci,cL,cM,cN,cP,cQ,cR,cS,cT,e207,o,p,g,q,s,j,l,m,ad,al,am,an,ao,ap,aq,ar⟩:=di aw.out 0 aS a0
     cases e207
     have dc:(0<a.length)=True:=eq_true (by omega)
     (try rw[show((0:Int)).toNat=0 from rfl]at o)
     (try rw[show 0 * 8=0 from rfl]at o)
     (try rw[Addr.add_zero']at o)
     (try rw[show((0:Int)).toNat=0 from rfl]at p)
     (try rw[show 0 * 8=0 from rfl]at p)
     (try rw[Addr.add_zero']at p)
     (try rw[show((0:Int)).toNat=0 from rfl]at g)
     (try rw[show 0 * 8=0 from rfl]at g)
     (try rw[Addr.add_zero']at g)
     (try rw[show((0:Int)).toNat=0 from rfl]at q)
     (try rw[show 0 * 8=0 from rfl]at q)
     (try rw[Addr.add_zero']at q)
     (try rw[show((0:Int)).toNat=0 from rfl]at s)
     (try rw[show 0 * 8=0 from rfl]at s)
     (try rw[Addr.add_zero']at s)
     (try rw[show((0:Int)).toNat=0 from rfl]at j)
     (try rw[show 0 * 8=0 from rfl]at j)
     (try rw[Addr.add_zero']at j)
     (try rw[show((0:Int)).toNat=0 from rfl]at l)
     (try rw[show 0 * 8=0 from rfl]at l)
     (try rw[Addr.add_zero']at l)
     (try rw[show((0:Int)).toNat=0 from rfl]at m)
     (try rw[show 0 * 8=0 from rfl]at m)
     (try rw[Addr.add_zero']at m)
     obtain⟨o,p,g,q,s,j,l,m⟩:=hc8 HB o p g q s j l m
     have co:=Aside0.mk al
     have cp:=Aside0.mk ad
     clear al ad
     have cq:=Aside0.mk an
     have cr:=Aside0.mk am
     clear an am
     have cs:=Aside0.mk ap
     have ct:=Aside0.mk ao
     clear ap ao
     have cv:=Aside0.mk ar
     have cw:=Aside0.mk aq
     clear ar aq
     replace aS:=eq_true aS
     replace a0:=eq_true a0
     go_wp2
     go_meet
     case rel=>exact⟨_,(true),(by first|rfl|(simp;done)|(simp[*];done)),H',⟨by have:=cJ.out;first|omega|exact Nat.le_refl _⟩,kk c,⟨bl⟩⟩
    rw[if_neg c14]at H
    exact absurd H (by simp)
   case rest=>
    clear cV
    obtain⟨kq,ch,rfl,HA,d4,c,HB⟩:=hcut
    cases kq with
    |zero=>exact absurd HA.out (by simp[aY.j1])
    | succ d5=>
     have H:=HA.out
     clear HA
     simp only[aY.j1]at H
     by_cases c20:ch=true
     ·subst c20
      replace H:=it H
      obtain rfl:=Option.some.inj H;clear H
      go_wp2
      go_ret
      exact fin
     replace c20:=Bool.eq_false_iff.mpr c20
     subst c20
     replace H:=ie H
     have H' :=Aside0.mk H
     clear H
     go_wp2
     go_loopg [3] d5 (fun kq v3 w' => ∃(b:Int),v3= .int .i64 b∧Aside0 (aY.l0 kq b t a=some r)∧Aside0 (kq≤d5)∧Aside0 (w'.heap[b0]? =some (.cells #[(.slice aB t.length aE),(.slice b9 a.length aR)] 38 (0,0)))∧Aside0 (Below w.heap.size w w'))
     case atStart=>exact⟨(0),(by first|rfl|(simp;done)|(simp[*];done)),H',⟨Nat.le_refl _⟩,kk c,⟨bl⟩⟩
     case round=>
      clear H'
      obtain⟨b,rfl,HA,ef,c,HB⟩:=hrel
      cases gk with
      |zero=>exact absurd HA.out (by simp[aY.l0])
      | succ k3=>
       have H:=HA.out
       clear HA
       simp only[aY.l0]at H
       by_cases c21:b<(a.length:Int)
       ·rw[if_pos c21]at H
        have ee:decide (b<(a.length:Int))=true:=decide_eq_true c21
        clear c21
        by_cases dd:0≤b
        ·rw[if_pos dd]at H
         have eL:decide (0≤b)=true:=decide_eq_true dd
         clear dd
         obtain⟨eh,eg,H⟩:=ob H
         by_cases c24:eh=true
         ·subst c24
          replace H:=it H
          have H' :=Aside0.mk H
          clear H
          have:=cf2 c
          try go_wp2
          replace c:=Aside0.mk (af c.out)
          replace HB:=Aside0.mk (aC HB.out)
          have cd:0≤(b:Int):=od
          have ce:b<(a.length:Int):=od
          obtain⟨d,b1,b2,b3,b4,b5,b6,b7,b8,e210,E,G,I,J,L,M,O,P,bd,be,bh,bj,bk,bm,bo,bp⟩:=di aw.out b cd ce
          have T:=P
          have U:=O
          have W:=M
          have X:=L
          have Y:=J
          have Z:=I
          have ab:=G
          have ac:=E
          cases e210
          obtain⟨E,G,I,J,L,M,O,P⟩:=hc8 HB E G I J L M O P
          have br:=Aside0.mk be
          have cj:=Aside0.mk bd
          clear be bd
          have bs:=Aside0.mk bj
          have ck:=Aside0.mk bh
          clear bj bh
          have bt:=Aside0.mk bm
          have cl:=Aside0.mk bk
          clear bm bk
          have bw:=Aside0.mk bp
          have cm:=Aside0.mk bo
          clear bp bo
          replace cd:=eq_true cd
          replace ce:=eq_true ce
          refine dR (n:=8) (S:=fun w' =>w'.cell? ⟨b0,0,none⟩=some (.slice aB t.length aE)∧w'.cell? ⟨b0,1,none⟩=some (.slice (some d) a.length aR)∧w'.cell? (d.add ((b).toNat * 8))=some (.int .i64 ((aa a b).f0))∧w'.cell? ⟨(d.add ((b).toNat * 8)).block,(d.add ((b).toNat * 8)).off+1,none⟩=some (.int .i64 ((aa a b).f1))∧w'.cell? ⟨(d.add ((b).toNat * 8)).block,(d.add ((b).toNat * 8)).off+2,none⟩=some (.slice b1 ((aa a b).f2).length b2)∧w'.cell? ⟨(d.add ((b).toNat * 8)).block,(d.add ((b).toNat * 8)).off+3,none⟩=some (.int .i64 ((aa a b).f3))∧w'.cell? ⟨(d.add ((b).toNat * 8)).block,(d.add ((b).toNat * 8)).off+4,none⟩=some (.int .i64 ((aa a b).f4))∧w'.cell? ⟨(d.add ((b).toNat * 8)).block,(d.add ((b).toNat * 8)).off+5,none⟩=some (.slice b3 ((aa a b).f5).length b4)∧w'.cell? ⟨(d.add ((b).toNat * 8)).block,(d.add ((b).toNat * 8)).off+6,none⟩=some (.slice b5 ((aa a b).f6).length b6)∧w'.cell? ⟨(d.add ((b).toNat * 8)).block,(d.add ((b).toNat * 8)).off+7,none⟩=some (.slice b7 ((aa a b).f7).length b8)) (ds:= []) (upto 8 0) (by kernel_rfl) rfl rfl ⟨(ae c.out 0).trans rfl,(ae c.out 1).trans rfl,((HB.out.cell (World.block_lt_of_cell? w _ ac)).trans ac),((HB.out.cell (World.block_lt_of_cell? w _ ab)).trans ab),((HB.out.cell (World.block_lt_of_cell? w _ Z)).trans Z),((HB.out.cell (World.block_lt_of_cell? w _ Y)).trans Y),((HB.out.cell (World.block_lt_of_cell? w _ X)).trans X),((HB.out.cell (World.block_lt_of_cell? w _ W)).trans W),((HB.out.cell (World.block_lt_of_cell? w _ U)).trans U),((HB.out.cell (World.block_lt_of_cell? w _ T)).trans T)⟩ (fun hHeld=> ?_);refine cO aY.tab8 aY.bits8 (fun HT_ HW_=> ?_)
          generalize wr.drew=eR at c HB br bs bt bw E G I J L M O P hHeld⊢
          repeat(first|refine vN ?_|refine pN ?_|refine tN ?_)
          refine fo (i:=6) (N:=some 51) (upto 8 7) rfl rfl (d9 HT_.out (by kernel_rfl)) (by decide) (fun K hK=> ?_)
          refine gs Tryz.func73 #[.agg #[.slice aB t.length aE, .slice (some d) a.length aR], .agg #[.int .i64 ((aa a b).f0), .int .i64 ((aa a b).f1), .slice b1 ((aa a b).f2).length b2, .int .i64 ((aa a b).f3), .int .i64 ((aa a b).f4), .slice b3 ((aa a b).f5).length b4, .slice b5 ((aa a b).f6).length b6, .slice b7 ((aa a b).f7).length b8]] rfl rfl ?_
          with_reducible refine(aT.calls k3 _ _ t _ _ a ((aa a b).f0) ((aa a b).f1) _ _ ((aa a b).f2) ((aa a b).f3) ((aa a b).f4) _ _ ((aa a b).f5) _ _ ((aa a b).f6) _ _ ((aa a b).f7) true _ (cb cf.out) cg.out (cb aw.out) cH.out (cb br.out) cj.out (cb bs.out) ck.out (cb bt.out) cl.out (cb bw.out) cm.out eg.out).mono ?_
          rintro e eS ⟨rfl,hb⟩
          refine⟨_,rfl, ?_⟩
          replace c:=kb c hb
          replace HB:=hs HB hb
          refine hK.out _ _ ⟨(ae c.out 0).trans rfl,(ae c.out 1).trans rfl,((HB.out.cell (World.block_lt_of_cell? w _ ac)).trans ac),((HB.out.cell (World.block_lt_of_cell? w _ ab)).trans ab),((HB.out.cell (World.block_lt_of_cell? w _ Z)).trans Z),((HB.out.cell (World.block_lt_of_cell? w _ Y)).trans Y),((HB.out.cell (World.block_lt_of_cell? w _ X)).trans X),((HB.out.cell (World.block_lt_of_cell? w _ W)).trans W),((HB.out.cell (World.block_lt_of_cell? w _ U)).trans U),((HB.out.cell (World.block_lt_of_cell? w _ T)).trans T)⟩ (fun hHeld=> ?_)
          clear hK K
          refine no 51 ?_
          repeat(first|refine vN ?_|refine pN ?_|refine tN ?_)
          refine eQ (dN HT_.out (by kernel_rfl)) ?_
          try go_wp2
          go_roundg k3
          case measure=>have:=cJ.out;have:=d4.out;have:=ef.out;omega
          case rel=>exact⟨(wrap64 (b+1)),(by first|rfl|(simp;done)|(simp[*];done)),H',⟨by have:=cJ.out;have:=d4.out;have:=ef.out;omega⟩,kk c,⟨bl⟩⟩
         replace c24:=Bool.eq_false_iff.mpr c24
         subst c24
         replace H:=ie H
         obtain rfl:=Option.some.inj H;clear H
         have:=cf2 c
         try go_wp2
         replace c:=Aside0.mk (af c.out)
         replace HB:=Aside0.mk (aC HB.out)
         have cd:0≤(b:Int):=od
         have ce:b<(a.length:Int):=od
         obtain⟨d,b1,b2,b3,b4,b5,b6,b7,b8,e210,E,G,I,J,L,M,O,P,bd,be,bh,bj,bk,bm,bo,bp⟩:=di aw.out b cd ce
         have T:=P
         have U:=O
         have W:=M
         have X:=L
         have Y:=J
         have Z:=I
         have ab:=G
         have ac:=E
         cases e210
         obtain⟨E,G,I,J,L,M,O,P⟩:=hc8 HB E G I J L M O P
         have br:=Aside0.mk be
         have cj:=Aside0.mk bd
         clear be bd
         have bs:=Aside0.mk bj
         have ck:=Aside0.mk bh
         clear bj bh
         have bt:=Aside0.mk bm
         have cl:=Aside0.mk bk
         clear bm bk
         have bw:=Aside0.mk bp
         have cm:=Aside0.mk bo
         clear bp bo
         replace cd:=eq_true cd
         replace ce:=eq_true ce
         refine dR (n:=8) (S:=fun w' =>w'.cell? ⟨b0,0,none⟩=some (.slice aB t.length aE)∧w'.cell? ⟨b0,1,none⟩=some (.slice (some d) a.length aR)∧w'.cell? (d.add ((b).toNat * 8))=some (.int .i64 ((aa a b).f0))∧w'.cell? ⟨(d.add ((b).toNat * 8)).block,(d.add ((b).toNat * 8)).off+1,none⟩=some (.int .i64 ((aa a b).f1))∧w'.cell? ⟨(d.add ((b).toNat * 8)).block,(d.add ((b).toNat * 8)).off+2,none⟩=some (.slice b1 ((aa a b).f2).length b2)∧w'.cell? ⟨(d.add ((b).toNat * 8)).block,(d.add ((b).toNat * 8)).off+3,none⟩=some (.int .i64 ((aa a b).f3))∧w'.cell? ⟨(d.add ((b).toNat * 8)).block,(d.add ((b).toNat * 8)).off+4,none⟩=some (.int .i64 ((aa a b).f4))∧w'.cell? ⟨(d.add ((b).toNat * 8)).block,(d.add ((b).toNat * 8)).off+5,none⟩=some (.slice b3 ((aa a b).f5).length b4)∧w'.cell? ⟨(d.add ((b).toNat * 8)).block,(d.add ((b).toNat * 8)).off+6,none⟩=some (.slice b5 ((aa a b).f6).length b6)∧w'.cell? ⟨(d.add ((b).toNat * 8)).block,(d.add ((b).toNat * 8)).off+7,none⟩=some (.slice b7 ((aa a b).f7).length b8)) (ds:= []) (upto 8 0) (by kernel_rfl) rfl rfl ⟨(ae c.out 0).trans rfl,(ae c.out 1).trans rfl,((HB.out.cell (World.block_lt_of_cell? w _ ac)).trans ac),((HB.out.cell (World.block_lt_of_cell? w _ ab)).trans ab),((HB.out.cell (World.block_lt_of_cell? w _ Z)).trans Z),((HB.out.cell (World.block_lt_of_cell? w _ Y)).trans Y),((HB.out.cell (World.block_lt_of_cell? w _ X)).trans X),((HB.out.cell (World.block_lt_of_cell? w _ W)).trans W),((HB.out.cell (World.block_lt_of_cell? w _ U)).trans U),((HB.out.cell (World.block_lt_of_cell? w _ T)).trans T)⟩ (fun hHeld=> ?_);refine cO aY.tab8 aY.bits8 (fun HT_ HW_=> ?_)
         generalize wr.drew=eV at c HB br bs bt bw E G I J L M O P hHeld⊢
         repeat(first|refine vN ?_|refine pN ?_|refine tN ?_)
         refine fo (i:=6) (N:=some 51) (upto 8 7) rfl rfl (d9 HT_.out (by kernel_rfl)) (by decide) (fun K hK=> ?_)
         refine gs Tryz.func73 #[.agg #[.slice aB t.length aE, .slice (some d) a.length aR], .agg #[.int .i64 ((aa a b).f0), .int .i64 ((aa a b).f1), .slice b1 ((aa a b).f2).length b2, .int .i64 ((aa a b).f3), .int .i64 ((aa a b).f4), .slice b3 ((aa a b).f5).length b4, .slice b5 ((aa a b).f6).length b6, .slice b7 ((aa a b).f7).length b8]] rfl rfl ?_
         with_reducible refine(aT.calls k3 _ _ t _ _ a ((aa a b).f0) ((aa a b).f1) _ _ ((aa a b).f2) ((aa a b).f3) ((aa a b).f4) _ _ ((aa a b).f5) _ _ ((aa a b).f6) _ _ ((aa a b).f7) false _ (cb cf.out) cg.out (cb aw.out) cH.out (cb br.out) cj.out (cb bs.out) ck.out (cb bt.out) cl.out (cb bw.out) cm.out eg.out).mono ?_
         rintro e eW ⟨rfl,hb⟩
         refine⟨_,rfl, ?_⟩
         replace c:=kb c hb
         replace HB:=hs HB hb
         refine hK.out _ _ ⟨(ae c.out 0).trans rfl,(ae c.out 1).trans rfl,((HB.out.cell (World.block_lt_of_cell? w _ ac)).trans ac),((HB.out.cell (World.block_lt_of_cell? w _ ab)).trans ab),((HB.out.cell (World.block_lt_of_cell? w _ Z)).trans Z),((HB.out.cell (World.block_lt_of_cell? w _ Y)).trans Y),((HB.out.cell (World.block_lt_of_cell? w _ X)).trans X),((HB.out.cell (World.block_lt_of_cell? w _ W)).trans W),((HB.out.cell (World.block_lt_of_cell? w _ U)).trans U),((HB.out.cell (World.block_lt_of_cell? w _ T)).trans T)⟩ (fun hHeld=> ?_)
         clear hK K
         refine no 51 ?_
         repeat(first|refine vN ?_|refine pN ?_|refine tN ?_)
         refine eQ (dN HT_.out (by kernel_rfl)) ?_
         try go_wp2
         go_ret
         exact fin
        rw[if_neg dd]at H
        exact absurd H (by simp)
       rw[if_neg c21]at H
       have ee:decide (b<(a.length:Int))=false:=decide_eq_false c21
       clear c21
       obtain⟨t212,eC,H⟩:=ob H
       obtain rfl:=Option.some.inj H;clear H
       have:=cf2 c
       go_wp2_with (first|(refine gl (some 54) Tryz.func74 #[.agg #[.slice aB t.length aE, .slice b9 a.length aR]] rfl ?_;(with_reducible refine(bP.calls k3 _ _ t _ _ a t212 _ (cb cf.out) cg.out (cb aw.out) cH.out eC.out).mono ?_);rintro e e0 ⟨rfl,hb⟩;refine⟨_,rfl, ?_⟩;replace c:=kb c hb;replace HB:=hs HB hb))
       go_ret
       exact fin
set_option maxHeartbeats 8000000 in
set_option maxRecDepth 100000 in
theorem iM.calls (a0:Int) (r1:Bool) (r2:Int) (w:World) (h:iM.f a0=some (r1,r2)):
  Calls Tryz.prog 75 #[.int .i64 a0] w fun e w' =>e= .returned (.agg #[.bool r1, .int .i64 r2])∧Below w.heap.size w w' :=by
 have g:=Tryz.underlying31
 have HB:=Aside0.mk (Below.refl w.heap.size w)
 have H:(some (false,a0))=some (r1,r2):=h
 clear h
 simp only[Option.some.injEq,Prod.mk.injEq]at H
 obtain⟨rfl,rfl⟩:=H
 go_enter Tryz.func75,Tryz.ntmps75
 go_wp2_with (first|((with_reducible refine gd 2 rfl ?_);refine bx 2 #[.bool false, .int .i64 0] 31 ?_;intro b hg w2 hbox hb;have a:=Aside0.mk hbox;have c:=hz HB hg;have d:=hz HB hg;replace HB:=hs HB hb;clear hb hbox hg;have:=cf2 a))
 refine bodyPost_ret (results_cell_row rfl _ _ b 31 #[.bool false, .int .i64 a0] (0,0) _ rfl (by(with_reducible repeat(first|refine ah ?_ _|refine af ?_|refine ag ?_ _));refine bg (cs:= #[.bool false, .int .i64 0]) ?_ 1 _ rfl;(with_reducible repeat(first|refine ah ?_ _|refine af ?_|refine ag ?_ _));refine bg (cs:= #[.bool false, .int .i64 0]) ?_ 0 _ rfl;(with_reducible repeat(first|refine ah ?_ _|refine af ?_|refine ag ?_ _));exact a.out) Tryz.underlying31 rfl (by kernel_rfl)) rfl ?_
 exact fin
end Go.Proofs.YteinbmkgenhocaaGreat.P
end
