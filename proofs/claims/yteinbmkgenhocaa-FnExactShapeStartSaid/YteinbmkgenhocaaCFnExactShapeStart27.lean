/- A part of the claim FnExactShapeStart: texts of this session and texts that its program printed out of the translation, joined. -/
import Derived.Test.YteinbmkgenhocaaCFnExactShapeStart26
section
namespace Go.Proofs.Yteinbmkgenhocaa.P
open Go.RowKit Go.Proofs.YteinbmkgenhocaaW.PrintWords Go.Proofs.YteinbmkgenhocaaW.PrintLast Go.Proofs.YteinbmkgenhocaaW.PrintMore
attribute [local go_sem] ak au aA aC ai aj av ax
set_option linter.unusedVariables false
set_option linter.unusedSimpArgs false
set_option maxHeartbeats 8000000 in
set_option maxRecDepth 100000 in
theorem bF.calls (k:Nat) (ch:Option Addr) (ci:Nat) (br:List (S71)) (cj:Option Addr) (ck:Nat) (m:List (S50)) (r:Bool) (w:World) (cl:Kd.C k71 w ch br.length br) (cm:br.length≤ci) (cn:Kd.C k50 w cj m.length m) (co:m.length≤ck) (h:bF.f k br m=some r):
  Calls Try.prog 55 #[.agg #[.slice ch br.length ci, .slice cj m.length ck]] w fun e w' =>e= .returned (.bool r)∧Below w.heap.size w w' :=by
 have eg:=Try.underlying34
 have eh:=Try.underlying50
 have cf:=Aside0.mk cl
 have cg:=Aside0.mk cm
 clear cl cm
 have a2:=Aside0.mk cn
 have cI:=Aside0.mk co
 clear cn co
 have HB:=Aside0.mk (Below.refl w.heap.size w)
 have H:(bF.l0 k 0 br m)=some r:=h
 clear h
 have H' :=Aside0.mk H
 clear H
 go_enter Try.func55,Try.ntmps55
 go_wp2_with (first|((with_reducible refine gd 1 rfl ?_);refine bx 1 #[.slice ch br.length ci, .slice cj m.length ck] 34 ?_;intro cp hg w2 hbox hb;have o:=Aside0.mk hbox;have cJ:=hz HB hg;have cL:=hz HB hg;replace HB:=hs HB hb;clear hb hbox hg))
 go_loopg [3] k (fun kq v3 w' => ∃(n:Int),v3= .int .i64 n∧Aside0 (bF.l0 kq n br m=some r)∧Aside0 (kq≤k)∧Aside0 (w'.heap[cp]? =some (.cells #[(.slice ch br.length ci),(.slice cj m.length ck)] 34 (0,0)))∧Aside0 (Below w.heap.size w w'))
 case atStart=>exact⟨(0),(by first|rfl|(simp;done)|(simp[*];done)),H',⟨Nat.le_refl _⟩,kk o,⟨bl⟩⟩
 case round =>
  clear H'
  obtain⟨n,rfl,HA,b9,o,HB⟩:=hrel
  cases gk with
  |zero=>exact absurd HA.out (by simp[bF.l0])
  | succ k1 =>
   have H:=HA.out
   clear HA
   simp only[bF.l0]at H
   by_cases c3:n<(m.length:Int)
   ·rw [if_pos c3]at H
    have cA:decide (n<(m.length:Int))=true:=decide_eq_true c3
    clear c3
    have H' :=Aside0.mk H
    clear H
    obtain⟨_,_,_,_⟩:=cf2 o
    go_wp2
    go_loopg [4] k1 (fun kq v4 w' => ∃(q:Int),v4= .int .i64 q∧Aside0 (bF.l1 kq n q br m=some r)∧Aside0 (kq≤k1)∧Aside0 (w'.heap[cp]? =some (.cells #[(.slice ch br.length ci),(.slice cj m.length ck)] 34 (0,0)))∧Aside0 (Below w.heap.size w w'))
    case atStart=>exact⟨(0),(by first|rfl|(simp;done)|(simp[*];done)),H',⟨Nat.le_refl _⟩,kk o,⟨bl⟩⟩
    case round =>
     clear H'
     obtain⟨q,rfl,HA,ca,o,HB⟩:=hrel
     cases gk with
     |zero=>exact absurd HA.out (by simp[bF.l1])
     | succ k2 =>
      have H:=HA.out
      clear HA
      simp only[bF.l1]at H
      by_cases c5:q<(m.length:Int)
      ·rw [if_pos c5]at H
       have cC:decide (q<(m.length:Int))=true:=decide_eq_true c5
       clear c5
       by_cases c6:0≤n
       ·rw [if_pos c6]at H
        have ei:decide (0≤n)=true:=decide_eq_true c6
        clear c6
        by_cases c7:n<(m.length:Int)
        ·rw [if_pos c7]at H
         have ej:decide (n<(m.length:Int))=true:=decide_eq_true c7
         clear c7
         by_cases c8:0≤q
         ·rw [if_pos c8]at H
          have el:decide (0≤q)=true:=decide_eq_true c8
          clear c8
          by_cases c9:n=q
          ·rw[if_pos c9]at H
           have cD:=beq_iff_eq.mpr c9
           have cE:=bne_eq_false_iff_eq.mpr c9
           clear c9
           have H' :=Aside0.mk H
           clear H
           obtain⟨_,_,_,_⟩:=cf2 o
           have aL:0≤(n:Int):=od
           have aO:n<(m.length:Int):=od
           obtain⟨aS,ab,ac,ad,al,am,an,ao,ap,bs,t,u,v,x,y,z,A,B,D,E,G,I,J,K,L,M⟩:=dx a2.out n aL aO
           cases bs
           obtain⟨t,u,v,x,y,z,A,B⟩:=hc8 HB t u v x y z A B
           have a5:=Aside0.mk E
           have a6:=Aside0.mk D
           clear E D
           have a7:=Aside0.mk I
           have a8:=Aside0.mk G
           clear I G
           have a9:=Aside0.mk K
           have ba:=Aside0.mk J
           clear K J
           have bb:=Aside0.mk M
           have bc:=Aside0.mk L
           clear M L
           replace aL:=eq_true aL
           replace aO:=eq_true aO
           go_wp2_with (first|((with_reducible refine gd 5 rfl ?_);refine bx 5 #[.int .i64 0, .int .i64 0, .slice none 0 0, .int .i64 0, .int .i64 0, .slice none 0 0, .slice none 0 0, .slice none 0 0] 50 ?_;intro p hg em hbox hb;have s:=Aside0.mk hbox;have a3:=hz HB hg;have cc:=hz HB hg;have aq:=nl o hg;have ar:=ng o hg;replace o:=kb o hb;replace HB:=hs HB hb;clear hb hbox hg;have cM:=ar.out;have cN:=aq.out;obtain⟨_,_,_,_,_,_,_,_,_,_,_,_,_,_,_,_⟩:=cf8 s;obtain⟨_,_,_,_⟩:=cf2 o;have aP:0≤(q:Int):=od;have aR:q<(m.length:Int):=od;obtain⟨a4,b0,b1,b2,b3,b4,b5,b6,b7,bw,a,b,c,d,g,i,j,l,O,P,T,U,W,X,Y,Z⟩:=dx a2.out q aP aR;obtain rfl:aS=a4:=(by injection bw);have a0:aS.block≠p:=Nat.ne_of_lt (Nat.lt_of_lt_of_le (by have:=World.block_lt_of_cell? _ _ a;first|rwa [add_block]at this|exact this) a3.out);obtain⟨a,b,c,d,g,i,j,l⟩:=hc8 HB a b c d g i j l;have bd:=Aside0.mk P;have be:=Aside0.mk O;clear P O;have bh:=Aside0.mk U;have bj:=Aside0.mk T;clear U T;have bk:=Aside0.mk X;have bm:=Aside0.mk W;clear X W;have bo:=Aside0.mk Z;have bp:=Aside0.mk Y;clear Z Y;obtain⟨a,b,c,d,g,i,j,l⟩:=fw8 ⟨p,0,none⟩ (.int .i64 ((aa m n).f0)) a b c d g i j l;obtain⟨a,b,c,d,g,i,j,l⟩:=fw8 ⟨p,1,none⟩ (.int .i64 ((aa m n).f1)) a b c d g i j l;obtain⟨a,b,c,d,g,i,j,l⟩:=fw8 ⟨p,2,none⟩ (.slice ab ((aa m n).f2).length ac) a b c d g i j l;obtain⟨a,b,c,d,g,i,j,l⟩:=fw8 ⟨p,3,none⟩ (.int .i64 ((aa m n).f3)) a b c d g i j l;obtain⟨a,b,c,d,g,i,j,l⟩:=fw8 ⟨p,4,none⟩ (.int .i64 ((aa m n).f4)) a b c d g i j l;obtain⟨a,b,c,d,g,i,j,l⟩:=fw8 ⟨p,5,none⟩ (.slice ad ((aa m n).f5).length al) a b c d g i j l;obtain⟨a,b,c,d,g,i,j,l⟩:=fw8 ⟨p,6,none⟩ (.slice am ((aa m n).f6).length an) a b c d g i j l;obtain⟨a,b,c,d,g,i,j,l⟩:=fw8 ⟨p,7,none⟩ (.slice ao ((aa m n).f7).length ap) a b c d g i j l;clear a0;replace aP:=eq_true aP;replace aR:=eq_true aR)|((with_reducible refine gd 6 rfl ?_);refine bx 6 #[.int .i64 0, .int .i64 0, .slice none 0 0, .int .i64 0, .int .i64 0, .slice none 0 0, .slice none 0 0, .slice none 0 0] 50 ?_;intro b8 hg en hbox hb;have a1:=Aside0.mk hbox;have cd:=hz HB hg;have ce:=hz HB hg;have aw:=nl o hg;have aB:=ng o hg;have aE:=nl s hg;have aF:=ng s hg;replace o:=kq o hb;replace s:=kp p #[.int .i64 ((aa m n).f0), .int .i64 ((aa m n).f1), .slice ab ((aa m n).f2).length ac, .int .i64 ((aa m n).f3), .int .i64 ((aa m n).f4), .slice ad ((aa m n).f5).length al, .slice am ((aa m n).f6).length an, .slice ao ((aa m n).f7).length ap] 50 hb;replace HB:=hs HB hb;clear hb hbox hg;have cP:=aB.out;have cQ:=aw.out;have cR:=aF.out;have cS:=aE.out;obtain⟨_,_,_,_,_,_,_,_,_,_,_,_,_,_,_,_⟩:=cf8 a1))
           go_roundg k2
           case measure=>have:=b9.out;have:=ca.out;omega
           case rel=>exact⟨(wrap64 (q+1)),(by first|rfl|(simp;done)|(simp[*];done)),H',⟨by have:=b9.out;have:=ca.out;omega⟩,kf,⟨bl⟩⟩
          ·rw [if_neg c9]at H
           have cD:=beq_eq_false_iff_ne.mpr c9
           have cE:=bne_iff_ne.mpr c9
           by_cases c19:((aa m n).f0)≥0
           ·rw [if_pos c19]at H
            have cr:decide (0≤((aa m n).f0))=true:=decide_eq_true c19
            clear c19
            by_cases c20:((aa m q).f0)≥0
            ·rw [if_pos c20]at H
             have cs:decide (0≤((aa m q).f0))=true:=decide_eq_true c20
             clear c20
             by_cases c21:((aa m n).f1)=((aa m q).f1)
             ·rw [if_pos c21]at H
              have ct:=beq_iff_eq.mpr c21
              have cv:=bne_eq_false_iff_eq.mpr c21
              clear c21
              obtain⟨cF,cq,H⟩:=ob H
              by_cases c23:cF=true
              ·subst c23
               replace H:=it H
               by_cases c24:((aa m n).f0)=((aa m q).f0)
               ·rw[if_pos c24]at H
                have cw:=beq_iff_eq.mpr c24
                have cx:=bne_eq_false_iff_eq.mpr c24
                clear c24
                obtain rfl:=Option.some.inj H;clear H
                obtain⟨_,_,_,_⟩:=cf2 o
                have aL:0≤(n:Int):=od
                have aO:n<(m.length:Int):=od
                obtain⟨aS,ab,ac,ad,al,am,an,ao,ap,bs,t,u,v,x,y,z,A,B,D,E,G,I,J,K,L,M⟩:=dx a2.out n aL aO
                cases bs
                obtain⟨t,u,v,x,y,z,A,B⟩:=hc8 HB t u v x y z A B
                have a5:=Aside0.mk E
                have a6:=Aside0.mk D
                clear E D
                have a7:=Aside0.mk I
                have a8:=Aside0.mk G
                clear I G
                have a9:=Aside0.mk K
                have ba:=Aside0.mk J
                clear K J
                have bb:=Aside0.mk M
                have bc:=Aside0.mk L
                clear M L
                replace aL:=eq_true aL
                replace aO:=eq_true aO
                go_wp2_with (first|((with_reducible refine gd 5 rfl ?_);refine bx 5 #[.int .i64 0, .int .i64 0, .slice none 0 0, .int .i64 0, .int .i64 0, .slice none 0 0, .slice none 0 0, .slice none 0 0] 50 ?_;intro p hg eo hbox hb;have s:=Aside0.mk hbox;have a3:=hz HB hg;have cc:=hz HB hg;have aq:=nl o hg;have ar:=ng o hg;replace o:=kb o hb;replace HB:=hs HB hb;clear hb hbox hg;have cT:=ar.out;have cU:=aq.out;obtain⟨_,_,_,_,_,_,_,_,_,_,_,_,_,_,_,_⟩:=cf8 s;obtain⟨_,_,_,_⟩:=cf2 o;have aP:0≤(q:Int):=od;have aR:q<(m.length:Int):=od;obtain⟨a4,b0,b1,b2,b3,b4,b5,b6,b7,bw,a,b,c,d,g,i,j,l,O,P,T,U,W,X,Y,Z⟩:=dx a2.out q aP aR;obtain rfl:aS=a4:=(by injection bw);have a0:aS.block≠p:=Nat.ne_of_lt (Nat.lt_of_lt_of_le (by have:=World.block_lt_of_cell? _ _ a;first|rwa [add_block]at this|exact this) a3.out);obtain⟨a,b,c,d,g,i,j,l⟩:=hc8 HB a b c d g i j l;have bd:=Aside0.mk P;have be:=Aside0.mk O;clear P O;have bh:=Aside0.mk U;have bj:=Aside0.mk T;clear U T;have bk:=Aside0.mk X;have bm:=Aside0.mk W;clear X W;have bo:=Aside0.mk Z;have bp:=Aside0.mk Y;clear Z Y;obtain⟨a,b,c,d,g,i,j,l⟩:=fw8 ⟨p,0,none⟩ (.int .i64 ((aa m n).f0)) a b c d g i j l;obtain⟨a,b,c,d,g,i,j,l⟩:=fw8 ⟨p,1,none⟩ (.int .i64 ((aa m n).f1)) a b c d g i j l;obtain⟨a,b,c,d,g,i,j,l⟩:=fw8 ⟨p,2,none⟩ (.slice ab ((aa m n).f2).length ac) a b c d g i j l;obtain⟨a,b,c,d,g,i,j,l⟩:=fw8 ⟨p,3,none⟩ (.int .i64 ((aa m n).f3)) a b c d g i j l;obtain⟨a,b,c,d,g,i,j,l⟩:=fw8 ⟨p,4,none⟩ (.int .i64 ((aa m n).f4)) a b c d g i j l;obtain⟨a,b,c,d,g,i,j,l⟩:=fw8 ⟨p,5,none⟩ (.slice ad ((aa m n).f5).length al) a b c d g i j l;obtain⟨a,b,c,d,g,i,j,l⟩:=fw8 ⟨p,6,none⟩ (.slice am ((aa m n).f6).length an) a b c d g i j l;obtain⟨a,b,c,d,g,i,j,l⟩:=fw8 ⟨p,7,none⟩ (.slice ao ((aa m n).f7).length ap) a b c d g i j l;clear a0;replace aP:=eq_true aP;replace aR:=eq_true aR)|((with_reducible refine gd 6 rfl ?_);refine bx 6 #[.int .i64 0, .int .i64 0, .slice none 0 0, .int .i64 0, .int .i64 0, .slice none 0 0, .slice none 0 0, .slice none 0 0] 50 ?_;intro b8 hg ep hbox hb;have a1:=Aside0.mk hbox;have cd:=hz HB hg;have ce:=hz HB hg;have aw:=nl o hg;have aB:=ng o hg;have aE:=nl s hg;have aF:=ng s hg;replace o:=kq o hb;replace s:=kp p #[.int .i64 ((aa m n).f0), .int .i64 ((aa m n).f1), .slice ab ((aa m n).f2).length ac, .int .i64 ((aa m n).f3), .int .i64 ((aa m n).f4), .slice ad ((aa m n).f5).length al, .slice am ((aa m n).f6).length an, .slice ao ((aa m n).f7).length ap] 50 hb;replace HB:=hs HB hb;clear hb hbox hg;have cV:=aB.out;have cW:=aw.out;have cX:=aF.out;have cY:=aE.out;obtain⟨_,_,_,_,_,_,_,_,_,_,_,_,_,_,_,_⟩:=cf8 a1;obtain⟨_,_,_,_,_,_,_,_,_,_,_,_,_,_,_,_⟩:=cf8 s;obtain⟨_,_,_,_⟩:=cf2 o)|(go_at_call 75;(with_reducible refine(dN.calls k2 _ _ br ((aa m n).f0) ((aa m q).f0) true _ ?s1 ?s2 cq.out).mono ?_);(case s1=>exact cb cf.out);(case s2=>exact cg.out);rintro e w' ⟨rfl,⟨nd,rfl⟩⟩))
                go_ret
                exact fin
               ·rw[if_neg c24]at H
                have cw:=beq_eq_false_iff_ne.mpr c24
                have cx:=bne_iff_ne.mpr c24
                obtain⟨t203,cy,H⟩:=ob H
                by_cases c37:t203=true
                ·subst c37
                 replace H:=it H
                 have H' :=Aside0.mk H
                 clear H
                 obtain⟨_,_,_,_⟩:=cf2 o
                 have aL:0≤(n:Int):=od
                 have aO:n<(m.length:Int):=od
                 obtain⟨aS,ab,ac,ad,al,am,an,ao,ap,bs,t,u,v,x,y,z,A,B,D,E,G,I,J,K,L,M⟩:=dx a2.out n aL aO
                 cases bs
                 obtain⟨t,u,v,x,y,z,A,B⟩:=hc8 HB t u v x y z A B
                 have a5:=Aside0.mk E
                 have a6:=Aside0.mk D
                 clear E D
                 have a7:=Aside0.mk I
                 have a8:=Aside0.mk G
                 clear I G
                 have a9:=Aside0.mk K
                 have ba:=Aside0.mk J
                 clear K J
                 have bb:=Aside0.mk M
                 have bc:=Aside0.mk L
                 clear M L
                 replace aL:=eq_true aL
                 replace aO:=eq_true aO
                 go_wp2_with (first|((with_reducible refine gd 5 rfl ?_);refine bx 5 #[.int .i64 0, .int .i64 0, .slice none 0 0, .int .i64 0, .int .i64 0, .slice none 0 0, .slice none 0 0, .slice none 0 0] 50 ?_;intro p hg eq hbox hb;have s:=Aside0.mk hbox;have a3:=hz HB hg;have cc:=hz HB hg;have aq:=nl o hg;have ar:=ng o hg;replace o:=kb o hb;replace HB:=hs HB hb;clear hb hbox hg;have c0:=ar.out;have c1:=aq.out;obtain⟨_,_,_,_,_,_,_,_,_,_,_,_,_,_,_,_⟩:=cf8 s;obtain⟨_,_,_,_⟩:=cf2 o;have aP:0≤(q:Int):=od;have aR:q<(m.length:Int):=od;obtain⟨a4,b0,b1,b2,b3,b4,b5,b6,b7,bw,a,b,c,d,g,i,j,l,O,P,T,U,W,X,Y,Z⟩:=dx a2.out q aP aR;obtain rfl:aS=a4:=(by injection bw);have a0:aS.block≠p:=Nat.ne_of_lt (Nat.lt_of_lt_of_le (by have:=World.block_lt_of_cell? _ _ a;first|rwa [add_block]at this|exact this) a3.out);obtain⟨a,b,c,d,g,i,j,l⟩:=hc8 HB a b c d g i j l;have bd:=Aside0.mk P;have be:=Aside0.mk O;clear P O;have bh:=Aside0.mk U;have bj:=Aside0.mk T;clear U T;have bk:=Aside0.mk X;have bm:=Aside0.mk W;clear X W;have bo:=Aside0.mk Z;have bp:=Aside0.mk Y;clear Z Y;obtain⟨a,b,c,d,g,i,j,l⟩:=fw8 ⟨p,0,none⟩ (.int .i64 ((aa m n).f0)) a b c d g i j l;obtain⟨a,b,c,d,g,i,j,l⟩:=fw8 ⟨p,1,none⟩ (.int .i64 ((aa m n).f1)) a b c d g i j l;obtain⟨a,b,c,d,g,i,j,l⟩:=fw8 ⟨p,2,none⟩ (.slice ab ((aa m n).f2).length ac) a b c d g i j l;obtain⟨a,b,c,d,g,i,j,l⟩:=fw8 ⟨p,3,none⟩ (.int .i64 ((aa m n).f3)) a b c d g i j l;obtain⟨a,b,c,d,g,i,j,l⟩:=fw8 ⟨p,4,none⟩ (.int .i64 ((aa m n).f4)) a b c d g i j l;obtain⟨a,b,c,d,g,i,j,l⟩:=fw8 ⟨p,5,none⟩ (.slice ad ((aa m n).f5).length al) a b c d g i j l;obtain⟨a,b,c,d,g,i,j,l⟩:=fw8 ⟨p,6,none⟩ (.slice am ((aa m n).f6).length an) a b c d g i j l;obtain⟨a,b,c,d,g,i,j,l⟩:=fw8 ⟨p,7,none⟩ (.slice ao ((aa m n).f7).length ap) a b c d g i j l;clear a0;replace aP:=eq_true aP;replace aR:=eq_true aR)|((with_reducible refine gd 6 rfl ?_);refine bx 6 #[.int .i64 0, .int .i64 0, .slice none 0 0, .int .i64 0, .int .i64 0, .slice none 0 0, .slice none 0 0, .slice none 0 0] 50 ?_;intro b8 hg er hbox hb;have a1:=Aside0.mk hbox;have cd:=hz HB hg;have ce:=hz HB hg;have aw:=nl o hg;have aB:=ng o hg;have aE:=nl s hg;have aF:=ng s hg;replace o:=kq o hb;replace s:=kp p #[.int .i64 ((aa m n).f0), .int .i64 ((aa m n).f1), .slice ab ((aa m n).f2).length ac, .int .i64 ((aa m n).f3), .int .i64 ((aa m n).f4), .slice ad ((aa m n).f5).length al, .slice am ((aa m n).f6).length an, .slice ao ((aa m n).f7).length ap] 50 hb;replace HB:=hs HB hb;clear hb hbox hg;have da:=aB.out;have db:=aw.out;have dc:=aF.out;have dd:=aE.out;obtain⟨_,_,_,_,_,_,_,_,_,_,_,_,_,_,_,_⟩:=cf8 a1;obtain⟨_,_,_,_,_,_,_,_,_,_,_,_,_,_,_,_⟩:=cf8 s;obtain⟨_,_,_,_⟩:=cf2 o)|(go_at_call 75;(with_reducible refine(dN.calls k2 _ _ br ((aa m n).f0) ((aa m q).f0) true _ ?s1 ?s2 cq.out).mono ?_);(case s1=>exact cb cf.out);(case s2=>exact cg.out);rintro e w' ⟨rfl,⟨nd,rfl⟩⟩)|(go_at_call 76;(with_reducible refine(bP.calls k2 ((aa m n).f0) ((aa m n).f1) _ _ ((aa m n).f2) ((aa m n).f3) ((aa m n).f4) _ _ ((aa m n).f5) _ _ ((aa m n).f6) _ _ ((aa m n).f7) ((aa m q).f0) ((aa m q).f1) _ _ ((aa m q).f2) ((aa m q).f3) ((aa m q).f4) _ _ ((aa m q).f5) _ _ ((aa m q).f6) _ _ ((aa m q).f7) true _ ?s1 ?s2 ?s3 ?s4 ?s5 ?s6 ?s7 ?s8 ?s9 ?s10 ?s11 ?s12 ?s13 ?s14 ?s15 ?s16 cy.out).mono ?_);(case s1=>exact cb a5.out);(case s2=>exact a6.out);(case s3=>exact cb a7.out);(case s4=>exact a8.out);(case s5=>exact cb a9.out);(case s6=>exact ba.out);(case s7=>exact cb bb.out);(case s8=>exact bc.out);(case s9=>exact cb bd.out);(case s10=>exact be.out);(case s11=>exact cb bh.out);(case s12=>exact bj.out);(case s13=>exact cb bk.out);(case s14=>exact bm.out);(case s15=>exact cb bo.out);(case s16=>exact bp.out);rintro e es ⟨rfl,hb⟩;replace o:=kq o hb;replace s:=kq s hb;replace a1:=kp b8 #[.int .i64 ((aa m q).f0), .int .i64 ((aa m q).f1), .slice b0 ((aa m q).f2).length b1, .int .i64 ((aa m q).f3), .int .i64 ((aa m q).f4), .slice b2 ((aa m q).f5).length b3, .slice b4 ((aa m q).f6).length b5, .slice b6 ((aa m q).f7).length b7] 50 hb;replace HB:=hs HB hb;(try clear hb)))
                 go_roundg k2
                 case measure=>have:=b9.out;have:=ca.out;omega
                 case rel=>exact⟨(wrap64 (q+1)),(by first|rfl|(simp;done)|(simp[*];done)),H',⟨by have:=b9.out;have:=ca.out;omega⟩,kk o,⟨bl⟩⟩
                ·replace c37:=Bool.eq_false_iff.mpr c37
                 subst c37
                 replace H:=ie H
                 obtain rfl:=Option.some.inj H;clear H
                 obtain⟨_,_,_,_⟩:=cf2 o
                 have aL:0≤(n:Int):=od
                 have aO:n<(m.length:Int):=od
                 obtain⟨aS,ab,ac,ad,al,am,an,ao,ap,bs,t,u,v,x,y,z,A,B,D,E,G,I,J,K,L,M⟩:=dx a2.out n aL aO
                 cases bs
                 obtain⟨t,u,v,x,y,z,A,B⟩:=hc8 HB t u v x y z A B
                 have a5:=Aside0.mk E
                 have a6:=Aside0.mk D
                 clear E D
                 have a7:=Aside0.mk I
                 have a8:=Aside0.mk G
                 clear I G
                 have a9:=Aside0.mk K
                 have ba:=Aside0.mk J
                 clear K J
                 have bb:=Aside0.mk M
                 have bc:=Aside0.mk L
                 clear M L
                 replace aL:=eq_true aL
                 replace aO:=eq_true aO
                 go_wp2_with (first|((with_reducible refine gd 5 rfl ?_);refine bx 5 #[.int .i64 0, .int .i64 0, .slice none 0 0, .int .i64 0, .int .i64 0, .slice none 0 0, .slice none 0 0, .slice none 0 0] 50 ?_;intro p hg et hbox hb;have s:=Aside0.mk hbox;have a3:=hz HB hg;have cc:=hz HB hg;have aq:=nl o hg;have ar:=ng o hg;replace o:=kb o hb;replace HB:=hs HB hb;clear hb hbox hg;have de:=ar.out;have dg:=aq.out;obtain⟨_,_,_,_,_,_,_,_,_,_,_,_,_,_,_,_⟩:=cf8 s;obtain⟨_,_,_,_⟩:=cf2 o;have aP:0≤(q:Int):=od;have aR:q<(m.length:Int):=od;obtain⟨a4,b0,b1,b2,b3,b4,b5,b6,b7,bw,a,b,c,d,g,i,j,l,O,P,T,U,W,X,Y,Z⟩:=dx a2.out q aP aR;obtain rfl:aS=a4:=(by injection bw);have a0:aS.block≠p:=Nat.ne_of_lt (Nat.lt_of_lt_of_le (by have:=World.block_lt_of_cell? _ _ a;first|rwa [add_block]at this|exact this) a3.out);obtain⟨a,b,c,d,g,i,j,l⟩:=hc8 HB a b c d g i j l;have bd:=Aside0.mk P;have be:=Aside0.mk O;clear P O;have bh:=Aside0.mk U;have bj:=Aside0.mk T;clear U T;have bk:=Aside0.mk X;have bm:=Aside0.mk W;clear X W;have bo:=Aside0.mk Z;have bp:=Aside0.mk Y;clear Z Y;obtain⟨a,b,c,d,g,i,j,l⟩:=fw8 ⟨p,0,none⟩ (.int .i64 ((aa m n).f0)) a b c d g i j l;obtain⟨a,b,c,d,g,i,j,l⟩:=fw8 ⟨p,1,none⟩ (.int .i64 ((aa m n).f1)) a b c d g i j l;obtain⟨a,b,c,d,g,i,j,l⟩:=fw8 ⟨p,2,none⟩ (.slice ab ((aa m n).f2).length ac) a b c d g i j l;obtain⟨a,b,c,d,g,i,j,l⟩:=fw8 ⟨p,3,none⟩ (.int .i64 ((aa m n).f3)) a b c d g i j l;obtain⟨a,b,c,d,g,i,j,l⟩:=fw8 ⟨p,4,none⟩ (.int .i64 ((aa m n).f4)) a b c d g i j l;obtain⟨a,b,c,d,g,i,j,l⟩:=fw8 ⟨p,5,none⟩ (.slice ad ((aa m n).f5).length al) a b c d g i j l;obtain⟨a,b,c,d,g,i,j,l⟩:=fw8 ⟨p,6,none⟩ (.slice am ((aa m n).f6).length an) a b c d g i j l;obtain⟨a,b,c,d,g,i,j,l⟩:=fw8 ⟨p,7,none⟩ (.slice ao ((aa m n).f7).length ap) a b c d g i j l;clear a0;replace aP:=eq_true aP;replace aR:=eq_true aR)|((with_reducible refine gd 6 rfl ?_);refine bx 6 #[.int .i64 0, .int .i64 0, .slice none 0 0, .int .i64 0, .int .i64 0, .slice none 0 0, .slice none 0 0, .slice none 0 0] 50 ?_;intro b8 hg ev hbox hb;have a1:=Aside0.mk hbox;have cd:=hz HB hg;have ce:=hz HB hg;have aw:=nl o hg;have aB:=ng o hg;have aE:=nl s hg;have aF:=ng s hg;replace o:=kq o hb;replace s:=kp p #[.int .i64 ((aa m n).f0), .int .i64 ((aa m n).f1), .slice ab ((aa m n).f2).length ac, .int .i64 ((aa m n).f3), .int .i64 ((aa m n).f4), .slice ad ((aa m n).f5).length al, .slice am ((aa m n).f6).length an, .slice ao ((aa m n).f7).length ap] 50 hb;replace HB:=hs HB hb;clear hb hbox hg;have dj:=aB.out;have dk:=aw.out;have dl:=aF.out;have dp:=aE.out;obtain⟨_,_,_,_,_,_,_,_,_,_,_,_,_,_,_,_⟩:=cf8 a1;obtain⟨_,_,_,_,_,_,_,_,_,_,_,_,_,_,_,_⟩:=cf8 s;obtain⟨_,_,_,_⟩:=cf2 o)|(go_at_call 75;(with_reducible refine(dN.calls k2 _ _ br ((aa m n).f0) ((aa m q).f0) true _ ?s1 ?s2 cq.out).mono ?_);(case s1=>exact cb cf.out);(case s2=>exact cg.out);rintro e w' ⟨rfl,⟨nd,rfl⟩⟩)|(go_at_call 76;(with_reducible refine(bP.calls k2 ((aa m n).f0) ((aa m n).f1) _ _ ((aa m n).f2) ((aa m n).f3) ((aa m n).f4) _ _ ((aa m n).f5) _ _ ((aa m n).f6) _ _ ((aa m n).f7) ((aa m q).f0) ((aa m q).f1) _ _ ((aa m q).f2) ((aa m q).f3) ((aa m q).f4) _ _ ((aa m q).f5) _ _ ((aa m q).f6) _ _ ((aa m q).f7) false _ ?s1 ?s2 ?s3 ?s4 ?s5 ?s6 ?s7 ?s8 ?s9 ?s10 ?s11 ?s12 ?s13 ?s14 ?s15 ?s16 cy.out).mono ?_);(case s1=>exact cb a5.out);(case s2=>exact a6.out);(case s3=>exact cb a7.out);(case s4=>exact a8.out);(case s5=>exact cb a9.out);(case s6=>exact ba.out);(case s7=>exact cb bb.out);(case s8=>exact bc.out);(case s9=>exact cb bd.out);(case s10=>exact be.out);(case s11=>exact cb bh.out);(case s12=>exact bj.out);(case s13=>exact cb bk.out);(case s14=>exact bm.out);(case s15=>exact cb bo.out);(case s16=>exact bp.out);rintro e ew ⟨rfl,hb⟩;replace o:=kq o hb;replace s:=kq s hb;replace a1:=kp b8 #[.int .i64 ((aa m q).f0), .int .i64 ((aa m q).f1), .slice b0 ((aa m q).f2).length b1, .int .i64 ((aa m q).f3), .int .i64 ((aa m q).f4), .slice b2 ((aa m q).f5).length b3, .slice b4 ((aa m q).f6).length b5, .slice b6 ((aa m q).f7).length b7] 50 hb;replace HB:=hs HB hb;(try clear hb)))
                 go_ret
                 exact fin
              ·replace c23:=Bool.eq_false_iff.mpr c23
               subst c23
               replace H:=ie H
               have H' :=Aside0.mk H
               clear H
               obtain⟨_,_,_,_⟩:=cf2 o
               have aL:0≤(n:Int):=od
               have aO:n<(m.length:Int):=od
               obtain⟨aS,ab,ac,ad,al,am,an,ao,ap,bs,t,u,v,x,y,z,A,B,D,E,G,I,J,K,L,M⟩:=dx a2.out n aL aO
               cases bs
               obtain⟨t,u,v,x,y,z,A,B⟩:=hc8 HB t u v x y z A B
               have a5:=Aside0.mk E
               have a6:=Aside0.mk D
               clear E D
               have a7:=Aside0.mk I
               have a8:=Aside0.mk G
               clear I G
               have a9:=Aside0.mk K
               have ba:=Aside0.mk J
               clear K J
               have bb:=Aside0.mk M
               have bc:=Aside0.mk L
               clear M L
               replace aL:=eq_true aL
               replace aO:=eq_true aO
               go_wp2_with (first|((with_reducible refine gd 5 rfl ?_);refine bx 5 #[.int .i64 0, .int .i64 0, .slice none 0 0, .int .i64 0, .int .i64 0, .slice none 0 0, .slice none 0 0, .slice none 0 0] 50 ?_;intro p hg ex hbox hb;have s:=Aside0.mk hbox;have a3:=hz HB hg;have cc:=hz HB hg;have aq:=nl o hg;have ar:=ng o hg;replace o:=kb o hb;replace HB:=hs HB hb;clear hb hbox hg;have dq:=ar.out;have dr:=aq.out;obtain⟨_,_,_,_,_,_,_,_,_,_,_,_,_,_,_,_⟩:=cf8 s;obtain⟨_,_,_,_⟩:=cf2 o;have aP:0≤(q:Int):=od;have aR:q<(m.length:Int):=od;obtain⟨a4,b0,b1,b2,b3,b4,b5,b6,b7,bw,a,b,c,d,g,i,j,l,O,P,T,U,W,X,Y,Z⟩:=dx a2.out q aP aR;obtain rfl:aS=a4:=(by injection bw);have a0:aS.block≠p:=Nat.ne_of_lt (Nat.lt_of_lt_of_le (by have:=World.block_lt_of_cell? _ _ a;first|rwa [add_block]at this|exact this) a3.out);obtain⟨a,b,c,d,g,i,j,l⟩:=hc8 HB a b c d g i j l;have bd:=Aside0.mk P;have be:=Aside0.mk O;clear P O;have bh:=Aside0.mk U;have bj:=Aside0.mk T;clear U T;have bk:=Aside0.mk X;have bm:=Aside0.mk W;clear X W;have bo:=Aside0.mk Z;have bp:=Aside0.mk Y;clear Z Y;obtain⟨a,b,c,d,g,i,j,l⟩:=fw8 ⟨p,0,none⟩ (.int .i64 ((aa m n).f0)) a b c d g i j l;obtain⟨a,b,c,d,g,i,j,l⟩:=fw8 ⟨p,1,none⟩ (.int .i64 ((aa m n).f1)) a b c d g i j l;obtain⟨a,b,c,d,g,i,j,l⟩:=fw8 ⟨p,2,none⟩ (.slice ab ((aa m n).f2).length ac) a b c d g i j l;obtain⟨a,b,c,d,g,i,j,l⟩:=fw8 ⟨p,3,none⟩ (.int .i64 ((aa m n).f3)) a b c d g i j l;obtain⟨a,b,c,d,g,i,j,l⟩:=fw8 ⟨p,4,none⟩ (.int .i64 ((aa m n).f4)) a b c d g i j l;obtain⟨a,b,c,d,g,i,j,l⟩:=fw8 ⟨p,5,none⟩ (.slice ad ((aa m n).f5).length al) a b c d g i j l;obtain⟨a,b,c,d,g,i,j,l⟩:=fw8 ⟨p,6,none⟩ (.slice am ((aa m n).f6).length an) a b c d g i j l;obtain⟨a,b,c,d,g,i,j,l⟩:=fw8 ⟨p,7,none⟩ (.slice ao ((aa m n).f7).length ap) a b c d g i j l;clear a0;replace aP:=eq_true aP;replace aR:=eq_true aR)|((with_reducible refine gd 6 rfl ?_);refine bx 6 #[.int .i64 0, .int .i64 0, .slice none 0 0, .int .i64 0, .int .i64 0, .slice none 0 0, .slice none 0 0, .slice none 0 0] 50 ?_;intro b8 hg ey hbox hb;have a1:=Aside0.mk hbox;have cd:=hz HB hg;have ce:=hz HB hg;have aw:=nl o hg;have aB:=ng o hg;have aE:=nl s hg;have aF:=ng s hg;replace o:=kq o hb;replace s:=kp p #[.int .i64 ((aa m n).f0), .int .i64 ((aa m n).f1), .slice ab ((aa m n).f2).length ac, .int .i64 ((aa m n).f3), .int .i64 ((aa m n).f4), .slice ad ((aa m n).f5).length al, .slice am ((aa m n).f6).length an, .slice ao ((aa m n).f7).length ap] 50 hb;replace HB:=hs HB hb;clear hb hbox hg;have ds:=aB.out;have dt:=aw.out;have du:=aF.out;have dv:=aE.out;obtain⟨_,_,_,_,_,_,_,_,_,_,_,_,_,_,_,_⟩:=cf8 a1;obtain⟨_,_,_,_,_,_,_,_,_,_,_,_,_,_,_,_⟩:=cf8 s;obtain⟨_,_,_,_⟩:=cf2 o)|(go_at_call 75;(with_reducible refine(dN.calls k2 _ _ br ((aa m n).f0) ((aa m q).f0) false _ ?s1 ?s2 cq.out).mono ?_);(case s1=>exact cb cf.out);(case s2=>exact cg.out);rintro e w' ⟨rfl,⟨nd,rfl⟩⟩))
               go_roundg k2
               case measure=>have:=b9.out;have:=ca.out;omega
               case rel=>exact⟨(wrap64 (q+1)),(by first|rfl|(simp;done)|(simp[*];done)),H',⟨by have:=b9.out;have:=ca.out;omega⟩,kf,⟨bl⟩⟩
             ·rw[if_neg c21]at H
              have ct:=beq_eq_false_iff_ne.mpr c21
              have cv:=bne_iff_ne.mpr c21
              have H' :=Aside0.mk H
              clear H
              obtain⟨_,_,_,_⟩:=cf2 o
              have aL:0≤(n:Int):=od
              have aO:n<(m.length:Int):=od
              obtain⟨aS,ab,ac,ad,al,am,an,ao,ap,bs,t,u,v,x,y,z,A,B,D,E,G,I,J,K,L,M⟩:=dx a2.out n aL aO
              cases bs
              obtain⟨t,u,v,x,y,z,A,B⟩:=hc8 HB t u v x y z A B
              have a5:=Aside0.mk E
              have a6:=Aside0.mk D
              clear E D
              have a7:=Aside0.mk I
              have a8:=Aside0.mk G
              clear I G
              have a9:=Aside0.mk K
              have ba:=Aside0.mk J
              clear K J
              have bb:=Aside0.mk M
              have bc:=Aside0.mk L
              clear M L
              replace aL:=eq_true aL
              replace aO:=eq_true aO
              go_wp2_with (first|((with_reducible refine gd 5 rfl ?_);refine bx 5 #[.int .i64 0, .int .i64 0, .slice none 0 0, .int .i64 0, .int .i64 0, .slice none 0 0, .slice none 0 0, .slice none 0 0] 50 ?_;intro p hg ez hbox hb;have s:=Aside0.mk hbox;have a3:=hz HB hg;have cc:=hz HB hg;have aq:=nl o hg;have ar:=ng o hg;replace o:=kb o hb;replace HB:=hs HB hb;clear hb hbox hg;have dy:=ar.out;have dT:=aq.out;obtain⟨_,_,_,_,_,_,_,_,_,_,_,_,_,_,_,_⟩:=cf8 s;obtain⟨_,_,_,_⟩:=cf2 o;have aP:0≤(q:Int):=od;have aR:q<(m.length:Int):=od;obtain⟨a4,b0,b1,b2,b3,b4,b5,b6,b7,bw,a,b,c,d,g,i,j,l,O,P,T,U,W,X,Y,Z⟩:=dx a2.out q aP aR;obtain rfl:aS=a4:=(by injection bw);have a0:aS.block≠p:=Nat.ne_of_lt (Nat.lt_of_lt_of_le (by have:=World.block_lt_of_cell? _ _ a;first|rwa [add_block]at this|exact this) a3.out);obtain⟨a,b,c,d,g,i,j,l⟩:=hc8 HB a b c d g i j l;have bd:=Aside0.mk P;have be:=Aside0.mk O;clear P O;have bh:=Aside0.mk U;have bj:=Aside0.mk T;clear U T;have bk:=Aside0.mk X;have bm:=Aside0.mk W;clear X W;have bo:=Aside0.mk Z;have bp:=Aside0.mk Y;clear Z Y;obtain⟨a,b,c,d,g,i,j,l⟩:=fw8 ⟨p,0,none⟩ (.int .i64 ((aa m n).f0)) a b c d g i j l;obtain⟨a,b,c,d,g,i,j,l⟩:=fw8 ⟨p,1,none⟩ (.int .i64 ((aa m n).f1)) a b c d g i j l;obtain⟨a,b,c,d,g,i,j,l⟩:=fw8 ⟨p,2,none⟩ (.slice ab ((aa m n).f2).length ac) a b c d g i j l;obtain⟨a,b,c,d,g,i,j,l⟩:=fw8 ⟨p,3,none⟩ (.int .i64 ((aa m n).f3)) a b c d g i j l;obtain⟨a,b,c,d,g,i,j,l⟩:=fw8 ⟨p,4,none⟩ (.int .i64 ((aa m n).f4)) a b c d g i j l;obtain⟨a,b,c,d,g,i,j,l⟩:=fw8 ⟨p,5,none⟩ (.slice ad ((aa m n).f5).length al) a b c d g i j l;obtain⟨a,b,c,d,g,i,j,l⟩:=fw8 ⟨p,6,none⟩ (.slice am ((aa m n).f6).length an) a b c d g i j l;obtain⟨a,b,c,d,g,i,j,l⟩:=fw8 ⟨p,7,none⟩ (.slice ao ((aa m n).f7).length ap) a b c d g i j l;clear a0;replace aP:=eq_true aP;replace aR:=eq_true aR)|((with_reducible refine gd 6 rfl ?_);refine bx 6 #[.int .i64 0, .int .i64 0, .slice none 0 0, .int .i64 0, .int .i64 0, .slice none 0 0, .slice none 0 0, .slice none 0 0] 50 ?_;intro b8 hg eA hbox hb;have a1:=Aside0.mk hbox;have cd:=hz HB hg;have ce:=hz HB hg;have aw:=nl o hg;have aB:=ng o hg;have aE:=nl s hg;have aF:=ng s hg;replace o:=kq o hb;replace s:=kp p #[.int .i64 ((aa m n).f0), .int .i64 ((aa m n).f1), .slice ab ((aa m n).f2).length ac, .int .i64 ((aa m n).f3), .int .i64 ((aa m n).f4), .slice ad ((aa m n).f5).length al, .slice am ((aa m n).f6).length an, .slice ao ((aa m n).f7).length ap] 50 hb;replace HB:=hs HB hb;clear hb hbox hg;have d0:=aB.out;have d1:=aw.out;have d2:=aF.out;have d3:=aE.out;obtain⟨_,_,_,_,_,_,_,_,_,_,_,_,_,_,_,_⟩:=cf8 a1;obtain⟨_,_,_,_,_,_,_,_,_,_,_,_,_,_,_,_⟩:=cf8 s))
              go_roundg k2
              case measure=>have:=b9.out;have:=ca.out;omega
              case rel=>exact⟨(wrap64 (q+1)),(by first|rfl|(simp;done)|(simp[*];done)),H',⟨by have:=b9.out;have:=ca.out;omega⟩,kf,⟨bl⟩⟩
            ·rw[if_neg c20]at H
             have cs:decide (0≤((aa m q).f0))=false:=decide_eq_false c20
             clear c20
             have H' :=Aside0.mk H
             clear H
             obtain⟨_,_,_,_⟩:=cf2 o
             have aL:0≤(n:Int):=od
             have aO:n<(m.length:Int):=od
             obtain⟨aS,ab,ac,ad,al,am,an,ao,ap,bs,t,u,v,x,y,z,A,B,D,E,G,I,J,K,L,M⟩:=dx a2.out n aL aO
             cases bs
             obtain⟨t,u,v,x,y,z,A,B⟩:=hc8 HB t u v x y z A B
             have a5:=Aside0.mk E
             have a6:=Aside0.mk D
             clear E D
             have a7:=Aside0.mk I
             have a8:=Aside0.mk G
             clear I G
             have a9:=Aside0.mk K
             have ba:=Aside0.mk J
             clear K J
             have bb:=Aside0.mk M
             have bc:=Aside0.mk L
             clear M L
             replace aL:=eq_true aL
             replace aO:=eq_true aO
             go_wp2_with (first|((with_reducible refine gd 5 rfl ?_);refine bx 5 #[.int .i64 0, .int .i64 0, .slice none 0 0, .int .i64 0, .int .i64 0, .slice none 0 0, .slice none 0 0, .slice none 0 0] 50 ?_;intro p hg eC hbox hb;have s:=Aside0.mk hbox;have a3:=hz HB hg;have cc:=hz HB hg;have aq:=nl o hg;have ar:=ng o hg;replace o:=kb o hb;replace HB:=hs HB hb;clear hb hbox hg;have d4:=ar.out;have d5:=aq.out;obtain⟨_,_,_,_,_,_,_,_,_,_,_,_,_,_,_,_⟩:=cf8 s;obtain⟨_,_,_,_⟩:=cf2 o;have aP:0≤(q:Int):=od;have aR:q<(m.length:Int):=od;obtain⟨a4,b0,b1,b2,b3,b4,b5,b6,b7,bw,a,b,c,d,g,i,j,l,O,P,T,U,W,X,Y,Z⟩:=dx a2.out q aP aR;obtain rfl:aS=a4:=(by injection bw);have a0:aS.block≠p:=Nat.ne_of_lt (Nat.lt_of_lt_of_le (by have:=World.block_lt_of_cell? _ _ a;first|rwa [add_block]at this|exact this) a3.out);obtain⟨a,b,c,d,g,i,j,l⟩:=hc8 HB a b c d g i j l;have bd:=Aside0.mk P;have be:=Aside0.mk O;clear P O;have bh:=Aside0.mk U;have bj:=Aside0.mk T;clear U T;have bk:=Aside0.mk X;have bm:=Aside0.mk W;clear X W;have bo:=Aside0.mk Z;have bp:=Aside0.mk Y;clear Z Y;obtain⟨a,b,c,d,g,i,j,l⟩:=fw8 ⟨p,0,none⟩ (.int .i64 ((aa m n).f0)) a b c d g i j l;obtain⟨a,b,c,d,g,i,j,l⟩:=fw8 ⟨p,1,none⟩ (.int .i64 ((aa m n).f1)) a b c d g i j l;obtain⟨a,b,c,d,g,i,j,l⟩:=fw8 ⟨p,2,none⟩ (.slice ab ((aa m n).f2).length ac) a b c d g i j l;obtain⟨a,b,c,d,g,i,j,l⟩:=fw8 ⟨p,3,none⟩ (.int .i64 ((aa m n).f3)) a b c d g i j l;obtain⟨a,b,c,d,g,i,j,l⟩:=fw8 ⟨p,4,none⟩ (.int .i64 ((aa m n).f4)) a b c d g i j l;obtain⟨a,b,c,d,g,i,j,l⟩:=fw8 ⟨p,5,none⟩ (.slice ad ((aa m n).f5).length al) a b c d g i j l;obtain⟨a,b,c,d,g,i,j,l⟩:=fw8 ⟨p,6,none⟩ (.slice am ((aa m n).f6).length an) a b c d g i j l;obtain⟨a,b,c,d,g,i,j,l⟩:=fw8 ⟨p,7,none⟩ (.slice ao ((aa m n).f7).length ap) a b c d g i j l;clear a0;replace aP:=eq_true aP;replace aR:=eq_true aR)|((with_reducible refine gd 6 rfl ?_);refine bx 6 #[.int .i64 0, .int .i64 0, .slice none 0 0, .int .i64 0, .int .i64 0, .slice none 0 0, .slice none 0 0, .slice none 0 0] 50 ?_;intro b8 hg eE hbox hb;have a1:=Aside0.mk hbox;have cd:=hz HB hg;have ce:=hz HB hg;have aw:=nl o hg;have aB:=ng o hg;have aE:=nl s hg;have aF:=ng s hg;replace o:=kq o hb;replace s:=kp p #[.int .i64 ((aa m n).f0), .int .i64 ((aa m n).f1), .slice ab ((aa m n).f2).length ac, .int .i64 ((aa m n).f3), .int .i64 ((aa m n).f4), .slice ad ((aa m n).f5).length al, .slice am ((aa m n).f6).length an, .slice ao ((aa m n).f7).length ap] 50 hb;replace HB:=hs HB hb;clear hb hbox hg;have d6:=aB.out;have d7:=aw.out;have d8:=aF.out;have ea:=aE.out;obtain⟨_,_,_,_,_,_,_,_,_,_,_,_,_,_,_,_⟩:=cf8 a1;obtain⟨_,_,_,_,_,_,_,_,_,_,_,_,_,_,_,_⟩:=cf8 s))
             go_roundg k2
             case measure=>have:=b9.out;have:=ca.out;omega
             case rel=>exact⟨(wrap64 (q+1)),(by first|rfl|(simp;done)|(simp[*];done)),H',⟨by have:=b9.out;have:=ca.out;omega⟩,kf,⟨bl⟩⟩
           ·rw[if_neg c19]at H
            have cr:decide (0≤((aa m n).f0))=false:=decide_eq_false c19
            clear c19
            have H' :=Aside0.mk H
            clear H
            obtain⟨_,_,_,_⟩:=cf2 o
            have aL:0≤(n:Int):=od
            have aO:n<(m.length:Int):=od
            obtain⟨aS,ab,ac,ad,al,am,an,ao,ap,bs,t,u,v,x,y,z,A,B,D,E,G,I,J,K,L,M⟩:=dx a2.out n aL aO
            cases bs
            obtain⟨t,u,v,x,y,z,A,B⟩:=hc8 HB t u v x y z A B
            have a5:=Aside0.mk E
            have a6:=Aside0.mk D
            clear E D
            have a7:=Aside0.mk I
            have a8:=Aside0.mk G
            clear I G
            have a9:=Aside0.mk K
            have ba:=Aside0.mk J
            clear K J
            have bb:=Aside0.mk M
            have bc:=Aside0.mk L
            clear M L
            replace aL:=eq_true aL
            replace aO:=eq_true aO
            go_wp2_with (first|((with_reducible refine gd 5 rfl ?_);refine bx 5 #[.int .i64 0, .int .i64 0, .slice none 0 0, .int .i64 0, .int .i64 0, .slice none 0 0, .slice none 0 0, .slice none 0 0] 50 ?_;intro p hg eI hbox hb;have s:=Aside0.mk hbox;have a3:=hz HB hg;have cc:=hz HB hg;have aq:=nl o hg;have ar:=ng o hg;replace o:=kb o hb;replace HB:=hs HB hb;clear hb hbox hg;have eb:=ar.out;have ec:=aq.out;obtain⟨_,_,_,_,_,_,_,_,_,_,_,_,_,_,_,_⟩:=cf8 s;obtain⟨_,_,_,_⟩:=cf2 o;have aP:0≤(q:Int):=od;have aR:q<(m.length:Int):=od;obtain⟨a4,b0,b1,b2,b3,b4,b5,b6,b7,bw,a,b,c,d,g,i,j,l,O,P,T,U,W,X,Y,Z⟩:=dx a2.out q aP aR;obtain rfl:aS=a4:=(by injection bw);have a0:aS.block≠p:=Nat.ne_of_lt (Nat.lt_of_lt_of_le (by have:=World.block_lt_of_cell? _ _ a;first|rwa [add_block]at this|exact this) a3.out);obtain⟨a,b,c,d,g,i,j,l⟩:=hc8 HB a b c d g i j l;have bd:=Aside0.mk P;have be:=Aside0.mk O;clear P O;have bh:=Aside0.mk U;have bj:=Aside0.mk T;clear U T;have bk:=Aside0.mk X;have bm:=Aside0.mk W;clear X W;have bo:=Aside0.mk Z;have bp:=Aside0.mk Y;clear Z Y;obtain⟨a,b,c,d,g,i,j,l⟩:=fw8 ⟨p,0,none⟩ (.int .i64 ((aa m n).f0)) a b c d g i j l;obtain⟨a,b,c,d,g,i,j,l⟩:=fw8 ⟨p,1,none⟩ (.int .i64 ((aa m n).f1)) a b c d g i j l;obtain⟨a,b,c,d,g,i,j,l⟩:=fw8 ⟨p,2,none⟩ (.slice ab ((aa m n).f2).length ac) a b c d g i j l;obtain⟨a,b,c,d,g,i,j,l⟩:=fw8 ⟨p,3,none⟩ (.int .i64 ((aa m n).f3)) a b c d g i j l;obtain⟨a,b,c,d,g,i,j,l⟩:=fw8 ⟨p,4,none⟩ (.int .i64 ((aa m n).f4)) a b c d g i j l;obtain⟨a,b,c,d,g,i,j,l⟩:=fw8 ⟨p,5,none⟩ (.slice ad ((aa m n).f5).length al) a b c d g i j l;obtain⟨a,b,c,d,g,i,j,l⟩:=fw8 ⟨p,6,none⟩ (.slice am ((aa m n).f6).length an) a b c d g i j l;obtain⟨a,b,c,d,g,i,j,l⟩:=fw8 ⟨p,7,none⟩ (.slice ao ((aa m n).f7).length ap) a b c d g i j l;clear a0;replace aP:=eq_true aP;replace aR:=eq_true aR)|((with_reducible refine gd 6 rfl ?_);refine bx 6 #[.int .i64 0, .int .i64 0, .slice none 0 0, .int .i64 0, .int .i64 0, .slice none 0 0, .slice none 0 0, .slice none 0 0] 50 ?_;intro b8 hg eJ hbox hb;have a1:=Aside0.mk hbox;have cd:=hz HB hg;have ce:=hz HB hg;have aw:=nl o hg;have aB:=ng o hg;have aE:=nl s hg;have aF:=ng s hg;replace o:=kq o hb;replace s:=kp p #[.int .i64 ((aa m n).f0), .int .i64 ((aa m n).f1), .slice ab ((aa m n).f2).length ac, .int .i64 ((aa m n).f3), .int .i64 ((aa m n).f4), .slice ad ((aa m n).f5).length al, .slice am ((aa m n).f6).length an, .slice ao ((aa m n).f7).length ap] 50 hb;replace HB:=hs HB hb;clear hb hbox hg;have ee:=aB.out;have ef:=aw.out;have cG:=aF.out;have cH:=aE.out;obtain⟨_,_,_,_,_,_,_,_,_,_,_,_,_,_,_,_⟩:=cf8 a1;obtain⟨_,_,_,_,_,_,_,_,_,_,_,_,_,_,_,_⟩:=cf8 s))
            go_roundg k2
            case measure=>have:=b9.out;have:=ca.out;omega
            case rel=>exact⟨(wrap64 (q+1)),(by first|rfl|(simp;done)|(simp[*];done)),H',⟨by have:=b9.out;have:=ca.out;omega⟩,kf,⟨bl⟩⟩
         ·rw[if_neg c8]at H
          exact absurd H (by simp)
        ·rw[if_neg c7]at H
         exact absurd H (by simp)
       ·rw[if_neg c6]at H
        exact absurd H (by simp)
      ·rw[if_neg c5]at H
       have cC:decide (q<(m.length:Int))=false:=decide_eq_false c5
       clear c5
       have H' :=Aside0.mk H
       clear H
       obtain⟨_,_,_,_⟩:=cf2 o
       go_wp2
       go_roundg k2
       case measure=>have:=b9.out;have:=ca.out;omega
       case rel=>exact⟨(wrap64 (n+1)),(by first|rfl|(simp;done)|(simp[*];done)),H',⟨by have:=b9.out;have:=ca.out;omega⟩,kk o,⟨bl⟩⟩
   ·rw[if_neg c3]at H
    have cA:decide (n<(m.length:Int))=false:=decide_eq_false c3
    clear c3
    obtain rfl:=Option.some.inj H;clear H
    obtain⟨_,_,_,_⟩:=cf2 o
    go_wp2
    go_ret
    exact fin
end Go.Proofs.Yteinbmkgenhocaa.P
end
