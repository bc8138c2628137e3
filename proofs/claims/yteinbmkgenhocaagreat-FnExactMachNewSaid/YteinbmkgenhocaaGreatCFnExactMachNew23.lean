/- A part of the claim FnExactMachNew. -/
import Derived.Test.YteinbmkgenhocaaGreatCFnExactMachNew22
section
namespace Go.Proofs.YteinbmkgenhocaaGreat.P
open Go Go.RowKit Go.Proofs.YteinbmkgenhocaaGreatW.PrintWords Go.Proofs.YteinbmkgenhocaaGreatW.PrintLast Go.Proofs.YteinbmkgenhocaaGreatW.PrintMore
set_option linter.unusedVariables false
set_option linter.unusedSimpArgs false
set_option maxHeartbeats 8000000 in
set_option maxRecDepth 100000 in
theorem dG.calls0 (A:Option Addr) (n c:Nat) (hn:n=0) (a:Int) (w:World):Calls Tryz.prog 91 #[.slice A n c, .int .i64 a] w fun e w' =>e= .returned (.int .i64 a)∧Below w.heap.size w w' :=by
  have HB:=Aside0.mk (Below.refl w.heap.size w)
  obtain⟨i,hi⟩: ∃i:Int,i=0:=⟨0,rfl⟩
  have cb:decide (i<(n:Int))=false:=by rw[hi,hn];rfl
  go_enter Tryz.func91,Tryz.ntmps91
  go_wp2
  go_loopg [1,5] 0 (fun kq v1 v5 w' =>v1= .int .i64 a∧v5= .int .i64 i∧Aside0 (Below w.heap.size w w'))
  case atStart=>exact⟨rfl,by rw[hi],⟨(by repeat(first|(with_reducible first|exact HB.out|apply aI|apply aG|apply aC)|exact HB.out))⟩⟩
  case round=>
    try clear p2
    obtain⟨rfl,rfl,HBn⟩:=hrel
    clear HB
    have HB:=HBn
    clear HBn
    go_wp2
    go_ret
    exact⟨rfl,(by repeat(first|(with_reducible first|exact HB.out|apply aI|apply aG|apply aC)|exact HB.out))⟩
set_option maxHeartbeats 8000000 in
set_option maxRecDepth 100000 in
theorem nQ.calls0 (A:Option Addr) (n c:Nat) (hn:n=0) (a:Int) (w:World):Calls Tryz.prog 45 #[.slice A n c, .int .i64 a] w fun e w' =>e= .returned (.int .i64 a)∧Below w.heap.size w w' :=by
  have HB:=Aside0.mk (Below.refl w.heap.size w)
  obtain⟨i,hi⟩: ∃i:Int,i=0:=⟨0,rfl⟩
  have cb:decide (i<(n:Int))=false:=by rw[hi,hn];rfl
  go_enter Tryz.func45,Tryz.ntmps45
  go_wp2
  go_loopg [1,5] 0 (fun kq v1 v5 w' =>v1= .int .i64 a∧v5= .int .i64 i∧Aside0 (Below w.heap.size w w'))
  case atStart=>exact⟨rfl,by rw[hi],⟨(by repeat(first|(with_reducible first|exact HB.out|apply aI|apply aG|apply aC)|exact HB.out))⟩⟩
  case round=>
    try clear p2
    obtain⟨rfl,rfl,HBn⟩:=hrel
    clear HB
    have HB:=HBn
    clear HBn
    go_wp2
    go_ret
    exact⟨rfl,(by repeat(first|(with_reducible first|exact HB.out|apply aI|apply aG|apply aC)|exact HB.out))⟩
set_option maxHeartbeats 8000000 in
set_option maxRecDepth 100000 in
theorem eD.calls0 (A:Option Addr) (n c:Nat) (hn:n=0) (a:Int) (w:World):Calls Tryz.prog 44 #[.slice A n c, .int .i64 a] w fun e w' =>e= .returned (.int .i64 a)∧Below w.heap.size w w' :=by
  have HB:=Aside0.mk (Below.refl w.heap.size w)
  obtain⟨i,hi⟩: ∃i:Int,i=0:=⟨0,rfl⟩
  have cb:decide (i<(n:Int))=false:=by rw[hi,hn];rfl
  go_enter Tryz.func44,Tryz.ntmps44
  go_wp2
  go_loopg [1,5] 0 (fun kq v1 v5 w' =>v1= .int .i64 a∧v5= .int .i64 i∧Aside0 (Below w.heap.size w w'))
  case atStart=>exact⟨rfl,by rw[hi],⟨(by repeat(first|(with_reducible first|exact HB.out|apply aI|apply aG|apply aC)|exact HB.out))⟩⟩
  case round=>
    try clear p2
    obtain⟨rfl,rfl,HBn⟩:=hrel
    clear HB
    have HB:=HBn
    clear HBn
    go_wp2
    go_ret
    exact⟨rfl,(by repeat(first|(with_reducible first|exact HB.out|apply aI|apply aG|apply aC)|exact HB.out))⟩
section
variable {W:World} {B go n co:Nat} {ok:Nat→Prop} {x:S70} {x5:Int}
theorem sP (h:Kd.S k70 70 W B ok (.slice (some ⟨go,0,none⟩) n co) [x]) (hn:n=1) (h5:x5=0): ∃oki a b,k31.R 31 W B oki a x.f2∧k31.R 31 W B oki b x.f3∧(∀k,oki k→ok k∧k≠go)
    ∧(W.cell? ⟨go,x5.toNat * 4,none⟩=some (.int .i64 x.f0)∧W.cell? ⟨go,x5.toNat * 4+1,none⟩=some (.int .i64 x.f1)∧W.cell? ⟨go,x5.toNat * 4+2,none⟩=some a∧W.cell? ⟨go,x5.toNat * 4+3,none⟩=some b)
    ∧(W.frozen? ⟨go,x5.toNat * 4,none⟩=false∧W.frozen? ⟨go,x5.toNat * 4+1,none⟩=false)
    ∧(∀y,Kd.S k70 70 (W.setCells go (x5.toNat * 4) [.int .i64 y]) B ok (.slice (some ⟨go,0,none⟩) n co) [⟨y,x.f1,x.f2,x.f3⟩]∧W.grownBy (W.setCells go (x5.toNat * 4) [.int .i64 y]) (some go))
    ∧(∀y,Kd.S k70 70 (W.setCells go (x5.toNat * 4+1) [.int .i64 y]) B ok (.slice (some ⟨go,0,none⟩) n co) [⟨x.f0,y,x.f2,x.f3⟩]∧W.grownBy (W.setCells go (x5.toNat * 4+1) [.int .i64 y]) (some go)):=by
  subst h5
  have h1:(0:Int)<(n:Int):=by omega
  obtain⟨oki,ce,hcl,hM,hcc,hfr,hoki,hH⟩:=Kd.S_elem h z70 0 (Int.le_refl 0) h1
  obtain⟨a,b,rfl,g2,g3⟩:=ru hM
  refine⟨oki,a,b,g2,g3,hoki,⟨hcc 0 _ rfl,hcc 1 _ rfl,hcc 2 _ rfl,hcc 3 _ rfl⟩,⟨hfr 0,hfr 1⟩,fun y=> ?_,fun y=> ?_⟩
  ·exact Kd.S_seg0 hH (Int.le_refl 0) h1 (seg:= [.int .i64 y]) (j:=0) (show 1≤4 from by decide) (x' :=(⟨y,x.f1,x.f2,x.f3⟩:S70)) (ny _ _ _ (⟨y,x.f1,x.f2,x.f3⟩:S70) g2 g3) (fun _ hk=>hk)
  ·exact Kd.S_seg0 hH (Int.le_refl 0) h1 (seg:= [.int .i64 y]) (j:=1) (show 2≤4 from by decide) (x' :=(⟨x.f0,y,x.f2,x.f3⟩:S70)) (ny _ _ _ (⟨x.f0,y,x.f2,x.f3⟩:S70) g2 g3) (fun _ hk=>hk)
theorem vR {a b:Int} {c:Value} {p:List S31} {oki:Nat→Prop} {A3:Option Addr} {m3 c3:Nat} (hn:n=1) (h5:x5=0) (h3:m3=0) (h:W.cell? ⟨go,x5.toNat * 4,none⟩=some (.int .i64 a)∧W.cell? ⟨go,x5.toNat * 4+1,none⟩=some (.int .i64 b)∧W.cell? ⟨go,x5.toNat * 4+2,none⟩=some c∧W.cell? ⟨go,x5.toNat * 4+3,none⟩=some (.slice A3 m3 c3)) (g2:k31.R 31 W B oki c p):
    Kd.C k70 W (some ⟨go,0,none⟩) n [(⟨a,b,p, []⟩:S70)]:=by
  subst h5 hn h3
  obtain⟨A2,c2,rfl⟩:=Kd.R_slice g2
  obtain⟨e2,l2,g2⟩:=Kd.R_reads' g2
  refine⟨rfl,by decide,fun _=>⟨_,rfl,fun j q hj=> ?_⟩⟩
  cases j with
  |succ j=>simp at hj
  | zero=>
    obtain rfl:_=q:=Option.some.inj hj
    refine⟨[.int .i64 a, .int .i64 b, .slice A2 p.length c2, .slice A3 0 c3],rfl,ry W (⟨a,b,p, []⟩:S70) (by omega) g2 (Nat.zero_le _) ⟨rfl,Nat.zero_le _,fun h=>absurd h (Nat.lt_irrefl 0)⟩,fun i u hu=> ?_⟩
    match i,hu with
    |0,hu=>rw[←Option.some.inj hu];exact h.1
    |1,hu=>rw[←Option.some.inj hu];exact h.2.1
    |2,hu=>rw[←Option.some.inj hu];exact h.2.2.1
    |3,hu=>rw[←Option.some.inj hu];exact h.2.2.2
    |i+4,hu=>simp at hu
theorem vw {W2:World} {u0 u1 a b:Value} (h:W.cell? ⟨go,x5.toNat * 4,none⟩=some u0∧W.cell? ⟨go,x5.toNat * 4+1,none⟩=some u1∧W.cell? ⟨go,x5.toNat * 4+2,none⟩=some a∧W.cell? ⟨go,x5.toNat * 4+3,none⟩=some b) (hh:W2.heap[go]? =W.heap[go]?):W2.cell? ⟨go,x5.toNat * 4,none⟩=some u0∧W2.cell? ⟨go,x5.toNat * 4+1,none⟩=some u1∧W2.cell? ⟨go,x5.toNat * 4+2,none⟩=some a∧W2.cell? ⟨go,x5.toNat * 4+3,none⟩=some b:=by
  simpa only[World.cell?,hh] using h
end
set_option maxHeartbeats 8000000 in
set_option maxRecDepth 100000 in
theorem eD.calls1 (k:Nat) (a:Nat→Prop) (g:Value) (l0:List S70) (a1:Int) (r1:Int) (r2:List S70) (w0 w:World) (hB:Below w0.heap.size w0 w) (ho0:Kd.S k70 70 w w0.heap.size a g l0) (hl:l0≠ []) (h:eD.f k l0 a1=some (r1,r2)):
    Calls Tryz.prog 44 #[g, .int .i64 a1] w fun e w' =>e= .returned (.int .i64 r1)∧Below w0.heap.size w0 w' ∧Kept w w' a∧∃A c,g= .slice A l0.length c∧Kd.C k70 w' A l0.length r2:=by
  obtain⟨x,rfl,hf3,p,hp,rfl, -⟩: ∃x,l0= [x]∧x.f3= []∧∃p:List S31,dG.f k x.f2 (wrap64 (wrap64 (a1+1)+1))=some (r1,p)∧r2= [(⟨a1,wrap64 (a1+1),p, []⟩:S70)]∧True:=by
    unfold eD.f at h
    split at h
    ·exact absurd rfl hl
    · rename_i x
      split at h
      · rename_i c
        obtain⟨⟨q1,q2⟩,e,h⟩:=Option.bind_eq_some_iff.mp h
        obtain⟨rfl,rfl⟩:q1=r1∧ [(⟨a1,wrap64 (a1+1),q2, []⟩:S70)]=r2:=by simpa using h
        exact⟨x,rfl,c,q2,e,rfl,trivial⟩
      ·cases h
    ·cases h
  obtain⟨n,hn⟩: ∃n,n= [x].length:=⟨_,rfl⟩
  rw[←hn]
  obtain⟨go,co,eo,gb,gl,cl⟩:=Kd.S_form ho0 (by simp)
  rw[←hn]at eo
  subst eo
  replace hn:n=1:=hn
  have GB:=Aside0.mk gb
  have GL:=Aside0.mk gl
  have HO:=Aside0.mk ho0
  have HK:=Aside0.mk (Kept.refl w a)
  have HB:=Aside0.mk hB
  have HPV:=Aside0.mk hp
  have F3:=Aside0.mk hf3
  have HN:=Aside0.mk hn
  obtain⟨x5,h5⟩: ∃i:Int,i=0:=⟨0,rfl⟩
  obtain⟨i1,hi1⟩: ∃i:Int,i=wrap64 (x5+1):=⟨_,rfl⟩
  have H5:=Aside0.mk h5
  have HI:=Aside0.mk hi1
  have r:decide (x5<(n:Int))=true:=by rw[h5,hn];rfl
  have s:decide (0≤x5)=true:=by rw[h5];rfl
  have u:decide (i1<(n:Int))=false:=decide_eq_false (by rw[hi1,h5,hn];unfold wrap64;omega)
  have c3:=eq_true (show x5<(n:Int) by omega)
  have c4:=eq_true (show 0≤x5 by omega)
  clear gb gl cl ho0 hB hp hf3 hn h5 hi1 h
  go_enter Tryz.func44,Tryz.ntmps44
  go_wp2
  go_loopg [1,5] 1 (fun kq v1 v5 w' =>(kq=1∧v1= .int .i64 a1∧v5= .int .i64 x5∧Aside0 (Kd.S k70 70 w' w0.heap.size a (.slice (some ⟨go,0,none⟩) n co) [x])∧Aside0 (Kept w w' a)∧Aside0 (Below w0.heap.size w0 w'))∨(kq=0∧v1= .int .i64 r1∧v5= .int .i64 i1∧Aside0 (Kd.C k70 w' (some ⟨go,0,none⟩) n [(⟨a1,wrap64 (a1+1),p, []⟩:S70)])∧Aside0 (Kept w w' a)∧Aside0 (Below w0.heap.size w0 w')))
  case atStart=>exact .inl ⟨rfl,rfl,by rw[H5.out],⟨by(with_reducible repeat(first|apply Kd.S_alloc|apply Kd.S_drewN|apply Kd.S_drew));exact HO.out⟩,⟨(by repeat(first|(with_reducible first|exact HK.out|apply Kept.alloc|apply Kept.drewN|apply Kept.drew)|exact HK.out))⟩,⟨(by repeat(first|(with_reducible first|exact HB.out|apply aI|apply aG|apply aC)|exact HB.out))⟩⟩
  case round=>
    try clear p2
    rcases hrel with⟨rfl,rfl,rfl,HOn,HKn,HBn⟩|⟨rfl,rfl,rfl,HOn,HKn,HBn⟩
    · clear HK HB HO
      have HO:=HOn
      have HK:=HKn
      have HB:=HBn
      clear HOn HKn HBn
      obtain⟨oki,j,m,g2,g3,hoki,⟨hx0,hx1,hx2,hx3⟩,⟨hf0,hf1⟩,hs0,hs1⟩:=sP HO.out HN.out H5.out
      have HP:=Aside0.mk (hs0 a1)
      clear hs0 hs1 g2 g3 hoki hx1 hx2 hx3 hf1 oki j m
      go_wp2_with (first|((with_reducible refine cB (t:=3) (p:=16) rfl ?_);refine bT (t:=3) (p:=16) (v:= ?vo_w8) (w1:=(wr.setCell ⟨go,(x5:Int).toNat * 4,none⟩ (.int .i64 a1))) ?hg ?ho ?hn ?hr ?_;(case ho=>rfl);(case hg=>rfl);(case hn=>rfl);(case hr=>first|(go_simp;done)|(go_simp;rfl));intro w8 hw;have hg:wr.grownBy w8 (some go):=(by rw[hw];exact HP.out.2);have hp_:Kd.S k70 70 w8 w0.heap.size a (.slice (some ⟨go,0,none⟩) n co) [(⟨a1,x.f1,x.f2,x.f3⟩:S70)]:=(by rw[hw];exact HP.out.1);clear HP;have l:=Aside0.mk hp_;have b:=Aside0.mk ((by rw[hw];exact aK (HB.out) GB.out:Below w0.heap.size w0 w8));have d:=Aside0.mk (Kept.of_grown (S:=a) hg (by repeat(first|(with_reducible first|exact HK.out|apply Kept.alloc|apply Kept.drewN|apply Kept.drew)|exact HK.out)) (fun k_ e_=> .inl (HO.out.choose_spec.1 k_ e_)));clear HO HB HK;have HO:=l;have HB:=b;have HK:=d;clear l b d hg hw hp_;obtain⟨oki,j,m,g2,g3,hoki,⟨hx0,hx1,hx2,hx3⟩,⟨hf0,hf1⟩,hs0,hs1⟩:=sP HO.out HN.out H5.out;have HP:=Aside0.mk (hs1 (wrap64 (a1+1)));clear hs0 hs1 g2 g3 hoki hx0 hx2 hx3 hf0 oki j m)|((with_reducible refine cB (t:=3) (p:=23) rfl ?_);refine bT (t:=3) (p:=23) (v:= ?vo_w9) (w1:=(w8.setCell ⟨go,(x5:Int).toNat * 4+1,none⟩ (.int .i64 (wrap64 (a1+1))))) ?hg ?ho ?hn ?hr ?_;(case ho=>rfl);(case hg=>rfl);(case hn=>rfl);(case hr=>first|(go_simp;done)|(go_simp;rfl));intro w9 hw;have hg:w8.grownBy w9 (some go):=(by rw[hw];exact HP.out.2);have hp_:Kd.S k70 70 w9 w0.heap.size a (.slice (some ⟨go,0,none⟩) n co) [(⟨a1,wrap64 (a1+1),x.f2,x.f3⟩:S70)]:=(by rw[hw];exact HP.out.1);clear HP;have l:=Aside0.mk hp_;have b:=Aside0.mk ((by rw[hw];exact aK (HB.out) GB.out:Below w0.heap.size w0 w9));have d:=Aside0.mk (Kept.of_grown (S:=a) hg (by repeat(first|(with_reducible first|exact HK.out|apply Kept.alloc|apply Kept.drewN|apply Kept.drew)|exact HK.out)) (fun k_ e_=> .inl (HO.out.choose_spec.1 k_ e_)));clear HO HB HK;have HO:=l;have HB:=b;have HK:=d;clear l b d hg hw hp_;obtain⟨oki,j,m,g2,g3,hoki,⟨hx0,hx1,hx2,hx3⟩,⟨hf0,hf1⟩,hs0,hs1⟩:=sP HO.out HN.out H5.out;dsimp only at g2 g3 hx0 hx1;rw[F3.out]at g3;obtain⟨A3,c3,rfl⟩:=Kd.R_slice g3;have G2:=Aside0.mk g2;have HOK:=Aside0.mk hoki;clear hs0 hs1 g2 g3 hf0 hf1 hoki)|((with_reducible refine ed (f:=91) rfl ?_);refine dH (some 32) rfl rfl Tryz.func91 (by kernel_rfl) rfl #[j, .int .i64 (wrap64 (wrap64 (a1+1)+1))] rfl (by(try simp only[List.map_toArray,List.map_cons,List.map_nil]);first|done|rfl|(simp only[List.length_drop,List.length_take];rfl)) ?_;(refine(dG.calls k oki j x.f2 _ r1 p w0 _ ?s1 ?s2 HPV.out).mono ?_);(case s1=>repeat(first|(with_reducible first|exact HB.out|apply aI|apply aG|apply aC)|exact HB.out));(case s2=>(with_reducible repeat(first|apply Kd.R_alloc|apply Kd.R_drewN|apply Kd.R_drew));exact G2.out);rintro e q ⟨rfl,ho2,hb2,hk2⟩;refine⟨_,rfl, ?_⟩;have hh:q.heap[go]? =w9.heap[go]? :=hk2.2 go (Nat.lt_of_lt_of_le GL.out HK.out.1) (fun e_=>(HOK.out go e_).2 rfl);have hc:=vw ⟨hx0,hx1,hx2,hx3⟩ hh;obtain⟨hy0,hy1,hy2,hy3⟩:=hc;clear hx0 hx1 hx2 hx3;have o:=Aside0.mk ho2;have b:=Aside0.mk hb2;have d:=Aside0.mk (Kept.then_ (by repeat(first|(with_reducible first|exact HK.out|apply Kept.alloc|apply Kept.drewN|apply Kept.drew)|exact HK.out)) hk2 (fun k_ hs=> .inl (HOK.out k_ hs).1));clear HO HB HK G2 hh ho2 hb2 hk2;have G2:=o;have HB:=b;have HK:=d;clear b d o)|((with_reducible refine ed (f:=91) rfl ?_);refine dH (some 39) rfl rfl Tryz.func91 (by kernel_rfl) rfl #[.slice A3 ([]:List S31).length c3, .int .i64 r1] rfl (by(try simp only[List.map_toArray,List.map_cons,List.map_nil]);first|done|rfl|(simp only[List.length_drop,List.length_take];rfl)) ?_;(refine(dG.calls0 A3 _ c3 rfl r1 _).mono ?_);rintro e y ⟨rfl,hb⟩;refine⟨_,rfl, ?_⟩;have HC:=Aside0.mk (Kd.C_below (vR HN.out H5.out rfl ⟨hy0,hy1,hy2,hy3⟩ G2.out) hb);clear hy0 hy1 hy2 hy3 G2;have b:=Aside0.mk (bi HB.out hb);have d:=Aside0.mk (Kept.then_ (by repeat(first|(with_reducible first|exact HK.out|apply Kept.alloc|apply Kept.drewN|apply Kept.drew)|exact HK.out)) (Kept.of_below hb a) (fun k_ hs=> .inl hs));clear HB HK hb;have HB:=b;have HK:=d;clear b d))
      go_roundg 0
      case measure=>decide
      case rel=>exact .inr ⟨rfl,rfl,by rw[HI.out],⟨by(with_reducible repeat(first|apply Kd.C_alloc|apply Kd.C_drewN|apply Kd.C_drew));exact HC.out⟩,⟨(by repeat(first|(with_reducible first|exact HK.out|apply Kept.alloc|apply Kept.drewN|apply Kept.drew)|exact HK.out))⟩,⟨(by repeat(first|(with_reducible first|exact HB.out|apply aI|apply aG|apply aC)|exact HB.out))⟩⟩
    · clear HK HB HO
      have HC:=HOn
      have HK:=HKn
      have HB:=HBn
      clear HOn HKn HBn
      go_wp2
      go_ret
      exact⟨rfl,(by repeat(first|(with_reducible first|exact HB.out|apply aI|apply aG|apply aC)|exact HB.out)),(by repeat(first|(with_reducible first|exact HK.out|apply Kept.alloc|apply Kept.drewN|apply Kept.drew)|exact HK.out)),_,_,rfl,by(with_reducible repeat(first|apply Kd.C_alloc|apply Kd.C_drewN|apply Kd.C_drew));exact HC.out⟩
theorem eD.calls (k:Nat) (b:Nat→Prop) (a:Value) (l0:List S70) (a1:Int) (r1:Int) (r2:List S70) (w0 w:World) (hB:Below w0.heap.size w0 w) (ho0:Kd.S k70 70 w w0.heap.size b a l0) (h:eD.f k l0 a1=some (r1,r2)):
    Calls Tryz.prog 44 #[a, .int .i64 a1] w fun e w' =>e= .returned (.int .i64 r1)∧Below w0.heap.size w0 w' ∧Kept w w' b∧∃A c,a= .slice A l0.length c∧Kd.C k70 w' A l0.length r2:=by
  by_cases hl:l0= []
  · subst hl
    obtain⟨rfl,rfl⟩:a1=r1∧ []=r2:=by simpa[eD.f] using h
    obtain⟨A,c,rfl⟩:=Kd.S_slice ho0
    refine(eD.calls0 A _ c rfl a1 w).mono ?_
    rintro e w' ⟨rfl,hb⟩
    exact⟨rfl,bi hB hb,Kept.of_below hb b,A,c,rfl,⟨rfl,Nat.zero_le _,fun h=>absurd h (Nat.lt_irrefl 0)⟩⟩
  ·exact eD.calls1 k b a l0 a1 r1 r2 w0 w hB ho0 hl h
theorem rz {xs:List S91} {i:Int} {x:S91} (h0:0≤i) (h1:i<(xs.length:Int)):(xs.set i.toNat x).getD i.toNat z91=x:=by
  rw[List.getD_eq_getElem?_getD,List.getElem?_set_self (by omega)];rfl
set_option maxHeartbeats 8000000 in
set_option maxRecDepth 100000 in
theorem eT.calls (k:Nat) (b:Nat→Prop) (a:Value) (l0:List S91) (a1:Int) (r1:Int) (r2:List S91) (w0 w:World) (hB:Below w0.heap.size w0 w) (ho0:Kd.S k91 91 w w0.heap.size b a l0) (h:eT.f k l0 a1=some (r1,r2)):
    Calls Tryz.prog 43 #[a, .int .i64 a1] w fun e w' =>e= .returned (.int .i64 r1)∧Below w0.heap.size w0 w' ∧Kept w w' b∧Kd.S k91 91 w' w0.heap.size b a r2:=by
  have m:=Aside0.mk ho0
  have HK:=Aside0.mk (Kept.refl w b)
  have HB:=Aside0.mk hB
  clear hB ho0
  have H' :=Aside0.mk (show eT.l0 k l0 a1 0=some (r1,r2) from h)
  clear h
  go_enter Tryz.func43,Tryz.ntmps43
  go_wp2
  go_loopg [1,5] k (fun kq v1 v5 w' => ∃(xs:List S91) (x1 x5:Int),v1= .int .i64 x1∧v5= .int .i64 x5∧Aside0 (eT.l0 kq xs x1 x5=some (r1,r2))∧Aside0 (kq≤k)∧Aside0 (Kd.S k91 91 w' w0.heap.size b a xs)∧Aside0 (Kept w w' b)∧Aside0 (Below w0.heap.size w0 w'))
  case atStart=>exact⟨l0,a1,(0),(by first|rfl|(simp;done)|(simp[*];done)),(by first|rfl|(simp;done)|(simp[*];done)),H',⟨Nat.le_refl _⟩,⟨by(with_reducible repeat(first|apply Kd.S_alloc|apply Kd.S_drewN|apply Kd.S_drew));exact m.out⟩,⟨by repeat(first|exact HK.out|apply Kept.alloc|apply Kept.drewN|apply Kept.drew)⟩,⟨by repeat(first|(with_reducible first|exact HB.out|apply aI|apply aG|apply aC)|exact HB.out)⟩⟩
  case round=>
    clear H'
    try clear p2
    obtain⟨xs,x1,x5,rfl,rfl,HA,n,HO,HKn,HBn⟩:=hrel
    clear HK HB m
    have HK:=HKn
    have HB:=HBn
    clear HKn HBn
    cases gk with
    |zero=>exact absurd HA.out (by simp[eT.l0])
    | succ k1=>
      have H:=HA.out
      clear HA
      simp only[eT.l0]at H
      by_cases c3:x5<(xs.length:Int)
      · rw[if_pos c3]at H
        have u:decide (x5<(xs.length:Int))=true:=decide_eq_true c3
        by_cases c4:0≤x5
        · rw[if_pos c4]at H
          have G:decide (0≤x5)=true:=decide_eq_true c4
          replace H:=Option.bind_eq_some_iff.mp H
          obtain⟨⟨p1,p2⟩,o,H⟩:=H
          have A6:=Aside0.mk o
          clear o
          have H' :=Aside0.mk H
          clear H
          obtain⟨i,x,q,r,y,I,z⟩:=Kd.S_form HO.out (by omega)
          (first|cases q|(injection q with ea_ en_ ec_;(first|subst ea_|(injection ea_ with ea_;subst ea_));subst ec_;clear en_))
          have A:=Aside0.mk r
          clear r y z
          obtain⟨oki,ce,hcl,hM,hcc,hfr,hoki,hH⟩:=Kd.S_elem HO.out z91 x5 c4 c3
          obtain⟨J,rfl,B⟩:=nI hM
          have HP:=Kd.S_seg0 hH c4 c3 (seg:= [.int .i64 x1]) (j:=0) (show 1≤2 from by decide) (x' :=(⟨x1,(dh xs x5).f1⟩:S91)) (lV _ _ _ (⟨x1,(dh xs x5).f1⟩:S91) B) (fun _ hk=>hk)
          have hx0:=hcc 0 _ rfl
          have hf0:=hfr 0
          simp only[show(k91).sz=2 from rfl,Nat.add_zero]at hx0 hf0
          clear hcl hcc hfr hM hoki hH
          obtain⟨y1,hy1⟩: ∃y_,y_=xs.set (x5:Int).toNat (⟨x1,(dh xs x5).f1⟩:S91):=⟨_,rfl⟩
          have Ny:=Aside0.mk hy1
          clear hy1
          have C3:=Aside0.mk c3
          have C4:=Aside0.mk c4
          replace c3:=eq_true c3
          replace c4:=eq_true c4
          go_wp2_with (first|((with_reducible refine cB (t:=3) (p:=16) rfl ?_);refine bT (t:=3) (p:=16) (v:= ?vo_w8) (w1:=(wr.setCell ⟨i,(x5:Int).toNat * 2,none⟩ (.int .i64 x1))) ?hg ?ho ?hn ?hr ?_;(case ho=>rfl);(case hg=>rfl);(case hn=>rfl);(case hr=>first|(go_simp;done)|(go_simp;rfl));intro w8 hw;have hg:wr.grownBy w8 (some i):=(by rw[hw];exact HP.2);have hp_:Kd.S k91 91 w8 w0.heap.size b (.slice (some ⟨i,0,none⟩) xs.length x) y1:=(by rw[hw,Ny.out];exact HP.1);clear HP;have c:=Aside0.mk (hp_);have d:=Aside0.mk ((by rw[hw];exact aK (HB.out) A.out:Below w0.heap.size w0 w8));have g:=Aside0.mk (Kept.of_grown (S:=b) hg (by repeat(first|(with_reducible first|exact HK.out|apply Kept.alloc|apply Kept.drewN|apply Kept.drew)|exact HK.out)) (fun k_ e_=> .inl (HO.out.choose_spec.1 k_ e_)));clear HO HB HK;have HO:=c;have HB:=d;have HK:=g;clear c d g;clear hg hw hp_;obtain⟨oki,ce,hcl,hM,hcc,hfr,hoki,hH⟩:=Kd.S_elem HO.out z91 x5 C4.out C3.out;rw[Ny.out,rz C4.out C3.out]at hM;obtain⟨l,rfl,s⟩:=nI hM;have hx1:=hcc 1 _ rfl;simp only[show(k91).sz=2 from rfl]at hx1;have HH:=Aside0.mk hH;have GE:=Aside0.mk s;have HI:=Aside0.mk hoki;clear hH hM hcc hfr hcl s hoki)|((with_reducible refine ed (f:=91) rfl ?_);refine dH (some 25) rfl rfl Tryz.func91 (by kernel_rfl) rfl #[l, .int .i64 (wrap64 (x1+1))] rfl (by(try simp only[List.map_toArray,List.map_cons,List.map_nil]);first|done|rfl|(simp only[List.length_drop,List.length_take];rfl)) ?_;(refine(dG.calls k1 oki l ((dh xs x5).f1) (wrap64 (x1+1)) p1 p2 w0 _ ?s1 ?s2 A6.out).mono ?_);(case s1=>repeat(first|(with_reducible first|exact HB.out|apply aI|apply aG|apply aC)|exact HB.out));(case s2=>(with_reducible repeat(first|apply Kd.R_alloc|apply Kd.R_drewN|apply Kd.R_drew));exact GE.out);rintro e D ⟨rfl,ho2,hb2,hk2⟩;refine⟨_,rfl, ?_⟩;have hM2:(k91).M D w0.heap.size oki (⟨x1,p2⟩:S91) [.int .i64 x1,l]:=lV _ _ _ (⟨x1,p2⟩:S91) (Kd.R_mono (Kd.R_tight rfl ho2) (fun k_ hk=>GE.out.1 k_ hk.symm));have hH2:=Kd.H_kept (by(with_reducible repeat(first|apply Kd.H_alloc|apply Kd.H_drewN|apply Kd.H_drew));exact HH.out) hk2 (fun _ _ hn hs=>hn hs);have c:=Aside0.mk (Kd.H_back hH2 hM2 (fun _ hk=>hk));have d:=Aside0.mk hb2;have g:=Aside0.mk (Kept.then_ (by repeat(first|(with_reducible first|exact HK.out|apply Kept.alloc|apply Kept.drewN|apply Kept.drew)|exact HK.out)) hk2 (fun k_ hs=> .inl (HI.out k_ hs).1));clear HO HB HK;have HO:=c;have HB:=d;have HK:=g;clear c d g hH2 hM2 ho2 hb2 hk2))
          go_roundg k1
          case measure=>have:=n.out;omega
          case rel=>exact⟨_,p1,(wrap64 (x5+1)),(by first|rfl|(simp;done)|(simp[*];done)),(by first|rfl|(simp;done)|(simp[*];done)),⟨by have h_:=H'.out;rw[←Ny.out]at h_;exact h_⟩,⟨by have:=n.out;omega⟩,⟨by(with_reducible repeat(first|apply Kd.S_alloc|apply Kd.S_drewN|apply Kd.S_drew));exact HO.out⟩,⟨by repeat(first|(with_reducible first|exact HK.out|apply Kept.alloc|apply Kept.drewN|apply Kept.drew)|exact HK.out)⟩,⟨by repeat(first|(with_reducible first|exact HB.out|apply aI|apply aG|apply aC)|exact HB.out)⟩⟩
        · rw[if_neg c4]at H
          exact absurd H (by simp)
      · rw[if_neg c3]at H
        have u:decide (x5<(xs.length:Int))=false:=decide_eq_false c3
        clear c3
        obtain⟨rfl,rfl⟩:x1=r1∧xs=r2:=by simpa using H
        clear H
        obtain⟨K,L,E⟩:=Kd.S_slice HO.out
        subst E
        go_wp2
        go_ret
        exact⟨rfl,by repeat(first|(with_reducible first|exact HB.out|apply aI|apply aG|apply aC)|exact HB.out),by repeat(first|(with_reducible first|exact HK.out|apply Kept.alloc|apply Kept.drewN|apply Kept.drew)|exact HK.out),by(with_reducible repeat(first|apply Kd.S_alloc|apply Kd.S_drewN|apply Kd.S_drew));exact HO.out⟩
end Go.Proofs.YteinbmkgenhocaaGreat.P
end
section
namespace Go.Proofs.YteinbmkgenhocaaGreat.P
set_option linter.unusedVariables false
open Go Go.RowKit Go.Proofs.YteinbmkgenhocaaGreatW.PrintWords Go.Proofs.YteinbmkgenhocaaGreatW.PrintLast Go.Proofs.YteinbmkgenhocaaGreatW.PrintMore
theorem bl {w W:World} (h:Below w.heap.size w W:=by repeat(first|(with_reducible first|exact Aside0.out (by assumption)|apply aI|apply aG|apply aC|refine aK ?_ (Aside0.out (by assumption)))|exact Aside0.out (by assumption))):Below w.heap.size w W:=h
theorem cz {w:World} {g:Nat} {t:TypeId} {cs:Array Value} (h:w.heap[g]? =some (.cells cs t (0,0))) (i:Nat) {v:Value} (e:cs.toList[i]? =some v):w.cell? ⟨g,i,none⟩=some v:=(ae h i).trans (by rw[←Array.getElem?_toList];exact e)
theorem oO {w:World} {g:Nat} (h:g<w.heap.size) (o:Obj):g<(w.alloc o).heap.size:=Nat.lt_of_lt_of_le h (aU (aI (Below.refl _ _) o))
theorem oP {w:World} {g:Nat} (h:g<w.heap.size) (n:Nat):g<(w.drewN n).heap.size:=h
theorem pR {w:World} {g:Nat} (h:g<w.heap.size):g<w.drew.heap.size:=h
theorem rA {w:World} {g:Nat} (h:g<w.heap.size) (p:Addr) (u:Value):g<(w.setCell p u).heap.size:=by simpa[World.setCell] using h
section
variable {w W W0 w1:World} {g g' :Nat} {o:Obj}
theorem kk (_:Aside0 (W0.heap[g]? =some o)) (h:W.heap[g]? =some o:=by(with_reducible repeat(first|refine ah ?_ _|refine af ?_|refine ag ?_ _));exact Aside0.out (by assumption)):Aside0 (W.heap[g]? =some o):=⟨h⟩
theorem kf (h:W.heap[g]? =some o:=by(repeat(first|(with_reducible first|refine ah ?_ _|refine af ?_|refine ag ?_ _)|refine eX ?_ (Aside0.out (by assumption)) _|apply bg));exact Aside0.out (by assumption);all_goals rfl):Aside0 (W.heap[g]? =some o):=⟨h⟩
theorem kb (_:Aside0 (W0.heap[g]? =some o)) (hb:Below W.heap.size W w1) (h:W.heap[g]? =some o:=by(with_reducible repeat(first|refine ah ?_ _|refine af ?_|refine ag ?_ _));exact Aside0.out (by assumption)):Aside0 (w1.heap[g]? =some o):=⟨cK h hb⟩
theorem kq (_:Aside0 (W0.heap[g]? =some o)) (hb:Below W.heap.size W w1) (h:W.heap[g]? =some o:=by(repeat(first|(with_reducible first|refine ah ?_ _|refine af ?_|refine ag ?_ _)|refine eX ?_ (Aside0.out (by assumption)) _));exact Aside0.out (by assumption)):Aside0 (w1.heap[g]? =some o):=⟨cK h hb⟩
theorem kp (g:Nat) (cs:Array Value) (t:TypeId) (hb:Below W.heap.size W w1) (h:W.heap[g]? =some (.cells cs t (0,0)):=by(repeat(first|(with_reducible first|refine ah ?_ _|refine af ?_|refine ag ?_ _)|refine eX ?_ (Aside0.out (by assumption)) _|apply bg));exact Aside0.out (by assumption);all_goals rfl):Aside0 (w1.heap[g]? =some (.cells cs t (0,0))):=⟨cK h hb⟩
theorem hs (_:Aside0 (Below w.heap.size w W0)) (hb:Below W.heap.size W w1) (h:Below w.heap.size w W:=by repeat(first|(with_reducible first|exact Aside0.out (by assumption)|apply aI|apply aG|apply aC|refine aK ?_ (Aside0.out (by assumption)))|exact Aside0.out (by assumption))):Aside0 (Below w.heap.size w w1):=⟨bi h hb⟩
theorem hz (_:Aside0 (Below w.heap.size w W0)) (hg:g=W.heap.size) (h:Below w.heap.size w W:=by repeat(first|(with_reducible first|exact Aside0.out (by assumption)|apply aI|apply aG|apply aC|refine aK ?_ (Aside0.out (by assumption)))|exact Aside0.out (by assumption))):Aside0 (w.heap.size≤g):=⟨by rw[hg];exact aU h⟩
theorem nl (_:Aside0 (W0.heap[g]? =some o)) (hg:g' =W.heap.size) (h:g<W.heap.size:=by(with_reducible repeat(first|refine oP ?_ _|refine pR ?_|refine oO ?_ _|refine rA ?_ _ _));exact fF (Aside0.out (by assumption))):Aside0 (g≠g'):=⟨by rw[hg];exact Nat.ne_of_lt h⟩
theorem ng (_:Aside0 (W0.heap[g]? =some o)) (hg:g' =W.heap.size) (h:g<W.heap.size:=by(with_reducible repeat(first|refine oP ?_ _|refine pR ?_|refine oO ?_ _|refine rA ?_ _ _));exact fF (Aside0.out (by assumption))):Aside0 (g' ≠g):=⟨by rw[hg];exact Nat.ne_of_gt h⟩
theorem hc {a:Addr} {v:Value} (HB:Aside0 (Below w.heap.size w W)) (h:w.cell? a=some v):W.cell? a=some v:=(HB.out.cell (World.block_lt_of_cell? w _ h)).trans h
theorem fin {p:Prop} (h:p:=by first|rfl|(simp[bz,bA]<;>rfl)|(simp[*,bz,bA]<;>rfl)) (hb:Below w.heap.size w W:=by repeat(first|(with_reducible first|exact Aside0.out (by assumption)|apply aI|apply aG|apply aC|refine aK ?_ (Aside0.out (by assumption)))|exact Aside0.out (by assumption))):p∧Below w.heap.size w W:=⟨h,hb⟩
theorem cb {α:Type} {d:Kd α} {A:Option Addr} {n:Nat} {xs:List α} (c:d.C w A n xs) (h:Below w.heap.size w W:=by repeat(first|(with_reducible first|exact Aside0.out (by assumption)|apply aI|apply aG|apply aC|refine aK ?_ (Aside0.out (by assumption)))|exact Aside0.out (by assumption))):d.C W A n xs:=Kd.C_below c h
end
section
variable {P:Program} {ops:Array Oper} {rest:List Oper} {o:Oper} {a:Act} {Q:Exit→Act→World→Prop} {W:World}
theorem gd (N:Tmp) (_hN:o.dst=some N) (h:wpList P ops Q (o::rest) a W):wpList P ops Q (o::rest) a W:=h
theorem gc (f:FuncId) {ar:Array Operand} {ts:Array TypeId} (_ho:o.op= .call {callee:= .value (.func f),args:=ar,argTypes:=ts}) (h:wpList P ops Q (o::rest) a W):wpList P ops Q (o::rest) a W:=h
theorem bx (N:Tmp) (cs:Array Value) (t:TypeId)
    (h: ∀g,g=W.heap.size→∀w1,w1.heap[g]? =some (.cells cs t (0,0))→Below W.heap.size W w1→wpList P ops Q rest (a.put o.dst (.pointer (some ⟨g,0,none⟩))) w1)
    (hd:o.dst=some N:=by rfl) (hgd:o.guard=none:=by rfl)
    (hrun:(execOp a.eval o).run P W= .ok (.value (.pointer (some ⟨W.heap.size,0,none⟩))) (W.alloc (.cells cs t (0,0))):=by first|(go_simp;done)|(go_simp;rfl)):wpList P ops Q (o::rest) a W:=gG hgd hd hrun h
theorem gl {f:FuncId} {fn:Func} {ar:Array Operand} {ts:Array TypeId} (N:Option Tmp) (hf:P.funcs[f]? =some fn) (args:Array Value) (hop:o.op= .call {callee:= .value (.func f),args:=ar,argTypes:=ts})
    (h:Calls P f args W fun e w' => ∃v,e= .returned v∧wpList P ops Q rest (a.put N v) w') (hd:o.dst=N:=by rfl) (hg:o.guard=none:=by rfl) (hname:(fn.name== "runtime.NumGoroutine")=false:=by kernel_rfl) (hb:fn.body.isSome=true:=by rfl)
    (hargs:ar.map a.eval=args:=by(try simp only[List.map_toArray,List.map_cons,List.map_nil]);first|done|rfl|(simp only[List.length_drop,List.length_take];rfl)):wpList P ops Q (o::rest) a W:=dH N hd hg hf hname hb args hop hargs h
end
section
variable {P:Program} {md:Region.Mode} {ops:Array Oper} {Q:Exit→Act→World→Prop} {S:World→Prop} {ds:List Nat} {T:Bool×List (List Nat×List Nat)} {B:List Nat} {oi:Oper} {v:Value} {fuel:Nat} {l:Array Bool} {a a' :Act} {w:World}
theorem pu (i N:Nat) (l' :Array Bool) (hT:Aside0 (dJ md ops=T)) (hi:ops[i]? =some oi) (hN:oi.dst=some N) (h:bJ P md ops Q S ds fuel l' a' w) (hc:oz T l.toList l'.toList i=true:=by kernel_rfl) (hy:Yields P ops oi v a:=by(refine Or.inl ⟨by rfl, ?_⟩;intro w';go_simp;with_reducible rfl)) (ha:a.put (some N) v=a' :=by(simp only[Act.put,List.setIfInBounds_toArray,List.set_cons_zero,List.set_cons_succ,bX,bZ];rfl)) (hQ: ∀c a w,Q (.panic c) (a.put oi.dst v) w→Q (.panic c) a w:=by exact fun _ _ _ h=>h):bJ P md ops Q S ds (fuel+1) l a w:=lS l' hi hN (oC hT.out hc) hQ hy ha h
theorem ta (i N:Nat) (l' :Array Bool) (hT:Aside0 (dJ md ops=T)) (hW:Aside0 (dY T.2 B=true)) (hS:S w) (hi:ops[i]? =some oi) (hN:oi.dst=some N) (h:bJ P md ops Q S ds fuel l' a' w) (hc:nV T B ds l.toList l'.toList i=true:=by kernel_rfl) (hy:YieldsIf P ops S oi v a:=by(refine Or.inl ⟨by rfl, ?_⟩;intro w' hs;(repeat(have hs1:=hs.1;replace hs:=hs.2));go_simp;with_reducible rfl)) (ha:a.put (some N) v=a' :=by(simp only[Act.put,List.setIfInBounds_toArray,List.set_cons_zero,List.set_cons_succ,bX,bZ];rfl)) (hQ: ∀c a w,Q (.panic c) (a.put oi.dst v) w→Q (.panic c) a w:=by exact fun _ _ _ h=>h):bJ P md ops Q S ds (fuel+1) l a w:=take_ l' hi hN (oD hT.out hW.out hc) hQ hy hS ha h
theorem no (N:Nat) (h:bJ P md ops Q S ds fuel l a' w) (ha:a.put (some N) v=a' :=by(simp only[Act.put,List.setIfInBounds_toArray,List.set_cons_zero,List.set_cons_succ,bX,bZ];rfl)):bJ P md ops Q S ds fuel l (a.put (some N) v) w:=vM ha h
theorem gs {K:Act→World→Prop} {N:Option Tmp} {f:FuncId} {fn:Func} {ar:Array Operand} {ts:Array TypeId} (hf:P.funcs[f]? =some fn) (args:Array Value) (hN:oi.dst=N) (hop:oi.op= .call {callee:= .value (.func f),args:=ar,argTypes:=ts})
    (h:Calls P f args w fun e w' => ∃v,e= .returned v∧K (a.put N v) w') (hname:(fn.name== "runtime.NumGoroutine")=false:=by kernel_rfl) (hb:fn.body.isSome=true:=by rfl) (hw:Region.wanted oi (yielded ops a.tmps)=true:=by rfl)
    (hargs:ar.map a.eval=args:=by(try simp only[List.map_toArray,List.map_cons,List.map_nil]);first|done|rfl|(simp only[List.length_drop,List.length_take];rfl)):if Region.wanted oi (yielded ops a.tmps)=true then Oper.wp P oi a w K Q else K (a.put N undef) w:=mO hf hname hb args hw hN hop hargs h
end
section
variable {α β:Type} {A B x:α}
theorem it {h:Decidable (true=true)} (H: @ite α (true=true) h A B=x):A=x:=(if_pos rfl).symm.trans H
theorem ie {h:Decidable (false=true)} (H: @ite α (false=true) h A B=x):B=x:=(if_neg (by simp)).symm.trans H
theorem ob {o:Option α} {f:α→Option β} {r:β} (H:o.bind f=some r): ∃a,Aside0 (o=some a)∧f a=some r:=(Option.bind_eq_some_iff.mp H).imp fun _ h=>⟨⟨h.1⟩,h.2⟩
end
theorem od {p:Prop} [Decidable p] (h:decide p=true:=by first|(with_reducible assumption)|assumption):p:=of_decide_eq_true h
theorem hc2 {w W:World} {a0 a1:Addr} {v0 v1:Value} (HB:Aside0 (Below w.heap.size w W)) (h0:w.cell? a0=some v0) (h1:w.cell? a1=some v1):W.cell? a0=some v0∧W.cell? a1=some v1:=⟨hc HB h0,hc HB h1⟩
theorem hc3 {w W:World} {a0 a1 a2:Addr} {v0 v1 v2:Value} (HB:Aside0 (Below w.heap.size w W)) (h0:w.cell? a0=some v0) (h1:w.cell? a1=some v1) (h2:w.cell? a2=some v2):W.cell? a0=some v0∧W.cell? a1=some v1∧W.cell? a2=some v2:=⟨hc HB h0,hc HB h1,hc HB h2⟩
theorem hc4 {w W:World} {a0 a1 a2 a3:Addr} {v0 v1 v2 v3:Value} (HB:Aside0 (Below w.heap.size w W)) (h0:w.cell? a0=some v0) (h1:w.cell? a1=some v1) (h2:w.cell? a2=some v2) (h3:w.cell? a3=some v3):W.cell? a0=some v0∧W.cell? a1=some v1∧W.cell? a2=some v2∧W.cell? a3=some v3:=⟨hc HB h0,hc HB h1,hc HB h2,hc HB h3⟩
theorem fw8 {W:World} {a0 a1 a2 a3 a4 a5 a6 a7:Addr} {v0 v1 v2 v3 v4 v5 v6 v7:Value} (p:Addr) (u:Value) (h0:W.cell? a0=some v0) (h1:W.cell? a1=some v1) (h2:W.cell? a2=some v2) (h3:W.cell? a3=some v3) (h4:W.cell? a4=some v4) (h5:W.cell? a5=some v5) (h6:W.cell? a6=some v6) (h7:W.cell? a7=some v7) (e0:a0.block≠p.block:=by first|(rw[add_block];assumption)|(show(Addr.add _ _).block≠_;rw[add_block];assumption)|assumption) (e1:a1.block≠p.block:=by first|(rw[add_block];assumption)|(show(Addr.add _ _).block≠_;rw[add_block];assumption)|assumption) (e2:a2.block≠p.block:=by first|(rw[add_block];assumption)|(show(Addr.add _ _).block≠_;rw[add_block];assumption)|assumption) (e3:a3.block≠p.block:=by first|(rw[add_block];assumption)|(show(Addr.add _ _).block≠_;rw[add_block];assumption)|assumption) (e4:a4.block≠p.block:=by first|(rw[add_block];assumption)|(show(Addr.add _ _).block≠_;rw[add_block];assumption)|assumption) (e5:a5.block≠p.block:=by first|(rw[add_block];assumption)|(show(Addr.add _ _).block≠_;rw[add_block];assumption)|assumption) (e6:a6.block≠p.block:=by first|(rw[add_block];assumption)|(show(Addr.add _ _).block≠_;rw[add_block];assumption)|assumption) (e7:a7.block≠p.block:=by first|(rw[add_block];assumption)|(show(Addr.add _ _).block≠_;rw[add_block];assumption)|assumption):(W.setCell p u).cell? a0=some v0∧(W.setCell p u).cell? a1=some v1∧(W.setCell p u).cell? a2=some v2∧(W.setCell p u).cell? a3=some v3∧(W.setCell p u).cell? a4=some v4∧(W.setCell p u).cell? a5=some v5∧(W.setCell p u).cell? a6=some v6∧(W.setCell p u).cell? a7=some v7:=⟨(cell_far e0 u).trans h0,(cell_far e1 u).trans h1,(cell_far e2 u).trans h2,(cell_far e3 u).trans h3,(cell_far e4 u).trans h4,(cell_far e5 u).trans h5,(cell_far e6 u).trans h6,(cell_far e7 u).trans h7⟩
theorem hc8 {w W:World} {a0 a1 a2 a3 a4 a5 a6 a7:Addr} {v0 v1 v2 v3 v4 v5 v6 v7:Value} (HB:Aside0 (Below w.heap.size w W)) (h0:w.cell? a0=some v0) (h1:w.cell? a1=some v1) (h2:w.cell? a2=some v2) (h3:w.cell? a3=some v3) (h4:w.cell? a4=some v4) (h5:w.cell? a5=some v5) (h6:w.cell? a6=some v6) (h7:w.cell? a7=some v7):W.cell? a0=some v0∧W.cell? a1=some v1∧W.cell? a2=some v2∧W.cell? a3=some v3∧W.cell? a4=some v4∧W.cell? a5=some v5∧W.cell? a6=some v6∧W.cell? a7=some v7:=⟨hc HB h0,hc HB h1,hc HB h2,hc HB h3,hc HB h4,hc HB h5,hc HB h6,hc HB h7⟩
theorem cf2 {w:World} {g:Nat} {t:TypeId} {v0 v1:Value} (h:Aside0 (w.heap[g]? =some (.cells #[v0,v1] t (0,0)))):w.cell? ⟨g,0,none⟩=some v0∧w.cell? ⟨g,1,none⟩=some v1∧w.frozen? ⟨g,0,none⟩=false∧w.frozen? ⟨g,1,none⟩=false:=⟨cz h.out 0 rfl,cz h.out 1 rfl,ay h.out 0,ay h.out 1⟩
theorem cf3 {w:World} {g:Nat} {t:TypeId} {v0 v1 v2:Value} (h:Aside0 (w.heap[g]? =some (.cells #[v0,v1,v2] t (0,0)))):w.cell? ⟨g,0,none⟩=some v0∧w.cell? ⟨g,1,none⟩=some v1∧w.cell? ⟨g,2,none⟩=some v2∧w.frozen? ⟨g,0,none⟩=false∧w.frozen? ⟨g,1,none⟩=false∧w.frozen? ⟨g,2,none⟩=false:=⟨cz h.out 0 rfl,cz h.out 1 rfl,cz h.out 2 rfl,ay h.out 0,ay h.out 1,ay h.out 2⟩
theorem cf4 {w:World} {g:Nat} {t:TypeId} {v0 v1 v2 v3:Value} (h:Aside0 (w.heap[g]? =some (.cells #[v0,v1,v2,v3] t (0,0)))):w.cell? ⟨g,0,none⟩=some v0∧w.cell? ⟨g,1,none⟩=some v1∧w.cell? ⟨g,2,none⟩=some v2∧w.cell? ⟨g,3,none⟩=some v3∧w.frozen? ⟨g,0,none⟩=false∧w.frozen? ⟨g,1,none⟩=false∧w.frozen? ⟨g,2,none⟩=false∧w.frozen? ⟨g,3,none⟩=false:=⟨cz h.out 0 rfl,cz h.out 1 rfl,cz h.out 2 rfl,cz h.out 3 rfl,ay h.out 0,ay h.out 1,ay h.out 2,ay h.out 3⟩
theorem cf7 {w:World} {g:Nat} {t:TypeId} {v0 v1 v2 v3 v4 v5 v6:Value} (h:Aside0 (w.heap[g]? =some (.cells #[v0,v1,v2,v3,v4,v5,v6] t (0,0)))):w.cell? ⟨g,0,none⟩=some v0∧w.cell? ⟨g,1,none⟩=some v1∧w.cell? ⟨g,2,none⟩=some v2∧w.cell? ⟨g,3,none⟩=some v3∧w.cell? ⟨g,4,none⟩=some v4∧w.cell? ⟨g,5,none⟩=some v5∧w.cell? ⟨g,6,none⟩=some v6∧w.frozen? ⟨g,0,none⟩=false∧w.frozen? ⟨g,1,none⟩=false∧w.frozen? ⟨g,2,none⟩=false∧w.frozen? ⟨g,3,none⟩=false∧w.frozen? ⟨g,4,none⟩=false∧w.frozen? ⟨g,5,none⟩=false∧w.frozen? ⟨g,6,none⟩=false:=⟨cz h.out 0 rfl,cz h.out 1 rfl,cz h.out 2 rfl,cz h.out 3 rfl,cz h.out 4 rfl,cz h.out 5 rfl,cz h.out 6 rfl,ay h.out 0,ay h.out 1,ay h.out 2,ay h.out 3,ay h.out 4,ay h.out 5,ay h.out 6⟩
theorem cf8 {w:World} {g:Nat} {t:TypeId} {v0 v1 v2 v3 v4 v5 v6 v7:Value} (h:Aside0 (w.heap[g]? =some (.cells #[v0,v1,v2,v3,v4,v5,v6,v7] t (0,0)))):w.cell? ⟨g,0,none⟩=some v0∧w.cell? ⟨g,1,none⟩=some v1∧w.cell? ⟨g,2,none⟩=some v2∧w.cell? ⟨g,3,none⟩=some v3∧w.cell? ⟨g,4,none⟩=some v4∧w.cell? ⟨g,5,none⟩=some v5∧w.cell? ⟨g,6,none⟩=some v6∧w.cell? ⟨g,7,none⟩=some v7∧w.frozen? ⟨g,0,none⟩=false∧w.frozen? ⟨g,1,none⟩=false∧w.frozen? ⟨g,2,none⟩=false∧w.frozen? ⟨g,3,none⟩=false∧w.frozen? ⟨g,4,none⟩=false∧w.frozen? ⟨g,5,none⟩=false∧w.frozen? ⟨g,6,none⟩=false∧w.frozen? ⟨g,7,none⟩=false:=⟨cz h.out 0 rfl,cz h.out 1 rfl,cz h.out 2 rfl,cz h.out 3 rfl,cz h.out 4 rfl,cz h.out 5 rfl,cz h.out 6 rfl,cz h.out 7 rfl,ay h.out 0,ay h.out 1,ay h.out 2,ay h.out 3,ay h.out 4,ay h.out 5,ay h.out 6,ay h.out 7⟩
end Go.Proofs.YteinbmkgenhocaaGreat.P
end
section
namespace Go.Proofs.YteinbmkgenhocaaGreat.P
open Go Go.RowKit Go.Proofs.YteinbmkgenhocaaGreatW.PrintWords Go.Proofs.YteinbmkgenhocaaGreatW.PrintLast Go.Proofs.YteinbmkgenhocaaGreatW.PrintMore
set_option linter.unusedVariables false
set_option linter.unusedSimpArgs false
set_option maxHeartbeats 8000000 in
set_option maxRecDepth 100000 in
theorem fG.calls (k:Nat) (a b:Nat→Prop) (A0:Option Addr) (c0:Nat) (l0:List S91) (A1:Option Addr) (c1:Nat) (l1:List S70) (A2:Option Addr) (c2:Nat) (l2:List Int) (a3 a4:Int) (a5:Bool) (a6 a1 r1:Int) (r2:List S91) (r3:List S70) (w0 w:World) (hB:Below w0.heap.size w0 w) (ho0:Kd.S k91 91 w w0.heap.size a (.slice A0 l0.length c0) l0) (ho1:Kd.S k70 70 w w0.heap.size b (.slice A1 l1.length c1) l1) (hd: ∀k,a k→¬b k) (h:fG.f k l0 l1 l2 a1=some (r1,r2,r3)):
    Calls Tryz.prog 13 #[.agg #[.slice A0 l0.length c0, .slice A1 l1.length c1, .slice A2 l2.length c2, .int .i64 a3, .int .i64 a4, .bool a5, .int .i64 a6], .int .i64 a1] w fun e w' =>e= .returned (.int .i64 r1)∧Below w0.heap.size w0 w' ∧Kept w w' (fun k_=>a k_∨b k_)∧Kd.S k91 91 w' w0.heap.size a (.slice A0 l0.length c0) r2∧Kd.C k70 w' A1 l1.length r3:=by
  have hu:=Tryz.underlying33
  obtain⟨hl2,p1,hm1,hm2⟩:l2.length=0∧∃p1,eT.f k l0 a1=some (p1,r2)∧eD.f k l1 p1=some (r1,r3):=by
    unfold fG.f at h
    split at h
    · rename_i c
      obtain⟨⟨p1,p2⟩,e1,h⟩:=Option.bind_eq_some_iff.mp h
      obtain⟨⟨q1,q2⟩,e2,h⟩:=Option.bind_eq_some_iff.mp h
      obtain⟨rfl,rfl,rfl⟩:q1=r1∧p2=r2∧q2=r3:=by simpa using h
      exact⟨by rw[c];rfl,p1,e1,e2⟩
    ·cases h
  have j:=Aside0.mk hm1
  have l:=Aside0.mk hm2
  have HL:=Aside0.mk hl2
  have HD:=Aside0.mk hd
  have HBo:=Aside0.mk hB
  have HW0:=Aside0.mk (Below.refl w.heap.size w)
  have Z0:=Aside0.mk (Kd.S_mono (Kd.S_bound ho0) (fun k_ hk=>(⟨hk.1,hk.2.2.1⟩:a k_∧k_<w.heap.size)))
  have Z1:=Aside0.mk (Kd.S_mono (Kd.S_bound ho1) (fun k_ hk=>(⟨hk.1,hk.2.2.1⟩:b k_∧k_<w.heap.size)))
  clear hm1 hm2 hl2 hd hB ho0 ho1 h
  go_enter Tryz.func13,Tryz.ntmps13
  go_wp2_with (first|((with_reducible refine gd 2 rfl ?_);refine bx 2 #[.slice A0 l0.length c0, .slice A1 l1.length c1, .slice A2 l2.length c2, .int .i64 a3, .int .i64 a4, .bool a5, .int .i64 a6] 33 ?_;intro gb hg w2 hbox hb;have HG:=hz HW0 hg;have HW:=hs HW0 hb;have H0:=Aside0.mk (Kd.S_below Z0.out HW.out);have H1:=Aside0.mk (Kd.S_below Z1.out HW.out);have HB:=Aside0.mk (bi HBo.out HW.out);have HK:=Aside0.mk (Kept.of_below HW.out (fun k_=>a k_∨b k_));have i:=cz hbox 0 rfl;have g:=cz hbox 1 rfl;have d:=cz hbox 2 rfl;clear hb hbox hg Z0 Z1 HBo)|((with_reducible refine ed (f:=43) rfl ?_);refine dH (some 8) rfl rfl Tryz.func43 (by kernel_rfl) rfl #[.slice A0 l0.length c0, .int .i64 a1] rfl (by(try simp only[List.map_toArray,List.map_cons,List.map_nil]);first|done|rfl) ?_;(refine(eT.calls k (fun k_=>a k_∧k_<w.heap.size) _ l0 a1 p1 r2 w0 _ ?s1 ?s2 j.out).mono ?_);(case s1=>exact(by repeat(first|(with_reducible first|exact HB.out|apply aI|apply aG|apply aC)|exact HB.out)));(case s2=>exact(by(with_reducible repeat(first|apply Kd.S_alloc|apply Kd.S_drewN|apply Kd.S_drew));exact H0.out));rintro e w3 ⟨rfl,hb3,hk3,ho3⟩;refine⟨_,rfl, ?_⟩;have n1:=Aside0.mk (Kd.S_step H1.out (fun k_ hp hl=>hk3.2 k_ hl (fun hx=>HD.out k_ hx.1 hp.1)));have nK:=Aside0.mk (Kept.then_ (S:=fun k_=>a k_∨b k_) (by repeat(first|(with_reducible first|exact HK.out|apply Kept.alloc|apply Kept.drewN|apply Kept.drew)|exact HK.out)) hk3 (fun k_ hs=> .inl (Or.inl hs.1)));replace g:=cell_kept g hk3 (fun hx=>absurd hx.2 (Nat.not_lt.2 HG.out));replace d:=cell_kept d hk3 (fun hx=>absurd hx.2 (Nat.not_lt.2 HG.out));clear H0 H1 HK HB i;have H0:=Aside0.mk ho3;have H1:=n1;have HB:=Aside0.mk hb3;have HK:=nK;clear n1 nK ho3 hb3 hk3)|((with_reducible refine ed (f:=44) rfl ?_);refine dH (some 12) rfl rfl Tryz.func44 (by kernel_rfl) rfl #[.slice A1 l1.length c1, .int .i64 p1] rfl (by(try simp only[List.map_toArray,List.map_cons,List.map_nil]);first|done|rfl) ?_;(refine(eD.calls k (fun k_=>b k_∧k_<w.heap.size) _ l1 p1 r1 r3 w0 _ ?s1 ?s2 l.out).mono ?_);(case s1=>exact(by repeat(first|(with_reducible first|exact HB.out|apply aI|apply aG|apply aC)|exact HB.out)));(case s2=>exact(by(with_reducible repeat(first|apply Kd.S_alloc|apply Kd.S_drewN|apply Kd.S_drew));exact H1.out));rintro e w4 ⟨rfl,hb3,hk3,A_,c_,eA,hC⟩;refine⟨_,rfl, ?_⟩;obtain⟨rfl, -,rfl⟩:=Value.slice.inj eA;have n1:=Aside0.mk (Kd.S_step H0.out (fun k_ hp hl=>hk3.2 k_ hl (fun hx=>HD.out k_ hp.1 hx.1)));have nK:=Aside0.mk (Kept.then_ (S:=fun k_=>a k_∨b k_) (by repeat(first|(with_reducible first|exact HK.out|apply Kept.alloc|apply Kept.drewN|apply Kept.drew)|exact HK.out)) hk3 (fun k_ hs=> .inl (Or.inr hs.1)));replace d:=cell_kept d hk3 (fun hx=>absurd hx.2 (Nat.not_lt.2 HG.out));clear H0 H1 HK HB g;have H0:=n1;have HC:=Aside0.mk hC;have HB:=Aside0.mk hb3;have HK:=nK;clear n1 nK hb3 hk3 hC eA)|((with_reducible refine ed (f:=45) rfl ?_);refine dH (some 16) rfl rfl Tryz.func45 (by kernel_rfl) rfl #[.slice A2 l2.length c2, .int .i64 r1] rfl (by(try simp only[List.map_toArray,List.map_cons,List.map_nil]);first|done|rfl) ?_;(refine(nQ.calls0 A2 _ c2 HL.out r1 _).mono ?_);rintro e w5 ⟨rfl,hb⟩;refine⟨_,rfl, ?_⟩;have n1:=Aside0.mk (Kd.S_below (by(with_reducible repeat(first|apply Kd.S_alloc|apply Kd.S_drewN|apply Kd.S_drew));exact H0.out) hb);have n2:=Aside0.mk (Kd.C_below (by(with_reducible repeat(first|apply Kd.C_alloc|apply Kd.C_drewN|apply Kd.C_drew));exact HC.out) hb);have n3:=Aside0.mk (bi (by repeat(first|(with_reducible first|exact HB.out|apply aI|apply aG|apply aC)|exact HB.out)) hb);have nK:=Aside0.mk (Kept.then_ (by repeat(first|(with_reducible first|exact HK.out|apply Kept.alloc|apply Kept.drewN|apply Kept.drew)|exact HK.out)) (Kept.of_below hb (fun k_=>a k_∨b k_)) (fun k_ hs=> .inl hs));clear H0 HC HK HB d hb;have H0:=n1;have HC:=n2;have HB:=n3;have HK:=nK;clear n1 n2 n3 nK))
  go_ret
  exact⟨rfl,(by repeat(first|(with_reducible first|exact HB.out|apply aI|apply aG|apply aC)|exact HB.out)),(by repeat(first|(with_reducible first|exact HK.out|apply Kept.alloc|apply Kept.drewN|apply Kept.drew)|exact HK.out)),Kd.S_mono (ok:=fun k_=>a k_∧k_<w.heap.size) (by(with_reducible repeat(first|apply Kd.S_alloc|apply Kd.S_drewN|apply Kd.S_drew));exact H0.out) (fun _ hk=>hk.1),by(with_reducible repeat(first|apply Kd.C_alloc|apply Kd.C_drewN|apply Kd.C_drew));exact HC.out⟩
theorem mH (l:List Int):jJ l=l.length:=by
  induction l with
  |nil=>rfl
  |cons x l ih=>show 1+jJ l=l.length+1;omega
theorem kZ (l:List S113):lI l=3 * l.length:=by
  induction l with
  |nil=>rfl
  |cons x l ih=>show 3+lI l=3 * (l.length+1);omega
theorem lc (l:List S181):lJ l=4 * l.length:=by
  induction l with
  |nil=>rfl
  |cons x l ih=>show 4+lJ l=4 * (l.length+1);omega
set_option maxHeartbeats 8000000 in
set_option maxRecDepth 100000 in
theorem lg (P:Nat→Prop) (n:Nat) (a:Int) (w:World) (v:Value) (h:kI P w n v):Calls Tryz.prog 45 #[v, .int .i64 a] w fun e w' =>e= .returned (.int .i64 (adv a (n)))∧Sc P w w' :=by
  obtain⟨A,cap,rfl,hle,hrow⟩:=id h
  have HF:=Aside0.mk h
  have HL:=Aside0.mk hle
  clear h hrow hle
  go_enter Tryz.func45,Tryz.ntmps45
  go_wp2
  go_loopg [1,5] (n) (fun kq v1 v5 w' => ∃(x1 x5:Int),v1= .int .i64 x1∧v5= .int .i64 x5∧Aside0 (0≤x5∧x5+(kq:Int)=(n:Int))∧Aside0 (adv x1 (n - x5.toNat)=adv a (n))∧Aside0 (Sc P w w'))
  case atStart=>exact⟨a,0,rfl,rfl,⟨by omega,by omega⟩,⟨by simp⟩,⟨Sc.refl P w⟩⟩
  case round=>
    obtain⟨x1,x5,rfl,rfl,HI,HA,HS⟩:=hrel
    have HI:=HI
    by_cases c3:x5<(n:Int)
    · have c4:0≤x5:=HI.out.1
      obtain⟨A',cap',e',_,hh⟩:=HF.out
      cases e'
      rcases hh with h0|⟨g,rfl,hP,_,_⟩
      ·exfalso;omega
      cases gk with
      |zero=>exfalso;have:=HI.out.2;omega
      |succ k1=>
      have HP:=Aside0.mk hP
      clear hP
      have C3:=Aside0.mk c3
      have C4:=Aside0.mk c4
      have b:decide (x5<(n:Int))=true:=decide_eq_true c3
      have d:decide (0≤x5)=true:=decide_eq_true c4
      replace c3:=eq_true c3
      replace c4:=eq_true c4
      obtain⟨⟨cs,hcs⟩,⟨a0,h0⟩⟩:=eF.at (ql P) HF.out HS.out C4.out C3.out;rw[Nat.mul_one]at h0;have f0:=ay hcs ((x5:Int).toNat)
      go_wp2_with (first|((with_reducible refine cB (t:=3) (p:=15) rfl ?_);refine bT (t:=3) (p:=15) (v:= ?vo_w101) (w1:=(wr.setCell ⟨g,(x5:Int).toNat,none⟩ (.int .i64 x1))) ?hg ?ho ?hn ?hr ?_;(case ho=>rfl);(case hg=>rfl);(case hn=>rfl);(case hr=>first|(go_simp;done)|(go_simp;rfl));intro c hw;have hS_:Sc P wr c:=(by rw[hw];exact Sc.set hcs h0 (.inr (.inl ⟨_,_,rfl,rfl⟩)) HP.out);clear hw;replace HS:=Aside0.mk (HS.out.trans hS_);clear hS_ h0 hcs f0;obtain⟨⟨cs,hcs⟩,⟨a0,h0⟩⟩:=eF.at (ql P) HF.out HS.out C4.out C3.out;rw[Nat.mul_one]at h0;have f0:=ay hcs ((x5:Int).toNat)))
      go_roundg k1
      case measure=>omega
      case rel=>
        have hw:wrap64 (x5+1)=x5+1:=by have:=C3.out;have:=C4.out;have:=HL.out;unfold wrap64;omega
        refine⟨wrap64 (x1+1),x5+1,rfl,(by rw[hw]),⟨by have:=C4.out;omega,by have:=HI.out.2;omega⟩,⟨?_⟩,HS⟩
        rw[←HA.out]
        simp only[jU,←jI]
        congr 1
        rw[show(x5+1).toNat=x5.toNat+1 by have:=C4.out;omega]
        have:=C3.out;have:=C4.out;omega
    · have b:decide (x5<(n:Int))=false:=decide_eq_false c3
      have hx:x5.toNat=n:=by have:=HI.out;omega
      go_wp2
      go_ret
      refine⟨?_,HS.out⟩
      rw[←HA.out,hx]
      simp[adv]
set_option maxHeartbeats 8000000 in
set_option maxRecDepth 100000 in
theorem sQ (P:Nat→Prop) (n:Nat) (a:Int) (w:World) (v:Value) (h:mE P w n v):Calls Tryz.prog 88 #[v, .int .i64 a] w fun e w' =>e= .returned (.int .i64 (adv a (3 * n)))∧Sc P w w' :=by
  obtain⟨A,cap,rfl,hle,hrow⟩:=id h
  have HF:=Aside0.mk h
  have HL:=Aside0.mk hle
  clear h hrow hle
  go_enter Tryz.func88,Tryz.ntmps88
  go_wp2
  go_loopg [1,5] (n) (fun kq v1 v5 w' => ∃(x1 x5:Int),v1= .int .i64 x1∧v5= .int .i64 x5∧Aside0 (0≤x5∧x5+(kq:Int)=(n:Int))∧Aside0 (adv x1 (3 * (n - x5.toNat))=adv a (3 * n))∧Aside0 (Sc P w w'))
  case atStart=>exact⟨a,0,rfl,rfl,⟨by omega,by omega⟩,⟨by simp⟩,⟨Sc.refl P w⟩⟩
  case round=>
    obtain⟨x1,x5,rfl,rfl,HI,HA,HS⟩:=hrel
    have HI:=HI
    by_cases c3:x5<(n:Int)
    · have c4:0≤x5:=HI.out.1
      obtain⟨A',cap',e',_,hh⟩:=HF.out
      cases e'
      rcases hh with h0|⟨g,rfl,hP,_,_⟩
      ·exfalso;omega
      cases gk with
      |zero=>exfalso;have:=HI.out.2;omega
      |succ k1=>
      have HP:=Aside0.mk hP
      clear hP
      have C3:=Aside0.mk c3
      have C4:=Aside0.mk c4
      have d:decide (x5<(n:Int))=true:=decide_eq_true c3
      have j:decide (0≤x5)=true:=decide_eq_true c4
      replace c3:=eq_true c3
      replace c4:=eq_true c4
      obtain⟨⟨cs,hcs⟩,⟨⟨a0,h0⟩,⟨a1,h1⟩,⟨a2,h2⟩⟩⟩:=eF.at (mQ P) HF.out HS.out C4.out C3.out;have f0:=ay hcs ((x5:Int).toNat * 3);have f1:=ay hcs ((x5:Int).toNat * 3+1);have f2:=ay hcs ((x5:Int).toNat * 3+2)
      go_wp2_with (first|((with_reducible refine cB (t:=3) (p:=16) rfl ?_);refine bT (t:=3) (p:=16) (v:= ?vo_w101) (w1:=(wr.setCell ⟨g,(x5:Int).toNat * 3,none⟩ (.int .i64 x1))) ?hg ?ho ?hn ?hr ?_;(case ho=>rfl);(case hg=>rfl);(case hn=>rfl);(case hr=>first|(go_simp;done)|(go_simp;rfl));intro b hw;have hS_:Sc P wr b:=(by rw[hw];exact Sc.set hcs h0 (.inr (.inl ⟨_,_,rfl,rfl⟩)) HP.out);clear hw;replace HS:=Aside0.mk (HS.out.trans hS_);clear hS_ h0 h1 h2 hcs f0 f1 f2;obtain⟨⟨cs,hcs⟩,⟨⟨a0,h0⟩,⟨a1,h1⟩,⟨a2,h2⟩⟩⟩:=eF.at (mQ P) HF.out HS.out C4.out C3.out;have f0:=ay hcs ((x5:Int).toNat * 3);have f1:=ay hcs ((x5:Int).toNat * 3+1);have f2:=ay hcs ((x5:Int).toNat * 3+2))|((with_reducible refine cB (t:=3) (p:=23) rfl ?_);refine bT (t:=3) (p:=23) (v:= ?vo_w102) (w1:=(b.setCell ⟨g,(x5:Int).toNat * 3+1,none⟩ (.int .i64 (wrap64 (x1+1))))) ?hg ?ho ?hn ?hr ?_;(case ho=>rfl);(case hg=>rfl);(case hn=>rfl);(case hr=>first|(go_simp;done)|(go_simp;rfl));intro c hw;have hS_:Sc P b c:=(by rw[hw];exact Sc.set hcs h1 (.inr (.inl ⟨_,_,rfl,rfl⟩)) HP.out);clear hw;replace HS:=Aside0.mk (HS.out.trans hS_);clear hS_ h0 h1 h2 hcs f0 f1 f2;obtain⟨⟨cs,hcs⟩,⟨⟨a0,h0⟩,⟨a1,h1⟩,⟨a2,h2⟩⟩⟩:=eF.at (mQ P) HF.out HS.out C4.out C3.out;have f0:=ay hcs ((x5:Int).toNat * 3);have f1:=ay hcs ((x5:Int).toNat * 3+1);have f2:=ay hcs ((x5:Int).toNat * 3+2))|((with_reducible refine cB (t:=3) (p:=30) rfl ?_);refine bT (t:=3) (p:=30) (v:= ?vo_w103) (w1:=(c.setCell ⟨g,(x5:Int).toNat * 3+2,none⟩ (.int .i64 (wrap64 ((wrap64 (x1+1))+1))))) ?hg ?ho ?hn ?hr ?_;(case ho=>rfl);(case hg=>rfl);(case hn=>rfl);(case hr=>first|(go_simp;done)|(go_simp;rfl));intro i hw;have hS_:Sc P c i:=(by rw[hw];exact Sc.set hcs h2 (.inr (.inl ⟨_,_,rfl,rfl⟩)) HP.out);clear hw;replace HS:=Aside0.mk (HS.out.trans hS_);clear hS_ h0 h1 h2 hcs f0 f1 f2;obtain⟨⟨cs,hcs⟩,⟨⟨a0,h0⟩,⟨a1,h1⟩,⟨a2,h2⟩⟩⟩:=eF.at (mQ P) HF.out HS.out C4.out C3.out;have f0:=ay hcs ((x5:Int).toNat * 3);have f1:=ay hcs ((x5:Int).toNat * 3+1);have f2:=ay hcs ((x5:Int).toNat * 3+2)))
      go_roundg k1
      case measure=>omega
      case rel=>
        have hw:wrap64 (x5+1)=x5+1:=by have:=C3.out;have:=C4.out;have:=HL.out;unfold wrap64;omega
        refine⟨wrap64 ((wrap64 ((wrap64 (x1+1))+1))+1),x5+1,rfl,(by rw[hw]),⟨by have:=C4.out;omega,by have:=HI.out.2;omega⟩,⟨?_⟩,HS⟩
        rw[←HA.out]
        simp only[jU,←jI]
        congr 1
        rw[show(x5+1).toNat=x5.toNat+1 by have:=C4.out;omega]
        have:=C3.out;have:=C4.out;omega
    · have d:decide (x5<(n:Int))=false:=decide_eq_false c3
      have hx:x5.toNat=n:=by have:=HI.out;omega
      go_wp2
      go_ret
      refine⟨?_,HS.out⟩
      rw[←HA.out,hx]
      simp[adv]
set_option maxHeartbeats 8000000 in
set_option maxRecDepth 100000 in
theorem sS (P:Nat→Prop) (n:Nat) (a:Int) (w:World) (v:Value) (h:mF P w n v):Calls Tryz.prog 90 #[v, .int .i64 a] w fun e w' =>e= .returned (.int .i64 (adv a (4 * n)))∧Sc P w w' :=by
  obtain⟨A,cap,rfl,hle,hrow⟩:=id h
  have HF:=Aside0.mk h
  have HL:=Aside0.mk hle
  clear h hrow hle
  go_enter Tryz.func90,Tryz.ntmps90
  go_wp2
  go_loopg [1,5] (n) (fun kq v1 v5 w' => ∃(x1 x5:Int),v1= .int .i64 x1∧v5= .int .i64 x5∧Aside0 (0≤x5∧x5+(kq:Int)=(n:Int))∧Aside0 (adv x1 (4 * (n - x5.toNat))=adv a (4 * n))∧Aside0 (Sc P w w'))
  case atStart=>exact⟨a,0,rfl,rfl,⟨by omega,by omega⟩,⟨by simp⟩,⟨Sc.refl P w⟩⟩
  case round=>
    obtain⟨x1,x5,rfl,rfl,HI,HA,HS⟩:=hrel
    have HI:=HI
    by_cases c3:x5<(n:Int)
    · have c4:0≤x5:=HI.out.1
      obtain⟨A',cap',e',_,hh⟩:=HF.out
      cases e'
      rcases hh with h0|⟨g,rfl,hP,_,_⟩
      ·exfalso;omega
      cases gk with
      |zero=>exfalso;have:=HI.out.2;omega
      |succ k1=>
      have HP:=Aside0.mk hP
      clear hP
      have C3:=Aside0.mk c3
      have C4:=Aside0.mk c4
      have i:decide (x5<(n:Int))=true:=decide_eq_true c3
      have k:decide (0≤x5)=true:=decide_eq_true c4
      replace c3:=eq_true c3
      replace c4:=eq_true c4
      obtain⟨⟨cs,hcs⟩,⟨⟨a0,h0⟩,⟨a1,h1⟩,⟨a2,h2⟩,⟨a3,h3⟩⟩⟩:=eF.at (lW P) HF.out HS.out C4.out C3.out;have f0:=ay hcs ((x5:Int).toNat * 4);have f1:=ay hcs ((x5:Int).toNat * 4+1);have f2:=ay hcs ((x5:Int).toNat * 4+2);have f3:=ay hcs ((x5:Int).toNat * 4+3)
      go_wp2_with (first|((with_reducible refine cB (t:=3) (p:=16) rfl ?_);refine bT (t:=3) (p:=16) (v:= ?vo_w101) (w1:=(wr.setCell ⟨g,(x5:Int).toNat * 4,none⟩ (.int .i64 x1))) ?hg ?ho ?hn ?hr ?_;(case ho=>rfl);(case hg=>rfl);(case hn=>rfl);(case hr=>first|(go_simp;done)|(go_simp;rfl));intro b hw;have hS_:Sc P wr b:=(by rw[hw];exact Sc.set hcs h0 (.inr (.inl ⟨_,_,rfl,rfl⟩)) HP.out);clear hw;replace HS:=Aside0.mk (HS.out.trans hS_);clear hS_ h0 h1 h2 h3 hcs f0 f1 f2 f3;obtain⟨⟨cs,hcs⟩,⟨⟨a0,h0⟩,⟨a1,h1⟩,⟨a2,h2⟩,⟨a3,h3⟩⟩⟩:=eF.at (lW P) HF.out HS.out C4.out C3.out;have f0:=ay hcs ((x5:Int).toNat * 4);have f1:=ay hcs ((x5:Int).toNat * 4+1);have f2:=ay hcs ((x5:Int).toNat * 4+2);have f3:=ay hcs ((x5:Int).toNat * 4+3))|((with_reducible refine cB (t:=3) (p:=23) rfl ?_);refine bT (t:=3) (p:=23) (v:= ?vo_w102) (w1:=(b.setCell ⟨g,(x5:Int).toNat * 4+1,none⟩ (.int .i64 (wrap64 (x1+1))))) ?hg ?ho ?hn ?hr ?_;(case ho=>rfl);(case hg=>rfl);(case hn=>rfl);(case hr=>first|(go_simp;done)|(go_simp;rfl));intro c hw;have hS_:Sc P b c:=(by rw[hw];exact Sc.set hcs h1 (.inr (.inl ⟨_,_,rfl,rfl⟩)) HP.out);clear hw;replace HS:=Aside0.mk (HS.out.trans hS_);clear hS_ h0 h1 h2 h3 hcs f0 f1 f2 f3;obtain⟨⟨cs,hcs⟩,⟨⟨a0,h0⟩,⟨a1,h1⟩,⟨a2,h2⟩,⟨a3,h3⟩⟩⟩:=eF.at (lW P) HF.out HS.out C4.out C3.out;have f0:=ay hcs ((x5:Int).toNat * 4);have f1:=ay hcs ((x5:Int).toNat * 4+1);have f2:=ay hcs ((x5:Int).toNat * 4+2);have f3:=ay hcs ((x5:Int).toNat * 4+3))|((with_reducible refine cB (t:=3) (p:=30) rfl ?_);refine bT (t:=3) (p:=30) (v:= ?vo_w103) (w1:=(c.setCell ⟨g,(x5:Int).toNat * 4+2,none⟩ (.int .i64 (wrap64 ((wrap64 (x1+1))+1))))) ?hg ?ho ?hn ?hr ?_;(case ho=>rfl);(case hg=>rfl);(case hn=>rfl);(case hr=>first|(go_simp;done)|(go_simp;rfl));intro d hw;have hS_:Sc P c d:=(by rw[hw];exact Sc.set hcs h2 (.inr (.inl ⟨_,_,rfl,rfl⟩)) HP.out);clear hw;replace HS:=Aside0.mk (HS.out.trans hS_);clear hS_ h0 h1 h2 h3 hcs f0 f1 f2 f3;obtain⟨⟨cs,hcs⟩,⟨⟨a0,h0⟩,⟨a1,h1⟩,⟨a2,h2⟩,⟨a3,h3⟩⟩⟩:=eF.at (lW P) HF.out HS.out C4.out C3.out;have f0:=ay hcs ((x5:Int).toNat * 4);have f1:=ay hcs ((x5:Int).toNat * 4+1);have f2:=ay hcs ((x5:Int).toNat * 4+2);have f3:=ay hcs ((x5:Int).toNat * 4+3))|((with_reducible refine cB (t:=3) (p:=37) rfl ?_);refine bT (t:=3) (p:=37) (v:= ?vo_w104) (w1:=(d.setCell ⟨g,(x5:Int).toNat * 4+3,none⟩ (.int .i64 (wrap64 ((wrap64 ((wrap64 (x1+1))+1))+1))))) ?hg ?ho ?hn ?hr ?_;(case ho=>rfl);(case hg=>rfl);(case hn=>rfl);(case hr=>first|(go_simp;done)|(go_simp;rfl));intro j hw;have hS_:Sc P d j:=(by rw[hw];exact Sc.set hcs h3 (.inr (.inl ⟨_,_,rfl,rfl⟩)) HP.out);clear hw;replace HS:=Aside0.mk (HS.out.trans hS_);clear hS_ h0 h1 h2 h3 hcs f0 f1 f2 f3;obtain⟨⟨cs,hcs⟩,⟨⟨a0,h0⟩,⟨a1,h1⟩,⟨a2,h2⟩,⟨a3,h3⟩⟩⟩:=eF.at (lW P) HF.out HS.out C4.out C3.out;have f0:=ay hcs ((x5:Int).toNat * 4);have f1:=ay hcs ((x5:Int).toNat * 4+1);have f2:=ay hcs ((x5:Int).toNat * 4+2);have f3:=ay hcs ((x5:Int).toNat * 4+3)))
      go_roundg k1
      case measure=>omega
      case rel=>
        have hw:wrap64 (x5+1)=x5+1:=by have:=C3.out;have:=C4.out;have:=HL.out;unfold wrap64;omega
        refine⟨wrap64 ((wrap64 ((wrap64 ((wrap64 (x1+1))+1))+1))+1),x5+1,rfl,(by rw[hw]),⟨by have:=C4.out;omega,by have:=HI.out.2;omega⟩,⟨?_⟩,HS⟩
        rw[←HA.out]
        simp only[jU,←jI]
        congr 1
        rw[show(x5+1).toNat=x5.toNat+1 by have:=C4.out;omega]
        have:=C3.out;have:=C4.out;omega
    · have i:decide (x5<(n:Int))=false:=decide_eq_false c3
      have hx:x5.toNat=n:=by have:=HI.out;omega
      go_wp2
      go_ret
      refine⟨?_,HS.out⟩
      rw[←HA.out,hx]
      simp[adv]
set_option maxHeartbeats 8000000 in
set_option maxRecDepth 100000 in
theorem sU (P:Nat→Prop) (xs:List S126) (a:Int) (w:World) (v:Value) (h:sN P w xs v):Calls Tryz.prog 41 #[v, .int .i64 a] w fun e w' =>e= .returned (.int .i64 (adv a (iY xs)))∧Sc P w w' :=by
  obtain⟨A,cap,rfl,hle,hrow⟩:=id h
  have HF:=Aside0.mk h
  have HL:=Aside0.mk hle
  clear h hrow hle
  go_enter Tryz.func41,Tryz.ntmps41
  go_wp2
  go_loopg [1,5] (xs.length) (fun kq v1 v5 w' => ∃(x1 x5:Int),v1= .int .i64 x1∧v5= .int .i64 x5∧Aside0 (0≤x5∧x5+(kq:Int)=(xs.length:Int))∧Aside0 (adv x1 (iY (xs.drop x5.toNat))=adv a (iY xs))∧Aside0 (Sc P w w'))
  case atStart=>exact⟨a,0,rfl,rfl,⟨by omega,by omega⟩,⟨by simp⟩,⟨Sc.refl P w⟩⟩
  case round=>
    obtain⟨x1,x5,rfl,rfl,HI,HA,HS⟩:=hrel
    have HI:=HI
    by_cases c3:x5<(xs.length:Int)
    · have c4:0≤x5:=HI.out.1
      obtain⟨A',cap',e',_,hh⟩:=HF.out
      cases e'
      rcases hh with h0|⟨g,rfl,hP,_,_⟩
      ·exfalso;omega
      cases gk with
      |zero=>exfalso;have:=HI.out.2;omega
      |succ k1=>
      have HP:=Aside0.mk hP
      clear hP
      have C3:=Aside0.mk c3
      have C4:=Aside0.mk c4
      have b:decide (x5<(xs.length:Int))=true:=decide_eq_true c3
      have d:decide (0≤x5)=true:=decide_eq_true c4
      replace c3:=eq_true c3
      replace c4:=eq_true c4
      obtain⟨⟨cs,hcs⟩,⟨⟨a0,h0⟩,⟨A1,n1,c1,h1,r1⟩⟩⟩:=eF.at (nW P xs) HF.out HS.out C4.out C3.out;replace r1:=Aside0.mk r1;have f0:=ay hcs ((x5:Int).toNat * 2)
      go_wp2_with (first|((with_reducible refine cB (t:=3) (p:=16) rfl ?_);refine bT (t:=3) (p:=16) (v:= ?vo_w101) (w1:=(wr.setCell ⟨g,(x5:Int).toNat * 2,none⟩ (.int .i64 x1))) ?hg ?ho ?hn ?hr ?_;(case ho=>rfl);(case hg=>rfl);(case hn=>rfl);(case hr=>first|(go_simp;done)|(go_simp;rfl));intro c hw;have hS_:Sc P wr c:=(by rw[hw];exact Sc.set hcs h0 (.inr (.inl ⟨_,_,rfl,rfl⟩)) HP.out);clear hw;replace HS:=Aside0.mk (HS.out.trans hS_);clear hS_ h0 h1 r1 hcs f0;obtain⟨⟨cs,hcs⟩,⟨⟨a0,h0⟩,⟨A1,n1,c1,h1,r1⟩⟩⟩:=eF.at (nW P xs) HF.out HS.out C4.out C3.out;replace r1:=Aside0.mk r1;have f0:=ay hcs ((x5:Int).toNat * 2))|((with_reducible refine ed (f:=45) rfl ?_);refine dH (some 25) rfl rfl Tryz.func45 (by kernel_rfl) rfl #[.slice A1 n1 c1, .int .i64 (wrap64 (x1+1))] rfl (by(try simp only[List.map_toArray,List.map_cons,List.map_nil]);first|done|rfl) ?_;(refine(lg P ((qj xs x5.toNat).f1.length) (wrap64 (x1+1)) _ _ r1.out).mono ?_);rintro e i ⟨rfl,hS_⟩;refine⟨_,rfl, ?_⟩;replace HS:=Aside0.mk (HS.out.trans hS_);clear hS_ h0 h1 r1 hcs f0;obtain⟨⟨cs,hcs⟩,⟨⟨a0,h0⟩,⟨A1,n1,c1,h1,r1⟩⟩⟩:=eF.at (nW P xs) HF.out HS.out C4.out C3.out;replace r1:=Aside0.mk r1;have f0:=ay hcs ((x5:Int).toNat * 2)))
      go_roundg k1
      case measure=>omega
      case rel=>
        have hw:wrap64 (x5+1)=x5+1:=by have:=C3.out;have:=C4.out;have:=HL.out;unfold wrap64;omega
        refine⟨adv (wrap64 (x1+1)) ((qj xs x5.toNat).f1.length),x5+1,rfl,(by rw[hw]),⟨by have:=C4.out;omega,by have:=HI.out.2;omega⟩,⟨?_⟩,HS⟩
        rw[←HA.out]
        simp only[jU,←jI]
        congr 1
        rw[show(x5+1).toNat=x5.toNat+1 by have:=C4.out;omega]
        have hlt:x5.toNat<xs.length:=by have:=C3.out;have:=C4.out;omega
        unfold iY
        rw[lH _ _ iI _ hlt,show xs.getD x5.toNat iI=qj xs x5.toNat from rfl]
        simp only[mH,kZ,lc,Nat.add_assoc]
    · have b:decide (x5<(xs.length:Int))=false:=decide_eq_false c3
      have hx:x5.toNat=xs.length:=by have:=HI.out;omega
      go_wp2
      go_ret
      refine⟨?_,HS.out⟩
      rw[←HA.out,hx]
      simp[iY,jk,adv]
set_option maxHeartbeats 8000000 in
set_option maxRecDepth 100000 in
theorem sV (P:Nat→Prop) (xs:List S57) (a:Int) (w:World) (v:Value) (h:mG P w xs v):Calls Tryz.prog 89 #[v, .int .i64 a] w fun e w' =>e= .returned (.int .i64 (adv a (iZ xs)))∧Sc P w w' :=by
  obtain⟨A,cap,rfl,hle,hrow⟩:=id h
  have HF:=Aside0.mk h
  have HL:=Aside0.mk hle
  clear h hrow hle
  go_enter Tryz.func89,Tryz.ntmps89
  go_wp2
  go_loopg [1,5] (xs.length) (fun kq v1 v5 w' => ∃(x1 x5:Int),v1= .int .i64 x1∧v5= .int .i64 x5∧Aside0 (0≤x5∧x5+(kq:Int)=(xs.length:Int))∧Aside0 (adv x1 (iZ (xs.drop x5.toNat))=adv a (iZ xs))∧Aside0 (Sc P w w'))
  case atStart=>exact⟨a,0,rfl,rfl,⟨by omega,by omega⟩,⟨by simp⟩,⟨Sc.refl P w⟩⟩
  case round=>
    obtain⟨x1,x5,rfl,rfl,HI,HA,HS⟩:=hrel
    have HI:=HI
    by_cases c3:x5<(xs.length:Int)
    · have c4:0≤x5:=HI.out.1
      obtain⟨A',cap',e',_,hh⟩:=HF.out
      cases e'
      rcases hh with h0|⟨g,rfl,hP,_,_⟩
      ·exfalso;omega
      cases gk with
      |zero=>exfalso;have:=HI.out.2;omega
      |succ k1=>
      have HP:=Aside0.mk hP
      clear hP
      have C3:=Aside0.mk c3
      have C4:=Aside0.mk c4
      have b:decide (x5<(xs.length:Int))=true:=decide_eq_true c3
      have d:decide (0≤x5)=true:=decide_eq_true c4
      replace c3:=eq_true c3
      replace c4:=eq_true c4
      obtain⟨⟨cs,hcs⟩,⟨⟨a0,h0⟩,⟨A1,n1,c1,h1,r1⟩,⟨A2,n2,c2,h2,r2⟩⟩⟩:=eF.at (mR P xs) HF.out HS.out C4.out C3.out;replace r1:=Aside0.mk r1;replace r2:=Aside0.mk r2;have f0:=ay hcs ((x5:Int).toNat * 3)
      go_wp2_with (first|((with_reducible refine cB (t:=4) (p:=18) rfl ?_);refine bT (t:=4) (p:=18) (v:= ?vo_w101) (w1:=(wr.setCell ⟨g,(x5:Int).toNat * 3,none⟩ (.bool (Int.tmod x1 3==0)))) ?hg ?ho ?hn ?hr ?_;(case ho=>rfl);(case hg=>rfl);(case hn=>rfl);(case hr=>first|(go_simp;done)|(go_simp;rfl));intro c hw;have hS_:Sc P wr c:=(by rw[hw];exact Sc.set hcs h0 (.inr (.inr ⟨_,_,rfl,rfl⟩)) HP.out);clear hw;replace HS:=Aside0.mk (HS.out.trans hS_);clear hS_ h0 h1 r1 h2 r2 hcs f0;obtain⟨⟨cs,hcs⟩,⟨⟨a0,h0⟩,⟨A1,n1,c1,h1,r1⟩,⟨A2,n2,c2,h2,r2⟩⟩⟩:=eF.at (mR P xs) HF.out HS.out C4.out C3.out;replace r1:=Aside0.mk r1;replace r2:=Aside0.mk r2;have f0:=ay hcs ((x5:Int).toNat * 3))|((with_reducible refine ed (f:=45) rfl ?_);refine dH (some 27) rfl rfl Tryz.func45 (by kernel_rfl) rfl #[.slice A1 n1 c1, .int .i64 (wrap64 (x1+1))] rfl (by(try simp only[List.map_toArray,List.map_cons,List.map_nil]);first|done|rfl) ?_;(refine(lg P ((kW xs x5.toNat).f1.length) (wrap64 (x1+1)) _ _ r1.out).mono ?_);rintro e i ⟨rfl,hS_⟩;refine⟨_,rfl, ?_⟩;replace HS:=Aside0.mk (HS.out.trans hS_);clear hS_ h0 h1 r1 h2 r2 hcs f0;obtain⟨⟨cs,hcs⟩,⟨⟨a0,h0⟩,⟨A1,n1,c1,h1,r1⟩,⟨A2,n2,c2,h2,r2⟩⟩⟩:=eF.at (mR P xs) HF.out HS.out C4.out C3.out;replace r1:=Aside0.mk r1;replace r2:=Aside0.mk r2;have f0:=ay hcs ((x5:Int).toNat * 3))|((with_reducible refine ed (f:=45) rfl ?_);refine dH (some 34) rfl rfl Tryz.func45 (by kernel_rfl) rfl #[.slice A2 n2 c2, .int .i64 (adv (wrap64 (x1+1)) ((kW xs x5.toNat).f1.length))] rfl (by(try simp only[List.map_toArray,List.map_cons,List.map_nil]);first|done|rfl) ?_;(refine(lg P ((kW xs x5.toNat).f2.length) (adv (wrap64 (x1+1)) ((kW xs x5.toNat).f1.length)) _ _ r2.out).mono ?_);rintro e j ⟨rfl,hS_⟩;refine⟨_,rfl, ?_⟩;replace HS:=Aside0.mk (HS.out.trans hS_);clear hS_ h0 h1 r1 h2 r2 hcs f0;obtain⟨⟨cs,hcs⟩,⟨⟨a0,h0⟩,⟨A1,n1,c1,h1,r1⟩,⟨A2,n2,c2,h2,r2⟩⟩⟩:=eF.at (mR P xs) HF.out HS.out C4.out C3.out;replace r1:=Aside0.mk r1;replace r2:=Aside0.mk r2;have f0:=ay hcs ((x5:Int).toNat * 3)))
      go_roundg k1
      case measure=>omega
      case rel=>
        have hw:wrap64 (x5+1)=x5+1:=by have:=C3.out;have:=C4.out;have:=HL.out;unfold wrap64;omega
        refine⟨adv (adv (wrap64 (x1+1)) ((kW xs x5.toNat).f1.length)) ((kW xs x5.toNat).f2.length),x5+1,rfl,(by rw[hw]),⟨by have:=C4.out;omega,by have:=HI.out.2;omega⟩,⟨?_⟩,HS⟩
        rw[←HA.out]
        simp only[jU,←jI]
        congr 1
        rw[show(x5+1).toNat=x5.toNat+1 by have:=C4.out;omega]
        have hlt:x5.toNat<xs.length:=by have:=C3.out;have:=C4.out;omega
        unfold iZ
        rw[lH _ _ z57 _ hlt,show xs.getD x5.toNat z57=kW xs x5.toNat from rfl]
        simp only[mH,kZ,lc,Nat.add_assoc]
    · have b:decide (x5<(xs.length:Int))=false:=decide_eq_false c3
      have hx:x5.toNat=xs.length:=by have:=HI.out;omega
      go_wp2
      go_ret
      refine⟨?_,HS.out⟩
      rw[←HA.out,hx]
      simp[iZ,jk,adv]
set_option maxHeartbeats 8000000 in
set_option maxRecDepth 100000 in
theorem sW (P:Nat→Prop) (xs:List S104) (a:Int) (w:World) (v:Value) (h:sO P w xs v):Calls Tryz.prog 42 #[v, .int .i64 a] w fun e w' =>e= .returned (.int .i64 (adv a (jy xs)))∧Sc P w w' :=by
  obtain⟨A,cap,rfl,hle,hrow⟩:=id h
  have HF:=Aside0.mk h
  have HL:=Aside0.mk hle
  clear h hrow hle
  go_enter Tryz.func42,Tryz.ntmps42
  go_wp2
  go_loopg [1,5] (xs.length) (fun kq v1 v5 w' => ∃(x1 x5:Int),v1= .int .i64 x1∧v5= .int .i64 x5∧Aside0 (0≤x5∧x5+(kq:Int)=(xs.length:Int))∧Aside0 (adv x1 (jy (xs.drop x5.toNat))=adv a (jy xs))∧Aside0 (Sc P w w'))
  case atStart=>exact⟨a,0,rfl,rfl,⟨by omega,by omega⟩,⟨by simp⟩,⟨Sc.refl P w⟩⟩
  case round=>
    obtain⟨x1,x5,rfl,rfl,HI,HA,HS⟩:=hrel
    have HI:=HI
    by_cases c3:x5<(xs.length:Int)
    · have c4:0≤x5:=HI.out.1
      obtain⟨A',cap',e',_,hh⟩:=HF.out
      cases e'
      rcases hh with h0|⟨g,rfl,hP,_,_⟩
      ·exfalso;omega
      cases gk with
      |zero=>exfalso;have:=HI.out.2;omega
      |succ k1=>
      have HP:=Aside0.mk hP
      clear hP
      have C3:=Aside0.mk c3
      have C4:=Aside0.mk c4
      have i:decide (x5<(xs.length:Int))=true:=decide_eq_true c3
      have l:decide (0≤x5)=true:=decide_eq_true c4
      replace c3:=eq_true c3
      replace c4:=eq_true c4
      obtain⟨⟨cs,hcs⟩,⟨⟨a0,h0⟩,⟨a1,h1⟩,⟨A2,n2,c2,h2,r2⟩,⟨a3,h3⟩,⟨a4,h4⟩,⟨A5,n5,c5,h5,r5⟩,⟨A6,n6,c6,h6,r6⟩,⟨A7,n7,c7,h7,r7⟩⟩⟩:=eF.at (jA P xs) HF.out HS.out C4.out C3.out;replace r2:=Aside0.mk r2;replace r5:=Aside0.mk r5;replace r6:=Aside0.mk r6;replace r7:=Aside0.mk r7;have f0:=ay hcs ((x5:Int).toNat * 8);have f1:=ay hcs ((x5:Int).toNat * 8+1);have f3:=ay hcs ((x5:Int).toNat * 8+3);have f4:=ay hcs ((x5:Int).toNat * 8+4)
      go_wp2_with (first|((with_reducible refine cB (t:=3) (p:=16) rfl ?_);refine bT (t:=3) (p:=16) (v:= ?vo_w101) (w1:=(wr.setCell ⟨g,(x5:Int).toNat * 8,none⟩ (.int .i64 x1))) ?hg ?ho ?hn ?hr ?_;(case ho=>rfl);(case hg=>rfl);(case hn=>rfl);(case hr=>first|(go_simp;done)|(go_simp;rfl));intro b hw;have hS_:Sc P wr b:=(by rw[hw];exact Sc.set hcs h0 (.inr (.inl ⟨_,_,rfl,rfl⟩)) HP.out);clear hw;replace HS:=Aside0.mk (HS.out.trans hS_);clear hS_ h0 h1 h2 r2 h3 h4 h5 r5 h6 r6 h7 r7 hcs f0 f1 f3 f4;obtain⟨⟨cs,hcs⟩,⟨⟨a0,h0⟩,⟨a1,h1⟩,⟨A2,n2,c2,h2,r2⟩,⟨a3,h3⟩,⟨a4,h4⟩,⟨A5,n5,c5,h5,r5⟩,⟨A6,n6,c6,h6,r6⟩,⟨A7,n7,c7,h7,r7⟩⟩⟩:=eF.at (jA P xs) HF.out HS.out C4.out C3.out;replace r2:=Aside0.mk r2;replace r5:=Aside0.mk r5;replace r6:=Aside0.mk r6;replace r7:=Aside0.mk r7;have f0:=ay hcs ((x5:Int).toNat * 8);have f1:=ay hcs ((x5:Int).toNat * 8+1);have f3:=ay hcs ((x5:Int).toNat * 8+3);have f4:=ay hcs ((x5:Int).toNat * 8+4))|((with_reducible refine cB (t:=3) (p:=23) rfl ?_);refine bT (t:=3) (p:=23) (v:= ?vo_w102) (w1:=(b.setCell ⟨g,(x5:Int).toNat * 8+1,none⟩ (.int .i64 (wrap64 (x1+1))))) ?hg ?ho ?hn ?hr ?_;(case ho=>rfl);(case hg=>rfl);(case hn=>rfl);(case hr=>first|(go_simp;done)|(go_simp;rfl));intro j hw;have hS_:Sc P b j:=(by rw[hw];exact Sc.set hcs h1 (.inr (.inl ⟨_,_,rfl,rfl⟩)) HP.out);clear hw;replace HS:=Aside0.mk (HS.out.trans hS_);clear hS_ h0 h1 h2 r2 h3 h4 h5 r5 h6 r6 h7 r7 hcs f0 f1 f3 f4;obtain⟨⟨cs,hcs⟩,⟨⟨a0,h0⟩,⟨a1,h1⟩,⟨A2,n2,c2,h2,r2⟩,⟨a3,h3⟩,⟨a4,h4⟩,⟨A5,n5,c5,h5,r5⟩,⟨A6,n6,c6,h6,r6⟩,⟨A7,n7,c7,h7,r7⟩⟩⟩:=eF.at (jA P xs) HF.out HS.out C4.out C3.out;replace r2:=Aside0.mk r2;replace r5:=Aside0.mk r5;replace r6:=Aside0.mk r6;replace r7:=Aside0.mk r7;have f0:=ay hcs ((x5:Int).toNat * 8);have f1:=ay hcs ((x5:Int).toNat * 8+1);have f3:=ay hcs ((x5:Int).toNat * 8+3);have f4:=ay hcs ((x5:Int).toNat * 8+4))|((with_reducible refine ed (f:=45) rfl ?_);refine dH (some 32) rfl rfl Tryz.func45 (by kernel_rfl) rfl #[.slice A2 n2 c2, .int .i64 (wrap64 ((wrap64 (x1+1))+1))] rfl (by(try simp only[List.map_toArray,List.map_cons,List.map_nil]);first|done|rfl) ?_;(refine(lg P ((fK xs x5.toNat).f2.length) (wrap64 ((wrap64 (x1+1))+1)) _ _ r2.out).mono ?_);rintro e d ⟨rfl,hS_⟩;refine⟨_,rfl, ?_⟩;replace HS:=Aside0.mk (HS.out.trans hS_);clear hS_ h0 h1 h2 r2 h3 h4 h5 r5 h6 r6 h7 r7 hcs f0 f1 f3 f4;obtain⟨⟨cs,hcs⟩,⟨⟨a0,h0⟩,⟨a1,h1⟩,⟨A2,n2,c2,h2,r2⟩,⟨a3,h3⟩,⟨a4,h4⟩,⟨A5,n5,c5,h5,r5⟩,⟨A6,n6,c6,h6,r6⟩,⟨A7,n7,c7,h7,r7⟩⟩⟩:=eF.at (jA P xs) HF.out HS.out C4.out C3.out;replace r2:=Aside0.mk r2;replace r5:=Aside0.mk r5;replace r6:=Aside0.mk r6;replace r7:=Aside0.mk r7;have f0:=ay hcs ((x5:Int).toNat * 8);have f1:=ay hcs ((x5:Int).toNat * 8+1);have f3:=ay hcs ((x5:Int).toNat * 8+3);have f4:=ay hcs ((x5:Int).toNat * 8+4))|((with_reducible refine cB (t:=3) (p:=37) rfl ?_);refine bT (t:=3) (p:=37) (v:= ?vo_w104) (w1:=(d.setCell ⟨g,(x5:Int).toNat * 8+3,none⟩ (.int .i64 (adv (wrap64 ((wrap64 (x1+1))+1)) ((fK xs x5.toNat).f2.length))))) ?hg ?ho ?hn ?hr ?_;(case ho=>rfl);(case hg=>rfl);(case hn=>rfl);(case hr=>first|(go_simp;done)|(go_simp;rfl));intro c hw;have hS_:Sc P d c:=(by rw[hw];exact Sc.set hcs h3 (.inr (.inl ⟨_,_,rfl,rfl⟩)) HP.out);clear hw;replace HS:=Aside0.mk (HS.out.trans hS_);clear hS_ h0 h1 h2 r2 h3 h4 h5 r5 h6 r6 h7 r7 hcs f0 f1 f3 f4;obtain⟨⟨cs,hcs⟩,⟨⟨a0,h0⟩,⟨a1,h1⟩,⟨A2,n2,c2,h2,r2⟩,⟨a3,h3⟩,⟨a4,h4⟩,⟨A5,n5,c5,h5,r5⟩,⟨A6,n6,c6,h6,r6⟩,⟨A7,n7,c7,h7,r7⟩⟩⟩:=eF.at (jA P xs) HF.out HS.out C4.out C3.out;replace r2:=Aside0.mk r2;replace r5:=Aside0.mk r5;replace r6:=Aside0.mk r6;replace r7:=Aside0.mk r7;have f0:=ay hcs ((x5:Int).toNat * 8);have f1:=ay hcs ((x5:Int).toNat * 8+1);have f3:=ay hcs ((x5:Int).toNat * 8+3);have f4:=ay hcs ((x5:Int).toNat * 8+4))|((with_reducible refine cB (t:=3) (p:=44) rfl ?_);refine bT (t:=3) (p:=44) (v:= ?vo_w105) (w1:=(c.setCell ⟨g,(x5:Int).toNat * 8+4,none⟩ (.int .i64 (wrap64 ((adv (wrap64 ((wrap64 (x1+1))+1)) ((fK xs x5.toNat).f2.length))+1))))) ?hg ?ho ?hn ?hr ?_;(case ho=>rfl);(case hg=>rfl);(case hn=>rfl);(case hr=>first|(go_simp;done)|(go_simp;rfl));intro k hw;have hS_:Sc P c k:=(by rw[hw];exact Sc.set hcs h4 (.inr (.inl ⟨_,_,rfl,rfl⟩)) HP.out);clear hw;replace HS:=Aside0.mk (HS.out.trans hS_);clear hS_ h0 h1 h2 r2 h3 h4 h5 r5 h6 r6 h7 r7 hcs f0 f1 f3 f4;obtain⟨⟨cs,hcs⟩,⟨⟨a0,h0⟩,⟨a1,h1⟩,⟨A2,n2,c2,h2,r2⟩,⟨a3,h3⟩,⟨a4,h4⟩,⟨A5,n5,c5,h5,r5⟩,⟨A6,n6,c6,h6,r6⟩,⟨A7,n7,c7,h7,r7⟩⟩⟩:=eF.at (jA P xs) HF.out HS.out C4.out C3.out;replace r2:=Aside0.mk r2;replace r5:=Aside0.mk r5;replace r6:=Aside0.mk r6;replace r7:=Aside0.mk r7;have f0:=ay hcs ((x5:Int).toNat * 8);have f1:=ay hcs ((x5:Int).toNat * 8+1);have f3:=ay hcs ((x5:Int).toNat * 8+3);have f4:=ay hcs ((x5:Int).toNat * 8+4))|((with_reducible refine ed (f:=88) rfl ?_);refine dH (some 53) rfl rfl Tryz.func88 (by kernel_rfl) rfl #[.slice A5 n5 c5, .int .i64 (wrap64 ((wrap64 ((adv (wrap64 ((wrap64 (x1+1))+1)) ((fK xs x5.toNat).f2.length))+1))+1))] rfl (by(try simp only[List.map_toArray,List.map_cons,List.map_nil]);first|done|rfl) ?_;(refine(sQ P ((fK xs x5.toNat).f5.length) (wrap64 ((wrap64 ((adv (wrap64 ((wrap64 (x1+1))+1)) ((fK xs x5.toNat).f2.length))+1))+1)) _ _ r5.out).mono ?_);rintro e m ⟨rfl,hS_⟩;refine⟨_,rfl, ?_⟩;replace HS:=Aside0.mk (HS.out.trans hS_);clear hS_ h0 h1 h2 r2 h3 h4 h5 r5 h6 r6 h7 r7 hcs f0 f1 f3 f4;obtain⟨⟨cs,hcs⟩,⟨⟨a0,h0⟩,⟨a1,h1⟩,⟨A2,n2,c2,h2,r2⟩,⟨a3,h3⟩,⟨a4,h4⟩,⟨A5,n5,c5,h5,r5⟩,⟨A6,n6,c6,h6,r6⟩,⟨A7,n7,c7,h7,r7⟩⟩⟩:=eF.at (jA P xs) HF.out HS.out C4.out C3.out;replace r2:=Aside0.mk r2;replace r5:=Aside0.mk r5;replace r6:=Aside0.mk r6;replace r7:=Aside0.mk r7;have f0:=ay hcs ((x5:Int).toNat * 8);have f1:=ay hcs ((x5:Int).toNat * 8+1);have f3:=ay hcs ((x5:Int).toNat * 8+3);have f4:=ay hcs ((x5:Int).toNat * 8+4))|((with_reducible refine ed (f:=89) rfl ?_);refine dH (some 60) rfl rfl Tryz.func89 (by kernel_rfl) rfl #[.slice A6 n6 c6, .int .i64 (adv (wrap64 ((wrap64 ((adv (wrap64 ((wrap64 (x1+1))+1)) ((fK xs x5.toNat).f2.length))+1))+1)) (3 * ((fK xs x5.toNat).f5.length)))] rfl (by(try simp only[List.map_toArray,List.map_cons,List.map_nil]);first|done|rfl) ?_;(refine(sV P ((fK xs x5.toNat).f6) (adv (wrap64 ((wrap64 ((adv (wrap64 ((wrap64 (x1+1))+1)) ((fK xs x5.toNat).f2.length))+1))+1)) (3 * ((fK xs x5.toNat).f5.length))) _ _ r6.out).mono ?_);rintro e n ⟨rfl,hS_⟩;refine⟨_,rfl, ?_⟩;replace HS:=Aside0.mk (HS.out.trans hS_);clear hS_ h0 h1 h2 r2 h3 h4 h5 r5 h6 r6 h7 r7 hcs f0 f1 f3 f4;obtain⟨⟨cs,hcs⟩,⟨⟨a0,h0⟩,⟨a1,h1⟩,⟨A2,n2,c2,h2,r2⟩,⟨a3,h3⟩,⟨a4,h4⟩,⟨A5,n5,c5,h5,r5⟩,⟨A6,n6,c6,h6,r6⟩,⟨A7,n7,c7,h7,r7⟩⟩⟩:=eF.at (jA P xs) HF.out HS.out C4.out C3.out;replace r2:=Aside0.mk r2;replace r5:=Aside0.mk r5;replace r6:=Aside0.mk r6;replace r7:=Aside0.mk r7;have f0:=ay hcs ((x5:Int).toNat * 8);have f1:=ay hcs ((x5:Int).toNat * 8+1);have f3:=ay hcs ((x5:Int).toNat * 8+3);have f4:=ay hcs ((x5:Int).toNat * 8+4))|((with_reducible refine ed (f:=90) rfl ?_);refine dH (some 67) rfl rfl Tryz.func90 (by kernel_rfl) rfl #[.slice A7 n7 c7, .int .i64 (adv (adv (wrap64 ((wrap64 ((adv (wrap64 ((wrap64 (x1+1))+1)) ((fK xs x5.toNat).f2.length))+1))+1)) (3 * ((fK xs x5.toNat).f5.length))) (iZ ((fK xs x5.toNat).f6)))] rfl (by(try simp only[List.map_toArray,List.map_cons,List.map_nil]);first|done|rfl) ?_;(refine(sS P ((fK xs x5.toNat).f7.length) (adv (adv (wrap64 ((wrap64 ((adv (wrap64 ((wrap64 (x1+1))+1)) ((fK xs x5.toNat).f2.length))+1))+1)) (3 * ((fK xs x5.toNat).f5.length))) (iZ ((fK xs x5.toNat).f6))) _ _ r7.out).mono ?_);rintro e o ⟨rfl,hS_⟩;refine⟨_,rfl, ?_⟩;replace HS:=Aside0.mk (HS.out.trans hS_);clear hS_ h0 h1 h2 r2 h3 h4 h5 r5 h6 r6 h7 r7 hcs f0 f1 f3 f4;obtain⟨⟨cs,hcs⟩,⟨⟨a0,h0⟩,⟨a1,h1⟩,⟨A2,n2,c2,h2,r2⟩,⟨a3,h3⟩,⟨a4,h4⟩,⟨A5,n5,c5,h5,r5⟩,⟨A6,n6,c6,h6,r6⟩,⟨A7,n7,c7,h7,r7⟩⟩⟩:=eF.at (jA P xs) HF.out HS.out C4.out C3.out;replace r2:=Aside0.mk r2;replace r5:=Aside0.mk r5;replace r6:=Aside0.mk r6;replace r7:=Aside0.mk r7;have f0:=ay hcs ((x5:Int).toNat * 8);have f1:=ay hcs ((x5:Int).toNat * 8+1);have f3:=ay hcs ((x5:Int).toNat * 8+3);have f4:=ay hcs ((x5:Int).toNat * 8+4)))
      go_roundg k1
      case measure=>omega
      case rel=>
        have hw:wrap64 (x5+1)=x5+1:=by have:=C3.out;have:=C4.out;have:=HL.out;unfold wrap64;omega
        refine⟨adv (adv (adv (wrap64 ((wrap64 ((adv (wrap64 ((wrap64 (x1+1))+1)) ((fK xs x5.toNat).f2.length))+1))+1)) (3 * ((fK xs x5.toNat).f5.length))) (iZ ((fK xs x5.toNat).f6))) (4 * ((fK xs x5.toNat).f7.length)),x5+1,rfl,(by rw[hw]),⟨by have:=C4.out;omega,by have:=HI.out.2;omega⟩,⟨?_⟩,HS⟩
        rw[←HA.out]
        simp only[jU,←jI]
        congr 1
        rw[show(x5+1).toNat=x5.toNat+1 by have:=C4.out;omega]
        have hlt:x5.toNat<xs.length:=by have:=C3.out;have:=C4.out;omega
        unfold jy
        rw[lH _ _ iQ _ hlt,show xs.getD x5.toNat iQ=fK xs x5.toNat from rfl]
        simp only[mH,kZ,lc,Nat.add_assoc]
    · have i:decide (x5<(xs.length:Int))=false:=decide_eq_false c3
      have hx:x5.toNat=xs.length:=by have:=HI.out;omega
      go_wp2
      go_ret
      refine⟨?_,HS.out⟩
      rw[←HA.out,hx]
      simp[jy,jk,adv]
section
variable {P:Nat→Prop} {w:World} {base:Nat} {ok:Nat→Prop} {v:Value}
theorem rowOf {α:Type} {d:Kd α} {e:Nat} {xs:List α} {E:Nat→World→Nat→Nat→Prop} (h:d.R e w base ok v xs) (hok: ∀k,ok k→base≤k→P k) (z:α)
    (hE: ∀i g c,i<xs.length→d.M w base (fun k=>ok k∧k≠g) (xs.getD i z) c→(∀j u,c[j]? =some u→w.cell? ⟨g,i * d.sz+j,none⟩=some u)→E i w g (i * d.sz)):eF e d.sz E P w v xs.length:=by
  obtain⟨inner,ho⟩:=Kd.R_own h
  obtain⟨hl,⟨rfl,hn⟩|⟨g,cap,cur,rfl,hg,hh,hc1,hc2,hsz,hcur⟩⟩:=id ho
  ·exact⟨none,0,by rw[hn],by rw[hn];omega, .inl hn⟩
  · refine⟨_,cap,rfl,Nat.le_trans hc1 (Nat.le_trans hc2 (by decide)), .inr ⟨g,rfl,hok g (h.1 g rfl) hg,⟨cur,hh⟩,fun i hi=> ?_⟩⟩
    obtain⟨c,hcl,hM,hcc,hf⟩:=Kd.R_elem h z (i:Int) (by omega) (by omega)
    exact hE i g c hi hM hcc
theorem vS {xs:List Int} (h:(Kd.int .i64).R 3 w base ok v xs) (hok: ∀k,ok k→base≤k→P k):kI P w xs.length v:=
  rowOf h hok 0 (fun i g c hi hM hcc=>by
    have hM:c= [.int .i64 (xs.getD i 0)]:=hM
    exact⟨_,hcc 0 _ (by rw[hM];rfl)⟩)
theorem nX {xs:List Int} {g o:Nat} (hx:w.cell? ⟨g,o,none⟩=some v) (h:(Kd.int .i64).R 3 w base ok v xs) (hok: ∀k,ok k→base≤k→P k):isR (kI P w xs.length) w g o:=by
  obtain⟨A,c,rfl⟩:=Kd.R_slice h
  exact⟨A,_,c,hx,vS h hok⟩
theorem vT {xs:List S113} (h:fq.R 113 w base ok v xs) (hok: ∀k,ok k→base≤k→P k):mE P w xs.length v:=
  rowOf h hok ig (fun i g c hi hM hcc=>by
    obtain rfl:=kT hM
    exact⟨⟨_,hcc 0 _ rfl⟩,⟨_,hcc 1 _ rfl⟩,⟨_,hcc 2 _ rfl⟩⟩)
theorem vU {xs:List S181} (h:eZ.R 181 w base ok v xs) (hok: ∀k,ok k→base≤k→P k):mF P w xs.length v:=
  rowOf h hok gm (fun i g c hi hM hcc=>by
    obtain rfl:=kU hM
    exact⟨⟨_,hcc 0 _ rfl⟩,⟨_,hcc 1 _ rfl⟩,⟨_,hcc 2 _ rfl⟩,⟨_,hcc 3 _ rfl⟩⟩)
theorem vV {xs:List S126} (h:eB.R 126 w base ok v xs) (hok: ∀k,ok k→base≤k→P k):sN P w xs v:=
  rowOf h hok iI (fun i g c hi hM hcc=>by
    obtain⟨v1,rfl,g1⟩:=kS hM
    exact⟨⟨_,hcc 0 _ rfl⟩,nX (hcc 1 _ rfl) g1 (fun k hk=>hok k hk.1)⟩)
theorem vW {xs:List S57} (h:k57.R 57 w base ok v xs) (hok: ∀k,ok k→base≤k→P k):mG P w xs v:=
  rowOf h hok z57 (fun i g c hi hM hcc=>by
    obtain⟨v1,v2,rfl,g1,g2⟩:=lD hM
    exact⟨⟨_,hcc 0 _ rfl⟩,nX (hcc 1 _ rfl) g1 (fun k hk=>hok k hk.1),nX (hcc 2 _ rfl) g2 (fun k hk=>hok k hk.1)⟩)
theorem vX {xs:List S104} (h:dV.R 104 w base ok v xs) (hok: ∀k,ok k→base≤k→P k):sO P w xs v:=
  rowOf h hok iQ (fun i g c hi hM hcc=>by
    obtain⟨v2,v5,v6,v7,rfl,g2,g5,g6,g7⟩:=kV hM
    have h5:isR (mE P w (fK xs i).f5.length) w g (i * dV.sz+5):=by
      obtain⟨A,c,rfl⟩:=Kd.R_slice g5
      exact⟨A,_,c,hcc 5 _ rfl,vT g5 (fun k hk=>hok k hk.1)⟩
    have h6:isR (mG P w (fK xs i).f6) w g (i * dV.sz+6):=by
      obtain⟨A,c,rfl⟩:=Kd.R_slice g6
      exact⟨A,_,c,hcc 6 _ rfl,vW g6 (fun k hk=>hok k hk.1)⟩
    have h7:isR (mF P w (fK xs i).f7.length) w g (i * dV.sz+7):=by
      obtain⟨A,c,rfl⟩:=Kd.R_slice g7
      exact⟨A,_,c,hcc 7 _ rfl,vU g7 (fun k hk=>hok k hk.1)⟩
    exact⟨⟨_,hcc 0 _ rfl⟩,⟨_,hcc 1 _ rfl⟩,nX (hcc 2 _ rfl) g2 (fun k hk=>hok k hk.1),⟨_,hcc 3 _ rfl⟩,⟨_,hcc 4 _ rfl⟩,h5,h6,h7⟩)
end
set_option maxHeartbeats 8000000 in
set_option maxRecDepth 100000 in
theorem iL.calls (c:Nat→Prop) (g:Value) (a:List S126) (d:Nat→Prop) (i:Value) (b:List S104) (a1:Int) (r1:Int) (w0 w:World) (hB:Below w0.heap.size w0 w) (ho0:Kd.S eB 126 w w0.heap.size c g a) (ho1:Kd.R dV 104 w w0.heap.size d i b) (h:iL.f a b a1=some r1):
    Calls Tryz.prog 12 #[.agg #[g,i], .int .i64 a1] w fun e w' =>e= .returned (.int .i64 r1)∧Below w0.heap.size w0 w' ∧Kept w w' (fun k_=>c k_∨d k_):=by
  obtain⟨A0,c0,rfl⟩:=Kd.S_slice ho0
  obtain⟨A1,c1,rfl⟩:=Kd.R_slice ho1
  have h0:sN (fun k=>(c k∨d k)∧w0.heap.size≤k) w a (.slice A0 a.length c0):=vV (Kd.S_R ho0) (fun k hk hb=>⟨.inl hk,hb⟩)
  have h1:sO (fun k=>(c k∨d k)∧w0.heap.size≤k) w b (.slice A1 b.length c1):=vX ho1 (fun k hk hb=>⟨.inr hk,hb⟩)
  have hu:=Tryz.underlying38
  obtain rfl:=Option.some.inj h
  have H0:=Aside0.mk h0
  have H1:=Aside0.mk h1
  have HB:=Aside0.mk hB
  clear h0 h1 hB ho0 ho1 h
  generalize hP:(fun k=>(c k∨d k)∧w0.heap.size≤k)=P at H0 H1
  have HP:=Aside0.mk hP
  clear hP
  have HA:=Aside0.mk (jI a1 (iY a) (jy b))
  go_enter Tryz.func12,Tryz.ntmps12
  go_wp2_with (first|((with_reducible refine gd 2 rfl ?_);refine bx 2 #[.slice A0 a.length c0, .slice A1 b.length c1] 38 ?_;intro gb hg w2 hbox hb;have BK:=Aside0.mk hbox;have H2:=Aside0.mk (eF.stays (nW P a) H0.out (Sc.of_below hb));have H3:=Aside0.mk (eF.stays (jA P b) H1.out (Sc.of_below hb));have HW:=Aside0.mk hb;have j:=cz hbox 0 rfl;have l:=cz hbox 1 rfl;have HG:=Aside0.mk hg;clear hb hbox hg)|((with_reducible refine ed (f:=41) rfl ?_);refine dH (some 8) rfl rfl Tryz.func41 (by kernel_rfl) rfl #[.slice A0 a.length c0, .int .i64 a1] rfl (by(try simp only[List.map_toArray,List.map_cons,List.map_nil]);first|done|rfl) ?_;(refine(sU P a a1 _ _ H2.out).mono ?_);rintro e w3 ⟨rfl,hs⟩;refine⟨_,rfl, ?_⟩;replace H3:=Aside0.mk (eF.stays (jA P b) H3.out hs);have HS:=Aside0.mk hs;replace j:=Sc.slice ⟨_,_,BK.out⟩ hs j;replace l:=Sc.slice ⟨_,_,BK.out⟩ hs l;clear hs)|((with_reducible refine ed (f:=42) rfl ?_);refine dH (some 12) rfl rfl Tryz.func42 (by kernel_rfl) rfl #[.slice A1 b.length c1, .int .i64 (adv a1 (iY a))] rfl (by(try simp only[List.map_toArray,List.map_cons,List.map_nil]);first|done|rfl) ?_;(refine(sW P b (adv a1 (iY a)) _ _ H3.out).mono ?_);rintro e w4 ⟨rfl,hs⟩;refine⟨_,rfl, ?_⟩;replace HS:=Aside0.mk (HS.out.trans hs);clear hs))
  go_ret
  refine⟨by show Ending.returned (.int .i64 (adv (adv a1 (iY a)) (jy b)))=_;rw[HA.out], ?_, ?_⟩
  ·exact HS.out.below (bi HB.out HW.out) (fun k hk=>by rw[←HP.out]at hk;exact hk.2) (Nat.le_trans (aU HB.out) HW.out.size)
  ·exact Kept.mono (Kept.then_ (Kept.of_below HW.out P) HS.out.kept (fun k hk=> .inl hk)) (fun k hk=>by rw[←HP.out]at hk;exact hk.1)
end Go.Proofs.YteinbmkgenhocaaGreat.P
end
