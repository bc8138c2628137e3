/- A part of the claim FnExactMachNew. -/
import Derived.MapKept
import Derived.Test.YteinbmkgenhocaaGreatCFnExactMachNew21
section
namespace Go.Proofs.YteinbmkgenhocaaGreat.P
open Go.RowKit Go.Proofs.YteinbmkgenhocaaGreatW.PrintWords Go.Proofs.YteinbmkgenhocaaGreatW.PrintLast Go.Proofs.YteinbmkgenhocaaGreatW.PrintMore
attribute [local go_sem] ak au az aA ai aj av ax
set_option linter.unusedVariables false
set_option linter.unusedSimpArgs false
def dM.l0:Nat→List (S70)→Int→Int→Option (Int)
  |0,_,_,_=>none
  |k+1,x0,x1,x5=>if x5<(x0.length:Int)then(if 0≤x5 then(if((bn x0 x5).f0)=x1 then(if((bn x0 x5).f1)=(wrap64 (x1+1))then((dD.f k ((bn x0 x5).f2) (wrap64 ((wrap64 (x1+1))+1))).bind fun a=>(if a<0 then(some (-1))else((dD.f k ((bn x0 x5).f3) a).bind fun b=>(if b<0 then(some (-1))else(dM.l0 k x0 b (wrap64 (x5+1)))))))else(some (-1)))else(some (-1)))else(none))else(some x1)
def dM.f (k:Nat) (l0:List (S70)) (a1:Int):Option (Int):=dM.l0 k l0 a1 0
def eO.l0:Nat→List Int→Int→Int→Option (Int)
  |0,_,_,_=>none
  |k+1,x0,x1,x5=>if x5<(x0.length:Int)then(if 0≤x5 then(if(rd x0 x5)=x1 then(eO.l0 k x0 (wrap64 (x1+1)) (wrap64 (x5+1)))else(some (-1)))else(none))else(some x1)
def eO.f (k:Nat) (l0:List Int) (a1:Int):Option (Int):=eO.l0 k l0 a1 0
def gP.f (k:Nat) (d:List (S91)) (e:List (S70)) (g:List Int) (i:Int) (j:Int) (l:Bool) (m:Int) (a1:Int):Option (Int):=(dU.f k d a1).bind fun a=>(if a<0 then(some (-1))else((dM.f k e a).bind fun b=>(if b<0 then(some (-1))else((eO.f k g b).bind fun c=>(if c<0 then(some (-1))else(some c))))))
def aM.f (a0:Int) (a1:Int) (a2:Int):Option (Bool):=if a0≥a1 then(some (decide (a0≤a2)))else(some false)
def cu.f (l0:List (S126)) (a1:Int):Option (Bool):=if a1=1 then(some true)else(if a1=3 then(some true)else(if a1=4 then(some true)else((aM.f a1 8 (wrap64 ((wrap64 (8+(l0.length:Int))) - 1))).bind fun a=>(some a))))
def dP.l0:Nat→List (S126)→Int→Int→Int→List Int→Option (Bool)
  |0,_,_,_,_,_=>none
  |k+1,x0,x1,x6,b,a=>if x6<(a.length:Int)then(if 0≤x6 then((cu.f x0 (rd a x6)).bind fun t124=>(if t124=true then(dP.l0 k x0 x1 (wrap64 (x6+1)) b a)else(some false)))else(none))else(if x1=0 then(if b=(-1)then(some ((a.length:Int)==0))else(some false))else(if x1=1 then(if b=0 then(if(a.length:Int)=1 then(if 0<(a.length:Int)then(some ((rd a 0)==1))else(none))else(some false))else(some false))else((aM.f b 0 (wrap64 (x1 - 1))).bind fun c=>(if c=true then(some (decide ((a.length:Int)≤2)))else(some false)))))
def dP.f (k:Nat) (l0:List (S126)) (a1:Int):Option (Bool):=if 0≤a1 then(if a1<(l0.length:Int)then(dP.l0 k l0 a1 0 ((aD l0 a1).f0) ((aD l0 a1).f1))else(none))else(none)
def bG.l0:Nat→List (S126)→Int→Option (Bool)
  |0,_,_=>none
  |k+1,x0,x3=>if x3<(x0.length:Int)then((dP.f k x0 x3).bind fun a=>(if a=true then(bG.l0 k x0 (wrap64 (x3+1)))else(some false)))else(some true)
def bG.f (k:Nat) (l0:List (S126)):Option (Bool):=(aM.f (l0.length:Int) 2 5).bind fun t127=>(if t127=true then(bG.l0 k l0 0)else(some false))
mutual
def bv.j0:Nat→Int→List (S126)→List (S104)→Int→Int→List Int→Int→Int→List (S113)→List (S57)→List (S181)→Option (Bool)
  |0,_,_,_,_,_,_,_,_,_,_,_=>none
  |k+1,x5,a,g,b,i,c,d,e,j,l,m=>if b=0 then(bv.j1 k true a g b i c d e j l m)else((aM.f b (-1) (wrap64 ((a.length:Int) - 1))).bind fun n=>(if n=true then(if(c.length:Int)>2 then(bv.j1 k true a g b i c d e j l m)else((cu.f a d).bind fun t141=>(if t141=true then((aM.f e (wrap64 (x5+(c.length:Int))) 3).bind fun o=>(bv.j1 k (!o) a g b i c d e j l m))else(bv.j1 k true a g b i c d e j l m))))else(bv.j1 k true a g b i c d e j l m)))
def bv.j1:Nat→Bool→List (S126)→List (S104)→Int→Int→List Int→Int→Int→List (S113)→List (S57)→List (S181)→Option (Bool)
  |0,_,_,_,_,_,_,_,_,_,_,_=>none
  |k+1,n,a,b,c,d,e,g,i,j,l,m=>if n=true then(some false)else(bv.l0 k 0 a b c d e g i j l m)
def bv.l0:Nat→Int→List (S126)→List (S104)→Int→Int→List Int→Int→Int→List (S113)→List (S57)→List (S181)→Option (Bool)
  |0,_,_,_,_,_,_,_,_,_,_,_=>none
  |k+1,x6,d,e,a,b,c,g,i,j,l,m=>if x6<(c.length:Int)then(if 0≤x6 then((cu.f d (rd c x6)).bind fun n=>(if n=true then(bv.l0 k (wrap64 (x6+1)) d e a b c g i j l m)else(some false)))else(none))else(if a≥0 then((aM.f b 0 2).bind fun t145=>(if t145=true then(some true)else(if a<0 then(some (b==0))else(some false))))else(if a<0 then(some (b==0))else(some false)))
end
def bv.f (k:Nat) (b:List (S126)) (c:List (S104)) (a:Int) (d:Int) (e:List Int) (g:Int) (i:Int) (j:List (S113)) (l:List (S57)) (m:List (S181)):Option (Bool):=if a≥0 then(bv.j0 k 1 b c a d e g i j l m)else(bv.j0 k 0 b c a d e g i j l m)
def ic.f (a0:Int):Option (Bool):=(aM.f a0 (-128) 127).bind fun t146=>(some t146)
def dE.f:Nat→List (S126)→Int→Option (List Int)
  |0,_,_=>none
  |k+1,l0,a1=>if a1=0 then(some (([]:List Int)))else(if 0≤a1 then(if a1<(l0.length:Int)then((dE.f k l0 ((aD l0 a1).f0)).bind fun a=>(if a.length+((aD l0 a1).f1).length<17592186044416 then(some (a++((aD l0 a1).f1)))else(none)))else(none))else(none))
mutual
def aN.j0:Nat→Bool→Int→Bool→List (S126)→List (S104)→Int→Int→List Int→Int→Int→List (S113)→List (S57)→List (S181)→Int→Int→Int→Option (Bool)
  |0,_,_,_,_,_,_,_,_,_,_,_,_,_,_,_,_=>none
  |k+1,x7,q,x27,c,d,e,g,i,j,l,m,n,o,p,a,b=>if x27=true then(if a=0 then(some (b==0))else(some false))else(if q=3 then(aN.j1 k x7 q (q==3) c d e g i j l m n o p a b)else(aN.j1 k x7 q (q==4) c d e g i j l m n o p a b))
def aN.j1:Nat→Bool→Int→Bool→List (S126)→List (S104)→Int→Int→List Int→Int→Int→List (S113)→List (S57)→List (S181)→Int→Int→Int→Option (Bool)
  |0,_,_,_,_,_,_,_,_,_,_,_,_,_,_,_,_=>none
  |k+1,x7,d,x43,e,g,i,j,l,m,c,n,o,p,q,a,b=>if x43=true then((aM.f a 0 (wrap64 (c - 1))).bind fun r=>(if r=true then(some (b==0))else(some false)))else(if d=7 then((aM.f a 1 4).bind fun t164=>(if t164=true then(some (b==0))else(some false)))else(if d=8 then(aN.j2 k x7 d (d==8) e g i j l m c n o p q a b)else(if d=9 then(aN.j2 k x7 d (d==9) e g i j l m c n o p q a b)else(if d=10 then(aN.j2 k x7 d (d==10) e g i j l m c n o p q a b)else(aN.j2 k x7 d (d==11) e g i j l m c n o p q a b)))))
def aN.j2:Nat→Bool→Int→Bool→List (S126)→List (S104)→Int→Int→List Int→Int→Int→List (S113)→List (S57)→List (S181)→Int→Int→Int→Option (Bool)
  |0,_,_,_,_,_,_,_,_,_,_,_,_,_,_,_,_=>none
  |k+1,x7,g,s,c,d,l,m,n,o,p,i,q,r,e,a,b=>if s=true then((aM.f a 0 (wrap64 ((i.length:Int) - 1))).bind fun j=>(if j=true then(some (b==0))else(some false)))else(if g=12 then(aN.j3 k x7 g (g==12) c d e a b)else(aN.j3 k x7 g (g==19) c d e a b))
def aN.j3:Nat→Bool→Int→Bool→List (S126)→List (S104)→Int→Int→Int→Option (Bool)
  |0,_,_,_,_,_,_,_,_=>none
  |k+1,x7,g,x84,b,c,d,e,a=>if x84=true then(if x7=true then(some (a==0))else(some false))else(if g=13 then(aN.j4 k x7 g (g==13) b c d e a)else(if g=15 then(aN.j4 k x7 g (g==15) b c d e a)else(aN.j4 k x7 g (g==16) b c d e a)))
def aN.j4:Nat→Bool→Int→Bool→List (S126)→List (S104)→Int→Int→Int→Option (Bool)
  |0,_,_,_,_,_,_,_,_=>none
  |k+1,x7,g,x93,c,d,e,a,b=>if x93=true then((aM.f a 0 1).bind fun i=>(if i=true then(some (b==0))else(some false)))else(if g=17 then(aN.j5 k x7 g (g==17) c d e a b)else(aN.j5 k x7 g (g==18) c d e a b))
def aN.j5:Nat→Bool→Int→Bool→List (S126)→List (S104)→Int→Int→Int→Option (Bool)
  |0,_,_,_,_,_,_,_,_=>none
  |k+1,x7,e,x105,d,b,i,a,c=>if x105=true then(if x7=true then((dE.f k d a).bind fun t167=>((aM.f c 0 (wrap64 ((t167.length:Int) - 1))).bind fun g=>(some g)))else(some false))else(if e=20 then((aM.f a 0 (wrap64 ((b.length:Int) - 1))).bind fun t171=>(if t171=true then(if c=0 then(if 0≤a then(if a<(b.length:Int)then(some (((aa b a).f0)==(-1)))else(none))else(none))else(some false))else(some false)))else(if e=21 then(if x7=true then((aM.f c 0 2).bind fun t173=>(some t173))else(some false))else(some false)))
end
def aN.f (k:Nat) (c:List (S126)) (e:List (S104)) (g:Int) (i:Int) (j:List Int) (l:Int) (m:Int) (n:List (S113)) (o:List (S57)) (p:List (S181)) (a:Int) (b:Int) (d:Int):Option (Bool):=(aM.f b 0 (wrap64 ((c.length:Int) - 1))).bind fun q=>(if a=1 then((ic.f b).bind fun t162=>(if t162=true then(some (d==0))else(some false)))else(if a=2 then(aN.j0 k q a (a==2) c e g i j l m n o p a b d)else(if a=5 then(aN.j0 k q a (a==5) c e g i j l m n o p a b d)else(if a=6 then(aN.j0 k q a (a==6) c e g i j l m n o p a b d)else(if a=14 then(aN.j0 k q a (a==14) c e g i j l m n o p a b d)else(if a=22 then(aN.j0 k q a (a==22) c e g i j l m n o p a b d)else(if a=23 then(aN.j0 k q a (a==23) c e g i j l m n o p a b d)else(aN.j0 k q a (a==24) c e g i j l m n o p a b d))))))))
def eG.l0:Nat→List (S126)→Int→Int→Option (Bool)
  |0,_,_,_=>none
  |k+1,x0,x1,x2=>if x1>x2 then(if 0≤x1 then(if x1<(x0.length:Int)then(eG.l0 k x0 ((aD x0 x1).f0) x2)else(none))else(none))else(some (x1==x2))
def eG.f (k:Nat) (l0:List (S126)) (a1:Int) (a2:Int):Option (Bool):=eG.l0 k l0 a1 a2
def gV.f (k:Nat) (b:List (S126)) (n:List (S104)) (o:Int) (p:Int) (q:List Int) (r:Int) (s:Int) (a:List (S113)) (t:List (S57)) (u:List (S181)) (c:Int) (e:Int) (g:Int) (d:Int):Option (Bool):=(aM.f c 0 (wrap64 ((a.length:Int) - 1))).bind fun i=>(if i=true then((aM.f e (wrap64 (c+1)) (a.length:Int)).bind fun j=>(if j=true then((aM.f g 0 (wrap64 ((a.length:Int) - 1))).bind fun l=>(if l=true then((aM.f d 0 (wrap64 ((b.length:Int) - 1))).bind fun m=>(if m=true then((eG.f k b d 1).bind fun t182=>(some t182))else(some false)))else(some false)))else(some false)))else(some false))
def fE.f (k:Nat) (l0:List (S126)) (a1:Int):Option (Bool):=(bG.f k l0).bind fun a=>(if a=true then(if a1=0 then(some true)else(if a1=2 then(some true)else((cu.f l0 a1).bind fun t130=>(some t130))))else(some false))
mutual
def bD.j0:Nat→List (S126)→Bool→Bool→List Int→List Int→Option (Bool)
  |0,_,_,_,_,_=>none
  |k+1,x0,d,a,b,c=>if d=true then(some false)else(bD.l0 k x0 0 a b c)
def bD.l0:Nat→List (S126)→Int→Bool→List Int→List Int→Option (Bool)
  |0,_,_,_,_,_=>none
  |k+1,x0,x7,b,a,c=>if x7<(a.length:Int)then(if 0≤x7 then((fE.f k x0 (rd a x7)).bind fun d=>(if d=true then(bD.l0 k x0 (wrap64 (x7+1)) b a c)else(some false)))else(none))else(bD.l1 k x0 0 b a c)
def bD.l1:Nat→List (S126)→Int→Bool→List Int→List Int→Option (Bool)
  |0,_,_,_,_,_=>none
  |k+1,x0,x8,b,c,a=>if x8<(a.length:Int)then(if 0≤x8 then((fE.f k x0 (rd a x8)).bind fun d=>(if d=true then(if(rd a x8)=0 then(some false)else(bD.l1 k x0 (wrap64 (x8+1)) b c a))else(some false)))else(none))else(some true)
end
def bD.f (k:Nat) (l0:List (S126)) (a1:Int) (c:Bool) (a:List Int) (b:List Int):Option (Bool):=(bG.f k l0).bind fun d=>(if d=true then(if c=true then(if(a.length:Int)=a1 then(bD.j0 k l0 (decide ((b.length:Int)>4)) c a b)else(bD.j0 k l0 true c a b))else(if(a.length:Int)=0 then(some ((b.length:Int)==0))else(some false)))else(some false))
mutual
def aT.j0:Nat→Bool→List (S126)→List (S104)→Int→Int→List Int→Int→Int→List (S113)→List (S57)→List (S181)→Option (Bool)
  |0,_,_,_,_,_,_,_,_,_,_,_=>none
  |k+1,x32,a,b,c,d,e,g,i,j,l,m=>if x32=true then(some false)else(aT.l0 k 0 a b c d e g i j l m)
def aT.l0:Nat→Int→List (S126)→List (S104)→Int→Int→List Int→Int→Int→List (S113)→List (S57)→List (S181)→Option (Bool)
  |0,_,_,_,_,_,_,_,_,_,_,_=>none
  |k+1,x5,c,e,g,i,j,l,d,a,b,m=>if x5<(a.length:Int)then(if 0≤x5 then((aN.f k c e g i j l d a b m ((aQ a x5).f0) ((aQ a x5).f1) ((aQ a x5).f2)).bind fun n=>(if n=true then(if x5<(b.length:Int)then((bD.f k c d ((aX b x5).f0) ((aX b x5).f1) ((aX b x5).f2)).bind fun o=>(if o=true then(aT.l0 k (wrap64 (x5+1)) c e g i j l d a b m)else(some false)))else(none))else(some false)))else(none))else(aT.l1 k 0 c e g i j l d a b m)
def aT.l1:Nat→Int→List (S126)→List (S104)→Int→Int→List Int→Int→Int→List (S113)→List (S57)→List (S181)→Option (Bool)
  |0,_,_,_,_,_,_,_,_,_,_,_=>none
  |k+1,x6,b,c,d,e,g,i,j,l,m,a=>if x6<(a.length:Int)then(if 0≤x6 then((gV.f k b c d e g i j l m a ((aH a x6).f0) ((aH a x6).f1) ((aH a x6).f2) ((aH a x6).f3)).bind fun n=>(if n=true then(aT.l1 k (wrap64 (x6+1)) b c d e g i j l m a)else(some false)))else(none))else(some true)
end
def aT.f (k:Nat) (d:List (S126)) (e:List (S104)) (g:Int) (i:Int) (j:List Int) (l:Int) (m:Int) (a:List (S113)) (b:List (S57)) (c:List (S181)):Option (Bool):=(bv.f k d e g i j l m a b c).bind fun n=>(if n=true then((aM.f (a.length:Int) 1 12).bind fun o=>(if o=true then(if(b.length:Int)=(a.length:Int)then(aT.j0 k (decide ((c.length:Int)>2)) d e g i j l m a b c)else(aT.j0 k true d e g i j l m a b c))else(aT.j0 k true d e g i j l m a b c)))else(aT.j0 k true d e g i j l m a b c))
mutual
def bY.j0:Nat→Bool→Int→Int→List Int→Int→Int→List (S113)→List (S57)→List (S181)→Int→Int→List Int→Int→Int→List (S113)→List (S57)→List (S181)→Option (Bool)
  |0,_,_,_,_,_,_,_,_,_,_,_,_,_,_,_,_,_=>none
  |k+1,t,a,b,c,d,e,g,i,j,l,m,n,o,p,q,r,s=>if t=true then(some false)else(bY.l0 k 0 a b c d e g i j l m n o p q r s)
def bY.l0:Nat→Int→Int→Int→List Int→Int→Int→List (S113)→List (S57)→List (S181)→Int→Int→List Int→Int→Int→List (S113)→List (S57)→List (S181)→Option (Bool)
  |0,_,_,_,_,_,_,_,_,_,_,_,_,_,_,_,_,_=>none
  |k+1,x5,c,d,a,e,g,i,j,l,m,n,b,o,p,q,r,s=>if x5<(a.length:Int)then(if 0≤x5 then(if x5<(b.length:Int)then(if(rd a x5)=(rd b x5)then(bY.l0 k (wrap64 (x5+1)) c d a e g i j l m n b o p q r s)else(some false))else(none))else(none))else(some true)
end
def bY.f (k:Nat) (e:Int) (g:Int) (a:List Int) (b:Int) (i:Int) (j:List (S113)) (l:List (S57)) (m:List (S181)) (n:Int) (o:Int) (c:List Int) (d:Int) (p:Int) (q:List (S113)) (r:List (S57)) (s:List (S181)):Option (Bool):=if b=d then(bY.j0 k ((a.length:Int) !=(c.length:Int)) e g a b i j l m n o c d p q r s)else(bY.j0 k true e g a b i j l m n o c d p q r s)
mutual
def bP.l0:Nat→Int→List (S126)→List (S104)→Option (Bool)
  |0,_,_,_=>none
  |k+1,x3,b,a=>if x3<(a.length:Int)then(bP.l1 k x3 0 b a)else(some true)
def bP.l1:Nat→Int→Int→List (S126)→List (S104)→Option (Bool)
  |0,_,_,_,_=>none
  |k+1,x3,x4,b,a=>if x4<(a.length:Int)then(if 0≤x3 then(if x3<(a.length:Int)then(if 0≤x4 then(if x3=x4 then(bP.l1 k x3 (wrap64 (x4+1)) b a)else(if((aa a x3).f0)≥0 then(if((aa a x4).f0)≥0 then(if((aa a x3).f1)=((aa a x4).f1)then((eG.f k b ((aa a x3).f0) ((aa a x4).f0)).bind fun c=>(if c=true then(if((aa a x3).f0)=((aa a x4).f0)then(some false)else((bY.f k ((aa a x3).f0) ((aa a x3).f1) ((aa a x3).f2) ((aa a x3).f3) ((aa a x3).f4) ((aa a x3).f5) ((aa a x3).f6) ((aa a x3).f7) ((aa a x4).f0) ((aa a x4).f1) ((aa a x4).f2) ((aa a x4).f3) ((aa a x4).f4) ((aa a x4).f5) ((aa a x4).f6) ((aa a x4).f7)).bind fun t203=>(if t203=true then(bP.l1 k x3 (wrap64 (x4+1)) b a)else(some false))))else(bP.l1 k x3 (wrap64 (x4+1)) b a)))else(bP.l1 k x3 (wrap64 (x4+1)) b a))else(bP.l1 k x3 (wrap64 (x4+1)) b a))else(bP.l1 k x3 (wrap64 (x4+1)) b a)))else(none))else(none))else(none))else(bP.l0 k (wrap64 (x3+1)) b a)
end
def bP.f (k:Nat) (a:List (S126)) (b:List (S104)):Option (Bool):=bP.l0 k 0 a b
mutual
def aY.j0:Nat→Bool→List (S126)→List (S104)→Option (Bool)
  |0,_,_,_=>none
  |k+1,c,b,a=>if c=true then(some false)else(if 0<(a.length:Int)then(if((aa a 0).f0)=(-1)then(if(((aa a 0).f2).length:Int)>0 then(aY.j1 k true b a)else(aY.j1 k (((aa a 0).f3) !=1) b a))else(aY.j1 k true b a))else(none))
def aY.j1:Nat→Bool→List (S126)→List (S104)→Option (Bool)
  |0,_,_,_=>none
  |k+1,c,a,b=>if c=true then(some false)else(aY.l0 k 0 a b)
def aY.l0:Nat→Int→List (S126)→List (S104)→Option (Bool)
  |0,_,_,_=>none
  |k+1,x3,b,a=>if x3<(a.length:Int)then(if 0≤x3 then((aT.f k b a ((aa a x3).f0) ((aa a x3).f1) ((aa a x3).f2) ((aa a x3).f3) ((aa a x3).f4) ((aa a x3).f5) ((aa a x3).f6) ((aa a x3).f7)).bind fun c=>(if c=true then(aY.l0 k (wrap64 (x3+1)) b a)else(some false)))else(none))else((bP.f k b a).bind fun t212=>(some t212))
end
def aY.f (k:Nat) (a:List (S126)) (b:List (S104)):Option (Bool):=(bG.f k a).bind fun c=>(if c=true then((aM.f (b.length:Int) 1 4).bind fun t206=>(aY.j0 k (!t206) a b))else(aY.j0 k true a b))
def iM.f (a0:Int):Option (Bool×Int):=some (false,a0)
def df.l0:Nat→List (S91)→Int→Option ((List (S91)))
  |0,_,_=>none
  |k+1,x1,x2=>if x2≤7 then((iM.f x2).bind fun a=>(if x1.length<4398046511104 then(df.l0 k (x1++ [(⟨1,(([(⟨a.1,a.2⟩:S31)]:List (S31)))⟩:S91)]) (wrap64 (x2+1)))else(none)))else(some x1)
def df.f (k:Nat):Option ((List (S91))):=df.l0 k (([]:List (S91))) 1
def bu.l0:Nat→Int→List (S126)→List (S104)→Int→Int→List (S31)→List (S31)→Option (Int×Int×(List (S31))×(List (S31)))
  |0,_,_,_,_,_,_,_=>none
  |k+1,x1,i,b,c,d,a,e=>if 0≤x1 then(if x1<(b.length:Int)then(if(a.length:Int)<((aa b x1).f4)then((iM.f 0).bind fun g=>(if a.length<8796093022208 then(bu.l0 k x1 i b c d (a++ [(⟨g.1,g.2⟩:S31)]) e)else(none)))else(some (c,d,a,e)))else(none))else(none)
def bu.f (k:Nat) (b:List (S126)) (c:List (S104)) (a1:Int) (l2:List (S31)):Option (Int×Int×(List (S31))×(List (S31))):=(some (([]:List (S31)):List (S31))).bind fun a=>(if a.length+l2.length<8796093022208 then(bu.l0 k a1 b c a1 0 (a++l2) (([]:List (S31))))else(none))
def dW.f (k:Nat) (b:List (S126)) (c:List (S104)):Option ((List (S91))×(List (S70))×List Int×Int×Int×Bool×Int):=(aY.f k b c).bind fun d=>(if d=true then((df.f k).bind fun e=>((bu.f k b c 0 ([]:List (S31))).bind fun a=>(some (e,(([(⟨a.1,a.2.1,a.2.2.1,a.2.2.2⟩:S70)]:List (S70))),(([]:List Int)),0,0,false,0))))else(some (([]:List (S91)),([]:List (S70)),([]:List Int),0,0,false,0)))
end Go.Proofs.YteinbmkgenhocaaGreat.P
end
section
namespace Go.Proofs.YteinbmkgenhocaaGreat.P
open Go Go.RowKit Go.Proofs.YteinbmkgenhocaaGreatW.PrintWords
def iJ (r:Int):Value:=
  if r= -1 then .nilIface else if r=0 then .iface 204 (.agg #[])else if r=1 then .iface 205 (.agg #[])else if r=2 then .iface 206 (.agg #[])
  else if r=3 then .iface 208 (.agg #[.bool false])else if r=4 then .iface 208 (.agg #[.bool true])else .iface 210 (.agg #[.int .i64 (r - 8)])
def dF.f (c t:Int):Option Int:=
  if 0≤c∧c≤1000000000∧ -9223372036854775808≤t∧t≤9223372036854775807 then
    (if t=0 then some 0 else if t=1 then some 1 else if t=2 then some 2 else if t=3 then some 3 else if t=4 then some 4 else if 8≤t∧t<8+c then some t else some (-1))else none
def ek.f (c t:Int):Option Bool:=(dF.f c t).bind fun r=>some (decide (r=1∨r=3∨r=4∨8≤r))
end Go.Proofs.YteinbmkgenhocaaGreat.P
end
section
namespace Go.Proofs.YteinbmkgenhocaaGreat.P
open Go.RowKit Go.Proofs.YteinbmkgenhocaaGreatW.PrintWords Go.Proofs.YteinbmkgenhocaaGreatW.PrintLast Go.Proofs.YteinbmkgenhocaaGreatW.PrintMore
attribute [local go_sem] ak au az aA ai aj av ax
set_option linter.unusedVariables false
set_option linter.unusedSimpArgs false
mutual
def aJ.j0:Nat→List (S126)→Bool→Option (Bool)
  |0,_,_=>none
  |k+1,x0,a=>if a=true then(some false)else(if 0<(x0.length:Int)then(if((aD x0 0).f0)=(-1)then(aJ.j1 k x0 ((((aD x0 0).f1).length:Int) !=0))else(aJ.j1 k x0 true))else(none))
def aJ.j1:Nat→List (S126)→Bool→Option (Bool)
  |0,_,_=>none
  |k+1,x0,x28=>if x28=true then(some false)else(if 1<(x0.length:Int)then(if((aD x0 1).f0)=0 then(if(((aD x0 1).f1).length:Int)=1 then(if 0<(((aD x0 1).f1).length:Int)then(aJ.j2 k x0 ((rd ((aD x0 1).f1) 0) !=1))else(none))else(aJ.j2 k x0 true))else(aJ.j2 k x0 true))else(none))
def aJ.j2:Nat→List (S126)→Bool→Option (Bool)
  |0,_,_=>none
  |k+1,x0,a=>if a=true then(some false)else(aJ.l0 k x0 x0 (x0.length:Int) 0)
def aJ.l0:Nat→List (S126)→List (S126)→Int→Int→Option (Bool)
  |0,_,_,_,_=>none
  |k+1,x0,b,c,a=>if a<c then(if 0≤a then(if a<(b.length:Int)then(if a>1 then(if((aD b a).f0)<0 then(aJ.j4 k x0 b c a true ((aD b a).f0) ((aD b a).f1))else(aJ.j4 k x0 b c a (decide (((aD b a).f0)≥a)) ((aD b a).f0) ((aD b a).f1)))else(aJ.j4 k x0 b c a false ((aD b a).f0) ((aD b a).f1)))else(none))else(none))else(some true)
def aJ.j4:Nat→List (S126)→List (S126)→Int→Int→Bool→Int→List Int→Option (Bool)
  |0,_,_,_,_,_,_,_=>none
  |k+1,x0,c,d,e,g,b,a=>if g=true then(some false)else(if(a.length:Int)>2 then(some false)else(aJ.l1 k x0 c d e a (a.length:Int) 0))
def aJ.l1:Nat→List (S126)→List (S126)→Int→Int→List Int→Int→Int→Option (Bool)
  |0,_,_,_,_,_,_,_=>none
  |k+1,x0,c,d,e,b,g,a=>if a<g then(if 0≤a then(if a<(b.length:Int)then((ek.f (x0.length:Int) (rd b a)).bind fun i=>(if i=true then(aJ.l1 k x0 c d e b g (wrap64 (a+1)))else(some false)))else(none))else(none))else(aJ.l0 k x0 c d (wrap64 (e+1)))
end
def aJ.f (k:Nat) (l0:List (S126)):Option (Bool):=if(l0.length:Int)<2 then(aJ.j0 k l0 true)else(aJ.j0 k l0 (decide ((l0.length:Int)>5)))
def dQ.f (l0:List (S126)) (a1:Int):Option (Bool):=if a1≥0 then(some (decide (a1<(l0.length:Int))))else(some false)
def je.f (b:Int) (d:Int) (a:List Int) (e:Int) (g:Int) (i:List (S113)) (j:List (S57)) (k:List (S181)):Option (List Int):=if b≥0 then(if([]:List Int).length<17592186044416 then((some (([]:List Int)++ [wrap64 (8+b)]:List Int)).bind fun c=>(if c.length+a.length<17592186044416 then(some (c++a))else(none)))else(none))else(if([]:List Int).length+a.length<17592186044416 then(some (([]:List Int)++a))else(none))
mutual
def aZ.j0:Nat→List (S126)→List (S104)→Int→Int→List Int→Int→Int→List (S113)→List (S57)→List (S181)→Option (Bool)
  |0,_,_,_,_,_,_,_,_,_,_=>none
  |k+1,a,d,e,g,b,c,i,j,l,m=>if(b.length:Int)>2 then(aZ.j1 k true a d e g b c i j l m)else((ek.f (a.length:Int) c).bind fun n=>(aZ.j1 k (!n) a d e g b c i j l m))
def aZ.j1:Nat→Bool→List (S126)→List (S104)→Int→Int→List Int→Int→Int→List (S113)→List (S57)→List (S181)→Option (Bool)
  |0,_,_,_,_,_,_,_,_,_,_,_=>none
  |k+1,n,b,c,d,e,a,g,i,j,l,m=>if n=true then(some false)else(aZ.l0 k a (a.length:Int) 0 b c d e a g i j l m)
def aZ.l0:Nat→List Int→Int→Int→List (S126)→List (S104)→Int→Int→List Int→Int→Int→List (S113)→List (S57)→List (S181)→Option (Bool)
  |0,_,_,_,_,_,_,_,_,_,_,_,_,_=>none
  |k+1,o,p,m,b,n,c,d,e,g,a,i,j,l=>if m<p then(if 0≤m then(if m<(o.length:Int)then((ek.f (b.length:Int) (rd o m)).bind fun q=>(if q=true then(aZ.l0 k o p (wrap64 (m+1)) b n c d e g a i j l)else(some false)))else(none))else(none))else(if a≤3 then((je.f c d e g a i j l).bind fun r=>(some (decide (a≥(r.length:Int)))))else(some false))
end
def aZ.f (k:Nat) (c:List (S126)) (d:List (S104)) (a:Int) (b:Int) (e:List Int) (g:Int) (i:Int) (j:List (S113)) (l:List (S57)) (m:List (S181)):Option (Bool):=if a=(-1)then(if b=0 then(aZ.j0 k c d a b e g i j l m)else(some false))else(if a=0 then(some false)else((dQ.f c a).bind fun n=>(if n=true then(if b<0 then(some false)else(if b≥3 then(some false)else(aZ.j0 k c d a b e g i j l m)))else(some false))))
def iN.f (a0:Int):Option (Bool):=if a0≥(-128)then(some (decide (a0≤127)))else(some false)
def bR.f:Nat→List (S126)→Int→Option (List Int)
  |0,_,_=>none
  |k+1,l0,a1=>if a1=0 then(some ([]:List Int))else(if 0≤a1 then(if a1<(l0.length:Int)then((bR.f k l0 ((aD l0 a1).f0)).bind fun a=>(if a.length+((aD l0 a1).f1).length<17592186044416 then(some (a++((aD l0 a1).f1)))else(none)))else(none))else(none))
def eu.f (k:Nat) (a:List (S126)) (b:List (S104)) (l:Int) (m:Int) (n:List Int) (o:Int) (c:Int) (d:List (S113)) (p:List (S57)) (q:List (S181)) (r:Int) (e:Int) (s:Int) (a3:Int) (a4:Int):Option (Bool):=if a3=1 then((iN.f a4).bind fun g=>(some g))else(if a3=2 then(if a4≥0 then(some (decide (a4<c)))else(some false))else(if a3=3 then(if a4≥1 then(some (decide (a4≤4)))else(some false))else(if a3=4 then(if a4≥0 then(some (decide (a4<(d.length:Int))))else(some false))else(if a3=5 then((dQ.f a a4).bind fun i=>(some i))else(if a3=6 then(if a4=0 then(some true)else(some (a4==1)))else(if a3=7 then(if a4≥0 then(if a4<(b.length:Int)then(if 0≤a4 then(some (((aa b a4).f0)==(-1)))else(none))else(some false))else(some false))else(if a3=8 then(if a4≥0 then((bR.f k a e).bind fun j=>(some (decide (a4<(j.length:Int)))))else(some false))else(if a3=9 then(if a4≥0 then(some (decide (a4<3)))else(some false))else(some (a4==0))))))))))
mutual
def bE.j0:Nat→List (S126)→Bool→Bool→List Int→List Int→Option (Bool)
  |0,_,_,_,_,_=>none
  |k+1,x0,x34,b,a,c=>if x34=true then(some false)else(bE.l0 k x0 a (a.length:Int) 0 b a c)
def bE.l0:Nat→List (S126)→List Int→Int→Int→Bool→List Int→List Int→Option (Bool)
  |0,_,_,_,_,_,_,_=>none
  |k+1,x0,d,e,x38,b,c,a=>if x38<e then(if 0≤x38 then(if x38<(d.length:Int)then((dF.f (x0.length:Int) (rd d x38)).bind fun g=>(if g=(-1)then(some false)else(bE.l0 k x0 d e (wrap64 (x38+1)) b c a)))else(none))else(none))else(bE.l1 k x0 a (a.length:Int) 0)
def bE.l1:Nat→List (S126)→List Int→Int→Int→Option (Bool)
  |0,_,_,_,_=>none
  |k+1,x0,b,c,a=>if a<c then(if 0≤a then(if a<(b.length:Int)then(if(rd b a)=0 then(some false)else((dF.f (x0.length:Int) (rd b a)).bind fun d=>(if d=(-1)then(some false)else(bE.l1 k x0 b c (wrap64 (a+1))))))else(none))else(none))else(some true)
end
def bE.f (k:Nat) (l0:List (S126)) (a1:Int) (c:Bool) (a:List Int) (b:List Int):Option (Bool):=if c=true then(if(a.length:Int)=a1 then(bE.j0 k l0 (decide ((b.length:Int)>4)) c a b)else(bE.j0 k l0 true c a b))else(if(a.length:Int)=0 then(some ((b.length:Int)==0))else(some false))
end Go.Proofs.YteinbmkgenhocaaGreat.P
end
section
namespace Go.Proofs.YteinbmkgenhocaaGreat.P
open Go Go.RowKit Go.Proofs.YteinbmkgenhocaaGreatW.PrintWords Go.Proofs.YteinbmkgenhocaaGreatW.PrintLast Go.Proofs.YteinbmkgenhocaaGreatW.PrintMore
set_option linter.unusedVariables false
set_option linter.unusedSimpArgs false
def fJ:List (Int×Int×Int):= [(1,1,0),(2,0,0),(3,2,0),(4,2,0),(5,0,0),(6,0,0),(7,3,0),(8,4,0),(9,4,0),(10,4,0),(11,4,0),(12,5,0),(13,6,0),(14,0,0),(15,6,0),(16,6,0),(17,5,8),(18,5,8),(19,5,0),(20,7,0),(21,5,9),(22,0,0),(23,0,0),(24,0,0)]
def eP (n:Int):List (Int×Int×Int)→Option (Int×Int)
  | []=>none
  |e::l=>if n=e.1 then some e.2 else eP n l
def jK.f (n:Int):Option (Int×Int×Bool):=some (match eP n fJ with|some p=>(p.1,p.2,true)|none=>(0,0,false))
def kY (e:Int×Int×Int) (i:Nat):MapEntry:= {key:= .int .i64 e.1,val:= .agg #[.int .i64 e.2.1, .int .i64 e.2.2],born:=i}
def gX:List (Int×Int×Int)→Nat→List MapEntry
  | [],_=> []
  |e::l,i=>kY e i::gX l (i+1)
def iP (m:Nat):Obj:= .map (gX (fJ.take m) 0).toArray m
def jB:Obj:=iP 24
theorem dL {w:World} {g:Nat} {o:Obj} (h:w.heap[g]? =some o) {p:Addr} (hp:g≠p.block) (u:Value):(w.setCell p u).heap[g]? =some o:=(Below.heap_setCell w p u g hp).trans h
theorem jY (n:Int): ∀(l:List (Int×Int×Int)) (i m:Nat),∃j,Instr.findNow (.int .i64) (.int .i64 n) (gX l i) m=some (match eP n l with|some p=>some (j, .agg #[.int .i64 p.1, .int .i64 p.2])|none=>none)
  | [],_,_=>⟨0,rfl⟩
  | e ::l,i,m=>by
    by_cases h:n=e.1
    · refine⟨m, ?_⟩
      subst h
      simp[gX,kY,eP,Instr.findNow,Instr.sameNow]
    · obtain⟨j,hj⟩:=jY n l (i+1) (m+1)
      refine⟨j, ?_⟩
      have hb:(n==e.1)=false:=by simpa using h
      simp only[gX,kY,eP,Instr.findNow,Instr.sameNow,if_true,hb,if_neg h]
      exact hj
section
variable {ops:Array Oper} {rest:List Oper} {o:Oper} {a:Act} {Q:Exit→Act→World→Prop} {W:World}
theorem jR {gM:Nat} {n t1 t2:Int} {t3:Bool} {x i:Operand} (hgd:o.guard=none) (hop:o.op= .lookup 129 x i true) (hx:a.eval x= .map (some gM)) (hi:a.eval i= .int .i64 n) (hm:W.heap[gM]? =some jB) (hf:jK.f n=some (t1,t2,t3))
    (h:wpList Tryz.prog ops Q rest (a.put o.dst (.tuple #[.agg #[.int .i64 t1, .int .i64 t2], .bool t3])) W):wpList Tryz.prog ops Q (o::rest) a W:=by
  refine Kd.event_run hgd ?_ h
  have hE:jB= .map (gX fJ 0).toArray 24:=rfl
  rw[hE]at hm
  obtain⟨j,hj⟩:=jY n fJ 0 0
  have hz:(zeroValue 188).run Tryz.prog W= .ok (.agg #[.int .i64 0, .int .i64 0]) W:=by kernel_rfl
  have hk:MapKept.IsKey (.int .i64) (.int .i64 n):=by simp[MapKept.IsKey]
  have hu:=Tryz.underlying129
  have hu3:=Tryz.underlying3
  have hl:(Instr.lookup 129 (.map (some gM)) (.int .i64 n) true).run Tryz.prog W= .ok (.tuple #[.agg #[.int .i64 t1, .int .i64 t2], .bool t3]) W:=by
    unfold jK.f at hf
    simp only[Instr.lookup,Sem.run_bind,run_underlying hu,Result.andThen,MapKept.run_getObj_map hm,Sem.run_pure]
    rw[MapKept.run_checkKey hu3 hk]
    simp only[Result.andThen,Sem.run_bind]
    rw[MapKept.run_findKey hu3 hj]
    cases hw:eP n fJ with
    | some p=>
      rw[hw]at hf
      simp only[Option.some.injEq,Prod.mk.injEq]at hf
      obtain⟨rfl,rfl,rfl⟩:=hf
      rfl
    | none=>
      rw[hw]at hf
      simp only[Option.some.injEq,Prod.mk.injEq]at hf
      obtain⟨rfl,rfl,rfl⟩:=hf
      simp only[Result.andThen,Sem.run_bind,hz,Sem.run_pure]
      rfl
  unfold execOp
  rw[hop]
  dsimp only
  rw[hx,hi]
  simp only[Sem.run_bind,hl,Result.andThen]
  rfl
end
end Go.Proofs.YteinbmkgenhocaaGreat.P
end
section
namespace Go.Proofs.YteinbmkgenhocaaGreat.P
open Go.RowKit Go.Proofs.YteinbmkgenhocaaGreatW.PrintWords Go.Proofs.YteinbmkgenhocaaGreatW.PrintLast Go.Proofs.YteinbmkgenhocaaGreatW.PrintMore
attribute [local go_sem] ak au az aA ai aj av ax
set_option linter.unusedVariables false
set_option linter.unusedSimpArgs false
mutual
def bB.j0:Nat→Bool→List (S126)→List (S104)→Int→Int→List Int→Int→Int→List (S113)→List (S57)→List (S181)→Option (Bool)
  |0,_,_,_,_,_,_,_,_,_,_,_=>none
  |k+1,x31,b,c,d,e,g,i,j,a,l,m=>if x31=true then(some false)else(bB.l0 k a (a.length:Int) 0 b c d e g i j a l m)
def bB.l0:Nat→List (S113)→Int→Int→List (S126)→List (S104)→Int→Int→List Int→Int→Int→List (S113)→List (S57)→List (S181)→Option (Bool)
  |0,_,_,_,_,_,_,_,_,_,_,_,_,_=>none
  |k+1,c,x34,b,d,e,g,i,j,l,m,n,a,o=>if b<x34 then(if 0≤b then(if b<(c.length:Int)then((jK.f ((aQ c b).f0)).bind fun p=>(if p.2.2=true then((eu.f k d e g i j l m n a o ((aQ c b).f0) ((aQ c b).f1) ((aQ c b).f2) p.1 ((aQ c b).f1)).bind fun q=>(if q=true then((eu.f k d e g i j l m n a o ((aQ c b).f0) ((aQ c b).f1) ((aQ c b).f2) p.2.1 ((aQ c b).f2)).bind fun r=>(if r=true then(bB.l0 k c x34 (wrap64 (b+1)) d e g i j l m n a o)else(some false)))else(some false)))else(some false)))else(none))else(none))else(bB.l1 k a (a.length:Int) 0 d e g i j l m n a o)
def bB.l1:Nat→List (S57)→Int→Int→List (S126)→List (S104)→Int→Int→List Int→Int→Int→List (S113)→List (S57)→List (S181)→Option (Bool)
  |0,_,_,_,_,_,_,_,_,_,_,_,_,_=>none
  |k+1,d,p,a,b,e,g,i,j,l,c,m,n,o=>if a<p then(if 0≤a then(if a<(d.length:Int)then((bE.f k b c ((aX d a).f0) ((aX d a).f1) ((aX d a).f2)).bind fun q=>(if q=true then(bB.l1 k d p (wrap64 (a+1)) b e g i j l c m n o)else(some false)))else(none))else(none))else(some true)
end
def bB.f (k:Nat) (c:List (S126)) (d:List (S104)) (e:Int) (g:Int) (i:List Int) (j:Int) (l:Int) (a:List (S113)) (b:List (S57)) (m:List (S181)) (a2:Int):Option (Bool):=if(a.length:Int)<1 then(bB.j0 k true c d e g i j l a b m)else(if(a.length:Int)>12 then(bB.j0 k true c d e g i j l a b m)else(bB.j0 k ((b.length:Int) !=(a.length:Int)) c d e g i j l a b m))
def dB.l0:Nat→List (S126)→Int→Int→Option (Bool)
  |0,_,_,_=>none
  |k+1,x0,x2,x7=>if x7≥0 then(if x7=x2 then(some true)else(if 0≤x7 then(if x7<(x0.length:Int)then(dB.l0 k x0 x2 ((aD x0 x7).f0))else(none))else(none)))else(some false)
def dB.f (k:Nat) (l0:List (S126)) (a1:Int) (a2:Int):Option (Bool):=dB.l0 k l0 a2 a1
mutual
def bf.l0:Nat→List (S181)→Int→Int→List (S126)→List (S104)→Int→Int→List Int→Int→Int→List (S113)→List (S57)→List (S181)→Option (Bool)
  |0,_,_,_,_,_,_,_,_,_,_,_,_,_=>none
  |k+1,b,p,a,d,e,g,i,j,l,m,c,n,o=>if a<p then(if 0≤a then(if a<(b.length:Int)then(if((aH b a).f0)<0 then(bf.j1 k b p a true d e g i j l m c n o ((aH b a).f0) ((aH b a).f1) ((aH b a).f2) ((aH b a).f3))else(if((aH b a).f0)≥(c.length:Int)then(bf.j1 k b p a true d e g i j l m c n o ((aH b a).f0) ((aH b a).f1) ((aH b a).f2) ((aH b a).f3))else(if((aH b a).f2)<0 then(bf.j1 k b p a true d e g i j l m c n o ((aH b a).f0) ((aH b a).f1) ((aH b a).f2) ((aH b a).f3))else(bf.j1 k b p a (decide (((aH b a).f2)≥(c.length:Int))) d e g i j l m c n o ((aH b a).f0) ((aH b a).f1) ((aH b a).f2) ((aH b a).f3)))))else(none))else(none))else(some true)
def bf.j1:Nat→List (S181)→Int→Int→Bool→List (S126)→List (S104)→Int→Int→List Int→Int→Int→List (S113)→List (S57)→List (S181)→Int→Int→Int→Int→Option (Bool)
  |0,_,_,_,_,_,_,_,_,_,_,_,_,_,_,_,_,_,_=>none
  |k+1,r,s,t,x41,d,e,g,i,j,l,m,b,n,o,c,a,p,q=>if x41=true then(some false)else(if a≤c then(bf.j2 k r s t true d e g i j l m b n o c a p q)else(bf.j2 k r s t (decide (a>(b.length:Int))) d e g i j l m b n o c a p q))
def bf.j2:Nat→List (S181)→Int→Int→Bool→List (S126)→List (S104)→Int→Int→List Int→Int→Int→List (S113)→List (S57)→List (S181)→Int→Int→Int→Int→Option (Bool)
  |0,_,_,_,_,_,_,_,_,_,_,_,_,_,_,_,_,_,_=>none
  |k+1,t,u,v,x54,a,c,d,e,g,i,j,l,m,n,q,r,s,b=>if x54=true then(some false)else((dQ.f a b).bind fun o=>(if o=true then((dB.f k a b 1).bind fun p=>(if p=true then(bf.l0 k t u (wrap64 (v+1)) a c d e g i j l m n)else(some false)))else(some false)))
end
def bf.f (k:Nat) (b:List (S126)) (c:List (S104)) (d:Int) (e:Int) (g:List Int) (i:Int) (j:Int) (l:List (S113)) (m:List (S57)) (a:List (S181)):Option (Bool):=if(a.length:Int)>2 then(some false)else(bf.l0 k a (a.length:Int) 0 b c d e g i j l m a)
def slices_Equal_int_int.l0:Nat→List Int→List Int→Int→Int→Option (Bool)
  |0,_,_,_,_=>none
  |k+1,x0,x1,b,a=>if a<b then(if 0≤a then(if a<(x0.length:Int)then(if a<(x1.length:Int)then(if(rd x0 a)=(rd x1 a)then(slices_Equal_int_int.l0 k x0 x1 b (wrap64 (a+1)))else(some false))else(none))else(none))else(none))else(some true)
def slices_Equal_int_int.f (k:Nat) (l0:List Int) (l1:List Int):Option (Bool):=if(l0.length:Int)=(l1.length:Int)then(slices_Equal_int_int.l0 k l0 l1 (l0.length:Int) 0)else(some false)
mutual
def bK.l0:Nat→List (S104)→Int→Int→List (S126)→List (S104)→Option (Bool)
  |0,_,_,_,_,_=>none
  |k+1,x8,x9,a,c,b=>if a<x9 then(if 0≤a then(if a<(x8.length:Int)then(bK.l1 k a x8 x9 a b (b.length:Int) 0 c b ((aa x8 a).f0) ((aa x8 a).f1) ((aa x8 a).f2) ((aa x8 a).f3) ((aa x8 a).f4) ((aa x8 a).f5) ((aa x8 a).f6) ((aa x8 a).f7))else(none))else(none))else(some true)
def bK.l1:Nat→Int→List (S104)→Int→Int→List (S104)→Int→Int→List (S126)→List (S104)→Int→Int→List Int→Int→Int→List (S113)→List (S57)→List (S181)→Option (Bool)
  |0,_,_,_,_,_,_,_,_,_,_,_,_,_,_,_,_,_=>none
  |k+1,x3,x8,x9,p,b,q,a,c,d,e,g,i,j,l,m,n,o=>if a<q then(if 0≤a then(if a<(b.length:Int)then(if x3=a then(bK.j2 k x3 x8 x9 p b q a true c d e g i j l m n o ((aa b a).f0) ((aa b a).f1) ((aa b a).f2) ((aa b a).f3) ((aa b a).f4) ((aa b a).f5) ((aa b a).f6) ((aa b a).f7))else(if e<0 then(bK.j2 k x3 x8 x9 p b q a true c d e g i j l m n o ((aa b a).f0) ((aa b a).f1) ((aa b a).f2) ((aa b a).f3) ((aa b a).f4) ((aa b a).f5) ((aa b a).f6) ((aa b a).f7))else(if((aa b a).f0)<0 then(bK.j2 k x3 x8 x9 p b q a true c d e g i j l m n o ((aa b a).f0) ((aa b a).f1) ((aa b a).f2) ((aa b a).f3) ((aa b a).f4) ((aa b a).f5) ((aa b a).f6) ((aa b a).f7))else(bK.j2 k x3 x8 x9 p b q a (g !=((aa b a).f1)) c d e g i j l m n o ((aa b a).f0) ((aa b a).f1) ((aa b a).f2) ((aa b a).f3) ((aa b a).f4) ((aa b a).f5) ((aa b a).f6) ((aa b a).f7)))))else(none))else(none))else(bK.l0 k x8 x9 (wrap64 (p+1)) c d)
def bK.j2:Nat→Int→List (S104)→Int→Int→List (S104)→Int→Int→Bool→List (S126)→List (S104)→Int→Int→List Int→Int→Int→List (S113)→List (S57)→List (S181)→Int→Int→List Int→Int→Int→List (S113)→List (S57)→List (S181)→Option (Bool)
  |0,_,_,_,_,_,_,_,_,_,_,_,_,_,_,_,_,_,_,_,_,_,_,_,_,_,_=>none
  |k+1,x3,x8,x9,q,r,s,t,B,b,e,a,g,c,d,i,j,l,m,n,w,o,p,x,y,z,A=>if B=true then(bK.l1 k x3 x8 x9 q r s (wrap64 (t+1)) b e a g c d i j l m)else(if a=n then(some false)else((dB.f k b a n).bind fun u=>(if u=true then(if d=p then((slices_Equal_int_int.f k c o).bind fun v=>(if v=true then(bK.l1 k x3 x8 x9 q r s (wrap64 (t+1)) b e a g c d i j l m)else(some false)))else(some false))else(bK.l1 k x3 x8 x9 q r s (wrap64 (t+1)) b e a g c d i j l m))))
end
def bK.f (k:Nat) (b:List (S126)) (a:List (S104)):Option (Bool):=bK.l0 k a (a.length:Int) 0 b a
mutual
def bC.j0:Nat→Bool→List (S126)→List (S104)→Option (Bool)
  |0,_,_,_=>none
  |k+1,c,b,a=>if c=true then(some false)else(if 0<(a.length:Int)then(if((aa a 0).f0)=(-1)then(if(((aa a 0).f2).length:Int)=0 then(bC.j1 k (((aa a 0).f3) !=1) b a)else(bC.j1 k true b a))else(bC.j1 k true b a))else(none))
def bC.j1:Nat→Bool→List (S126)→List (S104)→Option (Bool)
  |0,_,_,_=>none
  |k+1,x40,b,a=>if x40=true then(some false)else(bC.l0 k a (a.length:Int) 0 b a)
def bC.l0:Nat→List (S104)→Int→Int→List (S126)→List (S104)→Option (Bool)
  |0,_,_,_,_,_=>none
  |k+1,x43,d,a,b,c=>if a<d then(if 0≤a then(if a<(x43.length:Int)then((aZ.f k b c ((aa x43 a).f0) ((aa x43 a).f1) ((aa x43 a).f2) ((aa x43 a).f3) ((aa x43 a).f4) ((aa x43 a).f5) ((aa x43 a).f6) ((aa x43 a).f7)).bind fun e=>(if e=true then((bB.f k b c ((aa x43 a).f0) ((aa x43 a).f1) ((aa x43 a).f2) ((aa x43 a).f3) ((aa x43 a).f4) ((aa x43 a).f5) ((aa x43 a).f6) ((aa x43 a).f7) 0).bind fun g=>(if g=true then((bf.f k b c ((aa x43 a).f0) ((aa x43 a).f1) ((aa x43 a).f2) ((aa x43 a).f3) ((aa x43 a).f4) ((aa x43 a).f5) ((aa x43 a).f6) ((aa x43 a).f7)).bind fun i=>(if i=true then(bC.l0 k x43 d (wrap64 (a+1)) b c)else(some false)))else(some false)))else(some false)))else(none))else(none))else((bK.f k b c).bind fun j=>(some j))
end
def bC.f (k:Nat) (b:List (S126)) (a:List (S104)):Option (Bool):=(aJ.f k b).bind fun c=>(if c=true then(if(a.length:Int)<1 then(bC.j0 k true b a)else(bC.j0 k (decide ((a.length:Int)>4)) b a))else(bC.j0 k true b a))
def dX.l0:Nat→Int→List (S126)→List (S104)→List (S91)→Int→Int→Bool→Int→Option ((List (S91))×(List (S70))×List Int×Int×Int×Bool×Int)
  |0,_,_,_,_,_,_,_,_=>none
  |k+1,x4,i,a,b,c,d,e,g=>if x4≤7 then(if b.length<4398046511104 then(dX.l0 k (wrap64 (x4+1)) i a (b++ [(⟨1,(([(⟨false,x4⟩:S31)]:List (S31)))⟩:S91)]) c d e g)else(none))else(if 0<(a.length:Int)then(if 0≤((aa a 0).f4)then(if((aa a 0).f4:Int).toNat≤17592186044416 then(some (b,(([(⟨0,0,(List.replicate ((aa a 0).f4:Int).toNat z31),([]:List (S31))⟩:S70)]:List (S70))),([]:List Int),c,d,e,g))else(none))else(none))else(none))
def dX.f (k:Nat) (a:List (S126)) (b:List (S104)):Option ((List (S91))×(List (S70))×List Int×Int×Int×Bool×Int):=dX.l0 k 1 a b ([]:List (S91)) 0 0 false 0
def gD.f (k:Nat) (b:List (S126)) (c:List (S104)):Option ((List (S91))×(List (S70))×List Int×Int×Int×Bool×Int):=(bC.f k b c).bind fun d=>(if d=true then((dX.f k b c).bind fun a=>(some (a.1,a.2.1,a.2.2.1,a.2.2.2.1,a.2.2.2.2.1,a.2.2.2.2.2.1,a.2.2.2.2.2.2)))else(some (([]:List (S91)),([]:List (S70)),([]:List Int),0,0,false,0)))
end Go.Proofs.YteinbmkgenhocaaGreat.P
end
section
namespace Go.Proofs.YteinbmkgenhocaaGreat.P
open Go Go.RowKit Go.Proofs.YteinbmkgenhocaaGreatW.PrintWords Go.Proofs.YteinbmkgenhocaaGreatW.PrintLast Go.Proofs.YteinbmkgenhocaaGreatW.PrintMore
set_option linter.unusedVariables false
set_option linter.unusedSimpArgs false
def laws_FnExactMachNew.h (k:Nat) (x:List S126) (y:List S104) (w g:List S91×List S70×List Int×Int×Int×Bool×Int):Option Bool:=
  if gy.f k g.1 g.2.1 g.2.2.1 g.2.2.2.1 g.2.2.2.2.1 g.2.2.2.2.2.1 g.2.2.2.2.2.2 w.1 w.2.1 w.2.2.1 w.2.2.2.1 w.2.2.2.2.1 w.2.2.2.2.2.1 w.2.2.2.2.2.2=some true∧ib.f k x y x y=some true then
    ((iL.f x y 1).bind fun k1=>(if k1<0 then none else((fG.f k g.1 g.2.1 g.2.2.1 1).bind fun m=>((gP.f k m.2.1 m.2.2 g.2.2.1 g.2.2.2.1 g.2.2.2.2.1 g.2.2.2.2.2.1 g.2.2.2.2.2.2 1).bind fun q=>(if q<0∨q≠m.1 then none else some true)))))
  else none
def laws_FnExactMachNew.f (k:Nat) (b:List S116) (c:List S122):Option Bool:=
  (gZ.f k b c 1048576).bind fun a=>(if a<0 then some true else((gu.f k b c).bind fun x=>((dW.f k x.1 x.2).bind fun w=>((gD.f k x.1 x.2).bind fun g=>laws_FnExactMachNew.h k x.1 x.2 w g))))
end Go.Proofs.YteinbmkgenhocaaGreat.P
end
section
namespace Go.Proofs.YteinbmkgenhocaaGreat.P
open Go.RowKit Go.Proofs.YteinbmkgenhocaaGreatW.PrintWords Go.Proofs.YteinbmkgenhocaaGreatW.PrintLast Go.Proofs.YteinbmkgenhocaaGreatW.PrintMore
attribute [local go_sem] ak au az aA ai aj av ax
set_option linter.unusedVariables false
set_option linter.unusedSimpArgs false
set_option maxHeartbeats 8000000 in
set_option maxRecDepth 100000 in
theorem dG.calls (k:Nat) (i:Nat→Prop) (m:Value) (l0:List (S31)) (a1:Int) (r1:Int) (r2:List (S31)) (w0 w:World) (hB:Below w0.heap.size w0 w) (ho0:Kd.R k31 31 w w0.heap.size i m l0) (h:dG.f k l0 a1=some (r1,r2)):
    Calls Tryz.prog 91 #[m, .int .i64 a1] w fun e w' =>e= .returned (.int .i64 r1)∧Kd.R k31 31 w' w0.heap.size (fun k_=>(i k_∨w.heap.size≤k_)) m r2∧Below w0.heap.size w0 w' ∧Kept w w' (fun k_=>i k_):=by
  have aO:=Aside0.mk (show Kd.R k31 31 w w0.heap.size (fun k_=>(i k_∨w.heap.size≤k_)) m l0 from Kd.R_mono ho0 (fun k_ hk=>(.inl hk)))
  have HK:=Aside0.mk (Kept.refl w (fun k_=>i k_))
  have HW0:=Aside0.mk hB.size
  have HB:=Aside0.mk hB
  clear hB
  have H:(dG.l0 k l0 a1 0)=some (r1,r2):=h
  clear h
  have H' :=Aside0.mk H
  clear H
  go_enter Tryz.func91,Tryz.ntmps91
  go_wp2
  go_loopg [1,5] k (fun kq v1 v5 w' => ∃(b:List (S31)) (d:Int) (a:Int),v1= .int .i64 d∧v5= .int .i64 a∧Aside0 (dG.l0 kq b d a=some (r1,r2))∧Aside0 (kq≤k)∧Aside0 (Kd.R k31 31 w' w0.heap.size (fun k_=>(i k_∨w.heap.size≤k_)) m b)∧Aside0 (Kept w w' (fun k_=>i k_))∧Aside0 (Below w0.heap.size w0 w'))
  case atStart=>exact⟨(l0),(a1),(0),(by first|rfl|(simp;done)|(simp[*];done)),(by first|rfl|(simp;done)|(simp[*];done)),H',⟨Nat.le_refl _⟩,⟨by(with_reducible repeat(first|apply Kd.R_alloc|apply Kd.R_drewN|apply Kd.R_drew));exact aO.out⟩,⟨by repeat(first|(with_reducible first|exact HK.out|apply Kept.alloc|apply Kept.drewN|apply Kept.drew)|exact HK.out)⟩,⟨by repeat(first|(with_reducible first|exact HB.out|apply aI|apply aG|apply aC)|exact HB.out)⟩⟩
  case round=>
    clear H'
    try clear p2
    obtain⟨b,d,a,rfl,rfl,HA,ad,c,HK,HB⟩:=hrel
    cases gk with
    |zero=>exact absurd HA.out (by simp[dG.l0])
    | succ k1=>
      have H:=HA.out
      clear HA
      simp only[dG.l0]at H
      by_cases c3:a<(b.length:Int)
      · rw[if_pos c3]at H
        have aB:decide (a<(b.length:Int))=true:=decide_eq_true c3
        clear c3
        by_cases c4:0≤a
        · rw[if_pos c4]at H
          have a9:decide (0≤a)=true:=decide_eq_true c4
          clear c4
          obtain⟨l,n⟩: ∃y_:List (S31),y_=(b.set (a:Int).toNat (⟨((Int.tmod d 3)==0),(bU b a).f1⟩:S31)):=⟨_,rfl⟩
          replace H:(dG.l0 k1 (l.set (a:Int).toNat (⟨(bU l a).f0,wrap64 (d+1)⟩:S31)) (wrap64 ((wrap64 (d+1))+1)) (wrap64 (a+1)))=some (r1,r2):=by first|(rw[n];with_reducible exact H)|(have q:=(Option.bind_some _ _).symm.trans H;rw[n];with_reducible exact q)|(have q:=(Option.bind_some _ _).symm.trans H;with_reducible exact q)|with_reducible exact H|(rw[n];exact H)|exact H
          have Y:=Aside0.mk n
          clear n
          obtain⟨y,o⟩: ∃y_:List (S31),y_=(l.set (a:Int).toNat (⟨(bU l a).f0,wrap64 (d+1)⟩:S31)):=⟨_,rfl⟩
          replace H:(dG.l0 k1 y (wrap64 ((wrap64 (d+1))+1)) (wrap64 (a+1)))=some (r1,r2):=by first|(rw[o];with_reducible exact H)|(have q:=(Option.bind_some _ _).symm.trans H;rw[o];with_reducible exact q)|(have q:=(Option.bind_some _ _).symm.trans H;with_reducible exact q)|with_reducible exact H|(rw[o];exact H)|exact H
          have Z:=Aside0.mk o
          clear o
          have H' :=Aside0.mk H
          clear H
          obtain⟨bd,I,aP⟩:=Kd.R_slice c.out
          subst aP
          have p5:0≤(a:Int):=of_decide_eq_true (by first|(with_reducible assumption)|assumption)
          have q5:(a:Int)<((b.length:Int):Int):=of_decide_eq_true (by first|(with_reducible assumption)|assumption)
          obtain⟨g,be,al,am,aR,bh,an⟩:=Kd.R_form c.out (by omega)
          (first|cases al|(injection al with ea_ en_ ec_;(first|subst ea_|(injection ea_ with ea_;subst ea_));subst ec_;clear en_))
          have ao:=Aside0.mk am
          have bj:=Aside0.mk an
          clear am aR an
          have aS:=Aside0.mk (show(i g∨w.heap.size≤g) from(c.out.1 _ rfl))
          obtain⟨bk,aE,ap,z,A⟩:=Kd.R_elem c.out z31 (a:Int) p5 q5
          obtain rfl:=ky ap
          have a0:wr.cell? ⟨g,(a:Int).toNat * 2,none⟩=some (.bool ((bU b a).f0)):=z 0 _ rfl
          have a2:wr.cell? ⟨g,(a:Int).toNat * 2+1,none⟩=some (.int .i64 ((bU b a).f1)):=z 1 _ rfl
          have a3:wr.frozen? ⟨g,(a:Int).toNat * 2,none⟩=false:=A 0
          have a4:wr.frozen? ⟨g,(a:Int).toNat * 2+1,none⟩=false:=A 1
          clear aE z A ap
          replace p5:=eq_true p5
          replace q5:=eq_true q5
          have aq:=Aside0.mk (show Kd.R k31 31 wr w0.heap.size (fun k_=>(i k_∨w.heap.size≤k_)) (.slice (some ⟨g,0,none⟩) b.length I) b from(by(with_reducible repeat(first|apply Kd.R_alloc|apply Kd.R_drewN|apply Kd.R_drew));exact c.out))
          obtain⟨bm,L,ar,B,M⟩:=Kd.R_elem aq.out z31 (a:Int) (of_decide_eq_true (by first|(with_reducible assumption)|assumption)) (by have h_:(a:Int)<((b.length:Int):Int):=of_decide_eq_true (by first|(with_reducible assumption)|assumption);first|exact h_|(have e_:=(Kd.R_reads' c.out).1;omega)|simpa using h_)
          obtain rfl:=ky ar
          have O:=Kd.R_seg aq.out (a:Int) (of_decide_eq_true (by first|(with_reducible assumption)|assumption)) (by have h_:(a:Int)<((b.length:Int):Int):=of_decide_eq_true (by first|(with_reducible assumption)|assumption);first|exact h_|(have e_:=(Kd.R_reads' c.out).1;omega)|simpa using h_) (seg:= [.bool ((Int.tmod d 3)==0)]) (j:=0) L B (show 1≤2 from by decide) (x' :=(⟨((Int.tmod d 3)==0),(bU b a).f1⟩:S31)) (jT _ _ _ (⟨((Int.tmod d 3)==0),(bU b a).f1⟩:S31)) (fun _ hk=>hk)
          have ab:=B 0 _ rfl
          (try simp only[show(k31).sz=2 from rfl,Nat.mul_one,Nat.add_zero]at ab)
          have ac:=M 0
          (try simp only[show(k31).sz=2 from rfl,Nat.mul_one,Nat.add_zero]at ac)
          clear L B M ar
          go_wp2_with (first|((with_reducible refine cB (t:=4) (p:=18) rfl ?_);refine bT (t:=4) (p:=18) (v:= ?vo_w9) (w1:=(wr.setCell ⟨g,(a:Int).toNat * 2,none⟩ (.bool ((Int.tmod d 3)==0)))) ?hg ?ho ?hn ?hr ?_;(case ho=>rfl);(case hg=>rfl);(case hn=>rfl);(case hr=>first|(go_simp;done)|(go_simp;rfl));intro w9 hw;have hg:wr.grownBy w9 (some g):=(by rw[hw];exact O.2);have hp_:Kd.R k31 31 w9 w0.heap.size (fun k_=>(i k_∨w.heap.size≤k_)) (.slice (some ⟨g,0,none⟩) b.length I) l:=(by rw[hw,Y.out];exact O.1);clear O;have s:=Aside0.mk (hp_);have u:=Aside0.mk ((by rw[hw];exact aK (HB.out) ao.out:Below w0.heap.size w0 w9));have x:=Aside0.mk (Kept.of_grown (S:=(fun k_=>i k_)) hg (by repeat(first|(with_reducible first|exact HK.out|apply Kept.alloc|apply Kept.drewN|apply Kept.drew)|exact HK.out)) (fun k_ e_=>(c.out.1 k_ e_)));clear c;clear HB;clear HK;have c:=s;have HB:=u;have HK:=x;clear s u x;clear hg hw hp_;have p6:0≤(a:Int):=of_decide_eq_true (by first|(with_reducible assumption)|assumption);have q6:(a:Int)<((b.length:Int):Int):=of_decide_eq_true (by first|(with_reducible assumption)|assumption);obtain⟨bo,aF,aw,D,E⟩:=Kd.R_elem c.out z31 (a:Int) p6 q6;obtain rfl:=ky aw;have a5:w9.cell? ⟨g,(a:Int).toNat * 2,none⟩=some (.bool ((bU l a).f0)):=D 0 _ rfl;have a6:w9.cell? ⟨g,(a:Int).toNat * 2+1,none⟩=some (.int .i64 ((bU l a).f1)):=D 1 _ rfl;have a7:w9.frozen? ⟨g,(a:Int).toNat * 2,none⟩=false:=E 0;have a8:w9.frozen? ⟨g,(a:Int).toNat * 2+1,none⟩=false:=E 1;clear aF D E aw;replace p6:=eq_true p6;replace q6:=eq_true q6;have P:=Aside0.mk (show Kd.R k31 31 w9 w0.heap.size (fun k_=>(i k_∨w.heap.size≤k_)) (.slice (some ⟨g,0,none⟩) b.length I) l from(by(with_reducible repeat(first|apply Kd.R_alloc|apply Kd.R_drewN|apply Kd.R_drew));exact c.out));obtain⟨ba,J,T,r,K⟩:=Kd.R_elem P.out z31 (a:Int) (of_decide_eq_true (by first|(with_reducible assumption)|assumption)) (by have h_:(a:Int)<((b.length:Int):Int):=of_decide_eq_true (by first|(with_reducible assumption)|assumption);first|exact h_|(have e_:=(Kd.R_reads' c.out).1;omega)|simpa using h_);obtain rfl:=ky T;have G:=Kd.R_seg P.out (a:Int) (of_decide_eq_true (by first|(with_reducible assumption)|assumption)) (by have h_:(a:Int)<((b.length:Int):Int):=of_decide_eq_true (by first|(with_reducible assumption)|assumption);first|exact h_|(have e_:=(Kd.R_reads' c.out).1;omega)|simpa using h_) (seg:= [.int .i64 (wrap64 (d+1))]) (j:=1) J r (show 2≤2 from by decide) (x' :=(⟨(bU l a).f0,wrap64 (d+1)⟩:S31)) (jT _ _ _ (⟨(bU l a).f0,wrap64 (d+1)⟩:S31)) (fun _ hk=>hk);have U:=r 1 _ rfl;(try simp only[show(k31).sz=2 from rfl,Nat.mul_one,Nat.add_zero]at U);have W:=K 1;(try simp only[show(k31).sz=2 from rfl,Nat.mul_one,Nat.add_zero]at W);clear J r K T)|((with_reducible refine cB (t:=3) (p:=25) rfl ?_);refine bT (t:=3) (p:=25) (v:= ?vo_w11) (w1:=(w9.setCell ⟨g,(a:Int).toNat * 2+1,none⟩ (.int .i64 (wrap64 (d+1))))) ?hg ?ho ?hn ?hr ?_;(case ho=>rfl);(case hg=>rfl);(case hn=>rfl);(case hr=>first|(go_simp;done)|(go_simp;rfl));intro X hw;have hg:w9.grownBy X (some g):=(by rw[hw];exact G.2);have hp_:Kd.R k31 31 X w0.heap.size (fun k_=>(i k_∨w.heap.size≤k_)) (.slice (some ⟨g,0,none⟩) b.length I) y:=(by rw[hw,Z.out];exact G.1);clear G;have s:=Aside0.mk (hp_);have u:=Aside0.mk ((by rw[hw];exact aK (HB.out) ao.out:Below w0.heap.size w0 X));have x:=Aside0.mk (Kept.of_grown (S:=(fun k_=>i k_)) hg (by repeat(first|(with_reducible first|exact HK.out|apply Kept.alloc|apply Kept.drewN|apply Kept.drew)|exact HK.out)) (fun k_ e_=>(c.out.1 k_ e_)));clear c;clear HB;clear HK;have c:=s;have HB:=u;have HK:=x;clear s u x;clear hg hw hp_))
          go_roundg k1
          case measure=>have:=ad.out;omega
          case rel=>exact⟨(y),(wrap64 ((wrap64 (d+1))+1)),(wrap64 (a+1)),(by first|rfl|(simp;done)|(simp[*];done)),(by first|rfl|(simp;done)|(simp[*];done)),H',⟨by have:=ad.out;omega⟩,⟨by(with_reducible repeat(first|apply Kd.R_alloc|apply Kd.R_drewN|apply Kd.R_drew));exact c.out⟩,⟨by repeat(first|(with_reducible first|exact HK.out|apply Kept.alloc|apply Kept.drewN|apply Kept.drew)|exact HK.out)⟩,⟨by repeat(first|(with_reducible first|exact HB.out|apply aI|apply aG|apply aC)|exact HB.out)⟩⟩
        · rw[if_neg c4]at H
          exact absurd H (by simp)
      · rw[if_neg c3]at H
        have aB:decide (a<(b.length:Int))=false:=decide_eq_false c3
        clear c3
        simp only[Option.some.injEq,Prod.mk.injEq]at H
        obtain⟨rfl,rfl⟩:=H
        obtain⟨bb,bc,aL⟩:=Kd.R_slice c.out
        subst aL
        go_wp2
        go_ret
        exact⟨by first|rfl|(simp[bz,bA]<;>rfl)|(simp[*,bz,bA]<;>rfl),by(with_reducible repeat(first|apply Kd.R_alloc|apply Kd.R_drewN|apply Kd.R_drew));exact c.out,by repeat(first|(with_reducible first|exact HB.out|apply aI|apply aG|apply aC)|exact HB.out),by repeat(first|(with_reducible first|exact HK.out|apply Kept.alloc|apply Kept.drewN|apply Kept.drew)|exact HK.out)⟩
end Go.Proofs.YteinbmkgenhocaaGreat.P
end
