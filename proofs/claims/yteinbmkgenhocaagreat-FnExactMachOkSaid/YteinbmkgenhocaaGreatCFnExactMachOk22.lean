/- A part of the claim FnExactMachOk. -/
import Derived.MapKept
import Derived.Test.YteinbmkgenhocaaGreatCFnExactMachOk21
section
namespace Go.Proofs.YteinbmkgenhocaaGreat.P
open Go.RowKit Go.Proofs.YteinbmkgenhocaaGreatW.PrintWords Go.Proofs.YteinbmkgenhocaaGreatW.PrintLast Go.Proofs.YteinbmkgenhocaaGreatW.PrintMore
attribute [local go_sem] ah ai av ax af ag aj ak
set_option linter.unusedVariables false
set_option linter.unusedSimpArgs false
mutual
def aN.j0:Nat→Bool→Int→Bool→List (S126)→List (S104)→Int→Int→List Int→Int→Int→List (S113)→List (S57)→List (S181)→Int→Int→Int→Option (Bool)
  |0,_,_,_,_,_,_,_,_,_,_,_,_,_,_,_,_=>none
  |k+1,x7,p,x27,c,d,e,g,h,i,j,l,m,n,o,a,b=>if x27=true then(if a=0 then(some (b==0))else(some false))else(if p=3 then(aN.j1 k x7 p (p==3) c d e g h i j l m n o a b)else(aN.j1 k x7 p (p==4) c d e g h i j l m n o a b))
def aN.j1:Nat→Bool→Int→Bool→List (S126)→List (S104)→Int→Int→List Int→Int→Int→List (S113)→List (S57)→List (S181)→Int→Int→Int→Option (Bool)
  |0,_,_,_,_,_,_,_,_,_,_,_,_,_,_,_,_=>none
  |k+1,x7,d,x43,e,g,h,i,j,l,c,m,n,o,p,a,b=>if x43=true then((az.f a 0 (wrap64 (c - 1))).bind fun q=>(if q=true then(some (b==0))else(some false)))else(if d=7 then((az.f a 1 4).bind fun t164=>(if t164=true then(some (b==0))else(some false)))else(if d=8 then(aN.j2 k x7 d (d==8) e g h i j l c m n o p a b)else(if d=9 then(aN.j2 k x7 d (d==9) e g h i j l c m n o p a b)else(if d=10 then(aN.j2 k x7 d (d==10) e g h i j l c m n o p a b)else(aN.j2 k x7 d (d==11) e g h i j l c m n o p a b)))))
def aN.j2:Nat→Bool→Int→Bool→List (S126)→List (S104)→Int→Int→List Int→Int→Int→List (S113)→List (S57)→List (S181)→Int→Int→Int→Option (Bool)
  |0,_,_,_,_,_,_,_,_,_,_,_,_,_,_,_,_=>none
  |k+1,x7,g,r,c,d,j,l,m,n,o,h,p,q,e,a,b=>if r=true then((az.f a 0 (wrap64 ((h.length:Int) - 1))).bind fun i=>(if i=true then(some (b==0))else(some false)))else(if g=12 then(aN.j3 k x7 g (g==12) c d e a b)else(aN.j3 k x7 g (g==19) c d e a b))
def aN.j3:Nat→Bool→Int→Bool→List (S126)→List (S104)→Int→Int→Int→Option (Bool)
  |0,_,_,_,_,_,_,_,_=>none
  |k+1,x7,g,x84,b,c,d,e,a=>if x84=true then(if x7=true then(some (a==0))else(some false))else(if g=13 then(aN.j4 k x7 g (g==13) b c d e a)else(if g=15 then(aN.j4 k x7 g (g==15) b c d e a)else(aN.j4 k x7 g (g==16) b c d e a)))
def aN.j4:Nat→Bool→Int→Bool→List (S126)→List (S104)→Int→Int→Int→Option (Bool)
  |0,_,_,_,_,_,_,_,_=>none
  |k+1,x7,g,x93,c,d,e,a,b=>if x93=true then((az.f a 0 1).bind fun h=>(if h=true then(some (b==0))else(some false)))else(if g=17 then(aN.j5 k x7 g (g==17) c d e a b)else(aN.j5 k x7 g (g==18) c d e a b))
def aN.j5:Nat→Bool→Int→Bool→List (S126)→List (S104)→Int→Int→Int→Option (Bool)
  |0,_,_,_,_,_,_,_,_=>none
  |k+1,x7,e,x105,d,b,h,a,c=>if x105=true then(if x7=true then((dA.f k d a).bind fun t167=>((az.f c 0 (wrap64 ((t167.length:Int) - 1))).bind fun g=>(some g)))else(some false))else(if e=20 then((az.f a 0 (wrap64 ((b.length:Int) - 1))).bind fun t171=>(if t171=true then(if c=0 then(if 0≤a then(if a<(b.length:Int)then(some (((aa b a).f0)==(-1)))else(none))else(none))else(some false))else(some false)))else(if e=21 then(if x7=true then((az.f c 0 2).bind fun t173=>(some t173))else(some false))else(some false)))
end
def aN.f (k:Nat) (c:List (S126)) (e:List (S104)) (g:Int) (h:Int) (i:List Int) (j:Int) (l:Int) (m:List (S113)) (n:List (S57)) (o:List (S181)) (a:Int) (b:Int) (d:Int):Option (Bool):=(az.f b 0 (wrap64 ((c.length:Int) - 1))).bind fun p=>(if a=1 then((eZ.f b).bind fun t162=>(if t162=true then(some (d==0))else(some false)))else(if a=2 then(aN.j0 k p a (a==2) c e g h i j l m n o a b d)else(if a=5 then(aN.j0 k p a (a==5) c e g h i j l m n o a b d)else(if a=6 then(aN.j0 k p a (a==6) c e g h i j l m n o a b d)else(if a=14 then(aN.j0 k p a (a==14) c e g h i j l m n o a b d)else(if a=22 then(aN.j0 k p a (a==22) c e g h i j l m n o a b d)else(if a=23 then(aN.j0 k p a (a==23) c e g h i j l m n o a b d)else(aN.j0 k p a (a==24) c e g h i j l m n o a b d))))))))
def eX.l0:Nat→List (S126)→Int→Int→Option (Bool)
  |0,_,_,_=>none
  |k+1,x0,x1,x2=>if x1>x2 then(if 0≤x1 then(if x1<(x0.length:Int)then(eX.l0 k x0 ((aD x0 x1).f0) x2)else(none))else(none))else(some (x1==x2))
def eX.f (k:Nat) (l0:List (S126)) (a1:Int) (a2:Int):Option (Bool):=eX.l0 k l0 a1 a2
def iC.f (k:Nat) (b:List (S126)) (m:List (S104)) (n:Int) (o:Int) (p:List Int) (q:Int) (r:Int) (a:List (S113)) (s:List (S57)) (t:List (S181)) (c:Int) (e:Int) (g:Int) (d:Int):Option (Bool):=(az.f c 0 (wrap64 ((a.length:Int) - 1))).bind fun h=>(if h=true then((az.f e (wrap64 (c+1)) (a.length:Int)).bind fun i=>(if i=true then((az.f g 0 (wrap64 ((a.length:Int) - 1))).bind fun j=>(if j=true then((az.f d 0 (wrap64 ((b.length:Int) - 1))).bind fun l=>(if l=true then((eX.f k b d 1).bind fun t182=>(some t182))else(some false)))else(some false)))else(some false)))else(some false))
def fU.f (k:Nat) (l0:List (S126)) (a1:Int):Option (Bool):=(bJ.f k l0).bind fun a=>(if a=true then(if a1=0 then(some true)else(if a1=2 then(some true)else((dm.f l0 a1).bind fun t130=>(some t130))))else(some false))
mutual
def bF.j0:Nat→List (S126)→Bool→Bool→List Int→List Int→Option (Bool)
  |0,_,_,_,_,_=>none
  |k+1,x0,d,a,b,c=>if d=true then(some false)else(bF.l0 k x0 0 a b c)
def bF.l0:Nat→List (S126)→Int→Bool→List Int→List Int→Option (Bool)
  |0,_,_,_,_,_=>none
  |k+1,x0,x7,b,a,c=>if x7<(a.length:Int)then(if 0≤x7 then((fU.f k x0 (rd a x7)).bind fun d=>(if d=true then(bF.l0 k x0 (wrap64 (x7+1)) b a c)else(some false)))else(none))else(bF.l1 k x0 0 b a c)
def bF.l1:Nat→List (S126)→Int→Bool→List Int→List Int→Option (Bool)
  |0,_,_,_,_,_=>none
  |k+1,x0,x8,b,c,a=>if x8<(a.length:Int)then(if 0≤x8 then((fU.f k x0 (rd a x8)).bind fun d=>(if d=true then(if(rd a x8)=0 then(some false)else(bF.l1 k x0 (wrap64 (x8+1)) b c a))else(some false)))else(none))else(some true)
end
def bF.f (k:Nat) (l0:List (S126)) (a1:Int) (c:Bool) (a:List Int) (b:List Int):Option (Bool):=(bJ.f k l0).bind fun d=>(if d=true then(if c=true then(if(a.length:Int)=a1 then(bF.j0 k l0 (decide ((b.length:Int)>4)) c a b)else(bF.j0 k l0 true c a b))else(if(a.length:Int)=0 then(some ((b.length:Int)==0))else(some false)))else(some false))
mutual
def aT.j0:Nat→Bool→List (S126)→List (S104)→Int→Int→List Int→Int→Int→List (S113)→List (S57)→List (S181)→Option (Bool)
  |0,_,_,_,_,_,_,_,_,_,_,_=>none
  |k+1,x32,a,b,c,d,e,g,h,i,j,l=>if x32=true then(some false)else(aT.l0 k 0 a b c d e g h i j l)
def aT.l0:Nat→Int→List (S126)→List (S104)→Int→Int→List Int→Int→Int→List (S113)→List (S57)→List (S181)→Option (Bool)
  |0,_,_,_,_,_,_,_,_,_,_,_=>none
  |k+1,x5,c,e,g,h,i,j,d,a,b,l=>if x5<(a.length:Int)then(if 0≤x5 then((aN.f k c e g h i j d a b l ((aQ a x5).f0) ((aQ a x5).f1) ((aQ a x5).f2)).bind fun m=>(if m=true then(if x5<(b.length:Int)then((bF.f k c d ((bi b x5).f0) ((bi b x5).f1) ((bi b x5).f2)).bind fun n=>(if n=true then(aT.l0 k (wrap64 (x5+1)) c e g h i j d a b l)else(some false)))else(none))else(some false)))else(none))else(aT.l1 k 0 c e g h i j d a b l)
def aT.l1:Nat→Int→List (S126)→List (S104)→Int→Int→List Int→Int→Int→List (S113)→List (S57)→List (S181)→Option (Bool)
  |0,_,_,_,_,_,_,_,_,_,_,_=>none
  |k+1,x6,b,c,d,e,g,h,i,j,l,a=>if x6<(a.length:Int)then(if 0≤x6 then((iC.f k b c d e g h i j l a ((aG a x6).f0) ((aG a x6).f1) ((aG a x6).f2) ((aG a x6).f3)).bind fun m=>(if m=true then(aT.l1 k (wrap64 (x6+1)) b c d e g h i j l a)else(some false)))else(none))else(some true)
end
def aT.f (k:Nat) (d:List (S126)) (e:List (S104)) (g:Int) (h:Int) (i:List Int) (j:Int) (l:Int) (a:List (S113)) (b:List (S57)) (c:List (S181)):Option (Bool):=(bC.f k d e g h i j l a b c).bind fun m=>(if m=true then((az.f (a.length:Int) 1 12).bind fun n=>(if n=true then(if(b.length:Int)=(a.length:Int)then(aT.j0 k (decide ((c.length:Int)>2)) d e g h i j l a b c)else(aT.j0 k true d e g h i j l a b c))else(aT.j0 k true d e g h i j l a b c)))else(aT.j0 k true d e g h i j l a b c))
mutual
def df.j0:Nat→Bool→Int→Int→List Int→Int→Int→List (S113)→List (S57)→List (S181)→Int→Int→List Int→Int→Int→List (S113)→List (S57)→List (S181)→Option (Bool)
  |0,_,_,_,_,_,_,_,_,_,_,_,_,_,_,_,_,_=>none
  |k+1,s,a,b,c,d,e,g,h,i,j,l,m,n,o,p,q,r=>if s=true then(some false)else(df.l0 k 0 a b c d e g h i j l m n o p q r)
def df.l0:Nat→Int→Int→Int→List Int→Int→Int→List (S113)→List (S57)→List (S181)→Int→Int→List Int→Int→Int→List (S113)→List (S57)→List (S181)→Option (Bool)
  |0,_,_,_,_,_,_,_,_,_,_,_,_,_,_,_,_,_=>none
  |k+1,x5,c,d,a,e,g,h,i,j,l,m,b,n,o,p,q,r=>if x5<(a.length:Int)then(if 0≤x5 then(if x5<(b.length:Int)then(if(rd a x5)=(rd b x5)then(df.l0 k (wrap64 (x5+1)) c d a e g h i j l m b n o p q r)else(some false))else(none))else(none))else(some true)
end
def df.f (k:Nat) (e:Int) (g:Int) (a:List Int) (b:Int) (h:Int) (i:List (S113)) (j:List (S57)) (l:List (S181)) (m:Int) (n:Int) (c:List Int) (d:Int) (o:Int) (p:List (S113)) (q:List (S57)) (r:List (S181)):Option (Bool):=if b=d then(df.j0 k ((a.length:Int) !=(c.length:Int)) e g a b h i j l m n c d o p q r)else(df.j0 k true e g a b h i j l m n c d o p q r)
mutual
def bU.l0:Nat→Int→List (S126)→List (S104)→Option (Bool)
  |0,_,_,_=>none
  |k+1,x3,b,a=>if x3<(a.length:Int)then(bU.l1 k x3 0 b a)else(some true)
def bU.l1:Nat→Int→Int→List (S126)→List (S104)→Option (Bool)
  |0,_,_,_,_=>none
  |k+1,x3,x4,b,a=>if x4<(a.length:Int)then(if 0≤x3 then(if x3<(a.length:Int)then(if 0≤x4 then(if x3=x4 then(bU.l1 k x3 (wrap64 (x4+1)) b a)else(if((aa a x3).f0)≥0 then(if((aa a x4).f0)≥0 then(if((aa a x3).f1)=((aa a x4).f1)then((eX.f k b ((aa a x3).f0) ((aa a x4).f0)).bind fun c=>(if c=true then(if((aa a x3).f0)=((aa a x4).f0)then(some false)else((df.f k ((aa a x3).f0) ((aa a x3).f1) ((aa a x3).f2) ((aa a x3).f3) ((aa a x3).f4) ((aa a x3).f5) ((aa a x3).f6) ((aa a x3).f7) ((aa a x4).f0) ((aa a x4).f1) ((aa a x4).f2) ((aa a x4).f3) ((aa a x4).f4) ((aa a x4).f5) ((aa a x4).f6) ((aa a x4).f7)).bind fun t203=>(if t203=true then(bU.l1 k x3 (wrap64 (x4+1)) b a)else(some false))))else(bU.l1 k x3 (wrap64 (x4+1)) b a)))else(bU.l1 k x3 (wrap64 (x4+1)) b a))else(bU.l1 k x3 (wrap64 (x4+1)) b a))else(bU.l1 k x3 (wrap64 (x4+1)) b a)))else(none))else(none))else(none))else(bU.l0 k (wrap64 (x3+1)) b a)
end
def bU.f (k:Nat) (a:List (S126)) (b:List (S104)):Option (Bool):=bU.l0 k 0 a b
mutual
def bg.j0:Nat→Bool→List (S126)→List (S104)→Option (Bool)
  |0,_,_,_=>none
  |k+1,c,b,a=>if c=true then(some false)else(if 0<(a.length:Int)then(if((aa a 0).f0)=(-1)then(if(((aa a 0).f2).length:Int)>0 then(bg.j1 k true b a)else(bg.j1 k (((aa a 0).f3) !=1) b a))else(bg.j1 k true b a))else(none))
def bg.j1:Nat→Bool→List (S126)→List (S104)→Option (Bool)
  |0,_,_,_=>none
  |k+1,c,a,b=>if c=true then(some false)else(bg.l0 k 0 a b)
def bg.l0:Nat→Int→List (S126)→List (S104)→Option (Bool)
  |0,_,_,_=>none
  |k+1,x3,b,a=>if x3<(a.length:Int)then(if 0≤x3 then((aT.f k b a ((aa a x3).f0) ((aa a x3).f1) ((aa a x3).f2) ((aa a x3).f3) ((aa a x3).f4) ((aa a x3).f5) ((aa a x3).f6) ((aa a x3).f7)).bind fun c=>(if c=true then(bg.l0 k (wrap64 (x3+1)) b a)else(some false)))else(none))else((bU.f k b a).bind fun t212=>(some t212))
end
def bg.f (k:Nat) (a:List (S126)) (b:List (S104)):Option (Bool):=(bJ.f k a).bind fun c=>(if c=true then((az.f (b.length:Int) 1 4).bind fun t206=>(bg.j0 k (!t206) a b))else(bg.j0 k true a b))
def fV.f (b:Bool) (a:Int) (a1:Int):Option (Bool):=if b=true then((az.f a 0 a1).bind fun c=>(if c=true then(some true)else(some false)))else((eZ.f a).bind fun d=>(some d))
def cK.l0:Nat→List (S31)→Int→Int→Option (Bool)
  |0,_,_,_=>none
  |k+1,x0,x1,x5=>if x5<(x0.length:Int)then(if 0≤x5 then((fV.f ((di x0 x5).f0) ((di x0 x5).f1) x1).bind fun a=>(if a=true then(cK.l0 k x0 x1 (wrap64 (x5+1)))else(some false)))else(none))else(some true)
def cK.f (k:Nat) (l0:List (S31)) (a1:Int):Option (Bool):=cK.l0 k l0 a1 0
def bP.j0:Nat→Bool→List (S126)→List (S104)→Int→List (S31)→Option (Bool)
  |0,_,_,_,_,_=>none
  |k+1,h,a,g,b,c=>if h=true then(some (decide ((c.length:Int)≤6)))else((az.f b 0 (wrap64 ((a.length:Int) - 1))).bind fun d=>(if d=true then((dA.f k a b).bind fun e=>(some ((c.length:Int)==(e.length:Int))))else(some false)))
def bP.f (k:Nat) (c:List (S126)) (d:List (S104)) (a:Int) (b:List (S31)) (a2:Int):Option (Bool):=(cK.f k b a2).bind fun e=>(if e=true then(if a=(-1)then(bP.j0 k true c d a b)else(bP.j0 k (a==(-2)) c d a b))else(some false))
def bM.f (k:Nat) (l:List (S126)) (b:List (S104)) (a:Int) (e:Int) (c:List (S31)) (d:List (S31)) (a2:Int):Option (Bool):=(az.f a 0 (wrap64 ((b.length:Int) - 1))).bind fun g=>(if g=true then(if 0≤a then(if a<(b.length:Int)then((az.f e 0 (((aa b a).f5).length:Int)).bind fun h=>(if h=true then(if(c.length:Int)=((aa b a).f4)then(if(d.length:Int)≤4 then((cK.f k c a2).bind fun i=>(if i=true then((cK.f k d a2).bind fun j=>(some j))else(some false)))else(some false))else(some false))else(some false)))else(none))else(none))else(some false))
def eu.j0:Nat→Int→Int→Bool→List (S91)→List (S70)→List Int→Int→Int→Bool→Int→Option (Bool)
  |0,_,_,_,_,_,_,_,_,_,_=>none
  |k+1,x3,x8,x9,c,d,e,g,h,a,b=>if x9=true then(if x3>0 then(some (!a && (b==0)))else(some false))else(if x8=1 then(some (x3==0))else(if x8=2 then(if x3=0 then(if a=true then(some (decide (b>0)))else(some false))else(some false))else(some false)))
def eu.f (k:Nat) (c:List (S91)) (b:List (S70)) (d:List Int) (e:Int) (a:Int) (g:Bool) (h:Int):Option (Bool):=if a=0 then(eu.j0 k (b.length:Int) a (a==0) c b d e a g h)else(eu.j0 k (b.length:Int) a (a==3) c b d e a g h)
mutual
def aJ.j0:Nat→Int→Bool→List (S126)→List (S104)→List (S91)→List (S70)→List Int→Int→Int→Bool→Int→Option (Bool)
  |0,_,_,_,_,_,_,_,_,_,_,_=>none
  |k+1,x5,l,a,b,c,d,e,g,h,i,j=>if l=true then(some false)else(aJ.l0 k x5 0 a b c d e g h i j)
def aJ.l0:Nat→Int→Int→List (S126)→List (S104)→List (S91)→List (S70)→List Int→Int→Int→Bool→Int→Option (Bool)
  |0,_,_,_,_,_,_,_,_,_,_,_=>none
  |k+1,x5,x6,b,c,a,d,e,g,h,i,j=>if x6<x5 then(if 0≤x6 then(if x6<(a.length:Int)then((bP.f k b c ((bz a x6).f0) ((bz a x6).f1) x5).bind fun l=>(if l=true then(if x6<7 then(if((bz a x6).f0)=1 then(aJ.l0 k x5 (wrap64 (x6+1)) b c a d e g h i j)else(some false))else(aJ.l0 k x5 (wrap64 (x6+1)) b c a d e g h i j))else(some false)))else(none))else(none))else(aJ.l1 k x5 0 b c a d e g h i j)
def aJ.l1:Nat→Int→Int→List (S126)→List (S104)→List (S91)→List (S70)→List Int→Int→Int→Bool→Int→Option (Bool)
  |0,_,_,_,_,_,_,_,_,_,_,_=>none
  |k+1,x5,x7,b,c,d,a,e,g,h,i,j=>if x7<(a.length:Int)then(if 0≤x7 then((bM.f k b c ((aY a x7).f0) ((aY a x7).f1) ((aY a x7).f2) ((aY a x7).f3) x5).bind fun l=>(if l=true then(aJ.l1 k x5 (wrap64 (x7+1)) b c d a e g h i j)else(some false)))else(none))else(aJ.l2 k 0 d a e g h i j)
def aJ.l2:Nat→Int→List (S91)→List (S70)→List Int→Int→Int→Bool→Int→Option (Bool)
  |0,_,_,_,_,_,_,_,_=>none
  |k+1,x8,b,c,a,d,e,g,h=>if x8<(a.length:Int)then(if 0≤x8 then((eZ.f (rd a x8)).bind fun i=>(if i=true then(aJ.l2 k (wrap64 (x8+1)) b c a d e g h)else(some false)))else(none))else((eu.f k b c a d e g h).bind fun j=>(some j))
end
def aJ.f (k:Nat) (b:List (S126)) (c:List (S104)) (a:List (S91)) (d:List (S70)) (e:List Int) (g:Int) (j:Int) (h:Bool) (i:Int):Option (Bool):=(bg.f k b c).bind fun l=>(if l=true then((az.f g 0 200).bind fun m=>(if m=true then((az.f (a.length:Int) 7 207).bind fun n=>(if n=true then(if(d.length:Int)>4 then(aJ.j0 k (a.length:Int) true b c a d e g j h i)else(if(e.length:Int)>200 then(aJ.j0 k (a.length:Int) true b c a d e g j h i)else((fV.f h i (a.length:Int)).bind fun o=>(aJ.j0 k (a.length:Int) (!o) b c a d e g j h i))))else(aJ.j0 k (a.length:Int) true b c a d e g j h i)))else(aJ.j0 k (a.length:Int) true b c a d e g j h i)))else(aJ.j0 k (a.length:Int) true b c a d e g j h i))
def iq.f (a:Bool) (b:Int):Option (Bool×Int):=some (a,b)
def dw.l0:Nat→List (S47)→List (S31)→Int→Option ((List (S31)))
  |0,_,_,_=>none
  |k+1,x0,x3,x4=>if x4<(x0.length:Int)then(if 0≤x4 then((iq.f ((jD x0 x4).f0) ((jD x0 x4).f1)).bind fun a=>(if x4<(x3.length:Int)then(dw.l0 k x0 (x3.set (x4:Int).toNat (⟨a.1,a.2⟩:S31)) (wrap64 (x4+1)))else(none)))else(none))else(some x3)
def dw.f (k:Nat) (l0:List (S47)):Option ((List (S31))):=if 0≤(l0.length:Int)then(if((l0.length:Int):Int).toNat≤17592186044416 then(dw.l0 k l0 (List.replicate ((l0.length:Int):Int).toNat z31) 0)else(none))else(none)
def jA.f (k:Nat) (a:Int) (b:List (S47)):Option (Int×(List (S31))):=(dw.f k b).bind fun c=>(some (a,c))
def dS.l0:Nat→List (S143)→List (S91)→Int→Option ((List (S91)))
  |0,_,_,_=>none
  |k+1,x0,x3,x4=>if x4<(x0.length:Int)then(if 0≤x4 then((jA.f k ((fB x0 x4).f0) ((fB x0 x4).f1)).bind fun a=>(if x4<(x3.length:Int)then(dS.l0 k x0 (x3.set (x4:Int).toNat (⟨a.1,a.2⟩:S91)) (wrap64 (x4+1)))else(none)))else(none))else(some x3)
def dS.f (k:Nat) (l0:List (S143)):Option ((List (S91))):=if 0≤(l0.length:Int)then(if((l0.length:Int):Int).toNat≤8796093022208 then(dS.l0 k l0 (List.replicate ((l0.length:Int):Int).toNat z91) 0)else(none))else(none)
def jc.f (k:Nat) (a:Int) (b:Int) (c:List (S47)) (d:List (S47)):Option (Int×Int×(List (S31))×(List (S31))):=(dw.f k c).bind fun e=>((dw.f k d).bind fun g=>(some (a,b,e,g)))
def dE.l0:Nat→List (S146)→List (S70)→Int→Option ((List (S70)))
  |0,_,_,_=>none
  |k+1,x0,x3,x4=>if x4<(x0.length:Int)then(if 0≤x4 then((jc.f k ((dh x0 x4).f0) ((dh x0 x4).f1) ((dh x0 x4).f2) ((dh x0 x4).f3)).bind fun a=>(if x4<(x3.length:Int)then(dE.l0 k x0 (x3.set (x4:Int).toNat (⟨a.1,a.2.1,a.2.2.1,a.2.2.2⟩:S70)) (wrap64 (x4+1)))else(none)))else(none))else(some x3)
def dE.f (k:Nat) (l0:List (S146)):Option ((List (S70))):=if 0≤(l0.length:Int)then(if((l0.length:Int):Int).toNat≤4398046511104 then(dE.l0 k l0 (List.replicate ((l0.length:Int):Int).toNat z70) 0)else(none))else(none)
def bY.l0:Nat→List Int→List Int→Int→Option (List Int)
  |0,_,_,_=>none
  |k+1,x0,x3,x4=>if x4<(x0.length:Int)then(if 0≤x4 then(if x4<(x3.length:Int)then(bY.l0 k x0 (x3.set (x4:Int).toNat (rd x0 x4)) (wrap64 (x4+1)))else(none))else(none))else(some x3)
def bY.f (k:Nat) (l0:List Int):Option (List Int):=if 0≤(l0.length:Int)then(if((l0.length:Int):Int).toNat≤35184372088832 then(bY.l0 k l0 (List.replicate ((l0.length:Int):Int).toNat 0) 0)else(none))else(none)
def dO.f (k:Nat) (b:List (S143)) (c:List (S146)) (d:List Int) (e:Int) (g:Int) (h:Bool) (i:Int):Option ((List (S91))×(List (S70))×List Int×Int×Int×Bool×Int):=(dS.f k b).bind fun j=>((dE.f k c).bind fun l=>((bY.f k d).bind fun m=>((iq.f h i).bind fun a=>(some (j,l,m,e,g,a.1,a.2)))))
end Go.Proofs.YteinbmkgenhocaaGreat.P
end
section
namespace Go.Proofs.YteinbmkgenhocaaGreat.P
open Go Go.RowKit Go.Proofs.YteinbmkgenhocaaGreatW.PrintWords
def iV (r:Int):Value:=
  if r= -1 then .nilIface else if r=0 then .iface 204 (.agg #[])else if r=1 then .iface 205 (.agg #[])else if r=2 then .iface 206 (.agg #[])
  else if r=3 then .iface 208 (.agg #[.bool false])else if r=4 then .iface 208 (.agg #[.bool true])else .iface 210 (.agg #[.int .i64 (r - 8)])
def dP.f (c t:Int):Option Int:=
  if 0≤c∧c≤1000000000∧ -9223372036854775808≤t∧t≤9223372036854775807 then
    (if t=0 then some 0 else if t=1 then some 1 else if t=2 then some 2 else if t=3 then some 3 else if t=4 then some 4 else if 8≤t∧t<8+c then some t else some (-1))else none
def eO.f (c t:Int):Option Bool:=(dP.f c t).bind fun r=>some (decide (r=1∨r=3∨r=4∨8≤r))
end Go.Proofs.YteinbmkgenhocaaGreat.P
end
section
namespace Go.Proofs.YteinbmkgenhocaaGreat.P
open Go.RowKit Go.Proofs.YteinbmkgenhocaaGreatW.PrintWords Go.Proofs.YteinbmkgenhocaaGreatW.PrintLast Go.Proofs.YteinbmkgenhocaaGreatW.PrintMore
attribute [local go_sem] ah ai av ax af ag aj ak
set_option linter.unusedVariables false
set_option linter.unusedSimpArgs false
mutual
def aK.j0:Nat→List (S126)→Bool→Option (Bool)
  |0,_,_=>none
  |k+1,x0,a=>if a=true then(some false)else(if 0<(x0.length:Int)then(if((aD x0 0).f0)=(-1)then(aK.j1 k x0 ((((aD x0 0).f1).length:Int) !=0))else(aK.j1 k x0 true))else(none))
def aK.j1:Nat→List (S126)→Bool→Option (Bool)
  |0,_,_=>none
  |k+1,x0,x28=>if x28=true then(some false)else(if 1<(x0.length:Int)then(if((aD x0 1).f0)=0 then(if(((aD x0 1).f1).length:Int)=1 then(if 0<(((aD x0 1).f1).length:Int)then(aK.j2 k x0 ((rd ((aD x0 1).f1) 0) !=1))else(none))else(aK.j2 k x0 true))else(aK.j2 k x0 true))else(none))
def aK.j2:Nat→List (S126)→Bool→Option (Bool)
  |0,_,_=>none
  |k+1,x0,a=>if a=true then(some false)else(aK.l0 k x0 x0 (x0.length:Int) 0)
def aK.l0:Nat→List (S126)→List (S126)→Int→Int→Option (Bool)
  |0,_,_,_,_=>none
  |k+1,x0,b,c,a=>if a<c then(if 0≤a then(if a<(b.length:Int)then(if a>1 then(if((aD b a).f0)<0 then(aK.j4 k x0 b c a true ((aD b a).f0) ((aD b a).f1))else(aK.j4 k x0 b c a (decide (((aD b a).f0)≥a)) ((aD b a).f0) ((aD b a).f1)))else(aK.j4 k x0 b c a false ((aD b a).f0) ((aD b a).f1)))else(none))else(none))else(some true)
def aK.j4:Nat→List (S126)→List (S126)→Int→Int→Bool→Int→List Int→Option (Bool)
  |0,_,_,_,_,_,_,_=>none
  |k+1,x0,c,d,e,g,b,a=>if g=true then(some false)else(if(a.length:Int)>2 then(some false)else(aK.l1 k x0 c d e a (a.length:Int) 0))
def aK.l1:Nat→List (S126)→List (S126)→Int→Int→List Int→Int→Int→Option (Bool)
  |0,_,_,_,_,_,_,_=>none
  |k+1,x0,c,d,e,b,g,a=>if a<g then(if 0≤a then(if a<(b.length:Int)then((eO.f (x0.length:Int) (rd b a)).bind fun h=>(if h=true then(aK.l1 k x0 c d e b g (wrap64 (a+1)))else(some false)))else(none))else(none))else(aK.l0 k x0 c d (wrap64 (e+1)))
end
def aK.f (k:Nat) (l0:List (S126)):Option (Bool):=if(l0.length:Int)<2 then(aK.j0 k l0 true)else(aK.j0 k l0 (decide ((l0.length:Int)>5)))
def dK.f (l0:List (S126)) (a1:Int):Option (Bool):=if a1≥0 then(some (decide (a1<(l0.length:Int))))else(some false)
def jm.f (b:Int) (d:Int) (a:List Int) (e:Int) (g:Int) (h:List (S113)) (i:List (S57)) (j:List (S181)):Option (List Int):=if b≥0 then(if([]:List Int).length<17592186044416 then((some (([]:List Int)++ [wrap64 (8+b)]:List Int)).bind fun c=>(if c.length+a.length<17592186044416 then(some (c++a))else(none)))else(none))else(if([]:List Int).length+a.length<17592186044416 then(some (([]:List Int)++a))else(none))
mutual
def bn.j0:Nat→List (S126)→List (S104)→Int→Int→List Int→Int→Int→List (S113)→List (S57)→List (S181)→Option (Bool)
  |0,_,_,_,_,_,_,_,_,_,_=>none
  |k+1,a,d,e,g,b,c,h,i,j,l=>if(b.length:Int)>2 then(bn.j1 k true a d e g b c h i j l)else((eO.f (a.length:Int) c).bind fun m=>(bn.j1 k (!m) a d e g b c h i j l))
def bn.j1:Nat→Bool→List (S126)→List (S104)→Int→Int→List Int→Int→Int→List (S113)→List (S57)→List (S181)→Option (Bool)
  |0,_,_,_,_,_,_,_,_,_,_,_=>none
  |k+1,m,b,c,d,e,a,g,h,i,j,l=>if m=true then(some false)else(bn.l0 k a (a.length:Int) 0 b c d e a g h i j l)
def bn.l0:Nat→List Int→Int→Int→List (S126)→List (S104)→Int→Int→List Int→Int→Int→List (S113)→List (S57)→List (S181)→Option (Bool)
  |0,_,_,_,_,_,_,_,_,_,_,_,_,_=>none
  |k+1,n,o,l,b,m,c,d,e,g,a,h,i,j=>if l<o then(if 0≤l then(if l<(n.length:Int)then((eO.f (b.length:Int) (rd n l)).bind fun p=>(if p=true then(bn.l0 k n o (wrap64 (l+1)) b m c d e g a h i j)else(some false)))else(none))else(none))else(if a≤3 then((jm.f c d e g a h i j).bind fun q=>(some (decide (a≥(q.length:Int)))))else(some false))
end
def bn.f (k:Nat) (c:List (S126)) (d:List (S104)) (a:Int) (b:Int) (e:List Int) (g:Int) (h:Int) (i:List (S113)) (j:List (S57)) (l:List (S181)):Option (Bool):=if a=(-1)then(if b=0 then(bn.j0 k c d a b e g h i j l)else(some false))else(if a=0 then(some false)else((dK.f c a).bind fun m=>(if m=true then(if b<0 then(some false)else(if b≥3 then(some false)else(bn.j0 k c d a b e g h i j l)))else(some false))))
def dU.f (a0:Int):Option (Bool):=if a0≥(-128)then(some (decide (a0≤127)))else(some false)
def bN.f:Nat→List (S126)→Int→Option (List Int)
  |0,_,_=>none
  |k+1,l0,a1=>if a1=0 then(some ([]:List Int))else(if 0≤a1 then(if a1<(l0.length:Int)then((bN.f k l0 ((aD l0 a1).f0)).bind fun a=>(if a.length+((aD l0 a1).f1).length<17592186044416 then(some (a++((aD l0 a1).f1)))else(none)))else(none))else(none))
def eP.f (k:Nat) (a:List (S126)) (b:List (S104)) (j:Int) (l:Int) (m:List Int) (n:Int) (c:Int) (d:List (S113)) (o:List (S57)) (p:List (S181)) (q:Int) (e:Int) (r:Int) (a3:Int) (a4:Int):Option (Bool):=if a3=1 then((dU.f a4).bind fun g=>(some g))else(if a3=2 then(if a4≥0 then(some (decide (a4<c)))else(some false))else(if a3=3 then(if a4≥1 then(some (decide (a4≤4)))else(some false))else(if a3=4 then(if a4≥0 then(some (decide (a4<(d.length:Int))))else(some false))else(if a3=5 then((dK.f a a4).bind fun h=>(some h))else(if a3=6 then(if a4=0 then(some true)else(some (a4==1)))else(if a3=7 then(if a4≥0 then(if a4<(b.length:Int)then(if 0≤a4 then(some (((aa b a4).f0)==(-1)))else(none))else(some false))else(some false))else(if a3=8 then(if a4≥0 then((bN.f k a e).bind fun i=>(some (decide (a4<(i.length:Int)))))else(some false))else(if a3=9 then(if a4≥0 then(some (decide (a4<3)))else(some false))else(some (a4==0))))))))))
mutual
def bG.j0:Nat→List (S126)→Bool→Bool→List Int→List Int→Option (Bool)
  |0,_,_,_,_,_=>none
  |k+1,x0,x34,b,a,c=>if x34=true then(some false)else(bG.l0 k x0 a (a.length:Int) 0 b a c)
def bG.l0:Nat→List (S126)→List Int→Int→Int→Bool→List Int→List Int→Option (Bool)
  |0,_,_,_,_,_,_,_=>none
  |k+1,x0,d,e,x38,b,c,a=>if x38<e then(if 0≤x38 then(if x38<(d.length:Int)then((dP.f (x0.length:Int) (rd d x38)).bind fun g=>(if g=(-1)then(some false)else(bG.l0 k x0 d e (wrap64 (x38+1)) b c a)))else(none))else(none))else(bG.l1 k x0 a (a.length:Int) 0)
def bG.l1:Nat→List (S126)→List Int→Int→Int→Option (Bool)
  |0,_,_,_,_=>none
  |k+1,x0,b,c,a=>if a<c then(if 0≤a then(if a<(b.length:Int)then(if(rd b a)=0 then(some false)else((dP.f (x0.length:Int) (rd b a)).bind fun d=>(if d=(-1)then(some false)else(bG.l1 k x0 b c (wrap64 (a+1))))))else(none))else(none))else(some true)
end
def bG.f (k:Nat) (l0:List (S126)) (a1:Int) (c:Bool) (a:List Int) (b:List Int):Option (Bool):=if c=true then(if(a.length:Int)=a1 then(bG.j0 k l0 (decide ((b.length:Int)>4)) c a b)else(bG.j0 k l0 true c a b))else(if(a.length:Int)=0 then(some ((b.length:Int)==0))else(some false))
end Go.Proofs.YteinbmkgenhocaaGreat.P
end
section
namespace Go.Proofs.YteinbmkgenhocaaGreat.P
open Go Go.RowKit Go.Proofs.YteinbmkgenhocaaGreatW.PrintWords Go.Proofs.YteinbmkgenhocaaGreatW.PrintLast Go.Proofs.YteinbmkgenhocaaGreatW.PrintMore
set_option linter.unusedVariables false
set_option linter.unusedSimpArgs false
def gz:List (Int×Int×Int):= [(1,1,0),(2,0,0),(3,2,0),(4,2,0),(5,0,0),(6,0,0),(7,3,0),(8,4,0),(9,4,0),(10,4,0),(11,4,0),(12,5,0),(13,6,0),(14,0,0),(15,6,0),(16,6,0),(17,5,8),(18,5,8),(19,5,0),(20,7,0),(21,5,9),(22,0,0),(23,0,0),(24,0,0)]
def fo (n:Int):List (Int×Int×Int)→Option (Int×Int)
  | []=>none
  |e::l=>if n=e.1 then some e.2 else fo n l
def jP.f (n:Int):Option (Int×Int×Bool):=some (match fo n gz with|some p=>(p.1,p.2,true)|none=>(0,0,false))
def kZ (e:Int×Int×Int) (i:Nat):MapEntry:= {key:= .int .i64 e.1,val:= .agg #[.int .i64 e.2.1, .int .i64 e.2.2],born:=i}
def iF:List (Int×Int×Int)→Nat→List MapEntry
  | [],_=> []
  |e::l,i=>kZ e i::iF l (i+1)
def ja (m:Nat):Obj:= .map (iF (gz.take m) 0).toArray m
def jE:Obj:=ja 24
theorem dW {w:World} {g:Nat} {o:Obj} (h:w.heap[g]? =some o) {p:Addr} (hp:g≠p.block) (u:Value):(w.setCell p u).heap[g]? =some o:=(Below.heap_setCell w p u g hp).trans h
theorem kw (n:Int): ∀(l:List (Int×Int×Int)) (i m:Nat),∃j,Instr.findNow (.int .i64) (.int .i64 n) (iF l i) m=some (match fo n l with|some p=>some (j, .agg #[.int .i64 p.1, .int .i64 p.2])|none=>none)
  | [],_,_=>⟨0,rfl⟩
  | e ::l,i,m=>by
    by_cases h:n=e.1
    · refine⟨m, ?_⟩
      subst h
      simp[iF,kZ,fo,Instr.findNow,Instr.sameNow]
    · obtain⟨j,hj⟩:=kw n l (i+1) (m+1)
      refine⟨j, ?_⟩
      have hb:(n==e.1)=false:=by simpa using h
      simp only[iF,kZ,fo,Instr.findNow,Instr.sameNow,if_true,hb,if_neg h]
      exact hj
section
variable {ops:Array Oper} {rest:List Oper} {o:Oper} {a:Act} {Q:Exit→Act→World→Prop} {W:World}
theorem jY {gM:Nat} {n t1 t2:Int} {t3:Bool} {x i:Operand} (hgd:o.guard=none) (hop:o.op= .lookup 129 x i true) (hx:a.eval x= .map (some gM)) (hi:a.eval i= .int .i64 n) (hm:W.heap[gM]? =some jE) (hf:jP.f n=some (t1,t2,t3))
    (h:wpList Tryz.prog ops Q rest (a.put o.dst (.tuple #[.agg #[.int .i64 t1, .int .i64 t2], .bool t3])) W):wpList Tryz.prog ops Q (o::rest) a W:=by
  refine Kd.event_run hgd ?_ h
  have hE:jE= .map (iF gz 0).toArray 24:=rfl
  rw[hE]at hm
  obtain⟨j,hj⟩:=kw n gz 0 0
  have hz:(zeroValue 188).run Tryz.prog W= .ok (.agg #[.int .i64 0, .int .i64 0]) W:=by kernel_rfl
  have hk:MapKept.IsKey (.int .i64) (.int .i64 n):=by simp[MapKept.IsKey]
  have hu:=Tryz.underlying129
  have hu3:=Tryz.underlying3
  have hl:(Instr.lookup 129 (.map (some gM)) (.int .i64 n) true).run Tryz.prog W= .ok (.tuple #[.agg #[.int .i64 t1, .int .i64 t2], .bool t3]) W:=by
    unfold jP.f at hf
    simp only[Instr.lookup,Sem.run_bind,run_underlying hu,Result.andThen,MapKept.run_getObj_map hm,Sem.run_pure]
    rw[MapKept.run_checkKey hu3 hk]
    simp only[Result.andThen,Sem.run_bind]
    rw[MapKept.run_findKey hu3 hj]
    cases hw:fo n gz with
    | some p=>
      rw[hw]at hf
      simp only[Option.some.injEq,Prod.mk.injEq]at hf
      obtain⟨rfl,rfl,rfl⟩:=hf
      rfl
    | none=>
      rw[hw]at hf
      simp only[Option.some.injEq,Prod.mk.injEq]at hf
      obtain⟨rfl,rfl,rfl⟩:=hf
      simp only[Result.andThen,Sem.run_bind,hz,Sem.run_pure]
      rfl
  unfold execOp
  rw[hop]
  dsimp only
  rw[hx,hi]
  simp only[Sem.run_bind,hl,Result.andThen]
  rfl
end
end Go.Proofs.YteinbmkgenhocaaGreat.P
end
section
namespace Go.Proofs.YteinbmkgenhocaaGreat.P
open Go.RowKit Go.Proofs.YteinbmkgenhocaaGreatW.PrintWords Go.Proofs.YteinbmkgenhocaaGreatW.PrintLast Go.Proofs.YteinbmkgenhocaaGreatW.PrintMore
attribute [local go_sem] ah ai av ax af ag aj ak
set_option linter.unusedVariables false
set_option linter.unusedSimpArgs false
mutual
def bD.j0:Nat→Bool→List (S126)→List (S104)→Int→Int→List Int→Int→Int→List (S113)→List (S57)→List (S181)→Option (Bool)
  |0,_,_,_,_,_,_,_,_,_,_,_=>none
  |k+1,x31,b,c,d,e,g,h,i,a,j,l=>if x31=true then(some false)else(bD.l0 k a (a.length:Int) 0 b c d e g h i a j l)
def bD.l0:Nat→List (S113)→Int→Int→List (S126)→List (S104)→Int→Int→List Int→Int→Int→List (S113)→List (S57)→List (S181)→Option (Bool)
  |0,_,_,_,_,_,_,_,_,_,_,_,_,_=>none
  |k+1,c,x34,b,d,e,g,h,i,j,l,m,a,n=>if b<x34 then(if 0≤b then(if b<(c.length:Int)then((jP.f ((aQ c b).f0)).bind fun o=>(if o.2.2=true then((eP.f k d e g h i j l m a n ((aQ c b).f0) ((aQ c b).f1) ((aQ c b).f2) o.1 ((aQ c b).f1)).bind fun p=>(if p=true then((eP.f k d e g h i j l m a n ((aQ c b).f0) ((aQ c b).f1) ((aQ c b).f2) o.2.1 ((aQ c b).f2)).bind fun q=>(if q=true then(bD.l0 k c x34 (wrap64 (b+1)) d e g h i j l m a n)else(some false)))else(some false)))else(some false)))else(none))else(none))else(bD.l1 k a (a.length:Int) 0 d e g h i j l m a n)
def bD.l1:Nat→List (S57)→Int→Int→List (S126)→List (S104)→Int→Int→List Int→Int→Int→List (S113)→List (S57)→List (S181)→Option (Bool)
  |0,_,_,_,_,_,_,_,_,_,_,_,_,_=>none
  |k+1,d,o,a,b,e,g,h,i,j,c,l,m,n=>if a<o then(if 0≤a then(if a<(d.length:Int)then((bG.f k b c ((bi d a).f0) ((bi d a).f1) ((bi d a).f2)).bind fun p=>(if p=true then(bD.l1 k d o (wrap64 (a+1)) b e g h i j c l m n)else(some false)))else(none))else(none))else(some true)
end
def bD.f (k:Nat) (c:List (S126)) (d:List (S104)) (e:Int) (g:Int) (h:List Int) (i:Int) (j:Int) (a:List (S113)) (b:List (S57)) (l:List (S181)) (a2:Int):Option (Bool):=if(a.length:Int)<1 then(bD.j0 k true c d e g h i j a b l)else(if(a.length:Int)>12 then(bD.j0 k true c d e g h i j a b l)else(bD.j0 k ((b.length:Int) !=(a.length:Int)) c d e g h i j a b l))
def dL.l0:Nat→List (S126)→Int→Int→Option (Bool)
  |0,_,_,_=>none
  |k+1,x0,x2,x7=>if x7≥0 then(if x7=x2 then(some true)else(if 0≤x7 then(if x7<(x0.length:Int)then(dL.l0 k x0 x2 ((aD x0 x7).f0))else(none))else(none)))else(some false)
def dL.f (k:Nat) (l0:List (S126)) (a1:Int) (a2:Int):Option (Bool):=dL.l0 k l0 a2 a1
mutual
def bv.l0:Nat→List (S181)→Int→Int→List (S126)→List (S104)→Int→Int→List Int→Int→Int→List (S113)→List (S57)→List (S181)→Option (Bool)
  |0,_,_,_,_,_,_,_,_,_,_,_,_,_=>none
  |k+1,b,o,a,d,e,g,h,i,j,l,c,m,n=>if a<o then(if 0≤a then(if a<(b.length:Int)then(if((aG b a).f0)<0 then(bv.j1 k b o a true d e g h i j l c m n ((aG b a).f0) ((aG b a).f1) ((aG b a).f2) ((aG b a).f3))else(if((aG b a).f0)≥(c.length:Int)then(bv.j1 k b o a true d e g h i j l c m n ((aG b a).f0) ((aG b a).f1) ((aG b a).f2) ((aG b a).f3))else(if((aG b a).f2)<0 then(bv.j1 k b o a true d e g h i j l c m n ((aG b a).f0) ((aG b a).f1) ((aG b a).f2) ((aG b a).f3))else(bv.j1 k b o a (decide (((aG b a).f2)≥(c.length:Int))) d e g h i j l c m n ((aG b a).f0) ((aG b a).f1) ((aG b a).f2) ((aG b a).f3)))))else(none))else(none))else(some true)
def bv.j1:Nat→List (S181)→Int→Int→Bool→List (S126)→List (S104)→Int→Int→List Int→Int→Int→List (S113)→List (S57)→List (S181)→Int→Int→Int→Int→Option (Bool)
  |0,_,_,_,_,_,_,_,_,_,_,_,_,_,_,_,_,_,_=>none
  |k+1,q,r,s,x41,d,e,g,h,i,j,l,b,m,n,c,a,o,p=>if x41=true then(some false)else(if a≤c then(bv.j2 k q r s true d e g h i j l b m n c a o p)else(bv.j2 k q r s (decide (a>(b.length:Int))) d e g h i j l b m n c a o p))
def bv.j2:Nat→List (S181)→Int→Int→Bool→List (S126)→List (S104)→Int→Int→List Int→Int→Int→List (S113)→List (S57)→List (S181)→Int→Int→Int→Int→Option (Bool)
  |0,_,_,_,_,_,_,_,_,_,_,_,_,_,_,_,_,_,_=>none
  |k+1,s,t,u,x54,a,c,d,e,g,h,i,j,l,m,p,q,r,b=>if x54=true then(some false)else((dK.f a b).bind fun n=>(if n=true then((dL.f k a b 1).bind fun o=>(if o=true then(bv.l0 k s t (wrap64 (u+1)) a c d e g h i j l m)else(some false)))else(some false)))
end
def bv.f (k:Nat) (b:List (S126)) (c:List (S104)) (d:Int) (e:Int) (g:List Int) (h:Int) (i:Int) (j:List (S113)) (l:List (S57)) (a:List (S181)):Option (Bool):=if(a.length:Int)>2 then(some false)else(bv.l0 k a (a.length:Int) 0 b c d e g h i j l a)
def slices_Equal_int_int.l0:Nat→List Int→List Int→Int→Int→Option (Bool)
  |0,_,_,_,_=>none
  |k+1,x0,x1,b,a=>if a<b then(if 0≤a then(if a<(x0.length:Int)then(if a<(x1.length:Int)then(if(rd x0 a)=(rd x1 a)then(slices_Equal_int_int.l0 k x0 x1 b (wrap64 (a+1)))else(some false))else(none))else(none))else(none))else(some true)
def slices_Equal_int_int.f (k:Nat) (l0:List Int) (l1:List Int):Option (Bool):=if(l0.length:Int)=(l1.length:Int)then(slices_Equal_int_int.l0 k l0 l1 (l0.length:Int) 0)else(some false)
mutual
def bO.l0:Nat→List (S104)→Int→Int→List (S126)→List (S104)→Option (Bool)
  |0,_,_,_,_,_=>none
  |k+1,x8,x9,a,c,b=>if a<x9 then(if 0≤a then(if a<(x8.length:Int)then(bO.l1 k a x8 x9 a b (b.length:Int) 0 c b ((aa x8 a).f0) ((aa x8 a).f1) ((aa x8 a).f2) ((aa x8 a).f3) ((aa x8 a).f4) ((aa x8 a).f5) ((aa x8 a).f6) ((aa x8 a).f7))else(none))else(none))else(some true)
def bO.l1:Nat→Int→List (S104)→Int→Int→List (S104)→Int→Int→List (S126)→List (S104)→Int→Int→List Int→Int→Int→List (S113)→List (S57)→List (S181)→Option (Bool)
  |0,_,_,_,_,_,_,_,_,_,_,_,_,_,_,_,_,_=>none
  |k+1,x3,x8,x9,o,b,p,a,c,d,e,g,h,i,j,l,m,n=>if a<p then(if 0≤a then(if a<(b.length:Int)then(if x3=a then(bO.j2 k x3 x8 x9 o b p a true c d e g h i j l m n ((aa b a).f0) ((aa b a).f1) ((aa b a).f2) ((aa b a).f3) ((aa b a).f4) ((aa b a).f5) ((aa b a).f6) ((aa b a).f7))else(if e<0 then(bO.j2 k x3 x8 x9 o b p a true c d e g h i j l m n ((aa b a).f0) ((aa b a).f1) ((aa b a).f2) ((aa b a).f3) ((aa b a).f4) ((aa b a).f5) ((aa b a).f6) ((aa b a).f7))else(if((aa b a).f0)<0 then(bO.j2 k x3 x8 x9 o b p a true c d e g h i j l m n ((aa b a).f0) ((aa b a).f1) ((aa b a).f2) ((aa b a).f3) ((aa b a).f4) ((aa b a).f5) ((aa b a).f6) ((aa b a).f7))else(bO.j2 k x3 x8 x9 o b p a (g !=((aa b a).f1)) c d e g h i j l m n ((aa b a).f0) ((aa b a).f1) ((aa b a).f2) ((aa b a).f3) ((aa b a).f4) ((aa b a).f5) ((aa b a).f6) ((aa b a).f7)))))else(none))else(none))else(bO.l0 k x8 x9 (wrap64 (o+1)) c d)
def bO.j2:Nat→Int→List (S104)→Int→Int→List (S104)→Int→Int→Bool→List (S126)→List (S104)→Int→Int→List Int→Int→Int→List (S113)→List (S57)→List (S181)→Int→Int→List Int→Int→Int→List (S113)→List (S57)→List (S181)→Option (Bool)
  |0,_,_,_,_,_,_,_,_,_,_,_,_,_,_,_,_,_,_,_,_,_,_,_,_,_,_=>none
  |k+1,x3,x8,x9,p,q,r,s,A,b,e,a,g,c,d,h,i,j,l,m,v,n,o,w,x,y,z=>if A=true then(bO.l1 k x3 x8 x9 p q r (wrap64 (s+1)) b e a g c d h i j l)else(if a=m then(some false)else((dL.f k b a m).bind fun t=>(if t=true then(if d=o then((slices_Equal_int_int.f k c n).bind fun u=>(if u=true then(bO.l1 k x3 x8 x9 p q r (wrap64 (s+1)) b e a g c d h i j l)else(some false)))else(some false))else(bO.l1 k x3 x8 x9 p q r (wrap64 (s+1)) b e a g c d h i j l))))
end
def bO.f (k:Nat) (b:List (S126)) (a:List (S104)):Option (Bool):=bO.l0 k a (a.length:Int) 0 b a
mutual
def bE.j0:Nat→Bool→List (S126)→List (S104)→Option (Bool)
  |0,_,_,_=>none
  |k+1,c,b,a=>if c=true then(some false)else(if 0<(a.length:Int)then(if((aa a 0).f0)=(-1)then(if(((aa a 0).f2).length:Int)=0 then(bE.j1 k (((aa a 0).f3) !=1) b a)else(bE.j1 k true b a))else(bE.j1 k true b a))else(none))
def bE.j1:Nat→Bool→List (S126)→List (S104)→Option (Bool)
  |0,_,_,_=>none
  |k+1,x40,b,a=>if x40=true then(some false)else(bE.l0 k a (a.length:Int) 0 b a)
def bE.l0:Nat→List (S104)→Int→Int→List (S126)→List (S104)→Option (Bool)
  |0,_,_,_,_,_=>none
  |k+1,x43,d,a,b,c=>if a<d then(if 0≤a then(if a<(x43.length:Int)then((bn.f k b c ((aa x43 a).f0) ((aa x43 a).f1) ((aa x43 a).f2) ((aa x43 a).f3) ((aa x43 a).f4) ((aa x43 a).f5) ((aa x43 a).f6) ((aa x43 a).f7)).bind fun e=>(if e=true then((bD.f k b c ((aa x43 a).f0) ((aa x43 a).f1) ((aa x43 a).f2) ((aa x43 a).f3) ((aa x43 a).f4) ((aa x43 a).f5) ((aa x43 a).f6) ((aa x43 a).f7) 0).bind fun g=>(if g=true then((bv.f k b c ((aa x43 a).f0) ((aa x43 a).f1) ((aa x43 a).f2) ((aa x43 a).f3) ((aa x43 a).f4) ((aa x43 a).f5) ((aa x43 a).f6) ((aa x43 a).f7)).bind fun h=>(if h=true then(bE.l0 k x43 d (wrap64 (a+1)) b c)else(some false)))else(some false)))else(some false)))else(none))else(none))else((bO.f k b c).bind fun i=>(some i))
end
def bE.f (k:Nat) (b:List (S126)) (a:List (S104)):Option (Bool):=(aK.f k b).bind fun c=>(if c=true then(if(a.length:Int)<1 then(bE.j0 k true b a)else(bE.j0 k (decide ((a.length:Int)>4)) b a))else(bE.j0 k true b a))
def jd.f (b:Bool) (a:Int) (a1:Int):Option (Bool):=if b=true then(if a≥0 then(some (decide (a≤a1)))else(some false))else(some true)
def eH.f (a0:Int) (a1:Int) (a2:Int):Option (Bool):=if a0≤a1 then(some (decide (a1≤a2)))else(some false)
def ed.j0:Nat→Int→Bool→List (S91)→List (S70)→List Int→Int→Int→Bool→Int→Option (Bool)
  |0,_,_,_,_,_,_,_,_,_=>none
  |k+1,x4,x5,d,a,e,g,h,b,c=>if x5=true then(if(a.length:Int)>0 then(some (!b && (c==0)))else(some false))else(if x4=1 then(some ((a.length:Int)==0))else(if x4=2 then(if(a.length:Int)=0 then(if b=true then(some (decide (c≥1)))else(some false))else(some false))else(some false)))
def ed.f (k:Nat) (b:List (S91)) (c:List (S70)) (d:List Int) (e:Int) (a:Int) (g:Bool) (h:Int):Option (Bool):=if a=0 then(ed.j0 k a (a==0) b c d e a g h)else(ed.j0 k a (a==3) b c d e a g h)
def dn.j0:Nat→List (S126)→Bool→Int→List (S31)→Option (Bool)
  |0,_,_,_,_=>none
  |k+1,x0,e,a,b=>if e=true then(some (decide ((b.length:Int)≤6)))else((dK.f x0 a).bind fun c=>(if c=true then((bN.f k x0 a).bind fun d=>(some ((b.length:Int)==(d.length:Int))))else(some false)))
def dn.f (k:Nat) (l0:List (S126)) (a:Int) (b:List (S31)):Option (Bool):=if a=(-1)then(dn.j0 k l0 true a b)else(dn.j0 k l0 (a==(-2)) a b)
def fu.f (b:List (S126)) (a:List (S104)) (a1:Int):Option (Bool):=if a1≥0 then(some (decide (a1<(a.length:Int))))else(some false)
end Go.Proofs.YteinbmkgenhocaaGreat.P
end
section
namespace Go.Proofs.YteinbmkgenhocaaGreat.P
open Go Go.RowKit Go.Proofs.YteinbmkgenhocaaGreatW.PrintWords Go.Proofs.YteinbmkgenhocaaGreatW.PrintLast Go.Proofs.YteinbmkgenhocaaGreatW.PrintMore
set_option linter.unusedVariables false
def thenB (a b:Option Bool):Option Bool:=a.bind fun t=>if t=true then b else some false
def everyB {α:Type} (g:α→Option Bool):List α→Option Bool
  | []=>some true
  |x::l=>thenB (g x) (everyB g l)
def everyG {α:Type} (g:α→Option Bool) (l:List α):Option Bool:=if l.length≤1099511627776 then everyB g l else none
def nu:List (Option Bool)→Option Bool
  | []=>some true
  |a::l=>thenB a (nu l)
def jq (n:Int) (v:S31):Option Bool:=if v.f0=true then jd.f v.f0 v.f1 n else dU.f v.f1
def iY (cs:List S126) (ms:List S104) (n:Int) (f:S70):Option Bool:=
  thenB (fu.f cs ms f.f0) (thenB (eH.f 0 f.f1 ((aa ms f.f0).f5.length:Int)) (if(f.f2.length:Int)=(aa ms f.f0).f4 then(if(f.f3.length:Int)≤4 then thenB (everyG (jq n) f.f2) (everyG (jq n) f.f3)else some false)else some false))
def jX (k:Nat) (cs:List S126) (n:Int) (o:S91):Option Bool:=thenB (dn.f k cs o.f0 o.f1) (everyG (jq n) o.f1)
def uA (k:Nat) (cs:List S126) (ms:List S104) (objs:List S91) (frs:List S70) (said:List Int) (st en:Int) (rf:Bool) (n:Int):List (Option Bool):=
  [eH.f 0 st 200,eH.f 7 (objs.length:Int) 207,if(frs.length:Int)≤4 then some (decide ((said.length:Int)≤200))else some false,everyG dU.f said,
   if 7≤objs.length then everyG (fun o=>some (o.f0==1)) (objs.take 7)else none,everyG (jX k cs (objs.length:Int)) objs,everyG (iY cs ms (objs.length:Int)) frs,thenB (jq (objs.length:Int) ⟨rf,n⟩) (ed.f k objs frs said st en rf n)]
def iZ.f (k:Nat) (cs:List S126) (ms:List S104) (objs:List S91) (frs:List S70) (said:List Int) (st en:Int) (rf:Bool) (n:Int):Option Bool:=nu (uA k cs ms objs frs said st en rf n)
theorem LeO.thenB {a a' b b' :Option Bool} (h:LeO a a') (h' :LeO b b'):LeO (thenB a b) (thenB a' b'):=LeO.bind h (fun _=>LeO.ite h' (LeO.refl _))
theorem LeO.everyB {α:Type} {g g' :α→Option Bool} (h: ∀x,LeO (g x) (g' x)): ∀l,LeO (everyB g l) (everyB g' l)
  | []=>LeO.refl _
  |x::l=>LeO.thenB (h x) (LeO.everyB h l)
theorem LeO.everyG {α:Type} {g g' :α→Option Bool} (h: ∀x,LeO (g x) (g' x)) (l:List α):LeO (everyG g l) (everyG g' l):=LeO.ite (LeO.everyB h l) (LeO.refl _)
theorem gD {α:Type} {g:α→Option Bool} {l:List α} {b:Bool} (h:everyG g l=some b):l.length≤1099511627776∧everyB g l=some b:=by
  unfold everyG at h
  split at h
  ·rename_i c;exact⟨c,h⟩
  ·cases h
theorem gH {a b:Option Bool} {r:Bool} (h:thenB a b=some r):(a=some true∧b=some r)∨(a=some false∧r=false):=by
  unfold thenB at h
  cases a with
  |none=>cases h
  | some t=>
    cases t with
    |true=>exact .inl ⟨rfl,h⟩
    |false=>exact .inr ⟨rfl,(Option.some.inj h).symm⟩
theorem jr {α:Type} {g:α→Option Bool} (l:List α) (d:α) {i:Nat} (h:i<l.length):everyB g (l.drop i)=thenB (g (l.getD i d)) (everyB g (l.drop (i+1))):=by
  rw[List.drop_eq_getElem_cons h,List.getD_eq_getElem?_getD,List.getElem?_eq_getElem h];rfl
end Go.Proofs.YteinbmkgenhocaaGreat.P
end
section
namespace Go.Proofs.YteinbmkgenhocaaGreat.P
open Go.RowKit Go.Proofs.YteinbmkgenhocaaGreatW.PrintWords Go.Proofs.YteinbmkgenhocaaGreatW.PrintLast Go.Proofs.YteinbmkgenhocaaGreatW.PrintMore
attribute [local go_sem] ah ai av ax af ag aj ak
set_option linter.unusedVariables false
set_option linter.unusedSimpArgs false
def fZ.f (k:Nat) (a:List (S126)) (b:List (S104)) (c:List (S91)) (d:List (S70)) (e:List Int) (g:Int) (h:Int) (i:Bool) (j:Int):Option (Bool):=(bE.f k a b).bind fun l=>(if l=true then((iZ.f k a b c d e g h i j).bind fun m=>(some m))else(some false))
def iP.f (c:Int) (b:List Int) (a1:Int):Option (Int):=(cZ.f b a1).bind fun a=>(if a<0 then(some (-1))else(some a))
def dF.l0:Nat→List (S116)→Int→Int→Option (Int)
  |0,_,_,_=>none
  |k+1,x0,x1,x5=>if x5<(x0.length:Int)then(if 0≤x5 then((iP.f ((fA x0 x5).f0) ((fA x0 x5).f1) x1).bind fun a=>(if a<0 then(some (-1))else(dF.l0 k x0 a (wrap64 (x5+1)))))else(none))else(some x1)
def dF.f (k:Nat) (l0:List (S116)) (a1:Int):Option (Int):=if(wrap64 (a1 - (l0.length:Int)))<0 then(some (-1))else(dF.l0 k l0 (wrap64 (a1 - (l0.length:Int))) 0)
def gP.f (l0:List (S217)) (a1:Int):Option (Int):=if(wrap64 (a1 - (l0.length:Int)))<0 then(some (-1))else(some (wrap64 (a1 - (l0.length:Int))))
def iD.f (d:Bool) (b:List Int) (c:List Int) (a1:Int):Option (Int):=(cZ.f b a1).bind fun a=>(if a<0 then(some (-1))else((cZ.f c a).bind fun t107=>(if t107<0 then(some (-1))else(some t107))))
def dN.l0:Nat→List (S55)→Int→Int→Option (Int)
  |0,_,_,_=>none
  |k+1,x0,x1,x5=>if x5<(x0.length:Int)then(if 0≤x5 then((iD.f ((ek x0 x5).f0) ((ek x0 x5).f1) ((ek x0 x5).f2) x1).bind fun t109=>(if t109<0 then(some (-1))else(dN.l0 k x0 t109 (wrap64 (x5+1)))))else(none))else(some x1)
def dN.f (k:Nat) (l0:List (S55)) (a1:Int):Option (Int):=if(wrap64 (a1 - (l0.length:Int)))<0 then(some (-1))else(dN.l0 k l0 (wrap64 (a1 - (l0.length:Int))) 0)
def gZ.f (l0:List (S219)) (a1:Int):Option (Int):=if(wrap64 (a1 - (l0.length:Int)))<0 then(some (-1))else(some (wrap64 (a1 - (l0.length:Int))))
def ib.f (k:Nat) (j:Int) (l:Int) (e:List Int) (m:Int) (n:Int) (g:List (S217)) (h:List (S55)) (i:List (S219)) (a1:Int):Option (Int):=(cZ.f e a1).bind fun a=>(if a<0 then(some (-1))else((gP.f g a).bind fun b=>(if b<0 then(some (-1))else((dN.f k h b).bind fun c=>(if c<0 then(some (-1))else((gZ.f i c).bind fun d=>(if d<0 then(some (-1))else(some d))))))))
def dJ.l0:Nat→List (S122)→Int→Int→Option (Int)
  |0,_,_,_=>none
  |k+1,x0,x1,x5=>if x5<(x0.length:Int)then(if 0≤x5 then((ib.f k ((bf x0 x5).f0) ((bf x0 x5).f1) ((bf x0 x5).f2) ((bf x0 x5).f3) ((bf x0 x5).f4) ((bf x0 x5).f5) ((bf x0 x5).f6) ((bf x0 x5).f7) x1).bind fun t116=>(if t116<0 then(some (-1))else(dJ.l0 k x0 t116 (wrap64 (x5+1)))))else(none))else(some x1)
def dJ.f (k:Nat) (l0:List (S122)) (a1:Int):Option (Int):=if(wrap64 (a1 - (l0.length:Int)))<0 then(some (-1))else(dJ.l0 k l0 (wrap64 (a1 - (l0.length:Int))) 0)
def gQ.f (k:Nat) (b:List (S116)) (c:List (S122)) (a1:Int):Option (Int):=(dF.f k b a1).bind fun a=>(if a<0 then(some (-1))else((dJ.f k c a).bind fun t119=>(if t119<0 then(some (-1))else(some t119))))
def je.f (k:Nat) (a:Int) (b:List Int):Option (Int×List Int):=(bY.f k b).bind fun c=>(some (a,c))
def dB.l0:Nat→List (S116)→List (S126)→Int→Option ((List (S126)))
  |0,_,_,_=>none
  |k+1,x0,x3,x4=>if x4<(x0.length:Int)then(if 0≤x4 then((je.f k ((fA x0 x4).f0) ((fA x0 x4).f1)).bind fun a=>(if x4<(x3.length:Int)then(dB.l0 k x0 (x3.set (x4:Int).toNat (⟨a.1,a.2⟩:S126)) (wrap64 (x4+1)))else(none)))else(none))else(some x3)
def dB.f (k:Nat) (l0:List (S116)):Option ((List (S126))):=if 0≤(l0.length:Int)then(if((l0.length:Int):Int).toNat≤8796093022208 then(dB.l0 k l0 (List.replicate ((l0.length:Int):Int).toNat jC) 0)else(none))else(none)
def jB.f (a:Int) (b:Int) (c:Int):Option (Int×Int×Int):=some (a,b,c)
def dV.l0:Nat→List (S217)→List (S113)→Int→Option ((List (S113)))
  |0,_,_,_=>none
  |k+1,x0,x3,x4=>if x4<(x0.length:Int)then(if 0≤x4 then((jB.f ((iA x0 x4).f0) ((iA x0 x4).f1) ((iA x0 x4).f2)).bind fun a=>(if x4<(x3.length:Int)then(dV.l0 k x0 (x3.set (x4:Int).toNat (⟨a.1,a.2.1,a.2.2⟩:S113)) (wrap64 (x4+1)))else(none)))else(none))else(some x3)
def dV.f (k:Nat) (l0:List (S217)):Option ((List (S113))):=if 0≤(l0.length:Int)then(if((l0.length:Int):Int).toNat≤11728124029610 then(dV.l0 k l0 (List.replicate ((l0.length:Int):Int).toNat iU) 0)else(none))else(none)
def iQ.f (k:Nat) (a:Bool) (b:List Int) (c:List Int):Option (Bool×List Int×List Int):=(bY.f k b).bind fun d=>((bY.f k c).bind fun e=>(some (a,d,e)))
def dG.l0:Nat→List (S55)→List (S57)→Int→Option ((List (S57)))
  |0,_,_,_=>none
  |k+1,x0,x3,x4=>if x4<(x0.length:Int)then(if 0≤x4 then((iQ.f k ((ek x0 x4).f0) ((ek x0 x4).f1) ((ek x0 x4).f2)).bind fun a=>(if x4<(x3.length:Int)then(dG.l0 k x0 (x3.set (x4:Int).toNat (⟨a.1,a.2.1,a.2.2⟩:S57)) (wrap64 (x4+1)))else(none)))else(none))else(some x3)
def dG.f (k:Nat) (l0:List (S55)):Option ((List (S57))):=if 0≤(l0.length:Int)then(if((l0.length:Int):Int).toNat≤5026338869833 then(dG.l0 k l0 (List.replicate ((l0.length:Int):Int).toNat z57) 0)else(none))else(none)
def jf.f (a:Int) (b:Int) (c:Int) (d:Int):Option (Int×Int×Int×Int):=some (a,b,c,d)
def dH.l0:Nat→List (S219)→List (S181)→Int→Option ((List (S181)))
  |0,_,_,_=>none
  |k+1,x0,x3,x4=>if x4<(x0.length:Int)then(if 0≤x4 then((jf.f ((gy x0 x4).f0) ((gy x0 x4).f1) ((gy x0 x4).f2) ((gy x0 x4).f3)).bind fun a=>(if x4<(x3.length:Int)then(dH.l0 k x0 (x3.set (x4:Int).toNat (⟨a.1,a.2.1,a.2.2.1,a.2.2.2⟩:S181)) (wrap64 (x4+1)))else(none)))else(none))else(some x3)
def dH.f (k:Nat) (l0:List (S219)):Option ((List (S181))):=if 0≤(l0.length:Int)then(if((l0.length:Int):Int).toNat≤8796093022208 then(dH.l0 k l0 (List.replicate ((l0.length:Int):Int).toNat ig) 0)else(none))else(none)
def iH.f (k:Nat) (a:Int) (b:Int) (c:List Int) (d:Int) (e:Int) (g:List (S217)) (h:List (S55)) (i:List (S219)):Option (Int×Int×List Int×Int×Int×(List (S113))×(List (S57))×(List (S181))):=(bY.f k c).bind fun j=>((dV.f k g).bind fun l=>((dG.f k h).bind fun m=>((dH.f k i).bind fun n=>(some (a,b,j,d,e,l,m,n)))))
end Go.Proofs.YteinbmkgenhocaaGreat.P
end
