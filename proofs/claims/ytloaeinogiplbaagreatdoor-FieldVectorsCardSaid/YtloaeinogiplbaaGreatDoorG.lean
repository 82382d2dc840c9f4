/- Part of a proof about a given program: see the last module of the claim. -/
import Derived.Test.YtloaeinogiplbaaGreatDoorF
import Derived.Shelf.Strings.Builder1
import Derived.Shelf.Strings.Builder2
import Derived.Shelf.Strings.OnBuilder
import Derived.Shelf.Small.Utf8
import Derived.Shelf.Small.Strs
import Derived.Shelf.Strings.BuilderF
import Derived.Shelf.Strings.BuilderK
import Derived.Shelf.Strconv.Itoa0
import Derived.Shelf.Strconv.Itoa1
import Derived.Shelf.LaysM
import Derived.Shelf.Strconv.Itoa2
import Derived.Shelf.Strconv.Itoa3
import Derived.Shelf.Strings.Search1
import Derived.Shelf.Strings.Search2
import Derived.Shelf.Strings.Search3
import Derived.Shelf.Strings.Cut
import Derived.Shelf.Strings.Count
import Derived.Shelf.Strings.Shaped
import Derived.Shelf.Strings.Prefix
import Derived.Shelf.Strings.Runes
import Derived.Shelf.Strings.AsciiSet
import Derived.Shelf.Bits.Mul64
import Derived.Shelf.Strings.Repeat
import Derived.Shelf.Unicode.DecodeSlow
import Derived.Shelf.Unicode.DecodeAny
import Derived.Ground.Names2Prog
import Derived.Shelf.Slices.Clone
import Derived.Shelf.Slices.SearchI
import Derived.Ground.SlgnProg
import Derived.Shelf.SlicesE.Clone
import Derived.Test.YtloaeinogiplbaaGreatDoorProg
import Derived.WalkKit
import Derived.BigCall
import Derived.Test.YtloaeinogiplbaaGreatDoorC
section
open Go Go.Ev Go.RowKit
namespace Go.Proofs.YtloaeinogiplbaaGreatDoor
open Go.Proofs
set_option maxRecDepth 100000
set_option maxHeartbeats 1000000
set_option linter.unusedVariables false
set_option linter.unusedSimpArgs false
noncomputable section
abbrev zo2 (l:Int) (m:Int):AV:=.pd [aJ,aJ,aJ,aJ,.lst EK.whole [l,m],aJ,aJ,aJ,aJ,aJ,aJ,aJ] 0
abbrev tma_0_s0 (l m a b c e d f g h i j:Int):St:=⟨sp 53 [(0,(zo2 l m)),(1,.agg [aD a,.wd a,aD b,.wd b,aD c,.wd c,aD e,.wd e,aD d,.wd d]),(2,.agg [aD f,.wd f,aD g,.wd g,aD h,.wd h,aD i,.wd i,aD j,.wd j]),(4,.ref 0 0),(5,.ref 1 0),(6,.ref 2 0),(7,aI ((1:Int))),(8,.ref 3 0),(9,aI 0),(10,aI 0),(11,(zo2 l m)),(12,aI ((1:Int))),(13,aI ((1:Int))),(14,aI 0),(15,aT),(16,aI 0),(17,aI ((1:Int))),(18,aI 0),(19,aT),(20,aI 0),(21,aI 0),(22,aI 0),(23,aI 0),(24,aI 0),(25,aI 0),(26,aI 0),(27,.ref 3 0),(28,.agg [aF,aN]),(29,aI 0),(30,.ref 0 0),(31,.ref 0 0),(32,.agg [aD a,.wd a]),(33,aI 0),(34,.ref 1 0),(35,.ref 1 0),(36,.agg [aD f,.wd f]),(37,.agg [.lit (.bool (decide (a*f<0))),.wd (a*f)]),(38,.agg [.lit (.bool (decide (0+a*f<0))),.wd (0+a*f)]),(39,.ref 3 0)],[.flat [aD a,.wd a,aD b,.wd b,aD c,.wd c,aD e,.wd e,aD d,.wd d] true,.flat [aD f,.wd f,aD g,.wd g,aD h,.wd h,aD i,.wd i,aD j,.wd j] true,.flat [aF,aN,aF,aN,aF,aN,aF,aN,aF,aN] true,.flat [.lit (.bool (decide (0+a*f<0))),.wd (0+a*f),aF,aN,aF,aN,aF,aN,aF,aN,aF,aN,aF,aN] true],[3]⟩
theorem tma_0 (l m a b c e d f g h i j:Int) (h1:r64 ((1:Int))) (h2:pDD a f) (h3:pDD 0 (a*f)) (h4:r64 (2*((1:Int)))) (h5:r64 (2*((1:Int))-1)) (h6:0≤2*((1:Int))-1) (h7:2*((1:Int))-1≤7) (h8:pDD d j) (h9:znG [l,m] [0+a*f] (d*j)):FC Tryz.prog 84 [reA (.lst .whole [l,m]),nuA a b c e d,nuA f g h i j] (nuF (zat [l,m] (List.length [l,m]-1) [0+a*f]) (d*j)):=eZ zl8 60 [] (.i h1<|.c h2<|.c h3<|.s (tma_0_s0 l m a b c e d f g h i j)<|.i h4<|.i h5<|.t h6<|.t h7<|.c h8<|.c h9<|.o<|.o<|.e) [1,0,0,0,0,0,0,0,0,0,0,2,0,0,3,0,0,0,0,2,0,0,3,0,0,4,0,0,5,6,0,7,8,0,0,9,0,0,10]
abbrev zcU (l:Int) (m:Int) (n:Int):AV:=.pd [aJ,aJ,aJ,aJ,.lst EK.whole [l,m,n],aJ,aJ,aJ,aJ,aJ,aJ,aJ] 0
abbrev zhE (a:Int) (b:Int) (c:Int) (e:Int) (d:Int):Row:=.flat [aD a,.wd a,aD b,.wd b,aD c,.wd c,aD e,.wd e,aD d,.wd d] true
abbrev zhF (f:Int) (g:Int) (h:Int) (i:Int) (j:Int):Row:=.flat [aD f,.wd f,aD g,.wd g,aD h,.wd h,aD i,.wd i,aD j,.wd j] true
abbrev zhG (a:Int) (b:Int) (c:Int) (e:Int) (d:Int):AV:=.agg [aD a,.wd a,aD b,.wd b,aD c,.wd c,aD e,.wd e,aD d,.wd d]
abbrev zhH (f:Int) (g:Int) (h:Int) (i:Int) (j:Int):AV:=.agg [aD f,.wd f,aD g,.wd g,aD h,.wd h,aD i,.wd i,aD j,.wd j]
abbrev zak:AV:=aI ((2:Int))
abbrev zhI:Row:=.flat [aF,aN,aF,aN,aF,aN,aF,aN,aF,aN] true
abbrev tmb_0_s0 (l m n a b c e d f g h i j:Int):St:=⟨sp 53 [(0,(zcU l m n)),(1,(zhG a b c e d)),(2,(zhH f g h i j)),(4,.ref 0 0),(5,.ref 1 0),(6,.ref 2 0),(7,zak),(8,.ref 3 0),(9,aI 0),(10,aI 0),(11,(zcU l m n)),(12,zak),(13,zak),(14,aI 0),(15,aT),(16,aI 0),(17,zak),(18,aI 0),(19,aT),(20,aI 0),(21,aI 0),(22,aI 0),(23,aI 0),(24,aI 0),(25,aI 0),(26,aI 0),(27,.ref 3 0),(28,.agg [aF,aN]),(29,aI 0),(30,.ref 0 0),(31,.ref 0 0),(32,.agg [aD a,.wd a]),(33,aI 0),(34,.ref 1 0),(35,.ref 1 0),(36,.agg [aD f,.wd f]),(37,.agg [.lit (.bool (decide (a*f<0))),.wd (a*f)]),(38,.agg [.lit (.bool (decide (0+a*f<0))),.wd (0+a*f)]),(39,.ref 3 0)],[(zhE a b c e d),(zhF f g h i j),zhI,.flat [.lit (.bool (decide (0+a*f<0))),.wd (0+a*f),aF,aN,aF,aN,aF,aN,aF,aN,aF,aN,aF,aN] true],[3]⟩
abbrev tmb_0_s1 (l m n a b c e d f g h i j:Int):St:=⟨sp 53 [(0,(zcU l m n)),(1,(zhG a b c e d)),(2,(zhH f g h i j)),(4,.ref 0 0),(5,.ref 1 0),(6,.ref 2 0),(7,zak),(8,.ref 3 0),(9,aI 0),(10,aI 1),(11,(zcU l m n)),(12,zak),(13,zak),(14,aI 0),(15,aT),(16,aI 0),(17,zak),(18,aI 1),(19,aT),(20,aI 1),(21,aI 0),(22,aI 1),(23,aI 1),(24,aI 0),(25,aI 1),(26,aI 1),(27,.ref 3 2),(28,.agg [aF,aN]),(29,aI 0),(30,.ref 0 0),(31,.ref 0 0),(32,.agg [aD a,.wd a]),(33,aI 1),(34,.ref 1 0),(35,.ref 1 2),(36,.agg [aD g,.wd g]),(37,.agg [.lit (.bool (decide (a*g<0))),.wd (a*g)]),(38,.agg [.lit (.bool (decide (0+a*g<0))),.wd (0+a*g)]),(39,.ref 3 2),(40,aI 1)],[(zhE a b c e d),(zhF f g h i j),zhI,.flat [.lit (.bool (decide (0+a*f<0))),.wd (0+a*f),.lit (.bool (decide (0+a*g<0))),.wd (0+a*g),aF,aN,aF,aN,aF,aN,aF,aN,aF,aN] true],[3,3]⟩
abbrev tmb_0_s2 (l m n a b c e d f g h i j:Int):St:=⟨sp 53 [(0,(zcU l m n)),(1,(zhG a b c e d)),(2,(zhH f g h i j)),(4,.ref 0 0),(5,.ref 1 0),(6,.ref 2 0),(7,zak),(8,.ref 3 0),(9,aI 1),(10,aI 0),(11,(zcU l m n)),(12,zak),(13,zak),(14,aI 1),(15,aT),(16,aI 1),(17,zak),(18,aI 0),(19,aT),(20,aI 0),(21,aI 1),(22,aI 0),(23,aI 1),(24,aI 1),(25,aI 0),(26,aI 1),(27,.ref 3 2),(28,.agg [.lit (.bool (decide (0+a*g<0))),.wd (0+a*g)]),(29,aI 1),(30,.ref 0 0),(31,.ref 0 2),(32,.agg [aD b,.wd b]),(33,aI 0),(34,.ref 1 0),(35,.ref 1 0),(36,.agg [aD f,.wd f]),(37,.agg [.lit (.bool (decide (b*f<0))),.wd (b*f)]),(38,.agg [.lit (.bool (decide (0+a*g+b*f<0))),.wd (0+a*g+b*f)]),(39,.ref 3 2),(40,aI 2),(41,aI 1)],[(zhE a b c e d),(zhF f g h i j),zhI,.flat [.lit (.bool (decide (0+a*f<0))),.wd (0+a*f),.lit (.bool (decide (0+a*g+b*f<0))),.wd (0+a*g+b*f),aF,aN,aF,aN,aF,aN,aF,aN,aF,aN] true],[3,3,3]⟩
abbrev tmb_0_s3 (l m n a b c e d f g h i j:Int):St:=⟨sp 53 [(0,(zcU l m n)),(1,(zhG a b c e d)),(2,(zhH f g h i j)),(4,.ref 0 0),(5,.ref 1 0),(6,.ref 2 0),(7,zak),(8,.ref 3 0),(9,aI 1),(10,aI 1),(11,(zcU l m n)),(12,zak),(13,zak),(14,aI 1),(15,aT),(16,aI 1),(17,zak),(18,aI 1),(19,aT),(20,aI 1),(21,aI 1),(22,aI 1),(23,aI 2),(24,aI 1),(25,aI 1),(26,aI 2),(27,.ref 3 4),(28,.agg [aF,aN]),(29,aI 1),(30,.ref 0 0),(31,.ref 0 2),(32,.agg [aD b,.wd b]),(33,aI 1),(34,.ref 1 0),(35,.ref 1 2),(36,.agg [aD g,.wd g]),(37,.agg [.lit (.bool (decide (b*g<0))),.wd (b*g)]),(38,.agg [.lit (.bool (decide (0+b*g<0))),.wd (0+b*g)]),(39,.ref 3 4),(40,aI 1),(41,aI 1)],[(zhE a b c e d),(zhF f g h i j),zhI,.flat [.lit (.bool (decide (0+a*f<0))),.wd (0+a*f),.lit (.bool (decide (0+a*g+b*f<0))),.wd (0+a*g+b*f),.lit (.bool (decide (0+b*g<0))),.wd (0+b*g),aF,aN,aF,aN,aF,aN,aF,aN] true],[3,3,3,3]⟩
theorem tmb_0 (l m n a b c e d f g h i j:Int) (h1:r64 ((2:Int))) (h2:pDD a f) (h3:pDD 0 (a*f)) (h4:pDD a g) (h5:pDD 0 (a*g)) (h6:pDD b f) (h7:pDD (0+a*g) (b*f)) (h8:pDD b g) (h9:pDD 0 (b*g)) (h10:r64 (2*((2:Int)))) (h11:r64 (2*((2:Int))-1)) (h12:0≤2*((2:Int))-1) (h13:2*((2:Int))-1≤7) (h14:pDD d j) (h15:znG [l,m,n] [0+a*f,0+a*g+b*f,0+b*g] (d*j)):FC Tryz.prog 84 [reA (.lst .whole [l,m,n]),nuA a b c e d,nuA f g h i j] (nuF (zat [l,m,n] (List.length [l,m,n]-1) [0+a*f,0+a*g+b*f,0+b*g]) (d*j)):=eZ zl8 60 [] (.i h1<|.c h2<|.c h3<|.s (tmb_0_s0 l m n a b c e d f g h i j)<|.c h4<|.c h5<|.s (tmb_0_s1 l m n a b c e d f g h i j)<|.c h6<|.c h7<|.s (tmb_0_s2 l m n a b c e d f g h i j)<|.c h8<|.c h9<|.s (tmb_0_s3 l m n a b c e d f g h i j)<|.i h10<|.i h11<|.t h12<|.t h13<|.c h14<|.c h15<|.o<|.o<|.o<|.e) [1,0,0,0,0,0,0,0,0,0,0,2,0,0,3,0,0,0,0,2,0,0,3,0,0,4,0,0,0,0,0,0,0,0,0,0,0,5,0,0,6,0,0,0,0,5,0,0,6,0,0,7,0,0,0,0,0,0,0,0,0,0,0,0,8,0,0,9,0,0,0,0,8,0,0,9,0,0,10,0,0,0,0,0,0,0,0,0,0,0,11,0,0,12,0,0,0,0,11,0,0,12,0,0,13,0,0,14,15,0,16,17,0,0,18,0,0,0,0,19]
abbrev WZ (l:Int) (m:Int) (n:Int) (o:Int):AV:=.pd [aJ,aJ,aJ,aJ,.lst EK.whole [l,m,n,o],aJ,aJ,aJ,aJ,aJ,aJ,aJ] 0
abbrev zce (a:Int) (b:Int) (c:Int) (e:Int) (d:Int):Row:=.flat [aD a,.wd a,aD b,.wd b,aD c,.wd c,aD e,.wd e,aD d,.wd d] true
abbrev zcf (f:Int) (g:Int) (h:Int) (i:Int) (j:Int):Row:=.flat [aD f,.wd f,aD g,.wd g,aD h,.wd h,aD i,.wd i,aD j,.wd j] true
abbrev zcg (a:Int) (b:Int) (c:Int) (e:Int) (d:Int):AV:=.agg [aD a,.wd a,aD b,.wd b,aD c,.wd c,aD e,.wd e,aD d,.wd d]
abbrev zch (f:Int) (g:Int) (h:Int) (i:Int) (j:Int):AV:=.agg [aD f,.wd f,aD g,.wd g,aD h,.wd h,aD i,.wd i,aD j,.wd j]
abbrev sZ:AV:=aI ((3:Int))
abbrev zci:Row:=.flat [aF,aN,aF,aN,aF,aN,aF,aN,aF,aN] true
abbrev tmc_0_s0 (l m n o a b c e d f g h i j:Int):St:=⟨sp 53 [(0,(WZ l m n o)),(1,(zcg a b c e d)),(2,(zch f g h i j)),(4,.ref 0 0),(5,.ref 1 0),(6,.ref 2 0),(7,sZ),(8,.ref 3 0),(9,aI 0),(10,aI 0),(11,(WZ l m n o)),(12,sZ),(13,sZ),(14,aI 0),(15,aT),(16,aI 0),(17,sZ),(18,aI 0),(19,aT),(20,aI 0),(21,aI 0),(22,aI 0),(23,aI 0),(24,aI 0),(25,aI 0),(26,aI 0),(27,.ref 3 0),(28,.agg [aF,aN]),(29,aI 0),(30,.ref 0 0),(31,.ref 0 0),(32,.agg [aD a,.wd a]),(33,aI 0),(34,.ref 1 0),(35,.ref 1 0),(36,.agg [aD f,.wd f]),(37,.agg [.lit (.bool (decide (a*f<0))),.wd (a*f)]),(38,.agg [.lit (.bool (decide (0+a*f<0))),.wd (0+a*f)]),(39,.ref 3 0)],[(zce a b c e d),(zcf f g h i j),zci,.flat [.lit (.bool (decide (0+a*f<0))),.wd (0+a*f),aF,aN,aF,aN,aF,aN,aF,aN,aF,aN,aF,aN] true],[3]⟩
abbrev tmc_0_s1 (l m n o a b c e d f g h i j:Int):St:=⟨sp 53 [(0,(WZ l m n o)),(1,(zcg a b c e d)),(2,(zch f g h i j)),(4,.ref 0 0),(5,.ref 1 0),(6,.ref 2 0),(7,sZ),(8,.ref 3 0),(9,aI 0),(10,aI 1),(11,(WZ l m n o)),(12,sZ),(13,sZ),(14,aI 0),(15,aT),(16,aI 0),(17,sZ),(18,aI 1),(19,aT),(20,aI 1),(21,aI 0),(22,aI 1),(23,aI 1),(24,aI 0),(25,aI 1),(26,aI 1),(27,.ref 3 2),(28,.agg [aF,aN]),(29,aI 0),(30,.ref 0 0),(31,.ref 0 0),(32,.agg [aD a,.wd a]),(33,aI 1),(34,.ref 1 0),(35,.ref 1 2),(36,.agg [aD g,.wd g]),(37,.agg [.lit (.bool (decide (a*g<0))),.wd (a*g)]),(38,.agg [.lit (.bool (decide (0+a*g<0))),.wd (0+a*g)]),(39,.ref 3 2),(40,aI 1)],[(zce a b c e d),(zcf f g h i j),zci,.flat [.lit (.bool (decide (0+a*f<0))),.wd (0+a*f),.lit (.bool (decide (0+a*g<0))),.wd (0+a*g),aF,aN,aF,aN,aF,aN,aF,aN,aF,aN] true],[3,3]⟩
abbrev tmc_0_s2 (l m n o a b c e d f g h i j:Int):St:=⟨sp 53 [(0,(WZ l m n o)),(1,(zcg a b c e d)),(2,(zch f g h i j)),(4,.ref 0 0),(5,.ref 1 0),(6,.ref 2 0),(7,sZ),(8,.ref 3 0),(9,aI 0),(10,aI 2),(11,(WZ l m n o)),(12,sZ),(13,sZ),(14,aI 0),(15,aT),(16,aI 0),(17,sZ),(18,aI 2),(19,aT),(20,aI 2),(21,aI 0),(22,aI 2),(23,aI 2),(24,aI 0),(25,aI 2),(26,aI 2),(27,.ref 3 4),(28,.agg [aF,aN]),(29,aI 0),(30,.ref 0 0),(31,.ref 0 0),(32,.agg [aD a,.wd a]),(33,aI 2),(34,.ref 1 0),(35,.ref 1 4),(36,.agg [aD h,.wd h]),(37,.agg [.lit (.bool (decide (a*h<0))),.wd (a*h)]),(38,.agg [.lit (.bool (decide (0+a*h<0))),.wd (0+a*h)]),(39,.ref 3 4),(40,aI 2)],[(zce a b c e d),(zcf f g h i j),zci,.flat [.lit (.bool (decide (0+a*f<0))),.wd (0+a*f),.lit (.bool (decide (0+a*g<0))),.wd (0+a*g),.lit (.bool (decide (0+a*h<0))),.wd (0+a*h),aF,aN,aF,aN,aF,aN,aF,aN] true],[3,3,3]⟩
abbrev tmc_0_s3 (l m n o a b c e d f g h i j:Int):St:=⟨sp 53 [(0,(WZ l m n o)),(1,(zcg a b c e d)),(2,(zch f g h i j)),(4,.ref 0 0),(5,.ref 1 0),(6,.ref 2 0),(7,sZ),(8,.ref 3 0),(9,aI 1),(10,aI 0),(11,(WZ l m n o)),(12,sZ),(13,sZ),(14,aI 1),(15,aT),(16,aI 1),(17,sZ),(18,aI 0),(19,aT),(20,aI 0),(21,aI 1),(22,aI 0),(23,aI 1),(24,aI 1),(25,aI 0),(26,aI 1),(27,.ref 3 2),(28,.agg [.lit (.bool (decide (0+a*g<0))),.wd (0+a*g)]),(29,aI 1),(30,.ref 0 0),(31,.ref 0 2),(32,.agg [aD b,.wd b]),(33,aI 0),(34,.ref 1 0),(35,.ref 1 0),(36,.agg [aD f,.wd f]),(37,.agg [.lit (.bool (decide (b*f<0))),.wd (b*f)]),(38,.agg [.lit (.bool (decide (0+a*g+b*f<0))),.wd (0+a*g+b*f)]),(39,.ref 3 2),(40,aI 3),(41,aI 1)],[(zce a b c e d),(zcf f g h i j),zci,.flat [.lit (.bool (decide (0+a*f<0))),.wd (0+a*f),.lit (.bool (decide (0+a*g+b*f<0))),.wd (0+a*g+b*f),.lit (.bool (decide (0+a*h<0))),.wd (0+a*h),aF,aN,aF,aN,aF,aN,aF,aN] true],[3,3,3,3]⟩
abbrev tmc_0_s4 (l m n o a b c e d f g h i j:Int):St:=⟨sp 53 [(0,(WZ l m n o)),(1,(zcg a b c e d)),(2,(zch f g h i j)),(4,.ref 0 0),(5,.ref 1 0),(6,.ref 2 0),(7,sZ),(8,.ref 3 0),(9,aI 1),(10,aI 1),(11,(WZ l m n o)),(12,sZ),(13,sZ),(14,aI 1),(15,aT),(16,aI 1),(17,sZ),(18,aI 1),(19,aT),(20,aI 1),(21,aI 1),(22,aI 1),(23,aI 2),(24,aI 1),(25,aI 1),(26,aI 2),(27,.ref 3 4),(28,.agg [.lit (.bool (decide (0+a*h<0))),.wd (0+a*h)]),(29,aI 1),(30,.ref 0 0),(31,.ref 0 2),(32,.agg [aD b,.wd b]),(33,aI 1),(34,.ref 1 0),(35,.ref 1 2),(36,.agg [aD g,.wd g]),(37,.agg [.lit (.bool (decide (b*g<0))),.wd (b*g)]),(38,.agg [.lit (.bool (decide (0+a*h+b*g<0))),.wd (0+a*h+b*g)]),(39,.ref 3 4),(40,aI 1),(41,aI 1)],[(zce a b c e d),(zcf f g h i j),zci,.flat [.lit (.bool (decide (0+a*f<0))),.wd (0+a*f),.lit (.bool (decide (0+a*g+b*f<0))),.wd (0+a*g+b*f),.lit (.bool (decide (0+a*h+b*g<0))),.wd (0+a*h+b*g),aF,aN,aF,aN,aF,aN,aF,aN] true],[3,3,3,3,3]⟩
abbrev tmc_0_s5 (l m n o a b c e d f g h i j:Int):St:=⟨sp 53 [(0,(WZ l m n o)),(1,(zcg a b c e d)),(2,(zch f g h i j)),(4,.ref 0 0),(5,.ref 1 0),(6,.ref 2 0),(7,sZ),(8,.ref 3 0),(9,aI 1),(10,aI 2),(11,(WZ l m n o)),(12,sZ),(13,sZ),(14,aI 1),(15,aT),(16,aI 1),(17,sZ),(18,aI 2),(19,aT),(20,aI 2),(21,aI 1),(22,aI 2),(23,aI 3),(24,aI 1),(25,aI 2),(26,aI 3),(27,.ref 3 6),(28,.agg [aF,aN]),(29,aI 1),(30,.ref 0 0),(31,.ref 0 2),(32,.agg [aD b,.wd b]),(33,aI 2),(34,.ref 1 0),(35,.ref 1 4),(36,.agg [aD h,.wd h]),(37,.agg [.lit (.bool (decide (b*h<0))),.wd (b*h)]),(38,.agg [.lit (.bool (decide (0+b*h<0))),.wd (0+b*h)]),(39,.ref 3 6),(40,aI 2),(41,aI 1)],[(zce a b c e d),(zcf f g h i j),zci,.flat [.lit (.bool (decide (0+a*f<0))),.wd (0+a*f),.lit (.bool (decide (0+a*g+b*f<0))),.wd (0+a*g+b*f),.lit (.bool (decide (0+a*h+b*g<0))),.wd (0+a*h+b*g),.lit (.bool (decide (0+b*h<0))),.wd (0+b*h),aF,aN,aF,aN,aF,aN] true],[3,3,3,3,3,3]⟩
abbrev tmc_0_s6 (l m n o a b c e d f g h i j:Int):St:=⟨sp 53 [(0,(WZ l m n o)),(1,(zcg a b c e d)),(2,(zch f g h i j)),(4,.ref 0 0),(5,.ref 1 0),(6,.ref 2 0),(7,sZ),(8,.ref 3 0),(9,aI 2),(10,aI 0),(11,(WZ l m n o)),(12,sZ),(13,sZ),(14,aI 2),(15,aT),(16,aI 2),(17,sZ),(18,aI 0),(19,aT),(20,aI 0),(21,aI 2),(22,aI 0),(23,aI 2),(24,aI 2),(25,aI 0),(26,aI 2),(27,.ref 3 4),(28,.agg [.lit (.bool (decide (0+a*h+b*g<0))),.wd (0+a*h+b*g)]),(29,aI 2),(30,.ref 0 0),(31,.ref 0 4),(32,.agg [aD c,.wd c]),(33,aI 0),(34,.ref 1 0),(35,.ref 1 0),(36,.agg [aD f,.wd f]),(37,.agg [.lit (.bool (decide (c*f<0))),.wd (c*f)]),(38,.agg [.lit (.bool (decide (0+a*h+b*g+c*f<0))),.wd (0+a*h+b*g+c*f)]),(39,.ref 3 4),(40,aI 3),(41,aI 2)],[(zce a b c e d),(zcf f g h i j),zci,.flat [.lit (.bool (decide (0+a*f<0))),.wd (0+a*f),.lit (.bool (decide (0+a*g+b*f<0))),.wd (0+a*g+b*f),.lit (.bool (decide (0+a*h+b*g+c*f<0))),.wd (0+a*h+b*g+c*f),.lit (.bool (decide (0+b*h<0))),.wd (0+b*h),aF,aN,aF,aN,aF,aN] true],[3,3,3,3,3,3,3]⟩
abbrev tmc_0_s7 (l m n o a b c e d f g h i j:Int):St:=⟨sp 53 [(0,(WZ l m n o)),(1,(zcg a b c e d)),(2,(zch f g h i j)),(4,.ref 0 0),(5,.ref 1 0),(6,.ref 2 0),(7,sZ),(8,.ref 3 0),(9,aI 2),(10,aI 1),(11,(WZ l m n o)),(12,sZ),(13,sZ),(14,aI 2),(15,aT),(16,aI 2),(17,sZ),(18,aI 1),(19,aT),(20,aI 1),(21,aI 2),(22,aI 1),(23,aI 3),(24,aI 2),(25,aI 1),(26,aI 3),(27,.ref 3 6),(28,.agg [.lit (.bool (decide (0+b*h<0))),.wd (0+b*h)]),(29,aI 2),(30,.ref 0 0),(31,.ref 0 4),(32,.agg [aD c,.wd c]),(33,aI 1),(34,.ref 1 0),(35,.ref 1 2),(36,.agg [aD g,.wd g]),(37,.agg [.lit (.bool (decide (c*g<0))),.wd (c*g)]),(38,.agg [.lit (.bool (decide (0+b*h+c*g<0))),.wd (0+b*h+c*g)]),(39,.ref 3 6),(40,aI 1),(41,aI 2)],[(zce a b c e d),(zcf f g h i j),zci,.flat [.lit (.bool (decide (0+a*f<0))),.wd (0+a*f),.lit (.bool (decide (0+a*g+b*f<0))),.wd (0+a*g+b*f),.lit (.bool (decide (0+a*h+b*g+c*f<0))),.wd (0+a*h+b*g+c*f),.lit (.bool (decide (0+b*h+c*g<0))),.wd (0+b*h+c*g),aF,aN,aF,aN,aF,aN] true],[3,3,3,3,3,3,3,3]⟩
abbrev tmc_0_s8 (l m n o a b c e d f g h i j:Int):St:=⟨sp 53 [(0,(WZ l m n o)),(1,(zcg a b c e d)),(2,(zch f g h i j)),(4,.ref 0 0),(5,.ref 1 0),(6,.ref 2 0),(7,sZ),(8,.ref 3 0),(9,aI 2),(10,aI 2),(11,(WZ l m n o)),(12,sZ),(13,sZ),(14,aI 2),(15,aT),(16,aI 2),(17,sZ),(18,aI 2),(19,aT),(20,aI 2),(21,aI 2),(22,aI 2),(23,aI 4),(24,aI 2),(25,aI 2),(26,aI 4),(27,.ref 3 8),(28,.agg [aF,aN]),(29,aI 2),(30,.ref 0 0),(31,.ref 0 4),(32,.agg [aD c,.wd c]),(33,aI 2),(34,.ref 1 0),(35,.ref 1 4),(36,.agg [aD h,.wd h]),(37,.agg [.lit (.bool (decide (c*h<0))),.wd (c*h)]),(38,.agg [.lit (.bool (decide (0+c*h<0))),.wd (0+c*h)]),(39,.ref 3 8),(40,aI 2),(41,aI 2)],[(zce a b c e d),(zcf f g h i j),zci,.flat [.lit (.bool (decide (0+a*f<0))),.wd (0+a*f),.lit (.bool (decide (0+a*g+b*f<0))),.wd (0+a*g+b*f),.lit (.bool (decide (0+a*h+b*g+c*f<0))),.wd (0+a*h+b*g+c*f),.lit (.bool (decide (0+b*h+c*g<0))),.wd (0+b*h+c*g),.lit (.bool (decide (0+c*h<0))),.wd (0+c*h),aF,aN,aF,aN] true],[3,3,3,3,3,3,3,3,3]⟩
theorem tmc_0 (l m n p a b c e d f g h i j:Int) (h1:r64 ((3:Int))) (h2:pDD a f) (h3:pDD 0 (a*f)) (h4:pDD a g) (h5:pDD 0 (a*g)) (h6:pDD a h) (h7:pDD 0 (a*h)) (h8:pDD b f) (h9:pDD (0+a*g) (b*f)) (h10:pDD b g) (h11:pDD (0+a*h) (b*g)) (h12:pDD b h) (h13:pDD 0 (b*h)) (h14:pDD c f) (h15:pDD (0+a*h+b*g) (c*f)) (h16:pDD c g) (h17:pDD (0+b*h) (c*g)) (h18:pDD c h) (h19:pDD 0 (c*h)) (h20:r64 (2*((3:Int)))) (h21:r64 (2*((3:Int))-1)) (h22:0≤2*((3:Int))-1) (h23:2*((3:Int))-1≤7) (h24:pDD d j) (h25:znG [l,m,n,p] [0+a*f,0+a*g+b*f,0+a*h+b*g+c*f,0+b*h+c*g,0+c*h] (d*j)):FC Tryz.prog 84 [reA (.lst .whole [l,m,n,p]),nuA a b c e d,nuA f g h i j] (nuF (zat [l,m,n,p] (List.length [l,m,n,p]-1) [0+a*f,0+a*g+b*f,0+a*h+b*g+c*f,0+b*h+c*g,0+c*h]) (d*j)):=eZ zl8 60 [] (.i h1<|.c h2<|.c h3<|.s (tmc_0_s0 l m n p a b c e d f g h i j)<|.c h4<|.c h5<|.s (tmc_0_s1 l m n p a b c e d f g h i j)<|.c h6<|.c h7<|.s (tmc_0_s2 l m n p a b c e d f g h i j)<|.c h8<|.c h9<|.s (tmc_0_s3 l m n p a b c e d f g h i j)<|.c h10<|.c h11<|.s (tmc_0_s4 l m n p a b c e d f g h i j)<|.c h12<|.c h13<|.s (tmc_0_s5 l m n p a b c e d f g h i j)<|.c h14<|.c h15<|.s (tmc_0_s6 l m n p a b c e d f g h i j)<|.c h16<|.c h17<|.s (tmc_0_s7 l m n p a b c e d f g h i j)<|.c h18<|.c h19<|.s (tmc_0_s8 l m n p a b c e d f g h i j)<|.i h20<|.i h21<|.t h22<|.t h23<|.c h24<|.c h25<|.o<|.o<|.o<|.o<|.e) [1,0,0,0,0,0,0,0,0,0,0,2,0,0,3,0,0,0,0,2,0,0,3,0,0,4,0,0,0,0,0,0,0,0,0,0,0,5,0,0,6,0,0,0,0,5,0,0,6,0,0,7,0,0,0,0,0,0,0,0,0,0,0,8,0,0,9,0,0,0,0,8,0,0,9,0,0,10,0,0,0,0,0,0,0,0,0,0,0,0,11,0,0,12,0,0,0,0,11,0,0,12,0,0,13,0,0,0,0,0,0,0,0,0,0,0,14,0,0,15,0,0,0,0,14,0,0,15,0,0,16,0,0,0,0,0,0,0,0,0,0,0,17,0,0,18,0,0,0,0,17,0,0,18,0,0,19,0,0,0,0,0,0,0,0,0,0,0,0,20,0,0,21,0,0,0,0,20,0,0,21,0,0,22,0,0,0,0,0,0,0,0,0,0,0,23,0,0,24,0,0,0,0,23,0,0,24,0,0,25,0,0,0,0,0,0,0,0,0,0,0,26,0,0,27,0,0,0,0,26,0,0,27,0,0,28,0,0,29,30,0,31,32,0,0,33,0,0,0,0,0,0,34]
abbrev xZ (l:Int) (m:Int) (n:Int) (o:Int) (p:Int):AV:=.pd [aJ,aJ,aJ,aJ,.lst EK.whole [l,m,n,o,p],aJ,aJ,aJ,aJ,aJ,aJ,aJ] 0
abbrev zal (a:Int) (b:Int) (c:Int) (e:Int) (d:Int):Row:=.flat [aD a,.wd a,aD b,.wd b,aD c,.wd c,aD e,.wd e,aD d,.wd d] true
abbrev zam (f:Int) (g:Int) (h:Int) (i:Int) (j:Int):Row:=.flat [aD f,.wd f,aD g,.wd g,aD h,.wd h,aD i,.wd i,aD j,.wd j] true
abbrev zan (a:Int) (b:Int) (c:Int) (e:Int) (d:Int):AV:=.agg [aD a,.wd a,aD b,.wd b,aD c,.wd c,aD e,.wd e,aD d,.wd d]
abbrev zao (f:Int) (g:Int) (h:Int) (i:Int) (j:Int):AV:=.agg [aD f,.wd f,aD g,.wd g,aD h,.wd h,aD i,.wd i,aD j,.wd j]
abbrev gZ:AV:=aI ((4:Int))
abbrev zap:Row:=.flat [aF,aN,aF,aN,aF,aN,aF,aN,aF,aN] true
abbrev tmd_0_s0 (l m n o p a b c e d f g h i j:Int):St:=⟨sp 53 [(0,(xZ l m n o p)),(1,(zan a b c e d)),(2,(zao f g h i j)),(4,.ref 0 0),(5,.ref 1 0),(6,.ref 2 0),(7,gZ),(8,.ref 3 0),(9,aI 0),(10,aI 0),(11,(xZ l m n o p)),(12,gZ),(13,gZ),(14,aI 0),(15,aT),(16,aI 0),(17,gZ),(18,aI 0),(19,aT),(20,aI 0),(21,aI 0),(22,aI 0),(23,aI 0),(24,aI 0),(25,aI 0),(26,aI 0),(27,.ref 3 0),(28,.agg [aF,aN]),(29,aI 0),(30,.ref 0 0),(31,.ref 0 0),(32,.agg [aD a,.wd a]),(33,aI 0),(34,.ref 1 0),(35,.ref 1 0),(36,.agg [aD f,.wd f]),(37,.agg [.lit (.bool (decide (a*f<0))),.wd (a*f)]),(38,.agg [.lit (.bool (decide (0+a*f<0))),.wd (0+a*f)]),(39,.ref 3 0)],[(zal a b c e d),(zam f g h i j),zap,.flat [.lit (.bool (decide (0+a*f<0))),.wd (0+a*f),aF,aN,aF,aN,aF,aN,aF,aN,aF,aN,aF,aN] true],[3]⟩
abbrev tmd_0_s1 (l m n o p a b c e d f g h i j:Int):St:=⟨sp 53 [(0,(xZ l m n o p)),(1,(zan a b c e d)),(2,(zao f g h i j)),(4,.ref 0 0),(5,.ref 1 0),(6,.ref 2 0),(7,gZ),(8,.ref 3 0),(9,aI 0),(10,aI 1),(11,(xZ l m n o p)),(12,gZ),(13,gZ),(14,aI 0),(15,aT),(16,aI 0),(17,gZ),(18,aI 1),(19,aT),(20,aI 1),(21,aI 0),(22,aI 1),(23,aI 1),(24,aI 0),(25,aI 1),(26,aI 1),(27,.ref 3 2),(28,.agg [aF,aN]),(29,aI 0),(30,.ref 0 0),(31,.ref 0 0),(32,.agg [aD a,.wd a]),(33,aI 1),(34,.ref 1 0),(35,.ref 1 2),(36,.agg [aD g,.wd g]),(37,.agg [.lit (.bool (decide (a*g<0))),.wd (a*g)]),(38,.agg [.lit (.bool (decide (0+a*g<0))),.wd (0+a*g)]),(39,.ref 3 2),(40,aI 1)],[(zal a b c e d),(zam f g h i j),zap,.flat [.lit (.bool (decide (0+a*f<0))),.wd (0+a*f),.lit (.bool (decide (0+a*g<0))),.wd (0+a*g),aF,aN,aF,aN,aF,aN,aF,aN,aF,aN] true],[3,3]⟩
abbrev tmd_0_s2 (l m n o p a b c e d f g h i j:Int):St:=⟨sp 53 [(0,(xZ l m n o p)),(1,(zan a b c e d)),(2,(zao f g h i j)),(4,.ref 0 0),(5,.ref 1 0),(6,.ref 2 0),(7,gZ),(8,.ref 3 0),(9,aI 0),(10,aI 2),(11,(xZ l m n o p)),(12,gZ),(13,gZ),(14,aI 0),(15,aT),(16,aI 0),(17,gZ),(18,aI 2),(19,aT),(20,aI 2),(21,aI 0),(22,aI 2),(23,aI 2),(24,aI 0),(25,aI 2),(26,aI 2),(27,.ref 3 4),(28,.agg [aF,aN]),(29,aI 0),(30,.ref 0 0),(31,.ref 0 0),(32,.agg [aD a,.wd a]),(33,aI 2),(34,.ref 1 0),(35,.ref 1 4),(36,.agg [aD h,.wd h]),(37,.agg [.lit (.bool (decide (a*h<0))),.wd (a*h)]),(38,.agg [.lit (.bool (decide (0+a*h<0))),.wd (0+a*h)]),(39,.ref 3 4),(40,aI 2)],[(zal a b c e d),(zam f g h i j),zap,.flat [.lit (.bool (decide (0+a*f<0))),.wd (0+a*f),.lit (.bool (decide (0+a*g<0))),.wd (0+a*g),.lit (.bool (decide (0+a*h<0))),.wd (0+a*h),aF,aN,aF,aN,aF,aN,aF,aN] true],[3,3,3]⟩
abbrev tmd_0_s3 (l m n o p a b c e d f g h i j:Int):St:=⟨sp 53 [(0,(xZ l m n o p)),(1,(zan a b c e d)),(2,(zao f g h i j)),(4,.ref 0 0),(5,.ref 1 0),(6,.ref 2 0),(7,gZ),(8,.ref 3 0),(9,aI 0),(10,aI 3),(11,(xZ l m n o p)),(12,gZ),(13,gZ),(14,aI 0),(15,aT),(16,aI 0),(17,gZ),(18,aI 3),(19,aT),(20,aI 3),(21,aI 0),(22,aI 3),(23,aI 3),(24,aI 0),(25,aI 3),(26,aI 3),(27,.ref 3 6),(28,.agg [aF,aN]),(29,aI 0),(30,.ref 0 0),(31,.ref 0 0),(32,.agg [aD a,.wd a]),(33,aI 3),(34,.ref 1 0),(35,.ref 1 6),(36,.agg [aD i,.wd i]),(37,.agg [.lit (.bool (decide (a*i<0))),.wd (a*i)]),(38,.agg [.lit (.bool (decide (0+a*i<0))),.wd (0+a*i)]),(39,.ref 3 6),(40,aI 3)],[(zal a b c e d),(zam f g h i j),zap,.flat [.lit (.bool (decide (0+a*f<0))),.wd (0+a*f),.lit (.bool (decide (0+a*g<0))),.wd (0+a*g),.lit (.bool (decide (0+a*h<0))),.wd (0+a*h),.lit (.bool (decide (0+a*i<0))),.wd (0+a*i),aF,aN,aF,aN,aF,aN] true],[3,3,3,3]⟩
abbrev tmd_0_s4 (l m n o p a b c e d f g h i j:Int):St:=⟨sp 53 [(0,(xZ l m n o p)),(1,(zan a b c e d)),(2,(zao f g h i j)),(4,.ref 0 0),(5,.ref 1 0),(6,.ref 2 0),(7,gZ),(8,.ref 3 0),(9,aI 1),(10,aI 0),(11,(xZ l m n o p)),(12,gZ),(13,gZ),(14,aI 1),(15,aT),(16,aI 1),(17,gZ),(18,aI 0),(19,aT),(20,aI 0),(21,aI 1),(22,aI 0),(23,aI 1),(24,aI 1),(25,aI 0),(26,aI 1),(27,.ref 3 2),(28,.agg [.lit (.bool (decide (0+a*g<0))),.wd (0+a*g)]),(29,aI 1),(30,.ref 0 0),(31,.ref 0 2),(32,.agg [aD b,.wd b]),(33,aI 0),(34,.ref 1 0),(35,.ref 1 0),(36,.agg [aD f,.wd f]),(37,.agg [.lit (.bool (decide (b*f<0))),.wd (b*f)]),(38,.agg [.lit (.bool (decide (0+a*g+b*f<0))),.wd (0+a*g+b*f)]),(39,.ref 3 2),(40,aI 4),(41,aI 1)],[(zal a b c e d),(zam f g h i j),zap,.flat [.lit (.bool (decide (0+a*f<0))),.wd (0+a*f),.lit (.bool (decide (0+a*g+b*f<0))),.wd (0+a*g+b*f),.lit (.bool (decide (0+a*h<0))),.wd (0+a*h),.lit (.bool (decide (0+a*i<0))),.wd (0+a*i),aF,aN,aF,aN,aF,aN] true],[3,3,3,3,3]⟩
abbrev tmd_0_s5 (l m n o p a b c e d f g h i j:Int):St:=⟨sp 53 [(0,(xZ l m n o p)),(1,(zan a b c e d)),(2,(zao f g h i j)),(4,.ref 0 0),(5,.ref 1 0),(6,.ref 2 0),(7,gZ),(8,.ref 3 0),(9,aI 1),(10,aI 1),(11,(xZ l m n o p)),(12,gZ),(13,gZ),(14,aI 1),(15,aT),(16,aI 1),(17,gZ),(18,aI 1),(19,aT),(20,aI 1),(21,aI 1),(22,aI 1),(23,aI 2),(24,aI 1),(25,aI 1),(26,aI 2),(27,.ref 3 4),(28,.agg [.lit (.bool (decide (0+a*h<0))),.wd (0+a*h)]),(29,aI 1),(30,.ref 0 0),(31,.ref 0 2),(32,.agg [aD b,.wd b]),(33,aI 1),(34,.ref 1 0),(35,.ref 1 2),(36,.agg [aD g,.wd g]),(37,.agg [.lit (.bool (decide (b*g<0))),.wd (b*g)]),(38,.agg [.lit (.bool (decide (0+a*h+b*g<0))),.wd (0+a*h+b*g)]),(39,.ref 3 4),(40,aI 1),(41,aI 1)],[(zal a b c e d),(zam f g h i j),zap,.flat [.lit (.bool (decide (0+a*f<0))),.wd (0+a*f),.lit (.bool (decide (0+a*g+b*f<0))),.wd (0+a*g+b*f),.lit (.bool (decide (0+a*h+b*g<0))),.wd (0+a*h+b*g),.lit (.bool (decide (0+a*i<0))),.wd (0+a*i),aF,aN,aF,aN,aF,aN] true],[3,3,3,3,3,3]⟩
abbrev tmd_0_s6 (l m n o p a b c e d f g h i j:Int):St:=⟨sp 53 [(0,(xZ l m n o p)),(1,(zan a b c e d)),(2,(zao f g h i j)),(4,.ref 0 0),(5,.ref 1 0),(6,.ref 2 0),(7,gZ),(8,.ref 3 0),(9,aI 1),(10,aI 2),(11,(xZ l m n o p)),(12,gZ),(13,gZ),(14,aI 1),(15,aT),(16,aI 1),(17,gZ),(18,aI 2),(19,aT),(20,aI 2),(21,aI 1),(22,aI 2),(23,aI 3),(24,aI 1),(25,aI 2),(26,aI 3),(27,.ref 3 6),(28,.agg [.lit (.bool (decide (0+a*i<0))),.wd (0+a*i)]),(29,aI 1),(30,.ref 0 0),(31,.ref 0 2),(32,.agg [aD b,.wd b]),(33,aI 2),(34,.ref 1 0),(35,.ref 1 4),(36,.agg [aD h,.wd h]),(37,.agg [.lit (.bool (decide (b*h<0))),.wd (b*h)]),(38,.agg [.lit (.bool (decide (0+a*i+b*h<0))),.wd (0+a*i+b*h)]),(39,.ref 3 6),(40,aI 2),(41,aI 1)],[(zal a b c e d),(zam f g h i j),zap,.flat [.lit (.bool (decide (0+a*f<0))),.wd (0+a*f),.lit (.bool (decide (0+a*g+b*f<0))),.wd (0+a*g+b*f),.lit (.bool (decide (0+a*h+b*g<0))),.wd (0+a*h+b*g),.lit (.bool (decide (0+a*i+b*h<0))),.wd (0+a*i+b*h),aF,aN,aF,aN,aF,aN] true],[3,3,3,3,3,3,3]⟩
abbrev tmd_0_s7 (l m n o p a b c e d f g h i j:Int):St:=⟨sp 53 [(0,(xZ l m n o p)),(1,(zan a b c e d)),(2,(zao f g h i j)),(4,.ref 0 0),(5,.ref 1 0),(6,.ref 2 0),(7,gZ),(8,.ref 3 0),(9,aI 1),(10,aI 3),(11,(xZ l m n o p)),(12,gZ),(13,gZ),(14,aI 1),(15,aT),(16,aI 1),(17,gZ),(18,aI 3),(19,aT),(20,aI 3),(21,aI 1),(22,aI 3),(23,aI 4),(24,aI 1),(25,aI 3),(26,aI 4),(27,.ref 3 8),(28,.agg [aF,aN]),(29,aI 1),(30,.ref 0 0),(31,.ref 0 2),(32,.agg [aD b,.wd b]),(33,aI 3),(34,.ref 1 0),(35,.ref 1 6),(36,.agg [aD i,.wd i]),(37,.agg [.lit (.bool (decide (b*i<0))),.wd (b*i)]),(38,.agg [.lit (.bool (decide (0+b*i<0))),.wd (0+b*i)]),(39,.ref 3 8),(40,aI 3),(41,aI 1)],[(zal a b c e d),(zam f g h i j),zap,.flat [.lit (.bool (decide (0+a*f<0))),.wd (0+a*f),.lit (.bool (decide (0+a*g+b*f<0))),.wd (0+a*g+b*f),.lit (.bool (decide (0+a*h+b*g<0))),.wd (0+a*h+b*g),.lit (.bool (decide (0+a*i+b*h<0))),.wd (0+a*i+b*h),.lit (.bool (decide (0+b*i<0))),.wd (0+b*i),aF,aN,aF,aN] true],[3,3,3,3,3,3,3,3]⟩
abbrev tmd_0_s8 (l m n o p a b c e d f g h i j:Int):St:=⟨sp 53 [(0,(xZ l m n o p)),(1,(zan a b c e d)),(2,(zao f g h i j)),(4,.ref 0 0),(5,.ref 1 0),(6,.ref 2 0),(7,gZ),(8,.ref 3 0),(9,aI 2),(10,aI 0),(11,(xZ l m n o p)),(12,gZ),(13,gZ),(14,aI 2),(15,aT),(16,aI 2),(17,gZ),(18,aI 0),(19,aT),(20,aI 0),(21,aI 2),(22,aI 0),(23,aI 2),(24,aI 2),(25,aI 0),(26,aI 2),(27,.ref 3 4),(28,.agg [.lit (.bool (decide (0+a*h+b*g<0))),.wd (0+a*h+b*g)]),(29,aI 2),(30,.ref 0 0),(31,.ref 0 4),(32,.agg [aD c,.wd c]),(33,aI 0),(34,.ref 1 0),(35,.ref 1 0),(36,.agg [aD f,.wd f]),(37,.agg [.lit (.bool (decide (c*f<0))),.wd (c*f)]),(38,.agg [.lit (.bool (decide (0+a*h+b*g+c*f<0))),.wd (0+a*h+b*g+c*f)]),(39,.ref 3 4),(40,aI 4),(41,aI 2)],[(zal a b c e d),(zam f g h i j),zap,.flat [.lit (.bool (decide (0+a*f<0))),.wd (0+a*f),.lit (.bool (decide (0+a*g+b*f<0))),.wd (0+a*g+b*f),.lit (.bool (decide (0+a*h+b*g+c*f<0))),.wd (0+a*h+b*g+c*f),.lit (.bool (decide (0+a*i+b*h<0))),.wd (0+a*i+b*h),.lit (.bool (decide (0+b*i<0))),.wd (0+b*i),aF,aN,aF,aN] true],[3,3,3,3,3,3,3,3,3]⟩
abbrev tmd_0_s9 (l m n o p a b c e d f g h i j:Int):St:=⟨sp 53 [(0,(xZ l m n o p)),(1,(zan a b c e d)),(2,(zao f g h i j)),(4,.ref 0 0),(5,.ref 1 0),(6,.ref 2 0),(7,gZ),(8,.ref 3 0),(9,aI 2),(10,aI 1),(11,(xZ l m n o p)),(12,gZ),(13,gZ),(14,aI 2),(15,aT),(16,aI 2),(17,gZ),(18,aI 1),(19,aT),(20,aI 1),(21,aI 2),(22,aI 1),(23,aI 3),(24,aI 2),(25,aI 1),(26,aI 3),(27,.ref 3 6),(28,.agg [.lit (.bool (decide (0+a*i+b*h<0))),.wd (0+a*i+b*h)]),(29,aI 2),(30,.ref 0 0),(31,.ref 0 4),(32,.agg [aD c,.wd c]),(33,aI 1),(34,.ref 1 0),(35,.ref 1 2),(36,.agg [aD g,.wd g]),(37,.agg [.lit (.bool (decide (c*g<0))),.wd (c*g)]),(38,.agg [.lit (.bool (decide (0+a*i+b*h+c*g<0))),.wd (0+a*i+b*h+c*g)]),(39,.ref 3 6),(40,aI 1),(41,aI 2)],[(zal a b c e d),(zam f g h i j),zap,.flat [.lit (.bool (decide (0+a*f<0))),.wd (0+a*f),.lit (.bool (decide (0+a*g+b*f<0))),.wd (0+a*g+b*f),.lit (.bool (decide (0+a*h+b*g+c*f<0))),.wd (0+a*h+b*g+c*f),.lit (.bool (decide (0+a*i+b*h+c*g<0))),.wd (0+a*i+b*h+c*g),.lit (.bool (decide (0+b*i<0))),.wd (0+b*i),aF,aN,aF,aN] true],[3,3,3,3,3,3,3,3,3,3]⟩
abbrev tmd_0_s10 (l m n o p a b c e d f g h i j:Int):St:=⟨sp 53 [(0,(xZ l m n o p)),(1,(zan a b c e d)),(2,(zao f g h i j)),(4,.ref 0 0),(5,.ref 1 0),(6,.ref 2 0),(7,gZ),(8,.ref 3 0),(9,aI 2),(10,aI 2),(11,(xZ l m n o p)),(12,gZ),(13,gZ),(14,aI 2),(15,aT),(16,aI 2),(17,gZ),(18,aI 2),(19,aT),(20,aI 2),(21,aI 2),(22,aI 2),(23,aI 4),(24,aI 2),(25,aI 2),(26,aI 4),(27,.ref 3 8),(28,.agg [.lit (.bool (decide (0+b*i<0))),.wd (0+b*i)]),(29,aI 2),(30,.ref 0 0),(31,.ref 0 4),(32,.agg [aD c,.wd c]),(33,aI 2),(34,.ref 1 0),(35,.ref 1 4),(36,.agg [aD h,.wd h]),(37,.agg [.lit (.bool (decide (c*h<0))),.wd (c*h)]),(38,.agg [.lit (.bool (decide (0+b*i+c*h<0))),.wd (0+b*i+c*h)]),(39,.ref 3 8),(40,aI 2),(41,aI 2)],[(zal a b c e d),(zam f g h i j),zap,.flat [.lit (.bool (decide (0+a*f<0))),.wd (0+a*f),.lit (.bool (decide (0+a*g+b*f<0))),.wd (0+a*g+b*f),.lit (.bool (decide (0+a*h+b*g+c*f<0))),.wd (0+a*h+b*g+c*f),.lit (.bool (decide (0+a*i+b*h+c*g<0))),.wd (0+a*i+b*h+c*g),.lit (.bool (decide (0+b*i+c*h<0))),.wd (0+b*i+c*h),aF,aN,aF,aN] true],[3,3,3,3,3,3,3,3,3,3,3]⟩
abbrev tmd_0_s11 (l m n o p a b c e d f g h i j:Int):St:=⟨sp 53 [(0,(xZ l m n o p)),(1,(zan a b c e d)),(2,(zao f g h i j)),(4,.ref 0 0),(5,.ref 1 0),(6,.ref 2 0),(7,gZ),(8,.ref 3 0),(9,aI 2),(10,aI 3),(11,(xZ l m n o p)),(12,gZ),(13,gZ),(14,aI 2),(15,aT),(16,aI 2),(17,gZ),(18,aI 3),(19,aT),(20,aI 3),(21,aI 2),(22,aI 3),(23,aI 5),(24,aI 2),(25,aI 3),(26,aI 5),(27,.ref 3 10),(28,.agg [aF,aN]),(29,aI 2),(30,.ref 0 0),(31,.ref 0 4),(32,.agg [aD c,.wd c]),(33,aI 3),(34,.ref 1 0),(35,.ref 1 6),(36,.agg [aD i,.wd i]),(37,.agg [.lit (.bool (decide (c*i<0))),.wd (c*i)]),(38,.agg [.lit (.bool (decide (0+c*i<0))),.wd (0+c*i)]),(39,.ref 3 10),(40,aI 3),(41,aI 2)],[(zal a b c e d),(zam f g h i j),zap,.flat [.lit (.bool (decide (0+a*f<0))),.wd (0+a*f),.lit (.bool (decide (0+a*g+b*f<0))),.wd (0+a*g+b*f),.lit (.bool (decide (0+a*h+b*g+c*f<0))),.wd (0+a*h+b*g+c*f),.lit (.bool (decide (0+a*i+b*h+c*g<0))),.wd (0+a*i+b*h+c*g),.lit (.bool (decide (0+b*i+c*h<0))),.wd (0+b*i+c*h),.lit (.bool (decide (0+c*i<0))),.wd (0+c*i),aF,aN] true],[3,3,3,3,3,3,3,3,3,3,3,3]⟩
abbrev tmd_0_s12 (l m n o p a b c e d f g h i j:Int):St:=⟨sp 53 [(0,(xZ l m n o p)),(1,(zan a b c e d)),(2,(zao f g h i j)),(4,.ref 0 0),(5,.ref 1 0),(6,.ref 2 0),(7,gZ),(8,.ref 3 0),(9,aI 3),(10,aI 0),(11,(xZ l m n o p)),(12,gZ),(13,gZ),(14,aI 3),(15,aT),(16,aI 3),(17,gZ),(18,aI 0),(19,aT),(20,aI 0),(21,aI 3),(22,aI 0),(23,aI 3),(24,aI 3),(25,aI 0),(26,aI 3),(27,.ref 3 6),(28,.agg [.lit (.bool (decide (0+a*i+b*h+c*g<0))),.wd (0+a*i+b*h+c*g)]),(29,aI 3),(30,.ref 0 0),(31,.ref 0 6),(32,.agg [aD e,.wd e]),(33,aI 0),(34,.ref 1 0),(35,.ref 1 0),(36,.agg [aD f,.wd f]),(37,.agg [.lit (.bool (decide (e*f<0))),.wd (e*f)]),(38,.agg [.lit (.bool (decide (0+a*i+b*h+c*g+e*f<0))),.wd (0+a*i+b*h+c*g+e*f)]),(39,.ref 3 6),(40,aI 4),(41,aI 3)],[(zal a b c e d),(zam f g h i j),zap,.flat [.lit (.bool (decide (0+a*f<0))),.wd (0+a*f),.lit (.bool (decide (0+a*g+b*f<0))),.wd (0+a*g+b*f),.lit (.bool (decide (0+a*h+b*g+c*f<0))),.wd (0+a*h+b*g+c*f),.lit (.bool (decide (0+a*i+b*h+c*g+e*f<0))),.wd (0+a*i+b*h+c*g+e*f),.lit (.bool (decide (0+b*i+c*h<0))),.wd (0+b*i+c*h),.lit (.bool (decide (0+c*i<0))),.wd (0+c*i),aF,aN] true],[3,3,3,3,3,3,3,3,3,3,3,3,3]⟩
abbrev tmd_0_s13 (l m n o p a b c e d f g h i j:Int):St:=⟨sp 53 [(0,(xZ l m n o p)),(1,(zan a b c e d)),(2,(zao f g h i j)),(4,.ref 0 0),(5,.ref 1 0),(6,.ref 2 0),(7,gZ),(8,.ref 3 0),(9,aI 3),(10,aI 1),(11,(xZ l m n o p)),(12,gZ),(13,gZ),(14,aI 3),(15,aT),(16,aI 3),(17,gZ),(18,aI 1),(19,aT),(20,aI 1),(21,aI 3),(22,aI 1),(23,aI 4),(24,aI 3),(25,aI 1),(26,aI 4),(27,.ref 3 8),(28,.agg [.lit (.bool (decide (0+b*i+c*h<0))),.wd (0+b*i+c*h)]),(29,aI 3),(30,.ref 0 0),(31,.ref 0 6),(32,.agg [aD e,.wd e]),(33,aI 1),(34,.ref 1 0),(35,.ref 1 2),(36,.agg [aD g,.wd g]),(37,.agg [.lit (.bool (decide (e*g<0))),.wd (e*g)]),(38,.agg [.lit (.bool (decide (0+b*i+c*h+e*g<0))),.wd (0+b*i+c*h+e*g)]),(39,.ref 3 8),(40,aI 1),(41,aI 3)],[(zal a b c e d),(zam f g h i j),zap,.flat [.lit (.bool (decide (0+a*f<0))),.wd (0+a*f),.lit (.bool (decide (0+a*g+b*f<0))),.wd (0+a*g+b*f),.lit (.bool (decide (0+a*h+b*g+c*f<0))),.wd (0+a*h+b*g+c*f),.lit (.bool (decide (0+a*i+b*h+c*g+e*f<0))),.wd (0+a*i+b*h+c*g+e*f),.lit (.bool (decide (0+b*i+c*h+e*g<0))),.wd (0+b*i+c*h+e*g),.lit (.bool (decide (0+c*i<0))),.wd (0+c*i),aF,aN] true],[3,3,3,3,3,3,3,3,3,3,3,3,3,3]⟩
abbrev tmd_0_s14 (l m n o p a b c e d f g h i j:Int):St:=⟨sp 53 [(0,(xZ l m n o p)),(1,(zan a b c e d)),(2,(zao f g h i j)),(4,.ref 0 0),(5,.ref 1 0),(6,.ref 2 0),(7,gZ),(8,.ref 3 0),(9,aI 3),(10,aI 2),(11,(xZ l m n o p)),(12,gZ),(13,gZ),(14,aI 3),(15,aT),(16,aI 3),(17,gZ),(18,aI 2),(19,aT),(20,aI 2),(21,aI 3),(22,aI 2),(23,aI 5),(24,aI 3),(25,aI 2),(26,aI 5),(27,.ref 3 10),(28,.agg [.lit (.bool (decide (0+c*i<0))),.wd (0+c*i)]),(29,aI 3),(30,.ref 0 0),(31,.ref 0 6),(32,.agg [aD e,.wd e]),(33,aI 2),(34,.ref 1 0),(35,.ref 1 4),(36,.agg [aD h,.wd h]),(37,.agg [.lit (.bool (decide (e*h<0))),.wd (e*h)]),(38,.agg [.lit (.bool (decide (0+c*i+e*h<0))),.wd (0+c*i+e*h)]),(39,.ref 3 10),(40,aI 2),(41,aI 3)],[(zal a b c e d),(zam f g h i j),zap,.flat [.lit (.bool (decide (0+a*f<0))),.wd (0+a*f),.lit (.bool (decide (0+a*g+b*f<0))),.wd (0+a*g+b*f),.lit (.bool (decide (0+a*h+b*g+c*f<0))),.wd (0+a*h+b*g+c*f),.lit (.bool (decide (0+a*i+b*h+c*g+e*f<0))),.wd (0+a*i+b*h+c*g+e*f),.lit (.bool (decide (0+b*i+c*h+e*g<0))),.wd (0+b*i+c*h+e*g),.lit (.bool (decide (0+c*i+e*h<0))),.wd (0+c*i+e*h),aF,aN] true],[3,3,3,3,3,3,3,3,3,3,3,3,3,3,3]⟩
abbrev tmd_0_s15 (l m n o p a b c e d f g h i j:Int):St:=⟨sp 53 [(0,(xZ l m n o p)),(1,(zan a b c e d)),(2,(zao f g h i j)),(4,.ref 0 0),(5,.ref 1 0),(6,.ref 2 0),(7,gZ),(8,.ref 3 0),(9,aI 3),(10,aI 3),(11,(xZ l m n o p)),(12,gZ),(13,gZ),(14,aI 3),(15,aT),(16,aI 3),(17,gZ),(18,aI 3),(19,aT),(20,aI 3),(21,aI 3),(22,aI 3),(23,aI 6),(24,aI 3),(25,aI 3),(26,aI 6),(27,.ref 3 12),(28,.agg [aF,aN]),(29,aI 3),(30,.ref 0 0),(31,.ref 0 6),(32,.agg [aD e,.wd e]),(33,aI 3),(34,.ref 1 0),(35,.ref 1 6),(36,.agg [aD i,.wd i]),(37,.agg [.lit (.bool (decide (e*i<0))),.wd (e*i)]),(38,.agg [.lit (.bool (decide (0+e*i<0))),.wd (0+e*i)]),(39,.ref 3 12),(40,aI 3),(41,aI 3)],[(zal a b c e d),(zam f g h i j),zap,.flat [.lit (.bool (decide (0+a*f<0))),.wd (0+a*f),.lit (.bool (decide (0+a*g+b*f<0))),.wd (0+a*g+b*f),.lit (.bool (decide (0+a*h+b*g+c*f<0))),.wd (0+a*h+b*g+c*f),.lit (.bool (decide (0+a*i+b*h+c*g+e*f<0))),.wd (0+a*i+b*h+c*g+e*f),.lit (.bool (decide (0+b*i+c*h+e*g<0))),.wd (0+b*i+c*h+e*g),.lit (.bool (decide (0+c*i+e*h<0))),.wd (0+c*i+e*h),.lit (.bool (decide (0+e*i<0))),.wd (0+e*i)] true],[3,3,3,3,3,3,3,3,3,3,3,3,3,3,3,3]⟩
theorem tmd_0 (l m n p q a b c e d f g h i j:Int) (h1:r64 ((4:Int))) (h2:pDD a f) (h3:pDD 0 (a*f)) (h4:pDD a g) (h5:pDD 0 (a*g)) (h6:pDD a h) (h7:pDD 0 (a*h)) (h8:pDD a i) (h9:pDD 0 (a*i)) (h10:pDD b f) (h11:pDD (0+a*g) (b*f)) (h12:pDD b g) (h13:pDD (0+a*h) (b*g)) (h14:pDD b h) (h15:pDD (0+a*i) (b*h)) (h16:pDD b i) (h17:pDD 0 (b*i)) (h18:pDD c f) (h19:pDD (0+a*h+b*g) (c*f)) (h20:pDD c g) (h21:pDD (0+a*i+b*h) (c*g)) (h22:pDD c h) (h23:pDD (0+b*i) (c*h)) (h24:pDD c i) (h25:pDD 0 (c*i)) (h26:pDD e f) (h27:pDD (0+a*i+b*h+c*g) (e*f)) (h28:pDD e g) (h29:pDD (0+b*i+c*h) (e*g)) (h30:pDD e h) (h31:pDD (0+c*i) (e*h)) (h32:pDD e i) (h33:pDD 0 (e*i)) (h34:r64 (2*((4:Int)))) (h35:r64 (2*((4:Int))-1)) (h36:0≤2*((4:Int))-1) (h37:2*((4:Int))-1≤7) (h38:pDD d j) (h39:znG [l,m,n,p,q] [0+a*f,0+a*g+b*f,0+a*h+b*g+c*f,0+a*i+b*h+c*g+e*f,0+b*i+c*h+e*g,0+c*i+e*h,0+e*i] (d*j)):FC Tryz.prog 84 [reA (.lst .whole [l,m,n,p,q]),nuA a b c e d,nuA f g h i j] (nuF (zat [l,m,n,p,q] (List.length [l,m,n,p,q]-1) [0+a*f,0+a*g+b*f,0+a*h+b*g+c*f,0+a*i+b*h+c*g+e*f,0+b*i+c*h+e*g,0+c*i+e*h,0+e*i]) (d*j)):=eZ zl8 60 [] (.i h1<|.c h2<|.c h3<|.s (tmd_0_s0 l m n p q a b c e d f g h i j)<|.c h4<|.c h5<|.s (tmd_0_s1 l m n p q a b c e d f g h i j)<|.c h6<|.c h7<|.s (tmd_0_s2 l m n p q a b c e d f g h i j)<|.c h8<|.c h9<|.s (tmd_0_s3 l m n p q a b c e d f g h i j)<|.c h10<|.c h11<|.s (tmd_0_s4 l m n p q a b c e d f g h i j)<|.c h12<|.c h13<|.s (tmd_0_s5 l m n p q a b c e d f g h i j)<|.c h14<|.c h15<|.s (tmd_0_s6 l m n p q a b c e d f g h i j)<|.c h16<|.c h17<|.s (tmd_0_s7 l m n p q a b c e d f g h i j)<|.c h18<|.c h19<|.s (tmd_0_s8 l m n p q a b c e d f g h i j)<|.c h20<|.c h21<|.s (tmd_0_s9 l m n p q a b c e d f g h i j)<|.c h22<|.c h23<|.s (tmd_0_s10 l m n p q a b c e d f g h i j)<|.c h24<|.c h25<|.s (tmd_0_s11 l m n p q a b c e d f g h i j)<|.c h26<|.c h27<|.s (tmd_0_s12 l m n p q a b c e d f g h i j)<|.c h28<|.c h29<|.s (tmd_0_s13 l m n p q a b c e d f g h i j)<|.c h30<|.c h31<|.s (tmd_0_s14 l m n p q a b c e d f g h i j)<|.c h32<|.c h33<|.s (tmd_0_s15 l m n p q a b c e d f g h i j)<|.i h34<|.i h35<|.t h36<|.t h37<|.c h38<|.c h39<|.o<|.o<|.o<|.o<|.o<|.e) [1,0,0,0,0,0,0,0,0,0,0,2,0,0,3,0,0,0,0,2,0,0,3,0,0,4,0,0,0,0,0,0,0,0,0,0,0,5,0,0,6,0,0,0,0,5,0,0,6,0,0,7,0,0,0,0,0,0,0,0,0,0,0,8,0,0,9,0,0,0,0,8,0,0,9,0,0,10,0,0,0,0,0,0,0,0,0,0,0,11,0,0,12,0,0,0,0,11,0,0,12,0,0,13,0,0,0,0,0,0,0,0,0,0,0,0,14,0,0,15,0,0,0,0,14,0,0,15,0,0,16,0,0,0,0,0,0,0,0,0,0,0,17,0,0,18,0,0,0,0,17,0,0,18,0,0,19,0,0,0,0,0,0,0,0,0,0,0,20,0,0,21,0,0,0,0,20,0,0,21,0,0,22,0,0,0,0,0,0,0,0,0,0,0,23,0,0,24,0,0,0,0,23,0,0,24,0,0,25,0,0,0,0,0,0,0,0,0,0,0,0,26,0,0,27,0,0,0,0,26,0,0,27,0,0,28,0,0,0,0,0,0,0,0,0,0,0,29,0,0,30,0,0,0,0,29,0,0,30,0,0,31,0,0,0,0,0,0,0,0,0,0,0,32,0,0,33,0,0,0,0,32,0,0,33,0,0,34,0,0,0,0,0,0,0,0,0,0,0,35,0,0,36,0,0,0,0,35,0,0,36,0,0,37,0,0,0,0,0,0,0,0,0,0,0,0,38,0,0,39,0,0,0,0,38,0,0,39,0,0,40,0,0,0,0,0,0,0,0,0,0,0,41,0,0,42,0,0,0,0,41,0,0,42,0,0,43,0,0,0,0,0,0,0,0,0,0,0,44,0,0,45,0,0,0,0,44,0,0,45,0,0,46,0,0,0,0,0,0,0,0,0,0,0,47,0,0,48,0,0,0,0,47,0,0,48,0,0,49,0,0,50,51,0,52,53,0,0,54,0,0,0,0,0,0,0,0,55]
end
open Go.Kf
theorem szLg {k:Nat}:∀ {l:List Int},SzL k l→∀j,Sz k (l.getD j 0)
 | [],_,j=>Sz.zero
 | z :: l,h,0=>h.1
 | z :: l,h,j+1=>szLg h.2 j
theorem zm6 {z:Int} {k:Nat} [h:SzC z k] (hk:k≤20000):Sz 20000 z:=h.ok.mono hk
theorem ntm_a (p0 p1 a b c e d f g h i j:Int) (hp:∀x∈[p0,p1],x.natAbs≤1000) (hx:pNs a b c e d) (hy:pNs f g h i j):FC Tryz.prog 84 [reA (.lst .whole [p0,p1]),nuA a b c e d,nuA f g h i j] (nuF (zat [p0,p1] 1 [0+a*f]) (d*j)):=by
 have hN:((List.length [p0,p1]:Int)-1)=((1:Nat):Int):=by simp
 have zia:SzC a 2000:=⟨hx.2.1⟩
 have zif:SzC f 2000:=⟨hy.2.1⟩
 have zid:SzC d 2000:=⟨hx.2.2.2.2.2⟩
 have zij:SzC j 2000:=⟨hy.2.2.2.2.2⟩
 exact tma_0 p0 p1 a b c e d f g h i j (by omega) (nZ (by decide) (by decide)) (nZ (by decide) (by decide)) (by omega) (by omega) (by omega) (by omega) (nZ (by decide) (by decide)) ⟨⟨by simp,by simp,hp⟩,by simp,by simp,szLg (l:=[0+a*f]) ⟨zm6 (by decide),trivial⟩,Int.mul_ne_zero hx.1 hy.1,(hx.2.2.2.2.2.mul hy.2.2.2.2.2).mono (by decide)⟩
theorem ntm_b (p0 p1 p2 a b c e d f g h i j:Int) (hp:∀x∈[p0,p1,p2],x.natAbs≤1000) (hx:pNs a b c e d) (hy:pNs f g h i j):FC Tryz.prog 84 [reA (.lst .whole [p0,p1,p2]),nuA a b c e d,nuA f g h i j] (nuF (zat [p0,p1,p2] 2 [0+a*f,0+a*g+b*f,0+b*g]) (d*j)):=by
 have hN:((List.length [p0,p1,p2]:Int)-1)=((2:Nat):Int):=by simp
 have zia:SzC a 2000:=⟨hx.2.1⟩
 have zib:SzC b 2000:=⟨hx.2.2.1⟩
 have zif:SzC f 2000:=⟨hy.2.1⟩
 have zig:SzC g 2000:=⟨hy.2.2.1⟩
 have zid:SzC d 2000:=⟨hx.2.2.2.2.2⟩
 have zij:SzC j 2000:=⟨hy.2.2.2.2.2⟩
 exact tmb_0 p0 p1 p2 a b c e d f g h i j (by omega) (nZ (by decide) (by decide)) (nZ (by decide) (by decide)) (nZ (by decide) (by decide)) (nZ (by decide) (by decide)) (nZ (by decide) (by decide)) (nZ (by decide) (by decide)) (nZ (by decide) (by decide)) (nZ (by decide) (by decide)) (by omega) (by omega) (by omega) (by omega) (nZ (by decide) (by decide)) ⟨⟨by simp,by simp,hp⟩,by simp,by simp,szLg (l:=[0+a*f,0+a*g+b*f,0+b*g]) ⟨zm6 (by decide),zm6 (by decide),zm6 (by decide),trivial⟩,Int.mul_ne_zero hx.1 hy.1,(hx.2.2.2.2.2.mul hy.2.2.2.2.2).mono (by decide)⟩
theorem ntm_c (p0 p1 p2 p3 a b c e d f g h i j:Int) (hp:∀x∈[p0,p1,p2,p3],x.natAbs≤1000) (hx:pNs a b c e d) (hy:pNs f g h i j):FC Tryz.prog 84 [reA (.lst .whole [p0,p1,p2,p3]),nuA a b c e d,nuA f g h i j] (nuF (zat [p0,p1,p2,p3] 3 [0+a*f,0+a*g+b*f,0+a*h+b*g+c*f,0+b*h+c*g,0+c*h]) (d*j)):=by
 have hN:((List.length [p0,p1,p2,p3]:Int)-1)=((3:Nat):Int):=by simp
 have zia:SzC a 2000:=⟨hx.2.1⟩
 have zib:SzC b 2000:=⟨hx.2.2.1⟩
 have zic:SzC c 2000:=⟨hx.2.2.2.1⟩
 have zif:SzC f 2000:=⟨hy.2.1⟩
 have zig:SzC g 2000:=⟨hy.2.2.1⟩
 have zih:SzC h 2000:=⟨hy.2.2.2.1⟩
 have zid:SzC d 2000:=⟨hx.2.2.2.2.2⟩
 have zij:SzC j 2000:=⟨hy.2.2.2.2.2⟩
 exact tmc_0 p0 p1 p2 p3 a b c e d f g h i j (by omega) (nZ (by decide) (by decide)) (nZ (by decide) (by decide)) (nZ (by decide) (by decide)) (nZ (by decide) (by decide)) (nZ (by decide) (by decide)) (nZ (by decide) (by decide)) (nZ (by decide) (by decide)) (nZ (by decide) (by decide)) (nZ (by decide) (by decide)) (nZ (by decide) (by decide)) (nZ (by decide) (by decide)) (nZ (by decide) (by decide)) (nZ (by decide) (by decide)) (nZ (by decide) (by decide)) (nZ (by decide) (by decide)) (nZ (by decide) (by decide)) (nZ (by decide) (by decide)) (nZ (by decide) (by decide)) (by omega) (by omega) (by omega) (by omega) (nZ (by decide) (by decide)) ⟨⟨by simp,by simp,hp⟩,by simp,by simp,szLg (l:=[0+a*f,0+a*g+b*f,0+a*h+b*g+c*f,0+b*h+c*g,0+c*h]) ⟨zm6 (by decide),zm6 (by decide),zm6 (by decide),zm6 (by decide),zm6 (by decide),trivial⟩,Int.mul_ne_zero hx.1 hy.1,(hx.2.2.2.2.2.mul hy.2.2.2.2.2).mono (by decide)⟩
theorem ntm_d (p0 p1 p2 p3 p4 a b c e d f g h i j:Int) (hp:∀x∈[p0,p1,p2,p3,p4],x.natAbs≤1000) (hx:pNs a b c e d) (hy:pNs f g h i j):FC Tryz.prog 84 [reA (.lst .whole [p0,p1,p2,p3,p4]),nuA a b c e d,nuA f g h i j] (nuF (zat [p0,p1,p2,p3,p4] 4 [0+a*f,0+a*g+b*f,0+a*h+b*g+c*f,0+a*i+b*h+c*g+e*f,0+b*i+c*h+e*g,0+c*i+e*h,0+e*i]) (d*j)):=by
 have hN:((List.length [p0,p1,p2,p3,p4]:Int)-1)=((4:Nat):Int):=by simp
 have zia:SzC a 2000:=⟨hx.2.1⟩
 have zib:SzC b 2000:=⟨hx.2.2.1⟩
 have zic:SzC c 2000:=⟨hx.2.2.2.1⟩
 have zie:SzC e 2000:=⟨hx.2.2.2.2.1⟩
 have zif:SzC f 2000:=⟨hy.2.1⟩
 have zig:SzC g 2000:=⟨hy.2.2.1⟩
 have zih:SzC h 2000:=⟨hy.2.2.2.1⟩
 have zii:SzC i 2000:=⟨hy.2.2.2.2.1⟩
 have zid:SzC d 2000:=⟨hx.2.2.2.2.2⟩
 have zij:SzC j 2000:=⟨hy.2.2.2.2.2⟩
 exact tmd_0 p0 p1 p2 p3 p4 a b c e d f g h i j (by omega) (nZ (by decide) (by decide)) (nZ (by decide) (by decide)) (nZ (by decide) (by decide)) (nZ (by decide) (by decide)) (nZ (by decide) (by decide)) (nZ (by decide) (by decide)) (nZ (by decide) (by decide)) (nZ (by decide) (by decide)) (nZ (by decide) (by decide)) (nZ (by decide) (by decide)) (nZ (by decide) (by decide)) (nZ (by decide) (by decide)) (nZ (by decide) (by decide)) (nZ (by decide) (by decide)) (nZ (by decide) (by decide)) (nZ (by decide) (by decide)) (nZ (by decide) (by decide)) (nZ (by decide) (by decide)) (nZ (by decide) (by decide)) (nZ (by decide) (by decide)) (nZ (by decide) (by decide)) (nZ (by decide) (by decide)) (nZ (by decide) (by decide)) (nZ (by decide) (by decide)) (nZ (by decide) (by decide)) (nZ (by decide) (by decide)) (nZ (by decide) (by decide)) (nZ (by decide) (by decide)) (nZ (by decide) (by decide)) (nZ (by decide) (by decide)) (nZ (by decide) (by decide)) (nZ (by decide) (by decide)) (by omega) (by omega) (by omega) (by omega) (nZ (by decide) (by decide)) ⟨⟨by simp,by simp,hp⟩,by simp,by simp,szLg (l:=[0+a*f,0+a*g+b*f,0+a*h+b*g+c*f,0+a*i+b*h+c*g+e*f,0+b*i+c*h+e*g,0+c*i+e*h,0+e*i]) ⟨zm6 (by decide),zm6 (by decide),zm6 (by decide),zm6 (by decide),zm6 (by decide),zm6 (by decide),zm6 (by decide),trivial⟩,Int.mul_ne_zero hx.1 hy.1,(hx.2.2.2.2.2.mul hy.2.2.2.2.2).mono (by decide)⟩
def tmS (n:Nat) (a b c e f g h i:Int):List Int:=match n with
 | 1=>[0+a*f]
 | 2=>[0+a*f,0+a*g+b*f,0+b*g]
 | 3=>[0+a*f,0+a*g+b*f,0+a*h+b*g+c*f,0+b*h+c*g,0+c*h]
 | 4=>[0+a*f,0+a*g+b*f,0+a*h+b*g+c*f,0+a*i+b*h+c*g+e*f,0+b*i+c*h+e*g,0+c*i+e*h,0+e*i]
 | _=>[]
theorem ntm_fc (p:List Int) (a b c e d f g h i j:Int) (h2:2≤p.length) (h5:p.length≤5) (hp:∀x∈p,x.natAbs≤1000) (hx:pNs a b c e d) (hy:pNs f g h i j):FC Tryz.prog 84 [reA (.lst .whole p),nuA a b c e d,nuA f g h i j] (nuF (zat p (p.length-1) (tmS (p.length-1) a b c e f g h i)) (d*j)):=by
 match p,h2,h5,hp with
 | [p0,p1],_,_,hp=>exact ntm_a p0 p1 a b c e d f g h i j hp hx hy
 | [p0,p1,p2],_,_,hp=>exact ntm_b p0 p1 p2 a b c e d f g h i j hp hx hy
 | [p0,p1,p2,p3],_,_,hp=>exact ntm_c p0 p1 p2 p3 a b c e d f g h i j hp hx hy
 | [p0,p1,p2,p3,p4],_,_,hp=>exact ntm_d p0 p1 p2 p3 p4 a b c e d f g h i j hp hx hy
 | _ :: _ :: _ :: _ :: _ :: _ :: _,_,h5,_=>simp at h5
end Go.Proofs.YtloaeinogiplbaaGreatDoor
end
section
namespace Go.Kf
set_option linter.unusedVariables false
set_option linter.unusedSimpArgs false
open V
abbrev NZ:=List Int × Int
def zdU (c:List Int) (d:Int):NZ:=([loC c d 0,loC c d 1,loC c d 2,loC c d 3],loD c d)
theorem ev_get {n:Nat} {p:V}:∀c c':List Int,(∀i,c.getD i 0=c'.getD i 0)→ev n p (qL c)=ev n p (qL c')
 | [],c',h=>by
  have:∀x∈qL c',x=0:=by
   intro x hx
   obtain ⟨z,hz,rfl⟩:=List.mem_map.1 hx
   obtain ⟨i,hi,rfl⟩:=List.getElem_of_mem hz
   have:=h i
   simp_all
  rw [zhl _ this];rfl
 | a :: c,[],h=>by
  have:∀x∈qL (a :: c),x=0:=by
   intro x hx
   obtain ⟨z,hz,rfl⟩:=List.mem_map.1 hx
   obtain ⟨i,hi,rfl⟩:=List.getElem_of_mem hz
   have:=h i
   simp only [List.getD_nil,List.getD_eq_getElem?_getD,List.getElem?_eq_getElem hi,Option.getD_some] at this
   rw [this];rfl
  rw [zhl _ this];rfl
 | a :: c,b :: c',h=>by
  have h0:a=b:=h 0
  rw [qL_cons,qL_cons,zno,zno,h0,ev_get c c' (fun i=>h (i+1))]
section
variable {q:List Int}
theorem zfi {c c':List Int} {d:Int} (h:∀i,c.getD i 0=c'.getD i 0):val q c d=val q c' d:=by
 unfold val;rw [ev_get c c' h]
theorem zbi (k:Int):∀(c:List Int) (i:Nat),(smZ k c).getD i 0=k*c.getD i 0
 | [],i=>by simp [smZ]
 | a :: c,0=>rfl
 | a :: c,i+1=>zbi k c i
theorem zkr {c:List Int} {d:Int} (h4:∀i,4≤i→c.getD i 0=0) (i:Nat):(zdU c d).1.getD i 0=loC c d i:=by
 match i with
 | 0=>rfl
 | 1=>rfl
 | 2=>rfl
 | 3=>rfl
 | k+4=>
  have:loC c d (k+4)=0:=by unfold loC;simp_all
  rw [this];rfl
structure Nrm (q:List Int) (u:NZ):Prop where
 pos:0<u.2
 sh:zo8 q u.1
 low:zdU u.1 u.2=u
def nv (q:List Int) (u:NZ):V:=val q u.1 u.2
theorem zir (h4:q.length≤4) {c:List Int} {d:Int} (hd:d≠0) (hc:zo8 q c):nv q (zdU c d)=val q c d:=by
 have hz:=zh7 (c:=c) hd
 have hp:=zio (c:=c) hd
 have h0:∀i,4≤i→c.getD i 0=0:=fun i hi=>hc i (by omega)
 have e:=val_scale (q:=q) (c:=(zdU c d).1) (d:=(zdU c d).2) (k:=dvs c d) (by show loD c d≠0;omega) hz
 unfold nv
 rw [← e,show dvs c d*(zdU c d).2=d by rw [Int.mul_comm];exact zbP c d]
 exact zfi fun i=>by rw [zbi,zkr h0,Int.mul_comm,zbO]
theorem ziq (h4:q.length≤4) {c:List Int} {d:Int} (hd:d≠0) (hc:zo8 q c):Nrm q (zdU c d):=by
 have h0:∀i,4≤i→c.getD i 0=0:=fun i hi=>hc i (by omega)
 have hp:0<(zdU c d).2:=zio hd
 have hs:zo8 q (zdU c d).1:=fun i hi=>by
  rw [zkr h0];unfold loC;rw [hc i hi];exact Int.zero_ediv _
 refine ⟨hp,hs,?_⟩
 have ⟨e1,e2⟩:=lo_val2 (q:=q) (c:=(zdU c d).1) (d:=(zdU c d).2) (c':=c) (d':=d) (by omega) hd hs hc (zir h4 hd hc)
 show([loC (zdU c d).1 (zdU c d).2 0,loC (zdU c d).1 (zdU c d).2 1,loC (zdU c d).1 (zdU c d).2 2,loC (zdU c d).1 (zdU c d).2 3],loD (zdU c d).1 (zdU c d).2)=zdU c d
 rw [e1,e2,e2,e2,e2];rfl
theorem nv_inj {u v:NZ} (hu:Nrm q u) (hv:Nrm q v) (h:nv q u=nv q v):u=v:=by
 have hp:=hu.pos
 have hr:=hv.pos
 have ⟨e1,e2⟩:=lo_val2 (by omega) (by omega) hu.sh hv.sh h
 rw [← hu.low,← hv.low]
 unfold zdU
 rw [e1,e2,e2,e2,e2]
theorem low_get {c c':List Int} {d:Int} (hd:d≠0) (h:∀i,c.getD i 0=c'.getD i 0):zdU c d=zdU c' d:=by
 have ⟨e1,e2⟩:=lo_eq (c:=c) (c':=c') hd hd (fun i=>by rw [h i])
 unfold zdU
 rw [e1,e2,e2,e2,e2]
theorem zew:∀(x y:List Int) (i:Nat),(zmZ x y).getD i 0=x.getD i 0+y.getD i 0
 | [],y,i=>by simp [zmZ]
 | a :: x,[],i=>by simp [zmZ]
 | a :: x,b :: y,0=>rfl
 | a :: x,b :: y,i+1=>zew x y i
def plN (u v:NZ):NZ:=zdU [u.1.getD 0 0*v.2+v.1.getD 0 0*u.2,u.1.getD 1 0*v.2+v.1.getD 1 0*u.2,u.1.getD 2 0*v.2+v.1.getD 2 0*u.2,u.1.getD 3 0*v.2+v.1.getD 3 0*u.2] (u.2*v.2)
theorem pl_ok (h4:q.length≤4) {u v:NZ} (hu:Nrm q u) (hv:Nrm q v):Nrm q (plN u v)∧nv q (plN u v)=vAdd (nv q u) (nv q v):=by
 have hp:=hu.pos
 have hr:=hv.pos
 have hd:u.2*v.2≠0:=by have:=Int.mul_pos hp hr;omega
 have g:∀i,[u.1.getD 0 0*v.2+v.1.getD 0 0*u.2,u.1.getD 1 0*v.2+v.1.getD 1 0*u.2,u.1.getD 2 0*v.2+v.1.getD 2 0*u.2,u.1.getD 3 0*v.2+v.1.getD 3 0*u.2].getD i 0=(zmZ (smZ v.2 u.1) (smZ u.2 v.1)).getD i 0:=by
  intro i
  rw [zew,zbi,zbi,Int.mul_comm v.2,Int.mul_comm u.2]
  match i with
  | 0=>rfl
  | 1=>rfl
  | 2=>rfl
  | 3=>rfl
  | k+4=>rw [hu.sh (k+4) (by omega),hv.sh (k+4) (by omega),Int.zero_mul,Int.zero_mul];rfl
 have hs:zo8 q [u.1.getD 0 0*v.2+v.1.getD 0 0*u.2,u.1.getD 1 0*v.2+v.1.getD 1 0*u.2,u.1.getD 2 0*v.2+v.1.getD 2 0*u.2,u.1.getD 3 0*v.2+v.1.getD 3 0*u.2]:=fun i hi=>by
  rw [g,zew,zbi,zbi,hu.sh i hi,hv.sh i hi,Int.mul_zero,Int.mul_zero];rfl
 refine ⟨ziq h4 hd hs,?_⟩
 unfold plN
 rw [zir h4 hd hs,zfi g]
 exact val_add (by omega) (by omega)
def ngN (u:NZ):NZ:=([-u.1.getD 0 0,-u.1.getD 1 0,-u.1.getD 2 0,-u.1.getD 3 0],u.2)
theorem ng_ok (h4:q.length≤4) {u:NZ} (hu:Nrm q u):Nrm q (ngN u)∧nv q (ngN u)=sm (-1) (nv q u):=by
 have hp:=hu.pos
 have g:∀i,(ngN u).1.getD i 0=(smZ (-1) u.1).getD i 0:=by
  intro i
  rw [zbi]
  match i with
  | 0=>show -u.1.getD 0 0=_;omega
  | 1=>show -u.1.getD 1 0=_;omega
  | 2=>show -u.1.getD 2 0=_;omega
  | 3=>show -u.1.getD 3 0=_;omega
  | k+4=>rw [hu.sh (k+4) (by omega)];rfl
 have hs:zo8 q (ngN u).1:=fun i hi=>by rw [g,zbi,hu.sh i hi];rfl
 have hv:nv q (ngN u)=sm (-1) (nv q u):=by
  unfold nv
  rw [zfi g];exact val_neg
 refine ⟨⟨hp,hs,?_⟩,hv⟩
 have hN:=ziq h4 (c:=(ngN u).1) (d:=u.2) (by omega) hs
 have gl:∀(i:Nat),dvs (ngN u).1 u.2=dvs u.1 u.2→u.1.getD i 0 % dvs u.1 u.2=0:=fun i _=>Int.emod_eq_zero_of_dvd ((zfa u.1 u.2).2 i)
 have hd1:dvs u.1 u.2=1:=by
  have h1:loD u.1 u.2=u.2:=congrArg Prod.snd hu.low
  have h2:=zbP u.1 u.2
  rw [h1] at h2
  exact Int.eq_of_mul_eq_mul_left (a:=u.2) (by omega) (by rw [h2,Int.mul_one])
 have hd2:dvs (ngN u).1 u.2=1:=by
  have ⟨a,b⟩:=zfa (ngN u).1 u.2
  have hz:=zh7 (c:=(ngN u).1) (d:=u.2) (by omega)
  have hlp:=zio (c:=(ngN u).1) (d:=u.2) (by omega)
  have hlm:=zbP (ngN u).1 u.2
  have hk:0<dvs (ngN u).1 u.2:=by
   rcases Int.lt_trichotomy (dvs (ngN u).1 u.2) 0 with h | h | h
   ·have:=Int.mul_neg_of_pos_of_neg hlp h;omega
   ·omega
   ·exact h
  have hpr:=zoj (c:=u.1) (d:=u.2) (by omega) (k:=(dvs (ngN u).1 u.2).toNat) (by
   rw [Int.toNat_of_nonneg (by omega),show loD u.1 u.2=u.2 from congrArg Prod.snd hu.low];exact a) (fun i=>by
   rw [Int.toNat_of_nonneg (by omega)]
   have:loC u.1 u.2 i=u.1.getD i 0:=by unfold loC;rw [hd1,Int.ediv_one]
   rw [this]
   have:=b i
   rw [g,zbi] at this
   simp_all)
  omega
 show([loC (ngN u).1 u.2 0,loC (ngN u).1 u.2 1,loC (ngN u).1 u.2 2,loC (ngN u).1 u.2 3],loD (ngN u).1 u.2)=ngN u
 unfold loC loD
 rw [hd2]
 simp only [Int.ediv_one]
 rfl
end
end Go.Kf
end
section
open Go Go.Ev Go.RowKit
namespace Go.Proofs.YtloaeinogiplbaaGreatDoor
open Go.Proofs
set_option maxRecDepth 100000
set_option maxHeartbeats 1000000
set_option linter.unusedVariables false
set_option linter.unusedSimpArgs false
open Go.Kf
abbrev nuV (u:NZ):AV:=nuA (u.1.getD 0 0) (u.1.getD 1 0) (u.1.getD 2 0) (u.1.getD 3 0) u.2
def tkN (p:List Int) (x:numK.ty):NZ:=zdU (zat p (p.length-1) (vlL x.1)) (zpp x.2)
def tmN (p:List Int) (u v:NZ):NZ:=zdU (zat p (p.length-1) (tmS (p.length-1) (u.1.getD 0 0) (u.1.getD 1 0) (u.1.getD 2 0) (u.1.getD 3 0) (v.1.getD 0 0) (v.1.getD 1 0) (v.1.getD 2 0) (v.1.getD 3 0))) (u.2*v.2)
def gvN (u:NZ):numK.ty:=((za4 u.1).map aZ,aZ u.2)
def zjr (p:List Int):Prop:=2≤p.length∧p.length≤5∧∀x∈p,x.natAbs≤1000
def cTk (args:List AV):M AV:=match args with
 | [r,y]=>do
  let p ← asRL r
  let x ← asK numK y
  tell (pTk p x.1 x.2)
  M.pure (nuV (tkN p x))
 | _=>fail 320
def cGv (args:List AV):M AV:=match args with
 | [y]=>do
  let q ← zrY y
  match q with
  | (a,b,c,e,d)=>do
   tell (pGv a b c e d)
   M.pure (.agg [.lst (.sl (.int .i64)) (gvN ([a,b,c,e],d)).1,.sq (gvN ([a,b,c,e],d)).2])
 | _=>fail 321
def pPl (a b c e d f g h i j:Int):Prop:=pNs a b c e d∧pNs f g h i j∧0<d∧0<j
def cPl (args:List AV):M AV:=match args with
 | [y,z]=>do
  let q ← zrY y
  let q2 ← zrY z
  match q,q2 with
  | (a,b,c,e,d),(f,g,h,i,j)=>do
   tell (pPl a b c e d f g h i j)
   M.pure (nuV (plN ([a,b,c,e],d) ([f,g,h,i],j)))
 | _=>fail 322
def cTm (args:List AV):M AV:=match args with
 | [r,y,z]=>do
  let p ← asRL r
  let q ← zrY y
  let q2 ← zrY z
  match q,q2 with
  | (a,b,c,e,d),(f,g,h,i,j)=>do
   tell (zjr p∧pPl a b c e d f g h i j)
   M.pure (nuV (tmN p ([a,b,c,e],d) ([f,g,h,i],j)))
 | _=>fail 323
noncomputable def ctrQ2:Ctr:=(80,cTk) :: (86,cGv) :: (92,cPl) :: (84,cTm) :: ctrQ1
theorem cTk_ok:kZ Tryz.prog 80 cTk:=by
 intro args _
 unfold cTk
 split
 ·exact Spec.bind (asRL_spec.mono fun p hp=>Spec.bind (asK_spec.mono fun x hx=>Spec.bind (Spec.tell fun h=>Spec.pure' ((take_fc p x.1 x.2 h).le (.cons hp (.cons hx .nil)) (Le.refl _)))))
 ·exact Spec.fail
theorem cGv_ok:kZ Tryz.prog 86 cGv:=by
 intro args _
 unfold cGv
 split
 ·refine Spec.bind (asNu_spec.mono fun q hq=>?_)
  obtain ⟨a,b,c,e,d⟩:=q
  exact Spec.bind (Spec.tell fun h=>Spec.pure' ((give_fc a b c e d h).le (.cons hq .nil) (Le.refl _)))
 ·exact Spec.fail
theorem plus_nz {a b c e d f g h i j:Int} (hp:pPl a b c e d f g h i j):FC Tryz.prog 92 [nuA a b c e d,nuA f g h i j] (nuV (plN ([a,b,c,e],d) ([f,g,h,i],j))):=by
 obtain ⟨hx,hy,hd,hj⟩:=hp
 have hm:0<d*j:=Int.mul_pos hd hj
 have s:∀x,sgD (d*j) x=x:=fun x=>if_neg (by omega)
 have:=zor a b c e d f g h i j hx hy
 have e1:=zds (a:=a*j+f*d) (b:=b*j+g*d) (c:=c*j+h*d) (e:=e*j+i*d) (d:=d*j)
 simp only [s] at e1
 rw [e1] at this
 exact this
theorem cPl_ok:kZ Tryz.prog 92 cPl:=by
 intro args _
 unfold cPl
 split
 ·refine Spec.bind (asNu_spec.mono fun q hq=>Spec.bind (asNu_spec.mono fun q2 hq2=>?_))
  obtain ⟨a,b,c,e,d⟩:=q
  obtain ⟨f,g,h,i,j⟩:=q2
  exact Spec.bind (Spec.tell fun hp=>Spec.pure' ((plus_nz hp).le (.cons hq (.cons hq2 .nil)) (Le.refl _)))
 ·exact Spec.fail
theorem cTm_ok:kZ Tryz.prog 84 cTm:=by
 intro args _
 unfold cTm
 split
 ·refine Spec.bind (asRL_spec.mono fun p hr=>Spec.bind (asNu_spec.mono fun q hq=>Spec.bind (asNu_spec.mono fun q2 hq2=>?_)))
  obtain ⟨a,b,c,e,d⟩:=q
  obtain ⟨f,g,h,i,j⟩:=q2
  exact Spec.bind (Spec.tell fun hp=>Spec.pure' ((ntm_fc p a b c e d f g h i j hp.1.1 hp.1.2.1 hp.1.2.2 hp.2.1 hp.2.2.1).le (.cons hr (.cons hq (.cons hq2 .nil))) (Le.refl _)))
 ·exact Spec.fail
theorem zlK:∀p∈ctrQ2,kZ Tryz.prog p.1 p.2:=CAll.cons cTk_ok<|CAll.cons cGv_ok<|CAll.cons cPl_ok<|CAll.cons cTm_ok zlJ
theorem okQ2:(dZ Tryz.prog ctrQ2 bw [] kdQ2).OK:=DZ zbQ mixed zlK zbM
noncomputable section
theorem oA_0 (p:List Int) (x y:numK.ty) (h1:pTk p x.fst x.snd) (h2:pTk p y.fst y.snd) (h3:pPl ((tkN p x).fst.getD 0 0) ((tkN p x).fst.getD 1 0) ((tkN p x).fst.getD 2 0) ((tkN p x).fst.getD 3 0) (tkN p x).snd ((tkN p y).fst.getD 0 0) ((tkN p y).fst.getD 1 0) ((tkN p y).fst.getD 2 0) ((tkN p y).fst.getD 3 0) (tkN p y).snd) (h4:pGv ((plN ([(tkN p x).fst.getD 0 0,(tkN p x).fst.getD 1 0,(tkN p x).fst.getD 2 0,(tkN p x).fst.getD 3 0],(tkN p x).snd) ([(tkN p y).fst.getD 0 0,(tkN p y).fst.getD 1 0,(tkN p y).fst.getD 2 0,(tkN p y).fst.getD 3 0],(tkN p y).snd)).fst.getD 0 0) ((plN ([(tkN p x).fst.getD 0 0,(tkN p x).fst.getD 1 0,(tkN p x).fst.getD 2 0,(tkN p x).fst.getD 3 0],(tkN p x).snd) ([(tkN p y).fst.getD 0 0,(tkN p y).fst.getD 1 0,(tkN p y).fst.getD 2 0,(tkN p y).fst.getD 3 0],(tkN p y).snd)).fst.getD 1 0) ((plN ([(tkN p x).fst.getD 0 0,(tkN p x).fst.getD 1 0,(tkN p x).fst.getD 2 0,(tkN p x).fst.getD 3 0],(tkN p x).snd) ([(tkN p y).fst.getD 0 0,(tkN p y).fst.getD 1 0,(tkN p y).fst.getD 2 0,(tkN p y).fst.getD 3 0],(tkN p y).snd)).fst.getD 2 0) ((plN ([(tkN p x).fst.getD 0 0,(tkN p x).fst.getD 1 0,(tkN p x).fst.getD 2 0,(tkN p x).fst.getD 3 0],(tkN p x).snd) ([(tkN p y).fst.getD 0 0,(tkN p y).fst.getD 1 0,(tkN p y).fst.getD 2 0,(tkN p y).fst.getD 3 0],(tkN p y).snd)).fst.getD 3 0) (plN ([(tkN p x).fst.getD 0 0,(tkN p x).fst.getD 1 0,(tkN p x).fst.getD 2 0,(tkN p x).fst.getD 3 0],(tkN p x).snd) ([(tkN p y).fst.getD 0 0,(tkN p y).fst.getD 1 0,(tkN p y).fst.getD 2 0,(tkN p y).fst.getD 3 0],(tkN p y).snd)).snd):FC Tryz.prog 24 [reA (.lst .whole p),numK.val x,numK.val y] (.agg [.lst (EK.sl (.int .i64)) (gvN ([(plN ([(tkN p x).fst.getD 0 0,(tkN p x).fst.getD 1 0,(tkN p x).fst.getD 2 0,(tkN p x).fst.getD 3 0],(tkN p x).snd) ([(tkN p y).fst.getD 0 0,(tkN p y).fst.getD 1 0,(tkN p y).fst.getD 2 0,(tkN p y).fst.getD 3 0],(tkN p y).snd)).fst.getD 0 0,(plN ([(tkN p x).fst.getD 0 0,(tkN p x).fst.getD 1 0,(tkN p x).fst.getD 2 0,(tkN p x).fst.getD 3 0],(tkN p x).snd) ([(tkN p y).fst.getD 0 0,(tkN p y).fst.getD 1 0,(tkN p y).fst.getD 2 0,(tkN p y).fst.getD 3 0],(tkN p y).snd)).fst.getD 1 0,(plN ([(tkN p x).fst.getD 0 0,(tkN p x).fst.getD 1 0,(tkN p x).fst.getD 2 0,(tkN p x).fst.getD 3 0],(tkN p x).snd) ([(tkN p y).fst.getD 0 0,(tkN p y).fst.getD 1 0,(tkN p y).fst.getD 2 0,(tkN p y).fst.getD 3 0],(tkN p y).snd)).fst.getD 2 0,(plN ([(tkN p x).fst.getD 0 0,(tkN p x).fst.getD 1 0,(tkN p x).fst.getD 2 0,(tkN p x).fst.getD 3 0],(tkN p x).snd) ([(tkN p y).fst.getD 0 0,(tkN p y).fst.getD 1 0,(tkN p y).fst.getD 2 0,(tkN p y).fst.getD 3 0],(tkN p y).snd)).fst.getD 3 0],(plN ([(tkN p x).fst.getD 0 0,(tkN p x).fst.getD 1 0,(tkN p x).fst.getD 2 0,(tkN p x).fst.getD 3 0],(tkN p x).snd) ([(tkN p y).fst.getD 0 0,(tkN p y).fst.getD 1 0,(tkN p y).fst.getD 2 0,(tkN p y).fst.getD 3 0],(tkN p y).snd)).snd)).fst,.sq (gvN ([(plN ([(tkN p x).fst.getD 0 0,(tkN p x).fst.getD 1 0,(tkN p x).fst.getD 2 0,(tkN p x).fst.getD 3 0],(tkN p x).snd) ([(tkN p y).fst.getD 0 0,(tkN p y).fst.getD 1 0,(tkN p y).fst.getD 2 0,(tkN p y).fst.getD 3 0],(tkN p y).snd)).fst.getD 0 0,(plN ([(tkN p x).fst.getD 0 0,(tkN p x).fst.getD 1 0,(tkN p x).fst.getD 2 0,(tkN p x).fst.getD 3 0],(tkN p x).snd) ([(tkN p y).fst.getD 0 0,(tkN p y).fst.getD 1 0,(tkN p y).fst.getD 2 0,(tkN p y).fst.getD 3 0],(tkN p y).snd)).fst.getD 1 0,(plN ([(tkN p x).fst.getD 0 0,(tkN p x).fst.getD 1 0,(tkN p x).fst.getD 2 0,(tkN p x).fst.getD 3 0],(tkN p x).snd) ([(tkN p y).fst.getD 0 0,(tkN p y).fst.getD 1 0,(tkN p y).fst.getD 2 0,(tkN p y).fst.getD 3 0],(tkN p y).snd)).fst.getD 2 0,(plN ([(tkN p x).fst.getD 0 0,(tkN p x).fst.getD 1 0,(tkN p x).fst.getD 2 0,(tkN p x).fst.getD 3 0],(tkN p x).snd) ([(tkN p y).fst.getD 0 0,(tkN p y).fst.getD 1 0,(tkN p y).fst.getD 2 0,(tkN p y).fst.getD 3 0],(tkN p y).snd)).fst.getD 3 0],(plN ([(tkN p x).fst.getD 0 0,(tkN p x).fst.getD 1 0,(tkN p x).fst.getD 2 0,(tkN p x).fst.getD 3 0],(tkN p x).snd) ([(tkN p y).fst.getD 0 0,(tkN p y).fst.getD 1 0,(tkN p y).fst.getD 2 0,(tkN p y).fst.getD 3 0],(tkN p y).snd)).snd)).snd]):=eZ okQ2 60 [] (.c h1<|.c h2<|.c h3<|.c h4<|.e) [1,2,0,0,0,0,0,0,0,0,0,0,3,0,0,0,0,0,4]
theorem oS_0 (p:List Int) (x y:numK.ty) (h1:pTk p x.fst x.snd) (h2:pTk p y.fst y.snd) (h3:pPl ((tkN p x).fst.getD 0 0) ((tkN p x).fst.getD 1 0) ((tkN p x).fst.getD 2 0) ((tkN p x).fst.getD 3 0) (tkN p x).snd (-(tkN p y).fst.getD 0 0) (-(tkN p y).fst.getD 1 0) (-(tkN p y).fst.getD 2 0) (-(tkN p y).fst.getD 3 0) (tkN p y).snd) (h4:pGv ((plN ([(tkN p x).fst.getD 0 0,(tkN p x).fst.getD 1 0,(tkN p x).fst.getD 2 0,(tkN p x).fst.getD 3 0],(tkN p x).snd) ([-(tkN p y).fst.getD 0 0,-(tkN p y).fst.getD 1 0,-(tkN p y).fst.getD 2 0,-(tkN p y).fst.getD 3 0],(tkN p y).snd)).fst.getD 0 0) ((plN ([(tkN p x).fst.getD 0 0,(tkN p x).fst.getD 1 0,(tkN p x).fst.getD 2 0,(tkN p x).fst.getD 3 0],(tkN p x).snd) ([-(tkN p y).fst.getD 0 0,-(tkN p y).fst.getD 1 0,-(tkN p y).fst.getD 2 0,-(tkN p y).fst.getD 3 0],(tkN p y).snd)).fst.getD 1 0) ((plN ([(tkN p x).fst.getD 0 0,(tkN p x).fst.getD 1 0,(tkN p x).fst.getD 2 0,(tkN p x).fst.getD 3 0],(tkN p x).snd) ([-(tkN p y).fst.getD 0 0,-(tkN p y).fst.getD 1 0,-(tkN p y).fst.getD 2 0,-(tkN p y).fst.getD 3 0],(tkN p y).snd)).fst.getD 2 0) ((plN ([(tkN p x).fst.getD 0 0,(tkN p x).fst.getD 1 0,(tkN p x).fst.getD 2 0,(tkN p x).fst.getD 3 0],(tkN p x).snd) ([-(tkN p y).fst.getD 0 0,-(tkN p y).fst.getD 1 0,-(tkN p y).fst.getD 2 0,-(tkN p y).fst.getD 3 0],(tkN p y).snd)).fst.getD 3 0) (plN ([(tkN p x).fst.getD 0 0,(tkN p x).fst.getD 1 0,(tkN p x).fst.getD 2 0,(tkN p x).fst.getD 3 0],(tkN p x).snd) ([-(tkN p y).fst.getD 0 0,-(tkN p y).fst.getD 1 0,-(tkN p y).fst.getD 2 0,-(tkN p y).fst.getD 3 0],(tkN p y).snd)).snd):FC Tryz.prog 26 [reA (.lst .whole p),numK.val x,numK.val y] (.agg [.lst (EK.sl (.int .i64)) (gvN ([(plN ([(tkN p x).fst.getD 0 0,(tkN p x).fst.getD 1 0,(tkN p x).fst.getD 2 0,(tkN p x).fst.getD 3 0],(tkN p x).snd) ([-(tkN p y).fst.getD 0 0,-(tkN p y).fst.getD 1 0,-(tkN p y).fst.getD 2 0,-(tkN p y).fst.getD 3 0],(tkN p y).snd)).fst.getD 0 0,(plN ([(tkN p x).fst.getD 0 0,(tkN p x).fst.getD 1 0,(tkN p x).fst.getD 2 0,(tkN p x).fst.getD 3 0],(tkN p x).snd) ([-(tkN p y).fst.getD 0 0,-(tkN p y).fst.getD 1 0,-(tkN p y).fst.getD 2 0,-(tkN p y).fst.getD 3 0],(tkN p y).snd)).fst.getD 1 0,(plN ([(tkN p x).fst.getD 0 0,(tkN p x).fst.getD 1 0,(tkN p x).fst.getD 2 0,(tkN p x).fst.getD 3 0],(tkN p x).snd) ([-(tkN p y).fst.getD 0 0,-(tkN p y).fst.getD 1 0,-(tkN p y).fst.getD 2 0,-(tkN p y).fst.getD 3 0],(tkN p y).snd)).fst.getD 2 0,(plN ([(tkN p x).fst.getD 0 0,(tkN p x).fst.getD 1 0,(tkN p x).fst.getD 2 0,(tkN p x).fst.getD 3 0],(tkN p x).snd) ([-(tkN p y).fst.getD 0 0,-(tkN p y).fst.getD 1 0,-(tkN p y).fst.getD 2 0,-(tkN p y).fst.getD 3 0],(tkN p y).snd)).fst.getD 3 0],(plN ([(tkN p x).fst.getD 0 0,(tkN p x).fst.getD 1 0,(tkN p x).fst.getD 2 0,(tkN p x).fst.getD 3 0],(tkN p x).snd) ([-(tkN p y).fst.getD 0 0,-(tkN p y).fst.getD 1 0,-(tkN p y).fst.getD 2 0,-(tkN p y).fst.getD 3 0],(tkN p y).snd)).snd)).fst,.sq (gvN ([(plN ([(tkN p x).fst.getD 0 0,(tkN p x).fst.getD 1 0,(tkN p x).fst.getD 2 0,(tkN p x).fst.getD 3 0],(tkN p x).snd) ([-(tkN p y).fst.getD 0 0,-(tkN p y).fst.getD 1 0,-(tkN p y).fst.getD 2 0,-(tkN p y).fst.getD 3 0],(tkN p y).snd)).fst.getD 0 0,(plN ([(tkN p x).fst.getD 0 0,(tkN p x).fst.getD 1 0,(tkN p x).fst.getD 2 0,(tkN p x).fst.getD 3 0],(tkN p x).snd) ([-(tkN p y).fst.getD 0 0,-(tkN p y).fst.getD 1 0,-(tkN p y).fst.getD 2 0,-(tkN p y).fst.getD 3 0],(tkN p y).snd)).fst.getD 1 0,(plN ([(tkN p x).fst.getD 0 0,(tkN p x).fst.getD 1 0,(tkN p x).fst.getD 2 0,(tkN p x).fst.getD 3 0],(tkN p x).snd) ([-(tkN p y).fst.getD 0 0,-(tkN p y).fst.getD 1 0,-(tkN p y).fst.getD 2 0,-(tkN p y).fst.getD 3 0],(tkN p y).snd)).fst.getD 2 0,(plN ([(tkN p x).fst.getD 0 0,(tkN p x).fst.getD 1 0,(tkN p x).fst.getD 2 0,(tkN p x).fst.getD 3 0],(tkN p x).snd) ([-(tkN p y).fst.getD 0 0,-(tkN p y).fst.getD 1 0,-(tkN p y).fst.getD 2 0,-(tkN p y).fst.getD 3 0],(tkN p y).snd)).fst.getD 3 0],(plN ([(tkN p x).fst.getD 0 0,(tkN p x).fst.getD 1 0,(tkN p x).fst.getD 2 0,(tkN p x).fst.getD 3 0],(tkN p x).snd) ([-(tkN p y).fst.getD 0 0,-(tkN p y).fst.getD 1 0,-(tkN p y).fst.getD 2 0,-(tkN p y).fst.getD 3 0],(tkN p y).snd)).snd)).snd]):=eZ okQ2 60 [] (.c h1<|.c h2<|.c h3<|.c h4<|.o<|.e) [1,2,0,0,0,0,0,0,0,0,0,0,0,0,0,0,0,0,0,0,0,0,0,0,0,0,0,0,0,0,0,0,0,0,0,0,0,0,0,0,3,0,0,0,0,0,4]
theorem oM_0 (p:List Int) (x y:numK.ty) (h1:pTk p x.fst x.snd) (h2:pTk p y.fst y.snd) (h3:zjr p∧pPl ((tkN p x).fst.getD 0 0) ((tkN p x).fst.getD 1 0) ((tkN p x).fst.getD 2 0) ((tkN p x).fst.getD 3 0) (tkN p x).snd ((tkN p y).fst.getD 0 0) ((tkN p y).fst.getD 1 0) ((tkN p y).fst.getD 2 0) ((tkN p y).fst.getD 3 0) (tkN p y).snd) (h4:pGv ((tmN p ([(tkN p x).fst.getD 0 0,(tkN p x).fst.getD 1 0,(tkN p x).fst.getD 2 0,(tkN p x).fst.getD 3 0],(tkN p x).snd) ([(tkN p y).fst.getD 0 0,(tkN p y).fst.getD 1 0,(tkN p y).fst.getD 2 0,(tkN p y).fst.getD 3 0],(tkN p y).snd)).fst.getD 0 0) ((tmN p ([(tkN p x).fst.getD 0 0,(tkN p x).fst.getD 1 0,(tkN p x).fst.getD 2 0,(tkN p x).fst.getD 3 0],(tkN p x).snd) ([(tkN p y).fst.getD 0 0,(tkN p y).fst.getD 1 0,(tkN p y).fst.getD 2 0,(tkN p y).fst.getD 3 0],(tkN p y).snd)).fst.getD 1 0) ((tmN p ([(tkN p x).fst.getD 0 0,(tkN p x).fst.getD 1 0,(tkN p x).fst.getD 2 0,(tkN p x).fst.getD 3 0],(tkN p x).snd) ([(tkN p y).fst.getD 0 0,(tkN p y).fst.getD 1 0,(tkN p y).fst.getD 2 0,(tkN p y).fst.getD 3 0],(tkN p y).snd)).fst.getD 2 0) ((tmN p ([(tkN p x).fst.getD 0 0,(tkN p x).fst.getD 1 0,(tkN p x).fst.getD 2 0,(tkN p x).fst.getD 3 0],(tkN p x).snd) ([(tkN p y).fst.getD 0 0,(tkN p y).fst.getD 1 0,(tkN p y).fst.getD 2 0,(tkN p y).fst.getD 3 0],(tkN p y).snd)).fst.getD 3 0) (tmN p ([(tkN p x).fst.getD 0 0,(tkN p x).fst.getD 1 0,(tkN p x).fst.getD 2 0,(tkN p x).fst.getD 3 0],(tkN p x).snd) ([(tkN p y).fst.getD 0 0,(tkN p y).fst.getD 1 0,(tkN p y).fst.getD 2 0,(tkN p y).fst.getD 3 0],(tkN p y).snd)).snd):FC Tryz.prog 28 [reA (.lst .whole p),numK.val x,numK.val y] (.agg [.lst (EK.sl (.int .i64)) (gvN ([(tmN p ([(tkN p x).fst.getD 0 0,(tkN p x).fst.getD 1 0,(tkN p x).fst.getD 2 0,(tkN p x).fst.getD 3 0],(tkN p x).snd) ([(tkN p y).fst.getD 0 0,(tkN p y).fst.getD 1 0,(tkN p y).fst.getD 2 0,(tkN p y).fst.getD 3 0],(tkN p y).snd)).fst.getD 0 0,(tmN p ([(tkN p x).fst.getD 0 0,(tkN p x).fst.getD 1 0,(tkN p x).fst.getD 2 0,(tkN p x).fst.getD 3 0],(tkN p x).snd) ([(tkN p y).fst.getD 0 0,(tkN p y).fst.getD 1 0,(tkN p y).fst.getD 2 0,(tkN p y).fst.getD 3 0],(tkN p y).snd)).fst.getD 1 0,(tmN p ([(tkN p x).fst.getD 0 0,(tkN p x).fst.getD 1 0,(tkN p x).fst.getD 2 0,(tkN p x).fst.getD 3 0],(tkN p x).snd) ([(tkN p y).fst.getD 0 0,(tkN p y).fst.getD 1 0,(tkN p y).fst.getD 2 0,(tkN p y).fst.getD 3 0],(tkN p y).snd)).fst.getD 2 0,(tmN p ([(tkN p x).fst.getD 0 0,(tkN p x).fst.getD 1 0,(tkN p x).fst.getD 2 0,(tkN p x).fst.getD 3 0],(tkN p x).snd) ([(tkN p y).fst.getD 0 0,(tkN p y).fst.getD 1 0,(tkN p y).fst.getD 2 0,(tkN p y).fst.getD 3 0],(tkN p y).snd)).fst.getD 3 0],(tmN p ([(tkN p x).fst.getD 0 0,(tkN p x).fst.getD 1 0,(tkN p x).fst.getD 2 0,(tkN p x).fst.getD 3 0],(tkN p x).snd) ([(tkN p y).fst.getD 0 0,(tkN p y).fst.getD 1 0,(tkN p y).fst.getD 2 0,(tkN p y).fst.getD 3 0],(tkN p y).snd)).snd)).fst,.sq (gvN ([(tmN p ([(tkN p x).fst.getD 0 0,(tkN p x).fst.getD 1 0,(tkN p x).fst.getD 2 0,(tkN p x).fst.getD 3 0],(tkN p x).snd) ([(tkN p y).fst.getD 0 0,(tkN p y).fst.getD 1 0,(tkN p y).fst.getD 2 0,(tkN p y).fst.getD 3 0],(tkN p y).snd)).fst.getD 0 0,(tmN p ([(tkN p x).fst.getD 0 0,(tkN p x).fst.getD 1 0,(tkN p x).fst.getD 2 0,(tkN p x).fst.getD 3 0],(tkN p x).snd) ([(tkN p y).fst.getD 0 0,(tkN p y).fst.getD 1 0,(tkN p y).fst.getD 2 0,(tkN p y).fst.getD 3 0],(tkN p y).snd)).fst.getD 1 0,(tmN p ([(tkN p x).fst.getD 0 0,(tkN p x).fst.getD 1 0,(tkN p x).fst.getD 2 0,(tkN p x).fst.getD 3 0],(tkN p x).snd) ([(tkN p y).fst.getD 0 0,(tkN p y).fst.getD 1 0,(tkN p y).fst.getD 2 0,(tkN p y).fst.getD 3 0],(tkN p y).snd)).fst.getD 2 0,(tmN p ([(tkN p x).fst.getD 0 0,(tkN p x).fst.getD 1 0,(tkN p x).fst.getD 2 0,(tkN p x).fst.getD 3 0],(tkN p x).snd) ([(tkN p y).fst.getD 0 0,(tkN p y).fst.getD 1 0,(tkN p y).fst.getD 2 0,(tkN p y).fst.getD 3 0],(tkN p y).snd)).fst.getD 3 0],(tmN p ([(tkN p x).fst.getD 0 0,(tkN p x).fst.getD 1 0,(tkN p x).fst.getD 2 0,(tkN p x).fst.getD 3 0],(tkN p x).snd) ([(tkN p y).fst.getD 0 0,(tkN p y).fst.getD 1 0,(tkN p y).fst.getD 2 0,(tkN p y).fst.getD 3 0],(tkN p y).snd)).snd)).snd]):=eZ okQ2 60 [] (.c h1<|.c h2<|.c h3<|.c h4<|.e) [1,2,0,0,0,0,0,0,0,0,0,0,3,0,0,0,0,0,4]
end
def pPlN (u v:NZ):Prop:=pPl (u.1.getD 0 0) (u.1.getD 1 0) (u.1.getD 2 0) (u.1.getD 3 0) u.2 (v.1.getD 0 0) (v.1.getD 1 0) (v.1.getD 2 0) (v.1.getD 3 0) v.2
def pGvN (u:NZ):Prop:=pGv (u.1.getD 0 0) (u.1.getD 1 0) (u.1.getD 2 0) (u.1.getD 3 0) u.2
theorem RAdd_fc (p:List Int) (x y:numK.ty) (hx:pTk p x.1 x.2) (hy:pTk p y.1 y.2) (h:pPlN (tkN p x) (tkN p y)) (hg:pGvN (plN (tkN p x) (tkN p y))):FC Tryz.prog 24 [reA (.lst .whole p),numK.val x,numK.val y] (numK.val (gvN (plN (tkN p x) (tkN p y)))):=oA_0 p x y hx hy h hg
theorem RSub_fc (p:List Int) (x y:numK.ty) (hx:pTk p x.1 x.2) (hy:pTk p y.1 y.2) (h:pPlN (tkN p x) (ngN (tkN p y))) (hg:pGvN (plN (tkN p x) (ngN (tkN p y)))):FC Tryz.prog 26 [reA (.lst .whole p),numK.val x,numK.val y] (numK.val (gvN (plN (tkN p x) (ngN (tkN p y))))):=oS_0 p x y hx hy h hg
theorem RMul_fc (p:List Int) (x y:numK.ty) (hx:pTk p x.1 x.2) (hy:pTk p y.1 y.2) (hp:zjr p) (h:pPlN (tkN p x) (tkN p y)) (hg:pGvN (tmN p (tkN p x) (tkN p y))):FC Tryz.prog 28 [reA (.lst .whole p),numK.val x,numK.val y] (numK.val (gvN (tmN p (tkN p x) (tkN p y)))):=oM_0 p x y hx hy ⟨hp,h⟩ hg
end Go.Proofs.YtloaeinogiplbaaGreatDoor
end
section
open Go Go.Ev Go.RowKit
namespace Go.Proofs.YtloaeinogiplbaaGreatDoor
open Go.Proofs
set_option maxRecDepth 100000
set_option maxHeartbeats 1000000
set_option linter.unusedVariables false
set_option linter.unusedSimpArgs false
noncomputable section
end
open Go.Kf
abbrev qO (p:List Int):List Int:=p.take (p.length-1)
theorem zjP {p:List Int} (h:zjr p):(qO p).length=p.length-1:=by rw [List.length_take];omega
theorem zm3 {p:List Int} (h:zjr p):(qO p).length≤4:=by rw [zjP h];have:=h.2.1;omega
theorem qO_1 {p:List Int} (h:zjr p):1≤(qO p).length:=by rw [zjP h];have:=h.1;omega
theorem pPol_sz {p:List Int} (h:zjr p) (j:Nat):Sz 1 (p.getD j 0):=by
 by_cases hj:j<p.length
 ·have:=h.2.2 (p.getD j 0) (by simp_all)
  exact Sz.lit (by omega) (by decide)
 ·rw [List.getD_eq_getElem?_getD,List.getElem?_eq_none (by omega)];exact Sz.zero
def Bd (m:Nat) (u:NZ):Prop:=Sz m u.2∧∀i,Sz m (u.1.getD i 0)
theorem Bd.mono {m k:Nat} {u:NZ} (h:Bd m u) (hk:m≤k):Bd k u:=⟨h.1.mono hk,fun i=>(h.2 i).mono hk⟩
theorem zmq {m:Nat} {a b c:Int} (h:a*b=c) (hb:b≠0) (hc:Sz m c):Sz m a:=by
 refine Sz.le hc ?_
 rw [← h,Int.natAbs_mul]
 exact Nat.le_mul_of_pos_right _ (by omega)
theorem low_bd {m:Nat} {c:List Int} {d:Int} (hd:d≠0) (hD:Sz m d) (hc:∀i,Sz m (c.getD i 0)):Bd m (zdU c d):=by
 have hz:=zh7 (c:=c) hd
 refine ⟨zmq (zbP c d) hz hD,fun i=>?_⟩
 match i with
 | 0=>exact zmq (zbO c d 0) hz (hc 0)
 | 1=>exact zmq (zbO c d 1) hz (hc 1)
 | 2=>exact zmq (zbO c d 2) hz (hc 2)
 | 3=>exact zmq (zbO c d 3) hz (hc 3)
 | k+4=>exact Sz.zero
theorem zp5 {m k:Nat} {u v:NZ} (hu:Bd m u) (hv:Bd k v) (h1:0<u.2) (h2:0<v.2):Bd (m+k+1) (plN u v):=by
 have hd:=Int.mul_pos h1 h2
 have s:∀i,Sz (m+k+1) (u.1.getD i 0*v.2+v.1.getD i 0*u.2):=fun i=>Sz.add ((hu.2 i).mul hv.1) ((hv.2 i).mul hu.1) (by omega) (by omega)
 refine low_bd (by omega) ((hu.1.mul hv.1).mono (by omega)) fun i=>?_
 match i with
 | 0=>exact s 0
 | 1=>exact s 1
 | 2=>exact s 2
 | 3=>exact s 3
 | k+4=>exact Sz.zero
theorem ng_bd {m:Nat} {u:NZ} (hu:Bd m u):Bd m (ngN u):=by
 refine ⟨hu.1,fun i=>?_⟩
 match i with
 | 0=>exact(hu.2 0).neg
 | 1=>exact(hu.2 1).neg
 | 2=>exact(hu.2 2).neg
 | 3=>exact(hu.2 3).neg
 | k+4=>exact Sz.zero
theorem redP_sz {p c:List Int} {n A:Nat} (hp:∀j,Sz 1 (p.getD j 0)) (hc:∀j,Sz A (c.getD j 0)) (j:Nat):Sz (A+2*(c.length-n)) ((zat p n c).getD j 0):=by
 unfold zat
 rw [zbK]
 by_cases h:n≤c.length
 ·split
  ·exact ziB hp hc _ (by omega) j
  ·exact Sz.zero
 ·rw [show c.length-n=0 by omega]
  split
  ·exact(hc j).mono (by omega)
  ·exact Sz.zero
theorem zkT {p c:List Int} {d:Int} (h:zjr p):val (qO p) (zat p (p.length-1) c) d=val (qO p) c d:=by
 unfold val
 have:=redP_ev (q:=p) (c:=c) (n:=p.length-1) (by have:=h.1;omega) (by omega)
 rw [zjP h,this]
theorem zgI {p c:List Int} (h:zjr p):zo8 (qO p) (zat p (p.length-1) c):=by
 refine shrt_of ?_
 have:=zfR p (p.length-1) c
 rw [zjP h];exact this
theorem tms_get {n:Nat} {a b c e f g h i:Int} (h1:1≤n) (h4:n≤4) (hx:∀j,n≤j→[a,b,c,e].getD j 0=0) (hy:∀j,n≤j→[f,g,h,i].getD j 0=0) (j:Nat):(tmS n a b c e f g h i).getD j 0=(cvZ [a,b,c,e] [f,g,h,i]).getD j 0:=by
 have x3:=hx 3;have x2:=hx 2;have x1:=hx 1
 have y3:=hy 3;have y2:=hy 2;have y1:=hy 1
 simp only [List.getD_cons_succ,List.getD_cons_zero] at x1 x2 x3 y1 y2 y3
 obtain rfl | rfl | rfl | rfl:n=1∨n=2∨n=3∨n=4:=by omega
 ·have:=x1 (by omega);have:=x2 (by omega);have:=x3 (by omega);have:=y1 (by omega);have:=y2 (by omega);have:=y3 (by omega)
  subst_vars
  rcases j with _|_|_|_|_|_|_|j<;>simp [tmS,cvZ,zmZ,smZ]
 ·have:=x2 (by omega);have:=x3 (by omega);have:=y2 (by omega);have:=y3 (by omega)
  subst_vars
  rcases j with _|_|_|_|_|_|_|j<;>simp [tmS,cvZ,zmZ,smZ]
 ·have:=x3 (by omega);have:=y3 (by omega)
  subst_vars
  rcases j with _|_|_|_|_|_|_|j<;>simp [tmS,cvZ,zmZ,smZ]<;>try omega
 ·rcases j with _|_|_|_|_|_|_|j<;>simp [tmS,cvZ,zmZ,smZ]<;>try omega
theorem tms_len {n:Nat} (h1:1≤n) (h4:n≤4) (a b c e f g h i:Int):(tmS n a b c e f g h i).length-n≤3:=by
 obtain rfl | rfl | rfl | rfl:n=1∨n=2∨n=3∨n=4:=by omega
 all_goals (simp [tmS])
theorem cv_sz {m k:Nat} {a b c e f g h i:Int} (ha:Sz m a) (hb:Sz m b) (hc:Sz m c) (he:Sz m e) (hf:Sz k f) (hg:Sz k g) (hh:Sz k h) (hi:Sz k i) {n:Nat} (h1:1≤n) (h4:n≤4) (j:Nat):Sz (m+k+4) ((tmS n a b c e f g h i).getD j 0):=by
 have z:∀ {k:Nat},Sz k 0:=Sz.zero
 have A:∀ {r:Nat} {x y:Int},Sz (m+k+r) x→Sz (m+k) y→Sz (m+k+(r+1)) (x+y):=fun hx hy=>hx.add hy (by omega) (by omega)
 have M:∀ {r:Nat} {x:Int},Sz (m+k+r) x→r≤4→Sz (m+k+4) x:=fun h hr=>h.mono (by omega)
 obtain rfl | rfl | rfl | rfl:n=1∨n=2∨n=3∨n=4:=by omega
 ·rcases j with _|j
  ·exact M (A (r:=0) z (ha.mul hf)) (by omega)
  ·exact z
 ·rcases j with _|_|_|j
  ·exact M (A (r:=0) z (ha.mul hf)) (by omega)
  ·exact M (A (A (r:=0) z (ha.mul hg)) (hb.mul hf)) (by omega)
  ·exact M (A (r:=0) z (hb.mul hg)) (by omega)
  ·exact z
 ·rcases j with _|_|_|_|_|j
  ·exact M (A (r:=0) z (ha.mul hf)) (by omega)
  ·exact M (A (A (r:=0) z (ha.mul hg)) (hb.mul hf)) (by omega)
  ·exact M (A (A (A (r:=0) z (ha.mul hh)) (hb.mul hg)) (hc.mul hf)) (by omega)
  ·exact M (A (A (r:=0) z (hb.mul hh)) (hc.mul hg)) (by omega)
  ·exact M (A (r:=0) z (hc.mul hh)) (by omega)
  ·exact z
 ·rcases j with _|_|_|_|_|_|_|j
  ·exact M (A (r:=0) z (ha.mul hf)) (by omega)
  ·exact M (A (A (r:=0) z (ha.mul hg)) (hb.mul hf)) (by omega)
  ·exact M (A (A (A (r:=0) z (ha.mul hh)) (hb.mul hg)) (hc.mul hf)) (by omega)
  ·exact M (A (A (A (A (r:=0) z (ha.mul hi)) (hb.mul hh)) (hc.mul hg)) (he.mul hf)) (by omega)
  ·exact M (A (A (A (r:=0) z (hb.mul hi)) (hc.mul hh)) (he.mul hg)) (by omega)
  ·exact M (A (A (r:=0) z (hc.mul hi)) (he.mul hh)) (by omega)
  ·exact M (A (r:=0) z (he.mul hi)) (by omega)
  ·exact z
theorem tm_ok {p:List Int} (h:zjr p) {u v:NZ} (hu:Nrm (qO p) u) (hv:Nrm (qO p) v) {m k:Nat} (bu:Bd m u) (bv:Bd k v):Nrm (qO p) (tmN p u v)∧nv (qO p) (tmN p u v)=Go.Kf.mul (qO p).length (pV (qO p)) (nv (qO p) u) (nv (qO p) v)∧Bd (m+k+10) (tmN p u v):=by
 have h4:=zm3 h
 have h1:=qO_1 h
 have hl:=zjP h
 have hn1:1≤p.length-1:=by omega
 have hn4:p.length-1≤4:=by omega
 have hd:=Int.mul_pos hu.pos hv.pos
 have hd0:u.2*v.2≠0:=by omega
 obtain ⟨x,d⟩:=u
 obtain ⟨y,j⟩:=v
 have ex:[x.getD 0 0,x.getD 1 0,x.getD 2 0,x.getD 3 0]=x:=by
  have:=congrArg Prod.fst hu.low
  simp only [zdU] at this
  rw [← this];rfl
 have ey:[y.getD 0 0,y.getD 1 0,y.getD 2 0,y.getD 3 0]=y:=by
  have:=congrArg Prod.fst hv.low
  simp only [zdU] at this
  rw [← this];rfl
 have hg:=tms_get (n:=p.length-1) (a:=x.getD 0 0) (b:=x.getD 1 0) (c:=x.getD 2 0) (e:=x.getD 3 0) (f:=y.getD 0 0) (g:=y.getD 1 0) (h:=y.getD 2 0) (i:=y.getD 3 0) hn1 hn4 (by rw [ex];intro i hi;exact hu.sh i (by omega)) (by rw [ey];intro i hi;exact hv.sh i (by omega))
 rw [ex,ey] at hg
 refine ⟨ziq h4 hd0 (zgI h),?_,?_⟩
 ·show nv (qO p) (zdU _ _)=_
  rw [zir h4 hd0 (zgI h),zkT h,zfi hg]
  have p1:=hu.pos
  have p2:=hv.pos
  exact val_mul h1 (by simp only at p1;omega) (by simp only at p2;omega)
 ·refine low_bd hd0 ((bu.1.mul bv.1).mono (by omega)) fun i=>?_
  have hs:∀j,Sz (m+k+4) ((tmS (p.length-1) (x.getD 0 0) (x.getD 1 0) (x.getD 2 0) (x.getD 3 0) (y.getD 0 0) (y.getD 1 0) (y.getD 2 0) (y.getD 3 0)).getD j 0):=cv_sz (bu.2 0) (bu.2 1) (bu.2 2) (bu.2 3) (bv.2 0) (bv.2 1) (bv.2 2) (bv.2 3) hn1 hn4
  have hL:=tms_len hn1 hn4 (x.getD 0 0) (x.getD 1 0) (x.getD 2 0) (x.getD 3 0) (y.getD 0 0) (y.getD 1 0) (y.getD 2 0) (y.getD 3 0)
  exact(redP_sz (pPol_sz h) hs i).mono (by omega)
theorem tk_ok {p:List Int} {x:numK.ty} {A:Nat} (h:pTk p x.1 x.2) (h0:1≤A) (hc:∀l∈x.1,Sz A (vl l)) (hD:Sz A (vl x.2)):Nrm (qO p) (tkN p x)∧nv (qO p) (tkN p x)=val (qO p) (vlL x.1) (zpp x.2)∧Bd (A+2*x.1.length) (tkN p x):=by
 have hP:zjr p:=h.1
 have h4:=zm3 hP
 have hd0:=denZ_ne x.2
 have hz:∀j,Sz A ((vlL x.1).getD j 0):=fun j=>by
  by_cases hj:j<(vlL x.1).length
  ·rw [List.getD_eq_getElem?_getD,List.getElem?_eq_getElem hj]
   obtain ⟨l,hl,e⟩:=List.mem_map.1 (List.getElem_mem hj)
   grind
  ·rw [List.getD_eq_getElem?_getD,List.getElem?_eq_none (by omega)];exact Sz.zero
 refine ⟨ziq h4 hd0 (zgI hP),?_,?_⟩
 ·show nv (qO p) (zdU _ _)=_
  rw [zir h4 hd0 (zgI hP),zkT hP]
 ·refine low_bd hd0 ?_ fun i=>?_
  ·unfold zpp
   split
   ·exact Sz.lit (by decide) (by omega)
   ·exact hD.mono (by omega)
  ·have:=redP_sz (p:=p) (n:=p.length-1) (pPol_sz hP) hz i
   rw [zc2] at this
   exact this.mono (by omega)
theorem tk_gv {p:List Int} (h:zjr p) {u:NZ} (hu:Nrm (qO p) u):tkN p (gvN u)=u:=by
 have hp:=hu.pos
 have hl:=zjP h
 have e1:vlL (gvN u).1=za4 u.1:=by
  show((za4 u.1).map aZ).map vl=_
  rw [List.map_map]
  conv=>rhs;rw [← List.map_id (za4 u.1)]
  exact List.map_congr_left fun z _=>bZ z
 have e2:zpp (gvN u).2=u.2:=by
  show zpp (aZ u.2)=_
  unfold zpp
  rw [bZ,if_neg (by omega)]
 have hlen:(za4 u.1).length≤p.length-1:=by
  rcases zeL u.1 with h0 | h0
  ·rw [h0];exact Nat.zero_le _
  ·apply Nat.le_of_not_lt
   intro hlt
   apply h0
   rw [List.getLastD_eq_getLast?,List.getLast?_eq_getElem?]
   have:=zbv u.1 ((za4 u.1).length-1)
   rw [hu.sh _ (by omega),List.getD_eq_getElem?_getD] at this
   exact this
 have e3:zat p (p.length-1) (za4 u.1)=za4 u.1:=by
  unfold zat
  rw [show(za4 u.1).length-(p.length-1)=0 by omega]
  exact List.take_of_length_le hlen
 show zdU _ _=_
 rw [e1,e2,e3,low_get (by omega) (zbv u.1)]
 exact hu.low
noncomputable section
end
open Go.Kf
instance tstRdc {p c:List Int} {d:Int}:Tst (znG p c d):=
 have:Tst (∀j,Sz 20000 (c.getD j 0)):=⟨Tst.b (SzL 20000 c),fun h=>szLg (Tst.ok h)⟩
 inferInstanceAs (Tst ((2≤p.length∧p.length≤5∧∀x∈p,x.natAbs≤1000)∧c≠[]∧c.length≤100∧(∀j,Sz 20000 (c.getD j 0))∧d≠0∧Sz 20000 d))
def cRdK (args:List AV):M AV:=match args with
 | [x,c,y]=>do
  let p ← asRL x
  let l ← asWL c
  let d ← asW y
  tellD (znG p l d) (Tst.b (znG p l d))
  gives (nuF (zat p (p.length-1) l) d)
 | _=>fail 312
theorem cRdK_ok:kZ Tryz.prog 134 cRdK:=by
 intro args _
 unfold cRdK
 split
 ·exact Spec.bind (asRL_spec.mono fun p hp=>Spec.bind (asWL_spec.mono fun l hl=>Spec.bind (asW_spec.mono fun d hd=>Spec.bind (Spec.tellD Tst.ok fun h=>Spec.gives ((ziO p l d h).le (.cons hp (.cons hl (.cons hd .nil))) (Le.refl _))))))
 ·exact Spec.fail
def pTmK (p:List Int):Prop:=2≤p.length∧p.length≤5∧∀x∈p,x.natAbs≤1000
instance tstTmK {p:List Int}:Tst (pTmK p):=inferInstanceAs (Tst (2≤p.length∧p.length≤5∧∀x∈p,x.natAbs≤1000))
def cTmK (args:List AV):M AV:=match args with
 | [r,x,y]=>do
  let p ← asRL r
  let q ← zrY x
  let q2 ← zrY y
  match q,q2 with
  | (a,b,c,e,d),(f,g,h,i,j)=>do
   tellD (pTmK p∧pNs a b c e d∧pNs f g h i j) (Tst.b (pTmK p∧pNs a b c e d∧pNs f g h i j))
   gives (nuF (zat p (p.length-1) (tmS (p.length-1) a b c e f g h i)) (d*j))
 | _=>fail 263
theorem cTmK_ok:kZ Tryz.prog 84 cTmK:=by
 intro args _
 unfold cTmK
 split
 ·exact Spec.bind (asRL_spec.mono fun p hp=>Spec.bind (asNu_spec.mono fun q hq=>Spec.bind (asNu_spec.mono fun q2 hq2=>Spec.bind (Spec.tellD Tst.ok fun h=>Spec.gives ((ntm_fc p _ _ _ _ _ _ _ _ _ _ h.1.1 h.1.2.1 h.1.2.2 h.2.1 h.2.2).le (.cons hp (.cons hq (.cons hq2 .nil))) (Le.refl _))))))
 ·exact Spec.fail
def zfo:Ctr:=(84,cTmK) :: (92,cNp) :: (134,cRdK) :: ctrL
theorem zlq:∀p∈zfo,kZ Tryz.prog p.1 p.2:=CAll.cons cTmK_ok<|CAll.cons cNp_ok<|CAll.cons cRdK_ok zoa
theorem okAw:(dZ Tryz.prog zfo bw).OK:=TZ zlq
end Go.Proofs.YtloaeinogiplbaaGreatDoor
end
section
namespace Go.Proofs
open Go.Shelf
def Tryz.lays169_ren:Go.Shelf.Ren:=⟨fun | 169=>174 | n=>n,fun | 70=>189 | 9=>9 | 0=>0 | 72=>192 | 37=>190 | 127=>226 | 3=>3 | 5=>5 | n=>n,fun | n=>n⟩
theorem Tryz.lays169:Go.Proofs.Lays.n169 Tryz.prog Tryz.lays169_ren:={
 mixed:=by kernel_rfl
 f169:=Tryz.func174.trans (congrArg some (by kernel_rfl))
 t0:=Tryz.underlying0
 a0:=Tryz.isAgg0
 z0:=Tryz.sizeOf0
 v0:=Tryz.zeroValue0
 t3:=Tryz.underlying3
 a3:=Tryz.isAgg3
 z3:=Tryz.sizeOf3
 v3:=Tryz.zeroValue3
 t9:=Tryz.underlying9
 a9:=Tryz.isAgg9
 z9:=Tryz.sizeOf9
 v9:=Tryz.zeroValue9
 t37:=Tryz.underlying190
 a37:=Tryz.isAgg190
 z37:=Tryz.sizeOf190
 v37:=Tryz.zeroValue190
 t70:=Tryz.underlying189
 a70:=Tryz.isAgg189
 z70:=Tryz.sizeOf189
 v70:=Tryz.zeroValue189
 t72:=Tryz.underlying192
 a72:=Tryz.isAgg192
 z72:=Tryz.sizeOf192
 v72:=Tryz.zeroValue192
 t127:=Tryz.underlying226
 a127:=Tryz.isAgg226
 z127:=Tryz.sizeOf226
 v127:=Tryz.zeroValue226 }
theorem Tryz.Builder_Extra_169:Builder.Extra Tryz.prog Tryz.lays169_ren:={
 sizeBuilder:=by kernel_rfl
 liesBuilder:=by kernel_rfl
 t5:=Tryz.underlying5
 a5:=Tryz.isAgg5
 z5:=Tryz.sizeOf5
 v5:=Tryz.zeroValue5
 infoByte:=by kernel_rfl
 cellsByte:=by kernel_rfl
 sizeByte:=by kernel_rfl
 neB5:=by decide }
def Tryz.lays156_ren:Go.Shelf.Ren:=⟨fun | 156=>131 | 165=>172 | 166=>173 | 169=>174 | 240=>211 | 241=>212 | 276=>240 | 277=>241 | n=>n,fun | 31=>150 | 9=>9 | 3=>3 | 4=>4 | 0=>0 | 20=>20 | 72=>192 | 76=>185 | 70=>189 | 37=>190 | 75=>184 | 127=>226 | 164=>245 | 5=>5 | 80=>187 | n=>n,fun | n=>n⟩
theorem Tryz.lays156:Go.Proofs.Lays.n156 Tryz.prog Tryz.lays156_ren:={
 mixed:=by kernel_rfl
 f156:=Tryz.func131.trans (congrArg some (by kernel_rfl))
 f165:=Tryz.func172.trans (congrArg some (by kernel_rfl))
 f166:=Tryz.func173.trans (congrArg some (by kernel_rfl))
 f169:=Tryz.func174.trans (congrArg some (by kernel_rfl))
 f240:=Tryz.func211.trans (congrArg some (by kernel_rfl))
 f241:=Tryz.func212.trans (congrArg some (by kernel_rfl))
 f276:=Tryz.func240.trans (congrArg some (by kernel_rfl))
 f277:=Tryz.func241.trans (congrArg some (by kernel_rfl))
 t0:=Tryz.underlying0
 a0:=Tryz.isAgg0
 z0:=Tryz.sizeOf0
 v0:=Tryz.zeroValue0
 t3:=Tryz.underlying3
 a3:=Tryz.isAgg3
 z3:=Tryz.sizeOf3
 v3:=Tryz.zeroValue3
 t4:=Tryz.underlying4
 a4:=Tryz.isAgg4
 z4:=Tryz.sizeOf4
 v4:=Tryz.zeroValue4
 t9:=Tryz.underlying9
 a9:=Tryz.isAgg9
 z9:=Tryz.sizeOf9
 v9:=Tryz.zeroValue9
 t20:=Tryz.underlying20
 a20:=Tryz.isAgg20
 z20:=Tryz.sizeOf20
 v20:=Tryz.zeroValue20
 t31:=Tryz.underlying150
 a31:=Tryz.isAgg150
 z31:=Tryz.sizeOf150
 v31:=Tryz.zeroValue150
 t37:=Tryz.underlying190
 a37:=Tryz.isAgg190
 z37:=Tryz.sizeOf190
 v37:=Tryz.zeroValue190
 t70:=Tryz.underlying189
 a70:=Tryz.isAgg189
 z70:=Tryz.sizeOf189
 v70:=Tryz.zeroValue189
 t72:=Tryz.underlying192
 a72:=Tryz.isAgg192
 z72:=Tryz.sizeOf192
 v72:=Tryz.zeroValue192
 t75:=Tryz.underlying184
 a75:=Tryz.isAgg184
 z75:=Tryz.sizeOf184
 v75:=Tryz.zeroValue184
 t76:=Tryz.underlying185
 a76:=Tryz.isAgg185
 z76:=Tryz.sizeOf185
 v76:=Tryz.zeroValue185
 t127:=Tryz.underlying226
 a127:=Tryz.isAgg226
 z127:=Tryz.sizeOf226
 v127:=Tryz.zeroValue226
 t164:=Tryz.underlying245
 a164:=Tryz.isAgg245
 z164:=Tryz.sizeOf245
 v164:=Tryz.zeroValue245 }
theorem Tryz.Builder_Extra_156:Builder.Extra Tryz.prog Tryz.lays156_ren:={
 sizeBuilder:=by kernel_rfl
 liesBuilder:=by kernel_rfl
 t5:=Tryz.underlying5
 a5:=Tryz.isAgg5
 z5:=Tryz.sizeOf5
 v5:=Tryz.zeroValue5
 infoByte:=by kernel_rfl
 cellsByte:=by kernel_rfl
 sizeByte:=by kernel_rfl
 neB5:=by decide }
open Go.RowKit in
theorem Tryz.strings_Join (bk o c:Nat) (xs:List ByteArray) (sep:ByteArray) (w:World) (hcells:∀(j:Nat) x,xs[j]? = some x→w.cell? ⟨bk,o+j,none⟩=some (.string x)) (hbk:bk<w.heap.size) (hN:xs.length≤140737488355328) (hcap:xs.length≤c) (hlen:(Lib.join (xs.map (·.data.toList)) sep.data.toList).length≤140737488355328) :
 Calls Tryz.prog 131 #[.slice (some ⟨bk,o,none⟩) xs.length c,.string sep] w fun e w'=>e=.returned (.string ⟨(Lib.join (xs.map (·.data.toList)) sep.data.toList).toArray⟩)∧Below w.heap.size w w':=Any.strings_Join Tryz.lays156 Tryz.Builder_Extra_156 bk o c xs sep w hcells hbk hN hcap hlen
open Go.RowKit in
theorem Tryz.Builder_String_any_k (B b:Nat) (l:List UInt8) (w:World) (h:Lib.IsBuilderF 192 5 B b (Lib.byteCells l) w) (hBw:B≤w.heap.size) :
 Calls Tryz.prog 174 #[.pointer (some ⟨b,0,none⟩)] w fun e w'=>e=.returned (.string ⟨l.toArray⟩)∧(Lib.IsBuilderF 192 5 B b (Lib.byteCells l) w'∧Below B w w'∧Lib.OthersKept 5 (some b) w w'):=Any.Builder_String_any_k Tryz.lays169 Tryz.Builder_Extra_169 B b l w h hBw
def Tryz.lays171_ren:Go.Shelf.Ren:=⟨fun | 171=>206 | 243=>234 | 246=>250 | 283=>257 | 284=>258 | 285=>259 | 286=>260 | 129=>262 | 317=>261 | 318=>263 | 319=>264 | 320=>265 | 337=>266 | 338=>267 | n=>n,fun | 3=>3 | 9=>9 | 2=>2 | 4=>4 | 171=>273 | 0=>0 | 53=>252 | 37=>190 | 5=>5 | 173=>276 | 212=>279 | 51=>248 | 20=>20 | 213=>280 | 46=>230 | 232=>283 | 233=>284 | n=>n,fun | 17=>5 | 18=>6 | 19=>7 | n=>n⟩
theorem Tryz.lays171:Go.Proofs.Lays.n171 Tryz.prog Tryz.lays171_ren:={
 mixed:=by kernel_rfl
 f129:=Tryz.func262.trans (congrArg some (by kernel_rfl))
 f171:=Tryz.func206.trans (congrArg some (by kernel_rfl))
 f243:=Tryz.func234.trans (congrArg some (by kernel_rfl))
 f246:=Tryz.func250.trans (congrArg some (by kernel_rfl))
 f283:=Tryz.func257.trans (congrArg some (by kernel_rfl))
 f284:=Tryz.func258.trans (congrArg some (by kernel_rfl))
 f285:=Tryz.func259.trans (congrArg some (by kernel_rfl))
 f286:=Tryz.func260.trans (congrArg some (by kernel_rfl))
 f317:=Tryz.func261.trans (congrArg some (by kernel_rfl))
 f318:=Tryz.func263.trans (congrArg some (by kernel_rfl))
 f319:=Tryz.func264.trans (congrArg some (by kernel_rfl))
 f320:=Tryz.func265.trans (congrArg some (by kernel_rfl))
 f337:=Tryz.func266.trans (congrArg some (by kernel_rfl))
 f338:=Tryz.func267.trans (congrArg some (by kernel_rfl))
 t0:=Tryz.underlying0
 a0:=Tryz.isAgg0
 z0:=Tryz.sizeOf0
 v0:=Tryz.zeroValue0
 t2:=Tryz.underlying2
 a2:=Tryz.isAgg2
 z2:=Tryz.sizeOf2
 v2:=Tryz.zeroValue2
 t3:=Tryz.underlying3
 a3:=Tryz.isAgg3
 z3:=Tryz.sizeOf3
 v3:=Tryz.zeroValue3
 t4:=Tryz.underlying4
 a4:=Tryz.isAgg4
 z4:=Tryz.sizeOf4
 v4:=Tryz.zeroValue4
 t5:=Tryz.underlying5
 a5:=Tryz.isAgg5
 z5:=Tryz.sizeOf5
 v5:=Tryz.zeroValue5
 t9:=Tryz.underlying9
 a9:=Tryz.isAgg9
 z9:=Tryz.sizeOf9
 v9:=Tryz.zeroValue9
 t20:=Tryz.underlying20
 a20:=Tryz.isAgg20
 z20:=Tryz.sizeOf20
 v20:=Tryz.zeroValue20
 t37:=Tryz.underlying190
 a37:=Tryz.isAgg190
 z37:=Tryz.sizeOf190
 v37:=Tryz.zeroValue190
 t46:=Tryz.underlying230
 a46:=Tryz.isAgg230
 z46:=Tryz.sizeOf230
 v46:=Tryz.zeroValue230
 t51:=Tryz.underlying248
 a51:=Tryz.isAgg248
 z51:=Tryz.sizeOf248
 v51:=Tryz.zeroValue248
 t53:=Tryz.underlying252
 a53:=Tryz.isAgg252
 z53:=Tryz.sizeOf252
 v53:=Tryz.zeroValue252
 t171:=Tryz.underlying273
 a171:=Tryz.isAgg273
 z171:=Tryz.sizeOf273
 v171:=Tryz.zeroValue273
 t173:=Tryz.underlying276
 a173:=Tryz.isAgg276
 z173:=Tryz.sizeOf276
 v173:=Tryz.zeroValue276
 t212:=Tryz.underlying279
 a212:=Tryz.isAgg279
 z212:=Tryz.sizeOf279
 v212:=Tryz.zeroValue279
 t213:=Tryz.underlying280
 a213:=Tryz.isAgg280
 z213:=Tryz.sizeOf280
 t232:=Tryz.underlying283
 a232:=Tryz.isAgg283
 z232:=Tryz.sizeOf283
 v232:=Tryz.zeroValue283
 t233:=Tryz.underlying284
 a233:=Tryz.isAgg284
 z233:=Tryz.sizeOf284
 v233:=Tryz.zeroValue284
 g17:=by kernel_rfl
 g18:=by kernel_rfl
 g19:=by kernel_rfl }
open Go.RowKit Go.Sort Go.Lib in
theorem Tryz.strconv_Itoa_small (i:Nat) (hi:i<100) (w:World) :
 Calls Tryz.prog 206 #[.int .i64 i] w fun e w'=>e=.returned (.string ⟨(Lib.decDigits i).toArray⟩)∧w'=w:=Any.strconv_Itoa_small Tryz.lays171 i hi w
end Go.Proofs
end
section
open Go Go.RowKit
namespace Go.Proofs
set_option maxRecDepth 100000
set_option maxHeartbeats 4000000
set_option linter.unusedVariables false
set_option linter.unusedSimpArgs false
theorem Tryz.write_k (B b:Nat) (bs:List Value) (s:ByteArray) (w:World) (h:Lib.IsBuilderF 192 5 B b bs w) (hlen:bs.length+s.size≤140737488355328) (hBw:B≤w.heap.size) :
 Calls Tryz.prog 173 #[.pointer (some ⟨b,0,none⟩),.string s] w fun e w'=>e=.returned (.tuple #[.int .i64 s.size,.nilIface])∧(Lib.BuilderAtF 192 5 B b (.pointer (some ⟨b,0,none⟩)) (bs++Lib.strCells s) w'∧Below B w w'∧Lib.OthersKept 5 (some b) w w'):=
 Any.Builder_WriteString_k { Tryz.lays156 with } Tryz.Builder_Extra_156 B b bs s w h hlen hBw
def TxtIs (w:World) (l:List UInt8) (e:Ending) (w':World):Prop:=e=.returned (.string ⟨l.toArray⟩)∧Below w.heap.size w w'
theorem text_zero (neg:Bool) (a:Option Addr) (cap:Nat) (w:World) :
 Calls Tryz.prog 170 #[.agg #[.bool neg,.slice a 0 cap]] w (TxtIs w [48]):=by
 go_enter Tryz.func170,Tryz.ntmps170
 go_wp2
 go_ret
 exact ⟨rfl,(Below.refl _ _).alloc (Nat.le_refl _) _⟩
def TR (B:Nat) (W1:World) (l0 l1:List UInt8) (i:Value) (wr:World):Prop:=
 (i=.int .i64 0∧Lib.IsBuilderF 192 5 B B (Lib.byteCells l0) wr∧Below B W1 wr)∨(i=.int .i64 (-1)∧Lib.IsBuilderF 192 5 B B (Lib.byteCells l1) wr∧Below B W1 wr)
theorem zfp (d:Nat) (hd:d<100):(Lib.decDigits d).length≤2:=by
 by_cases h:d<10
 ·rw [Lib.decDigits_one h];simp
 ·rw [Lib.decDigits_two h hd];simp
theorem text_one (neg:Bool) (b o cap d:Nat) (w:World) (hd:d<100) (hcap:1≤cap) (hc:w.cell? ⟨b,o,none⟩=some (.int .i64 d)) :
 Calls Tryz.prog 170 #[.agg #[.bool neg,.slice (some ⟨b,o,none⟩) 1 cap]] w (TxtIs w ((if neg then [45] else [])++Lib.decDigits d)):=by
 have hbw:b<w.heap.size:=by
  rcases Nat.lt_or_ge b w.heap.size with h | h
  ·exact h
  ·have:w.heap[b]? = none:=by simp;omega
   simp [World.cell?,this] at hc
 go_enter Tryz.func170,Tryz.ntmps170
 cases neg with
 | false =>
  go_wp2
  go_loopw [4] (fun i wr=>TR (w.heap.size+1) ((w.alloc (.cells #[.bool false,.slice (some ⟨b,o,none⟩) 1 cap] 100)).alloc (.cells #[.pointer none,.slice none 0 0] 192)) [] (Lib.decDigits d) i wr) (fun i _=>(intOf i+1).toNat)
  case atStart=>
   exact .inl ⟨rfl,Lib.IsBuilderF.of (by have:=Lib.fresh_isBuilder 192 5 (w.alloc (.cells #[.bool false,.slice (some ⟨b,o,none⟩) 1 cap] 100));simpa [Lib.byteCells] using this),Below.refl _ _⟩
  case round=>
   have hsz:w.heap.size+2≤wr.heap.size:=by
    rcases hrel with ⟨_,_,hB⟩ | ⟨_,_,hB⟩<;>(have:=hB.size;simp at this;omega)
   have hcells:wr.cell? ⟨w.heap.size,1,none⟩=some (.slice (some ⟨b,o,none⟩) 1 cap)∧wr.cell? ⟨b,o,none⟩=some (.int .i64 d):=by
    rcases hrel with ⟨_,_,hB⟩ | ⟨_,_,hB⟩ <;>
    ·refine ⟨(hB.cell (p:=⟨w.heap.size,1,none⟩) (by simp)).trans ?_,(hB.cell (p:=⟨b,o,none⟩) (by simp;omega)).trans ?_⟩
     ·exact World.cell?_alloc2_first ..
     ·exact(World.cell?_alloc_past _ _ _ (by simp;omega)).trans ((World.cell?_alloc_past _ _ _ hbw).trans hc)
   obtain ⟨c1,cd⟩:=hcells
   obtain ⟨rfl,hI,hB⟩ | ⟨rfl,hI,hB⟩:=hrel
   ·go_wp2_with (go_at_call 206;refine (Tryz.strconv_Itoa_small d hd _).mono ?_)
    rintro e W2 ⟨rfl,rfl⟩
    go_wp2_with (go_at_call 173;refine (Tryz.write_k (w.heap.size+1) (w.heap.size+1) _ _ _ hI (by have:=zfp d hd;simp [Lib.byteCells,ByteArray.size];omega) (by omega)).mono ?_)
    rintro e W3 ⟨rfl,h1,b1,k1⟩
    go_wp2
    go_roundw
    case rel=>exact .inr ⟨rfl,.inr (by simpa [Lib.byteCells,Lib.strCells] using h1),hB.trans b1⟩
    case measure=>simp [intOf]
   ·go_wp2_with (go_at_call 174;refine (Tryz.Builder_String_any_k (w.heap.size+1) (w.heap.size+1) _ _ hI (by omega)).mono ?_)
    rintro e W2 ⟨rfl,h1,b1,k1⟩
    go_wp2
    go_ret
    exact ⟨by simp,(((Below.refl _ w).alloc (Nat.le_refl _) _).alloc (by simp) _).trans ((hB.mono (by omega)).trans (b1.mono (by omega)))⟩
 | true=>
  have hI0:Lib.IsBuilderF 192 5 (w.heap.size+1) (w.heap.size+1) (Lib.byteCells []) ((w.alloc (.cells #[.bool true,.slice (some ⟨b,o,none⟩) 1 cap] 100)).alloc (.cells #[.pointer none,.slice none 0 0] 192)):=
   Lib.IsBuilderF.of (by have:=Lib.fresh_isBuilder 192 5 (w.alloc (.cells #[.bool true,.slice (some ⟨b,o,none⟩) 1 cap] 100));simpa [Lib.byteCells] using this)
  go_wp2_with (go_at_call 173;refine (Tryz.write_k (w.heap.size+1) (w.heap.size+1) _ _ _ hI0 (by simp [Lib.byteCells,ByteArray.size]) (by simp)).mono ?_)
  rintro e W0 rfl h0 b0 k0
  have hz0:w.heap.size+2≤W0.heap.size:=by have:=b0.size;simp at this;omega
  have cc:∀W:World,Below (w.heap.size+1) W0 W→W.cell? ⟨w.heap.size,0,none⟩=some (.bool true)∧W.cell? ⟨w.heap.size,1,none⟩=some (.slice (some ⟨b,o,none⟩) 1 cap)∧W.cell? ⟨b,o,none⟩=some (.int .i64 d):=by
   intro W hB
   have hB2:=b0.trans hB
   exact ⟨(hB2.cell (p:=⟨w.heap.size,0,none⟩) (by simp)).trans (World.cell?_alloc2_first ..),(hB2.cell (p:=⟨w.heap.size,1,none⟩) (by simp)).trans (World.cell?_alloc2_first ..),
    (hB2.cell (p:=⟨b,o,none⟩) (by simp;omega)).trans ((World.cell?_alloc_past _ _ _ (by simp;omega)).trans ((World.cell?_alloc_past _ _ _ hbw).trans hc))⟩
  have cw0:=cc W0 (Below.refl _ _)
  obtain ⟨k0a,k0b,k0c⟩:=cw0
  go_wp2
  go_loopw [4] (fun i wr=>TR (w.heap.size+1) W0 [45] ([45]++Lib.decDigits d) i wr) (fun i _=>(intOf i+1).toNat)
  case atStart=>
   exact .inl ⟨rfl,.inr (by simpa [Lib.byteCells,Lib.strCells] using h0),Below.refl _ _⟩
  case round=>
   have hB:Below (w.heap.size+1) W0 wr:=by
    rcases hrel with ⟨_,_,hB⟩ | ⟨_,_,hB⟩<;>exact hB
   have hsz:w.heap.size+2≤wr.heap.size:=Nat.le_trans hz0 hB.size
   obtain ⟨c0,c1,cd⟩:=cc wr hB
   obtain ⟨rfl,hI,_⟩ | ⟨rfl,hI,_⟩:=hrel
   ·go_wp2_with (go_at_call 206;refine (Tryz.strconv_Itoa_small d hd _).mono ?_)
    rintro e W2 ⟨rfl,rfl⟩
    go_wp2_with (go_at_call 173;refine (Tryz.write_k (w.heap.size+1) (w.heap.size+1) _ _ _ hI (by have:=zfp d hd;simp [Lib.byteCells,ByteArray.size];omega) (by omega)).mono ?_)
    rintro e W3 ⟨rfl,h1,b1,k1⟩
    go_wp2
    go_roundw
    case rel=>exact .inr ⟨rfl,.inr (by simpa [Lib.byteCells,Lib.strCells] using h1),hB.trans b1⟩
    case measure=>simp [intOf]
   ·go_wp2_with (go_at_call 174;refine (Tryz.Builder_String_any_k (w.heap.size+1) (w.heap.size+1) _ _ hI (by omega)).mono ?_)
    rintro e W2 ⟨rfl,h1,b1,k1⟩
    go_wp2
    go_ret
    exact ⟨by simp,(((Below.refl _ w).alloc (Nat.le_refl _) _).alloc (by simp) _).trans ((b0.mono (by omega)).trans ((hB.mono (by omega)).trans (b1.mono (by omega))))⟩
end Go.Proofs
end
section
open Go Go.Ev Go.RowKit
namespace Go.Proofs.YtloaeinogiplbaaGreatDoor
open Go.Proofs
set_option maxRecDepth 100000
set_option maxHeartbeats 4000000
set_option linter.unusedVariables false
set_option linter.unusedSimpArgs false
def txtL (z:Int):List UInt8:=if z=0 then [48] else(if decide (z<0)=true then [45] else [])++Lib.decDigits z.natAbs
def txtB (z:Int):ByteArray:=⟨(txtL z).toArray⟩
theorem wd_inv {E:Env} {z:Int} {v:Value} (h:Rd E (.wd z) v):∃a cap,v=.slice a (digs z.natAbs).length cap∧(digs z.natAbs).length≤cap∧IntsAt E (digs z.natAbs) a:=by
 cases h with
 | wd hi hc=>exact ⟨_,_,rfl,hc,hi⟩
theorem text_fc (z : Int) (hz : z.natAbs<100):FC Tryz.prog 170 [W z] (.lit (.string (txtB z))):=by
  intro M w vs _ hl ha
  have h0:Rd ⟨w.heap,M,[]⟩ (W z) (vs.getD 0 undef):=ha 0 (by simp)
  obtain ⟨v0, rfl⟩ : ∃v0,vs = #[v0]:=by
    have h1:vs.size=1:=by simpa using hl.symm
    exact ⟨vs[0], by apply Array.ext (by simp [h1]);intro i h2 h3;have:i=0:=by omega
                     subst this;simp⟩
  have h0':Rd ⟨w.heap,M,[]⟩ (W z) v0:=h0
  unfold W at h0'
  cases h0' with
  | @agg _ us hlen hr=>
    obtain ⟨u0, u1, rfl⟩ : ∃ u0 u1,us = #[u0,u1]:=by
      have h1:us.size=2:=by simpa using hlen.symm
      exact ⟨us[0], us[1], by apply Array.ext (by simp [h1]);intro i h2 h3;have:i=0∨i=1:=by omega
                              rcases this with rfl | rfl<;>simp⟩
    have e0:u0=.bool (decide (z<0)):=Rd.lit_inv (hr 0 (by simp))
    obtain ⟨a,cap,e1,hcap,hi⟩:=wd_inv (hr 1 (by simp))
    have e1':u1=.slice a (digs z.natAbs).length cap:=e1
    subst e0;subst e1'
    by_cases h:z=0
    · subst h
      refine (text_zero _ a cap w).mono ?_
      rintro e w' ⟨rfl,hb⟩
      exact ⟨_,rfl,hb,.lit _⟩
    · have hd:digs z.natAbs=[((z.natAbs:Nat):Int)]:=by
        rw [zcm _ (by omega)]
        rw [Nat.mod_eq_of_lt (by omega),Nat.div_eq_of_lt (by omega)];rfl
      rw [hd] at hi hcap
      rcases hi with hi | ⟨b,o,rfl,_,hc⟩
      · cases hi
      · have hc0:=hc 0 (by simp)
        have hcell:w.cell? ⟨b,o,none⟩=some (.int .i64 ((z.natAbs:Nat):Int)):=by rw [cell?_eq];simpa using hc0
        rw [hd]
        refine (text_one (decide (z<0)) b o cap z.natAbs w hz (by simpa using hcap) hcell).mono ?_
        rintro e w' ⟨rfl,hb⟩
        refine ⟨_,rfl,hb,?_⟩
        have:(⟨((if decide (z<0)=true then [45] else [])++Lib.decDigits z.natAbs).toArray⟩:ByteArray)=txtB z:=by unfold txtB txtL;rw [if_neg h]
        rw [this];exact .lit _
def zoU:List AV→Option (List ByteArray)
 | []=>some []
 | .lit (.string s) :: l=>match zoU l with | some r=>some (s :: r) | none=>none
 | _=>none
theorem zmS:∀ {cs:List AV} {l:List ByteArray},zoU cs=some l→cs=l.map fun s=>AV.lit (.string s)
 | [],l,h=>by cases h;rfl
 | c :: cs,l,h=>by
  unfold zoU at h
  split at h
  ·rename_i heq;cases heq
  ·rename_i s q heq
   cases heq
   split at h
   ·rename_i r hr
    cases h
    rw [zmS hr];rfl
   ·cases h
  ·cases h
def joinB (xs:List ByteArray) (sep:ByteArray):ByteArray:=⟨(Lib.join (xs.map (·.data.toList)) sep.data.toList).toArray⟩
def cJoin (args:List AV):M AV:=match args with
 | [.sl cs n,.lit (.string sep)]=>do
  let xs ← ofOpt 240 (zoU cs)
  tellD (xs.length=n∧n≠0∧n≤1000∧(joinB xs sep).size≤1000000) (Tst.b (xs.length=n∧n≠0∧n≤1000∧(joinB xs sep).size≤1000000))
  M.pure (.lit (.string (joinB xs sep)))
 | _=>fail 241
theorem join_ok : kZ Tryz.prog 131 cJoin:=by
 intro args _
 unfold cJoin
 split
 ·rename_i cs n sep _
  refine Spec.bind (Spec.ofOpt fun xs hxs=>Spec.bind (Spec.tellD Tst.ok fun hp=>Spec.pure' ?_))
  obtain ⟨h1,h2,h3,h4⟩:=hp
  have hcs:=zmS hxs
  intro M w vs _ hl ha
  have h0:Rd ⟨w.heap,M,[]⟩ (.sl cs n) (vs.getD 0 undef):=ha 0 (by simp)
  have h5:Rd ⟨w.heap,M,[]⟩ (.lit (.string sep)) (vs.getD 1 undef):=ha 1 (by simp)
  obtain ⟨v0, v1, rfl⟩ : ∃ v0 v1,vs = #[v0,v1]:=by
   have h1:vs.size=2:=by simpa using hl.symm
   exact ⟨vs[0], vs[1], by apply Array.ext (by simp [h1]);intro i h2 h3;have:i=0∨i=1:=by omega
                           rcases this with rfl | rfl<;>simp⟩
  have e1:v1=.string sep:=Rd.lit_inv h5
  subst e1
  have h0':Rd ⟨w.heap,M,[]⟩ (.sl cs n) v0:=h0
  cases h0' with
  | sl0=>exact absurd rfl h2
  | @sl _ _ b o cap vals hs hM hc hv hr=>
   have hlen:cs.length=xs.length:=by rw [hcs];simp
   subst h1
   refine (Tryz.strings_Join b o cap xs sep w ?_ hs (by omega) hc ?_).mono ?_
   ·intro j x hj
    have hjl:j<xs.length:=(List.getElem?_eq_some_iff.1 hj).1
    have k1:=hv j (by omega)
    have k2:=hr j (by omega)
    have k3:cs.getD j .junk=.lit (.string x):=by rw [hcs];simp [List.getD,hj]
    rw [k3] at k2
    rw [cell?_eq,k1,Rd.lit_inv k2]
   ·have:(joinB xs sep).size=(Lib.join (xs.map (·.data.toList)) sep.data.toList).length:=by unfold joinB;simp [ByteArray.size]
    omega
   ·rintro e w' ⟨rfl,hb⟩
    exact ⟨_,rfl,hb,.lit _⟩
 ·exact Spec.fail
end Go.Proofs.YtloaeinogiplbaaGreatDoor
end
section
open Go Go.Ev Go.RowKit
namespace Go.Proofs.YtloaeinogiplbaaGreatDoor
open Go.Proofs
set_option maxRecDepth 100000
set_option maxHeartbeats 1000000
set_option linter.unusedVariables false
set_option linter.unusedSimpArgs false
noncomputable section
end
def ctrT2:Ctr:=(170,c1 (fun z=>z.natAbs<100) (fun z=>.lit (.string (txtB z)))) :: (131,cJoin) :: zfo
theorem zlL:∀p∈ctrT2,kZ Tryz.prog p.1 p.2:=CAll.cons (c1_ok text_fc)<|CAll.cons join_ok zlq
theorem okT2:(dZ Tryz.prog ctrT2 bw).OK:=TZ zlL
noncomputable section
abbrev zgf (s:St) (r:Ex × St):Prop:=Loops 2 Tryz.prog (lZ Tryz.prog 148 0) s r
abbrev zhz (a:List (List Int)) (b:List Int) (c:Nat) (d:List (List Int)):St:=⟨sp 72 [(1,.lst (EK.sl (.int .i64)) a),(5,.sq b),(6,.own 1 0 c 1)],[.dead,.lst (EK.sl (.int .i64)) d true],[1,0]⟩
abbrev zgg (a:List (List Int)) (b:List Int) (c:Nat) (d e:List (List Int)):St:=⟨sp 72 [(1,.lst (EK.sl (.int .i64)) a),(5,.sq b),(6,.lst (EK.sl (.int .i64)) e)],[.dead,.lst (EK.sl (.int .i64)) d true],[1,0]⟩
abbrev zmI (a:List (List Int)) (b:List Int) (c:Nat) (d:List (List Int)):St:=⟨sp 72 [(1,.lst (EK.sl (.int .i64)) a),(5,.sq b),(6,.own 1 0 c 1)],[.dead,.lst (EK.sl (.int .i64)) d true],[1,0]⟩
abbrev zep (a:List (List Int)) (b:List Int) (c:Nat) (d e:List (List Int)):St:=⟨sp 72 [(1,.lst (EK.sl (.int .i64)) a),(5,.sq b),(6,.lst (EK.sl (.int .i64)) e)],[.dead,.lst (EK.sl (.int .i64)) d true],[1,0]⟩
abbrev zdb (s:St) (r:Ex × St):Prop:=Loops 2 Tryz.prog (lZ Tryz.prog 148 1) s r
abbrev zge (a:List (List Int)) (b:List Int) (c:Nat) (d:List Int) (e:List (List Int)):St:=⟨sp 72 [(1,.lst (EK.sl (.int .i64)) a),(5,.sq b),(6,.own 1 0 c 1),(7,.sq d),(8,aN),(9,aI 0)],[.dead,.lst (EK.sl (.int .i64)) e true],[1,0]⟩
abbrev zcR (a:List (List Int)) (b:List Int) (c:Nat) (d:List Int) (e:List (List Int)) (f:Nat) (g:Int) (i:List (List Int)):St:=⟨sp 72 [(1,.lst (EK.sl (.int .i64)) a),(5,.sq b),(6,.own 1 0 c 1),(7,.sq d),(8,.own 2 0 f 1),(9,aI g)],[.dead,.lst (EK.sl (.int .i64)) e true,.lst (EK.sl (.int .i64)) i true],[1,0]⟩
abbrev rre_L0_E0 (a:List (List Int)) (b:List Int) (c:Nat) (d:List Int) (e:List (List Int)):St:=⟨sp 72 [(1,.lst (EK.sl (.int .i64)) a),(5,.sq b),(6,.own 1 0 c 1),(7,.sq d),(8,aN),(9,aI 0)],[.dead,.lst (EK.sl (.int .i64)) e true],[1,0]⟩
abbrev zbH (a:List (List Int)) (b:List Int) (c:Nat) (d:List Int) (e:List (List Int)) (f:Nat) (g:Int) (i:List (List Int)):St:=⟨sp 72 [(1,.lst (EK.sl (.int .i64)) a),(5,.sq b),(6,.own 1 0 c 1),(7,.sq d),(8,.own 2 0 f 1),(9,aI g)],[.dead,.lst (EK.sl (.int .i64)) e true,.lst (EK.sl (.int .i64)) i true],[1,0]⟩
theorem zrc (a:List (List Int)) (b:List Int) (d:Nat) (f:List Int) (g:List (List Int)) (h1:0<(d:Int)) (h2:0<g.length) (h3:pMu (g.getD 0 (EK.dflt (EK.sl (.int .i64)))) b) (h4:pMu (aZ (vl (g.getD 0 (EK.dflt (EK.sl (.int .i64))))*vl b)) b) (h5:r64 (0-(d:Int))) (h6:r64 (0-(d:Int)+(a.length:Int))) (h7:0-(d:Int)+(a.length:Int)≥0) (h8:0≤0-(d:Int)+(a.length:Int)) (h9:0-(d:Int)+(a.length:Int)<(a.length:Int)) (h10:pMu f b) (h11:pMu (aZ (vl f*vl b)) (a.getD (0-(d:Int)+(a.length:Int)).toNat (EK.dflt (EK.sl (.int .i64))))) (h12:pSu (aZ (vl (aZ (vl (g.getD 0 (EK.dflt (EK.sl (.int .i64))))*vl b))*vl b)) (aZ (vl (aZ (vl f*vl b))*vl (a.getD (0-(d:Int)+(a.length:Int)).toNat (EK.dflt (EK.sl (.int .i64))))))) (h13:1≤List.length [aZ (vl (aZ (vl (aZ (vl (g.getD 0 (EK.dflt (EK.sl (.int .i64))))*vl b))*vl b))-vl (aZ (vl (aZ (vl f*vl b))*vl (a.getD (0-(d:Int)+(a.length:Int)).toNat (EK.dflt (EK.sl (.int .i64)))))))]) (h14:0<(List.take 1 [aZ (vl (aZ (vl (aZ (vl (g.getD 0 (EK.dflt (EK.sl (.int .i64))))*vl b))*vl b))-vl (aZ (vl (aZ (vl f*vl b))*vl (a.getD (0-(d:Int)+(a.length:Int)).toNat (EK.dflt (EK.sl (.int .i64)))))))]).length) (h15:(List.take 1 [aZ (vl (aZ (vl (aZ (vl (g.getD 0 (EK.dflt (EK.sl (.int .i64))))*vl b))*vl b))-vl (aZ (vl (aZ (vl f*vl b))*vl (a.getD (0-(d:Int)+(a.length:Int)).toNat (EK.dflt (EK.sl (.int .i64)))))))]).length*24≤140737488355328) (h16:(List.take 1 [aZ (vl (aZ (vl (aZ (vl (g.getD 0 (EK.dflt (EK.sl (.int .i64))))*vl b))*vl b))-vl (aZ (vl (aZ (vl f*vl b))*vl (a.getD (0-(d:Int)+(a.length:Int)).toNat (EK.dflt (EK.sl (.int .i64)))))))]).length≤4611686018427387904) {r:Ex × St} (k:zdb (zcR a b d f g (1) (1) ([aZ (vl (aZ (vl (aZ (vl (g.getD 0 (EK.dflt (EK.sl (.int .i64))))*vl b))*vl b))-vl (aZ (vl (aZ (vl f*vl b))*vl (a.getD (0-(d:Int)+(a.length:Int)).toNat (EK.dflt (EK.sl (.int .i64)))))))])) r):zdb (zge a b d f g) r:=Loops.go (LS.at zed 60 [3] [1,5,6,7,8,9] [1,0] [1,1] (.t h1<|.t h2<|.c h3<|.c h4<|.i h5<|.i h6<|.t h7<|.t h8<|.t h9<|.c h10<|.c h11<|.c h12<|.c h13<|.t h14<|.t h15<|.t h16<|.e) [1,0,1,2,3,4,5,6,7,8,9,10,11,12,13,14,15,16,0]) k
theorem zrd (a:List (List Int)) (b:List Int) (d:Nat) (g:List Int) (j:List (List Int)) (h1:0<(d:Int)) (h2:0<j.length) (h3:pMu (j.getD 0 (EK.dflt (EK.sl (.int .i64)))) b) (h4:pMu (aZ (vl (j.getD 0 (EK.dflt (EK.sl (.int .i64))))*vl b)) b) (h5:r64 (0-(d:Int))) (h6:r64 (0-(d:Int)+(a.length:Int))) (h7:¬(0-(d:Int)+(a.length:Int)≥0)) (h8:1≤List.length [aZ (vl (aZ (vl (j.getD 0 (EK.dflt (EK.sl (.int .i64))))*vl b))*vl b)]) (h9:0<(List.take 1 [aZ (vl (aZ (vl (j.getD 0 (EK.dflt (EK.sl (.int .i64))))*vl b))*vl b)]).length) (h10:(List.take 1 [aZ (vl (aZ (vl (j.getD 0 (EK.dflt (EK.sl (.int .i64))))*vl b))*vl b)]).length*24≤140737488355328) (h11:(List.take 1 [aZ (vl (aZ (vl (j.getD 0 (EK.dflt (EK.sl (.int .i64))))*vl b))*vl b)]).length≤4611686018427387904) {r:Ex × St} (k:zdb (zcR a b d g j (1) (1) ([aZ (vl (aZ (vl (j.getD 0 (EK.dflt (EK.sl (.int .i64))))*vl b))*vl b)])) r):zdb (zge a b d g j) r:=Loops.go (LS.at zed 60 [3] [1,5,6,7,8,9] [1,0] [1,0] (.t h1<|.t h2<|.c h3<|.c h4<|.i h5<|.i h6<|.f h7<|.c h8<|.t h9<|.t h10<|.t h11<|.e) [1,0,1,2,3,4,5,6,7,8,9,10,11,0]) k
theorem rre_L0_0_2 (a:List (List Int)) (b:List Int) (c:Nat) (d:List Int) (g:List (List Int)) (h1:¬(0<(c:Int))):zdb (zge a b c d g) (Ex.exit 2,(rre_L0_E0 a b c d g)):=Loops.fin (LS.at zed 60 [] [1,5,6,7,8,9] [1,0] [0] (.f h1<|.e) [1]) (fun h=>nomatch h)
theorem zre (a:List (List Int)) (b:List Int) (d:Nat) (f:List Int) (g:List (List Int)) (j:Nat) (l:Int) (m:List (List Int)) (h1:l<(d:Int)) (h2:0≤l) (h3:l.toNat<g.length) (h4:pMu (g.getD l.toNat (EK.dflt (EK.sl (.int .i64)))) b) (h5:pMu (aZ (vl (g.getD l.toNat (EK.dflt (EK.sl (.int .i64))))*vl b)) b) (h6:r64 (l-(d:Int))) (h7:r64 (l-(d:Int)+(a.length:Int))) (h8:l-(d:Int)+(a.length:Int)≥0) (h9:0≤l-(d:Int)+(a.length:Int)) (h10:l-(d:Int)+(a.length:Int)<(a.length:Int)) (h11:pMu f b) (h12:pMu (aZ (vl f*vl b)) (a.getD (l-(d:Int)+(a.length:Int)).toNat (EK.dflt (EK.sl (.int .i64))))) (h13:pSu (aZ (vl (aZ (vl (g.getD l.toNat (EK.dflt (EK.sl (.int .i64))))*vl b))*vl b)) (aZ (vl (aZ (vl f*vl b))*vl (a.getD (l-(d:Int)+(a.length:Int)).toNat (EK.dflt (EK.sl (.int .i64))))))) (h14:1≤List.length [aZ (vl (aZ (vl (aZ (vl (g.getD l.toNat (EK.dflt (EK.sl (.int .i64))))*vl b))*vl b))-vl (aZ (vl (aZ (vl f*vl b))*vl (a.getD (l-(d:Int)+(a.length:Int)).toNat (EK.dflt (EK.sl (.int .i64)))))))]) (h15:(j+(List.take 1 [aZ (vl (aZ (vl (aZ (vl (g.getD l.toNat (EK.dflt (EK.sl (.int .i64))))*vl b))*vl b))-vl (aZ (vl (aZ (vl f*vl b))*vl (a.getD (l-(d:Int)+(a.length:Int)).toNat (EK.dflt (EK.sl (.int .i64)))))))]).length)*24≤140737488355328) (h16:j+(List.take 1 [aZ (vl (aZ (vl (aZ (vl (g.getD l.toNat (EK.dflt (EK.sl (.int .i64))))*vl b))*vl b))-vl (aZ (vl (aZ (vl f*vl b))*vl (a.getD (l-(d:Int)+(a.length:Int)).toNat (EK.dflt (EK.sl (.int .i64)))))))]).length≤4611686018427387904) (h17:j≤m.length) (h18:r64 (l+1)) {r:Ex × St} (k:zdb (zcR a b d f g (j+(List.take 1 [aZ (vl (aZ (vl (aZ (vl (g.getD l.toNat (EK.dflt (EK.sl (.int .i64))))*vl b))*vl b))-vl (aZ (vl (aZ (vl f*vl b))*vl (a.getD (l-(d:Int)+(a.length:Int)).toNat (EK.dflt (EK.sl (.int .i64)))))))]).length) (l+1) (m.take j++List.take 1 [aZ (vl (aZ (vl (aZ (vl (g.getD l.toNat (EK.dflt (EK.sl (.int .i64))))*vl b))*vl b))-vl (aZ (vl (aZ (vl f*vl b))*vl (a.getD (l-(d:Int)+(a.length:Int)).toNat (EK.dflt (EK.sl (.int .i64)))))))])) r):zdb (zcR a b d f g j l m) r:=Loops.go (LS.at zed 60 [4] [1,5,6,7,8,9] [1,0] [1,1] (.t h1<|.t h2<|.t h3<|.c h4<|.c h5<|.i h6<|.i h7<|.t h8<|.t h9<|.t h10<|.c h11<|.c h12<|.c h13<|.c h14<|.t h15<|.t h16<|.t h17<|.i h18<|.e) [1,2,1,3,4,5,6,7,8,9,10,11,12,13,14,15,16,17,18]) k
theorem zrf (a:List (List Int)) (b:List Int) (d:Nat) (g:List Int) (j:List (List Int)) (l:Nat) (m:Int) (n:List (List Int)) (h1:m<(d:Int)) (h2:0≤m) (h3:m.toNat<j.length) (h4:pMu (j.getD m.toNat (EK.dflt (EK.sl (.int .i64)))) b) (h5:pMu (aZ (vl (j.getD m.toNat (EK.dflt (EK.sl (.int .i64))))*vl b)) b) (h6:r64 (m-(d:Int))) (h7:r64 (m-(d:Int)+(a.length:Int))) (h8:¬(m-(d:Int)+(a.length:Int)≥0)) (h9:1≤List.length [aZ (vl (aZ (vl (j.getD m.toNat (EK.dflt (EK.sl (.int .i64))))*vl b))*vl b)]) (h10:(l+(List.take 1 [aZ (vl (aZ (vl (j.getD m.toNat (EK.dflt (EK.sl (.int .i64))))*vl b))*vl b)]).length)*24≤140737488355328) (h11:l+(List.take 1 [aZ (vl (aZ (vl (j.getD m.toNat (EK.dflt (EK.sl (.int .i64))))*vl b))*vl b)]).length≤4611686018427387904) (h12:l≤n.length) (h13:r64 (m+1)) {r:Ex × St} (k:zdb (zcR a b d g j (l+(List.take 1 [aZ (vl (aZ (vl (j.getD m.toNat (EK.dflt (EK.sl (.int .i64))))*vl b))*vl b)]).length) (m+1) (n.take l++List.take 1 [aZ (vl (aZ (vl (j.getD m.toNat (EK.dflt (EK.sl (.int .i64))))*vl b))*vl b)])) r):zdb (zcR a b d g j l m n) r:=Loops.go (LS.at zed 60 [4] [1,5,6,7,8,9] [1,0] [1,0] (.t h1<|.t h2<|.t h3<|.c h4<|.c h5<|.i h6<|.i h7<|.f h8<|.c h9<|.t h10<|.t h11<|.t h12<|.i h13<|.e) [1,2,1,3,4,5,6,7,8,9,10,11,12,13]) k
theorem zrg (a:List (List Int)) (b:List Int) (c:Nat) (d:List Int) (g:List (List Int)) (i:Nat) (j:Int) (l:List (List Int)) (h1:¬(j<(c:Int))):zdb (zcR a b c d g i j l) (Ex.exit 2,(zbH a b c d g i j l)):=Loops.fin (LS.at zed 60 [2] [1,5,6,7,8,9] [1,0] [0] (.f h1<|.e) [1]) (fun h=>nomatch h)
theorem zrm (a:List (List Int)) (b:List Int) (d:Nat) (f:List (List Int)) (g:Nat) (j:Int) (l:List (List Int)) (h1:(d:Int)≥(a.length:Int)) (h2:r64 ((d:Int)-1)) (h3:0≤(d:Int)-1) (h4:(d:Int)-1<(d:Int)) (h5:((d:Int)-1).toNat<f.length) (hL1:zdb (zge a b d (f.getD ((d:Int)-1).toNat (EK.dflt (EK.sl (.int .i64)))) f) (Ex.exit 2,(zbH a b d (f.getD ((d:Int)-1).toNat (EK.dflt (EK.sl (.int .i64)))) f g j l))) (h7:g≤l.length) (h8:pSh (l.take g)) {r:Ex × St} (k:zgf (zgg a b d f ((l.take g).take (Kf.cutN (vls (l.take g)) (l.take g).length))) r):zgf (zhz a b d f) r:=Loops.go (LS.at zed 60 [] [1,5,6] [1,0] [1] (.t h1<|.i h2<|.t h3<|.t h4<|.t h5<|.v [1,5,6,7,8,9] [1,0] hL1<|.c h7<|.c h8<|.e) [1,2,3,4,5,0,6,7,8]) k
theorem zrn (a:List (List Int)) (b:List Int) (c:Nat) (d:List (List Int)) (h1:¬((c:Int)≥(a.length:Int))):zgf (zhz a b c d) (Ex.exit 0,(zmI a b c d)):=Loops.fin (LS.at zed 60 [] [1,5,6] [1,0] [0] (.f h1<|.e) [1]) (fun h=>nomatch h)
abbrev zdW (s:St) (r:Ex × St):Prop:=Loops 2 Tryz.prog (lZ Tryz.prog 148 1) s r
abbrev zhy (a:List (List Int)) (b:List Int) (c:List (List Int)) (d:List Int) (e:List (List Int)):St:=⟨sp 72 [(1,.lst (EK.sl (.int .i64)) a),(5,.sq b),(6,.lst (EK.sl (.int .i64)) c),(7,.sq d),(8,aN),(9,aI 0)],[.dead,.lst (EK.sl (.int .i64)) e true],[1,0]⟩
abbrev zcS (a:List (List Int)) (b:List Int) (c:List (List Int)) (d:List Int) (e:List (List Int)) (f:Nat) (g:Int) (i:List (List Int)):St:=⟨sp 72 [(1,.lst (EK.sl (.int .i64)) a),(5,.sq b),(6,.lst (EK.sl (.int .i64)) c),(7,.sq d),(8,.own 2 0 f 1),(9,aI g)],[.dead,.lst (EK.sl (.int .i64)) e true,.lst (EK.sl (.int .i64)) i true],[1,0]⟩
abbrev zbI (a:List (List Int)) (b:List Int) (c:List (List Int)) (d:List Int) (e:List (List Int)) (f:Nat) (g:Int) (i:List (List Int)):St:=⟨sp 72 [(1,.lst (EK.sl (.int .i64)) a),(5,.sq b),(6,.lst (EK.sl (.int .i64)) c),(7,.sq d),(8,.own 2 0 f 1),(9,aI g)],[.dead,.lst (EK.sl (.int .i64)) e true,.lst (EK.sl (.int .i64)) i true],[1,0]⟩
theorem zrh (a:List (List Int)) (b:List Int) (d:List (List Int)) (f:List Int) (g:List (List Int)) (h1:0<(d.length:Int)) (h2:pMu (d.getD 0 (EK.dflt (EK.sl (.int .i64)))) b) (h3:pMu (aZ (vl (d.getD 0 (EK.dflt (EK.sl (.int .i64))))*vl b)) b) (h4:r64 (0-(d.length:Int))) (h5:r64 (0-(d.length:Int)+(a.length:Int))) (h6:0-(d.length:Int)+(a.length:Int)≥0) (h7:0≤0-(d.length:Int)+(a.length:Int)) (h8:0-(d.length:Int)+(a.length:Int)<(a.length:Int)) (h9:pMu f b) (h10:pMu (aZ (vl f*vl b)) (a.getD (0-(d.length:Int)+(a.length:Int)).toNat (EK.dflt (EK.sl (.int .i64))))) (h11:pSu (aZ (vl (aZ (vl (d.getD 0 (EK.dflt (EK.sl (.int .i64))))*vl b))*vl b)) (aZ (vl (aZ (vl f*vl b))*vl (a.getD (0-(d.length:Int)+(a.length:Int)).toNat (EK.dflt (EK.sl (.int .i64))))))) (h12:1≤List.length [aZ (vl (aZ (vl (aZ (vl (d.getD 0 (EK.dflt (EK.sl (.int .i64))))*vl b))*vl b))-vl (aZ (vl (aZ (vl f*vl b))*vl (a.getD (0-(d.length:Int)+(a.length:Int)).toNat (EK.dflt (EK.sl (.int .i64)))))))]) (h13:0<(List.take 1 [aZ (vl (aZ (vl (aZ (vl (d.getD 0 (EK.dflt (EK.sl (.int .i64))))*vl b))*vl b))-vl (aZ (vl (aZ (vl f*vl b))*vl (a.getD (0-(d.length:Int)+(a.length:Int)).toNat (EK.dflt (EK.sl (.int .i64)))))))]).length) (h14:(List.take 1 [aZ (vl (aZ (vl (aZ (vl (d.getD 0 (EK.dflt (EK.sl (.int .i64))))*vl b))*vl b))-vl (aZ (vl (aZ (vl f*vl b))*vl (a.getD (0-(d.length:Int)+(a.length:Int)).toNat (EK.dflt (EK.sl (.int .i64)))))))]).length*24≤140737488355328) (h15:(List.take 1 [aZ (vl (aZ (vl (aZ (vl (d.getD 0 (EK.dflt (EK.sl (.int .i64))))*vl b))*vl b))-vl (aZ (vl (aZ (vl f*vl b))*vl (a.getD (0-(d.length:Int)+(a.length:Int)).toNat (EK.dflt (EK.sl (.int .i64)))))))]).length≤4611686018427387904) {r:Ex × St} (k:zdW (zcS a b d f g (1) (1) ([aZ (vl (aZ (vl (aZ (vl (d.getD 0 (EK.dflt (EK.sl (.int .i64))))*vl b))*vl b))-vl (aZ (vl (aZ (vl f*vl b))*vl (a.getD (0-(d.length:Int)+(a.length:Int)).toNat (EK.dflt (EK.sl (.int .i64)))))))])) r):zdW (zhy a b d f g) r:=Loops.go (LS.at zed 60 [3] [1,5,6,7,8,9] [1,0] [1,1] (.t h1<|.c h2<|.c h3<|.i h4<|.i h5<|.t h6<|.t h7<|.t h8<|.c h9<|.c h10<|.c h11<|.c h12<|.t h13<|.t h14<|.t h15<|.e) [1,0,1,2,3,4,5,6,7,8,9,10,11,12,13,14,15,0]) k
theorem zri (a:List (List Int)) (b:List Int) (d:List (List Int)) (g:List Int) (j:List (List Int)) (h1:0<(d.length:Int)) (h2:pMu (d.getD 0 (EK.dflt (EK.sl (.int .i64)))) b) (h3:pMu (aZ (vl (d.getD 0 (EK.dflt (EK.sl (.int .i64))))*vl b)) b) (h4:r64 (0-(d.length:Int))) (h5:r64 (0-(d.length:Int)+(a.length:Int))) (h6:¬(0-(d.length:Int)+(a.length:Int)≥0)) (h7:1≤List.length [aZ (vl (aZ (vl (d.getD 0 (EK.dflt (EK.sl (.int .i64))))*vl b))*vl b)]) (h8:0<(List.take 1 [aZ (vl (aZ (vl (d.getD 0 (EK.dflt (EK.sl (.int .i64))))*vl b))*vl b)]).length) (h9:(List.take 1 [aZ (vl (aZ (vl (d.getD 0 (EK.dflt (EK.sl (.int .i64))))*vl b))*vl b)]).length*24≤140737488355328) (h10:(List.take 1 [aZ (vl (aZ (vl (d.getD 0 (EK.dflt (EK.sl (.int .i64))))*vl b))*vl b)]).length≤4611686018427387904) {r:Ex × St} (k:zdW (zcS a b d g j (1) (1) ([aZ (vl (aZ (vl (d.getD 0 (EK.dflt (EK.sl (.int .i64))))*vl b))*vl b)])) r):zdW (zhy a b d g j) r:=Loops.go (LS.at zed 60 [3] [1,5,6,7,8,9] [1,0] [1,0] (.t h1<|.c h2<|.c h3<|.i h4<|.i h5<|.f h6<|.c h7<|.t h8<|.t h9<|.t h10<|.e) [1,0,1,2,3,4,5,6,7,8,9,10,0]) k
theorem zrj (a:List (List Int)) (b:List Int) (d:List (List Int)) (f:List Int) (g:List (List Int)) (j:Nat) (l:Int) (m:List (List Int)) (h1:l<(d.length:Int)) (h2:0≤l) (h3:pMu (d.getD l.toNat (EK.dflt (EK.sl (.int .i64)))) b) (h4:pMu (aZ (vl (d.getD l.toNat (EK.dflt (EK.sl (.int .i64))))*vl b)) b) (h5:r64 (l-(d.length:Int))) (h6:r64 (l-(d.length:Int)+(a.length:Int))) (h7:l-(d.length:Int)+(a.length:Int)≥0) (h8:0≤l-(d.length:Int)+(a.length:Int)) (h9:l-(d.length:Int)+(a.length:Int)<(a.length:Int)) (h10:pMu f b) (h11:pMu (aZ (vl f*vl b)) (a.getD (l-(d.length:Int)+(a.length:Int)).toNat (EK.dflt (EK.sl (.int .i64))))) (h12:pSu (aZ (vl (aZ (vl (d.getD l.toNat (EK.dflt (EK.sl (.int .i64))))*vl b))*vl b)) (aZ (vl (aZ (vl f*vl b))*vl (a.getD (l-(d.length:Int)+(a.length:Int)).toNat (EK.dflt (EK.sl (.int .i64))))))) (h13:1≤List.length [aZ (vl (aZ (vl (aZ (vl (d.getD l.toNat (EK.dflt (EK.sl (.int .i64))))*vl b))*vl b))-vl (aZ (vl (aZ (vl f*vl b))*vl (a.getD (l-(d.length:Int)+(a.length:Int)).toNat (EK.dflt (EK.sl (.int .i64)))))))]) (h14:(j+(List.take 1 [aZ (vl (aZ (vl (aZ (vl (d.getD l.toNat (EK.dflt (EK.sl (.int .i64))))*vl b))*vl b))-vl (aZ (vl (aZ (vl f*vl b))*vl (a.getD (l-(d.length:Int)+(a.length:Int)).toNat (EK.dflt (EK.sl (.int .i64)))))))]).length)*24≤140737488355328) (h15:j+(List.take 1 [aZ (vl (aZ (vl (aZ (vl (d.getD l.toNat (EK.dflt (EK.sl (.int .i64))))*vl b))*vl b))-vl (aZ (vl (aZ (vl f*vl b))*vl (a.getD (l-(d.length:Int)+(a.length:Int)).toNat (EK.dflt (EK.sl (.int .i64)))))))]).length≤4611686018427387904) (h16:j≤m.length) (h17:r64 (l+1)) {r:Ex × St} (k:zdW (zcS a b d f g (j+(List.take 1 [aZ (vl (aZ (vl (aZ (vl (d.getD l.toNat (EK.dflt (EK.sl (.int .i64))))*vl b))*vl b))-vl (aZ (vl (aZ (vl f*vl b))*vl (a.getD (l-(d.length:Int)+(a.length:Int)).toNat (EK.dflt (EK.sl (.int .i64)))))))]).length) (l+1) (m.take j++List.take 1 [aZ (vl (aZ (vl (aZ (vl (d.getD l.toNat (EK.dflt (EK.sl (.int .i64))))*vl b))*vl b))-vl (aZ (vl (aZ (vl f*vl b))*vl (a.getD (l-(d.length:Int)+(a.length:Int)).toNat (EK.dflt (EK.sl (.int .i64)))))))])) r):zdW (zcS a b d f g j l m) r:=Loops.go (LS.at zed 60 [4] [1,5,6,7,8,9] [1,0] [1,1] (.t h1<|.t h2<|.c h3<|.c h4<|.i h5<|.i h6<|.t h7<|.t h8<|.t h9<|.c h10<|.c h11<|.c h12<|.c h13<|.t h14<|.t h15<|.t h16<|.i h17<|.e) [1,2,1,3,4,5,6,7,8,9,10,11,12,13,14,15,16,17]) k
theorem zrk (a:List (List Int)) (b:List Int) (d:List (List Int)) (g:List Int) (j:List (List Int)) (l:Nat) (m:Int) (n:List (List Int)) (h1:m<(d.length:Int)) (h2:0≤m) (h3:pMu (d.getD m.toNat (EK.dflt (EK.sl (.int .i64)))) b) (h4:pMu (aZ (vl (d.getD m.toNat (EK.dflt (EK.sl (.int .i64))))*vl b)) b) (h5:r64 (m-(d.length:Int))) (h6:r64 (m-(d.length:Int)+(a.length:Int))) (h7:¬(m-(d.length:Int)+(a.length:Int)≥0)) (h8:1≤List.length [aZ (vl (aZ (vl (d.getD m.toNat (EK.dflt (EK.sl (.int .i64))))*vl b))*vl b)]) (h9:(l+(List.take 1 [aZ (vl (aZ (vl (d.getD m.toNat (EK.dflt (EK.sl (.int .i64))))*vl b))*vl b)]).length)*24≤140737488355328) (h10:l+(List.take 1 [aZ (vl (aZ (vl (d.getD m.toNat (EK.dflt (EK.sl (.int .i64))))*vl b))*vl b)]).length≤4611686018427387904) (h11:l≤n.length) (h12:r64 (m+1)) {r:Ex × St} (k:zdW (zcS a b d g j (l+(List.take 1 [aZ (vl (aZ (vl (d.getD m.toNat (EK.dflt (EK.sl (.int .i64))))*vl b))*vl b)]).length) (m+1) (n.take l++List.take 1 [aZ (vl (aZ (vl (d.getD m.toNat (EK.dflt (EK.sl (.int .i64))))*vl b))*vl b)])) r):zdW (zcS a b d g j l m n) r:=Loops.go (LS.at zed 60 [4] [1,5,6,7,8,9] [1,0] [1,0] (.t h1<|.t h2<|.c h3<|.c h4<|.i h5<|.i h6<|.f h7<|.c h8<|.t h9<|.t h10<|.t h11<|.i h12<|.e) [1,2,1,3,4,5,6,7,8,9,10,11,12]) k
theorem zrl (a:List (List Int)) (b:List Int) (c:List (List Int)) (d:List Int) (g:List (List Int)) (i:Nat) (j:Int) (l:List (List Int)) (h1:¬(j<(c.length:Int))):zdW (zcS a b c d g i j l) (Ex.exit 2,(zbI a b c d g i j l)):=Loops.fin (LS.at zed 60 [2] [1,5,6,7,8,9] [1,0] [0] (.f h1<|.e) [1]) (fun h=>nomatch h)
theorem zro (a:List (List Int)) (b:List Int) (d:Nat) (f g:List (List Int)) (j:Nat) (l:Int) (m:List (List Int)) (h1:(g.length:Int)≥(a.length:Int)) (h2:r64 ((g.length:Int)-1)) (h3:0≤(g.length:Int)-1) (h4:(g.length:Int)-1<(g.length:Int)) (hL1:zdW (zhy a b g (g.getD ((g.length:Int)-1).toNat (EK.dflt (EK.sl (.int .i64)))) f) (Ex.exit 2,(zbI a b g (g.getD ((g.length:Int)-1).toNat (EK.dflt (EK.sl (.int .i64)))) f j l m))) (h6:j≤m.length) (h7:pSh (m.take j)) {r:Ex × St} (k:zgf (zgg a b d f ((m.take j).take (Kf.cutN (vls (m.take j)) (m.take j).length))) r):zgf (zgg a b d f g) r:=Loops.go (LS.at zed 60 [] [1,5,6] [1,0] [1] (.t h1<|.i h2<|.t h3<|.t h4<|.v [1,5,6,7,8,9] [1,0] hL1<|.c h6<|.c h7<|.e) [1,2,3,4,0,5,6,7]) k
theorem zrp (a:List (List Int)) (b:List Int) (c:Nat) (d g:List (List Int)) (h1:¬((g.length:Int)≥(a.length:Int))):zgf (zgg a b c d g) (Ex.exit 0,(zep a b c d g)):=Loops.fin (LS.at zed 60 [] [1,5,6] [1,0] [0] (.f h1<|.e) [1]) (fun h=>nomatch h)
theorem rre_0 (p q:List (List Int)) (h1:r64 ((q.length:Int)-1)) (h2:0≤(q.length:Int)-1) (h3:(q.length:Int)-1<(q.length:Int)) (h4:(0+p.length)*24≤140737488355328) (h5:0+p.length≤4611686018427387904) (hL1:zgf (zhz q (q.getD ((q.length:Int)-1).toNat (EK.dflt (EK.sl (.int .i64)))) (0+p.length) (List.take 0 []++p)) (Ex.exit 0,(zmI q (q.getD ((q.length:Int)-1).toNat (EK.dflt (EK.sl (.int .i64)))) (0+p.length) (List.take 0 []++p)))) (h7:0+p.length≤(List.take 0 []++p).length):FC Tryz.prog 148 [.lst (.sl (.int .i64)) p,.lst (.sl (.int .i64)) q] (.lst (EK.sl (.int .i64)) ((List.take 0 []++p).take (0+p.length))):=eZ zed 60 [] (.i h1<|.t h2<|.t h3<|.t h4<|.t h5<|.v [1,5,6] [1,0] hL1<|.c h7<|.e) [1,2,3,4,5,0,0,6,7]
theorem rre_1 (p q a:List (List Int)) (h1:r64 ((q.length:Int)-1)) (h2:0≤(q.length:Int)-1) (h3:(q.length:Int)-1<(q.length:Int)) (h4:(0+p.length)*24≤140737488355328) (h5:0+p.length≤4611686018427387904) (hL1:zgf (zhz q (q.getD ((q.length:Int)-1).toNat (EK.dflt (EK.sl (.int .i64)))) (0+p.length) (List.take 0 []++p)) (Ex.exit 0,(zep q (q.getD ((q.length:Int)-1).toNat (EK.dflt (EK.sl (.int .i64)))) (0+p.length) (List.take 0 []++p) a))):FC Tryz.prog 148 [.lst (.sl (.int .i64)) p,.lst (.sl (.int .i64)) q] (.lst (EK.sl (.int .i64)) a):=eZ zed 60 [] (.i h1<|.t h2<|.t h3<|.t h4<|.t h5<|.v [1,5,6] [1,0] hL1<|.e) [1,2,3,4,5,0,0,6]
end
open Go.Kf
def rsF (q r:List (List Int)) (last top:List Int) (i:Nat):List Int:=aZ (agC (vls q) (vl last*vl last) (vl top*vl last) (r.length-q.length) i ((vls r).getD i 0))
def rsL (q r:List (List Int)) (last top:List Int) (i:Nat):List (List Int):=(List.range i).map (rsF q r last top)
theorem zes (q r:List (List Int)) (last top:List Int) (i:Nat):(rsL q r last top i).length=i:=by simp [rsL]
theorem zhC (q r:List (List Int)) (last top:List Int) (i:Nat) {x:List Int} (h:x=rsF q r last top i):List.take i (rsL q r last top i)++List.take 1 [x]=rsL q r last top (i+1):=by
 rw [List.take_of_length_le (by rw [zes];exact Nat.le_refl _),h]
 unfold rsL
 rw [List.range_succ,List.map_append];rfl
theorem zoO {q r:List (List Int)} {last top:List Int} {i:Nat} (h:r.length-q.length≤i):aZ (vl (aZ (vl (aZ (vl (r.getD i [])*vl last))*vl last))-vl (aZ (vl (aZ (vl top*vl last))*vl (q.getD (i-(r.length-q.length)) []))))=rsF q r last top i:=by
 simp only [bZ]
 unfold rsF agC
 rw [if_pos h,← za5,← za5,Int.sub_eq_add_neg,Int.mul_assoc (vl (r.getD i []))]
theorem zoP {q r:List (List Int)} {last top:List Int} {i:Nat} (h:¬r.length-q.length≤i):aZ (vl (aZ (vl (r.getD i [])*vl last))*vl last)=rsF q r last top i:=by
 simp only [bZ]
 unfold rsF agC
 rw [if_neg h,← za5,Int.mul_assoc]
theorem zbS {p:List (List Int)} {N:Nat} (h:∀l∈p,pQ N l) {i:Nat} (hi:i<p.length):pQ N (p.getD i []):=by
 simp_all
theorem zbc {N:Nat} {l:List Int} (h:pQ N l):Sz (N+3) (vl l):=(vl_sz h.2).mono (by have:=h.1;omega)
theorem rre_l1 {q r:List (List Int)} {last top:List Int} {lr:List (List Int)} {N M:Nat} (hr:∀l∈r,pQ N l) (hq:∀l∈q,pQ M l) (hlast:pQ M last) (htop:pQ N top) (hb:N+2*M+20≤90000) (hlen:q.length≤r.length) (h1000:r.length≤1000) :
 ∀(m i:Nat),i+m=r.length→1≤i→zdW (zcS q last r top lr i i (rsL q r last top i)) (Ex.exit 2,zbI q last r top lr r.length r.length (rsL q r last top r.length))
 | 0,i,hi,_=>by
  obtain rfl:i=r.length:=by omega
  exact zrl q last r top lr _ _ _ (by omega)
 | m + 1,i,hi,h1=>by
  have ih:=rre_l1 (lr:=lr) hr hq hlast htop hb hlen h1000 m (i+1) (by omega) (by omega)
  have e1:Int.toNat (i:Int)=i:=rfl
  have pr:=zbS hr (i:=i) (by omega)
  have s1:=zbc pr
  have s2:=zbc hlast
  have s3:=zbc htop
  have m1:pQ 100000 (aZ (vl (r.getD i [])*vl last)):=hZ (s1.mul s2) (by omega)
  by_cases hs:r.length-q.length≤i
  ·have e2:Int.toNat ((i:Int)-(r.length:Int)+(q.length:Int))=i-(r.length-q.length):=by omega
   have pq:=zbS hq (i:=i-(r.length-q.length)) (by omega)
   have s4:=zbc pq
   have m2:pQ 390000 (aZ (vl (aZ (vl (r.getD i [])*vl last))*vl last)):=by rw [bZ];exact hZ ((s1.mul s2).mul s2) (by omega)
   have m3:pQ 100000 (aZ (vl top*vl last)):=hZ (s3.mul s2) (by omega)
   have m4:pQ 390000 (aZ (vl (aZ (vl top*vl last))*vl (q.getD (i-(r.length-q.length)) []))):=by rw [bZ];exact hZ ((s3.mul s2).mul s4) (by omega)
   have go:=@zrj q last r top lr i i (rsL q r last top i) (by omega) (by omega) ⟨pr.mono (by omega),hlast.mono (by omega)⟩ ⟨m1,hlast.mono (by omega)⟩ (by omega) (by omega) (by omega) (by omega) (by omega) ⟨htop.mono (by omega),hlast.mono (by omega)⟩
    (by rw [e2];exact ⟨m3,pq.mono (by omega)⟩) (by rw [e2];exact ⟨m2,m4⟩) (by simp) (by simp;omega) (by simp;omega) (by rw [zes];exact Nat.le_refl _) (by omega) (Ex.exit 2,zbI q last r top lr r.length r.length (rsL q r last top r.length))
   rw [zhC q r last top i (by rw [e2];exact zoO hs)] at go
   exact go ih
  ·have go:=@zrk q last r top lr i i (rsL q r last top i) (by omega) (by omega) ⟨pr.mono (by omega),hlast.mono (by omega)⟩ ⟨m1,hlast.mono (by omega)⟩ (by omega) (by omega) (by omega) (by simp) (by simp;omega) (by simp;omega) (by rw [zes];exact Nat.le_refl _) (by omega) (Ex.exit 2,zbI q last r top lr r.length r.length (rsL q r last top r.length))
   rw [zhC q r last top i (by exact zoP hs)] at go
   exact go ih
theorem rre_l0 {q r:List (List Int)} {last top:List Int} {N M:Nat} (hr:∀l∈r,pQ N l) (hq:∀l∈q,pQ M l) (hlast:pQ M last) (htop:pQ N top) (hb:N+2*M+20≤90000) (hlen:q.length≤r.length) (h1000:r.length≤1000) :
 ∀(m i:Nat),i+m=r.length→1≤i→zdb (zcR q last r.length top r i i (rsL q r last top i)) (Ex.exit 2,zbH q last r.length top r r.length r.length (rsL q r last top r.length))
 | 0,i,hi,_=>by
  obtain rfl:i=r.length:=by omega
  exact zrg q last r.length top r _ _ _ (by omega)
 | m + 1,i,hi,h1=>by
  have ih:=rre_l0 hr hq hlast htop hb hlen h1000 m (i+1) (by omega) (by omega)
  have e1:Int.toNat (i:Int)=i:=rfl
  have pr:=zbS hr (i:=i) (by omega)
  have s1:=zbc pr
  have s2:=zbc hlast
  have s3:=zbc htop
  have m1:pQ 100000 (aZ (vl (r.getD i [])*vl last)):=hZ (s1.mul s2) (by omega)
  by_cases hs:r.length-q.length≤i
  ·have e2:Int.toNat ((i:Int)-(r.length:Int)+(q.length:Int))=i-(r.length-q.length):=by omega
   have pq:=zbS hq (i:=i-(r.length-q.length)) (by omega)
   have s4:=zbc pq
   have m2:pQ 390000 (aZ (vl (aZ (vl (r.getD i [])*vl last))*vl last)):=by rw [bZ];exact hZ ((s1.mul s2).mul s2) (by omega)
   have m3:pQ 100000 (aZ (vl top*vl last)):=hZ (s3.mul s2) (by omega)
   have m4:pQ 390000 (aZ (vl (aZ (vl top*vl last))*vl (q.getD (i-(r.length-q.length)) []))):=by rw [bZ];exact hZ ((s3.mul s2).mul s4) (by omega)
   have go:=@zre q last r.length top r i i (rsL q r last top i) (by omega) (by omega) (by rw [e1];omega) ⟨pr.mono (by omega),hlast.mono (by omega)⟩ ⟨m1,hlast.mono (by omega)⟩ (by omega) (by omega) (by omega) (by omega) (by omega) ⟨htop.mono (by omega),hlast.mono (by omega)⟩
    (by rw [e2];exact ⟨m3,pq.mono (by omega)⟩) (by rw [e2];exact ⟨m2,m4⟩) (by simp) (by simp;omega) (by simp;omega) (by rw [zes];exact Nat.le_refl _) (by omega) (Ex.exit 2,zbH q last r.length top r r.length r.length (rsL q r last top r.length))
   rw [zhC q r last top i (by rw [e2];exact zoO hs)] at go
   exact go ih
  ·have go:=@zrf q last r.length top r i i (rsL q r last top i) (by omega) (by omega) (by rw [e1];omega) ⟨pr.mono (by omega),hlast.mono (by omega)⟩ ⟨m1,hlast.mono (by omega)⟩ (by omega) (by omega) (by omega) (by simp) (by simp;omega) (by simp;omega) (by rw [zes];exact Nat.le_refl _) (by omega) (Ex.exit 2,zbH q last r.length top r r.length r.length (rsL q r last top r.length))
   rw [zhC q r last top i (by exact zoP hs)] at go
   exact go ih
theorem rre_l1s {q r:List (List Int)} {last top:List Int} {lr:List (List Int)} {N M:Nat} (hr:∀l∈r,pQ N l) (hq:∀l∈q,pQ M l) (hlast:pQ M last) (htop:pQ N top) (hb:N+2*M+20≤90000) (hq0:1≤q.length) (hlen:q.length≤r.length) (h1000:r.length≤1000) :
 zdW (zhy q last r top lr) (Ex.exit 2,zbI q last r top lr r.length r.length (rsL q r last top r.length)):=by
 have ih:=rre_l1 (lr:=lr) hr hq hlast htop hb hlen h1000 (r.length-1) 1 (by omega) (by omega)
 have pr:=zbS hr (i:=0) (by omega)
 have s1:=zbc pr
 have s2:=zbc hlast
 have s3:=zbc htop
 have m1:pQ 100000 (aZ (vl (r.getD 0 [])*vl last)):=hZ (s1.mul s2) (by omega)
 by_cases hs:r.length-q.length≤0
 ·have e2:Int.toNat (0-(r.length:Int)+(q.length:Int))=0-(r.length-q.length):=by omega
  have pq:=zbS hq (i:=0-(r.length-q.length)) (by omega)
  have s4:=zbc pq
  have m2:pQ 390000 (aZ (vl (aZ (vl (r.getD 0 [])*vl last))*vl last)):=by rw [bZ];exact hZ ((s1.mul s2).mul s2) (by omega)
  have m3:pQ 100000 (aZ (vl top*vl last)):=hZ (s3.mul s2) (by omega)
  have m4:pQ 390000 (aZ (vl (aZ (vl top*vl last))*vl (q.getD (0-(r.length-q.length)) []))):=by rw [bZ];exact hZ ((s3.mul s2).mul s4) (by omega)
  have hx:=zoO (q:=q) (r:=r) (last:=last) (top:=top) (i:=0) hs
  have go:=@zrh q last r top lr (by omega) ⟨pr.mono (by omega),hlast.mono (by omega)⟩ ⟨m1,hlast.mono (by omega)⟩ (by omega) (by omega) (by omega) (by omega) (by omega) ⟨htop.mono (by omega),hlast.mono (by omega)⟩
   (by rw [e2];exact ⟨m3,pq.mono (by omega)⟩) (by rw [e2];exact ⟨m2,m4⟩) (by simp) (by simp) (by simp) (by simp) (Ex.exit 2,zbI q last r top lr r.length r.length (rsL q r last top r.length))
  rw [e2] at go
  refine go ?_
  rw [show rsL q r last top 1=[rsF q r last top 0] from rfl,← hx] at ih
  exact ih
 ·have hx:=zoP (q:=q) (r:=r) (last:=last) (top:=top) (i:=0) hs
  have go:=@zri q last r top lr (by omega) ⟨pr.mono (by omega),hlast.mono (by omega)⟩ ⟨m1,hlast.mono (by omega)⟩ (by omega) (by omega) (by omega) (by simp) (by simp) (by simp) (by simp) (Ex.exit 2,zbI q last r top lr r.length r.length (rsL q r last top r.length))
  refine go ?_
  rw [show rsL q r last top 1=[rsF q r last top 0] from rfl,← hx] at ih
  exact ih
theorem rre_l0s {q r:List (List Int)} {last top:List Int} {N M:Nat} (hr:∀l∈r,pQ N l) (hq:∀l∈q,pQ M l) (hlast:pQ M last) (htop:pQ N top) (hb:N+2*M+20≤90000) (hq0:1≤q.length) (hlen:q.length≤r.length) (h1000:r.length≤1000) :
 zdb (zge q last r.length top r) (Ex.exit 2,zbH q last r.length top r r.length r.length (rsL q r last top r.length)):=by
 have ih:=rre_l0 hr hq hlast htop hb hlen h1000 (r.length-1) 1 (by omega) (by omega)
 have pr:=zbS hr (i:=0) (by omega)
 have s1:=zbc pr
 have s2:=zbc hlast
 have s3:=zbc htop
 have m1:pQ 100000 (aZ (vl (r.getD 0 [])*vl last)):=hZ (s1.mul s2) (by omega)
 by_cases hs:r.length-q.length≤0
 ·have e2:Int.toNat (0-(r.length:Int)+(q.length:Int))=0-(r.length-q.length):=by omega
  have pq:=zbS hq (i:=0-(r.length-q.length)) (by omega)
  have s4:=zbc pq
  have m2:pQ 390000 (aZ (vl (aZ (vl (r.getD 0 [])*vl last))*vl last)):=by rw [bZ];exact hZ ((s1.mul s2).mul s2) (by omega)
  have m3:pQ 100000 (aZ (vl top*vl last)):=hZ (s3.mul s2) (by omega)
  have m4:pQ 390000 (aZ (vl (aZ (vl top*vl last))*vl (q.getD (0-(r.length-q.length)) []))):=by rw [bZ];exact hZ ((s3.mul s2).mul s4) (by omega)
  have hx:=zoO (q:=q) (r:=r) (last:=last) (top:=top) (i:=0) hs
  have go:=@zrc q last r.length top r (by omega) (by omega) ⟨pr.mono (by omega),hlast.mono (by omega)⟩ ⟨m1,hlast.mono (by omega)⟩ (by omega) (by omega) (by omega) (by omega) (by omega) ⟨htop.mono (by omega),hlast.mono (by omega)⟩
   (by rw [e2];exact ⟨m3,pq.mono (by omega)⟩) (by rw [e2];exact ⟨m2,m4⟩) (by simp) (by simp) (by simp) (by simp) (Ex.exit 2,zbH q last r.length top r r.length r.length (rsL q r last top r.length))
  rw [e2] at go
  refine go ?_
  rw [show rsL q r last top 1=[rsF q r last top 0] from rfl,← hx] at ih
  exact ih
 ·have hx:=zoP (q:=q) (r:=r) (last:=last) (top:=top) (i:=0) hs
  have go:=@zrd q last r.length top r (by omega) (by omega) ⟨pr.mono (by omega),hlast.mono (by omega)⟩ ⟨m1,hlast.mono (by omega)⟩ (by omega) (by omega) (by omega) (by simp) (by simp) (by simp) (by simp) (Ex.exit 2,zbH q last r.length top r r.length r.length (rsL q r last top r.length))
  refine go ?_
  rw [show rsL q r last top 1=[rsF q r last top 0] from rfl,← hx] at ih
  exact ih
def rsT (q:List (List Int)):Nat→List (List Int)→List (List Int)
 | 0,r=>r
 | k + 1,r=>if q.length≤r.length then
  rsT q k ((rsL q r (q.getD (q.length-1) []) (r.getD (r.length-1) []) r.length).take (cutN (vls (rsL q r (q.getD (q.length-1) []) (r.getD (r.length-1) []) r.length)) r.length))
  else r
theorem rsF_pQ {q r:List (List Int)} {last top:List Int} {N M:Nat} (hr:∀l∈r,pQ N l) (hq:∀l∈q,pQ M l) (hlast:pQ M last) (htop:pQ N top) {i:Nat} (hi:i<r.length) (hlen:q.length≤r.length):pQ (N+2*M+10) (rsF q r last top i):=by
 have s1:=zbc (zbS hr (i:=i) hi)
 have s2:=zbc hlast
 have s3:=zbc htop
 unfold rsF
 refine hZ (k:=N+2*M+10) ?_ (Nat.le_refl _)
 unfold agC
 rw [← za5]
 split
 ·rename_i hs
  have s4:=zbc (zbS hq (i:=i-(r.length-q.length)) (by omega))
  rw [← za5]
  exact Sz.add (s1.mul (s2.mul s2)) (((s3.mul s2).mul s4).neg) (by omega) (by omega)
 ·exact(s1.mul (s2.mul s2)).mono (by omega)
theorem rsL_pQ {q r:List (List Int)} {last top:List Int} {N M:Nat} (hr:∀l∈r,pQ N l) (hq:∀l∈q,pQ M l) (hlast:pQ M last) (htop:pQ N top) (hlen:q.length≤r.length):∀l∈rsL q r last top r.length,pQ (N+2*M+10) l:=by
 intro l hl
 unfold rsL at hl
 obtain ⟨i,hi,rfl⟩:=List.mem_map.1 hl
 exact rsF_pQ hr hq hlast htop (List.mem_range.1 hi) hlen
theorem rsTop {q r:List (List Int)} (hq0:1≤q.length) (hlen:q.length≤r.length):cutN (vls (rsL q r (q.getD (q.length-1) []) (r.getD (r.length-1) []) r.length)) r.length<r.length:=by
 obtain ⟨m,hm⟩:∃m,r.length=m+1:=⟨r.length-1,by omega⟩
 have h0:(vls (rsL q r (q.getD (q.length-1) []) (r.getD (r.length-1) []) r.length)).getD m 0=0:=by
  rw [← za5]
  have e:(rsL q r (q.getD (q.length-1) []) (r.getD (r.length-1) []) r.length).getD m []=rsF q r (q.getD (q.length-1) []) (r.getD (r.length-1) []) m:=by
   unfold rsL
   simp_all
  rw [e]
  unfold rsF agC
  rw [bZ,if_pos (by omega),← za5,← za5,show m-(r.length-q.length)=q.length-1 by omega,show r.length-1=m by omega]
  grind
 rw [hm]
 rw [hm] at h0
 exact Nat.lt_succ_of_le (zod h0)
theorem rre_l2 {q:List (List Int)} {M n6:Nat} {lr:List (List Int)} (hq0:1≤q.length) (hql:q.length≤1000) (hq:∀l∈q,pQ M l):∀(k:Nat) (r:List (List Int)) (N:Nat),r.length≤k→r.length≤1000→(∀l∈r,pQ N l)→N+k*(2*M+10)≤89000→M≤40000 →
    zgf (zgg q (q.getD (q.length-1) []) n6 lr r) (Ex.exit 0,zep q (q.getD (q.length-1) []) n6 lr (rsT q k r))∧(∀l∈rsT q k r,pQ (N+k*(2*M+10)) l)∧(rsT q k r).length≤r.length∧(rsT q k r).length<q.length
  | k, r, N,hk,hm,hr,hs,hM=>by
    by_cases hc:q.length≤r.length
    · obtain ⟨k,rfl⟩:∃j,k=j+1:=⟨k-1,by omega⟩
      have hmul:(k+1)*(2*M+10)=k*(2*M+10)+(2*M+10):=Nat.succ_mul _ _
      have hlast:=zbS hq (i:=q.length-1) (by omega)
      have htop:=zbS hr (i:=r.length-1) (by omega)
      have L1:=rre_l1s (lr:=lr) hr hq hlast htop (by omega) hq0 hc hm
      have hP:=rsL_pQ hr hq hlast htop hc
      have hT:=rsTop hq0 hc
      have hl:=zes q r (q.getD (q.length-1) []) (r.getD (r.length-1) []) r.length
      have e1:Int.toNat ((r.length:Int)-1)=r.length-1:=by omega
      have e:rsT q (k+1) r=rsT q k ((rsL q r (q.getD (q.length-1) []) (r.getD (r.length-1) []) r.length).take (cutN (vls (rsL q r (q.getD (q.length-1) []) (r.getD (r.length-1) []) r.length)) r.length)):=by
        conv=>lhs;unfold rsT
        rw [if_pos hc]
      generalize hX:rsL q r (q.getD (q.length-1) []) (r.getD (r.length-1) []) r.length=X at *
      have hl2:(X.take (cutN (vls X) r.length)).length=cutN (vls X) r.length:=by rw [List.length_take];omega
      obtain ⟨i1,i2,i3,i4⟩:=rre_l2 (n6:=n6) (lr:=lr) hq0 hql hq k (X.take (cutN (vls X) r.length)) (N+2*M+10) (by omega) (by omega) (fun l h=>hP l (List.mem_of_mem_take h)) (by omega) hM
      have go:=@zro q (q.getD (q.length-1) []) n6 lr r r.length r.length X (by omega) (by omega) (by omega) (by omega) (by rw [e1];exact L1) (by omega)
        (by
          rw [List.take_of_length_le (by omega)]
          exact ⟨by omega,fun l h=>(hP l h).mono (by omega)⟩) (Ex.exit 0,zep q (q.getD (q.length-1) []) n6 lr (rsT q (k+1) r))
      grind
    · have e:rsT q k r=r:=by
        cases k with
        | zero=>rfl
        | succ k=>unfold rsT;rw [if_neg hc]
      rw [e]
      exact ⟨zrp q _ n6 lr r (by omega),fun l h=>(hr l h).mono (Nat.le_add_right _ _),Nat.le_refl _,by omega⟩
def pRe (p q:List (List Int)):Prop:=(∃N M:Nat,(∀l∈p,pQ N l)∧(∀l∈q,pQ M l)∧N+p.length*(2*M+10)≤89000∧M≤40000)∧p.length≤1000∧1≤q.length∧q.length≤1000
instance tRe {p q:List (List Int)}:Tst (pRe p q):=⟨false,fun h=>by cases h⟩
theorem rest_fc (p q:List (List Int)) (h:pRe p q):FC Tryz.prog 148 [.lst (.sl (.int .i64)) p,.lst (.sl (.int .i64)) q] (.lst (.sl (.int .i64)) (rsT q p.length p)):=by
  obtain ⟨⟨N,M,hp,hq,hs,hM⟩,hpl,hq0,hql⟩:=h
  have e1:Int.toNat ((q.length:Int)-1)=q.length-1:=by omega
  by_cases hc:q.length≤p.length
  · obtain ⟨k,hk⟩:∃j,p.length=j+1:=⟨p.length-1,by omega⟩
    have hmul:(k+1)*(2*M+10)=k*(2*M+10)+(2*M+10):=Nat.succ_mul _ _
    rw [hk,hmul] at hs
    have hlast:=zbS hq (i:=q.length-1) (by omega)
    have htop:=zbS hp (i:=p.length-1) (by omega)
    have L0:=rre_l0s hp hq hlast htop (by omega) hq0 hc hpl
    have hP:=rsL_pQ hp hq hlast htop hc
    have hT:=rsTop hq0 hc
    have hl:=zes q p (q.getD (q.length-1) []) (p.getD (p.length-1) []) p.length
    have e2:Int.toNat ((p.length:Int)-1)=p.length-1:=by omega
    have e:rsT q p.length p=rsT q k ((rsL q p (q.getD (q.length-1) []) (p.getD (p.length-1) []) p.length).take (cutN (vls (rsL q p (q.getD (q.length-1) []) (p.getD (p.length-1) []) p.length)) p.length)):=by
      conv=>lhs;rw [hk];unfold rsT
      rw [if_pos hc]
    generalize hX:rsL q p (q.getD (q.length-1) []) (p.getD (p.length-1) []) p.length=X at *
    have hl2:(X.take (cutN (vls X) p.length)).length=cutN (vls X) p.length:=by rw [List.length_take];omega
    obtain ⟨i1,_,_,_⟩:=rre_l2 (n6:=p.length) (lr:=p) hq0 hql hq k (X.take (cutN (vls X) p.length)) (N+2*M+10) (by omega) (by omega) (fun l h=>hP l (List.mem_of_mem_take h)) (by omega) hM
    have go:=@zrm q (q.getD (q.length-1) []) p.length p p.length p.length X (by omega) (by omega) (by omega) (by omega) (by omega) (by rw [e2];exact L0) (by omega)
      (by
        rw [List.take_of_length_le (by omega)]
        exact ⟨by omega,fun l h=>(hP l h).mono (by omega)⟩) (Ex.exit 0,zep q (q.getD (q.length-1) []) p.length p (rsT q p.length p))
    rw [show X.take p.length=X from List.take_of_length_le (by omega),show X.length=p.length from hl] at go
    rw [e] at go ⊢
    have f:=go i1
    exact rre_1 p q _ (by omega) (by omega) (by omega) (by omega) (by omega) (by rw [e1,Nat.zero_add];exact f)
  · have e:rsT q p.length p=p:=by
      cases hk:p.length with
      | zero=>rfl
      | succ k=>unfold rsT;rw [if_neg hc]
    rw [e]
    have:=rre_0 p q (by omega) (by omega) (by omega) (by omega) (by omega) (by rw [e1,Nat.zero_add];exact zrn q _ p.length p (by omega)) (by simp)
    simp_all
noncomputable def ctrH6:Ctr:=(148,cD2 (.sl (.sl (.int .i64))) (.sl (.sl (.int .i64))) pRe (fun p q=>.lst (.sl (.int .i64)) (rsT q p.length p))) :: ctrH5
theorem zlE:∀p∈ctrH6,kZ Tryz.prog p.1 p.2:=CAll.cons (zeS rest_fc) zlD
theorem zpZ:(dZ Tryz.prog ctrH6 bw [] kdR).OK:=DZ zbQ mixed zlE zbM
noncomputable section
abbrev zfF (s:St) (r:Ex × St):Prop:=Loops 1 Tryz.prog (lZ Tryz.prog 163 0) s r
abbrev zht (a:List (List Int)) (b c:List Int) (d:Int):St:=⟨sp 32 [(0,.lst (EK.sl (.int .i64)) a),(1,.sq b),(2,.sq c),(7,aN),(8,.own 0 0 1 1),(9,aI d)],[.ints [1] true],[]⟩
abbrev zfG (a:List (List Int)) (b c:List Int) (d e f g:Int):St:=⟨sp 32 [(0,.lst (EK.sl (.int .i64)) a),(1,.sq b),(2,.sq c),(7,.ni e),(8,.ni f),(9,aI g)],[.ints [1] false],[]⟩
abbrev zmt (a:List (List Int)) (b c:List Int) (d:Int):St:=⟨sp 32 [(0,.lst (EK.sl (.int .i64)) a),(1,.sq b),(2,.sq c),(7,aN),(8,.own 0 0 1 1),(9,aI d)],[.ints [1] true],[]⟩
abbrev zei (a:List (List Int)) (b c:List Int) (d e f g:Int):St:=⟨sp 32 [(0,.lst (EK.sl (.int .i64)) a),(1,.sq b),(2,.sq c),(7,.ni e),(8,.ni f),(9,aI g)],[.ints [1] false],[]⟩
theorem zqf (a:List (List Int)) (b d:List Int) (f:Int) (h1:f≥0) (h2:0≤f) (h3:f<(a.length:Int)) (h4:pMu [] b) (h5:1≤1) (h6:pMu (a.getD f.toNat (EK.dflt (EK.sl (.int .i64)))) (List.take 1 [1])) (h7:pAd (aZ (0*vl b)) (aZ (vl (a.getD f.toNat (EK.dflt (EK.sl (.int .i64))))*1))) (h8:pMu (List.take 1 [1]) d) (h9:r64 (f-1)) {r:Ex × St} (k:zfF (zfG a b d f (vl (aZ (0*vl b))+vl (aZ (vl (a.getD f.toNat (EK.dflt (EK.sl (.int .i64))))*1))) (1*vl d) (f-1)) r):zfF (zht a b d f) r:=Loops.go (LS.at zpZ 60 [] [0,1,2,7,8,9] [] [1] (.t h1<|.t h2<|.t h3<|.c h4<|.c h5<|.c h6<|.c h7<|.c h8<|.i h9<|.e) [1,2,3,4,5,6,7,5,8,9]) k
theorem zqg (a:List (List Int)) (b c:List Int) (d:Int) (h1:¬(d≥0)):zfF (zht a b c d) (Ex.exit 0,(zmt a b c d)):=Loops.fin (LS.at zpZ 60 [] [0,1,2,7,8,9] [] [0] (.f h1<|.e) [1]) (fun h=>nomatch h)
theorem zqh (a:List (List Int)) (b d:List Int) (f g j l:Int) (h1:l≥0) (h2:0≤l) (h3:l<(a.length:Int)) (h4:pMu (aZ g) b) (h5:pMu (a.getD l.toNat (EK.dflt (EK.sl (.int .i64)))) (aZ j)) (h6:pAd (aZ (vl (aZ g)*vl b)) (aZ (vl (a.getD l.toNat (EK.dflt (EK.sl (.int .i64))))*vl (aZ j)))) (h7:pMu (aZ j) d) (h8:r64 (l-1)) {r:Ex × St} (k:zfF (zfG a b d f (vl (aZ (vl (aZ g)*vl b))+vl (aZ (vl (a.getD l.toNat (EK.dflt (EK.sl (.int .i64))))*vl (aZ j)))) (vl (aZ j)*vl d) (l-1)) r):zfF (zfG a b d f g j l) r:=Loops.go (LS.at zpZ 60 [] [0,1,2,7,8,9] [] [1] (.t h1<|.t h2<|.t h3<|.c h4<|.c h5<|.c h6<|.c h7<|.i h8<|.e) [1,2,3,4,5,6,7,8]) k
theorem zqi (a:List (List Int)) (b c:List Int) (d g i j:Int) (h1:¬(j≥0)):zfF (zfG a b c d g i j) (Ex.exit 0,(zei a b c d g i j)):=Loops.fin (LS.at zpZ 60 [] [0,1,2,7,8,9] [] [0] (.f h1<|.e) [1]) (fun h=>nomatch h)
theorem rat_0 (p:List (List Int)) (a b:List Int) (h1:r64 ((p.length:Int)-1)) (hL1:zfF (zht p a b ((p.length:Int)-1)) (Ex.exit 0,(zmt p a b ((p.length:Int)-1)))):FC Tryz.prog 163 [.lst (.sl (.int .i64)) p,.sq a,.sq b] (aN):=eZ zpZ 60 [] (.i h1<|.v [0,1,2,7,8,9] [] hL1<|.e) [1,0,2]
theorem rat_1 (p:List (List Int)) (a b:List Int) (c d f:Int) (h1:r64 ((p.length:Int)-1)) (hL1:zfF (zht p a b ((p.length:Int)-1)) (Ex.exit 0,(zei p a b ((p.length:Int)-1) c d f))):FC Tryz.prog 163 [.lst (.sl (.int .i64)) p,.sq a,.sq b] (.ni c):=eZ zpZ 60 [] (.i h1<|.v [0,1,2,7,8,9] [] hL1<|.e) [1,0,2]
end
open Go.Kf
theorem sg_sz {K A:Nat} {a b:Int} (ha:Sz A a) (hb:Sz A b):∀(l:List Int),(∀c∈l,Sz K c)→Sz (1+l.length*(A+1)) (zmL a b l).2∧Sz (K+10+l.length*(A+10)) (zmL a b l).1
 | [],_=>⟨Sz.lit (z:=1) (by decide) (by simp),Sz.zero⟩
 | c :: l,h=>by
  obtain ⟨h1,h2⟩:=sg_sz ha hb l fun d hd=>h d (by simp [hd])
  have m1:(l.length+1)*(A+1)=l.length*(A+1)+(A+1):=Nat.succ_mul _ _
  have m2:(l.length+1)*(A+10)=l.length*(A+10)+(A+10):=Nat.succ_mul _ _
  have m3:l.length*(A+10)=l.length*(A+1)+l.length*9:=by rw [← Nat.mul_add]
  refine ⟨?_,?_⟩
  ·show Sz (1+(l.length+1)*(A+1)) ((zmL a b l).2*b)
   exact(h1.mul hb).mono (by omega)
  ·show Sz (K+10+(l.length+1)*(A+10)) ((zmL a b l).1*a+c*(zmL a b l).2)
   exact Sz.add (h2.mul ha) ((h c (by simp)).mul h1) (by omega) (by omega)
theorem zev (p:List (List Int)):(vls p).length=p.length:=by simp [vls]
theorem zo6 {p:List (List Int)} {i:Nat} (h:i<p.length):(vls p).drop i=vl (p.getD i []) :: (vls p).drop (i+1):=by
 rw [zgB (by rw [zev];exact h),za5]
theorem vls_sz {p:List (List Int)} {K:Nat} (hp:∀l∈p,pQ K l):∀c∈vls p,Sz (K+3) c:=fun c hc=>by
 obtain ⟨l,hl,rfl⟩:=List.mem_map.1 hc
 exact zbc (hp l hl)
theorem zoE {p:List (List Int)} {a b:List Int} {K A:Nat} {t9:Int} (hp:∀l∈p,pQ K l) (ha:pQ A a) (hb:pQ A b) (hl:p.length≤1000) (hs:K+30+p.length*(A+13)≤90000) :
 ∀(i:Nat),i≤p.length→zfF (zfG p a b t9 (zmL (vl a) (vl b) ((vls p).drop i)).1 (zmL (vl a) (vl b) ((vls p).drop i)).2 ((i:Int)-1)) (Ex.exit 0,zei p a b t9 (zai (vls p) (vl a) (vl b)) (zmL (vl a) (vl b) (vls p)).2 (((0:Nat):Int)-1))
 | 0,_=>zqi p a b t9 _ _ _ (by omega)
 | i + 1,hi=>by
  have ih:=zoE (t9:=t9) hp ha hb hl hs i (by omega)
  have e1:Int.toNat (((i+1:Nat):Int)-1)=i:=by omega
  have e2:((i+1:Nat):Int)-1-1=(i:Int)-1:=by omega
  obtain ⟨s1,s2⟩:=sg_sz (zbc ha) (zbc hb) ((vls p).drop (i+1)) fun c hc=>vls_sz hp c (List.mem_of_mem_drop hc)
  have hdl:((vls p).drop (i+1)).length≤p.length:=by rw [List.length_drop,zev];omega
  have q1:((vls p).drop (i+1)).length*(A+3+1)≤p.length*(A+13):=Nat.mul_le_mul hdl (by omega)
  have q2:((vls p).drop (i+1)).length*(A+3+10)≤p.length*(A+13):=Nat.mul_le_mul hdl (by omega)
  have hA:1*(A+13)≤p.length*(A+13):=Nat.mul_le_mul_right _ (by omega)
  have pp:=zbS hp (i:=i) (by omega)
  rw [zo6 (show i<p.length by omega)] at ih
  generalize hz:zmL (vl a) (vl b) ((vls p).drop (i+1))=z at *
  have w1:pQ 90000 (aZ z.2):=hZ s1 (by omega)
  have w2:pQ 90000 (aZ z.1):=hZ s2 (by omega)
  have go:=@zqh p a b t9 z.1 z.2 (((i+1:Nat):Int)-1) (by omega) (by omega) (by omega) ⟨w2.mono (by omega),ha.mono (by omega)⟩ (by rw [e1];exact ⟨pp.mono (by omega),w1.mono (by omega)⟩)
   (by
    rw [e1,bZ,bZ]
    exact ⟨hZ (s2.mul (zbc ha)) (by omega),hZ ((zbc pp).mul s1) (by omega)⟩) ⟨w1.mono (by omega),hb.mono (by omega)⟩ (by omega) (Ex.exit 0,zei p a b t9 (zai (vls p) (vl a) (vl b)) (zmL (vl a) (vl b) (vls p)).2 (((0:Nat):Int)-1))
  simp only [bZ,e1,e2] at go
  refine go ?_
  have e3:zmL (vl a) (vl b) (vl (p.getD i []) :: (vls p).drop (i+1))=(z.1*vl a+vl (p.getD i [])*z.2,z.2*vl b):=by rw [← hz];rfl
  rw [e3] at ih
  exact ih
def pAt (p:List (List Int)) (a b:List Int):Prop:=∃K A:Nat,(∀l∈p,pQ K l)∧pQ A a∧pQ A b∧p.length≤1000∧K+30+p.length*(A+13)≤80000
instance tAt {p:List (List Int)} {a b:List Int}:Tst (pAt p a b):=⟨false,fun h=>by cases h⟩
theorem at_fc (p:List (List Int)) (a b:List Int) (h:pAt p a b):FC Tryz.prog 163 [.lst (.sl (.int .i64)) p,.sq a,.sq b] (.ni (zai (vls p) (vl a) (vl b))):=by
 obtain ⟨K,A,hp,ha,hb,hl,hs⟩:=h
 by_cases h0:p=[]
 ·subst h0
  have:=rat_0 [] a b ⟨by decide,by decide⟩ (zqg [] a b _ (by simp))
  exact this.res fun E v hv=>hv.toNi (l:=[]) rfl rfl
 ·have hpos:0<p.length:=List.length_pos_iff.2 h0
  obtain ⟨m,hm⟩:∃m,p.length=m+1:=⟨p.length-1,by omega⟩
  have e0:(p.length:Int)-1=(m:Int):=by omega
  have L:=zoE (t9:=(p.length:Int)-1) hp ha hb hl (by omega) m (by omega)
  have hA:1*(A+13)≤p.length*(A+13):=Nat.mul_le_mul_right _ (by omega)
  have pp:=zbS hp (i:=m) (by omega)
  have e1:Int.toNat ((p.length:Int)-1)=m:=by omega
  have p1:pQ 100000 (List.take 1 [(1:Int)]):=⟨by simp,fun d hd=>by simp at hd;subst hd;unfold cZ;omega⟩
  have go:=@zqf p a b ((p.length:Int)-1) (by omega) (by omega) (by omega) ⟨⟨by simp,fun d hd=>by cases hd⟩,ha.mono (by omega)⟩ (by omega) (by rw [e1];exact ⟨pp.mono (by omega),p1⟩)
   (by
    rw [e1]
    refine ⟨?_,hZ (k:=K+3) (by rw [Int.mul_one];exact zbc pp) (by omega)⟩
    rw [Int.zero_mul];exact hZ (k:=1) Sz.zero (by omega)) ⟨p1,hb.mono (by omega)⟩ (by omega) (Ex.exit 0,zei p a b ((p.length:Int)-1) (zai (vls p) (vl a) (vl b)) (zmL (vl a) (vl b) (vls p)).2 (((0:Nat):Int)-1))
  simp only [bZ,e1] at go
  have e3:zmL (vl a) (vl b) ((vls p).drop m)=(0*vl a+vl (p.getD m [])*1,1*vl b):=by
   rw [zo6 (show m<p.length by omega),List.drop_of_length_le (by rw [zev];omega)];rfl
  rw [e3,show(m:Int)-1=(p.length:Int)-1-1 by omega] at L
  exact rat_1 p a b _ _ _ (by omega) (go L)
def cRat (args:List AV):M AV:=match args with
 | [x,y,z]=>do
  let p ← asK (.sl (.sl (.int .i64))) x
  let a ← asK (.sl (.int .i64)) y
  let b ← asK (.sl (.int .i64)) z
  tellD (pAt p a b) (Tst.b (pAt p a b))
  gives (.ni (zai (vls p) (vl a) (vl b)))
 | _=>fail 300
noncomputable def ctrH7:Ctr:=(163,cRat) :: ctrH6
theorem cRat_ok:kZ Tryz.prog 163 cRat:=by
 intro args _
 unfold cRat
 split
 ·exact Spec.bind (asK_spec.mono fun p hp=>Spec.bind (asK_spec.mono fun a ha=>Spec.bind (asK_spec.mono fun b hb=>Spec.bind (Spec.tellD Tst.ok fun h=>Spec.gives ((at_fc p a b h).le (.cons hp (.cons ha (.cons hb .nil))) (Le.refl _))))))
 ·exact Spec.fail
theorem zhY:∀p∈ctrH7,kZ Tryz.prog p.1 p.2:=CAll.cons cRat_ok zlE
theorem zp0:(dZ Tryz.prog ctrH7 bw [] kdR).OK:=DZ zbQ mixed zhY zbM
noncomputable section
abbrev zcK (s:St) (r:Ex × St):Prop:=Loops 0 Tryz.prog (lZ Tryz.prog 149 0) s r
abbrev zay (a:List (List (List Int))) (b c:List Int) (d e f:Int):St:=⟨sp 38 [(0,.lst (EK.sl (EK.sl (.int .i64))) a),(1,.sq b),(2,.sq c),(7,aI d),(8,aI e),(9,aI f)],[],[]⟩
abbrev zcr (a:List (List (List Int))) (b c:List Int) (d e f:Int):St:=⟨sp 38 [(0,.lst (EK.sl (EK.sl (.int .i64))) a),(1,.sq b),(2,.sq c),(7,aI d),(8,aI e),(9,aI f)],[],[]⟩
theorem zqj (a:List (List (List Int))) (b d:List Int) (f g j:Int) (h1:j<(a.length:Int)) (h2:0≤j) (h3:pAt (a.getD j.toNat (EK.dflt (EK.sl (EK.sl (.int .i64))))) b d) (h4:pX (aZ (zai (vls (a.getD j.toNat (EK.dflt (EK.sl (EK.sl (.int .i64)))))) (vl b) (vl d)))) (h5:(vl (aZ (zai (vls (a.getD j.toNat (EK.dflt (EK.sl (EK.sl (.int .i64)))))) (vl b) (vl d)))).sign≠0) (h6:g≠0) (h7:(vl (aZ (zai (vls (a.getD j.toNat (EK.dflt (EK.sl (EK.sl (.int .i64)))))) (vl b) (vl d)))).sign≠g) (h8:r64 (f+1)) (h9:r64 (j+1)) {r:Ex × St} (k:zcK (zay a b d (f+1) (vl (aZ (zai (vls (a.getD j.toNat (EK.dflt (EK.sl (EK.sl (.int .i64)))))) (vl b) (vl d)))).sign (j+1)) r):zcK (zay a b d f g j) r:=Loops.go (LS.at zp0 60 [] [0,1,2,7,8,9] [] [1,1,1,1] (.t h1<|.t h2<|.c h3<|.c h4<|.c (bne_iff_ne.2 h5)<|.c (bne_iff_ne.2 h6)<|.c (bne_iff_ne.2 h7)<|.i h8<|.i h9<|.e) [1,2,1,3,4,5,6,7,8,9]) k
theorem zqk (a:List (List (List Int))) (b d:List Int) (f g j:Int) (h1:j<(a.length:Int)) (h2:0≤j) (h3:pAt (a.getD j.toNat (EK.dflt (EK.sl (EK.sl (.int .i64))))) b d) (h4:pX (aZ (zai (vls (a.getD j.toNat (EK.dflt (EK.sl (EK.sl (.int .i64)))))) (vl b) (vl d)))) (h5:(vl (aZ (zai (vls (a.getD j.toNat (EK.dflt (EK.sl (EK.sl (.int .i64)))))) (vl b) (vl d)))).sign≠0) (h6:g≠0) (h7:(vl (aZ (zai (vls (a.getD j.toNat (EK.dflt (EK.sl (EK.sl (.int .i64)))))) (vl b) (vl d)))).sign=g) (h8:r64 (j+1)) {r:Ex × St} (k:zcK (zay a b d f (vl (aZ (zai (vls (a.getD j.toNat (EK.dflt (EK.sl (EK.sl (.int .i64)))))) (vl b) (vl d)))).sign (j+1)) r):zcK (zay a b d f g j) r:=Loops.go (LS.at zp0 60 [] [0,1,2,7,8,9] [] [1,1,1,0] (.t h1<|.t h2<|.c h3<|.c h4<|.c (bne_iff_ne.2 h5)<|.c (bne_iff_ne.2 h6)<|.c (bne_eq_false_iff_eq.2 h7)<|.i h8<|.e) [1,2,1,3,4,5,6,7,8]) k
theorem zql (a:List (List (List Int))) (b d:List Int) (f g j:Int) (h1:j<(a.length:Int)) (h2:0≤j) (h3:pAt (a.getD j.toNat (EK.dflt (EK.sl (EK.sl (.int .i64))))) b d) (h4:pX (aZ (zai (vls (a.getD j.toNat (EK.dflt (EK.sl (EK.sl (.int .i64)))))) (vl b) (vl d)))) (h5:(vl (aZ (zai (vls (a.getD j.toNat (EK.dflt (EK.sl (EK.sl (.int .i64)))))) (vl b) (vl d)))).sign≠0) (h6:g=0) (h7:r64 (j+1)) {r:Ex × St} (k:zcK (zay a b d f (vl (aZ (zai (vls (a.getD j.toNat (EK.dflt (EK.sl (EK.sl (.int .i64)))))) (vl b) (vl d)))).sign (j+1)) r):zcK (zay a b d f g j) r:=Loops.go (LS.at zp0 60 [] [0,1,2,7,8,9] [] [1,1,0] (.t h1<|.t h2<|.c h3<|.c h4<|.c (bne_iff_ne.2 h5)<|.c (bne_eq_false_iff_eq.2 h6)<|.i h7<|.e) [1,2,1,3,4,5,6,7]) k
theorem zqm (a:List (List (List Int))) (b d:List Int) (f g j:Int) (h1:j<(a.length:Int)) (h2:0≤j) (h3:pAt (a.getD j.toNat (EK.dflt (EK.sl (EK.sl (.int .i64))))) b d) (h4:pX (aZ (zai (vls (a.getD j.toNat (EK.dflt (EK.sl (EK.sl (.int .i64)))))) (vl b) (vl d)))) (h5:(vl (aZ (zai (vls (a.getD j.toNat (EK.dflt (EK.sl (EK.sl (.int .i64)))))) (vl b) (vl d)))).sign=0) (h6:r64 (j+1)) {r:Ex × St} (k:zcK (zay a b d f g (j+1)) r):zcK (zay a b d f g j) r:=Loops.go (LS.at zp0 60 [] [0,1,2,7,8,9] [] [1,0] (.t h1<|.t h2<|.c h3<|.c h4<|.c (bne_eq_false_iff_eq.2 h5)<|.i h6<|.e) [1,2,1,3,4,5,6]) k
theorem zqn (a:List (List (List Int))) (b c:List Int) (d g i:Int) (h1:¬(i<(a.length:Int))):zcK (zay a b c d g i) (Ex.exit 0,(zcr a b c d g i)):=Loops.fin (LS.at zp0 60 [] [0,1,2,7,8,9] [] [0] (.f h1<|.e) [1]) (fun h=>nomatch h)
theorem rch_0 (p:List (List (List Int))) (a b:List Int) (c d f:Int) (hL1:zcK (zay p a b (0) (0) (0)) (Ex.exit 0,(zcr p a b c d f))):FC Tryz.prog 149 [.lst (.sl (.sl (.int .i64))) p,.sq a,.sq b] (aI c):=eZ zp0 60 [] (.v [0,1,2,7,8,9] [] hL1<|.e) [0,1]
end
theorem pAt_sz {p:List (List Int)} {a b:List Int} (h:pAt p a b):Sz 90000 (zai (vls p) (vl a) (vl b)):=by
 obtain ⟨K,A,hp,ha,hb,hl,hs⟩:=h
 have h1:=(sg_sz (zbc ha) (zbc hb) (vls p) (vls_sz hp)).2
 rw [zev] at h1
 exact h1.mono (by
  have:p.length*(A+3+10)=p.length*(A+13):=by rw [Nat.add_assoc]
  omega)
def zbk:List Int→Int→Int→Int × Int
 | [],n,l=>(n,l)
 | v :: vs,n,l=>if v.sign=0 then zbk vs n l else if l≠0∧v.sign≠l then zbk vs (n+1) v.sign else zbk vs n v.sign
def svs (L:List (List (List Int))) (a b:Int):List Int:=L.map fun p=>zai (vls p) a b
theorem zfH {L:List (List (List Int))} {a b:List Int} (hL:∀p∈L,pAt p a b) (hl:L.length≤1000):∀(m i:Nat) (n l:Int),i+m=L.length→0≤n→n≤i →
 zcK (zay L a b n l i) (Ex.exit 0,zcr L a b (zbk ((svs L (vl a) (vl b)).drop i) n l).1 (zbk ((svs L (vl a) (vl b)).drop i) n l).2 L.length)
 | 0,i,n,l,hi,h0,h1=>by
  obtain rfl:i=L.length:=by omega
  rw [List.drop_of_length_le (by simp [svs])]
  exact zqn L a b n l _ (by omega)
 | m + 1, i,n,l,hi,h0,h1=>by
  have hlt:i<L.length:=by omega
  have e1:Int.toNat (i:Int)=i:=rfl
  have hg:L.getD i []=L[i]:=by simp [List.getD,hlt]
  have hp:pAt (L.getD i []) a b:=by rw [hg];exact hL _ (List.getElem_mem hlt)
  have hx:pX (aZ (zai (vls (L.getD i [])) (vl a) (vl b))):=hZ (pAt_sz hp) (by decide)
  have hd:(svs L (vl a) (vl b)).drop i=zai (vls (L.getD i [])) (vl a) (vl b) :: (svs L (vl a) (vl b)).drop (i+1):=by
   rw [List.drop_eq_getElem_cons (by simpa [svs] using hlt),hg];simp [svs]
  rw [hd]
  have nv:=bZ (zai (vls (L.getD i [])) (vl a) (vl b))
  by_cases hz:(zai (vls (L.getD i [])) (vl a) (vl b)).sign=0
  ·have ih:=zfH hL hl m (i+1) n l (by omega) h0 (by omega)
   have go:=@zqm L a b n l i (by omega) (by omega) hp hx (by rw [e1];show Int.sign (vl (aZ (zai (vls (L.getD i [])) (vl a) (vl b))))=0;rw [nv];exact hz) (by omega) (Ex.exit 0,zcr L a b (zbk ((svs L (vl a) (vl b)).drop (i+1)) n l).1 (zbk ((svs L (vl a) (vl b)).drop (i+1)) n l).2 L.length)
   unfold zbk
   rw [if_pos hz]
   exact go ih
  ·have hz':Int.sign (vl (aZ (zai (vls (L.getD i [])) (vl a) (vl b))))≠0:=by rw [nv];exact hz
   unfold zbk
   rw [if_neg hz]
   by_cases hl0:l=0
   ·rw [if_neg (fun h=>h.1 hl0)]
    have ih:=zfH hL hl m (i+1) n (zai (vls (L.getD i [])) (vl a) (vl b)).sign (by omega) h0 (by omega)
    have go:=@zql L a b n l i (by omega) (by omega) hp hx hz' hl0 (by omega) (Ex.exit 0,zcr L a b (zbk ((svs L (vl a) (vl b)).drop (i+1)) n (zai (vls (L.getD i [])) (vl a) (vl b)).sign).1 (zbk ((svs L (vl a) (vl b)).drop (i+1)) n (zai (vls (L.getD i [])) (vl a) (vl b)).sign).2 L.length)
    refine go ?_
    show zcK (zay L a b n (Int.sign (vl (aZ (zai (vls (L.getD i [])) (vl a) (vl b))))) ((i:Int)+1)) _
    rw [nv];exact ih
   ·by_cases hne:(zai (vls (L.getD i [])) (vl a) (vl b)).sign=l
    ·rw [if_neg (fun h=>h.2 hne)]
     have ih:=zfH hL hl m (i+1) n (zai (vls (L.getD i [])) (vl a) (vl b)).sign (by omega) h0 (by omega)
     have go:=@zqk L a b n l i (by omega) (by omega) hp hx hz' hl0 (by rw [e1];show Int.sign (vl (aZ (zai (vls (L.getD i [])) (vl a) (vl b))))=l;rw [nv];exact hne) (by omega) (Ex.exit 0,zcr L a b (zbk ((svs L (vl a) (vl b)).drop (i+1)) n (zai (vls (L.getD i [])) (vl a) (vl b)).sign).1 (zbk ((svs L (vl a) (vl b)).drop (i+1)) n (zai (vls (L.getD i [])) (vl a) (vl b)).sign).2 L.length)
     refine go ?_
     show zcK (zay L a b n (Int.sign (vl (aZ (zai (vls (L.getD i [])) (vl a) (vl b))))) ((i:Int)+1)) _
     rw [nv];exact ih
    ·rw [if_pos ⟨hl0,hne⟩]
     have ih:=zfH hL hl m (i+1) (n+1) (zai (vls (L.getD i [])) (vl a) (vl b)).sign (by omega) (by omega) (by omega)
     have go:=@zqj L a b n l i (by omega) (by omega) hp hx hz' hl0 (by rw [e1];show Int.sign (vl (aZ (zai (vls (L.getD i [])) (vl a) (vl b))))≠l;rw [nv];exact hne) (by omega) (by omega) (Ex.exit 0,zcr L a b (zbk ((svs L (vl a) (vl b)).drop (i+1)) (n+1) (zai (vls (L.getD i [])) (vl a) (vl b)).sign).1 (zbk ((svs L (vl a) (vl b)).drop (i+1)) (n+1) (zai (vls (L.getD i [])) (vl a) (vl b)).sign).2 L.length)
     refine go ?_
     show zcK (zay L a b (n+1) (Int.sign (vl (aZ (zai (vls (L.getD i [])) (vl a) (vl b))))) ((i:Int)+1)) _
     rw [nv];exact ih
def pCh (L:List (List (List Int))) (a b:List Int):Prop:=(∀p∈L,pAt p a b)∧L.length≤1000
instance tCh {L:List (List (List Int))} {a b:List Int}:Tst (pCh L a b):=⟨false,fun h=>by cases h⟩
theorem zpl (L:List (List (List Int))) (a b:List Int) (h:pCh L a b):FC Tryz.prog 149 [.lst (.sl (.sl (.int .i64))) L,.sq a,.sq b] (.lit (.int .i64 (zbk (svs L (vl a) (vl b)) 0 0).1)):=by
 have:=zfH h.1 h.2 L.length 0 0 0 (by omega) (by omega) (by omega)
 exact rch_0 L a b _ _ _ this
noncomputable section
end
open Go.Kf
theorem ze6:∀l:List Int,iZ .whole l=yZ .W l
 | []=>rfl
 | z :: l=>by
  show EK.cells .whole z++iZ .whole l=zhd .W z++yZ .W l
  rw [ze6 l];rfl
theorem Le.lst_zlW (l:List Int):Le (.lst .whole l) (.zl .W l):=fun E v h=>by
 cases h with
 | lst h=>exact .zl (by rw [← ze6];exact h)
theorem zjT (l:List Int) (a b:Int) (h:zdz l a b):FC Tryz.prog 153 [.lst .whole l,W a,W b] (.lit (.int .i64 (zai l a b).sign)):=
 (zi2 l a b h).le (.cons (Le.lst_zlW l) (LeL.refl _)) (Le.refl _)
theorem agC_map (q r:List (List Int)) (last top:List Int) (i:Nat):vl (rsF q r last top i)=agC (vls q) (vl last*vl last) (vl top*vl last) (r.length-q.length) i ((vls r).getD i 0):=by
 unfold rsF;rw [bZ]
theorem zjB {r r':List Int}:∀n,(∀i,i<n→r.getD i 0=r'.getD i 0)→cutN r n=cutN r' n
 | 0,_=>rfl
 | n+1,h=>by
  unfold cutN
  rw [h n (by omega),zjB n fun i hi=>h i (by omega)]
theorem zpw {l:List (List Int)} {c i:Nat} (h:i<c):(l.take c).getD i []=l.getD i []:=by
 simp only [List.getD_eq_getElem?_getD,List.getElem?_take,h,if_true]
theorem rsT_agN {q:List (List Int)} (hq0:1≤q.length):∀(k n:Nat) (r:List (List Int)) (R:List Int),r.length=n→n≤R.length→(∀i,i<n→(vls r).getD i 0=R.getD i 0) →
 (rsT q k r).length=(agN (vls q) k n R).1∧(agN (vls q) k n R).1≤(agN (vls q) k n R).2.length∧∀i,i<(agN (vls q) k n R).1→(vls (rsT q k r)).getD i 0=(agN (vls q) k n R).2.getD i 0
 | 0,n,r,R,hn,hR,h=>⟨hn,hR,h⟩
 | k + 1, n,r,R,hn,hR,h=>by
  unfold rsT agN
  rw [zev,hn]
  by_cases hc:q.length≤n
  ·rw [if_pos hc,if_pos hc]
   have hlast:vl (q.getD (q.length-1) [])=(vls q).getD (q.length-1) 0:=za5 _ _
   have htop:vl (r.getD (n-1) [])=R.getD (n-1) 0:=by rw [za5,h _ (by omega)]
   have hl:=zes q r (q.getD (q.length-1) []) (r.getD (n-1) []) n
   have hcell:∀i,i<n→(vls (rsL q r (q.getD (q.length-1) []) (r.getD (n-1) []) n)).getD i 0=(agR (vls q) ((vls q).getD (q.length-1) 0*(vls q).getD (q.length-1) 0) (R.getD (n-1) 0*(vls q).getD (q.length-1) 0) (n-q.length) R n).getD i 0:=fun i hi=>by
    rw [← za5,zhM _ _ _ _ _ _ _ hR,if_pos hi]
    have e:(rsL q r (q.getD (q.length-1) []) (r.getD (n-1) []) n).getD i []=rsF q r (q.getD (q.length-1) []) (r.getD (n-1) []) i:=by
     unfold rsL
     rw [List.getD_eq_getElem?_getD,List.getElem?_map,List.getElem?_range hi];rfl
    rw [e,agC_map,hlast,htop,hn,h i hi]
   simp only
   rw [zjB n hcell]
   have hcl:=zh1 (agR (vls q) ((vls q).getD (q.length-1) 0*(vls q).getD (q.length-1) 0) (R.getD (n-1) 0*(vls q).getD (q.length-1) 0) (n-q.length) R n) n
   have hal:=zhN (vls q) ((vls q).getD (q.length-1) 0*(vls q).getD (q.length-1) 0) (R.getD (n-1) 0*(vls q).getD (q.length-1) 0) (n-q.length) R n
   refine rsT_agN hq0 k _ _ _ (by rw [List.length_take,hl];omega) (by omega) fun i hi=>?_
   rw [← hcell i (by omega),← za5 (List.take _ _) i,zpw hi]
   exact za5 _ _
  ·rw [if_neg hc,if_neg hc]
   exact ⟨hn,hR,h⟩
noncomputable section
end
open Go.Kf
def chn:Nat→List Int→List Int→List (List Int)
 | 0,_,_=>[]
 | k+1,a,b=>if agst a b=[] then [] else agst a b :: chn k b (agst a b)
def nxR (a b:List (List Int)):List (List Int):=(rsT b a.length a).map fun l=>aZ (-(vl l))
def chR:Nat→List (List Int)→List (List Int)→List (List (List Int))
 | 0,_,_=>[]
 | k+1,a,b=>if rsT b a.length a=[] then [] else nxR a b :: chR k b (nxR a b)
theorem nxR_vls (a b:List (List Int)) (hb:1≤b.length):vls (nxR a b)=agst (vls a) (vls b)∧(rsT b a.length a).length=(agst (vls a) (vls b)).length:=by
 obtain ⟨h1,h2,h3⟩:=rsT_agN (q:=b) hb a.length a.length a (vls a) rfl (by rw [zev];exact Nat.le_refl _) (fun i _=>rfl)
 have hl:(agst (vls a) (vls b)).length=(rsT b a.length a).length:=by
  unfold agst
  rw [zev,List.length_take,zgF,h1];omega
 refine ⟨?_,hl.symm⟩
 apply List.ext_getElem
 ·unfold nxR vls;simp only [List.length_map];unfold vls at hl;exact hl.symm
 ·intro i g1 g2
  have hi:i<(rsT b a.length a).length:=by rw [← hl];exact g2
  have e1:(vls (nxR a b))[i] = -((vls (rsT b a.length a)).getD i 0):=by
   simp only [vls,nxR,List.getElem_map,bZ]
   rw [List.getD_eq_getElem?_getD,List.getElem?_map,List.getElem?_eq_getElem hi];rfl
  rw [e1,h3 i (by omega)]
  have e2:(agst (vls a) (vls b))[i]=(agst (vls a) (vls b)).getD i 0:=by rw [List.getD_eq_getElem?_getD,List.getElem?_eq_getElem g2];rfl
  rw [e2]
  unfold agst
  rw [zev]
  have e3:∀(n:Nat) (L:List Int),i<n→(L.take n).getD i 0=L.getD i 0:=fun n L h=>by simp [List.getD,List.getElem?_take,h]
  rw [e3 _ _ (by omega),zkz _ _ _ h2,if_pos (by omega)]
theorem chR_vls:∀(k:Nat) (a b:List (List Int)),1≤b.length→(chR k a b).map vls=chn k (vls a) (vls b)
 | 0,_,_,_=>rfl
 | k + 1,a,b,hb=>by
  obtain ⟨h1,h2⟩:=nxR_vls a b hb
  unfold chR chn
  by_cases h:rsT b a.length a=[]
  ·rw [if_pos h,if_pos (List.length_eq_zero_iff.1 (by rw [← h2,h];rfl))];rfl
  ·have hne:agst (vls a) (vls b)≠[]:=fun e=>h (List.length_eq_zero_iff.1 (by rw [h2,e];rfl))
   rw [if_neg h,if_neg hne,List.map_cons,h1,chR_vls k b (nxR a b) (by unfold nxR;rw [List.length_map];exact List.length_pos_iff.2 h),h1]
end Go.Proofs.YtloaeinogiplbaaGreatDoor
end
