/- A part of TopHonest. -/
import Derived.Test.YtlddafbgfkocjaaGreatDoorT20
namespace Go.Proofs.YtlddafbgfkocjaaGreatDoor
open Go.RowKit Go.Proofs.Tryz
set_option linter.all false
set_option maxRecDepth 1000000
set_option maxHeartbeats 400000000
instance:Sc prog 3:=⟨isAgg3⟩
instance:S1 prog 3:=⟨sizeOf3⟩
instance:Sc prog 4:=⟨isAgg4⟩
instance:S1 prog 4:=⟨sizeOf4⟩
instance:Sc prog 5:=⟨isAgg5⟩
instance:S1 prog 5:=⟨sizeOf5⟩
instance:Sc prog 9:=⟨isAgg9⟩
instance:S1 prog 9:=⟨sizeOf9⟩
instance:Sc prog 26:=⟨isAgg26⟩
instance:Rw prog 28 7:=⟨⟨_,underlying28,rfl⟩,ad⟩
instance:Sc prog 30:=⟨isAgg30⟩
instance:S1 prog 30:=⟨sizeOf30⟩
instance:Rw prog 32 5:=⟨⟨_,underlying32,rfl⟩,ad⟩
instance:Sc prog 35:=⟨isAgg35⟩
instance:S1 prog 35:=⟨sizeOf35⟩
instance:Rw prog 37 1:=⟨⟨_,underlying37,rfl⟩,ad⟩
instance:Sc prog 38:=⟨isAgg38⟩
instance:S1 prog 38:=⟨sizeOf38⟩
instance:Rw prog 43 32:=⟨⟨_,underlying43,rfl⟩,ad⟩
instance:Rw prog 45 35:=⟨⟨_,underlying45,rfl⟩,ad⟩
instance:Rw prog 49 34:=⟨⟨_,underlying49,rfl⟩,ad⟩
instance:Sc prog 52:=⟨isAgg52⟩
instance:S1 prog 52:=⟨sizeOf52⟩
instance:Rw prog 53 2:=⟨⟨_,underlying53,rfl⟩,ad⟩
instance:Sc prog 57:=⟨isAgg57⟩
instance:Sc prog 59:=⟨isAgg59⟩
instance:S1 prog 59:=⟨sizeOf59⟩
instance:Sc prog 67:=⟨isAgg67⟩
instance:S1 prog 67:=⟨sizeOf67⟩
instance:Rw prog 69 4:=⟨⟨_,underlying69,rfl⟩,ad⟩
instance:Rw prog 71 7:=⟨⟨_,underlying71,rfl⟩,ad⟩
instance:Rw prog 73 12:=⟨⟨_,underlying73,rfl⟩,ad⟩
instance:Sc prog 74:=⟨isAgg74⟩
instance:S1 prog 74:=⟨sizeOf74⟩
instance:Rw prog 76 3:=⟨⟨_,underlying76,rfl⟩,ad⟩
instance:Rw prog 78 9:=⟨⟨_,underlying78,rfl⟩,ad⟩
instance:Rw prog 80 100:=⟨⟨_,underlying80,rfl⟩,ad⟩
instance:Sc prog 81:=⟨isAgg81⟩
instance:S1 prog 81:=⟨sizeOf81⟩
instance:Sc prog 95:=⟨isAgg95⟩
instance:Sc prog 96:=⟨isAgg96⟩
instance:S1 prog 96:=⟨sizeOf96⟩
instance:Sc prog 97:=⟨isAgg97⟩
instance:S1 prog 97:=⟨sizeOf97⟩
instance:Sc prog 98:=⟨isAgg98⟩
instance:S1 prog 98:=⟨sizeOf98⟩
instance:Sc prog 99:=⟨isAgg99⟩
instance:S1 prog 99:=⟨sizeOf99⟩
instance:Rw prog 142 3:=⟨⟨_,underlying142,rfl⟩,ad⟩
instance:Sc prog 159:=⟨isAgg159⟩
instance:S1 prog 159:=⟨sizeOf159⟩
instance:Sc prog 173:=⟨isAgg173⟩
instance:S1 prog 173:=⟨sizeOf173⟩
instance:Sc prog 197:=⟨isAgg197⟩
instance:S1 prog 197:=⟨sizeOf197⟩
instance:Sc prog 208:=⟨isAgg208⟩
instance:Rw prog 249 3:=⟨⟨_,underlying249,rfl⟩,ad⟩
instance:Rw prog 254 15:=⟨⟨_,underlying254,rfl⟩,ad⟩
instance:Sc prog 282:=⟨isAgg282⟩
instance:S1 prog 282:=⟨sizeOf282⟩
instance:Rw prog 305 3:=⟨⟨_,underlying305,rfl⟩,ad⟩
instance:Rw prog 310 4:=⟨⟨_,underlying310,rfl⟩,ad⟩
instance:Rw prog 327 2:=⟨⟨_,underlying327,rfl⟩,ad⟩
instance:Rw prog 328 4:=⟨⟨_,underlying328,rfl⟩,ad⟩
instance:Rw prog 390 7:=⟨⟨_,underlying390,rfl⟩,ad⟩
instance:Zv prog 3 (al 0):=⟨zeroValue3⟩
instance:Zv prog 4 (.bool false):=⟨zeroValue4⟩
instance:Zv prog 9 (str []):=⟨zeroValue9⟩
instance:Zv prog 28 (.agg (kV Yp)):=⟨zeroValue28⟩
instance:Zv prog 32 (.agg (iY yL)):=⟨zeroValue32⟩
instance:Zv prog 37 (.agg #[.slice none 0 0]):=⟨zeroValue37⟩
instance:Zv prog 43 (.agg (da iP)):=⟨zeroValue43⟩
instance:Zv prog 45 (.agg (il ol)):=⟨zeroValue45⟩
instance:Zv prog 49 (.agg (iB lI)):=⟨zeroValue49⟩
instance:Zv prog 59 (.slice none 0 0):=⟨zeroValue59⟩
instance:Zv prog 69 (.agg oO.cs):=⟨zeroValue69⟩
instance:Zv prog 71 (.agg (gF vp)):=⟨zeroValue71⟩
instance:Zv prog 73 (.agg (eE AK)):=⟨zeroValue73⟩
instance:Zv prog 76 (.agg (jF jO)):=⟨zeroValue76⟩
instance:Zv prog 78 (.agg (ir qo)):=⟨zeroValue78⟩
instance:Zv prog 80 (.agg (dA lA)):=⟨zeroValue80⟩
instance:Zv prog 81 (al 0):=⟨zeroValue81⟩
instance:Zv prog 142 (.agg (um KB)):=⟨zeroValue142⟩
instance:Zv prog 159 (.slice none 0 0):=⟨zeroValue159⟩
instance:Zv prog 197 (.pointer none):=⟨zeroValue197⟩
instance:Zv prog 249 (.agg (sn ic)):=⟨zeroValue249⟩
instance:Zv prog 254 (.agg (iw Aw)):=⟨zeroValue254⟩
instance:Zv prog 305 (.agg (mt Yo)):=⟨zeroValue305⟩
instance:Zv prog 310 (.agg #[al 0,str [],str [],str []]):=⟨zeroValue310⟩
instance:Zv prog 327 (.agg #[al 0,al 0]):=⟨zeroValue327⟩
instance:Zv prog 328 (.agg #[al 0,al 0,al 0,al 0]):=⟨zeroValue328⟩
instance:Zv prog 390 (.agg (gF vp)):=⟨zeroValue390⟩
instance:Bd prog 32 [] (iY yL):=⟨ad⟩
instance:Bd prog 37 [] #[.slice none 0 0]:=⟨ad⟩
instance:Bd prog 43 [] (da iP):=⟨ad⟩
instance:Bd prog 45 [] (il ol):=⟨ad⟩
instance:Bd prog 49 [] (iB lI):=⟨ad⟩
instance:Bd prog 69 [] oO.cs:=⟨ad⟩
instance:Bd prog 76 [] (jF jO):=⟨ad⟩
instance:Bd prog 78 [] (ir qo):=⟨ad⟩
instance:Bd prog 80 [] (dA lA):=⟨ad⟩
instance:Bd prog 142 [] (um KB):=⟨ad⟩
instance:Bd prog 249 [] (sn ic):=⟨ad⟩
def au8:(prog.info? 49).map (fun i=>(i.zero,i.size,i.bytes))=some (some (.agg (iB lI):Value),34,48):=ad
instance:Iw prog 30 49 (.agg (iB lI)) 34 48:=⟨underlying30,au8,Gs _,ah⟩
def au9:(prog.info? 94).map (fun i=>(i.zero,i.size,i.bytes))=some (some (.agg #[str [],str []]:Value),2,32):=ad
instance:Iw prog 35 94 (.agg #[str [],str []]) 2 32:=⟨underlying35,au9,rfl,ah⟩
def au2:(prog.info? 249).map (fun i=>(i.zero,i.size,i.bytes))=some (some (.agg (sn ic):Value),3,32):=ad
instance:Iw prog 59 249 (.agg (sn ic)) 3 32:=⟨underlying59,au2,rfl,ah⟩
def au7:(prog.info? 43).map (fun i=>(i.zero,i.size,i.bytes))=some (some (.agg (da iP):Value),32,32):=ad
instance:Iw prog 74 43 (.agg (da iP)) 32 32:=⟨underlying74,au7,gS _,ah⟩
def au6:(prog.info? 37).map (fun i=>(i.zero,i.size,i.bytes))=some (some (.agg #[.slice none 0 0]:Value),1,24):=ad
instance:Iw prog 96 37 (.agg #[.slice none 0 0]) 1 24:=⟨underlying96,au6,rfl,ah⟩
def ava:(prog.info? 45).map (fun i=>(i.zero,i.size,i.bytes))=some (some (.agg (il ol):Value),35,64):=ad
instance:Iw prog 97 45 (.agg (il ol)) 35 64:=⟨underlying97,ava,Xa _,ah⟩
def ap5:(prog.info? 254).map (fun i=>(i.zero,i.size,i.bytes))=some (some (.agg (iw Aw):Value),15,168):=ad
instance:Iw prog 98 254 (.agg (iw Aw)) 15 168:=⟨underlying98,ap5,rfl,ah⟩
def au5:(prog.info? 9).map (fun i=>(i.zero,i.size,i.bytes))=some (some (str []:Value),1,16):=ad
instance:Iw prog 99 9 (str []) 1 16:=⟨underlying99,au5,rfl,ah⟩
def arU:(prog.info? 5).map (fun i=>(i.zero,i.size,i.bytes))=some (some (.int .u8 0:Value),1,1):=ad
instance:Iw prog 137 5 (.int .u8 0) 1 1:=⟨underlying137,arU,rfl,ah⟩
def arV:(prog.info? 80).map (fun i=>(i.zero,i.size,i.bytes))=some (some (.agg (dA lA):Value),100,528):=ad
instance:Iw prog 159 80 (.agg (dA lA)) 100 528:=⟨underlying159,arV,rfl,ah⟩
def arR:(prog.info? 208).map (fun i=>(i.zero,i.size,i.bytes))=some (some (.nilFunc:Value),1,8):=ad
instance:Iw prog 263 208 (.nilFunc) 1 8:=⟨underlying263,arR,rfl,ah⟩
instance(h:qh):fP (il h) 0 (str h.chain):=.to
instance(h:qh):fP (il h) 1 (al h.ay):=.to
instance(h:qh):fP (il h) 2 (al h.time):=.to
instance(h:jL):fP (iB h) 0 (al h.ay):=.to
instance(h:jL):fP (iB h) 1 (al h.time):=.to
instance(x:qX):fP (gF x) 0 (str x.bM):=.to
instance(x:qX):fP (gF x) 5 (str x.src):=.to
instance(x:qX):fP (gF x) 6 (str x.dst):=.to
instance(x:kY):fP (eE x) 0 (al x.seq):=.to
instance(x:kY):fP (eE x) 1 (str x.source):=.to
instance(x:kY):fP (eE x) 2 (str x.sink):=.to
instance(x:kY):fP (eE x) 3 (str x.bj.bM):=.to
instance(x:kY):fP (eE x) 8 (str x.bj.src):=.to
instance(x:kY):fP (eE x) 9 (str x.bj.dst):=.to
instance(x:kY):fP (eE x) 10 (al x.ay):=.to
instance(x:kY):fP (eE x) 11 (al x.time):=.to
instance(x:xI):fP (jF x) 2 (aF x.path):=.to
instance(x:xK):fP (ir x) 0 (al x.many):=.to
instance(x:xK):fP (ir x) 1 (aF x.left):=.to
instance(x:xK):fP (ir x) 2 (aF x.right):=.to
instance(x:xK):fP (ir x) 3 (al x.a.at_):=.to
instance(x:xK):fP (ir x) 6 (al x.b.at_):=.to
instance(x:Tx):fP (dA x) 0 (al x.kind):=.to
instance(x:Tx):fP (dA x) 1 (str x.id):=.to
instance(x:Tx):fP (dA x) 2 (str x.over):=.to
instance(x:Tx):fP (dA x) 3 (str x.peer):=.to
instance(x:Tx):fP (dA x) 4 (str x.dj):=.to
instance(x:Tx):fP (dA x) 5 (str x.key):=.to
instance(x:Tx):fP (dA x) 6 (al x.period):=.to
instance(x:Tx):fP (dA x) 75 (str x.aA.source):=.to
instance(x:Tx):fP (dA x) 86 (str x.nK):=.to
instance(x:Tx):fP (dA x) 87 (al x.ay):=.to
instance(x:Nr):fP (iY x) 0 (str x.chain):=.to
instance(x:Nr):fP (iY x) 1 (str x.key):=.to
instance(x:Nr):fP (iY x) 2 (al x.period):=.to
instance(x:Nr):fP (iY x) 3 (.bool x.frozen):=.to
instance(x:Nr):fP (iY x) 4 (aF x.bh):=.to
instance(x:Blo):fP (um x) 0 (al x.ay):=.to
instance(x:Blo):fP (um x) 1 (al x.time):=.to
instance(x:Blo):fP (um x) 2 (aF x.Ca):=.to
instance(x:oM):fP (iw x) 0 (al x.ay):=.to
instance(x:oM):fP (iw x) 1 (al x.kind):=.to
instance(x:oM):fP (iw x) 14 (str x.nK):=.to
instance(x:ls):fP (sn x) 0 (al x.err):=.to
instance(x:ls):fP (sn x) 1 (al x.seq):=.to
instance(x:ls):fP (sn x) 2 (str x.nK):=.to
instance(x:Led):fP (mt x) 1 (al x.ay):=.to
instance(x:Led):fP (mt x) 2 (al x.time):=.to
instance(x:qO):fP (kV x) 0 (al x.kind):=.to
instance(x:qO):fP (kV x) 1 (al x.side):=.to
instance(x:qO):fP (kV x) 2 (al x.n):=.to
instance(x:qO):fP (kV x) 3 (al x.bS):=.to
instance(x:qO):fP (kV x) 4 (al x.cut):=.to
instance(x:qO):fP (kV x) 5 (aF x.gj):=.to
instance(x:qO):fP (kV x) 6 (str x.tx):=.to
instance(x:qX):Piece (gF x) 1 (x.bK.cs):=.to
instance(x:kY):Piece (eE x) 3 (gF x.bj):=.to
instance(x:kY):Piece (eE x) 4 (x.bj.bK.cs):=.to
instance(x:xK):Piece (ir x) 3 (jF x.a):=.to
instance(x:xK):Piece (ir x) 6 (jF x.b):=.to
instance(x:Tx):Piece (dA x) 7 (il x.header):=.to
instance(x:Tx):Piece (dA x) 42 (da x.tC):=.to
instance(x:Tx):Piece (dA x) 74 (eE x.aA):=.to
instance(x:Tx):Piece (dA x) 77 (gF x.aA.bj):=.to
instance(x:Tx):Piece (dA x) 88 (jF x.proof):=.to
instance(x:Tx):Piece (dA x) 91 (ir x.fx):=.to
instance(x:oM):Piece (iw x) 2 (eE x.aA):=.to
instance(h:ez):yo (da h) 32:=.to
instance(h:qh):yo (il h) 35:=.to
instance(h:jL):yo (iB h) 34:=.to
instance(x:qX):yo (gF x) 7:=.to
instance(x:kY):yo (eE x) 12:=.to
instance(x:xI):yo (jF x) 3:=.to
instance(x:xK):yo (ir x) 9:=.to
instance(x:Tx):yo (dA x) 100:=.to
instance(x:Nr):yo (iY x) 5:=.to
instance(x:Blo):yo (um x) 3:=.to
instance(x:oM):yo (iw x) 15:=.to
instance(x:ls):yo (sn x) 3:=.to
instance(x:Led):yo (mt x) 3:=.to
instance(x:qO):yo (kV x) 7:=.to
instance(x:W4):yo x.cs 4:=.to
instance(h:ez):tE (da h):=.to
instance(h:qh):tE (il h):=.to
instance(h:jL):tE (iB h):=.to
instance(x:qX):tE (gF x):=.to
instance(x:kY):tE (eE x):=.to
instance(x:xI):tE (jF x):=.to
instance(x:xK):tE (ir x):=.to
instance(x:Tx):tE (dA x):=.to
instance(x:Nr):tE (iY x):=.to
instance(x:Blo):tE (um x):=.to
instance(x:oM):tE (iw x):=.to
instance(x:ls):tE (sn x):=.to
instance(x:qO):tE (kV x):=.to
instance(x:W4):tE x.cs:=.to
instance(x:qh)(v:Int):iu (il x) 1 (al v) (il {x with ay:=v}):=.to
instance(x:qh)(v:Int):iu (il x) 2 (al v) (il {x with time:=v}):=.to
instance(x:kY)(v:Int):iu (eE x) 0 (al v) (eE {x with seq:=v}):=.to
instance(x:kY)(v:Bs):iu (eE x) 2 (str v) (eE {x with sink:=v}):=.to
instance(x:xI)(v:Int):iu (jF x) 1 (al v) (jF {x with many:=v}):=.to
instance(x:xI)(q:Option Addr)(m d:Nat):iu (jF x) 2 (.slice q m d) (jF {x with path:=⟨q,m,d⟩}):=.to
instance(x:xK)(q:Option Addr)(m d:Nat):iu (ir x) 1 (.slice q m d) (ir {x with left:=⟨q,m,d⟩}):=.to
instance(x:xK)(q:Option Addr)(m d:Nat):iu (ir x) 2 (.slice q m d) (ir {x with right:=⟨q,m,d⟩}):=.to
instance(x:Tx)(v:Bs):iu (dA x) 1 (str v) (dA {x with id:=v}):=.to
instance(x:Tx)(v:Bs):iu (dA x) 2 (str v) (dA {x with over:=v}):=.to
instance(x:Tx)(v:Bs):iu (dA x) 3 (str v) (dA {x with peer:=v}):=.to
instance(x:Tx)(v:Bs):iu (dA x) 4 (str v) (dA {x with dj:=v}):=.to
instance(x:Tx)(v:Bs):iu (dA x) 5 (str v) (dA {x with key:=v}):=.to
instance(x:Tx)(v:Int):iu (dA x) 6 (al v) (dA {x with period:=v}):=.to
instance(x:Tx)(v:Bs):iu (dA x) 7 (str v) (dA {x with header:={x.header with chain:=v}}):=.to
instance(x:Tx)(v:Int):iu (dA x) 8 (al v) (dA {x with header:={x.header with ay:=v}}):=.to
instance(x:Tx)(v:Int):iu (dA x) 9 (al v) (dA {x with header:={x.header with time:=v}}):=.to
instance(x:Tx)(v:Int):iu (dA x) 74 (al v) (dA {x with aA:={x.aA with seq:=v}}):=.to
instance(x:Tx)(v:Bs):iu (dA x) 75 (str v) (dA {x with aA:={x.aA with source:=v}}):=.to
instance(x:Tx)(v:Bs):iu (dA x) 76 (str v) (dA {x with aA:={x.aA with sink:=v}}):=.to
instance(x:Tx)(v:Bs):iu (dA x) 77 (str v) (dA {x with aA:={x.aA with bj:={x.aA.bj with bM:=v}}}):=.to
instance(x:Tx)(v:Bs):iu (dA x) 82 (str v) (dA {x with aA:={x.aA with bj:={x.aA.bj with src:=v}}}):=.to
instance(x:Tx)(v:Bs):iu (dA x) 83 (str v) (dA {x with aA:={x.aA with bj:={x.aA.bj with dst:=v}}}):=.to
instance(x:Tx)(v:Int):iu (dA x) 84 (al v) (dA {x with aA:={x.aA with ay:=v}}):=.to
instance(x:Tx)(v:Int):iu (dA x) 85 (al v) (dA {x with aA:={x.aA with time:=v}}):=.to
instance(x:Tx)(v:Bs):iu (dA x) 86 (str v) (dA {x with nK:=v}):=.to
instance(x:Tx)(v:Int):iu (dA x) 87 (al v) (dA {x with ay:=v}):=.to
instance(x:Nr)(v:Bs):iu (iY x) 1 (str v) (iY {x with key:=v}):=.to
instance(x:Nr)(v:Int):iu (iY x) 2 (al v) (iY {x with period:=v}):=.to
instance(x:Nr)(v:Bool):iu (iY x) 3 (.bool v) (iY {x with frozen:=v}):=.to
instance(x:Nr)(q:Option Addr)(m d:Nat):iu (iY x) 4 (.slice q m d) (iY {x with bh:=⟨q,m,d⟩}):=.to
instance(x:Blo)(v:Int):iu (um x) 1 (al v) (um {x with time:=v}):=.to
instance(x:Blo)(q:Option Addr)(m d:Nat):iu (um x) 2 (.slice q m d) (um {x with Ca:=⟨q,m,d⟩}):=.to
instance(x:oM)(v:Int):iu (iw x) 2 (al v) (iw {x with aA:={x.aA with seq:=v}}):=.to
instance(x:oM)(v:Bs):iu (iw x) 4 (str v) (iw {x with aA:={x.aA with sink:=v}}):=.to
instance(x:oM)(v:Bs):iu (iw x) 14 (str v) (iw {x with nK:=v}):=.to
instance(x:qO)(v:Int):iu (kV x) 1 (al v) (kV {x with side:=v}):=.to
instance(x:qO)(v:Int):iu (kV x) 2 (al v) (kV {x with n:=v}):=.to
instance(x:qO)(v:Bs):iu (kV x) 6 (str v) (kV {x with tx:=v}):=.to
instance(x:qh)(v:ez):HJ (il x) 3 (da v) (il {x with root:=v}):=.to
instance(x:xK)(v:xI):HJ (ir x) 3 (jF v) (ir {x with a:=v}):=.to
instance(x:xK)(v:xI):HJ (ir x) 6 (jF v) (ir {x with b:=v}):=.to
instance(x:Tx)(v:ez):HJ (dA x) 10 (da v) (dA {x with header:={x.header with root:=v}}):=.to
instance(x:Tx)(v:ez):HJ (dA x) 42 (da v) (dA {x with tC:=v}):=.to
instance(x:Tx)(v:W4):HJ (dA x) 78 (v.cs) (dA {x with aA:={x.aA with bj:={x.aA.bj with bK:=v}}}):=.to
instance(x:Tx)(v:xI):HJ (dA x) 88 (jF v) (dA {x with proof:=v}):=.to
instance(x:Tx)(v:xK):HJ (dA x) 91 (ir v) (dA {x with fx:=v}):=.to
def aqe:∀ps,prog.built 45 ps=Instr.fill (fun i=>([(0,1),(1,1),(2,1),(3,32)]:List (Nat×Nat)).toArray[i]?) (il ol) ps:=fun ps=>ad
instance(v0:Bs)(v1:Int)(v2:Int)(v3:ez):Bd prog 45 [(0,str v0),(1,al v1),(2,al v2),(3,.agg (da v3))] (il {ol with chain:=v0,ay:=v1,time:=v2,root:=v3}):=.to aqe
instance(v0:Bs):Bd prog 45 [(0,str v0)] (il {ol with chain:=v0}):=.to aqe
def au4:∀ps,prog.built 49 ps=Instr.fill (fun i=>([(0,1),(1,1),(2,32)]:List (Nat×Nat)).toArray[i]?) (iB lI) ps:=fun ps=>ad
instance(v0:Int)(v1:Int)(v2:ez):Bd prog 49 [(0,al v0),(1,al v1),(2,.agg (da v2))] (iB {lI with ay:=v0,time:=v1,root:=v2}):=.to au4
def au3:∀ps,prog.built 71 ps=Instr.fill (fun i=>([(0,1),(1,4),(5,1),(6,1)]:List (Nat×Nat)).toArray[i]?) (gF vp) ps:=fun ps=>ad
instance(v0:Bs)(v2:Bs)(v3:Bs)(v1:W4):Bd prog 71 [(0,str v0),(2,str v2),(3,str v3),(1,.agg v1.cs)] (gF {vp with bM:=v0,src:=v2,dst:=v3,bK:=v1}):=.to au3
def aqd:∀ps,prog.built 73 ps=Instr.fill (fun i=>([(0,1),(1,1),(2,1),(3,7),(10,1),(11,1)]:List (Nat×Nat)).toArray[i]?) (eE AK) ps:=fun ps=>ad
instance(v1:Bs)(v3:qX)(v4:Int):Bd prog 73 [(1,str v1),(3,.agg (gF v3)),(4,al v4)] (eE {AK with source:=v1,bj:=v3,ay:=v4}):=.to aqd
instance(v3:qX):Bd prog 73 [(3,.agg (gF v3))] (eE {AK with bj:=v3}):=.to aqd
def aqb:∀ps,prog.built 76 ps=Instr.fill (fun i=>([(0,1),(1,1),(2,1)]:List (Nat×Nat)).toArray[i]?) (jF jO) ps:=fun ps=>ad
instance(v0:Int):Bd prog 76 [(0,al v0)] (jF {jO with at_:=v0}):=.to aqb
def avb:∀ps,prog.built 78 ps=Instr.fill (fun i=>([(0,1),(1,1),(2,1),(3,3),(6,3)]:List (Nat×Nat)).toArray[i]?) (ir qo) ps:=fun ps=>ad
instance(v0:Int):Bd prog 78 [(0,al v0)] (ir {qo with many:=v0}):=.to avb
def LD:∀ps,prog.built 80 ps=Instr.fill (fun i=>([(0,1),(1,1),(2,1),(3,1),(4,1),(5,1),(6,1),(7,35),(42,32),(74,12),(86,1),(87,1),(88,3),(91,9)]:List (Nat×Nat)).toArray[i]?) (dA lA) ps:=fun ps=>ad
instance(v0:Int):Bd prog 80 [(0,al v0)] (dA {lA with kind:=v0}):=.to LD
instance(v0:Int)(v1:Bs)(v2:Bs)(v4:Bs)(v3:Bs):Bd prog 80 [(0,al v0),(1,str v1),(2,str v2),(4,str v4),(3,str v3)] (dA {lA with kind:=v0,id:=v1,over:=v2,dj:=v4,peer:=v3}):=.to LD
instance(v0:Int)(v1:Bs)(v5:Bs)(v6:Int)(v7:qh):Bd prog 80 [(0,al v0),(1,str v1),(5,str v5),(6,al v6),(7,.agg (il v7))] (dA {lA with kind:=v0,id:=v1,key:=v5,period:=v6,header:=v7}):=.to LD
instance(v0:Int)(v1:Bs)(v7:qh)(v8:ez):Bd prog 80 [(0,al v0),(1,str v1),(7,.agg (il v7)),(8,.agg (da v8))] (dA {lA with kind:=v0,id:=v1,header:=v7,tC:=v8}):=.to LD
instance(v0:Int)(v9:kY):Bd prog 80 [(0,al v0),(9,.agg (eE v9))] (dA {lA with kind:=v0,aA:=v9}):=.to LD
instance(v0:Int)(v9:kY)(v10:Bs)(v11:Int)(v12:xI):Bd prog 80 [(0,al v0),(9,.agg (eE v9)),(10,str v10),(11,al v11),(12,.agg (jF v12))] (dA {lA with kind:=v0,aA:=v9,nK:=v10,ay:=v11,proof:=v12}):=.to LD
instance(v0:Int)(v9:kY)(v11:Int):Bd prog 80 [(0,al v0),(9,.agg (eE v9)),(11,al v11)] (dA {lA with kind:=v0,aA:=v9,ay:=v11}):=.to LD
instance(v0:Int)(v9:kY)(v11:Int)(v13:xK):Bd prog 80 [(0,al v0),(9,.agg (eE v9)),(11,al v11),(13,.agg (ir v13))] (dA {lA with kind:=v0,aA:=v9,ay:=v11,fx:=v13}):=.to LD
def aqc:∀ps,prog.built 32 ps=Instr.fill (fun i=>([(0,1),(1,1),(2,1),(3,1),(4,1)]:List (Nat×Nat)).toArray[i]?) (iY yL) ps:=fun ps=>ad
instance(v0:Bs):Bd prog 32 [(0,str v0)] (iY {yL with chain:=v0}):=.to aqc
def akq:∀ps,prog.built 142 ps=Instr.fill (fun i=>([(0,1),(1,1),(2,1)]:List (Nat×Nat)).toArray[i]?) (um KB) ps:=fun ps=>ad
instance(v0:Int):Bd prog 142 [(0,al v0)] (um {KB with ay:=v0}):=.to akq
def arS:∀ps,prog.built 254 ps=Instr.fill (fun i=>([(0,1),(1,1),(2,12),(14,1)]:List (Nat×Nat)).toArray[i]?) (iw Aw) ps:=fun ps=>ad
instance(v0:Int)(v1:Int)(v2:kY):Bd prog 254 [(0,al v0),(1,al v1),(2,.agg (eE v2))] (iw {Aw with ay:=v0,kind:=v1,aA:=v2}):=.to arS
def adJ:∀ps,prog.built 249 ps=Instr.fill (fun i=>([(0,1),(1,1),(2,1)]:List (Nat×Nat)).toArray[i]?) (sn ic) ps:=fun ps=>ad
instance(v0:Int):Bd prog 249 [(0,al v0)] (sn {ic with err:=v0}):=.to adJ
instance(v1:Int):Bd prog 249 [(1,al v1)] (sn {ic with seq:=v1}):=.to adJ
instance(v2:Bs):Bd prog 249 [(2,str v2)] (sn {ic with nK:=v2}):=.to adJ
instance:S1 prog 26:=⟨sizeOf26⟩
instance:S1 prog 57:=⟨sizeOf57⟩
instance:Rw prog 94 2:=⟨⟨_,underlying94,rfl⟩,ad⟩
instance:S1 prog 95:=⟨sizeOf95⟩
instance:Sc prog 104:=⟨isAgg104⟩
instance:S1 prog 104:=⟨sizeOf104⟩
instance:Sc prog 105:=⟨isAgg105⟩
instance:S1 prog 105:=⟨sizeOf105⟩
instance:Sc prog 129:=⟨isAgg129⟩
instance:S1 prog 129:=⟨sizeOf129⟩
instance:Sc prog 137:=⟨isAgg137⟩
instance:S1 prog 137:=⟨sizeOf137⟩
instance:Rw prog 175 2:=⟨⟨_,underlying175,rfl⟩,ad⟩
instance:Sc prog 176:=⟨isAgg176⟩
instance:S1 prog 176:=⟨sizeOf176⟩
instance:Rw prog 181 3:=⟨⟨_,underlying181,rfl⟩,ad⟩
instance:Sc prog 184:=⟨isAgg184⟩
instance:S1 prog 184:=⟨sizeOf184⟩
instance:S1 prog 208:=⟨sizeOf208⟩
instance:Rw prog 222 2:=⟨⟨_,underlying222,rfl⟩,ad⟩
instance:Rw prog 227 64:=⟨⟨_,underlying227,rfl⟩,ad⟩
instance:Rw prog 236 4:=⟨⟨_,underlying236,rfl⟩,ad⟩
instance:Rw prog 238 8:=⟨⟨_,underlying238,rfl⟩,ad⟩
instance:Sc prog 257:=⟨isAgg257⟩
instance:S1 prog 257:=⟨sizeOf257⟩
instance:Rw prog 287 74:=⟨⟨_,underlying287,rfl⟩,ad⟩
instance:Rw prog 322 3:=⟨⟨_,underlying322,rfl⟩,ad⟩
instance:Rw prog 422 2:=⟨⟨_,underlying422,rfl⟩,ad⟩
instance:Zv prog 74 (.slice none 0 0):=⟨zeroValue74⟩
instance:Zv prog 94 (.agg #[str [],str []]):=⟨zeroValue94⟩
instance:Zv prog 99 (.slice none 0 0):=⟨zeroValue99⟩
instance:Zv prog 176 (.int .u32 0):=⟨zeroValue176⟩
instance:Zv prog 181 (.agg #[al 0,al 0,al 0]):=⟨zeroValue181⟩
instance:Zv prog 257 (.nilFunc):=⟨zeroValue257⟩
instance:Zv prog 322 (.agg (zv KC)):=⟨zeroValue322⟩
instance:Bd prog 310 [] #[al 0,str [],str [],str []]:=⟨ad⟩
instance(x:qX):fP (gF x) 1 (.int .u64 x.bK.a):=.to
instance(x:qX):fP (gF x) 2 (.int .u64 x.bK.b):=.to
instance(x:qX):fP (gF x) 3 (.int .u64 x.bK.c):=.to
instance(x:qX):fP (gF x) 4 (.int .u64 x.bK.d):=.to
instance(x:kY):fP (eE x) 4 (.int .u64 x.bj.bK.a):=.to
instance(x:kY):fP (eE x) 5 (.int .u64 x.bj.bK.b):=.to
instance(x:kY):fP (eE x) 6 (.int .u64 x.bj.bK.c):=.to
instance(x:kY):fP (eE x) 7 (.int .u64 x.bj.bK.d):=.to
instance(x:xI):fP (jF x) 0 (al x.at_):=.to
instance(x:xI):fP (jF x) 1 (al x.many):=.to
instance(x:xK):fP (ir x) 4 (al x.a.many):=.to
instance(x:xK):fP (ir x) 5 (aF x.a.path):=.to
instance(x:xK):fP (ir x) 7 (al x.b.many):=.to
instance(x:xK):fP (ir x) 8 (aF x.b.path):=.to
instance(x:Tx):fP (dA x) 7 (str x.header.chain):=.to
instance(x:Tx):fP (dA x) 8 (al x.header.ay):=.to
instance(x:Tx):fP (dA x) 9 (al x.header.time):=.to
instance(x:Tx):fP (dA x) 74 (al x.aA.seq):=.to
instance(x:Tx):fP (dA x) 76 (str x.aA.sink):=.to
instance(x:Tx):fP (dA x) 77 (str x.aA.bj.bM):=.to
instance(x:Tx):fP (dA x) 78 (.int .u64 x.aA.bj.bK.a):=.to
instance(x:Tx):fP (dA x) 79 (.int .u64 x.aA.bj.bK.b):=.to
instance(x:Tx):fP (dA x) 80 (.int .u64 x.aA.bj.bK.c):=.to
instance(x:Tx):fP (dA x) 81 (.int .u64 x.aA.bj.bK.d):=.to
instance(x:Tx):fP (dA x) 82 (str x.aA.bj.src):=.to
instance(x:Tx):fP (dA x) 83 (str x.aA.bj.dst):=.to
instance(x:Tx):fP (dA x) 84 (al x.aA.ay):=.to
instance(x:Tx):fP (dA x) 85 (al x.aA.time):=.to
instance(x:Tx):fP (dA x) 88 (al x.proof.at_):=.to
instance(x:Tx):fP (dA x) 89 (al x.proof.many):=.to
instance(x:Tx):fP (dA x) 90 (aF x.proof.path):=.to
instance(x:Tx):fP (dA x) 91 (al x.fx.many):=.to
instance(x:Tx):fP (dA x) 92 (aF x.fx.left):=.to
instance(x:Tx):fP (dA x) 93 (aF x.fx.right):=.to
instance(x:Tx):fP (dA x) 94 (al x.fx.a.at_):=.to
instance(x:Tx):fP (dA x) 95 (al x.fx.a.many):=.to
instance(x:Tx):fP (dA x) 96 (aF x.fx.a.path):=.to
instance(x:Tx):fP (dA x) 97 (al x.fx.b.at_):=.to
instance(x:Tx):fP (dA x) 98 (al x.fx.b.many):=.to
instance(x:Tx):fP (dA x) 99 (aF x.fx.b.path):=.to
instance(x:oM):fP (iw x) 2 (al x.aA.seq):=.to
instance(x:oM):fP (iw x) 3 (str x.aA.source):=.to
instance(x:oM):fP (iw x) 4 (str x.aA.sink):=.to
instance(x:oM):fP (iw x) 5 (str x.aA.bj.bM):=.to
instance(x:oM):fP (iw x) 6 (.int .u64 x.aA.bj.bK.a):=.to
instance(x:oM):fP (iw x) 7 (.int .u64 x.aA.bj.bK.b):=.to
instance(x:oM):fP (iw x) 8 (.int .u64 x.aA.bj.bK.c):=.to
instance(x:oM):fP (iw x) 9 (.int .u64 x.aA.bj.bK.d):=.to
instance(x:oM):fP (iw x) 10 (str x.aA.bj.src):=.to
instance(x:oM):fP (iw x) 11 (str x.aA.bj.dst):=.to
instance(x:oM):fP (iw x) 12 (al x.aA.ay):=.to
instance(x:oM):fP (iw x) 13 (al x.aA.time):=.to
instance(x:Led):fP (mt x) 0 (aF x.d):=.to
instance(x:Vd):fP (zv x) 0 (.bool x.left):=.to
instance(x:Vd):fP (zv x) 1 (al x.k):=.to
instance(x:Vd):fP (zv x) 2 (al x.other):=.to
instance(x:Vd):yo (zv x) 3:=.to
instance(x:Led):tE (mt x):=.to
instance(x:Vd):tE (zv x):=.to
instance(x:qh)(v:Bs):iu (il x) 0 (str v) (il {x with chain:=v}):=.to
instance(x:jL)(v:Int):iu (iB x) 0 (al v) (iB {x with ay:=v}):=.to
instance(x:jL)(v:Int):iu (iB x) 1 (al v) (iB {x with time:=v}):=.to
instance(x:qX)(v:Bs):iu (gF x) 0 (str v) (gF {x with bM:=v}):=.to
instance(x:qX)(v:Bs):iu (gF x) 5 (str v) (gF {x with src:=v}):=.to
instance(x:qX)(v:Bs):iu (gF x) 6 (str v) (gF {x with dst:=v}):=.to
instance(x:kY)(v:Bs):iu (eE x) 1 (str v) (eE {x with source:=v}):=.to
instance(x:kY)(v:Bs):iu (eE x) 3 (str v) (eE {x with bj:={x.bj with bM:=v}}):=.to
instance(x:kY)(v:Bs):iu (eE x) 8 (str v) (eE {x with bj:={x.bj with src:=v}}):=.to
instance(x:kY)(v:Bs):iu (eE x) 9 (str v) (eE {x with bj:={x.bj with dst:=v}}):=.to
instance(x:kY)(v:Int):iu (eE x) 10 (al v) (eE {x with ay:=v}):=.to
instance(x:kY)(v:Int):iu (eE x) 11 (al v) (eE {x with time:=v}):=.to
instance(x:xI)(v:Int):iu (jF x) 0 (al v) (jF {x with at_:=v}):=.to
instance(x:xK)(v:Int):iu (ir x) 0 (al v) (ir {x with many:=v}):=.to
instance(x:xK)(v:Int):iu (ir x) 3 (al v) (ir {x with a:={x.a with at_:=v}}):=.to
instance(x:xK)(v:Int):iu (ir x) 4 (al v) (ir {x with a:={x.a with many:=v}}):=.to
instance(x:xK)(q:Option Addr)(m d:Nat):iu (ir x) 5 (.slice q m d) (ir {x with a:={x.a with path:=⟨q,m,d⟩}}):=.to
instance(x:xK)(v:Int):iu (ir x) 6 (al v) (ir {x with b:={x.b with at_:=v}}):=.to
instance(x:xK)(v:Int):iu (ir x) 7 (al v) (ir {x with b:={x.b with many:=v}}):=.to
instance(x:xK)(q:Option Addr)(m d:Nat):iu (ir x) 8 (.slice q m d) (ir {x with b:={x.b with path:=⟨q,m,d⟩}}):=.to
instance(x:Tx)(v:Int):iu (dA x) 0 (al v) (dA {x with kind:=v}):=.to
instance(x:Tx)(v:Int):iu (dA x) 88 (al v) (dA {x with proof:={x.proof with at_:=v}}):=.to
instance(x:Tx)(v:Int):iu (dA x) 89 (al v) (dA {x with proof:={x.proof with many:=v}}):=.to
instance(x:Tx)(q:Option Addr)(m d:Nat):iu (dA x) 90 (.slice q m d) (dA {x with proof:={x.proof with path:=⟨q,m,d⟩}}):=.to
instance(x:Tx)(v:Int):iu (dA x) 91 (al v) (dA {x with fx:={x.fx with many:=v}}):=.to
instance(x:Tx)(q:Option Addr)(m d:Nat):iu (dA x) 92 (.slice q m d) (dA {x with fx:={x.fx with left:=⟨q,m,d⟩}}):=.to
instance(x:Tx)(q:Option Addr)(m d:Nat):iu (dA x) 93 (.slice q m d) (dA {x with fx:={x.fx with right:=⟨q,m,d⟩}}):=.to
instance(x:Tx)(v:Int):iu (dA x) 94 (al v) (dA {x with fx:={x.fx with a:={x.fx.a with at_:=v}}}):=.to
instance(x:Tx)(v:Int):iu (dA x) 95 (al v) (dA {x with fx:={x.fx with a:={x.fx.a with many:=v}}}):=.to
instance(x:Tx)(q:Option Addr)(m d:Nat):iu (dA x) 96 (.slice q m d) (dA {x with fx:={x.fx with a:={x.fx.a with path:=⟨q,m,d⟩}}}):=.to
instance(x:Tx)(v:Int):iu (dA x) 97 (al v) (dA {x with fx:={x.fx with b:={x.fx.b with at_:=v}}}):=.to
instance(x:Tx)(v:Int):iu (dA x) 98 (al v) (dA {x with fx:={x.fx with b:={x.fx.b with many:=v}}}):=.to
instance(x:Tx)(q:Option Addr)(m d:Nat):iu (dA x) 99 (.slice q m d) (dA {x with fx:={x.fx with b:={x.fx.b with path:=⟨q,m,d⟩}}}):=.to
instance(x:Nr)(v:Bs):iu (iY x) 0 (str v) (iY {x with chain:=v}):=.to
instance(x:Blo)(v:Int):iu (um x) 0 (al v) (um {x with ay:=v}):=.to
instance(x:oM)(v:Int):iu (iw x) 0 (al v) (iw {x with ay:=v}):=.to
instance(x:oM)(v:Int):iu (iw x) 1 (al v) (iw {x with kind:=v}):=.to
instance(x:oM)(v:Bs):iu (iw x) 3 (str v) (iw {x with aA:={x.aA with source:=v}}):=.to
instance(x:oM)(v:Bs):iu (iw x) 5 (str v) (iw {x with aA:={x.aA with bj:={x.aA.bj with bM:=v}}}):=.to
instance(x:oM)(v:Bs):iu (iw x) 10 (str v) (iw {x with aA:={x.aA with bj:={x.aA.bj with src:=v}}}):=.to
instance(x:oM)(v:Bs):iu (iw x) 11 (str v) (iw {x with aA:={x.aA with bj:={x.aA.bj with dst:=v}}}):=.to
instance(x:oM)(v:Int):iu (iw x) 12 (al v) (iw {x with aA:={x.aA with ay:=v}}):=.to
instance(x:oM)(v:Int):iu (iw x) 13 (al v) (iw {x with aA:={x.aA with time:=v}}):=.to
instance(x:ls)(v:Int):iu (sn x) 0 (al v) (sn {x with err:=v}):=.to
instance(x:ls)(v:Int):iu (sn x) 1 (al v) (sn {x with seq:=v}):=.to
instance(x:ls)(v:Bs):iu (sn x) 2 (str v) (sn {x with nK:=v}):=.to
instance(x:Led)(q:Option Addr)(m d:Nat):iu (mt x) 0 (.slice q m d) (mt {x with d:=⟨q,m,d⟩}):=.to
instance(x:Led)(v:Int):iu (mt x) 1 (al v) (mt {x with ay:=v}):=.to
instance(x:Led)(v:Int):iu (mt x) 2 (al v) (mt {x with time:=v}):=.to
instance(x:Vd)(v:Bool):iu (zv x) 0 (.bool v) (zv {x with left:=v}):=.to
instance(x:Vd)(v:Int):iu (zv x) 1 (al v) (zv {x with k:=v}):=.to
instance(x:Vd)(v:Int):iu (zv x) 2 (al v) (zv {x with other:=v}):=.to
instance(x:qO)(v:Int):iu (kV x) 0 (al v) (kV {x with kind:=v}):=.to
instance(x:qO)(v:Int):iu (kV x) 3 (al v) (kV {x with bS:=v}):=.to
instance(x:qO)(v:Int):iu (kV x) 4 (al v) (kV {x with cut:=v}):=.to
instance(x:qO)(q:Option Addr)(m d:Nat):iu (kV x) 5 (.slice q m d) (kV {x with gj:=⟨q,m,d⟩}):=.to
instance(x:jL)(v:ez):HJ (iB x) 2 (da v) (iB {x with root:=v}):=.to
instance(x:qX)(v:W4):HJ (gF x) 1 (v.cs) (gF {x with bK:=v}):=.to
instance(x:kY)(v:qX):HJ (eE x) 3 (gF v) (eE {x with bj:=v}):=.to
instance(x:kY)(v:W4):HJ (eE x) 4 (v.cs) (eE {x with bj:={x.bj with bK:=v}}):=.to
instance(x:Tx)(v:qh):HJ (dA x) 7 (il v) (dA {x with header:=v}):=.to
instance(x:Tx)(v:kY):HJ (dA x) 74 (eE v) (dA {x with aA:=v}):=.to
instance(x:Tx)(v:qX):HJ (dA x) 77 (gF v) (dA {x with aA:={x.aA with bj:=v}}):=.to
instance(x:Tx)(v:xI):HJ (dA x) 94 (jF v) (dA {x with fx:={x.fx with a:=v}}):=.to
instance(x:Tx)(v:xI):HJ (dA x) 97 (jF v) (dA {x with fx:={x.fx with b:=v}}):=.to
instance(x:oM)(v:kY):HJ (iw x) 2 (eE v) (iw {x with aA:=v}):=.to
instance(x:oM)(v:qX):HJ (iw x) 5 (gF v) (iw {x with aA:={x.aA with bj:=v}}):=.to
instance(x:oM)(v:W4):HJ (iw x) 6 (v.cs) (iw {x with aA:={x.aA with bj:={x.aA.bj with bK:=v}}}):=.to
instance(v0:Int)(v1:Int)(p2:Option Addr)(n2 c2:Nat):Bd prog 76 [(0,al v0),(1,al v1),(2,.slice p2 n2 c2)] (jF {jO with at_:=v0,many:=v1,path:=⟨p2,n2,c2⟩}):=.to aqb
instance(v0:Bs)(v1:Bs)(v2:Int)(p4:Option Addr)(n4 c4:Nat):Bd prog 32 [(0,str v0),(1,str v1),(2,al v2),(4,.slice p4 n4 c4)] (iY {yL with chain:=v0,key:=v1,period:=v2,bh:=⟨p4,n4,c4⟩}):=.to aqc
instance(v0:Int)(v1:Int)(p2:Option Addr)(n2 c2:Nat):Bd prog 142 [(0,al v0),(1,al v1),(2,.slice p2 n2 c2)] (um {KB with ay:=v0,time:=v1,Ca:=⟨p2,n2,c2⟩}):=.to akq
def arP:∀ps,prog.built 305 ps=Instr.fill (fun i=>([(0,1),(1,1),(2,1)]:List (Nat×Nat)).toArray[i]?) (mt Yo) ps:=fun ps=>ad
instance(p0:Option Addr)(n0 c0:Nat)(v1:Int)(v2:Int):Bd prog 305 [(0,.slice p0 n0 c0),(1,al v1),(2,al v2)] (mt {Yo with d:=⟨p0,n0,c0⟩,ay:=v1,time:=v2}):=.to arP
def arQ:∀ps,prog.built 322 ps=Instr.fill (fun i=>([(0,1),(1,1),(2,1)]:List (Nat×Nat)).toArray[i]?) (zv KC) ps:=fun ps=>ad
instance(v0:Bool)(v1:Int)(v2:Int):Bd prog 322 [(0,.bool v0),(1,al v1),(2,al v2)] (zv {KC with left:=v0,k:=v1,other:=v2}):=.to arQ
instance(x:Tx):Piece (dA x) 10 (da x.header.root):=.to
instance(x:Tx):Piece (dA x) 78 (x.aA.bj.bK.cs):=.to
instance(x:Tx):Piece (dA x) 94 (jF x.fx.a):=.to
instance(x:Tx):Piece (dA x) 97 (jF x.fx.b):=.to
instance(x:oM):Piece (iw x) 5 (gF x.aA.bj):=.to
instance(x:oM):Piece (iw x) 6 (x.aA.bj.bK.cs):=.to
instance(x:W4)(o:Nat)(v:Value) [h:fP #[.int .u64 x.a,.int .u64 x.b,.int .u64 x.c,.int .u64 x.d] o v]:fP x.cs o v:=⟨h.at_⟩
def arT:(prog.info? 322).map (fun i=>(i.zero,i.size,i.bytes))=some (some (.agg (zv KC):Value),3,24):=ad
instance:Iw prog 319 322 (.agg (zv KC)) 3 24:=⟨underlying319,arT,rfl,ah⟩
def Fm.of {w0 w row l rs}(h:Mem w0 row w l rs):Fm (fun _=>True) w0 row w l rs []:=⟨h,fun _ _=>trivial,fun Q hQ=>by simp at hQ⟩
structure Tag(iE is:List Nat):Prop where t:True
def ao9 : Op → Bool
  | .load .. => false
  | .store .. => false
  | .call c => match c.callee with
    | .builtin .len => true
    | .builtin .cap => true
    | _ => false
  | .alloc .. => false
  | .box .. => false
  | .buildSlice .. => false
  | _ => true
section
variable{P:Program}{md:Region.Mode}{ops:Array Oper}{Q:Exit→Act→World→Prop}{S:World→Prop}{iE is:List Nat}{i n:Nat}{d:Tmp}{oi:Oper}{u:Value}{seen:Array Bool}{a a2:Act}{w:World}
def Au(is:List Nat)(P:Program)(md:Region.Mode)(ops:Array Oper)(Q:Exit→Act→World→Prop)(S:World→Prop)(iE:List Nat)(n:Nat)(seen:Array Bool)(a:Act)(w:World):Prop:=S w→Ord P md ops Q S iE n seen a w
def aiY(is:List Nat)(P:Program)(md:Region.Mode)(ops:Array Oper)(Q:Exit→Act→World→Prop)(S:World→Prop)(iE:List Nat)(n:Nat)(seen:Array Bool)(a:Act)(w:World):Prop:=S w∧Au is P md ops Q S iE n seen a w
def aiZ(is:List Nat)(P:Program)(md:Region.Mode)(ops:Array Oper)(Q:Exit→Act→World→Prop)(iE:List Nat)(n:Nat)(seen:Array Bool)(a:Act)(w:World):Prop:=∃S,S w∧Au is P md ops Q S iE n seen a w
def adP(h:S w)(k:Au is P md ops Q S iE n seen a w):aiY is P md ops Q S iE n seen a w:=⟨h,k⟩
def adQ S(h:S w)(k:Au is P md ops Q S iE n seen a w):aiZ is P md ops Q iE n seen a w:=⟨S,h,k⟩
def opAt {ops:Array Oper}{i:Nat}{o}(h:ops[i]?=some o:=by(try simp only[dx,List.getElem?_cons_zero,nJ]);all_goals rfl):ops[i]?=some o:=h
def arf {a a2:Act}{d u}(h:a.put d u=a2:=by(try refine oC ?_);all_goals rfl):a.put d u=a2:=h
def awI {l:List Oper}{id a w}(_:Tag iE is)S(hS:S w.drew)(h:Au is P .any l.toArray Q S iE l.length (Array.replicate l.length false) a w.drew)(hm:P.follows .mixedOrders=true:=by kernel_rfl):(Code.region id l.toArray true).wp P Q a w:=fu iE S hm hS h
def avo(hQ:Q .normal a w)(hn:Region.ready md ops seen=[]:=by kernel_rfl):Au [] P md ops Q S iE n seen a w:=fun _=>dB hn hQ
def UH(h:Au is P md ops Q S iE n (seen.setIfInBounds i true) a2 w)(hi:ops[i]?=some oi:=by exact opAt)(nC:Region.wanted oi (yielded ops a.tmps)=true:=by rfl)(hd:oi.dst=some d:=by rfl)(hy:∀v,True→(execOp a.eval oi).run P v=.ok (.value u) v:=by(intro _ hv;clear hv;exact fj))(hs:Region.noSelect ops=true:=by kernel_rfl)(hf:Region.free md ops seen i=true:=by kernel_rfl)(hr:(Region.ready md ops seen).contains i=true:=by kernel_rfl)(hQ:∀c a w,Q (.panic c) (a.put (some d) u) w→Q (.panic c) a w:=by exact fun _ _ _ h=>h)(ha:a.put (some d) u=a2:=by exact arf):Au (i::is) P md ops Q S iE (n+1) seen a w:=by subst ha;exact fun hS=>jX i _ hi hd hs hf hr hQ nC hy hS (h hS)
def liL(h:Au (i::is) P md ops Q S iE n seen a w)(_:ops[i]?.map (fun o=>ao9 o.op)=some true):Au (i::is) P md ops Q S iE n seen a w:=h
def Ki(h:Au is P md ops Q S iE n seen a w):Au (999::is) P md ops Q S iE n seen a w:=h
def skL(h:Au is P md ops Q S iE n (seen.setIfInBounds i true) a2 w)(hi:ops[i]?=some oi:=by exact opAt)(nC:Region.wanted oi (yielded ops a.tmps)=false:=by rfl)(hd:oi.dst=some d:=by rfl)(hs:Region.noSelect ops=true:=by kernel_rfl)(hf:Region.free md ops seen i=true:=by kernel_rfl)(hr:(Region.ready md ops seen).contains i=true:=by kernel_rfl)(hQ:∀c a w,Q (.panic c) (a.put (some d) undef) w→Q (.panic c) a w:=by exact fun _ _ _ h=>h)(ha:a.put (some d) undef=a2:=by exact arf):Au (i::is) P md ops Q S iE (n+1) seen a w:=by subst ha;exact fun hS=>abn i _ hi hd hs hf hr hQ nC hS (h hS)
def tkL {ty x tp ps af gd}(h:Au is P md ops Q S iE n (seen.setIfInBounds i true) a2 w)(hi:ops[i]?=some (Oper.mk (some d) (.load ty x) tp ps af gd):=by exact opAt)(nC:Region.wanted (Oper.mk (some d) (.load ty x) tp ps af gd) (yielded ops a.tmps)=true:=by rfl)(hy:∀v,S v→(execOp a.eval (Oper.mk (some d) (.load ty x) tp ps af gd)).run P v=.ok (.value u) v:=by intro _ hv;first|exact aqU hv|exact ajX hv|exact ajV hv|exact ajW hv|exact adI hv|exact aqa hv)(hs:Region.noSelect ops=true:=by kernel_rfl)(hf:Region.free md ops seen i=true:=by kernel_rfl)(hr:(Region.ready md ops seen).contains i=true:=by kernel_rfl)(iq:waitAll md ops iE seen i=true:=by decide+kernel)(hQ:∀c a w,Q (.panic c) (a.put (some d) u) w→Q (.panic c) a w:=by exact fun _ _ _ h=>h)(ha:a.put (some d) u=a2:=by exact arf):Au (i::is) P md ops Q S iE (n+1) seen a w:=by subst ha;exact fun hS=>Qn i _ hi rfl hs hf hr iq hQ nC hy hS (h hS)
def aaN {o}(h:if Region.wanted o (yielded ops a.tmps)=true then Oper.wp P o a w (aiY is P md ops Q S iE n (seen.setIfInBounds i true)) Q else aiY is P md ops Q S iE n (seen.setIfInBounds i true) (a.put o.dst undef) w)(hr:Region.ready md ops seen=[i]:=by kernel_rfl)(ho:ops[i]?=some o:=by exact opAt):Au (i::is) P md ops Q S iE (n+1) seen a w:=by intro hS;refine bF i hr ho fun K hK=>?_;have hk:∀b v,aiY is P md ops Q S iE n (seen.setIfInBounds i true) b v→K b v:=fun b v h=>hK.out b v h.1 h.2;exact Ts
def aj5 {o}(h:if Region.wanted o (yielded ops a.tmps)=true then Oper.wp P o a w (aiZ is P md ops Q iE n (seen.setIfInBounds i true)) Q else aiZ is P md ops Q iE n (seen.setIfInBounds i true) (a.put o.dst undef) w)(hr:Region.ready md ops seen=[i]:=by kernel_rfl)(hi:iE.contains i=true:=by rfl)(ho:ops[i]?=some o:=by exact opAt):Au (i::is) P md ops Q S iE (n+1) seen a w:=by intro hS;refine dC i hr hi ho fun K hK=>?_;have hk:∀b v,aiZ is P md ops Q iE n (seen.setIfInBounds i true) b v→K b v:=fun b v⟨S',h1,h2⟩=>hK.out b v S' h1 h2;exact Ts
end
def rL {G K:Prop}(k:K)(h:Hid K→G:=by
 intro kz;repeat(first|refine avo ?_|(refine liL ?_ aq;refine UH ?_)|refine skL ?_|refine tkL ?_)
 exact kz.o):G:=h (ag k)
def rB iE is {G K:Prop}(k:K)(h:Tag iE is→Hid K→G:=by intro tg kz;refine awI tg (fun W=>Fm _ _ _ W _ _ _) hM.drew ?_;refine rL ?_;have hM:=hM.drew;revert hM;exact kz.o):G:=h ⟨trivial⟩ (ag k)
def rC {G K:Prop}(k:K)(h:Hid K→G:=by intro kz;refine aaN ?_;generalize hk:aiY _ _ _ _ _ _ _ _ _=Kx;replace hk:=PLift.up hk;go_simp;cases hk.down;exact kz.o):G:=h (ag k)
def rK {G K:Prop}(k:K)(h:Hid K→G:=by intro kz;refine adP hM.sub ?_;refine rL ?_;exact kz.o):G:=h (ag k)
def rS {G K:Prop}(k:K)(h:Hid K→G:=by
 intro kz;refine aj5 ?_;rw[if_pos aq];first|refine sO hM ?_|refine Pg hM ?_|refine Lz hM ?_
 intro wN hM;refine adQ (fun W=>Fm _ _ _ W _ _ _) hM ?_;refine rL ?_;revert hM;revert wN;exact kz.o):G:=h (ag k)
def rN {G K:Prop}(k:K)(h:Hid K→G:=by intro kz;refine aaN ?_;rw[if_pos aq];refine f_n ?_;intro gN wN hM;refine adP hM.sub ?_;refine rL ?_;revert hM;revert wN;revert gN;exact kz.o):G:=h (ag k)
def rR {G K:Prop}(k:K)(h:Hid K→G:=by intro kz;refine aaN ?_;rw[if_pos aq];refine f_r ?_;refine adP hM.sub ?_;refine rL ?_;exact kz.o):G:=h (ag k)
def rT {G K:Prop}(k:K)(h:Hid K→G:=by intro kz;refine aj5 ?_;generalize hk:aiZ _ _ _ _ _ _ _ _=Kx;replace hk:=PLift.up hk;go_simp;cases hk.down;exact kz.o):G:=h (ag k)
def rU {G K:Prop}(k:K)(h:Hid K→G:=by intro kz;refine adQ (fun W=>Fm _ _ _ W _ _ _) hM ?_;refine rL ?_;exact kz.o):G:=h (ag k)
def oI {P md ops Q S iE st is n seen}{a w}(_:Tag st is)(h:Au is P md ops Q S iE n seen a w)(hS:S w):Ord P md ops Q S iE n seen a w:=h hS
def rG is {G K:Prop}(k:K)(h:Tag [] is→Hid K→G:=by intro tg kz;refine oI tg ?_ hS;refine rL ?_;exact kz.o):G:=h ⟨trivial⟩ (ag k)
def rA {G K:Prop}(k:K)(h:Hid K→G:=by intro kz;refine aj5 ?_;rw[if_pos aq];refine YK hM ?_;intro gN cN wN hM;refine adQ (fun W=>Fm _ _ _ W _ _ _) hM ?_;refine rL ?_;revert hM;revert wN;revert cN;revert gN;exact kz.o):G:=h (ag k)
def zP is {G K:Prop}(k:K)(h:Tag [] is→Hid K→G:=by intro tg kz;rw[if_pos aq];refine EO hM ?_;intro gN wN hM;refine hK.out _ _ hM.sub (fun hS=>?_);refine oI tg ?_ hS;clear hS;refine rL ?_;revert hM;revert wN;revert gN;exact kz.o):G:=h ⟨trivial⟩ (ag k)
def YG is {G K:Prop}(k:K)(h:Tag [] is→Hid K→G:=by intro tg kz;rw[if_pos aq];refine f_l ?_;refine hK.out _ _ hM.sub (fun hS=>?_);refine oI tg ?_ hS;refine rL ?_;exact kz.o):G:=h ⟨trivial⟩ (ag k)
def rHS is {G K:Prop}(k:K)(h:Tag [] is→Hid K→G:=by
 intro tg kz;rw[if_pos aq];first|refine sO hM ?_|refine Pg hM ?_|refine Lz hM ?_
 intro wN hM;refine hK.out _ _ (fun W=>Fm _ _ _ W _ _ _) hM (fun hS=>?_);refine oI tg ?_ hS;clear hS;refine rL ?_;revert hM;revert wN;exact kz.o):G:=h ⟨trivial⟩ (ag k)
section
variable{P:Program}{md:Region.Mode}{ops:Array Oper}{Q:Exit→Act→World→Prop}{S:World→Prop}{iE:List Nat}
def de i d {oi u n seen a a2 w}(hS:S w)(h:Ord P md ops Q S iE n (seen.setIfInBounds i true) a2 w)(hi:ops[i]?=some oi:=by rfl)(hd:oi.dst=d:=by rfl)(hs:Region.noSelect ops=true:=by kernel_rfl)(hf:Region.free md ops seen i=true:=by kernel_rfl)(hr:(Region.ready md ops seen).contains i=true:=by kernel_rfl)(iq:waitAll md ops iE seen i=true:=by kernel_rfl)(hy:∀v,S v→(execOp a.eval oi).run P v=.ok (.value u) v:=by intro _ hv;first|exact aqU hv|exact ajX hv|exact ajV hv|exact ajW hv|exact adI hv)(hQ:∀c a w,Q (.panic c) (a.put d u) w→Q (.panic c) a w:=by exact fun _ _ _ h=>h)(nC:Region.wanted oi (yielded ops a.tmps)=true:=by rfl)(ha:a.put d u=a2:=by(try refine oC ?_);all_goals rfl):Ord P md ops Q S iE (n+1) seen a w:=by subst ha;exact Qn i d hi hd hs hf hr iq hQ nC hy hS h
def ed i d {oi u n seen a a2 w}(hS:S w)(h:Ord P md ops Q S iE n (seen.setIfInBounds i true) a2 w)(hi:ops[i]?=some oi:=by rfl)(hd:oi.dst=d:=by rfl)(hs:Region.noSelect ops=true:=by kernel_rfl)(hf:Region.free md ops seen i=true:=by kernel_rfl)(hr:(Region.ready md ops seen).contains i=true:=by kernel_rfl)(hy:∀v,True→(execOp a.eval oi).run P v=.ok (.value u) v:=by(intro _ _;exact fj))(hQ:∀c a w,Q (.panic c) (a.put d u) w→Q (.panic c) a w:=by exact fun _ _ _ h=>h)(nC:Region.wanted oi (yielded ops a.tmps)=true:=by rfl)(ha:a.put d u=a2:=by(try refine oC ?_);all_goals rfl):Ord P md ops Q S iE (n+1) seen a w:=by subst ha;exact jX i d hi hd hs hf hr hQ nC hy hS h
end
end Go.Proofs.YtlddafbgfkocjaaGreatDoor
