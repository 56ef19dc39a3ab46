/- A part of TopHonest. -/
import Derived.Laws.Rows
import Derived.Test.YtlddafbgfkocjaaGreatDoorT00
namespace Go.Proofs.YtlddafbgfkocjaaGreatDoor
open Go.RowKit Go.Proofs.Tryz
set_option linter.all false
set_option maxRecDepth 1000000
set_option maxHeartbeats 400000000
def Id(n:Int):UInt8:=UInt8.ofNat n.toNat
theorem Cm n(h0:0≤n)(h1:n≤255):((Id n).toNat:Int)=n:=by grind[Id,UInt8.toNat_ofNat']
theorem Xn b:Id (b.toNat:Int)=b:=by simp[Id]
abbrev str(l:Bz):Value:=.string ⟨l.toArray⟩
@[go_sem]theorem arr(l:Bz)a b:(ByteArray.mk l.toArray).extract a b=ByteArray.mk ((l.drop a).take (b-a)).toArray:=ByteArray.extract_mk l a b
@[go_sem]theorem MQ(l:Bz)k(h:k<(ByteArray.mk l.toArray).size):(ByteArray.mk l.toArray)[k]'h=l[k]'(by exact h):=aq
@[go_sem]theorem asI(a b:Bz):(ByteArray.mk a.toArray)++(ByteArray.mk b.toArray)=ByteArray.mk (a++b).toArray:=aq
def hd(c:Int)(n:Int):Bz:=[Id c,Id (n/65536%256),Id (n/256%256),Id (n%256)]
@[go_sem]theorem atZ c n:(hd c n).length=4:=rfl
def bA(c:Int)(s:Bz):Bz:=hd c s.length++s
@[go_sem]theorem cw c s:(bA c s).length=4+s.length:=by grind[bA,hd]
def FR {P}(w:World)src dst e t(ns:List Int)n cap(hn:n=ns.length)(hb:∀x∈ns,0≤x∧x≤255)(hs:P.underlying src=some (.slice e))(he:P.underlying e=some (.int .u8))(hd:P.underlying dst=some .string):(convert src dst (.slice (some (aD w.heap.size 0)) n cap)).run P (w.alloc (.cells (ns.map (Value.int .u8)).toArray t))=.ok (str (ns.map Id)) (w.alloc (.cells (ns.map (Value.int .u8)).toArray t)):=by
 subst hn;have:=fZ (P:=P) (w.alloc (.cells (ns.map (Value.int .u8)).toArray t)) src dst e (aD w.heap.size 0) cap (ns.map Id) hs he hd (by
  intro j hj;have hj':j<ns.length:=by grind
  have ha:((aD w.heap.size 0):Addr).add j=(aD w.heap.size j):=by unfold Addr.add;grind
  simp_all[Cm])
 grind
def LK {P}(w:World)src dst e t c n(c0:0≤c)(c1:c≤255)(hs:P.underlying src=some (.slice e))(he:P.underlying e=some (.int .u8))(hd:P.underlying dst=some .string):(convert src dst (.slice (some (aD w.heap.size 0)) 4 4)).run P (w.alloc (.cells #[.int .u8 c,.int .u8 (n/65536%256),.int .u8 (n/256%256),.int .u8 (n%256)] t))=.ok (.string ⟨(Proofs.YtlddafbgfkocjaaGreatDoor.hd c n).toArray⟩) (w.alloc (.cells #[.int .u8 c,.int .u8 (n/65536%256),.int .u8 (n/256%256),.int .u8 (n%256)] t)):=FR (P:=P) w src dst e t [c,n/65536%256,n/256%256,n%256] 4 4 rfl ai hs he hd
def ad8 {W w1}(hb:Below W.heap.size W w1):(∀b o,b<W.heap.size→w1.cell? (aD b o)=W.cell? (aD b o))∧(∀b o,b<W.heap.size→w1.frozen? (aD b o)=W.frozen? (aD b o)):=⟨fun b o h=>hb.cell (p:=(aD b o)) h,fun b o h=>hb.frozen (p:=(aD b o)) h⟩
def bP {w W w1}(h:Below w.heap.size w W)(hb:Below W.heap.size W w1):Below w.heap.size w w1:=h.trans (hb.mono h.size)
abbrev MJ(a b:Int):Int:=bits .xor .u32 a b
abbrev aq5(a b:Int):Int:=bits .and .u32 a b
abbrev bor(a b:Int):Int:=bits .or .u32 a b
abbrev jY(a b:Int):Int:=(a+b)%4294967296
def uB(m d x:Int):Int:=bor (x*m%4294967296) (x/d)
def sg0(a:Int):Int:=MJ (MJ (uB 33554432 128 a) (uB 16384 262144 a)) (a/8)
def sg1(b:Int):Int:=MJ (MJ (uB 32768 131072 b) (uB 8192 524288 b)) (b/1024)
def bs1(e:Int):Int:=MJ (MJ (uB 67108864 64 e) (uB 2097152 2048 e)) (uB 128 33554432 e)
def bs0(a:Int):Int:=MJ (MJ (uB 1073741824 4 a) (uB 524288 8192 a)) (uB 1024 4194304 a)
def nth(l:List Int)(i:Nat):Int:=l[i]?.getD 0
def Zl:List Int→Int:=fun l=>l.foldl (fun a c=>bor (a*256%4294967296) c) 0
def ajZ(b:Bz)(i:Nat):Int:=Zl (((b.drop (4*i)).take 4).map fun c=>(c.toNat:Int))
def Zn(ws:List Int)(i:Nat):Int:=jY (jY (jY (nth ws (i-16)) (sg0 (nth ws (i-15)))) (nth ws (i-7))) (sg1 (nth ws (i-2)))
def ku(b:Bz):Nat→List Int|0=>List.replicate 64 0|k+1=>(ku b k).set k (if k<16 then ajZ b k else Zn (ku b k) k)
def yt b:∀k,(ku b k).length=64|0=>by simp[ku]|k+1=>by simp[ku,yt b k]
structure Y8 where
  a : Int
  b : Int
  c : Int
  d : Int
  e : Int
  f : Int
  g : Int
  h : Int
def Y8.l(y:Y8):List Int:=[y.a,y.b,y.c,y.d,y.e,y.f,y.g,y.h]
def t1Y(y:Y8)(k w:Int):Int:=y.h+bs1 y.e+MJ y.g (aq5 y.e (MJ y.f y.g))+k+w
def aws(y:Y8):Int:=bor (aq5 y.a y.b) (aq5 y.c (bor y.a y.b))
def Pn(y:Y8)(k w:Int):Y8:=⟨(t1Y y k w+bs0 y.a+aws y)%4294967296,y.a,y.b,y.c,(y.d+t1Y y k w)%4294967296,y.e,y.f,y.g⟩
def AU(ks ws:List Int)(y:Y8):Nat→Y8|0=>y|k+1=>Pn (AU ks ws y k) (nth ks k) (nth ws k)
def Y8.add(x y:Y8):Y8:=⟨jY x.a y.a,jY x.b y.b,jY x.c y.c,jY x.d y.d,jY x.e y.e,jY x.f y.f,jY x.g y.g,jY x.h y.h⟩
def Ia(ks:List Int)(x:Y8)(b:Bz):Y8:=x.add (AU ks (ku b 64) x 64)
structure bR where
  ks : List Int
  bg : Y8
def lL(T:bR)(l:Bz):Nat→Y8|0=>T.bg|k+1=>Ia T.ks (lL T l k) ((l.drop (64*k)).take 64)
def aaH(n:Nat):Bz:=128::(List.replicate ((55+64-n%64)%64) 0++(List.range 8).map fun i=>UInt8.ofNat (n*8/256^(7-i)%256))
def As T l m:∀k,64*k≤l.length→lL T (l++m) k=lL T l k|0,_=>rfl|k+1,h=>by simp only[lL];rw[As T l m k ab];congr 1;rw[iU ab,iT xB]
def ajp c n w(h0:0≤n)(h1:n≤16777215):dM 151 #[.int .u8 c,al n] w (.agg #[.int .u8 c,.int .u8 (n/65536%256),.int .u8 (n/256%256),.int .u8 (n%256)]):=by have h2:n/65536%256=n/65536:=ab;have H2:=ag h2;clear h2;go_enter func151,ntmps151;go_wp2;rw[H2.o];go_returns;exact⟨rfl,se⟩
def dP c s w(c0:0≤c)(c1:c≤255)(hs:s.length≤16777215):dM 93 #[.int .u8 c,str s] w (str (bA c s)):=by go_enter func93,ntmps93;go_wp2_with(go_at_call 151;refine(ajp _ _ _ ae ab).mono ?_;rintro e w1⟨rfl,hb⟩;have kc:=LK (P:=prog) w1 137 9 5 236 c s.length c0 c1 underlying137 underlying5 underlying9);go_ret;exact⟨rfl,hb.alloc hb.size _⟩
def dV(s:Bz):Bool:=decide (47∉s∧s≠[]∧s.length≤32)
theorem akt(s:ByteArray)p(h:p<s.size):s.get! p=s[p]'h:=get_at s p h
def Uo s pos h(ha:128≤(s[pos]'h).toNat):pos+(Utf8.decode s pos).2≤s.size∧∀j,pos≤j→j<pos+(Utf8.decode s pos).2→128≤(s.get! j).toNat:=by
 have hn:¬(s[pos]'h).toNat<128:=ab;have h0:128≤(s.get! pos).toNat:=by grind[akt]
 simp only[Utf8.decode,get_at s pos h,hn,if_false];repeat' split
 all_goals grind
def IG(l:Bz)k n(h:47∉l.take k)(hn:∀j(hj),k≤j→j<n→l[j]≠47):47∉l.take n:=by induction k<;>grind[List.mem_iff_getElem,List.length_take,Nat.lt_or_ge]
def amg l(h:¬l=[])(DX:47∉l):(!l.isEmpty&&decide ((l.length:Int)≤32))=dV l:=by unfold dV;grind
def BS l b w(hb:dV l=b)(hl:l.length≤140737488351232):dM 272 #[str l] w (.bool b):=by
 have Hb:=ag hb;clear hb;go_enter func272,ntmps272;go_wp2;go_loopw [4](fun _ wr=>∃pos:Nat,wr=w.iter ⟨l.toArray⟩ pos∧pos≤l.length∧47∉l.take pos)(fun _ wr=>l.length-wr.iterPos w.heap.size);case atStart=>exact⟨0,rfl,aI _,ae⟩
 case round=>
  obtain⟨pos,rfl,qZ,DX⟩:=hrel;have Hno:=ag DX;clear DX;by_cases hp:pos<l.length
  ·by_cases ha:(l[pos].toNat:Int)<128
   ·have ni:∀ty,(Instr.next (aG w.heap.size) true ty).run prog (w.iter ⟨l.toArray⟩ pos)=_:=fun ty=>run_next_ascii w ⟨l.toArray⟩ pos ty hp (by have:(l[pos].toNat:Int)<128:=ha;rw[MQ];omega);by_cases h47:(l[pos].toNat:Int)=47;go_wp2;go_ret;have e:l[pos]=47:=by apply qx.1;show l[pos].toNat=47;omega
    have hf:dV l=false:=by unfold dV;rw[gZ];exact fun h=>h.1 (e▸bH hp)
    exact⟨by rw[←Hb.o,hf];rfl,(aJ _ _).alloc (au _) _⟩
    ·go_wp2;go_roundw;case rel=>
      exact⟨pos+1,rfl,ab,IG l pos (pos+1) Hno.o (by
       intro j hj h1 h2 e;obtain rfl:j=pos:=by omega
       rw[e]at h47;exact h47 rfl)⟩
     case measure=>exact aR
   ·have ha':128≤(((ByteArray.mk l.toArray)[pos]'hp).toNat):=by rw[MQ];omega
    have hd:=Uo ⟨l.toArray⟩ pos hp ha';have hh:=decode_high ⟨l.toArray⟩ pos hp ha';have hle:=decode_le ⟨l.toArray⟩ pos;have ni:∀ty,(Instr.next (aG w.heap.size) true ty).run prog (w.iter ⟨l.toArray⟩ pos)=_:=fun ty=>run_next_any w ⟨l.toArray⟩ pos ty hp;generalize Utf8.decode (⟨l.toArray⟩:ByteArray) pos=q at hd hh hle ni;obtain⟨c,wd⟩:=q;obtain⟨wk,rF⟩:=hd;obtain⟨hh1,hh2⟩:=hh;have Hd2:=ag rF;have awy:pos+wd≤l.length:=wk;clear wk rF;have hc:((c:Int)==47)=false:=nr;go_wp2;go_roundw;case rel=>exact⟨pos+wd,rfl,awy,IG l pos (pos+wd) Hno.o (by intro j hj h1 h2 e;have h3:=Hd2.o j h1 h2;rw[akt ⟨l.toArray⟩ j hj,MQ,e]at h3;exact absurd h3 ae)⟩
    case measure=>exact aR
  ·have ni:∀ty,(Instr.next (aG w.heap.size) true ty).run prog (w.iter ⟨l.toArray⟩ pos)=_:=fun ty=>run_next_end w ⟨l.toArray⟩ pos ty hp;obtain rfl:pos=l.length:=ab;go_wp2;all_goals go_ret;have DX:=Hno.o;refine⟨?_,(aJ _ _).alloc (au _) _⟩
   rw[←Hb.o];unfold dV;rw[ci]at DX;cases l with|nil=>rfl|cons x l=>simp_all
   rw[←Hb.o];rw[ci]at DX;exact congrArg (fun x=>Ending.returned (.bool x)) (amg l ab DX)
def al1(L:List Bz)k h:(L.take (k+1)).all dV=((L.take k).all dV&&dV L[k]):=by grind[List.take_succ_eq_append_getElem]
def al2(L:List Bz)k(h:k<L.length)(hf:dV L[k]=false):L.all dV=false:=ai
def Xb(L:List Bz)g b w(hb:L.all dV=b)(hL:L.length≤8)(hs:∀i(h:i<L.length),L[i].length≤140737488351232)(hc:∀i(h),w.cell? (aD g i)=some (str L[i]))(hg:g<w.heap.size):dM 342 #[.slice (some (aD g 0)) L.length L.length] w (.bool b):=by
 have Hb:=ag hb;have Hs:=ag hs;have Hc:=ag hc;clear hb hs hc;go_enter func342,ntmps342;go_wp2;go_step3;go_wp2;go_step3;go_wp2;go_loopw [3,8](fun r i wr=>∃k:Nat,k≤L.length∧r=.bool true∧i=al k∧(L.take k).all dV=true∧Below w.heap.size w wr)(fun _ i _=>L.length-(intOf i).toNat);case atStart=>exact⟨0,aI _,rfl,rfl,ae,aJ _ _⟩
 case round=>
  obtain⟨k,hk,rfl,rfl,ko,ni⟩:=hrel;have anj:=ag ko;clear ko;by_cases eo:k<L.length
  ·have fd:wr.cell? (aD g k)=some (str L[k]):=(ni.cell ab).trans (Hc.o k eo);obtain⟨b1,eH⟩:=aZ (dV L[k]);have Hb1:=ag eH;clear eH;cases b1;go_wp2_with(go_at_call 272;refine(BS L[k] false _ Hb1.o (Hs.o k eo)).mono ?_;rintro e w1⟨rfl,VV⟩);rw[bX];go_ret;exact⟨by rw[←Hb.o,al2 L k eo Hb1.o];rfl,ni.trans (VV.mono ni.size)⟩
   ·go_wp2_with(go_at_call 272;refine(BS L[k] true _ Hb1.o (Hs.o k eo)).mono ?_;rintro e w1⟨rfl,VV⟩);go_roundw;case rel=>exact⟨k+1,ab,rfl,aq,by rw[al1 L k eo,anj.o,Hb1.o];rfl,ni.trans (VV.mono ni.size)⟩
    case measure=>exact bC
  obtain rfl:k=L.length:=ab;have ko:=anj.o;rw[ci]at ko;have hbt:=Hb.o;rw[ko]at hbt;subst hbt;go_wp2;rw[bX];go_ret;exact⟨rfl,ni⟩
def Fits(l:Bz):Prop:=l.length≤140737488351232
abbrev En:=Int×Bz×Bz×Bz
def vR:En:=(0,[],[],[])
def tv(e:En):Bool:=if e.1=1 then(dV e.2.1&&dV e.2.2.1)&&decide (e.2.2.2=[])else if e.1=2∨e.1=3∨e.1=4 then(dV e.2.1&&dV e.2.2.1)&&dV e.2.2.2 else false
def isE(e:En)(k:Int):Bool:=decide (e.1=k)&&tv e
def yB(o p:Bz):En×Int:=if dV o&&dV p then((1,o,p,[]),0)else(vR,1)
def EP(o p:Bz)(t:En):En×Int:=if(dV o&&dV p)=false then(vR,1)else if(isE t 1&&decide (t.2.2.1=o))=false then(vR,13)else((2,o,t.2.1,p),0)
def Ib(own:En)(id:Bz)(t:En):Bool:=(decide (t.2.1=own.2.2.1)&&decide (t.2.2.1=own.2.1))&&decide (t.2.2.2=id)
def Ho(own:En)(st:Int)(id peer:Bz)(t:En)(other:Int):En×Int:=if(isE own st&&isE t other&&Ib own id t)=true then((3,own.2.1,own.2.2.1,peer),0)else(vR,13)
def EQ(own:En)(id peer:Bz)(t:En):En×Int:=if(dV id&&dV peer)=false then(vR,1)else Ho own 1 id peer t 2
def oS(own:En)(id:Bz)(t:En):En×Int:=Ho own 2 id own.2.2.2 t 3
def nk a b g v w(hv:(dV a&&dV b)=v)(fa:Fits a)(fb:Fits b)(c0:w.cell? (aD g 0)=some (str a))(c1:w.cell? (aD g 1)=some (str b))(hg:g<w.heap.size):dM 342 #[.slice (some (aD g 0)) 2 2] w (.bool v):=Xb [a,b] g v w (by rw[←hv];simp) ae (by intro i h;match i,h with|0,_=>exact fa|1,_=>exact fb) (by intro i h;match i,h with|0,_=>exact c0|1,_=>exact c1) hg
def IY a b c g v w(hv:((dV a&&dV b)&&dV c)=v)(fa:Fits a)(fb:Fits b)(fc:Fits c)(c0:w.cell? (aD g 0)=some (str a))(c1:w.cell? (aD g 1)=some (str b))(c2:w.cell? (aD g 2)=some (str c))(hg:g<w.heap.size):dM 342 #[.slice (some (aD g 0)) 3 3] w (.bool v):=Xb [a,b,c] g v w (by rw[←hv];simp[Bool.and_assoc]) ae (by intro i h;match i,h with|0,_=>exact fa|1,_=>exact fb|2,_=>exact fc) (by intro i h;match i,h with|0,_=>exact c0|1,_=>exact c1|2,_=>exact c2) hg
def Ql a b c:tv (1,a,b,c)=((dV a&&dV b)&&decide (c=[])):=by simp[tv]
def al4 a b c:tv (2,a,b,c)=((dV a&&dV b)&&dV c):=by simp[tv]
def al3 a b c:tv (3,a,b,c)=((dV a&&dV b)&&dV c):=by simp[tv]
def al5 a b c:tv (4,a,b,c)=((dV a&&dV b)&&dV c):=by simp[tv]
def aiB st a b c(h1:st≠1)(h2:st≠2)(h3:st≠3)(h4:st≠4):tv (st,a,b,c)=false:=by simp[tv,h1,h2,h3,h4]
def Xc st a b c v w(hv:tv (st,a,b,c)=v)(fa:Fits a)(fb:Fits b)(fc:Fits c):Calls prog 332 #[.agg #[.int .i64 st,str a,str b,str c]] w fun e w'=>e=.returned (.bool v)∧Below w.heap.size w w':=by
 have Hv:=ag hv;clear hv;by_cases h1:st=1
 ·subst h1;obtain⟨u,hu⟩:=aZ (dV a&&dV b);have Hu:=ag hu;clear hu;cases u;·go_enter func332,ntmps332;go_wp2_with fail;refine(nk a b _ false _ Hu.out fa fb (by simp[go_sem]) (by simp[go_sem]) (by simp)).mono ?_;rintro e w1⟨rfl,eH⟩;go_wp2;go_ret;exact⟨by rw[←Hv.out,Ql,Hu.out];rfl,bP (by go_grown) eH⟩
  ·by_cases hc:c=[];·subst hc;go_enter func332,ntmps332;go_wp2_with fail;refine(nk a b _ true _ Hu.out fa fb (by simp[go_sem]) (by simp[go_sem]) (by simp)).mono ?_;rintro e w1⟨rfl,eH⟩;obtain⟨hc,hf⟩:=ad8 eH;go_wp2;go_ret;exact⟨by rw[←Hv.out,Ql,Hu.out];rfl,bP (by go_grown) eH⟩
   ·have hc':c.isEmpty=false:=by simpa using hc
    have Hc:=ag hc;clear hc;go_enter func332,ntmps332;go_wp2_with fail;refine(nk a b _ true _ Hu.out fa fb (by simp[go_sem]) (by simp[go_sem]) (by simp)).mono ?_;rintro e w1⟨rfl,eH⟩;obtain⟨hc,hf⟩:=ad8 eH;go_wp2;go_ret;exact⟨by rw[←Hv.out,Ql,Hu.out,cP Hc.out];rfl,bP (by go_grown) eH⟩
 ·obtain⟨u,hu⟩:=aZ (((dV a&&dV b)&&dV c));have Hu:=ag hu;clear hu;by_cases h2:st=2;·subst h2;go_enter func332,ntmps332;go_wp2_with fail;refine(IY a b c _ u _ Hu.out fa fb fc (by simp[go_sem]) (by simp[go_sem]) (by simp[go_sem]) (by simp)).mono ?_;rintro e w1⟨rfl,eH⟩;go_wp2;go_ret;exact⟨by rw[←Hv.out,al4,Hu.out];rfl,bP (by go_grown) eH⟩
  by_cases h3:st=3;·subst h3;go_enter func332,ntmps332;go_wp2_with fail;refine(IY a b c _ u _ Hu.out fa fb fc (by simp[go_sem]) (by simp[go_sem]) (by simp[go_sem]) (by simp)).mono ?_;rintro e w1⟨rfl,eH⟩;go_wp2;go_ret;exact⟨by rw[←Hv.out,al3,Hu.out];rfl,bP (by go_grown) eH⟩
  by_cases h4:st=4;·subst h4;go_enter func332,ntmps332;go_wp2_with fail;refine(IY a b c _ u _ Hu.out fa fb fc (by simp[go_sem]) (by simp[go_sem]) (by simp[go_sem]) (by simp)).mono ?_;rintro e w1⟨rfl,eH⟩;go_wp2;go_ret;exact⟨by rw[←Hv.out,al5,Hu.out];rfl,bP (by go_grown) eH⟩
  ·have hn:=aiB st a b c h1 h2 h3 h4;have Hn:=ag hn;clear hn;go_enter func332,ntmps332;go_wp2;go_ret;exact⟨by rw[←Hv.out,Hn.out];rfl,by go_grown⟩
def yZ st a b c k v w(hv:isE (st,a,b,c) k=v)(fa:Fits a)(fb:Fits b)(fc:Fits c):dM 343 #[.agg #[al st,str a,str b,str c],al k] w (.bool v):=by have Hv:=ag hv;clear hv;by_cases h:st=k;subst h;go_enter func343,ntmps343;go_wp2_with fail;refine(Xc st a b c v _ (by rw[←Hv.o];simp[isE]) fa fb fc).mono ?_;rintro e w1⟨rfl,eH⟩;go_wp2;go_ret;exact⟨ae,bP se eH⟩;go_enter func343,ntmps343;go_wp2;go_ret;exact⟨by rw[←Hv.o];simp[isE,h],se⟩
def aql(n:Nat)(h:n<4294967296):(((n:Int)%((2^32:Nat):Int)).toNat)=n:=ab
def ao8(a b:Nat)(ha:a<4294967296)(hb:b<4294967296):bits .or .u32 (a:Int) (b:Int)=((a|||b:Nat):Int):=by show IntKind.u32.wrap (((BitVec.ofInt 32 (a:Int)|||BitVec.ofInt 32 (b:Int)).toNat:Nat):Int)=_;rw[BitVec.toNat_or,jB,jB,aql a ha,aql b hb,zK];have h:a|||b<2^32:=Nat.or_lt_two_pow ab ab;omega
def Cr(i x y:Nat)(hy:y<2^i)(h:2^i*x+y<4294967296):bits .or .u32 ((2^i*x:Nat):Int) (y:Int)=((2^i*x+y:Nat):Int):=by rw[ao8 _ _ ab ab,←lS hy]
def ao7(a b c d:Nat)(ha:a<256)(hb:b<256)(hc:c<256)(hd:d<256):bits .or .u32 (bits .or .u32 (bits .or .u32 (IntKind.u32.wrap (IntKind.u32.wrap (a:Int)*16777216)) (IntKind.u32.wrap (IntKind.u32.wrap (b:Int)*65536))) (IntKind.u32.wrap (IntKind.u32.wrap (c:Int)*256))) (IntKind.u32.wrap (d:Int))=((a*16777216+b*65536+c*256+d:Nat):Int):=by have e1:IntKind.u32.wrap (IntKind.u32.wrap (a:Int)*16777216)=((2^24*a:Nat):Int):=Dy;have e2:IntKind.u32.wrap (IntKind.u32.wrap (b:Int)*65536)=((b*65536:Nat):Int):=Dy;have e3:IntKind.u32.wrap (IntKind.u32.wrap (c:Int)*256)=((c*256:Nat):Int):=Dy;have e4:IntKind.u32.wrap (d:Int)=(d:Int):=Dy;rw[e1,e2,e3,e4,Cr 24 a (b*65536) ab ab];rw[show 2^24*a+b*65536=2^16*(a*256+b)from ab,Cr 16 _ (c*256) ab ab];rw[show 2^16*(a*256+b)+c*256=2^8*((a*256+b)*256+c)from ab,Cr 8 _ d ab ab];omega
def ao6(a b c d:Nat)(ha:a<256)(hb:b<256)(hc:c<256)(hd:d<256):Zl [(a:Int),b,c,d]=((a*16777216+b*65536+c*256+d:Nat):Int):=by have e0:((0:Int)*256%4294967296)=((2^8*0:Nat):Int):=aq;unfold Zl;simp only[AP,List.foldl_nil,bor];rw[e0,Cr 8 0 a ab ab];have e1:(((2^8*0+a:Nat):Int)*256%4294967296)=((2^8*a:Nat):Int):=ab;rw[e1,Cr 8 a b ab ab];have e2:(((2^8*a+b:Nat):Int)*256%4294967296)=((2^8*(256*a+b):Nat):Int):=ab;rw[e2,Cr 8 _ c ab ab];have e3:(((2^8*(256*a+b)+c:Nat):Int)*256%4294967296)=((2^8*(256*(256*a+b)+c):Nat):Int):=ab;rw[e3,Cr 8 _ d ab ab];omega
def amx {b k}(hb:b.length=64)(hk:k<16){c0 c1 c2 c3}(h0:b[4*k]?.getD 0=c0)(h1:b[4*k+1]?.getD 0=c1)(h2:b[4*k+2]?.getD 0=c2)(h3:b[4*k+3]?.getD 0=c3):bits .or .u32 (bits .or .u32 (bits .or .u32 (IntKind.u32.wrap (IntKind.u32.wrap (c0.toNat:Int)*16777216)) (IntKind.u32.wrap (IntKind.u32.wrap (c1.toNat:Int)*65536))) (IntKind.u32.wrap (IntKind.u32.wrap (c2.toNat:Int)*256))) (IntKind.u32.wrap (c3.toNat:Int))=ajZ b k:=by
 rw[aW ab,tN]at h0 h1 h2 h3;have e:(b.drop (4*k)).take 4=[c0,c1,c2,c3]:=by grind[List.drop_eq_getElem_cons]
 unfold ajZ;rw[e];have t0:=c0.toNat_lt;have t1:=c1.toNat_lt;have t2:=c2.toNat_lt;have t3:=c3.toNat_lt;simp_all[ao7,ao6]
def Jd B:BitVec.ofInt 32 (IntKind.u32.wrap (B.toNat:Int))=B:=by apply BitVec.eq_of_toNat_eq;have h:=B.isLt;grind[BitVec.toNat_ofInt,IntKind.wrap_u32]
def MW a b:BitVec.ofInt 32 (bits .xor .u32 a b)=BitVec.ofInt 32 a^^^BitVec.ofInt 32 b:=Jd _
def wI a b:BitVec.ofInt 32 (bits .and .u32 a b)=BitVec.ofInt 32 a&&&BitVec.ofInt 32 b:=Jd _
def amA a b:BitVec.ofInt 32 (bits .or .u32 a b)=BitVec.ofInt 32 a|||BitVec.ofInt 32 b:=Jd _
def adO a b:bits .xor .u32 a b=IntKind.u32.wrap ((BitVec.ofInt 32 a^^^BitVec.ofInt 32 b).toNat:Int):=rfl
def avn a b:bits .or .u32 a b=IntKind.u32.wrap ((BitVec.ofInt 32 a|||BitVec.ofInt 32 b).toNat:Int):=rfl
def avm {e f g n}(hn:BitVec.ofInt 32 n= ~~~BitVec.ofInt 32 e):bits .xor .u32 (bits .and .u32 e f) (bits .and .u32 n g)=bits .xor .u32 g (bits .and .u32 e (bits .xor .u32 f g)):=by rw[adO,adO g];congr 2;congr 1;rw[wI,wI,wI,MW,hn];grind
def asj a b c:bits .xor .u32 (bits .xor .u32 (bits .and .u32 a b) (bits .and .u32 a c)) (bits .and .u32 b c)=bits .or .u32 (bits .and .u32 a b) (bits .and .u32 c (bits .or .u32 a b)):=by rw[adO,avn];congr 2;congr 1;rw[MW,wI,wI,wI,wI,amA];grind
def asi e f g:bits .xor .u32 (bits .and .u32 e f) (bits .and .u32 (bits .xor .u32 (if IntKind.u32.signed=true then-1 else IntKind.u32.max) e) g)=bits .xor .u32 g (bits .and .u32 e (bits .xor .u32 f g)):=avm (by rw[MW];rfl)
def ase y k w:[(y.h+bits .xor .u32 (bits .xor .u32 (uB 67108864 64 y.e) (uB 2097152 2048 y.e)) (uB 128 33554432 y.e)+bits .xor .u32 (bits .and .u32 y.e y.f) (bits .and .u32 (bits .xor .u32 (if IntKind.u32.signed=true then-1 else IntKind.u32.max) y.e) y.g)+k+w+(bits .xor .u32 (bits .xor .u32 (uB 1073741824 4 y.a) (uB 524288 8192 y.a)) (uB 1024 4194304 y.a)+bits .xor .u32 (bits .xor .u32 (bits .and .u32 y.a y.b) (bits .and .u32 y.a y.c)) (bits .and .u32 y.b y.c)))%4294967296,y.a,y.b,y.c,(y.d+(y.h+bits .xor .u32 (bits .xor .u32 (uB 67108864 64 y.e) (uB 2097152 2048 y.e)) (uB 128 33554432 y.e)+bits .xor .u32 (bits .and .u32 y.e y.f) (bits .and .u32 (bits .xor .u32 (if IntKind.u32.signed=true then-1 else IntKind.u32.max) y.e) y.g)+k+w))%4294967296,y.e,y.f,y.g]=(Pn y k w).l:=by rw[asi,asj,←Int.add_assoc];rfl
def Iq(x y:Y8)(i:Nat):List Int:=(x.add y).l.take i++x.l.drop i
def Ot x y {i}(h:i≤8):(Iq x y i).length=8:=by unfold Iq;simp_all[Y8.l]
def asf x y:Iq x y 0=x.l:=rfl
def aiW x y:∀i,i<8→(Iq x y i).set i (IntKind.u32.wrap (nth (Iq x y i) i+nth y.l i))=Iq x y (i+1)|0,_=>aq|1,_=>aq|2,_=>aq|3,_=>aq|4,_=>aq|5,_=>aq|6,_=>aq|7,_=>aq|n+8,h=>ab
def amd n:bits .and .i64 n 1=n%2:=by have ayp:(BitVec.ofInt 64 1).toNat=2^1-1:=aq;have key:(BitVec.ofInt 64 n&&&BitVec.ofInt 64 1).toNat=(n%((2^64:Nat):Int)).toNat%2^1:=ae;show IntKind.i64.wrap ((BitVec.ofInt 64 n&&&BitVec.ofInt 64 1).toNat:Nat)=n%2;grind[IntKind.wrap_i64]
def aM(w:World)(g:Nat)(t:TypeId)(cs:Array Value):Prop:=w.heap[g]?=some (.cells cs t (0,0))
section
variable{w w':World}{g:Nat}{t:TypeId}{cs:Array Value}
def aM.lt(h:aM w g t cs):g<w.heap.size:=by rcases dF g w.heap.size with eo|vq;omega;unfold aM at h;grind
def aM.cell(h:aM w g t cs)i:w.cell? (aD g i)=cs[i]?:=sI w g i cs t (0,0) h
def aM.frozen(h:aM w g t cs)i:w.frozen? (aD g i)=false:=by unfold aM at h;simp[World.frozen?,h]
def aM.new(w:World)t cs:aM (w.alloc (.cells cs t)) w.heap.size t cs:=mA w _
def aM.jb {w:World}{n}(h:n=w.heap.size)t cs:aM (w.alloc (.cells cs t)) n t cs:=by subst h;exact mA w _
def aM.drew(h:aM w g t cs):aM w.drew g t cs:=h
def aM.alloc(h:aM w g t cs)o:aM (w.alloc o) g t cs:=(pq w o g h.lt).trans h
def aM.dq(h:aM w g t cs)i u:aM (w.setCell (aD g i) u) g t (cs.setIfInBounds i u):=by unfold aM at h⊢;simp[World.setCell,Array.getElem?_modify,h]
def aM.kR(h:aM w g t cs){p}(hp:g≠p.block)u:aM (w.setCell p u) g t cs:=(iJ w p u g hp).trans h
def aM.below {B}(h:aM w g t cs)(hb:Below B w w')(hg:g<B):aM w' g t cs:=(hb.block g hg).trans h
def aM.step(h:aM w g t cs)(hb:Below w.heap.size w w'):aM w' g t cs:=(hb.block g h.lt).trans h
def aM.grown {row}(h:aM w g t cs)(hb:w.grownBy w' row)(hg:some g≠row):aM w' g t cs:=(hb.block g h.lt hg).trans h
end
section
variable{P:Program}
def bB {fn}{p u:Tmp}{ty}(h:fn.results=#[.cell p ty,.tmp u])tmps w g t cs d(hp:tmps.getD p undef=aG g)(hg:aM w g t cs)(hu:P.underlying ty=some d)(hd:(match d with|.struct _|.array _ _=>true|_=>false)=true)(hi:(P.info? ty).map (·.size)=some cs.size):(results fn tmps).run P w=.ok (.tuple #[.agg cs,tmps.getD u undef]) w:=RN
def mH {fn}{p:Tmp}{ty}(h:fn.results=#[.cell p ty])tmps w g t cs d(hp:tmps.getD p undef=aG g)(hg:aM w g t cs)(hu:P.underlying ty=some d)(hd:(match d with|.struct _|.array _ _=>true|_=>false)=true)(hi:(P.info? ty).map (·.size)=some cs.size):(results fn tmps).run P w=.ok (.agg cs) w:=RN
end
def ja(w:World)g i u:w.grownBy (w.setCell (aD g i) u) (some g):=⟨rfl,rfl,rfl,ae,fun k _ gQ=>iJ w (aD g i) u k (fun e=>gQ ai)⟩
def pR {a w}(h:Below a.heap.size a w)row:a.grownBy w row:=⟨h.os,h.tape,h.output,h.size,fun i hi _=>h.block i hi⟩
def jq {a b c:World}{row}(h:a.grownBy b row)(k:b.grownBy c row):a.grownBy c row:=⟨k.os.trans h.os,k.tape.trans h.tape,k.output.trans h.output,aC h.size k.size,fun i hi gQ=>(k.block i (bi hi h.size) gQ).trans (h.block i hi gQ)⟩
def eD {a b B g}(h:a.grownBy b (some g))(hB:B≤a.heap.size)(hg:B≤g):Below B a b:=⟨h.os,h.tape,h.output,h.size,fun i hi=>h.block i ab (fun e=>ai)⟩
def zg {a w:World}{row}(h:a.grownBy w row)o:a.grownBy (w.alloc o) row:=⟨h.os,h.tape,h.output,aC h.size ae,fun i hi gQ=>(pq w o i (bi hi h.size)).trans (h.block i hi gQ)⟩
def tw {a w:World}{row}(h:a.grownBy w row):a.grownBy w.drew row:=⟨h.os,h.tape,h.output,h.size,h.block⟩
def nc {a w:World}{g}(h:a.grownBy w (some g)){p}(hp:p.block=g∨a.heap.size≤p.block)u:a.grownBy (w.setCell p u) (some g):=⟨h.os,h.tape,h.output,by simpa[World.setCell]using h.size,fun i hi gQ=>(iJ w p u i ai).trans (h.block i hi gQ)⟩
def alU x w:Calls prog 234 #[.int .u32 x,al (-7)] w fun e w'=>e=.returned (.int .u32 (uB 33554432 128 x))∧w=w':=by have hk:bits BinOp.and IntKind.u64 (IntKind.u64.wrap (-7)) 31=25:=ad;exact oA
def aim x w:Calls prog 234 #[.int .u32 x,al (-18)] w fun e w'=>e=.returned (.int .u32 (uB 16384 262144 x))∧w=w':=by have hk:bits BinOp.and IntKind.u64 (IntKind.u64.wrap (-18)) 31=14:=ad;exact oA
def aio x w:Calls prog 234 #[.int .u32 x,al (-17)] w fun e w'=>e=.returned (.int .u32 (uB 32768 131072 x))∧w=w':=by have hk:bits BinOp.and IntKind.u64 (IntKind.u64.wrap (-17)) 31=15:=ad;exact oA
def air x w:Calls prog 234 #[.int .u32 x,al (-19)] w fun e w'=>e=.returned (.int .u32 (uB 8192 524288 x))∧w=w':=by have hk:bits BinOp.and IntKind.u64 (IntKind.u64.wrap (-19)) 31=13:=ad;exact oA
def alV x w:Calls prog 234 #[.int .u32 x,al (-6)] w fun e w'=>e=.returned (.int .u32 (uB 67108864 64 x))∧w=w':=by have hk:bits BinOp.and IntKind.u64 (IntKind.u64.wrap (-6)) 31=26:=ad;exact oA
def aip x w:Calls prog 234 #[.int .u32 x,al (-11)] w fun e w'=>e=.returned (.int .u32 (uB 2097152 2048 x))∧w=w':=by have hk:bits BinOp.and IntKind.u64 (IntKind.u64.wrap (-11)) 31=21:=ad;exact oA
def ais x w:Calls prog 234 #[.int .u32 x,al (-25)] w fun e w'=>e=.returned (.int .u32 (uB 128 33554432 x))∧w=w':=by have hk:bits BinOp.and IntKind.u64 (IntKind.u64.wrap (-25)) 31=7:=ad;exact oA
def alW x w:Calls prog 234 #[.int .u32 x,al (-2)] w fun e w'=>e=.returned (.int .u32 (uB 1073741824 4 x))∧w=w':=by have hk:bits BinOp.and IntKind.u64 (IntKind.u64.wrap (-2)) 31=30:=ad;exact oA
def ain x w:Calls prog 234 #[.int .u32 x,al (-13)] w fun e w'=>e=.returned (.int .u32 (uB 524288 8192 x))∧w=w':=by have hk:bits BinOp.and IntKind.u64 (IntKind.u64.wrap (-13)) 31=19:=ad;exact oA
def aiq x w:Calls prog 234 #[.int .u32 x,al (-22)] w fun e w'=>e=.returned (.int .u32 (uB 1024 4194304 x))∧w=w':=by have hk:bits BinOp.and IntKind.u64 (IntKind.u64.wrap (-22)) 31=10:=ad;exact oA
structure W4 where
  a : Nat
  b : Nat
  c : Nat
  d : Nat
  ok : (a < 18446744073709551616 ∧ b < 18446744073709551616) ∧ (c < 18446744073709551616 ∧ d < 18446744073709551616)
def W4.cs(x:W4):Array Value:=#[.int .u64 x.a,.int .u64 x.b,.int .u64 x.c,.int .u64 x.d]
def oO:W4:=⟨0,0,0,0,ae⟩
def ang a b c d over(ho:over≠0)w:dM 174 #[.agg #[.int .u64 a,.int .u64 b,.int .u64 c,.int .u64 d],.int .u64 over] w (.tuple #[.agg #[.int .u64 0,.int .u64 0,.int .u64 0,.int .u64 0],.bool false]):=by
 have h1:(over !=0)=true:=by simpa using ho
 go_enter func174,ntmps174;go_wp2_with fail;refine bu (bB rfl _ _ (w.heap.size+1) 69 _ _ rfl (aM.jb ae _ _) underlying69 rfl ad) rfl ?_;exact⟨rfl,((aJ _ _).alloc (au _) _).alloc ae _⟩
def ajI a b c d w:dM 174 #[.agg #[.int .u64 a,.int .u64 b,.int .u64 c,.int .u64 d],.int .u64 0] w (.tuple #[.agg #[.int .u64 a,.int .u64 b,.int .u64 c,.int .u64 d],.bool true]):=by go_enter func174,ntmps174;go_wp2_with fail;refine bu (bB rfl _ _ (w.heap.size+1) 69 _ _ rfl (aM.jb ae _ _) underlying69 rfl ad) rfl ?_;exact⟨rfl,((aJ _ _).alloc (au _) _).alloc ae _⟩
def abK(n:Nat)(hn:n≤1000000000)w:Calls prog 253 #[al n] w fun e w'=>e=.returned (al (((n+1)/2:Nat):Int))∧w=w':=by have hq:((n:Int)+1)/2=(((n+1)/2:Nat):Int):=aq;go_enter func253,ntmps253;exact DA
def DS(s:Bz):Bool:=decide (s≠[]∧s.length≤64)
def aaS s w:Calls prog 170 #[str s] w fun e w'=>e=.returned (.bool (DS s))∧∃q,w'=w.drewN q:=by
 by_cases h0:s=[];subst h0;have hb:DS []=false:=aq;rw[hb];go_enter func170,ntmps170;exact xF;have e1:(s==[])=false:=nw;have e2:(s !=[])=true:=nw;by_cases h1:s.length≤64;have hb:DS s=true:=by simp[DS,h0,h1]
 have i1:(s.length:Int)≤64:=ab;rw[hb];go_enter func170,ntmps170;exact xF;have hb:DS s=false:=by simp[DS,h1]
 have i1:¬(s.length:Int)≤64:=ab;rw[hb];go_enter func170,ntmps170;exact xF
def Er(s:Bz):Bool:=decide (s≠[]∧s.length≤200)
def ahf s w:Calls prog 171 #[str s] w fun e w'=>e=.returned (.bool (Er s))∧∃q,w'=w.drewN q:=by
 by_cases h0:s=[];subst h0;have hb:Er []=false:=aq;rw[hb];go_enter func171,ntmps171;exact xF;have e1:(s==[])=false:=nw;have e2:(s !=[])=true:=nw;by_cases h1:s.length≤200;have hb:Er s=true:=by simp[Er,h0,h1]
 have i1:(s.length:Int)≤200:=ab;rw[hb];go_enter func171,ntmps171;exact xF;have hb:Er s=false:=by simp[Er,h1]
 have i1:¬(s.length:Int)≤200:=ab;rw[hb];go_enter func171,ntmps171;exact xF
def afX s(hs:s.length≤1000000)w:Calls prog 320 #[str s] w fun e w'=>e=.returned (str ([101,115,99,114,111,119,47]++s))∧w=w':=by obtain⟨p,hp⟩:=aZ ([101,115,99,114,111,119,47]:Bz);have hq:¬9223372036854775807<7+s.length:=ab;rw[hp];have Hh:=ag hp;clear hp;go_enter func320,ntmps320;go_wp2_with fail;go_ret;refine⟨?_,rfl⟩;rw[←Hh.o];rfl
def afS n w:dM 70 #[.int .u64 n] w (.agg #[.int .u64 n,.int .u64 0,.int .u64 0,.int .u64 0]):=by go_enter func70,ntmps70;go_wp2_with fail;refine bu (mH rfl _ _ w.heap.size 69 _ _ rfl (aM.new _ _ _) underlying69 rfl ad) rfl ?_;exact Tq
def Tryz.ow:(prog.info? 310).map (·.size)=some 4:=ad
def iF {w g t a b c d}(h:aM w g t #[a,b,c,d]):w.cell? (aD g 0)=some a∧w.cell? (aD g 1)=some b∧w.cell? (aD g 2)=some c∧w.cell? (aD g 3)=some d∧w.frozen? (aD g 0)=false∧w.frozen? (aD g 1)=false∧w.frozen? (aD g 2)=false∧w.frozen? (aD g 3)=false:=⟨h.cell 0,h.cell 1,h.cell 2,h.cell 3,h.frozen 0,h.frozen 1,h.frozen 2,h.frozen 3⟩
def arW {w g t a}(h:aM w g t #[a]):w.cell? (aD g 0)=some a∧w.frozen? (aD g 0)=false:=⟨h.cell 0,h.frozen 0⟩
def al6 o p x a b c er w(hr:yB o p=((x,a,b,c),er))(fo:Fits o)(fp:Fits p):dM 308 #[str o,str p] w (.tuple #[.agg #[al x,str a,str b,str c],al er]):=by obtain⟨u,hu⟩:=aZ (dV o&&dV p);have Hu:=ag hu;rw[yB,hu]at hr;clear hu;cases u;simp only[vR,iK,if_false,aY]at hr;obtain⟨⟨rfl,rfl,rfl,rfl⟩,rfl⟩:=hr;go_enter func308,ntmps308;go_wp2_with fail;refine(nk o p _ false _ Hu.o fo fp sf sf ae).mono ?_;rintro e w1⟨rfl,eH⟩;obtain⟨hc,hf⟩:=ad8 eH;have hk:=(aM.new w 310 #[al 0,str [],str [],str []]).alloc (.cells #[str o,str p] 9);have Hk:=ag hk;clear hk;have hz:=eH.size;go_wp2;refine bu (bB rfl _ _ w.heap.size 310 #[al 0,str [],str [],str []] _ rfl ?_ underlying310 rfl Tryz.ow) rfl ⟨rfl,?_⟩;exact SP;have hk:=Hk.o;have hb:=bP (w:=w) se eH;go_grown;simp only[if_true,aY]at hr;obtain⟨⟨rfl,rfl,rfl,rfl⟩,rfl⟩:=hr;go_enter func308,ntmps308;go_wp2_with fail;refine(nk o p _ true _ Hu.o fo fp sf sf ae).mono ?_;rintro e w1⟨rfl,eH⟩;obtain⟨hc,hf⟩:=ad8 eH;have hk:=(aM.new w 310 #[al 0,str [],str [],str []]).alloc (.cells #[str o,str p] 9);have Hk:=ag hk;clear hk;have hz:=eH.size;go_wp2;refine bu (bB rfl _ _ w.heap.size 310 #[al 1,str o,str p,str []] _ rfl ?_ underlying310 rfl Tryz.ow) rfl ⟨rfl,?_⟩;exact SP;have hk:=Hk.o;have hb:=bP (w:=w) se eH;go_grown
def aoI o p st a b c x ra rb rc er w(hr:EP o p (st,a,b,c)=((x,ra,rb,rc),er))(fo:Fits o)(fp:Fits p)(fa:Fits a)(fb:Fits b)(fc:Fits c):Calls prog 310 #[str o,str p,.agg #[.int .i64 st,str a,str b,str c]] w fun e w'=>e=.returned (.tuple #[.agg #[.int .i64 x,str ra,str rb,str rc],.int .i64 er])∧Below w.heap.size w w':=by
 obtain⟨u,hu⟩:=aZ (dV o&&dV p);have Hu:=ag hu;rw[EP,hu]at hr;clear hu;obtain⟨v,hv⟩:=aZ (isE (st,a,b,c) 1);have Hv:=ag hv;rw[hv]at hr;clear hv;cases u
 ·simp only[vR,if_true,aY]at hr;obtain⟨⟨rfl,rfl,rfl,rfl⟩,rfl⟩:=hr;go_enter func310,ntmps310;go_wp2_with fail;refine(nk o p _ false _ Hu.out fo fp (by simp[go_sem]) (by simp[go_sem]) (by simp)).mono ?_;rintro e w1⟨rfl,eH⟩;have qF:=aM.step (((aM.new w _ _).alloc _).alloc _) eH;have kZ:=aM.step ((aM.jb (n:=w.heap.size+1) (by simp) _ _).alloc _) eH;obtain⟨c00,c01,c02,c03,f00,f01,f02,f03⟩:=iF qF;obtain⟨c10,c11,c12,c13,f10,f11,f12,f13⟩:=iF kZ;have Cw:=ag kZ;clear qF kZ;go_wp2;refine bu (bB rfl _ _ (w.heap.size+1) 310 #[.int .i64 0,str [],str [],str []] _ rfl ?_ underlying310 rfl Tryz.ow) rfl ⟨rfl,?_⟩;·exact((((Cw.out.dq 0 _).dq 1 _).dq 2 _).dq 3 _)
  have hb:=bP (w:=w) (by go_grown) eH;go_grown
 ·cases v
  ·simp only[vR,mE,nO,if_true,if_false,aY]at hr;obtain⟨⟨rfl,rfl,rfl,rfl⟩,rfl⟩:=hr;go_enter func310,ntmps310;go_wp2_with fail;refine(nk o p _ true _ Hu.out fo fp (by simp[go_sem]) (by simp[go_sem]) (by simp)).mono ?_;rintro e w1⟨rfl,eH⟩;have qF:=aM.step (((aM.new w _ _).alloc _).alloc _) eH;have kZ:=aM.step ((aM.jb (n:=w.heap.size+1) (by simp) _ _).alloc _) eH;obtain⟨c00,c01,c02,c03,f00,f01,f02,f03⟩:=iF qF;have Cw:=ag kZ;clear qF kZ;go_wp2_with fail;refine(yZ st a b c 1 false _ Hv.out fa fb fc).mono ?_;rintro e w2⟨rfl,ft⟩;have kZ:=aM.step Cw.out ft;obtain⟨c10,c11,c12,c13,f10,f11,f12,f13⟩:=iF kZ;have Cw:=ag kZ;clear kZ c00 c01 c02 c03 f00 f01 f02 f03;go_wp2;refine bu (bB rfl _ _ (w.heap.size+1) 310 #[.int .i64 0,str [],str [],str []] _ rfl ?_ underlying310 rfl Tryz.ow) rfl ⟨rfl,?_⟩;·exact((((Cw.out.dq 0 _).dq 1 _).dq 2 _).dq 3 _)
   have hb:=bP (w:=w) (bP (w:=w) (by go_grown) eH) ft;go_grown
  ·by_cases hbo:b=o
   ·subst hbo;simp only[lF,decide_true,nO,if_false,aY]at hr;obtain⟨⟨rfl,rfl,rfl,rfl⟩,rfl⟩:=hr;go_enter func310,ntmps310;go_wp2_with fail;refine(nk b p _ true _ Hu.out fb fp (by simp[go_sem]) (by simp[go_sem]) (by simp)).mono ?_;rintro e w1⟨rfl,eH⟩;have qF:=aM.step (((aM.new w _ _).alloc _).alloc _) eH;have kZ:=aM.step ((aM.jb (n:=w.heap.size+1) (by simp) _ _).alloc _) eH;obtain⟨c00,c01,c02,c03,f00,f01,f02,f03⟩:=iF qF;have LF:=ag qF;have Cw:=ag kZ;clear qF kZ;go_wp2_with fail;refine(yZ st a b c 1 true _ Hv.out fa fb fc).mono ?_;rintro e w2⟨rfl,ft⟩;have qF:=aM.step LF.out ft;have kZ:=aM.step Cw.out ft;clear c00 c01 c02 c03 f00 f01 f02 f03;obtain⟨c00,c01,c02,c03,f00,f01,f02,f03⟩:=iF qF;obtain⟨c10,c11,c12,c13,f10,f11,f12,f13⟩:=iF kZ;have Cw:=ag kZ;clear qF kZ LF;go_wp2;refine bu (bB rfl _ _ (w.heap.size+1) 310 #[.int .i64 2,str b,str a,str p] _ rfl ?_ underlying310 rfl Tryz.ow) rfl ⟨rfl,?_⟩;·exact((((Cw.out.dq 0 _).dq 1 _).dq 2 _).dq 3 _)
    have hb:=bP (w:=w) (bP (w:=w) (by go_grown) eH) ft;go_grown
   ·have ayo:(b==o)=false:=by simpa using hbo
    simp only[hbo,decide_false,Bool.and_false,nO,if_true,if_false,vR,aY]at hr;clear hbo;obtain⟨⟨rfl,rfl,rfl,rfl⟩,rfl⟩:=hr;go_enter func310,ntmps310;go_wp2_with fail;refine(nk o p _ true _ Hu.out fo fp (by simp[go_sem]) (by simp[go_sem]) (by simp)).mono ?_;rintro e w1⟨rfl,eH⟩;have qF:=aM.step (((aM.new w _ _).alloc _).alloc _) eH;have kZ:=aM.step ((aM.jb (n:=w.heap.size+1) (by simp) _ _).alloc _) eH;obtain⟨c00,c01,c02,c03,f00,f01,f02,f03⟩:=iF qF;have LF:=ag qF;have Cw:=ag kZ;clear qF kZ;go_wp2_with fail;refine(yZ st a b c 1 true _ Hv.out fa fb fc).mono ?_;rintro e w2⟨rfl,ft⟩;have qF:=aM.step LF.out ft;have kZ:=aM.step Cw.out ft;clear c00 c01 c02 c03 f00 f01 f02 f03;obtain⟨c00,c01,c02,c03,f00,f01,f02,f03⟩:=iF qF;obtain⟨c10,c11,c12,c13,f10,f11,f12,f13⟩:=iF kZ;have Cw:=ag kZ;clear qF kZ LF;go_wp2;refine bu (bB rfl _ _ (w.heap.size+1) 310 #[.int .i64 0,str [],str [],str []] _ rfl ?_ underlying310 rfl Tryz.ow) rfl ⟨rfl,?_⟩;·exact((((Cw.out.dq 0 _).dq 1 _).dq 2 _).dq 3 _)
    have hb:=bP (w:=w) (bP (w:=w) (by go_grown) eH) ft;go_grown
end Go.Proofs.YtlddafbgfkocjaaGreatDoor
