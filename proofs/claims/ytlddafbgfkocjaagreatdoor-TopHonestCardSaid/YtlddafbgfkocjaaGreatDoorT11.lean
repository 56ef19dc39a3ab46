/- A part of TopHonest. -/
import Derived.Deep.WholeRow
import Derived.Lib.BufferWrite
import Derived.Test.YtlddafbgfkocjaaGreatDoorT03
namespace Go.Proofs.YtlddafbgfkocjaaGreatDoor
open Go.RowKit Go.Proofs.Tryz
set_option linter.all false
set_option maxRecDepth 1000000
set_option maxHeartbeats 400000000
def z64:Bz:=List.replicate 64 0
def ae9:z64.length=64:=jJ
def Bi(w:World)(h:Nat)(T:bR)(m:Bz):Prop:=∃b,nf w h (lL T m (m.length/64)) b (m.length:Int)∧b.take (m.length%64)=m.drop (64*(m.length/64))
def Bi.step {w w' h T m}(H:Bi w h T m)(hb:Below w.heap.size w w'):Bi w' h T m:=by obtain⟨b,h1,h2⟩:=H;exact⟨b,h1.step hb,h2⟩
def Bi.lt {w h T m}(H:Bi w h T m):h<w.heap.size:=by obtain⟨b,h1,h2⟩:=H;exact h1.2.lt
def FV w T(HT:be T w):Calls prog 146 #[] w fun e w'=>e=.returned (aG w.heap.size)∧Bi w' w.heap.size T []∧Below w.heap.size w w':=by have x0:w.cell? (aD 0 0)=some (.int .u32 T.bg.a):=HT.2.2 0 ab;have x1:w.cell? (aD 0 1)=some (.int .u32 T.bg.b):=HT.2.2 1 ab;have x2:w.cell? (aD 0 2)=some (.int .u32 T.bg.c):=HT.2.2 2 ab;have x3:w.cell? (aD 0 3)=some (.int .u32 T.bg.d):=HT.2.2 3 ab;have x4:w.cell? (aD 0 4)=some (.int .u32 T.bg.e):=HT.2.2 4 ab;have x5:w.cell? (aD 0 5)=some (.int .u32 T.bg.f):=HT.2.2 5 ab;have x6:w.cell? (aD 0 6)=some (.int .u32 T.bg.g):=HT.2.2 6 ab;have x7:w.cell? (aD 0 7)=some (.int .u32 T.bg.h):=HT.2.2 7 ab;clear HT;go_enter func146,ntmps146;go_wp2_with fail;go_ret;refine⟨rfl,⟨z64,⟨ae9,?_⟩,rfl⟩,(aJ _ _).alloc (au _) _⟩;exact aM.new w 287 (AY T.bg z64 0).toArray
def vT {P}w dT sT ty elem g o tF aqW l cur t(hu:P.underlying dT=some (.slice elem))(hs:(P.info? elem).map (·.size)=some 1)(hg:w.heap[g]?=some (.cells cur t (0,0)))(hd:o+tF≤cur.size):(Builtin.copy_ #[dT,sT] ty #[.slice (some (aD g o)) tF aqW,str l]).run P w=.ok (goInt ((Nat.min l.length tF:Nat):Int)) (w.setRow g (cur.toList.take o++Lib.byteCells (l.take tF)++cur.toList.drop (o+Nat.min l.length tF)).toArray):=by have hlen:(Lib.byteCells (l.take tF)).length=Nat.min l.length tF:=SK;have iq:=oL P g o t (Lib.byteCells (l.take tF)) 0 cur w hg (by rw[hlen];have:Nat.min l.length tF≤tF:=na _ _;omega) (Lib.byteCells_one _);have Bt:List.take (Nat.min l.length tF) (List.map (fun b:UInt8=>.int .u8 (b.toNat:Int)) l)=Lib.byteCells (l.take tF):=SJ;rw[hlen]at iq;simp only[im]at iq;exact SN
def Zo {P ops o a w Q rest}(hg:o.guard=none)d x dT sT(QH:o.op=Op.call {callee:=Callee.builtin Builtin.copy,args:=#[d,x],argTypes:=#[dT,sT]}){dv xv r w'}(hd:a.eval d=dv)(hx:a.eval x=xv)(lu:(Builtin.copy_ #[dT,sT] o.type #[dv,xv]).run P w=.ok r w')(hK:wpList P ops Q rest (a.put o.dst r) w'):wpList P ops Q (o::rest) a w:=SM
def jk(w:World)g cs:w.grownBy (w.setRow g cs) (some g):=⟨rfl,rfl,rfl,ae,fun i hi gQ=>setRow_other w g i cs Dl⟩
def CO(b s:Bz)(at_:Nat):Bz:=b.take at_++s.take (64-at_)++b.drop (at_+Nat.min s.length (64-at_))
def acs {b s at_}(hb:b.length=64)(ha:at_<64):(CO b s at_).length=64:=by unfold CO;have:=na s.length (64-at_);simp only[aw,bo,bV,hb];have h2:Nat.min s.length (64-at_)=min (64-at_) s.length:=Nat.min_comm _ _;omega
def alY {x b s n at_}(hb:b.length=64)(ha:at_<64):((AY x b n).toArray.toList.take (8+at_)++Lib.byteCells (s.take (64-at_))++(AY x b n).toArray.toList.drop (8+at_+Nat.min s.length (64-at_)))=AY x (CO b s at_) n:=by
 have h8:(nF x.l).length=8:=xz;have Va:(eY b).length=64:=by simp[eY,hb]
 have hk:Nat.min s.length (64-at_)≤64-at_:=na _ _;show List.take (8+at_) (AY x b n)++_++List.drop _ (AY x b n)=_;unfold AY CO;rw[pw,tK,h8,aL ab,df (l:=nF x.l) ab,bJ,show 8+at_-8=at_ from ab,show 8+at_+Nat.min s.length (64-at_)-8=at_+Nat.min s.length (64-at_)from ab,iT ab,iU ab];simp only[eY,Lib.byteCells,cR,xS,List.map_drop,bz]
def nf.copy {w h x b s n at_}(H:nf w h x b n)(ha:at_<64):nf (w.setRow h (AY x (CO b s at_) n).toArray) h x (CO b s at_) n:=⟨acs H.1 ha,ff w h _ _ _ _ H.2⟩
def nf.ako {w h x b n}(H:nf w h x b n)k:nf (w.setCell (aD h 72) (al k)) h x b k:=by
 refine⟨H.1,?_⟩;have:=H.2.dq 72 (al k);rw[cZ]at this;have h2:(AY x b n).set 72 (al k)=AY x b k:=by unfold AY;rw[gP _ _ xz,gP _ _ xA];exact xA
 rw[h2]at this;exact this
def alX w(h o l:Nat)(h3:l<64):(Instr.sliceAt 227 (.pointer (some (aD h o))) (some (al l)) none none).run prog w=.ok (.slice (some (aD h (o+l))) (64-l) (64-l)) w:=by have ht:prog.underlying 227=some (.array (prog.arrayLen 227) (prog.elem 227)):=ad;have hl:prog.arrayLen 227=64:=ad;have hs:∀w,(sizeOf (prog.elem 227)).run prog w=.ok 1 w:=fun w=>ad;rw[run_sliceAt_array_l w _ _ ht .i64 l ab Dr,hs,hl];simp only[Result.andThen,slicedAt,fG];rw[if_neg ab,pu,Addr.add_mid]
def aoE {T m b s}(hb:b.length=64)(hm:b.take (m.length%64)=m.drop (64*(m.length/64)))(hk:64≤m.length%64+s.length):lL T (m++s.take (64-m.length%64)) ((m++s.take (64-m.length%64)).length/64)=Ia T.ks (lL T m (m.length/64)) (CO b s (m.length%64))∧(m++s.take (64-m.length%64)).length%64=0:=by
 have hl:(m++s.take (64-m.length%64)).length=64*(m.length/64+1):=by rw[aw,bo];omega
 refine⟨?_,ab⟩;rw[hl,Nat.mul_div_cancel_left _ ab];simp only[lL];rw[As T m _ _ ab];congr 1;have aiv:Nat.min s.length (64-m.length%64)=64-m.length%64:=tM ab;unfold CO;rw[aiv,hm,df (l:=b) ab,cq,iU ab,aL];rw[aw,bV,bo];omega
def aoF {T m b s}(hb:b.length=64)(hm:b.take (m.length%64)=m.drop (64*(m.length/64)))(hk:m.length%64+s.length<64):lL T (m++s) ((m++s).length/64)=lL T m (m.length/64)∧(CO b s (m.length%64)).take ((m++s).length%64)=(m++s).drop (64*((m++s).length/64)):=by have hl:(m++s).length=m.length+s.length:=aw;have hq:(m++s).length/64=m.length/64:=Dr;have hr:(m++s).length%64=m.length%64+s.length:=Dr;rw[hq,hr];refine⟨As T m _ _ ab,?_⟩;have aiv:Nat.min s.length (64-m.length%64)=s.length:=fS ab;unfold CO;rw[aiv,aL (l:=s) ab,iU ab,←hm,iT (by rw[aw,bo];omega),aL];rw[aw,bo];omega
def ww(h:Nat):Prop:=1<h∧0<h
def be.grown {T w w' h}(H:be T w)(hp:ww h)(hg:w.grownBy w' (some h)):be T w':=by have eo:=H.lt;refine H.below (B:=min w.heap.size h) ⟨by have:=hp.1;omega,by have:=hp.2;omega⟩ ⟨hg.os,hg.tape,hg.output,by have:=hg.size;omega,fun i hi=>hg.block i ab Ai⟩
theorem xW w h T m s(H:Bi w h T m)(HT:be T w)(hp:ww h)(hl:m.length+s.length≤1099511627776):Calls prog 147 #[aG h,str s] w fun e w'=>e=.returned (.tuple #[])∧Bi w' h T (m++s)∧w.grownBy w' (some h):=by
 have HH:=ag H;have HTT:=ag HT;have HP:=ag hp;have c73:w.cell? (aD h 73)=some (.bool true):=by obtain⟨b,h1,h2⟩:=H;exact h1.made
 clear H HT hp;go_enter func147,ntmps147;go_wp2_with fail;clear c73;go_loopw [1](fun sv wr=>∃(d r:Bz),s=d++r∧sv=str r∧Bi wr h T (m++d)∧w.grownBy wr (some h))(fun sv _=>match sv with|.string b=>b.size|_=>0);case atStart=>exact⟨[],s,rfl,rfl,by rw[cq];exact HH.o,pR (aJ _ _) _⟩
 case round=>
  obtain⟨d,r,hs,rfl,qK,hg⟩:=hrel;by_cases qY:r=[];·subst qY;rw[cq]at hs;subst hs;go_wp2_with fail;go_end0;exact⟨rfl,qK,hg⟩
  ·have hl0:0<r.length:=ea.2 qY;have hls:s.length=d.length+r.length:=by rw[hs,aw]
   have HS:=ag hs;obtain⟨M,hM⟩:=aZ (m++d);have hMl:M.length=m.length+d.length:=by rw[←hM,aw]
   rw[hM]at qK;have HM:=ag hM;obtain⟨b,hb,hbm⟩:=qK;obtain⟨x,hx⟩:=aZ (lL T M (M.length/64));rw[hx]at hb;have HX:=ag hx;obtain⟨at_,qK⟩:=aZ (M.length%64);have aaG:at_<64:=ab;have HA:=ag qK;obtain⟨L,hL⟩:=aZ M.length;have LB:L+r.length≤1099511627776:=ab;have hq:((L:Int)%64)=(at_:Int):=ab;rw[hL]at hb;have HLL:=ag hL;have e2:(r==[])=false:=Ds;have e3:(r !=[])=true:=Ds;have cN:=hb.len;have EZ:=alX wr h 8 at_ aaG;have ID:=fun ty=>vT (P:=prog) wr 137 9 ty 5 h (8+at_) (64-at_) (64-at_) r (AY x b (L:Int)).toArray 287 underlying137 ad hb.2 (by simp[AY,nF,eY,Y8.l,hb.1];omega);rw[alY hb.1 aaG]at ID;have kZ:Nat.min r.length (64-at_)≤r.length:=Nat.min_le_left _ _;have lQ:Nat.min r.length (64-at_)≤64-at_:=na _ _;have tD:Nat.min r.length (64-at_)=min r.length (64-at_):=rfl;obtain⟨k,hk⟩:=aZ (Nat.min r.length (64-at_));rw[hk]at ID kZ lQ tD;have qF:0<k:=ab;have HCP:=ag ID;have HK:=ag hk;have HK3:=ag tD;have HB:=ag hb;have HBM:=ag hbm;have HG:=ag hg;clear ID hk tD hb hbm hg hx qK hL hM hs qY;have pE:=ag (HB.o.copy (s:=r) aaG);have HG2:=ag (jq HG.o (jk wr h (AY x (CO b r at_) (L:Int)).toArray));have OT:List.take (r.length-k) (List.drop k r)=r.drop k:=aL Jz;have HR:=ag OT;clear OT;by_cases hf:64≤at_+r.length
   ·have WQ:k=64-at_:=by have:=HK3.o;omega
    have e64:((at_:Int)+k==64)=true:=aR;have HK4:=ag WQ;clear WQ;go_wp2_with(refine Zo rfl _ _ _ _ rfl rfl rfl (HCP.o _) ?_;generalize wr.setRow h (AY x (CO b r at_) (L:Int)).toArray=w2 at pE HG2⊢;have cN2:=pE.o.len;have fN2:=pE.o.2.frozen 72;clear cN EZ);have yV:=ag (pE.o.ako ((L:Int)+k));have Vc:=ag (nc HG2.o (p:=(aD h 72)) (.inl rfl) (al ((L:Int)+k)));have HT3:=ag (HTT.o.grown HP.o Vc.o);generalize w2.setCell (aD h 72) (al ((L:Int)+k))=w3 at yV Vc HT3⊢;refine(aiu w3 h x (CO b r at_) ((L:Int)+k) T yV.o HT3.o).mono ?_;rintro e w4⟨rfl,pF,UX⟩;have Ff:=ag pF;have HG4:=ag (jq Vc.o UX);clear pF UX e64 cN2 fN2;go_wp2_with fail;obtain⟨p1,p2⟩:=aoE (T:=T) (m:=M) (b:=b) (s:=r) HB.o.1 HBM.o (by rw[HA.o];exact hf);rw[HA.o,HX.o]at p1;rw[HA.o]at p2;refine⟨⟨d++r.take k,r.drop k,by rw[HS.o,bz,jI],by rw[HR.o],?_,HG4.o⟩,?_⟩
    ·rw[←bz,HM.o,HK4.o];refine⟨CO b r at_,?_,?_⟩
     ·rw[p1];have WQ:=HK4.o;have hln:((M++r.take (64-at_)).length:Int)=(L:Int)+k:=by rw[aw,bo,HLL.o,HK4.o];omega
      rw[hln];exact Ff.o
     ·rw[p2,mD,df ab]
    ·exact SL
   ·have WQ:k=r.length:=by have:=HK3.o;omega
    have e64:((at_:Int)+k==64)=false:=aR;have HK4:=ag WQ;clear WQ;go_wp2_with(refine Zo rfl _ _ _ _ rfl rfl rfl (HCP.o _) ?_;generalize wr.setRow h (AY x (CO b r at_) (L:Int)).toArray=w2 at pE HG2⊢;have cN2:=pE.o.len;have fN2:=pE.o.2.frozen 72;clear cN EZ);obtain⟨p1,p2⟩:=aoF (T:=T) (m:=M) (b:=b) (s:=r) HB.o.1 HBM.o (by rw[HA.o];omega);rw[HX.o]at p1;rw[HA.o]at p2;refine⟨⟨d++r,[],by rw[cq];exact HS.o,by rw[HR.o,HK4.o,List.drop_length],?_,nc HG2.o (p:=(aD h 72)) (.inl rfl) _⟩,?_⟩
    ·rw[←bz,HM.o];refine⟨CO b r at_,?_,p2⟩;rw[p1];have hln:((M++r).length:Int)=(L:Int)+k:=by rw[aw,HLL.o,HK4.o];omega
     rw[hln];exact pE.o.ako ((L:Int)+k)
    ·exact SL
def agE w h:(Instr.sliceAt 43 (aG h) none none none).run prog w=.ok (.slice (some (aD h 0)) 32 32) w:=by have ht:prog.underlying 43=some (.array (prog.arrayLen 43) (prog.elem 43)):=ad;have hl:prog.arrayLen 43=32:=ad;have hs:∀w,(sizeOf (prog.elem 43)).run prog w=.ok 1 w:=fun w=>ad;rw[run_sliceAt_array_all w _ _ ht,hs,hl];rfl
def akp {w g t L}(h:aM w g t (eY L).toArray):(convert 137 9 (.slice (some (aD g 0)) L.length L.length)).run prog w=.ok (str L) w:=fZ (P:=prog) w 137 9 5 (aD g 0) L.length L underlying137 underlying5 underlying9 SO
def Lk w L(hl:L.length=32):dM 95 #[.agg (eY L).toArray] w (str L):=by
 obtain⟨cs,iO⟩:=aZ ((eY L).toArray);rw[iO];have hb:=aM.new w 43 cs;have ad7:=(aJ w.heap.size w).alloc (au _) (.cells cs 43);have EZ:=agE (w.alloc (.cells cs 43)) w.heap.size;have hcv:=fun W(h:aM W w.heap.size 43 (eY L).toArray)=>akp h;rw[iO,hl]at hcv;have ayn:=hcv _ hb;have nR:cs.size=32:=by rw[←iO];simp[eY,hl]
 clear iO hcv;go_enter func95,ntmps95;go_wp2_with fail;go_ret;exact⟨rfl,ad7⟩
def Eg(s:Bz):Bz:=if s.length=32 then s else List.replicate 32 0
def Zs s:(Eg s).length=32:=by unfold Eg;split<;>simp_all
def FE L:(eY L).toArray.all (·.oneCell')=true:=by rw[py,kX];exact JF
def Zt w s(atQ:s.length≤9223372036854775807):dM 212 #[str s] w (.tuple #[.agg (eY (Eg s)).toArray,al (if s.length=32 then 0 else 10)]):=by
 obtain⟨zc,hz⟩:∃zc:Array Value,(#[.int .u8 0,.int .u8 0,.int .u8 0,.int .u8 0,.int .u8 0,.int .u8 0,.int .u8 0,.int .u8 0,.int .u8 0,.int .u8 0,.int .u8 0,.int .u8 0,.int .u8 0,.int .u8 0,.int .u8 0,.int .u8 0,.int .u8 0,.int .u8 0,.int .u8 0,.int .u8 0,.int .u8 0,.int .u8 0,.int .u8 0,.int .u8 0,.int .u8 0,.int .u8 0,.int .u8 0,.int .u8 0,.int .u8 0,.int .u8 0,.int .u8 0,.int .u8 0]:Array Value)=zc:=⟨_,rfl⟩;have hzu:zc=(eY (List.replicate 32 0)).toArray:=by rw[←hz];exact ad
 have Rn:zc.size=32:=by rw[←hz];rfl
 have yU:zc.all (·.oneCell')=true:=by rw[hzu];exact FE _
 have HZU:=ag hzu;have WW:=ag Rn;have HZ1:=ag yU;have hA:=aM.new w 43 zc;have hbA:=(aJ w.heap.size w).alloc (au _) (.cells zc 43);have hB:=aM.jb (w:=w.alloc (.cells zc 43)) (n:=w.heap.size+1) ae 43 zc;have hAB:=ag (hA.alloc (.cells zc 43));have HB:=ag hB;have ans:=ag (hbA.alloc hbA.size (.cells zc 43));clear hzu Rn yU hA hB hbA;have gQ:(w.heap.size+1)≠w.heap.size:=ab;by_cases hl:s.length=32;have h1:((s.length:Int)!=32)=false:=aR;have hfs:(eY (Eg s)).toArray=(eY s).toArray:=by unfold Eg;rw[if_pos hl]
 have nR:(eY s).toArray.size=32:=by simp[eY,hl]
 have ID:=fun ty=>vT (P:=prog) _ 137 9 ty 5 (w.heap.size+1) 0 32 32 s zc 43 underlying137 ad HB.o JG;have pJ:(zc.toList.take 0++Lib.byteCells (s.take 32)++zc.toList.drop (0+Nat.min s.length 32)).toArray=(eY s).toArray:=by rw[hl,mD,bJ,aL ab,df (by rw[gJ,WW.o];exact au _),cq];rfl
 rw[pJ]at ID;obtain⟨cs,iO⟩:=aZ ((eY s).toArray);have xX:=FE s;rw[iO]at ID nR xX;have HC:=ag (show aM (((w.alloc (.cells zc 43)).alloc (.cells zc 43)).setRow (w.heap.size+1) cs) (w.heap.size+1) 43 cs from ff _ _ _ _ _ _ HB.o);have Zr:=ag (hAB.o.grown (jk ((w.alloc (.cells zc 43)).alloc (.cells zc 43)) (w.heap.size+1) cs) Ai);have HCB:=ag (ans.o.trans (eD (jk ((w.alloc (.cells zc 43)).alloc (.cells zc 43)) (w.heap.size+1) cs) ans.o.size ab));have HCP:=ag ID;have wF:=ag iO;have HFS:=ag hfs;clear ID pJ iO hfs;have EZ:=agE ((w.alloc (.cells zc 43)).alloc (.cells zc 43)) (w.heap.size+1);go_enter func212,ntmps212;go_wp2_with(first|(refine Ah ?_;generalize((w.alloc (.cells zc 43)).alloc (.cells zc 43)).setRow (w.heap.size+1) cs=w2 at HC Zr HCB⊢)|(refine lO rfl 43 _ rfl (w.heap.size+1) rfl 43 cs (0,0) _ HC.o underlying43 rfl (by rw[nR];exact ad) ?_)|(refine iH rfl 43 _ _ rfl w.heap.size cs rfl rfl 43 _ Zr.o (by rw[nR];exact ad) JH xX ?_));refine bu (bB rfl _ _ w.heap.size 43 cs _ rfl (ff _ _ _ _ _ _ Zr.o) underlying43 rfl (by rw[nR];exact ad)) rfl ?_;refine⟨?_,HCB.o.trans (eD (jk _ w.heap.size cs) HCB.o.size (au _))⟩;rw[HFS.o,wF.o];rfl;have h1:((s.length:Int)!=32)=true:=aR;have hfs:(eY (Eg s)).toArray=zc:=by rw[HZU.o];unfold Eg;rw[if_neg hl]
 have HFS:=ag hfs;clear hfs;go_enter func212,ntmps212;go_wp2_with(refine iH rfl 43 _ _ rfl w.heap.size zc rfl rfl 43 _ hAB.o (by rw[WW.o];exact ad) rfl HZ1.o ?_);refine bu (bB rfl _ _ w.heap.size 43 zc _ rfl (ff _ _ _ _ _ _ hAB.o) underlying43 rfl (by rw[WW.o];exact ad)) rfl ?_;refine⟨?_,ans.o.trans (eD (jk _ w.heap.size zc) ans.o.size (au _))⟩;rw[HFS.o];rfl
end Go.Proofs.YtlddafbgfkocjaaGreatDoor
