/- A part of TopHonest. -/
import Derived.Lib.BufferRead
import Derived.Test.YtlddafbgfkocjaaGreatDoorT01
namespace Go.Proofs.YtlddafbgfkocjaaGreatDoor
open Go.RowKit Go.Proofs.Tryz
set_option linter.all false
set_option maxRecDepth 1000000
set_option maxHeartbeats 400000000
def Tryz.asB:(prog.info? 5).map (fun i=>(i.zero,i.size,i.bytes))=some (some (.int .u8 0),1,1):=ad
def tG:Nat→Nat→Bz|0,_=>[]|k+1,n=>if n=0 then[]else tG k (n/256)++[UInt8.ofNat (n%256)]
def lw(n:Nat):Bz:=tG 8 n
theorem wU k:tG k 0=[]:=by cases k<;>simp[tG]
theorem aar:∀(k j n),n<256^k→k≤j→tG j n=tG k n:=by intro k;induction k with|zero=>simp[wU]|succ k ih=>intro j n h hj;obtain⟨j,rfl⟩:∃i,j=i+1:=⟨j-1,ab⟩;unfold tG;grind
def GQ n(h:n<256^8):lw n=if n=0 then[]else lw (n/256)++[UInt8.ofNat (n%256)]:=by grind[tG,aar,lw]
theorem abp n(h:n<256^8):lw n=[]↔n=0:=by simp_all[GQ]
def aas:∀(k n),(tG k n).length≤k:=by intro k;induction k with|zero=>simp[tG]|succ k ih=>grind[tG]
theorem uN n:(lw n).length≤8:=aas 8 n
def Eh {P w src dst e base v n l}(hs:P.underlying src=some (.slice e))(he:P.underlying e=some (.int .u8))(hd:P.underlying dst=some .string)(eZ:w.ownsRow base e 1 v n (Lib.byteCells l)):(convert src dst v).run P w=.ok (.string ⟨l.toArray⟩) w:=by
 have hl:l.length=n:=by have:=eZ.1;simpa[Lib.byteCells]using this
 rcases eZ.2 with⟨rfl,h0⟩|⟨g,cap,cur,rfl,hb,hg,hn,hc,iO,Bt⟩;all_goals grind[Lib.run_convert_nil_bytes,run_convert_bytes_back,Lib.bytes_of_row]
def am3(n j:Nat)(hn:n<256^8)(h:n/256^j≠0):lw (n/256^j)=lw (n/256^(j+1))++[UInt8.ofNat (n/256^j%256)]:=by have:n/256^j≤n:=Nat.div_le_self _ _;rw[GQ _ ab,if_neg h,lz,←nX]
theorem XM n j(h:n/256^j=0):lw (n/256^j)=[]∧lw (n/256^(j+1))=[]:=by
 have:n/256^(j+1)=0:=by rw[nX,←lz,h]
 grind[wU,lw]
theorem Qy(n j:Nat):((n:Int)/2^(8*j)%256)=((n/256^j%256:Nat):Int):=by simp[Int.pow_mul]
def Fq(n j:Nat):(n:Int)/2^(8*j)%256=(((UInt8.ofNat (n/256^j%256)).toNat:Nat):Int):=by simp[Qy]
def OD {w1:World}{B v' n j}(hn:n<256^8)(h:n/256^j≠0)(eZ:w1.ownsRow B 5 1 v' ((lw (n/256^(j+1))).length+1) (Lib.byteCells (lw (n/256^(j+1)))++[.int .u8 ((n:Int)/2^(8*j)%256)])):w1.ownsRow B 5 1 v' (lw (n/256^j)).length (Lib.byteCells (lw (n/256^j))):=by rw[Fq]at eZ;rw[am3 n j hn h];simpa only[Lib.byteCells,cR,ji,qG,aw,bG,dL,cK]using eZ
def OE {n j:Nat}(hn:n<256^8)(hz:(n:Int)/2^(8*j)%256=0)(hd:(lw (n/256^(j+1))).length=0):lw (n/256^j)=[]∧lw (n/256^(j+1))=[]:=by have h1:n/256^(j+1)=0:=(abp _ (Nat.lt_of_le_of_lt (Nat.div_le_self _ _) hn)).1 (cn hd);rw[Qy]at hz;rw[nX,←lz]at h1;grind[XM]
def afZ {n j:Nat}(hz:¬(n:Int)/2^(8*j)%256=0):n/256^j≠0:=by grind[Qy]
def adn {n j}(hd:0<(lw (n/256^(j+1))).length):n/256^j≠0:=by grind[XM]
def afY(n:Nat)w(hn:n<256^8):Calls prog 203 #[.int .u64 n] w fun e w'=>e=.returned (str (lw n))∧Below w.heap.size w w':=by
 obtain⟨i0,hi,UN,yU,yk⟩:=el Tryz.asB;have Hn:=ag hn;clear hn;go_enter func203,ntmps203;go_wp2;go_loopw [3,4](fun b s wr=>∃k:Nat,k≤8∧s=.int .i64 (8*(k:Int)-8)∧wr.ownsRow w.heap.size 5 1 b (lw (n/256^k)).length (Lib.byteCells (lw (n/256^k)))∧Below w.heap.size w wr)(fun _ s _=>(intOf s+8).toNat);case atStart=>exact⟨8,au _,rfl,by rw[show n/256^8=0 from Nat.div_eq_of_lt Hn.out];exact dy _ _ _ _,aJ _ _⟩
 case round=>
  obtain⟨k,hk,rfl,eZ,ni⟩:=hrel;rcases dZ k with h0|h0;·subst h0;rw[Nat.pow_zero,Nat.div_one]at eZ;have kc:=Eh (P:=prog) (w:=wr) (v:=u3) (src:=137) (dst:=9) underlying137 underlying5 underlying9 eZ;go_wp2;go_ret;exact⟨rfl,ni⟩
  ·obtain⟨j,rfl⟩:∃j,k=j+1:=⟨k-1,ab⟩;have TS:=ag eZ;have nR:=ni.size;have hlen:=uN (n/256^(j+1));have e8:(8*((j+1:Nat):Int)-8)=8*(j:Int):=ab;by_cases hz:(n:Int)/2^(8*j)%256=0
   ·rcases eZ.2 with⟨rfl,hd⟩|⟨g,cap,cur,rfl,Vf,hg2,hg3,UX,hg5,UP⟩
    ·have Hd:=ag hd;clear eZ hd hlen;rw[e8];clear e8;go_wp2;go_roundw;case rel=>have hk:=OE Hn.out hz Hd.out;have ho:=TS.out;rw[hk.2]at ho;exact⟨j,ab,rfl,by rw[hk.1];omega,ni⟩
     case measure=>exact bC
    ·by_cases qZ:0<(lw (n/256^(j+1))).length
     ·clear eZ;rw[e8];clear e8;go_wp2_with(at_builtin;refine sJ _ rfl _ _ 137 rfl w.heap.size 5 i0 (.int .u8 0) 1 1 underlying137 hi UN yU yk rfl ae _ _ _ rfl (TS.out.alloc _) ⟨wr.heap.size,0,none⟩ 1 1 [.int .u8 0] rfl rfl (uD _ _ _) xm gz ab aR ?_;intro v' w1 Ii pS _);go_roundw;case rel=>exact⟨j,ab,rfl,OD Hn.out (adn qZ) (by rw[hz];omega),(ni.alloc nR _).grown pS aR (fun k hk=>(TS.out.lt k hk).1)⟩
      case measure=>exact bC
     ·have h0:(lw (n/256^(j+1))).length=0:=ab;have H0:=ag h0;clear eZ h0;rw[e8];clear e8;go_wp2;go_roundw;case rel=>have hk:=OE Hn.out hz H0.out;have ho:=TS.out;rw[hk.2]at ho;exact⟨j,ab,rfl,by rw[hk.1,hk.2];omega,ni⟩
      case measure=>exact bC
   ·have Hz:=ag hz;clear eZ;rw[e8];clear e8;go_wp2_with(at_builtin;refine sJ _ rfl _ _ 137 rfl w.heap.size 5 i0 (.int .u8 0) 1 1 underlying137 hi UN yU yk rfl ae _ _ _ rfl (TS.out.alloc _) ⟨wr.heap.size,0,none⟩ 1 1 [.int .u8 ((n:Int)/2^(8*j)%256)] rfl rfl (uD _ _ _) xm gz ab aR ?_;intro v' w1 Ii pS _);go_roundw;case rel=>exact⟨j,ab,rfl,OD Hn.out (afZ Hz.out) Ii,(ni.alloc nR _).grown pS aR (fun k hk=>(TS.out.lt k hk).1)⟩
    case measure=>exact bC
def dN(c:Int)(n:Nat):Bz:=bA c (lw n)
theorem OB c n:(dN c n).length=4+(lw n).length:=cw _ _
theorem dW c n:(dN c n).length≤12:=by grind[uN,OB]
def Ye c(n:Nat)w(c0:0≤c)(c1:c≤255)(hn:n<256^8):dM 152 #[.int .u8 c,.int .u64 n] w (str (dN c n)):=by have Hn:=ag hn;clear hn;go_enter func152,ntmps152;go_wp2_with fail;refine(afY n _ Hn.o).mono ?_;rintro e w1⟨rfl,eH⟩;go_wp2_with fail;refine(dP c (lw n) _ c0 c1 (by have:=uN n;omega)).mono ?_;exact Tr
abbrev Rd:=Bz×Bool
def qk(w:World)(g:Nat)(r:Rd):Prop:=aM w g 247 #[str r.1,.bool r.2]
def xQ {w g s b}(h:qk w g (s,b)):w.cell? (aD g 0)=some (str s)∧w.cell? (aD g 1)=some (.bool b)∧w.frozen? (aD g 0)=false∧w.frozen? (aD g 1)=false:=⟨aM.cell h 0,aM.cell h 1,aM.frozen h 0,aM.frozen h 1⟩
def lD s b g w(h:qk w g (s,b)):Calls prog 163 #[aG g] w fun e w'=>e=.returned (.bool !b)∧w=w':=by obtain⟨c0,c1,f0,f1⟩:=xQ h;clear h;go_enter func163,ntmps163;go_wp2;go_ret;simp
def sH s b g w(h:qk w g (s,b)):Calls prog 160 #[aG g] w fun e w'=>e=.returned (.tuple #[])∧qk w' g (s,true)∧w.grownBy w' (some g):=by obtain⟨c0,c1,f0,f1⟩:=xQ h;have H:=ag h;clear h;go_enter func160,ntmps160;go_wp2;go_end0;exact⟨rfl,aM.dq H.o 1 _,ja w g 1 _⟩
def ao1 s b g w(h:qk w g (s,b))(hb:b=true∨s=[]):Calls prog 208 #[.pointer (some ⟨g,0,none⟩)] w fun e w'=>e=.returned (.tuple #[.int .u8 0,.bool false])∧w=w':=by
 have H:=ag h;obtain⟨c0,c1,f0,f1⟩:=xQ h;clear h;cases b
 ·obtain rfl:s=[]:=by simpa using hb
  clear hb;go_enter func208,ntmps208;go_wp2_with fail;refine(lD [] false g _ H.out).mono ?_;rintro e w1⟨rfl,rfl⟩;go_wp2;go_ret2;simp
 ·clear hb;go_enter func208,ntmps208;go_wp2_with fail;refine(lD s true g _ H.out).mono ?_;rintro e w1⟨rfl,rfl⟩;go_wp2;go_ret2;simp
def abz x s g w(h:qk w g (x::s,false)):Calls prog 208 #[aG g] w fun e w'=>e=.returned (.tuple #[.int .u8 x.toNat,.bool true])∧w=w':=by have H:=ag h;obtain⟨c0,c1,f0,f1⟩:=xQ h;clear h;go_enter func208,ntmps208;go_wp2_with fail;refine(lD (x::s) false g _ H.o).mono ?_;rintro e w1⟨rfl,rfl⟩;go_wp2;go_ret2;simp
def abo s b g w(h:qk w g (s,b)):Calls prog 164 #[aG g] w fun e w'=>e=.returned (al (if b=true then 0 else s.length))∧w=w':=by have H:=ag h;obtain⟨c0,c1,f0,f1⟩:=xQ h;clear h;cases b;all_goals go_enter func164,ntmps164;go_wp2_with fail;refine(lD s _ g _ H.o).mono ?_;rintro e w1⟨rfl,rfl⟩;go_wp2;go_ret;simp
def n3(x y z:UInt8):Int:=(x.toNat*256+y.toNat)*256+z.toNat
def bq(c aU:Int)(r:Rd):Bz×Rd:=match r with|(a::x::y::z::s,false)=>if(a.toNat:Int)=c∧n3 x y z≤aU∧n3 x y z≤s.length then(s.take (n3 x y z).toNat,s.drop (n3 x y z).toNat,false)else([],a::x::y::z::s,true)|(s,_)=>([],s,true)
def Ys x y(hx:0≤x)(Zx:x≤16777215)(hy:0≤y)(hy':y≤255):bits BinOp.or IntKind.i64 (x*256) y=x*256+y:=by
 obtain⟨x,rfl⟩:=bD hx;obtain⟨y,rfl⟩:=bD hy;have hxn:x≤16777215:=ab;have hyn:y≤255:=ab;have e1:((x:Int)*256)=((x*256:Nat):Int):=ab;have hk:(BitVec.ofInt 64 ((x*256:Nat):Int)|||BitVec.ofInt 64 (y:Int)).toNat=x*256+y:=by rw[BitVec.toNat_or,jB,jB];have a1:(((x*256:Nat):Int)%((2^64:Nat):Int)).toNat=x*256:=ab;have a2:((y:Int)%((2^64:Nat):Int)).toNat=y:=ab;rw[a1,a2];have:=lS (b:=y) (i:=8) ab x;rw[uF];exact this.symm
 rw[e1];show IntKind.i64.wrap ((BitVec.ofInt 64 ((x*256:Nat):Int)|||BitVec.ofInt 64 (y:Int)).toNat:Nat)=_;rw[hk,zI];omega
def Pv(w:World)(s:Bz)c j h:(w.alloc (.cells (bytesRow ⟨s.toArray⟩ c) 5 ((bytesRow ⟨s.toArray⟩ c).size,(bytesRow ⟨s.toArray⟩ c).size+1))).cell? (aD w.heap.size j)=some (.int .u8 (s[j].toNat:Int)):=by rw[World.cell?_alloc_mark,bytesRow_at ⟨s.toArray⟩ c j gT];simp
def Xy(s:Bz)N:List.take (4+N-4) s=List.take N s:=by rw[show 4+N-4=N from ab]
def abA a x y z(s:Bz)N:List.take (s.length+1+1+1+1-(4+N)) (List.drop (4+N) (a::x::y::z::s))=List.drop N s:=by rw[show 4+N=N+1+1+1+1 from ab];simp only[nh];rw[aL];exact xB
def ZT s b c aU g w(h:qk w g (s,b))(c0:0≤c)(c1:c≤255)(hb:b=true∨s=[]∨∃a r,s=a::r∧((a.toNat:Int)≠c∨r.length<3)):Calls prog 161 #[.pointer (some ⟨g,0,none⟩),.int .u8 c,.int .i64 aU] w fun e w'=>e=.returned (str [])∧qk w' g (s,true)∧w.grownBy w' (some g):=by
 have H:=ag h;obtain⟨d0,d1,f0,f1⟩:=xQ h;clear h;by_cases hn:b=true∨s=[];·have Hn:=ag hn;clear hb hn;go_enter func161,ntmps161;go_wp2_with fail;refine(ao1 s b g _ H.out Hn.out).mono ?_;rintro e w1⟨rfl,rfl⟩;go_wp2_with fail;refine(sH s b g _ H.out).mono ?_;rintro e w1⟨rfl,hr,hu⟩;go_wp2;go_ret;exact⟨rfl,hr,hu⟩
 ·have yr:b=false:=by simpa using fun h=>hn (.inl h)
  subst yr;obtain⟨a,r,rfl,ha⟩:∃a r,s=a::r∧((a.toNat:Int)≠c∨r.length<3):=by
   rcases hb with h|h|h;·cases h
   ·exact absurd (.inr h) hn
   ·exact h
  clear hn hb;by_cases hac:(a.toNat:Int)=c
  ·have Rx:r.length<3:=by
    rcases ha with h|h;·exact absurd hac h
    ·exact h
   clear ha;subst hac;exact Th
  ·clear ha;exact Th
def VF a x y z s aU g w(h:qk w g (a::x::y::z::s,false))(hs:s.length≤140737488351232)(hm:aU≤9223372036854775807):Calls prog 161 #[aG g,.int .u8 a.toNat,al aU] w fun e w'=>∃t r,bq a.toNat aU (a::x::y::z::s,false)=(t,r)∧e=.returned (str t)∧qk w' g r∧w.grownBy w' (some g):=by
 have H:=ag h;obtain⟨d0,d1,f0,f1⟩:=xQ h;have eo:=aM.lt h;clear h;have hx:(x.toNat:Int)<256:=by have:=x.toNat_lt;omega
 have hy:(y.toNat:Int)<256:=by have:=y.toNat_lt;omega
 have hz:(z.toNat:Int)<256:=by have:=z.toNat_lt;omega
 have kb:=ng (P:=prog) w 9 137 5 ⟨[x,y,z].toArray⟩ underlying9 underlying137 underlying5;have e0:=Pv w [x,y,z] (grownCap w 3 0 5) 0 ae;have e1:=Pv w [x,y,z] (grownCap w 3 0 5) 1 ae;have e2:=Pv w [x,y,z] (grownCap w 3 0 5) 2 ae;simp only[ly,nZ]at e0 e1 e2;go_enter func161,ntmps161;go_wp2_with fail;refine(abz a _ g _ H.o).mono ?_;rintro e w1⟨rfl,rfl⟩;go_wp2_with fail;have k0:bits BinOp.or IntKind.i64 0 x.toNat=x.toNat:=by have:=Ys 0 x.toNat ab ab ab ab;exact mo
 have k1:bits BinOp.or IntKind.i64 ((x.toNat:Int)*256) y.toNat=x.toNat*256+y.toNat:=Ys _ _ ab ab ab ab;have k2:bits BinOp.or IntKind.i64 (((x.toNat:Int)*256+y.toNat)*256) z.toNat=(x.toNat*256+y.toNat)*256+z.toNat:=Ys _ _ ab ab ab ab;clear kb;by_cases it:n3 x y z≤aU∧n3 x y z≤s.length;have aug:((x.toNat:Int)*256+y.toNat)*256+z.toNat≤aU:=it.1;have ad3:((x.toNat:Int)*256+y.toNat)*256+z.toNat≤s.length:=it.2;have Hok:=ag it;clear it;refine dG 4 ?_;rw[bE];go_wp2;rw[bE];go_wp2;rw[bE];go_wp2;rw[bE];go_wp2;go_ret;refine⟨_,(_,false),?_,rfl,((aM.dq H.o 0 _).alloc _).drew,tw (zg (ja w g 0 _) _)⟩;have hN:(n3 x y z).toNat=(x.toNat*256+y.toNat)*256+z.toNat:=Dx;unfold bq;simp only[];rw[if_pos ⟨trivial,Hok.o⟩,hN,Xy,abA]
 ·have FA:aU<((x.toNat:Int)*256+y.toNat)*256+z.toNat∨(((x.toNat:Int)*256+y.toNat)*256+z.toNat≤aU∧(s.length:Int)<((x.toNat:Int)*256+y.toNat)*256+z.toNat):=by unfold n3 at it;omega
  have Hok:=ag it;clear it;rcases FA with h1|⟨h1,h2⟩;all_goals refine dG 4 ?_;rw[bE];go_wp2;rw[bE];go_wp2;rw[bE];go_wp2;rw[bE];go_wp2_with fail;refine(sH (a::x::y::z::s) false g _ (aM.drew (aM.alloc H.o _))).mono ?_;rintro e w1⟨rfl,hr,hu⟩;go_wp2;go_ret;refine⟨[],(a::x::y::z::s,true),?_,rfl,hr,jq (tw (zg (World.grownBy.refl w _) _)) hu⟩;unfold bq;simp only[];rw[if_neg (fun h=>Hok.o h.2)]
def kQ s b c aU g w (h : qk w g (s, b)) (c0 : 0 ≤ c) (c1 : c ≤ 255) (hs : s.length ≤ 140737488351232) (hm : aU ≤ 9223372036854775807)
    t s' b' (hr : bq c aU (s, b) = (t, s', b')) :
    Calls prog 161 #[aG g, .int .u8 c, al aU] w fun e w' => e = .returned (str t) ∧ qk w' g (s', b') ∧ w.grownBy w' (some g) := by
  by_cases hb : b = true ∨ s = [] ∨ ∃ a r, s = a :: r ∧ ((a.toNat : Int) ≠ c ∨ r.length < 3)
  · have hn : bq c aU (s, b) = ([], s, true) := by
      unfold bq
      split
      · rename_i a x y z r hh
        injection hh with h1 h2
        subst h1 h2
        rw [if_neg]
        rintro ⟨k1, k2, k3⟩
        rcases hb with hb | hb | ⟨a', r', hb, yr⟩
        cases hb
        cases hb
        injection hb with e1 e2
        subst e1 e2
        rcases yr with yr | yr
        exact yr k1
        simp at yr; omega
      · rename_i hh
        injection hh with h1 h2
        subst h1
        rfl
    rw [hn] at hr
    injection hr with e1 e2
    injection e2 with e2 e3
    subst e1 e2 e3
    exact ZT s b c aU g w h c0 c1 hb
  have eH : b = false := by simpa using fun h => hb (.inl h)
  subst eH
  match s, hs, h, hr, hb with
  | [], _, _, _, hb => exact absurd (.inr (.inl rfl)) hb
  | [a], _, _, _, hb => exact absurd (.inr (.inr ⟨a, [], rfl, .inr ae⟩)) hb
  | [a, x], _, _, _, hb => exact absurd (.inr (.inr ⟨a, [x], rfl, .inr ae⟩)) hb
  | [a, x, y], _, _, _, hb => exact absurd (.inr (.inr ⟨a, [x, y], rfl, .inr ae⟩)) hb
  | a :: x :: y :: z :: s, hs, h, hr, hb =>
    have hac : (a.toNat : Int) = c := by
      apply Classical.byContradiction
      intro gQ
      exact hb (.inr (.inr ⟨a, _, rfl, .inl gQ⟩))
    subst hac
    refine (VF a x y z s aU g w h (by simp at hs; omega) hm).mono ?_
    rintro e w' ⟨t', r', h1, h2, h3, h4⟩
    rw [hr] at h1
    injection h1 with e1 e2
    subst e1 e2
    exact ⟨h2, h3, h4⟩
def val(l:Bz):Nat:=l.foldl (fun n b=>n*256+b.toNat) 0
theorem xN l b:val (l++[b])=val l*256+b.toNat:=by simp[val]
def xO:∀(k)(l),l.length=k→val l<256^k:=by intro k;induction k with|zero=>simp[val]|succ k ih=>intro l h;rcases jH l with rfl|⟨l,b,rfl⟩;grind;rw[pf]at h⊢;rw[xN,nX];have h1:=ih l ai;have h2:=b.toNat_lt;omega
def fT {c aU r r' t}(h:bq c aU r=(t,r'))(hm:0≤aU):(t.length:Int)≤aU:=Da
def kF {c aU r r' t}(h:bq c aU r=(t,r')):r'.1.length≤r.1.length:=Da
def Bl(c:Int)(r:Rd):Nat×Rd:=match bq c 8 r with|([],r')=>(0,r')|(b::t,s',b')=>if b=0 then(0,s',true)else(val (b::t),s',b')
def FJ(x:Nat)(y:UInt8)(hx:x<256^7):bits BinOp.or IntKind.u64 ((x:Int)*256) (y.toNat:Int)=((x*256+y.toNat:Nat):Int):=by have hy:=y.toNat_lt;have h7:(256:Nat)^7=72057594037927936:=rfl;have h:=u64_or_nat (x*256) y.toNat ab ab;rw[show x*256|||y.toNat=x*256+y.toNat from by have:=lS (b:=y.toNat) (i:=8) ab x;grind]at h;grind
def sF s w:Calls prog 108 #[str s] w fun e w'=>e=.returned (aG w.heap.size)∧w.alloc (.cells #[str s,.bool false] 247)=w':=by go_enter func108,ntmps108;go_wp2;go_ret;simp
def wG s(w:World):qk (w.alloc (.cells #[str s,.bool false] 247)) w.heap.size (s,false):=aM.new w _ _
def Oo s b c g w(h:qk w g (s,b))(c0:0≤c)(c1:c≤255)(hs:s.length≤140737488351232)n s' b'(hr:Bl c (s,b)=(n,s',b')):Calls prog 159 #[.pointer (some ⟨g,0,none⟩),.int .u8 c] w fun e w'=>e=.returned (.int .u64 n)∧qk w' g (s',b')∧w.grownBy w' (some g):=by
 obtain⟨⟨t,s1,b1⟩,ht⟩:∃q,bq c 8 (s,b)=q:=⟨_,rfl⟩;have hl:=fT ht ae;have Ht:=ag ht;have H:=ag h;rw[Bl,ht]at hr;have Hr:=ag hr;clear ht hr h;go_enter func159,ntmps159;go_wp2_with fail;refine(kQ s b c 8 g _ H.out c0 c1 hs ae t s1 b1 Ht.out).mono ?_;rintro e w1⟨rfl,tB,AM⟩;have Hr1:=ag tB;clear tB;go_wp2_with fail;go_loop [6,13](fun a i=>∃k:Nat,k≤t.length∧i=.int .i64 k∧a=.int .u64 (val (t.take k):Nat))(fun _ i=>t.length-(intOf i).toNat);case atStart=>exact⟨0,aI _,rfl,rfl⟩
 case round=>
  obtain⟨k,hk,rfl,rfl⟩:=hrel;by_cases eo:k<t.length
  ·have hv:val (t.take k)<256^7:=bi (xO k _ aR) (dQ ae ab);have hvi:((val (t.take k):Nat):Int)≤72057594037927935:=ab;have hor:=FJ (val (t.take k)) t[k] hv;have If:t.take (k+1)=t.take k++[t[k]]:=ae;have ZR:=ag If;have Vh:(t[k].toNat:Int)<256:=Tf;clear hv If;go_wp2;go_round;case rel=>exact⟨k+1,ab,aq,by rw[ZR.out,xN];rfl⟩
   case measure=>exact bC
  ·obtain rfl:k=t.length:=ab;rw[ci];cases t with|nil=>have hr:=Hr.out;exact Tg|cons x t=>
    by_cases hx:(x.toNat:Int)=0;·have hr:=Hr.out;simp only[]at hr;rw[if_pos (qx.1 (by simpa using hx))]at hr;simp only[aY]at hr;obtain⟨rfl,rfl,rfl⟩:=hr;go_wp2_with fail;refine(sH s1 b1 g _ Hr1.out).mono ?_;rintro e w2⟨rfl,vt,AL⟩;go_wp2;go_ret;exact⟨rfl,vt,jq AM AL⟩
    ·have hr:=Hr.out;simp only[]at hr;rw[if_neg (fun h=>hx (by rw[h];rfl))]at hr;exact Tg
def agN {c r r' n}(h:Bl c r=(n,r')):n<256^8:=by unfold Bl at h;split at h;grind;·rename_i b t s' b' hh;have hl:=fT hh ae;split at h;grind;injection h with h1 h2;subst h1;exact bi (xO (b::t).length _ rfl) (dQ ae ab)
def ei (c aU : Int) (r : Rd) : Int × Rd :=
  let (n, r') := Bl c r
  if aU < 0 ∨ aU < (n : Int) then (0, r'.1, true) else ((n : Int), r')
def sj s b c aU g w(h:qk w g (s,b))(c0:0≤c)(c1:c≤255)(hs:s.length≤140737488351232)(hm:aU≤9223372036854775807)n s' b'(hr:ei c aU (s,b)=(n,s',b')):Calls prog 109 #[aG g,.int .u8 c,al aU] w fun e w'=>e=.returned (al n)∧qk w' g (s',b')∧w.grownBy w' (some g):=by obtain⟨⟨m,s1,b1⟩,ht⟩:∃q,Bl c (s,b)=q:=⟨_,rfl⟩;have hl:=agN ht;have hl':(m:Int)≤18446744073709551615:=ab;have Ht:=ag ht;have H:=ag h;rw[ei,ht]at hr;simp only[]at hr;clear ht h hl;by_cases h1:aU<0;rw[if_pos (.inl h1)]at hr;exact Te;have h0:0≤aU:=ab;by_cases h2:aU<(m:Int);rw[if_pos (.inr h2)]at hr;exact Te;rw[if_neg ab]at hr;simp only[aY]at hr;obtain⟨rfl,rfl,rfl⟩:=hr;go_enter func109,ntmps109;go_wp2_with fail;refine(Oo s b c g _ H.o c0 c1 hs m s1 b1 Ht.o).mono ?_;rintro e w1⟨rfl,tB,AM⟩;go_wp2;go_ret;exact⟨rfl,tB,AM⟩
def ZS {c r r' n}(h:Bl c r=(n,r')):r'.1.length≤r.1.length:=by
 unfold Bl at h;split at h;·rename_i hh;injection h with h1 h2;subst h2;exact kF hh
 ·rename_i hh;have:=kF hh;grind
def sQ {c aU r r' n}(h:ei c aU r=(n,r')):r'.1.length≤r.1.length:=by obtain⟨⟨m,r1⟩,ht⟩:∃q,Bl c r=q:=⟨_,rfl⟩;have:=ZS ht;grind[ei]
def Xp:∀(k n),n<256^k→val (tG k n)=n:=by intro k;induction k with|zero=>intro n h;grind[val,tG]|succ k ih=>induction k<;>grind[tG,xN,Nat.pow_succ,UInt8.toNat_ofNat']
def amh n(h:n<256^8):val (lw n)=n:=Xp 8 n h
def afl:∀(k n)(b)(t),n<256^k→tG k n=b::t→b≠0:=by
 intro k;induction k with|zero=>simp[tG]|succ k ih=>
  intro n b t hn h;unfold tG at h;split at h;grind
  ·rename_i h0;rcases hd:tG k (n/256)with _|⟨b',t'⟩;rw[hd]at h;have hz:n/256=0:=by have:=Xp k (n/256) ab;rw[hd]at this;exact this.symm
   simp only[bJ,List.cons.injEq]at h;intro hb;rw[hb]at h;have:=congrArg UInt8.toNat h.1;grind[UInt8.toNat_ofNat'];grind
def Xo {n b t}(hn:n<256^8)(h:lw n=b::t):b≠0:=afl 8 n b t hn h
def avf n(h0:0≤n)(h1:n≤16777215):n3 (Id (n/65536%256)) (Id (n/256%256)) (Id (n%256))=n:=by grind[n3,Cm]
theorem iM c aU s rest(c0:0≤c)(c1:c≤255)(hs:s.length≤16777215)(hm:(s.length:Int)≤aU):bq c aU (bA c s++rest,false)=(s,rest,false):=by unfold bA hd;simp only[cj,bJ];unfold bq;simp only[];have hn:=avf s.length ae ab;rw[hn,Cm c c0 c1,if_pos ⟨rfl,hm,ai⟩];simp
def aiN c n rest(c0:0≤c)(c1:c≤255)(hn:n<256^8):Bl c (dN c n++rest,false)=(n,rest,false):=by have hl:=uN n;unfold Bl dN;rw[iM c 8 (lw n) rest c0 c1 ab ab];rcases hd:lw n with _|⟨b,t⟩;grind[abp];simp only[];rw[if_neg (Xo hn hd),←hd,amh n hn]
theorem VY c aU(n:Nat)rest(c0:0≤c)(c1:c≤255)(hn:n<256^8)(hm:(n:Int)≤aU):ei c aU (dN c n++rest,false)=((n:Int),rest,false):=by unfold ei;rw[aiN c n rest c0 c1 hn];grind
def aiM c aU s:bq c aU (s,true)=([],s,true):=by simp[bq]
def ami c s:Bl c (s,true)=(0,s,true):=by simp[Bl,aiM]
def amj c aU s:ei c aU (s,true)=(0,s,true):=by simp[ei,ami]
def iV {c aU n r r'}(h:ei c aU r=(n,r')):0≤n∧(n≤aU∨n=0):=by grind[ei]
def wy s g w(h:qk w g (s,false)):Calls prog 164 #[aG g] w fun e w'=>e=.returned (al s.length)∧w=w':=by have:=abo s false g w h;exact mo
def amk s g w(h:qk w g (s,true)):Calls prog 164 #[aG g] w fun e w'=>e=.returned (al 0)∧w=w':=by have:=abo s true g w h;exact mo
def ag7 {c aU s t s'}(h:bq c aU (s,false)=(t,s',false)):s=bA c t++s'∧(t.length:Int)≤aU∧t.length≤16777215:=by
 unfold bq at h;split at h
 ·rename_i a x y z r h0;injection h0 with h0 _;subst h0;split at h
  ·rename_i hc;obtain⟨h1,h2,h3⟩:=hc;injection h with h4 h5;injection h5 with h5 _;have hx:=rg x;have hy:=rg y;have hz:=rg z;have hn:n3 x y z=(x.toNat*256+y.toNat)*256+z.toNat:=rfl;have hlen:(t.length:Int)=n3 x y z:=ai;refine⟨?_,ab,ab⟩;unfold bA hd;rw[hlen,←h4,←h5,←h1,Xn];have e1:Id (n3 x y z/65536%256)=x:=by grind[Xn]
   have e2:Id (n3 x y z/256%256)=y:=by grind[Xn]
   have e3:Id (n3 x y z%256)=z:=by grind[Xn]
   grind[List.take_append_drop]
  grind
 grind
theorem VC l b(hl:l.length≤7)(hd:lw (val l)=l)(hb:l≠[]∨b≠0):lw (val (l++[b]))=l++[b]:=by have hv:=xO _ l rfl;have eo:val l<256^7:=bi hv (dQ ae hl);have Pw:=rg b;have h87:(256:Nat)^8=256^7*256:=rfl;rw[xN,GQ _ ab,if_neg];rw[show(val l*256+b.toNat)/256=val l from ab,show(val l*256+b.toNat)%256=b.toNat from ae,hd];simp;intro h0;rcases hb with hb|hb;have:val l=0:=ab;grind[lw,wU];exact hb (qx.1 ai)
theorem aml:∀(n)(l),l.length=n→n≤8→(∀b t,l=b::t→b≠0)→lw (val l)=l:=by intro n;induction n with|zero=>intro l hl _ _;grind[wU,lw,val]|succ n ih=>intro l hl hn hb;rcases jH l with rfl|⟨l',b,rfl⟩;all_goals grind[VC]
def mV(r:Rd):Int:=if r.2=true∨r.1≠[]then 10 else 0
def Pm s b g w(h:qk w g (s,b)):Calls prog 111 #[aG g] w fun e w'=>e=.returned (al (mV (s,b)))∧w=w':=by
 have H:=ag h;obtain⟨c0,c1,f0,f1⟩:=xQ h;clear h;cases b;·cases s;all_goals go_enter func111,ntmps111;go_wp2_with fail;refine(lD _ false g _ H.o).mono ?_;rintro e w1⟨rfl,rfl⟩;go_wp2;go_ret;simp[mV]
 go_enter func111,ntmps111;go_wp2_with fail;refine(lD s true g _ H.o).mono ?_;rintro e w1⟨rfl,rfl⟩;go_wp2;go_ret;simp[mV]
def Bm c s w(c0:0≤c)(c1:c≤255)(hs:s.length≤16777215):dM 55 #[.int .u8 c,str s] w (str (bA c s)):=by have kc:=LK (P:=prog) w 137 9 5 5 c s.length c0 c1 underlying137 underlying5 underlying9;have h2:(s.length:Int)/65536%256=s.length/65536:=ab;rw[h2]at kc;clear h2;go_enter func55,ntmps55;go_wp2;go_ret;exact Tq
def acH {P}(w:World)src dst e t n(n0:0≤n)(n1:n≤255)(hs:P.underlying src=some (.slice e))(he:P.underlying e=some (.int .u8))(hd:P.underlying dst=some .string):(convert src dst (.slice (some (aD w.heap.size 0)) 1 1)).run P (w.alloc (.cells #[.int .u8 n] t))=.ok (.string ⟨[Id n].toArray⟩) (w.alloc (.cells #[.int .u8 n] t)):=FR (P:=P) w src dst e t [n] 1 1 rfl ai hs he hd
def aiT(n:Nat):Id ((n:Int)%256)=UInt8.ofNat (n%256):=aq
def xY(n:Nat)w(hn:n<256^8):Calls prog 144 #[.int .u64 n] w fun e w'=>e=.returned (str (lw n))∧Below w.heap.size w w':=by
 have Hn:=ag hn;clear hn;go_enter func144,ntmps144;go_wp2;go_loopw [0,3](fun a b wr=>∃(m:Nat)(t:Bz),a=.int .u64 m∧b=str t∧lw m++t=lw n∧m≤n∧t.length≤8∧Below w.heap.size w wr)(fun a _ _=>(intOf a).toNat);case atStart=>exact⟨n,[],rfl,rfl,ae,au _,ae,aJ _ _⟩
 case round=>
  obtain⟨m,t,rfl,rfl,hd,hm,ht,ni⟩:=hrel;have Hd:=ag hd;clear hd;by_cases h0:m=0;·subst h0;go_wp2;go_ret;exact⟨by have:=Hd.out;rw[show lw 0=[]from wU 8]at this;rw[←this];rfl,ni⟩
  ·have hp:0<m:=ab;have ayt:(m:Int)≤18446744073709551615:=by have:=Hn.out;omega
   have aeg:=ag (GQ m (Nat.lt_of_le_of_lt hm Hn.out));have kc:=acH (P:=prog) wr 137 9 5 5 (m%256) ab ab underlying137 underlying5 underlying9;have H0:=ag h0;clear h0;go_wp2;go_roundw;case rel=>have e:=aeg.out;rw[if_neg H0.out]at e;have hd:=Hd.out;have hl:=uN n;rw[←hd,e]at hl;simp at hl;exact⟨m/256,Id (m%256)::t,aq,rfl,by rw[←hd,e,aiT];simp,ab,aR,ni.alloc ni.size _⟩
   case measure=>exact bC
def RA c(n:Nat)w(c0:0≤c)(c1:c≤255)(hn:n<256^8):dM 97 #[.int .u8 c,.int .u64 n] w (str (dN c n)):=by have Hn:=ag hn;clear hn;go_enter func97,ntmps97;go_wp2_with fail;refine(xY n _ Hn.o).mono ?_;rintro e w1⟨rfl,eH⟩;go_wp2_with fail;refine(Bm c (lw n) _ c0 c1 (by have:=uN n;omega)).mono ?_;exact Tr
def jc c n w(c0:0≤c)(c1:c≤255)(hn:n≤9223372036854775807):dM 94 #[.int .u8 c,al n] w (str (dN c n.toNat)):=by by_cases h:n<0;have h0:n.toNat=0:=ab;rw[h0];clear h0;go_enter func94,ntmps94;go_wp2_with fail;refine(Ye c 0 _ c0 c1 ae).mono ?_;exact ny;obtain⟨k,rfl⟩:=bD (show 0≤n from ab);rw[fG];have hk:(k:Int)≤9223372036854775807:=ab;go_enter func94,ntmps94;go_wp2_with fail;refine(Ye c k _ c0 c1 ab).mono ?_;exact ny
def RB c n w(c0:0≤c)(c1:c≤255)(hn:n≤9223372036854775807):dM 63 #[.int .u8 c,al n] w (str (dN c n.toNat)):=by by_cases h:n<0;have h0:n.toNat=0:=ab;rw[h0];clear h0;go_enter func63,ntmps63;go_wp2_with fail;refine(RA c 0 _ c0 c1 ae).mono ?_;exact ny;obtain⟨k,rfl⟩:=bD (show 0≤n from ab);rw[fG];have hk:(k:Int)≤9223372036854775807:=ab;go_enter func63,ntmps63;go_wp2_with fail;refine(RA c k _ c0 c1 ab).mono ?_;exact ny
def fD(k:UInt8)(id:Bz):Bz:=k::bA 105 id
def gY(k:UInt8)(id:Bz)(n:Int):Bz:=k::(bA 105 id++dN 113 n.toNat)
theorem IR k id:(fD k id).length=5+id.length:=by grind[fD,cw]
def PH k id w(hs:id.length≤16777215):dM 75 #[str [k],str id] w (str (fD k id)):=by have hl:=cw 105 id;have hk:fD k id=k::bA 105 id:=rfl;obtain⟨X,hX⟩:=aZ (bA 105 id);rw[hX]at hl hk;have hl':X.length≤16777219:=ab;have q:¬9223372036854775807<1+X.length:=ab;have HX:=ag hX;have HK:=ag hk;clear hX hk hl;go_enter func75,ntmps75;go_wp2_with fail;refine(dP 105 id _ ae ae hs).mono ?_;rw[HX.o];rintro e w1⟨rfl,hb⟩;go_wp2;go_ret;exact⟨by rw[HK.o];rfl,hb⟩
def abh k id n w(hs:id.length≤16777215)(hn:n≤9223372036854775807):dM 232 #[str [k],str id,al n] w (str (gY k id n)):=by have hl:=IR k id;have ML:=dW 113 n.toNat;have hk:gY k id n=fD k id++dN 113 n.toNat:=rfl;obtain⟨X,hX⟩:=aZ (fD k id);obtain⟨Y,hY⟩:=aZ (dN 113 n.toNat);rw[hX,hY]at hk;rw[hX]at hl;rw[hY]at ML;have hl':X.length≤16777220:=ab;have q:¬9223372036854775807<X.length+Y.length:=ab;have HX:=ag hX;have HY:=ag hY;have HK:=ag hk;clear hX hY hk hl;go_enter func232,ntmps232;go_wp2_with fail;refine(PH k id _ hs).mono ?_;rw[HX.o];rintro e w1⟨rfl,hb⟩;go_wp2_with fail;refine(jc 113 n _ ae ae hn).mono ?_;rw[HY.o];rintro e w2⟨rfl,ft⟩;go_wp2;go_ret;exact⟨by rw[HK.o];rfl,bP hb ft⟩
def FN id w(hs:id.length≤16777215):dM 186 #[str id] w (str (fD 67 id)):=by go_enter func186,ntmps186;go_wp2_with fail;refine(PH 67 id _ hs).mono ?_;exact ny
def Mw id w(hs:id.length≤16777215):dM 34 #[str id] w (str (fD 75 id)):=by go_enter func34,ntmps34;go_wp2_with fail;refine(PH 75 id _ hs).mono ?_;exact ny
def Mx id w(hs:id.length≤16777215):dM 35 #[str id] w (str (fD 72 id)):=by go_enter func35,ntmps35;go_wp2_with fail;refine(PH 72 id _ hs).mono ?_;exact ny
def Wi id w(hs:id.length≤16777215):dM 286 #[str id] w (str (fD 78 id)):=by go_enter func286,ntmps286;go_wp2_with fail;refine(PH 78 id _ hs).mono ?_;exact ny
def zo id n w(hs:id.length≤16777215)(hn:n≤9223372036854775807):dM 197 #[str id,al n] w (str (gY 80 id n)):=by go_enter func197,ntmps197;go_wp2_with fail;refine(abh 80 id n _ hs hn).mono ?_;exact ny
def Fc id n w(hs:id.length≤16777215)(hn:n≤9223372036854775807):dM 195 #[str id,al n] w (str (gY 71 id n)):=by go_enter func195,ntmps195;go_wp2_with fail;refine(abh 71 id n _ hs hn).mono ?_;exact ny
def aeN n w(hn:n≤9223372036854775807):dM 287 #[al n] w (str (dN 110 n.toNat)):=by go_enter func287,ntmps287;go_wp2_with fail;refine(jc 110 n _ ae ae hn).mono ?_;exact ny
def Is(p:Int×Int)(c:UInt8):Int×Int:=((p.1+c.toNat)%65521,(p.2+(p.1+c.toNat))%65521)
def xR(l:Bz):Int×Int:=l.foldl Is (1,0)
def afW:xR []=(1,0):=rfl
def Ge l c:xR (l++[c])=Is (xR l) c:=by simp[xR]
def aao p c:0≤(Is p c).1∧(Is p c).1≤65520∧0≤(Is p c).2∧(Is p c).2≤65520:=by grind[Is]
def IM l:0≤(xR l).1∧(xR l).1≤65520∧0≤(xR l).2∧(xR l).2≤65520:=by rcases jH l with rfl|⟨l,c,rfl⟩;all_goals simp[afW,Ge,aao]
def Cc(l:Bz):Int:=(xR l).2*65536+(xR l).1
def uK l:0≤Cc l∧Cc l≤4294967295:=by have:=IM l;grind[Cc]
def asz i a b(h:b<2^i):a*2^i|||b=a*2^i+b:=by grind[Nat.mul_comm,Nat.two_pow_add_eq_or_of_lt]
def asA a b(a0:0≤a)(a1:a≤65535)(b0:0≤b)(b1:b≤65535):bits BinOp.or IntKind.u32 (a*65536) b=a*65536+b:=by obtain⟨a,rfl⟩:=bD a0;obtain⟨b,rfl⟩:=bD b0;have h:=u32_or_nat (a*65536) b ab ab;rw[show a*65536|||b=a*65536+b from asz 16 a b ab]at h;grind
def am2 c a b ga gb w(a0:0≤a)(a1:a≤65520)(b0:0≤b)(b1:b≤65520)(hA:w.heap[ga]?=some (.cells #[.int .u32 a] 176 (0,0)))(hB:w.heap[gb]?=some (.cells #[.int .u32 b] 176 (0,0)))(gQ:ga≠gb):Calls prog 222 #[.int .u8 c.toNat,aG ga,aG gb] w fun e w'=>e=.returned (.tuple #[])∧(w.setCell (aD ga 0) (.int .u32 (Is (a,b) c).1)).setCell (aD gb 0) (.int .u32 (Is (a,b) c).2)=w':=by
 have hc:(c.toNat:Int)<256:=by have:=c.toNat_lt;omega
 have cA:=vY hA;have cB:=vY hB;have fA:=free_of_one hA;have fB:=free_of_one hB;have ayD:gb≠ga:=fun h=>gQ h.symm;clear hA hB;go_enter func222,ntmps222;go_wp2;go_end0;exact⟨rfl,rfl⟩
def ajn(l:Bz)k h:l.take (k+1)=l.take k++[l[k]]:=ae
def adl {w:World}{n}(h:n=w.heap.size)o:(w.alloc o).heap[n]?=some o:=by grind[heap_alloc_new]
def Yd l w(hl:l.length≤140737488351232):dM 178 #[str l] w (.int .u32 (Cc l)):=by
 go_enter func178,ntmps178;go_wp2;go_loopw [10](fun i wr=>∃k:Nat,k≤l.length∧i=al k∧wr.heap[w.heap.size]?=some (.cells #[.int .u32 (xR (l.take k)).1] 176 (0,0))∧wr.heap[w.heap.size+1]?=some (.cells #[.int .u32 (xR (l.take k)).2] 176 (0,0))∧Below w.heap.size w wr)(fun i _=>l.length-(intOf i).toNat);case atStart=>refine⟨0,aI _,rfl,?_,?_,((aJ _ _).alloc (au _) _).alloc ae _⟩;rw[pq _ _ _ ae];exact mA _ _;exact adl ae _
 case round=>
  obtain⟨k,hk,rfl,hA,hB,ni⟩:=hrel;have hb:=IM (l.take k);by_cases eo:k<l.length
  ·have If:=ajn l k eo;have ZR:=ag If;clear If;have HA:=ag hA;have HB:=ag hB;clear hA hB;go_wp2_with(go_at_call 222;refine(am2 l[k] _ _ w.heap.size (w.heap.size+1) wr hb.1 hb.2.1 hb.2.2.1 hb.2.2.2 HA.o HB.o ae).mono ?_;rintro e w1⟨rfl,rfl⟩);go_roundw;case rel=>refine⟨k+1,ab,aq,?_,?_,(ni.setCell (au _) _).setCell (Nat.le_succ _) _⟩;rw[iJ _ _ _ _ ae,ZR.o,Ge];exact one_setCell HA.o;rw[ZR.o,Ge];exact one_setCell (b:=w.heap.size+1) ((iJ wr (aD w.heap.size 0) _ (w.heap.size+1) ae).trans HB.o)
   case measure=>exact bC
  obtain rfl:k=l.length:=ab;rw[ci]at hA hB hb;have cA:=vY hA;have cB:=vY hB;clear hA hB;go_wp2;go_ret;exact⟨by unfold Cc;rw[←asA _ _ hb.2.2.1 ab hb.1 ab];rfl,ni⟩
def cT(s:Bz):Bz:=bA 82 s++dN 83 (Cc (bA 82 s)).toNat
def ahq l:((Cc l).toNat:Int)=Cc l:=by have:=uK l;omega
def ake l:(Cc l).toNat<256^8:=by have:=uK l;omega
def VZ s w(hs:s.length≤1048576):dM 124 #[str s] w (.tuple #[str (cT s),al 0]):=by have hl:=cw 82 s;have Hl:=ag hl;clear hl;have hn:=dW 83 (Cc (bA 82 s)).toNat;have hb:=uK (bA 82 s);go_enter func124,ntmps124;go_wp2_with fail;refine(dP 82 s _ ae ae ab).mono ?_;rintro e w1⟨rfl,eH⟩;go_wp2_with fail;refine(Yd (bA 82 s) _ (by rw[Hl.o];omega)).mono ?_;rintro e w2⟨rfl,ft⟩;go_wp2_with fail;rw[←ahq];refine(Ye 83 (Cc (bA 82 s)).toNat _ ae ae (ake _)).mono ?_;rintro e w3⟨rfl,AA⟩;go_wp2;go_ret2;exact⟨rfl,(eH.trans (ft.mono eH.size)).trans (AA.mono (aC eH.size ft.size))⟩
def yA(s:Bz):Bz×Int×Int:=match bq 82 1048576 (s,false)with|(_,_,true)=>([],0,10)|(body,s1,false)=>match ei 83 4294967295 (s1,false)with|(_,_,true)=>([],0,10)|(n,s2,false)=>if n=Cc (s.take (s.length-s1.length))then(body,(s.length:Int)-s2.length,0)else([],0,10)
def aaX s body n er w(hr:yA s=(body,n,er))(hs:s.length≤140737488351232):Calls prog 157 #[str s] w fun e w'=>e=.returned (.tuple #[str body,.int .i64 n,.int .i64 er])∧Below w.heap.size w w':=by
 obtain⟨⟨t,s1,b1⟩,ht⟩:∃q,bq 82 1048576 (s,false)=q:=⟨_,rfl⟩;have l1:=kF ht;simp only[]at l1;have Ht:=ag ht;rw[yA,ht]at hr;clear ht;cases b1
 ·obtain⟨⟨m,s2,b2⟩,hi⟩:∃q,ei 83 4294967295 (s1,false)=q:=⟨_,rfl⟩;have l2:=sQ hi;simp only[]at l2;have hm:=iV hi;have hm0:=hm.1;have KD:m≤4294967295:=by omega
  have Hi:=ag hi;simp only[hi]at hr;clear hi hm;cases b2
  ·have aaF:=uK (s.take (s.length-s1.length));by_cases hq:m=Cc (s.take (s.length-s1.length));·simp only[]at hr;rw[if_pos hq]at hr;simp only[aY]at hr;obtain⟨rfl,rfl,rfl⟩:=hr;have Hq:=ag hq;clear hq;go_enter func157,ntmps157;go_wp2_with fail;refine(sF s _).mono ?_;rintro e w1⟨rfl,rfl⟩;go_wp2_with fail;refine(kQ s false 82 1048576 _ _ (wG s w) (by simp) (by simp) hs (by simp) t s1 false Ht.out).mono ?_;rintro e w2⟨rfl,vt,AL⟩;have yk:=AL.size;have ft:=(((aJ w.heap.size w).alloc (au _) _).trans (eD AL (by simp) (au _)));have PO:=ag vt;clear vt AL;go_wp2_with fail;refine(wy s1 _ _ PO.out).mono ?_;rintro e w3⟨rfl,rfl⟩;go_wp2_with fail;refine(sj s1 false 83 4294967295 _ _ PO.out (by simp) (by simp) (by omega) (by simp) m s2 false Hi.out).mono ?_;rintro e w3⟨rfl,Rx,Xx⟩;have AA:=ft.trans (eD Xx ft.size (au _));have Hr3:=ag Rx;clear Rx Xx;go_wp2_with fail;refine(lD s2 false _ _ Hr3.out).mono ?_;rintro e w4⟨rfl,rfl⟩;go_wp2_with fail;refine(Yd _ _ (by rw[bo];omega)).mono ?_;rw[←Hq.out];rintro e w4⟨rfl,pF⟩;have tl:=bP AA pF;have Hr5:=ag (aM.step Hr3.out pF);go_wp2_with fail;refine(wy s2 _ _ Hr5.out).mono ?_;rintro e w5⟨rfl,rfl⟩;go_wp2;go_ret3;exact⟨rfl,tl⟩
   ·simp only[]at hr;rw[if_neg hq]at hr;simp only[aY]at hr;obtain⟨rfl,rfl,rfl⟩:=hr;obtain⟨S,hS⟩:=aZ (Cc (s.take (s.length-s1.length)));rw[hS]at aaF hq;have hS0:=aaF.1;have WR:=aaF.2;have hq':(m==S)=false:=by simpa using hq
    have HS:=ag hS;clear hS aaF;go_enter func157,ntmps157;go_wp2_with fail;refine(sF s _).mono ?_;rintro e w1⟨rfl,rfl⟩;go_wp2_with fail;refine(kQ s false 82 1048576 _ _ (wG s w) (by simp) (by simp) hs (by simp) t s1 false Ht.out).mono ?_;rintro e w2⟨rfl,vt,AL⟩;have yk:=AL.size;have ft:=(((aJ w.heap.size w).alloc (au _) _).trans (eD AL (by simp) (au _)));have PO:=ag vt;clear vt AL;go_wp2_with fail;refine(wy s1 _ _ PO.out).mono ?_;rintro e w3⟨rfl,rfl⟩;go_wp2_with fail;refine(sj s1 false 83 4294967295 _ _ PO.out (by simp) (by simp) (by omega) (by simp) m s2 false Hi.out).mono ?_;rintro e w3⟨rfl,Rx,Xx⟩;have AA:=ft.trans (eD Xx ft.size (au _));have Hr3:=ag Rx;clear Rx Xx;go_wp2_with fail;refine(lD s2 false _ _ Hr3.out).mono ?_;rintro e w4⟨rfl,rfl⟩;go_wp2_with fail;refine(Yd _ _ (by rw[bo];omega)).mono ?_;rw[HS.out];rintro e w4⟨rfl,pF⟩;have tl:=bP AA pF;go_wp2;go_ret3;exact⟨rfl,tl⟩
  ·simp only[aY]at hr;obtain⟨rfl,rfl,rfl⟩:=hr;go_enter func157,ntmps157;go_wp2_with fail;refine(sF s _).mono ?_;rintro e w1⟨rfl,rfl⟩;go_wp2_with fail;refine(kQ s false 82 1048576 _ _ (wG s w) (by simp) (by simp) hs (by simp) t s1 false Ht.out).mono ?_;rintro e w2⟨rfl,vt,AL⟩;have yk:=AL.size;have ft:=(((aJ w.heap.size w).alloc (au _) _).trans (eD AL (by simp) (au _)));have PO:=ag vt;clear vt AL;go_wp2_with fail;refine(wy s1 _ _ PO.out).mono ?_;rintro e w3⟨rfl,rfl⟩;go_wp2_with fail;refine(sj s1 false 83 4294967295 _ _ PO.out (by simp) (by simp) (by omega) (by simp) m s2 true Hi.out).mono ?_;rintro e w3⟨rfl,Rx,Xx⟩;have AA:=ft.trans (eD Xx ft.size (au _));have Hr3:=ag Rx;clear Rx Xx;go_wp2_with fail;refine(lD s2 true _ _ Hr3.out).mono ?_;rintro e w4⟨rfl,rfl⟩;go_wp2;go_ret3;exact⟨rfl,AA⟩
 ·simp only[aY]at hr;obtain⟨rfl,rfl,rfl⟩:=hr;go_enter func157,ntmps157;go_wp2_with fail;refine(sF s _).mono ?_;rintro e w1⟨rfl,rfl⟩;go_wp2_with fail;refine(kQ s false 82 1048576 _ _ (wG s w) (by simp) (by simp) hs (by simp) t s1 true Ht.out).mono ?_;rintro e w2⟨rfl,vt,AL⟩;have yk:=AL.size;have ft:=(((aJ w.heap.size w).alloc (au _) _).trans (eD AL (by simp) (au _)));have PO:=ag vt;clear vt AL;go_wp2_with fail;refine(amk s1 _ _ PO.out).mono ?_;rintro e w3⟨rfl,rfl⟩;go_wp2_with fail;refine(sj s1 true 83 4294967295 _ _ PO.out (by simp) (by simp) (by omega) (by simp) 0 s1 true (amj _ _ _)).mono ?_;rintro e w3⟨rfl,Rx,Xx⟩;have AA:=ft.trans (eD Xx ft.size (au _));have Hr3:=ag Rx;clear Rx Xx;go_wp2_with fail;refine(lD s1 true _ _ Hr3.out).mono ?_;rintro e w4⟨rfl,rfl⟩;go_wp2;go_ret3;exact⟨rfl,AA⟩
def ahp s rest(hs:s.length≤1048576):yA (cT s++rest)=(s,((cT s).length:Int),0):=by have hb:=uK (bA 82 s);unfold yA cT;rw[bz,iM 82 1048576 s _ ae ae ab ab];simp only[];rw[VY 83 4294967295 _ rest ae ae (ake _) ab];simp only[];have hlen:(bA 82 s++(dN 83 (Cc (bA 82 s)).toNat++rest)).length-(dN 83 (Cc (bA 82 s)).toNat++rest).length=(bA 82 s).length:=ae;grind
end Go.Proofs.YtlddafbgfkocjaaGreatDoor
