import Derived.Test.YtjjdeakghpmpfaaGreatDoorK4
import Derived.Lib.Strings
import Derived.Lib.Slices
import Derived.Lib.Small
import Derived.Lib.Walk
import Derived.Lib.BitFns
set_option maxRecDepth 100000
set_option maxHeartbeats 8000000
set_option linter.all false
open Go.Value renaming int->U,slice->Y,bool->a9,agg->a5,pointer->ci,tuple->dl,iface->em
open Go.IntKind renaming i64->O
open Go.Obj renaming cells->ac
open Go.Ending renaming returned->be
open Go renaming Addr->aiI,Calls->UL,TypeId->EV,Value->rl,World->ns,bodyPost_ret->aiA,results_cell_row->akj,wpList->aja
open Go.Lib renaming bitLen->ajC
open List renaming length_append->aiw,length_cons->aiS,length_nil->akc,range->aiB,range_succ->aju,replicate->an
namespace Go.Proofs
def J3{p:Prop}(h:p:=by
  clear i9 qA GQ qC If;go_wp2;go_roundw;case rel=>exact⟨k+1,n+1,_,aa,aH,aH,K1.out.aN aj _,K2.out.set n _,K3.out.set aj _,Fd.out⟩
  case measure=>simp[intOf];omega):p:=h
def yf{p:Prop}(h:p:=by
  clear hc;go_wp2;go_roundw;case rel=>exact⟨k+1,n,xs,aa,aH,rfl,K1.out,K2.out,K3.out,Fd.out⟩
  case measure=>simp[intOf];omega):p:=h
def mF{p:Prop}(h:p:=by rw[Ry];omega):p:=h
def Cc{p:Prop}(h:p:=by rw[bO];exact cL):p:=h
def Dh{p:Prop}(h:p:=by clear G';go_wp2_with((refine di (n:=16) rfl _ _ _ rfl _ rfl _ cU rfl aG rfl cL ?_;intro w9 b9 g9 s9));refine bodyPost_ret (j8 aD aD b9.blk (Gz.gu underlying82) rfl Cc) rfl ⟨?_,Q0.out.grown g9 λk e=>by have:=aL e;omega⟩;rw[HL.out];rfl):p:=h
def J4{p:Prop}(h:p:=by have j':k=n:=aa;subst j';rw[List.drop_of_length_le aa,fC] at kl;have tt:=k1.len;have HL:=af kl;clear kl;go_wp2_with(first|(refine eQ (n:=16) rfl _ _ rfl _ rfl _ aG _ (Gz.gu underlying82) rfl cL ?_)|(refine di (n:=16) rfl _ _ _ rfl _ rfl _ _ dh aG dh cL ?_;intro w9 b9 g9 s9));refine bodyPost_ret (j8 aD aD b9.blk (Gz.gu underlying82) rfl (by rw[bO,tt];exact cL)) rfl ⟨?_,kq.grown g9 λk e=>by have:=aL e;omega⟩;rw[<-HL.out];rfl):p:=h
abbrev nS:=@List.mem_map
def CU{p:Prop}(h:p:=by intro u hu;obtain⟨y,_,rfl⟩:=nS.1 hu;rfl):p:=h
abbrev fO:=@Nat.mul_le_mul
def um{p:Prop}(h:p:=by rw[bO,hlen];exact cL):p:=h
end Go.Proofs
namespace Go.Proofs.Q0
open Go.Proofs.Tryz
variable{x:Int}{w w':ns}{B n s g:Nat}{a1 a2:aiI}{S:List Nat}{xs:List Int}{v:rl}{t:EV}
def gF:List Nat:=[0,1,4,8,5,2,3,6,9,12,13,10,7,11,14,15]
def ahG:gF.length=16:=rfl
def sC:∀k,k<16->gF[k]?.getD 0<16:=aq
def fC:List (Int×Int)->List Int->Nat->Option (List Int)
 |[],b,_=>some b
 |(z,l)::r,b,p=>if l=0\/z<0\/16-(p:Int)<=z then none else fC r (b.set (gF[p+z.toNat]?.getD 0) l) (p+z.toNat+1)
def fZ(a:List (Int×Int)):Option (List Int):=fC a (an 16 0) 0
def Pz:∀(a:List (Int×Int))(b:List Int)(p:Nat){c:List Int},fC a b p=some c->c.length=b.length
 |[],b,_,c,h=>by simp[fC] at h;rw[h]
 |(z,l)::r,b,p,c,h=>by
  rw[fC] at h;split at h
  ·cases h
  ·rw[Pz r _ _ h,List.length_set]
def yM{a:List (Int×Int)}{c:List Int}(h:fZ a=some c):c.length=16:=(Pz a _ _ h).trans rfl
def Oo:∀(a:List (Int×Int))(b:List Int)(p:Nat),p<=16->16<p+a.length->fC a b p=none
 |[],b,p,h,k=>by simp at k;omega
 |(z,l)::r,b,p,h,k=>by
  rw[fC];split
  ·rfl
  ·rename_i d;exact Oo r _ _ aa (by simp at k;omega)
abbrev bA:=ay×Nat
def bk(b:Nat)(s:bA):Int×bA:=
 match aQ b s.1 with
 |(none,a)=>(0,(a,1))
 |(some n,a)=>(n,(a,s.2))
def eJ:Nat->bA->List (Int×Int)×bA
 |0,s=>([],s)
 |k+1,s=>
  let z:=bk 23 s
  let l:=bk 30 z.2
  let r:=eJ k l.2
  ((z.1,aW (l.1+1))::r.1,r.2)
def hO(s:bA):List Int×bA:=
 let n:=bk 16 s
 let r:=eJ (min n.1 17).toNat n.2
 match fZ r.1 with
 |some b=>(b,r.2)
 |none=>(an 16 0,(r.2.1,if r.2.2=0 then 2 else r.2.2))
def gN:Nat->bA->List Int×bA
 |0,s=>([],s)
 |k+1,s=>
  let m:=bk 9 s
  let r:=gN k m.2
  (m.1::r.1,r.2)
def eS:Nat->bA->List Int×bA
 |0,s=>([],s)
 |k+1,s=>
  let m:=hO s
  let r:=eS k m.2
  (m.1++r.1,r.2)
def dZ:List Int:=an 71 0
def lj(ap:Bool)(s:bA):Int×bA:=if ap then(2,s) else(1+cP s.1 1,(bJ s.1 1,s.2))
def sU(s:bA):List Int×bA:=
 let x:=bk 2 s
 let y:=bk 2 x.2
 ([1,aW x.1,aW y.1,0,0,0,0],y.2)
def mi(s:bA):List Int×bA:=
 let r:=gN 4 s
 ([2,0,0]++r.1,r.2)
def e8(ap:Bool)(s:bA):List Int×bA:=if(lj ap s).1=1 then sU (lj ap s).2 else mi (lj ap s).2
def iw(ap:Bool)(s:bA):bA:=if ap then s else(bJ s.1 0,s.2)
def dR(ap:Bool)(s:bA):List Int×bA:=
 if ap=false/\cP s.1 0=0 then(dZ,(bJ s.1 0,s.2))
 else
  ((e8 ap (iw ap s)).1++(eS 4 (e8 ap (iw ap s)).2).1,(eS 4 (e8 ap (iw ap s)).2).2)
def eI(ap:Bool):Nat->bA->Option (List Int)×Nat
 |0,s=>(some [],s.2)
 |k+1,s=>
  let m:=dR ap s
  if m.2.2≠0 then(none,m.2.2)
  else match eI ap k m.2 with
   |(some r,e)=>(some (m.1++r),e)
   |(none,e)=>(none,e)
section
variable{s:bA}
def kn{b:Nat}(a:b+6<40)(h:bQ s.1):bQ (bk b s).2.1:=by have:=acS a h;unfold bk;split<;>rename_i e<;>rw[e] at this<;>exact this
def zR(b:Nat)(s:bA):0<=(bk b s).1/\(bk b s).1<=65534:=by
 unfold bk;split
 ·omega
 ·rename_i n a e;exact jK (b:=b) (d:=s.1) nI
def PC:∀(k:Nat){s:bA},bQ s.1->bQ (eJ k s).2.1
 |0,_,h=>h
 |k+1,s,h=>PC k (kn aq (kn aq h))
def Oq:∀(k:Nat)(s:bA),(eJ k s).1.length=k
 |0,_=>rfl
 |k+1,s=>by simp[eJ,Oq k]
def NA(h:bQ s.1):bQ (hO s).2.1:=by unfold hO;dsimp only;have:=PC (min (bk 16 s).1 17).toNat (kn (b:=16) aq h);split<;>exact this
def MY(s:bA):(hO s).1.length=16:=by
 unfold hO;dsimp only;split
 ·rename_i b e;exact yM e
 ·rfl
def Ot:∀(k:Nat){s:bA},bQ s.1->bQ (gN k s).2.1
 |0,_,h=>h
 |k+1,s,h=>Ot k (kn aq h)
def DT:∀(k:Nat)(s:bA),(gN k s).1.length=k
 |0,_=>rfl
 |k+1,s=>by simp[gN,DT k]
def PD:∀(k:Nat){s:bA},bQ s.1->bQ (eS k s).2.1
 |0,_,h=>h
 |k+1,s,h=>PD k (NA h)
def zd:∀(k:Nat)(s:bA),(eS k s).1.length=k*16
 |0,_=>rfl
 |k+1,s=>by simp only[eS,aiw,zd k,MY];omega
def abf(ap:Bool)(h:bQ s.1):bQ (lj ap s).2.1:=by
 unfold lj;split
 ·exact h
 ·exact h.jx 1 aq
def abg(ap:Bool)(h:bQ s.1):bQ (e8 ap s).2.1:=by
 have h1:=abf ap h;unfold e8;split
 ·exact kn aq (kn aq h1)
 ·have:=Ot 4 h1;exact this
def D8(ap:Bool)(s:bA):(e8 ap s).1.length=7:=by
 unfold e8;split
 ·rfl
 ·rfl
def abh(ap:Bool)(h:bQ s.1):bQ (iw ap s).1:=by
 unfold iw;split
 ·exact h
 ·exact h.jx 0 aq
def ZM(ap:Bool)(h:bQ s.1):bQ (dR ap s).2.1:=by
 unfold dR;split
 ·exact h.jx 0 aq
 ·have:=PD 4 (abg ap (abh ap h));generalize eS 4 (e8 ap (iw ap s)).2=z at this⊢;exact this
def DU(ap:Bool)(s:bA):(dR ap s).1.length=71:=by
 unfold dR;split
 ·rfl
 ·show((e8 ap (iw ap s)).1++_).length=71;rw[aiw,D8,zd]
def DV(ap:Bool):∀(k:Nat)(s:bA){r:List Int},(eI ap k s).1=some r->r.length=k*71
 |0,_,r,h=>by simp[eI] at h;rw[h];rfl
 |k+1,s,r,h=>by
  rw[eI] at h;have hm:=DU ap s;generalize dR ap s=m at h hm;split at h
  ·cases h
  ·split at h
   ·rename_i a e b;have:=DV ap k _ (r:=a) (by rw[b]);injection h with h;rw[<-h,aiw,hm,this];omega
   ·cases h
end
section
open Go.RowKit
def gV(h: -9223372036854775808<=x/\x<9223372036854775808):wrap64 x=x:=Cb
def EH:Lib.len8tab.size=256:=aC
def agt:∀n:Fin 256,(Lib.len8tab[n.val]'(by rw[EH];exact n.isLt)).toNat=ajC n.val:=by decide+kernel
def SL(n:Nat)(h:n<Lib.len8tab.size):Lib.len8tab[n].toNat=ajC n:=agt ⟨n,by rw[EH] at h;exact h⟩
def aer(w:ns)(h0:0<=x)(h1:x<256):
  UL Gz.prog 187 #[.int .u64 x] w λe w'=>e=be (U O (ajC x.toNat))/\w'=w:=by
 go_enter Gz.gf func187,ntmps187;go_wp2;go_ret;refine⟨congrArg Ending.returned (congrArg (Value.int IntKind.i64) ?_),rfl⟩;have a:=Lib.bitLen_le8 ⟨x.toNat,aa⟩;simp only at a;rw[SL,gV (x:=(ajC x.toNat:Int)) ⟨aa,aa⟩,gV (x:=(ajC x.toNat:Int)) ⟨aa,aa⟩]
def aes(w:ns)(h0:256<=x)(h1:x<65536):
  UL Gz.prog 187 #[.int .u64 x] w λe w'=>e=be (U O (ajC x.toNat))/\w'=w:=by
 have a:=EH;go_enter Gz.gf func187,ntmps187;go_wp2
 ·go_ret;refine⟨congrArg Ending.returned (congrArg (Value.int IntKind.i64) ?_),rfl⟩;have b:=Lib.bitLen_le8 ⟨(x/256).toNat,aa⟩;simp only at b;have s:=Lib.bitLen_shift8 x.toNat aa aa;rw[show x.toNat/256=(x/256).toNat by omega] at s;rw[SL,gV (x:=(ajC (x/256).toNat:Int)) ⟨aa,aa⟩,gV ⟨aa,aa⟩];omega
def afy(h0:0<=x)(h1:x<65536):
  UL Gz.prog 187 #[.int .u64 x] w λe w'=>e=be (U O (ajC x.toNat))/\w'=w:=by
 by_cases h:x<256
 ·exact aer w h0 h
 ·exact aes w aa h1
def bitsLen(x:Int)(w:ns)(h0:0<=x)(h1:x<65536):
  UL Gz.prog 179 #[.int .u64 x] w λe w'=>e=be (U O (ajC x.toNat))/\w'=w:=by
 go_enter Gz.gf func179,ntmps179;go_wp2_with(go_at_call 187;refine(afy h0 h1).mono ?_;rintro e w'⟨rfl,rfl⟩);go_ret;exact⟨rfl,rfl⟩
def NB:∀(f x:Nat),0<x->x<2^f->Lib.bitLenAux f x=x.log2+1
 |0,x,h,k=>by simp at k;omega
 |f+1,x,h,k=>by
  rw[Lib.bitLenAux,if_neg aa,Nat.log2_def];by_cases a:2<=x
  ·rw[if_pos a,NB f (x/2) aa (by rw[Nat.pow_succ] at k;omega)];omega
  ·rw[if_neg a];have:x=1:=aa;subst this;cases f<;>rfl
def YG(x:Nat)(h:0<x)(k:x<2^64):ajC x=x.log2+1:=NB 64 x h k
end
section
open Go.RowKit Go.WideShapes Go.ChangeShapes
def ky(a1 a2:aiI):Nat->rl
 |0=>.nilIface
 |1=>em 233 (ci (some a1))
 |_=>em 233 (ci (some a2))
structure gx(w:ns)(a1 a2:aiI)(B:Nat):Prop where
 e1:w.cell? ⟨0,0,none⟩=some (ky a1 a2 1)
 e2:w.cell? ⟨1,0,none⟩=some (ky a1 a2 2)
 l1:0<B
 l2:1<B
def gx.q(h:gx w a1 a2 B)(hq:Q w w')(a:B<=w.heap.size):gx w' a1 a2 B:=
 ⟨(hq.cell _ _ (cG h.l1 a)).trans h.e1,(hq.cell _ _ (cG h.l2 a)).trans h.e2,h.l1,h.l2⟩
def gx.aw(h:gx w a1 a2 B)(e:av S w w')(a:B<=w.heap.size)(b:∀x,x∈S->B<=x):gx w' a1 a2 B:=
 ⟨(mR e (cG h.l1 a) λk=>by have:=b _ k;have:=h.l1;omega).trans h.e1,(mR e (cG h.l2 a) λk=>by have:=b _ k;have:=h.l2;omega).trans h.e2,h.l1,h.l2⟩
structure RB(w:ns)(r g:Nat)(s:bA)(a1 a2:aiI)(B:Nat)(A:Option aiI)(c:Nat):Prop where
 blk:ak w r 174 #[ci (some ⟨g,0,none⟩),ky a1 a2 s.2]
 db:DB w g s.1 B A c
 ne:r≠g
 le:B<=r
 er:gx w a1 a2 B
section
variable{w w':ns}{r g B c:Nat}{s:bA}{A:Option aiI}{a1 a2:aiI}
def RB.nB(h:RB w r g s a1 a2 B A c):B<=w.heap.size:=aJ h.le (Nat.le_of_lt h.blk.lt)
def RB.q(h:RB w r g s a1 a2 B A c)(hq:Q w w'):RB w' r g s a1 a2 B A c:=⟨h.blk.q hq,h.db.q hq,h.ne,h.le,h.er.q hq h.nB⟩
def RB.aw(h:RB w r g s a1 a2 B A c)(e:av S w w')(a:∀x,x∈S->B<=x)(b:g∉S)(hr:r∉S):RB w' r g s a1 a2 B A c:=
 ⟨h.blk.aw e hr,h.db.aw e a b,h.ne,h.le,h.er.aw e h.nB a⟩
def RB.dec(h:RB w r g s a1 a2 B A c)(e:av [g] w w'){d:ay}{a:Option aiI}{b:Nat}(hd:DB w' g d B a b):RB w' r g (d,s.2) a1 a2 B a b:=
 ⟨h.blk.aw e (by simp[h.ne]),hd,h.ne,h.le,h.er.aw e h.nB λx f=>by simp at f;rw[f];exact h.db.le⟩
def RB.ptr(h:RB w r g s a1 a2 B A c):w.cell? ⟨r,0,none⟩=some (ci (some ⟨g,0,none⟩)):=h.blk.cell 0
def RB.err(h:RB w r g s a1 a2 B A c):w.cell? ⟨r,1,none⟩=some (ky a1 a2 s.2):=h.blk.cell 1
def RB.free(h:RB w r g s a1 a2 B A c)(i:Nat):w.frozen? ⟨r,i,none⟩=false:=h.blk.free i
def RB.RG(h:RB w r g s a1 a2 B A c)(e:Nat):RB (w.setCell ⟨r,1,none⟩ (ky a1 a2 e)) r g (s.1,e) a1 a2 B A c:=
 ⟨h.blk.set 1 _,h.db.aN (λe=>h.ne e.symm) h.le _,h.ne,h.le,h.er.aw (kY w r 1 _) h.nB λx a=>by simp at a;rw[a];exact h.le⟩
end
def uM(j:Nat)(h:j<=15):(2:Int)^(j+1)<=65536:=by have:(2:Nat)^(j+1)<=2^16:=Nat.pow_le_pow_right aq aa;have:((2^(j+1):Nat):Int)<=((2^16:Nat):Int):=aa;exact this
def SM:ajC 65534=16:=aC
def number(r g b B c:Nat)(s:bA)(a1 a2:aiI)(A:Option aiI)(w:ns)(h:RB w r g s a1 a2 B A c)(ok:bQ s.1)(hb:b+6<40):
  UL Gz.prog 156 #[ci (some ⟨r,0,none⟩),U O (b:Int)] w λe w'=>e=be (U O (bk b s).1)/\(∃m o,RB w' r g (bk b s).2 a1 a2 B m o)/\av [r,g] w w':=by
 have HL:=af λw=>bitsLen 65534 w aa aa;go_enter Gz.gf func156,ntmps156;go_wp2;go_loopw[5] (λi wr=>∃(k:Nat)(d:ay)(m:Option aiI)(o:Nat),k<=15/\i=U O k/\Hid (RB wr r g (d,s.2) a1 a2 B m o/\av [r,g] w wr/\bQ d/\gr b (16-k) k d=gr b 16 0 s.1)) (λi _=>16-(intOf i).toNat)
 case atStart=>exact⟨0,s.1,A,c,aa,rfl,h,av.refl _ _,ok,rfl⟩
 case round=>
  obtain⟨k,d,m,o,hk,rfl,hK⟩:=hrel;obtain⟨a,q,u,l⟩:=hK.out;have c0:=a.ptr;have y:=decode g (b+min k 5) B o d m wr a.db u aa;have hkk:(k:Int)<=15:=aa;clear hK h;rw[show((b+min k 5:Nat):Int)=(b:Int)+((min k 5:Nat):Int) by omega] at y;have ahP:((b:Int)+min (k:Int) 5)=((b+min k 5:Nat):Int):=aa
  have f:gr b (16-k) k d=if cP d (b+min k 5)=1 then gr b (16-(k+1)) (k+1) (bJ d (b+min k 5)) else(some k,bJ d (b+min k 5)):=by rw[show 16-k=(15-k)+1 by omega,gr,show 16-(k+1)=15-k by omega]
  have z:=u.jx (b+min k 5) aa;have K2:=af q;have K1:=af a;go_wp2;refine y.mono ?_;rintro e w2⟨rfl,⟨L,M,d2⟩,N⟩;have D:=a.dec N d2;have I:=q.aw N (λx E=>.inl (by simp at E;simp[E]));clear d2 N a q c0 y;rw[l] at f;rcases mV d (b+min k 5) with h0|h1
  ·rw[if_neg (by rw[h0];decide)] at f;rw[h0];generalize bJ d (b+min k 5)=d1 at f z D
   have P:Hid (bk b s=((tailD b k 1 d1).1-1,((tailD b k 1 d1).2,s.2))):=by unfold Hid bk aQ;rw[f]
   clear f l u h0 K1 K2;have C:=af D;have J:=af I;clear D I;go_wp2;go_loopw[6,27] (λv i wr=>∃(j:Nat)(n:Int)(d:ay)(m:Option aiI)(o:Nat),j<=k/\i=U O j/\v=U O n/\Hid (RB wr r g (d,s.2) a1 a2 B m o/\av [r,g] w wr/\bQ d/\tailD b (k-j) n d=tailD b k 1 d1)/\0<=n/\n<2^(j+1)) (λ_ i _=>k-(intOf i).toNat)
   case atStart=>exact⟨0,1,d1,L,M,aa,rfl,rfl,⟨C.out,J.out,z,rfl⟩,aa,aa⟩
   case round=>
    obtain⟨j,n,d,A3,c3,hj,rfl,rfl,hK,Hy,F⟩:=hrel;obtain⟨a,q,u,l⟩:=hK.out;clear hK;by_cases aT:j<k
    ·have tu:(j:Int)<(k:Int):=by omega
     have c0:=a.ptr;have y:=decode g (b+6) B c3 d A3 wr a.db u hb;rw[show((b+6:Nat):Int)=(b:Int)+6 by omega] at y
     have K:tailD b (k-j) n d=tailD b (k-(j+1)) (2*n+cP d (b+6)) (bJ d (b+6)):=by rw[show k-j=(k-(j+1))+1 by omega,tailD]
     have z:=u.jx (b+6) hb;have Q:=uM j aa;have p2:(2:Int)^(j+1+1)=2^(j+1)*2:=Int.pow_succ ..;have G:=mV d (b+6);have R:0<=2*n+cP d (b+6):=aa;have H:2*n+cP d (b+6)<2^(j+1+1):=by rw[p2];omega
     have T:n<=65536:=aa;have GG:=af H;rw[l] at K;clear F Q p2 H;have wn:wrap64 (2*n)=2*n:=gV ⟨aa,aa⟩;go_wp2;refine y.mono ?_;rintro e w5⟨rfl,⟨A5,c5,d5⟩,V⟩;have W:=a.dec V d5;have x6:=q.aw V (λx E=>.inl (by simp at E;simp[E]));clear d5 V a q c0 y;generalize cP d (b+6)=X at G K R GG;generalize bJ d (b+6)=d6 at K z W;have H5:=af W;have X6:=af x6;clear W x6;have wn2:wrap64 (2*n+X)=2*n+X:=gV ⟨aa,aa⟩;go_wp2;go_roundw;case rel=>exact⟨j+1,2*n+X,d6,A5,c5,aa,aH,rfl,⟨H5.out,X6.out,z,K.symm⟩,aa,GG.out⟩
     case measure=>exact bg
    ·have Z:j=k:=by omega
     subst Z;rw[Nat.sub_self,tailD] at l;have e1:=congrArg Prod.fst l;have e2:=congrArg Prod.snd l;dsimp only at e1 e2;have E1:=af e1;have E2:=af e2;have Q:=uM j aa;have T:n<=65536:=aa;clear F Q l e1 e2;go_wp2;go_ret;rw[P.out];exact⟨by rw[<-E1.out];rfl,⟨_,_,by rw[<-E2.out];exact a⟩,q⟩
  ·rw[if_pos h1] at f;rw[h1];generalize bJ d (b+min k 5)=d1 at f z D;have C:=af D;have J:=af I;clear D I K1 K2 u h1;by_cases h15:k=15
   ·subst h15
    have P:Hid (bk b s=(0,(d1,1))):=by unfold Hid bk aQ;rw[f];rfl
    have ce:w2.cell? ⟨0,0,none⟩=some (em 233 (ci (some a1))):=C.out.er.e1;have cf:=C.out.free;have cr:=C.out.err;go_wp2_with(go_at_call 179;refine(HL.out _).mono ?_;rintro e w'⟨rfl,rfl⟩;rw[show ajC (Int.toNat 65534)=16 from SM]);go_ret;rw[P.out];exact⟨rfl,⟨L,M,C.out.RG 1⟩,J.out.set (p:=⟨r,1,none⟩) (.inl aj) _⟩
   ·have agu:(k:Int)+1<16:=by omega
    go_wp2_with(go_at_call 179;refine(HL.out _).mono ?_;rintro e w'⟨rfl,rfl⟩;rw[show ajC (Int.toNat 65534)=16 from SM]);go_roundw;case rel=>exact⟨k+1,d1,L,M,aa,aH,C.out,J.out,z,f.symm⟩
    case measure=>exact bg
end
section
open Go.RowKit
def bu(v:Int):Int:=if v< -32767\/32767<v then -1 else if 0<v then 2*v-1 else -2*v
def Di(v:Int)(h1: -32767<=v)(a:v<=32767):
  UL Gz.prog 161 #[U O v] w λe w'=>e=be (U O (bu v))/\w=w':=by
 by_cases h:0<v
 ·have e:bu v=2*v-1:=by unfold bu;rw[if_neg aa,if_pos h]
  have H:=af e;go_enter Gz.gf func161,ntmps161;exact jb
 ·have e:bu v= -2*v:=by unfold bu;rw[if_neg aa,if_neg h]
  have H:=af e;have b:v<=0:=aa;clear e h;go_enter Gz.gf func161,ntmps161;exact jb
def CX(v:Int)(h1: -32767<=v)(b:v<=32767):
  UL Gz.prog 119 #[U O v] w λe w'=>e=be (U O (bu v))/\w=w':=by
 have a:Hid (decide (-32767<=v/\v<=32767)=true):=decide_eq_true ⟨h1,b⟩;by_cases h:0<v
 ·have e:bu v=2*v-1:=by unfold bu;rw[if_neg aa,if_pos h]
  have H:=af e;go_enter Gz.gf func119,ntmps119;go_wp2;(go_at_call 51;(with_reducible refine(cj _ a).mono ?_);rintro e w'⟨rfl,rfl⟩)
  exact jb
 ·have e:bu v= -2*v:=by unfold bu;rw[if_neg aa,if_neg h]
  have H:=af e;have d:v<=0:=aa;go_enter Gz.gf func119,ntmps119;go_wp2;(go_at_call 51;(with_reducible refine(cj _ a).mono ?_);rintro e w'⟨rfl,rfl⟩)
  exact jb
end
def jy(b:Int)(k i:Nat):List Int:=(aiB i).flatMap λj=>[b+((min j 5:Nat):Int),if j=k then 0 else 1]
def kM(b:Int)(m k i:Nat):List Int:=(aiB i).flatMap λj=>[b+6,((m>>>(k-1-j)%2:Nat):Int)]
def EJ(b:Int)(k i:Nat):jy b k (i+1)=jy b k i++[b+((min i 5:Nat):Int),if i=k then 0 else 1]:=by simp[jy,aju]
def EK(b:Int)(m k i:Nat):kM b m k (i+1)=kM b m k i++[b+6,((m>>>(k-1-i)%2:Nat):Int)]:=by simp[kM,aju]
def QA(b:Int)(k:Nat):∀i,(jy b k i).length=i*2
 |0=>rfl
 |i+1=>by rw[EJ,aiw,QA b k i];simp only[aiS,akc];omega
def QB(b:Int)(m k:Nat):∀i,(kM b m k i).length=i*2
 |0=>rfl
 |i+1=>by rw[EK,aiw,QB b m k i];simp only[aiS,akc];omega
def c7(n b:Int):List Int:=jy b (n+1).toNat.log2 ((n+1).toNat.log2+1)++kM b (n+1).toNat (n+1).toNat.log2 (n+1).toNat.log2
def dI(n:Int):Nat:=2*(n+1).toNat.log2+1
def ki{n b:Int}:(c7 n b).length=dI n*2:=by unfold c7 dI;rw[aiw,QA,QB];omega
def ia:List Int->Int->List (Int×Int)
 |[],_=>[]
 |x::r,z=>if x=0 then ia r (z+1) else(z,x)::ia r 0
def lk(xs:List Int):List Int:=gF.map λi=>xs[i]?.getD 0
def dm(xs:List Int):List (Int×Int):=ia (lk xs) 0
def ix(a:List (Int×Int)):List Int:=a.flatMap λr=>c7 r.1 23++c7 (bu r.2-1) 30
def lH(xs:List Int):List Int:=c7 (dm xs).length 16++ix (dm xs)
def jL(a:List Int):List Int:=a.flatMap λm=>c7 m 9
def lvl(m:List Int)(k:Nat):List Int:=sub m (7+16*k) 16
def fD(m:List Int)(k:Nat):List Int:=(aiB k).flatMap λj=>lH (lvl m j)
def al(m:List Int)(k:Nat):Int:=m[k]?.getD 0
def ml(ap:Bool)(m:List Int):List Int:=if ap then[] else[0,1,1,al m 0-1]
def preB(m:List Int):List Int:=if al m 0=1 then c7 (bu (al m 1)) 2++c7 (bu (al m 2)) 2 else jL (sub m 3 4)
def eU(ap:Bool)(m:List Int):List Int:=
 if ap=false/\al m 0=0 then[0,0] else ml ap m++preB m++fD m 4
def kC(m:List Int):Bool:=al m 1==0&&al m 2==0
def js(m:List Int):Bool:=al m 3==0&&al m 4==0&&al m 5==0&&al m 6==0
def qf(m:List Int):Bool:=(sub m 7 64).all λx=>x==0
def lI(m:List Int):Bool:=(sub m 3 4).all λx=>decide (0<=x/\x<=4)
def kD(m:List Int):Bool:=decide (-16<=al m 1/\al m 1<=16)&&decide (-16<=al m 2/\al m 2<=16)
def jP(m:List Int):Bool:=
 if al m 0=0 then kC m&&js m&&qf m else if al m 0=1 then js m else if al m 0=2 then lI m&&kC m else false
def df(m:List Int):Bool:=jP m&&kD m&&aS (sub m 7 64) 4080
def aO(xs:List Int)(k:Nat):List Int:=sub xs (71*k) 71
def dN(ap:Bool)(m:List Int):Bool:=df m&&(!ap||al m 0==2)
def fR(ap:Bool)(xs:List Int)(n:Nat):Bool:=(aiB n).all λk=>dN ap (aO xs k)
def ju(ap:Bool)(xs:List Int)(n:Nat):List Int:=(aiB n).flatMap λk=>eU ap (aO xs k)
structure aZ where
 low:Int
 span:Int
 ch:List Int
 out:List Int
def jV:List Int->List Int
 |[]=>[]
 |x::r=>if x=255 then 0::jV r else(x+1)::r
def fV(out:List Int):List Int:=(jV out.reverse).reverse
def bT(e:aZ):aZ:=
 if 4294967296<=e.low then{e with low:=(e.low-4294967296)%16777216*256,out:=fV e.out++[(e.low-4294967296)/16777216%256]}
 else{e with low:=e.low%16777216*256,out:=e.out++[e.low/16777216%256]}
def ll(e:aZ):aZ:={bT e with span:=e.span*256}
def jv(e:aZ):aZ:=if e.span<16777216 then(if e.span*256<16777216 then ll (ll e) else ll e) else e
def iy(e:aZ)(c:Nat):Int:=e.span/4096*e.ch[c]?.getD 0
def ig(e:aZ)(c:Nat)(b:Int):aZ:=
 if b=0 then{e with span:=iy e c,ch:=e.ch.set c (bj (e.ch[c]?.getD 0) 0)}
 else{e with low:=e.low+iy e c,span:=e.span-iy e c,ch:=e.ch.set c (bj (e.ch[c]?.getD 0) 1)}
def ib(e:aZ)(c:Nat)(b:Int):aZ:=jv (ig e c b)
def nk:List Int->aZ->aZ
 |c::b::r,e=>nk r (ib e c.toNat b)
 |_,e=>e
def iQ:aZ:=⟨0,4294967295,an 40 2048,[]⟩
def lJ(a:List Int):List Int:=(bT (bT (bT (bT (nk a iQ))))).out
def gR:List Int->Bool
 |c::b::r=>decide (0<=c/\c<=39)&&decide (b=0\/b=1)&&gR r
 |_=>true
def Gg(a:List Int)(n:Nat):Bool:=decide (n<=20000)&&gR a
def ew(ap:Bool)(xs:List Int)(n:Nat):Option (List Int):=
 if(decide (1<=n/\n<=4)&&fR ap xs n)=true then(if Gg (ju ap xs n) ((ju ap xs n).length/2)=true then some (lJ (ju ap xs n)) else none) else none
def j3(x:Int):Int:=x%256
def AK(data:List Int)(n:Int)(ap:Bool):Option (List Int):=
 if 1<=n/\n<=4 then
  match(eI ap n.toNat (eu data,0)).1 with
  |none=>none
  |some xs=>if ew ap xs n.toNat=some (data.map j3) then some xs else none
 else none
section
open Go.RowKit Go.WideShapes Go.ChangeShapes
def od(s k:Nat)(st:Nat×List Int):Nat×List Int:=
 if s%2=0 then(if s-k<4/\k<4 then(st.1+1,st.2.set st.1 (4*((s-k:Nat):Int)+(k:Int))) else st)
 else(if k<4/\s-k<4 then(st.1+1,st.2.set st.1 (4*(k:Int)+((s-k:Nat):Int))) else st)
def qg(s k:Nat)(st:Nat×List Int):Nat×List Int:=(aiB k).foldl (λst j=>od s j st) st
def nf(s:Nat):Nat×List Int:=(aiB s).foldl (λst j=>qg j (j+1) st) (0,an 16 0)
def ZN(s k:Nat)(st:Nat×List Int):qg s (k+1) st=od s k (qg s k st):=by simp[qg,aju]
def YH(s:Nat):nf (s+1)=qg s (s+1) (nf s):=by simp[nf,aju]
def kE:List Int:=gF.map λk:Nat=>(k:Int)
def acU:nf 7=(16,kE):=aC
def afz:∀s,s<7->∀k,k<=s->(s-k<4/\k<4)->(qg s k (nf s)).1<16:=aq
def zv:kE.length=16:=rfl
def cL:(Gz.prog.info? 82).map (·.size)=some 16:=aC
def Ou:UL Gz.prog 182 #[] w λe w'=>e=be (a5 (arr kE))/\Q w w':=by
 go_enter Gz.gf func182,ntmps182;go_wp2;change Code.wp _ _ _ _ ((w.alloc (ac (arr (an 16 0)) 82)).alloc (ac (arr (an 16 0)) 82));have q:Q w ((w.alloc (ac (arr (an 16 0)) 82)).alloc (ac (arr (an 16 0)) 82)):=aR;have u:=(Nb.new 82 16 w (an 16 0) rfl).alloc (ac (arr (an 16 0)) 82);have p:=Nb.new 82 16 (w.alloc (ac (arr (an 16 0)) 82)) (an 16 0) rfl;simp only[World.size_alloc] at p;generalize(w.alloc (ac (arr (an 16 0)) 82)).alloc (ac (arr (an 16 0)) 82)=R at q u p⊢;go_loopw[2,7] (λv i wr=>∃(s n:Nat)(xs:List Int),s<=7/\i=U O s/\v=U O n/\Hid (Nb 82 16 wr w.heap.size (an 16 0)/\Nb 82 16 wr (w.heap.size+1) xs/\Q w wr/\nf s=(n,xs))) (λ_ i _=>7-(intOf i).toNat)
 case atStart=>exact⟨0,0,an 16 0,aa,rfl,rfl,u,p,q,rfl⟩
 case round=>
  obtain⟨s,n,xs,T,rfl,rfl,hK⟩:=hrel;obtain⟨f,j,b,a⟩:=hK.out;clear hK u p q;by_cases y:s<7
  ·have m:(s:Int)<7:=by omega
   have K1:=af f;have K2:=af j;have K3:=af b;have C:=af a;clear f j b a;go_wp2;go_loopw[2,12] (λv i wr=>∃(k n:Nat)(xs:List Int),k<=s+1/\i=U O k/\v=U O n/\Hid (Nb 82 16 wr w.heap.size (an 16 0)/\Nb 82 16 wr (w.heap.size+1) xs/\Q w wr/\qg s k (nf s)=(n,xs))) (λ_ i _=>s+1-(intOf i).toNat)
   case atStart=>exact⟨0,n,xs,aa,rfl,rfl,K1.out,K2.out,K3.out,by rw[C.out];rfl⟩
   case round=>
    obtain⟨k,n,xs,V,rfl,rfl,hK⟩:=hrel;obtain⟨f,j,b,a⟩:=hK.out;clear hK K1 K2 K3 C;by_cases D:k<s+1
    ·have E:(k:Int)<(s:Int)+1:=by omega
     have GQ:(s-k<4/\k<4)->n<16:=λh=>by have:=afz s y k aa h;rw[a] at this;exact this
     have i9:=ZN s k (nf s);rw[a] at i9;have K1:=af f;have K2:=af j;have K3:=af b;clear f j b a;by_cases hc:s-k<4/\k<4
     ·have F:=GQ hc;have G:(n:Int)<16:=aa;obtain⟨qC,If⟩:=hc;have H:(s:Int)-(k:Int)<4:=aa;have I:(k:Int)<4:=aa;have J:=K2.out.at n F;have f2:=K2.out.free n;generalize xs[n]?.getD 0=W at J;by_cases l:s%2=0
      ·have d:((s:Int)%2==0)=true:=by simp;omega
       have qA:od s k (n,xs)=(n+1,xs.set n (4*((s:Int)-(k:Int))+(k:Int))):=by unfold od;rw[if_pos l,if_pos ⟨qC,If⟩,show((s-k:Nat):Int)=(s:Int)-(k:Int) by omega]
       rw[qA] at i9;have Fd:=af i9;have o:(s:Int)-((s:Int)-(k:Int))=(k:Int):=aa;exact J3
      ·have d:((s:Int)%2==0)=false:=by simp;omega
       have qA:od s k (n,xs)=(n+1,xs.set n (4*(k:Int)+((s:Int)-(k:Int)))):=by unfold od;rw[if_neg l,if_pos ⟨If,qC⟩,show((s-k:Nat):Int)=(s:Int)-(k:Int) by omega]
       rw[qA] at i9;have Fd:=af i9;exact J3
     ·have qA:od s k (n,xs)=(n,xs):=by
       unfold od;by_cases l:s%2=0
       ·rw[if_pos l,if_neg hc]
       ·rw[if_neg l,if_neg λh=>hc ⟨h.2,h.1⟩]
      rw[qA] at i9;have Fd:=af i9;clear i9 qA GQ;by_cases l:s%2=0
      ·have d:((s:Int)%2==0)=true:=by simp;omega
       have o:(s:Int)-((s:Int)-(k:Int))=(k:Int):=aa;by_cases qC:(s:Int)-(k:Int)<4
       ·have If:¬(k:Int)<4:=by omega
        exact yf
       ·exact yf
      ·have d:((s:Int)%2==0)=false:=by simp;omega
       by_cases qC:(k:Int)<4
       ·have If:¬(s:Int)-(k:Int)<4:=by omega
        exact yf
       ·exact yf
    ·have z:k=s+1:=by omega
     subst z;have K:Hid (nf (s+1)=(n,xs)):=(YH s).trans a;clear a;go_wp2;go_roundw;case rel=>exact⟨s+1,n,xs,aa,aH,rfl,f,j,b,K.out⟩
     case measure=>exact bg
  ·have m:s=7:=by omega
   subst m;rw[acU] at a;injection a with h1 L;subst h1;subst L;have M:=zv;go_wp2_with(first|(refine eQ (n:=16) rfl _ _ rfl _ rfl _ aG _ (Gz.gu underlying82) rfl cL ?_)|(refine di (n:=16) rfl _ _ _ rfl _ rfl _ _ dh aG dh cL ?_;intro X N P Z));refine aiA (v:=a5 (arr kE)) (akj aD _ _ _ _ _ _ _ aD N.blk (Gz.gu underlying82) rfl (by rw[bO,M];exact cL)) rfl ⟨rfl,b.grown P λk e=>by have:=aL e;omega⟩
end
section
open Go.RowKit Go.WideShapes Go.ChangeShapes
def cU:List Int:=an 16 0
def D9{a:List (Int×Int)}{k:Nat}(d:k<a.length)(b:List Int)(p:Nat):
  fC (a.drop k) b p=if a[k].2=0\/a[k].1<0\/16-(p:Int)<=a[k].1 then none else fC (a.drop (k+1)) (b.set (gF[p+a[k].1.toNat]?.getD 0) a[k].2) (p+a[k].1.toNat+1):=by
 rw[List.drop_eq_getElem_cons d];rfl
def zS{k:Nat}(h:k<16):kE[k]?.getD 0=((gF[k]?.getD 0:Nat):Int):=by revert k;decide
def QC(A:Option aiI)(n c B:Nat)(f:List (Int×Int))(w:ns)(hx:Rd w B A (fl f))(hn:f.length=n)(wu:n<=100)(hB:B<=w.heap.size):
  UL Gz.prog 180 #[Y A n c] w λe w'=>e=be (dl #[a5 (arr ((fZ f).getD cU)),a9 (fZ f).isSome])/\Q w w':=by
 go_enter Gz.gf func180,ntmps180;go_wp2;refine(Ou).mono ?_;rintro e E⟨rfl,q1⟩;have hl:=zv;have cC:(arr kE).size=16:=rfl;have u:=Nb.new 82 16 w cU rfl;have j:=Nb.new 82 16 (w.alloc (ac (arr cU) 82)) cU rfl;rw[World.size_alloc] at j;replace u:=(u.alloc (ac (arr cU) 82)).q q1;replace j:=j.q q1;have H:Q w E:=Q.trans (((Q.refl w).alloc _).alloc _) q1;have N:=j.lt;clear q1;have b5:=Nb.new 82 16 E cU rfl;go_wp2_with((refine di (n:=16) rfl _ _ _ rfl _ rfl _ _ dh aG dh cL ?_;intro w9 I g9 s9));have J:Q E w9:=((Q.refl E).alloc _).grown g9 (λk e=>by have:=aL e;omega);replace u:=u.q J;replace j:=j.q J;replace H:=H.trans J;have y:=I.lt;clear b5 g9 s9 J;obtain⟨m,hm⟩:∃m,E.heap.size=m:=⟨_,rfl⟩;rw[hm] at I N y;rw[hm];clear hm;have HX:=af hx;clear hx;have hnn:(n:Int)<=100:=aa;go_loopw[6,12] (λv i wr=>∃(k p:Nat)(b:List Int),k<=n/\p<=16/\i=U O k/\v=U O p/\Hid (Nb 82 16 wr w.heap.size cU/\Nb 82 16 wr (w.heap.size+1) b/\Nb 82 16 wr m kE/\Q w wr/\m<wr.heap.size/\fC (f.drop k) b p=fZ f)) (λ_ i _=>n-(intOf i).toNat)
 case atStart=>exact⟨0,0,cU,aa,aa,rfl,rfl,u,j,I,H,y,rfl⟩
 case round=>
  obtain⟨k,p,b,hk,hp,rfl,rfl,hK⟩:=hrel;obtain⟨k0,k1,k5,kq,km,kl⟩:=hK.out;clear hK u j I H y;have hwm:w.heap.size+1<wr.heap.size:=aa;by_cases aT:k<n
  ·have j':(k:Int)<(n:Int):=by omega
   have F:k<f.length:=aa;obtain⟨f1,f2⟩:=Ai f k F;have a:=D9 F b p;rw[kl] at a;generalize f[k]=r at f1 f2 a;obtain⟨z,l⟩:=r;dsimp only at f1 f2 a;obtain⟨bb,oo,rfl,Hz,hc⟩:=HX.out.q kq hB mF;have c1:=hc (k*2) mF;have P:=hc (k*2+1) mF;rw[f1] at c1;rw[f2] at P;rw[<-Nat.add_assoc] at P;have agv:(p:Int)<=16:=aa;clear hc f1 f2;have R:=af k0;have K1:=af k1;have K5:=af k5;have T:=af kq;clear k0 k1 k5 kq kl;by_cases G':l=0\/z<0\/16-(p:Int)<=z
   ·rw[if_pos G'] at a;have HL:=af a;clear a;have u:=R.out.alloc (ac #[U O z,U O l] 116);have q0:=T.out.alloc (ac #[U O z,U O l] 116);have Q0:=af q0;clear q0;by_cases h1:l=0
    ·subst h1;exact Dh
    ·have V:(l==0)=false:=by simp[h1]
     by_cases h2:z<0
     ·exact Dh
     ·have h3:16-(p:Int)<=z:=by omega
      have h4:0<=z:=aa;clear h2;exact Dh
   ·rw[if_neg G'] at a;have HL:=af a;have V:(l==0)=false:=aA;have rt:0<=z:=aa;have hz1:z<16-(p:Int):=aa;clear a G';obtain⟨h,rfl⟩:∃h:Nat,z=(h:Int):=⟨z.toNat,aa⟩;rw[Int.toNat_natCast] at HL;have hq:p+h<16:=aa;have W:(p:Int)+(h:Int)<16:=aa;obtain⟨q,C⟩:∃q,p+h=q:=⟨_,rfl⟩;have d:(p:Int)+(h:Int)=(q:Int):=aa;have Bh:=af C;have X:=af d;rw[C] at HL hq;rw[d] at W;clear C d;obtain⟨t,Z⟩:∃t,gF[q]?.getD 0=t:=⟨_,rfl⟩;have o:t<16:=by have:=sC q hq;omega
    have H7:(t:Int)<16:=aa;rw[Z] at HL;go_wp2;rw[X.out];have bR:=ak.new wr 116 #[U O (h:Int),U O l];have D:Q wr (wr.alloc (ac #[U O (h:Int),U O l] 116)):=(Q.refl wr).alloc _;generalize wr.alloc (ac #[U O (h:Int),U O l] 116)=K at bR D⊢;have n0:=R.out.q D;have n1:=K1.out.q D;have n5:=K5.out.q D;have nq:=T.out.trans D;have c5:=n5.at q hq;rw[zS hq,Z] at c5;have cr:=bR.cell;have L:=n1.at t o;generalize b[t]?.getD 0=bt at L;have N0:=af n0;have M:=af n1;have N5:=af n5;have NQ:=af nq;have Bf:=D.size;clear n0 n1 n5 nq R K1 K5 T bR D c1 P Z
    go_still_tail 5,ai
    change aja _ _ _ _ _ K.drew;have L:=M.out.drew.at t o;generalize b[t]?.getD 0=bt at L;have ft:=M.out.drew.free t;have F0:=af (N0.out.drew.aN (p:=⟨w.heap.size+1,t,none⟩) aj (U O l));have F1:=af (M.out.drew.set t l);have F5:=af (N5.out.drew.aN (p:=⟨w.heap.size+1,t,none⟩) aA (U O l));have FQ:=af (NQ.out.drew.set (p:=⟨w.heap.size+1,t,none⟩) aj (U O l));have G:m<((K.drew).setCell ⟨w.heap.size+1,t,none⟩ (U O l)).heap.size:=by simpa[World.setCell] using(show m<K.heap.size by omega)
    generalize K.drew=w3 at L ft F0 F1 F5 FQ G⊢;clear c5 cr N0 M N5 NQ;go_wp2;go_roundw;case rel=>exact⟨k+1,q+1,_,aa,aa,aH,aH,F0.out,F1.out,F5.out,FQ.out,G,HL.out.symm⟩
    case measure=>exact bg
  ·exact J4
end
section
open Go.RowKit Go.WideShapes Go.ChangeShapes
def xU{P:Program}{e:Array Oper}{rest:List Oper}{o:Oper}{a:Act}{C:Exit->Act->ns->Prop}(l:o.guard=none){x y:Operand}{st:EV}(E:o.op=.call {callee:=.builtin .append,args:=#[x,y],argTypes:=#[st,st]})
  (hu:P.underlying st=some (.slice t)){z:rl}{d:Nat}(f:(P.info? t).map (λi=>(i.zero,i.size,i.bytes))=some (some z,s,d))(F:z.cells.size=s)(G:0<s)(p:d<=1000)
  (H:a.eval x=v)(b:az t s w B v n xs)(ad:aiI)(k:List Int)(m:Nat){c:Nat}(I:a.eval y=Y (some ad) m c)(D:k.length=m*s)
  (J:n+m<=1000000000)(q:B<=w.heap.size)(hc:∀j,j<k.length->w.cell? (ad.add j)=some (U O (k[j]?.getD 0)))
  (h:∀v' w',az t s w' B v' (n+m) (xs++k)->w.grownBy w' v.ownBlock->aja P e C rest (a.put o.dst v') w'):aja P e C (o::rest) a w:=by
 obtain⟨i0,hi,u,hz1,hz2⟩:=info_parts f;refine wpList_append_own _ l x y st E B t i0 z s d hu hi u hz1 hz2 F G v n _ H b.2 ad m c (k.map (Value.int .i64)) I (by rw[List.length_map];exact D) ?_ ?_ ?_ ?_ q ?_
 ·grind
 ·exact CU
 ·unfold maxLen;omega
 ·exact aJ (fO J p) aq
 ·intro v' w' h1 K _;exact h v' w' ⟨by rw[aiw,b.1,D,Nat.add_mul],by simpa using h1⟩ K
def iJ(w:ns)(a:List Int)(t:EV)(j:Nat)(b:j<a.length):(w.alloc (ac (arr a) t)).cell? ((⟨w.heap.size,0,none⟩:aiI).add j)=some (U O (a[j]?.getD 0)):=by
 have:=(ak.new w t (arr a)).cell j;rw[mZ a j b] at this;by_cases h0:j=0
 ·subst h0;simpa[Addr.add] using this
 ·simpa[Addr.add,h0] using this
def av.app{a:ns}(h:av S a w)(g:w.grownBy w' v.ownBlock)(o:az t s w B v n xs)(b:a.heap.size<=B):av S a w':=
 h.Rx g λk d=>.inr (aJ b (o.below k d))
def Nb.app{a:EV}{m:Nat}{b:List Int}(h:Nb a m w g b)(k:w.grownBy w' v.ownBlock)(o:az t s w B v n xs)(d:g<B):Nb a m w' g b:=
 h.grown k (λe=>by have:=o.below g e.symm;omega)
def ak.app{a:EV}{cs:Array rl}(h:ak w g a cs)(k:w.grownBy w' v.ownBlock)(o:az t s w B v n xs)(b:g<B):ak w' g a cs:=
 h.grown k (λe=>by have:=o.below g e.symm;omega)
def bB.app{B':Nat}{a:List Int}{A:Option aiI}(h:bB w B' A a)(k:w.grownBy w' v.ownBlock)(o:az t s w B v n xs)(b:B'<=B)(hw:B'<=w.heap.size):bB w' B' A a:=
 h.grown k hw λg e=>by have:=o.below g e;omega
def EM:(Gz.prog.info? 116).map (λi=>(i.zero,i.size,i.bytes))=some (some (a5 #[U O 0,U O 0]),2,16):=aC
def gJ:(Gz.prog.info? 154).map (λi=>(i.zero,i.size,i.bytes))=some (some (a5 #[U O 0,U O 0]),2,16):=aC
def fY:(Gz.prog.info? 85).map (·.size)=some 71:=aC
def DK:(Gz.prog.info? 85).map (λi=>(i.zero,i.size,i.bytes))=some (some (a5 (Array.replicate 71 (U O 0))),71,568):=aC
end
section
open Go.RowKit Go.WideShapes Go.ChangeShapes
def Gh{n:Int}:UL Gz.prog 155 #[U O n] w λe w'=>e=be (U O (aW n))/\w=w':=by
 by_cases h:n<0\/65534<n
 ·exact Wx w h
 ·exact WH n w aa aa
def RB.app{s' B' r c:Nat}{s:bA}{A:Option aiI}(h:RB w r g s a1 a2 B A c)(k:w.grownBy w' v.ownBlock)(o:az t s' w B' v n xs)(h1:r<B')(d:g<B')(e:B<=B'):RB w' r g s a1 a2 B A c:=by
 cases a:v.ownBlock with
 |none=>exact h.q (Q.jf (by rw[a] at k;exact k))
 |some j=>have f:=o.below j a;rw[a] at k;exact h.aw (av.dQ k) (λx b=>by simp at b;omega) aA aA
def levels(r g B c:Nat)(s:bA)(a1 a2:aiI)(A:Option aiI)(w:ns)(h:RB w r g s a1 a2 B A c)(ok:bQ s.1):
  UL Gz.prog 157 #[ci (some ⟨r,0,none⟩)] w λe w'=>e=be (a5 (arr (hO s).1))/\(∃L N,RB w' r g (hO s).2 a1 a2 B L N)/\av [r,g] w w':=by
 have hr:=h.blk.lt;have hg:=h.db.lt;have H8:=h.db.le;have hN:=number r g 16 B c s a1 a2 A (w.alloc (ac (arr cU) 82)) (h.q ((Q.refl w).alloc _)) ok aq;have b0:=Nb.new 82 16 w cU rfl;go_enter Gz.gf func157,ntmps157;go_wp2;refine hN.mono ?_;rintro e w1⟨rfl,⟨A1,c1,h1⟩,x1⟩;obtain⟨n1,n2⟩:=zR 16 s;have P:=kn (b:=16) aq ok;have Uk:hO s=(match fZ (eJ (min (bk 16 s).1 17).toNat (bk 16 s).2).1 with|some b=>(b,(eJ (min (bk 16 s).1 17).toNat (bk 16 s).2).2)|none=>(cU,((eJ (min (bk 16 s).1 17).toNat (bk 16 s).2).2.1,if(eJ (min (bk 16 s).1 17).toNat (bk 16 s).2).2.2=0 then 2 else(eJ (min (bk 16 s).1 17).toNat (bk 16 s).2).2.2))):=rfl;have d:=af Uk;clear Uk hN;generalize(bk 16 s).1=nn at n1 n2 d⊢;generalize(bk 16 s).2=s1 at h1 P d;obtain⟨M,hM⟩:∃M:Nat,(min nn 17).toNat=M:=⟨_,rfl⟩;rw[hM] at d;have H9:min nn 17=(M:Int):=aa;have ahQ:M<=17:=aa;have B0:=af (b0.aw x1 aA);have X1:=af ((av.gQ [r,g] ((Q.refl w).alloc (ac (arr cU) 82))).trans x1);have pl:w.heap.size<w1.heap.size:=by have:=x1.size;simp at this;omega
 have o0:=az.nil 116 2 w1 (w.heap.size+1);clear hM b0 x1 h;generalize hR:eJ M s1=R at d;have HR:=af hR;clear hR n1 n2;go_wp2;go_loopw[3,10] (λv i wr=>∃(k:Nat)(acc:List (Int×Int))(f:bA)(L:Option aiI)(N:Nat),k<=M/\i=U O k/\Hid (RB wr r g f a1 a2 B L N/\az 116 2 wr (w.heap.size+1) v k (fl acc)/\acc.length=k/\Nb 82 16 wr w.heap.size cU/\av [r,g] w wr/\w.heap.size<wr.heap.size/\bQ f.1/\acc++(eJ (M-k) f).1=R.1/\(eJ (M-k) f).2=R.2)) (λ_ i _=>M-(intOf i).toNat)
 case atStart=>exact⟨0,[],s1,A1,c1,aa,rfl,h1,o0,rfl,B0.out,X1.out,pl,P,by rw[Nat.sub_zero,HR.out];rfl,by rw[Nat.sub_zero,HR.out]⟩
 case round=>
  obtain⟨k,acc,f,L,N,hk,rfl,hK⟩:=hrel;obtain⟨k1,k2,k3,k4,k5,k6,k7,u,E⟩:=hK.out;clear hK h1 o0 B0 X1 pl P;by_cases aT:k<M
  ·have Ul:(k:Int)<(M:Int):=by omega
   obtain⟨m,hm⟩:∃m,M-(k+1)=m:=⟨_,rfl⟩
   have C:eJ (M-k) f=(let z:=bk 23 f;let l:=bk 30 z.2;let rr:=eJ m l.2;((z.1,aW (l.1+1))::rr.1,rr.2)):=by rw[show M-k=m+1 by omega,eJ]
   rw[C] at u E;dsimp only at u E;clear C;have Um:=number r g 23 B N f a1 a2 L wr k1 k7 aq;have F:=kn (b:=23) aq k7;obtain⟨n3,n4⟩:=zR 23 f;go_wp2;refine Um.mono ?_;rintro e w2⟨rfl,⟨A2,c2,h2⟩,x2⟩;clear Um;generalize(bk 23 f).1=z at n3 n4 u⊢;generalize(bk 23 f).2=s2 at h2 F u E;have Un:=number r g 30 B c2 s2 a1 a2 A2 w2 h2 F aq;have T:=kn (b:=30) aq F;obtain⟨n5,n6⟩:=zR 30 s2;go_wp2;refine Un.mono ?_;rintro e w3⟨rfl,⟨A3,c3,h3⟩,x3⟩;clear Un;generalize(bk 30 s2).1=l at n5 n6 u⊢;generalize(bk 30 s2).2=s3 at h3 T u E;have D:=x2.trans x3;have q2:=k2.aw D (λx V=>by simp at V;omega);have q4:=k4.aw D aA;have I:=k5.trans D;have q6:w.heap.size<w3.heap.size:=by have:=D.size;omega
   have K1:=af h3;have K4:=af q4;have K5:=af I;have K8:=af u;have K9:=af E;have K7:=af T;have ahI:k+1<=1000000000:=aa;have wl:wrap64 (l+1)=l+1:=gV ⟨aa,aa⟩;clear h2 h3 x2 x3 D k1 k2 k4 k5 k6 k7 u E q4 I F T;go_wp2_with(first|(go_at_call 155;refine(Gh).mono ?_;rintro e w4⟨rfl,rfl⟩)|(at_builtin;refine xU rfl rfl (Gz.gu underlying114) EM rfl aq aq rfl (q2.alloc _) ⟨_,0,none⟩ [z,aW (l+1)] 1 rfl rfl aa aA (λj hj=>iJ _ [z,aW (l+1)] _ j hj) ?_;intro v' w' O2 G2));go_roundw
   case rel=>
    have qa:=q2.alloc (ac #[U O z,U O (aW (l+1))] 116);have hbr:=K1.out.le;refine⟨k+1,acc++[(z,aW (l+1))],s3,A3,c3,aa,aH,(K1.out.q ((Q.refl w3).alloc _)).app G2 qa aa aa aa,by rw[Fl];exact O2,by simp;exact k3,(K4.out.q ((Q.refl w3).alloc _)).app G2 qa aa,(K5.out.alloc _).app G2 qa aa,?_,K7.out,?_,?_⟩
    ·have:=G2.size;simp at this;omega
    ·rw[hm,<-K8.out];simp
    ·rw[hm];exact K9.out
   case measure=>exact bg
  ·have Ul:k=M:=by omega
   subst Ul;rw[Nat.sub_self,eJ] at u E;rw[List.append_nil] at u;have hRR:R=(acc,f):=Prod.ext u.symm E.symm;subst hRR;dsimp only at d;have HB:=af (QC · k);have oH:=k2.form;obtain⟨AA,cc,rfl⟩:=oH;have K1:=af k1;have K4:=af k4;have K5:=af k5;have Uo:=QC AA k cc wr.heap.size acc wr k2.rd k3 aa (au _);clear k1 k2 k4 k5 k7 u E HR HB hk;go_wp2;refine Uo.mono ?_;rintro e G⟨rfl,I⟩;clear Uo;have h5:=K1.out.q I;have b5:=K4.out.q I;have x5:=K5.out.q I;have Bi:=I.size
   have hlen:((fZ acc).getD cU).length=16:=by cases J:fZ acc with|none=>rfl|some b=>exact yM J
   have bn:=Nb.new 82 16 G cU rfl;have b6:=b5.alloc (ac (arr cU) 82);have H5:=af h5;have X5:=af x5;clear h5 x5 b5 K1 K4 K5 I;cases J:fZ acc with
   |some b=>
    rw[J] at d hlen;dsimp only at d;rw[Option.getD_some] at hlen⊢;have HB:=af J;clear J;have H:some w.heap.size≠some G.heap.size:=λe=>by injection e with e;omega
    go_wp2_with(first|(refine eQ (n:=16) rfl _ _ rfl _ rfl _ aG _ (Gz.gu underlying82) rfl cL ?_)|((refine di (n:=16) rfl _ _ _ rfl _ rfl _ _ dh aG dh cL ?_;intro o b9 y s9);have b7:=b6.grown y H)|(refine di (n:=16) rfl _ _ _ rfl _ rfl _ _ dh aG dh cL ?_;intro wz bz K sz));refine aiA (akj aD _ _ _ _ _ _ _ aD bz.blk (Gz.gu underlying82) rfl um) rfl ?_;rw[d.out];have W:Q G o:=((Q.refl G).alloc _).grown y (λk e=>by have:=aL e;omega);exact⟨rfl,⟨_,_,(H5.out.q W).aw (av.dQ K) (λx V=>by simp at V;have:=H5.out.le;omega) aA aA⟩,(X5.out.q W).grown K (.inr (au _))⟩
   |none=>
    rw[J] at d hlen;dsimp only at d;rw[Option.getD_none] at hlen⊢;have HB:=af J;clear J;have H:some w.heap.size≠some G.heap.size:=λe=>by injection e with e;omega
    have W:∀o,(G.alloc (ac (arr cU) 82)).grownBy o (some G.heap.size)->Q G o:=λo y=>((Q.refl G).alloc _).grown y (λk e=>by have:=aL e;omega);have hle:=H5.out.le;by_cases he:f.2=0
    ·rw[if_pos he] at d;have X:(∀o,RB o r g f a1 a2 B L N->o.cell? ⟨r,1,none⟩=some .nilIface):=λo Z=>by have:=Z.err;rw[he] at this;exact this
     have E2:=af X;clear X he;go_wp2_with(first|(refine eQ (n:=16) rfl _ _ rfl _ rfl _ aG _ (Gz.gu underlying82) rfl cL ?_)|((refine di (n:=16) rfl _ _ _ rfl _ rfl _ _ dh aG dh cL ?_;intro o b9 y s9);have b7:=b6.grown y H;have q9:=H5.out.q (W _ y);have ce:=E2.out _ q9;have cf:=q9.free;have cg:o.cell? ⟨1,0,none⟩=some (em 233 (ci (some a2))):=q9.er.e2;have b9e:=b9.aN (p:=⟨r,1,none⟩) aA (em 233 (ci (some a2)));have b7e:=b7.aN (p:=⟨r,1,none⟩) aA (em 233 (ci (some a2))))|(refine di (n:=16) rfl _ _ _ rfl _ rfl _ _ dh aG dh cL ?_;intro wz bz K sz));refine aiA (akj aD _ _ _ _ _ _ _ aD bz.blk (Gz.gu underlying82) rfl um) rfl ?_;rw[d.out];have Z:=q9.RG 2;exact⟨rfl,⟨_,_,Z.aw (av.dQ K) (λx V=>by simp at V;omega) aA aA⟩,((X5.out.q (W _ y)).set (p:=⟨r,1,none⟩) (.inl aj) _).grown K (.inr (au _))⟩
    ·rw[if_neg he] at d
     have X:∃a,∀o,RB o r g f a1 a2 B L N->o.cell? ⟨r,1,none⟩=some (em 233 (ci (some a))):=by
      by_cases h1:f.2=1
      ·exact⟨a1,λo Z=>by have:=Z.err;rw[h1] at this;exact this⟩
      ·refine⟨a2,λo Z=>?_⟩;have:=Z.err;rw[this];obtain⟨n,hn⟩:∃n,f.2=n+2:=⟨f.2-2,aa⟩;rw[hn];rfl
     obtain⟨ae,X⟩:=X;have E2:=af X;clear X he;go_wp2_with(first|(refine eQ (n:=16) rfl _ _ rfl _ rfl _ aG _ (Gz.gu underlying82) rfl cL ?_)|((refine di (n:=16) rfl _ _ _ rfl _ rfl _ _ dh aG dh cL ?_;intro o b9 y s9);have b7:=b6.grown y H;have q9:=H5.out.q (W _ y);have ce:=E2.out _ q9)|(refine di (n:=16) rfl _ _ _ rfl _ rfl _ _ dh aG dh cL ?_;intro wz bz K sz));refine aiA (akj aD _ _ _ _ _ _ _ aD bz.blk (Gz.gu underlying82) rfl um) rfl ?_;rw[d.out];exact⟨rfl,⟨_,_,q9.aw (av.dQ K) (λx V=>by simp at V;omega) aA aA⟩,(X5.out.q (W _ y)).grown K (.inr (au _))⟩
end
end Go.Proofs.Q0
