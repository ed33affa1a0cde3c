import Derived.Test.YtfmnlpedhgficaaGreatDoorK2
import Derived.Great.BuildSlice
set_option maxRecDepth 100000
set_option maxHeartbeats 8000000
set_option linter.all false
open Go.Value renaming int->U,slice->Y,bool->a5,agg->a9,pointer->bi,tuple->ci,iface->em
open Go.IntKind renaming i64->O
open Go.Obj renaming cells->ac
open Go.Ending renaming returned->be
open Bool renaming false->Bz,true->AT
open Go renaming Addr->ajF,Calls->aiK,Oper->akG,Operand->ajR,TypeId->TO,Value->so,World->AS,bodyPost_ret->ajz,results_cell_row->akL,wpList->ajU
open Go.World renaming size_alloc->OF
open List renaming length_append->ajq,length_cons->ajE,length_nil->akU,range->ajv,range_succ->akq,replicate->rl
open Option renaming none->ns,some->an
namespace Go.Proofs
def Ku{p:Prop}(h:p:=by
  clear i9 qY Hv qZ Nm;go_wp2;go_roundw;case rel=>exact⟨k+1,n+1,_,aa,aF,aF,K1.out.aN aj _,K2.out.set n _,K3.out.set aj _,EQ.out⟩
  case measure=>simp[intOf];omega):p:=h
def zf{p:Prop}(h:p:=by
  clear hc;go_wp2;go_roundw;case rel=>exact⟨k+1,n,xs,aa,aF,rfl,K1.out,K2.out,K3.out,EQ.out⟩
  case measure=>simp[intOf];omega):p:=h
def ny{p:Prop}(h:p:=by rw[Sk];omega):p:=h
def CY{p:Prop}(h:p:=by rw[bQ];exact cN):p:=h
def Dt{p:Prop}(h:p:=by clear F';go_wp2_with((refine dx (n:=16) rfl _ _ _ rfl _ rfl _ cZ rfl aG rfl cN ?_;intro w9 b9 g9 s9));refine bodyPost_ret (kV aD aD b9.blk (Gz.gu underlying94) rfl CY) rfl ⟨?_,Q0.out.grown g9 λk e=>by have:=aJ e;omega⟩;rw[HL.out];rfl):p:=h
def Kv{p:Prop}(h:p:=by have jn:k=n:=aa;subst jn;rw[List.drop_of_length_le aa,fT] at kl;have ug:=k1.len;have HL:=af kl;clear kl;go_wp2_with(first|(refine e8 (n:=16) rfl _ _ rfl _ rfl _ aG _ (Gz.gu underlying94) rfl cN ?_)|(refine dx (n:=16) rfl _ _ _ rfl _ rfl _ _ dw aG dw cN ?_;intro w9 b9 g9 s9));refine bodyPost_ret (kV aD aD b9.blk (Gz.gu underlying94) rfl (by rw[bQ,ug];exact cN)) rfl ⟨?_,kq.grown g9 λk e=>by have:=aJ e;omega⟩;rw[<-HL.out];rfl):p:=h
abbrev oR:=@List.mem_map
def Du{p:Prop}(h:p:=by intro u hu;obtain⟨y,_,rfl⟩:=oR.1 hu;rfl):p:=h
abbrev gj:=@Nat.mul_le_mul
def vj{p:Prop}(h:p:=by rw[bQ,hlen];exact cN):p:=h
def r9{p:Prop}(h:p:=by first|rfl|assumption):p:=h
def CZ{p:Prop}(h:p:=by rw[bQ];exact fK):p:=h
abbrev zo:=@Array.ext_getElem?
abbrev pO:=@Option.isSome_iff_exists
end Go.Proofs
namespace Go.Proofs.Q0
open Go.Proofs.Tryz
variable{w w':AS}{k c B n s g:Nat}{xs:List Int}{v:so}{t:TO}{A:Option ajF}
section
open Go.RowKit
def bu(v:Int):Int:=if v< -32767\/32767<v then -1 else if 0<v then 2*v-1 else -2*v
def DQ(v:Int)(h1: -32767<=v)(a:v<=32767):
  aiK Gz.prog 172 #[U O v] w λe w'=>e=be (U O (bu v))/\w=w':=by
 by_cases h:0<v
 ·have e:bu v=2*v-1:=by unfold bu;rw[if_neg aa,if_pos h]
  have H:=af e;go_enter Gz.gf func172,ntmps172;exact jF
 ·have e:bu v= -2*v:=by unfold bu;rw[if_neg aa,if_neg h]
  have H:=af e;have b:v<=0:=aa;clear e h;go_enter Gz.gf func172,ntmps172;exact jF
def Dv(v:Int)(h1: -32767<=v)(b:v<=32767):
  aiK Gz.prog 130 #[U O v] w λe w'=>e=be (U O (bu v))/\w=w':=by
 have a:Hid (decide (-32767<=v/\v<=32767)=AT):=decide_eq_true ⟨h1,b⟩;by_cases h:0<v
 ·have e:bu v=2*v-1:=by unfold bu;rw[if_neg aa,if_pos h]
  have H:=af e;go_enter Gz.gf func130,ntmps130;go_wp2;(go_at_call 14;(with_reducible refine(bZ _ a).mono ?_);rintro e w'⟨rfl,rfl⟩)
  exact jF
 ·have e:bu v= -2*v:=by unfold bu;rw[if_neg aa,if_neg h]
  have H:=af e;have d:v<=0:=aa;go_enter Gz.gf func130,ntmps130;go_wp2;(go_at_call 14;(with_reducible refine(bZ _ a).mono ?_);rintro e w'⟨rfl,rfl⟩)
  exact jF
end
def jZ(b:Int)(k i:Nat):List Int:=(ajv i).flatMap λj=>[b+((min j 5:Nat):Int),if j=k then 0 else 1]
def lK(b:Int)(m k i:Nat):List Int:=(ajv i).flatMap λj=>[b+6,((m>>>(k-1-j)%2:Nat):Int)]
def Fs(b:Int)(k i:Nat):jZ b k (i+1)=jZ b k i++[b+((min i 5:Nat):Int),if i=k then 0 else 1]:=by simp[jZ,akq]
def Ft(b:Int)(m k i:Nat):lK b m k (i+1)=lK b m k i++[b+6,((m>>>(k-1-i)%2:Nat):Int)]:=by simp[lK,akq]
def Q9(b:Int)(k:Nat):∀i,(jZ b k i).length=i*2
 |0=>rfl
 |i+1=>by rw[Fs,ajq,Q9 b k i];simp only[ajE,akU];omega
def Ra(b:Int)(m k:Nat):∀i,(lK b m k i).length=i*2
 |0=>rfl
 |i+1=>by rw[Ft,ajq,Ra b m k i];simp only[ajE,akU];omega
def dn(n b:Int):List Int:=jZ b (n+1).toNat.log2 ((n+1).toNat.log2+1)++lK b (n+1).toNat (n+1).toNat.log2 (n+1).toNat.log2
def dN(n:Int):Nat:=2*(n+1).toNat.log2+1
def kX{n b:Int}:(dn n b).length=dN n*2:=by unfold dn dN;rw[ajq,Q9,Ra];omega
def iH:List Int->Int->List (Int×Int)
 |[],_=>[]
 |x::r,z=>if x=0 then iH r (z+1) else(z,x)::iH r 0
def ma(xs:List Int):List Int:=gZ.map λi=>xs[i]?.getD 0
def dy(xs:List Int):List (Int×Int):=iH (ma xs) 0
def iU(a:List (Int×Int)):List Int:=a.flatMap λr=>dn r.1 23++dn (bu r.2-1) 30
def my(xs:List Int):List Int:=dn (dy xs).length 16++iU (dy xs)
def kn(a:List Int):List Int:=a.flatMap λm=>dn m 9
def lvl(m:List Int)(k:Nat):List Int:=sub m (7+16*k) 16
def fU(m:List Int)(k:Nat):List Int:=(ajv k).flatMap λj=>my (lvl m j)
def aq(m:List Int)(k:Nat):Int:=m[k]?.getD 0
def m8(ap:Bool)(m:List Int):List Int:=if ap then[] else[0,1,1,aq m 0-1]
def preB(m:List Int):List Int:=if aq m 0=1 then dn (bu (aq m 1)) 2++dn (bu (aq m 2)) 2 else kn (sub m 3 4)
def fi(ap:Bool)(m:List Int):List Int:=
 if ap=Bz/\aq m 0=0 then[0,0] else m8 ap m++preB m++fU m 4
def lA(m:List Int):Bool:=aq m 1==0&&aq m 2==0
def jU(m:List Int):Bool:=aq m 3==0&&aq m 4==0&&aq m 5==0&&aq m 6==0
def qK(m:List Int):Bool:=(sub m 7 64).all λx=>x==0
def mz(m:List Int):Bool:=(sub m 3 4).all λx=>decide (0<=x/\x<=4)
def lB(m:List Int):Bool:=decide (-16<=aq m 1/\aq m 1<=16)&&decide (-16<=aq m 2/\aq m 2<=16)
def kt(m:List Int):Bool:=
 if aq m 0=0 then lA m&&jU m&&qK m else if aq m 0=1 then jU m else if aq m 0=2 then mz m&&lA m else Bz
def dt(m:List Int):Bool:=kt m&&lB m&&aS (sub m 7 64) 4080
def aO(xs:List Int)(k:Nat):List Int:=sub xs (71*k) 71
def dS(ap:Bool)(m:List Int):Bool:=dt m&&(!ap||aq m 0==2)
def gx(ap:Bool)(xs:List Int)(n:Nat):Bool:=(ajv n).all λk=>dS ap (aO xs k)
def jV(ap:Bool)(xs:List Int)(n:Nat):List Int:=(ajv n).flatMap λk=>fi ap (aO xs k)
structure aY where
 low:Int
 span:Int
 ch:List Int
 out:List Int
def kF:List Int->List Int
 |[]=>[]
 |x::r=>if x=255 then 0::kF r else(x+1)::r
def gI(out:List Int):List Int:=(kF out.reverse).reverse
def bV(e:aY):aY:=
 if 4294967296<=e.low then{e with low:=(e.low-4294967296)%16777216*256,out:=gI e.out++[(e.low-4294967296)/16777216%256]}
 else{e with low:=e.low%16777216*256,out:=e.out++[e.low/16777216%256]}
def mb(e:aY):aY:={bV e with span:=e.span*256}
def jW(e:aY):aY:=if e.span<16777216 then(if e.span*256<16777216 then mb (mb e) else mb e) else e
def iW(e:aY)(c:Nat):Int:=e.span/4096*e.ch[c]?.getD 0
def iL(e:aY)(c:Nat)(b:Int):aY:=
 if b=0 then{e with span:=iW e c,ch:=e.ch.set c (bj (e.ch[c]?.getD 0) 0)}
 else{e with low:=e.low+iW e c,span:=e.span-iW e c,ch:=e.ch.set c (bj (e.ch[c]?.getD 0) 1)}
def iI(e:aY)(c:Nat)(b:Int):aY:=jW (iL e c b)
def oj:List Int->aY->aY
 |c::b::r,e=>oj r (iI e c.toNat b)
 |_,e=>e
def ju:aY:=⟨0,4294967295,rl 40 2048,[]⟩
def mA(a:List Int):List Int:=(bV (bV (bV (bV (oj a ju))))).out
def iq:List Int->Bool
 |c::b::r=>decide (0<=c/\c<=39)&&decide (b=0\/b=1)&&iq r
 |_=>AT
def GS(a:List Int)(n:Nat):Bool:=decide (n<=20000)&&iq a
def eI(ap:Bool)(xs:List Int)(n:Nat):Option (List Int):=
 if(decide (1<=n/\n<=4)&&gx ap xs n)=AT then(if GS (jV ap xs n) ((jV ap xs n).length/2)=AT then an (mA (jV ap xs n)) else ns) else ns
def kN(x:Int):Int:=x%256
def BN(data:List Int)(n:Int)(ap:Bool):Option (List Int):=
 if 1<=n/\n<=4 then
  match(eR ap n.toNat (eG data,0)).1 with
  |none=>ns
  |some xs=>if eI ap xs n.toNat=an (data.map kN) then an xs else ns
 else ns
section
open Go.RowKit Go.WideShapes Go.ChangeShapes
def o7(s k:Nat)(st:Nat×List Int):Nat×List Int:=
 if s%2=0 then(if s-k<4/\k<4 then(st.1+1,st.2.set st.1 (4*((s-k:Nat):Int)+(k:Int))) else st)
 else(if k<4/\s-k<4 then(st.1+1,st.2.set st.1 (4*(k:Int)+((s-k:Nat):Int))) else st)
def qL(s k:Nat)(st:Nat×List Int):Nat×List Int:=(ajv k).foldl (λst j=>o7 s j st) st
def nW(s:Nat):Nat×List Int:=(ajv s).foldl (λst j=>qL j (j+1) st) (0,rl 16 0)
def aav(s k:Nat)(st:Nat×List Int):qL s (k+1) st=o7 s k (qL s k st):=by simp[qL,akq]
def Zp(s:Nat):nW (s+1)=qL s (s+1) (nW s):=by simp[nW,akq]
def lC:List Int:=gZ.map λk:Nat=>(k:Int)
def adG:nW 7=(16,lC):=aE
def agh:∀s,s<7->∀k,k<=s->(s-k<4/\k<4)->(qL s k (nW s)).1<16:=al
def Ae:lC.length=16:=rfl
def cN:(Gz.prog.info? 94).map (·.size)=an 16:=aE
def OS:aiK Gz.prog 193 #[] w λe w'=>e=be (a9 (arr lC))/\Q w w':=by
 go_enter Gz.gf func193,ntmps193;go_wp2;change Code.wp _ _ _ _ ((w.alloc (ac (arr (rl 16 0)) 94)).alloc (ac (arr (rl 16 0)) 94));have q:Q w ((w.alloc (ac (arr (rl 16 0)) 94)).alloc (ac (arr (rl 16 0)) 94)):=aU;have r:=(Nb.new 94 16 w (rl 16 0) rfl).alloc (ac (arr (rl 16 0)) 94);have p:=Nb.new 94 16 (w.alloc (ac (arr (rl 16 0)) 94)) (rl 16 0) rfl;simp only[OF] at p;generalize(w.alloc (ac (arr (rl 16 0)) 94)).alloc (ac (arr (rl 16 0)) 94)=N at q r p⊢;go_loopw[2,7] (λv i wr=>∃(s n:Nat)(xs:List Int),s<=7/\i=U O s/\v=U O n/\Hid (Nb 94 16 wr w.heap.size (rl 16 0)/\Nb 94 16 wr (w.heap.size+1) xs/\Q w wr/\nW s=(n,xs))) (λ_ i _=>7-(intOf i).toNat)
 case atStart=>exact⟨0,0,rl 16 0,aa,rfl,rfl,r,p,q,rfl⟩
 case round=>
  obtain⟨s,n,xs,P,rfl,rfl,hK⟩:=hrel;obtain⟨f,j,b,a⟩:=hK.out;clear hK r p q;by_cases u:s<7
  ·have m:(s:Int)<7:=by omega
   have K1:=af f;have K2:=af j;have K3:=af b;have y:=af a;clear f j b a;go_wp2;go_loopw[2,12] (λv i wr=>∃(k n:Nat)(xs:List Int),k<=s+1/\i=U O k/\v=U O n/\Hid (Nb 94 16 wr w.heap.size (rl 16 0)/\Nb 94 16 wr (w.heap.size+1) xs/\Q w wr/\qL s k (nW s)=(n,xs))) (λ_ i _=>s+1-(intOf i).toNat)
   case atStart=>exact⟨0,n,xs,aa,rfl,rfl,K1.out,K2.out,K3.out,by rw[y.out];rfl⟩
   case round=>
    obtain⟨k,n,xs,R,rfl,rfl,hK⟩:=hrel;obtain⟨f,j,b,a⟩:=hK.out;clear hK K1 K2 K3 y;by_cases z:k<s+1
    ·have C:(k:Int)<(s:Int)+1:=by omega
     have Hv:(s-k<4/\k<4)->n<16:=λh=>by have:=agh s u k aa h;rw[a] at this;exact this
     have i9:=aav s k (nW s);rw[a] at i9;have K1:=af f;have K2:=af j;have K3:=af b;clear f j b a;by_cases hc:s-k<4/\k<4
     ·have D:=Hv hc;have E:(n:Int)<16:=aa;obtain⟨qZ,Nm⟩:=hc;have F:(s:Int)-(k:Int)<4:=aa;have G:(k:Int)<4:=aa;have H:=K2.out.at n D;have f2:=K2.out.free n;generalize xs[n]?.getD 0=S at H;by_cases l:s%2=0
      ·have d:((s:Int)%2==0)=AT:=by simp;omega
       have qY:o7 s k (n,xs)=(n+1,xs.set n (4*((s:Int)-(k:Int))+(k:Int))):=by unfold o7;rw[if_pos l,if_pos ⟨qZ,Nm⟩,show((s-k:Nat):Int)=(s:Int)-(k:Int) by omega]
       rw[qY] at i9;have EQ:=af i9;have o:(s:Int)-((s:Int)-(k:Int))=(k:Int):=aa;exact Ku
      ·have d:((s:Int)%2==0)=Bz:=by simp;omega
       have qY:o7 s k (n,xs)=(n+1,xs.set n (4*(k:Int)+((s:Int)-(k:Int)))):=by unfold o7;rw[if_neg l,if_pos ⟨Nm,qZ⟩,show((s-k:Nat):Int)=(s:Int)-(k:Int) by omega]
       rw[qY] at i9;have EQ:=af i9;exact Ku
     ·have qY:o7 s k (n,xs)=(n,xs):=by
       unfold o7;by_cases l:s%2=0
       ·rw[if_pos l,if_neg hc]
       ·rw[if_neg l,if_neg λh=>hc ⟨h.2,h.1⟩]
      rw[qY] at i9;have EQ:=af i9;clear i9 qY Hv;by_cases l:s%2=0
      ·have d:((s:Int)%2==0)=AT:=by simp;omega
       have o:(s:Int)-((s:Int)-(k:Int))=(k:Int):=aa;by_cases qZ:(s:Int)-(k:Int)<4
       ·have Nm:¬(k:Int)<4:=by omega
        exact zf
       ·exact zf
      ·have d:((s:Int)%2==0)=Bz:=by simp;omega
       by_cases qZ:(k:Int)<4
       ·have Nm:¬(s:Int)-(k:Int)<4:=by omega
        exact zf
       ·exact zf
    ·have x:k=s+1:=by omega
     subst x;have I:Hid (nW (s+1)=(n,xs)):=(Zp s).trans a;clear a;go_wp2;go_roundw;case rel=>exact⟨s+1,n,xs,aa,aF,rfl,f,j,b,I.out⟩
     case measure=>exact aT
  ·have m:s=7:=by omega
   subst m;rw[adG] at a;injection a with h1 J;subst h1;subst J;have K:=Ae;go_wp2_with(first|(refine e8 (n:=16) rfl _ _ rfl _ rfl _ aG _ (Gz.gu underlying94) rfl cN ?_)|(refine dx (n:=16) rfl _ _ _ rfl _ rfl _ _ dw aG dw cN ?_;intro T L M V));refine ajz (v:=a9 (arr lC)) (akL aD _ _ _ _ _ _ _ aD L.blk (Gz.gu underlying94) rfl (by rw[bQ,K];exact cN)) rfl ⟨rfl,b.grown M λk e=>by have:=aJ e;omega⟩
end
section
open Go.RowKit Go.WideShapes Go.ChangeShapes
def cZ:List Int:=rl 16 0
def EN{a:List (Int×Int)}(d:k<a.length)(b:List Int)(p:Nat):
  fT (a.drop k) b p=if a[k].2=0\/a[k].1<0\/16-(p:Int)<=a[k].1 then ns else fT (a.drop (k+1)) (b.set (gZ[p+a[k].1.toNat]?.getD 0) a[k].2) (p+a[k].1.toNat+1):=by
 rw[List.drop_eq_getElem_cons d];rfl
def AL(h:k<16):lC[k]?.getD 0=((gZ[k]?.getD 0:Nat):Int):=by revert k;decide
def Rb(A:Option ajF)(n c B:Nat)(f:List (Int×Int))(w:AS)(hx:Rd w B A (fl f))(hn:f.length=n)(xu:n<=100)(hB:B<=w.heap.size):
  aiK Gz.prog 191 #[Y A n c] w λe w'=>e=be (ci #[a9 (arr ((gO f).getD cZ)),a5 (gO f).isSome])/\Q w w':=by
 go_enter Gz.gf func191,ntmps191;go_wp2;refine(OS).mono ?_;rintro e D⟨rfl,q1⟩;have hl:=Ae;have cM:(arr lC).size=16:=rfl;have u:=Nb.new 94 16 w cZ rfl;have j:=Nb.new 94 16 (w.alloc (ac (arr cZ) 94)) cZ rfl;rw[OF] at j;replace u:=(u.alloc (ac (arr cZ) 94)).q q1;replace j:=j.q q1;have G:Q w D:=Q.trans (((Q.refl w).alloc _).alloc _) q1;have M:=j.lt;clear q1;have b5:=Nb.new 94 16 D cZ rfl;go_wp2_with((refine dx (n:=16) rfl _ _ _ rfl _ rfl _ _ dw aG dw cN ?_;intro w9 H g9 s9));have I:Q D w9:=((Q.refl D).alloc _).grown g9 (λk e=>by have:=aJ e;omega);replace u:=u.q I;replace j:=j.q I;replace G:=G.trans I;have x:=H.lt;clear b5 g9 s9 I;obtain⟨m,hm⟩:∃m,D.heap.size=m:=⟨_,rfl⟩;rw[hm] at H M x;rw[hm];clear hm;have HX:=af hx;clear hx;have hnn:(n:Int)<=100:=aa;go_loopw[6,12] (λv i wr=>∃(k p:Nat)(b:List Int),k<=n/\p<=16/\i=U O k/\v=U O p/\Hid (Nb 94 16 wr w.heap.size cZ/\Nb 94 16 wr (w.heap.size+1) b/\Nb 94 16 wr m lC/\Q w wr/\m<wr.heap.size/\fT (f.drop k) b p=gO f)) (λ_ i _=>n-(intOf i).toNat)
 case atStart=>exact⟨0,0,cZ,aa,aa,rfl,rfl,u,j,H,G,x,rfl⟩
 case round=>
  obtain⟨k,p,b,hk,hp,rfl,rfl,hK⟩:=hrel;obtain⟨k0,k1,k5,kq,km,kl⟩:=hK.out;clear hK u j H G x;have hwm:w.heap.size+1<wr.heap.size:=aa;by_cases aV:k<n
  ·have jn:(k:Int)<(n:Int):=by omega
   have E:k<f.length:=aa;obtain⟨f1,f2⟩:=Bn f k E;have a:=EN E b p;rw[kl] at a;generalize f[k]=r at f1 f2 a;obtain⟨z,l⟩:=r;dsimp only at f1 f2 a;obtain⟨bb,oo,rfl,IB,hc⟩:=HX.out.q kq hB ny;have c1:=hc (k*2) ny;have N:=hc (k*2+1) ny;rw[f1] at c1;rw[f2] at N;rw[<-Nat.add_assoc] at N;have ahl:(p:Int)<=16:=aa;clear hc f1 f2;have P:=af k0;have K1:=af k1;have K5:=af k5;have R:=af kq;clear k0 k1 k5 kq kl;by_cases F':l=0\/z<0\/16-(p:Int)<=z
   ·rw[if_pos F'] at a;have HL:=af a;clear a;have u:=P.out.alloc (ac #[U O z,U O l] 126);have q0:=R.out.alloc (ac #[U O z,U O l] 126);have Q0:=af q0;clear q0;by_cases h1:l=0
    ·subst h1;exact Dt
    ·have S:(l==0)=Bz:=by simp[h1]
     by_cases h2:z<0
     ·exact Dt
     ·have h3:16-(p:Int)<=z:=by omega
      have h4:0<=z:=aa;clear h2;exact Dt
   ·rw[if_neg F'] at a;have HL:=af a;have S:(l==0)=Bz:=aA;have mt:0<=z:=aa;have hz1:z<16-(p:Int):=aa;clear a F';obtain⟨h,rfl⟩:∃h:Nat,z=(h:Int):=⟨z.toNat,aa⟩;rw[Int.toNat_natCast] at HL;have hq:p+h<16:=aa;have T:(p:Int)+(h:Int)<16:=aa;obtain⟨q,y⟩:∃q,p+h=q:=⟨_,rfl⟩;have d:(p:Int)+(h:Int)=(q:Int):=aa;have Cc:=af y;have V:=af d;rw[y] at HL hq;rw[d] at T;clear y d;obtain⟨t,W⟩:∃t,gZ[q]?.getD 0=t:=⟨_,rfl⟩;have o:t<16:=by have:=tn q hq;omega
    have IC:(t:Int)<16:=aa;rw[W] at HL;go_wp2;rw[V.out];have X:=ak.new wr 126 #[U O (h:Int),U O l];have C:Q wr (wr.alloc (ac #[U O (h:Int),U O l] 126)):=(Q.refl wr).alloc _;generalize wr.alloc (ac #[U O (h:Int),U O l] 126)=J at X C⊢;have n0:=P.out.q C;have Z:=K1.out.q C;have n5:=K5.out.q C;have nq:=R.out.trans C;have c5:=n5.at q hq;rw[AL hq,W] at c5;have cr:=X.cell;have K:=Z.at t o;generalize b[t]?.getD 0=bt at K;have N0:=af n0;have L:=af Z;have N5:=af n5;have NQ:=af nq;have Cd:=C.size;clear n0 Z n5 nq P K1 K5 R X C c1 N W
    go_still_tail 5,ah
    change ajU _ _ _ _ _ J.drew;have K:=L.out.drew.at t o;generalize b[t]?.getD 0=bt at K;have ft:=L.out.drew.free t;have F0:=af (N0.out.drew.aN (p:=⟨w.heap.size+1,t,ns⟩) aj (U O l));have F1:=af (L.out.drew.set t l);have F5:=af (N5.out.drew.aN (p:=⟨w.heap.size+1,t,ns⟩) aA (U O l));have FQ:=af (NQ.out.drew.set (p:=⟨w.heap.size+1,t,ns⟩) aj (U O l));have F:m<((J.drew).setCell ⟨w.heap.size+1,t,ns⟩ (U O l)).heap.size:=by simpa[World.setCell] using(show m<J.heap.size by omega)
    generalize J.drew=w3 at K ft F0 F1 F5 FQ F⊢;clear c5 cr N0 L N5 NQ;go_wp2;go_roundw;case rel=>exact⟨k+1,q+1,_,aa,aa,aF,aF,F0.out,F1.out,F5.out,FQ.out,F,HL.out.symm⟩
    case measure=>exact aT
  ·exact Kv
end
section
open Go.RowKit Go.WideShapes Go.ChangeShapes
theorem yU{P:Program}{e:Array akG}{rest:List akG}{o:akG}{a:Act}{u:Exit->Act->AS->Prop}(l:o.guard=ns){x y:ajR}{st:TO}(D:o.op=.call {callee:=.builtin .append,args:=#[x,y],argTypes:=#[st,st]})
  (hu:P.underlying st=an (.slice t)){z:so}{d:Nat}(f:(P.info? t).map (λi=>(i.zero,i.size,i.bytes))=an (an z,s,d))(E:z.cells.size=s)(F:0<s)(p:d<=1000)
  (G:a.eval x=v)(b:ay t s w B v n xs)(ad:ajF)(ys:List Int)(m:Nat)(H:a.eval y=Y (an ad) m c)(C:ys.length=m*s)
  (I:n+m<=1000000000)(q:B<=w.heap.size)(hc:∀j,j<ys.length->w.cell? (ad.add j)=an (U O (ys[j]?.getD 0)))
  (h:∀v' w',ay t s w' B v' (n+m) (xs++ys)->w.grownBy w' v.ownBlock->ajU P e u rest (a.put o.dst v') w'):ajU P e u (o::rest) a w:=by
 obtain⟨i0,hi,r,hz1,hz2⟩:=info_parts f;refine wpList_append_own _ l x y st D B t i0 z s d hu hi r hz1 hz2 E F v n _ G b.2 ad m c (ys.map (Value.int .i64)) H (by rw[List.length_map];exact C) ?_ ?_ ?_ ?_ q ?_
 ·grind
 ·exact Du
 ·unfold maxLen;omega
 ·exact aI (gj I p) al
 ·intro v' w' h1 J _;exact h v' w' ⟨by rw[ajq,b.1,C,Nat.add_mul],by simpa using h1⟩ J
def ji(w:AS)(ys:List Int)(t:TO)(j:Nat)(a:j<ys.length):(w.alloc (ac (arr ys) t)).cell? ((⟨w.heap.size,0,ns⟩:ajF).add j)=an (U O (ys[j]?.getD 0)):=by
 have:=(ak.new w t (arr ys)).cell j;rw[nQ ys j a] at this;by_cases h0:j=0
 ·subst h0;simpa[Addr.add] using this
 ·simpa[Addr.add,h0] using this
def au.app{S:List Nat}{a:AS}(h:au S a w)(g:w.grownBy w' v.ownBlock)(o:ay t s w B v n xs)(b:a.heap.size<=B):au S a w':=
 h.Gm g λk d=>.inr (aI b (o.below k d))
def Nb.app{a:TO}{m:Nat}{ys:List Int}(h:Nb a m w g ys)(k:w.grownBy w' v.ownBlock)(o:ay t s w B v n xs)(b:g<B):Nb a m w' g ys:=
 h.grown k (λe=>by have:=o.below g e.symm;omega)
def ak.app{a:TO}{cs:Array so}(h:ak w g a cs)(k:w.grownBy w' v.ownBlock)(o:ay t s w B v n xs)(b:g<B):ak w' g a cs:=
 h.grown k (λe=>by have:=o.below g e.symm;omega)
def bB.app{B':Nat}{ys:List Int}(h:bB w B' A ys)(k:w.grownBy w' v.ownBlock)(o:ay t s w B v n xs)(a:B'<=B)(hw:B'<=w.heap.size):bB w' B' A ys:=
 h.grown k hw λg e=>by have:=o.below g e;omega
def Fu:(Gz.prog.info? 126).map (λi=>(i.zero,i.size,i.bytes))=an (an (a9 #[U O 0,U O 0]),2,16):=aE
def ie:(Gz.prog.info? 164).map (λi=>(i.zero,i.size,i.bytes))=an (an (a9 #[U O 0,U O 0]),2,16):=aE
def gN:(Gz.prog.info? 97).map (·.size)=an 71:=aE
def Ek:(Gz.prog.info? 97).map (λi=>(i.zero,i.size,i.bytes))=an (an (a9 (Array.replicate 71 (U O 0))),71,568):=aE
end
section
open Go.RowKit Go.WideShapes Go.ChangeShapes
def GU{n:Int}:aiK Gz.prog 166 #[U O n] w λe w'=>e=be (U O (aX n))/\w=w':=by
 by_cases h:n<0\/65534<n
 ·exact Xm w h
 ·exact XA n w aa aa
def RB.app{b B' r:Nat}{s:bw}{a1 a2:ajF}(h:RB w r g s a1 a2 B A c)(k:w.grownBy w' v.ownBlock)(o:ay t b w B' v n xs)(h1:r<B')(e:g<B')(f:B<=B'):RB w' r g s a1 a2 B A c:=by
 cases a:v.ownBlock with
 |none=>exact h.q (Q.iS (by rw[a] at k;exact k))
 |some j=>have i:=o.below j a;rw[a] at k;exact h.az (au.dD k) (λx d=>by simp at d;omega) aA aA
def levels(r g B c:Nat)(s:bw)(E u:ajF)(A:Option ajF)(w:AS)(h:RB w r g s E u B A c)(ok:bT s.1):
  aiK Gz.prog 168 #[bi (an ⟨r,0,ns⟩)] w λe w'=>e=be (a9 (arr (iD s).1))/\(∃N P,RB w' r g (iD s).2 E u B N P)/\au [r,g] w w':=by
 have hr:=h.blk.lt;have hg:=h.db.lt;have ID:=h.db.le;have hN:=number r g 16 B c s E u A (w.alloc (ac (arr cZ) 94)) (h.q ((Q.refl w).alloc _)) ok al;have b0:=Nb.new 94 16 w cZ rfl;go_enter Gz.gf func168,ntmps168;go_wp2;refine hN.mono ?_;rintro e w1⟨rfl,⟨A1,c1,h1⟩,x1⟩;obtain⟨n1,n2⟩:=AK 16 s;have S:=kZ (b:=16) al ok;have U0:iD s=(match gO (eT (min (bk 16 s).1 17).toNat (bk 16 s).2).1 with|some b=>(b,(eT (min (bk 16 s).1 17).toNat (bk 16 s).2).2)|none=>(cZ,((eT (min (bk 16 s).1 17).toNat (bk 16 s).2).2.1,if(eT (min (bk 16 s).1 17).toNat (bk 16 s).2).2.2=0 then 2 else(eT (min (bk 16 s).1 17).toNat (bk 16 s).2).2.2))):=rfl;have d:=af U0;clear U0 hN;generalize(bk 16 s).1=nn at n1 n2 d⊢;generalize(bk 16 s).2=s1 at h1 S d;obtain⟨M,hM⟩:∃M:Nat,(min nn 17).toNat=M:=⟨_,rfl⟩;rw[hM] at d;have IE:min nn 17=(M:Int):=aa;have aiP:M<=17:=aa;have B0:=af (b0.az x1 aA);have X1:=af ((au.gV [r,g] ((Q.refl w).alloc (ac (arr cZ) 94))).trans x1);have pm:w.heap.size<w1.heap.size:=by have:=x1.size;simp at this;omega
 have o0:=ay.nil 126 2 w1 (w.heap.size+1);clear hM b0 x1 h;generalize hR:eT M s1=R at d;have HR:=af hR;clear hR n1 n2;go_wp2;go_loopw[3,10] (λv i wr=>∃(k:Nat)(acc:List (Int×Int))(f:bw)(N:Option ajF)(P:Nat),k<=M/\i=U O k/\Hid (RB wr r g f E u B N P/\ay 126 2 wr (w.heap.size+1) v k (fl acc)/\acc.length=k/\Nb 94 16 wr w.heap.size cZ/\au [r,g] w wr/\w.heap.size<wr.heap.size/\bT f.1/\acc++(eT (M-k) f).1=R.1/\(eT (M-k) f).2=R.2)) (λ_ i _=>M-(intOf i).toNat)
 case atStart=>exact⟨0,[],s1,A1,c1,aa,rfl,h1,o0,rfl,B0.out,X1.out,pm,S,by rw[Nat.sub_zero,HR.out];rfl,by rw[Nat.sub_zero,HR.out]⟩
 case round=>
  obtain⟨k,acc,f,N,P,hk,rfl,hK⟩:=hrel;obtain⟨k1,k2,k3,k4,k5,k6,k7,k8,F⟩:=hK.out;clear hK h1 o0 B0 X1 pm S;by_cases aV:k<M
  ·have U1:(k:Int)<(M:Int):=by omega
   obtain⟨m,hm⟩:∃m,M-(k+1)=m:=⟨_,rfl⟩
   have C:eT (M-k) f=(let z:=bk 23 f;let l:=bk 30 z.2;let rr:=eT m l.2;((z.1,aX (l.1+1))::rr.1,rr.2)):=by rw[show M-k=m+1 by omega,eT]
   rw[C] at k8 F;dsimp only at k8 F;clear C;have U2:=number r g 23 B P f E u N wr k1 k7 al;have G:=kZ (b:=23) al k7;obtain⟨n3,n4⟩:=AK 23 f;go_wp2;refine U2.mono ?_;rintro e w2⟨rfl,⟨A2,c2,h2⟩,x2⟩;clear U2;generalize(bk 23 f).1=z at n3 n4 k8⊢;generalize(bk 23 f).2=s2 at h2 G k8 F;have U3:=number r g 30 B c2 s2 E u A2 w2 h2 G al;have T:=kZ (b:=30) al G;obtain⟨n5,n6⟩:=AK 30 s2;go_wp2;refine U3.mono ?_;rintro e w3⟨rfl,⟨A3,c3,h3⟩,x3⟩;clear U3;generalize(bk 30 s2).1=l at n5 n6 k8⊢;generalize(bk 30 s2).2=s3 at h3 T k8 F;have D:=x2.trans x3;have q2:=k2.az D (λx V=>by simp at V;omega);have q4:=k4.az D aA;have J:=k5.trans D;have q6:w.heap.size<w3.heap.size:=by have:=D.size;omega
   have K1:=af h3;have K4:=af q4;have K5:=af J;have K8:=af k8;have K9:=af F;have K7:=af T;have aiH:k+1<=1000000000:=aa;have wl:wrap64 (l+1)=l+1:=ix ⟨aa,aa⟩;clear h2 h3 x2 x3 D k1 k2 k4 k5 k6 k7 k8 F q4 J G T;go_wp2_with(first|(go_at_call 166;refine(GU).mono ?_;rintro e w4⟨rfl,rfl⟩)|(at_builtin;refine yU rfl rfl (Gz.gu underlying124) Fu rfl al al rfl (q2.alloc _) ⟨_,0,ns⟩ [z,aX (l+1)] 1 rfl rfl aa aA (λj hj=>ji _ [z,aX (l+1)] _ j hj) ?_;intro v' w' O2 G2));go_roundw
   case rel=>
    have qa:=q2.alloc (ac #[U O z,U O (aX (l+1))] 126);have hbr:=K1.out.le;refine⟨k+1,acc++[(z,aX (l+1))],s3,A3,c3,aa,aF,(K1.out.q ((Q.refl w3).alloc _)).app G2 qa aa aa aa,by rw[FY];exact O2,by simp;exact k3,(K4.out.q ((Q.refl w3).alloc _)).app G2 qa aa,(K5.out.alloc _).app G2 qa aa,?_,K7.out,?_,?_⟩
    ·have:=G2.size;simp at this;omega
    ·rw[hm,<-K8.out];simp
    ·rw[hm];exact K9.out
   case measure=>exact aT
  ·have U1:k=M:=by omega
   subst U1;rw[Nat.sub_self,eT] at k8 F;rw[List.append_nil] at k8;have hRR:R=(acc,f):=Prod.ext k8.symm F.symm;subst hRR;dsimp only at d;have HB:=af (Rb · k);have V':=k2.form;obtain⟨AA,cc,rfl⟩:=V';have K1:=af k1;have K4:=af k4;have K5:=af k5;have U4:=Rb AA k cc wr.heap.size acc wr k2.rd k3 aa (av _);clear k1 k2 k4 k5 k7 k8 F HR HB hk;go_wp2;refine U4.mono ?_;rintro e H⟨rfl,J⟩;clear U4;have h5:=K1.out.q J;have b5:=K4.out.q J;have x5:=K5.out.q J;have Ce:=J.size
   have hlen:((gO acc).getD cZ).length=16:=by cases K:gO acc with|none=>rfl|some b=>exact zA K
   have bn:=Nb.new 94 16 H cZ rfl;have b6:=b5.alloc (ac (arr cZ) 94);have H5:=af h5;have X5:=af x5;clear h5 x5 b5 K1 K4 K5 J;cases K:gO acc with
   |some b=>
    rw[K] at d hlen;dsimp only at d;rw[Option.getD_some] at hlen⊢;have HB:=af K;clear K;have I:an w.heap.size≠an H.heap.size:=λe=>by injection e with e;omega
    go_wp2_with(first|(refine e8 (n:=16) rfl _ _ rfl _ rfl _ aG _ (Gz.gu underlying94) rfl cN ?_)|((refine dx (n:=16) rfl _ _ _ rfl _ rfl _ _ dw aG dw cN ?_;intro o b9 y s9);have b7:=b6.grown y I)|(refine dx (n:=16) rfl _ _ _ rfl _ rfl _ _ dw aG dw cN ?_;intro wz bz L sz));refine ajz (akL aD _ _ _ _ _ _ _ aD bz.blk (Gz.gu underlying94) rfl vj) rfl ?_;rw[d.out];have W:Q H o:=((Q.refl H).alloc _).grown y (λk e=>by have:=aJ e;omega);exact⟨rfl,⟨_,_,(H5.out.q W).az (au.dD L) (λx V=>by simp at V;have:=H5.out.le;omega) aA aA⟩,(X5.out.q W).grown L (.inr (av _))⟩
   |none=>
    rw[K] at d hlen;dsimp only at d;rw[Option.getD_none] at hlen⊢;have HB:=af K;clear K;have I:an w.heap.size≠an H.heap.size:=λe=>by injection e with e;omega
    have W:∀o,(H.alloc (ac (arr cZ) 94)).grownBy o (an H.heap.size)->Q H o:=λo y=>((Q.refl H).alloc _).grown y (λk e=>by have:=aJ e;omega);have hle:=H5.out.le;by_cases he:f.2=0
    ·rw[if_pos he] at d;have X:(∀o,RB o r g f E u B N P->o.cell? ⟨r,1,ns⟩=an .nilIface):=λo Z=>by have:=Z.err;rw[he] at this;exact this
     have E2:=af X;clear X he;go_wp2_with(first|(refine e8 (n:=16) rfl _ _ rfl _ rfl _ aG _ (Gz.gu underlying94) rfl cN ?_)|((refine dx (n:=16) rfl _ _ _ rfl _ rfl _ _ dw aG dw cN ?_;intro o b9 y s9);have b7:=b6.grown y I;have q9:=H5.out.q (W _ y);have ce:=E2.out _ q9;have cf:=q9.free;have cg:o.cell? ⟨3,0,ns⟩=an (em 240 (bi (an u))):=q9.er.e2;have b9e:=b9.aN (p:=⟨r,1,ns⟩) aA (em 240 (bi (an u)));have b7e:=b7.aN (p:=⟨r,1,ns⟩) aA (em 240 (bi (an u))))|(refine dx (n:=16) rfl _ _ _ rfl _ rfl _ _ dw aG dw cN ?_;intro wz bz L sz));refine ajz (akL aD _ _ _ _ _ _ _ aD bz.blk (Gz.gu underlying94) rfl vj) rfl ?_;rw[d.out];have Z:=q9.Sn 2;exact⟨rfl,⟨_,_,Z.az (au.dD L) (λx V=>by simp at V;omega) aA aA⟩,((X5.out.q (W _ y)).set (p:=⟨r,1,ns⟩) (.inl aj) _).grown L (.inr (av _))⟩
    ·rw[if_neg he] at d
     have X:∃a,∀o,RB o r g f E u B N P->o.cell? ⟨r,1,ns⟩=an (em 240 (bi (an a))):=by
      by_cases h1:f.2=1
      ·exact⟨E,λo Z=>by have:=Z.err;rw[h1] at this;exact this⟩
      ·refine⟨u,λo Z=>?_⟩;have:=Z.err;rw[this];obtain⟨n,hn⟩:∃n,f.2=n+2:=⟨f.2-2,aa⟩;rw[hn];rfl
     obtain⟨ae,X⟩:=X;have E2:=af X;clear X he;go_wp2_with(first|(refine e8 (n:=16) rfl _ _ rfl _ rfl _ aG _ (Gz.gu underlying94) rfl cN ?_)|((refine dx (n:=16) rfl _ _ _ rfl _ rfl _ _ dw aG dw cN ?_;intro o b9 y s9);have b7:=b6.grown y I;have q9:=H5.out.q (W _ y);have ce:=E2.out _ q9)|(refine dx (n:=16) rfl _ _ _ rfl _ rfl _ _ dw aG dw cN ?_;intro wz bz L sz));refine ajz (akL aD _ _ _ _ _ _ _ aD bz.blk (Gz.gu underlying94) rfl vj) rfl ?_;rw[d.out];exact⟨rfl,⟨_,_,q9.az (au.dD L) (λx V=>by simp at V;omega) aA aA⟩,(X5.out.q (W _ y)).grown L (.inr (av _))⟩
end
section
open Go.RowKit Go.WideShapes Go.ChangeShapes
def gU:List Int:=2::rl 70 0
def take_set(h:k<xs.length)(v:Int):(xs.set k v).take (k+1)=xs.take k++[v]:=by rw[List.take_succ_eq_append_getElem kU];simp[List.take_set_of_le]
def P9:∀(ys xs:List Int)(o:Nat),o+ys.length<=xs.length->(upd xs o ys).take (o+ys.length)=xs.take o++ys
 |[],xs,o,_=>by simp[upd]
 |y::ys,xs,o,h=>by simp only[ajE] at h⊢;rw[upd,show o+(ys.length+1)=o+1+ys.length by omega,P9 ys _ (o+1) aA,take_set aa];simp
def fK:(Gz.prog.info? 97).map (·.size)=an 71:=aE
def Tt{p:Prop}(h:p:=by(have D:=af k1;have N0:=af k2;have E:=af k3;have F:=af k4;have l:w.heap.size+1<wr.heap.size:=k2.lt;clear k1 k2 k3 k4;go_loopw[47] (λi wr=>∃(k:Nat)(t9:bw)(A':Option Addr)(c':Nat)(xs acc:List Int),k<=4/\i=.int .i64 k/\Hid (RB wr r g t9 a1 a2 B A' c'/\Nb 97 71 wr (w.heap.size+1) xs/\Nb 97 71 wr w.heap.size et/\au [r,g] w wr/\w.heap.size+1<wr.heap.size/\bT t9.1/\xs.take (7+k*16)=hd++acc/\acc++(fg (4-k) t9).1=(fg 4 t).1/\(fg (4-k) t9).2=(fg 4 t).2)) λi _=>4-(intOf i).toNat;(case atStart=>exact⟨0,t,A',c',ms,[],by omega,rfl,D.out,N0.out,E.out,F.out,l,k6,by simpa using E',by rw[Nat.sub_zero,List.nil_append],by rw[Nat.sub_zero]⟩);(case round=>obtain⟨k,t,A',c',xs,acc,Z,rfl,hK⟩:=hrel;obtain⟨k1,k2,k3,k4,k5,k6,f,k8,a⟩:=hK.out;clear hK;(try clear D N0 E F l E');by_cases J:k<4;(case pos=>obtain⟨m,hm⟩:∃m,4-(k+1)=m:=⟨_,rfl⟩;rw[show 4-k=m+1 by omega,fg] at k8 a;dsimp only at k8 a;have G:=levels r g B c' t a1 a2 A' wr k1 k6;have o:=N9 k6;have q:=NB t;have K:(k:Int)<4:=(by omega);go_wp2;refine G.mono ?_;rintro e wq⟨rfl,⟨L,M,hq⟩,u⟩;clear G;generalize(iD t).1=b at q k8⊢;generalize(iD t).2=tq at hq o k8 a;have y2:=k2.az u (by simp;omega);have H:=k3.az u (by simp;omega);have I:=k4.trans u;have N:=u.size;have P:=af hq;have Q:=af H;have R:=af I;have S:=af f;have T:=af k8;have V:=af a;have d:=k2.len;clear k1 k2 k3 k4 k6 f k8 a u H I hq;go_wp2_with((refine ze (n:=71) rfl _ _ _ rfl _ (7+k*16) rfl _ _ rfl (by assumption) (by omega) (by rw[q];exact cN) ?_;intro W y j X));go_roundw;(case rel=>exact⟨k+1,tq,L,M,upd xs (7+k*16) b,acc++b,by omega,by go_num,P.out.az (au.dD j) (λx z=>by simp at z;omega) (by simp;omega) (by simp;omega),y,Q.out.grown j g0,R.out.grown j (.inr (by omega)),by omega,o,by rw[show 7+(k+1)*16=7+k*16+b.length by omega,P9 _ _ _ (by omega),S.out,List.append_assoc],by rw[hm,List.append_assoc];exact T.out,by rw[hm];exact V.out⟩);(case measure=>simp[intOf];omega));(case neg=>have C:k=4:=(by omega);subst C;have d:=k2.len;rw[List.take_of_length_le (by omega)] at f;rw[Nat.sub_self,fg] at k8 a;rw[List.append_nil] at k8;rw[k8] at f;rw[<-f,<-a] at HV;dsimp only at HV;clear f k8 a;go_wp2_with(first|(refine e8 (n:=71) rfl _ _ rfl _ rfl _ (by assumption) _ (Gz.gu underlying97) rfl fK ?_)|(refine dx (n:=71) rfl _ _ _ rfl _ rfl _ xs rfl (by assumption) d fK ?_;intro W y j X));refine bodyPost_ret (results_cell_row (by rfl) _ _ _ _ _ _ _ (by rfl) y.blk (Gz.gu underlying97) rfl (by rw[bQ,d];exact fK)) rfl ?_;rw[HV.out];exact⟨rfl,⟨_,_,k1.az (au.dD j) (λx z=>by simp at z;omega) (by simp;omega) (by simp;omega)⟩,k4.grown j (.inr (av _))⟩)))):p:=h
def Tu{p:Prop}(h:p:=by(have D:Hid (m7 s=([2,0,0]++(ij 4 s).1,(ij 4 s).2)):=rfl;have H1:=af h9;have E:=af b9;have F:=af b8;have G:=af x9;have o:w.heap.size+1<w9.heap.size:=b9.lt;clear h9 b9 b8 x9;go_loopw[38] (λi wr=>∃(k:Nat)(t:bw)(A':Option Addr)(c':Nat)(xs acc:List Int),k<=4/\i=.int .i64 k/\Hid (RB wr r g t a1 a2 B A' c'/\Nb 97 71 wr (w.heap.size+1) xs/\Nb 97 71 wr w.heap.size et/\au [r,g] w wr/\w.heap.size+1<wr.heap.size/\bT t.1/\xs.take (3+k)=[2,0,0]++acc/\acc++(ij (4-k) t).1=(ij 4 s).1/\(ij (4-k) t).2=(ij 4 s).2)) λi _=>4-(intOf i).toNat;(case atStart=>exact⟨0,s,A,c,ms,[],by omega,rfl,H1.out,E.out,F.out,G.out,o,ok,by simpa using z9,by rw[Nat.sub_zero,List.nil_append],by rw[Nat.sub_zero]⟩);(case round=>obtain⟨k,t,A',c',xs,acc,hk,rfl,hK⟩:=hrel;obtain⟨k1,k2,k3,k4,k5,k6,q,k8,a⟩:=hK.out;clear hK;(try clear H1 E F G o z9);by_cases K:k<4;(case pos=>obtain⟨m,hm⟩:∃m,4-(k+1)=m:=⟨_,rfl⟩;rw[show 4-k=m+1 by omega,ij] at k8 a;dsimp only at k8 a;have H:=number r g 9 B c' t a1 a2 A' wr k1 k6 (by decide);have u:=kZ (b:=9) (by decide) k6;have L:(k:Int)<4:=(by omega);go_wp2;refine H.mono ?_;rintro e wq⟨rfl,⟨M,N,hq⟩,y⟩;clear H;generalize(bk 9 t).1=b at k8⊢;generalize(bk 9 t).2=tq at hq u k8 a;have C:=k2.az y (by simp;omega);have I:=k3.az y (by simp;omega);have J:=k4.trans y;have P:=y.size;have Q:=af hq;have R:=af C;have S:=af I;have T:=af J;have V:=af q;have W:=af k8;have X:=af a;have Z:=k2.len;have cy:=C.at (3+k) (by omega);generalize xs[3+k]?.getD 0=qy at cy;have fy:=C.free;clear k1 k2 k3 k4 k6 q k8 a y C I J hq;go_wp2;go_roundw;(case rel=>exact⟨k+1,tq,M,N,xs.set (3+k) b,acc++[b],by omega,by go_num,Q.out.az (lZ _ _ _ _) (λx hx=>by simp at hx;omega) (by simp;omega) (by simp;omega),R.out.set (3+k) b,S.out.aN (by simp) _,T.out.set (.inr (by simp)) _,by simp[World.setCell];omega,u,by rw[show 3+(k+1)=3+k+1 by omega,take_set (by omega),V.out,List.append_assoc],by rw[hm,<-W.out];simp,by rw[hm];exact X.out⟩);(case measure=>simp[intOf];omega));(case neg=>have f:k=4:=(by omega);rw[f,Nat.sub_self,ij] at k8 a;rw[f] at q;have hk5:(4:Int)<=(k:Int):=(by omega);clear f;rw[List.append_nil] at k8;have j:=congrArg List.length k8;rw[Et] at j;rw[D.out] at HM;rw[<-k8,<-a] at HM;dsimp only at HM;have E':=q;obtain⟨ms,d⟩:∃z,xs=z:=⟨_,rfl⟩;rw[d] at k2 E';obtain⟨hd,l⟩:∃z,[2,0,0]++acc=z:=⟨_,rfl⟩;rw[l] at E' HM;have hdl:hd.length=7:=(by rw[<-l];simp[j]);clear l d q k8 a j D;have HV:=HM;clear HM;go_wp2;exact Tt)))):p:=h
def afe{r:Nat}{s:bw}{a1 a2:ajF}(ap:Bool)(h:RB w r g s a1 a2 B A c)(ok:bT s.1):
  aiK Gz.prog 144 #[bi (an ⟨r,0,ns⟩),a5 ap] w λe w'=>e=be (a9 (arr (dX ap s).1))/\(∃A' c',RB w' r g (dX ap s).2 a1 a2 B A' c')/\au [r,g] w w':=by
 have hr:=h.blk.lt;have hg:=h.db.lt;have ID:=h.db.le;have hlr:=h.le;have b0:=Nb.new 97 71 w et rfl;have b1:=Nb.new 97 71 (w.alloc (ac (arr et) 97)) et rfl;rw[OF] at b1;have g0:an w.heap.size≠an (w.heap.size+1):=λe=>by injection e with e;omega
 have m:=b0.alloc (ac (arr et) 97);have aiQ:et.length=71:=rfl;have ok0:=ok;cases ap with
 |false=>
  go_enter Gz.gf func144,ntmps144;go_wp2_with((refine dx (n:=71) rfl _ _ _ rfl _ rfl _ gU rfl aG r9 fK ?_;intro w9 b9 E s9);have J:Q w w9:=(((Q.refl w).alloc _).alloc _).grown E (λk e=>by have:=aJ e;omega);have h9:=h.q J;have b8:=m.grown E g0;have c0:=h9.ptr;clear b0 b1 m E s9 h);have M:=decode g 0 B c s.1 A w9 h9.db ok al;refine M.mono ?_;rintro e w2⟨rfl,⟨A2,c2,d2⟩,N⟩;clear M;have K:=h9.dec N d2;have P:=b9.az N aA;have b3:=b8.az N aA;have x3:au [r,g] w w2:=(au.gV [r,g] J).trans (N.more λk R=>by simp at R;simp[R]);have o:=ok.jY 0 al;have Cf:w.heap.size+1<w2.heap.size:=by have:=P.lt;omega
  clear h9 b9 b8 N d2 J c0;rcases nN s.1 0 with hb|hb
  ·have HM:Hid (dX Bz s=(et,(bO s.1 0,s.2))):=by unfold Hid dX;rw[if_pos ⟨rfl,hb⟩]
   rw[hb];go_wp2_with((refine dx (n:=71) rfl _ _ _ rfl _ rfl _ et rfl aG r9 fK ?_;intro wz bz gz sz));refine ajz (akL aD _ _ _ _ _ _ _ aD bz.blk (Gz.gu underlying97) rfl CZ) rfl ?_;rw[HM.out];exact⟨rfl,⟨_,_,K.az (au.dD gz) (λx u=>by simp at u;omega) aA aA⟩,x3.grown gz (.inr (av _))⟩
  ·have S:dX Bz s=((fB Bz (bO s.1 0,s.2)).1++(fg 4 (fB Bz (bO s.1 0,s.2)).2).1,(fg 4 (fB Bz (bO s.1 0,s.2)).2).2):=by unfold dX;rw[if_neg (by rw[hb];intro k;cases k.2)];rfl
   have HM:=af S;rw[hb];generalize bO s.1 0=d0 at K o HM;clear S hb;have c0:=K.ptr;have f:=P.at 0 al;have j:=P.free 0;go_wp2;have M:=decode g 1 B c2 d0 A2 w2 K.db o al;refine M.mono ?_;rintro e w3⟨rfl,⟨A3,c3,d3⟩,T⟩;clear M;have L:=K.dec T d3;have F:=P.az T aA;have Z:=b3.az T aA;have x5:au [r,g] w w3:=x3.trans (T.more λk R=>by simp at R;simp[R]);have d:=o.jY 1 al;have V:w.heap.size+1<w3.heap.size:=by have:=F.lt;omega
   clear K P b3 x3 T d3 c0 f j o;have i:fB Bz (d0,s.2)=if 1+cU d0 1=1 then tH (bO d0 1,s.2) else m7 (bO d0 1,s.2):=rfl
   have f:=F.at 0 al;have j:=F.free 0;generalize gU[0]?.getD 0=q0 at f;rcases nN d0 1 with hb|hb
   ·rw[hb,if_pos al] at i;rw[hb];rw[i] at HM;generalize bO d0 1=d1 at L d HM;clear hb i;go_wp2;have G:=L.az (lZ w3 (w.heap.size+1) 0 (U O 1)) (λx u=>by simp at u;omega) aA aA;have n4:=F.set 0 1;have n5:=Z.aN (p:=⟨w.heap.size+1,0,ns⟩) aj (U O 1);have x6:=x5.set (p:=⟨w.heap.size+1,0,ns⟩) (.inr aj) (U O 1);generalize w3.setCell ⟨w.heap.size+1,0,ns⟩ (U O 1)=w4 at G n4 n5 x6⊢;clear L F Z x5 f j V;have W:=number r g 2 B c3 _ a1 a2 A3 w4 G d al;refine W.mono ?_;rintro e w5⟨rfl,⟨A5,c5,h5⟩,y⟩;have C:=kZ (s:=(d1,s.2)) (b:=2) al d;have n6:=n4.az y aA;have n7:=n5.az y aA;have X:=x6.trans y;obtain⟨i1,i2⟩:=AK 2 (d1,s.2);have HV:Hid (dX Bz s=([1,aX (bk 2 (d1,s.2)).1,aX (bk 2 (bk 2 (d1,s.2)).2).1,0,0,0,0]++(fg 4 (bk 2 (bk 2 (d1,s.2)).2).2).1,(fg 4 (bk 2 (bk 2 (d1,s.2)).2).2).2)):=HM.out;clear W G n4 n5 x6 y d HM;generalize(bk 2 (d1,s.2)).1=l at i1 i2 HV⊢;generalize(bk 2 (d1,s.2)).2=s5 at h5 C HV;have f:=n6.at 1 al;generalize(gU.set 0 1)[1]?.getD 0=q1 at f;have j:=n6.free;go_wp2_with(go_at_call 166;refine(GU).mono ?_;rintro e w4⟨rfl,rfl⟩);have h6:=h5.az (lZ w5 (w.heap.size+1) 1 (U O (aX l))) (λx u=>by simp at u;omega) aA aA;have n8:=n6.set 1 (aX l);have n9:=n7.aN (p:=⟨w.heap.size+1,1,ns⟩) aj (U O (aX l));have x9:=X.set (p:=⟨w.heap.size+1,1,ns⟩) (.inr aj) (U O (aX l));generalize w5.setCell ⟨w.heap.size+1,1,ns⟩ (U O (aX l))=w6 at h6 n8 n9 x9⊢;clear h5 n6 n7 X f j;have W:=number r g 2 B c5 _ a1 a2 A5 w6 h6 C al;refine W.mono ?_;rintro e w7⟨rfl,⟨A',c',h7⟩,y⟩;have k6:=kZ (b:=2) al C;have n6:=n8.az y aA;have n7:=n9.az y aA;have X:=x9.trans y;clear W h6 n8 n9 x9 y C;generalize(bk 2 s5).1=D at HV⊢;generalize(bk 2 s5).2=t at h7 k6 HV;have f:=n6.at 2 al;generalize((gU.set 0 1).set 1 (aX l))[2]?.getD 0=q1 at f;have j:=n6.free;go_wp2_with(go_at_call 166;refine(GU).mono ?_;rintro e w4⟨rfl,rfl⟩);have k1:=h7.az (lZ w7 (w.heap.size+1) 2 (U O (aX D))) (λx u=>by simp at u;omega) aA aA;have k2:=n6.set 2 (aX D);have k3:=n7.aN (p:=⟨w.heap.size+1,2,ns⟩) aj (U O (aX D));have k4:=X.set (p:=⟨w.heap.size+1,2,ns⟩) (.inr aj) (U O (aX D));generalize w7.setCell ⟨w.heap.size+1,2,ns⟩ (U O (aX D))=wr at k1 k2 k3 k4⊢;have E':(((gU.set 0 1).set 1 (aX l)).set 2 (aX D)).take 7=[1,aX l,aX D,0,0,0,0]:=rfl;obtain⟨ms,z9⟩:∃z,((gU.set 0 1).set 1 (aX l)).set 2 (aX D)=z:=⟨_,rfl⟩;rw[z9] at k2 E';clear z9;obtain⟨hd,H⟩:∃z,[1,aX l,aX D,0,0,0,0]=z:=⟨_,rfl⟩;rw[H] at E' HV;have hdl:hd.length=7:=by rw[<-H];rfl
    clear H;clear h7 n6 n7 X f j i1 i2;exact Tt
   ·rw[hb,if_neg al] at i;rw[hb];rw[i] at HM;generalize bO d0 1=d1 at L d HM;clear hb i;go_wp2;have G:=L.az (lZ w3 (w.heap.size+1) 0 (U O 2)) (λx u=>by simp at u;omega) aA aA;have b9:=F.set 0 2;have b8:=Z.aN (p:=⟨w.heap.size+1,0,ns⟩) aj (U O 2);have x9:=x5.set (p:=⟨w.heap.size+1,0,ns⟩) (.inr aj) (U O 2);generalize w3.setCell ⟨w.heap.size+1,0,ns⟩ (U O 2)=w9 at G b9 b8 x9⊢;clear L F Z x5 f j V;have h9:RB w9 r g (d1,s.2) a1 a2 B A3 c3:=G;obtain⟨sm,I⟩:∃z:bw,(d1,s.2)=z:=⟨_,rfl⟩;obtain⟨A,rfl⟩:∃z,z=A3:=⟨_,rfl⟩;obtain⟨c,rfl⟩:∃z,z=c3:=⟨_,rfl⟩;have ok:bT sm.1:=by rw[<-I];exact d
    rw[I] at h9 HM;obtain⟨s,rfl⟩:∃z,z=sm:=⟨_,rfl⟩;clear I d G;have z9:(gU.set 0 2).take 3=[2,0,0]:=rfl;obtain⟨ms,a⟩:∃z,gU.set 0 2=z:=⟨_,rfl⟩;rw[a] at b9 z9;clear a;exact Tu
 |true=>
  go_enter Gz.gf func144,ntmps144;go_wp2_with((refine dx (n:=71) rfl _ _ _ rfl _ rfl _ gU rfl aG r9 fK ?_;intro w9 b9 E s9);have J:Q w w9:=(((Q.refl w).alloc _).alloc _).grown E (λk e=>by have:=aJ e;omega);have h9:=h.q J;have b8:=m.grown E g0;have c0:=h9.ptr;clear b0 b1 m E s9 h;have f:=b9.at 0 al;have j:=b9.free 0;generalize uh:gU[0]?.getD 0=q0 at f;have li:q0=2:=uh.symm;subst li)
  have HM:Hid (dX AT s=((m7 s).1++(fg 4 (m7 s).2).1,(fg 4 (m7 s).2).2)):=by unfold Hid dX;rw[if_neg λk=>by cases k.1];rfl
  have z9:gU.take 3=[2,0,0]:=rfl;obtain⟨ms,a⟩:∃z,gU=z:=⟨_,rfl⟩;rw[a] at b9 z9;clear a c0 f j;have x9:=au.gV [r,g] J;exact Tu
end
section
open Go.RowKit Go.WideShapes Go.ChangeShapes
def Qa:∀(ys:List so)(k:Nat)(cs:Array so)(j:Nat),((ys.zipIdx k).foldl (λcs x=>cs.setIfInBounds x.2 x.1) cs)[j]?=if k<=j/\j<k+ys.length/\j<cs.size then ys[j-k]? else cs[j]?
 |[],k,cs,j=>by
  rw[if_neg]
  ·rfl
  ·simp only[akU];omega
 |y::t,k,cs,j=>by
  rw[List.zipIdx_cons,List.foldl_cons,Qa t (k+1) _ j,Array.size_setIfInBounds];simp only[ajE];by_cases h1:k=j
  ·subst h1;rw[if_neg aa];by_cases a:k<cs.size
   ·rw[if_pos aa,Array.getElem?_setIfInBounds_self_of_lt a];simp
   ·rw[if_neg aa,Array.getElem?_eq_none aA,Array.getElem?_eq_none aa]
  ·rw[Array.getElem?_setIfInBounds_ne h1];by_cases a:k+1<=j/\j<k+1+t.length/\j<cs.size
   ·rw[if_pos a,if_pos aa,show j-k=(j-(k+1))+1 by omega];simp
   ·rw[if_neg a,if_neg aa]
def abS(ys cs:Array so)(h:cs.size=ys.size):ys.zipIdx.foldl (λcs x=>cs.setIfInBounds (0+x.2) x.1) cs=ys:=by
 rw[<-Array.foldl_toList,Array.toList_zipIdx];apply zo;intro j;simp only[Nat.zero_add];rw[Qa];by_cases a:j<ys.size
 ·simp_all
 ·simp_all
def fill_whole(s:Nat)(X ys:Array so)(a:X.size=s)(b:ys.size=s):Instr.fill (λi=>an (i*s,s)) X [(0,a9 ys)]=an ys:=by have hc:(Value.agg ys).cells=ys:=rfl;simp only[Instr.fill,Nat.zero_mul,hc];rw[if_neg aA];exact congrArg an (abS ys X aa)
def Dg{P:Program}{d:Array akG}{rest:List akG}{o:akG}{a:Act}{Q:Exit->Act->AS->Prop}(l:o.guard=ns){x:ajR}(m:o.op=.buildSlice t 1 #[(0,x)])
  {e:TO}(hu:P.underlying t=an (.slice e))(ys:Array so)(q:a.eval x=a9 ys)(hi:(P.info? e).map (·.size)=an ys.size)(i:((P.info? e).bind (·.zero)).isSome=AT)(j:0<ys.size)(r:ys.size<=1000)
  (h:ajU P d Q rest (a.put o.dst (Y (an ⟨w.heap.size,0,ns⟩) 1 1)) (w.alloc (ac ys e))):ajU P d Q (o::rest) a w:=by
 cases b:P.info? e with
 |none=>simp[b] at hi
 |some u=>
  simp only[b,Option.map_some,Option.some.injEq,Option.bind_some] at hi i;obtain⟨z,f⟩:=pO.1 i;refine wpList_buildSlice l t e 1 #[(0,x)] m ys u z hu b f (by rw[hi];omega) (by rw[hi];omega) ?_ h;have y:(Array.map (λ(p:Nat×ajR)=>(p.1,a.eval p.2)) #[(0,x)]).toList=[(0,a9 ys)]:=by simp[q]
  have C:=y;rw[C,Nat.one_mul];exact fill_whole _ _ _ aj hi.symm
end
end Go.Proofs.Q0
