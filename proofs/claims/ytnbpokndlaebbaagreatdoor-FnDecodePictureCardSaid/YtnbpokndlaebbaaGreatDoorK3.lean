import Derived.Test.YtnbpokndlaebbaaGreatDoorK2
import Derived.Great.BuildSlice
set_option maxRecDepth 100000
set_option maxHeartbeats 8000000
set_option linter.all false
open Go.Value renaming int->U,slice->Y,bool->ci,agg->bi,pointer->d9,tuple->em,iface->gc
open Go.IntKind renaming i64->O
open Go.Obj renaming cells->ap
open Go.Ending renaming returned->dl
open Bool renaming false->Ba,true->AT
open Go renaming Addr->aic,Calls->ahR,Oper->ajq,Operand->aiD,TypeId->SL,Value->AS,World->rl,bodyPost_ret->ahX,results_cell_row->aiO,wpList->aiB
open Go.World renaming size_alloc->NO
open List renaming length_append->ahc,length_cons->ais,length_nil->ajF,range->aij,range_succ->aiU,replicate->so
open Option renaming none->ns,some->an
namespace Go.Proofs
def JZ{p:Prop}(h:p:=by
  clear jt qX GS X' If;go_wp2;go_roundw;case rel=>exact⟨k+1,n+1,_,aa,aJ,aJ,K1.out.aL au _,K2.out.set n _,K3.out.set au _,PA.out⟩
  case measure=>simp[intOf];omega):p:=h
def yL{p:Prop}(h:p:=by
  clear hc;go_wp2;go_roundw;case rel=>exact⟨k+1,n,xs,aa,aJ,rfl,K1.out,K2.out,K3.out,PA.out⟩
  case measure=>simp[intOf];omega):p:=h
def mZ{p:Prop}(h:p:=by rw[Rk];omega):p:=h
def Cz{p:Prop}(h:p:=by rw[bP];exact cM):p:=h
def De{p:Prop}(h:p:=by clear RT;go_wp2_with((refine cP (n:=16) rfl _ _ _ rfl _ rfl _ df rfl aE rfl cM ?_;intro w9 b9 g9 s9));refine bodyPost_ret (kE aC aC b9.blk (Gz.gu underlying97) rfl Cz) rfl ⟨?_,Q0.out.grown g9 λk e=>by have:=aH e;omega⟩;rw[HL.out];rfl):p:=h
def J0{p:Prop}(h:p:=by have rx:k=n:=aa;subst rx;rw[List.drop_of_length_le aa,fP] at kl;have qY:=k1.len;have HL:=ag kl;clear kl;go_wp2_with(first|(refine ew (n:=16) rfl _ _ rfl _ rfl _ aE _ (Gz.gu underlying97) rfl cM ?_)|(refine cP (n:=16) rfl _ _ _ rfl _ rfl _ _ dn aE dn cM ?_;intro w9 b9 g9 s9));refine bodyPost_ret (kE aC aC b9.blk (Gz.gu underlying97) rfl (by rw[bP,qY];exact cM)) rfl ⟨?_,kq.grown g9 λk e=>by have:=aH e;omega⟩;rw[<-HL.out];rfl):p:=h
abbrev oD:=@List.mem_map
def Df{p:Prop}(h:p:=by intro u hu;obtain⟨y,_,rfl⟩:=oD.1 hu;rfl):p:=h
abbrev eZ:=@Nat.mul_le_mul
def uO{p:Prop}(h:p:=by rw[bP,hlen];exact cM):p:=h
def rT{p:Prop}(h:p:=by first|rfl|assumption):p:=h
def CB{p:Prop}(h:p:=by rw[bP];exact fG):p:=h
abbrev zc:=@Array.ext_getElem?
abbrev pN:=@Option.isSome_iff_exists
end Go.Proofs
namespace Go.Proofs.Q0
open Go.Proofs.Tryz
variable{w w':rl}{k c B n s g:Nat}{xs:List Int}{v:AS}{t:SL}{A:Option aic}
section
open Go.RowKit
def bE(v:Int):Int:=if v< -32767\/32767<v then -1 else if 0<v then 2*v-1 else -2*v
def Dv(v:Int)(h1: -32767<=v)(a:v<=32767):
  ahR Gz.prog 154 #[U O v] w λe w'=>e=dl (U O (bE v))/\w=w':=by
 by_cases h:0<v
 ·have e:bE v=2*v-1:=by unfold bE;rw[if_neg aa,if_pos h]
  have H:=ag e;go_enter Gz.gf func154,ntmps154;exact ju
 ·have e:bE v= -2*v:=by unfold bE;rw[if_neg aa,if_neg h]
  have H:=ag e;have b:v<=0:=aa;clear e h;go_enter Gz.gf func154,ntmps154;exact ju
def Dg(v:Int)(h1: -32767<=v)(b:v<=32767):
  ahR Gz.prog 132 #[U O v] w λe w'=>e=dl (U O (bE v))/\w=w':=by
 have a:Hid (decide (-32767<=v/\v<=32767)=AT):=decide_eq_true ⟨h1,b⟩;by_cases h:0<v
 ·have e:bE v=2*v-1:=by unfold bE;rw[if_neg aa,if_pos h]
  have H:=ag e;go_enter Gz.gf func132,ntmps132;go_wp2;(go_at_call 62;(with_reducible refine(cG _ a).mono ?_);rintro e w'⟨rfl,rfl⟩)
  exact ju
 ·have e:bE v= -2*v:=by unfold bE;rw[if_neg aa,if_neg h]
  have H:=ag e;have d:v<=0:=aa;go_enter Gz.gf func132,ntmps132;go_wp2;(go_at_call 62;(with_reducible refine(cG _ a).mono ?_);rintro e w'⟨rfl,rfl⟩)
  exact ju
end
def jO(b:Int)(k i:Nat):List Int:=(aij i).flatMap λj=>[b+((min j 5:Nat):Int),if j=k then 0 else 1]
def lj(b:Int)(m k i:Nat):List Int:=(aij i).flatMap λj=>[b+6,((m>>>(k-1-j)%2:Nat):Int)]
def EX(b:Int)(k i:Nat):jO b k (i+1)=jO b k i++[b+((min i 5:Nat):Int),if i=k then 0 else 1]:=by simp[jO,aiU]
def EY(b:Int)(m k i:Nat):lj b m k (i+1)=lj b m k i++[b+6,((m>>>(k-1-i)%2:Nat):Int)]:=by simp[lj,aiU]
def Qj(b:Int)(k:Nat):∀i,(jO b k i).length=i*2
 |0=>rfl
 |i+1=>by rw[EX,ahc,Qj b k i];simp only[ais,ajF];omega
def Qk(b:Int)(m k:Nat):∀i,(lj b m k i).length=i*2
 |0=>rfl
 |i+1=>by rw[EY,ahc,Qk b m k i];simp only[ais,ajF];omega
def dm(n b:Int):List Int:=jO b (n+1).toNat.log2 ((n+1).toNat.log2+1)++lj b (n+1).toNat (n+1).toNat.log2 (n+1).toNat.log2
def dN(n:Int):Nat:=2*(n+1).toNat.log2+1
def kI{n b:Int}:(dm n b).length=dN n*2:=by unfold dm dN;rw[ahc,Qj,Qk];omega
def iw:List Int->Int->List (Int×Int)
 |[],_=>[]
 |x::r,z=>if x=0 then iw r (z+1) else(z,x)::iw r 0
def lN(xs:List Int):List Int:=gV.map λi=>xs[i]?.getD 0
def dw(xs:List Int):List (Int×Int):=iw (lN xs) 0
def iN(rs:List (Int×Int)):List Int:=rs.flatMap λr=>dm r.1 23++dm (bE r.2-1) 30
def lY(xs:List Int):List Int:=dm (dw xs).length 16++iN (dw xs)
def jY(a:List Int):List Int:=a.flatMap λm=>dm m 9
def lvl(m:List Int)(k:Nat):List Int:=sub m (7+16*k) 16
def fQ(m:List Int)(k:Nat):List Int:=(aij k).flatMap λj=>lY (lvl m j)
def ax(m:List Int)(k:Nat):Int:=m[k]?.getD 0
def mL(be:Bool)(m:List Int):List Int:=if be then[] else[0,1,1,ax m 0-1]
def preB(m:List Int):List Int:=if ax m 0=1 then dm (bE (ax m 1)) 2++dm (bE (ax m 2)) 2 else jY (sub m 3 4)
def fg(be:Bool)(m:List Int):List Int:=
 if be=Ba/\ax m 0=0 then[0,0] else mL be m++preB m++fQ m 4
def kU(m:List Int):Bool:=ax m 1==0&&ax m 2==0
def jI(m:List Int):Bool:=ax m 3==0&&ax m 4==0&&ax m 5==0&&ax m 6==0
def qI(m:List Int):Bool:=(sub m 7 64).all λx=>x==0
def lZ(m:List Int):Bool:=(sub m 3 4).all λx=>decide (0<=x/\x<=4)
def kV(m:List Int):Bool:=decide (-16<=ax m 1/\ax m 1<=16)&&decide (-16<=ax m 2/\ax m 2<=16)
def j5(m:List Int):Bool:=
 if ax m 0=0 then kU m&&jI m&&qI m else if ax m 0=1 then jI m else if ax m 0=2 then lZ m&&kU m else Ba
def dt(m:List Int):Bool:=j5 m&&kV m&&aW (sub m 7 64) 4080
def aP(xs:List Int)(k:Nat):List Int:=sub xs (71*k) 71
def dR(be:Bool)(m:List Int):Bool:=dt m&&(!be||ax m 0==2)
def gx(be:Bool)(xs:List Int)(n:Nat):Bool:=(aij n).all λk=>dR be (aP xs k)
def jJ(be:Bool)(xs:List Int)(n:Nat):List Int:=(aij n).flatMap λk=>fg be (aP xs k)
structure bg where
 low:Int
 span:Int
 ch:List Int
 out:List Int
def kh:List Int->List Int
 |[]=>[]
 |x::r=>if x=255 then 0::kh r else(x+1)::r
def gE(out:List Int):List Int:=(kh out.reverse).reverse
def cu(e:bg):bg:=
 if 4294967296<=e.low then{e with low:=(e.low-4294967296)%16777216*256,out:=gE e.out++[(e.low-4294967296)/16777216%256]}
 else{e with low:=e.low%16777216*256,out:=e.out++[e.low/16777216%256]}
def lO(e:bg):bg:={cu e with span:=e.span*256}
def jK(e:bg):bg:=if e.span<16777216 then(if e.span*256<16777216 then lO (lO e) else lO e) else e
def iO(e:bg)(c:Nat):Int:=e.span/4096*e.ch[c]?.getD 0
def iB(e:bg)(c:Nat)(b:Int):bg:=
 if b=0 then{e with span:=iO e c,ch:=e.ch.set c (bB (e.ch[c]?.getD 0) 0)}
 else{e with low:=e.low+iO e c,span:=e.span-iO e c,ch:=e.ch.set c (bB (e.ch[c]?.getD 0) 1)}
def ix(e:bg)(c:Nat)(b:Int):bg:=jK (iB e c b)
def nR:List Int->bg->bg
 |c::b::r,e=>nR r (ix e c.toNat b)
 |_,e=>e
def jf:bg:=⟨0,4294967295,so 40 2048,[]⟩
def l5(a:List Int):List Int:=(cu (cu (cu (cu (nR a jf))))).out
def ib:List Int->Bool
 |c::b::r=>decide (0<=c/\c<=39)&&decide (b=0\/b=1)&&ib r
 |_=>AT
def Gk(a:List Int)(n:Nat):Bool:=decide (n<=20000)&&ib a
def dO(be:Bool)(xs:List Int)(n:Nat):Option (List Int):=
 if(decide (1<=n/\n<=4)&&gx be xs n)=AT then(if Gk (jJ be xs n) ((jJ be xs n).length/2)=AT then an (l5 (jJ be xs n)) else ns) else ns
def ks(x:Int):Int:=x%256
def Bp(data:List Int)(n:Int)(be:Bool):Option (List Int):=
 if 1<=n/\n<=4 then
  match(eP be n.toNat (eJ data,0)).1 with
  |none=>ns
  |some xs=>if dO be xs n.toNat=an (data.map ks) then an xs else ns
 else ns
section
open Go.RowKit Go.WideShapes Go.ChangeShapes
def oM(s k:Nat)(st:Nat×List Int):Nat×List Int:=
 if s%2=0 then(if s-k<4/\k<4 then(st.1+1,st.2.set st.1 (4*((s-k:Nat):Int)+(k:Int))) else st)
 else(if k<4/\s-k<4 then(st.1+1,st.2.set st.1 (4*(k:Int)+((s-k:Nat):Int))) else st)
def qJ(s k:Nat)(st:Nat×List Int):Nat×List Int:=(aij k).foldl (λst j=>oM s j st) st
def nL(s:Nat):Nat×List Int:=(aij s).foldl (λst j=>qJ j (j+1) st) (0,so 16 0)
def Zu(s k:Nat)(st:Nat×List Int):qJ s (k+1) st=oM s k (qJ s k st):=by simp[qJ,aiU]
def Yo(s:Nat):nL (s+1)=qJ s (s+1) (nL s):=by simp[nL,aiU]
def kW:List Int:=gV.map λk:Nat=>(k:Int)
def acv:nL 7=(16,kW):=aF
def aeS:∀s,s<7->∀k,k<=s->(s-k<4/\k<4)->(qJ s k (nL s)).1<16:=aw
def zS:kW.length=16:=rfl
def cM:(Gz.prog.info? 97).map (·.size)=an 16:=aF
def N6:ahR Gz.prog 178 #[] w λe w'=>e=dl (bi (arr kW))/\Q w w':=by
 go_enter Gz.gf func178,ntmps178;go_wp2;change Code.wp _ _ _ _ ((w.alloc (ap (arr (so 16 0)) 97)).alloc (ap (arr (so 16 0)) 97));have q:Q w ((w.alloc (ap (arr (so 16 0)) 97)).alloc (ap (arr (so 16 0)) 97)):=aU;have r:=(Nb.new 97 16 w (so 16 0) rfl).alloc (ap (arr (so 16 0)) 97);have p:=Nb.new 97 16 (w.alloc (ap (arr (so 16 0)) 97)) (so 16 0) rfl;simp only[NO] at p;generalize(w.alloc (ap (arr (so 16 0)) 97)).alloc (ap (arr (so 16 0)) 97)=N at q r p⊢;go_loopw[2,7] (λv i wr=>∃(s n:Nat)(xs:List Int),s<=7/\i=U O s/\v=U O n/\Hid (Nb 97 16 wr w.heap.size (so 16 0)/\Nb 97 16 wr (w.heap.size+1) xs/\Q w wr/\nL s=(n,xs))) (λ_ i _=>7-(intOf i).toNat)
 case atStart=>exact⟨0,0,so 16 0,aa,rfl,rfl,r,p,q,rfl⟩
 case round=>
  obtain⟨s,n,xs,P,rfl,rfl,hK⟩:=hrel;obtain⟨f,j,b,a⟩:=hK.out;clear hK r p q;by_cases u:s<7
  ·have m:(s:Int)<7:=by omega
   have K1:=ag f;have K2:=ag j;have K3:=ag b;have y:=ag a;clear f j b a;go_wp2;go_loopw[2,12] (λv i wr=>∃(k n:Nat)(xs:List Int),k<=s+1/\i=U O k/\v=U O n/\Hid (Nb 97 16 wr w.heap.size (so 16 0)/\Nb 97 16 wr (w.heap.size+1) xs/\Q w wr/\qJ s k (nL s)=(n,xs))) (λ_ i _=>s+1-(intOf i).toNat)
   case atStart=>exact⟨0,n,xs,aa,rfl,rfl,K1.out,K2.out,K3.out,by rw[y.out];rfl⟩
   case round=>
    obtain⟨k,n,xs,R,rfl,rfl,hK⟩:=hrel;obtain⟨f,j,b,a⟩:=hK.out;clear hK K1 K2 K3 y;by_cases z:k<s+1
    ·have C:(k:Int)<(s:Int)+1:=by omega
     have GS:(s-k<4/\k<4)->n<16:=λh=>by have:=aeS s u k aa h;rw[a] at this;exact this
     have jt:=Zu s k (nL s);rw[a] at jt;have K1:=ag f;have K2:=ag j;have K3:=ag b;clear f j b a;by_cases hc:s-k<4/\k<4
     ·have D:=GS hc;have E:(n:Int)<16:=aa;obtain⟨X',If⟩:=hc;have F:(s:Int)-(k:Int)<4:=aa;have G:(k:Int)<4:=aa;have H:=K2.out.at n D;have f2:=K2.out.free n;generalize xs[n]?.getD 0=S at H;by_cases l:s%2=0
      ·have d:((s:Int)%2==0)=AT:=by simp;omega
       have qX:oM s k (n,xs)=(n+1,xs.set n (4*((s:Int)-(k:Int))+(k:Int))):=by unfold oM;rw[if_pos l,if_pos ⟨X',If⟩,show((s-k:Nat):Int)=(s:Int)-(k:Int) by omega]
       rw[qX] at jt;have PA:=ag jt;have o:(s:Int)-((s:Int)-(k:Int))=(k:Int):=aa;exact JZ
      ·have d:((s:Int)%2==0)=Ba:=by simp;omega
       have qX:oM s k (n,xs)=(n+1,xs.set n (4*(k:Int)+((s:Int)-(k:Int)))):=by unfold oM;rw[if_neg l,if_pos ⟨If,X'⟩,show((s-k:Nat):Int)=(s:Int)-(k:Int) by omega]
       rw[qX] at jt;have PA:=ag jt;exact JZ
     ·have qX:oM s k (n,xs)=(n,xs):=by
       unfold oM;by_cases l:s%2=0
       ·rw[if_pos l,if_neg hc]
       ·rw[if_neg l,if_neg λh=>hc ⟨h.2,h.1⟩]
      rw[qX] at jt;have PA:=ag jt;clear jt qX GS;by_cases l:s%2=0
      ·have d:((s:Int)%2==0)=AT:=by simp;omega
       have o:(s:Int)-((s:Int)-(k:Int))=(k:Int):=aa;by_cases X':(s:Int)-(k:Int)<4
       ·have If:¬(k:Int)<4:=by omega
        exact yL
       ·exact yL
      ·have d:((s:Int)%2==0)=Ba:=by simp;omega
       by_cases X':(k:Int)<4
       ·have If:¬(s:Int)-(k:Int)<4:=by omega
        exact yL
       ·exact yL
    ·have x:k=s+1:=by omega
     subst x;have I:Hid (nL (s+1)=(n,xs)):=(Yo s).trans a;clear a;go_wp2;go_roundw;case rel=>exact⟨s+1,n,xs,aa,aJ,rfl,f,j,b,I.out⟩
     case measure=>exact bj
  ·have m:s=7:=by omega
   subst m;rw[acv] at a;injection a with h1 J;subst h1;subst J;have K:=zS;go_wp2_with(first|(refine ew (n:=16) rfl _ _ rfl _ rfl _ aE _ (Gz.gu underlying97) rfl cM ?_)|(refine cP (n:=16) rfl _ _ _ rfl _ rfl _ _ dn aE dn cM ?_;intro T L M V));refine ahX (v:=bi (arr kW)) (aiO aC _ _ _ _ _ _ _ aC L.blk (Gz.gu underlying97) rfl (by rw[bP,K];exact cM)) rfl ⟨rfl,b.grown M λk e=>by have:=aH e;omega⟩
end
section
open Go.RowKit Go.WideShapes Go.ChangeShapes
def df:List Int:=so 16 0
def El{rs:List (Int×Int)}(a:k<rs.length)(b:List Int)(p:Nat):
  fP (rs.drop k) b p=if rs[k].2=0\/rs[k].1<0\/16-(p:Int)<=rs[k].1 then ns else fP (rs.drop (k+1)) (b.set (gV[p+rs[k].1.toNat]?.getD 0) rs[k].2) (p+rs[k].1.toNat+1):=by
 rw[List.drop_eq_getElem_cons a];rfl
def An(h:k<16):kW[k]?.getD 0=((gV[k]?.getD 0:Nat):Int):=by revert k;decide
def Ql(A:Option aic)(n c B:Nat)(rs:List (Int×Int))(w:rl)(Z:Rd w B A (fl rs))(hn:rs.length=n)(wZ:n<=100)(hB:B<=w.heap.size):
  ahR Gz.prog 176 #[Y A n c] w λe w'=>e=dl (em #[bi (arr ((gI rs).getD df)),ci (gI rs).isSome])/\Q w w':=by
 go_enter Gz.gf func176,ntmps176;go_wp2;refine(N6).mono ?_;rintro e C⟨rfl,q1⟩;have hl:=zS;have dg:(arr kW).size=16:=rfl;have o:=Nb.new 97 16 w df rfl;have h:=Nb.new 97 16 (w.alloc (ap (arr df) 97)) df rfl;rw[NO] at h;replace o:=(o.alloc (ap (arr df) 97)).q q1;replace h:=h.q q1;have F:Q w C:=Q.trans (((Q.refl w).alloc _).alloc _) q1;have L:=h.lt;clear q1;have b5:=Nb.new 97 16 C df rfl;go_wp2_with((refine cP (n:=16) rfl _ _ _ rfl _ rfl _ _ dn aE dn cM ?_;intro w9 G g9 s9));have H:Q C w9:=((Q.refl C).alloc _).grown g9 (λk e=>by have:=aH e;omega);replace o:=o.q H;replace h:=h.q H;replace F:=F.trans H;have u:=G.lt;clear b5 g9 s9 H;obtain⟨m,hm⟩:∃m,C.heap.size=m:=⟨_,rfl⟩;rw[hm] at G L u;rw[hm];clear hm;have HX:=ag Z;clear Z;have hnn:(n:Int)<=100:=aa;go_loopw[6,12] (λv i wr=>∃(k p:Nat)(b:List Int),k<=n/\p<=16/\i=U O k/\v=U O p/\Hid (Nb 97 16 wr w.heap.size df/\Nb 97 16 wr (w.heap.size+1) b/\Nb 97 16 wr m kW/\Q w wr/\m<wr.heap.size/\fP (rs.drop k) b p=gI rs)) (λ_ i _=>n-(intOf i).toNat)
 case atStart=>exact⟨0,0,df,aa,aa,rfl,rfl,o,h,G,F,u,rfl⟩
 case round=>
  obtain⟨k,p,b,hk,hp,rfl,rfl,hK⟩:=hrel;obtain⟨k0,k1,k5,kq,km,kl⟩:=hK.out;clear hK o h G F u;have hwm:w.heap.size+1<wr.heap.size:=aa;by_cases aV:k<n
  ·have rx:(k:Int)<(n:Int):=by omega
   have D:k<rs.length:=aa;obtain⟨f1,f2⟩:=AL rs k D;have a:=El D b p;rw[kl] at a;generalize rs[k]=r at f1 f2 a;obtain⟨z,l⟩:=r;dsimp only at f1 f2 a;obtain⟨bb,oo,rfl,Hx,hc⟩:=HX.out.q kq hB mZ;have c1:=hc (k*2) mZ;have M:=hc (k*2+1) mZ;rw[f1] at c1;rw[f2] at M;rw[<-Nat.add_assoc] at M;have afR:(p:Int)<=16:=aa;clear hc f1 f2;have N:=ag k0;have K1:=ag k1;have K5:=ag k5;have P:=ag kq;clear k0 k1 k5 kq kl;by_cases RT:l=0\/z<0\/16-(p:Int)<=z
   ·rw[if_pos RT] at a;have HL:=ag a;clear a;have o:=N.out.alloc (ap #[U O z,U O l] 140);have q0:=P.out.alloc (ap #[U O z,U O l] 140);have Q0:=ag q0;clear q0;by_cases h1:l=0
    ·subst h1;exact De
    ·have R:(l==0)=Ba:=by simp[h1]
     by_cases h2:z<0
     ·exact De
     ·have h3:16-(p:Int)<=z:=by omega
      have h4:0<=z:=aa;clear h2;exact De
   ·rw[if_neg RT] at a;have HL:=ag a;have R:(l==0)=Ba:=av;have t7:0<=z:=aa;have hz1:z<16-(p:Int):=aa;clear a RT;obtain⟨f,rfl⟩:∃f:Nat,z=(f:Int):=⟨z.toNat,aa⟩;rw[Int.toNat_natCast] at HL;have hq:p+f<16:=aa;have S:(p:Int)+(f:Int)<16:=aa;obtain⟨q,x⟩:∃q,p+f=q:=⟨_,rfl⟩;have d:(p:Int)+(f:Int)=(q:Int):=aa;have BJ:=ag x;have T:=ag d;rw[x] at HL hq;rw[d] at S;clear x d;obtain⟨t,V⟩:∃t,gV[q]?.getD 0=t:=⟨_,rfl⟩;have j:t<16:=by have:=tf q hq;omega
    have Hy:(t:Int)<16:=aa;rw[V] at HL;go_wp2;rw[T.out];have W:=ak.new wr 140 #[U O (f:Int),U O l];have y:Q wr (wr.alloc (ap #[U O (f:Int),U O l] 140)):=(Q.refl wr).alloc _;generalize wr.alloc (ap #[U O (f:Int),U O l] 140)=I at W y⊢;have n0:=N.out.q y;have X:=K1.out.q y;have n5:=K5.out.q y;have nq:=P.out.trans y;have c5:=n5.at q hq;rw[An hq,V] at c5;have cr:=W.cell;have J:=X.at t j;generalize b[t]?.getD 0=bt at J;have N0:=ag n0;have K:=ag X;have N5:=ag n5;have NQ:=ag nq;have BK:=y.size;clear n0 X n5 nq N K1 K5 P W y c1 M V
    go_still_tail 5,aj
    change aiB _ _ _ _ _ I.drew;have J:=K.out.drew.at t j;generalize b[t]?.getD 0=bt at J;have ft:=K.out.drew.free t;have F0:=ag (N0.out.drew.aL (p:=⟨w.heap.size+1,t,ns⟩) au (U O l));have F1:=ag (K.out.drew.set t l);have F5:=ag (N5.out.drew.aL (p:=⟨w.heap.size+1,t,ns⟩) av (U O l));have FQ:=ag (NQ.out.drew.set (p:=⟨w.heap.size+1,t,ns⟩) au (U O l));have E:m<((I.drew).setCell ⟨w.heap.size+1,t,ns⟩ (U O l)).heap.size:=by simpa[World.setCell] using(show m<I.heap.size by omega)
    generalize I.drew=w3 at J ft F0 F1 F5 FQ E⊢;clear c5 cr N0 K N5 NQ;go_wp2;go_roundw;case rel=>exact⟨k+1,q+1,_,aa,aa,aJ,aJ,F0.out,F1.out,F5.out,FQ.out,E,HL.out.symm⟩
    case measure=>exact bj
  ·exact J0
end
section
open Go.RowKit Go.WideShapes Go.ChangeShapes
theorem uP{P:Program}{e:Array ajq}{rest:List ajq}{o:ajq}{a:Act}{C:Exit->Act->rl->Prop}(p:o.guard=ns){x y:aiD}{st:SL}(E:o.op=.call {callee:=.builtin .append,args:=#[x,y],argTypes:=#[st,st]})
  (hu:P.underlying st=an (.slice t)){z:AS}{d:Nat}(f:(P.info? t).map (λi=>(i.zero,i.size,i.bytes))=an (an z,s,d))(F:z.cells.size=s)(G:0<s)(q:d<=1000)
  (H:a.eval x=v)(b:az t s w B v n xs)(ad:aic)(l:List Int)(m:Nat)(I:a.eval y=Y (an ad) m c)(D:l.length=m*s)
  (J:n+m<=1000000000)(r:B<=w.heap.size)(hc:∀j,j<l.length->w.cell? (ad.add j)=an (U O (l[j]?.getD 0)))
  (h:∀v' w',az t s w' B v' (n+m) (xs++l)->w.grownBy w' v.ownBlock->aiB P e C rest (a.put o.dst v') w'):aiB P e C (o::rest) a w:=by
 obtain⟨i0,hi,u,hz1,hz2⟩:=info_parts f;refine wpList_append_own _ p x y st E B t i0 z s d hu hi u hz1 hz2 F G v n _ H b.2 ad m c (l.map (Value.int .i64)) I (by rw[List.length_map];exact D) ?_ ?_ ?_ ?_ r ?_
 ·grind
 ·exact Df
 ·unfold maxLen;omega
 ·exact aQ (eZ J q) aw
 ·intro v' w' h1 K _;exact h v' w' ⟨by rw[ahc,b.1,D,Nat.add_mul],by simpa using h1⟩ K
def iK(w:rl)(a:List Int)(t:SL)(j:Nat)(b:j<a.length):(w.alloc (ap (arr a) t)).cell? ((⟨w.heap.size,0,ns⟩:aic).add j)=an (U O (a[j]?.getD 0)):=by
 have:=(ak.new w t (arr a)).cell j;rw[nE a j b] at this;by_cases h0:j=0
 ·subst h0;simpa[Addr.add] using this
 ·simpa[Addr.add,h0] using this
def al.app{S:List Nat}{a:rl}(h:al S a w)(g:w.grownBy w' v.ownBlock)(o:az t s w B v n xs)(b:a.heap.size<=B):al S a w':=
 h.iL g λk d=>.inr (aQ b (o.below k d))
def Nb.app{a:SL}{m:Nat}{b:List Int}(h:Nb a m w g b)(k:w.grownBy w' v.ownBlock)(o:az t s w B v n xs)(d:g<B):Nb a m w' g b:=
 h.grown k (λe=>by have:=o.below g e.symm;omega)
def ak.app{a:SL}{cs:Array AS}(h:ak w g a cs)(k:w.grownBy w' v.ownBlock)(o:az t s w B v n xs)(b:g<B):ak w' g a cs:=
 h.grown k (λe=>by have:=o.below g e.symm;omega)
def bC.app{B':Nat}{a:List Int}(h:bC w B' A a)(k:w.grownBy w' v.ownBlock)(o:az t s w B v n xs)(b:B'<=B)(hw:B'<=w.heap.size):bC w' B' A a:=
 h.grown k hw λg e=>by have:=o.below g e;omega
def EZ:(Gz.prog.info? 140).map (λi=>(i.zero,i.size,i.bytes))=an (an (bi #[U O 0,U O 0]),2,16):=aF
def gZ:(Gz.prog.info? 180).map (λi=>(i.zero,i.size,i.bytes))=an (an (bi #[U O 0,U O 0]),2,16):=aF
def e8:(Gz.prog.info? 100).map (·.size)=an 71:=aF
def zt:(Gz.prog.info? 100).map (λi=>(i.zero,i.size,i.bytes))=an (an (bi (Array.replicate 71 (U O 0))),71,568):=aF
end
section
open Go.RowKit Go.WideShapes Go.ChangeShapes
def Gl{n:Int}:ahR Gz.prog 148 #[U O n] w λe w'=>e=dl (U O (aY n))/\w=w':=by
 by_cases h:n<0\/65534<n
 ·exact Wk w h
 ·exact Wt n w aa aa
def RB.app{b B' r:Nat}{s:bF}{a1 a2:aic}(h:RB w r g s a1 a2 B A c)(k:w.grownBy w' v.ownBlock)(o:az t b w B' v n xs)(h1:r<B')(e:g<B')(f:B<=B'):RB w' r g s a1 a2 B A c:=by
 cases a:v.ownBlock with
 |none=>exact h.q (Q.ny (by rw[a] at k;exact k))
 |some j=>have i:=o.below j a;rw[a] at k;exact h.aq (al.bA k) (λx d=>by simp at d;omega) av av
def levels(r g B c:Nat)(s:bF)(F u:aic)(A:Option aic)(w:rl)(h:RB w r g s F u B A c)(ok:cj s.1):
  ahR Gz.prog 150 #[d9 (an ⟨r,0,ns⟩)] w λe w'=>e=dl (bi (arr (ir s).1))/\(∃P S,RB w' r g (ir s).2 F u B P S)/\al [r,g] w w':=by
 have hr:=h.blk.lt;have hg:=h.db.lt;have Hz:=h.db.le;have hN:=number r g 16 B c s F u A (w.alloc (ap (arr df) 97)) (h.q ((Q.refl w).alloc _)) ok aw;have b0:=Nb.new 97 16 w df rfl;go_enter Gz.gf func150,ntmps150;go_wp2;refine hN.mono ?_;rintro e w1⟨rfl,⟨A1,c1,h1⟩,x1⟩;obtain⟨n1,n2⟩:=Am 16 s;have T:=kL (b:=16) aw ok;have Uc:ir s=(match gI (eQ (min (bD 16 s).1 17).toNat (bD 16 s).2).1 with|some b=>(b,(eQ (min (bD 16 s).1 17).toNat (bD 16 s).2).2)|none=>(df,((eQ (min (bD 16 s).1 17).toNat (bD 16 s).2).2.1,if(eQ (min (bD 16 s).1 17).toNat (bD 16 s).2).2.2=0 then 2 else(eQ (min (bD 16 s).1 17).toNat (bD 16 s).2).2.2))):=rfl;have d:=ag Uc;clear Uc hN;generalize(bD 16 s).1=nn at n1 n2 d⊢;generalize(bD 16 s).2=s1 at h1 T d;obtain⟨M,hM⟩:∃M:Nat,(min nn 17).toNat=M:=⟨_,rfl⟩;rw[hM] at d;have H8:min nn 17=(M:Int):=aa;have ahg:M<=17:=aa;have B0:=ag (b0.aq x1 av);have X1:=ag ((al.dp [r,g] ((Q.refl w).alloc (ap (arr df) 97))).trans x1);have pm:w.heap.size<w1.heap.size:=by have:=x1.size;simp at this;omega
 have o0:=az.nil 140 2 w1 (w.heap.size+1);clear hM b0 x1 h;generalize hR:eQ M s1=R at d;have HR:=ag hR;clear hR n1 n2;go_wp2;go_loopw[3,10] (λv i wr=>∃(k:Nat)(acc:List (Int×Int))(f:bF)(P:Option aic)(S:Nat),k<=M/\i=U O k/\Hid (RB wr r g f F u B P S/\az 140 2 wr (w.heap.size+1) v k (fl acc)/\acc.length=k/\Nb 97 16 wr w.heap.size df/\al [r,g] w wr/\w.heap.size<wr.heap.size/\cj f.1/\acc++(eQ (M-k) f).1=R.1/\(eQ (M-k) f).2=R.2)) (λ_ i _=>M-(intOf i).toNat)
 case atStart=>exact⟨0,[],s1,A1,c1,aa,rfl,h1,o0,rfl,B0.out,X1.out,pm,T,by rw[Nat.sub_zero,HR.out];rfl,by rw[Nat.sub_zero,HR.out]⟩
 case round=>
  obtain⟨k,acc,f,P,S,hk,rfl,hK⟩:=hrel;obtain⟨k1,k2,k3,k4,k5,k6,k7,y,G⟩:=hK.out;clear hK h1 o0 B0 X1 pm T;by_cases aV:k<M
  ·have Ud:(k:Int)<(M:Int):=by omega
   obtain⟨m,hm⟩:∃m,M-(k+1)=m:=⟨_,rfl⟩
   have D:eQ (M-k) f=(let z:=bD 23 f;let l:=bD 30 z.2;let rr:=eQ m l.2;((z.1,aY (l.1+1))::rr.1,rr.2)):=by rw[show M-k=m+1 by omega,eQ]
   rw[D] at y G;dsimp only at y G;clear D;have H9:=number r g 23 B S f F u P wr k1 k7 aw;have H:=kL (b:=23) aw k7;obtain⟨n3,n4⟩:=Am 23 f;go_wp2;refine H9.mono ?_;rintro e w2⟨rfl,⟨A2,c2,h2⟩,x2⟩;clear H9;generalize(bD 23 f).1=z at n3 n4 y⊢;generalize(bD 23 f).2=s2 at h2 H y G;have Ue:=number r g 30 B c2 s2 F u A2 w2 h2 H aw;have V:=kL (b:=30) aw H;obtain⟨n5,n6⟩:=Am 30 s2;go_wp2;refine Ue.mono ?_;rintro e w3⟨rfl,⟨A3,c3,h3⟩,x3⟩;clear Ue;generalize(bD 30 s2).1=l at n5 n6 y⊢;generalize(bD 30 s2).2=s3 at h3 V y G;have E:=x2.trans x3;have q2:=k2.aq E (λx W=>by simp at W;omega);have q4:=k4.aq E av;have K:=k5.trans E;have q6:w.heap.size<w3.heap.size:=by have:=E.size;omega
   have K1:=ag h3;have K4:=ag q4;have K5:=ag K;have K8:=ag y;have K9:=ag G;have K7:=ag V;have ag9:k+1<=1000000000:=aa;have wl:wrap64 (l+1)=l+1:=ig ⟨aa,aa⟩;clear h2 h3 x2 x3 E k1 k2 k4 k5 k6 k7 y G q4 K H V;go_wp2_with(first|(go_at_call 148;refine(Gl).mono ?_;rintro e w4⟨rfl,rfl⟩)|(at_builtin;refine uP rfl rfl (Gz.gu underlying138) EZ rfl aw aw rfl (q2.alloc _) ⟨_,0,ns⟩ [z,aY (l+1)] 1 rfl rfl aa av (λj hj=>iK _ [z,aY (l+1)] _ j hj) ?_;intro v' w' O2 G2));go_roundw
   case rel=>
    have qa:=q2.alloc (ap #[U O z,U O (aY (l+1))] 140);have hbr:=K1.out.le;refine⟨k+1,acc++[(z,aY (l+1))],s3,A3,c3,aa,aJ,(K1.out.q ((Q.refl w3).alloc _)).app G2 qa aa aa aa,by rw[Fu];exact O2,by simp;exact k3,(K4.out.q ((Q.refl w3).alloc _)).app G2 qa aa,(K5.out.alloc _).app G2 qa aa,?_,K7.out,?_,?_⟩
    ·have:=G2.size;simp at this;omega
    ·rw[hm,<-K8.out];simp
    ·rw[hm];exact K9.out
   case measure=>exact bj
  ·have Ud:k=M:=by omega
   subst Ud;rw[Nat.sub_self,eQ] at y G;rw[List.append_nil] at y;have hRR:R=(acc,f):=Prod.ext y.symm G.symm;subst hRR;dsimp only at d;have HB:=ag (Ql · k);have Y':=k2.form;obtain⟨AA,cc,rfl⟩:=Y';have K1:=ag k1;have K4:=ag k4;have K5:=ag k5;have Uf:=Ql AA k cc wr.heap.size acc wr k2.rd k3 aa (ay _);clear k1 k2 k4 k5 k7 y G HR HB hk;go_wp2;refine Uf.mono ?_;rintro e I⟨rfl,K⟩;clear Uf;have h5:=K1.out.q K;have b5:=K4.out.q K;have x5:=K5.out.q K;have BN:=K.size
   have hlen:((gI acc).getD df).length=16:=by cases L:gI acc with|none=>rfl|some b=>exact zl L
   have bn:=Nb.new 97 16 I df rfl;have b6:=b5.alloc (ap (arr df) 97);have H5:=ag h5;have X5:=ag x5;clear h5 x5 b5 K1 K4 K5 K;cases L:gI acc with
   |some b=>
    rw[L] at d hlen;dsimp only at d;rw[Option.getD_some] at hlen⊢;have HB:=ag L;clear L;have J:an w.heap.size≠an I.heap.size:=λe=>by injection e with e;omega
    go_wp2_with(first|(refine ew (n:=16) rfl _ _ rfl _ rfl _ aE _ (Gz.gu underlying97) rfl cM ?_)|((refine cP (n:=16) rfl _ _ _ rfl _ rfl _ _ dn aE dn cM ?_;intro o b9 C s9);have b7:=b6.grown C J)|(refine cP (n:=16) rfl _ _ _ rfl _ rfl _ _ dn aE dn cM ?_;intro wz bz N sz));refine ahX (aiO aC _ _ _ _ _ _ _ aC bz.blk (Gz.gu underlying97) rfl uO) rfl ?_;rw[d.out];have X:Q I o:=((Q.refl I).alloc _).grown C (λk e=>by have:=aH e;omega);exact⟨rfl,⟨_,_,(H5.out.q X).aq (al.bA N) (λx W=>by simp at W;have:=H5.out.le;omega) av av⟩,(X5.out.q X).grown N (.inr (ay _))⟩
   |none=>
    rw[L] at d hlen;dsimp only at d;rw[Option.getD_none] at hlen⊢;have HB:=ag L;clear L;have J:an w.heap.size≠an I.heap.size:=λe=>by injection e with e;omega
    have X:∀o,(I.alloc (ap (arr df) 97)).grownBy o (an I.heap.size)->Q I o:=λo C=>((Q.refl I).alloc _).grown C (λk e=>by have:=aH e;omega);have hle:=H5.out.le;by_cases he:f.2=0
    ·rw[if_pos he] at d;have Z:(∀o,RB o r g f F u B P S->o.cell? ⟨r,1,ns⟩=an .nilIface):=λo h9=>by have:=h9.err;rw[he] at this;exact this
     have E2:=ag Z;clear Z he;go_wp2_with(first|(refine ew (n:=16) rfl _ _ rfl _ rfl _ aE _ (Gz.gu underlying97) rfl cM ?_)|((refine cP (n:=16) rfl _ _ _ rfl _ rfl _ _ dn aE dn cM ?_;intro o b9 C s9);have b7:=b6.grown C J;have q9:=H5.out.q (X _ C);have ce:=E2.out _ q9;have cf:=q9.free;have cg:o.cell? ⟨2,0,ns⟩=an (gc 234 (d9 (an u))):=q9.er.e2;have b9e:=b9.aL (p:=⟨r,1,ns⟩) av (gc 234 (d9 (an u)));have b7e:=b7.aL (p:=⟨r,1,ns⟩) av (gc 234 (d9 (an u))))|(refine cP (n:=16) rfl _ _ _ rfl _ rfl _ _ dn aE dn cM ?_;intro wz bz N sz));refine ahX (aiO aC _ _ _ _ _ _ _ aC bz.blk (Gz.gu underlying97) rfl uO) rfl ?_;rw[d.out];have h9:=q9.Rn 2;exact⟨rfl,⟨_,_,h9.aq (al.bA N) (λx W=>by simp at W;omega) av av⟩,((X5.out.q (X _ C)).set (p:=⟨r,1,ns⟩) (.inl au) _).grown N (.inr (ay _))⟩
    ·rw[if_neg he] at d
     have Z:∃a,∀o,RB o r g f F u B P S->o.cell? ⟨r,1,ns⟩=an (gc 234 (d9 (an a))):=by
      by_cases h1:f.2=1
      ·exact⟨F,λo h9=>by have:=h9.err;rw[h1] at this;exact this⟩
      ·refine⟨u,λo h9=>?_⟩;have:=h9.err;rw[this];obtain⟨n,hn⟩:∃n,f.2=n+2:=⟨f.2-2,aa⟩;rw[hn];rfl
     obtain⟨ae,Z⟩:=Z;have E2:=ag Z;clear Z he;go_wp2_with(first|(refine ew (n:=16) rfl _ _ rfl _ rfl _ aE _ (Gz.gu underlying97) rfl cM ?_)|((refine cP (n:=16) rfl _ _ _ rfl _ rfl _ _ dn aE dn cM ?_;intro o b9 C s9);have b7:=b6.grown C J;have q9:=H5.out.q (X _ C);have ce:=E2.out _ q9)|(refine cP (n:=16) rfl _ _ _ rfl _ rfl _ _ dn aE dn cM ?_;intro wz bz N sz));refine ahX (aiO aC _ _ _ _ _ _ _ aC bz.blk (Gz.gu underlying97) rfl uO) rfl ?_;rw[d.out];exact⟨rfl,⟨_,_,q9.aq (al.bA N) (λx W=>by simp at W;omega) av av⟩,(X5.out.q (X _ C)).grown N (.inr (ay _))⟩
end
section
open Go.RowKit Go.WideShapes Go.ChangeShapes
def gP:List Int:=2::so 70 0
def take_set(h:k<xs.length)(v:Int):(xs.set k v).take (k+1)=xs.take k++[v]:=by rw[List.take_succ_eq_append_getElem mu];simp[List.take_set_of_le]
def Pn:∀(a xs:List Int)(o:Nat),o+a.length<=xs.length->(upd xs o a).take (o+a.length)=xs.take o++a
 |[],xs,o,_=>by simp[upd]
 |y::a,xs,o,h=>by simp only[ais] at h⊢;rw[upd,show o+(a.length+1)=o+1+a.length by omega,Pn a _ (o+1) av,take_set aa];simp
def fG:(Gz.prog.info? 100).map (·.size)=an 71:=aF
def SA{p:Prop}(h:p:=by(have E:=ag k1;have N0:=ag k2;have F:=ag k3;have G:=ag k4;have o:w.heap.size+1<wr.heap.size:=k2.lt;clear k1 k2 k3 k4;go_loopw[47] (λi wr=>∃(k:Nat)(t9:bF)(A':Option Addr)(c':Nat)(xs acc:List Int),k<=4/\i=.int .i64 k/\Hid (RB wr r g t9 a1 a2 B A' c'/\Nb 100 71 wr (w.heap.size+1) xs/\Nb 100 71 wr w.heap.size et/\al [r,g] w wr/\w.heap.size+1<wr.heap.size/\cj t9.1/\xs.take (7+k*16)=hd++acc/\acc++(fc (4-k) t9).1=(fc 4 t).1/\(fc (4-k) t9).2=(fc 4 t).2)) λi _=>4-(intOf i).toNat;(case atStart=>exact⟨0,t,A',c',ms,[],by omega,rfl,E.out,N0.out,F.out,G.out,o,k6,by simpa using Fr,by rw[Nat.sub_zero,List.nil_append],by rw[Nat.sub_zero]⟩);(case round=>obtain⟨k,t,A',c',xs,acc,hk,rfl,hK⟩:=hrel;obtain⟨k1,k2,k3,k4,k5,k6,j,a,d⟩:=hK.out;clear hK;(try clear E N0 F G o Fr);by_cases K:k<4;(case pos=>obtain⟨m,hm⟩:∃m,4-(k+1)=m:=⟨_,rfl⟩;rw[show 4-k=m+1 by omega,fc] at a d;dsimp only at a d;have H:=levels r g B c' t a1 a2 A' wr k1 k6;have q:=Ni k6;have u:=MJ t;have L:(k:Int)<4:=(by omega);go_wp2;refine H.mono ?_;rintro e wq⟨rfl,⟨M,N,hq⟩,y⟩;clear H;generalize(ir t).1=b at u a⊢;generalize(ir t).2=tq at hq q a d;have y2:=k2.aq y (by simp;omega);have I:=k3.aq y (by simp;omega);have J:=k4.trans y;have P:=y.size;have Q:=ag hq;have R:=ag I;have S:=ag J;have T:=ag j;have V:=ag a;have W:=ag d;have f:=k2.len;clear k1 k2 k3 k4 k6 j a d y I J hq;go_wp2_with((refine rU (n:=71) rfl _ _ _ rfl _ (7+k*16) rfl _ _ rfl (by assumption) (by omega) (by rw[u];exact cM) ?_;intro X z l Z));go_roundw;(case rel=>exact⟨k+1,tq,M,N,upd xs (7+k*16) b,acc++b,by omega,by go_num,Q.out.aq (al.bA l) (λx C=>by simp at C;omega) (by simp;omega) (by simp;omega),z,R.out.grown l i6,S.out.grown l (.inr (by omega)),by omega,q,by rw[show 7+(k+1)*16=7+k*16+b.length by omega,Pn _ _ _ (by omega),T.out,List.append_assoc],by rw[hm,List.append_assoc];exact V.out,by rw[hm];exact W.out⟩);(case measure=>simp[intOf];omega));(case neg=>have D:k=4:=(by omega);subst D;have f:=k2.len;rw[List.take_of_length_le (by omega)] at j;rw[Nat.sub_self,fc] at a d;rw[List.append_nil] at a;rw[a] at j;rw[<-j,<-d] at HV;dsimp only at HV;clear j a d;go_wp2_with(first|(refine ew (n:=71) rfl _ _ rfl _ rfl _ (by assumption) _ (Gz.gu underlying100) rfl fG ?_)|(refine cP (n:=71) rfl _ _ _ rfl _ rfl _ xs rfl (by assumption) f fG ?_;intro X z l Z));refine bodyPost_ret (results_cell_row (by rfl) _ _ _ _ _ _ _ (by rfl) z.blk (Gz.gu underlying100) rfl (by rw[bP,f];exact fG)) rfl ?_;rw[HV.out];exact⟨rfl,⟨_,_,k1.aq (al.bA l) (λx C=>by simp at C;omega) (by simp;omega) (by simp;omega)⟩,k4.grown l (.inr (ay _))⟩)))):p:=h
def SC{p:Prop}(h:p:=by(have E:Hid (mK s=([2,0,0]++(hU 4 s).1,(hU 4 s).2)):=rfl;have H1:=ag h9;have F:=ag b9;have G:=ag b8;have H:=ag x9;have q:w.heap.size+1<w9.heap.size:=b9.lt;clear h9 b9 b8 x9;go_loopw[38] (λi wr=>∃(k:Nat)(t:bF)(A':Option Addr)(c':Nat)(xs acc:List Int),k<=4/\i=.int .i64 k/\Hid (RB wr r g t a1 a2 B A' c'/\Nb 100 71 wr (w.heap.size+1) xs/\Nb 100 71 wr w.heap.size et/\al [r,g] w wr/\w.heap.size+1<wr.heap.size/\cj t.1/\xs.take (3+k)=[2,0,0]++acc/\acc++(hU (4-k) t).1=(hU 4 s).1/\(hU (4-k) t).2=(hU 4 s).2)) λi _=>4-(intOf i).toNat;(case atStart=>exact⟨0,s,A,c,ms,[],by omega,rfl,H1.out,F.out,G.out,H.out,q,ok,by simpa using BT,by rw[Nat.sub_zero,List.nil_append],by rw[Nat.sub_zero]⟩);(case round=>obtain⟨k,t,A',c',xs,acc,hk,rfl,hK⟩:=hrel;obtain⟨k1,k2,k3,k4,k5,k6,u,a,d⟩:=hK.out;clear hK;(try clear H1 F G H q BT);by_cases L:k<4;(case pos=>obtain⟨m,hm⟩:∃m,4-(k+1)=m:=⟨_,rfl⟩;rw[show 4-k=m+1 by omega,hU] at a d;dsimp only at a d;have I:=number r g 9 B c' t a1 a2 A' wr k1 k6 (by decide);have y:=kL (b:=9) (by decide) k6;have M:(k:Int)<4:=(by omega);go_wp2;refine I.mono ?_;rintro e wq⟨rfl,⟨N,P,hq⟩,C⟩;clear I;generalize(bD 9 t).1=b at a⊢;generalize(bD 9 t).2=tq at hq y a d;have D:=k2.aq C (by simp;omega);have J:=k3.aq C (by simp;omega);have K:=k4.trans C;have Q:=C.size;have R:=ag hq;have S:=ag D;have T:=ag J;have V:=ag K;have W:=ag u;have X:=ag a;have Z:=ag d;have hxl:=k2.len;have cy:=D.at (3+k) (by omega);generalize xs[3+k]?.getD 0=qy at cy;have fy:=D.free;clear k1 k2 k3 k4 k6 u a d C D J K hq;go_wp2;go_roundw;(case rel=>exact⟨k+1,tq,N,P,xs.set (3+k) b,acc++[b],by omega,by go_num,R.out.aq (lH _ _ _ _) (λx hx=>by simp at hx;omega) (by simp;omega) (by simp;omega),S.out.set (3+k) b,T.out.aL (by simp) _,V.out.set (.inr (by simp)) _,by simp[World.setCell];omega,y,by rw[show 3+(k+1)=3+k+1 by omega,take_set (by omega),W.out,List.append_assoc],by rw[hm,<-X.out];simp,by rw[hm];exact Z.out⟩);(case measure=>simp[intOf];omega));(case neg=>have j:k=4:=(by omega);rw[j,Nat.sub_self,hU] at a d;rw[j] at u;have hk5:(4:Int)<=(k:Int):=(by omega);clear j;rw[List.append_nil] at a;have l:=congrArg List.length a;rw[D8] at l;rw[E.out] at HM;rw[<-a,<-d] at HM;dsimp only at HM;have Fr:=u;obtain⟨ms,f⟩:∃z,xs=z:=⟨_,rfl⟩;rw[f] at k2 Fr;obtain⟨hd,o⟩:∃z,[2,0,0]++acc=z:=⟨_,rfl⟩;rw[o] at Fr HM;have hdl:hd.length=7:=(by rw[<-o];simp[l]);clear o f u a d l E;have HV:=HM;clear HM;go_wp2;exact SA)))):p:=h
def adW{r:Nat}{s:bF}{a1 a2:aic}(be:Bool)(h:RB w r g s a1 a2 B A c)(ok:cj s.1):
  ahR Gz.prog 114 #[d9 (an ⟨r,0,ns⟩),ci be] w λe w'=>e=dl (bi (arr (dV be s).1))/\(∃A' c',RB w' r g (dV be s).2 a1 a2 B A' c')/\al [r,g] w w':=by
 have hr:=h.blk.lt;have hg:=h.db.lt;have Hz:=h.db.le;have BO:=h.le;have b0:=Nb.new 100 71 w et rfl;have b1:=Nb.new 100 71 (w.alloc (ap (arr et) 100)) et rfl;rw[NO] at b1;have i6:an w.heap.size≠an (w.heap.size+1):=λe=>by injection e with e;omega
 have m:=b0.alloc (ap (arr et) 100);have ahh:et.length=71:=rfl;have ok0:=ok;cases be with
 |false=>
  go_enter Gz.gf func114,ntmps114;go_wp2_with((refine cP (n:=71) rfl _ _ _ rfl _ rfl _ gP rfl aE rT fG ?_;intro w9 b9 E s9);have J:Q w w9:=(((Q.refl w).alloc _).alloc _).grown E (λk e=>by have:=aH e;omega);have h9:=h.q J;have b8:=m.grown E i6;have c0:=h9.ptr;clear b0 b1 m E s9 h);have M:=decode g 0 B c s.1 A w9 h9.db ok aw;refine M.mono ?_;rintro e w2⟨rfl,⟨A2,c2,d2⟩,N⟩;clear M;have K:=h9.dec N d2;have P:=b9.aq N av;have b3:=b8.aq N av;have x3:al [r,g] w w2:=(al.dp [r,g] J).trans (N.more λk R=>by simp at R;simp[R]);have o:=ok.jN 0 aw;have BP:w.heap.size+1<w2.heap.size:=by have:=P.lt;omega
  clear h9 b9 b8 N d2 J c0;rcases nA s.1 0 with hb|hb
  ·have HM:Hid (dV Ba s=(et,(bT s.1 0,s.2))):=by unfold Hid dV;rw[if_pos ⟨rfl,hb⟩]
   rw[hb];go_wp2_with((refine cP (n:=71) rfl _ _ _ rfl _ rfl _ et rfl aE rT fG ?_;intro wz bz gz sz));refine ahX (aiO aC _ _ _ _ _ _ _ aC bz.blk (Gz.gu underlying100) rfl CB) rfl ?_;rw[HM.out];exact⟨rfl,⟨_,_,K.aq (al.bA gz) (λx u=>by simp at u;omega) av av⟩,x3.grown gz (.inr (ay _))⟩
  ·have S:dV Ba s=((fz Ba (bT s.1 0,s.2)).1++(fc 4 (fz Ba (bT s.1 0,s.2)).2).1,(fc 4 (fz Ba (bT s.1 0,s.2)).2).2):=by unfold dV;rw[if_neg (by rw[hb];intro k;cases k.2)];rfl
   have HM:=ag S;rw[hb];generalize bT s.1 0=d0 at K o HM;clear S hb;have c0:=K.ptr;have f:=P.at 0 aw;have j:=P.free 0;go_wp2;have M:=decode g 1 B c2 d0 A2 w2 K.db o aw;refine M.mono ?_;rintro e w3⟨rfl,⟨A3,c3,d3⟩,T⟩;clear M;have L:=K.dec T d3;have F:=P.aq T av;have Z:=b3.aq T av;have x5:al [r,g] w w3:=x3.trans (T.more λk R=>by simp at R;simp[R]);have d:=o.jN 1 aw;have V:w.heap.size+1<w3.heap.size:=by have:=F.lt;omega
   clear K P b3 x3 T d3 c0 f j o;have i:fz Ba (d0,s.2)=if 1+cV d0 1=1 then tB (bT d0 1,s.2) else mK (bT d0 1,s.2):=rfl
   have f:=F.at 0 aw;have j:=F.free 0;generalize gP[0]?.getD 0=q0 at f;rcases nA d0 1 with hb|hb
   ·rw[hb,if_pos aw] at i;rw[hb];rw[i] at HM;generalize bT d0 1=d1 at L d HM;clear hb i;go_wp2;have G:=L.aq (lH w3 (w.heap.size+1) 0 (U O 1)) (λx u=>by simp at u;omega) av av;have n4:=F.set 0 1;have n5:=Z.aL (p:=⟨w.heap.size+1,0,ns⟩) au (U O 1);have x6:=x5.set (p:=⟨w.heap.size+1,0,ns⟩) (.inr au) (U O 1);generalize w3.setCell ⟨w.heap.size+1,0,ns⟩ (U O 1)=w4 at G n4 n5 x6⊢;clear L F Z x5 f j V;have W:=number r g 2 B c3 _ a1 a2 A3 w4 G d aw;refine W.mono ?_;rintro e w5⟨rfl,⟨A5,c5,h5⟩,y⟩;have C:=kL (s:=(d1,s.2)) (b:=2) aw d;have n6:=n4.aq y av;have n7:=n5.aq y av;have X:=x6.trans y;obtain⟨i1,i2⟩:=Am 2 (d1,s.2);have HV:Hid (dV Ba s=([1,aY (bD 2 (d1,s.2)).1,aY (bD 2 (bD 2 (d1,s.2)).2).1,0,0,0,0]++(fc 4 (bD 2 (bD 2 (d1,s.2)).2).2).1,(fc 4 (bD 2 (bD 2 (d1,s.2)).2).2).2)):=HM.out;clear W G n4 n5 x6 y d HM;generalize(bD 2 (d1,s.2)).1=l at i1 i2 HV⊢;generalize(bD 2 (d1,s.2)).2=s5 at h5 C HV;have f:=n6.at 1 aw;generalize(gP.set 0 1)[1]?.getD 0=q1 at f;have j:=n6.free;go_wp2_with(go_at_call 148;refine(Gl).mono ?_;rintro e w4⟨rfl,rfl⟩);have h6:=h5.aq (lH w5 (w.heap.size+1) 1 (U O (aY l))) (λx u=>by simp at u;omega) av av;have n8:=n6.set 1 (aY l);have n9:=n7.aL (p:=⟨w.heap.size+1,1,ns⟩) au (U O (aY l));have x9:=X.set (p:=⟨w.heap.size+1,1,ns⟩) (.inr au) (U O (aY l));generalize w5.setCell ⟨w.heap.size+1,1,ns⟩ (U O (aY l))=w6 at h6 n8 n9 x9⊢;clear h5 n6 n7 X f j;have W:=number r g 2 B c5 _ a1 a2 A5 w6 h6 C aw;refine W.mono ?_;rintro e w7⟨rfl,⟨A',c',h7⟩,y⟩;have k6:=kL (b:=2) aw C;have n6:=n8.aq y av;have n7:=n9.aq y av;have X:=x9.trans y;clear W h6 n8 n9 x9 y C;generalize(bD 2 s5).1=D at HV⊢;generalize(bD 2 s5).2=t at h7 k6 HV;have f:=n6.at 2 aw;generalize((gP.set 0 1).set 1 (aY l))[2]?.getD 0=q1 at f;have j:=n6.free;go_wp2_with(go_at_call 148;refine(Gl).mono ?_;rintro e w4⟨rfl,rfl⟩);have k1:=h7.aq (lH w7 (w.heap.size+1) 2 (U O (aY D))) (λx u=>by simp at u;omega) av av;have k2:=n6.set 2 (aY D);have k3:=n7.aL (p:=⟨w.heap.size+1,2,ns⟩) au (U O (aY D));have k4:=X.set (p:=⟨w.heap.size+1,2,ns⟩) (.inr au) (U O (aY D));generalize w7.setCell ⟨w.heap.size+1,2,ns⟩ (U O (aY D))=wr at k1 k2 k3 k4⊢;have Fr:(((gP.set 0 1).set 1 (aY l)).set 2 (aY D)).take 7=[1,aY l,aY D,0,0,0,0]:=rfl;obtain⟨ms,BT⟩:∃z,((gP.set 0 1).set 1 (aY l)).set 2 (aY D)=z:=⟨_,rfl⟩;rw[BT] at k2 Fr;clear BT;obtain⟨hd,H⟩:∃z,[1,aY l,aY D,0,0,0,0]=z:=⟨_,rfl⟩;rw[H] at Fr HV;have hdl:hd.length=7:=by rw[<-H];rfl
    clear H;clear h7 n6 n7 X f j i1 i2;exact SA
   ·rw[hb,if_neg aw] at i;rw[hb];rw[i] at HM;generalize bT d0 1=d1 at L d HM;clear hb i;go_wp2;have G:=L.aq (lH w3 (w.heap.size+1) 0 (U O 2)) (λx u=>by simp at u;omega) av av;have b9:=F.set 0 2;have b8:=Z.aL (p:=⟨w.heap.size+1,0,ns⟩) au (U O 2);have x9:=x5.set (p:=⟨w.heap.size+1,0,ns⟩) (.inr au) (U O 2);generalize w3.setCell ⟨w.heap.size+1,0,ns⟩ (U O 2)=w9 at G b9 b8 x9⊢;clear L F Z x5 f j V;have h9:RB w9 r g (d1,s.2) a1 a2 B A3 c3:=G;obtain⟨sm,I⟩:∃z:bF,(d1,s.2)=z:=⟨_,rfl⟩;obtain⟨A,rfl⟩:∃z,z=A3:=⟨_,rfl⟩;obtain⟨c,rfl⟩:∃z,z=c3:=⟨_,rfl⟩;have ok:cj sm.1:=by rw[<-I];exact d
    rw[I] at h9 HM;obtain⟨s,rfl⟩:∃z,z=sm:=⟨_,rfl⟩;clear I d G;have BT:(gP.set 0 2).take 3=[2,0,0]:=rfl;obtain⟨ms,a⟩:∃z,gP.set 0 2=z:=⟨_,rfl⟩;rw[a] at b9 BT;clear a;exact SC
 |true=>
  go_enter Gz.gf func114,ntmps114;go_wp2_with((refine cP (n:=71) rfl _ _ _ rfl _ rfl _ gP rfl aE rT fG ?_;intro w9 b9 E s9);have J:Q w w9:=(((Q.refl w).alloc _).alloc _).grown E (λk e=>by have:=aH e;omega);have h9:=h.q J;have b8:=m.grown E i6;have c0:=h9.ptr;clear b0 b1 m E s9 h;have f:=b9.at 0 aw;have j:=b9.free 0;generalize tR:gP[0]?.getD 0=q0 at f;have CA:q0=2:=tR.symm;subst CA)
  have HM:Hid (dV AT s=((mK s).1++(fc 4 (mK s).2).1,(fc 4 (mK s).2).2)):=by unfold Hid dV;rw[if_neg λk=>by cases k.1];rfl
  have BT:gP.take 3=[2,0,0]:=rfl;obtain⟨ms,a⟩:∃z,gP=z:=⟨_,rfl⟩;rw[a] at b9 BT;clear a c0 f j;have x9:=al.dp [r,g] J;exact SC
end
section
open Go.RowKit Go.WideShapes Go.ChangeShapes
def Po:∀(b:List AS)(k:Nat)(cs:Array AS)(j:Nat),((b.zipIdx k).foldl (λcs x=>cs.setIfInBounds x.2 x.1) cs)[j]?=if k<=j/\j<k+b.length/\j<cs.size then b[j-k]? else cs[j]?
 |[],k,cs,j=>by
  rw[if_neg]
  ·rfl
  ·simp only[ajF];omega
 |y::t,k,cs,j=>by
  rw[List.zipIdx_cons,List.foldl_cons,Po t (k+1) _ j,Array.size_setIfInBounds];simp only[ais];by_cases h1:k=j
  ·subst h1;rw[if_neg aa];by_cases a:k<cs.size
   ·rw[if_pos aa,Array.getElem?_setIfInBounds_self_of_lt a];simp
   ·rw[if_neg aa,Array.getElem?_eq_none av,Array.getElem?_eq_none aa]
  ·rw[Array.getElem?_setIfInBounds_ne h1];by_cases a:k+1<=j/\j<k+1+t.length/\j<cs.size
   ·rw[if_pos a,if_pos aa,show j-k=(j-(k+1))+1 by omega];simp
   ·rw[if_neg a,if_neg aa]
def aaN(a cs:Array AS)(h:cs.size=a.size):a.zipIdx.foldl (λcs x=>cs.setIfInBounds (0+x.2) x.1) cs=a:=by
 rw[<-Array.foldl_toList,Array.toList_zipIdx];apply zc;intro j;simp only[Nat.zero_add];rw[Po];by_cases b:j<a.size
 ·simp_all
 ·simp_all
def fill_whole(s:Nat)(X a:Array AS)(b:X.size=s)(d:a.size=s):Instr.fill (λi=>an (i*s,s)) X [(0,bi a)]=an a:=by have hc:(Value.agg a).cells=a:=rfl;simp only[Instr.fill,Nat.zero_mul,hc];rw[if_neg av];exact congrArg an (aaN a X aa)
def yz{P:Program}{f:Array ajq}{rest:List ajq}{o:ajq}{a:Act}{Q:Exit->Act->rl->Prop}(m:o.guard=ns){x:aiD}(q:o.op=.buildSlice t 1 #[(0,x)])
  {e:SL}(hu:P.underlying t=an (.slice e))(b:Array AS)(r:a.eval x=bi b)(hi:(P.info? e).map (·.size)=an b.size)(j:((P.info? e).bind (·.zero)).isSome=AT)(l:0<b.size)(u:b.size<=1000)
  (h:aiB P f Q rest (a.put o.dst (Y (an ⟨w.heap.size,0,ns⟩) 1 1)) (w.alloc (ap b e))):aiB P f Q (o::rest) a w:=by
 cases d:P.info? e with
 |none=>simp[d] at hi
 |some y=>
  simp only[d,Option.map_some,Option.some.injEq,Option.bind_some] at hi j;obtain⟨z,i⟩:=pN.1 j;refine wpList_buildSlice m t e 1 #[(0,x)] q b y z hu d i (by rw[hi];omega) (by rw[hi];omega) ?_ h;have C:(Array.map (λ(p:Nat×aiD)=>(p.1,a.eval p.2)) #[(0,x)]).toList=[(0,bi b)]:=by simp[r]
  have D:=C;rw[D,Nat.one_mul];exact fill_whole _ _ _ au hi.symm
end
end Go.Proofs.Q0
