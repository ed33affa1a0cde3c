import Derived.Test.YtnbpokndlaebbaaGreatDoorK9
import Derived.Laws.BytesArg
import Derived.Shelf.Bytes.SlSmallAll
set_option maxRecDepth 100000
set_option maxHeartbeats 8000000
set_option linter.all false
open Go.Value renaming int->U,slice->Y,bool->ci,agg->bi,pointer->d9,tuple->em,iface->gc
open Go.IntKind renaming i64->O
open Go.Obj renaming cells->ap
open Go.Ending renaming returned->dl
open Bool renaming false->Ba,true->AT
open Go renaming Addr->aic,Calls->ahR,World->rl,bodyPost_ret->ahX
open Go.World renaming size_alloc->NO
open List renaming replicate->so
open Nat renaming sub_self->ajz
open Option renaming getD_none->ajB,getD_some->aii,none->ns,some->an
namespace Go.Proofs
def yk{p:Prop}(h:p:=by have:=Option.some.inj e;omega):p:=h
def Kg{p:Prop}(h:p:=by(go_wp2_with((with_reducible refine ew (n:=71) rfl _ _ rfl _ rfl _ bl _ (Gz.gu underlying100) rfl e8 ?_));go_ret;refine⟨_,rfl,?_,λ_=>rfl,q9.trans q5⟩;rw[Pu (Qu aV HB.out)];exact aK.nil _ _)):p:=h
def Kh{p:Prop}(h:p:=by(obtain⟨A1,c1,rfl⟩:=K1.out.form;have y1:=K1.out.q (q9w.trans q5);have HM:=ag (XN y1 (by have:=q5.size;omega) (Aq ul B2.out) UF aa);go_wp2_with((with_reducible refine ew (n:=71) rfl _ _ rfl _ rfl _ bl _ (Gz.gu underlying100) rfl e8 ?_));refine HM.out.mono ?_;rintro e w6⟨v6,m6,rfl,hm6,o6,g6⟩;have kz:Q w w6:=bH.toQ g6 (q9.trans q5) (λg hg=>by have:=y1.below g hg;omega);obtain⟨A6,c6,rfl⟩:=o6.form;go_wp2;go_roundw;(case rel=>exact⟨k+1,cnt+m6,aa,aJ,aa,by rw[vw];exact o6,kz,by rw[Eu,K3.out,HB.out];rfl⟩);(case measure=>simp[intOf];omega))):p:=h
abbrev ze:=@List.mem_of_mem_tail
def yC{p:Prop}(h:p:=by simp[results,Tryz.results37,go_sem]):p:=h
def Mc{p:Prop}(h:p:=by go_wp2;refine bodyPost_ret (v:=em #[Y (some ⟨wr.heap.size,0,none⟩) 0 0,ci false]) yC rfl ?_;rw[hRn.out];exact DJ rfl (Y4.out.alloc _)):p:=h
def LI{p:Prop}(h:p:=by
  have xp:=K5.out;rw[BT] at xp;dsimp only at xp;rw[ZK] at xp;have K6:=ag xp;have Y1:=ag y1;have Y4:=ag y4;have hsi:=y4.size;have af4:(arr mj).size=71:=by rw[bP,tP]
  clear xp K5 y1 y4 BT i7;go_wp2_with(first|((with_reducible refine ew (n:=71) rfl _ _ rfl _ rfl _ y2 _ (Gz.gu underlying100) rfl e8 ?_))|(refine yz rfl rfl (Gz.gu underlying68) (arr mj) rfl (by rw[af4];exact fG) aj aa aa ?_)|(at_builtin;go_loud (refine gh rfl rfl (Gz.gu underlying68) zt aj aw aw rfl (y3.alloc _) ⟨_,0,none⟩ mj 1 rfl ?_ ?_ ?_ ?_ ?_;omega;omega;(simp only[World.size_alloc];omega);(exactλj hj=>iK _ mj _ j hj);intro v' w' O2 G2)));go_roundw
  case rel=>
   have qa:Q wr (wr.alloc (ap (arr mj) 100)):=(Q.refl _).alloc _;refine⟨k+1,dj,acc++mj,pj,aa,aJ,aa,(Y1.out.q qa).af5 G2 (y3.q qa) ?_,O2,bH.toQ G2 (Y4.out.trans qa) λb hb=>(y3.q qa).below b hb,λj hj=>?_,by rw[hr];exact K6.out⟩
   ·intro b e;have:=K4.out b e;have:=y3.below b e;omega
   ·rcases G2.own with e|⟨i,e,hi⟩
    ·exact K4.out j (e.symm.trans hj)
    ·rw[hj] at e;injection e with e;simp only[World.size_alloc] at hi;omega
  case measure=>simp[intOf];omega):p:=h
def yl{p:Prop}(h:p:=by exact(by repeat(first|exact Q.refl _|assumption|refine Q.drewN ?_ _|refine Q.drew ?_|refine Q.alloc ?_ _|refine Q.trans ?_ (by assumption)|refine Q.set ?_ (by first|exact Nat.le_refl _|omega|(simp;done)|(simp;omega)) _))):p:=h
end Go.Proofs
namespace Go.Proofs.Q0
open Go.Proofs.Tryz
variable{w w':rl}{xs ys b m:List Int}{n g c B B' h cc p j:Nat}{A:Option aic}{v:Value}{t:TypeId}{e:Ending}{be:Bool}
section
open Go.RowKit Go.WideShapes Go.ChangeShapes
def Xf(be:Bool)(h:az 100 71 w B (Y (an ⟨g,0,ns⟩) n c) n xs)(h1:1<=n)(Z:n<=4):
  ahR Gz.prog 85 #[Y (an ⟨g,0,ns⟩) n c,ci be] w λe w'=>∃v',e=dl v'/\aK w' w.heap.size v' ((dO be xs n).getD []).length ((dO be xs n).getD [])/\(dO be xs n=ns->v'=Y ns 0 0)/\Q w w':=by
 have H:=ag h;have x:=h.1;have y:((n:Int)<1)=False:=av;have L:decide ((n:Int)<1)=Ba:=decide_eq_false aa;have ru:decide ((4:Int)<(n:Int))=Ba:=decide_eq_false aa;have M:=az.nil 180 2 w w.heap.size;clear h y;go_enter Gz.gf func85,ntmps85;go_wp2;have N:=ag M;clear M;go_loopw[5,18] (λu i wr=>∃k cnt:Nat,k<=n/\i=U O k/\cnt<=5000*k/\Hid (az 180 2 wr w.heap.size u cnt (jJ be xs k)/\Q w wr/\gx be xs k=AT)) (λ_ i _=>n-(intOf i).toNat)
 case atStart=>exact⟨0,0,aa,rfl,aa,N.out,Q.refl _,rfl⟩
 case round=>
  obtain⟨k,cnt,hk,rfl,P,hK⟩:=hrel;obtain⟨R,s,S⟩:=hK.out;clear hK N;have T:=H.out.q s;have C:=s.size;have K1:=ag R;have V:=ag s;have K3:=ag S;clear R s S;by_cases aV:k<n
  ·have mp:(k:Int)<n:=by omega
   have ul:=vL x aV;have D:=ag λw=>XM w ul;obtain⟨E,o⟩:∃z,ax (aP xs k) 0=z:=⟨_,rfl⟩;have a:=ag o;obtain⟨bv,l⟩:∃z,dt (aP xs k)=z:=⟨_,rfl⟩;rw[l] at D;have B2:=ag l;clear o l;go_wp2_with(first|((with_reducible refine sj (ty:=100) _ (k*71) ?_ ?_ _ T 71 ?_ _ (Gz.gu underlying100) ?_ e8 ?_);exact rfl;exact rfl;omega;exact rfl;rw[qg])|((refine cP (n:=71) rfl _ _ _ rfl _ rfl _ _ aC (Nb.new 100 71 _ et rfl) ul e8 ?_;intro F bl G s9;rw[NO] at s9;have q9:Q w F:=(V.out.alloc _).grown G λj e=>yk;have c0:=bl.at 0 aa;rw[sub_one,a.out] at c0;have UG:wr.heap.size+1<=F.heap.size:=aa))|((with_reducible refine ew (n:=71) rfl _ _ rfl _ rfl _ bl _ (Gz.gu underlying100) rfl e8 ?_)));refine(D.out _).mono ?_;rintro e w5⟨rfl,q5⟩;have q9w:Q wr F:=((Q.refl wr).alloc _).grown G (λj e=>by have:=aH e;omega);replace bl:=bl.q q5;replace c0:=bl.at 0 aa;rw[sub_one,a.out] at c0;clear D G;cases bv with
   |false=>have HB:Hid (dR be (aP xs k)=Ba):=SI B2.out;exact Kg
   |true=>
    cases be with
    |false=>
     have HB:Hid (dR Ba (aP xs k)=AT):=Rq B2.out;have UF:Ba=AT->ax (aP xs k) 0=2:=λh=>by cases h
     exact Kh
    |true=>
     by_cases f:E=2
     ·have HB:Hid (dR AT (aP xs k)=AT):=Rr B2.out (a.out.trans f);have UF:AT=AT->ax (aP xs k) 0=2:=λ_=>a.out.trans f;have hkb:(E !=2)=Ba:=by simp[f]
      exact Kh
     ·have HB:Hid (dR AT (aP xs k)=Ba):=SJ (by rw[a.out];exact f);have W:(E !=2)=AT:=by simp[f]
      exact Kg
  ·have I:k=n:=by omega
   rw[I] at K1 K3;have hlen:=K1.out.1;obtain⟨r1,r2⟩:=vT x K3.out n (ay _);have J:=E7 (be:=be) x h1 Z;rw[if_pos K3.out] at J;have r:=ag J
   have K:0<cnt:=by exact LF
   obtain⟨gz,cz,rfl⟩:=K1.out.iP K;have HE:=XO K1.out r1.ok aa;clear J aV T;go_wp2;refine HE.mono ?_;rintro e w5⟨v5,rfl,X,q5⟩;obtain⟨A5,c5,rfl⟩:=X.form;go_wp2;go_ret;refine⟨_,rfl,?_,λh=>?_,V.out.trans q5⟩
   ·rw[r.out];exact X.mono C
   ·rw[r.out] at h;cases h
end
section
open Go.RowKit Go.WideShapes Go.ChangeShapes
def oJ(h:bC w B A xs)(a:xs.length=n):(convert 22 9 (Y A n c)).run Gz.prog w=.ok (.string (strOfNums xs)) w:=by
 subst a;cases xs with
 |nil=>rw[List.length_nil,run_convert_bytes_zero w 22 5 (Gz.gu underlying22) (Gz.gu underlying5) A c 9 (Gz.gu underlying9)];rfl
 |cons x r=>
  obtain⟨b,o,rfl,_,hc⟩:=h au
  exact run_convert_bytes_arg w 22 5 (Gz.gu underlying22) (Gz.gu underlying5) b o _ c _ rfl (λi hi=>by rw[hc i hi];simp[List.getD]) _ (Gz.gu underlying9)
def str_inj:∀{xs ys:List Int},bytes xs->bytes ys->(xs.map λn=>UInt8.ofNat n.toNat)=(ys.map λn=>UInt8.ofNat n.toNat)->xs=ys
 |[],[],_,_,_=>rfl
 |[],y::ys,_,_,e=>by simp at e
 |x::xs,[],_,_,e=>by simp at e
 |x::xs,y::ys,f,i,e=>by rw[List.map_cons,List.map_cons,List.cons.injEq] at e;obtain⟨k,l⟩:=e;have h1:=f x (nd ..);have o:=i y (nd ..);have:=congrArg UInt8.toNat k;simp only[UInt8.toNat_ofNat'] at this;rw[Nat.mod_eq_of_lt aa,Nat.mod_eq_of_lt aa] at this;rw[show x=y by omega,str_inj (λz a=>f z (List.mem_cons_of_mem _ a)) (λz a=>i z (List.mem_cons_of_mem _ a)) l]
def Oh(a:bytes xs)(f:bytes ys)(e:strOfNums xs=strOfNums ys):xs=ys:=
 str_inj a f (by have:=congrArg (λs:ByteArray=>s.data.toList) e;simpa[strOfNums] using this)
def Oi(xs ys:List Int):((strOfNums xs).toList==(strOfNums ys).toList)=decide (strOfNums xs=strOfNums ys):=by
 rw[Bool.eq_iff_iff,beq_iff_eq,decide_eq_true_eq]
 exact⟨λh=>by simp only[ByteArray.toList_eq] at h;exact ByteArray.ext (Array.toList_inj.1 h),λh=>by rw[h]⟩
def Yy{f:Option aic}(n:Nat){i:Nat}(c k:Nat)(l:bC w B A xs)(o:xs.length=n)(q:bC w B' f ys)(a:ys.length=i):
  ahR Gz.prog 86 #[Y A n c,Y f i k] w λe w'=>e=dl (ci (decide (strOfNums xs=strOfNums ys)))/\Q w w':=by
 have u:=oJ (c:=c) l o;have x:=oJ (c:=k) q a;have r:=Oi xs ys;have s:=ag r;go_enter Gz.gf func86,ntmps86;go_wp2;go_ret;exact⟨by rw[<-s.out];rfl,Q.refl _⟩
end
section
open Go.RowKit Go.WideShapes Go.ChangeShapes
theorem aa8{d:aA}{k:Nat}(ok:cj d)(f:k<40)(q:bytes d.rest)(hc:d.code<=4294967295):(bT d k).code<=4294967295:=by
 have hm:=ok.kr k f
 have h1:(dQ d k).code<=4294967295/\(dQ d k).rest=d.rest:=by
  obtain⟨i,l⟩:=ok.ch k f;have:=(lG ok.lo ok.hi i l).1;unfold dQ;split
  ·simp_all
  ·refine⟨?_,rfl⟩;show d.code-dZ d k<=_;unfold dZ;omega
 have a:bytes (dQ d k).rest:=eN;have f1:(feed (dQ d k)).code<=4294967295:=zx a hm.c0;have f2:(feed (feed (dQ d k))).code<=4294967295:=zx (d:=feed (dQ d k)) (λx o=>a x (ze o)) (jz).1;unfold bT jB;split
 ·grind
 ·omega
structure SB(w:rl)(g h:Nat)(d:aA)(xs:List Int)(A:Option aic)(c cc B p:Nat):Prop where
 ds:DS w g h d xs A c cc B p
 ok:cj d
 code:d.code<=4294967295
section
variable{w w':rl}{g h c cc B p:Nat}{d:aA}{xs:List Int}{A:Option aic}
def SB.q(k:SB w g h d xs A c cc B p)(hq:Q w w'):SB w' g h d xs A c cc B p:=⟨k.ds.q hq,k.ok,k.code⟩
def SB.aq{S:List Nat}(k:SB w g h d xs A c cc B p)(e:al S w w')(a:∀x,x∈S->B<=x)(f:g∉S)(i:h∉S):SB w' g h d xs A c cc B p:=⟨k.ds.aq e a f i,k.ok,k.code⟩
def SB.lt(k:SB w g h d xs A c cc B p):g<w.heap.size:=k.ds.lt
end
def Bq(k:Nat){d:aA}(hd:SB w g h d xs A c cc B p)(a:k<40)(f:p<=900000000):
  ahR Gz.prog 99 #[d9 (an ⟨g,0,ns⟩),U O (k:Int)] w λe w'=>e=dl (U O (cV d k))/\(∃p',p'<=p+2/\SB w' g h (bT d k) xs A c cc B p')/\al [g,h] w w':=
 (get w g h c cc B p k d xs A hd.ds hd.ok hd.code a f).mono λ_ _⟨h1,⟨p',i,l⟩,o⟩=>⟨h1,⟨p',i,l,hd.ok.jN k a,aa8 hd.ok a hd.ds.bytes hd.code⟩,o⟩
def th(w:rl)(g h c cc B p b:Nat)(d:aA)(xs:List Int)(A:Option aic)(hd:SB w g h d xs A c cc B p)(hb:b+6<40)(hp:p<=800000000):
  ahR Gz.prog 100 #[d9 (an ⟨g,0,ns⟩),U O (b:Int)] w λe w'=>e=dl (U O ((aT b d).1.getD (-1)))/\(∃p',p'<=p+64/\SB w' g h (aT b d).2 xs A c cc B p')/\al [g,h] w w':=by
 go_enter Gz.gf func100,ntmps100;go_wp2;go_loopw[5] (λi wr=>∃(k:Nat)(e:aA)(p':Nat),k<=15/\i=U O k/\Hid (SB wr g h e xs A c cc B p'/\p'<=p+2*k/\al [g,h] w wr/\gO b (16-k) k e=gO b 16 0 d)) (λi _=>16-(intOf i).toNat)
 case atStart=>exact⟨0,d,p,aa,rfl,hd,aa,al.refl _ _,rfl⟩
 case round=>
  obtain⟨k,e,p',hk,rfl,hK⟩:=hrel;obtain⟨q,kp,r,a⟩:=hK.out;have l:=Bq (b+min k 5) q aa aa;have hkk:(k:Int)<=15:=aa;clear hK hd;have T:((b:Int)+min (k:Int) 5)=((b+min k 5:Nat):Int):=aa;rw[show((b+min k 5:Nat):Int)=(b:Int)+((min k 5:Nat):Int) by omega] at l
  have f:gO b (16-k) k e=if cV e (b+min k 5)=1 then gO b (16-(k+1)) (k+1) (bT e (b+min k 5)) else(an k,bT e (b+min k 5)):=by rw[show 16-k=(15-k)+1 by omega,gO,show 16-(k+1)=15-k by omega]
  go_wp2;refine l.mono ?_;rintro C w2⟨rfl,⟨D,IG,s⟩,V⟩;have E:=r.aq V λx I=>.inl I;clear V q r l;rw[a] at f;rcases nA e (b+min k 5) with h0|h1
  ·rw[if_neg (by rw[h0];decide)] at f;rw[h0];generalize bT e (b+min k 5)=d1 at f s
   have J:Hid (aT b d=(an ((tailD b k 1 d1).1-1),(tailD b k 1 d1).2)):=by unfold Hid aT;rw[f]
   clear f a h0;have F:=ag s;have G:=ag E;clear s E;go_wp2;go_loopw[5,6] (λi v wr=>∃(j:Nat)(n:Int)(e:aA)(H:Nat),j<=k/\i=U O j/\v=U O n/\Hid (SB wr g h e xs A c cc B H/\H<=D+2*(k-j)/\al [g,h] w wr/\tailD b j n e=tailD b k 1 d1)/\0<=n/\n<2^(k-j+1)) (λi _ _=>(intOf i).toNat)
   case atStart=>exact⟨k,1,d1,D,aa,rfl,rfl,⟨F.out,aa,G.out,rfl⟩,aa,by rw[ajz];decide⟩
   case round=>
    obtain⟨j,n,e,H,hj,rfl,rfl,hK,wY,o⟩:=hrel;obtain⟨q,k3,r,a⟩:=hK.out;clear hK;by_cases aV:0<j
    ·obtain⟨i,rfl⟩:∃i,j=i+1:=⟨j-1,aa⟩;have l:=Bq (b+6) q hb aa;rw[show((b+6:Nat):Int)=(b:Int)+6 by omega] at l;rw[tailD] at a;have K:=vr (k-(i+1)) aa
     have u:(2:Int)^(k-i+1)=2^(k-(i+1)+1)*2:=by rw[show k-i+1=(k-(i+1)+1)+1 by omega];exact Int.pow_succ ..
     have y:=nA e (b+6);have L:0<=2*n+cV e (b+6):=aa;have z:2*n+cV e (b+6)<2^(k-i+1):=by rw[u];omega
     have M:n<=65536:=aa;have W:=ag z;clear o K u z;have wn:wrap64 (2*n)=2*n:=ig ⟨aa,aa⟩;have tX:(0:Int)<(i:Int)+1:=aa;have X:(i:Int)<15:=aa;go_wp2;refine l.mono ?_;rintro e3 w5⟨rfl,⟨p5,hp5,N⟩,Z⟩;have x6:=r.aq Z λx I=>.inl I;clear Z q r l;generalize cV e (b+6)=P at y a L W;generalize bT e (b+6)=d6 at a N;have H5:=ag N;have X6:=ag x6;clear N x6;have wn2:wrap64 (2*n+P)=2*n+P:=ig ⟨aa,aa⟩;go_wp2;go_roundw;case rel=>exact⟨i,2*n+P,d6,p5,aa,aJ,rfl,⟨H5.out,aa,X6.out,a⟩,aa,W.out⟩
     case measure=>simp[intOf]
    ·have Q:j=0:=by omega
     subst Q;rw[tailD] at a;have R:=congrArg Prod.fst a;have C:=congrArg Prod.snd a;dsimp only at R C;have E1:=ag R;have E2:=ag C;have K:=vr k aa;have M:n<=65536:=by rw[Nat.sub_zero] at o;omega
     clear o K a R C;go_wp2;go_ret;rw[J.out];exact⟨by rw[<-E1.out];(try rfl),⟨H,aa,by rw[<-E2.out];exact q⟩,r⟩
  ·rw[if_pos h1] at f;rw[h1];generalize bT e (b+min k 5)=d1 at f s;have F:=ag s;have G:=ag E;clear s E h1;by_cases S:k=15
   ·subst S
    have J:Hid (aT b d=(ns,d1)):=by unfold Hid aT;rw[f];rfl
    go_wp2;go_ret;rw[J.out];exact⟨rfl,⟨D,aa,F.out⟩,G.out⟩
   ·have afQ:(k:Int)+1<16:=by omega
    go_wp2;go_roundw;case rel=>exact⟨k+1,d1,D,aa,aJ,F.out,aa,G.out,f.symm⟩
    case measure=>exact bj
end
section
open Go.RowKit Go.WideShapes Go.ChangeShapes
def FY(n:Int)(h0:0<=n)(h1:n<=65534):ahR Gz.prog 101 #[U O n] w λe w'=>e=dl (U O (aY n))/\w=w':=Wl w h0 h1
def SB.nY{d:aA}(k:SB w g h d xs A c cc B p):B<=w.heap.size:=by have:=k.ds.le;have:=k.lt;omega
def SB.app{i:Nat}{d:aA}(k:SB w g h d xs A c cc B p)(a:w.grownBy w' v.ownBlock)(o:az t i w B' v n ys)(h1:g<B')(r:h<B')(s:B<=B'):SB w' g h d xs A c cc B p:=by
 cases f:v.ownBlock with
 |none=>exact k.q (Q.ny (by rw[f] at a;exact a))
 |some j=>have u:=o.below j f;rw[f] at a;exact k.aq (al.bA a) (λx l=>by simp at l;omega) av av
def sX(d:aA)(w:rl)(g h c cc B p:Nat)(xs:List Int)(A:Option aic)(e:Ending)(w':rl):Prop:=
  (match gJ d with
   |an (b,a)=>e=dl (em #[bi (arr b),ci AT])∧b.length=16∧∃p',p'≤p+2200∧SB w' g h a xs A c cc B p'
   |ns=>∃b,b.length=16∧e=dl (em #[bi (arr b),ci Ba]))∧al [g,h] w w'
def Ms{d:aA}(a:gJ d=ns)(b:List Int)(f:b.length=16)(he:e=dl (em #[bi (arr b),ci Ba]))(i:al [g,h] w w'):sX d w g h c cc B p xs A e w':=by unfold sX;rw[a];exact⟨⟨b,f,he⟩,i⟩
def Xg{d a:aA}{p':Nat}(f:gJ d=an (b,a))(i:b.length=16)(he:e=dl (em #[bi (arr b),ci AT]))(k:al [g,h] w w')(l:p'<=p+2200)(o:SB w' g h a xs A c cc B p'):sX d w g h c cc B p xs A e w':=by unfold sX;rw[f];exact⟨⟨he,i,p',l,o⟩,k⟩
def wL{p:Prop}(h:p:=by go_wp2_with(first|(go_at_call 62;(with_reducible refine(cG _ HA).mono ?_);rintro e w'⟨rfl,rfl⟩)|(refine cP (n:=16) rfl _ _ _ rfl _ rfl _ df rfl (by assumption) rfl cM ?_;intro i a f k));refine bodyPost_ret (kE (by rfl) (by rfl) a.blk (Gz.gu underlying97) rfl (by rw[bP];exact cM)) rfl ?_;exact Ms xq.out df rfl rfl (K5.out.grown f (.inr (ay _)))):p:=h
def ZL{d:aA}(hd:SB w g h d xs A c cc B p)(hp:p<=700000000):
  ahR Gz.prog 65 #[d9 (an ⟨g,0,ns⟩)] w (sX d w g h c cc B p xs A):=by
 have hg:=hd.lt;have hh:=hd.ds.aV;have Hz:=hd.ds.le;have hN:=th (w.alloc (ap (arr df) 97)) g h c cc B p 16 d xs A (hd.q ((Q.refl w).alloc _)) aw aa;have X:=Nb.new 97 16 w df rfl;go_enter Gz.gf func65,ntmps65;go_wp2;refine hN.mono ?_;rintro e w1⟨rfl,⟨p1,hp1,h1⟩,Z⟩;clear hN;have B0:=ag (X.aq Z av);have X1:=ag ((al.dp [g,h] ((Q.refl w).alloc (ap (arr df) 97))).trans Z);have pm:w.heap.size<w1.heap.size:=by have:=Z.size;simp at this;omega
 clear X Z hd;by_cases hm:∃m,(aT 16 d).1=an m/\m<=16
 ·obtain⟨m,E,rt⟩:=hm;have I:=jW E
  have F:gJ d=(match j6 m.toNat (aT 16 d).2 with|some (r,s)=>(gI r).map λb=>(b,s)|none=>ns):=by unfold gJ;rw[E];dsimp only;rw[if_neg aa];rfl
  rw[E,aii];obtain⟨M,rfl⟩:∃M:Nat,m=(M:Int):=⟨m.toNat,aa⟩;rw[Int.toNat_natCast] at F;generalize(aT 16 d).2=d1 at h1 F;have o:=ag F;have HA:Hid (decide ((0:Int)<=(M:Int)/\(M:Int)<=16)=AT):=decide_eq_true aa;have ahu:M<=16:=aa;have o0:=az.jb 140 2 w1 (w.heap.size+1) aa;have H1:=ag (h1.q ((Q.refl w1).alloc (ap #[] 140)));have B1:=ag (B0.out.alloc (ap #[] 140));have X2:=ag (X1.out.alloc (ap #[] 140));clear F E I h1 rt B0 X1;go_wp2_with((go_at_call 62;(with_reducible refine(cG _ HA).mono ?_);rintro e w'⟨rfl,rfl⟩));go_loopw[5,6] (λv i wr=>∃(k:Nat)(acc:List (Int×Int))(s:aA)(p':Nat),k<=M/\i=U O k/\Hid (SB wr g h s xs A c cc B p'/\p'<=p1+128*k/\az 140 2 wr (w.heap.size+1) v k (fl acc)/\acc.length=k/\Nb 97 16 wr w.heap.size df/\al [g,h] w wr/\w.heap.size<wr.heap.size/\j6 M d1=(j6 (M-k) s).map λq=>(acc++q.1,q.2))) (λ_ i _=>M-(intOf i).toNat)
  case atStart=>exact⟨0,[],d1,p1,aa,rfl,H1.out,aa,o0,rfl,B1.out,X2.out,by simp;omega,by rw[Nat.sub_zero];cases j6 M d1<;>rfl⟩
  case round=>
   obtain⟨k,acc,s,p',hk,rfl,hK⟩:=hrel;obtain⟨k1,kp,J,k3,k4,k5,k6,u⟩:=hK.out;clear hK H1 o0 B1 X2 pm;by_cases aV:k<M
   ·have K:(k:Int)<(M:Int):=by omega
    obtain⟨m,hm⟩:∃m,M-(k+1)=m:=⟨_,rfl⟩;rw[show M-k=m+1 by omega,j6] at u;have L:=th wr g h c cc B p' 23 s xs A k1 aw aa;go_wp2;refine L.mono ?_;rintro e w2⟨rfl,⟨p2,IG,h2⟩,x2⟩;clear L;have N:=th w2 g h c cc B p2 30 (aT 23 s).2 xs A h2 aw aa;go_wp2;refine N.mono ?_;rintro e w3⟨rfl,⟨p3,hp3,h3⟩,x3⟩;clear N;have y:=x2.trans x3;have q2:=J.aq y (λx hx=>by simp at hx;omega);have q4:=k4.aq y av;have G:=k5.trans y;have q6:w.heap.size<w3.heap.size:=by have:=y.size;omega
    have H:=ag h3;have P:=ag q4;have K5:=ag G;clear h2 h3 x2 x3 y k1 J k4 k5 k6;by_cases a:∃z l,(aT 23 s).1=an z/\(aT 30 (aT 23 s).2).1=an l/\l<=8159
    ·obtain⟨z,l,f,D,B3⟩:=a;have R:=jW f;have S:=jW D;rw[f,D] at u;dsimp only at u;rw[if_neg aa] at u;rw[f,D,aii,aii];generalize(aT 30 (aT 23 s).2).2=d3 at H u;have K8:=ag u;have wl:wrap64 (l+1)=l+1:=ig ⟨aa,aa⟩;have HA:Hid (decide ((0:Int)<=l/\l<=8159)=AT):=decide_eq_true aa;obtain⟨t7,hz1⟩:=R;have In:=S.1;clear u f D S;go_wp2_with(first|(go_at_call 62;(with_reducible refine(cG _ HA).mono ?_);rintro e w'⟨rfl,rfl⟩)|(go_at_call 101;refine(FY _ aa aa).mono ?_;rintro e w4⟨rfl,rfl⟩)|(at_builtin;refine uP rfl rfl (Gz.gu underlying138) EZ rfl aw aw rfl (q2.alloc _) ⟨_,0,ns⟩ [z,aY (l+1)] 1 rfl rfl aa av (λj hj=>iK _ [z,aY (l+1)] _ j hj) ?_;intro v' w' O2 G2));go_roundw
     case rel=>
      have qa:=q2.alloc (ap #[U O z,U O (aY (l+1))] 140);have hbr:=H.out.nY;refine⟨k+1,acc++[(z,aY (l+1))],d3,p3,aa,aJ,(H.out.q ((Q.refl w3).alloc _)).app G2 qa aa aa aa,aa,by rw[Fu];exact O2,by simp;exact k3,(P.out.q ((Q.refl w3).alloc _)).app G2 qa aa,(K5.out.alloc _).app G2 qa aa,?_,?_⟩
      ·have:=G2.size;simp at this;omega
      ·rw[hm,K8.out];cases j6 m d3 with|none=>rfl|some q=>simp
     case measure=>exact bj
    ·have C:j6 M d1=ns:=by
      rw[u];cases f:(aT 23 s).1 with
      |none=>rfl
      |some z=>
       cases D:(aT 30 (aT 23 s).2).1 with
       |none=>rfl
       |some l=>
        dsimp only;rw[if_pos]
        ·rfl
        ·exact oA λT=>a ⟨z,l,f,D,aa⟩
     have xq:Hid (gJ d=ns):=by unfold Hid;rw[o.out,C]
     have X:=P.out;clear u C;cases f:(aT 23 s).1 with
     |none=>rw[ajB];clear a f;exact wL
     |some z=>
      have R:=(jW f).1;rw[aii];cases D:(aT 30 (aT 23 s).2).1 with
      |none=>rw[ajB];have HA:Hid (decide ((0:Int)<= -1/\(-1:Int)<=8159)=Ba):=decide_eq_false aa;clear a f D;exact wL
      |some l=>have HA:Hid (decide ((0:Int)<=l/\l<=8159)=Ba):=decide_eq_false λT=>a ⟨z,l,f,D,T.2⟩;rw[aii];clear a f D;exact wL
   ·have K:k=M:=by omega
    subst K;rw[ajz,j6] at u;dsimp only[Option.map_some] at u;rw[List.append_nil] at u;rw[u] at o;dsimp only at o;obtain⟨AA,ca,rfl⟩:=J.form;have V:=aaP ca J.rd k3 aa (ay _);have H:=ag k1;have P:=ag k4;have K5:=ag k5;clear k1 J k4 k5 u hk;go_wp2;refine V.mono ?_;rintro e w5⟨rfl,G⟩;clear V;have h5:=H.out.q G;have b5:=P.out.q G;have x5:=K5.out.q G;have H5:=ag h5;have X5:=ag x5;clear h5 x5 H P K5 G;cases W:gI acc with
    |some b=>have hlen:=zl W;rw[W] at o;rw[aii];clear W;go_wp2_with((refine cP (n:=16) rfl _ _ _ rfl _ rfl _ _ dn aE dn cM ?_;intro wz bz gz sz));refine ahX (kE aC aC bz.blk (Gz.gu underlying97) rfl uO) rfl ?_;exact Xg o.out hlen rfl (X5.out.grown gz (.inr (ay _))) aa (H5.out.aq (al.bA gz) (λx hx=>by simp at hx;have:=H5.out.nY;have:=H5.out.ds.le;omega) av av)
    |none=>have hlen:df.length=16:=rfl;rw[W] at o;rw[ajB];clear W;go_wp2_with((refine cP (n:=16) rfl _ _ _ rfl _ rfl _ _ dn aE dn cM ?_;intro wz bz gz sz));refine ahX (kE aC aC bz.blk (Gz.gu underlying97) rfl uO) rfl ?_;exact Ms o.out df rfl rfl (X5.out.grown gz (.inr (ay _)))
 ·have xq:Hid (gJ d=ns):=by
   unfold Hid gJ;cases f:(aT 16 d).1 with
   |none=>rfl
   |some m=>dsimp only;rw[if_pos];exact oA λT=>hm ⟨m,f,aa⟩
  have X:=B0.out;have K5:=X1;cases f:(aT 16 d).1 with
  |none=>rw[ajB];have HA:Hid (decide ((0:Int)<= -1/\(-1:Int)<=16)=Ba):=decide_eq_false aa;clear hm f;exact wL
  |some m=>rw[aii];have HA:Hid (decide ((0:Int)<=m/\m<=16)=Ba):=decide_eq_false λT=>hm ⟨m,f,T.2⟩;clear hm f;exact wL
end
section
open Go.RowKit Go.WideShapes Go.ChangeShapes
def iT(be:Bool)(d:aA):Option (List Int×aA):=
 if be=Ba/\cV d 0=0 then an (et,bT d 0)
 else(lQ be (iM be (d,0)).1).map λr=>(r.1++so 64 0,r.2)
def sY(be:Bool)(d:aA)(w:rl)(g h c cc B p:Nat)(xs:List Int)(A:Option aic)(e:Ending)(w':rl):Prop:=
  (match iT be d with
   |an (m,a)=>e=dl (em #[bi (arr m),ci AT])∧m.length=71∧∃p',p'≤p+300∧SB w' g h a xs A c cc B p'
   |ns=>∃m,m.length=71∧e=dl (em #[bi (arr m),ci Ba]))∧al [g,h] w w'
def Mt{d:aA}(a:iT be d=ns)(m:List Int)(hm:m.length=71)(he:e=dl (em #[bi (arr m),ci Ba]))(f:al [g,h] w w'):sY be d w g h c cc B p xs A e w':=by unfold sY;rw[a];exact⟨⟨m,hm,he⟩,f⟩
def DK{d a:aA}{p':Nat}(f:iT be d=an (m,a))(hm:m.length=71)(he:e=dl (em #[bi (arr m),ci AT]))(i:al [g,h] w w')(k:p'<=p+300)(l:SB w' g h a xs A c cc B p'):sY be d w g h c cc B p xs A e w':=by unfold sY;rw[f];exact⟨⟨he,hm,p',k,l⟩,i⟩
def acR{acc:List Int}(n:Nat){k:Nat}(v:Int)(a:acc.length=k):([2,0,0]++acc++so (n+1) 0).set (3+k) v=[2,0,0]++(acc++[v])++so n 0:=by subst a;simp[List.set_append,List.replicate_succ,Nat.add_comm 3]
def aa9:(Gz.prog.info? 95).map (·.size)=an 2:=aF
def acS(a f:Int):upd (gP.set 0 1) 1 [a,f]=[1,a,f,0,0,0,0]++so 64 0:=rfl
def Ts{p:Prop}(h:p:=by go_wp2_with(first|(go_at_call 62;(with_reducible refine(cG _ HA).mono ?_);rintro e w'⟨rfl,rfl⟩)|(refine cP (n:=71) rfl _ _ _ rfl _ rfl _ et rfl (by assumption) (by first|rfl|assumption) fG ?_;intro i a f l));refine bodyPost_ret (kE (by rfl) (by rfl) a.blk (Gz.gu underlying100) rfl (by rw[bP];exact fG)) rfl ?_;exact Mt Fk.out et rfl rfl ((x9.set (p:=⟨w.heap.size+1,3+k,none⟩) (.inr (by simp)) _).grown f (.inr (ay _)))):p:=h
def SM{p:Prop}(h:p:=by(have H1:=ag h9;have V:=ag b9;have W:=ag b8;have X:=ag x9;have C:=b9.lt;clear h9 b9 b8 x9;obtain⟨K,D⟩:∃z,kM 4 d=z:=⟨_,rfl⟩;have s:=ag D;clear D;go_wp2;go_loopw[9] (λi wr=>∃(k:Nat)(t9:aA)(p9:Nat)(acc:List Int),k<=4/\i=.int .i64 k/\acc.length=k/\p9<=p+4+64*k/\Hid (SB wr g h t9 xs A c cc B p9/\Nb 100 71 wr (w.heap.size+1) ([2,0,0]++acc++List.replicate (68-k) 0)/\Nb 100 71 wr w.heap.size et/\al [g,h] w wr/\w.heap.size+1<wr.heap.size/\K=(kM (4-k) t9).map λq=>(acc++q.1,q.2))) λi _=>4-(intOf i).toNat;(case atStart=>exact⟨0,_,_,[],by omega,rfl,rfl,by omega,H1.out,V.out,W.out,X.out,C,by rw[Nat.sub_zero,s.out];cases K<;>rfl⟩);(case round=>obtain⟨k,t,p9,acc,hk,rfl,E,hp9,hK⟩:=hrel;obtain⟨L,F,Z,M,k5,l⟩:=hK.out;clear hK;(try clear H1 V W X C);by_cases aV:k<4;(case pos=>obtain⟨m,hm⟩:∃m,4-(k+1)=m:=⟨_,rfl⟩;obtain⟨q,hq⟩:∃q,68-(k+1)=q:=⟨_,rfl⟩;rw[show 4-k=m+1 by omega,kM] at l;rw[show 68-k=q+1 by omega] at F;have mp:(k:Int)<4:=(by omega);have hL:=th wr g h c cc B p9 9 t xs A L (by decide) (by omega);go_wp2;refine hL.mono ?_;rintro e wq⟨rfl,⟨pq,hpq,G⟩,H⟩;clear hL;have J:=F.aq H (by simp;omega);have y3:=Z.aq H (by simp;omega);have y4:=M.trans H;have ysz:=H.size;have fy:=J.free;have HQ:=ag G;have Y2:=ag J;have Y3:=ag y3;have Y4:=ag y4;have cy:=J.at (3+k) (by omega);generalize([2,0,0]++acc++List.replicate (q+1) 0)[3+k]?.getD 0=qy at cy;clear L F Z M H J y3 y4 G;by_cases a:∃f,(aT 9 t).1=some f/\f<=4;(case pos=>obtain⟨f,o,N⟩:=a;have P:=(jW o).1;rw[o] at l;dsimp only at l;rw[if_neg (by omega)] at l;rw[o,Option.getD_some];generalize(aT 9 t).2=tq at HQ l;have K8:=ag l;have HA:Hid (decide ((0:Int)<=f/\f<=4)=true):=decide_eq_true ⟨P,N⟩;clear o l;go_wp2_with((go_at_call 62;(with_reducible refine(cG _ HA).mono ?_);rintro e w'⟨rfl,rfl⟩));go_roundw;(case rel=>exact⟨k+1,tq,pq,acc++[f],by omega,by go_num,by simp[E],by omega,HQ.out.aq (lH _ _ _ _) (λx Q=>by simp at Q;omega) (by simp;omega) (by simp;omega),by rw[hq,<-acR q f E];exact Y2.out.set (3+k) f,Y3.out.aL (by simp) _,Y4.out.set (.inr (by simp)) _,by simp[World.setCell];omega,by rw[hm,K8.out];cases kM m tq with|none=>rfl|some z=>simp⟩);(case measure=>simp[intOf];omega));(case neg=>have I:K=none:=(by rw[l];cases hz:(aT 9 t).1 with|none=>rfl|some f=>(dsimp only;rw[if_pos];rfl;exact oA λhn=>a ⟨f,hz,by omega⟩));have R:=ag (HM.out.trans (by unfold mO;rw[s.out,I];(try rfl)));have x9:al [g,h] w wq:=Y4.out;have b8:=Y3.out;have Fk:=R;clear I l;cases hz:(aT 9 t).1 with|none=>(rw[Option.getD_none];have HA:Hid (decide ((0:Int)<= -1/\(-1:Int)<=4)=false):=decide_eq_false (by omega);have b9:=b8.aL (p:=⟨w.heap.size+1,3+k,none⟩) (by simp) (.int .i64 (-1));clear a hz;exact Ts)|some f=>(rw[Option.getD_some];have HA:Hid (decide ((0:Int)<=f/\f<=4)=false):=decide_eq_false λhn=>a ⟨f,hz,hn.2⟩;have b9:=b8.aL (p:=⟨w.heap.size+1,3+k,none⟩) (by simp) (.int .i64 f);clear a hz;exact Ts)));(case neg=>have S:k=4:=(by omega);subst S;rw[Nat.sub_self,kM] at l;dsimp only[Option.map_some] at l;rw[List.append_nil] at l;have r:=HM.out;unfold mO at r;rw[s.out,l] at r;have HV:=ag r;clear r l;obtain⟨mf,u⟩:∃z,[2,0,0]++acc++List.replicate (68-4) 0=z:=⟨_,rfl⟩;rw[u] at F;have y:=F.len;have T:Hid (([2,0,0]++acc:List Int)++List.replicate 64 0=mf):=u;clear u;go_wp2_with(first|(refine ew (n:=71) rfl _ _ rfl _ rfl _ (by assumption) _ (Gz.gu underlying100) rfl fG ?_)|(refine cP (n:=71) rfl _ _ _ rfl _ rfl _ mf rfl (by assumption) y fG ?_;intro wz bz gz sz));refine bodyPost_ret (kE (by rfl) (by rfl) bz.blk (Gz.gu underlying100) rfl (by rw[bP,y];exact fG)) rfl ?_;exact DK (HV.out.trans (by rw[<-T.out];rfl)) y rfl (M.grown gz (.inr (ay _))) (by omega) (L.aq (al.bA gz) (λx Q=>by simp at Q;omega) (by simp;omega) (by simp;omega)))))):p:=h
def Br{p:Prop}(h:p:=by go_wp2_with(first|(go_at_call 62;(with_reducible refine(cG _ HA).mono ?_);rintro e w'⟨rfl,rfl⟩)|(go_at_call 62;(with_reducible refine(cG _ HB).mono ?_);rintro e w'⟨rfl,rfl⟩)|(refine cP (n:=71) rfl _ _ _ rfl _ rfl _ et rfl (by assumption) (by first|rfl|assumption) fG ?_;intro i a f k));refine bodyPost_ret (kE (by rfl) (by rfl) a.blk (Gz.gu underlying100) rfl (by rw[bP];exact fG)) rfl ?_;exact Mt HVN.out et rfl rfl (x9.grown f (.inr (ay _)))):p:=h
def acT{d:aA}(be:Bool)(hd:SB w g h d xs A c cc B p)(hp:p<=700000000):
  ahR Gz.prog 64 #[d9 (an ⟨g,0,ns⟩),ci be] w (sY be d w g h c cc B p xs A):=by
 have hg:=hd.lt;have hh:=hd.ds.aV;have Hz:=hd.ds.le;have b0:=Nb.new 100 71 w et rfl;have b1:=Nb.new 100 71 (w.alloc (ap (arr et) 100)) et rfl;rw[NO] at b1;have E:an w.heap.size≠an (w.heap.size+1):=λe=>by injection e with e;omega
 have u:=b0.alloc (ap (arr et) 100);cases be with
 |false=>
  go_enter Gz.gf func64,ntmps64;go_wp2_with((refine cP (n:=71) rfl _ _ _ rfl _ rfl _ gP rfl aE rT fG ?_;intro w9 b9 F s9);have I:Q w w9:=(((Q.refl w).alloc _).alloc _).grown F (λk e=>by have:=aH e;omega);have h9:=hd.q I;have b8:=u.grown F E;clear b0 b1 u F s9 hd);have L:=Bq 0 h9 aw aa;refine L.mono ?_;rintro e w2⟨rfl,⟨p2,IG,W⟩,X⟩;clear L;have M:=b9.aq X av;have b3:=b8.aq X av;have x3:al [g,h] w w2:=(al.dp [g,h] I).trans X;have BP:w.heap.size+1<w2.heap.size:=M.lt;clear h9 b9 b8 X I;rcases nA d 0 with hb|hb
  ·have HM:Hid (iT Ba d=an (et,bT d 0)):=by unfold Hid iT;rw[if_pos ⟨rfl,hb⟩]
   rw[hb];go_wp2_with((refine cP (n:=71) rfl _ _ _ rfl _ rfl _ et rfl aE rT fG ?_;intro wz bz N sz));refine ahX (kE aC aC bz.blk (Gz.gu underlying100) rfl CB) rfl ?_;exact DK HM.out rfl rfl (x3.grown N (.inr (ay _))) aa (W.aq (al.bA N) (λx a=>by simp at a;omega) av av)
  ·have P:iT Ba d=(lQ Ba (bT d 0)).map λr=>(r.1++so 64 0,r.2):=by unfold iT;rw[if_neg (by rw[hb];intro k;cases k.2)];rfl
   rw[hb];have HM:=ag P;generalize bT d 0=d0 at W HM;clear P hb;have D:=M.at 0 aw;have J:=M.free 0;go_wp2;have L:=Bq 1 W aw aa;refine L.mono ?_;rintro e w3⟨rfl,⟨p3,hp3,K⟩,Z⟩;clear L;have G:=M.aq Z av;have b5:=b3.aq Z av;have x5:al [g,h] w w3:=x3.trans Z;have R:w.heap.size+1<w3.heap.size:=G.lt;clear W M b3 x3 Z D J;have l:lQ Ba d0=if 1+cV d0 1=1 then qK (bT d0 1) else mO (bT d0 1):=rfl
   have D:=G.at 0 aw;have J:=G.free 0;generalize gP[0]?.getD 0=q0 at D;rcases nA d0 1 with hb|hb
   ·rw[hb,if_pos aw] at l;rw[hb];rw[l] at HM;generalize bT d0 1=d1 at K HM;clear hb l;go_wp2;have H:=K.aq (lH w3 (w.heap.size+1) 0 (U O 1)) (λx a=>by simp at a;omega) av av;have n4:=G.set 0 1;have n5:=b5.aL (p:=⟨w.heap.size+1,0,ns⟩) au (U O 1);have x6:=x5.set (p:=⟨w.heap.size+1,0,ns⟩) (.inr au) (U O 1);generalize w3.setCell ⟨w.heap.size+1,0,ns⟩ (U O 1)=w4 at H n4 n5 x6⊢;clear K G b5 x5 D J R;have S:=th w4 g h c cc B p3 2 d1 xs A H aw aa;refine S.mono ?_;rintro e w5⟨rfl,⟨p5,hp5,h5⟩,C⟩;have n6:=n4.aq C av;have n7:=n5.aq C av;have x8:=x6.trans C;clear S H n4 n5 x6 C;go_wp2;have S:=th w5 g h c cc B p5 2 _ xs A h5 aw aa;refine S.mono ?_;rintro e w7⟨rfl,⟨p7,hp7,h7⟩,C⟩;have n8:=n6.aq C av;have n9:=n7.aq C av;have x9:=x8.trans C;have hs7:w.heap.size+1<w7.heap.size:=n8.lt;clear S h5 n6 n7 x8 C;by_cases i:∃x y,(aT 2 d1).1=an x/\(aT 2 (aT 2 d1).2).1=an y/\x<=32/\y<=32
    ·obtain⟨x,y,a,o,f,B4⟩:=i;have UH:=(jW a).1;have T:=(jW o).1
     have HV:Hid (iT Ba d=an ([1,aY x,aY y,0,0,0,0]++so 64 0,(aT 2 (aT 2 d1).2).2)):=by unfold Hid;rw[HM.out];unfold qK;rw[a,o];dsimp only;rw[if_neg aa];rfl
     rw[a,o,aii,aii];generalize(aT 2 (aT 2 d1).2).2=d7 at h7 HV;have HA:Hid (decide ((0:Int)<=x/\x<=32)=AT):=decide_eq_true ⟨UH,f⟩;have HB:Hid (decide ((0:Int)<=y/\y<=32)=AT):=decide_eq_true ⟨T,B4⟩;clear a o HM;have h7l:=h7;go_wp2_with(first|(go_at_call 62;(with_reducible refine(cG _ HA).mono ?_);rintro e w'⟨rfl,rfl⟩)|(go_at_call 62;(with_reducible refine(cG _ HB).mono ?_);rintro e w'⟨rfl,rfl⟩)|(go_at_call 101;(with_reducible refine(FY x aa aa).mono ?_);rintro e w4⟨rfl,rfl⟩)|(go_at_call 101;(with_reducible refine(FY y aa aa).mono ?_);rintro e w4⟨rfl,rfl⟩)|(refine rU (n:=71) rfl _ _ _ rfl _ 1 rfl _ [aY x,aY y] rfl aE (by show 3<=71;omega) aa9 ?_;intro wv bv gv sv;rw[acS] at bv;have n10:=n9.grown gv E)|(refine ew (n:=71) rfl _ _ rfl _ rfl _ aE _ (Gz.gu underlying100) rfl fG ?_)|(refine cP (n:=71) rfl _ _ _ rfl _ rfl _ ([1,aY x,aY y,0,0,0,0]++so 64 0) rfl aE rfl fG ?_;intro wz bz N sz));refine ahX (kE aC aC bz.blk (Gz.gu underlying100) rfl CB) rfl ?_;exact DK HV.out rfl rfl ((x9.grown gv (.inr au)).grown N (.inr (ay _))) aa ((h7l.aq (al.bA gv) (λx a=>by simp at a;omega) av av).aq (al.bA N) (λx a=>by simp at a;omega) av av)
    ·have HVN:Hid (iT Ba d=ns):=by
      unfold Hid;rw[HM.out];unfold qK;cases a:(aT 2 d1).1 with
      |none=>rfl
      |some x=>
       cases o:(aT 2 (aT 2 d1).2).1 with
       |none=>rfl
       |some y=>
        dsimp only;rw[if_pos]
        ·rfl
        ·exact oA λhn=>i ⟨x,y,a,o,aa,aa⟩
     cases a:(aT 2 d1).1 with
     |none=>rw[ajB];have HA:Hid (decide ((0:Int)<= -1/\(-1:Int)<=32)=Ba):=decide_eq_false aa;have HB:=HA;clear i a;exact Br
     |some x=>
      rw[aii];by_cases f:0<=x/\x<=32
      ·have HA:Hid (decide ((0:Int)<=x/\x<=32)=AT):=decide_eq_true f;cases o:(aT 2 (aT 2 d1).2).1 with
       |none=>rw[ajB];have HB:Hid (decide ((0:Int)<= -1/\(-1:Int)<=32)=Ba):=decide_eq_false aa;clear i a o f;exact Br
       |some y=>have T:=(jW o).1;rw[aii];have HB:Hid (decide ((0:Int)<=y/\y<=32)=Ba):=decide_eq_false λhn=>i ⟨x,y,a,o,f.2,hn.2⟩;clear i a o f;exact Br
      ·have HA:Hid (decide ((0:Int)<=x/\x<=32)=Ba):=decide_eq_false f;have HB:=HA;clear i a f;exact Br
   ·rw[hb,if_neg aw] at l;rw[hb];rw[l] at HM;generalize bT d0 1=d1 at K HM;clear hb l;go_wp2;have H:=K.aq (lH w3 (w.heap.size+1) 0 (U O 2)) (λx a=>by simp at a;omega) av av;have b9:=G.set 0 2;have b8:=b5.aL (p:=⟨w.heap.size+1,0,ns⟩) au (U O 2);have x9:=x5.set (p:=⟨w.heap.size+1,0,ns⟩) (.inr au) (U O 2);generalize w3.setCell ⟨w.heap.size+1,0,ns⟩ (U O 2)=w4 at H b9 b8 x9⊢;clear K G b5 x5 D J R;have V:p3<=p+4:=aa;have s:gP.set 0 2=[2,0,0]++[]++so 68 0:=rfl;rw[s] at b9;have h9:=H;obtain⟨d,rfl⟩:∃z,z=d1:=⟨_,rfl⟩;clear s H;exact SM
 |true=>
  go_enter Gz.gf func64,ntmps64;go_wp2_with((refine cP (n:=71) rfl _ _ _ rfl _ rfl _ gP rfl aE rT fG ?_;intro w9 b9 F s9);have I:Q w w9:=(((Q.refl w).alloc _).alloc _).grown F (λk e=>by have:=aH e;omega);have h9:=hd.q I;have b8:=u.grown F E;clear b0 b1 u F s9 hd;have D:=b9.at 0 aw;have J:=b9.free 0;generalize tR:gP[0]?.getD 0=q0 at D;have CA:q0=2:=tR.symm;subst CA)
  have HM:Hid (iT AT d=(mO d).map λr=>(r.1++so 64 0,r.2)):=by unfold Hid iT;rw[if_neg λk=>by cases k.1];rfl
  have s:gP=[2,0,0]++[]++so 68 0:=rfl;rw[s] at b9;clear s D J;have x9:=al.dp [g,h] I;have V:p<=p+4:=aa;exact SM
end
section
open Go.RowKit Go.WideShapes Go.ChangeShapes
def jF(j:Nat)(m:List Int)(d:aA):Option (List Int×aA):=if ax m 0=0 then an (m,d) else(lP (4-j) d).map λr=>(sub m 0 (7+16*j)++r.1,r.2)
def Yz{d d1:aA}{h:List Int}(f:lQ be d=an (h,d1)):h.length=7/\ax h 0≠0:=by
 rcases Ob be d with⟨i,r,a,o,_⟩|⟨a,_⟩
 ·rw[f] at a;have q:h=i:=eN;have l:=Ek be (d,0);have k:=(Nr be (d,0)).1;rw[o] at l k;rw[q];exact⟨l,k⟩
 ·simp_all
def XP{d d0:aA}(a:iT be d=an (m,d0)):gL be d=jF 0 m d0:=by
 unfold iT at a;unfold gL jF;split at a
 ·rename_i f;rw[if_pos f];injection a with a;injection a with h1 i;rw[<-h1,<-i,if_pos aw]
 ·rename_i f;rw[if_neg f];cases hq:lQ be (iM be (d,0)).1 with
  |none=>rw[hq] at a;cases a
  |some r=>
   obtain⟨h,d1⟩:=r;rw[hq] at a;injection a with a;injection a with h1 i;obtain⟨l,k⟩:=Yz hq;have o:ax m 0=ax h 0:=by rw[<-h1];exact Ao (h:=h) (k:=0) (by rw[l];decide)
   have q:sub m 0 (7+16*0)=h:=by rw[<-h1];unfold sub;rw[List.drop_zero,Nat.mul_zero,Nat.add_zero,<-l,List.take_left]
   rw[if_neg (by rw[o];exact k),q,<-i]
def aba{d:aA}(a:iT be d=ns):gL be d=ns:=by
 unfold iT at a;unfold gL;split at a
 ·cases a
 ·simp_all
def acU{o:Nat}(h:o+b.length<=m.length)(a:0<o):ax (upd m o b) 0=ax m 0:=by unfold ax;rw[Al _ _ _ _ h,if_neg aa]
def XQ{o:Nat}(h:o+b.length<=m.length):sub (upd m o b) 0 (o+b.length)=sub m 0 o++b:=by rw[zW _ 0 o b.length (by rw[vK];omega),Nat.zero_add,W8 h,XE h aa (.inl aa)]
def YA{d a:aA}(i:gJ d=an (b,a))(f:ax m 0≠0)(l:j<4)(hm:m.length=71)(k:b.length=16):jF j m d=jF (j+1) (upd m (7+16*j) b) a:=by
 unfold jF;rw[if_neg f,if_neg (by rw[acU (by omega) (by omega)];exact f)];rw[show 4-j=(4-(j+1))+1 by omega,lP,i];dsimp only
 have e:sub (upd m (7+16*j) b) 0 (7+16*(j+1))=sub m 0 (7+16*j)++b:=by have:=XQ (m:=m) (b:=b) (o:=7+16*j) aa;rw[k,show 7+16*j+16=7+16*(j+1) by omega] at this;exact this
 cases lP (4-(j+1)) a with|none=>rfl|some r=>simp_all
def YB{d:aA}(a:gJ d=ns)(f:ax m 0≠0)(i:j<4):jF j m d=ns:=by unfold jF;rw[if_neg f,show 4-j=(4-(j+1))+1 by omega,lP,a];rfl
def ZM{d:aA}(hm:m.length=71):jF 4 m d=an (m,d):=by
 unfold jF;split
 ·rfl
 ·show an (sub m 0 71++[],d)=_;unfold sub;rw[List.drop_zero,List.take_of_length_le aa,List.append_nil]
def YC{d:aA}(a:ax m 0=0):jF j m d=an (m,d):=by unfold jF;rw[if_pos a]
def qA(acc:List Int)(r:Option (List Int)):Option (List Int):=r.map (acc++ ·)
def XR(be:Bool)(k:Nat)(d:aA):jD be (k+1) d=match gL be d with|some (m,d1)=>qA m (jD be k d1)|none=>ns:=aC
def ZK(a b:List Int)(x:Option (List Int)):qA a (qA b x)=qA (a++b) x:=by cases x<;>simp[qA]
def YD(a:bytes xs):(eJ xs).code<=4294967295:=
 zx (d:=dc (dc (dc (fw xs)))) (λx f=>a x (ze (ze (ze f)))) (jz).1
def az.AY{s:Nat}{S:List Nat}(h:az t s w B v n xs)(k:al S w w')(a:∀j,v.ownBlock=an j->j∉S):az t s w' B v n xs:=
 h.Fz λg l o f hc i=>(k.block g (bU.1 hc).1 (a g i)).trans hc
def SB.af5{d:aA}{i:Nat}{v':Value}(k:SB w g h d xs A c cc B p)(f:bH v w v' w')(o:az t i w B' v n ys)(l:∀b,v.ownBlock=an b->b≠g/\b≠h/\B<=b):SB w' g h d xs A c cc B p:=by
 cases a:v.ownBlock with
 |none=>exact k.q (Q.ny (by have:=f.bI;rw[a] at this;exact this))
 |some j=>obtain⟨h1,s,u⟩:=l j a;have:=f.bI;rw[a] at this;exact k.aq (al.bA this) (λx r=>by simp at r;omega) av av
def YE{d:aA}(l:sY be d w g h c cc B p xs A e w'):
  ∃f b0,e=dl (em #[bi (arr f),ci b0])/\f.length=71/\(b0=AT->∃d0 i,i<=p+300/\gL be d=jF 0 f d0/\SB w' g h d0 xs A c cc B i)/\(b0=Ba->gL be d=ns)/\al [g,h] w w':=by
 obtain⟨h1,k⟩:=l;cases a:iT be d with
 |none=>rw[a] at h1;obtain⟨m,hm,he⟩:=h1;exact⟨m,Ba,he,hm,λh=>(by cases h),λ_=>aba a,k⟩
 |some r=>obtain⟨m,d0⟩:=r;rw[a] at h1;obtain⟨he,hm,o,q,s⟩:=h1;exact⟨m,AT,he,hm,λ_=>⟨d0,o,q,XP a,s⟩,λh=>(by cases h),k⟩
theorem ZN{d:aA}(f:sX d w g h c cc B p xs A e w'):
  ∃b b0,e=dl (em #[bi (arr b),ci b0])/\b.length=16/\(b0=AT->∃d0 a,a<=p+2200/\gJ d=an (b,d0)/\SB w' g h d0 xs A c cc B a)/\(b0=Ba->gJ d=ns)/\al [g,h] w w':=by
 obtain⟨h1,i⟩:=f;cases k:gJ d with|none=>grind|some r=>grind
def QC(R:Option (List Int))(n:Nat)(w:rl)(e:Ending)(w':rl):Prop:=
  (match R with
   |an L=>∃v,e=dl (em #[v,ci AT])∧az 100 71 w' w.heap.size v n L
   |ns=>∃A n c,e=dl (em #[Y A n c,ci Ba]))∧Q w w'
def DJ{m:Nat}(he:e=dl (em #[Y A m c,ci Ba]))(q:Q w w'):QC ns n w e w':=⟨⟨A,m,c,he⟩,q⟩
def YF{a:List Int}(f:a.length=n*2)(l:ib a=AT):bytes (l5 a):=by
 have h:=sO n a f l
 have i:∀k,k<=n->∃e,RE a k e:=by
  intro k
  induction k with
  |zero=>exactλ_=>⟨_,RE.zero a⟩
  |succ k o=>intro u;obtain⟨e,he⟩:=o aa;obtain⟨q,r,_⟩:=h k aa;exact⟨_,he.succ f aa q r⟩
 obtain⟨e,he⟩:=i n (ay _);have s:=he.full f;have:=(As 4 he.ok).out;rw[s] at this;exact this
def Ec(a:xs.length=n*71)(h1:1<=n)(i:n<=4)(h:dO be xs n=an ys):bytes ys:=by
 rw[E7 a h1 i] at h;split at h
 ·rename_i l;injection h with h;obtain⟨f,q⟩:=vT a l n (ay _);obtain⟨k,o⟩:=f.even;rw[<-h];exact YF o f.ok
 ·cases h
def QD(h:bytes xs):xs.map ks=xs:=by
 induction xs with
 |nil=>rfl
 |cons x r a=>have:=h x (nd ..);rw[List.map_cons,a λy f=>h y (List.mem_cons_of_mem _ f)];congr 1;unfold ks;omega
def Mu(A:Option aic)(c B:Nat)(many:Int)(be:Bool)(w:rl)(F:bC w B A xs)(hn:xs.length=n)(hc:n<=c/\c<=maxLen)(hB:B<=w.heap.size)(hb:bytes xs):
  ahR Gz.prog 37 #[Y A n c,U O many,ci be] w (QC (jg xs many be) many.toNat w):=by
 have Z:Q w (w.alloc (ap #[] 100)):=(Q.refl _).alloc _;have o0:=az.jb 100 71 w w.heap.size (ay _);obtain⟨R,C⟩:∃z,jg xs many be=z:=⟨_,rfl⟩;rw[C];unfold jg at C;by_cases hm:1<=many/\many<=4
 ·rw[if_pos hm] at C;obtain⟨N,rfl⟩:∃N:Nat,many=(N:Int):=⟨many.toNat,aa⟩;rw[Int.toNat_natCast] at C⊢;obtain⟨m1,m4⟩:=hm;have G:=ag C;have UI:=ag (ad0 (F.q Z hB) hn hc (aQ hB Z.size) hb);have HX:=ag F;have H:=ag hn;clear C F hn;go_enter Gz.gf func37,ntmps37;go_wp2;refine(oH _ m1 m4).mono ?_;rintro e w'⟨rfl,rfl⟩;go_wp2;refine UI.out.mono ?_;rintro e w1⟨g,h,cc,rfl,hg,hh,d1,q1⟩;have pm:=q1.size;rw[NO] at hg hh pm;have S1:=ag (⟨d1,EU xs,YD hb⟩:SB w1 g h (eJ xs) xs A c cc B 4);have xt:=d1.lt;have hhl:=d1.aV;have O1:=ag ((o0.q q1).mono (ay _));have Q1:=ag (Z.trans q1);clear d1 q1 Z o0 UI hhl;go_wp2;have UJ:∀j,(Value.slice (an ⟨w.heap.size,0,ns⟩) 0 0).ownBlock=an j->j≠g/\j≠h:=λj s=>by have:w.heap.size=j:=aH s;omega
  go_loopw[8,10] (λu i wr=>∃(k:Nat)(d:aA)(acc:List Int)(p:Nat),k<=N/\i=U O k/\p<=4+10000*k/\Hid (SB wr g h d xs A c cc B p/\az 100 71 wr w.heap.size u k acc/\Q w wr/\(∀j,u.ownBlock=an j->j≠g/\j≠h)/\qA acc (jD be (N-k) d)=jD be N (eJ xs))) (λ_ i _=>N-(intOf i).toNat)
  case atStart=>exact⟨0,eJ xs,[],4,aa,rfl,aa,S1.out,O1.out,Q1.out,UJ,by rw[Nat.sub_zero];cases jD be N (eJ xs)<;>rfl⟩
  case round=>
   obtain⟨k,d,acc,p,hk,rfl,hp,hK⟩:=hrel;obtain⟨D,V,W,k4,X⟩:=hK.out;clear hK S1 O1 Q1 UJ;have K4:=ag k4;by_cases aV:k<N
   ·have mp:(k:Int)<(N:Int):=by omega
    obtain⟨r,hr⟩:∃r,N-(k+1)=r:=⟨_,rfl⟩;rw[show N-k=r+1 by omega,XR] at X;have hH:=acT be D aa;have I:=ag V;have K3:=ag W;have K5:=ag X;have hbs:=D.nY;have rh:=D.lt;have Im:=D.ds.aV.2;have rv:=D.ds.le;have Ul:=D.ds.aV.1;clear D V W k4 X;go_wp2;refine hH.mono ?_;intro e w5 hP;obtain⟨m0,b0,rfl,ul,hT,hF,x5⟩:=YE hP;clear hH hP;have BN:=x5.size;have z2:=I.out.AY x5 (λj s=>by have:=K4.out j s;simp;omega);have z3:=x5.toQ K3.out (λj s=>by simp at s;omega);have HT:=ag hT;have HF:=ag hF;clear hT hF x5 I K3;go_wp2_with((refine cP (n:=71) rfl _ _ _ rfl _ rfl _ _ aC (Nb.new 100 71 _ et rfl) ul e8 ?_;intro w6 bm gm sm;rw[NO] at sm));have q6:Q w5 w6:=((Q.refl _).alloc _).grown gm (λj e=>by have:=aH e;omega);obtain⟨mB,UK⟩:∃z,w5.heap.size=z:=⟨_,rfl⟩;rw[UK] at bm sm BN;(try rw[UK])
    have BM:=ag bm;have Z2:=ag (z2.q q6);have Z3:=ag (z3.trans q6);have G':Hid (∀j,u8.ownBlock=an j->j≠mB):=λj s=>by have:=z2.AX j s;omega
    have UL:Hid (b0=AT->∃d0 E,E<=p+300/\gL be d=jF 0 m0 d0/\SB w6 g h d0 xs A c cc B E):=λh=>by obtain⟨d0,E,h1,h2,h3⟩:=HT.out h;exact⟨d0,E,h1,h2,h3.q q6⟩
    clear z2 z3 q6 gm bm HT;go_loopw[12,13] (λo i wi=>∃(j:Nat)(J:Bool),j<=4/\i=U O j/\o=ci J/\Hid ((J=AT->∃dj mj pj,pj<=p+300+2200*j/\mj.length=71/\SB wi g h dj xs A c cc B pj/\Nb 100 71 wi mB mj/\gL be d=jF j mj dj)/\(J=Ba->gL be d=ns)/\az 100 71 wi w.heap.size u8 k acc/\Q w wi/\mB<wi.heap.size)) (λo i _=>4-(intOf i).toNat)
    case atStart=>exact⟨0,b0,aa,rfl,rfl,λh=>(by
     obtain⟨d0,E,h1,h2,h3⟩:=UL.out h;exact⟨d0,m0,E,aa,ul,h3,BM.out,h2⟩),HF.out,Z2.out,Z3.out,BM.out.lt⟩
    case round=>
     obtain⟨j,J,s,rfl,rfl,hK⟩:=hrel;obtain⟨y0,yF,y3,y4,y5⟩:=hK.out;clear hK UL HF Z2 Z3 BM;cases J with
     |false=>
      have BT:=yF rfl
      have hRn:Hid (R=ns):=by have h5:=K5.out;rw[BT] at h5;have h6:=G.out;rw[<-h5] at h6;exact h6.symm
      have Y4:=ag y4;clear y0 yF BT K5;by_cases K:j<4
      ·have L:(j:Int)<4:=by omega
       exact Mc
      ·have L:¬(j:Int)<4:=by omega
       exact Mc
     |true=>
      obtain⟨dj,mj,pj,hpj,tP,y1,y2,i7⟩:=y0 rfl;have cK:=y2.at 0 aa;rw[sub_one] at cK;clear y0 yF;by_cases K:j<4
      ·have L:(j:Int)<4:=by omega
       by_cases f:ax mj 0=0
       ·rw[f] at cK;have BT:gL be d=an (mj,dj):=by rw[i7,YC f]
        exact LI
       ·obtain⟨kd,M⟩:∃z,ax mj 0=z:=⟨_,rfl⟩;rw[M] at cK f;have hkb:(kd !=0)=AT:=by simp[f]
        have hL:=ZL y1 aa;have xg:=ag M;have hbs:=y1.nY;have rh:=y1.lt;have Im:=y1.ds.aV.2;have rv:=y1.ds.le;have Ul:=y1.ds.aV.1;clear y1 M;go_wp2;refine hL.mono ?_;intro e w8 hP;obtain⟨bb0,J,rfl,y,hT,hF,x8⟩:=ZN hP;clear hL hP;have hs8:=x8.size;have z3:=y3.AY x8 (λj s=>by have:=K4.out j s;simp;omega);have z4:=x8.toQ y4 (λj s=>by simp at s;omega);have hmg:mB≠g/\mB≠h:=aa;have bm6:=y2.aq x8 av;have HT:=ag hT;have HF:=ag hF;have UM:=ag i7;clear hT hF x8 y2 y3 y4 i7 cK;go_wp2_with(first|((refine cP (n:=16) rfl _ _ _ rfl _ rfl _ _ aC (Nb.new 97 16 _ df rfl) y cM ?_;intro w7 bb gb sb;rw[NO] at sb;have bm8:=(bm6.alloc (ap (arr df) 97)).grown gb av))|((with_reducible refine ew (n:=16) rfl _ _ rfl _ rfl _ bb _ (Gz.gu underlying97) rfl cM ?_))|((refine rU (n:=71) rfl _ _ _ rfl _ (7+j*16) rfl _ _ aC bm8 (by rw[y];omega) (by rw[y];exact cM) ?_;intro w9 bp gp sp)));have q7:Q w8 w7:=((Q.refl _).alloc _).grown gb (λj e=>by have:=aH e;omega);have hs7:=q7.size;go_roundw
        case rel=>
         refine⟨j+1,J,aa,aJ,rfl,λh=>?_,λh=>?_,(z3.q q7).other gp (.inr λe=>G'.out _ e rfl),(z4.trans q7).grown gp (λx e=>by have:=aH e;omega),aa⟩
         ·obtain⟨d0,E,e1,e2,e3⟩:=HT.out h;refine⟨d0,_,E,aa,by rw[vK];exact tP,(e3.q q7).aq (al.bA gp) (λx F=>by simp at F;omega) av av,bp,?_⟩;rw[UM.out,YA e2 (by rw[xg.out];exact f) K tP y,Nat.mul_comm 16 j]
         ·rw[UM.out,YB (HF.out h) (by rw[xg.out];exact f) K]
        case measure=>exact bj
      ·have af6:j=4:=by omega
       have L:¬(j:Int)<4:=aa;have BT:gL be d=an (mj,dj):=by rw[i7,af6,ZM tP]
       exact LI
   ·have hkN:k=N:=by omega
    subst hkN;rw[ajz,jD] at X;have hS:jD be k (eJ xs)=an acc:=by rw[<-X];simp[qA]
    have l:=G.out;rw[hS] at l;dsimp only at l;obtain⟨P,co,rfl⟩:=V.iP aa;have hE:=ag λw'(h:az 100 71 w' w.heap.size (Y (an ⟨P,0,ns⟩) k co) k acc)=>Mq be k P co w.heap.size acc w' h aa aa;have Um:=V.1
    have S:bytes ((dO be acc k).getD []):=by cases hq:dO be acc k with|none=>intro x F;cases F|some ys=>exact Ec Um aa aa hq
    rw[QD hb] at l;obtain⟨ys,rq⟩:∃z,(dO be acc k).getD []=z:=⟨_,rfl⟩;rw[rq] at l S hE;have HYS:=ag S;have UN:=ag l;have I:=ag V;have K3:=ag W;have X3:=ag (HX.out.q W hB);have E':¬(k:Int)<(k:Int):=aa;have dg:=W.size;clear D V W k4 X K4 hS l S rq aV G;have cD:=oJ (c:=c) (X3.out.q (Q.refl wr).drew aa) H.out;have UO:=Oi ys xs;by_cases he:strOfNums ys=strOfNums xs
    ·rw[decide_eq_true he] at UO;have T:Hid (R=an acc):=by rw[Hid,<-UN.out,if_pos (Oh HYS.out hb he)]
     clear he;go_wp2
     go_region_with (go_at_call 58;refine(hE.out _ (I.out.q yl)).mono ?_;rintro e w9⟨v9,rfl,o9,q9⟩;obtain⟨A9,c9,rfl⟩:=o9.form;have a:Q wr w9:=Q.trans yl q9;have cE:=oJ (c:=c9) o9.rd rfl;have cD9:=oJ (c:=c) (X3.out.q a aa) H.out;have k9:=K3.out.trans a;have K9:=ag (I.out.q a))
     all_goals
      go_wp2;refine ahX (v:=em #[Y (an ⟨P,0,ns⟩) k co,ci AT]) yC rfl ?_;rw[T.out];exact⟨⟨_,rfl,K9.out⟩,k9⟩
    ·rw[decide_eq_false he] at UO;have T:Hid (R=ns):=by rw[Hid,<-UN.out,if_neg λh=>he (by rw[h])]
     clear he;go_wp2
     go_region_with (go_at_call 58;refine(hE.out _ (I.out.q yl)).mono ?_;rintro e w9⟨v9,rfl,o9,q9⟩;obtain⟨A9,c9,rfl⟩:=o9.form;have a:Q wr w9:=Q.trans yl q9;have cE:=oJ (c:=c9) o9.rd rfl;have cD9:=oJ (c:=c) (X3.out.q a aa) H.out;have k9:=K3.out.trans a;have K9:=ag (I.out.q a))
     all_goals
      go_wp2;refine ahX (v:=em #[Y (an ⟨w9.heap.size,0,ns⟩) 0 0,ci Ba]) yC rfl ?_;rw[T.out];exact DJ rfl (k9.alloc _)
 ·rw[if_neg hm] at C;subst C;have hmf:Hid (decide (1<=many/\many<=4)=Ba):=decide_eq_false hm;clear hm;go_enter Gz.gf func37,ntmps37;go_wp2;refine(cG _ hmf).mono ?_;rintro e w'⟨rfl,rfl⟩;go_wp2;refine ahX (v:=em #[Y (an ⟨w.heap.size,0,ns⟩) 0 0,ci Ba]) yC rfl ?_;exact DJ rfl Z
end
end Go.Proofs.Q0
