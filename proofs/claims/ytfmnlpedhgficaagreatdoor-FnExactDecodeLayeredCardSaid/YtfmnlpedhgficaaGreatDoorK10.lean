import Derived.Test.YtfmnlpedhgficaaGreatDoorK9
import Derived.Laws.BytesArg
import Derived.Shelf.Bytes.SlSmallAll
set_option maxRecDepth 100000
set_option maxHeartbeats 8000000
set_option linter.all false
open Go.Value renaming int->U,slice->Y,bool->a5,agg->a9,pointer->bi,tuple->ci,iface->em
open Go.IntKind renaming i64->O
open Go.Obj renaming cells->ac
open Go.Ending renaming returned->be
open Bool renaming false->Bz,true->AT
open Go renaming Addr->ajF,Calls->aiK,World->AS,bodyPost_ret->ajz
open Go.World renaming size_alloc->OF
open List renaming replicate->rl
open Nat renaming sub_self->akF
open Option renaming getD_none->akR,getD_some->ajG,none->ns,some->an
namespace Go.Proofs
def rV{p:Prop}(h:p:=by have:=Option.some.inj e;omega):p:=h
def KU{p:Prop}(h:p:=by(go_wp2_with((with_reducible refine e8 (n:=71) rfl _ _ rfl _ rfl _ bl _ (Gz.gu underlying97) rfl gN ?_));go_ret;refine⟨_,rfl,?_,λ_=>rfl,q9.trans q5⟩;rw[Qg (Rk aV HB.out)];exact aK.nil _ _)):p:=h
def KV{p:Prop}(h:p:=by(obtain⟨A1,c1,rfl⟩:=K1.out.form;have y1:=K1.out.q (q9w.trans q5);have HM:=af (YL y1 (by have:=q5.size;omega) (AQ t8 Cq.out) Vu aa);go_wp2_with((with_reducible refine e8 (n:=71) rfl _ _ rfl _ rfl _ bl _ (Gz.gu underlying97) rfl gN ?_));refine HM.out.mono ?_;rintro e w6⟨v6,m6,rfl,hm6,o6,g6⟩;have kz:Q w w6:=bD.toQ g6 (q9.trans q5) (λg hg=>by have:=y1.below g hg;omega);obtain⟨A6,c6,rfl⟩:=o6.form;go_wp2;go_roundw;(case rel=>exact⟨k+1,cnt+m6,aa,aF,aa,by rw[vP];exact o6,kz,by rw[EZ,K3.out,HB.out];rfl⟩);(case measure=>simp[intOf];omega))):p:=h
abbrev zq:=@List.mem_of_mem_tail
def yH{p:Prop}(h:p:=by simp[results,Tryz.results43,go_sem]):p:=h
def KW{p:Prop}(h:p:=by go_wp2;refine bodyPost_ret (v:=ci #[Y (some ⟨wr.heap.size,0,none⟩) 0 0,a5 false]) yH rfl ?_;rw[hRn.out];exact D9 rfl (Y4.out.alloc _)):p:=h
def KX{p:Prop}(h:p:=by
  have xI:=K5.out;rw[z9] at xI;dsimp only at xI;rw[aaL] at xI;have K6:=af xI;have Y1:=af y1;have Y4:=af y4;have hsi:=y4.size;have ahz:(arr mj).size=71:=by rw[bQ,tW]
  clear xI K5 y1 y4 z9 gt;go_wp2_with(first|((with_reducible refine e8 (n:=71) rfl _ _ rfl _ rfl _ y2 _ (Gz.gu underlying97) rfl gN ?_))|(refine Dg rfl rfl (Gz.gu underlying63) (arr mj) rfl (by rw[ahz];exact fK) ah aa aa ?_)|(at_builtin;go_loud (refine gi rfl rfl (Gz.gu underlying63) Ek ah al al rfl (y3.alloc _) ⟨_,0,none⟩ mj 1 rfl ?_ ?_ ?_ ?_ ?_;omega;omega;(simp only[World.size_alloc];omega);(exactλj hj=>ji _ mj _ j hj);intro v' w' O2 G2)));go_roundw
  case rel=>
   have qa:Q wr (wr.alloc (ac (arr mj) 97)):=(Q.refl _).alloc _;refine⟨k+1,dj,acc++mj,pj,aa,aF,aa,(Y1.out.q qa).ahA G2 (y3.q qa) ?_,O2,bD.toQ G2 (Y4.out.trans qa) λb hb=>(y3.q qa).below b hb,λj hj=>?_,by rw[hr];exact K6.out⟩
   ·intro b e;have:=K4.out b e;have:=y3.below b e;omega
   ·rcases G2.own with e|⟨i,e,hi⟩
    ·exact K4.out j (e.symm.trans hj)
    ·rw[hj] at e;injection e with e;simp only[World.size_alloc] at hi;omega
  case measure=>simp[intOf];omega):p:=h
def yI{p:Prop}(h:p:=by exact(by repeat(first|exact Q.refl _|assumption|refine Q.drewN ?_ _|refine Q.drew ?_|refine Q.alloc ?_ _|refine Q.trans ?_ (by assumption)|refine Q.set ?_ (by first|exact Nat.le_refl _|omega|(simp;done)|(simp;omega)) _))):p:=h
end Go.Proofs
namespace Go.Proofs.Q0
open Go.Proofs.Tryz
variable{w w':AS}{xs ys b m:List Int}{n g c B B' h cc p j:Nat}{A:Option ajF}{v:Value}{t:TypeId}{e:Ending}{ap:Bool}
section
open Go.RowKit Go.WideShapes Go.ChangeShapes
def Yg(ap:Bool)(h:ay 97 71 w B (Y (an ⟨g,0,ns⟩) n c) n xs)(h1:1<=n)(Z:n<=4):
  aiK Gz.prog 116 #[Y (an ⟨g,0,ns⟩) n c,a5 ap] w λe w'=>∃v',e=be v'/\aK w' w.heap.size v' ((eI ap xs n).getD []).length ((eI ap xs n).getD [])/\(eI ap xs n=ns->v'=Y ns 0 0)/\Q w w':=by
 have H:=af h;have x:=h.1;have y:((n:Int)<1)=False:=aA;have L:decide ((n:Int)<1)=Bz:=decide_eq_false aa;have rz:decide ((4:Int)<(n:Int))=Bz:=decide_eq_false aa;have M:=ay.nil 164 2 w w.heap.size;clear h y;go_enter Gz.gf func116,ntmps116;go_wp2;have N:=af M;clear M;go_loopw[5,18] (λu i wr=>∃k cnt:Nat,k<=n/\i=U O k/\cnt<=5000*k/\Hid (ay 164 2 wr w.heap.size u cnt (jV ap xs k)/\Q w wr/\gx ap xs k=AT)) (λ_ i _=>n-(intOf i).toNat)
 case atStart=>exact⟨0,0,aa,rfl,aa,N.out,Q.refl _,rfl⟩
 case round=>
  obtain⟨k,cnt,hk,rfl,P,hK⟩:=hrel;obtain⟨R,s,S⟩:=hK.out;clear hK N;have T:=H.out.q s;have C:=s.size;have K1:=af R;have V:=af s;have K3:=af S;clear R s S;by_cases aV:k<n
  ·have i6:(k:Int)<n:=by omega
   have t8:=wm x aV;have D:=af λw=>YK w t8;obtain⟨E,o⟩:∃z,aq (aO xs k) 0=z:=⟨_,rfl⟩;have a:=af o;obtain⟨bv,l⟩:∃z,dt (aO xs k)=z:=⟨_,rfl⟩;rw[l] at D;have Cq:=af l;clear o l;go_wp2_with(first|((with_reducible refine sB (ty:=97) _ (k*71) ?_ ?_ _ T 71 ?_ _ (Gz.gu underlying97) ?_ gN ?_);exact rfl;exact rfl;omega;exact rfl;rw[qh])|((refine dx (n:=71) rfl _ _ _ rfl _ rfl _ _ aD (Nb.new 97 71 _ et rfl) t8 gN ?_;intro F bl G s9;rw[OF] at s9;have q9:Q w F:=(V.out.alloc _).grown G λj e=>rV;have c0:=bl.at 0 aa;rw[sub_one,a.out] at c0;have Vv:wr.heap.size+1<=F.heap.size:=aa))|((with_reducible refine e8 (n:=71) rfl _ _ rfl _ rfl _ bl _ (Gz.gu underlying97) rfl gN ?_)));refine(D.out _).mono ?_;rintro e w5⟨rfl,q5⟩;have q9w:Q wr F:=((Q.refl wr).alloc _).grown G (λj e=>by have:=aJ e;omega);replace bl:=bl.q q5;replace c0:=bl.at 0 aa;rw[sub_one,a.out] at c0;clear D G;cases bv with
   |false=>have HB:Hid (dS ap (aO xs k)=Bz):=TA Cq.out;exact KU
   |true=>
    cases ap with
    |false=>
     have HB:Hid (dS Bz (aO xs k)=AT):=Sq Cq.out;have Vu:Bz=AT->aq (aO xs k) 0=2:=λh=>by cases h
     exact KV
    |true=>
     by_cases f:E=2
     ·have HB:Hid (dS AT (aO xs k)=AT):=Sr Cq.out (a.out.trans f);have Vu:AT=AT->aq (aO xs k) 0=2:=λ_=>a.out.trans f;have hkb:(E !=2)=Bz:=by simp[f]
      exact KV
     ·have HB:Hid (dS AT (aO xs k)=Bz):=TB (by rw[a.out];exact f);have W:(E !=2)=AT:=by simp[f]
      exact KU
  ·have I:k=n:=by omega
   rw[I] at K1 K3;have hlen:=K1.out.1;obtain⟨r1,r2⟩:=wF x K3.out n (av _);have J:=Fy (ap:=ap) x h1 Z;rw[if_pos K3.out] at J;have r:=af J
   have K:0<cnt:=by exact Mp
   obtain⟨gz,cz,rfl⟩:=K1.out.gC K;have HE:=YM K1.out r1.ok aa;clear J aV T;go_wp2;refine HE.mono ?_;rintro e w5⟨v5,rfl,X,q5⟩;obtain⟨A5,c5,rfl⟩:=X.form;go_wp2;go_ret;refine⟨_,rfl,?_,λh=>?_,V.out.trans q5⟩
   ·rw[r.out];exact X.mono C
   ·rw[r.out] at h;cases h
end
section
open Go.RowKit Go.WideShapes Go.ChangeShapes
def oY(h:bB w B A xs)(a:xs.length=n):(convert 62 9 (Y A n c)).run Gz.prog w=.ok (.string (strOfNums xs)) w:=by
 subst a;cases xs with
 |nil=>rw[List.length_nil,run_convert_bytes_zero w 62 5 (Gz.gu underlying62) (Gz.gu underlying5) A c 9 (Gz.gu underlying9)];rfl
 |cons x r=>
  obtain⟨b,o,rfl,_,hc⟩:=h aj
  exact run_convert_bytes_arg w 62 5 (Gz.gu underlying62) (Gz.gu underlying5) b o _ c _ rfl (λi hi=>by rw[hc i hi];simp[List.getD]) _ (Gz.gu underlying9)
def str_inj:∀{xs ys:List Int},bytes xs->bytes ys->(xs.map λn=>UInt8.ofNat n.toNat)=(ys.map λn=>UInt8.ofNat n.toNat)->xs=ys
 |[],[],_,_,_=>rfl
 |[],y::ys,_,_,e=>by simp at e
 |x::xs,[],_,_,e=>by simp at e
 |x::xs,y::ys,f,i,e=>by rw[List.map_cons,List.map_cons,List.cons.injEq] at e;obtain⟨k,l⟩:=e;have h1:=f x (nB ..);have o:=i y (nB ..);have:=congrArg UInt8.toNat k;simp only[UInt8.toNat_ofNat'] at this;rw[Nat.mod_eq_of_lt aa,Nat.mod_eq_of_lt aa] at this;rw[show x=y by omega,str_inj (λz a=>f z (List.mem_cons_of_mem _ a)) (λz a=>i z (List.mem_cons_of_mem _ a)) l]
def Pb(a:bytes xs)(f:bytes ys)(e:strOfNums xs=strOfNums ys):xs=ys:=
 str_inj a f (by have:=congrArg (λs:ByteArray=>s.data.toList) e;simpa[strOfNums] using this)
def Pc(xs ys:List Int):((strOfNums xs).toList==(strOfNums ys).toList)=decide (strOfNums xs=strOfNums ys):=by
 rw[Bool.eq_iff_iff,beq_iff_eq,decide_eq_true_eq]
 exact⟨λh=>by simp only[ByteArray.toList_eq] at h;exact ByteArray.ext (Array.toList_inj.1 h),λh=>by rw[h]⟩
def Zz{f:Option ajF}(n:Nat){i:Nat}(c k:Nat)(l:bB w B A xs)(o:xs.length=n)(q:bB w B' f ys)(a:ys.length=i):
  aiK Gz.prog 117 #[Y A n c,Y f i k] w λe w'=>e=be (a5 (decide (strOfNums xs=strOfNums ys)))/\Q w w':=by
 have u:=oY (c:=c) l o;have x:=oY (c:=k) q a;have r:=Pc xs ys;have s:=af r;go_enter Gz.gf func117,ntmps117;go_wp2;go_ret;exact⟨by rw[<-s.out];rfl,Q.refl _⟩
end
section
open Go.RowKit Go.WideShapes Go.ChangeShapes
theorem ace{d:ax}{k:Nat}(ok:bT d)(f:k<40)(q:bytes d.rest)(hc:d.code<=4294967295):(bO d k).code<=4294967295:=by
 have hm:=ok.nk k f
 have h1:(dP d k).code<=4294967295/\(dP d k).rest=d.rest:=by
  obtain⟨i,l⟩:=ok.ch k f;have:=(lY ok.lo ok.hi i l).1;unfold dP;split
  ·simp_all
  ·refine⟨?_,rfl⟩;show d.code-dZ d k<=_;unfold dZ;omega
 have a:bytes (dP d k).rest:=eY;have f1:(feed (dP d k)).code<=4294967295:=zH a hm.c0;have f2:(feed (feed (dP d k))).code<=4294967295:=zH (d:=feed (dP d k)) (λx o=>a x (zq o)) (jM).1;unfold bO jO;split
 ·grind
 ·omega
structure SB(w:AS)(g h:Nat)(d:ax)(xs:List Int)(A:Option ajF)(c cc B p:Nat):Prop where
 ds:DS w g h d xs A c cc B p
 ok:bT d
 code:d.code<=4294967295
section
variable{w w':AS}{g h c cc B p:Nat}{d:ax}{xs:List Int}{A:Option ajF}
def SB.q(k:SB w g h d xs A c cc B p)(hq:Q w w'):SB w' g h d xs A c cc B p:=⟨k.ds.q hq,k.ok,k.code⟩
def SB.az{S:List Nat}(k:SB w g h d xs A c cc B p)(e:au S w w')(a:∀x,x∈S->B<=x)(f:g∉S)(i:h∉S):SB w' g h d xs A c cc B p:=⟨k.ds.az e a f i,k.ok,k.code⟩
def SB.lt(k:SB w g h d xs A c cc B p):g<w.heap.size:=k.ds.lt
end
def BO(k:Nat){d:ax}(hd:SB w g h d xs A c cc B p)(a:k<40)(f:p<=900000000):
  aiK Gz.prog 88 #[bi (an ⟨g,0,ns⟩),U O (k:Int)] w λe w'=>e=be (U O (cU d k))/\(∃p',p'<=p+2/\SB w' g h (bO d k) xs A c cc B p')/\au [g,h] w w':=
 (get w g h c cc B p k d xs A hd.ds hd.ok hd.code a f).mono λ_ _⟨h1,⟨p',i,l⟩,o⟩=>⟨h1,⟨p',i,l,hd.ok.jY k a,ace hd.ok a hd.ds.bytes hd.code⟩,o⟩
def tr(w:AS)(g h c cc B p b:Nat)(d:ax)(xs:List Int)(A:Option ajF)(hd:SB w g h d xs A c cc B p)(hb:b+6<40)(hp:p<=800000000):
  aiK Gz.prog 89 #[bi (an ⟨g,0,ns⟩),U O (b:Int)] w λe w'=>e=be (U O ((aQ b d).1.getD (-1)))/\(∃p',p'<=p+64/\SB w' g h (aQ b d).2 xs A c cc B p')/\au [g,h] w w':=by
 go_enter Gz.gf func89,ntmps89;go_wp2;go_loopw[5] (λi wr=>∃(k:Nat)(e:ax)(p':Nat),k<=15/\i=U O k/\Hid (SB wr g h e xs A c cc B p'/\p'<=p+2*k/\au [g,h] w wr/\gT b (16-k) k e=gT b 16 0 d)) (λi _=>16-(intOf i).toNat)
 case atStart=>exact⟨0,d,p,aa,rfl,hd,aa,au.refl _ _,rfl⟩
 case round=>
  obtain⟨k,e,p',hk,rfl,hK⟩:=hrel;obtain⟨q,kp,r,a⟩:=hK.out;have l:=BO (b+min k 5) q aa aa;have hkk:(k:Int)<=15:=aa;clear hK hd;have T:((b:Int)+min (k:Int) 5)=((b+min k 5:Nat):Int):=aa;rw[show((b+min k 5:Nat):Int)=(b:Int)+((min k 5:Nat):Int) by omega] at l
  have f:gT b (16-k) k e=if cU e (b+min k 5)=1 then gT b (16-(k+1)) (k+1) (bO e (b+min k 5)) else(an k,bO e (b+min k 5)):=by rw[show 16-k=(15-k)+1 by omega,gT,show 16-(k+1)=15-k by omega]
  go_wp2;refine l.mono ?_;rintro C w2⟨rfl,⟨D,Ja,s⟩,V⟩;have E:=r.az V λx I=>.inl I;clear V q r l;rw[a] at f;rcases nN e (b+min k 5) with h0|h1
  ·rw[if_neg (by rw[h0];decide)] at f;rw[h0];generalize bO e (b+min k 5)=d1 at f s
   have J:Hid (aQ b d=(an ((tailD b k 1 d1).1-1),(tailD b k 1 d1).2)):=by unfold Hid aQ;rw[f]
   clear f a h0;have F:=af s;have G:=af E;clear s E;go_wp2;go_loopw[5,6] (λi v wr=>∃(j:Nat)(n:Int)(e:ax)(H:Nat),j<=k/\i=U O j/\v=U O n/\Hid (SB wr g h e xs A c cc B H/\H<=D+2*(k-j)/\au [g,h] w wr/\tailD b j n e=tailD b k 1 d1)/\0<=n/\n<2^(k-j+1)) (λi _ _=>(intOf i).toNat)
   case atStart=>exact⟨k,1,d1,D,aa,rfl,rfl,⟨F.out,aa,G.out,rfl⟩,aa,by rw[akF];decide⟩
   case round=>
    obtain⟨j,n,e,H,hj,rfl,rfl,hK,U',o⟩:=hrel;obtain⟨q,k3,r,a⟩:=hK.out;clear hK;by_cases aV:0<j
    ·obtain⟨i,rfl⟩:∃i,j=i+1:=⟨j-1,aa⟩;have l:=BO (b+6) q hb aa;rw[show((b+6:Nat):Int)=(b:Int)+6 by omega] at l;rw[tailD] at a;have K:=vM (k-(i+1)) aa
     have u:(2:Int)^(k-i+1)=2^(k-(i+1)+1)*2:=by rw[show k-i+1=(k-(i+1)+1)+1 by omega];exact Int.pow_succ ..
     have y:=nN e (b+6);have L:0<=2*n+cU e (b+6):=aa;have z:2*n+cU e (b+6)<2^(k-i+1):=by rw[u];omega
     have M:n<=65536:=aa;have W:=af z;clear o K u z;have wn:wrap64 (2*n)=2*n:=ix ⟨aa,aa⟩;have ur:(0:Int)<(i:Int)+1:=aa;have X:(i:Int)<15:=aa;go_wp2;refine l.mono ?_;rintro e3 w5⟨rfl,⟨p5,hp5,N⟩,Z⟩;have x6:=r.az Z λx I=>.inl I;clear Z q r l;generalize cU e (b+6)=P at y a L W;generalize bO e (b+6)=d6 at a N;have H5:=af N;have X6:=af x6;clear N x6;have wn2:wrap64 (2*n+P)=2*n+P:=ix ⟨aa,aa⟩;go_wp2;go_roundw;case rel=>exact⟨i,2*n+P,d6,p5,aa,aF,rfl,⟨H5.out,aa,X6.out,a⟩,aa,W.out⟩
     case measure=>simp[intOf]
    ·have Q:j=0:=by omega
     subst Q;rw[tailD] at a;have R:=congrArg Prod.fst a;have C:=congrArg Prod.snd a;dsimp only at R C;have E1:=af R;have E2:=af C;have K:=vM k aa;have M:n<=65536:=by rw[Nat.sub_zero] at o;omega
     clear o K a R C;go_wp2;go_ret;rw[J.out];exact⟨by rw[<-E1.out];(try rfl),⟨H,aa,by rw[<-E2.out];exact q⟩,r⟩
  ·rw[if_pos h1] at f;rw[h1];generalize bO e (b+min k 5)=d1 at f s;have F:=af s;have G:=af E;clear s E h1;by_cases S:k=15
   ·subst S
    have J:Hid (aQ b d=(ns,d1)):=by unfold Hid aQ;rw[f];rfl
    go_wp2;go_ret;rw[J.out];exact⟨rfl,⟨D,aa,F.out⟩,G.out⟩
   ·have ahk:(k:Int)+1<16:=by omega
    go_wp2;go_roundw;case rel=>exact⟨k+1,d1,D,aa,aF,F.out,aa,G.out,f.symm⟩
    case measure=>exact aT
end
section
open Go.RowKit Go.WideShapes Go.ChangeShapes
def Gv(n:Int)(h0:0<=n)(h1:n<=65534):aiK Gz.prog 90 #[U O n] w λe w'=>e=be (U O (aX n))/\w=w':=Xn w h0 h1
def SB.oy{d:ax}(k:SB w g h d xs A c cc B p):B<=w.heap.size:=by have:=k.ds.le;have:=k.lt;omega
def SB.app{i:Nat}{d:ax}(k:SB w g h d xs A c cc B p)(a:w.grownBy w' v.ownBlock)(o:ay t i w B' v n ys)(h1:g<B')(r:h<B')(s:B<=B'):SB w' g h d xs A c cc B p:=by
 cases f:v.ownBlock with
 |none=>exact k.q (Q.iS (by rw[f] at a;exact a))
 |some j=>have u:=o.below j f;rw[f] at a;exact k.az (au.dD a) (λx l=>by simp at l;omega) aA aA
def te(d:ax)(w:AS)(g h c cc B p:Nat)(xs:List Int)(A:Option ajF)(e:Ending)(w':AS):Prop:=
  (match gP d with
   |an (b,a)=>e=be (ci #[a9 (arr b),a5 AT])∧b.length=16∧∃p',p'≤p+2200∧SB w' g h a xs A c cc B p'
   |ns=>∃b,b.length=16∧e=be (ci #[a9 (arr b),a5 Bz]))∧au [g,h] w w'
def Ng{d:ax}(a:gP d=ns)(b:List Int)(f:b.length=16)(he:e=be (ci #[a9 (arr b),a5 Bz]))(i:au [g,h] w w'):te d w g h c cc B p xs A e w':=by unfold te;rw[a];exact⟨⟨b,f,he⟩,i⟩
def Yh{d a:ax}{p':Nat}(f:gP d=an (b,a))(i:b.length=16)(he:e=be (ci #[a9 (arr b),a5 AT]))(k:au [g,h] w w')(l:p'<=p+2200)(o:SB w' g h a xs A c cc B p'):te d w g h c cc B p xs A e w':=by unfold te;rw[f];exact⟨⟨he,i,p',l,o⟩,k⟩
def xe{p:Prop}(h:p:=by go_wp2_with(first|(go_at_call 14;(with_reducible refine(bZ _ HA).mono ?_);rintro e w'⟨rfl,rfl⟩)|(refine dx (n:=16) rfl _ _ _ rfl _ rfl _ cZ rfl (by assumption) rfl cN ?_;intro i a f k));refine bodyPost_ret (kV (by rfl) (by rfl) a.blk (Gz.gu underlying94) rfl (by rw[bQ];exact cN)) rfl ?_;exact Ng xJ.out cZ rfl rfl (K5.out.grown f (.inr (av _)))):p:=h
def aaM{d:ax}(hd:SB w g h d xs A c cc B p)(hp:p<=700000000):
  aiK Gz.prog 65 #[bi (an ⟨g,0,ns⟩)] w (te d w g h c cc B p xs A):=by
 have hg:=hd.lt;have hh:=hd.ds.aV;have ID:=hd.ds.le;have hN:=tr (w.alloc (ac (arr cZ) 94)) g h c cc B p 16 d xs A (hd.q ((Q.refl w).alloc _)) al aa;have W:=Nb.new 94 16 w cZ rfl;go_enter Gz.gf func65,ntmps65;go_wp2;refine hN.mono ?_;rintro e w1⟨rfl,⟨p1,hp1,h1⟩,X⟩;clear hN;have B0:=af (W.az X aA);have X1:=af ((au.gV [g,h] ((Q.refl w).alloc (ac (arr cZ) 94))).trans X);have pm:w.heap.size<w1.heap.size:=by have:=X.size;simp at this;omega
 clear W X hd;by_cases hm:∃m,(aQ 16 d).1=an m/\m<=16
 ·obtain⟨m,D,z'⟩:=hm;have H:=kj D
  have E:gP d=(match ku m.toNat (aQ 16 d).2 with|some (r,s)=>(gO r).map λb=>(b,s)|none=>ns):=by unfold gP;rw[D];dsimp only;rw[if_neg aa];rfl
  rw[D,ajG];obtain⟨M,rfl⟩:∃M:Nat,m=(M:Int):=⟨m.toNat,aa⟩;rw[Int.toNat_natCast] at E;generalize(aQ 16 d).2=d1 at h1 E;have o:=af E;have HA:Hid (decide ((0:Int)<=(M:Int)/\(M:Int)<=16)=AT):=decide_eq_true aa;have ai3:M<=16:=aa;have o0:=ay.iV 126 2 w1 (w.heap.size+1) aa;have H1:=af (h1.q ((Q.refl w1).alloc (ac #[] 126)));have B1:=af (B0.out.alloc (ac #[] 126));have X2:=af (X1.out.alloc (ac #[] 126));clear E D H h1 z' B0 X1;go_wp2_with((go_at_call 14;(with_reducible refine(bZ _ HA).mono ?_);rintro e w'⟨rfl,rfl⟩));go_loopw[5,6] (λv i wr=>∃(k:Nat)(acc:List (Int×Int))(s:ax)(Z:Nat),k<=M/\i=U O k/\Hid (SB wr g h s xs A c cc B Z/\Z<=p1+128*k/\ay 126 2 wr (w.heap.size+1) v k (fl acc)/\acc.length=k/\Nb 94 16 wr w.heap.size cZ/\au [g,h] w wr/\w.heap.size<wr.heap.size/\ku M d1=(ku (M-k) s).map λq=>(acc++q.1,q.2))) (λ_ i _=>M-(intOf i).toNat)
  case atStart=>exact⟨0,[],d1,p1,aa,rfl,H1.out,aa,o0,rfl,B1.out,X2.out,by simp;omega,by rw[Nat.sub_zero];cases ku M d1<;>rfl⟩
  case round=>
   obtain⟨k,acc,s,Z,hk,rfl,hK⟩:=hrel;obtain⟨k1,kp,I,k3,k4,k5,k6,k8⟩:=hK.out;clear hK H1 o0 B1 X2 pm;by_cases aV:k<M
   ·have J:(k:Int)<(M:Int):=by omega
    obtain⟨m,hm⟩:∃m,M-(k+1)=m:=⟨_,rfl⟩;rw[show M-k=m+1 by omega,ku] at k8;have K:=tr wr g h c cc B Z 23 s xs A k1 al aa;go_wp2;refine K.mono ?_;rintro e w2⟨rfl,⟨p2,Ja,h2⟩,x2⟩;clear K;have L:=tr w2 g h c cc B p2 30 (aQ 23 s).2 xs A h2 al aa;go_wp2;refine L.mono ?_;rintro e w3⟨rfl,⟨p3,hp3,h3⟩,x3⟩;clear L;have u:=x2.trans x3;have q2:=I.az u (λx hx=>by simp at hx;omega);have q4:=k4.az u aA;have F:=k5.trans u;have q6:w.heap.size<w3.heap.size:=by have:=u.size;omega
    have G:=af h3;have N:=af q4;have K5:=af F;clear h2 h3 x2 x3 u k1 I k4 k5 k6;by_cases a:∃z l,(aQ 23 s).1=an z/\(aQ 30 (aQ 23 s).2).1=an l/\l<=8159
    ·obtain⟨z,l,f,C,Y'⟩:=a;have P:=kj f;have R:=kj C;rw[f,C] at k8;dsimp only at k8;rw[if_neg aa] at k8;rw[f,C,ajG,ajG];generalize(aQ 30 (aQ 23 s).2).2=d3 at G k8;have K8:=af k8;have wl:wrap64 (l+1)=l+1:=ix ⟨aa,aa⟩;have HA:Hid (decide ((0:Int)<=l/\l<=8159)=AT):=decide_eq_true aa;obtain⟨mt,hz1⟩:=P;have H':=R.1;clear k8 f C R;go_wp2_with(first|(go_at_call 14;(with_reducible refine(bZ _ HA).mono ?_);rintro e w'⟨rfl,rfl⟩)|(go_at_call 90;refine(Gv _ aa aa).mono ?_;rintro e w4⟨rfl,rfl⟩)|(at_builtin;refine yU rfl rfl (Gz.gu underlying124) Fu rfl al al rfl (q2.alloc _) ⟨_,0,ns⟩ [z,aX (l+1)] 1 rfl rfl aa aA (λj hj=>ji _ [z,aX (l+1)] _ j hj) ?_;intro v' w' O2 G2));go_roundw
     case rel=>
      have qa:=q2.alloc (ac #[U O z,U O (aX (l+1))] 126);have hbr:=G.out.oy;refine⟨k+1,acc++[(z,aX (l+1))],d3,p3,aa,aF,(G.out.q ((Q.refl w3).alloc _)).app G2 qa aa aa aa,aa,by rw[FY];exact O2,by simp;exact k3,(N.out.q ((Q.refl w3).alloc _)).app G2 qa aa,(K5.out.alloc _).app G2 qa aa,?_,?_⟩
      ·have:=G2.size;simp at this;omega
      ·rw[hm,K8.out];cases ku m d3 with|none=>rfl|some q=>simp
     case measure=>exact aT
    ·have y:ku M d1=ns:=by
      rw[k8];cases f:(aQ 23 s).1 with
      |none=>rfl
      |some z=>
       cases C:(aQ 30 (aQ 23 s).2).1 with
       |none=>rfl
       |some l=>
        dsimp only;rw[if_pos]
        ·rfl
        ·exact oP λS=>a ⟨z,l,f,C,aa⟩
     have xJ:Hid (gP d=ns):=by unfold Hid;rw[o.out,y]
     have W:=N.out;clear k8 y;cases f:(aQ 23 s).1 with
     |none=>rw[akR];clear a f;exact xe
     |some z=>
      have P:=(kj f).1;rw[ajG];cases C:(aQ 30 (aQ 23 s).2).1 with
      |none=>rw[akR];have HA:Hid (decide ((0:Int)<= -1/\(-1:Int)<=8159)=Bz):=decide_eq_false aa;clear a f C;exact xe
      |some l=>have HA:Hid (decide ((0:Int)<=l/\l<=8159)=Bz):=decide_eq_false λS=>a ⟨z,l,f,C,S.2⟩;rw[ajG];clear a f C;exact xe
   ·have J:k=M:=by omega
    subst J;rw[akF,ku] at k8;dsimp only[Option.map_some] at k8;rw[List.append_nil] at k8;rw[k8] at o;dsimp only at o;obtain⟨AA,ca,rfl⟩:=I.form;have T:=abU ca I.rd k3 aa (av _);have G:=af k1;have N:=af k4;have K5:=af k5;clear k1 I k4 k5 k8 hk;go_wp2;refine T.mono ?_;rintro e w5⟨rfl,F⟩;clear T;have h5:=G.out.q F;have b5:=N.out.q F;have x5:=K5.out.q F;have H5:=af h5;have X5:=af x5;clear h5 x5 G N K5 F;cases V:gO acc with
    |some b=>have hlen:=zA V;rw[V] at o;rw[ajG];clear V;go_wp2_with((refine dx (n:=16) rfl _ _ _ rfl _ rfl _ _ dw aG dw cN ?_;intro wz bz gz sz));refine ajz (kV aD aD bz.blk (Gz.gu underlying94) rfl vj) rfl ?_;exact Yh o.out hlen rfl (X5.out.grown gz (.inr (av _))) aa (H5.out.az (au.dD gz) (λx hx=>by simp at hx;have:=H5.out.oy;have:=H5.out.ds.le;omega) aA aA)
    |none=>have hlen:cZ.length=16:=rfl;rw[V] at o;rw[akR];clear V;go_wp2_with((refine dx (n:=16) rfl _ _ _ rfl _ rfl _ _ dw aG dw cN ?_;intro wz bz gz sz));refine ajz (kV aD aD bz.blk (Gz.gu underlying94) rfl vj) rfl ?_;exact Ng o.out cZ rfl rfl (X5.out.grown gz (.inr (av _)))
 ·have xJ:Hid (gP d=ns):=by
   unfold Hid gP;cases f:(aQ 16 d).1 with
   |none=>rfl
   |some m=>dsimp only;rw[if_pos];exact oP λS=>hm ⟨m,f,aa⟩
  have W:=B0.out;have K5:=X1;cases f:(aQ 16 d).1 with
  |none=>rw[akR];have HA:Hid (decide ((0:Int)<= -1/\(-1:Int)<=16)=Bz):=decide_eq_false aa;clear hm f;exact xe
  |some m=>rw[ajG];have HA:Hid (decide ((0:Int)<=m/\m<=16)=Bz):=decide_eq_false λS=>hm ⟨m,f,S.2⟩;clear hm f;exact xe
end
section
open Go.RowKit Go.WideShapes Go.ChangeShapes
def jb(ap:Bool)(d:ax):Option (List Int×ax):=
 if ap=Bz/\cU d 0=0 then an (et,bO d 0)
 else(mh ap (iT ap (d,0)).1).map λr=>(r.1++rl 64 0,r.2)
def tf(ap:Bool)(d:ax)(w:AS)(g h c cc B p:Nat)(xs:List Int)(A:Option ajF)(e:Ending)(w':AS):Prop:=
  (match jb ap d with
   |an (m,a)=>e=be (ci #[a9 (arr m),a5 AT])∧m.length=71∧∃p',p'≤p+300∧SB w' g h a xs A c cc B p'
   |ns=>∃m,m.length=71∧e=be (ci #[a9 (arr m),a5 Bz]))∧au [g,h] w w'
def Nh{d:ax}(a:jb ap d=ns)(m:List Int)(hm:m.length=71)(he:e=be (ci #[a9 (arr m),a5 Bz]))(f:au [g,h] w w'):tf ap d w g h c cc B p xs A e w':=by unfold tf;rw[a];exact⟨⟨m,hm,he⟩,f⟩
def Ea{d a:ax}{p':Nat}(f:jb ap d=an (m,a))(hm:m.length=71)(he:e=be (ci #[a9 (arr m),a5 AT]))(i:au [g,h] w w')(k:p'<=p+300)(l:SB w' g h a xs A c cc B p'):tf ap d w g h c cc B p xs A e w':=by unfold tf;rw[f];exact⟨⟨he,hm,p',k,l⟩,i⟩
def ad2{acc:List Int}(n:Nat){k:Nat}(v:Int)(a:acc.length=k):([2,0,0]++acc++rl (n+1) 0).set (3+k) v=[2,0,0]++(acc++[v])++rl n 0:=by subst a;simp[List.set_append,List.replicate_succ,Nat.add_comm 3]
def acf:(Gz.prog.info? 92).map (·.size)=an 2:=aE
def ad3(a f:Int):upd (gU.set 0 1) 1 [a,f]=[1,a,f,0,0,0,0]++rl 64 0:=rfl
def Un{p:Prop}(h:p:=by go_wp2_with(first|(go_at_call 14;(with_reducible refine(bZ _ HA).mono ?_);rintro e w'⟨rfl,rfl⟩)|(refine dx (n:=71) rfl _ _ _ rfl _ rfl _ et rfl (by assumption) (by first|rfl|assumption) fK ?_;intro i a f l));refine bodyPost_ret (kV (by rfl) (by rfl) a.blk (Gz.gu underlying97) rfl (by rw[bQ];exact fK)) rfl ?_;exact Nh Do.out et rfl rfl ((x9.set (p:=⟨w.heap.size+1,3+k,none⟩) (.inr (by simp)) _).grown f (.inr (av _)))):p:=h
def TG{p:Prop}(h:p:=by(have H1:=af h9;have T:=af b9;have V:=af b8;have W:=af x9;have y:=b9.lt;clear h9 b9 b8 x9;obtain⟨J,C⟩:∃z,ld 4 d=z:=⟨_,rfl⟩;have r:=af C;clear C;go_wp2;go_loopw[9] (λi wr=>∃(k:Nat)(t9:ax)(p9:Nat)(acc:List Int),k<=4/\i=.int .i64 k/\acc.length=k/\p9<=p+4+64*k/\Hid (SB wr g h t9 xs A c cc B p9/\Nb 97 71 wr (w.heap.size+1) ([2,0,0]++acc++List.replicate (68-k) 0)/\Nb 97 71 wr w.heap.size et/\au [g,h] w wr/\w.heap.size+1<wr.heap.size/\J=(ld (4-k) t9).map λq=>(acc++q.1,q.2))) λi _=>4-(intOf i).toNat;(case atStart=>exact⟨0,_,_,[],by omega,rfl,rfl,by omega,H1.out,T.out,V.out,W.out,y,by rw[Nat.sub_zero,r.out];cases J<;>rfl⟩);(case round=>obtain⟨k,t,p9,acc,hk,rfl,D,hp9,hK⟩:=hrel;obtain⟨K,E,X,L,k5,k8⟩:=hK.out;clear hK;(try clear H1 T V W y);by_cases aV:k<4;(case pos=>obtain⟨m,hm⟩:∃m,4-(k+1)=m:=⟨_,rfl⟩;obtain⟨q,hq⟩:∃q,68-(k+1)=q:=⟨_,rfl⟩;rw[show 4-k=m+1 by omega,ld] at k8;rw[show 68-k=q+1 by omega] at E;have i6:(k:Int)<4:=(by omega);have Z:=tr wr g h c cc B p9 9 t xs A K (by decide) (by omega);go_wp2;refine Z.mono ?_;rintro e wq⟨rfl,⟨pq,hpq,F⟩,G⟩;clear Z;have I:=E.az G (by simp;omega);have y3:=X.az G (by simp;omega);have y4:=L.trans G;have ysz:=G.size;have fy:=I.free;have HQ:=af F;have Y2:=af I;have Y3:=af y3;have Y4:=af y4;have cy:=I.at (3+k) (by omega);generalize([2,0,0]++acc++List.replicate (q+1) 0)[3+k]?.getD 0=qy at cy;clear K E X L G I y3 y4 F;by_cases a:∃f,(aQ 9 t).1=some f/\f<=4;(case pos=>obtain⟨f,l,M⟩:=a;have N:=(kj l).1;rw[l] at k8;dsimp only at k8;rw[if_neg (by omega)] at k8;rw[l,Option.getD_some];generalize(aQ 9 t).2=tq at HQ k8;have K8:=af k8;have HA:Hid (decide ((0:Int)<=f/\f<=4)=true):=decide_eq_true ⟨N,M⟩;clear l k8;go_wp2_with((go_at_call 14;(with_reducible refine(bZ _ HA).mono ?_);rintro e w'⟨rfl,rfl⟩));go_roundw;(case rel=>exact⟨k+1,tq,pq,acc++[f],by omega,by go_num,by simp[D],by omega,HQ.out.az (lZ _ _ _ _) (λx P=>by simp at P;omega) (by simp;omega) (by simp;omega),by rw[hq,<-ad2 q f D];exact Y2.out.set (3+k) f,Y3.out.aN (by simp) _,Y4.out.set (.inr (by simp)) _,by simp[World.setCell];omega,by rw[hm,K8.out];cases ld m tq with|none=>rfl|some z=>simp⟩);(case measure=>simp[intOf];omega));(case neg=>have H:J=none:=(by rw[k8];cases hz:(aQ 9 t).1 with|none=>rfl|some f=>(dsimp only;rw[if_pos];rfl;exact oP λhn=>a ⟨f,hz,by omega⟩));have Q:=af (HM.out.trans (by unfold na;rw[r.out,H];(try rfl)));have x9:au [g,h] w wq:=Y4.out;have b8:=Y3.out;have Do:=Q;clear H k8;cases hz:(aQ 9 t).1 with|none=>(rw[Option.getD_none];have HA:Hid (decide ((0:Int)<= -1/\(-1:Int)<=4)=false):=decide_eq_false (by omega);have b9:=b8.aN (p:=⟨w.heap.size+1,3+k,none⟩) (by simp) (.int .i64 (-1));clear a hz;exact Un)|some f=>(rw[Option.getD_some];have HA:Hid (decide ((0:Int)<=f/\f<=4)=false):=decide_eq_false λhn=>a ⟨f,hz,hn.2⟩;have b9:=b8.aN (p:=⟨w.heap.size+1,3+k,none⟩) (by simp) (.int .i64 f);clear a hz;exact Un)));(case neg=>have R:k=4:=(by omega);subst R;rw[Nat.sub_self,ld] at k8;dsimp only[Option.map_some] at k8;rw[List.append_nil] at k8;have o:=HM.out;unfold na at o;rw[r.out,k8] at o;have HV:=af o;clear o k8;obtain⟨mf,s⟩:∃z,[2,0,0]++acc++List.replicate (68-4) 0=z:=⟨_,rfl⟩;rw[s] at E;have u:=E.len;have S:Hid (([2,0,0]++acc:List Int)++List.replicate 64 0=mf):=s;clear s;go_wp2_with(first|(refine e8 (n:=71) rfl _ _ rfl _ rfl _ (by assumption) _ (Gz.gu underlying97) rfl fK ?_)|(refine dx (n:=71) rfl _ _ _ rfl _ rfl _ mf rfl (by assumption) u fK ?_;intro wz bz gz sz));refine bodyPost_ret (kV (by rfl) (by rfl) bz.blk (Gz.gu underlying97) rfl (by rw[bQ,u];exact fK)) rfl ?_;exact Ea (HV.out.trans (by rw[<-S.out];rfl)) u rfl (L.grown gz (.inr (av _))) (by omega) (K.az (au.dD gz) (λx P=>by simp at P;omega) (by simp;omega) (by simp;omega)))))):p:=h
def BP{p:Prop}(h:p:=by go_wp2_with(first|(go_at_call 14;(with_reducible refine(bZ _ HA).mono ?_);rintro e w'⟨rfl,rfl⟩)|(go_at_call 14;(with_reducible refine(bZ _ HB).mono ?_);rintro e w'⟨rfl,rfl⟩)|(refine dx (n:=71) rfl _ _ _ rfl _ rfl _ et rfl (by assumption) (by first|rfl|assumption) fK ?_;intro i a f k));refine bodyPost_ret (kV (by rfl) (by rfl) a.blk (Gz.gu underlying97) rfl (by rw[bQ];exact fK)) rfl ?_;exact Nh HVN.out et rfl rfl (x9.grown f (.inr (av _)))):p:=h
def ad4{d:ax}(ap:Bool)(hd:SB w g h d xs A c cc B p)(hp:p<=700000000):
  aiK Gz.prog 64 #[bi (an ⟨g,0,ns⟩),a5 ap] w (tf ap d w g h c cc B p xs A):=by
 have hg:=hd.lt;have hh:=hd.ds.aV;have ID:=hd.ds.le;have b0:=Nb.new 97 71 w et rfl;have b1:=Nb.new 97 71 (w.alloc (ac (arr et) 97)) et rfl;rw[OF] at b1;have E:an w.heap.size≠an (w.heap.size+1):=λe=>by injection e with e;omega
 have u:=b0.alloc (ac (arr et) 97);cases ap with
 |false=>
  go_enter Gz.gf func64,ntmps64;go_wp2_with((refine dx (n:=71) rfl _ _ _ rfl _ rfl _ gU rfl aG r9 fK ?_;intro w9 b9 F s9);have I:Q w w9:=(((Q.refl w).alloc _).alloc _).grown F (λk e=>by have:=aJ e;omega);have h9:=hd.q I;have b8:=u.grown F E;clear b0 b1 u F s9 hd);have L:=BO 0 h9 al aa;refine L.mono ?_;rintro e w2⟨rfl,⟨p2,Ja,W⟩,X⟩;clear L;have M:=b9.az X aA;have b3:=b8.az X aA;have x3:au [g,h] w w2:=(au.gV [g,h] I).trans X;have Cf:w.heap.size+1<w2.heap.size:=M.lt;clear h9 b9 b8 X I;rcases nN d 0 with hb|hb
  ·have HM:Hid (jb Bz d=an (et,bO d 0)):=by unfold Hid jb;rw[if_pos ⟨rfl,hb⟩]
   rw[hb];go_wp2_with((refine dx (n:=71) rfl _ _ _ rfl _ rfl _ et rfl aG r9 fK ?_;intro wz bz N sz));refine ajz (kV aD aD bz.blk (Gz.gu underlying97) rfl CZ) rfl ?_;exact Ea HM.out rfl rfl (x3.grown N (.inr (av _))) aa (W.az (au.dD N) (λx a=>by simp at a;omega) aA aA)
  ·have P:jb Bz d=(mh Bz (bO d 0)).map λr=>(r.1++rl 64 0,r.2):=by unfold jb;rw[if_neg (by rw[hb];intro k;cases k.2)];rfl
   rw[hb];have HM:=af P;generalize bO d 0=d0 at W HM;clear P hb;have D:=M.at 0 al;have J:=M.free 0;go_wp2;have L:=BO 1 W al aa;refine L.mono ?_;rintro e w3⟨rfl,⟨p3,hp3,K⟩,Z⟩;clear L;have G:=M.az Z aA;have b5:=b3.az Z aA;have x5:au [g,h] w w3:=x3.trans Z;have R:w.heap.size+1<w3.heap.size:=G.lt;clear W M b3 x3 Z D J;have l:mh Bz d0=if 1+cU d0 1=1 then qM (bO d0 1) else na (bO d0 1):=rfl
   have D:=G.at 0 al;have J:=G.free 0;generalize gU[0]?.getD 0=q0 at D;rcases nN d0 1 with hb|hb
   ·rw[hb,if_pos al] at l;rw[hb];rw[l] at HM;generalize bO d0 1=d1 at K HM;clear hb l;go_wp2;have H:=K.az (lZ w3 (w.heap.size+1) 0 (U O 1)) (λx a=>by simp at a;omega) aA aA;have n4:=G.set 0 1;have n5:=b5.aN (p:=⟨w.heap.size+1,0,ns⟩) aj (U O 1);have x6:=x5.set (p:=⟨w.heap.size+1,0,ns⟩) (.inr aj) (U O 1);generalize w3.setCell ⟨w.heap.size+1,0,ns⟩ (U O 1)=w4 at H n4 n5 x6⊢;clear K G b5 x5 D J R;have S:=tr w4 g h c cc B p3 2 d1 xs A H al aa;refine S.mono ?_;rintro e w5⟨rfl,⟨p5,hp5,h5⟩,C⟩;have n6:=n4.az C aA;have n7:=n5.az C aA;have x8:=x6.trans C;clear S H n4 n5 x6 C;go_wp2;have S:=tr w5 g h c cc B p5 2 _ xs A h5 al aa;refine S.mono ?_;rintro e w7⟨rfl,⟨p7,hp7,h7⟩,C⟩;have n8:=n6.az C aA;have n9:=n7.az C aA;have x9:=x8.trans C;have hs7:w.heap.size+1<w7.heap.size:=n8.lt;clear S h5 n6 n7 x8 C;by_cases i:∃x y,(aQ 2 d1).1=an x/\(aQ 2 (aQ 2 d1).2).1=an y/\x<=32/\y<=32
    ·obtain⟨x,y,a,o,f,Cr⟩:=i;have Vw:=(kj a).1;have T:=(kj o).1
     have HV:Hid (jb Bz d=an ([1,aX x,aX y,0,0,0,0]++rl 64 0,(aQ 2 (aQ 2 d1).2).2)):=by unfold Hid;rw[HM.out];unfold qM;rw[a,o];dsimp only;rw[if_neg aa];rfl
     rw[a,o,ajG,ajG];generalize(aQ 2 (aQ 2 d1).2).2=d7 at h7 HV;have HA:Hid (decide ((0:Int)<=x/\x<=32)=AT):=decide_eq_true ⟨Vw,f⟩;have HB:Hid (decide ((0:Int)<=y/\y<=32)=AT):=decide_eq_true ⟨T,Cr⟩;clear a o HM;have h7l:=h7;go_wp2_with(first|(go_at_call 14;(with_reducible refine(bZ _ HA).mono ?_);rintro e w'⟨rfl,rfl⟩)|(go_at_call 14;(with_reducible refine(bZ _ HB).mono ?_);rintro e w'⟨rfl,rfl⟩)|(go_at_call 90;(with_reducible refine(Gv x aa aa).mono ?_);rintro e w4⟨rfl,rfl⟩)|(go_at_call 90;(with_reducible refine(Gv y aa aa).mono ?_);rintro e w4⟨rfl,rfl⟩)|(refine ze (n:=71) rfl _ _ _ rfl _ 1 rfl _ [aX x,aX y] rfl aG (by show 3<=71;omega) acf ?_;intro wv bv gv sv;rw[ad3] at bv;have n10:=n9.grown gv E)|(refine e8 (n:=71) rfl _ _ rfl _ rfl _ aG _ (Gz.gu underlying97) rfl fK ?_)|(refine dx (n:=71) rfl _ _ _ rfl _ rfl _ ([1,aX x,aX y,0,0,0,0]++rl 64 0) rfl aG rfl fK ?_;intro wz bz N sz));refine ajz (kV aD aD bz.blk (Gz.gu underlying97) rfl CZ) rfl ?_;exact Ea HV.out rfl rfl ((x9.grown gv (.inr aj)).grown N (.inr (av _))) aa ((h7l.az (au.dD gv) (λx a=>by simp at a;omega) aA aA).az (au.dD N) (λx a=>by simp at a;omega) aA aA)
    ·have HVN:Hid (jb Bz d=ns):=by
      unfold Hid;rw[HM.out];unfold qM;cases a:(aQ 2 d1).1 with
      |none=>rfl
      |some x=>
       cases o:(aQ 2 (aQ 2 d1).2).1 with
       |none=>rfl
       |some y=>
        dsimp only;rw[if_pos]
        ·rfl
        ·exact oP λhn=>i ⟨x,y,a,o,aa,aa⟩
     cases a:(aQ 2 d1).1 with
     |none=>rw[akR];have HA:Hid (decide ((0:Int)<= -1/\(-1:Int)<=32)=Bz):=decide_eq_false aa;have HB:=HA;clear i a;exact BP
     |some x=>
      rw[ajG];by_cases f:0<=x/\x<=32
      ·have HA:Hid (decide ((0:Int)<=x/\x<=32)=AT):=decide_eq_true f;cases o:(aQ 2 (aQ 2 d1).2).1 with
       |none=>rw[akR];have HB:Hid (decide ((0:Int)<= -1/\(-1:Int)<=32)=Bz):=decide_eq_false aa;clear i a o f;exact BP
       |some y=>have T:=(kj o).1;rw[ajG];have HB:Hid (decide ((0:Int)<=y/\y<=32)=Bz):=decide_eq_false λhn=>i ⟨x,y,a,o,f.2,hn.2⟩;clear i a o f;exact BP
      ·have HA:Hid (decide ((0:Int)<=x/\x<=32)=Bz):=decide_eq_false f;have HB:=HA;clear i a f;exact BP
   ·rw[hb,if_neg al] at l;rw[hb];rw[l] at HM;generalize bO d0 1=d1 at K HM;clear hb l;go_wp2;have H:=K.az (lZ w3 (w.heap.size+1) 0 (U O 2)) (λx a=>by simp at a;omega) aA aA;have b9:=G.set 0 2;have b8:=b5.aN (p:=⟨w.heap.size+1,0,ns⟩) aj (U O 2);have x9:=x5.set (p:=⟨w.heap.size+1,0,ns⟩) (.inr aj) (U O 2);generalize w3.setCell ⟨w.heap.size+1,0,ns⟩ (U O 2)=w4 at H b9 b8 x9⊢;clear K G b5 x5 D J R;have V:p3<=p+4:=aa;have s:gU.set 0 2=[2,0,0]++[]++rl 68 0:=rfl;rw[s] at b9;have h9:=H;obtain⟨d,rfl⟩:∃z,z=d1:=⟨_,rfl⟩;clear s H;exact TG
 |true=>
  go_enter Gz.gf func64,ntmps64;go_wp2_with((refine dx (n:=71) rfl _ _ _ rfl _ rfl _ gU rfl aG r9 fK ?_;intro w9 b9 F s9);have I:Q w w9:=(((Q.refl w).alloc _).alloc _).grown F (λk e=>by have:=aJ e;omega);have h9:=hd.q I;have b8:=u.grown F E;clear b0 b1 u F s9 hd;have D:=b9.at 0 al;have J:=b9.free 0;generalize uh:gU[0]?.getD 0=q0 at D;have li:q0=2:=uh.symm;subst li)
  have HM:Hid (jb AT d=(na d).map λr=>(r.1++rl 64 0,r.2)):=by unfold Hid jb;rw[if_neg λk=>by cases k.1];rfl
  have s:gU=[2,0,0]++[]++rl 68 0:=rfl;rw[s] at b9;clear s D J;have x9:=au.gV [g,h] I;have V:p<=p+4:=aa;exact TG
end
section
open Go.RowKit Go.WideShapes Go.ChangeShapes
def jS(j:Nat)(m:List Int)(d:ax):Option (List Int×ax):=if aq m 0=0 then an (m,d) else(mg (4-j) d).map λr=>(sub m 0 (7+16*j)++r.1,r.2)
def ZA{d d1:ax}{h:List Int}(f:mh ap d=an (h,d1)):h.length=7/\aq h 0≠0:=by
 rcases OX ap d with⟨i,r,a,o,_⟩|⟨a,_⟩
 ·rw[f] at a;have q:h=i:=eY;have l:=EM ap (d,0);have k:=(Oh ap (d,0)).1;rw[o] at l k;rw[q];exact⟨l,k⟩
 ·simp_all
def YN{d d0:ax}(a:jb ap d=an (m,d0)):gQ ap d=jS 0 m d0:=by
 unfold jb at a;unfold gQ jS;split at a
 ·rename_i f;rw[if_pos f];injection a with a;injection a with h1 i;rw[<-h1,<-i,if_pos al]
 ·rename_i f;rw[if_neg f];cases hq:mh ap (iT ap (d,0)).1 with
  |none=>rw[hq] at a;cases a
  |some r=>
   obtain⟨h,d1⟩:=r;rw[hq] at a;injection a with a;injection a with h1 i;obtain⟨l,k⟩:=ZA hq;have o:aq m 0=aq h 0:=by rw[<-h1];exact AO (h:=h) (k:=0) (by rw[l];decide)
   have q:sub m 0 (7+16*0)=h:=by rw[<-h1];unfold sub;rw[List.drop_zero,Nat.mul_zero,Nat.add_zero,<-l,List.take_left]
   rw[if_neg (by rw[o];exact k),q,<-i]
def acg{d:ax}(a:jb ap d=ns):gQ ap d=ns:=by
 unfold jb at a;unfold gQ;split at a
 ·cases a
 ·simp_all
def ad5{o:Nat}(h:o+b.length<=m.length)(a:0<o):aq (upd m o b) 0=aq m 0:=by unfold aq;rw[AJ _ _ _ _ h,if_neg aa]
def YO{o:Nat}(h:o+b.length<=m.length):sub (upd m o b) 0 (o+b.length)=sub m 0 o++b:=by rw[Ai _ 0 o b.length (by rw[wj];omega),Nat.zero_add,X9 h,YC h aa (.inl aa)]
def ZB{d a:ax}(i:gP d=an (b,a))(f:aq m 0≠0)(l:j<4)(hm:m.length=71)(k:b.length=16):jS j m d=jS (j+1) (upd m (7+16*j) b) a:=by
 unfold jS;rw[if_neg f,if_neg (by rw[ad5 (by omega) (by omega)];exact f)];rw[show 4-j=(4-(j+1))+1 by omega,mg,i];dsimp only
 have e:sub (upd m (7+16*j) b) 0 (7+16*(j+1))=sub m 0 (7+16*j)++b:=by have:=YO (m:=m) (b:=b) (o:=7+16*j) aa;rw[k,show 7+16*j+16=7+16*(j+1) by omega] at this;exact this
 cases mg (4-(j+1)) a with|none=>rfl|some r=>simp_all
def ZC{d:ax}(a:gP d=ns)(f:aq m 0≠0)(i:j<4):jS j m d=ns:=by unfold jS;rw[if_neg f,show 4-j=(4-(j+1))+1 by omega,mg,a];rfl
def aaN{d:ax}(hm:m.length=71):jS 4 m d=an (m,d):=by
 unfold jS;split
 ·rfl
 ·show an (sub m 0 71++[],d)=_;unfold sub;rw[List.drop_zero,List.take_of_length_le aa,List.append_nil]
def ZD{d:ax}(a:aq m 0=0):jS j m d=an (m,d):=by unfold jS;rw[if_pos a]
def qC(acc:List Int)(r:Option (List Int)):Option (List Int):=r.map (acc++ ·)
def YP(ap:Bool)(k:Nat)(d:ax):jQ ap (k+1) d=match gQ ap d with|some (m,d1)=>qC m (jQ ap k d1)|none=>ns:=aD
def aaL(a b:List Int)(x:Option (List Int)):qC a (qC b x)=qC (a++b) x:=by cases x<;>simp[qC]
def ZE(a:bytes xs):(eG xs).code<=4294967295:=
 zH (d:=cV (cV (cV (fA xs)))) (λx f=>a x (zq (zq (zq f)))) (jM).1
def ay.Bv{s:Nat}{S:List Nat}(h:ay t s w B v n xs)(k:au S w w')(a:∀j,v.ownBlock=an j->j∉S):ay t s w' B v n xs:=
 h.F6 λg l o f hc i=>(k.block g (bE.1 hc).1 (a g i)).trans hc
def SB.ahA{d:ax}{i:Nat}{v':Value}(k:SB w g h d xs A c cc B p)(f:bD v w v' w')(o:ay t i w B' v n ys)(l:∀b,v.ownBlock=an b->b≠g/\b≠h/\B<=b):SB w' g h d xs A c cc B p:=by
 cases a:v.ownBlock with
 |none=>exact k.q (Q.iS (by have:=f.bJ;rw[a] at this;exact this))
 |some j=>obtain⟨h1,s,u⟩:=l j a;have:=f.bJ;rw[a] at this;exact k.az (au.dD this) (λx r=>by simp at r;omega) aA aA
def ZF{d:ax}(l:tf ap d w g h c cc B p xs A e w'):
  ∃f b0,e=be (ci #[a9 (arr f),a5 b0])/\f.length=71/\(b0=AT->∃d0 i,i<=p+300/\gQ ap d=jS 0 f d0/\SB w' g h d0 xs A c cc B i)/\(b0=Bz->gQ ap d=ns)/\au [g,h] w w':=by
 obtain⟨h1,k⟩:=l;cases a:jb ap d with
 |none=>rw[a] at h1;obtain⟨m,hm,he⟩:=h1;exact⟨m,Bz,he,hm,λh=>(by cases h),λ_=>acg a,k⟩
 |some r=>obtain⟨m,d0⟩:=r;rw[a] at h1;obtain⟨he,hm,o,q,s⟩:=h1;exact⟨m,AT,he,hm,λ_=>⟨d0,o,q,YN a,s⟩,λh=>(by cases h),k⟩
theorem aaO{d:ax}(f:te d w g h c cc B p xs A e w'):
  ∃b b0,e=be (ci #[a9 (arr b),a5 b0])/\b.length=16/\(b0=AT->∃d0 a,a<=p+2200/\gP d=an (b,d0)/\SB w' g h d0 xs A c cc B a)/\(b0=Bz->gP d=ns)/\au [g,h] w w':=by
 obtain⟨h1,i⟩:=f;cases k:gP d with|none=>grind|some r=>grind
def Rs(R:Option (List Int))(n:Nat)(w:AS)(e:Ending)(w':AS):Prop:=
  (match R with
   |an L=>∃v,e=be (ci #[v,a5 AT])∧ay 97 71 w' w.heap.size v n L
   |ns=>∃A n c,e=be (ci #[Y A n c,a5 Bz]))∧Q w w'
def D9{m:Nat}(he:e=be (ci #[Y A m c,a5 Bz]))(q:Q w w'):Rs ns n w e w':=⟨⟨A,m,c,he⟩,q⟩
def ZG{a:List Int}(f:a.length=n*2)(l:iq a=AT):bytes (mA a):=by
 have h:=sV n a f l
 have i:∀k,k<=n->∃e,RE a k e:=by
  intro k
  induction k with
  |zero=>exactλ_=>⟨_,RE.zero a⟩
  |succ k o=>intro u;obtain⟨e,he⟩:=o aa;obtain⟨q,r,_⟩:=h k aa;exact⟨_,he.succ f aa q r⟩
 obtain⟨e,he⟩:=i n (av _);have s:=he.full f;have:=(AU 4 he.ok).out;rw[s] at this;exact this
def Ol(a:xs.length=n*71)(h1:1<=n)(i:n<=4)(h:eI ap xs n=an ys):bytes ys:=by
 rw[Fy a h1 i] at h;split at h
 ·rename_i l;injection h with h;obtain⟨f,q⟩:=wF a l n (av _);obtain⟨k,o⟩:=f.even;rw[<-h];exact ZG o f.ok
 ·cases h
def Rt(h:bytes xs):xs.map kN=xs:=by
 induction xs with
 |nil=>rfl
 |cons x r a=>have:=h x (nB ..);rw[List.map_cons,a λy f=>h y (List.mem_cons_of_mem _ f)];congr 1;unfold kN;omega
def Ni(A:Option ajF)(c B:Nat)(many:Int)(ap:Bool)(w:AS)(F:bB w B A xs)(hn:xs.length=n)(hc:n<=c/\c<=maxLen)(hB:B<=w.heap.size)(hb:bytes xs):
  aiK Gz.prog 43 #[Y A n c,U O many,a5 ap] w (Rs (jv xs many ap) many.toNat w):=by
 have Z:Q w (w.alloc (ac #[] 97)):=(Q.refl _).alloc _;have o0:=ay.iV 97 71 w w.heap.size (av _);obtain⟨R,C⟩:∃z,jv xs many ap=z:=⟨_,rfl⟩;rw[C];unfold jv at C;by_cases hm:1<=many/\many<=4
 ·rw[if_pos hm] at C;obtain⟨N,rfl⟩:∃N:Nat,many=(N:Int):=⟨many.toNat,aa⟩;rw[Int.toNat_natCast] at C⊢;obtain⟨m1,m4⟩:=hm;have G:=af C;have Vx:=af (afi (F.q Z hB) hn hc (aI hB Z.size) hb);have HX:=af F;have H:=af hn;clear C F hn;go_enter Gz.gf func43,ntmps43;go_wp2;refine(lV _ m1 m4).mono ?_;rintro e w'⟨rfl,rfl⟩;go_wp2;refine Vx.out.mono ?_;rintro e w1⟨g,h,cc,rfl,hg,hh,d1,q1⟩;have pm:=q1.size;rw[OF] at hg hh pm;have S1:=af (⟨d1,Fp xs,ZE hb⟩:SB w1 g h (eG xs) xs A c cc B 4);have uv:=d1.lt;have hhl:=d1.aV;have O1:=af ((o0.q q1).mono (av _));have Q1:=af (Z.trans q1);clear d1 q1 Z o0 Vx hhl;go_wp2;have Vy:∀j,(Value.slice (an ⟨w.heap.size,0,ns⟩) 0 0).ownBlock=an j->j≠g/\j≠h:=λj s=>by have:w.heap.size=j:=aJ s;omega
  go_loopw[8,10] (λu i wr=>∃(k:Nat)(d:ax)(acc:List Int)(p:Nat),k<=N/\i=U O k/\p<=4+10000*k/\Hid (SB wr g h d xs A c cc B p/\ay 97 71 wr w.heap.size u k acc/\Q w wr/\(∀j,u.ownBlock=an j->j≠g/\j≠h)/\qC acc (jQ ap (N-k) d)=jQ ap N (eG xs))) (λ_ i _=>N-(intOf i).toNat)
  case atStart=>exact⟨0,eG xs,[],4,aa,rfl,aa,S1.out,O1.out,Q1.out,Vy,by rw[Nat.sub_zero];cases jQ ap N (eG xs)<;>rfl⟩
  case round=>
   obtain⟨k,d,acc,p,hk,rfl,hp,hK⟩:=hrel;obtain⟨D,V,W,k4,X⟩:=hK.out;clear hK S1 O1 Q1 Vy;have K4:=af k4;by_cases aV:k<N
   ·have i6:(k:Int)<(N:Int):=by omega
    obtain⟨r,hr⟩:∃r,N-(k+1)=r:=⟨_,rfl⟩;rw[show N-k=r+1 by omega,YP] at X;have hH:=ad4 ap D aa;have I:=af V;have K3:=af W;have K5:=af X;have hbs:=D.oy;have rj:=D.lt;have IT:=D.ds.aV.2;have rA:=D.ds.le;have U9:=D.ds.aV.1;clear D V W k4 X;go_wp2;refine hH.mono ?_;intro e w5 hP;obtain⟨m0,b0,rfl,t8,hT,hF,x5⟩:=ZF hP;clear hH hP;have Ce:=x5.size;have z2:=I.out.Bv x5 (λj s=>by have:=K4.out j s;simp;omega);have z3:=x5.toQ K3.out (λj s=>by simp at s;omega);have HT:=af hT;have HF:=af hF;clear hT hF x5 I K3;go_wp2_with((refine dx (n:=71) rfl _ _ _ rfl _ rfl _ _ aD (Nb.new 97 71 _ et rfl) t8 gN ?_;intro w6 bm gm sm;rw[OF] at sm));have q6:Q w5 w6:=((Q.refl _).alloc _).grown gm (λj e=>by have:=aJ e;omega);obtain⟨mB,Vz⟩:∃z,w5.heap.size=z:=⟨_,rfl⟩;rw[Vz] at bm sm Ce;(try rw[Vz])
    have BM:=af bm;have Z2:=af (z2.q q6);have Z3:=af (z3.trans q6);have Fk:Hid (∀j,u8.ownBlock=an j->j≠mB):=λj s=>by have:=z2.Bu j s;omega
    have VA:Hid (b0=AT->∃d0 E,E<=p+300/\gQ ap d=jS 0 m0 d0/\SB w6 g h d0 xs A c cc B E):=λh=>by obtain⟨d0,E,h1,h2,h3⟩:=HT.out h;exact⟨d0,E,h1,h2,h3.q q6⟩
    clear z2 z3 q6 gm bm HT;go_loopw[12,13] (λo i wi=>∃(j:Nat)(J:Bool),j<=4/\i=U O j/\o=a5 J/\Hid ((J=AT->∃dj mj pj,pj<=p+300+2200*j/\mj.length=71/\SB wi g h dj xs A c cc B pj/\Nb 97 71 wi mB mj/\gQ ap d=jS j mj dj)/\(J=Bz->gQ ap d=ns)/\ay 97 71 wi w.heap.size u8 k acc/\Q w wi/\mB<wi.heap.size)) (λo i _=>4-(intOf i).toNat)
    case atStart=>exact⟨0,b0,aa,rfl,rfl,λh=>(by
     obtain⟨d0,E,h1,h2,h3⟩:=VA.out h;exact⟨d0,m0,E,aa,t8,h3,BM.out,h2⟩),HF.out,Z2.out,Z3.out,BM.out.lt⟩
    case round=>
     obtain⟨j,J,s,rfl,rfl,hK⟩:=hrel;obtain⟨y0,yF,y3,y4,y5⟩:=hK.out;clear hK VA HF Z2 Z3 BM;cases J with
     |false=>
      have z9:=yF rfl
      have hRn:Hid (R=ns):=by have h5:=K5.out;rw[z9] at h5;have h6:=G.out;rw[<-h5] at h6;exact h6.symm
      have Y4:=af y4;clear y0 yF z9 K5;by_cases K:j<4
      ·have L:(j:Int)<4:=by omega
       exact KW
      ·have L:¬(j:Int)<4:=by omega
       exact KW
     |true=>
      obtain⟨dj,mj,pj,hpj,tW,y1,y2,gt⟩:=y0 rfl;have cK:=y2.at 0 aa;rw[sub_one] at cK;clear y0 yF;by_cases K:j<4
      ·have L:(j:Int)<4:=by omega
       by_cases f:aq mj 0=0
       ·rw[f] at cK;have z9:gQ ap d=an (mj,dj):=by rw[gt,ZD f]
        exact KX
       ·obtain⟨kd,M⟩:∃z,aq mj 0=z:=⟨_,rfl⟩;rw[M] at cK f;have hkb:(kd !=0)=AT:=by simp[f]
        have hL:=aaM y1 aa;have xA:=af M;have hbs:=y1.oy;have rj:=y1.lt;have IT:=y1.ds.aV.2;have rA:=y1.ds.le;have U9:=y1.ds.aV.1;clear y1 M;go_wp2;refine hL.mono ?_;intro e w8 hP;obtain⟨bb0,J,rfl,y,hT,hF,x8⟩:=aaO hP;clear hL hP;have hs8:=x8.size;have z3:=y3.Bv x8 (λj s=>by have:=K4.out j s;simp;omega);have z4:=x8.toQ y4 (λj s=>by simp at s;omega);have hmg:mB≠g/\mB≠h:=aa;have bm6:=y2.az x8 aA;have HT:=af hT;have HF:=af hF;have VB:=af gt;clear hT hF x8 y2 y3 y4 gt cK;go_wp2_with(first|((refine dx (n:=16) rfl _ _ _ rfl _ rfl _ _ aD (Nb.new 94 16 _ cZ rfl) y cN ?_;intro w7 bb gb sb;rw[OF] at sb;have bm8:=(bm6.alloc (ac (arr cZ) 94)).grown gb aA))|((with_reducible refine e8 (n:=16) rfl _ _ rfl _ rfl _ bb _ (Gz.gu underlying94) rfl cN ?_))|((refine ze (n:=71) rfl _ _ _ rfl _ (7+j*16) rfl _ _ aD bm8 (by rw[y];omega) (by rw[y];exact cN) ?_;intro w9 bp gp sp)));have q7:Q w8 w7:=((Q.refl _).alloc _).grown gb (λj e=>by have:=aJ e;omega);have hs7:=q7.size;go_roundw
        case rel=>
         refine⟨j+1,J,aa,aF,rfl,λh=>?_,λh=>?_,(z3.q q7).other gp (.inr λe=>Fk.out _ e rfl),(z4.trans q7).grown gp (λx e=>by have:=aJ e;omega),aa⟩
         ·obtain⟨d0,E,e1,e2,e3⟩:=HT.out h;refine⟨d0,_,E,aa,by rw[wj];exact tW,(e3.q q7).az (au.dD gp) (λx F=>by simp at F;omega) aA aA,bp,?_⟩;rw[VB.out,ZB e2 (by rw[xA.out];exact f) K tW y,Nat.mul_comm 16 j]
         ·rw[VB.out,ZC (HF.out h) (by rw[xA.out];exact f) K]
        case measure=>exact aT
      ·have ahB:j=4:=by omega
       have L:¬(j:Int)<4:=aa;have z9:gQ ap d=an (mj,dj):=by rw[gt,ahB,aaN tW]
       exact KX
   ·have hkN:k=N:=by omega
    subst hkN;rw[akF,jQ] at X;have hS:jQ ap k (eG xs)=an acc:=by rw[<-X];simp[qC]
    have l:=G.out;rw[hS] at l;dsimp only at l;obtain⟨P,co,rfl⟩:=V.gC aa;have hE:=af λw'(h:ay 97 71 w' w.heap.size (Y (an ⟨P,0,ns⟩) k co) k acc)=>Yb ap k P co w.heap.size acc w' h aa aa;have Va:=V.1
    have S:bytes ((eI ap acc k).getD []):=by cases hq:eI ap acc k with|none=>intro x F;cases F|some ys=>exact Ol Va aa aa hq
    rw[Rt hb] at l;obtain⟨ys,ry⟩:∃z,(eI ap acc k).getD []=z:=⟨_,rfl⟩;rw[ry] at l S hE;have HYS:=af S;have VC:=af l;have I:=af V;have K3:=af W;have X3:=af (HX.out.q W hB);have G':¬(k:Int)<(k:Int):=aa;have cM:=W.size;clear D V W k4 X K4 hS l S ry aV G;have cD:=oY (c:=c) (X3.out.q (Q.refl wr).drew aa) H.out;have VD:=Pc ys xs;by_cases he:strOfNums ys=strOfNums xs
    ·rw[decide_eq_true he] at VD;have T:Hid (R=an acc):=by rw[Hid,<-VC.out,if_pos (Pb HYS.out hb he)]
     clear he;go_wp2
     go_region_with (go_at_call 66;refine(hE.out _ (I.out.q yI)).mono ?_;rintro e w9⟨v9,rfl,o9,q9⟩;obtain⟨A9,c9,rfl⟩:=o9.form;have a:Q wr w9:=Q.trans yI q9;have cE:=oY (c:=c9) o9.rd rfl;have cD9:=oY (c:=c) (X3.out.q a aa) H.out;have k9:=K3.out.trans a;have K9:=af (I.out.q a))
     all_goals
      go_wp2;refine ajz (v:=ci #[Y (an ⟨P,0,ns⟩) k co,a5 AT]) yH rfl ?_;rw[T.out];exact⟨⟨_,rfl,K9.out⟩,k9⟩
    ·rw[decide_eq_false he] at VD;have T:Hid (R=ns):=by rw[Hid,<-VC.out,if_neg λh=>he (by rw[h])]
     clear he;go_wp2
     go_region_with (go_at_call 66;refine(hE.out _ (I.out.q yI)).mono ?_;rintro e w9⟨v9,rfl,o9,q9⟩;obtain⟨A9,c9,rfl⟩:=o9.form;have a:Q wr w9:=Q.trans yI q9;have cE:=oY (c:=c9) o9.rd rfl;have cD9:=oY (c:=c) (X3.out.q a aa) H.out;have k9:=K3.out.trans a;have K9:=af (I.out.q a))
     all_goals
      go_wp2;refine ajz (v:=ci #[Y (an ⟨w9.heap.size,0,ns⟩) 0 0,a5 Bz]) yH rfl ?_;rw[T.out];exact D9 rfl (k9.alloc _)
 ·rw[if_neg hm] at C;subst C;have hmf:Hid (decide (1<=many/\many<=4)=Bz):=decide_eq_false hm;clear hm;go_enter Gz.gf func43,ntmps43;go_wp2;refine(bZ _ hmf).mono ?_;rintro e w'⟨rfl,rfl⟩;go_wp2;refine ajz (v:=ci #[Y (an ⟨w.heap.size,0,ns⟩) 0 0,a5 Bz]) yH rfl ?_;exact D9 rfl Z
end
end Go.Proofs.Q0
