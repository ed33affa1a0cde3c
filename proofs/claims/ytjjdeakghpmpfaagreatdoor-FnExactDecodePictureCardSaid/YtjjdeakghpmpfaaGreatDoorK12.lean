import Derived.Test.YtjjdeakghpmpfaaGreatDoorK11
import Derived.Laws.BytesArg
import Derived.Shelf.Bytes.SlSmallAll
set_option maxRecDepth 100000
set_option maxHeartbeats 8000000
set_option linter.all false
open Go.Value renaming int->U,slice->Y,bool->a9,agg->a5,pointer->ci,tuple->dl,iface->em
open Go.IntKind renaming i64->O
open Go.Obj renaming cells->ac
open Go.Ending renaming returned->be
open Go renaming Addr->aiI,Calls->UL,World->ns,bodyPost_ret->aiA
open Go.World renaming size_alloc->BE
open List renaming mem_cons_of_mem->akK,replicate->an
open Nat renaming sub_self->ajN
open Option renaming getD_none->ajY,getD_some->aiL
namespace Go.Proofs
def xI{p:Prop}(h:p:=by have:=Option.some.inj e;omega):p:=h
def LW{p:Prop}(h:p:=by(go_wp2_with((with_reducible refine eQ (n:=71) rfl _ _ rfl _ rfl _ bl _ (Gz.gu underlying85) rfl fY ?_));go_ret;refine⟨_,rfl,?_,λ_=>rfl,q9.trans q5⟩;rw[PN (QK aT HB.out)];exact aK.nil _ _)):p:=h
def Mm{p:Prop}(h:p:=by(obtain⟨A1,c1,rfl⟩:=K1.out.form;have y1:=K1.out.q (q9w.trans q5);have HM:=af (X8 y1 (by have:=q5.size;omega) (zV ul BA.out) US aa);go_wp2_with((with_reducible refine eQ (n:=71) rfl _ _ rfl _ rfl _ bl _ (Gz.gu underlying85) rfl fY ?_));refine HM.out.mono ?_;rintro e w6⟨v6,m6,rfl,hm6,o6,g6⟩;have kz:Q w w6:=bC.toQ g6 (q9.trans q5) (λg hg=>by have:=y1.below g hg;omega);obtain⟨A6,c6,rfl⟩:=o6.form;go_wp2;go_roundw;(case rel=>exact⟨k+1,cnt+m6,aa,aH,aa,by rw[uP];exact o6,kz,by rw[Eh,K3.out,HB.out];rfl⟩);(case measure=>simp[intOf];omega))):p:=h
abbrev yC:=@List.mem_of_mem_tail
def xJ{p:Prop}(h:p:=by simp[results,Tryz.results32,go_sem]):p:=h
def LX{p:Prop}(h:p:=by go_wp2;refine bodyPost_ret (v:=dl #[Y (some ⟨wr.heap.size,0,none⟩) 0 0,a9 false]) xJ rfl ?_;rw[hRn.out];exact Dy rfl (Y4.out.alloc _)):p:=h
def Kn{p:Prop}(h:p:=by
  have wN:=K5.out;rw[z5] at wN;dsimp only at wN;rw[Z5] at wN;have K6:=af wN;have Y1:=af y1;have Y4:=af y4;have hsi:=y4.size;have agL:(arr mj).size=71:=by rw[bO,tr]
  clear wN K5 y1 y4 z5 E';go_wp2_with(first|((with_reducible refine eQ (n:=71) rfl _ _ rfl _ rfl _ y2 _ (Gz.gu underlying85) rfl fY ?_))|(refine Cx rfl rfl (Gz.gu underlying53) (arr mj) rfl (by rw[agL];exact fg) ai aa aa ?_)|(at_builtin;go_loud (refine fN rfl rfl (Gz.gu underlying53) DK ai aq aq rfl (y3.alloc _) ⟨_,0,none⟩ mj 1 rfl ?_ ?_ ?_ ?_ ?_;omega;omega;(simp only[World.size_alloc];omega);(exactλj hj=>iJ _ mj _ j hj);intro v' w' O2 G2)));go_roundw
  case rel=>
   have qa:Q wr (wr.alloc (ac (arr mj) 85)):=(Q.refl _).alloc _;refine⟨k+1,dj,acc++mj,pj,aa,aH,aa,(Y1.out.q qa).agM G2 (y3.q qa) ?_,O2,bC.toQ G2 (Y4.out.trans qa) λb hb=>(y3.q qa).below b hb,λj hj=>?_,by rw[hr];exact K6.out⟩
   ·intro b e;have:=K4.out b e;have:=y3.below b e;omega
   ·rcases G2.own with e|⟨i,e,hi⟩
    ·exact K4.out j (e.symm.trans hj)
    ·rw[hj] at e;injection e with e;simp only[World.size_alloc] at hi;omega
  case measure=>simp[intOf];omega):p:=h
def xK{p:Prop}(h:p:=by exact(by repeat(first|exact Q.refl _|assumption|refine Q.drewN ?_ _|refine Q.drew ?_|refine Q.alloc ?_ _|refine Q.trans ?_ (by assumption)|refine Q.set ?_ (by first|exact Nat.le_refl _|omega|(simp;done)|(simp;omega)) _))):p:=h
end Go.Proofs
namespace Go.Proofs.Q0
open Go.Proofs.Tryz
variable{w w':ns}{xs ys b m:List Int}{n g c B B' h cc p j:Nat}{A:Option aiI}{v:Value}{t:TypeId}{e:Ending}{ap:Bool}
section
open Go.RowKit Go.WideShapes Go.ChangeShapes
def Xw(ap:Bool)(h:az 85 71 w B (Y (some ⟨g,0,none⟩) n c) n xs)(h1:1<=n)(Z:n<=4):
  UL Gz.prog 105 #[Y (some ⟨g,0,none⟩) n c,a9 ap] w λe w'=>∃v',e=be v'/\aK w' w.heap.size v' ((ew ap xs n).getD []).length ((ew ap xs n).getD [])/\(ew ap xs n=none->v'=Y none 0 0)/\Q w w':=by
 have H:=af h;have x:=h.1;have y:((n:Int)<1)=False:=aA;have L:decide ((n:Int)<1)=false:=decide_eq_false aa;have qK:decide ((4:Int)<(n:Int))=false:=decide_eq_false aa;have M:=az.nil 154 2 w w.heap.size;clear h y;go_enter Gz.gf func105,ntmps105;go_wp2;have N:=af M;clear M;go_loopw[5,18] (λu i wr=>∃k cnt:Nat,k<=n/\i=U O k/\cnt<=5000*k/\Hid (az 154 2 wr w.heap.size u cnt (ju ap xs k)/\Q w wr/\fR ap xs k=true)) (λ_ i _=>n-(intOf i).toNat)
 case atStart=>exact⟨0,0,aa,rfl,aa,N.out,Q.refl _,rfl⟩
 case round=>
  obtain⟨k,cnt,hk,rfl,P,hK⟩:=hrel;obtain⟨R,s,S⟩:=hK.out;clear hK N;have T:=H.out.q s;have C:=s.size;have K1:=af R;have V:=af s;have K3:=af S;clear R s S;by_cases aT:k<n
  ·have ka:(k:Int)<n:=by omega
   have ul:=Q0.u4 x aT;have D:=af λw=>X7 w ul;obtain⟨E,o⟩:∃z,al (aO xs k) 0=z:=⟨_,rfl⟩;have a:=af o;obtain⟨bv,l⟩:∃z,df (aO xs k)=z:=⟨_,rfl⟩;rw[l] at D;have BA:=af l;clear o l;go_wp2_with(first|((with_reducible refine rC (ty:=85) _ (k*71) ?_ ?_ _ T 71 ?_ _ (Gz.gu underlying85) ?_ fY ?_);exact rfl;exact rfl;omega;exact rfl;rw[pF])|((refine di (n:=71) rfl _ _ _ rfl _ rfl _ _ aD (Nb.new 85 71 _ dZ rfl) ul fY ?_;intro F bl G s9;rw[BE] at s9;have q9:Q w F:=(V.out.alloc _).grown G λj e=>xI;have c0:=bl.at 0 aa;rw[sub_one,a.out] at c0;have UT:wr.heap.size+1<=F.heap.size:=aa))|((with_reducible refine eQ (n:=71) rfl _ _ rfl _ rfl _ bl _ (Gz.gu underlying85) rfl fY ?_)));refine(D.out _).mono ?_;rintro e w5⟨rfl,q5⟩;have q9w:Q wr F:=((Q.refl wr).alloc _).grown G (λj e=>by have:=aL e;omega);replace bl:=bl.q q5;replace c0:=bl.at 0 aa;rw[sub_one,a.out] at c0;clear D G;cases bv with
   |false=>have HB:Hid (dN ap (aO xs k)=false):=SV BA.out;exact LW
   |true=>
    cases ap with
    |false=>
     have HB:Hid (dN false (aO xs k)=true):=RK BA.out;have US:false=true->al (aO xs k) 0=2:=λh=>by cases h
     exact Mm
    |true=>
     by_cases f:E=2
     ·have HB:Hid (dN true (aO xs k)=true):=RL BA.out (a.out.trans f);have US:true=true->al (aO xs k) 0=2:=λ_=>a.out.trans f;have hkb:(E !=2)=false:=by simp[f]
      exact Mm
     ·have HB:Hid (dN true (aO xs k)=false):=SW (by rw[a.out];exact f);have W:(E !=2)=true:=by simp[f]
      exact LW
  ·have I:k=n:=by omega
   rw[I] at K1 K3;have hlen:=K1.out.1;obtain⟨r1,r2⟩:=vl x K3.out n (au _);have J:=ET (ap:=ap) x h1 Z;rw[if_pos K3.out] at J;have r:=af J
   have K:0<cnt:=by exact LS
   obtain⟨gz,cz,rfl⟩:=K1.out.fS K;have HE:=X9 K1.out r1.ok aa;clear J aT T;go_wp2;refine HE.mono ?_;rintro e w5⟨v5,rfl,X,q5⟩;obtain⟨A5,c5,rfl⟩:=X.form;go_wp2;go_ret;refine⟨_,rfl,?_,λh=>?_,V.out.trans q5⟩
   ·rw[r.out];exact X.mono C
   ·rw[r.out] at h;cases h
end
section
open Go.RowKit Go.WideShapes Go.ChangeShapes
def nZ(h:bB w B A xs)(a:xs.length=n):(convert 52 9 (Y A n c)).run Gz.prog w=.ok (.string (strOfNums xs)) w:=by
 subst a;cases xs with
 |nil=>rw[List.length_nil,run_convert_bytes_zero w 52 5 (Gz.gu underlying52) (Gz.gu underlying5) A c 9 (Gz.gu underlying9)];rfl
 |cons x r=>
  obtain⟨b,o,rfl,_,hc⟩:=h aj
  exact run_convert_bytes_arg w 52 5 (Gz.gu underlying52) (Gz.gu underlying5) b o _ c _ rfl (λi hi=>by rw[hc i hi];simp[List.getD]) _ (Gz.gu underlying9)
def str_inj:∀{xs ys:List Int},bytes xs->bytes ys->(xs.map λn=>UInt8.ofNat n.toNat)=(ys.map λn=>UInt8.ofNat n.toNat)->xs=ys
 |[],[],_,_,_=>rfl
 |[],y::ys,_,_,e=>by simp at e
 |x::xs,[],_,_,e=>by simp at e
 |x::xs,y::ys,f,i,e=>by rw[List.map_cons,List.map_cons,List.cons.injEq] at e;obtain⟨k,l⟩:=e;have h1:=f x (mI ..);have o:=i y (mI ..);have:=congrArg UInt8.toNat k;simp only[UInt8.toNat_ofNat'] at this;rw[Nat.mod_eq_of_lt aa,Nat.mod_eq_of_lt aa] at this;rw[show x=y by omega,str_inj (λz a=>f z (akK _ a)) (λz a=>i z (akK _ a)) l]
def OG(a:bytes xs)(f:bytes ys)(e:strOfNums xs=strOfNums ys):xs=ys:=
 str_inj a f (by have:=congrArg (λs:ByteArray=>s.data.toList) e;simpa[strOfNums] using this)
def OH(xs ys:List Int):((strOfNums xs).toList==(strOfNums ys).toList)=decide (strOfNums xs=strOfNums ys):=by
 rw[Bool.eq_iff_iff,beq_iff_eq,decide_eq_true_eq]
 exact⟨λh=>by simp only[ByteArray.toList_eq] at h;exact ByteArray.ext (Array.toList_inj.1 h),λh=>by rw[h]⟩
def YR{f:Option aiI}(n:Nat){i:Nat}(c k:Nat)(l:bB w B A xs)(o:xs.length=n)(q:bB w B' f ys)(a:ys.length=i):
  UL Gz.prog 106 #[Y A n c,Y f i k] w λe w'=>e=be (a9 (decide (strOfNums xs=strOfNums ys)))/\Q w w':=by
 have u:=nZ (c:=c) l o;have x:=nZ (c:=k) q a;have r:=OH xs ys;have s:=af r;go_enter Gz.gf func106,ntmps106;go_wp2;go_ret;exact⟨by rw[<-s.out];rfl,Q.refl _⟩
end
section
open Go.RowKit Go.WideShapes Go.ChangeShapes
def abE{d:ay}{k:Nat}(ok:bQ d)(f:k<40)(q:bytes d.rest)(hc:d.code<=4294967295):(bJ d k).code<=4294967295:=by
 have hm:=ok.mA k f
 have h1:(dM d k).code<=4294967295/\(dM d k).rest=d.rest:=by
  obtain⟨i,l⟩:=ok.ch k f;have:=(kX ok.lo ok.hi i l).1;unfold dM;split
  ·simp_all
  ·refine⟨?_,rfl⟩;show d.code-dS d k<=_;unfold dS;omega
 have a:bytes (dM d k).rest:=eg;have f1:(feed (dM d k)).code<=4294967295:=yX a hm.c0;have f2:(feed (feed (dM d k))).code<=4294967295:=yX (d:=feed (dM d k)) (λx o=>a x (yC o)) (jg).1;unfold bJ ji;split
 ·grind
 ·omega
structure SB(w:ns)(g h:Nat)(d:ay)(xs:List Int)(A:Option aiI)(c cc B p:Nat):Prop where
 ds:DS w g h d xs A c cc B p
 ok:bQ d
 code:d.code<=4294967295
section
variable{w w':ns}{g h c cc B p:Nat}{d:ay}{xs:List Int}{A:Option aiI}
def SB.q(k:SB w g h d xs A c cc B p)(hq:Q w w'):SB w' g h d xs A c cc B p:=⟨k.ds.q hq,k.ok,k.code⟩
def SB.aw{S:List Nat}(k:SB w g h d xs A c cc B p)(e:av S w w')(a:∀x,x∈S->B<=x)(f:g∉S)(i:h∉S):SB w' g h d xs A c cc B p:=⟨k.ds.aw e a f i,k.ok,k.code⟩
def SB.lt(k:SB w g h d xs A c cc B p):g<w.heap.size:=k.ds.lt
end
def AL(k:Nat){d:ay}(hd:SB w g h d xs A c cc B p)(a:k<40)(f:p<=900000000):
  UL Gz.prog 77 #[ci (some ⟨g,0,none⟩),U O (k:Int)] w λe w'=>e=be (U O (cP d k))/\(∃p',p'<=p+2/\SB w' g h (bJ d k) xs A c cc B p')/\av [g,h] w w':=
 (get w g h c cc B p k d xs A hd.ds hd.ok hd.code a f).mono λ_ _⟨h1,⟨p',i,l⟩,o⟩=>⟨h1,⟨p',i,l,hd.ok.jx k a,abE hd.ok a hd.ds.bytes hd.code⟩,o⟩
def sE(w:ns)(g h c cc B p b:Nat)(d:ay)(xs:List Int)(A:Option aiI)(hd:SB w g h d xs A c cc B p)(hb:b+6<40)(hp:p<=800000000):
  UL Gz.prog 78 #[ci (some ⟨g,0,none⟩),U O (b:Int)] w λe w'=>e=be (U O ((aQ b d).1.getD (-1)))/\(∃p',p'<=p+64/\SB w' g h (aQ b d).2 xs A c cc B p')/\av [g,h] w w':=by
 go_enter Gz.gf func78,ntmps78;go_wp2;go_loopw[5] (λi wr=>∃(k:Nat)(e:ay)(p':Nat),k<=15/\i=U O k/\Hid (SB wr g h e xs A c cc B p'/\p'<=p+2*k/\av [g,h] w wr/\gr b (16-k) k e=gr b 16 0 d)) (λi _=>16-(intOf i).toNat)
 case atStart=>exact⟨0,d,p,aa,rfl,hd,aa,av.refl _ _,rfl⟩
 case round=>
  obtain⟨k,e,p',hk,rfl,hK⟩:=hrel;obtain⟨q,kp,r,a⟩:=hK.out;have l:=AL (b+min k 5) q aa aa;have hkk:(k:Int)<=15:=aa;clear hK hd;have T:((b:Int)+min (k:Int) 5)=((b+min k 5:Nat):Int):=aa;rw[show((b+min k 5:Nat):Int)=(b:Int)+((min k 5:Nat):Int) by omega] at l
  have f:gr b (16-k) k e=if cP e (b+min k 5)=1 then gr b (16-(k+1)) (k+1) (bJ e (b+min k 5)) else(some k,bJ e (b+min k 5)):=by rw[show 16-k=(15-k)+1 by omega,gr,show 16-(k+1)=15-k by omega]
  go_wp2;refine l.mono ?_;rintro C w2⟨rfl,⟨D,IH,s⟩,V⟩;have E:=r.aw V λx I=>.inl I;clear V q r l;rw[a] at f;rcases mV e (b+min k 5) with h0|h1
  ·rw[if_neg (by rw[h0];decide)] at f;rw[h0];generalize bJ e (b+min k 5)=d1 at f s
   have J:Hid (aQ b d=(some ((tailD b k 1 d1).1-1),(tailD b k 1 d1).2)):=by unfold Hid aQ;rw[f]
   clear f a h0;have F:=af s;have G:=af E;clear s E;go_wp2;go_loopw[5,6] (λi v wr=>∃(j:Nat)(n:Int)(e:ay)(H:Nat),j<=k/\i=U O j/\v=U O n/\Hid (SB wr g h e xs A c cc B H/\H<=D+2*(k-j)/\av [g,h] w wr/\tailD b j n e=tailD b k 1 d1)/\0<=n/\n<2^(k-j+1)) (λi _ _=>(intOf i).toNat)
   case atStart=>exact⟨k,1,d1,D,aa,rfl,rfl,⟨F.out,aa,G.out,rfl⟩,aa,by rw[ajN];decide⟩
   case round=>
    obtain⟨j,n,e,H,hj,rfl,rfl,hK,Hy,o⟩:=hrel;obtain⟨q,k3,r,a⟩:=hK.out;clear hK;by_cases aT:0<j
    ·obtain⟨i,rfl⟩:∃i,j=i+1:=⟨j-1,aa⟩;have l:=AL (b+6) q hb aa;rw[show((b+6:Nat):Int)=(b:Int)+6 by omega] at l;rw[tailD] at a;have K:=uM (k-(i+1)) aa
     have u:(2:Int)^(k-i+1)=2^(k-(i+1)+1)*2:=by rw[show k-i+1=(k-(i+1)+1)+1 by omega];exact Int.pow_succ ..
     have y:=mV e (b+6);have L:0<=2*n+cP e (b+6):=aa;have z:2*n+cP e (b+6)<2^(k-i+1):=by rw[u];omega
     have M:n<=65536:=aa;have W:=af z;clear o K u z;have wn:wrap64 (2*n)=2*n:=gV ⟨aa,aa⟩;have tB:(0:Int)<(i:Int)+1:=aa;have X:(i:Int)<15:=aa;go_wp2;refine l.mono ?_;rintro e3 w5⟨rfl,⟨p5,hp5,N⟩,Z⟩;have x6:=r.aw Z λx I=>.inl I;clear Z q r l;generalize cP e (b+6)=P at y a L W;generalize bJ e (b+6)=d6 at a N;have H5:=af N;have X6:=af x6;clear N x6;have wn2:wrap64 (2*n+P)=2*n+P:=gV ⟨aa,aa⟩;go_wp2;go_roundw;case rel=>exact⟨i,2*n+P,d6,p5,aa,aH,rfl,⟨H5.out,aa,X6.out,a⟩,aa,W.out⟩
     case measure=>simp[intOf]
    ·have Q:j=0:=by omega
     subst Q;rw[tailD] at a;have R:=congrArg Prod.fst a;have C:=congrArg Prod.snd a;dsimp only at R C;have E1:=af R;have E2:=af C;have K:=uM k aa;have M:n<=65536:=by rw[Nat.sub_zero] at o;omega
     clear o K a R C;go_wp2;go_ret;rw[J.out];exact⟨by rw[<-E1.out];(try rfl),⟨H,aa,by rw[<-E2.out];exact q⟩,r⟩
  ·rw[if_pos h1] at f;rw[h1];generalize bJ e (b+min k 5)=d1 at f s;have F:=af s;have G:=af E;clear s E h1;by_cases S:k=15
   ·subst S
    have J:Hid (aQ b d=(none,d1)):=by unfold Hid aQ;rw[f];rfl
    go_wp2;go_ret;rw[J.out];exact⟨rfl,⟨D,aa,F.out⟩,G.out⟩
   ·have agu:(k:Int)+1<16:=by omega
    go_wp2;go_roundw;case rel=>exact⟨k+1,d1,D,aa,aH,F.out,aa,G.out,f.symm⟩
    case measure=>exact bg
end
section
open Go.RowKit Go.WideShapes Go.ChangeShapes
def FT(n:Int)(h0:0<=n)(h1:n<=65534):UL Gz.prog 79 #[U O n] w λe w'=>e=be (U O (aW n))/\w=w':=Wy w h0 h1
def SB.nB{d:ay}(k:SB w g h d xs A c cc B p):B<=w.heap.size:=by have:=k.ds.le;have:=k.lt;omega
def SB.app{s':Nat}{d:ay}(k:SB w g h d xs A c cc B p)(a:w.grownBy w' v.ownBlock)(o:az t s' w B' v n ys)(h1:g<B')(l:h<B')(r:B<=B'):SB w' g h d xs A c cc B p:=by
 cases f:v.ownBlock with
 |none=>exact k.q (Q.jf (by rw[f] at a;exact a))
 |some j=>have s:=o.below j f;rw[f] at a;exact k.aw (av.dQ a) (λx i=>by simp at i;omega) aA aA
def sj(d:ay)(w:ns)(g h c cc B p:Nat)(xs:List Int)(A:Option aiI)(e:Ending)(w':ns):Prop:=
  (match gg d with
   |some (b,a)=>e=be (dl #[a5 (arr b),a9 true])∧b.length=16∧∃p',p'≤p+2200∧SB w' g h a xs A c cc B p'
   |none=>∃b,b.length=16∧e=be (dl #[a5 (arr b),a9 false]))∧av [g,h] w w'
def ME{d:ay}(a:gg d=none)(b:List Int)(f:b.length=16)(he:e=be (dl #[a5 (arr b),a9 false]))(i:av [g,h] w w'):sj d w g h c cc B p xs A e w':=by unfold sj;rw[a];exact⟨⟨b,f,he⟩,i⟩
def Xx{d a:ay}{p':Nat}(f:gg d=some (b,a))(i:b.length=16)(he:e=be (dl #[a5 (arr b),a9 true]))(k:av [g,h] w w')(l:p'<=p+2200)(o:SB w' g h a xs A c cc B p'):sj d w g h c cc B p xs A e w':=by unfold sj;rw[f];exact⟨⟨he,i,p',l,o⟩,k⟩
def vO{p:Prop}(h:p:=by go_wp2_with(first|(go_at_call 51;(with_reducible refine(cj _ HA).mono ?_);rintro e w'⟨rfl,rfl⟩)|(refine di (n:=16) rfl _ _ _ rfl _ rfl _ cU rfl (by assumption) rfl cL ?_;intro i a f k));refine bodyPost_ret (j8 (by rfl) (by rfl) a.blk (Gz.gu underlying82) rfl (by rw[bO];exact cL)) rfl ?_;exact ME wO.out cU rfl rfl (K5.out.grown f (.inr (au _)))):p:=h
def Z7{d:ay}(hd:SB w g h d xs A c cc B p)(hp:p<=700000000):
  UL Gz.prog 54 #[ci (some ⟨g,0,none⟩)] w (sj d w g h c cc B p xs A):=by
 have hg:=hd.lt;have hh:=hd.ds.aT;have H8:=hd.ds.le;have hN:=sE (w.alloc (ac (arr cU) 82)) g h c cc B p 16 d xs A (hd.q ((Q.refl w).alloc _)) aq aa;have X:=Nb.new 82 16 w cU rfl;go_enter Gz.gf func54,ntmps54;go_wp2;refine hN.mono ?_;rintro e w1⟨rfl,⟨p1,hp1,h1⟩,Z⟩;clear hN;have B0:=af (X.aw Z aA);have X1:=af ((av.gQ [g,h] ((Q.refl w).alloc (ac (arr cU) 82))).trans Z);have pl:w.heap.size<w1.heap.size:=by have:=Z.size;simp at this;omega
 clear X Z hd;by_cases hm:∃m,(aQ 16 d).1=some m/\m<=16
 ·obtain⟨m,E,z9⟩:=hm;have I:=jK E
  have F:gg d=(match jQ m.toNat (aQ 16 d).2 with|some (r,s)=>(fZ r).map λb=>(b,s)|none=>none):=by unfold gg;rw[E];dsimp only;rw[if_neg aa];rfl
  rw[E,aiL];obtain⟨M,rfl⟩:∃M:Nat,m=(M:Int):=⟨m.toNat,aa⟩;rw[Int.toNat_natCast] at F;generalize(aQ 16 d).2=d1 at h1 F;have o:=af F;have HA:Hid (decide ((0:Int)<=(M:Int)/\(M:Int)<=16)=true):=decide_eq_true aa;have ah3:M<=16:=aa;have o0:=az.jT 116 2 w1 (w.heap.size+1) aa;have H1:=af (h1.q ((Q.refl w1).alloc (ac #[] 116)));have B1:=af (B0.out.alloc (ac #[] 116));have X2:=af (X1.out.alloc (ac #[] 116));clear F E I h1 z9 B0 X1;go_wp2_with((go_at_call 51;(with_reducible refine(cj _ HA).mono ?_);rintro e w'⟨rfl,rfl⟩));go_loopw[5,6] (λv i wr=>∃(k:Nat)(acc:List (Int×Int))(s:ay)(p':Nat),k<=M/\i=U O k/\Hid (SB wr g h s xs A c cc B p'/\p'<=p1+128*k/\az 116 2 wr (w.heap.size+1) v k (fl acc)/\acc.length=k/\Nb 82 16 wr w.heap.size cU/\av [g,h] w wr/\w.heap.size<wr.heap.size/\jQ M d1=(jQ (M-k) s).map λq=>(acc++q.1,q.2))) (λ_ i _=>M-(intOf i).toNat)
  case atStart=>exact⟨0,[],d1,p1,aa,rfl,H1.out,aa,o0,rfl,B1.out,X2.out,by simp;omega,by rw[Nat.sub_zero];cases jQ M d1<;>rfl⟩
  case round=>
   obtain⟨k,acc,s,p',hk,rfl,hK⟩:=hrel;obtain⟨k1,kp,J,k3,k4,k5,k6,u⟩:=hK.out;clear hK H1 o0 B1 X2 pl;by_cases aT:k<M
   ·have K:(k:Int)<(M:Int):=by omega
    obtain⟨m,hm⟩:∃m,M-(k+1)=m:=⟨_,rfl⟩;rw[show M-k=m+1 by omega,jQ] at u;have L:=sE wr g h c cc B p' 23 s xs A k1 aq aa;go_wp2;refine L.mono ?_;rintro e w2⟨rfl,⟨p2,IH,h2⟩,x2⟩;clear L;have N:=sE w2 g h c cc B p2 30 (aQ 23 s).2 xs A h2 aq aa;go_wp2;refine N.mono ?_;rintro e w3⟨rfl,⟨p3,hp3,h3⟩,x3⟩;clear N;have y:=x2.trans x3;have q2:=J.aw y (λx hx=>by simp at hx;omega);have q4:=k4.aw y aA;have G:=k5.trans y;have q6:w.heap.size<w3.heap.size:=by have:=y.size;omega
    have H:=af h3;have P:=af q4;have K5:=af G;clear h2 h3 x2 x3 y k1 J k4 k5 k6;by_cases a:∃z l,(aQ 23 s).1=some z/\(aQ 30 (aQ 23 s).2).1=some l/\l<=8159
    ·obtain⟨z,l,f,D,BB⟩:=a;have R:=jK f;have S:=jK D;rw[f,D] at u;dsimp only at u;rw[if_neg aa] at u;rw[f,D,aiL,aiL];generalize(aQ 30 (aQ 23 s).2).2=d3 at H u;have K8:=af u;have wl:wrap64 (l+1)=l+1:=gV ⟨aa,aa⟩;have HA:Hid (decide ((0:Int)<=l/\l<=8159)=true):=decide_eq_true aa;obtain⟨rt,hz1⟩:=R;have In:=S.1;clear u f D S;go_wp2_with(first|(go_at_call 51;(with_reducible refine(cj _ HA).mono ?_);rintro e w'⟨rfl,rfl⟩)|(go_at_call 79;refine(FT _ aa aa).mono ?_;rintro e w4⟨rfl,rfl⟩)|(at_builtin;refine xU rfl rfl (Gz.gu underlying114) EM rfl aq aq rfl (q2.alloc _) ⟨_,0,none⟩ [z,aW (l+1)] 1 rfl rfl aa aA (λj hj=>iJ _ [z,aW (l+1)] _ j hj) ?_;intro v' w' O2 G2));go_roundw
     case rel=>
      have qa:=q2.alloc (ac #[U O z,U O (aW (l+1))] 116);have hbr:=H.out.nB;refine⟨k+1,acc++[(z,aW (l+1))],d3,p3,aa,aH,(H.out.q ((Q.refl w3).alloc _)).app G2 qa aa aa aa,aa,by rw[Fl];exact O2,by simp;exact k3,(P.out.q ((Q.refl w3).alloc _)).app G2 qa aa,(K5.out.alloc _).app G2 qa aa,?_,?_⟩
      ·have:=G2.size;simp at this;omega
      ·rw[hm,K8.out];cases jQ m d3 with|none=>rfl|some q=>simp
     case measure=>exact bg
    ·have C:jQ M d1=none:=by
      rw[u];cases f:(aQ 23 s).1 with
      |none=>rfl
      |some z=>
       cases D:(aQ 30 (aQ 23 s).2).1 with
       |none=>rfl
       |some l=>
        dsimp only;rw[if_pos]
        ·rfl
        ·exact nP λT=>a ⟨z,l,f,D,aa⟩
     have wO:Hid (gg d=none):=by unfold Hid;rw[o.out,C]
     have X:=P.out;clear u C;cases f:(aQ 23 s).1 with
     |none=>rw[ajY];clear a f;exact vO
     |some z=>
      have R:=(jK f).1;rw[aiL];cases D:(aQ 30 (aQ 23 s).2).1 with
      |none=>rw[ajY];have HA:Hid (decide ((0:Int)<= -1/\(-1:Int)<=8159)=false):=decide_eq_false aa;clear a f D;exact vO
      |some l=>have HA:Hid (decide ((0:Int)<=l/\l<=8159)=false):=decide_eq_false λT=>a ⟨z,l,f,D,T.2⟩;rw[aiL];clear a f D;exact vO
   ·have K:k=M:=by omega
    subst K;rw[ajN,jQ] at u;dsimp only[Option.map_some] at u;rw[List.append_nil] at u;rw[u] at o;dsimp only at o;obtain⟨AA,ca,rfl⟩:=J.form;have V:=abk ca J.rd k3 aa (au _);have H:=af k1;have P:=af k4;have K5:=af k5;clear k1 J k4 k5 u hk;go_wp2;refine V.mono ?_;rintro e w5⟨rfl,G⟩;clear V;have h5:=H.out.q G;have b5:=P.out.q G;have x5:=K5.out.q G;have H5:=af h5;have X5:=af x5;clear h5 x5 H P K5 G;cases W:fZ acc with
    |some b=>have hlen:=yM W;rw[W] at o;rw[aiL];clear W;go_wp2_with((refine di (n:=16) rfl _ _ _ rfl _ rfl _ _ dh aG dh cL ?_;intro wz bz gz sz));refine aiA (j8 aD aD bz.blk (Gz.gu underlying82) rfl um) rfl ?_;exact Xx o.out hlen rfl (X5.out.grown gz (.inr (au _))) aa (H5.out.aw (av.dQ gz) (λx hx=>by simp at hx;have:=H5.out.nB;have:=H5.out.ds.le;omega) aA aA)
    |none=>have hlen:cU.length=16:=rfl;rw[W] at o;rw[ajY];clear W;go_wp2_with((refine di (n:=16) rfl _ _ _ rfl _ rfl _ _ dh aG dh cL ?_;intro wz bz gz sz));refine aiA (j8 aD aD bz.blk (Gz.gu underlying82) rfl um) rfl ?_;exact ME o.out cU rfl rfl (X5.out.grown gz (.inr (au _)))
 ·have wO:Hid (gg d=none):=by
   unfold Hid gg;cases f:(aQ 16 d).1 with
   |none=>rfl
   |some m=>dsimp only;rw[if_pos];exact nP λT=>hm ⟨m,f,aa⟩
  have X:=B0.out;have K5:=X1;cases f:(aQ 16 d).1 with
  |none=>rw[ajY];have HA:Hid (decide ((0:Int)<= -1/\(-1:Int)<=16)=false):=decide_eq_false aa;clear hm f;exact vO
  |some m=>rw[aiL];have HA:Hid (decide ((0:Int)<=m/\m<=16)=false):=decide_eq_false λT=>hm ⟨m,f,T.2⟩;clear hm f;exact vO
end
section
open Go.RowKit Go.WideShapes Go.ChangeShapes
def iC(ap:Bool)(d:ay):Option (List Int×ay):=
 if ap=false/\cP d 0=0 then some (dZ,bJ d 0)
 else(lu ap (iw ap (d,0)).1).map λr=>(r.1++an 64 0,r.2)
def sk(ap:Bool)(d:ay)(w:ns)(g h c cc B p:Nat)(xs:List Int)(A:Option aiI)(e:Ending)(w':ns):Prop:=
  (match iC ap d with
   |some (m,a)=>e=be (dl #[a5 (arr m),a9 true])∧m.length=71∧∃p',p'≤p+300∧SB w' g h a xs A c cc B p'
   |none=>∃m,m.length=71∧e=be (dl #[a5 (arr m),a9 false]))∧av [g,h] w w'
def MF{d:ay}(a:iC ap d=none)(m:List Int)(hm:m.length=71)(he:e=be (dl #[a5 (arr m),a9 false]))(f:av [g,h] w w'):sk ap d w g h c cc B p xs A e w':=by unfold sk;rw[a];exact⟨⟨m,hm,he⟩,f⟩
def Dz{d a:ay}{p':Nat}(f:iC ap d=some (m,a))(hm:m.length=71)(he:e=be (dl #[a5 (arr m),a9 true]))(i:av [g,h] w w')(k:p'<=p+300)(l:SB w' g h a xs A c cc B p'):sk ap d w g h c cc B p xs A e w':=by unfold sk;rw[f];exact⟨⟨he,hm,p',k,l⟩,i⟩
def adi{acc:List Int}(n:Nat){k:Nat}(v:Int)(a:acc.length=k):([2,0,0]++acc++an (n+1) 0).set (3+k) v=[2,0,0]++(acc++[v])++an n 0:=by subst a;simp[List.set_append,List.replicate_succ,Nat.add_comm 3]
def abF:(Gz.prog.info? 80).map (·.size)=some 2:=aC
def adj(a f:Int):upd (gw.set 0 1) 1 [a,f]=[1,a,f,0,0,0,0]++an 64 0:=rfl
def TH{p:Prop}(h:p:=by go_wp2_with(first|(go_at_call 51;(with_reducible refine(cj _ HA).mono ?_);rintro e w'⟨rfl,rfl⟩)|(refine di (n:=71) rfl _ _ _ rfl _ rfl _ dZ rfl (by assumption) (by first|rfl|assumption) fg ?_;intro i a f l));refine bodyPost_ret (j8 (by rfl) (by rfl) a.blk (Gz.gu underlying85) rfl (by rw[bO];exact fg)) rfl ?_;exact MF EQ.out dZ rfl rfl ((x9.set (p:=⟨w.heap.size+1,3+k,none⟩) (.inr (by simp)) _).grown f (.inr (au _)))):p:=h
def S0{p:Prop}(h:p:=by(have H1:=af h9;have V:=af b9;have W:=af b8;have X:=af x9;have C:=b9.lt;clear h9 b9 b8 x9;obtain⟨K,D⟩:∃z,ko 4 d=z:=⟨_,rfl⟩;have s:=af D;clear D;go_wp2;go_loopw[9] (λi wr=>∃(k:Nat)(t9:ay)(p9:Nat)(acc:List Int),k<=4/\i=.int .i64 k/\acc.length=k/\p9<=p+4+64*k/\Hid (SB wr g h t9 xs A c cc B p9/\Nb 85 71 wr (w.heap.size+1) ([2,0,0]++acc++List.replicate (68-k) 0)/\Nb 85 71 wr w.heap.size dZ/\av [g,h] w wr/\w.heap.size+1<wr.heap.size/\K=(ko (4-k) t9).map λq=>(acc++q.1,q.2))) λi _=>4-(intOf i).toNat;(case atStart=>exact⟨0,_,_,[],by omega,rfl,rfl,by omega,H1.out,V.out,W.out,X.out,C,by rw[Nat.sub_zero,s.out];cases K<;>rfl⟩);(case round=>obtain⟨k,t,p9,acc,hk,rfl,E,hp9,hK⟩:=hrel;obtain⟨L,F,Z,M,k5,l⟩:=hK.out;clear hK;(try clear H1 V W X C);by_cases aT:k<4;(case pos=>obtain⟨m,hm⟩:∃m,4-(k+1)=m:=⟨_,rfl⟩;obtain⟨q,hq⟩:∃q,68-(k+1)=q:=⟨_,rfl⟩;rw[show 4-k=m+1 by omega,ko] at l;rw[show 68-k=q+1 by omega] at F;have ka:(k:Int)<4:=(by omega);have hL:=sE wr g h c cc B p9 9 t xs A L (by decide) (by omega);go_wp2;refine hL.mono ?_;rintro e wq⟨rfl,⟨pq,hpq,G⟩,H⟩;clear hL;have J:=F.aw H (by simp;omega);have y3:=Z.aw H (by simp;omega);have y4:=M.trans H;have ysz:=H.size;have fy:=J.free;have HQ:=af G;have Y2:=af J;have Y3:=af y3;have Y4:=af y4;have cy:=J.at (3+k) (by omega);generalize([2,0,0]++acc++List.replicate (q+1) 0)[3+k]?.getD 0=qy at cy;clear L F Z M H J y3 y4 G;by_cases a:∃f,(aQ 9 t).1=some f/\f<=4;(case pos=>obtain⟨f,o,N⟩:=a;have P:=(jK o).1;rw[o] at l;dsimp only at l;rw[if_neg (by omega)] at l;rw[o,Option.getD_some];generalize(aQ 9 t).2=tq at HQ l;have K8:=af l;have HA:Hid (decide ((0:Int)<=f/\f<=4)=true):=decide_eq_true ⟨P,N⟩;clear o l;go_wp2_with((go_at_call 51;(with_reducible refine(cj _ HA).mono ?_);rintro e w'⟨rfl,rfl⟩));go_roundw;(case rel=>exact⟨k+1,tq,pq,acc++[f],by omega,by go_num,by simp[E],by omega,HQ.out.aw (kY _ _ _ _) (λx Q=>by simp at Q;omega) (by simp;omega) (by simp;omega),by rw[hq,<-adi q f E];exact Y2.out.set (3+k) f,Y3.out.aN (by simp) _,Y4.out.set (.inr (by simp)) _,by simp[World.setCell];omega,by rw[hm,K8.out];cases ko m tq with|none=>rfl|some z=>simp⟩);(case measure=>simp[intOf];omega));(case neg=>have I:K=none:=(by rw[l];cases hz:(aQ 9 t).1 with|none=>rfl|some f=>(dsimp only;rw[if_pos];rfl;exact nP λhn=>a ⟨f,hz,by omega⟩));have R:=af (HM.out.trans (by unfold mo;rw[s.out,I];(try rfl)));have x9:av [g,h] w wq:=Y4.out;have b8:=Y3.out;have EQ:=R;clear I l;cases hz:(aQ 9 t).1 with|none=>(rw[Option.getD_none];have HA:Hid (decide ((0:Int)<= -1/\(-1:Int)<=4)=false):=decide_eq_false (by omega);have b9:=b8.aN (p:=⟨w.heap.size+1,3+k,none⟩) (by simp) (.int .i64 (-1));clear a hz;exact TH)|some f=>(rw[Option.getD_some];have HA:Hid (decide ((0:Int)<=f/\f<=4)=false):=decide_eq_false λhn=>a ⟨f,hz,hn.2⟩;have b9:=b8.aN (p:=⟨w.heap.size+1,3+k,none⟩) (by simp) (.int .i64 f);clear a hz;exact TH)));(case neg=>have S:k=4:=(by omega);subst S;rw[Nat.sub_self,ko] at l;dsimp only[Option.map_some] at l;rw[List.append_nil] at l;have r:=HM.out;unfold mo at r;rw[s.out,l] at r;have HV:=af r;clear r l;obtain⟨mf,u⟩:∃z,[2,0,0]++acc++List.replicate (68-4) 0=z:=⟨_,rfl⟩;rw[u] at F;have y:=F.len;have T:Hid (([2,0,0]++acc:List Int)++List.replicate 64 0=mf):=u;clear u;go_wp2_with(first|(refine eQ (n:=71) rfl _ _ rfl _ rfl _ (by assumption) _ (Gz.gu underlying85) rfl fg ?_)|(refine di (n:=71) rfl _ _ _ rfl _ rfl _ mf rfl (by assumption) y fg ?_;intro wz bz gz sz));refine bodyPost_ret (j8 (by rfl) (by rfl) bz.blk (Gz.gu underlying85) rfl (by rw[bO,y];exact fg)) rfl ?_;exact Dz (HV.out.trans (by rw[<-T.out];rfl)) y rfl (M.grown gz (.inr (au _))) (by omega) (L.aw (av.dQ gz) (λx Q=>by simp at Q;omega) (by simp;omega) (by simp;omega)))))):p:=h
def AO{p:Prop}(h:p:=by go_wp2_with(first|(go_at_call 51;(with_reducible refine(cj _ HA).mono ?_);rintro e w'⟨rfl,rfl⟩)|(go_at_call 51;(with_reducible refine(cj _ HB).mono ?_);rintro e w'⟨rfl,rfl⟩)|(refine di (n:=71) rfl _ _ _ rfl _ rfl _ dZ rfl (by assumption) (by first|rfl|assumption) fg ?_;intro i a f k));refine bodyPost_ret (j8 (by rfl) (by rfl) a.blk (Gz.gu underlying85) rfl (by rw[bO];exact fg)) rfl ?_;exact MF HVN.out dZ rfl rfl (x9.grown f (.inr (au _)))):p:=h
def adk{d:ay}(ap:Bool)(hd:SB w g h d xs A c cc B p)(hp:p<=700000000):
  UL Gz.prog 53 #[ci (some ⟨g,0,none⟩),a9 ap] w (sk ap d w g h c cc B p xs A):=by
 have hg:=hd.lt;have hh:=hd.ds.aT;have H8:=hd.ds.le;have b0:=Nb.new 85 71 w dZ rfl;have b1:=Nb.new 85 71 (w.alloc (ac (arr dZ) 85)) dZ rfl;rw[BE] at b1;have E:some w.heap.size≠some (w.heap.size+1):=λe=>by injection e with e;omega
 have u:=b0.alloc (ac (arr dZ) 85);cases ap with
 |false=>
  go_enter Gz.gf func53,ntmps53;go_wp2_with((refine di (n:=71) rfl _ _ _ rfl _ rfl _ gw rfl aG ra fg ?_;intro w9 b9 F s9);have I:Q w w9:=(((Q.refl w).alloc _).alloc _).grown F (λk e=>by have:=aL e;omega);have h9:=hd.q I;have b8:=u.grown F E;clear b0 b1 u F s9 hd);have L:=AL 0 h9 aq aa;refine L.mono ?_;rintro e w2⟨rfl,⟨p2,IH,W⟩,X⟩;clear L;have M:=b9.aw X aA;have b3:=b8.aw X aA;have x3:av [g,h] w w2:=(av.gQ [g,h] I).trans X;have Bj:w.heap.size+1<w2.heap.size:=M.lt;clear h9 b9 b8 X I;rcases mV d 0 with hb|hb
  ·have HM:Hid (iC false d=some (dZ,bJ d 0)):=by unfold Hid iC;rw[if_pos ⟨rfl,hb⟩]
   rw[hb];go_wp2_with((refine di (n:=71) rfl _ _ _ rfl _ rfl _ dZ rfl aG ra fg ?_;intro wz bz N sz));refine aiA (j8 aD aD bz.blk (Gz.gu underlying85) rfl Cd) rfl ?_;exact Dz HM.out rfl rfl (x3.grown N (.inr (au _))) aa (W.aw (av.dQ N) (λx a=>by simp at a;omega) aA aA)
  ·have P:iC false d=(lu false (bJ d 0)).map λr=>(r.1++an 64 0,r.2):=by unfold iC;rw[if_neg (by rw[hb];intro k;cases k.2)];rfl
   rw[hb];have HM:=af P;generalize bJ d 0=d0 at W HM;clear P hb;have D:=M.at 0 aq;have J:=M.free 0;go_wp2;have L:=AL 1 W aq aa;refine L.mono ?_;rintro e w3⟨rfl,⟨p3,hp3,K⟩,Z⟩;clear L;have G:=M.aw Z aA;have b5:=b3.aw Z aA;have x5:av [g,h] w w3:=x3.trans Z;have R:w.heap.size+1<w3.heap.size:=G.lt;clear W M b3 x3 Z D J;have l:lu false d0=if 1+cP d0 1=1 then qh (bJ d0 1) else mo (bJ d0 1):=rfl
   have D:=G.at 0 aq;have J:=G.free 0;generalize gw[0]?.getD 0=q0 at D;rcases mV d0 1 with hb|hb
   ·rw[hb,if_pos aq] at l;rw[hb];rw[l] at HM;generalize bJ d0 1=d1 at K HM;clear hb l;go_wp2;have H:=K.aw (kY w3 (w.heap.size+1) 0 (U O 1)) (λx a=>by simp at a;omega) aA aA;have n4:=G.set 0 1;have n5:=b5.aN (p:=⟨w.heap.size+1,0,none⟩) aj (U O 1);have x6:=x5.set (p:=⟨w.heap.size+1,0,none⟩) (.inr aj) (U O 1);generalize w3.setCell ⟨w.heap.size+1,0,none⟩ (U O 1)=w4 at H n4 n5 x6⊢;clear K G b5 x5 D J R;have S:=sE w4 g h c cc B p3 2 d1 xs A H aq aa;refine S.mono ?_;rintro e w5⟨rfl,⟨p5,hp5,h5⟩,C⟩;have n6:=n4.aw C aA;have n7:=n5.aw C aA;have x8:=x6.trans C;clear S H n4 n5 x6 C;go_wp2;have S:=sE w5 g h c cc B p5 2 _ xs A h5 aq aa;refine S.mono ?_;rintro e w7⟨rfl,⟨p7,hp7,h7⟩,C⟩;have n8:=n6.aw C aA;have n9:=n7.aw C aA;have x9:=x8.trans C;have hs7:w.heap.size+1<w7.heap.size:=n8.lt;clear S h5 n6 n7 x8 C;by_cases i:∃x y,(aQ 2 d1).1=some x/\(aQ 2 (aQ 2 d1).2).1=some y/\x<=32/\y<=32
    ·obtain⟨x,y,a,o,f,BC⟩:=i;have UU:=(jK a).1;have T:=(jK o).1
     have HV:Hid (iC false d=some ([1,aW x,aW y,0,0,0,0]++an 64 0,(aQ 2 (aQ 2 d1).2).2)):=by unfold Hid;rw[HM.out];unfold qh;rw[a,o];dsimp only;rw[if_neg aa];rfl
     rw[a,o,aiL,aiL];generalize(aQ 2 (aQ 2 d1).2).2=d7 at h7 HV;have HA:Hid (decide ((0:Int)<=x/\x<=32)=true):=decide_eq_true ⟨UU,f⟩;have HB:Hid (decide ((0:Int)<=y/\y<=32)=true):=decide_eq_true ⟨T,BC⟩;clear a o HM;have h7l:=h7;go_wp2_with(first|(go_at_call 51;(with_reducible refine(cj _ HA).mono ?_);rintro e w'⟨rfl,rfl⟩)|(go_at_call 51;(with_reducible refine(cj _ HB).mono ?_);rintro e w'⟨rfl,rfl⟩)|(go_at_call 79;(with_reducible refine(FT x aa aa).mono ?_);rintro e w4⟨rfl,rfl⟩)|(go_at_call 79;(with_reducible refine(FT y aa aa).mono ?_);rintro e w4⟨rfl,rfl⟩)|(refine ye (n:=71) rfl _ _ _ rfl _ 1 rfl _ [aW x,aW y] rfl aG (by show 3<=71;omega) abF ?_;intro wv bv gv sv;rw[adj] at bv;have n10:=n9.grown gv E)|(refine eQ (n:=71) rfl _ _ rfl _ rfl _ aG _ (Gz.gu underlying85) rfl fg ?_)|(refine di (n:=71) rfl _ _ _ rfl _ rfl _ ([1,aW x,aW y,0,0,0,0]++an 64 0) rfl aG rfl fg ?_;intro wz bz N sz));refine aiA (j8 aD aD bz.blk (Gz.gu underlying85) rfl Cd) rfl ?_;exact Dz HV.out rfl rfl ((x9.grown gv (.inr aj)).grown N (.inr (au _))) aa ((h7l.aw (av.dQ gv) (λx a=>by simp at a;omega) aA aA).aw (av.dQ N) (λx a=>by simp at a;omega) aA aA)
    ·have HVN:Hid (iC false d=none):=by
      unfold Hid;rw[HM.out];unfold qh;cases a:(aQ 2 d1).1 with
      |none=>rfl
      |some x=>
       cases o:(aQ 2 (aQ 2 d1).2).1 with
       |none=>rfl
       |some y=>
        dsimp only;rw[if_pos]
        ·rfl
        ·exact nP λhn=>i ⟨x,y,a,o,aa,aa⟩
     cases a:(aQ 2 d1).1 with
     |none=>rw[ajY];have HA:Hid (decide ((0:Int)<= -1/\(-1:Int)<=32)=false):=decide_eq_false aa;have HB:=HA;clear i a;exact AO
     |some x=>
      rw[aiL];by_cases f:0<=x/\x<=32
      ·have HA:Hid (decide ((0:Int)<=x/\x<=32)=true):=decide_eq_true f;cases o:(aQ 2 (aQ 2 d1).2).1 with
       |none=>rw[ajY];have HB:Hid (decide ((0:Int)<= -1/\(-1:Int)<=32)=false):=decide_eq_false aa;clear i a o f;exact AO
       |some y=>have T:=(jK o).1;rw[aiL];have HB:Hid (decide ((0:Int)<=y/\y<=32)=false):=decide_eq_false λhn=>i ⟨x,y,a,o,f.2,hn.2⟩;clear i a o f;exact AO
      ·have HA:Hid (decide ((0:Int)<=x/\x<=32)=false):=decide_eq_false f;have HB:=HA;clear i a f;exact AO
   ·rw[hb,if_neg aq] at l;rw[hb];rw[l] at HM;generalize bJ d0 1=d1 at K HM;clear hb l;go_wp2;have H:=K.aw (kY w3 (w.heap.size+1) 0 (U O 2)) (λx a=>by simp at a;omega) aA aA;have b9:=G.set 0 2;have b8:=b5.aN (p:=⟨w.heap.size+1,0,none⟩) aj (U O 2);have x9:=x5.set (p:=⟨w.heap.size+1,0,none⟩) (.inr aj) (U O 2);generalize w3.setCell ⟨w.heap.size+1,0,none⟩ (U O 2)=w4 at H b9 b8 x9⊢;clear K G b5 x5 D J R;have V:p3<=p+4:=aa;have s:gw.set 0 2=[2,0,0]++[]++an 68 0:=rfl;rw[s] at b9;have h9:=H;obtain⟨d,rfl⟩:∃z,z=d1:=⟨_,rfl⟩;clear s H;exact S0
 |true=>
  go_enter Gz.gf func53,ntmps53;go_wp2_with((refine di (n:=71) rfl _ _ _ rfl _ rfl _ gw rfl aG ra fg ?_;intro w9 b9 F s9);have I:Q w w9:=(((Q.refl w).alloc _).alloc _).grown F (λk e=>by have:=aL e;omega);have h9:=hd.q I;have b8:=u.grown F E;clear b0 b1 u F s9 hd;have D:=b9.at 0 aq;have J:=b9.free 0;generalize tv:gw[0]?.getD 0=q0 at D;have i6:q0=2:=tv.symm;subst i6)
  have HM:Hid (iC true d=(mo d).map λr=>(r.1++an 64 0,r.2)):=by unfold Hid iC;rw[if_neg λk=>by cases k.1];rfl
  have s:gw=[2,0,0]++[]++an 68 0:=rfl;rw[s] at b9;clear s D J;have x9:=av.gQ [g,h] I;have V:p<=p+4:=aa;exact S0
end
section
open Go.RowKit Go.WideShapes Go.ChangeShapes
def jq(j:Nat)(m:List Int)(d:ay):Option (List Int×ay):=if al m 0=0 then some (m,d) else(lq (4-j) d).map λr=>(sub m 0 (7+16*j)++r.1,r.2)
def YS{d d1:ay}{h:List Int}(f:lu ap d=some (h,d1)):h.length=7/\al h 0≠0:=by
 rcases Oz ap d with⟨i,r,a,o,_⟩|⟨a,_⟩
 ·rw[f] at a;have q:h=i:=eg;have l:=D8 ap (d,0);have k:=(NJ ap (d,0)).1;rw[o] at l k;rw[q];exact⟨l,k⟩
 ·simp_all
def Ya{d d0:ay}(a:iC ap d=some (m,d0)):gi ap d=jq 0 m d0:=by
 unfold iC at a;unfold gi jq;split at a
 ·rename_i f;rw[if_pos f];injection a with a;injection a with h1 i;rw[<-h1,<-i,if_pos aq]
 ·rename_i f;rw[if_neg f];cases hq:lu ap (iw ap (d,0)).1 with
  |none=>rw[hq] at a;cases a
  |some r=>
   obtain⟨h,d1⟩:=r;rw[hq] at a;injection a with a;injection a with h1 i;obtain⟨l,k⟩:=YS hq;have o:al m 0=al h 0:=by rw[<-h1];exact zT (h:=h) (k:=0) (by rw[l];decide)
   have q:sub m 0 (7+16*0)=h:=by rw[<-h1];unfold sub;rw[List.drop_zero,Nat.mul_zero,Nat.add_zero,<-l,List.take_left]
   rw[if_neg (by rw[o];exact k),q,<-i]
def abG{d:ay}(a:iC ap d=none):gi ap d=none:=by
 unfold iC at a;unfold gi;split at a
 ·cases a
 ·simp_all
def adl{o:Nat}(h:o+b.length<=m.length)(a:0<o):al (upd m o b) 0=al m 0:=by unfold al;rw[zQ _ _ _ _ h,if_neg aa]
def Yb{o:Nat}(h:o+b.length<=m.length):sub (upd m o b) 0 (o+b.length)=sub m 0 o++b:=by rw[zA _ 0 o b.length (by rw[Q0.u0];omega),Nat.zero_add,Xm h,XU h aa (.inl aa)]
def YT{d a:ay}(i:gg d=some (b,a))(f:al m 0≠0)(l:j<4)(hm:m.length=71)(k:b.length=16):jq j m d=jq (j+1) (upd m (7+16*j) b) a:=by
 unfold jq;rw[if_neg f,if_neg (by rw[adl (by omega) (by omega)];exact f)];rw[show 4-j=(4-(j+1))+1 by omega,lq,i];dsimp only
 have e:sub (upd m (7+16*j) b) 0 (7+16*(j+1))=sub m 0 (7+16*j)++b:=by have:=Yb (m:=m) (b:=b) (o:=7+16*j) aa;rw[k,show 7+16*j+16=7+16*(j+1) by omega] at this;exact this
 cases lq (4-(j+1)) a with|none=>rfl|some r=>simp_all
def YU{d:ay}(a:gg d=none)(f:al m 0≠0)(i:j<4):jq j m d=none:=by unfold jq;rw[if_neg f,show 4-j=(4-(j+1))+1 by omega,lq,a];rfl
def Z8{d:ay}(hm:m.length=71):jq 4 m d=some (m,d):=by
 unfold jq;split
 ·rfl
 ·show some (sub m 0 71++[],d)=_;unfold sub;rw[List.drop_zero,List.take_of_length_le aa,List.append_nil]
def YV{d:ay}(a:al m 0=0):jq j m d=some (m,d):=by unfold jq;rw[if_pos a]
def pU(acc:List Int)(r:Option (List Int)):Option (List Int):=r.map (acc++ ·)
def Yc(ap:Bool)(k:Nat)(d:ay):jm ap (k+1) d=match gi ap d with|some (m,d1)=>pU m (jm ap k d1)|none=>none:=aD
def Z5(a b:List Int)(x:Option (List Int)):pU a (pU b x)=pU (a++b) x:=by cases x<;>simp[pU]
def YW(a:bytes xs):(eu xs).code<=4294967295:=
 yX (d:=cR (cR (cR (e7 xs)))) (λx f=>a x (yC (yC (yC f)))) (jg).1
def az.Aw{s:Nat}{S:List Nat}(h:az t s w B v n xs)(k:av S w w')(a:∀j,v.ownBlock=some j->j∉S):az t s w' B v n xs:=
 h.Ft λg l o f hc i=>(k.block g (bF.1 hc).1 (a g i)).trans hc
def SB.agM{d:ay}{s':Nat}{v':Value}(k:SB w g h d xs A c cc B p)(f:bC v w v' w')(o:az t s' w B' v n ys)(i:∀b,v.ownBlock=some b->b≠g/\b≠h/\B<=b):SB w' g h d xs A c cc B p:=by
 cases a:v.ownBlock with
 |none=>exact k.q (Q.jf (by have:=f.bK;rw[a] at this;exact this))
 |some j=>obtain⟨h1,r,s⟩:=i j a;have:=f.bK;rw[a] at this;exact k.aw (av.dQ this) (λx l=>by simp at l;omega) aA aA
def YX{d:ay}(l:sk ap d w g h c cc B p xs A e w'):
  ∃f b0,e=be (dl #[a5 (arr f),a9 b0])/\f.length=71/\(b0=true->∃d0 i,i<=p+300/\gi ap d=jq 0 f d0/\SB w' g h d0 xs A c cc B i)/\(b0=false->gi ap d=none)/\av [g,h] w w':=by
 obtain⟨h1,k⟩:=l;cases a:iC ap d with
 |none=>rw[a] at h1;obtain⟨m,hm,he⟩:=h1;exact⟨m,false,he,hm,λh=>(by cases h),λ_=>abG a,k⟩
 |some r=>obtain⟨m,d0⟩:=r;rw[a] at h1;obtain⟨he,hm,o,q,s⟩:=h1;exact⟨m,true,he,hm,λ_=>⟨d0,o,q,Ya a,s⟩,λh=>(by cases h),k⟩
def Z9{d:ay}(f:sj d w g h c cc B p xs A e w'):
  ∃b b0,e=be (dl #[a5 (arr b),a9 b0])/\b.length=16/\(b0=true->∃d0 a,a<=p+2200/\gg d=some (b,d0)/\SB w' g h d0 xs A c cc B a)/\(b0=false->gg d=none)/\av [g,h] w w':=by
 obtain⟨h1,i⟩:=f;cases k:gg d with|none=>grind|some r=>grind
def QT(R:Option (List Int))(n:Nat)(w:ns)(e:Ending)(w':ns):Prop:=
  (match R with
   |some L=>∃v,e=be (dl #[v,a9 true])∧az 85 71 w' w.heap.size v n L
   |none=>∃A n c,e=be (dl #[Y A n c,a9 false]))∧Q w w'
def Dy{m:Nat}(he:e=be (dl #[Y A m c,a9 false]))(q:Q w w'):QT none n w e w':=⟨⟨A,m,c,he⟩,q⟩
def YZ{a:List Int}(f:a.length=n*2)(l:gR a=true):bytes (lJ a):=by
 have h:=rZ n a f l
 have i:∀k,k<=n->∃e,RE a k e:=by
  intro k
  induction k with
  |zero=>exactλ_=>⟨_,RE.zero a⟩
  |succ k o=>intro u;obtain⟨e,he⟩:=o aa;obtain⟨q,r,_⟩:=h k aa;exact⟨_,he.succ f aa q r⟩
 obtain⟨e,he⟩:=i n (au _);have s:=he.full f;have:=(zW 4 he.ok).out;rw[s] at this;exact this
def NN(a:xs.length=n*71)(h1:1<=n)(i:n<=4)(h:ew ap xs n=some ys):bytes ys:=by
 rw[ET a h1 i] at h;split at h
 ·rename_i l;injection h with h;obtain⟨f,q⟩:=vl a l n (au _);obtain⟨k,o⟩:=f.even;rw[<-h];exact YZ o f.ok
 ·cases h
def QU(h:bytes xs):xs.map j3=xs:=by
 induction xs with
 |nil=>rfl
 |cons x r a=>have:=h x (mI ..);rw[List.map_cons,a λy f=>h y (akK _ f)];congr 1;unfold j3;omega
def MG(A:Option aiI)(c B:Nat)(many:Int)(ap:Bool)(w:ns)(F:bB w B A xs)(hn:xs.length=n)(hc:n<=c/\c<=maxLen)(hB:B<=w.heap.size)(hb:bytes xs):
  UL Gz.prog 32 #[Y A n c,U O many,a9 ap] w (QT (iR xs many ap) many.toNat w):=by
 have Z:Q w (w.alloc (ac #[] 85)):=(Q.refl _).alloc _;have o0:=az.jT 85 71 w w.heap.size (au _);obtain⟨R,C⟩:∃z,iR xs many ap=z:=⟨_,rfl⟩;rw[C];unfold iR at C;by_cases hm:1<=many/\many<=4
 ·rw[if_pos hm] at C;obtain⟨N,rfl⟩:∃N:Nat,many=(N:Int):=⟨many.toNat,aa⟩;rw[Int.toNat_natCast] at C⊢;obtain⟨m1,m4⟩:=hm;have G:=af C;have UW:=af (aex (F.q Z hB) hn hc (aJ hB Z.size) hb);have HX:=af F;have H:=af hn;clear C F hn;go_enter Gz.gf func32,ntmps32;go_wp2;refine(nX _ m1 m4).mono ?_;rintro e w'⟨rfl,rfl⟩;go_wp2;refine UW.out.mono ?_;rintro e w1⟨g,h,cc,rfl,hg,hh,d1,q1⟩;have pl:=q1.size;rw[BE] at hg hh pl;have S1:=af (⟨d1,EG xs,YW hb⟩:SB w1 g h (eu xs) xs A c cc B 4);have we:=d1.lt;have hhl:=d1.aT;have O1:=af ((o0.q q1).mono (au _));have Q1:=af (Z.trans q1);clear d1 q1 Z o0 UW hhl;go_wp2;have UX:∀j,(Value.slice (some ⟨w.heap.size,0,none⟩) 0 0).ownBlock=some j->j≠g/\j≠h:=λj s=>by have:w.heap.size=j:=aL s;omega
  go_loopw[8,10] (λu i wr=>∃(k:Nat)(d:ay)(acc:List Int)(p:Nat),k<=N/\i=U O k/\p<=4+10000*k/\Hid (SB wr g h d xs A c cc B p/\az 85 71 wr w.heap.size u k acc/\Q w wr/\(∀j,u.ownBlock=some j->j≠g/\j≠h)/\pU acc (jm ap (N-k) d)=jm ap N (eu xs))) (λ_ i _=>N-(intOf i).toNat)
  case atStart=>exact⟨0,eu xs,[],4,aa,rfl,aa,S1.out,O1.out,Q1.out,UX,by rw[Nat.sub_zero];cases jm ap N (eu xs)<;>rfl⟩
  case round=>
   obtain⟨k,d,acc,p,hk,rfl,hp,hK⟩:=hrel;obtain⟨D,V,W,k4,X⟩:=hK.out;clear hK S1 O1 Q1 UX;have K4:=af k4;by_cases aT:k<N
   ·have ka:(k:Int)<(N:Int):=by omega
    obtain⟨r,hr⟩:∃r,N-(k+1)=r:=⟨_,rfl⟩;rw[show N-k=r+1 by omega,Yc] at X;have hH:=adk ap D aa;have I:=af V;have K3:=af W;have K5:=af X;have hbs:=D.nB;have qF:=D.lt;have Io:=D.ds.aT.2;have qL:=D.ds.le;have Uw:=D.ds.aT.1;clear D V W k4 X;go_wp2;refine hH.mono ?_;intro e w5 hP;obtain⟨m0,b0,rfl,ul,hT,hF,x5⟩:=YX hP;clear hH hP;have Bi:=x5.size;have z2:=I.out.Aw x5 (λj s=>by have:=K4.out j s;simp;omega);have z3:=x5.toQ K3.out (λj s=>by simp at s;omega);have HT:=af hT;have HF:=af hF;clear hT hF x5 I K3;go_wp2_with((refine di (n:=71) rfl _ _ _ rfl _ rfl _ _ aD (Nb.new 85 71 _ dZ rfl) ul fY ?_;intro w6 bm gm sm;rw[BE] at sm));have q6:Q w5 w6:=((Q.refl _).alloc _).grown gm (λj e=>by have:=aL e;omega);obtain⟨mB,UY⟩:∃z,w5.heap.size=z:=⟨_,rfl⟩;rw[UY] at bm sm Bi;(try rw[UY])
    have BM:=af bm;have Z2:=af (z2.q q6);have Z3:=af (z3.trans q6);have Fm:Hid (∀j,u8.ownBlock=some j->j≠mB):=λj s=>by have:=z2.As j s;omega
    have UZ:Hid (b0=true->∃d0 E,E<=p+300/\gi ap d=jq 0 m0 d0/\SB w6 g h d0 xs A c cc B E):=λh=>by obtain⟨d0,E,h1,h2,h3⟩:=HT.out h;exact⟨d0,E,h1,h2,h3.q q6⟩
    clear z2 z3 q6 gm bm HT;go_loopw[12,13] (λo i wi=>∃(j:Nat)(J:Bool),j<=4/\i=U O j/\o=a9 J/\Hid ((J=true->∃dj mj pj,pj<=p+300+2200*j/\mj.length=71/\SB wi g h dj xs A c cc B pj/\Nb 85 71 wi mB mj/\gi ap d=jq j mj dj)/\(J=false->gi ap d=none)/\az 85 71 wi w.heap.size u8 k acc/\Q w wi/\mB<wi.heap.size)) (λo i _=>4-(intOf i).toNat)
    case atStart=>exact⟨0,b0,aa,rfl,rfl,λh=>(by
     obtain⟨d0,E,h1,h2,h3⟩:=UZ.out h;exact⟨d0,m0,E,aa,ul,h3,BM.out,h2⟩),HF.out,Z2.out,Z3.out,BM.out.lt⟩
    case round=>
     obtain⟨j,J,s,rfl,rfl,hK⟩:=hrel;obtain⟨y0,yF,y3,y4,y5⟩:=hK.out;clear hK UZ HF Z2 Z3 BM;cases J with
     |false=>
      have z5:=yF rfl
      have hRn:Hid (R=none):=by have h5:=K5.out;rw[z5] at h5;have h6:=G.out;rw[<-h5] at h6;exact h6.symm
      have Y4:=af y4;clear y0 yF z5 K5;by_cases K:j<4
      ·have L:(j:Int)<4:=by omega
       exact LX
      ·have L:¬(j:Int)<4:=by omega
       exact LX
     |true=>
      obtain⟨dj,mj,pj,hpj,tr,y1,y2,E'⟩:=y0 rfl;have cK:=y2.at 0 aa;rw[sub_one] at cK;clear y0 yF;by_cases K:j<4
      ·have L:(j:Int)<4:=by omega
       by_cases f:al mj 0=0
       ·rw[f] at cK;have z5:gi ap d=some (mj,dj):=by rw[E',YV f]
        exact Kn
       ·obtain⟨kd,M⟩:∃z,al mj 0=z:=⟨_,rfl⟩;rw[M] at cK f;have hkb:(kd !=0)=true:=by simp[f]
        have hL:=Z7 y1 aa;have wF:=af M;have hbs:=y1.nB;have qF:=y1.lt;have Io:=y1.ds.aT.2;have qL:=y1.ds.le;have Uw:=y1.ds.aT.1;clear y1 M;go_wp2;refine hL.mono ?_;intro e w8 hP;obtain⟨bb0,J,rfl,y,hT,hF,x8⟩:=Z9 hP;clear hL hP;have hs8:=x8.size;have z3:=y3.Aw x8 (λj s=>by have:=K4.out j s;simp;omega);have z4:=x8.toQ y4 (λj s=>by simp at s;omega);have hmg:mB≠g/\mB≠h:=aa;have bm6:=y2.aw x8 aA;have HT:=af hT;have HF:=af hF;have U0:=af E';clear hT hF x8 y2 y3 y4 E' cK;go_wp2_with(first|((refine di (n:=16) rfl _ _ _ rfl _ rfl _ _ aD (Nb.new 82 16 _ cU rfl) y cL ?_;intro w7 bb gb sb;rw[BE] at sb;have bm8:=(bm6.alloc (ac (arr cU) 82)).grown gb aA))|((with_reducible refine eQ (n:=16) rfl _ _ rfl _ rfl _ bb _ (Gz.gu underlying82) rfl cL ?_))|((refine ye (n:=71) rfl _ _ _ rfl _ (7+j*16) rfl _ _ aD bm8 (by rw[y];omega) (by rw[y];exact cL) ?_;intro w9 bp gp sp)));have q7:Q w8 w7:=((Q.refl _).alloc _).grown gb (λj e=>by have:=aL e;omega);have hs7:=q7.size;go_roundw
        case rel=>
         refine⟨j+1,J,aa,aH,rfl,λh=>?_,λh=>?_,(z3.q q7).other gp (.inr λe=>Fm.out _ e rfl),(z4.trans q7).grown gp (λx e=>by have:=aL e;omega),aa⟩
         ·obtain⟨d0,E,e1,e2,e3⟩:=HT.out h;refine⟨d0,_,E,aa,by rw[Q0.u0];exact tr,(e3.q q7).aw (av.dQ gp) (λx F=>by simp at F;omega) aA aA,bp,?_⟩;rw[U0.out,YT e2 (by rw[wF.out];exact f) K tr y,Nat.mul_comm 16 j]
         ·rw[U0.out,YU (HF.out h) (by rw[wF.out];exact f) K]
        case measure=>exact bg
      ·have agN:j=4:=by omega
       have L:¬(j:Int)<4:=aa;have z5:gi ap d=some (mj,dj):=by rw[E',agN,Z8 tr]
       exact Kn
   ·have hkN:k=N:=by omega
    subst hkN;rw[ajN,jm] at X;have hS:jm ap k (eu xs)=some acc:=by rw[<-X];simp[pU]
    have l:=G.out;rw[hS] at l;dsimp only at l;obtain⟨P,co,rfl⟩:=V.fS aa;have hE:=af λw'(h:az 85 71 w' w.heap.size (Y (some ⟨P,0,none⟩) k co) k acc)=>Xp ap k P co w.heap.size acc w' h aa aa;have Ux:=V.1
    have S:bytes ((ew ap acc k).getD []):=by cases hq:ew ap acc k with|none=>intro x F;cases F|some ys=>exact NN Ux aa aa hq
    rw[QU hb] at l;obtain⟨ys,qJ⟩:∃z,(ew ap acc k).getD []=z:=⟨_,rfl⟩;rw[qJ] at l S hE;have HYS:=af S;have U1:=af l;have I:=af V;have K3:=af W;have X3:=af (HX.out.q W hB);have wt:¬(k:Int)<(k:Int):=aa;have cC:=W.size;clear D V W k4 X K4 hS l S qJ aT G;have cD:=nZ (c:=c) (X3.out.q (Q.refl wr).drew aa) H.out;have U2:=OH ys xs;by_cases he:strOfNums ys=strOfNums xs
    ·rw[decide_eq_true he] at U2;have T:Hid (R=some acc):=by rw[Hid,<-U1.out,if_pos (OG HYS.out hb he)]
     clear he;go_wp2
     go_region_with (go_at_call 55;refine(hE.out _ (I.out.q xK)).mono ?_;rintro e w9⟨v9,rfl,o9,q9⟩;obtain⟨A9,c9,rfl⟩:=o9.form;have a:Q wr w9:=Q.trans xK q9;have cE:=nZ (c:=c9) o9.rd rfl;have cD9:=nZ (c:=c) (X3.out.q a aa) H.out;have k9:=K3.out.trans a;have K9:=af (I.out.q a))
     all_goals
      go_wp2;refine aiA (v:=dl #[Y (some ⟨P,0,none⟩) k co,a9 true]) xJ rfl ?_;rw[T.out];exact⟨⟨_,rfl,K9.out⟩,k9⟩
    ·rw[decide_eq_false he] at U2;have T:Hid (R=none):=by rw[Hid,<-U1.out,if_neg λh=>he (by rw[h])]
     clear he;go_wp2
     go_region_with (go_at_call 55;refine(hE.out _ (I.out.q xK)).mono ?_;rintro e w9⟨v9,rfl,o9,q9⟩;obtain⟨A9,c9,rfl⟩:=o9.form;have a:Q wr w9:=Q.trans xK q9;have cE:=nZ (c:=c9) o9.rd rfl;have cD9:=nZ (c:=c) (X3.out.q a aa) H.out;have k9:=K3.out.trans a;have K9:=af (I.out.q a))
     all_goals
      go_wp2;refine aiA (v:=dl #[Y (some ⟨w9.heap.size,0,none⟩) 0 0,a9 false]) xJ rfl ?_;rw[T.out];exact Dy rfl (k9.alloc _)
 ·rw[if_neg hm] at C;subst C;have hmf:Hid (decide (1<=many/\many<=4)=false):=decide_eq_false hm;clear hm;go_enter Gz.gf func32,ntmps32;go_wp2;refine(cj _ hmf).mono ?_;rintro e w'⟨rfl,rfl⟩;go_wp2;refine aiA (v:=dl #[Y (some ⟨w.heap.size,0,none⟩) 0 0,a9 false]) xJ rfl ?_;exact Dy rfl Z
end
end Go.Proofs.Q0
