import Derived.Test.YtfmnlpedhgficaaGreatDoorK27
set_option maxRecDepth 100000
set_option maxHeartbeats 8000000
set_option linter.all false
open Go.Value renaming int->U,slice->Y,bool->a5,agg->a9,pointer->bi,tuple->ci,iface->em
open Go.IntKind renaming i64->O
open Go.Obj renaming cells->ac
open Go.Ending renaming returned->be
open And renaming intro->Vn
open Bool renaming and_eq_true->aft,false->Bz,true->AT
open Go renaming Calls->aiK,Value->so,World->AS,bodyPost_ret->ajz
open Go.IntKind renaming i64->EV
open Go.World renaming cell?_setCell_other->alO,size_alloc->OF
open Int renaming toNat_natCast->ajW
open List renaming nil_append->akH,replicate->rl
open Option renaming none->ns,some->an
namespace Go.Proofs
def LZ{p:Prop}(h:p:=by rw[hS];exact((hK.out.to ((Q.refl _).drewN nq)).set i1 _ uB aa).set pt _ uB aa):p:=h
end Go.Proofs
namespace Go.Proofs.Q0
open Go.Proofs.Tryz
variable{w:AS}{xs ref:List Int}{B n W H:Nat}{A:Option Addr}{P3:so}{ls:List (List Int)}{q:Int}{I:Bool}
section
open Go.RowKit
def afT(W H:Int)(c:Nat)(F:Rd w B A xs)(S:B<=w.heap.size)(hn:Hid (xs.length=n))(h1:1<=n)(h2:n<=1024):
  aiK Gz.prog 45 #[a9 #[U O W,U O H,Y A n c]] w λe w'=>∃v,e=be (a9 #[U O W,U O H,v])/\Own w' w.heap.size v n xs/\Q w w':=by
 have p:Q w ((w.alloc (ac #[U O W,U O H,Y A n c] 40)).alloc (ac #[U O 0,U O 0,Y ns 0 0] 40)):=aU;have f:=(ak.new w 40 #[U O W,U O H,Y A n c]).alloc (ac #[U O 0,U O 0,Y ns 0 0] 40);have d0:=ak.new (w.alloc (ac #[U O W,U O H,Y A n c] 40)) 40 #[U O 0,U O 0,Y ns 0 0];rw[OF] at d0;have G:=F.q p S;obtain⟨g,o,rfl,T,hc⟩:=G oI;clear F G;obtain⟨i0,hi,t,hz1,hz2⟩:=info_parts vU;have l:((w.alloc (ac #[U O W,U O H,Y (an ⟨g,o,ns⟩) n c] 40)).alloc (ac #[U O 0,U O 0,Y ns 0 0] 40)).heap.size=w.heap.size+2:=aj;go_enter Gz.gf func45,ntmps45;go_wp2;generalize(w.alloc (ac #[U O W,U O H,Y (an ⟨g,o,ns⟩) n c] 40)).alloc (ac #[U O 0,U O 0,Y ns 0 0] 40)=d at p f d0 T hc l⊢;have y:g<d.heap.size:=aa;have V:=af hc;have X:=af p;clear hc p;refine fe (λZ=>∀i,Z.cell? ⟨w.heap.size,i,ns⟩=(#[U O W,U O H,Y (an ⟨g,o,ns⟩) n c]:Array so)[i]?) (λj=>decide (9<=j)) ah f.cell λhS=>?_;refine ai 0 (h:=ai 1 (h:=ai 2 (h:=ai 3 (h:=ai 5 (h:=ai 6 (h:=?_))))));refine bA (k:=4) ah rfl rfl λz a=>?_;go_simp;have r:Q d (d.alloc (ac #[] 3)).drew:=((Q.refl d).alloc _).drew;refine a.out _ _ ((f.q r).cell) λhS=>?_;clear a z;refine bh ?_;refine bA (k:=7) ah rfl rfl λz a=>?_;refine step_append_grows rfl _ _ _ rfl 3 i0 (U O 0) 1 8 (Gz.gu underlying38) hi t hz1 hz2 rfl al (an ⟨w.heap.size+2,0,ns⟩) 0 0 [] aD (λh=>by cases h) rfl (λ_ _ j u hu=>by simp at hu) ⟨g,o,ns⟩ n c (xs.map (.int .i64)) aD (by simp;exact hn.out) ?_ (λu hu=>by simp at hu;obtain⟨x,_,rfl⟩:=hu;rfl) aa kT aa ?_
 ·exact R8 (λi hi=>(r.cell g (o+i) y).trans (V.out i hi))
 intro v4 J b K;have m:(d.alloc (ac #[] 3)).drew.heap.size=w.heap.size+2+1:=by show(d.alloc (ac #[] 3)).heap.size=_;rw[OF,l]
 have C:Own J (w.heap.size+2) v4 n xs:=⟨hn.out,by
  have h:=b;simp only[Nat.zero_add,akH] at h;exact⟨h.1,h.2.imp id λ⟨g,D,E,e1,e2,e3⟩=>⟨g,D,E,e1,by rw[m] at e2;omega,e3⟩⟩⟩
 have s:Q d J:=r.trans (Q.iS K);obtain⟨M,N,rfl⟩:=C.form;have P:=f.q s;have d4:=d0.q s;have O4:=af C;have Q4:=af (X.out.trans s);refine a.out _ _ P.cell λhS=>?_;clear a z;refine bh ?_;refine ai 8 (h:=?_);clear b K C s r hS f d0 P;refine iB [9] 9 ah al rfl ?_;refine eP (cs':=#[U O W,U O H,Y M n N]) rfl _ _ _ rfl rfl _ rfl rfl d4 rfl fH ah ?_;intro w9 b9 R s9;go_wp2;have bc:=b9.cell;refine ajz (v:=a9 #[U O W,U O H,Y M n N]) (by simp[results,results45,go_sem,bc]) rfl ⟨_,rfl,(O4.out.az (au.dD R) aj).mono aa,Q4.out.grown R λk e=>by have:=aJ e;omega⟩
end
section
open Go.RowKit
structure jz(w wr:AS)(W H:Nat)(P3:so)(o g n c B:Nat)(xs:List Int):Prop where
 own:Own wr B (Y (an ⟨g,0,ns⟩) n c) n xs
 pb:ak wr w.heap.size 40 #[U O W,U O H,P3]
 rb:ak wr (w.heap.size+1) 40 #[U O 0,U O 0,Y ns 0 0]
 ob:ak wr o 40 #[U O W,U O H,Y (an ⟨g,0,ns⟩) n c]
 q:Q w wr
section
variable{w wr w':AS}{W H:Nat}{P3:so}{o g n c B:Nat}{xs:List Int}
def jz.to(h:jz w wr W H P3 o g n c B xs)(k:Q wr w'):jz w w' W H P3 o g n c B xs:=⟨h.own.q k,h.pb.q k,h.rb.q k,h.ob.q k,h.q.trans k⟩
def jz.set(h:jz w wr W H P3 o g n c B xs)(i:Nat)(v:Int)(b:w.heap.size+2<=B)(a:o≠g):jz w (wr.setCell ⟨g,i,ns⟩ (U O v)) W H P3 o g n c B (xs.set i v):=by have d:=h.own.block;exact⟨h.own.set i v,h.pb.aN (p:=⟨g,i,ns⟩) nz _,h.rb.aN (p:=⟨g,i,ns⟩) rU _,h.ob.aN (p:=⟨g,i,ns⟩) a _,h.q.set yG _⟩
end
def FO{L:Int}{es:List (Nat×Nat)}{p i0 i1 i3 st:Nat}(h:dm (du L es xs)=AT)(j:(du L es xs).length=n)(k:n=H*W)(e:kD W H (p,st))(h0:p=i0+2*st)(h1:p=i1+st)(f:p+st=i3):
  ∃a b c d:Int,(du L es xs)[i0]?.getD 0=a/\(du L es xs)[i1]?.getD 0=b/\(du L es xs)[p]?.getD 0=c/\(du L es xs)[i3]?.getD 0=d/\(0<=a/\a<=255)/\(0<=b/\b<=255)/\(0<=c/\c<=255)/\(0<=d/\d<=255)/\i3<n/\1<=st/\
   du L (es++[(p,st)]) xs=((du L es xs).set i1 (fM a b c d L)).set p (fN a b c d L):=by
 obtain⟨i,l,m,r⟩:=e;refine⟨_,_,_,_,rfl,rfl,rfl,rfl,pZ h _ aa,pZ h _ aa,pZ h _ aa,pZ h _ aa,aa,i,?_⟩;rw[abo];unfold tO;rw[show p-2*st=i0 by omega,show p-st=i1 by omega,f]
def abr(c:Nat)(q:Nat)(hx:Rd w B A xs)(hB:B<=w.heap.size)(hn:Hid (xs.length=n))(hp:bU W H xs=AT)(hq:q<16):
  aiK Gz.prog 31 #[a9 #[U O W,U O H,Y A n c],U O q] w λe w'=>∃v,e=be (a9 #[U O W,U O H,v])/\Own w' w.heap.size v n (du (fX q) (fY W H) xs)/\Q w w':=by
 have Z:Q w ((w.alloc (ac #[U O W,U O H,Y A n c] 40)).alloc (ac #[U O 0,U O 0,Y ns 0 0] 40)):=aU;have bp:=(ak.new w 40 #[U O W,U O H,Y A n c]).alloc (ac #[U O 0,U O 0,Y ns 0 0] 40);have br:=ak.new (w.alloc (ac #[U O W,U O H,Y A n c] 40)) 40 #[U O 0,U O 0,Y ns 0 0];rw[OF] at br;obtain⟨⟨p1,p2,p3⟩,⟨p4,p5,p6⟩,p7,p8⟩:=kg hp;have r:n=H*W:=BD p7 hn.out;have S':n<=1024:=by rw[r];exact gj (show H<=32 by omega) (show W<=32 by omega)
 have Il:64<=n:=by rw[r];exact gj (show 8<=H by omega) (show 8<=W by omega)
 have hL:=SV hq;have FL:=af λz=>Xg (q:Int) z rfl hq;have OK:Hid (∀es:List (Nat×Nat),es<+:fY W H->dm (du (fX q) es xs)=AT):=λes he=>FN (W:=W) (H:=H) (fX q) es p8 (by rw[hn.out];exact r) λp hp=>Bd aa aa (he.subset hp);have LN:Hid (∀es:List (Nat×Nat),(du (fX q) es xs).length=n):=λes=>(FM _ _ _).trans hn.out;have PV:=af λy k hy hk=>@PK W H y k hy hk;have PH:=af λy k hy hk=>@PL W H y k hy hk;have EE:Hid (fY W H=bK (dU W) ((W-1)/4) H 0++bK (gL W) ((H-1)/4) W 0):=rfl;obtain⟨m,hm⟩:∃m,(W-1)/4=m:=⟨_,rfl⟩;obtain⟨G,yr⟩:∃m,(H-1)/4=m:=⟨_,rfl⟩;rw[hm] at PV PH EE;rw[yr] at PH EE;generalize fX q=L at hL FL OK LN⊢;obtain⟨CO,CR⟩:=hL;have CP:=af (afT W H c (hx.q Z hB) (aI hB Z.size) hn aa S');have Do:=af r;have J0:=bp.lt;have J1:=br.lt;clear hx hp p7 p8 r;go_enter Gz.gf func31,ntmps31;go_wp2;refine CP.out.mono ?_;rintro e w1⟨v,rfl,o1,q1⟩;generalize((w.alloc (ac #[U O W,U O H,Y A n c] 40)).alloc (ac #[U O 0,U O 0,Y ns 0 0] 40))=u at Z bp br J0 J1 q1 o1;rcases o1.dE with⟨_,h0⟩|⟨g,j,rfl,rA,ut,_⟩
 ·omega
 have pm:=q1.size;have Cf:=Z.size
 have J:Hid (jz w (w1.alloc (ac #[U O W,U O H,Y (an ⟨g,0,ns⟩) n j] 40)) W H (Y A n c) w1.heap.size g n j u.heap.size xs):=
  ⟨o1.alloc _,(bp.q q1).alloc _,(br.q q1).alloc _,ak.new w1 _ _,(Z.trans q1).alloc _⟩
 have s:=J.out.pb.cell;have uB:w.heap.size+2<=u.heap.size:=aa;have xx:g<w1.heap.size:=ut;clear CP Z bp br q1 o1;go_wp2;generalize w1.alloc (ac #[U O W,U O H,Y (an ⟨g,0,ns⟩) n j] 40)=w2 at J s⊢;generalize w1.heap.size=o at J xx pm ut⊢;refine(FL.out _).mono ?_;rintro e w3⟨rfl,q3⟩;have D:Hid (jz w w3 W H (Y A n c) o g n j u.heap.size (du L (bK (dU W) m 0 0) xs)):=J.out.to q3;clear J q3 s FL;have s:=D.out.pb.cell;go_wp2;go_loopw[7] (λi wr=>∃y:Nat,y<=H/\i=U O y/\Hid (jz w wr W H (Y A n c) o g n j u.heap.size (du L (bK (dU W) m y 0) xs))) (λi _=>H-(intOf i).toNat)
 case atStart=>exact⟨0,aa,rfl,D.out⟩
 case round=>
  obtain⟨y,hy,rfl,hK⟩:=hrel;clear D s;have s:=hK.out.pb.cell;by_cases aV:y<H
  ·have JY:(y:Int)<H:=by omega
   obtain⟨E,CA⟩:∃z,y*W=z:=⟨_,rfl⟩;have JZ:E<=1024:=by rw[<-CA];exact gj (show y<=32 by omega) (show W<=32 by omega)
   have t1:EV.wrap ((y:Int)*(W:Int))=(E:Int):=yO;have D:=af hK.out;clear hK;go_wp2;go_loopw[8] (λi wr=>∃k F:Nat,k<=m/\F=4*(k+1)/\i=U O F/\Hid (jz w wr W H (Y A n c) o g n j u.heap.size (du L (bK (dU W) m y k) xs))) (λi _=>W+4-(intOf i).toNat)
   case atStart=>exact⟨0,4,aa,rfl,rfl,D.out⟩
   case round=>
    obtain⟨k,F,hk,M,rfl,hK⟩:=hrel;clear D s;have s:=hK.out.pb.cell;by_cases N:k<m
    ·have P:(F:Int)<W:=by omega
     have Wq:F<=32:=aa;obtain⟨pt,Fm⟩:∃z,E+F=z:=⟨_,rfl⟩;have f:dU W y k=(pt,1):=by unfold dU;rw[CA,<-M,Fm]
     have t2:EV.wrap ((E:Int)+(F:Int))=(pt:Int):=yP;obtain⟨i0,h0⟩:∃i0,pt=i0+2*1:=⟨pt-2,aa⟩;obtain⟨i1,h1⟩:∃i1,pt=i1+1:=⟨pt-1,aa⟩;obtain⟨i3,h3⟩:∃i3,pt+1=i3:=⟨_,rfl⟩;have pre:=PV.out y k aV N;have l:kD W H (pt,1):=by rw[<-f];exact Bd (by omega) (by omega) (pre.subset (by simp))
     obtain⟨a,b,c1,d,ea,eb,ec,ed,ba,bb,R,bd,S,_,hS⟩:=FO (OK.out _ ((List.prefix_append _ _).trans pre)) (LN.out (bK (dU W) m y k)) Do.out l h0 h1 h3;(have oc:=hK.out.ob.cell;have c0:=hK.out.own.at i0 aa;have T:=hK.out.own.at i1 aa;have c2:=hK.out.own.at pt aa;have c3:=hK.out.own.at i3 S;rw[ea] at c0;rw[eb] at T;rw[ec] at c2;rw[ed] at c3;have l0:(i0:Int)<(n:Int):=aa;have l1:(i1:Int)<(n:Int):=aa;have l2:(pt:Int)<(n:Int):=aa;have l3:(i3:Int)<(n:Int):=aa;have g0:¬(i1=pt):=aa;have UK:¬(pt=i1):=aa;have f1:=hK.out.own.free i1;have f2:=hK.out.own.free pt;have TF:=af λz=>LQ L z ba bb R bd ⟨CO,CR⟩;clear ea eb ec ed ba bb R bd pre l)
     have t3:EV.wrap ((pt:Int)-2)=(i0:Int):=by rw[show(pt:Int)-2=(i0:Int) by omega];exact aB _ ⟨by omega,by omega⟩
     have t4:EV.wrap ((pt:Int)-1)=(i1:Int):=by rw[show(pt:Int)-1=(i1:Int) by omega];exact aB _ ⟨by omega,by omega⟩
     have t5:EV.wrap ((pt:Int)+1)=(i3:Int):=by rw[show(pt:Int)+1=(i3:Int) by omega];exact aB _ ⟨by omega,by omega⟩
     rw[<-f,<-sO] at hS;have HS:=af hS
     have KS:Hid (∀nq,jz w (((wr.drewN nq).setCell ⟨g,i1,ns⟩ (U O (fM a b c1 d L))).setCell ⟨g,pt,ns⟩ (U O (fN a b c1 d L))) W H (Y A n c) o g n j u.heap.size (du L (bK (dU W) m y (k+1)) xs)):=λnq=>by exact LZ
     have V:=af M;clear hS hK f Fm M h0 h1 h3;go_wp2
     go_quiet((go_at_call 47;exact oN ((TF.out _).mono λ_ _ h=>⟨h.1,h.2.symm⟩)))
     clear t1 t2;go_wp2;go_roundw;case rel=>exact⟨k+1,F+4,aa,by have:=V.out;omega,aF,KS.out _⟩
     case measure=>exact aT
    ·have t:k=m:=by omega
     subst t;have P:¬((F:Int)<W):=aa;rw[<-sP] at hK;go_wp2;go_roundw;case rel=>exact⟨y+1,aa,aF,hK⟩
     case measure=>exact aT
  ·have pK:y=H:=by omega
   subst pK;have J:Hid (jz w wr W y (Y A n c) o g n j u.heap.size (du L (bK (dU W) m y 0++bK (gL W) G 0 0) xs)):=by rw[PE,List.append_nil];exact hK
   clear hK;go_wp2;go_loopw[12] (λi wr=>∃x:Nat,x<=W/\i=U O x/\Hid (jz w wr W y (Y A n c) o g n j u.heap.size (du L (bK (dU W) m y 0++bK (gL W) G x 0) xs))) (λi _=>W-(intOf i).toNat)
   case atStart=>exact⟨0,aa,rfl,J⟩
   case round=>
    obtain⟨x,hx,rfl,hK⟩:=hrel;clear J s;have s:=hK.out.pb.cell;by_cases tX:x<W
    ·have P:(x:Int)<W:=by omega
     have D:=af hK.out;clear hK;go_wp2;go_loopw[13] (λi wr=>∃k C:Nat,k<=G/\C=4*(k+1)/\i=U O C/\Hid (jz w wr W y (Y A n c) o g n j u.heap.size (du L (bK (dU W) m y 0++bK (gL W) G x k) xs))) (λi _=>y+4-(intOf i).toNat)
     case atStart=>exact⟨0,4,aa,rfl,rfl,D.out⟩
     case round=>
      obtain⟨k,C,hk,X,rfl,hK⟩:=hrel;clear D s;have s:=hK.out.pb.cell;by_cases N:k<G
      ·have JY:(C:Int)<y:=by omega
       have hyr:C<=32:=aa;obtain⟨E,CA⟩:∃z,C*W=z:=⟨_,rfl⟩;have JZ:E<=1024:=by rw[<-CA];exact gj (show C<=32 by omega) (show W<=32 by omega)
       have t1:EV.wrap ((C:Int)*(W:Int))=(E:Int):=yO;obtain⟨pt,Fm⟩:∃z,E+x=z:=⟨_,rfl⟩;have f:gL W x k=(pt,W):=by unfold gL;rw[<-X,CA,Fm]
       have t2:EV.wrap ((E:Int)+(x:Int))=(pt:Int):=yP;have pre:=PH.out x k tX N;have l:kD W y (pt,W):=by rw[<-f];exact Bd (by omega) (by omega) (pre.subset (by simp))
       have aih:2*W<=pt:=l.2.2.1;obtain⟨i0,h0⟩:∃i0,pt=i0+2*W:=⟨pt-2*W,aa⟩;obtain⟨i1,h1⟩:∃i1,pt=i1+W:=⟨pt-W,aa⟩;obtain⟨i3,h3⟩:∃i3,pt+W=i3:=⟨_,rfl⟩;obtain⟨a,b,c1,d,ea,eb,ec,ed,ba,bb,R,bd,S,_,hS⟩:=FO (OK.out _ ((List.prefix_append _ _).trans pre)) (LN.out (bK (dU W) m y 0++bK (gL W) G x k)) Do.out l h0 h1 h3;(have oc:=hK.out.ob.cell;have c0:=hK.out.own.at i0 aa;have T:=hK.out.own.at i1 aa;have c2:=hK.out.own.at pt aa;have c3:=hK.out.own.at i3 S;rw[ea] at c0;rw[eb] at T;rw[ec] at c2;rw[ed] at c3;have l0:(i0:Int)<(n:Int):=aa;have l1:(i1:Int)<(n:Int):=aa;have l2:(pt:Int)<(n:Int):=aa;have l3:(i3:Int)<(n:Int):=aa;have g0:¬(i1=pt):=aa;have UK:¬(pt=i1):=aa;have f1:=hK.out.own.free i1;have f2:=hK.out.own.free pt;have TF:=af λz=>LQ L z ba bb R bd ⟨CO,CR⟩;clear ea eb ec ed ba bb R bd pre l)
       have t6:EV.wrap (2*(W:Int))=((2*W:Nat):Int):=by rw[show 2*(W:Int)=((2*W:Nat):Int) by omega];exact aB _ ⟨by omega,by omega⟩
       obtain⟨Wr,K⟩:∃z,2*W=z:=⟨_,rfl⟩;rw[K] at t6;have t3:EV.wrap ((pt:Int)-(Wr:Int))=(i0:Int):=by rw[show(pt:Int)-(Wr:Int)=(i0:Int) by omega];exact aB _ ⟨by omega,by omega⟩
       have t4:EV.wrap ((pt:Int)-(W:Int))=(i1:Int):=by rw[show(pt:Int)-(W:Int)=(i1:Int) by omega];exact aB _ ⟨by omega,by omega⟩
       have t5:EV.wrap ((pt:Int)+(W:Int))=(i3:Int):=by rw[show(pt:Int)+(W:Int)=(i3:Int) by omega];exact aB _ ⟨by omega,by omega⟩
       rw[List.append_assoc,<-f,<-sO] at hS
       have KS:Hid (∀nq,jz w (((wr.drewN nq).setCell ⟨g,i1,ns⟩ (U O (fM a b c1 d L))).setCell ⟨g,pt,ns⟩ (U O (fN a b c1 d L))) W y (Y A n c) o g n j u.heap.size (du L (bK (dU W) m y 0++bK (gL W) G x (k+1)) xs)):=λnq=>by exact LZ
       have V:=af X;clear hS hK f Fm X h0 h1 h3 CA K aih;go_wp2
       go_quiet((go_at_call 47;exact oN ((TF.out _).mono λ_ _ h=>⟨h.1,h.2.symm⟩)))
       clear t1 t2;go_wp2;go_roundw;case rel=>exact⟨k+1,C+4,aa,by have:=V.out;omega,aF,KS.out _⟩
       case measure=>exact aT
      ·have t:k=G:=by omega
       subst t;have P:¬((C:Int)<y):=aa;rw[<-sP] at hK;go_wp2;go_roundw;case rel=>exact⟨x+1,aa,aF,hK⟩
       case measure=>exact aT
    ·have pJ:x=W:=by omega
     subst pJ;have oc:=hK.out.ob.cell;have k5:=hK.out.rb;go_wp2_with(refine eP (cs':=#[U O x,U O y,Y (an ⟨g,0,ns⟩) n j]) rfl _ _ _ rfl rfl _ rfl rfl k5 rfl fH ah ?_;intro w9 b9 g9 s9);have R:=b9.cell;refine ajz (v:=a9 #[U O x,U O y,Y (an ⟨g,0,ns⟩) n j]) (by simp[results,results31,go_sem,R]) rfl ⟨_,rfl,?_,hK.out.q.grown g9 λk e=>by have:=aJ e;omega⟩;rw[EE.out];exact(hK.out.own.az (au.dD g9) aA).mono aa
end
section
open Go.RowKit Go.WideShapes Go.ChangeShapes Go.Shelf
attribute [local go_sem] Oper.semAt_some
abbrev EE(W H:Nat):={p:Nat×Nat//kD W H p}
def jC{W H:Nat}(l:List (EE W H)):List (Nat×Nat):=l.map (·.1)
def FP(l:List (EE W H))(x:EE W H):jC (l++[x])=jC l++[x.1]:=by simp[jC]
theorem Zf(n:Nat)(m:1<=n){b:Nat}(p:W<=32)(r:H<=32)(t:W%4=0)(u:H%4=0)(i:ak w b 40 #[U O W,U O H,P3]):
  SeqStopsK Fence.wide n Gz.prog 83 #[bi (an ⟨b,0,ns⟩)] (λx:EE W H=>tP x.1) (Kb b) (λys=>jC ys=fY W H) (λpre=>jC pre<+:fY W H) (fY W H).length w:=λl J v y f z _ D h0=>by
 have:=afS m l b P3 p r (λpre w'=>∃a,jC a=pre/\J a w') (λpre w'=>∃a,jC a=pre/\v a w') y (λs A C row⟨j,e,h⟩ E F=>⟨j,e,z j A C row h E F⟩)
  (λpre x G⟨a,e,K⟩ k=>by
   have hm:x∈fY W H:=k.subset aj
   have M:a.length<(fY W H).length:=by
    have h1:=k.length_le;have d:a.length=pre.length:=by rw[<-e];simp[jC]
    rw[List.length_append,List.length_singleton] at h1;omega
   obtain⟨fn,tmps,assign,body,N,P⟩:=D a ⟨x,Bd t u hm⟩ G K M;refine⟨fn,tmps,assign,body,N,P.mono λR S h=>?_⟩;rcases h with⟨h1,d,Q⟩|⟨h1,d⟩
   ·exact .inl ⟨h1,⟨_,by rw[FP,e],d⟩,Q⟩
   ·exact .inr ⟨h1,_,by rw[FP,e],d⟩) ((f.block b i.lt).trans i) ⟨[],rfl,h0⟩
 exact KT
def ac7{i j d1 d2:Tmp}{assign body:Code}{g:Operand}{r:Exit->Act->AS->Prop}{a:Act}{b:Nat}(s:a.eval g=.func (.func 83) #[] #[bi (an ⟨b,0,ns⟩)])(u:b<w.heap.size)(y:ak w b 40 #[U O W,U O H,P3])(z:W<=32)(C:H<=32)(E:W%4=0)(F:H%4=0)
  (I:List (EE W H)->AS->Prop)(G:OwnFrom w.heap.size I)(h0:I [] w)
  (f:∀(l:Nat)(x:EE W H)(d:AS)(K:Act->AS->Prop),K {tmps:=(((a.tmps.setIfInBounds i (U O (x.1.1:Int))).setIfInBounds j (U O (x.1.2:Int))).setIfInBounds d1 (U O (x.1.1:Int))).setIfInBounds d2 (U O (x.1.2:Int)),defers:=[]} d->
   assign.wpIn (Fence.wide.inRound l) 1 Gz.prog (Exit.then K λ_ _ _=>False) {tmps:=(a.tmps.setIfInBounds i (U O (x.1.1:Int))).setIfInBounds j (U O (x.1.2:Int)),defers:=[]} d)
  (m:∀(l:Nat)(pre:List (EE W H))(x:EE W H)(d:AS),I pre d->pre.length<(fY W H).length->
   body.wpIn (Fence.wide.inRound l) 1 Gz.prog (ownPostG w.heap.size (Kb b) I (λ_ _ _=>False) (pre++[x]) d) {tmps:=(((a.tmps.setIfInBounds i (U O (x.1.1:Int))).setIfInBounds j (U O (x.1.2:Int))).setIfInBounds d1 (U O (x.1.1:Int))).setIfInBounds d2 (U O (x.1.2:Int)),defers:=[]} d)
  (k:∀(D:Nat)(ys:List (EE W H))(d:AS),w.heap.size<=D->jC ys=fY W H->I ys d->d.heap[D]?=an (.deferred (an []))->r .normal {a with defers:={target:=.collected D,args:=#[]}::a.defers} d):
  (Code.rangeFunc g #[i,j] assign body).wp Gz.prog r a w:=by
 refine wpIn_wide.1 (wpIn_rangeFunc_ownG (n:=3) rfl al (gf:=83) (lb:=#[bi (an ⟨b,0,ns⟩)]) s trivial (Gz.cl 83)
  (Zf 2 al z C E F y) Kb.t (Kb.b u) (Below.refl _ _) (λ_=>rfl) I (λ_ _ _=>False) G (λ_ _ _ _ _ J _ _=>J) h0
  (λx=>{tmps:=(((a.tmps.setIfInBounds i (U O (x.1.1:Int))).setIfInBounds j (U O (x.1.2:Int))).setIfInBounds d1 (U O (x.1.1:Int))).setIfInBounds d2 (U O (x.1.2:Int)),defers:=[]}) ?_ ?_ k λ_ _ _ _ _ _ h _=>h.elim)
 ·intro l x d K hK;have e:(#[i,j].zip (tP x.1)).foldl (λt(p,v)=>t.setIfInBounds p v) a.tmps=(a.tmps.setIfInBounds i (U O (x.1.1:Int))).setIfInBounds j (U O (x.1.2:Int)):=by simp[tP]
  rw[e];exact f l x d K hK
 ·omega
def Own.owned{v:so}{w':AS}{row:Option Nat}(h:Own w B v n xs)(f:w.grownBy w' row)(hr:∀r,row=an r->∃o:Obj,w.heap[r]?=an o/\o.isCells=Bz):Own w' B v n xs:=
 ⟨h.1,h.2.kept f (by
  rcases h.2.2 with⟨e,_⟩|⟨g,cap,i,e,_,hc,_⟩
  ·left;rw[e];rfl
  ·right
   intro b;rw[e] at b;obtain⟨o,d,a⟩:=hr g b.symm;rw[hc] at d;cases d;cases a)⟩
structure lJ(w wr:AS)(W H o1 o2 g n c B:Nat)(L:Int)(xs:List Int):Prop where
 own:Own wr B (Y (an ⟨g,0,ns⟩) n c) n xs
 rb:ak wr (w.heap.size+1) 40 #[U O 0,U O 0,Y ns 0 0]
 ob:ak wr o1 40 #[U O W,U O H,Y (an ⟨g,0,ns⟩) n c]
 lb:ak wr o2 3 #[U O L]
 q:Q w wr
section
variable{w wr w':AS}{W H o1 o2 g n c B:Nat}{L:Int}{xs:List Int}
def lJ.to(h:lJ w wr W H o1 o2 g n c B L xs)(k:Q wr w'):lJ w w' W H o1 o2 g n c B L xs:=⟨h.own.q k,h.rb.q k,h.ob.q k,h.lb.q k,h.q.trans k⟩
def lJ.row{row:Option Nat}(h:lJ w wr W H o1 o2 g n c B L xs)(a:wr.grownBy w' row)(hr:∀r,row=an r->w.heap.size<=r/\∃o:Obj,wr.heap[r]?=an o/\o.isCells=Bz):lJ w w' W H o1 o2 g n c B L xs:=
 ⟨h.own.owned a λr e=>(hr r e).2,h.rb.own a λr e=>(hr r e).2,h.ob.own a λr e=>(hr r e).2,h.lb.own a λr e=>(hr r e).2,h.q.grown a λr e=>(hr r e).1⟩
def lJ.set(h:lJ w wr W H o1 o2 g n c B L xs)(i:Nat)(v:Int)(b:w.heap.size+2<=B)(h1:o1≠g)(a:o2≠g):lJ w (wr.setCell ⟨g,i,ns⟩ (U O v)) W H o1 o2 g n c B L (xs.set i v):=by have d:=h.own.block;exact⟨h.own.set i v,h.rb.aN (p:=⟨g,i,ns⟩) rU _,h.ob.aN (p:=⟨g,i,ns⟩) h1 _,h.lb.aN (p:=⟨g,i,ns⟩) a _,h.q.set yG _⟩
end
def aaj(W H:Nat)(w:AS):
  aiK Gz.prog 60 #[a9 #[U O W,U O H,P3]] w λe w'=>e=be (.func (.func 83) #[] #[bi (an ⟨w.heap.size,0,ns⟩)])/\ak w' w.heap.size 40 #[U O W,U O H,P3]/\Q w w':=by
 have a:=ak.new w 40 #[U O W,U O H,P3];have b:Q w (w.alloc (ac #[U O W,U O H,P3] 40)):=(Q.refl w).alloc _;go_enter Gz.gf func60,ntmps60;go_wp2;go_ret;exact⟨rfl,a,b⟩
def aeR(c:Nat)(q:Nat)(hx:Rd w B A xs)(hB:B<=w.heap.size)(S:Hid (xs.length=n))(T:bU W H xs=AT)(hq:q<16)(hT:Tb w):
  aiK Gz.prog 36 #[a9 #[.int .i64 W,.int .i64 H,.slice A n c],.int .i64 q] w λe w'=>∃v,e=be (a9 #[.int .i64 W,.int .i64 H,v])/\Own w' w.heap.size v n (du (fX q) (fY W H) xs)/\Q w w':=by
 have N:Q w ((w.alloc (ac #[.int .i64 W,.int .i64 H,.slice A n c] 40)).alloc (ac #[.int .i64 0,.int .i64 0,.slice ns 0 0] 40)):=aU;have bp:=(ak.new w 40 #[.int .i64 W,.int .i64 H,.slice A n c]).alloc (ac #[.int .i64 0,.int .i64 0,.slice ns 0 0] 40);have V:=ak.new (w.alloc (ac #[.int .i64 W,.int .i64 H,.slice A n c] 40)) 40 #[.int .i64 0,.int .i64 0,.slice ns 0 0];rw[OF] at V;obtain⟨⟨p1,p2,p3⟩,⟨p4,p5,p6⟩,p7,p8⟩:=kg T;have u:n=H*W:=BD p7 S.out;have S':n<=1024:=by rw[u];exact gj (show H<=32 by omega) (show W<=32 by omega)
 have Il:64<=n:=by rw[u];exact gj (show 8<=H by omega) (show 8<=W by omega)
 have hL:=SV hq;have FL:=af λz(h:Tb z)=>Xf (q:Int) z h rfl hq;have OK:Hid (∀es:List (Nat×Nat),(∀p∈es,kD W H p)->dm (du (fX q) es xs)=AT):=λes he=>FN (W:=W) (H:=H) (fX q) es p8 (by rw[S.out];exact u) he;have LN:Hid (∀es:List (Nat×Nat),(du (fX q) es xs).length=n):=λes=>(FM _ _ _).trans S.out;generalize fX q=L at hL FL OK LN⊢;obtain⟨CO,CR⟩:=hL;have HX:=af (hx.q N hB);have HT:=af (hT.q N);have hPV:=af T;have HQ:Hid (decide (0<=(q:Int)/\(q:Int)<=15)=AT):=decide_eq_true aa;have Do:=af u;have J0:=bp.lt;have J1:=V.lt;have xH:=N.size;clear hx T p7 p8 u hT;refine(callsIn_wide (n:=3)).1 ?_;refine callsIn_of_wp_marks (Gz.gf func36) rfl trivial ?_ rfl;simp only[ntmps36,List.size_toArray,List.length_cons,List.length_nil,Nat.reduceAdd,Nat.reduceSub,Array.replicate_succ,Array.replicate_zero,List.push_toArray,List.append_toArray,akH,List.cons_append];refine wpIn_wide.2 ?_;go_wp2;generalize((w.alloc (ac #[.int .i64 W,.int .i64 H,.slice A n c] 40)).alloc (ac #[.int .i64 0,.int .i64 0,.slice ns 0 0] 40))=w0 at N bp V J0 J1 xH HX HT⊢;refine(CU c HX.out aa S aa hPV).mono ?_;rintro e P⟨rfl,q1⟩;go_wp2;refine(oQ P HQ).mono ?_;rintro e tY⟨rfl,rfl⟩;have pc:=(bp.q q1).cell;have pm:=q1.size;go_wp2;refine(clone W H A n c B xs P (HX.out.q q1 aa) aa S aa S').mono ?_;rintro e w2⟨v,rfl,o2,Z⟩;rcases o2.dE with⟨_,h0⟩|⟨g,y,rfl,rA,ut,_⟩
 ·omega
 have Cf:=Z.size;go_wp2;refine(FL.out w2 (HT.out.q (q1.trans Z))).mono ?_;rintro e w3⟨rfl,q3⟩;have ra:=q3.size;have qz:Q w w3:=((N.trans q1).trans Z).trans q3
 have K0:Hid (lJ w ((w3.alloc (ac #[.int .i64 W,.int .i64 H,.slice (an ⟨g,0,ns⟩) n y] 40)).alloc (ac #[.int .i64 L] 3)) W H w3.heap.size (w3.heap.size+1) g n y P.heap.size L xs):=
  ⟨((o2.q q3).alloc _).alloc _,((((V.q q1).q Z).q q3).alloc _).alloc _,(ak.new w3 _ _).alloc _,by have h:=ak.new (w3.alloc (ac #[.int .i64 W,.int .i64 H,.slice (an ⟨g,0,ns⟩) n y] 40)) 3 #[.int .i64 L];rw[OF] at h;exact h,(qz.alloc _).alloc _⟩
 have R:=K0.out.ob.cell;have lc:=K0.out.lb.cell;have ajj:g<w3.heap.size:=aa;have F:((w3.alloc (ac #[.int .i64 W,.int .i64 H,.slice (an ⟨g,0,ns⟩) n y] 40)).alloc (ac #[.int .i64 L] 3)).heap.size=w3.heap.size+2:=aj;clear N q1 Z q3 o2 V bp qz pc HX HT FL;go_wp2;generalize((w3.alloc (ac #[.int .i64 W,.int .i64 H,.slice (an ⟨g,0,ns⟩) n y] 40)).alloc (ac #[.int .i64 L] 3))=w5 at K0 R lc F⊢;refine(aaj W H w5).mono ?_;rintro e w6⟨rfl,G,q6⟩;rw[F] at G;have K6:=af (K0.out.to q6);have hb6:w3.heap.size+2<w6.heap.size:=G.lt;have uB:w.heap.size+2<=P.heap.size:=aa;clear K0 q6 R lc;go_wp2
 refine ac7 (d1:=7) (d2:=8) (b:=w3.heap.size+2) rfl hb6 G aa aa aa aa (λpre t=>lJ w t W H w3.heap.size (w3.heap.size+1) g n y P.heap.size L (du L (jC pre) xs)/\w6.heap.size<=t.heap.size)
  (λs X Y row⟨h1,h2⟩ hg hr=>⟨h1.row hg (λr e=>⟨by have:=(hr r e).1;omega,(hr r e).2⟩),aI h2 hg.size⟩) ⟨K6.out,av _⟩ ?assign ?body ?done
 case assign=>
  intro l x t K hK
  gi_wp2
  simpa using hK
 case body=>
  rintro l pre x t⟨hF,cM⟩ aV;simp only[List.setIfInBounds_toArray,List.set_cons_zero,List.set_cons_succ];obtain⟨⟨f,st⟩,E⟩:=x;dsimp only;have aii:=E;obtain⟨e1,e2,e3,e4⟩:=aii;dsimp only at e1 e2 e3 e4;obtain⟨i0,h0⟩:∃i0,f=i0+2*st:=⟨f-2*st,aa⟩;obtain⟨i1,h1⟩:∃i1,f=i1+st:=⟨f-st,aa⟩;obtain⟨i3,h3⟩:∃i3,f+st=i3:=⟨_,rfl⟩;have uM:=LN.out (jC pre);obtain⟨a,b,C,d,ea,eb,ec,ed,ba,bb,bc,bd,hi3,_,hS⟩:=FO (OK.out (jC pre) λp T=>by obtain⟨z,_,rfl⟩:=oR.1 T;exact z.2) uM Do.out E h0 h1 h3;have c0:=hF.own.at i0 aa;have c1':=hF.own.at i1 aa;have c2:=hF.own.at f aa;have c3:=hF.own.at i3 hi3;rw[ea] at c0;rw[eb] at c1';rw[ec] at c2;rw[ed] at c3;have l0:(i0:Int)<(n:Int):=aa;have l1:(i1:Int)<(n:Int):=aa;have l2:(f:Int)<(n:Int):=aa;have l3:(i3:Int)<(n:Int):=aa;have g0:¬(i1=f):=aa;have UK:¬(f=i1):=aa;have U':¬(i1=i0):=aa;have hn3:¬(i1=i3):=aa;have HOB:=af hF.ob;have HLB:=af hF.lb;have f1:=hF.own.free i1;have f2:=hF.own.free f;have R:=hF.ob.cell;have lc:t.cell? ⟨w3.heap.size+1,0,ns⟩=an (.int .i64 L):=hF.lb.cell 0;have TF:=af λz=>XT L z ba bb bc bd ⟨CO,CR⟩;obtain⟨s2,aij⟩:∃z,2*st=z:=⟨_,rfl⟩;have t6:EV.wrap (2*(st:Int))=(s2:Int):=by rw[show 2*(st:Int)=(s2:Int) by omega];exact aB _ ⟨by omega,by omega⟩
  have t3:EV.wrap ((f:Int)-(s2:Int))=(i0:Int):=by rw[show(f:Int)-(s2:Int)=(i0:Int) by omega];exact aB _ ⟨by omega,by omega⟩
  have t4:EV.wrap ((f:Int)-(st:Int))=(i1:Int):=by rw[show(f:Int)-(st:Int)=(i1:Int) by omega];exact aB _ ⟨by omega,by omega⟩
  have t5:EV.wrap ((f:Int)+(st:Int))=(i3:Int):=by rw[show(f:Int)+(st:Int)=(i3:Int) by omega];exact aB _ ⟨by omega,by omega⟩
  have uj:du L (jC (pre++[(⟨(f,st),E⟩:EE W H)])) xs=((du L (jC pre) xs).set i1 (fM a b C d L)).set f (fN a b C d L):=by rw[FP];exact hS
  have KS:Hid (∀w8,Q t w8->lJ w ((w8.setCell ⟨g,i1,ns⟩ (.int .i64 (fM a b C d L))).setCell ⟨g,f,ns⟩ (.int .i64 (fN a b C d L))) W H w3.heap.size (w3.heap.size+1) g n y P.heap.size L (du L (jC (pre++[(⟨(f,st),E⟩:EE W H)])) xs)):=λw8 hq8=>by rw[uj];exact((hF.to hq8).set i1 _ uB aa aa).set f _ uB aa aa
  clear ea eb ec ed ba bb bc bd hS uj h0 h1 h3 aij hF uM e1 e2 e3 e4
  gi_wp2
  refine DY (λJ=>∀i,J.cell? ⟨w3.heap.size,i,ns⟩=(#[.int .i64 W,.int .i64 H,.slice (an ⟨g,0,ns⟩) n y]:Array so)[i]?) (λ_=>Bz) ah ah (λ⟨_,_,h⟩=>h) R λhS=>?_;refine ai 0 (h:=ai 1 (h:=ai 2 (h:=ai 3 (h:=ai 4 (h:=ai 5 (h:=ai 6 (h:=ai 7 (h:=ai 8 (h:=ai 9 (h:=ai 10 (h:=ai 11 (h:=?_))))))))))));refine lT ah ?_ _;clear hS
  gi_wp2
  refine DY (λJ=>(∀i,J.cell? ⟨w3.heap.size,i,ns⟩=(#[.int .i64 W,.int .i64 H,.slice (an ⟨g,0,ns⟩) n y]:Array so)[i]?)/\J.cell? ⟨w3.heap.size+1,0,ns⟩=an (.int .i64 L)/\J.cell? ⟨g,i0,ns⟩=an (.int .i64 a)/\J.cell? ⟨g,f,ns⟩=an (.int .i64 C)/\J.cell? ⟨g,i3,ns⟩=an (.int .i64 d)) (λj=>decide (31<=j)) ah ah (λ⟨_,_,h⟩=>h) ⟨R,lc,c0,c2,c3⟩ λhS=>?_;refine ai 0 (h:=ai 1 (h:=ai 2 (h:=ai 3 (h:=ai 4 (h:=ai 5 (h:=ai 6 (h:=ai 7 (h:=ai 8 (h:=ai 9 (h:=ai 10 (h:=ai 11 (h:=ai 13 (h:=ai 14 (h:=ai 15 (h:=ai 16 (h:=ai 17 (h:=ai 18 (h:=ai 19 (h:=ai 20 (h:=ai 21 (h:=ai 22 (h:=ai 23 (h:=?_)))))))))))))))))))))));refine bA (k:=12) ah rfl rfl λM m=>?_;go_simp;refine m.out _ _ hS λhS=>?_;clear m M;refine bh ?_;refine bA (k:=24) ah rfl rfl λM m=>?_;go_simp;refine(TF.out _).mono ?_;rintro e wa⟨rfl,rfl⟩;refine m.out _ _ hS λhS=>?_;clear m M;refine bh ?_;refine ai 25 (h:=ai 26 (h:=ai 27 (h:=ai 28 (h:=?_))));refine bA (k:=29) ah rfl rfl λM m=>?_;go_simp;refine m.out _ _ ⟨(HOB.out.aN (p:=⟨g,i1,ns⟩) (by show w3.heap.size≠g;omega) _).cell,(HLB.out.aN (p:=⟨g,i1,ns⟩) (by show w3.heap.size+1≠g;omega) _).cell 0,?_,?_,?_⟩ (λhS=>?_)
  ·exact(alO t ⟨g,i1,ns⟩ ⟨g,i0,ns⟩ _ λe=>U' mO).trans c0
  ·exact(alO t ⟨g,i1,ns⟩ ⟨g,f,ns⟩ _ λe=>g0 mO).trans c2
  ·exact(alO t ⟨g,i1,ns⟩ ⟨g,i3,ns⟩ _ λe=>hn3 mO).trans c3
  clear m M;refine bh ?_;refine bA (k:=30) ah rfl rfl λM m=>?_;go_simp;refine m.out _ _ hS λhS=>?_;clear m M;refine bh ?_;refine iB [31] 31 ah al rfl ?_;have K9:=af (KS.out _ (((Q.refl t).drew).drew));have Vv:(((t.drew.drew).setCell ⟨g,i1,ns⟩ (.int .i64 (fM a b C d L))).setCell ⟨g,f,ns⟩ (.int .i64 (fN a b C d L))).heap.size=t.heap.size:=uU
  have KB:Hid (Kb (w3.heap.size+2) t (((t.drew.drew).setCell ⟨g,i1,ns⟩ (.int .i64 (fM a b C d L))).setCell ⟨g,f,ns⟩ (.int .i64 (fN a b C d L)))):=
   (jh _ ⟨g,f,ns⟩ _ _ (by show w3.heap.size+2≠g;omega)).trans (jh t ⟨g,i1,ns⟩ _ _ (by show w3.heap.size+2≠g;omega))
  have KO:Hid (KeepsOthers t (((t.drew.drew).setCell ⟨g,i1,ns⟩ (.int .i64 (fM a b C d L))).setCell ⟨g,f,ns⟩ (.int .i64 (fN a b C d L)))):=
   (((KeepsOthers.drew t).trans (KeepsOthers.drew _)).trans (vD _ _ _)).trans (vD _ _ _)
  clear hS;go_wp2;exact⟨KO.out.from _,KB.out,K9.out,aI cM (nC Vv.symm)⟩
 case done=>
  rintro D ys t hD ry⟨hF,cM⟩ Ws;have k5:=hF.rb;have R:=hF.ob.cell;have HF:=af hF;clear hF;go_wp2_with(refine eP (cs':=#[.int .i64 W,.int .i64 H,.slice (an ⟨g,0,ns⟩) n y]) rfl _ _ _ rfl rfl _ rfl rfl k5 rfl fH ah ?_;intro w9 b9 g9 s9);have Wt:w9.heap[D]?=an (.deferred (an [])):=(g9.block D (bE.1 Ws).1 λe=>by have:=aJ e;omega).trans Ws;refine⟨aj,.inl ⟨_,_,rfl,run_takeDeferred Wt,?_⟩⟩;have gz:=grownBy_putObj' w9 D (.deferred ns);have hDs:∀r,an D=an r->∃o:Obj,w9.heap[r]?=an o/\o.isCells=Bz:=λr e=>by cases e;exact⟨_,Wt,rfl⟩
  have bc:=(b9.grown gz λe=>by have:=aJ e;omega).cell;have o9:=HF.out.own.az (au.dD g9) aA;have oz:=o9.owned gz hDs;have qz:=(HF.out.q.grown g9 λk e=>by have:=aJ e;omega).grown gz (λk e=>by have:=aJ e;omega);rw[ry] at oz;generalize w9.putObj D (.deferred ns)=wz at bc oz qz⊢;refine⟨a9 #[.int .i64 W,.int .i64 H,.slice (an ⟨g,0,ns⟩) n y],by simp[results,results36,go_sem,bc],_,rfl,oz.mono aa,qz⟩
end
section
open Go.RowKit Go.WideShapes Go.ChangeShapes
def OA{W H:Int}{RW a:Int}(h:dv W H I q ls RW a ref=AT):iK W H q ls.length=AT/\iY I W H RW a ref=AT/\∀i,i<ls.length->∃L,fj (aR ls i) (W/8) I=an L:=by unfold dv at h;rw[aft,aft,List.all_eq_true] at h;exact⟨h.1,h.2.1,λi hi=>pO.1 (h.2.2 i (fR.2 hi))⟩
def AB{W H:Int}:(lH W H I q ls ref).length=W.toNat*H.toNat:=by unfold lH;rw[z8,List.length_replicate]
def QN(b:gR W)(d:gR H):bU W H (lH W H I q ls ref)=AT:=by
 have a:=EJ b d (W*H) rfl
 exact qo a (by rw[AB,List.length_replicate,ajW,ajW]) (by
  exact Aa W H ref _ q (kg a).2.2.2 _)
def XY(W H:Int)(I:Bool)(q:Int){u:Option Addr}(c:Nat){t:Nat}(x:Nat){B':Nat}(RW j:Int){a1 a2:Addr}(hx:dH w B A ls)(M:B<=w.heap.size)(hn:ls.length=n)(he:gw w a1 a2 B)(k1:dz w a1)(k2:dz w a2)(N:Tb w)
  (hr:Rd w B' u ref)(y:B'<=w.heap.size)(z:ref.length=t)(P:t<=9223372036854775807):
  aiK Gz.prog 21 #[a9 (#[U O W,U O H,a5 I,U O q,Y A n c]:Array so),a9 (#[U O RW,U O j,Y u t x]:Array so)] w λe w'=>Q w w'/\(dv W H I q ls RW j ref=AT->∃v,e=be (ci #[a9 #[U O W,U O H,v],a5 AT])/\Own w' w.heap.size v (W.toNat*H.toNat) (jy W H I q ls ref))/\(dv W H I q ls RW j ref=Bz->e=be (ci #[a9 (#[U O 0,U O 0,Y ns 0 0]:Array so),a5 Bz])):=by
 have d:Q w (((w.alloc (ac (#[U O W,U O H,a5 I,U O q,Y A n c]:Array so) 44)).alloc (ac (#[U O RW,U O j,Y u t x]:Array so) 40)).alloc (ac (#[U O 0,U O 0,Y ns 0 0]:Array so) 40)):=aU;have p:=((ak.new w 44 (#[U O W,U O H,a5 I,U O q,Y A n c]:Array so)).alloc (ac (#[U O RW,U O j,Y u t x]:Array so) 40)).alloc (ac (#[U O 0,U O 0,Y ns 0 0]:Array so) 40);have C:=ak.new ((w.alloc (ac (#[U O W,U O H,a5 I,U O q,Y A n c]:Array so) 44)).alloc (ac (#[U O RW,U O j,Y u t x]:Array so) 40)) 40 (#[U O 0,U O 0,Y ns 0 0]:Array so);simp only[OF] at C;have G:=af (Xi W H I q c x RW j (hx.q d M) (aI M d.size) hn (he.q d M) (k1.q d) (k2.q d) (N.q d) (hr.q d y) (aI y d.size) z P);have HT:=af N;clear hx hn he k1 k2 N hr z;go_enter Gz.gf func21,ntmps21;go_wp2;cases r:dv W H I q ls RW j ref with
 |false=>refine G.out.mono ?_;rintro e w1⟨q1,_,h2⟩;have he:=h2 r;subst he;have f:=(C.q q1).alloc (ac (#[U O 0,U O 0,Y ns 0 0]:Array so) 40);have J:=af ((d.trans q1).alloc (ac (#[U O 0,U O 0,Y ns 0 0]:Array so) 40));have HV:=af r;clear p C d q1 h2 G r;go_wp2_with(refine eP (cs':=(#[U O 0,U O 0,Y ns 0 0]:Array so)) rfl _ _ _ rfl rfl _ rfl rfl f rfl fH ah ?_;intro w9 R K s9);have p:=R.cell;exact ajz (v:=ci #[a9 (#[U O 0,U O 0,Y ns 0 0]:Array so),a5 Bz]) (by simp[results,results21,go_sem,p]) rfl ⟨J.out.grown K (λk e=>by have:=aJ e;omega),λh=>Dc,λ_=>rfl⟩
 |true=>
  obtain⟨hs,_,_⟩:=OA r;obtain⟨S,T,⟨Wo,Wp⟩,yg⟩:=oT hs;obtain⟨a,rfl⟩:∃k:Nat,W=(k:Int):=⟨W.toNat,by have:=S.1;omega⟩;obtain⟨b,rfl⟩:∃k:Nat,H=(k:Int):=⟨H.toNat,by have:=T.1;omega⟩;obtain⟨s,rfl⟩:∃k:Nat,q=(k:Int):=⟨q.toNat,aa⟩;have l:=QN (I:=I) (q:=s) (ls:=ls) (ref:=ref) S T;have i:=AB (W:=a) (H:=b) (I:=I) (q:=s) (ls:=ls) (ref:=ref);rw[ajW,ajW] at i;have V:=S;have X:=T;obtain⟨u1,u2,u3⟩:=V;obtain⟨v1,v2,v3⟩:=X;have Z:64<=a*b:=gj (show 8<=a by omega) (show 8<=b by omega);refine G.out.mono ?_;rintro e w1⟨q1,h1,_⟩;obtain⟨v,rfl,o1⟩:=h1 r;rw[ajW,ajW] at o1;have D:Hid (jy (a:Int) (b:Int) I (s:Int) ls ref=du (fX s) (fY a b) (lH (a:Int) (b:Int) I (s:Int) ls ref)):=rfl;generalize lH (a:Int) (b:Int) I (s:Int) ls ref=xs at o1 l i D;obtain⟨m,hm⟩:∃m,a*b=m:=⟨_,rfl⟩;rw[hm] at o1 i Z;have HM:Hid ((a:Int).toNat*(b:Int).toNat=m):=hm;have HV:=af r;clear hm;rcases o1.dE with⟨_,h0⟩|⟨g,E,rfl,rA,ut,_⟩
  ·omega
  have Vb:((m:Int)==0)=Bz:=vi;have f:=(C.q q1).alloc (ac #[U O a,U O b,Y (an ⟨g,0,ns⟩) m E] 40);have bc2:=(p.q q1).alloc (ac #[U O a,U O b,Y (an ⟨g,0,ns⟩) m E] 40);have qz:=(d.trans q1).alloc (ac #[U O a,U O b,Y (an ⟨g,0,ns⟩) m E] 40);have o2:=o1.alloc (ac #[U O a,U O b,Y (an ⟨g,0,ns⟩) m E] 40);have F:=af (aeR E s o2.rd (av _) i l aa (HT.out.q qz));have cc:=bc2.cell;have J:=af qz;have Vj:=f.lt;clear p C d q1 h1 G r bc2 qz o2 o1 hs;go_wp2;refine F.out.mono ?_;rintro e w3⟨v,rfl,o3,q3⟩;have JX:=f.q q3;have cM:=J.out.size;obtain⟨Av,cv,rfl⟩:=o3.form;clear F f;go_wp2_with(refine eP (cs':=#[U O a,U O b,Y Av m cv]) rfl _ _ _ rfl rfl _ rfl rfl JX rfl fH ah ?_;intro w9 R K s9);have p:=R.cell;exact ajz (v:=ci #[a9 #[U O a,U O b,Y Av m cv],a5 AT]) (by simp[results,results21,go_sem,p]) rfl ⟨(J.out.trans q3).grown K (λk e=>by have:=aJ e;omega),λ_=>⟨_,rfl,by rw[D.out,HM.out];exact(o3.az (au.dD K) λg hg=>by simp only[List.mem_singleton] at hg;subst hg;exact Vj).mono cM⟩,λh=>by rw[HV.out] at h;cases h⟩
end
section
open Go.RowKit Go.WideShapes Go.ChangeShapes
def Xw{W H:Int}(I:Bool)(c:Nat){cnt:Nat}{s:Bool}(P:iK W H q n=s)(hx:dH w B A ls)(hB:B<=w.heap.size)(hn:ls.length=n)(hm:n<=9223372036854775807)(r:∀i,i<n->bytes (aR ls i))(u:s=AT->W/8=(cnt:Int)/\cnt<=4):
  aiK Gz.prog 29 #[a9 (#[U O W,U O H,a5 I,U O q,Y A n c]:Array so)] w λe w'=>Q w w'/\((e=be (a5 AT)/\s=AT/\∀i,i<n->∃L,jv (aR ls i) cnt I=an L)\/(e=be (a5 Bz)/\(s=AT->∃i,i<n/\jv (aR ls i) cnt I=ns))):=by
 have S:Q w (w.alloc (ac (#[U O W,U O H,a5 I,U O q,Y A n c]:Array so) 44)):=aU;have bc:=ak.new w 44 (#[U O W,U O H,a5 I,U O q,Y A n c]:Array so);have T:=af λz=>adD W H I q A n c z;rw[P] at T;have x:s=AT->8<=W/\W<=32:=λh=>by rw[h] at P;have:=(oT P).1;exact⟨this.1,this.2.1⟩
 clear P;have HX:=af hx;have HN:=af hn;have V:=af r;clear hx hn r;cases s with
 |false=>go_enter Gz.gf func29,ntmps29;go_wp2;refine(T.out _).mono ?_;rintro e X⟨rfl,q1⟩;go_wp2;go_ret;exact⟨S.trans q1,.inr ⟨rfl,λh=>by cases h⟩⟩
 |true=>
  obtain⟨Z,y⟩:=u rfl;obtain⟨w8,JK⟩:=x rfl;have hwt:W.tdiv 8=(cnt:Int):=by rw[Int.tdiv_eq_ediv_of_nonneg (by omega)];exact Z
  clear u x;have Jt:EV.wrap (cnt:Int)=(cnt:Int):=aB _ ⟨aa,aa⟩;go_enter Gz.gf func29,ntmps29;go_wp2;refine(T.out _).mono ?_;rintro e X⟨rfl,q1⟩;have K0:Hid (Q w X/\ak X w.heap.size 44 (#[U O W,U O H,a5 I,U O q,Y A n c]:Array so)):=⟨S.trans q1,bc.q q1⟩;clear S bc q1 T;go_wp2;go_loopw[3] (λi wr=>∃k:Nat,k<=n/\i=U O k/\Hid (Q w wr/\ak wr w.heap.size 44 (#[U O W,U O H,a5 I,U O q,Y A n c]:Array so))/\Hid (∀l,l<k->∃L,jv (aR ls l) cnt I=an L)) (λi _=>n-(intOf i).toNat)
  case atStart=>exact⟨0,aa,rfl,K0,λl h=>absurd h aa⟩
  case round=>
   obtain⟨k,hk,rfl,hK,C⟩:=hrel;clear K0;have oc:=hK.out.2.cell;by_cases D:k<n
   ·have i6:(k:Int)<n:=by omega
    obtain⟨b,o,rfl,hb,hc⟩:=HX.out eD;obtain⟨A1,c1,E,F,um,y⟩:=hc k eD;have p:=hK.out.1;have Wc:=p.size;have sc:wr.cell? ⟨b,o+k,ns⟩=an (Y A1 (aR ls k).length c1):=(p.cell b (o+k) aa).trans E;have G:=af (Ni A1 c1 B cnt I wr.drew ((F.q p hB).q (Q.refl _).drew aa) rfl ⟨um,y⟩ (by show B<=wr.heap.size;omega) (V.out k D));clear p hc E F;go_wp2;refine fe (λww=>(∀i,ww.cell? ⟨w.heap.size,i,ns⟩=(#[U O W,U O H,a5 I,U O q,Y (an ⟨b,o,ns⟩) n c]:Array so)[i]?)/\ww.cell? ⟨b,o+k,ns⟩=an (Y A1 (aR ls k).length c1)) (λ_=>Bz) ah ⟨oc,sc⟩ λhS=>?_;refine ai 0 (h:=ai 1 (h:=ai 2 (h:=ai 3 (h:=ai 4 (h:=ai 5 (h:=ai 6 (h:=ai 7 (h:=ai 8 (h:=ai 9 (h:=?_))))))))));refine bA (k:=10) ah rfl rfl λK2 J=>?_;go_simp;refine G.out.mono ?_;rintro e R hd
    obtain⟨vv,t,he,K,M,q5⟩:∃vv t,e=be (ci #[vv,a5 t])/\(t=AT->∃L,jv (aR ls k) cnt I=an L)/\(t=Bz->jv (aR ls k) cnt I=ns)/\Q wr.drew R:=by obtain⟨d1,d2⟩:=hd;cases hR:jv (aR ls k) cnt I with|none=>rw[hR] at d1;obtain⟨A,m,c,e⟩:=d1;exact⟨_,_,e,λh=>(by cases h),λ_=>rfl,d2⟩|some L=>rw[hR] at d1;obtain⟨v,e,_⟩:=d1;exact⟨_,_,e,λ_=>⟨L,rfl⟩,λh=>(by cases h),d2⟩
    subst he;have a:Q wr R:=(Q.refl wr).drew.trans q5;have oc:=(hK.out.2.q a).cell;have J2:b<wr.heap.size:=aa;refine J.out _ _ ⟨oc,(a.cell b (o+k) J2).trans sc⟩ λhS=>?_;clear J K2;refine bh ?_;refine ai 11 (h:=ai 12 (h:=ai 13 (h:=ai 14 (h:=ai 15 (h:=?_)))));refine lT ah ?_ _;have K5:Hid (Q w R/\ak R w.heap.size 44 (#[U O W,U O H,a5 I,U O q,Y (an ⟨b,o,ns⟩) n c]:Array so)):=⟨hK.out.1.trans a,hK.out.2.q a⟩;have d:=af K;have f:=af M;clear hS G hK q5 a sc K M hd;cases t with
    |false=>have N:=f.out rfl;have j:=af N;clear N d f;go_wp2;go_ret;exact⟨K5.out.1,.inr ⟨rfl,λ_=>⟨k,D,j.out⟩⟩⟩
    |true=>
     have N:=d.out rfl;have j:=af N;clear N d f;go_wp2;go_roundw
     case rel=>
      refine⟨k+1,aa,aF,K5,λl hl=>?_⟩;by_cases h:l<k
      ·exact C.out l h
      ·obtain rfl:l=k:=by omega
       exact j.out
     case measure=>exact aT
   ·have jn:k=n:=by omega
    subst jn;have p:=af hK.out.1;clear hK;go_wp2;go_ret;exact⟨p.out,.inl ⟨rfl,trivial,C.out⟩⟩
end
section
open Go.RowKit
def Zg(W H n t E B' d cs cnt Bc:Nat)(A F:Option Addr)(I:Bool)(ls:List (List Int))(l:Nat->List Int)(ref:List Int)(q RW u:Int)(w:AS)(hW:gR W)(hH:gR H)(hn:n=W*H)(n1:n<=1024)(CN:cnt*8=W)(hrH:d*8<=H)(yq:B'<=w.heap.size)(hT:Tb w)(hq:qB q=AT)
  (hx:dH w Bc A ls)(hBc:Bc<=w.heap.size)(Wu:ls.length=d)(Fr:∀i,i<d->bytes (aR ls i))(G:∀i,i<d->jv (aR ls i) cnt I=an (l i))
  (Wv:∀i k,i<d->k<cnt->dt (aO (l i) k)=AT)(V':Rd w B' F ref)(hr:(∃i k,i<d/\k<cnt/\nth (aO (l i) k) 0≠2)->RW=W/\u=H/\ref.length=t/\bU W H ref=AT):
  aiK Gz.prog 32 #[a9 (#[U O W,U O H,a5 I,U O q,Y A d cs]:Array so),a9 (#[U O RW,U O u,Y F t E]:Array so)] w λe w'=>∃v,e=be (a9 #[U O W,U O H,v])/\Own w' w.heap.size v n (iJ W H ref l q d (rl n 128))/\Q w w':=by
 have hp:=EJ hW hH n hn;obtain⟨⟨p1,p2,p3⟩,⟨p4,p5,p6⟩,p7,p8⟩:=kg hp;have rL:=af λk=>qo hp (z8 W H ref l q (rl n 128) k) (Aa W H ref l q p8 k);have J:Q w (((w.alloc (ac (#[U O W,U O H,a5 I,U O q,Y A d cs]:Array so) 44)).alloc (ac (#[U O RW,U O u,Y F t E]:Array so) 40)).alloc (ac #[U O 0,U O 0,Y ns 0 0] 40)):=aU;have K:=((ak.new w 44 (#[U O W,U O H,a5 I,U O q,Y A d cs]:Array so)).alloc (ac (#[U O RW,U O u,Y F t E]:Array so) 40)).alloc (ac #[U O 0,U O 0,Y ns 0 0] 40);have M:=(ak.new (w.alloc (ac (#[U O W,U O H,a5 I,U O q,Y A d cs]:Array so) 44)) 40 (#[U O RW,U O u,Y F t E]:Array so)).alloc (ac #[U O 0,U O 0,Y ns 0 0] 40);have r:=ak.new ((w.alloc (ac (#[U O W,U O H,a5 I,U O q,Y A d cs]:Array so) 44)).alloc (ac (#[U O RW,U O u,Y F t E]:Array so) 40)) 40 #[U O 0,U O 0,Y ns 0 0];simp only[OF] at M r;have Ww:(W:Int)*(H:Int)=(n:Int):=by rw[hn,Int.natCast_mul]
 have NP:=af (λz=>Xv 128 z hW hH (show(0:Int)<=128/\(128:Int)<=255 by omega) Ww n1);have Il:64<=n:=by rw[hn];exact gj (show 8<=W by omega) (show 8<=H by omega)
 have HX:=af hx;have S:=af Wu;have Wx:=af Fr;have N:=af G;have HR:=af hr;have Cl:=af Wv;have Wy:=af V';have HT:=af hT;have JQ:Hid (cnt=W/8):=by unfold Hid;omega
 have T:1<=cnt:=aa;have x:(W:Int)/8=(cnt:Int):=aa;have y:EV.wrap (cnt:Int)=(cnt:Int):=aB _ ⟨aa,aa⟩;have HW8:=af (Vn x y);replace CN:cnt*8<=W:=aa;clear hx Wu Fr G hr Wv V' hT hp p7 p8 hn Ww x y;go_enter Gz.gf func32,ntmps32;go_wp2;generalize(((w.alloc (ac (#[U O W,U O H,a5 I,U O q,Y A d cs]:Array so) 44)).alloc (ac (#[U O RW,U O u,Y F t E]:Array so) 40)).alloc (ac #[U O 0,U O 0,Y ns 0 0] 40))=w0 at J K M r⊢;have mt:=r.lt;refine(NP.out _).mono ?_;rintro e P⟨v,rfl,o1,q1⟩;have xH:=J.size;rcases o1.dE with⟨_,h0⟩|⟨g,c,rfl,rA,ut,_⟩
 ·omega
 replace J:=J.trans q1;replace K:=K.q q1;replace M:=M.q q1;replace r:=r.q q1;have hz:=r.lt;have bp:ak (P.alloc (ac (#[U O W,U O H,Y (an ⟨g,0,ns⟩) n c]:Array so) 40)) P.heap.size 40 (#[U O W,U O H,Y (an ⟨g,0,ns⟩) n c]:Array so):=ak.new P _ _;replace J:=J.alloc (ac (#[U O W,U O H,Y (an ⟨g,0,ns⟩) n c]:Array so) 40);replace K:=K.alloc (ac (#[U O W,U O H,Y (an ⟨g,0,ns⟩) n c]:Array so) 40);replace M:=M.alloc (ac (#[U O W,U O H,Y (an ⟨g,0,ns⟩) n c]:Array so) 40);replace r:=r.alloc (ac (#[U O W,U O H,Y (an ⟨g,0,ns⟩) n c]:Array so) 40);replace o1:=o1.alloc (ac (#[U O W,U O H,Y (an ⟨g,0,ns⟩) n c]:Array so) 40);have V:=K.cell;have CJ:P.heap.size<(P.alloc (ac (#[U O W,U O H,Y (an ⟨g,0,ns⟩) n c]:Array so) 40)).heap.size:=by rw[OF];omega
 have K0:=af (Vn o1 (Vn J (Vn K (Vn M (Vn r bp)))));have kc:w.heap.size<=g:=aa;clear q1 NP o1 J K M r bp;have aif:w.heap.size+3<=w0.heap.size:=aa;have JR:g<P.heap.size:=ut;go_wp2;generalize P.alloc (ac (#[U O W,U O H,Y (an ⟨g,0,ns⟩) n c]:Array so) 40)=w2 at K0 V CJ⊢;generalize P.heap.size=p0 at K0 JR CJ⊢;clear hz V ut;go_loopw[6] (λi wr=>∃k:Nat,k<=d/\i=U O k/\Hid (Own wr w0.heap.size (Y (an ⟨g,0,ns⟩) n c) n (iJ W H ref l q k (rl n 128))/\Q w wr/\ak wr w.heap.size 44 (#[U O W,U O H,a5 I,U O q,Y A d cs]:Array so)/\ak wr (w.heap.size+1) 40 (#[U O RW,U O u,Y F t E]:Array so)/\ak wr (w.heap.size+1+1) 40 #[U O 0,U O 0,Y ns 0 0]/\ak wr p0 40 (#[U O W,U O H,Y (an ⟨g,0,ns⟩) n c]:Array so))) (λi _=>d-(intOf i).toNat)
 case atStart=>exact⟨0,aa,rfl,K0.out⟩
 case round=>
  obtain⟨k,hk,rfl,hK⟩:=hrel;obtain⟨R,f,s,m,C,p⟩:=hK.out;clear hK K0;have V:=s.cell;by_cases D:k<d
  ·have i6:(k:Int)<d:=by omega
   have rc:=m.cell;have pc:=p.cell;obtain⟨b,o,rfl,hb,hc⟩:=HX.out (by rw[S.out];omega);obtain⟨A1,c1,T,Nm,um,NE⟩:=hc k (by rw[S.out];omega);have sc:wr.cell? ⟨b,o+k,ns⟩=an (Y A1 (aR ls k).length c1):=(f.cell b (o+k) aa).trans T;have HS:Hid (iJ W H ref l q (k+1) (rl n 128)=iu W H ref k (l k) q (W/8) (iJ W H ref l q k (rl n 128))):=rfl;have Wz:=af (rL.out k);generalize iJ W H ref l q k (rl n 128)=ys at R HS Wz;have X:=af (Ni A1 c1 Bc cnt I wr.drew ((Nm.q f hBc).q (Q.refl _).drew (by have:=f.size;omega)) rfl ⟨um,NE⟩ (by show Bc<=wr.heap.size;have:=f.size;omega) (Wx.out k D));rw[N.out k D] at X;have KK:=af (Vn R (Vn f (Vn s (Vn m (Vn C p)))));obtain⟨x,y⟩:=HW8.out;clear R f s m C p hc T Nm;go_wp2;refine fe (λww=>(∀i,ww.cell? ⟨w.heap.size,i,ns⟩=(#[U O W,U O H,a5 I,U O q,Y (an ⟨b,o,ns⟩) d cs]:Array so)[i]?)/\ww.cell? ⟨b,o+k,ns⟩=an (Y A1 (aR ls k).length c1)) (λ_=>Bz) ah ⟨V,sc⟩ λhS=>?_;refine ai 0 (h:=ai 1 (h:=ai 2 (h:=ai 3 (h:=ai 4 (h:=ai 5 (h:=ai 6 (h:=ai 7 (h:=ai 8 (h:=ai 9 (h:=?_))))))))));refine bA (k:=10) ah rfl rfl λK2 DE=>?_;go_simp;refine X.out.mono ?_;rintro e w5⟨⟨v,rfl,oL⟩,q5⟩;rw[ajW] at oL;obtain⟨gl,cl,rfl⟩:=oL.gC aa;obtain⟨R,f,s,m,C,p⟩:=KK.out;have a:Q wr w5:=(Q.refl wr).drew.trans q5;have uv:=oL.below gl rfl;have rx:=R.block;have g0:gl≠g:=by have h9:wr.heap.size<=gl:=uv;omega
   have V:=(s.q a).cell;have J2:b<wr.heap.size:=by have:=f.size;omega
   have sc:=(a.cell b (o+k) J2).trans sc;refine DE.out _ _ ⟨V,sc⟩ λhS=>?_;clear DE K2;refine bh ?_;refine ai 11 (h:=ai 12 (h:=ai 13 (h:=ai 14 (h:=ai 15 (h:=?_)))));refine lT ah ?_ _;have WA:=af (ac6 k t E RW u (R.q a) (by have:=HT.out.pos;omega) aa Wz.out (HT.out.q (f.trans a)) oL g0 CN aa hq (λj hj=>Cl.out k j D hj) (Wy.out.q (f.trans a) yq) λ⟨j,hj,h⟩=>HR.out ⟨k,j,D,hj,h⟩);have WB:=af (Vn (f.trans a) (Vn (s.q a) (Vn (m.q a) (Vn (C.q a) (p.q a)))));have rc:=(m.q a).cell;have pc:=(p.q a).cell;clear hS X oL q5 a R f s m C p KK sc x y;go_wp2;refine WA.out.mono ?_;rintro e w6⟨rfl,o6,Z⟩;obtain⟨f,s,m,C,p⟩:=WB.out;have M5:=af (Vn o6 (Vn (Z.toQ f aA) (Vn (s.az Z aA) (Vn (m.az Z aA) (Vn (C.az Z aA) (p.az Z aA))))));rw[JQ.out,<-HS.out] at M5;clear f s m C p o6 Z WB WA V rc pc;exact zl
  ·have jn:k=d:=by omega
   subst jn;have pc:=p.cell;clear m Cl HR Wy HT HX S Wx N;go_wp2_with(refine eP (cs':=(#[U O W,U O H,Y (an ⟨g,0,ns⟩) n c]:Array so)) rfl _ _ _ rfl rfl _ rfl rfl C rfl fH ah ?_;intro w9 b9 g9 s9);have bc:=b9.cell;refine ajz (v:=a9 (#[U O W,U O H,Y (an ⟨g,0,ns⟩) n c]:Array so)) (by simp[results,results32,go_sem,bc]) rfl ⟨_,rfl,(R.az (au.dD g9) aA).mono aa,f.grown g9 λk e=>by have:=aJ e;omega⟩
end
end Go.Proofs.Q0
