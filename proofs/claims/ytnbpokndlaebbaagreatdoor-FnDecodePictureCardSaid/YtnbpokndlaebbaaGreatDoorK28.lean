import Derived.Test.YtnbpokndlaebbaaGreatDoorK27
set_option maxRecDepth 100000
set_option maxHeartbeats 8000000
set_option linter.all false
open Go.Value renaming int->U,slice->Y,bool->ci,agg->bi,pointer->d9,tuple->em,iface->gc
open Go.IntKind renaming i64->O
open Go.Obj renaming cells->ap
open Go.Ending renaming returned->dl
open And renaming intro->ahU
open Bool renaming and_eq_true->Uy,false->Ba,true->AT
open Go renaming Calls->ahR,Value->AS,World->rl,bodyPost_ret->ahX
open Go.IntKind renaming i64->EV
open Go.World renaming cell?_setCell_other->akx,size_alloc->NO
open Int renaming toNat_natCast->aiE
open List renaming nil_append->ajr,replicate->so
open Option renaming none->ns,some->an
namespace Go.Proofs
def Lj{p:Prop}(h:p:=by rw[hS];exact((hK.out.to ((Q.refl _).drewN nq)).set i1 _ uk aa).set pt _ uk aa):p:=h
end Go.Proofs
namespace Go.Proofs.Q0
open Go.Proofs.Tryz
variable{w:rl}{xs ref:List Int}{B n W H:Nat}{A:Option Addr}{P3:AS}{ls:List (List Int)}{q:Int}{I:Bool}
section
open Go.RowKit
def aez(W H:Int)(c:Nat)(F:Rd w B A xs)(S:B<=w.heap.size)(hn:Hid (xs.length=n))(h1:1<=n)(h2:n<=1024):
  ahR Gz.prog 39 #[bi #[U O W,U O H,Y A n c]] w λe w'=>∃v,e=dl (bi #[U O W,U O H,v])/\Own w' w.heap.size v n xs/\Q w w':=by
 have p:Q w ((w.alloc (ap #[U O W,U O H,Y A n c] 28)).alloc (ap #[U O 0,U O 0,Y ns 0 0] 28)):=aU;have f:=(ak.new w 28 #[U O W,U O H,Y A n c]).alloc (ap #[U O 0,U O 0,Y ns 0 0] 28);have d0:=ak.new (w.alloc (ap #[U O W,U O H,Y A n c] 28)) 28 #[U O 0,U O 0,Y ns 0 0];rw[NO] at d0;have G:=F.q p S;obtain⟨g,o,rfl,T,hc⟩:=G oq;clear F G;obtain⟨i0,hi,t,hz1,hz2⟩:=info_parts sK;have l:((w.alloc (ap #[U O W,U O H,Y (an ⟨g,o,ns⟩) n c] 28)).alloc (ap #[U O 0,U O 0,Y ns 0 0] 28)).heap.size=w.heap.size+2:=au;go_enter Gz.gf func39,ntmps39;go_wp2;generalize(w.alloc (ap #[U O W,U O H,Y (an ⟨g,o,ns⟩) n c] 28)).alloc (ap #[U O 0,U O 0,Y ns 0 0] 28)=d at p f d0 T hc l⊢;have y:g<d.heap.size:=aa;have V:=ag hc;have X:=ag p;clear hc p;refine eo (λZ=>∀i,Z.cell? ⟨w.heap.size,i,ns⟩=(#[U O W,U O H,Y (an ⟨g,o,ns⟩) n c]:Array AS)[i]?) (λj=>decide (9<=j)) aj f.cell λhS=>?_;refine ai 0 (h:=ai 1 (h:=ai 2 (h:=ai 3 (h:=ai 5 (h:=ai 6 (h:=?_))))));refine bw (k:=4) aj rfl rfl λz a=>?_;go_simp;have r:Q d (d.alloc (ap #[] 3)).drew:=((Q.refl d).alloc _).drew;refine a.out _ _ ((f.q r).cell) λhS=>?_;clear a z;refine bh ?_;refine bw (k:=7) aj rfl rfl λz a=>?_;refine step_append_grows rfl _ _ _ rfl 3 i0 (U O 0) 1 8 (Gz.gu underlying26) hi t hz1 hz2 rfl aw (an ⟨w.heap.size+2,0,ns⟩) 0 0 [] aC (λh=>by cases h) rfl (λ_ _ j u hu=>by simp at hu) ⟨g,o,ns⟩ n c (xs.map (.int .i64)) aC (by simp;exact hn.out) ?_ (λu hu=>by simp at hu;obtain⟨x,_,rfl⟩:=hu;rfl) aa mY aa ?_
 ·exact Ra (λi hi=>(r.cell g (o+i) y).trans (V.out i hi))
 intro v4 J b K;have m:(d.alloc (ap #[] 3)).drew.heap.size=w.heap.size+2+1:=by show(d.alloc (ap #[] 3)).heap.size=_;rw[NO,l]
 have C:Own J (w.heap.size+2) v4 n xs:=⟨hn.out,by
  have h:=b;simp only[Nat.zero_add,ajr] at h;exact⟨h.1,h.2.imp id λ⟨g,D,E,e1,e2,e3⟩=>⟨g,D,E,e1,by rw[m] at e2;omega,e3⟩⟩⟩
 have s:Q d J:=r.trans (Q.ny K);obtain⟨M,N,rfl⟩:=C.form;have P:=f.q s;have d4:=d0.q s;have O4:=ag C;have Q4:=ag (X.out.trans s);refine a.out _ _ P.cell λhS=>?_;clear a z;refine bh ?_;refine ai 8 (h:=?_);clear b K C s r hS f d0 P;refine gi [9] 9 aj aw rfl ?_;refine eH (cs':=#[U O W,U O H,Y M n N]) rfl _ _ _ rfl rfl _ rfl rfl d4 rfl fq aj ?_;intro w9 b9 R s9;go_wp2;have bc:=b9.cell;refine ahX (v:=bi #[U O W,U O H,Y M n N]) (by simp[results,results39,go_sem,bc]) rfl ⟨_,rfl,(O4.out.aq (al.bA R) au).mono aa,Q4.out.grown R λk e=>by have:=aH e;omega⟩
end
section
open Go.RowKit
structure jo(w wr:rl)(W H:Nat)(P3:AS)(o g n c B:Nat)(xs:List Int):Prop where
 own:Own wr B (Y (an ⟨g,0,ns⟩) n c) n xs
 pb:ak wr w.heap.size 28 #[U O W,U O H,P3]
 rb:ak wr (w.heap.size+1) 28 #[U O 0,U O 0,Y ns 0 0]
 ob:ak wr o 28 #[U O W,U O H,Y (an ⟨g,0,ns⟩) n c]
 q:Q w wr
section
variable{w wr w':rl}{W H:Nat}{P3:AS}{o g n c B:Nat}{xs:List Int}
def jo.to(h:jo w wr W H P3 o g n c B xs)(k:Q wr w'):jo w w' W H P3 o g n c B xs:=⟨h.own.q k,h.pb.q k,h.rb.q k,h.ob.q k,h.q.trans k⟩
def jo.set(h:jo w wr W H P3 o g n c B xs)(i:Nat)(v:Int)(b:w.heap.size+2<=B)(a:o≠g):jo w (wr.setCell ⟨g,i,ns⟩ (U O v)) W H P3 o g n c B (xs.set i v):=by have d:=h.own.block;exact⟨h.own.set i v,h.pb.aL (p:=⟨g,i,ns⟩) m9 _,h.rb.aL (p:=⟨g,i,ns⟩) rO _,h.ob.aL (p:=⟨g,i,ns⟩) a _,h.q.set yi _⟩
end
def Fj{L:Int}{es:List (Nat×Nat)}{p i0 i1 i3 st:Nat}(h:dk (du L es xs)=AT)(j:(du L es xs).length=n)(k:n=H*W)(e:j9 W H (p,st))(h0:p=i0+2*st)(h1:p=i1+st)(f:p+st=i3):
  ∃a b c d:Int,(du L es xs)[i0]?.getD 0=a/\(du L es xs)[i1]?.getD 0=b/\(du L es xs)[p]?.getD 0=c/\(du L es xs)[i3]?.getD 0=d/\(0<=a/\a<=255)/\(0<=b/\b<=255)/\(0<=c/\c<=255)/\(0<=d/\d<=255)/\i3<n/\1<=st/\
   du L (es++[(p,st)]) xs=((du L es xs).set i1 (fH a b c d L)).set p (fI a b c d L):=by
 obtain⟨i,l,m,r⟩:=e;refine⟨_,_,_,_,rfl,rfl,rfl,rfl,pY h _ aa,pY h _ aa,pY h _ aa,pY h _ aa,aa,i,?_⟩;rw[aam];unfold tI;rw[show p-2*st=i0 by omega,show p-st=i1 by omega,f]
def aao(c:Nat)(q:Nat)(hx:Rd w B A xs)(hB:B<=w.heap.size)(hn:Hid (xs.length=n))(hp:bV W H xs=AT)(hq:q<16):
  ahR Gz.prog 16 #[bi #[U O W,U O H,Y A n c],U O q] w λe w'=>∃v,e=dl (bi #[U O W,U O H,v])/\Own w' w.heap.size v n (du (fV q) (fW W H) xs)/\Q w w':=by
 have Z:Q w ((w.alloc (ap #[U O W,U O H,Y A n c] 28)).alloc (ap #[U O 0,U O 0,Y ns 0 0] 28)):=aU;have bp:=(ak.new w 28 #[U O W,U O H,Y A n c]).alloc (ap #[U O 0,U O 0,Y ns 0 0] 28);have br:=ak.new (w.alloc (ap #[U O W,U O H,Y A n c] 28)) 28 #[U O 0,U O 0,Y ns 0 0];rw[NO] at br;obtain⟨⟨p1,p2,p3⟩,⟨p4,p5,p6⟩,p7,p8⟩:=jU hp;have r:n=H*W:=Bg p7 hn.out;have NE:n<=1024:=by rw[r];exact eZ (show H<=32 by omega) (show W<=32 by omega)
 have Hg:64<=n:=by rw[r];exact eZ (show 8<=H by omega) (show 8<=W by omega)
 have hL:=R5 hq;have FL:=ag λz=>We (q:Int) z rfl hq;have OK:Hid (∀es:List (Nat×Nat),es<+:fW W H->dk (du (fV q) es xs)=AT):=λes he=>Ag (W:=W) (H:=H) (fV q) es p8 (by rw[hn.out];exact r) λp hp=>vS aa aa (he.subset hp);have LN:Hid (∀es:List (Nat×Nat),(du (fV q) es xs).length=n):=λes=>(Af _ _ _).trans hn.out;have PV:=ag λy k hy hk=>@OV W H y k hy hk;have PH:=ag λy k hy hk=>@OW W H y k hy hk;have EE:Hid (fW W H=bR (dT W) ((W-1)/4) H 0++bR (gH W) ((H-1)/4) W 0):=rfl;obtain⟨m,hm⟩:∃m,(W-1)/4=m:=⟨_,rfl⟩;obtain⟨G,py⟩:∃m,(H-1)/4=m:=⟨_,rfl⟩;rw[hm] at PV PH EE;rw[py] at PH EE;generalize fV q=L at hL FL OK LN⊢;obtain⟨Ct,Cu⟩:=hL;have CP:=ag (aez W H c (hx.q Z hB) (aQ hB Z.size) hn aa NE);have Fk:=ag r;have Jt:=bp.lt;have Ju:=br.lt;clear hx hp p7 p8 r;go_enter Gz.gf func16,ntmps16;go_wp2;refine CP.out.mono ?_;rintro e w1⟨v,rfl,o1,q1⟩;generalize((w.alloc (ap #[U O W,U O H,Y A n c] 28)).alloc (ap #[U O 0,U O 0,Y ns 0 0] 28))=u at Z bp br Jt Ju q1 o1;rcases o1.dC with⟨_,h0⟩|⟨g,j,rfl,rv,wt,_⟩
 ·omega
 have pm:=q1.size;have BP:=Z.size
 have J:Hid (jo w (w1.alloc (ap #[U O W,U O H,Y (an ⟨g,0,ns⟩) n j] 28)) W H (Y A n c) w1.heap.size g n j u.heap.size xs):=
  ⟨o1.alloc _,(bp.q q1).alloc _,(br.q q1).alloc _,ak.new w1 _ _,(Z.trans q1).alloc _⟩
 have s:=J.out.pb.cell;have uk:w.heap.size+2<=u.heap.size:=aa;have xd:g<w1.heap.size:=wt;clear CP Z bp br q1 o1;go_wp2;generalize w1.alloc (ap #[U O W,U O H,Y (an ⟨g,0,ns⟩) n j] 28)=w2 at J s⊢;generalize w1.heap.size=o at J xd pm wt⊢;refine(FL.out _).mono ?_;rintro e w3⟨rfl,q3⟩;have D:Hid (jo w w3 W H (Y A n c) o g n j u.heap.size (du L (bR (dT W) m 0 0) xs)):=J.out.to q3;clear J q3 s FL;have s:=D.out.pb.cell;go_wp2;go_loopw[7] (λi wr=>∃y:Nat,y<=H/\i=U O y/\Hid (jo w wr W H (Y A n c) o g n j u.heap.size (du L (bR (dT W) m y 0) xs))) (λi _=>H-(intOf i).toNat)
 case atStart=>exact⟨0,aa,rfl,D.out⟩
 case round=>
  obtain⟨y,hy,rfl,hK⟩:=hrel;clear D s;have s:=hK.out.pb.cell;by_cases aV:y<H
  ·have Jr:(y:Int)<H:=by omega
   obtain⟨E,EQ⟩:∃z,y*W=z:=⟨_,rfl⟩;have Js:E<=1024:=by rw[<-EQ];exact eZ (show y<=32 by omega) (show W<=32 by omega)
   have t1:EV.wrap ((y:Int)*(W:Int))=(E:Int):=yt;have D:=ag hK.out;clear hK;go_wp2;go_loopw[8] (λi wr=>∃k F:Nat,k<=m/\F=4*(k+1)/\i=U O F/\Hid (jo w wr W H (Y A n c) o g n j u.heap.size (du L (bR (dT W) m y k) xs))) (λi _=>W+4-(intOf i).toNat)
   case atStart=>exact⟨0,4,aa,rfl,rfl,D.out⟩
   case round=>
    obtain⟨k,F,hk,M,rfl,hK⟩:=hrel;clear D s;have s:=hK.out.pb.cell;by_cases N:k<m
    ·have P:(F:Int)<W:=by omega
     have VA:F<=32:=aa;obtain⟨pt,Id⟩:∃z,E+F=z:=⟨_,rfl⟩;have f:dT W y k=(pt,1):=by unfold dT;rw[EQ,<-M,Id]
     have t2:EV.wrap ((E:Int)+(F:Int))=(pt:Int):=yu;obtain⟨i0,h0⟩:∃i0,pt=i0+2*1:=⟨pt-2,aa⟩;obtain⟨i1,h1⟩:∃i1,pt=i1+1:=⟨pt-1,aa⟩;obtain⟨i3,h3⟩:∃i3,pt+1=i3:=⟨_,rfl⟩;have pre:=PV.out y k aV N;have l:j9 W H (pt,1):=by rw[<-f];exact vS (by omega) (by omega) (pre.subset (by simp))
     obtain⟨a,b,c1,d,ea,eb,ec,ed,ba,bb,R,bd,S,_,hS⟩:=Fj (OK.out _ ((List.prefix_append _ _).trans pre)) (LN.out (bR (dT W) m y k)) Fk.out l h0 h1 h3;(have oc:=hK.out.ob.cell;have c0:=hK.out.own.at i0 aa;have T:=hK.out.own.at i1 aa;have c2:=hK.out.own.at pt aa;have c3:=hK.out.own.at i3 S;rw[ea] at c0;rw[eb] at T;rw[ec] at c2;rw[ed] at c3;have l0:(i0:Int)<(n:Int):=aa;have l1:(i1:Int)<(n:Int):=aa;have l2:(pt:Int)<(n:Int):=aa;have l3:(i3:Int)<(n:Int):=aa;have i6:¬(i1=pt):=aa;have TV:¬(pt=i1):=aa;have f1:=hK.out.own.free i1;have f2:=hK.out.own.free pt;have TF:=ag λz=>Lc L z ba bb R bd ⟨Ct,Cu⟩;clear ea eb ec ed ba bb R bd pre l)
     have t3:EV.wrap ((pt:Int)-2)=(i0:Int):=by rw[show(pt:Int)-2=(i0:Int) by omega];exact aD _ ⟨by omega,by omega⟩
     have t4:EV.wrap ((pt:Int)-1)=(i1:Int):=by rw[show(pt:Int)-1=(i1:Int) by omega];exact aD _ ⟨by omega,by omega⟩
     have t5:EV.wrap ((pt:Int)+1)=(i3:Int):=by rw[show(pt:Int)+1=(i3:Int) by omega];exact aD _ ⟨by omega,by omega⟩
     rw[<-f,<-sI] at hS;have HS:=ag hS
     have KS:Hid (∀nq,jo w (((wr.drewN nq).setCell ⟨g,i1,ns⟩ (U O (fH a b c1 d L))).setCell ⟨g,pt,ns⟩ (U O (fI a b c1 d L))) W H (Y A n c) o g n j u.heap.size (du L (bR (dT W) m y (k+1)) xs)):=λnq=>by exact Lj
     have V:=ag M;clear hS hK f Id M h0 h1 h3;go_wp2
     go_quiet((go_at_call 41;exact ox ((TF.out _).mono λ_ _ h=>⟨h.1,h.2.symm⟩)))
     clear t1 t2;go_wp2;go_roundw;case rel=>exact⟨k+1,F+4,aa,by have:=V.out;omega,aJ,KS.out _⟩
     case measure=>exact bj
    ·have t:k=m:=by omega
     subst t;have P:¬((F:Int)<W):=aa;rw[<-sJ] at hK;go_wp2;go_roundw;case rel=>exact⟨y+1,aa,aJ,hK⟩
     case measure=>exact bj
  ·have pH:y=H:=by omega
   subst pH;have J:Hid (jo w wr W y (Y A n c) o g n j u.heap.size (du L (bR (dT W) m y 0++bR (gH W) G 0 0) xs)):=by rw[OQ,List.append_nil];exact hK
   clear hK;go_wp2;go_loopw[12] (λi wr=>∃x:Nat,x<=W/\i=U O x/\Hid (jo w wr W y (Y A n c) o g n j u.heap.size (du L (bR (dT W) m y 0++bR (gH W) G x 0) xs))) (λi _=>W-(intOf i).toNat)
   case atStart=>exact⟨0,aa,rfl,J⟩
   case round=>
    obtain⟨x,hx,rfl,hK⟩:=hrel;clear J s;have s:=hK.out.pb.cell;by_cases wW:x<W
    ·have P:(x:Int)<W:=by omega
     have D:=ag hK.out;clear hK;go_wp2;go_loopw[13] (λi wr=>∃k C:Nat,k<=G/\C=4*(k+1)/\i=U O C/\Hid (jo w wr W y (Y A n c) o g n j u.heap.size (du L (bR (dT W) m y 0++bR (gH W) G x k) xs))) (λi _=>y+4-(intOf i).toNat)
     case atStart=>exact⟨0,4,aa,rfl,rfl,D.out⟩
     case round=>
      obtain⟨k,C,hk,X,rfl,hK⟩:=hrel;clear D s;have s:=hK.out.pb.cell;by_cases N:k<G
      ·have Jr:(C:Int)<y:=by omega
       have hyr:C<=32:=aa;obtain⟨E,EQ⟩:∃z,C*W=z:=⟨_,rfl⟩;have Js:E<=1024:=by rw[<-EQ];exact eZ (show C<=32 by omega) (show W<=32 by omega)
       have t1:EV.wrap ((C:Int)*(W:Int))=(E:Int):=yt;obtain⟨pt,Id⟩:∃z,E+x=z:=⟨_,rfl⟩;have f:gH W x k=(pt,W):=by unfold gH;rw[<-X,EQ,Id]
       have t2:EV.wrap ((E:Int)+(x:Int))=(pt:Int):=yu;have pre:=PH.out x k wW N;have l:j9 W y (pt,W):=by rw[<-f];exact vS (by omega) (by omega) (pre.subset (by simp))
       have agK:2*W<=pt:=l.2.2.1;obtain⟨i0,h0⟩:∃i0,pt=i0+2*W:=⟨pt-2*W,aa⟩;obtain⟨i1,h1⟩:∃i1,pt=i1+W:=⟨pt-W,aa⟩;obtain⟨i3,h3⟩:∃i3,pt+W=i3:=⟨_,rfl⟩;obtain⟨a,b,c1,d,ea,eb,ec,ed,ba,bb,R,bd,S,_,hS⟩:=Fj (OK.out _ ((List.prefix_append _ _).trans pre)) (LN.out (bR (dT W) m y 0++bR (gH W) G x k)) Fk.out l h0 h1 h3;(have oc:=hK.out.ob.cell;have c0:=hK.out.own.at i0 aa;have T:=hK.out.own.at i1 aa;have c2:=hK.out.own.at pt aa;have c3:=hK.out.own.at i3 S;rw[ea] at c0;rw[eb] at T;rw[ec] at c2;rw[ed] at c3;have l0:(i0:Int)<(n:Int):=aa;have l1:(i1:Int)<(n:Int):=aa;have l2:(pt:Int)<(n:Int):=aa;have l3:(i3:Int)<(n:Int):=aa;have i6:¬(i1=pt):=aa;have TV:¬(pt=i1):=aa;have f1:=hK.out.own.free i1;have f2:=hK.out.own.free pt;have TF:=ag λz=>Lc L z ba bb R bd ⟨Ct,Cu⟩;clear ea eb ec ed ba bb R bd pre l)
       have t6:EV.wrap (2*(W:Int))=((2*W:Nat):Int):=by rw[show 2*(W:Int)=((2*W:Nat):Int) by omega];exact aD _ ⟨by omega,by omega⟩
       obtain⟨VB,K⟩:∃z,2*W=z:=⟨_,rfl⟩;rw[K] at t6;have t3:EV.wrap ((pt:Int)-(VB:Int))=(i0:Int):=by rw[show(pt:Int)-(VB:Int)=(i0:Int) by omega];exact aD _ ⟨by omega,by omega⟩
       have t4:EV.wrap ((pt:Int)-(W:Int))=(i1:Int):=by rw[show(pt:Int)-(W:Int)=(i1:Int) by omega];exact aD _ ⟨by omega,by omega⟩
       have t5:EV.wrap ((pt:Int)+(W:Int))=(i3:Int):=by rw[show(pt:Int)+(W:Int)=(i3:Int) by omega];exact aD _ ⟨by omega,by omega⟩
       rw[List.append_assoc,<-f,<-sI] at hS
       have KS:Hid (∀nq,jo w (((wr.drewN nq).setCell ⟨g,i1,ns⟩ (U O (fH a b c1 d L))).setCell ⟨g,pt,ns⟩ (U O (fI a b c1 d L))) W y (Y A n c) o g n j u.heap.size (du L (bR (dT W) m y 0++bR (gH W) G x (k+1)) xs)):=λnq=>by exact Lj
       have V:=ag X;clear hS hK f Id X h0 h1 h3 EQ K agK;go_wp2
       go_quiet((go_at_call 41;exact ox ((TF.out _).mono λ_ _ h=>⟨h.1,h.2.symm⟩)))
       clear t1 t2;go_wp2;go_roundw;case rel=>exact⟨k+1,C+4,aa,by have:=V.out;omega,aJ,KS.out _⟩
       case measure=>exact bj
      ·have t:k=G:=by omega
       subst t;have P:¬((C:Int)<y):=aa;rw[<-sJ] at hK;go_wp2;go_roundw;case rel=>exact⟨x+1,aa,aJ,hK⟩
       case measure=>exact bj
    ·have pG:x=W:=by omega
     subst pG;have oc:=hK.out.ob.cell;have k5:=hK.out.rb;go_wp2_with(refine eH (cs':=#[U O x,U O y,Y (an ⟨g,0,ns⟩) n j]) rfl _ _ _ rfl rfl _ rfl rfl k5 rfl fq aj ?_;intro w9 b9 g9 s9);have R:=b9.cell;refine ahX (v:=bi #[U O x,U O y,Y (an ⟨g,0,ns⟩) n j]) (by simp[results,results16,go_sem,R]) rfl ⟨_,rfl,?_,hK.out.q.grown g9 λk e=>by have:=aH e;omega⟩;rw[EE.out];exact(hK.out.own.aq (al.bA g9) av).mono aa
end
section
open Go.RowKit Go.WideShapes Go.ChangeShapes Go.Shelf
attribute [local go_sem] Oper.semAt_some
abbrev EE(W H:Nat):={p:Nat×Nat//j9 W H p}
def js{W H:Nat}(l:List (EE W H)):List (Nat×Nat):=l.map (·.1)
def Fl(l:List (EE W H))(x:EE W H):js (l++[x])=js l++[x.1]:=by simp[js]
theorem Ye(n:Nat)(m:1<=n){b:Nat}(p:W<=32)(r:H<=32)(t:W%4=0)(u:H%4=0)(i:ak w b 28 #[U O W,U O H,P3]):
  SeqStopsK Fence.wide n Gz.prog 46 #[d9 (an ⟨b,0,ns⟩)] (λx:EE W H=>tJ x.1) (Kb b) (λv=>js v=fW W H) (λpre=>js pre<+:fW W H) (fW W H).length w:=λl J y z f D _ E h0=>by
 have:=aey m l b P3 p r (λpre w'=>∃a,js a=pre/\J a w') (λpre w'=>∃a,js a=pre/\y a w') z (λs A C row⟨j,e,h⟩ F G=>⟨j,e,D j A C row h F G⟩)
  (λpre x K⟨a,e,M⟩ k=>by
   have hm:x∈fW W H:=k.subset au
   have N:a.length<(fW W H).length:=by
    have h1:=k.length_le;have d:a.length=pre.length:=by rw[<-e];simp[js]
    rw[List.length_append,List.length_singleton] at h1;omega
   obtain⟨fn,tmps,assign,body,P,Q⟩:=E a ⟨x,vS t u hm⟩ K M N;refine⟨fn,tmps,assign,body,P,Q.mono λS T h=>?_⟩;rcases h with⟨h1,d,R⟩|⟨h1,d⟩
   ·exact .inl ⟨h1,⟨_,by rw[Fl,e],d⟩,R⟩
   ·exact .inr ⟨h1,_,by rw[Fl,e],d⟩) ((f.block b i.lt).trans i) ⟨[],rfl,h0⟩
 exact Kf
def abW{i j d1 d2:Tmp}{assign body:Code}{g:Operand}{r:Exit->Act->rl->Prop}{a:Act}{b:Nat}(u:a.eval g=.func (.func 46) #[] #[d9 (an ⟨b,0,ns⟩)])(y:b<w.heap.size)(z:ak w b 28 #[U O W,U O H,P3])(C:W<=32)(E:H<=32)(F:W%4=0)(G:H%4=0)
  (I:List (EE W H)->rl->Prop)(J:OwnFrom w.heap.size I)(h0:I [] w)
  (f:∀(l:Nat)(x:EE W H)(d:rl)(K:Act->rl->Prop),K {tmps:=(((a.tmps.setIfInBounds i (U O (x.1.1:Int))).setIfInBounds j (U O (x.1.2:Int))).setIfInBounds d1 (U O (x.1.1:Int))).setIfInBounds d2 (U O (x.1.2:Int)),defers:=[]} d->
   assign.wpIn (Fence.wide.inRound l) 1 Gz.prog (Exit.then K λ_ _ _=>False) {tmps:=(a.tmps.setIfInBounds i (U O (x.1.1:Int))).setIfInBounds j (U O (x.1.2:Int)),defers:=[]} d)
  (m:∀(l:Nat)(pre:List (EE W H))(x:EE W H)(d:rl),I pre d->pre.length<(fW W H).length->
   body.wpIn (Fence.wide.inRound l) 1 Gz.prog (ownPostG w.heap.size (Kb b) I (λ_ _ _=>False) (pre++[x]) d) {tmps:=(((a.tmps.setIfInBounds i (U O (x.1.1:Int))).setIfInBounds j (U O (x.1.2:Int))).setIfInBounds d1 (U O (x.1.1:Int))).setIfInBounds d2 (U O (x.1.2:Int)),defers:=[]} d)
  (k:∀(D:Nat)(s:List (EE W H))(d:rl),w.heap.size<=D->js s=fW W H->I s d->d.heap[D]?=an (.deferred (an []))->r .normal {a with defers:={target:=.collected D,args:=#[]}::a.defers} d):
  (Code.rangeFunc g #[i,j] assign body).wp Gz.prog r a w:=by
 refine wpIn_wide.1 (wpIn_rangeFunc_ownG (n:=3) rfl aw (gf:=46) (lb:=#[d9 (an ⟨b,0,ns⟩)]) u trivial (Gz.cl 46)
  (Ye 2 aw C E F G z) Kb.t (Kb.b y) (Below.refl _ _) (λ_=>rfl) I (λ_ _ _=>False) J (λ_ _ _ _ _ M _ _=>M) h0
  (λx=>{tmps:=(((a.tmps.setIfInBounds i (U O (x.1.1:Int))).setIfInBounds j (U O (x.1.2:Int))).setIfInBounds d1 (U O (x.1.1:Int))).setIfInBounds d2 (U O (x.1.2:Int)),defers:=[]}) ?_ ?_ k λ_ _ _ _ _ _ h _=>h.elim)
 ·intro l x d K hK;have e:(#[i,j].zip (tJ x.1)).foldl (λt(p,v)=>t.setIfInBounds p v) a.tmps=(a.tmps.setIfInBounds i (U O (x.1.1:Int))).setIfInBounds j (U O (x.1.2:Int)):=by simp[tJ]
  rw[e];exact f l x d K hK
 ·omega
def Own.owned{v:AS}{w':rl}{row:Option Nat}(h:Own w B v n xs)(f:w.grownBy w' row)(hr:∀r,row=an r->∃o:Obj,w.heap[r]?=an o/\o.isCells=Ba):Own w' B v n xs:=
 ⟨h.1,h.2.kept f (by
  rcases h.2.2 with⟨e,_⟩|⟨g,i,j,e,_,hc,_⟩
  ·left;rw[e];rfl
  ·right
   intro b;rw[e] at b;obtain⟨o,d,a⟩:=hr g b.symm;rw[hc] at d;cases d;cases a)⟩
structure lh(w wr:rl)(W H o1 o2 g n c B:Nat)(L:Int)(xs:List Int):Prop where
 own:Own wr B (Y (an ⟨g,0,ns⟩) n c) n xs
 rb:ak wr (w.heap.size+1) 28 #[U O 0,U O 0,Y ns 0 0]
 ob:ak wr o1 28 #[U O W,U O H,Y (an ⟨g,0,ns⟩) n c]
 lb:ak wr o2 3 #[U O L]
 q:Q w wr
section
variable{w wr w':rl}{W H o1 o2 g n c B:Nat}{L:Int}{xs:List Int}
def lh.to(h:lh w wr W H o1 o2 g n c B L xs)(k:Q wr w'):lh w w' W H o1 o2 g n c B L xs:=⟨h.own.q k,h.rb.q k,h.ob.q k,h.lb.q k,h.q.trans k⟩
def lh.row{row:Option Nat}(h:lh w wr W H o1 o2 g n c B L xs)(a:wr.grownBy w' row)(hr:∀r,row=an r->w.heap.size<=r/\∃o:Obj,wr.heap[r]?=an o/\o.isCells=Ba):lh w w' W H o1 o2 g n c B L xs:=
 ⟨h.own.owned a λr e=>(hr r e).2,h.rb.own a λr e=>(hr r e).2,h.ob.own a λr e=>(hr r e).2,h.lb.own a λr e=>(hr r e).2,h.q.grown a λr e=>(hr r e).1⟩
def lh.set(h:lh w wr W H o1 o2 g n c B L xs)(i:Nat)(v:Int)(b:w.heap.size+2<=B)(h1:o1≠g)(a:o2≠g):lh w (wr.setCell ⟨g,i,ns⟩ (U O v)) W H o1 o2 g n c B L (xs.set i v):=by have d:=h.own.block;exact⟨h.own.set i v,h.rb.aL (p:=⟨g,i,ns⟩) rO _,h.ob.aL (p:=⟨g,i,ns⟩) h1 _,h.lb.aL (p:=⟨g,i,ns⟩) a _,h.q.set yi _⟩
end
def Zk(W H:Nat)(w:rl):
  ahR Gz.prog 25 #[bi #[U O W,U O H,P3]] w λe w'=>e=dl (.func (.func 46) #[] #[d9 (an ⟨w.heap.size,0,ns⟩)])/\ak w' w.heap.size 28 #[U O W,U O H,P3]/\Q w w':=by
 have a:=ak.new w 28 #[U O W,U O H,P3];have b:Q w (w.alloc (ap #[U O W,U O H,P3] 28)):=(Q.refl w).alloc _;go_enter Gz.gf func25,ntmps25;go_wp2;go_ret;exact⟨rfl,a,b⟩
def Rb(c:Nat)(q:Nat)(hx:Rd w B A xs)(hB:B<=w.heap.size)(S:Hid (xs.length=n))(T:bV W H xs=AT)(hq:q<16)(hT:Tb w):
  ahR Gz.prog 10 #[bi #[.int .i64 W,.int .i64 H,.slice A n c],.int .i64 q] w λe w'=>∃v,e=dl (bi #[.int .i64 W,.int .i64 H,v])/\Own w' w.heap.size v n (du (fV q) (fW W H) xs)/\Q w w':=by
 have N:Q w ((w.alloc (ap #[.int .i64 W,.int .i64 H,.slice A n c] 28)).alloc (ap #[.int .i64 0,.int .i64 0,.slice ns 0 0] 28)):=aU;have bp:=(ak.new w 28 #[.int .i64 W,.int .i64 H,.slice A n c]).alloc (ap #[.int .i64 0,.int .i64 0,.slice ns 0 0] 28);have V:=ak.new (w.alloc (ap #[.int .i64 W,.int .i64 H,.slice A n c] 28)) 28 #[.int .i64 0,.int .i64 0,.slice ns 0 0];rw[NO] at V;obtain⟨⟨p1,p2,p3⟩,⟨p4,p5,p6⟩,p7,p8⟩:=jU T;have u:n=H*W:=Bg p7 S.out;have NE:n<=1024:=by rw[u];exact eZ (show H<=32 by omega) (show W<=32 by omega)
 have Hg:64<=n:=by rw[u];exact eZ (show 8<=H by omega) (show 8<=W by omega)
 have hL:=R5 hq;have FL:=ag λz(h:Tb z)=>Wd (q:Int) z h rfl hq;have OK:Hid (∀es:List (Nat×Nat),(∀p∈es,j9 W H p)->dk (du (fV q) es xs)=AT):=λes he=>Ag (W:=W) (H:=H) (fV q) es p8 (by rw[S.out];exact u) he;have LN:Hid (∀es:List (Nat×Nat),(du (fV q) es xs).length=n):=λes=>(Af _ _ _).trans S.out;generalize fV q=L at hL FL OK LN⊢;obtain⟨Ct,Cu⟩:=hL;have HX:=ag (hx.q N hB);have HT:=ag (hT.q N);have hPV:=ag T;have HQ:Hid (decide (0<=(q:Int)/\(q:Int)<=15)=AT):=decide_eq_true aa;have Fk:=ag u;have Jt:=bp.lt;have Ju:=V.lt;have xo:=N.size;clear hx T p7 p8 u hT;refine(callsIn_wide (n:=3)).1 ?_;refine callsIn_of_wp_marks (Gz.gf func10) rfl trivial ?_ rfl;simp only[ntmps10,List.size_toArray,List.length_cons,List.length_nil,Nat.reduceAdd,Nat.reduceSub,Array.replicate_succ,Array.replicate_zero,List.push_toArray,List.append_toArray,ajr,List.cons_append];refine wpIn_wide.2 ?_;go_wp2;generalize((w.alloc (ap #[.int .i64 W,.int .i64 H,.slice A n c] 28)).alloc (ap #[.int .i64 0,.int .i64 0,.slice ns 0 0] 28))=w0 at N bp V Jt Ju xo HX HT⊢;refine(ya c HX.out aa S aa hPV).mono ?_;rintro e P⟨rfl,q1⟩;go_wp2;refine(oB P HQ).mono ?_;rintro e Pi⟨rfl,rfl⟩;have pc:=(bp.q q1).cell;have pm:=q1.size;go_wp2;refine(clone W H A n c B xs P (HX.out.q q1 aa) aa S aa NE).mono ?_;rintro e w2⟨v,rfl,o2,Z⟩;rcases o2.dC with⟨_,h0⟩|⟨g,y,rfl,rv,wt,_⟩
 ·omega
 have BP:=Z.size;go_wp2;refine(FL.out w2 (HT.out.q (q1.trans Z))).mono ?_;rintro e w3⟨rfl,q3⟩;have qZ:=q3.size;have qz:Q w w3:=((N.trans q1).trans Z).trans q3
 have K0:Hid (lh w ((w3.alloc (ap #[.int .i64 W,.int .i64 H,.slice (an ⟨g,0,ns⟩) n y] 28)).alloc (ap #[.int .i64 L] 3)) W H w3.heap.size (w3.heap.size+1) g n y P.heap.size L xs):=
  ⟨((o2.q q3).alloc _).alloc _,((((V.q q1).q Z).q q3).alloc _).alloc _,(ak.new w3 _ _).alloc _,by have h:=ak.new (w3.alloc (ap #[.int .i64 W,.int .i64 H,.slice (an ⟨g,0,ns⟩) n y] 28)) 3 #[.int .i64 L];rw[NO] at h;exact h,(qz.alloc _).alloc _⟩
 have R:=K0.out.ob.cell;have lc:=K0.out.lb.cell;have ahM:g<w3.heap.size:=aa;have F:((w3.alloc (ap #[.int .i64 W,.int .i64 H,.slice (an ⟨g,0,ns⟩) n y] 28)).alloc (ap #[.int .i64 L] 3)).heap.size=w3.heap.size+2:=au;clear N q1 Z q3 o2 V bp qz pc HX HT FL;go_wp2;generalize((w3.alloc (ap #[.int .i64 W,.int .i64 H,.slice (an ⟨g,0,ns⟩) n y] 28)).alloc (ap #[.int .i64 L] 3))=w5 at K0 R lc F⊢;refine(Zk W H w5).mono ?_;rintro e w6⟨rfl,G,q6⟩;rw[F] at G;have K6:=ag (K0.out.to q6);have hb6:w3.heap.size+2<w6.heap.size:=G.lt;have uk:w.heap.size+2<=P.heap.size:=aa;clear K0 q6 R lc;go_wp2
 refine abW (d1:=7) (d2:=8) (b:=w3.heap.size+2) rfl hb6 G aa aa aa aa (λpre t=>lh w t W H w3.heap.size (w3.heap.size+1) g n y P.heap.size L (du L (js pre) xs)/\w6.heap.size<=t.heap.size)
  (λs X Y row⟨h1,h2⟩ hg hr=>⟨h1.row hg (λr e=>⟨by have:=(hr r e).1;omega,(hr r e).2⟩),aQ h2 hg.size⟩) ⟨K6.out,ay _⟩ ?assign ?body ?done
 case assign=>
  intro l x t K hK
  gi_wp2
  simpa using hK
 case body=>
  rintro l pre x t⟨hF,dg⟩ aV;simp only[List.setIfInBounds_toArray,List.set_cons_zero,List.set_cons_succ];obtain⟨⟨f,st⟩,E⟩:=x;dsimp only;have agL:=E;obtain⟨e1,e2,e3,e4⟩:=agL;dsimp only at e1 e2 e3 e4;obtain⟨i0,h0⟩:∃i0,f=i0+2*st:=⟨f-2*st,aa⟩;obtain⟨i1,h1⟩:∃i1,f=i1+st:=⟨f-st,aa⟩;obtain⟨i3,h3⟩:∃i3,f+st=i3:=⟨_,rfl⟩;have uz:=LN.out (js pre);obtain⟨a,b,C,d,ea,eb,ec,ed,ba,bb,bc,bd,hi3,_,hS⟩:=Fj (OK.out (js pre) λp T=>by obtain⟨z,_,rfl⟩:=oD.1 T;exact z.2) uz Fk.out E h0 h1 h3;have c0:=hF.own.at i0 aa;have c1':=hF.own.at i1 aa;have c2:=hF.own.at f aa;have c3:=hF.own.at i3 hi3;rw[ea] at c0;rw[eb] at c1';rw[ec] at c2;rw[ed] at c3;have l0:(i0:Int)<(n:Int):=aa;have l1:(i1:Int)<(n:Int):=aa;have l2:(f:Int)<(n:Int):=aa;have l3:(i3:Int)<(n:Int):=aa;have i6:¬(i1=f):=aa;have TV:¬(f=i1):=aa;have wY:¬(i1=i0):=aa;have hn3:¬(i1=i3):=aa;have HOB:=ag hF.ob;have HLB:=ag hF.lb;have f1:=hF.own.free i1;have f2:=hF.own.free f;have R:=hF.ob.cell;have lc:t.cell? ⟨w3.heap.size+1,0,ns⟩=an (.int .i64 L):=hF.lb.cell 0;have TF:=ag λz=>WO L z ba bb bc bd ⟨Ct,Cu⟩;obtain⟨s2,agM⟩:∃z,2*st=z:=⟨_,rfl⟩;have t6:EV.wrap (2*(st:Int))=(s2:Int):=by rw[show 2*(st:Int)=(s2:Int) by omega];exact aD _ ⟨by omega,by omega⟩
  have t3:EV.wrap ((f:Int)-(s2:Int))=(i0:Int):=by rw[show(f:Int)-(s2:Int)=(i0:Int) by omega];exact aD _ ⟨by omega,by omega⟩
  have t4:EV.wrap ((f:Int)-(st:Int))=(i1:Int):=by rw[show(f:Int)-(st:Int)=(i1:Int) by omega];exact aD _ ⟨by omega,by omega⟩
  have t5:EV.wrap ((f:Int)+(st:Int))=(i3:Int):=by rw[show(f:Int)+(st:Int)=(i3:Int) by omega];exact aD _ ⟨by omega,by omega⟩
  have tT:du L (js (pre++[(⟨(f,st),E⟩:EE W H)])) xs=((du L (js pre) xs).set i1 (fH a b C d L)).set f (fI a b C d L):=by rw[Fl];exact hS
  have KS:Hid (∀w8,Q t w8->lh w ((w8.setCell ⟨g,i1,ns⟩ (.int .i64 (fH a b C d L))).setCell ⟨g,f,ns⟩ (.int .i64 (fI a b C d L))) W H w3.heap.size (w3.heap.size+1) g n y P.heap.size L (du L (js (pre++[(⟨(f,st),E⟩:EE W H)])) xs)):=λw8 hq8=>by rw[tT];exact((hF.to hq8).set i1 _ uk aa aa).set f _ uk aa aa
  clear ea eb ec ed ba bb bc bd hS tT h0 h1 h3 agM hF uz e1 e2 e3 e4
  gi_wp2
  refine Dz (λJ=>∀i,J.cell? ⟨w3.heap.size,i,ns⟩=(#[.int .i64 W,.int .i64 H,.slice (an ⟨g,0,ns⟩) n y]:Array AS)[i]?) (λ_=>Ba) aj aj (λ⟨_,_,h⟩=>h) R λhS=>?_;refine ai 0 (h:=ai 1 (h:=ai 2 (h:=ai 3 (h:=ai 4 (h:=ai 5 (h:=ai 6 (h:=ai 7 (h:=ai 8 (h:=ai 9 (h:=ai 10 (h:=ai 11 (h:=?_))))))))))));refine kF aj ?_ _;clear hS
  gi_wp2
  refine Dz (λJ=>(∀i,J.cell? ⟨w3.heap.size,i,ns⟩=(#[.int .i64 W,.int .i64 H,.slice (an ⟨g,0,ns⟩) n y]:Array AS)[i]?)/\J.cell? ⟨w3.heap.size+1,0,ns⟩=an (.int .i64 L)/\J.cell? ⟨g,i0,ns⟩=an (.int .i64 a)/\J.cell? ⟨g,f,ns⟩=an (.int .i64 C)/\J.cell? ⟨g,i3,ns⟩=an (.int .i64 d)) (λj=>decide (31<=j)) aj aj (λ⟨_,_,h⟩=>h) ⟨R,lc,c0,c2,c3⟩ λhS=>?_;refine ai 0 (h:=ai 1 (h:=ai 2 (h:=ai 3 (h:=ai 4 (h:=ai 5 (h:=ai 6 (h:=ai 7 (h:=ai 8 (h:=ai 9 (h:=ai 10 (h:=ai 11 (h:=ai 13 (h:=ai 14 (h:=ai 15 (h:=ai 16 (h:=ai 17 (h:=ai 18 (h:=ai 19 (h:=ai 20 (h:=ai 21 (h:=ai 22 (h:=ai 23 (h:=?_)))))))))))))))))))))));refine bw (k:=12) aj rfl rfl λM m=>?_;go_simp;refine m.out _ _ hS λhS=>?_;clear m M;refine bh ?_;refine bw (k:=24) aj rfl rfl λM m=>?_;go_simp;refine(TF.out _).mono ?_;rintro e wa⟨rfl,rfl⟩;refine m.out _ _ hS λhS=>?_;clear m M;refine bh ?_;refine ai 25 (h:=ai 26 (h:=ai 27 (h:=ai 28 (h:=?_))));refine bw (k:=29) aj rfl rfl λM m=>?_;go_simp;refine m.out _ _ ⟨(HOB.out.aL (p:=⟨g,i1,ns⟩) (by show w3.heap.size≠g;omega) _).cell,(HLB.out.aL (p:=⟨g,i1,ns⟩) (by show w3.heap.size+1≠g;omega) _).cell 0,?_,?_,?_⟩ (λhS=>?_)
  ·exact(akx t ⟨g,i1,ns⟩ ⟨g,i0,ns⟩ _ λe=>wY mw).trans c0
  ·exact(akx t ⟨g,i1,ns⟩ ⟨g,f,ns⟩ _ λe=>i6 mw).trans c2
  ·exact(akx t ⟨g,i1,ns⟩ ⟨g,i3,ns⟩ _ λe=>hn3 mw).trans c3
  clear m M;refine bh ?_;refine bw (k:=30) aj rfl rfl λM m=>?_;go_simp;refine m.out _ _ hS λhS=>?_;clear m M;refine bh ?_;refine gi [31] 31 aj aw rfl ?_;have K9:=ag (KS.out _ (((Q.refl t).drew).drew));have UG:(((t.drew.drew).setCell ⟨g,i1,ns⟩ (.int .i64 (fH a b C d L))).setCell ⟨g,f,ns⟩ (.int .i64 (fI a b C d L))).heap.size=t.heap.size:=rL
  have KB:Hid (Kb (w3.heap.size+2) t (((t.drew.drew).setCell ⟨g,i1,ns⟩ (.int .i64 (fH a b C d L))).setCell ⟨g,f,ns⟩ (.int .i64 (fI a b C d L)))):=
   (im _ ⟨g,f,ns⟩ _ _ (by show w3.heap.size+2≠g;omega)).trans (im t ⟨g,i1,ns⟩ _ _ (by show w3.heap.size+2≠g;omega))
  have KO:Hid (KeepsOthers t (((t.drew.drew).setCell ⟨g,i1,ns⟩ (.int .i64 (fH a b C d L))).setCell ⟨g,f,ns⟩ (.int .i64 (fI a b C d L)))):=
   (((KeepsOthers.drew t).trans (KeepsOthers.drew _)).trans (uZ _ _ _)).trans (uZ _ _ _)
  clear hS;go_wp2;exact⟨KO.out.from _,KB.out,K9.out,aQ dg (nf UG.symm)⟩
 case done=>
  rintro D ys t hD rq⟨hF,dg⟩ VC;have k5:=hF.rb;have R:=hF.ob.cell;have HF:=ag hF;clear hF;go_wp2_with(refine eH (cs':=#[.int .i64 W,.int .i64 H,.slice (an ⟨g,0,ns⟩) n y]) rfl _ _ _ rfl rfl _ rfl rfl k5 rfl fq aj ?_;intro w9 b9 g9 s9);have VD:w9.heap[D]?=an (.deferred (an [])):=(g9.block D (bU.1 VC).1 λe=>by have:=aH e;omega).trans VC;refine⟨au,.inl ⟨_,_,rfl,run_takeDeferred VD,?_⟩⟩;have gz:=grownBy_putObj' w9 D (.deferred ns);have hDs:∀r,an D=an r->∃o:Obj,w9.heap[r]?=an o/\o.isCells=Ba:=λr e=>by cases e;exact⟨_,VD,rfl⟩
  have bc:=(b9.grown gz λe=>by have:=aH e;omega).cell;have o9:=HF.out.own.aq (al.bA g9) av;have oz:=o9.owned gz hDs;have qz:=(HF.out.q.grown g9 λk e=>by have:=aH e;omega).grown gz (λk e=>by have:=aH e;omega);rw[rq] at oz;generalize w9.putObj D (.deferred ns)=wz at bc oz qz⊢;refine⟨bi #[.int .i64 W,.int .i64 H,.slice (an ⟨g,0,ns⟩) n y],by simp[results,results10,go_sem,bc],_,rfl,oz.mono aa,qz⟩
end
section
open Go.RowKit Go.WideShapes Go.ChangeShapes
def Ej{W H:Int}{RW a:Int}(h:fi W H I q ls RW a ref=AT):iz W H q ls.length=AT/\iR I W H RW a ref=AT/\∀i,i<ls.length->∃L,fh (aS ls i) (W/8) I=an L:=by unfold fi at h;rw[Uy,Uy,List.all_eq_true] at h;exact⟨h.1,h.2.1,λi hi=>pN.1 (h.2.2 i (fM.2 hi))⟩
def vH{W H:Int}:(jM W H I q ls ref).length=W.toNat*H.toNat:=by unfold jM;rw[zP,List.length_replicate]
def Ah(b:fO W)(d:fO H):bV W H (jM W H I q ls ref)=AT:=by
 have a:=Ei b d (W*H) rfl
 exact qm a (by rw[vH,List.length_replicate,aiE,aiE]) (by
  exact zQ W H ref _ q (jU a).2.2.2 _)
def WW(W H:Int)(I:Bool)(q:Int)(A t:Option Addr)(n c:Nat){u:Nat}(x:Nat){B':Nat}(ls:List (List Int))(RW j:Int){a1 a2:Addr}(hx:eF w B A ls)(M:B<=w.heap.size)(hn:ls.length=n)(he:gQ w a1 a2 B)(k1:dD w a1)(k2:dD w a2)(N:Tb w)
  (hr:Rd w B' t ref)(y:B'<=w.heap.size)(z:ref.length=u)(P:u<=9223372036854775807):
  ahR Gz.prog 5 #[bi (#[U O W,U O H,ci I,U O q,Y A n c]:Array AS),bi (#[U O RW,U O j,Y t u x]:Array AS)] w λe w'=>Q w w'/\(fi W H I q ls RW j ref=AT->∃v,e=dl (em #[bi #[U O W,U O H,v],ci AT])/\Own w' w.heap.size v (W.toNat*H.toNat) (qW W H I q ls ref))/\(fi W H I q ls RW j ref=Ba->e=dl (em #[bi (#[U O 0,U O 0,Y ns 0 0]:Array AS),ci Ba])):=by
 have d:Q w (((w.alloc (ap (#[U O W,U O H,ci I,U O q,Y A n c]:Array AS) 25)).alloc (ap (#[U O RW,U O j,Y t u x]:Array AS) 28)).alloc (ap (#[U O 0,U O 0,Y ns 0 0]:Array AS) 28)):=aU;have p:=((ak.new w 25 (#[U O W,U O H,ci I,U O q,Y A n c]:Array AS)).alloc (ap (#[U O RW,U O j,Y t u x]:Array AS) 28)).alloc (ap (#[U O 0,U O 0,Y ns 0 0]:Array AS) 28);have C:=ak.new ((w.alloc (ap (#[U O W,U O H,ci I,U O q,Y A n c]:Array AS) 25)).alloc (ap (#[U O RW,U O j,Y t u x]:Array AS) 28)) 28 (#[U O 0,U O 0,Y ns 0 0]:Array AS);simp only[NO] at C;have G:=ag (JL W H I q A t n c x ls RW j (hx.q d M) (aQ M d.size) hn (he.q d M) (k1.q d) (k2.q d) (N.q d) (hr.q d y) (aQ y d.size) z P);have HT:=ag N;clear hx hn he k1 k2 N hr z;go_enter Gz.gf func5,ntmps5;go_wp2;cases r:fi W H I q ls RW j ref with
 |false=>refine G.out.mono ?_;rintro e w1⟨q1,_,h2⟩;have he:=h2 r;subst he;have f:=(C.q q1).alloc (ap (#[U O 0,U O 0,Y ns 0 0]:Array AS) 28);have J:=ag ((d.trans q1).alloc (ap (#[U O 0,U O 0,Y ns 0 0]:Array AS) 28));have HV:=ag r;clear p C d q1 h2 G r;go_wp2_with(refine eH (cs':=(#[U O 0,U O 0,Y ns 0 0]:Array AS)) rfl _ _ _ rfl rfl _ rfl rfl f rfl fq aj ?_;intro w9 R K s9);have p:=R.cell;exact ahX (v:=em #[bi (#[U O 0,U O 0,Y ns 0 0]:Array AS),ci Ba]) (by simp[results,results5,go_sem,p]) rfl ⟨J.out.grown K (λk e=>by have:=aH e;omega),λh=>CY,λ_=>rfl⟩
 |true=>
  obtain⟨hs,_,_⟩:=Ej r;obtain⟨S,T,⟨Vy,Vz⟩,xO⟩:=ni hs;obtain⟨a,rfl⟩:∃k:Nat,W=(k:Int):=⟨W.toNat,by have:=S.1;omega⟩;obtain⟨b,rfl⟩:∃k:Nat,H=(k:Int):=⟨H.toNat,by have:=T.1;omega⟩;obtain⟨s,rfl⟩:∃k:Nat,q=(k:Int):=⟨q.toNat,aa⟩;have l:=Ah (I:=I) (q:=s) (ls:=ls) (ref:=ref) S T;have i:=vH (W:=a) (H:=b) (I:=I) (q:=s) (ls:=ls) (ref:=ref);rw[aiE,aiE] at i;have V:=S;have X:=T;obtain⟨u1,u2,u3⟩:=V;obtain⟨v1,v2,v3⟩:=X;have Z:64<=a*b:=eZ (show 8<=a by omega) (show 8<=b by omega);refine G.out.mono ?_;rintro e w1⟨q1,h1,_⟩;obtain⟨v,rfl,o1⟩:=h1 r;rw[aiE,aiE] at o1;have D:Hid (qW (a:Int) (b:Int) I (s:Int) ls ref=du (fV s) (fW a b) (jM (a:Int) (b:Int) I (s:Int) ls ref)):=rfl;generalize jM (a:Int) (b:Int) I (s:Int) ls ref=xs at o1 l i D;obtain⟨m,hm⟩:∃m,a*b=m:=⟨_,rfl⟩;rw[hm] at o1 i Z;have HM:Hid ((a:Int).toNat*(b:Int).toNat=m):=hm;have HV:=ag r;clear hm;rcases o1.dC with⟨_,h0⟩|⟨g,E,rfl,rv,wt,_⟩
  ·omega
  have Un:((m:Int)==0)=Ba:=uN;have f:=(C.q q1).alloc (ap #[U O a,U O b,Y (an ⟨g,0,ns⟩) m E] 28);have bc2:=(p.q q1).alloc (ap #[U O a,U O b,Y (an ⟨g,0,ns⟩) m E] 28);have qz:=(d.trans q1).alloc (ap #[U O a,U O b,Y (an ⟨g,0,ns⟩) m E] 28);have o2:=o1.alloc (ap #[U O a,U O b,Y (an ⟨g,0,ns⟩) m E] 28);have F:=ag (Rb E s o2.rd (ay _) i l aa (HT.out.q qz));have cc:=bc2.cell;have J:=ag qz;have Uu:=f.lt;clear p C d q1 h1 G r bc2 qz o2 o1 hs;go_wp2;refine F.out.mono ?_;rintro e w3⟨v,rfl,o3,q3⟩;have Jq:=f.q q3;have dg:=J.out.size;obtain⟨Av,cv,rfl⟩:=o3.form;clear F f;go_wp2_with(refine eH (cs':=#[U O a,U O b,Y Av m cv]) rfl _ _ _ rfl rfl _ rfl rfl Jq rfl fq aj ?_;intro w9 R K s9);have p:=R.cell;exact ahX (v:=em #[bi #[U O a,U O b,Y Av m cv],ci AT]) (by simp[results,results5,go_sem,p]) rfl ⟨(J.out.trans q3).grown K (λk e=>by have:=aH e;omega),λ_=>⟨_,rfl,by rw[D.out,HM.out];exact(o3.aq (al.bA K) λg hg=>by simp only[List.mem_singleton] at hg;subst hg;exact Uu).mono dg⟩,λh=>by rw[HV.out] at h;cases h⟩
end
section
open Go.RowKit Go.WideShapes Go.ChangeShapes
def Wr{W H:Int}(I:Bool)(c:Nat){cnt:Nat}{s:Bool}(P:iz W H q n=s)(hx:eF w B A ls)(hB:B<=w.heap.size)(hn:ls.length=n)(hm:n<=9223372036854775807)(r:∀i,i<n->bytes (aS ls i))(u:s=AT->W/8=(cnt:Int)/\cnt<=4):
  ahR Gz.prog 14 #[bi (#[U O W,U O H,ci I,U O q,Y A n c]:Array AS)] w λe w'=>Q w w'/\((e=dl (ci AT)/\s=AT/\∀i,i<n->∃L,jg (aS ls i) cnt I=an L)\/(e=dl (ci Ba)/\(s=AT->∃i,i<n/\jg (aS ls i) cnt I=ns))):=by
 have S:Q w (w.alloc (ap (#[U O W,U O H,ci I,U O q,Y A n c]:Array AS) 25)):=aU;have bc:=ak.new w 25 (#[U O W,U O H,ci I,U O q,Y A n c]:Array AS);have T:=ag λz=>acr W H I q A n c z;rw[P] at T;have x:s=AT->8<=W/\W<=32:=λh=>by rw[h] at P;have:=(ni P).1;exact⟨this.1,this.2.1⟩
 clear P;have HX:=ag hx;have HN:=ag hn;have V:=ag r;clear hx hn r;cases s with
 |false=>go_enter Gz.gf func14,ntmps14;go_wp2;refine(T.out _).mono ?_;rintro e X⟨rfl,q1⟩;go_wp2;go_ret;exact⟨S.trans q1,.inr ⟨rfl,λh=>by cases h⟩⟩
 |true=>
  obtain⟨Z,y⟩:=u rfl;obtain⟨w8,Jf⟩:=x rfl;have hwt:W.tdiv 8=(cnt:Int):=by rw[Int.tdiv_eq_ediv_of_nonneg (by omega)];exact Z
  clear u x;have I1:EV.wrap (cnt:Int)=(cnt:Int):=aD _ ⟨aa,aa⟩;go_enter Gz.gf func14,ntmps14;go_wp2;refine(T.out _).mono ?_;rintro e X⟨rfl,q1⟩;have K0:Hid (Q w X/\ak X w.heap.size 25 (#[U O W,U O H,ci I,U O q,Y A n c]:Array AS)):=⟨S.trans q1,bc.q q1⟩;clear S bc q1 T;go_wp2;go_loopw[3] (λi wr=>∃k:Nat,k<=n/\i=U O k/\Hid (Q w wr/\ak wr w.heap.size 25 (#[U O W,U O H,ci I,U O q,Y A n c]:Array AS))/\Hid (∀l,l<k->∃L,jg (aS ls l) cnt I=an L)) (λi _=>n-(intOf i).toNat)
  case atStart=>exact⟨0,aa,rfl,K0,λl h=>absurd h aa⟩
  case round=>
   obtain⟨k,hk,rfl,hK,C⟩:=hrel;clear K0;have oc:=hK.out.2.cell;by_cases D:k<n
   ·have mp:(k:Int)<n:=by omega
    obtain⟨b,o,rfl,hb,hc⟩:=HX.out (by rw[HN.out];omega);obtain⟨A1,c1,E,F,xm,y⟩:=hc k (by rw[HN.out];omega);have p:=hK.out.1;have Vn:=p.size;have sc:wr.cell? ⟨b,o+k,ns⟩=an (Y A1 (aS ls k).length c1):=(p.cell b (o+k) aa).trans E;have G:=ag (Mu A1 c1 B cnt I wr.drew ((F.q p hB).q (Q.refl _).drew aa) rfl ⟨xm,y⟩ (by show B<=wr.heap.size;omega) (V.out k D));clear p hc E F;go_wp2;refine eo (λww=>(∀i,ww.cell? ⟨w.heap.size,i,ns⟩=(#[U O W,U O H,ci I,U O q,Y (an ⟨b,o,ns⟩) n c]:Array AS)[i]?)/\ww.cell? ⟨b,o+k,ns⟩=an (Y A1 (aS ls k).length c1)) (λ_=>Ba) aj ⟨oc,sc⟩ λhS=>?_;refine ai 0 (h:=ai 1 (h:=ai 2 (h:=ai 3 (h:=ai 4 (h:=ai 5 (h:=ai 6 (h:=ai 7 (h:=ai 8 (h:=ai 9 (h:=?_))))))))));refine bw (k:=10) aj rfl rfl λK2 J=>?_;go_simp;refine G.out.mono ?_;rintro e R hd
    obtain⟨vv,t,he,K,M,q5⟩:∃vv t,e=dl (em #[vv,ci t])/\(t=AT->∃L,jg (aS ls k) cnt I=an L)/\(t=Ba->jg (aS ls k) cnt I=ns)/\Q wr.drew R:=by obtain⟨d1,d2⟩:=hd;cases hR:jg (aS ls k) cnt I with|none=>rw[hR] at d1;obtain⟨A,m,c,e⟩:=d1;exact⟨_,_,e,λh=>(by cases h),λ_=>rfl,d2⟩|some L=>rw[hR] at d1;obtain⟨v,e,_⟩:=d1;exact⟨_,_,e,λ_=>⟨L,rfl⟩,λh=>(by cases h),d2⟩
    subst he;have a:Q wr R:=(Q.refl wr).drew.trans q5;have oc:=(hK.out.2.q a).cell;have Jv:b<wr.heap.size:=aa;refine J.out _ _ ⟨oc,(a.cell b (o+k) Jv).trans sc⟩ λhS=>?_;clear J K2;refine bh ?_;refine ai 11 (h:=ai 12 (h:=ai 13 (h:=ai 14 (h:=ai 15 (h:=?_)))));refine kF aj ?_ _;have K5:Hid (Q w R/\ak R w.heap.size 25 (#[U O W,U O H,ci I,U O q,Y (an ⟨b,o,ns⟩) n c]:Array AS)):=⟨hK.out.1.trans a,hK.out.2.q a⟩;have d:=ag K;have f:=ag M;clear hS G hK q5 a sc K M hd;cases t with
    |false=>have N:=f.out rfl;have j:=ag N;clear N d f;go_wp2;go_ret;exact⟨K5.out.1,.inr ⟨rfl,λ_=>⟨k,D,j.out⟩⟩⟩
    |true=>
     have N:=d.out rfl;have j:=ag N;clear N d f;go_wp2;go_roundw
     case rel=>
      refine⟨k+1,aa,aJ,K5,λl hl=>?_⟩;by_cases h:l<k
      ·exact C.out l h
      ·obtain rfl:l=k:=by omega
       exact j.out
     case measure=>exact bj
   ·have rx:k=n:=by omega
    subst rx;have p:=ag hK.out.1;clear hK;go_wp2;go_ret;exact⟨p.out,.inl ⟨rfl,trivial,C.out⟩⟩
end
section
open Go.RowKit
def Yf(W H n t E B' d cs cnt Bc:Nat)(A F:Option Addr)(I:Bool)(ls:List (List Int))(l:Nat->List Int)(ref:List Int)(q RW u:Int)(w:rl)(hW:fO W)(hH:fO H)(hn:n=W*H)(n1:n<=1024)(Cs:cnt*8=W)(hrH:d*8<=H)(xW:B'<=w.heap.size)(hT:Tb w)(hq:qB q=AT)
  (hx:eF w Bc A ls)(hBc:Bc<=w.heap.size)(VE:ls.length=d)(VF:∀i,i<d->bytes (aS ls i))(G:∀i,i<d->jg (aS ls i) cnt I=an (l i))
  (VG:∀i k,i<d->k<cnt->dt (aP (l i) k)=AT)(Y':Rd w B' F ref)(hr:(∃i k,i<d/\k<cnt/\nth (aP (l i) k) 0≠2)->RW=W/\u=H/\ref.length=t/\bV W H ref=AT):
  ahR Gz.prog 17 #[bi (#[U O W,U O H,ci I,U O q,Y A d cs]:Array AS),bi (#[U O RW,U O u,Y F t E]:Array AS)] w λe w'=>∃v,e=dl (bi #[U O W,U O H,v])/\Own w' w.heap.size v n (iy W H ref l q d (so n 128))/\Q w w':=by
 have hp:=Ei hW hH n hn;obtain⟨⟨p1,p2,p3⟩,⟨p4,p5,p6⟩,p7,p8⟩:=jU hp;have rK:=ag λk=>qm hp (zP W H ref l q (so n 128) k) (zQ W H ref l q p8 k);have J:Q w (((w.alloc (ap (#[U O W,U O H,ci I,U O q,Y A d cs]:Array AS) 25)).alloc (ap (#[U O RW,U O u,Y F t E]:Array AS) 28)).alloc (ap #[U O 0,U O 0,Y ns 0 0] 28)):=aU;have K:=((ak.new w 25 (#[U O W,U O H,ci I,U O q,Y A d cs]:Array AS)).alloc (ap (#[U O RW,U O u,Y F t E]:Array AS) 28)).alloc (ap #[U O 0,U O 0,Y ns 0 0] 28);have M:=(ak.new (w.alloc (ap (#[U O W,U O H,ci I,U O q,Y A d cs]:Array AS) 25)) 28 (#[U O RW,U O u,Y F t E]:Array AS)).alloc (ap #[U O 0,U O 0,Y ns 0 0] 28);have r:=ak.new ((w.alloc (ap (#[U O W,U O H,ci I,U O q,Y A d cs]:Array AS) 25)).alloc (ap (#[U O RW,U O u,Y F t E]:Array AS) 28)) 28 #[U O 0,U O 0,Y ns 0 0];simp only[NO] at M r;have VH:(W:Int)*(H:Int)=(n:Int):=by rw[hn,Int.natCast_mul]
 have NP:=ag (λz=>Wq 128 z hW hH (show(0:Int)<=128/\(128:Int)<=255 by omega) VH n1);have Hg:64<=n:=by rw[hn];exact eZ (show 8<=W by omega) (show 8<=H by omega)
 have HX:=ag hx;have S:=ag VE;have VI:=ag VF;have N:=ag G;have HR:=ag hr;have BX:=ag VG;have VJ:=ag Y';have HT:=ag hT;have Jk:Hid (cnt=W/8):=by unfold Hid;omega
 have T:1<=cnt:=aa;have x:(W:Int)/8=(cnt:Int):=aa;have y:EV.wrap (cnt:Int)=(cnt:Int):=aD _ ⟨aa,aa⟩;have HW8:=ag (ahU x y);replace Cs:cnt*8<=W:=aa;clear hx VE VF G hr VG Y' hT hp p7 p8 hn VH x y;go_enter Gz.gf func17,ntmps17;go_wp2;generalize(((w.alloc (ap (#[U O W,U O H,ci I,U O q,Y A d cs]:Array AS) 25)).alloc (ap (#[U O RW,U O u,Y F t E]:Array AS) 28)).alloc (ap #[U O 0,U O 0,Y ns 0 0] 28))=w0 at J K M r⊢;have t7:=r.lt;refine(NP.out _).mono ?_;rintro e P⟨v,rfl,o1,q1⟩;have xo:=J.size;rcases o1.dC with⟨_,h0⟩|⟨g,c,rfl,rv,wt,_⟩
 ·omega
 replace J:=J.trans q1;replace K:=K.q q1;replace M:=M.q q1;replace r:=r.q q1;have hz:=r.lt;have bp:ak (P.alloc (ap (#[U O W,U O H,Y (an ⟨g,0,ns⟩) n c]:Array AS) 28)) P.heap.size 28 (#[U O W,U O H,Y (an ⟨g,0,ns⟩) n c]:Array AS):=ak.new P _ _;replace J:=J.alloc (ap (#[U O W,U O H,Y (an ⟨g,0,ns⟩) n c]:Array AS) 28);replace K:=K.alloc (ap (#[U O W,U O H,Y (an ⟨g,0,ns⟩) n c]:Array AS) 28);replace M:=M.alloc (ap (#[U O W,U O H,Y (an ⟨g,0,ns⟩) n c]:Array AS) 28);replace r:=r.alloc (ap (#[U O W,U O H,Y (an ⟨g,0,ns⟩) n c]:Array AS) 28);replace o1:=o1.alloc (ap (#[U O W,U O H,Y (an ⟨g,0,ns⟩) n c]:Array AS) 28);have V:=K.cell;have Co:P.heap.size<(P.alloc (ap (#[U O W,U O H,Y (an ⟨g,0,ns⟩) n c]:Array AS) 28)).heap.size:=by rw[NO];omega
 have K0:=ag (ahU o1 (ahU J (ahU K (ahU M (ahU r bp)))));have li:w.heap.size<=g:=aa;clear q1 NP o1 J K M r bp;have agJ:w.heap.size+3<=w0.heap.size:=aa;have Jl:g<P.heap.size:=wt;go_wp2;generalize P.alloc (ap (#[U O W,U O H,Y (an ⟨g,0,ns⟩) n c]:Array AS) 28)=w2 at K0 V Co⊢;generalize P.heap.size=p0 at K0 Jl Co⊢;clear hz V wt;go_loopw[6] (λi wr=>∃k:Nat,k<=d/\i=U O k/\Hid (Own wr w0.heap.size (Y (an ⟨g,0,ns⟩) n c) n (iy W H ref l q k (so n 128))/\Q w wr/\ak wr w.heap.size 25 (#[U O W,U O H,ci I,U O q,Y A d cs]:Array AS)/\ak wr (w.heap.size+1) 28 (#[U O RW,U O u,Y F t E]:Array AS)/\ak wr (w.heap.size+1+1) 28 #[U O 0,U O 0,Y ns 0 0]/\ak wr p0 28 (#[U O W,U O H,Y (an ⟨g,0,ns⟩) n c]:Array AS))) (λi _=>d-(intOf i).toNat)
 case atStart=>exact⟨0,aa,rfl,K0.out⟩
 case round=>
  obtain⟨k,hk,rfl,hK⟩:=hrel;obtain⟨R,f,s,m,C,p⟩:=hK.out;clear hK K0;have V:=s.cell;by_cases D:k<d
  ·have mp:(k:Int)<d:=by omega
   have rc:=m.cell;have pc:=p.cell;obtain⟨b,o,rfl,hb,hc⟩:=HX.out (by rw[S.out];omega);obtain⟨A1,c1,T,If,xm,T'⟩:=hc k (by rw[S.out];omega);have sc:wr.cell? ⟨b,o+k,ns⟩=an (Y A1 (aS ls k).length c1):=(f.cell b (o+k) aa).trans T;have HS:Hid (iy W H ref l q (k+1) (so n 128)=ie W H ref k (l k) q (W/8) (iy W H ref l q k (so n 128))):=rfl;have VK:=ag (rK.out k);generalize iy W H ref l q k (so n 128)=ys at R HS VK;have X:=ag (Mu A1 c1 Bc cnt I wr.drew ((If.q f hBc).q (Q.refl _).drew (by have:=f.size;omega)) rfl ⟨xm,T'⟩ (by show Bc<=wr.heap.size;have:=f.size;omega) (VI.out k D));rw[N.out k D] at X;have KK:=ag (ahU R (ahU f (ahU s (ahU m (ahU C p)))));obtain⟨x,y⟩:=HW8.out;clear R f s m C p hc T If;go_wp2;refine eo (λww=>(∀i,ww.cell? ⟨w.heap.size,i,ns⟩=(#[U O W,U O H,ci I,U O q,Y (an ⟨b,o,ns⟩) d cs]:Array AS)[i]?)/\ww.cell? ⟨b,o+k,ns⟩=an (Y A1 (aS ls k).length c1)) (λ_=>Ba) aj ⟨V,sc⟩ λhS=>?_;refine ai 0 (h:=ai 1 (h:=ai 2 (h:=ai 3 (h:=ai 4 (h:=ai 5 (h:=ai 6 (h:=ai 7 (h:=ai 8 (h:=ai 9 (h:=?_))))))))));refine bw (k:=10) aj rfl rfl λK2 rF=>?_;go_simp;refine X.out.mono ?_;rintro e w5⟨⟨v,rfl,oL⟩,q5⟩;rw[aiE] at oL;obtain⟨gl,cl,rfl⟩:=oL.iP aa;obtain⟨R,f,s,m,C,p⟩:=KK.out;have a:Q wr w5:=(Q.refl wr).drew.trans q5;have xt:=oL.below gl rfl;have Do:=R.block;have i6:gl≠g:=by have h9:wr.heap.size<=gl:=xt;omega
   have V:=(s.q a).cell;have Jv:b<wr.heap.size:=by have:=f.size;omega
   have sc:=(a.cell b (o+k) Jv).trans sc;refine rF.out _ _ ⟨V,sc⟩ λhS=>?_;clear rF K2;refine bh ?_;refine ai 11 (h:=ai 12 (h:=ai 13 (h:=ai 14 (h:=ai 15 (h:=?_)))));refine kF aj ?_ _;have VL:=ag (abV k t E RW u (R.q a) aa aa VK.out (HT.out.q (f.trans a)) oL i6 Cs aa hq (λj hj=>BX.out k j D hj) (VJ.out.q (f.trans a) xW) λ⟨j,hj,h⟩=>HR.out ⟨k,j,D,hj,h⟩);have VM:=ag (ahU (f.trans a) (ahU (s.q a) (ahU (m.q a) (ahU (C.q a) (p.q a)))));have rc:=(m.q a).cell;have pc:=(p.q a).cell;clear hS X oL q5 a R f s m C p KK sc x y;go_wp2;refine VL.out.mono ?_;rintro e w6⟨rfl,o6,Z⟩;obtain⟨f,s,m,C,p⟩:=VM.out;have M5:=ag (ahU o6 (ahU (Z.toQ f av) (ahU (s.aq Z av) (ahU (m.aq Z av) (ahU (C.aq Z av) (p.aq Z av))))));rw[Jk.out,<-HS.out] at M5;clear f s m C p o6 Z VM VL V rc pc;exact yS
  ·have rx:k=d:=by omega
   subst rx;have pc:=p.cell;clear m BX HR VJ HT HX S VI N;go_wp2_with(refine eH (cs':=(#[U O W,U O H,Y (an ⟨g,0,ns⟩) n c]:Array AS)) rfl _ _ _ rfl rfl _ rfl rfl C rfl fq aj ?_;intro w9 b9 g9 s9);have bc:=b9.cell;refine ahX (v:=bi (#[U O W,U O H,Y (an ⟨g,0,ns⟩) n c]:Array AS)) (by simp[results,results17,go_sem,bc]) rfl ⟨_,rfl,(R.aq (al.bA g9) av).mono aa,f.grown g9 λk e=>by have:=aH e;omega⟩
end
end Go.Proofs.Q0
