import Derived.Test.YtjjdeakghpmpfaaGreatDoorK29
set_option maxRecDepth 100000
set_option maxHeartbeats 8000000
set_option linter.all false
open Go.Value renaming int->U,slice->Y,bool->a9,agg->a5,pointer->ci,tuple->dl,iface->em
open Go.IntKind renaming i64->O
open Go.Obj renaming cells->ac
open Go.Ending renaming returned->be
open Go renaming Addr->aiI,Calls->UL,Value->rl,World->ns,bodyPost_ret->aiA
open Go.IntKind renaming i64->AS
open Go.World renaming cell?_setCell_other->ala,size_alloc->BE
open Int renaming toNat_natCast->ajb
open List renaming nil_append->ajM
namespace Go.Proofs
def Dn{p:Prop}(h:p:=by go_enter Gz.gf func16,ntmps16;go_wp2;go_ret;exact⟨rfl,rfl⟩):p:=h
def Mi{p:Prop}(h:p:=by clear he hW hH;go_enter Gz.gf func10,ntmps10;go_wp2;refine(aeH c c' HX.out HY.out hn.out qx.out lx ly).mono ?_;rw[HE.out];rintro e w'⟨rfl,k,rfl⟩;go_wp2;go_ret;exact⟨by rw[xv.out];rfl,q0.drewN _⟩):p:=h
def Lu{p:Prop}(h:p:=by go_enter Gz.gf func10,ntmps10;go_wp2;go_ret;exact⟨by rw[xv.out];rfl,q0⟩):p:=h
def Lw{p:Prop}(h:p:=by rw[hS];exact((hK.out.to ((Q.refl _).drewN nq)).set i1 _ tG aa).set pt _ tG aa):p:=h
end Go.Proofs
namespace Go.Proofs.Q0
open Go.Proofs.Tryz
variable{w:ns}{n B W H:Nat}{A:Option aiI}{xs ref:List Int}{v P3:rl}{ls:List (List Int)}{q:Int}{I:Bool}
section
open Go.RowKit
def Su{c:Nat}{l:Int}(h1:0<=l)(a:l<=1000000000000)(b:n<=9223372036854775807):
  UL Gz.prog 16 #[Y A n c,U O l] w λe w'=>e=be (U O (if l<n then -1 else l-n))/\w=w':=by
 by_cases h:l<n
 ·rw[if_pos h];by_cases d:n<=4000000000000000000
  ·exact Dn
  ·have hw:AS.wrap (l-(n:Int))=l-n:=aB _ ⟨aa,aa⟩;exact Dn
 ·rw[if_neg h];exact Dn
def aaJ(W H:Int)(A:Option aiI)(c:Nat){l:Int}(w:ns)(h1:0<=l)(a:l<=1000000000000)(b:n<=9223372036854775807):
  UL Gz.prog 5 #[a5 #[U O W,U O H,Y A n c],U O l] w λe w'=>e=be (U O (if l<n then -1 else l-n))/\Q w w':=by
 by_cases h:l<n
 ·rw[if_pos h];have d:=af h;go_enter Gz.gf func5,ntmps5;go_wp2;refine(Su h1 a b).mono ?_;rintro e w'⟨rfl,rfl⟩;exact ri
 ·rw[if_neg h];have f:(n:Int)<=l:=aa;go_enter Gz.gf func5,ntmps5;go_wp2;refine(Su h1 a b).mono ?_;rintro e w'⟨rfl,rfl⟩;exact ri
def rT(W H:Int)(A:Option aiI)(c:Nat)(l:Rd w B A xs)(m:B<=w.heap.size)(r:Hid (xs.length=n))(hm:n<=1048576):
  UL Gz.prog 8 #[a5 #[U O W,U O H,Y A n c]] w λe w'=>∃v,e=be (a5 #[U O W,U O H,v])/\Own w' w.heap.size v n xs/\Q w w':=by
 have b:Q w (((w.alloc (ac #[U O W,U O H,Y A n c] 27)).alloc (ac #[U O 0,U O 0,Y none 0 0] 30)).alloc (ac #[U O W,U O H,Y none 0 0] 30)):=aR;have s:=((ak.new w 27 #[U O W,U O H,Y A n c]).alloc (ac #[U O 0,U O 0,Y none 0 0] 30)).alloc (ac #[U O W,U O H,Y none 0 0] 30);have h:=(ak.new (w.alloc (ac #[U O W,U O H,Y A n c] 27)) 30 #[U O 0,U O 0,Y none 0 0]).alloc (ac #[U O W,U O H,Y none 0 0] 30);have i:=ak.new ((w.alloc (ac #[U O W,U O H,Y A n c] 27)).alloc (ac #[U O 0,U O 0,Y none 0 0] 30)) 30 #[U O W,U O H,Y none 0 0];have a:(((w.alloc (ac #[U O W,U O H,Y A n c] 27)).alloc (ac #[U O 0,U O 0,Y none 0 0] 30)).alloc (ac #[U O W,U O H,Y none 0 0] 30)).heap.size=w.heap.size+1+1+1:=aj;simp only[BE] at h i;have t:=af (l.q b m);have j:=af a;clear l a;go_enter Gz.gf func8,ntmps8;go_wp2;refine(aeI c t.out r.out aa (aJ m b.size)).mono ?_;rintro e C⟨v,rfl,d,f⟩;obtain⟨u,x,rfl⟩:=d.form;rw[j.out] at d;have p:=h.q f;have d4:=i.q f;have D:=d4.cell;have f4:=d4.free;have k:=p.cell;have E:=p.free;have y:=af d;have z:=af (b.trans f);clear s h i b f d;go_wp2;refine aiA (v:=a5 #[U O W,U O H,Y u n x]) (by simp[results,results8,go_sem,k]) rfl ⟨_,rfl,?_,?_⟩
 ·exact Own.mono (B:=w.heap.size+1+1+1) (by repeat(first|exact y.out|refine Own.aN ?_ (by simp) _)) aa
 ·have hq:=z.out;exact aR
def zt{W H a b:Int}{j:Option aiI}{d:Nat}(c c':Nat){B':Nat}{f:List Int}{t:Bool}(p:Rd w B A xs)(s:B<=w.heap.size)(r:Rd w B' j f)(k:B'<=w.heap.size)(hn:Hid (xs.length=n))(qx:Hid (f.length=d))(lx:n<=maxLen)(ly:d<=maxLen)
  (i:Hid (decide (W=a/\H=b/\xs=f)=t)):
  UL Gz.prog 10 #[a5 #[U O W,U O H,Y A n c],a5 #[U O a,U O b,Y j d c']] w λe w'=>e=be (a9 t)/\Q w w':=by
 have q0:Q w ((w.alloc (ac #[U O W,U O H,Y A n c] 30)).alloc (ac #[U O a,U O b,Y j d c'] 30)):=aR;have HX:=af (p.q q0 s);have HY:=af (r.q q0 k);clear p r;by_cases hW:W=a
 ·have l:(W !=a)=false:=by rw[bne_eq_false_iff_eq];exact hW
  by_cases hH:H=b
  ·have m:(H !=b)=false:=by rw[bne_eq_false_iff_eq];exact hH
   cases he:(xs==f)
   ·have HE:=af he;have xv:Hid (t=false):=by rw[Hid,<-i.out];exact decide_eq_false (λh=>by have:=h.2.2;rw[beq_eq_false_iff_ne] at he;exact he this)
    exact Mi
   ·have HE:=af he;have xv:Hid (t=true):=by rw[Hid,<-i.out];exact decide_eq_true ⟨hW,hH,by rw[beq_iff_eq] at he;exact he⟩
    exact Mi
  ·have m:(H !=b)=true:=by rw[bne_iff_ne];exact hH
   have xv:Hid (t=false):=by rw[Hid,<-i.out];exact decide_eq_false (λh=>hH h.2.1)
   clear hW hH;exact Lu
 ·have l:(W !=a)=true:=by rw[bne_iff_ne];exact hW
  have xv:Hid (t=false):=by rw[Hid,<-i.out];exact decide_eq_false (λh=>hW h.1)
  clear hW;exact Lu
def Nq(W H:Int)(a:Int)(h:Own w B v n xs)(b:0<=a)(d:a<=1000000000000)(i:n<=1000000000000):
  UL Gz.prog 13 #[a5 #[U O W,U O H,v],U O a] w λe w'=>e=be (U O (a+n))/\Own w' B v n (gj a n)/\w.grownBy w' v.ownBlock:=by
 obtain⟨A,c,rfl⟩:=h.form;have f:=af (h.alloc (ac #[U O W,U O H,Y A n c] 30));go_enter Gz.gf func13,ntmps13;go_wp2;refine(abJ f.out b d i).mono ?_;rintro e w'⟨rfl,o1,k⟩;have l:=af o1;have m:=af k;go_wp2;go_ret;exact⟨rfl,l.out,World.grownBy.andThen (row':=(Value.slice A n c).ownBlock) (World.grownBy_alloc _ _ _) m.out λj e=>.inr e⟩
def Nr(W H:Int){a:Int}(h:Own w B v n (gj a n))(b:0<=a)(d:a<=1000000000000)(i:n<=1000000000000):
  UL Gz.prog 14 #[a5 #[U O W,U O H,v],U O a] w λe w'=>e=be (U O (a+n))/\Q w w':=by
 obtain⟨A,c,rfl⟩:=h.form;have f:=af (h.alloc (ac #[U O W,U O H,Y A n c] 30));go_enter Gz.gf func14,ntmps14;go_wp2;refine(abK f.out b d i).mono ?_;rintro e w'⟨rfl,k,rfl⟩;exact ri
end
section
open Go.RowKit
def Rn{g o:Nat}(hc:∀i,i<xs.length->w.cell? ⟨g,o+i,none⟩=some (U O (xs[i]?.getD 0))):
  ∀j u,(xs.map (Value.int .i64))[j]?=some u->w.cell? ((⟨g,o,none⟩:aiI).add j)=some u:=λj u a=>by
 rw[List.getElem?_map] at a;obtain⟨y,b,rfl⟩:=jD.1 a;have h:=hc j (pd.1 b).1;rw[b] at h;by_cases h0:j=0
 ·subst h0;simpa[Addr.add] using h
 ·simpa[Addr.add,h0] using h
def clone(W H:Int)(A:Option aiI)(n c B:Nat)(xs:List Int)(w:ns)(p:Rd w B A xs)(z:B<=w.heap.size)(hn:Hid (xs.length=n))(h1:1<=n)(P:n<=1024):
  UL Gz.prog 45 #[a5 #[U O W,U O H,Y A n c]] w λe w'=>∃v,e=be (a5 #[U O W,U O H,v])/\Own w' w.heap.size v n xs/\Q w w':=by
 have d:Q w ((w.alloc (ac #[U O W,U O H,Y A n c] 30)).alloc (ac #[U O 0,U O 0,Y none 0 0] 30)):=aR;have f:=(ak.new w 30 #[U O W,U O H,Y A n c]).alloc (ac #[U O 0,U O 0,Y none 0 0] 30);have d0:=ak.new (w.alloc (ac #[U O W,U O H,Y A n c] 30)) 30 #[U O 0,U O 0,Y none 0 0];rw[BE] at d0;have r:=p.q d z;obtain⟨g,o,rfl,C,hc⟩:=r nJ;clear p r;obtain⟨i0,hi,j,hz1,hz2⟩:=info_parts rU;have b:((w.alloc (ac #[U O W,U O H,Y (some ⟨g,o,none⟩) n c] 30)).alloc (ac #[U O 0,U O 0,Y none 0 0] 30)).heap.size=w.heap.size+2:=aj;go_enter Gz.gf func45,ntmps45;go_wp2;generalize(w.alloc (ac #[U O W,U O H,Y (some ⟨g,o,none⟩) n c] 30)).alloc (ac #[U O 0,U O 0,Y none 0 0] 30)=s at d f d0 C hc b⊢;have D:=af hc;have E:=af f;have D0:=af d0;have F:=af d;have k:=af b;have R:=f.cell;clear hc f d0 d b
 go_region_law (refine step_append_grows rfl _ _ _ rfl 3 i0 (U O 0) 1 8 (Gz.gu underlying25) hi j hz1 hz2 rfl aq none 0 0 [] aD (λ_=>⟨rfl,rfl⟩) rfl (λ_ h=>by cases h) ⟨g,o,none⟩ n c (xs.map (.int .i64)) aD (by simp;exact hn.out) ?_ (λu hu=>by simp at hu;obtain⟨x,_,rfl⟩:=hu;rfl) aa jC aa ?_;exact Rn D.out;intro v4 t a y;have l:Own t (w.heap.size+2) v4 n xs:=⟨hn.out,by have h:=a;simp only[Nat.zero_add,ajM] at h;rw[<-k.out];exact h⟩;have i:Q s t:=(Q.refl s).drew.trans (Q.jf y);obtain⟨G,J,rfl⟩:=l.form;have S:=(E.out.q i).cell;have d4:=D0.out.q i;have m:=d4.cell;have K:=d4.free;have M:=af l;have N:=af (F.out.trans i);clear a y l i)
 all_goals
  go_wp2;refine aiA (v:=a5 #[U O W,U O H,Y G n J]) (by simp[results,results45,go_sem,m]) rfl ⟨_,rfl,?_,?_⟩
  ·exact Own.mono (B:=w.heap.size+2) (by repeat(first|exact M.out|refine Own.aN ?_ (by simp) _)) aa
  ·have hq:=N.out;exact aR
end
section
open Go.RowKit
def afa(W H:Int)(c:Nat)(F:Rd w B A xs)(S:B<=w.heap.size)(hn:Hid (xs.length=n))(h1:1<=n)(h2:n<=1024):
  UL Gz.prog 34 #[a5 #[U O W,U O H,Y A n c]] w λe w'=>∃v,e=be (a5 #[U O W,U O H,v])/\Own w' w.heap.size v n xs/\Q w w':=by
 have p:Q w ((w.alloc (ac #[U O W,U O H,Y A n c] 30)).alloc (ac #[U O 0,U O 0,Y none 0 0] 30)):=aR;have f:=(ak.new w 30 #[U O W,U O H,Y A n c]).alloc (ac #[U O 0,U O 0,Y none 0 0] 30);have d0:=ak.new (w.alloc (ac #[U O W,U O H,Y A n c] 30)) 30 #[U O 0,U O 0,Y none 0 0];rw[BE] at d0;have G:=F.q p S;obtain⟨g,o,rfl,T,hc⟩:=G nJ;clear F G;obtain⟨i0,hi,t,hz1,hz2⟩:=info_parts rU;have l:((w.alloc (ac #[U O W,U O H,Y (some ⟨g,o,none⟩) n c] 30)).alloc (ac #[U O 0,U O 0,Y none 0 0] 30)).heap.size=w.heap.size+2:=aj;go_enter Gz.gf func34,ntmps34;go_wp2;generalize(w.alloc (ac #[U O W,U O H,Y (some ⟨g,o,none⟩) n c] 30)).alloc (ac #[U O 0,U O 0,Y none 0 0] 30)=d at p f d0 T hc l⊢;have y:g<d.heap.size:=aa;have V:=af hc;have X:=af p;clear hc p;refine et (λZ=>∀i,Z.cell? ⟨w.heap.size,i,none⟩=(#[U O W,U O H,Y (some ⟨g,o,none⟩) n c]:Array rl)[i]?) (λj=>decide (9<=j)) ai f.cell λhS=>?_;refine ah 0 (h:=ah 1 (h:=ah 2 (h:=ah 3 (h:=ah 5 (h:=ah 6 (h:=?_))))));refine bh (k:=4) ai rfl rfl λz a=>?_;go_simp;have r:Q d (d.alloc (ac #[] 3)).drew:=((Q.refl d).alloc _).drew;refine a.out _ _ ((f.q r).cell) λhS=>?_;clear a z;refine aV ?_;refine bh (k:=7) ai rfl rfl λz a=>?_;refine step_append_grows rfl _ _ _ rfl 3 i0 (U O 0) 1 8 (Gz.gu underlying25) hi t hz1 hz2 rfl aq (some ⟨w.heap.size+2,0,none⟩) 0 0 [] aD (λh=>by cases h) rfl (λ_ _ j u hu=>by simp at hu) ⟨g,o,none⟩ n c (xs.map (.int .i64)) aD (by simp;exact hn.out) ?_ (λu hu=>by simp at hu;obtain⟨x,_,rfl⟩:=hu;rfl) aa jC aa ?_
 ·exact Rn (λi hi=>(r.cell g (o+i) y).trans (V.out i hi))
 intro v4 J b K;have m:(d.alloc (ac #[] 3)).drew.heap.size=w.heap.size+2+1:=by show(d.alloc (ac #[] 3)).heap.size=_;rw[BE,l]
 have C:Own J (w.heap.size+2) v4 n xs:=⟨hn.out,by
  have h:=b;simp only[Nat.zero_add,ajM] at h;exact⟨h.1,h.2.imp id λ⟨g,D,E,e1,e2,e3⟩=>⟨g,D,E,e1,by rw[m] at e2;omega,e3⟩⟩⟩
 have s:Q d J:=r.trans (Q.jf K);obtain⟨M,N,rfl⟩:=C.form;have P:=f.q s;have d4:=d0.q s;have O4:=af C;have Q4:=af (X.out.trans s);refine a.out _ _ P.cell λhS=>?_;clear a z;refine aV ?_;refine ah 8 (h:=?_);clear b K C s r hS f d0 P;refine iu [9] 9 ai aq rfl ?_;refine fw (cs':=#[U O W,U O H,Y M n N]) rfl _ _ _ rfl rfl _ rfl rfl d4 rfl iq ai ?_;intro w9 b9 R s9;go_wp2;have bc:=b9.cell;refine aiA (v:=a5 #[U O W,U O H,Y M n N]) (by simp[results,results34,go_sem,bc]) rfl ⟨_,rfl,(O4.out.aw (av.dQ R) aj).mono aa,Q4.out.grown R λk e=>by have:=aL e;omega⟩
end
section
open Go.RowKit
structure iX(w wr:ns)(W H:Nat)(P3:rl)(o g n c B:Nat)(xs:List Int):Prop where
 own:Own wr B (Y (some ⟨g,0,none⟩) n c) n xs
 pb:ak wr w.heap.size 30 #[U O W,U O H,P3]
 rb:ak wr (w.heap.size+1) 30 #[U O 0,U O 0,Y none 0 0]
 ob:ak wr o 30 #[U O W,U O H,Y (some ⟨g,0,none⟩) n c]
 q:Q w wr
section
variable{w wr w':ns}{W H:Nat}{P3:rl}{o g n c B:Nat}{xs:List Int}
def iX.to(h:iX w wr W H P3 o g n c B xs)(k:Q wr w'):iX w w' W H P3 o g n c B xs:=⟨h.own.q k,h.pb.q k,h.rb.q k,h.ob.q k,h.q.trans k⟩
def iX.set(h:iX w wr W H P3 o g n c B xs)(i:Nat)(v:Int)(b:w.heap.size+2<=B)(a:o≠g):iX w (wr.setCell ⟨g,i,none⟩ (U O v)) W H P3 o g n c B (xs.set i v):=by have d:=h.own.block;exact⟨h.own.set i v,h.pb.aN (p:=⟨g,i,none⟩) mG _,h.rb.aN (p:=⟨g,i,none⟩) qX _,h.ob.aN (p:=⟨g,i,none⟩) a _,h.q.set xH _⟩
end
def Fa{L:Int}{es:List (Nat×Nat)}{p i0 i1 i3 st:Nat}(h:cZ (dg L es xs)=true)(j:(dg L es xs).length=n)(k:n=H*W)(e:jS W H (p,st))(h0:p=i0+2*st)(h1:p=i1+st)(f:p+st=i3):
  ∃a b c d:Int,(dg L es xs)[i0]?.getD 0=a/\(dg L es xs)[i1]?.getD 0=b/\(dg L es xs)[p]?.getD 0=c/\(dg L es xs)[i3]?.getD 0=d/\(0<=a/\a<=255)/\(0<=b/\b<=255)/\(0<=c/\c<=255)/\(0<=d/\d<=255)/\i3<n/\1<=st/\
   dg L (es++[(p,st)]) xs=((dg L es xs).set i1 (fi a b c d L)).set p (fj a b c d L):=by
 obtain⟨i,l,m,r⟩:=e;refine⟨_,_,_,_,rfl,rfl,rfl,rfl,pz h _ aa,pz h _ aa,pz h _ aa,pz h _ aa,aa,i,?_⟩;rw[aaH];unfold tc;rw[show p-2*st=i0 by omega,show p-st=i1 by omega,f]
def aaK(c:Nat)(q:Nat)(hx:Rd w B A xs)(hB:B<=w.heap.size)(hn:Hid (xs.length=n))(hp:bS W H xs=true)(hq:q<16):
  UL Gz.prog 19 #[a5 #[U O W,U O H,Y A n c],U O q] w λe w'=>∃v,e=be (a5 #[U O W,U O H,v])/\Own w' w.heap.size v n (dg (fH q) (fI W H) xs)/\Q w w':=by
 have Z:Q w ((w.alloc (ac #[U O W,U O H,Y A n c] 30)).alloc (ac #[U O 0,U O 0,Y none 0 0] 30)):=aR;have bp:=(ak.new w 30 #[U O W,U O H,Y A n c]).alloc (ac #[U O 0,U O 0,Y none 0 0] 30);have br:=ak.new (w.alloc (ac #[U O W,U O H,Y A n c] 30)) 30 #[U O 0,U O 0,Y none 0 0];rw[BE] at br;obtain⟨⟨p1,p2,p3⟩,⟨p4,p5,p6⟩,p7,p8⟩:=jH hp;have r:n=H*W:=AF p7 hn.out;have mt:n<=1024:=by rw[r];exact fO (show H<=32 by omega) (show W<=32 by omega)
 have Hf:64<=n:=by rw[r];exact fO (show 8<=H by omega) (show 8<=W by omega)
 have hL:=Sk hq;have FL:=af λz=>Wr (q:Int) z rfl hq;have OK:Hid (∀es:List (Nat×Nat),es<+:fI W H->cZ (dg (fH q) es xs)=true):=λes he=>E9 (W:=W) (H:=H) (fH q) es p8 (by rw[hn.out];exact r) λp hp=>Ad aa aa (he.subset hp);have LN:Hid (∀es:List (Nat×Nat),(dg (fH q) es xs).length=n):=λes=>(E8 _ _ _).trans hn.out;have PV:=af λy k hy hk=>@Pj W H y k hy hk;have PH:=af λy k hy hk=>@Pk W H y k hy hk;have EE:Hid (fI W H=bH (dP W) ((W-1)/4) H 0++bH (fX W) ((H-1)/4) W 0):=rfl;obtain⟨m,hm⟩:∃m,(W-1)/4=m:=⟨_,rfl⟩;obtain⟨G,T'⟩:∃m,(H-1)/4=m:=⟨_,rfl⟩;rw[hm] at PV PH EE;rw[T'] at PH EE;generalize fH q=L at hL FL OK LN⊢;obtain⟨BZ,B2⟩:=hL;have CP:=af (afa W H c (hx.q Z hB) (aJ hB Z.size) hn aa mt);have EQ:=af r;have Jy:=bp.lt;have Jz:=br.lt;clear hx hp p7 p8 r;go_enter Gz.gf func19,ntmps19;go_wp2;refine CP.out.mono ?_;rintro e w1⟨v,rfl,o1,q1⟩;generalize((w.alloc (ac #[U O W,U O H,Y A n c] 30)).alloc (ac #[U O 0,U O 0,Y none 0 0] 30))=u at Z bp br Jy Jz q1 o1;rcases o1.dD with⟨_,h0⟩|⟨g,j,rfl,qL,t7,_⟩
 ·omega
 have pl:=q1.size;have Bj:=Z.size
 have J:Hid (iX w (w1.alloc (ac #[U O W,U O H,Y (some ⟨g,0,none⟩) n j] 30)) W H (Y A n c) w1.heap.size g n j u.heap.size xs):=
  ⟨o1.alloc _,(bp.q q1).alloc _,(br.q q1).alloc _,ak.new w1 _ _,(Z.trans q1).alloc _⟩
 have s:=J.out.pb.cell;have tG:w.heap.size+2<=u.heap.size:=aa;have wB:g<w1.heap.size:=t7;clear CP Z bp br q1 o1;go_wp2;generalize w1.alloc (ac #[U O W,U O H,Y (some ⟨g,0,none⟩) n j] 30)=w2 at J s⊢;generalize w1.heap.size=o at J wB pl t7⊢;refine(FL.out _).mono ?_;rintro e w3⟨rfl,q3⟩;have D:Hid (iX w w3 W H (Y A n c) o g n j u.heap.size (dg L (bH (dP W) m 0 0) xs)):=J.out.to q3;clear J q3 s FL;have s:=D.out.pb.cell;go_wp2;go_loopw[7] (λi wr=>∃y:Nat,y<=H/\i=U O y/\Hid (iX w wr W H (Y A n c) o g n j u.heap.size (dg L (bH (dP W) m y 0) xs))) (λi _=>H-(intOf i).toNat)
 case atStart=>exact⟨0,aa,rfl,D.out⟩
 case round=>
  obtain⟨y,hy,rfl,hK⟩:=hrel;clear D s;have s:=hK.out.pb.cell;by_cases aT:y<H
  ·have Jv:(y:Int)<H:=by omega
   obtain⟨E,CD⟩:∃z,y*W=z:=⟨_,rfl⟩;have Jw:E<=1024:=by rw[<-CD];exact fO (show y<=32 by omega) (show W<=32 by omega)
   have t1:AS.wrap ((y:Int)*(W:Int))=(E:Int):=xR;have D:=af hK.out;clear hK;go_wp2;go_loopw[8] (λi wr=>∃k F:Nat,k<=m/\F=4*(k+1)/\i=U O F/\Hid (iX w wr W H (Y A n c) o g n j u.heap.size (dg L (bH (dP W) m y k) xs))) (λi _=>W+4-(intOf i).toNat)
   case atStart=>exact⟨0,4,aa,rfl,rfl,D.out⟩
   case round=>
    obtain⟨k,F,hk,M,rfl,hK⟩:=hrel;clear D s;have s:=hK.out.pb.cell;by_cases N:k<m
    ·have P:(F:Int)<W:=by omega
     have VH:F<=32:=aa;obtain⟨pt,Fr⟩:∃z,E+F=z:=⟨_,rfl⟩;have f:dP W y k=(pt,1):=by unfold dP;rw[CD,<-M,Fr]
     have t2:AS.wrap ((E:Int)+(F:Int))=(pt:Int):=xS;obtain⟨i0,h0⟩:∃i0,pt=i0+2*1:=⟨pt-2,aa⟩;obtain⟨i1,h1⟩:∃i1,pt=i1+1:=⟨pt-1,aa⟩;obtain⟨i3,h3⟩:∃i3,pt+1=i3:=⟨_,rfl⟩;have pre:=PV.out y k aT N;have l:jS W H (pt,1):=by rw[<-f];exact Ad (by omega) (by omega) (pre.subset (by simp))
     obtain⟨a,b,c1,d,ea,eb,ec,ed,ba,bb,R,bd,S,_,hS⟩:=Fa (OK.out _ ((List.prefix_append _ _).trans pre)) (LN.out (bH (dP W) m y k)) EQ.out l h0 h1 h3;(have oc:=hK.out.ob.cell;have c0:=hK.out.own.at i0 aa;have T:=hK.out.own.at i1 aa;have c2:=hK.out.own.at pt aa;have c3:=hK.out.own.at i3 S;rw[ea] at c0;rw[eb] at T;rw[ec] at c2;rw[ed] at c3;have l0:(i0:Int)<(n:Int):=aa;have l1:(i1:Int)<(n:Int):=aa;have l2:(pt:Int)<(n:Int):=aa;have l3:(i3:Int)<(n:Int):=aa;have ip:¬(i1=pt):=aa;have Ua:¬(pt=i1):=aa;have f1:=hK.out.own.free i1;have f2:=hK.out.own.free pt;have TF:=af λz=>Lo L z ba bb R bd ⟨BZ,B2⟩;clear ea eb ec ed ba bb R bd pre l)
     have t3:AS.wrap ((pt:Int)-2)=(i0:Int):=by rw[show(pt:Int)-2=(i0:Int) by omega];exact aB _ ⟨by omega,by omega⟩
     have t4:AS.wrap ((pt:Int)-1)=(i1:Int):=by rw[show(pt:Int)-1=(i1:Int) by omega];exact aB _ ⟨by omega,by omega⟩
     have t5:AS.wrap ((pt:Int)+1)=(i3:Int):=by rw[show(pt:Int)+1=(i3:Int) by omega];exact aB _ ⟨by omega,by omega⟩
     rw[<-f,<-rP] at hS;have HS:=af hS
     have KS:Hid (∀nq,iX w (((wr.drewN nq).setCell ⟨g,i1,none⟩ (U O (fi a b c1 d L))).setCell ⟨g,pt,none⟩ (U O (fj a b c1 d L))) W H (Y A n c) o g n j u.heap.size (dg L (bH (dP W) m y (k+1)) xs)):=λnq=>by exact Lw
     have V:=af M;clear hS hK f Fr M h0 h1 h3;go_wp2
     go_quiet((go_at_call 36;exact nO ((TF.out _).mono λ_ _ h=>⟨h.1,h.2.symm⟩)))
     clear t1 t2;go_wp2;go_roundw;case rel=>exact⟨k+1,F+4,aa,by have:=V.out;omega,aH,KS.out _⟩
     case measure=>exact bg
    ·have t:k=m:=by omega
     subst t;have P:¬((F:Int)<W):=aa;rw[<-rR] at hK;go_wp2;go_roundw;case rel=>exact⟨y+1,aa,aH,hK⟩
     case measure=>exact bg
  ·have oZ:y=H:=by omega
   subst oZ;have J:Hid (iX w wr W y (Y A n c) o g n j u.heap.size (dg L (bH (dP W) m y 0++bH (fX W) G 0 0) xs)):=by rw[Pe,List.append_nil];exact hK
   clear hK;go_wp2;go_loopw[12] (λi wr=>∃x:Nat,x<=W/\i=U O x/\Hid (iX w wr W y (Y A n c) o g n j u.heap.size (dg L (bH (dP W) m y 0++bH (fX W) G x 0) xs))) (λi _=>W-(intOf i).toNat)
   case atStart=>exact⟨0,aa,rfl,J⟩
   case round=>
    obtain⟨x,hx,rfl,hK⟩:=hrel;clear J s;have s:=hK.out.pb.cell;by_cases wj:x<W
    ·have P:(x:Int)<W:=by omega
     have D:=af hK.out;clear hK;go_wp2;go_loopw[13] (λi wr=>∃k C:Nat,k<=G/\C=4*(k+1)/\i=U O C/\Hid (iX w wr W y (Y A n c) o g n j u.heap.size (dg L (bH (dP W) m y 0++bH (fX W) G x k) xs))) (λi _=>y+4-(intOf i).toNat)
     case atStart=>exact⟨0,4,aa,rfl,rfl,D.out⟩
     case round=>
      obtain⟨k,C,hk,X,rfl,hK⟩:=hrel;clear D s;have s:=hK.out.pb.cell;by_cases N:k<G
      ·have Jv:(C:Int)<y:=by omega
       have hyr:C<=32:=aa;obtain⟨E,CD⟩:∃z,C*W=z:=⟨_,rfl⟩;have Jw:E<=1024:=by rw[<-CD];exact fO (show C<=32 by omega) (show W<=32 by omega)
       have t1:AS.wrap ((C:Int)*(W:Int))=(E:Int):=xR;obtain⟨pt,Fr⟩:∃z,E+x=z:=⟨_,rfl⟩;have f:fX W x k=(pt,W):=by unfold fX;rw[<-X,CD,Fr]
       have t2:AS.wrap ((E:Int)+(x:Int))=(pt:Int):=xS;have pre:=PH.out x k wj N;have l:jS W y (pt,W):=by rw[<-f];exact Ad (by omega) (by omega) (pre.subset (by simp))
       have ahp:2*W<=pt:=l.2.2.1;obtain⟨i0,h0⟩:∃i0,pt=i0+2*W:=⟨pt-2*W,aa⟩;obtain⟨i1,h1⟩:∃i1,pt=i1+W:=⟨pt-W,aa⟩;obtain⟨i3,h3⟩:∃i3,pt+W=i3:=⟨_,rfl⟩;obtain⟨a,b,c1,d,ea,eb,ec,ed,ba,bb,R,bd,S,_,hS⟩:=Fa (OK.out _ ((List.prefix_append _ _).trans pre)) (LN.out (bH (dP W) m y 0++bH (fX W) G x k)) EQ.out l h0 h1 h3;(have oc:=hK.out.ob.cell;have c0:=hK.out.own.at i0 aa;have T:=hK.out.own.at i1 aa;have c2:=hK.out.own.at pt aa;have c3:=hK.out.own.at i3 S;rw[ea] at c0;rw[eb] at T;rw[ec] at c2;rw[ed] at c3;have l0:(i0:Int)<(n:Int):=aa;have l1:(i1:Int)<(n:Int):=aa;have l2:(pt:Int)<(n:Int):=aa;have l3:(i3:Int)<(n:Int):=aa;have ip:¬(i1=pt):=aa;have Ua:¬(pt=i1):=aa;have f1:=hK.out.own.free i1;have f2:=hK.out.own.free pt;have TF:=af λz=>Lo L z ba bb R bd ⟨BZ,B2⟩;clear ea eb ec ed ba bb R bd pre l)
       have t6:AS.wrap (2*(W:Int))=((2*W:Nat):Int):=by rw[show 2*(W:Int)=((2*W:Nat):Int) by omega];exact aB _ ⟨by omega,by omega⟩
       obtain⟨VI,K⟩:∃z,2*W=z:=⟨_,rfl⟩;rw[K] at t6;have t3:AS.wrap ((pt:Int)-(VI:Int))=(i0:Int):=by rw[show(pt:Int)-(VI:Int)=(i0:Int) by omega];exact aB _ ⟨by omega,by omega⟩
       have t4:AS.wrap ((pt:Int)-(W:Int))=(i1:Int):=by rw[show(pt:Int)-(W:Int)=(i1:Int) by omega];exact aB _ ⟨by omega,by omega⟩
       have t5:AS.wrap ((pt:Int)+(W:Int))=(i3:Int):=by rw[show(pt:Int)+(W:Int)=(i3:Int) by omega];exact aB _ ⟨by omega,by omega⟩
       rw[List.append_assoc,<-f,<-rP] at hS
       have KS:Hid (∀nq,iX w (((wr.drewN nq).setCell ⟨g,i1,none⟩ (U O (fi a b c1 d L))).setCell ⟨g,pt,none⟩ (U O (fj a b c1 d L))) W y (Y A n c) o g n j u.heap.size (dg L (bH (dP W) m y 0++bH (fX W) G x (k+1)) xs)):=λnq=>by exact Lw
       have V:=af X;clear hS hK f Fr X h0 h1 h3 CD K ahp;go_wp2
       go_quiet((go_at_call 36;exact nO ((TF.out _).mono λ_ _ h=>⟨h.1,h.2.symm⟩)))
       clear t1 t2;go_wp2;go_roundw;case rel=>exact⟨k+1,C+4,aa,by have:=V.out;omega,aH,KS.out _⟩
       case measure=>exact bg
      ·have t:k=G:=by omega
       subst t;have P:¬((C:Int)<y):=aa;rw[<-rR] at hK;go_wp2;go_roundw;case rel=>exact⟨x+1,aa,aH,hK⟩
       case measure=>exact bg
    ·have oY:x=W:=by omega
     subst oY;have oc:=hK.out.ob.cell;have k5:=hK.out.rb;go_wp2_with(refine fw (cs':=#[U O x,U O y,Y (some ⟨g,0,none⟩) n j]) rfl _ _ _ rfl rfl _ rfl rfl k5 rfl iq ai ?_;intro w9 b9 g9 s9);have R:=b9.cell;refine aiA (v:=a5 #[U O x,U O y,Y (some ⟨g,0,none⟩) n j]) (by simp[results,results19,go_sem,R]) rfl ⟨_,rfl,?_,hK.out.q.grown g9 λk e=>by have:=aL e;omega⟩;rw[EE.out];exact(hK.out.own.aw (av.dQ g9) aA).mono aa
end
section
open Go.RowKit Go.WideShapes Go.ChangeShapes Go.Shelf
attribute [local go_sem] Oper.semAt_some
abbrev EE(W H:Nat):={p:Nat×Nat//jS W H p}
def ja{W H:Nat}(l:List (EE W H)):List (Nat×Nat):=l.map (·.1)
def Fb(l:List (EE W H))(x:EE W H):ja (l++[x])=ja l++[x.1]:=by simp[ja]
theorem Yr(n:Nat)(m:1<=n){b:Nat}(p:W<=32)(r:H<=32)(t:W%4=0)(u:H%4=0)(i:ak w b 30 #[U O W,U O H,P3]):
  SeqStopsK Fence.wide n Gz.prog 72 #[ci (some ⟨b,0,none⟩)] (λx:EE W H=>td x.1) (Kb b) (λy=>ja y=fI W H) (λpre=>ja pre<+:fI W H) (fI W H).length w:=λl J z D f E _ F h0=>by
 have:=ae9 m l b P3 p r (λpre w'=>∃a,ja a=pre/\J a w') (λpre w'=>∃a,ja a=pre/\z a w') D (λs A C row⟨j,e,h⟩ G K=>⟨j,e,E j A C row h G K⟩)
  (λpre x M⟨a,e,N⟩ k=>by
   have hm:x∈fI W H:=k.subset aj
   have P:a.length<(fI W H).length:=by
    have h1:=k.length_le;have d:a.length=pre.length:=by rw[<-e];simp[ja]
    rw[List.length_append,List.length_singleton] at h1;omega
   obtain⟨fn,tmps,assign,body,Q,R⟩:=F a ⟨x,Ad t u hm⟩ M N P;refine⟨fn,tmps,assign,body,Q,R.mono λT V h=>?_⟩;rcases h with⟨h1,d,S⟩|⟨h1,d⟩
   ·exact .inl ⟨h1,⟨_,by rw[Fb,e],d⟩,S⟩
   ·exact .inr ⟨h1,_,by rw[Fb,e],d⟩) ((f.block b i.lt).trans i) ⟨[],rfl,h0⟩
 exact Km
def acs{i j d1 d2:Tmp}{assign body:Code}{g:Operand}{r:Exit->Act->ns->Prop}{a:Act}{b:Nat}(u:a.eval g=.func (.func 72) #[] #[ci (some ⟨b,0,none⟩)])(y:b<w.heap.size)(z:ak w b 30 #[U O W,U O H,P3])(C:W<=32)(E:H<=32)(F:W%4=0)(G:H%4=0)
  (I:List (EE W H)->ns->Prop)(J:OwnFrom w.heap.size I)(h0:I [] w)
  (f:∀(l:Nat)(x:EE W H)(d:ns)(K:Act->ns->Prop),K {tmps:=(((a.tmps.setIfInBounds i (U O (x.1.1:Int))).setIfInBounds j (U O (x.1.2:Int))).setIfInBounds d1 (U O (x.1.1:Int))).setIfInBounds d2 (U O (x.1.2:Int)),defers:=[]} d->
   assign.wpIn (Fence.wide.inRound l) 1 Gz.prog (Exit.then K λ_ _ _=>False) {tmps:=(a.tmps.setIfInBounds i (U O (x.1.1:Int))).setIfInBounds j (U O (x.1.2:Int)),defers:=[]} d)
  (m:∀(l:Nat)(pre:List (EE W H))(x:EE W H)(d:ns),I pre d->pre.length<(fI W H).length->
   body.wpIn (Fence.wide.inRound l) 1 Gz.prog (ownPostG w.heap.size (Kb b) I (λ_ _ _=>False) (pre++[x]) d) {tmps:=(((a.tmps.setIfInBounds i (U O (x.1.1:Int))).setIfInBounds j (U O (x.1.2:Int))).setIfInBounds d1 (U O (x.1.1:Int))).setIfInBounds d2 (U O (x.1.2:Int)),defers:=[]} d)
  (k:∀(D:Nat)(s:List (EE W H))(d:ns),w.heap.size<=D->ja s=fI W H->I s d->d.heap[D]?=some (.deferred (some []))->r .normal {a with defers:={target:=.collected D,args:=#[]}::a.defers} d):
  (Code.rangeFunc g #[i,j] assign body).wp Gz.prog r a w:=by
 refine wpIn_wide.1 (wpIn_rangeFunc_ownG (n:=3) rfl aq (gf:=72) (lb:=#[ci (some ⟨b,0,none⟩)]) u trivial (Gz.cl 72)
  (Yr 2 aq C E F G z) Kb.t (Kb.b y) (Below.refl _ _) (λ_=>rfl) I (λ_ _ _=>False) J (λ_ _ _ _ _ M _ _=>M) h0
  (λx=>{tmps:=(((a.tmps.setIfInBounds i (U O (x.1.1:Int))).setIfInBounds j (U O (x.1.2:Int))).setIfInBounds d1 (U O (x.1.1:Int))).setIfInBounds d2 (U O (x.1.2:Int)),defers:=[]}) ?_ ?_ k λ_ _ _ _ _ _ h _=>h.elim)
 ·intro l x d K hK;have e:(#[i,j].zip (td x.1)).foldl (λt(p,v)=>t.setIfInBounds p v) a.tmps=(a.tmps.setIfInBounds i (U O (x.1.1:Int))).setIfInBounds j (U O (x.1.2:Int)):=by simp[td]
  rw[e];exact f l x d K hK
 ·omega
def Own.owned{w':ns}{row:Option Nat}(h:Own w B v n xs)(f:w.grownBy w' row)(hr:∀r,row=some r->∃o:Obj,w.heap[r]?=some o/\o.isCells=false):Own w' B v n xs:=
 ⟨h.1,h.2.kept f (by
  rcases h.2.2 with⟨e,_⟩|⟨g,i,j,e,_,hc,_⟩
  ·left;rw[e];rfl
  ·right
   intro b;rw[e] at b;obtain⟨o,d,a⟩:=hr g b.symm;rw[hc] at d;cases d;cases a)⟩
structure kL(w wr:ns)(W H o1 o2 g n c B:Nat)(L:Int)(xs:List Int):Prop where
 own:Own wr B (Y (some ⟨g,0,none⟩) n c) n xs
 rb:ak wr (w.heap.size+1) 30 #[U O 0,U O 0,Y none 0 0]
 ob:ak wr o1 30 #[U O W,U O H,Y (some ⟨g,0,none⟩) n c]
 lb:ak wr o2 3 #[U O L]
 q:Q w wr
section
variable{w wr w':ns}{W H o1 o2 g n c B:Nat}{L:Int}{xs:List Int}
def kL.to(h:kL w wr W H o1 o2 g n c B L xs)(k:Q wr w'):kL w w' W H o1 o2 g n c B L xs:=⟨h.own.q k,h.rb.q k,h.ob.q k,h.lb.q k,h.q.trans k⟩
def kL.row{row:Option Nat}(h:kL w wr W H o1 o2 g n c B L xs)(a:wr.grownBy w' row)(hr:∀r,row=some r->w.heap.size<=r/\∃o:Obj,wr.heap[r]?=some o/\o.isCells=false):kL w w' W H o1 o2 g n c B L xs:=
 ⟨h.own.owned a λr e=>(hr r e).2,h.rb.own a λr e=>(hr r e).2,h.ob.own a λr e=>(hr r e).2,h.lb.own a λr e=>(hr r e).2,h.q.grown a λr e=>(hr r e).1⟩
def kL.set(h:kL w wr W H o1 o2 g n c B L xs)(i:Nat)(v:Int)(b:w.heap.size+2<=B)(h1:o1≠g)(a:o2≠g):kL w (wr.setCell ⟨g,i,none⟩ (U O v)) W H o1 o2 g n c B L (xs.set i v):=by have d:=h.own.block;exact⟨h.own.set i v,h.rb.aN (p:=⟨g,i,none⟩) qX _,h.ob.aN (p:=⟨g,i,none⟩) h1 _,h.lb.aN (p:=⟨g,i,none⟩) a _,h.q.set xH _⟩
end
def ZD(W H:Nat)(w:ns):
  UL Gz.prog 47 #[a5 #[U O W,U O H,P3]] w λe w'=>e=be (.func (.func 72) #[] #[ci (some ⟨w.heap.size,0,none⟩)])/\ak w' w.heap.size 30 #[U O W,U O H,P3]/\Q w w':=by
 have a:=ak.new w 30 #[U O W,U O H,P3];have b:Q w (w.alloc (ac #[U O W,U O H,P3] 30)):=(Q.refl w).alloc _;go_enter Gz.gf func47,ntmps47;go_wp2;go_ret;exact⟨rfl,a,b⟩
def ad8(c:Nat)(q:Nat)(hx:Rd w B A xs)(hB:B<=w.heap.size)(S:Hid (xs.length=n))(T:bS W H xs=true)(hq:q<16)(hT:Tb w):
  UL Gz.prog 24 #[a5 #[.int .i64 W,.int .i64 H,.slice A n c],.int .i64 q] w λe w'=>∃v,e=be (a5 #[.int .i64 W,.int .i64 H,v])/\Own w' w.heap.size v n (dg (fH q) (fI W H) xs)/\Q w w':=by
 have N:Q w ((w.alloc (ac #[.int .i64 W,.int .i64 H,.slice A n c] 30)).alloc (ac #[.int .i64 0,.int .i64 0,.slice none 0 0] 30)):=aR;have bp:=(ak.new w 30 #[.int .i64 W,.int .i64 H,.slice A n c]).alloc (ac #[.int .i64 0,.int .i64 0,.slice none 0 0] 30);have V:=ak.new (w.alloc (ac #[.int .i64 W,.int .i64 H,.slice A n c] 30)) 30 #[.int .i64 0,.int .i64 0,.slice none 0 0];rw[BE] at V;obtain⟨⟨p1,p2,p3⟩,⟨p4,p5,p6⟩,p7,p8⟩:=jH T;have u:n=H*W:=AF p7 S.out;have mt:n<=1024:=by rw[u];exact fO (show H<=32 by omega) (show W<=32 by omega)
 have Hf:64<=n:=by rw[u];exact fO (show 8<=H by omega) (show 8<=W by omega)
 have hL:=Sk hq;have FL:=af λz(h:Tb z)=>Wq (q:Int) z h rfl hq;have OK:Hid (∀es:List (Nat×Nat),(∀p∈es,jS W H p)->cZ (dg (fH q) es xs)=true):=λes he=>E9 (W:=W) (H:=H) (fH q) es p8 (by rw[S.out];exact u) he;have LN:Hid (∀es:List (Nat×Nat),(dg (fH q) es xs).length=n):=λes=>(E8 _ _ _).trans S.out;generalize fH q=L at hL FL OK LN⊢;obtain⟨BZ,B2⟩:=hL;have HX:=af (hx.q N hB);have HT:=af (hT.q N);have hPV:=af T;have HQ:Hid (decide (0<=(q:Int)/\(q:Int)<=15)=true):=decide_eq_true aa;have EQ:=af u;have Jy:=bp.lt;have Jz:=V.lt;have wM:=N.size;clear hx T p7 p8 u hT;refine(callsIn_wide (n:=3)).1 ?_;refine callsIn_of_wp_marks (Gz.gf func24) rfl trivial ?_ rfl;simp only[ntmps24,List.size_toArray,List.length_cons,List.length_nil,Nat.reduceAdd,Nat.reduceSub,Array.replicate_succ,Array.replicate_zero,List.push_toArray,List.append_toArray,ajM,List.cons_append];refine wpIn_wide.2 ?_;go_wp2;generalize((w.alloc (ac #[.int .i64 W,.int .i64 H,.slice A n c] 30)).alloc (ac #[.int .i64 0,.int .i64 0,.slice none 0 0] 30))=w0 at N bp V Jy Jz wM HX HT⊢;refine(Ca c HX.out aa S aa hPV).mono ?_;rintro e P⟨rfl,q1⟩;go_wp2;refine(nR P HQ).mono ?_;rintro e Y'⟨rfl,rfl⟩;have pc:=(bp.q q1).cell;have pl:=q1.size;go_wp2;refine(clone W H A n c B xs P (HX.out.q q1 aa) aa S aa mt).mono ?_;rintro e w2⟨v,rfl,o2,Z⟩;rcases o2.dD with⟨_,h0⟩|⟨g,y,rfl,qL,t7,_⟩
 ·omega
 have Bj:=Z.size;go_wp2;refine(FL.out w2 (HT.out.q (q1.trans Z))).mono ?_;rintro e w3⟨rfl,q3⟩;have O':=q3.size;have qz:Q w w3:=((N.trans q1).trans Z).trans q3
 have K0:Hid (kL w ((w3.alloc (ac #[.int .i64 W,.int .i64 H,.slice (some ⟨g,0,none⟩) n y] 30)).alloc (ac #[.int .i64 L] 3)) W H w3.heap.size (w3.heap.size+1) g n y P.heap.size L xs):=
  ⟨((o2.q q3).alloc _).alloc _,((((V.q q1).q Z).q q3).alloc _).alloc _,(ak.new w3 _ _).alloc _,by have h:=ak.new (w3.alloc (ac #[.int .i64 W,.int .i64 H,.slice (some ⟨g,0,none⟩) n y] 30)) 3 #[.int .i64 L];rw[BE] at h;exact h,(qz.alloc _).alloc _⟩
 have R:=K0.out.ob.cell;have lc:=K0.out.lb.cell;have ail:g<w3.heap.size:=aa;have F:((w3.alloc (ac #[.int .i64 W,.int .i64 H,.slice (some ⟨g,0,none⟩) n y] 30)).alloc (ac #[.int .i64 L] 3)).heap.size=w3.heap.size+2:=aj;clear N q1 Z q3 o2 V bp qz pc HX HT FL;go_wp2;generalize((w3.alloc (ac #[.int .i64 W,.int .i64 H,.slice (some ⟨g,0,none⟩) n y] 30)).alloc (ac #[.int .i64 L] 3))=w5 at K0 R lc F⊢;refine(ZD W H w5).mono ?_;rintro e w6⟨rfl,G,q6⟩;rw[F] at G;have K6:=af (K0.out.to q6);have hb6:w3.heap.size+2<w6.heap.size:=G.lt;have tG:w.heap.size+2<=P.heap.size:=aa;clear K0 q6 R lc;go_wp2
 refine acs (d1:=7) (d2:=8) (b:=w3.heap.size+2) rfl hb6 G aa aa aa aa (λpre t=>kL w t W H w3.heap.size (w3.heap.size+1) g n y P.heap.size L (dg L (ja pre) xs)/\w6.heap.size<=t.heap.size)
  (λs X Y row⟨h1,h2⟩ hg hr=>⟨h1.row hg (λr e=>⟨by have:=(hr r e).1;omega,(hr r e).2⟩),aJ h2 hg.size⟩) ⟨K6.out,au _⟩ ?assign ?body ?done
 case assign=>
  intro l x t K hK
  gi_wp2
  simpa using hK
 case body=>
  rintro l pre x t⟨hF,cC⟩ aT;simp only[List.setIfInBounds_toArray,List.set_cons_zero,List.set_cons_succ];obtain⟨⟨f,st⟩,E⟩:=x;dsimp only;have ahq:=E;obtain⟨e1,e2,e3,e4⟩:=ahq;dsimp only at e1 e2 e3 e4;obtain⟨i0,h0⟩:∃i0,f=i0+2*st:=⟨f-2*st,aa⟩;obtain⟨i1,h1⟩:∃i1,f=i1+st:=⟨f-st,aa⟩;obtain⟨i3,h3⟩:∃i3,f+st=i3:=⟨_,rfl⟩;have tQ:=LN.out (ja pre);obtain⟨a,b,C,d,ea,eb,ec,ed,ba,bb,bc,bd,hi3,_,hS⟩:=Fa (OK.out (ja pre) λp T=>by obtain⟨z,_,rfl⟩:=nS.1 T;exact z.2) tQ EQ.out E h0 h1 h3;have c0:=hF.own.at i0 aa;have c1':=hF.own.at i1 aa;have c2:=hF.own.at f aa;have c3:=hF.own.at i3 hi3;rw[ea] at c0;rw[eb] at c1';rw[ec] at c2;rw[ed] at c3;have l0:(i0:Int)<(n:Int):=aa;have l1:(i1:Int)<(n:Int):=aa;have l2:(f:Int)<(n:Int):=aa;have l3:(i3:Int)<(n:Int):=aa;have ip:¬(i1=f):=aa;have Ua:¬(f=i1):=aa;have Hy:¬(i1=i0):=aa;have hn3:¬(i1=i3):=aa;have HOB:=af hF.ob;have HLB:=af hF.lb;have f1:=hF.own.free i1;have f2:=hF.own.free f;have R:=hF.ob.cell;have lc:t.cell? ⟨w3.heap.size+1,0,none⟩=some (.int .i64 L):=hF.lb.cell 0;have TF:=af λz=>W9 L z ba bb bc bd ⟨BZ,B2⟩;obtain⟨s2,ahr⟩:∃z,2*st=z:=⟨_,rfl⟩;have t6:AS.wrap (2*(st:Int))=(s2:Int):=by rw[show 2*(st:Int)=(s2:Int) by omega];exact aB _ ⟨by omega,by omega⟩
  have t3:AS.wrap ((f:Int)-(s2:Int))=(i0:Int):=by rw[show(f:Int)-(s2:Int)=(i0:Int) by omega];exact aB _ ⟨by omega,by omega⟩
  have t4:AS.wrap ((f:Int)-(st:Int))=(i1:Int):=by rw[show(f:Int)-(st:Int)=(i1:Int) by omega];exact aB _ ⟨by omega,by omega⟩
  have t5:AS.wrap ((f:Int)+(st:Int))=(i3:Int):=by rw[show(f:Int)+(st:Int)=(i3:Int) by omega];exact aB _ ⟨by omega,by omega⟩
  have tz:dg L (ja (pre++[(⟨(f,st),E⟩:EE W H)])) xs=((dg L (ja pre) xs).set i1 (fi a b C d L)).set f (fj a b C d L):=by rw[Fb];exact hS
  have KS:Hid (∀w8,Q t w8->kL w ((w8.setCell ⟨g,i1,none⟩ (.int .i64 (fi a b C d L))).setCell ⟨g,f,none⟩ (.int .i64 (fj a b C d L))) W H w3.heap.size (w3.heap.size+1) g n y P.heap.size L (dg L (ja (pre++[(⟨(f,st),E⟩:EE W H)])) xs)):=λw8 hq8=>by rw[tz];exact((hF.to hq8).set i1 _ tG aa aa).set f _ tG aa aa
  clear ea eb ec ed ba bb bc bd hS tz h0 h1 h3 ahr hF tQ e1 e2 e3 e4
  gi_wp2
  refine Ds (λJ=>∀i,J.cell? ⟨w3.heap.size,i,none⟩=(#[.int .i64 W,.int .i64 H,.slice (some ⟨g,0,none⟩) n y]:Array rl)[i]?) (λ_=>false) ai ai (λ⟨_,_,h⟩=>h) R λhS=>?_;refine ah 0 (h:=ah 1 (h:=ah 2 (h:=ah 3 (h:=ah 4 (h:=ah 5 (h:=ah 6 (h:=ah 7 (h:=ah 8 (h:=ah 9 (h:=ah 10 (h:=ah 11 (h:=?_))))))))))));refine kg ai ?_ _;clear hS
  gi_wp2
  refine Ds (λJ=>(∀i,J.cell? ⟨w3.heap.size,i,none⟩=(#[.int .i64 W,.int .i64 H,.slice (some ⟨g,0,none⟩) n y]:Array rl)[i]?)/\J.cell? ⟨w3.heap.size+1,0,none⟩=some (.int .i64 L)/\J.cell? ⟨g,i0,none⟩=some (.int .i64 a)/\J.cell? ⟨g,f,none⟩=some (.int .i64 C)/\J.cell? ⟨g,i3,none⟩=some (.int .i64 d)) (λj=>decide (31<=j)) ai ai (λ⟨_,_,h⟩=>h) ⟨R,lc,c0,c2,c3⟩ λhS=>?_;refine ah 0 (h:=ah 1 (h:=ah 2 (h:=ah 3 (h:=ah 4 (h:=ah 5 (h:=ah 6 (h:=ah 7 (h:=ah 8 (h:=ah 9 (h:=ah 10 (h:=ah 11 (h:=ah 13 (h:=ah 14 (h:=ah 15 (h:=ah 16 (h:=ah 17 (h:=ah 18 (h:=ah 19 (h:=ah 20 (h:=ah 21 (h:=ah 22 (h:=ah 23 (h:=?_)))))))))))))))))))))));refine bh (k:=12) ai rfl rfl λM m=>?_;go_simp;refine m.out _ _ hS λhS=>?_;clear m M;refine aV ?_;refine bh (k:=24) ai rfl rfl λM m=>?_;go_simp;refine(TF.out _).mono ?_;rintro e wa⟨rfl,rfl⟩;refine m.out _ _ hS λhS=>?_;clear m M;refine aV ?_;refine ah 25 (h:=ah 26 (h:=ah 27 (h:=ah 28 (h:=?_))));refine bh (k:=29) ai rfl rfl λM m=>?_;go_simp;refine m.out _ _ ⟨(HOB.out.aN (p:=⟨g,i1,none⟩) (by show w3.heap.size≠g;omega) _).cell,(HLB.out.aN (p:=⟨g,i1,none⟩) (by show w3.heap.size+1≠g;omega) _).cell 0,?_,?_,?_⟩ (λhS=>?_)
  ·exact(ala t ⟨g,i1,none⟩ ⟨g,i0,none⟩ _ λe=>Hy lW).trans c0
  ·exact(ala t ⟨g,i1,none⟩ ⟨g,f,none⟩ _ λe=>ip lW).trans c2
  ·exact(ala t ⟨g,i1,none⟩ ⟨g,i3,none⟩ _ λe=>hn3 lW).trans c3
  clear m M;refine aV ?_;refine bh (k:=30) ai rfl rfl λM m=>?_;go_simp;refine m.out _ _ hS λhS=>?_;clear m M;refine aV ?_;refine iu [31] 31 ai aq rfl ?_;have K9:=af (KS.out _ (((Q.refl t).drew).drew));have UT:(((t.drew.drew).setCell ⟨g,i1,none⟩ (.int .i64 (fi a b C d L))).setCell ⟨g,f,none⟩ (.int .i64 (fj a b C d L))).heap.size=t.heap.size:=tZ
  have KB:Hid (Kb (w3.heap.size+2) t (((t.drew.drew).setCell ⟨g,i1,none⟩ (.int .i64 (fi a b C d L))).setCell ⟨g,f,none⟩ (.int .i64 (fj a b C d L)))):=
   (iI _ ⟨g,f,none⟩ _ _ (by show w3.heap.size+2≠g;omega)).trans (iI t ⟨g,i1,none⟩ _ _ (by show w3.heap.size+2≠g;omega))
  have KO:Hid (KeepsOthers t (((t.drew.drew).setCell ⟨g,i1,none⟩ (.int .i64 (fi a b C d L))).setCell ⟨g,f,none⟩ (.int .i64 (fj a b C d L)))):=
   (((KeepsOthers.drew t).trans (KeepsOthers.drew _)).trans (uC _ _ _)).trans (uC _ _ _)
  clear hS;go_wp2;exact⟨KO.out.from _,KB.out,K9.out,aJ cC (mJ UT.symm)⟩
 case done=>
  rintro D ys t hD qJ⟨hF,cC⟩ VJ;have k5:=hF.rb;have R:=hF.ob.cell;have HF:=af hF;clear hF;go_wp2_with(refine fw (cs':=#[.int .i64 W,.int .i64 H,.slice (some ⟨g,0,none⟩) n y]) rfl _ _ _ rfl rfl _ rfl rfl k5 rfl iq ai ?_;intro w9 b9 g9 s9);have VK:w9.heap[D]?=some (.deferred (some [])):=(g9.block D (bF.1 VJ).1 λe=>by have:=aL e;omega).trans VJ;refine⟨aj,.inl ⟨_,_,rfl,run_takeDeferred VK,?_⟩⟩;have gz:=grownBy_putObj' w9 D (.deferred none);have hDs:∀r,some D=some r->∃o:Obj,w9.heap[r]?=some o/\o.isCells=false:=λr e=>by cases e;exact⟨_,VK,rfl⟩
  have bc:=(b9.grown gz λe=>by have:=aL e;omega).cell;have o9:=HF.out.own.aw (av.dQ g9) aA;have oz:=o9.owned gz hDs;have qz:=(HF.out.q.grown g9 λk e=>by have:=aL e;omega).grown gz (λk e=>by have:=aL e;omega);rw[qJ] at oz;generalize w9.putObj D (.deferred none)=wz at bc oz qz⊢;refine⟨a5 #[.int .i64 W,.int .i64 H,.slice (some ⟨g,0,none⟩) n y],by simp[results,results24,go_sem,bc],_,rfl,oz.mono aa,qz⟩
end
section
open Go.RowKit Go.WideShapes Go.ChangeShapes
def Oa{W H:Int}{RW a:Int}(h:dt W H I q ls RW a ref=true):ie W H q ls.length=true/\iA I W H RW a ref=true/\∀i,i<ls.length->∃L,eW (aU ls i) (W/8) I=some L:=by unfold dt at h;rw[Bool.and_eq_true,Bool.and_eq_true,List.all_eq_true] at h;exact⟨h.1,h.2.1,λi hi=>pe.1 (h.2.2 i (fz.2 hi))⟩
def zM{W H:Int}:(kJ W H I q ls ref).length=W.toNat*H.toNat:=by unfold kJ;rw[zq,List.length_replicate]
def Qp(b:gn W)(d:gn H):bS W H (kJ W H I q ls ref)=true:=by
 have a:=D6 b d (W*H) rfl
 exact pL a (by rw[zM,List.length_replicate,ajb,ajb]) (by
  exact zr W H ref _ q (jH a).2.2.2 _)
def Xf(W H:Int)(I:Bool)(q:Int){u:Option aiI}(c:Nat){t:Nat}(x:Nat){B':Nat}(RW j:Int){a1 a2:aiI}(hx:dz w B A ls)(M:B<=w.heap.size)(hn:ls.length=n)(he:gx w a1 a2 B)(k1:dx w a1)(k2:dx w a2)(N:Tb w)
  (hr:Rd w B' u ref)(y:B'<=w.heap.size)(z:ref.length=t)(P:t<=9223372036854775807):
  UL Gz.prog 9 #[a5 (#[U O W,U O H,a9 I,U O q,Y A n c]:Array rl),a5 (#[U O RW,U O j,Y u t x]:Array rl)] w λe w'=>Q w w'/\(dt W H I q ls RW j ref=true->∃v,e=be (dl #[a5 #[U O W,U O H,v],a9 true])/\Own w' w.heap.size v (W.toNat*H.toNat) (jw W H I q ls ref))/\(dt W H I q ls RW j ref=false->e=be (dl #[a5 (#[U O 0,U O 0,Y none 0 0]:Array rl),a9 false])):=by
 have d:Q w (((w.alloc (ac (#[U O W,U O H,a9 I,U O q,Y A n c]:Array rl) 33)).alloc (ac (#[U O RW,U O j,Y u t x]:Array rl) 30)).alloc (ac (#[U O 0,U O 0,Y none 0 0]:Array rl) 30)):=aR;have p:=((ak.new w 33 (#[U O W,U O H,a9 I,U O q,Y A n c]:Array rl)).alloc (ac (#[U O RW,U O j,Y u t x]:Array rl) 30)).alloc (ac (#[U O 0,U O 0,Y none 0 0]:Array rl) 30);have C:=ak.new ((w.alloc (ac (#[U O W,U O H,a9 I,U O q,Y A n c]:Array rl) 33)).alloc (ac (#[U O RW,U O j,Y u t x]:Array rl) 30)) 30 (#[U O 0,U O 0,Y none 0 0]:Array rl);simp only[BE] at C;have G:=af (Wt W H I q c x RW j (hx.q d M) (aJ M d.size) hn (he.q d M) (k1.q d) (k2.q d) (N.q d) (hr.q d y) (aJ y d.size) z P);have HT:=af N;clear hx hn he k1 k2 N hr z;go_enter Gz.gf func9,ntmps9;go_wp2;cases r:dt W H I q ls RW j ref with
 |false=>refine G.out.mono ?_;rintro e w1⟨q1,_,h2⟩;have he:=h2 r;subst he;have f:=(C.q q1).alloc (ac (#[U O 0,U O 0,Y none 0 0]:Array rl) 30);have J:=af ((d.trans q1).alloc (ac (#[U O 0,U O 0,Y none 0 0]:Array rl) 30));have HV:=af r;clear p C d q1 h2 G r;go_wp2_with(refine fw (cs':=(#[U O 0,U O 0,Y none 0 0]:Array rl)) rfl _ _ _ rfl rfl _ rfl rfl f rfl iq ai ?_;intro w9 R K s9);have p:=R.cell;exact aiA (v:=dl #[a5 (#[U O 0,U O 0,Y none 0 0]:Array rl),a9 false]) (by simp[results,results9,go_sem,p]) rfl ⟨J.out.grown K (λk e=>by have:=aL e;omega),λh=>Cs,λ_=>rfl⟩
 |true=>
  obtain⟨hs,_,_⟩:=Oa r;obtain⟨S,T,⟨VF,VG⟩,xl⟩:=nT hs;obtain⟨a,rfl⟩:∃k:Nat,W=(k:Int):=⟨W.toNat,by have:=S.1;omega⟩;obtain⟨b,rfl⟩:∃k:Nat,H=(k:Int):=⟨H.toNat,by have:=T.1;omega⟩;obtain⟨s,rfl⟩:∃k:Nat,q=(k:Int):=⟨q.toNat,aa⟩;have l:=Qp (I:=I) (q:=s) (ls:=ls) (ref:=ref) S T;have i:=zM (W:=a) (H:=b) (I:=I) (q:=s) (ls:=ls) (ref:=ref);rw[ajb,ajb] at i;have V:=S;have X:=T;obtain⟨u1,u2,u3⟩:=V;obtain⟨v1,v2,v3⟩:=X;have Z:64<=a*b:=fO (show 8<=a by omega) (show 8<=b by omega);refine G.out.mono ?_;rintro e w1⟨q1,h1,_⟩;obtain⟨v,rfl,o1⟩:=h1 r;rw[ajb,ajb] at o1;have D:Hid (jw (a:Int) (b:Int) I (s:Int) ls ref=dg (fH s) (fI a b) (kJ (a:Int) (b:Int) I (s:Int) ls ref)):=rfl;generalize kJ (a:Int) (b:Int) I (s:Int) ls ref=xs at o1 l i D;obtain⟨m,hm⟩:∃m,a*b=m:=⟨_,rfl⟩;rw[hm] at o1 i Z;have HM:Hid ((a:Int).toNat*(b:Int).toNat=m):=hm;have HV:=af r;clear hm;rcases o1.dD with⟨_,h0⟩|⟨g,E,rfl,qL,t7,_⟩
  ·omega
  have Uy:((m:Int)==0)=false:=uk;have f:=(C.q q1).alloc (ac #[U O a,U O b,Y (some ⟨g,0,none⟩) m E] 30);have bc2:=(p.q q1).alloc (ac #[U O a,U O b,Y (some ⟨g,0,none⟩) m E] 30);have qz:=(d.trans q1).alloc (ac #[U O a,U O b,Y (some ⟨g,0,none⟩) m E] 30);have o2:=o1.alloc (ac #[U O a,U O b,Y (some ⟨g,0,none⟩) m E] 30);have F:=af (ad8 E s o2.rd (au _) i l aa (HT.out.q qz));have cc:=bc2.cell;have J:=af qz;have UH:=f.lt;clear p C d q1 h1 G r bc2 qz o2 o1 hs;go_wp2;refine F.out.mono ?_;rintro e w3⟨v,rfl,o3,q3⟩;have Ju:=f.q q3;have cC:=J.out.size;obtain⟨Av,cv,rfl⟩:=o3.form;clear F f;go_wp2_with(refine fw (cs':=#[U O a,U O b,Y Av m cv]) rfl _ _ _ rfl rfl _ rfl rfl Ju rfl iq ai ?_;intro w9 R K s9);have p:=R.cell;exact aiA (v:=dl #[a5 #[U O a,U O b,Y Av m cv],a9 true]) (by simp[results,results9,go_sem,p]) rfl ⟨(J.out.trans q3).grown K (λk e=>by have:=aL e;omega),λ_=>⟨_,rfl,by rw[D.out,HM.out];exact(o3.aw (av.dQ K) λg hg=>by simp only[List.mem_singleton] at hg;subst hg;exact UH).mono cC⟩,λh=>by rw[HV.out] at h;cases h⟩
end
section
open Go.RowKit Go.WideShapes Go.ChangeShapes
def WG{W H:Int}(I:Bool)(c:Nat){cnt:Nat}{s:Bool}(P:ie W H q n=s)(hx:dz w B A ls)(hB:B<=w.heap.size)(hn:ls.length=n)(hm:n<=9223372036854775807)(r:∀i,i<n->bytes (aU ls i))(u:s=true->W/8=(cnt:Int)/\cnt<=4):
  UL Gz.prog 17 #[a5 (#[U O W,U O H,a9 I,U O q,Y A n c]:Array rl)] w λe w'=>Q w w'/\((e=be (a9 true)/\s=true/\∀i,i<n->∃L,iR (aU ls i) cnt I=some L)\/(e=be (a9 false)/\(s=true->∃i,i<n/\iR (aU ls i) cnt I=none))):=by
 have S:Q w (w.alloc (ac (#[U O W,U O H,a9 I,U O q,Y A n c]:Array rl) 33)):=aR;have bc:=ak.new w 33 (#[U O W,U O H,a9 I,U O q,Y A n c]:Array rl);have T:=af λz=>acR W H I q A n c z;rw[P] at T;have x:s=true->8<=W/\W<=32:=λh=>by rw[h] at P;have:=(nT P).1;exact⟨this.1,this.2.1⟩
 clear P;have HX:=af hx;have HN:=af hn;have V:=af r;clear hx hn r;cases s with
 |false=>go_enter Gz.gf func17,ntmps17;go_wp2;refine(T.out _).mono ?_;rintro e X⟨rfl,q1⟩;go_wp2;go_ret;exact⟨S.trans q1,.inr ⟨rfl,λh=>by cases h⟩⟩
 |true=>
  obtain⟨Z,y⟩:=u rfl;obtain⟨w8,Jj⟩:=x rfl;have hwt:W.tdiv 8=(cnt:Int):=by rw[Int.tdiv_eq_ediv_of_nonneg (by omega)];exact Z
  clear u x;have I5:AS.wrap (cnt:Int)=(cnt:Int):=aB _ ⟨aa,aa⟩;go_enter Gz.gf func17,ntmps17;go_wp2;refine(T.out _).mono ?_;rintro e X⟨rfl,q1⟩;have K0:Hid (Q w X/\ak X w.heap.size 33 (#[U O W,U O H,a9 I,U O q,Y A n c]:Array rl)):=⟨S.trans q1,bc.q q1⟩;clear S bc q1 T;go_wp2;go_loopw[3] (λi wr=>∃k:Nat,k<=n/\i=U O k/\Hid (Q w wr/\ak wr w.heap.size 33 (#[U O W,U O H,a9 I,U O q,Y A n c]:Array rl))/\Hid (∀l,l<k->∃L,iR (aU ls l) cnt I=some L)) (λi _=>n-(intOf i).toNat)
  case atStart=>exact⟨0,aa,rfl,K0,λl h=>absurd h aa⟩
  case round=>
   obtain⟨k,hk,rfl,hK,C⟩:=hrel;clear K0;have oc:=hK.out.2.cell;by_cases D:k<n
   ·have ka:(k:Int)<n:=by omega
    obtain⟨b,o,rfl,hb,hc⟩:=HX.out im;obtain⟨A1,c1,E,F,PA,y⟩:=hc k im;have p:=hK.out.1;have wC:=p.size;have sc:wr.cell? ⟨b,o+k,none⟩=some (Y A1 (aU ls k).length c1):=(p.cell b (o+k) aa).trans E;have G:=af (MG A1 c1 B cnt I wr.drew ((F.q p hB).q (Q.refl _).drew aa) rfl ⟨PA,y⟩ (by show B<=wr.heap.size;omega) (V.out k D));clear p hc E F;go_wp2;refine et (λww=>(∀i,ww.cell? ⟨w.heap.size,i,none⟩=(#[U O W,U O H,a9 I,U O q,Y (some ⟨b,o,none⟩) n c]:Array rl)[i]?)/\ww.cell? ⟨b,o+k,none⟩=some (Y A1 (aU ls k).length c1)) (λ_=>false) ai ⟨oc,sc⟩ λhS=>?_;refine ah 0 (h:=ah 1 (h:=ah 2 (h:=ah 3 (h:=ah 4 (h:=ah 5 (h:=ah 6 (h:=ah 7 (h:=ah 8 (h:=ah 9 (h:=?_))))))))));refine bh (k:=10) ai rfl rfl λK2 J=>?_;go_simp;refine G.out.mono ?_;rintro e R hd
    obtain⟨vv,t,he,K,M,q5⟩:∃vv t,e=be (dl #[vv,a9 t])/\(t=true->∃L,iR (aU ls k) cnt I=some L)/\(t=false->iR (aU ls k) cnt I=none)/\Q wr.drew R:=by obtain⟨d1,d2⟩:=hd;cases hR:iR (aU ls k) cnt I with|none=>rw[hR] at d1;obtain⟨A,m,c,e⟩:=d1;exact⟨_,_,e,λh=>(by cases h),λ_=>rfl,d2⟩|some L=>rw[hR] at d1;obtain⟨v,e,_⟩:=d1;exact⟨_,_,e,λ_=>⟨L,rfl⟩,λh=>(by cases h),d2⟩
    subst he;have a:Q wr R:=(Q.refl wr).drew.trans q5;have oc:=(hK.out.2.q a).cell;have JA:b<wr.heap.size:=aa;refine J.out _ _ ⟨oc,(a.cell b (o+k) JA).trans sc⟩ λhS=>?_;clear J K2;refine aV ?_;refine ah 11 (h:=ah 12 (h:=ah 13 (h:=ah 14 (h:=ah 15 (h:=?_)))));refine kg ai ?_ _;have K5:Hid (Q w R/\ak R w.heap.size 33 (#[U O W,U O H,a9 I,U O q,Y (some ⟨b,o,none⟩) n c]:Array rl)):=⟨hK.out.1.trans a,hK.out.2.q a⟩;have d:=af K;have f:=af M;clear hS G hK q5 a sc K M hd;cases t with
    |false=>have N:=f.out rfl;have j:=af N;clear N d f;go_wp2;go_ret;exact⟨K5.out.1,.inr ⟨rfl,λ_=>⟨k,D,j.out⟩⟩⟩
    |true=>
     have N:=d.out rfl;have j:=af N;clear N d f;go_wp2;go_roundw
     case rel=>
      refine⟨k+1,aa,aH,K5,λl hl=>?_⟩;by_cases h:l<k
      ·exact C.out l h
      ·obtain rfl:l=k:=by omega
       exact j.out
     case measure=>exact bg
   ·have j':k=n:=by omega
    subst j';have p:=af hK.out.1;clear hK;go_wp2;go_ret;exact⟨p.out,.inl ⟨rfl,trivial,C.out⟩⟩
end
end Go.Proofs.Q0
