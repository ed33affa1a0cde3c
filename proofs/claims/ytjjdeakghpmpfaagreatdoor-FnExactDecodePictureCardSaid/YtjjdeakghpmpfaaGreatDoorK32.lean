import Derived.Test.YtjjdeakghpmpfaaGreatDoorK31
set_option maxRecDepth 100000
set_option maxHeartbeats 8000000
set_option linter.all false
open Go.Value renaming int->U,slice->Y,bool->a9,agg->a5,pointer->ci,tuple->dl,iface->em
open Go.IntKind renaming i64->O
open Go.Obj renaming cells->ac
open Go.Ending renaming returned->be
open Go renaming Addr->aiI,Goroutine->so,Program->Kx,Trace->ajy,Value->rl,World->ns,stepG->aiO
namespace Go.Proofs
def Lz{p:Prop}(h:p:=by
  refine ah 5 (h:=ah 6 (h:=ah 7 (h:=?_)));refine bh (k:=8) ai rfl rfl λK2 eq=>?_;(go_simp;have nb:=ak.new w5 30 #[U O 0,U O 0,.slice none 0 0];have qa:=(Q.refl w5).alloc (.cells #[U O 0,U O 0,.slice none 0 0] 30);(try replace o3:=o3.q qa);(try replace z3:=aJ z3 qa.size);(try replace o4:=o4.q qa);(try replace o5:=o5.q qa);have ln:=y.size;replace y:=y.trans qa;refine eq.out _ _ ⟨y,(ba.q y).cell,(bb.q y).cell⟩ λhS=>?_;clear eq K2;refine aV ?_)
  exact JD):p:=h
def LA{p:Prop}(h:p:=by clear eq K2;refine aV ?_;refine ah 4 (h:=?_);refine kg ai ?_ _;go_wp2;go_meet;exact⟨rfl,y⟩):p:=h
def dK{p:Prop}(h:p:=by have:=hS _ h;omega):p:=h
end Go.Proofs
namespace Go.Proofs.Q0
open Go.Proofs.Tryz
variable{ref:List Int}{ls:List (List Int)}{q W H RW RH:Int}{I:Bool}{w w':ns}{A A':Option aiI}{n:Nat}{v:rl}{p:Prop}
section
open Go.RowKit Go.WideShapes Go.ChangeShapes
def B3(t:Bool)(W:Int):Int:=if t then W else 0
def B4(t:Bool)(xs:List Int):List Int:=if t then xs else[]
def Qr:(jw W H I q ls ref).length=W.toNat*H.toNat:=by unfold jw;rw[E8,zM]
def aeb:(B4 (dt W H I q ls RW RH ref) (jw W H I q ls ref)).length<=1024:=by
 cases a:dt W H I q ls RW RH ref with
 |false=>exact dC _
 |true=>obtain⟨⟨b,c,_⟩,⟨v1,v2,_⟩,_⟩:=nT (Oa a).1;show(jw W H I q ls ref).length<=1024;rw[Qr];exact fO (show W.toNat<=32 by omega) (show H.toNat<=32 by omega)
def VX{e:Ending}
  (h1:dt W H I q ls RW RH ref=true->∃v,e=be (.tuple #[.agg #[U O W,U O H,v],.bool true])/\Own w' w.heap.size v (W.toNat*H.toNat) (jw W H I q ls ref))
  (b:dt W H I q ls RW RH ref=false->e=be (.tuple #[.agg #[U O 0,U O 0,.slice none 0 0],.bool false])):
  ∃v,e=be (.tuple #[.agg #[U O (B3 (dt W H I q ls RW RH ref) W),U O (B3 (dt W H I q ls RW RH ref) H),v],.bool (dt W H I q ls RW RH ref)])/\Own w' w.heap.size v (B4 (dt W H I q ls RW RH ref) (jw W H I q ls ref)).length (B4 (dt W H I q ls RW RH ref) (jw W H I q ls ref)):=by
 cases a:dt W H I q ls RW RH ref with
 |false=>exact⟨_,b a,Own.nil _ _⟩
 |true=>obtain⟨v,c,o⟩:=h1 a;refine⟨v,c,?_⟩;show Own w' w.heap.size v (jw W H I q ls ref).length (jw W H I q ls ref);rw[Qr];exact o
structure Hg(W H q:Int)(I:Bool)(n:Nat)(ls:List (List Int))(RW RH:Int)(n':Nat)(ref:List Int)(P1 P2:Int)(t:Bool)(d:Nat)(rs:List Int):Prop where
 t_:dt W H I q ls RW RH ref=t
 p1:B3 t W=P1
 p2:B3 t H=P2
 rs_:B4 t (jw W H I q ls ref)=rs
 d_:rs.length=d
 n_:ls.length=n
 n'_:ref.length=n'
 bK:∀i,i<n->bytes (aU ls i)
def Tj{a:Nat}{g h:Int}{t:Bool}{d:Nat}{i:List Int}(G:Hg W H q I n ls RW RH a ref g h t d i)(c j:Nat){B B':Nat}(k:dz w B A ls)(l:B<=w.heap.size)(hm:n<=1048576)(m:Tb w)(hr:Rd w B' A' ref)(b:B'<=w.heap.size)(r:a<=1048576):
  Calls Gz.prog 6 #[.agg #[U O W,U O H,.bool I,U O q,.slice A n c],.agg #[U O RW,U O RH,.slice A' a j]] w λe w'=>∃v,e=be (.tuple #[.agg #[U O g,U O h,v],.bool t])/\Own w' w.heap.size v d i/\Q w w':=by
 obtain⟨rfl,rfl,rfl,rfl,rfl,s,f,u⟩:=G;refine(Wd W H I q c j RW RH k l s aa u m hr b f aa).mono λe w'⟨h0,h1,x⟩=>?_;obtain⟨v,y,o⟩:=VX h1 x;exact⟨v,y,o,h0⟩
def GB{a:Nat}{g h:Int}{t:Bool}{d:Nat}{i:List Int}(G:Hg W H q I n ls RW RH a ref g h t d i)(c j:Nat){B B':Nat}{k l:aiI}(m:dz w B A ls)(r:B<=w.heap.size)(he:gx w k l B)(s:dx w k)(u:dx w l)(x:Tb w)(hr:Rd w B' A' ref)(b:B'<=w.heap.size)(y:a<=1048576):
  Calls Gz.prog 9 #[.agg #[U O W,U O H,.bool I,U O q,.slice A n c],.agg #[U O RW,U O RH,.slice A' a j]] w λe w'=>∃v,e=be (.tuple #[.agg #[U O g,U O h,v],.bool t])/\Own w' w.heap.size v d i/\Q w w':=by
 obtain⟨rfl,rfl,rfl,rfl,rfl,z,f,E⟩:=G;refine(Xf W H I q c j RW RH m r z he s u x hr b f aa).mono λe w'⟨h0,h1,C⟩=>?_;obtain⟨v,D,o⟩:=VX h1 C;exact⟨v,D,o,h0⟩
def ej.aw{a hi:Nat}{xs:List Int}{S:List Nat}(h:ej w a hi v n xs)(k:av S w w')(i:∀g,g∈S->g<a\/hi<=g):ej w' a hi v n xs:=by
 refine⟨⟨h.1.1,h.1.2.1,?_⟩,h.2⟩;rcases h.1.2.2 with e|⟨g,b,c,d,j,f,r⟩
 ·simp_all
 ·refine .inr ⟨g,b,c,d,j,(k.block g (bF.1 f).1 λe=>?_).trans f,r⟩;have h1:=i g e;have l:=h.2 g (by rw[d];rfl);omega
def ej.ex{b hi:Nat}{xs:List Int}(h:ej w b hi v n xs)(g:w.grownBy w' v.ownBlock):∃S:List Nat,(∀s,s∈S->b<=s/\s<hi)/\av S w w':=by
 cases a:v.ownBlock with
 |none=>rw[a] at g;exact⟨[],aj,av.gQ [] (Q.jf g)⟩
 |some k=>rw[a] at g;refine⟨[k],λs c=>?_,av.dQ g⟩;simp only[List.mem_singleton] at c;subst c;exact⟨(h.1.2.lt s a).1,h.2 s a⟩
def gx.mono{w:ns}{a1 a2:aiI}{B B':Nat}(h:gx w a1 a2 B)(a:B<=B'):gx w a1 a2 B':=⟨h.e1,h.e2,cG h.l1 a,cG h.l2 a⟩
def WM{P:Kx}{g:Nat}{t:TypeId}{cs cs':Array rl}{c:Array Oper}{o:Oper}{a:Act}{K:Act->ns->Prop}{d:Exit->Act->ns->Prop}{E:Prop}(xe:o.guard=none){ty:TypeId}{x y:Operand}(e:o.op=.store ty x y)(f:a.eval x=.pointer (some ⟨g,0,none⟩))(i:a.eval y=v)(j:v=.agg cs')(h:ak w g t cs)(k:cs'.size=cs.size)(b:(cs'.all λx=>x.oneCell')=true)
  (hi:(P.info? ty).map (·.size)=some cs'.size)
  (hK:∀w',ak w' g t cs'->w.grownBy w' (some g)->w'.heap.size=w.heap.size->K (a.put o.dst undef) w'):if Region.wanted o (yielded c a.tmps)=true then Oper.wp P o a w K d else E:=by
 subst j;have l:=run_storeVar_row (P:=P) w g t ty cs cs' h hi k.symm b;rw[if_pos Cn];unfold Oper.wp execOp;simp only[e,f,i,Instr.storeAt,Instr.sureAddr,l,Sem.run_bind,Sem.run_pure,Result.andThen_ok];refine hK _ ?_ ?_ ?_
 ·unfold ak at h⊢;simp[World.setRow,Array.getElem?_modify,h]
 ·exact CO
 ·simp
def JD(h:p:=by(refine bh (k:=9) (by kernel_rfl) rfl rfl λf a=>?_;refine WM rfl rfl rfl rfl rfl nb rfl (by simp[Value.oneCell']) (by kernel_rfl) ?_;intro i c d j;have g:=o5.other d (.inr λe=>(by have h9:=L5 _ e;omega));have b:=y.grown d (λk e=>(by have:=aL e;omega));refine a.out _ _ ⟨b,(ba.q b).cell,(bb.q b).cell⟩ λhS=>?_;clear a f;refine aV ?_;refine iu [10] 10 (by kernel_rfl) (by decide) rfl ?_;clear hS;go_wp2;go_meet;exact⟨_,_,_,rfl,rfl,c,g,b,l5,(by omega),c.lt⟩)):p:=h
def VY(h:p:=by((go_simp;(try have b:=nb.lt);refine(Tj HG.out c3 c4 (o3.rd rfl z3) (au _) mt (HT.out.q (QQ.trans y)) o4.rd (au _) H').mono ?_;rintro e c⟨d,rfl,o5,a⟩;obtain⟨f,g,rfl⟩:=o5.form;have L5:=o5.2.lt;have l5:=y.size;(try replace nb:=nb.q a);replace y:=y.trans a;refine eq.out _ _ ⟨y,(ba.q y).cell,(bb.q y).cell⟩ λhS=>?_;clear eq K2;refine aV ?_);refine ah 5 (h:=ah 6 (h:=ah 7 (h:=?_)));exact JD)):p:=h
def VZ(h:p:=by((go_simp;(try have b:=nb.lt);refine(GB HG.out c3 c4 (o3.rd rfl z3) (au _) ((HE.out.q (QQ.trans y) (au _)).mono (QQ.trans y).size) (KA.out.q (QQ.trans y)) (KB.out.q (QQ.trans y)) (HT.out.q (QQ.trans y)) o4.rd (au _) H').mono ?_;rintro e c⟨d,rfl,o5,a⟩;obtain⟨f,g,rfl⟩:=o5.form;have L5:=o5.2.lt;have l5:=y.size;(try replace nb:=nb.q a);replace y:=y.trans a;refine eq.out _ _ ⟨y,(ba.q y).cell,(bb.q y).cell⟩ λhS=>?_;clear eq K2;refine aV ?_);refine ah 5 (h:=ah 6 (h:=ah 7 (h:=?_)));exact JD)):p:=h
def V0(h:p:=by((go_simp;refine(rT RW RH A' c' (HY.out.q (QQ.trans y) (au _)) (QQ.trans y).size F'.out H').mono ?_;rintro e b⟨v4,rfl,o4,a⟩;obtain⟨c,c4,rfl⟩:=o4.form;replace o3:=o3.q a;replace z3:=aJ z3 a.size;(try replace nb:=nb.q a);replace y:=y.trans a;refine eq.out _ _ ⟨y,(ba.q y).cell,(bb.q y).cell⟩ λhS=>?_;clear eq K2;refine aV ?_);refine bh (k:=4) (by kernel_rfl) rfl rfl λK2 eq=>?_;exact VY)):p:=h
def V1(h:p:=by((go_simp;refine(rT RW RH A' c' (HY.out.q (QQ.trans y) (au _)) (QQ.trans y).size F'.out H').mono ?_;rintro e b⟨v4,rfl,o4,a⟩;obtain⟨c,c4,rfl⟩:=o4.form;replace o3:=o3.q a;replace z3:=aJ z3 a.size;(try replace nb:=nb.q a);replace y:=y.trans a;refine eq.out _ _ ⟨y,(ba.q y).cell,(bb.q y).cell⟩ λhS=>?_;clear eq K2;refine aV ?_);refine bh (k:=4) (by kernel_rfl) rfl rfl λK2 eq=>?_;exact VZ)):p:=h
def V9(W H q:Int)(I:Bool)(c Z c':Nat)(RW RH:Int){a1 a2:aiI}(hx:dz w w.heap.size A ls)(hn:ls.length=n)(hm:n<=9223372036854775807)(xw:∀i,i<n->bytes (aU ls i))(hr:Rd w w.heap.size A' ref)(qx:ref.length=Z)(T':Z<=9223372036854775807)
  (he:gx w a1 a2 w.heap.size)(k1:dx w a1)(k2:dx w a2)(hT:Tb w):
  Calls Gz.prog 3 #[.agg #[U O W,U O H,.bool I,U O q,.slice A n c],.agg #[U O RW,U O RH,.slice A' Z c']] w λe w'=>e=be (.bool true):=by
 obtain⟨t,P1,P2,rs,d,hG⟩:∃t P1 P2 rs d,Hg W H q I n ls RW RH Z ref P1 P2 t d rs:=⟨_,_,_,_,_,rfl,rfl,rfl,rfl,rfl,hn,qx,xw⟩;have Up:d<=1024:=by obtain⟨rfl,_,_,rfl,rfl,_⟩:=hG;exact aeb
 have HD:Hid (rs.length=d):=hG.d_;have HN:=af hn;have F':=af qx;have HG:=af hG;have tR:d<=maxLen:=jC;have QQ:Q w ((w.alloc (.cells #[U O W,U O H,.bool I,U O q,.slice A n c] 24)).alloc (.cells #[U O RW,U O RH,.slice A' Z c'] 27)):=aR;have ba:=(ak.new w 24 #[U O W,U O H,.bool I,U O q,.slice A n c]).alloc (.cells #[U O RW,U O RH,.slice A' Z c'] 27);have bb:=ak.new (w.alloc (.cells #[U O W,U O H,.bool I,U O q,.slice A n c] 24)) 27 #[U O RW,U O RH,.slice A' Z c'];rw[World.size_alloc] at bb;have R:=QQ.size;have V:w.heap.size+2<=((w.alloc (.cells #[U O W,U O H,.bool I,U O q,.slice A n c] 24)).alloc (.cells #[U O RW,U O RH,.slice A' Z c'] 27)).heap.size:=aj;have HX:=af hx;have HY:=af hr;have HE:=af he;have KA:=af k1;have KB:=af k2;have HT:=af hT;clear hx hr hn qx xw he k1 k2 hT hG;go_enter Gz.gf func3,ntmps3;go_wp2;generalize(w.alloc (.cells #[U O W,U O H,.bool I,U O q,.slice A n c] 24)).alloc (.cells #[U O RW,U O RH,.slice A' Z c'] 27)=a at QQ ba bb R V⊢;refine(ad9 W H q I A c 1048576 (HX.out.q QQ (au _)) R HN.out aa aa hm).mono ?_;rintro e a⟨⟨r,rfl,hr⟩,q1⟩;(try replace ba:=ba.q q1);(try replace bb:=bb.q q1);(try replace m:=m.q q1);(try replace f:=f.q q1);(try replace l:=l.q q1);(try replace o:=o.q q1);(try replace x:=x.q q1);(try replace C:=C.q q1);(try replace u:=u.q q1);(try replace s:=s.q q1);have V:=q1.size;replace QQ:=QQ.trans q1;replace R:=QQ.size;clear q1;(try replace T:=ba.cell);(try replace cb:=bb.cell);(try replace P:=m.cell);(try replace cd:=f.cell);(try replace ce:=l.cell);(try replace X:=o.cell);rcases hr with hr|⟨hr,hr0⟩
 ·go_wp2;go_ret;exact rfl
 have mt:n<=1048576:=aa;have V2:eD ls n<=1048576:=aa;have Jh:r<=1048576:=aa;have WP:=af V2;have Uq:=af hr;clear hr V2;go_wp2;refine(aaJ RW RH A' c' a hr0 aa T').mono ?_;rintro e a⟨rfl,G⟩;(try replace ba:=ba.q G);(try replace bb:=bb.q G);(try replace m:=m.q G);(try replace f:=f.q G);(try replace l:=l.q G);(try replace o:=o.q G);(try replace x:=x.q G);(try replace C:=C.q G);(try replace u:=u.q G);(try replace s:=s.q G);have V:=G.size;replace QQ:=QQ.trans G;replace R:=QQ.size;clear G;(try replace T:=ba.cell);(try replace cb:=bb.cell);(try replace P:=m.cell);(try replace cd:=f.cell);(try replace ce:=l.cell);(try replace X:=o.cell);by_cases hb:r<Z
 ·rw[if_pos hb];clear hb;go_wp2;go_ret;exact rfl
 rw[if_neg hb];have H':Z<=1048576:=aa;have hrn:decide (r-(Z:Int)<0)=false:=aA;clear hb
 go_upto_region 8 with fail
 go_cut[6,7] (λp b wx=>∃g v lo,p=.pointer (some ⟨g,0,none⟩)/\b=.bool t/\Hid (ak wx g 30 #[U O P1,U O P2,v]/\Own wx lo v d rs/\Q a wx/\a.heap.size<=lo/\a.heap.size<=g/\g<wx.heap.size))
 case first=>
  have y:Q a a.drew:=(Q.refl _).drew;refine et (λww=>Q a ww/\(∀i,ww.cell? ⟨w.heap.size,i,none⟩=(#[U O W,U O H,.bool I,U O q,.slice A n c]:Array rl)[i]?)/\(∀i,ww.cell? ⟨w.heap.size+1,i,none⟩=(#[U O RW,U O RH,.slice A' Z c']:Array rl)[i]?)) (λj=>decide (10<=j)) ai ⟨y,T,cb⟩ λhS=>?_;refine ah 0 (h:=ah 2 (h:=?_));refine rA (i:=1) (j:=8) ai rfl rfl rfl rfl (λK2 eq=>?_) (λK2 eq=>?_)
  ·(go_simp;refine(sA W H q I A c (HX.out.q (QQ.trans y) (au _)) (QQ.trans y).size HN.out mt WP.out).mono ?_;rintro e w3⟨v3,B7,rfl,o3,E⟩;obtain⟨A3,c3,e3,PA,_⟩:=o3.form;rw[HN.out] at e3;subst e3;have z3:=au w3.heap.size;(try replace nb:=nb.q E);replace y:=y.trans E;refine eq.out _ _ ⟨y,(ba.q y).cell,(bb.q y).cell⟩ λhS=>?_;clear eq K2;refine aV ?_)
   refine rA (i:=3) (j:=8) ai rfl rfl rfl rfl (λK2 eq=>?_) (λK2 eq=>?_)
   ·(go_simp;refine(rT RW RH A' c' (HY.out.q (QQ.trans y) (au _)) (QQ.trans y).size F'.out H').mono ?_;rintro e w4⟨v4,rfl,o4,J⟩;obtain⟨A4,c4,rfl⟩:=o4.form;replace o3:=o3.q J;replace z3:=aJ z3 J.size;(try replace nb:=nb.q J);replace y:=y.trans J;refine eq.out _ _ ⟨y,(ba.q y).cell,(bb.q y).cell⟩ λhS=>?_;clear eq K2;refine aV ?_)
    refine rA (i:=4) (j:=8) ai rfl rfl rfl rfl (λK2 eq=>?_) (λK2 eq=>?_)
    ·(go_simp;(try have nl:=nb.lt);refine(Tj HG.out c3 c4 (o3.rd rfl z3) (au _) mt (HT.out.q (QQ.trans y)) o4.rd (au _) H').mono ?_;rintro e w5⟨v5,rfl,o5,q5⟩;obtain⟨A5,c5,rfl⟩:=o5.form;have L5:=o5.2.lt;have l5:=y.size;(try replace nb:=nb.q q5);replace y:=y.trans q5;refine eq.out _ _ ⟨y,(ba.q y).cell,(bb.q y).cell⟩ λhS=>?_;clear eq K2;refine aV ?_)
     exact Lz
    ·(go_simp;have nb:=ak.new w4 30 #[U O 0,U O 0,.slice none 0 0];have D:=(Q.refl w4).alloc (.cells #[U O 0,U O 0,.slice none 0 0] 30);(try replace o3:=o3.q D);(try replace z3:=aJ z3 D.size);(try replace o4:=o4.q D);(try replace o5:=o5.q D);have ln:=y.size;replace y:=y.trans D;refine eq.out _ _ ⟨y,(ba.q y).cell,(bb.q y).cell⟩ λhS=>?_;clear eq K2;refine aV ?_)
     refine bh (k:=4) ai rfl rfl λK2 eq=>?_;exact VY
   ·(go_simp;have nb:=ak.new w3 30 #[U O 0,U O 0,.slice none 0 0];have D:=(Q.refl w3).alloc (.cells #[U O 0,U O 0,.slice none 0 0] 30);(try replace o3:=o3.q D);(try replace z3:=aJ z3 D.size);(try replace o4:=o4.q D);(try replace o5:=o5.q D);have ln:=y.size;replace y:=y.trans D;refine eq.out _ _ ⟨y,(ba.q y).cell,(bb.q y).cell⟩ λhS=>?_;clear eq K2;refine aV ?_)
    refine bh (k:=3) ai rfl rfl λK2 eq=>?_;exact V0
  ·(go_simp;have nb:=ak.new a.drew 30 #[U O 0,U O 0,.slice none 0 0];have D:=(Q.refl a.drew).alloc (.cells #[U O 0,U O 0,.slice none 0 0] 30);(try replace o3:=o3.q D);(try replace z3:=aJ z3 D.size);(try replace o4:=o4.q D);(try replace o5:=o5.q D);have ln:=y.size;replace y:=y.trans D;refine eq.out _ _ ⟨y,(ba.q y).cell,(bb.q y).cell⟩ λhS=>?_;clear eq K2;refine aV ?_)
   refine bh (k:=1) ai rfl rfl λK2 eq=>?_;(go_simp;refine(sA W H q I A c (HX.out.q (QQ.trans y) (au _)) (QQ.trans y).size HN.out mt WP.out).mono ?_;rintro e w3⟨v3,B7,rfl,o3,E⟩;obtain⟨A3,c3,e3,PA,_⟩:=o3.form;rw[HN.out] at e3;subst e3;have z3:=au w3.heap.size;(try replace nb:=nb.q E);replace y:=y.trans E;refine eq.out _ _ ⟨y,(ba.q y).cell,(bb.q y).cell⟩ λhS=>?_;clear eq K2;refine aV ?_)
   refine bh (k:=3) ai rfl rfl λK2 eq=>?_;exact V0
 case rest=>
 obtain⟨g1,v1,l1,rfl,rfl,hc⟩:=hcut;obtain⟨m,o1,q1,Bo,t7,U'⟩:=hc.out;obtain⟨A1,c1,rfl⟩:=o1.form;have x:=o1.i;clear o1 hc;generalize wc=wx at x m q1 U'⊢;replace ba:=ba.q q1;replace bb:=bb.q q1;replace QQ:=QQ.trans q1;replace R:=QQ.size;have sq1:=q1.size;clear q1;obtain⟨a,rfl⟩:∃a,a=wx:=⟨_,rfl⟩;(try replace T:=ba.cell);(try replace cb:=bb.cell);(try replace P:=m.cell);(try replace cd:=f.cell);(try replace ce:=l.cell);(try replace X:=o.cell);have P:=m.cell;go_wp2;refine(sA W H q I A c (HX.out.q QQ (au _)) QQ.size HN.out mt WP.out).mono ?_;rintro e a⟨v,vs,rfl,o2,G⟩;obtain⟨A2,c2,e2,If,_⟩:=o2.form;rw[HN.out] at e2;subst e2;(try replace ba:=ba.q G);(try replace bb:=bb.q G);(try replace m:=m.q G);(try replace f:=f.q G);(try replace l:=l.q G);(try replace o:=o.q G);(try replace x:=x.q G);(try replace C:=C.q G);(try replace u:=u.q G);(try replace s:=s.q G);have V:=G.size;replace QQ:=QQ.trans G;replace R:=QQ.size;clear G;(try replace T:=ba.cell);(try replace cb:=bb.cell);(try replace P:=m.cell);(try replace cd:=f.cell);(try replace ce:=l.cell);(try replace X:=o.cell);have C:=o2;clear o2;have z:Q a (a.alloc (.cells #[U O W,U O H,.bool I,U O q,.slice A2 n c2] 33)):=(Q.refl a).alloc _;have sb:(a.alloc (.cells #[U O W,U O H,.bool I,U O q,.slice A2 n c2] 33)).heap.size=a.heap.size+1:=aj;(try replace ba:=ba.q z);(try replace bb:=bb.q z);(try replace m:=m.q z);(try replace f:=f.q z);(try replace l:=l.q z);(try replace o:=o.q z);(try replace x:=x.q z);(try replace C:=C.q z);(try replace u:=u.q z);(try replace s:=s.q z);have V:=z.size;replace QQ:=QQ.trans z;replace R:=QQ.size;clear z;(try replace T:=ba.cell);(try replace cb:=bb.cell);(try replace P:=m.cell);(try replace cd:=f.cell);(try replace ce:=l.cell);(try replace X:=o.cell);have f:=ak.new a 33 #[U O W,U O H,.bool I,U O q,.slice A2 n c2];obtain⟨gd,xe⟩:∃k,a.heap.size=k:=⟨_,rfl⟩;rw[xe] at f;have cd:=f.cell;go_wp2;refine(rT RW RH A' c' (HY.out.q QQ (au _)) QQ.size F'.out H').mono ?_;rintro e a⟨v,rfl,o3,E⟩;obtain⟨A3,c3,rfl⟩:=o3.form;(try replace ba:=ba.q E);(try replace bb:=bb.q E);(try replace m:=m.q E);(try replace f:=f.q E);(try replace l:=l.q E);(try replace o:=o.q E);(try replace x:=x.q E);(try replace C:=C.q E);(try replace u:=u.q E);(try replace s:=s.q E);have V:=E.size;replace QQ:=QQ.trans E;replace R:=QQ.size;clear E;(try replace T:=ba.cell);(try replace cb:=bb.cell);(try replace P:=m.cell);(try replace cd:=f.cell);(try replace ce:=l.cell);(try replace X:=o.cell);have u:=o3.i;clear o3;have z:Q a (a.alloc (.cells #[U O RW,U O RH,.slice A3 Z c3] 30)):=(Q.refl a).alloc _;have sb:(a.alloc (.cells #[U O RW,U O RH,.slice A3 Z c3] 30)).heap.size=a.heap.size+1:=aj;(try replace ba:=ba.q z);(try replace bb:=bb.q z);(try replace m:=m.q z);(try replace f:=f.q z);(try replace l:=l.q z);(try replace o:=o.q z);(try replace x:=x.q z);(try replace C:=C.q z);(try replace u:=u.q z);(try replace s:=s.q z);have V:=z.size;replace QQ:=QQ.trans z;replace R:=QQ.size;clear z;(try replace T:=ba.cell);(try replace cb:=bb.cell);(try replace P:=m.cell);(try replace cd:=f.cell);(try replace ce:=l.cell);(try replace X:=o.cell);have l:=ak.new a 30 #[U O RW,U O RH,.slice A3 Z c3];obtain⟨ge,wt⟩:∃k,a.heap.size=k:=⟨_,rfl⟩;rw[wt] at l;have ce:=l.cell;go_wp2;refine(GB HG.out c2 c3 (C.rd rfl aa) (au _) ((HE.out.q QQ (au _)).mono QQ.size) (KA.out.q QQ) (KB.out.q QQ) (HT.out.q QQ) u.rd (au _) H').mono ?_;rintro e a⟨v4,rfl,o4,J⟩;obtain⟨A4,c4,rfl⟩:=o4.form;(try replace ba:=ba.q J);(try replace bb:=bb.q J);(try replace m:=m.q J);(try replace f:=f.q J);(try replace l:=l.q J);(try replace o:=o.q J);(try replace x:=x.q J);(try replace C:=C.q J);(try replace u:=u.q J);(try replace s:=s.q J);have V:=J.size;replace QQ:=QQ.trans J;replace R:=QQ.size;clear J;(try replace T:=ba.cell);(try replace cb:=bb.cell);(try replace P:=m.cell);(try replace cd:=f.cell);(try replace ce:=l.cell);(try replace X:=o.cell);have s:=o4.i;clear o4;have z:Q a (a.alloc (.cells #[U O P1,U O P2,.slice A4 d c4] 30)):=(Q.refl a).alloc _;have sb:(a.alloc (.cells #[U O P1,U O P2,.slice A4 d c4] 30)).heap.size=a.heap.size+1:=aj;(try replace ba:=ba.q z);(try replace bb:=bb.q z);(try replace m:=m.q z);(try replace f:=f.q z);(try replace l:=l.q z);(try replace o:=o.q z);(try replace x:=x.q z);(try replace C:=C.q z);(try replace u:=u.q z);(try replace s:=s.q z);have V:=z.size;replace QQ:=QQ.trans z;replace R:=QQ.size;clear z;(try replace T:=ba.cell);(try replace cb:=bb.cell);(try replace P:=m.cell);(try replace cd:=f.cell);(try replace ce:=l.cell);(try replace X:=o.cell);have o:=ak.new a 30 #[U O P1,U O P2,.slice A4 d c4];obtain⟨gf,hgf⟩:∃k,a.heap.size=k:=⟨_,rfl⟩;rw[hgf] at o;have X:=o.cell;have htn:(t !=t)=false:=aj;go_wp2;refine(zt c4 c1 s.rd (au _) x.rd (au _) HD HD tR tR (decide_eq_true ⟨rfl,rfl,rfl⟩)).mono ?_;rintro e a⟨rfl,q5⟩;(try replace ba:=ba.q q5);(try replace bb:=bb.q q5);(try replace m:=m.q q5);(try replace f:=f.q q5);(try replace l:=l.q q5);(try replace o:=o.q q5);(try replace x:=x.q q5);(try replace C:=C.q q5);(try replace u:=u.q q5);(try replace s:=s.q q5);have V:=q5.size;replace QQ:=QQ.trans q5;replace R:=QQ.size;clear q5;(try replace T:=ba.cell);(try replace cb:=bb.cell);(try replace P:=m.cell);(try replace cd:=f.cell);(try replace ce:=l.cell);(try replace X:=o.cell)
 go_upto_region 14 with fail
 go_cut[58] (λP wx=>P=.bool false/\Q a wx)
 case first=>have y:Q a a.drew:=(Q.refl _).drew;refine et (λww=>(∀i,ww.cell? ⟨gd,i,none⟩=(#[U O W,U O H,.bool I,U O q,.slice A2 n c2]:Array rl)[i]?)/\(∀i,ww.cell? ⟨w.heap.size,i,none⟩=(#[U O W,U O H,.bool I,U O q,.slice A n c]:Array rl)[i]?)) (λ_=>false) ai ⟨cd,T⟩ λhS=>?_;refine ah 0 (h:=ah 1 (h:=?_));refine bh (k:=2) ai rfl rfl λK2 eq=>?_;go_simp;refine(sA W H q I A c (HX.out.q (QQ.trans y) (au _)) (QQ.trans y).size HN.out mt WP.out).mono ?_;rintro e w3⟨v3,B7,rfl,o3,E⟩;obtain⟨A5,c5,e5,hc5,_⟩:=o3.form;rw[HN.out] at e5;subst e5;replace y:=y.trans E;refine eq.out _ _ ⟨(f.q y).cell,(ba.q y).cell⟩ λhS=>?_;clear eq K2;refine aV ?_;refine bh (k:=3) ai rfl rfl λK2 eq=>?_;go_simp;refine(aea W H q I A5 c2 c5 ((C.q y).rd rfl (by have:=y.size;omega)) (au _) (o3.rd rfl (au _)) (au _) HN.out mt WP.out).mono ?_;rintro e w4⟨rfl,J⟩;replace y:=y.trans J;refine eq.out _ _ ⟨(f.q y).cell,(ba.q y).cell⟩ λhS=>?_;exact LA
 case rest=>
 obtain⟨rfl,q6⟩:=hcut;generalize wc=a at q6⊢;(try replace ba:=ba.q q6);(try replace bb:=bb.q q6);(try replace m:=m.q q6);(try replace f:=f.q q6);(try replace l:=l.q q6);(try replace o:=o.q q6);(try replace x:=x.q q6);(try replace C:=C.q q6);(try replace u:=u.q q6);(try replace s:=s.q q6);have V:=q6.size;replace QQ:=QQ.trans q6;replace R:=QQ.size;clear q6;(try replace T:=ba.cell);(try replace cb:=bb.cell);(try replace P:=m.cell);(try replace cd:=f.cell);(try replace ce:=l.cell);(try replace X:=o.cell)
 go_upto_region 16 with fail
 go_cut[63] (λP wx=>P=.bool false/\Q a wx)
 case first=>have y:Q a a.drew:=(Q.refl _).drew;refine et (λww=>(∀i,ww.cell? ⟨ge,i,none⟩=(#[U O RW,U O RH,.slice A3 Z c3]:Array rl)[i]?)/\(∀i,ww.cell? ⟨w.heap.size+1,i,none⟩=(#[U O RW,U O RH,.slice A' Z c']:Array rl)[i]?)) (λ_=>false) ai ⟨ce,cb⟩ λhS=>?_;refine ah 0 (h:=ah 1 (h:=?_));refine bh (k:=2) ai rfl rfl λK2 eq=>?_;go_simp;refine(rT RW RH A' c' (HY.out.q (QQ.trans y) (au _)) (QQ.trans y).size F'.out H').mono ?_;rintro e w3⟨v3,rfl,o3,E⟩;obtain⟨A5,c5,rfl⟩:=o3.form;replace y:=y.trans E;refine eq.out _ _ ⟨(l.q y).cell,(bb.q y).cell⟩ λhS=>?_;clear eq K2;refine aV ?_;refine bh (k:=3) ai rfl rfl λK2 eq=>?_;go_simp;refine(zt c3 c5 (u.q y).rd (au _) o3.rd (au _) F'.out F'.out jC jC (decide_eq_true ⟨rfl,rfl,rfl⟩)).mono ?_;rintro e w4⟨rfl,J⟩;replace y:=y.trans J;refine eq.out _ _ ⟨(l.q y).cell,(bb.q y).cell⟩ λhS=>?_;exact LA
 case rest=>
 obtain⟨rfl,q7⟩:=hcut;generalize wc=a at q7⊢;(try replace ba:=ba.q q7);(try replace bb:=bb.q q7);(try replace m:=m.q q7);(try replace f:=f.q q7);(try replace l:=l.q q7);(try replace o:=o.q q7);(try replace x:=x.q q7);(try replace C:=C.q q7);(try replace u:=u.q q7);(try replace s:=s.q q7);have V:=q7.size;replace QQ:=QQ.trans q7;replace R:=QQ.size;clear q7;(try replace T:=ba.cell);(try replace cb:=bb.cell);(try replace P:=m.cell);(try replace cd:=f.cell);(try replace ce:=l.cell);(try replace X:=o.cell);go_wp2;refine(aaL W H q I 1 C aa aa WP.out HN.out mt aa).mono ?_;rintro e a⟨rfl,S,hS,B⟩;clear C;(try replace ba:=ba.aw B λh=>dK);(try replace bb:=bb.aw B λh=>dK);(try replace m:=m.aw B λh=>dK);(try replace f:=f.aw B λh=>dK);(try replace l:=l.aw B λh=>dK);(try replace o:=o.aw B λh=>dK);(try replace x:=x.aw B λg h=>dK);(try replace u:=u.aw B λg h=>dK);(try replace s:=s.aw B λg h=>dK);have V:=B.size;replace QQ:=B.toQ QQ λg h=>dK;replace R:=QQ.size;clear B hS;(try replace T:=ba.cell);(try replace cb:=bb.cell);(try replace P:=m.cell);(try replace cd:=f.cell);(try replace ce:=l.cell);(try replace X:=o.cell);have aim:=WP.out;go_wp2;refine(Nq RW RH (1+eD ls n) u.1 aa aa aa).mono ?_;rintro e a⟨rfl,_,g9⟩;obtain⟨S,hS,B⟩:=u.ex g9;clear u g9;(try replace ba:=ba.aw B λh=>dK);(try replace bb:=bb.aw B λh=>dK);(try replace m:=m.aw B λh=>dK);(try replace f:=f.aw B λh=>dK);(try replace l:=l.aw B λh=>dK);(try replace o:=o.aw B λh=>dK);(try replace x:=x.aw B λg h=>dK);(try replace u:=u.aw B λg h=>dK);(try replace s:=s.aw B λg h=>dK);have V:=B.size;replace QQ:=B.toQ QQ λg h=>dK;replace R:=QQ.size;clear B hS;(try replace T:=ba.cell);(try replace cb:=bb.cell);(try replace P:=m.cell);(try replace cd:=f.cell);(try replace ce:=l.cell);(try replace X:=o.cell);go_wp2;refine(zt c4 c1 s.rd (au _) x.rd (au _) HD HD tR tR (decide_eq_true ⟨rfl,rfl,rfl⟩)).mono ?_;rintro e a⟨rfl,K⟩;(try replace ba:=ba.q K);(try replace bb:=bb.q K);(try replace m:=m.q K);(try replace f:=f.q K);(try replace l:=l.q K);(try replace o:=o.q K);(try replace x:=x.q K);(try replace C:=C.q K);(try replace u:=u.q K);(try replace s:=s.q K);have V:=K.size;replace QQ:=QQ.trans K;replace R:=QQ.size;clear K;(try replace T:=ba.cell);(try replace cb:=bb.cell);(try replace P:=m.cell);(try replace cd:=f.cell);(try replace ce:=l.cell);(try replace X:=o.cell);go_wp2;refine(Nq P1 P2 1 s.1 aa aa aa).mono ?_;rintro e a⟨rfl,V3,g11⟩;have oz:=s.marked V3;obtain⟨S,hS,B⟩:=s.ex g11;clear s V3 g11;(try replace ba:=ba.aw B λh=>dK);(try replace bb:=bb.aw B λh=>dK);(try replace m:=m.aw B λh=>dK);(try replace f:=f.aw B λh=>dK);(try replace l:=l.aw B λh=>dK);(try replace o:=o.aw B λh=>dK);(try replace x:=x.aw B λg h=>dK);(try replace u:=u.aw B λg h=>dK);(try replace s:=s.aw B λg h=>dK);have V:=B.size;replace QQ:=B.toQ QQ λg h=>dK;replace R:=QQ.size;clear B hS;(try replace T:=ba.cell);(try replace cb:=bb.cell);(try replace P:=m.cell);(try replace cd:=f.cell);(try replace ce:=l.cell);(try replace X:=o.cell);have s:=oz;clear oz;go_wp2;refine(Nr P1 P2 s.1 aa aa aa).mono ?_;rintro e a⟨rfl,L⟩;(try replace ba:=ba.q L);(try replace bb:=bb.q L);(try replace m:=m.q L);(try replace f:=f.q L);(try replace l:=l.q L);(try replace o:=o.q L);(try replace x:=x.q L);(try replace C:=C.q L);(try replace u:=u.q L);(try replace s:=s.q L);have V:=L.size;replace QQ:=QQ.trans L;replace R:=QQ.size;clear L;(try replace T:=ba.cell);(try replace cb:=bb.cell);(try replace P:=m.cell);(try replace cd:=f.cell);(try replace ce:=l.cell);(try replace X:=o.cell)
 go_upto_region 31 with fail
 go_cut[15,16] (λp b wx=>∃g v lo,p=.pointer (some ⟨g,0,none⟩)/\b=.bool t/\Hid (ak wx g 30 #[U O P1,U O P2,v]/\Own wx lo v d rs/\Q a wx/\a.heap.size<=lo/\a.heap.size<=g/\g<wx.heap.size))
 case first=>
  have y:Q a a.drew:=(Q.refl _).drew;refine et (λww=>Q a ww/\(∀i,ww.cell? ⟨w.heap.size,i,none⟩=(#[U O W,U O H,.bool I,U O q,.slice A n c]:Array rl)[i]?)/\(∀i,ww.cell? ⟨w.heap.size+1,i,none⟩=(#[U O RW,U O RH,.slice A' Z c']:Array rl)[i]?)) (λj=>decide (10<=j)) ai ⟨y,T,cb⟩ λhS=>?_;refine ah 0 (h:=ah 2 (h:=?_));refine rA (i:=1) (j:=8) ai rfl rfl rfl rfl (λK2 eq=>?_) (λK2 eq=>?_)
  ·(go_simp;refine(sA W H q I A c (HX.out.q (QQ.trans y) (au _)) (QQ.trans y).size HN.out mt WP.out).mono ?_;rintro e w3⟨v3,B7,rfl,o3,E⟩;obtain⟨A3,c3,e3,PA,_⟩:=o3.form;rw[HN.out] at e3;subst e3;have z3:=au w3.heap.size;(try replace nb:=nb.q E);replace y:=y.trans E;refine eq.out _ _ ⟨y,(ba.q y).cell,(bb.q y).cell⟩ λhS=>?_;clear eq K2;refine aV ?_)
   refine rA (i:=3) (j:=8) ai rfl rfl rfl rfl (λK2 eq=>?_) (λK2 eq=>?_)
   ·(go_simp;refine(rT RW RH A' c' (HY.out.q (QQ.trans y) (au _)) (QQ.trans y).size F'.out H').mono ?_;rintro e w4⟨v4,rfl,o4,J⟩;obtain⟨A4,c4,rfl⟩:=o4.form;replace o3:=o3.q J;replace z3:=aJ z3 J.size;(try replace nb:=nb.q J);replace y:=y.trans J;refine eq.out _ _ ⟨y,(ba.q y).cell,(bb.q y).cell⟩ λhS=>?_;clear eq K2;refine aV ?_)
    refine rA (i:=4) (j:=8) ai rfl rfl rfl rfl (λK2 eq=>?_) (λK2 eq=>?_)
    ·(go_simp;(try have nl:=nb.lt);refine(GB HG.out c3 c4 (o3.rd rfl z3) (au _) ((HE.out.q (QQ.trans y) (au _)).mono (QQ.trans y).size) (KA.out.q (QQ.trans y)) (KB.out.q (QQ.trans y)) (HT.out.q (QQ.trans y)) o4.rd (au _) H').mono ?_;rintro e w5⟨v5,rfl,o5,q5⟩;obtain⟨A5,c5,rfl⟩:=o5.form;have L5:=o5.2.lt;have l5:=y.size;(try replace nb:=nb.q q5);replace y:=y.trans q5;refine eq.out _ _ ⟨y,(ba.q y).cell,(bb.q y).cell⟩ λhS=>?_;clear eq K2;refine aV ?_)
     exact Lz
    ·(go_simp;have nb:=ak.new w4 30 #[U O 0,U O 0,.slice none 0 0];have D:=(Q.refl w4).alloc (.cells #[U O 0,U O 0,.slice none 0 0] 30);(try replace o3:=o3.q D);(try replace z3:=aJ z3 D.size);(try replace o4:=o4.q D);(try replace o5:=o5.q D);have ln:=y.size;replace y:=y.trans D;refine eq.out _ _ ⟨y,(ba.q y).cell,(bb.q y).cell⟩ λhS=>?_;clear eq K2;refine aV ?_)
     refine bh (k:=4) ai rfl rfl λK2 eq=>?_;exact VZ
   ·(go_simp;have nb:=ak.new w3 30 #[U O 0,U O 0,.slice none 0 0];have D:=(Q.refl w3).alloc (.cells #[U O 0,U O 0,.slice none 0 0] 30);(try replace o3:=o3.q D);(try replace z3:=aJ z3 D.size);(try replace o4:=o4.q D);(try replace o5:=o5.q D);have ln:=y.size;replace y:=y.trans D;refine eq.out _ _ ⟨y,(ba.q y).cell,(bb.q y).cell⟩ λhS=>?_;clear eq K2;refine aV ?_)
    refine bh (k:=3) ai rfl rfl λK2 eq=>?_;exact V1
  ·(go_simp;have nb:=ak.new a.drew 30 #[U O 0,U O 0,.slice none 0 0];have D:=(Q.refl a.drew).alloc (.cells #[U O 0,U O 0,.slice none 0 0] 30);(try replace o3:=o3.q D);(try replace z3:=aJ z3 D.size);(try replace o4:=o4.q D);(try replace o5:=o5.q D);have ln:=y.size;replace y:=y.trans D;refine eq.out _ _ ⟨y,(ba.q y).cell,(bb.q y).cell⟩ λhS=>?_;clear eq K2;refine aV ?_)
   refine bh (k:=1) ai rfl rfl λK2 eq=>?_;(go_simp;refine(sA W H q I A c (HX.out.q (QQ.trans y) (au _)) (QQ.trans y).size HN.out mt WP.out).mono ?_;rintro e w3⟨v3,B7,rfl,o3,E⟩;obtain⟨A3,c3,e3,PA,_⟩:=o3.form;rw[HN.out] at e3;subst e3;have z3:=au w3.heap.size;(try replace nb:=nb.q E);replace y:=y.trans E;refine eq.out _ _ ⟨y,(ba.q y).cell,(bb.q y).cell⟩ λhS=>?_;clear eq K2;refine aV ?_)
   refine bh (k:=3) ai rfl rfl λK2 eq=>?_;exact V1
 case rest=>
 obtain⟨g2,v2,l2,rfl,rfl,hc⟩:=hcut;obtain⟨bz,o2,F,BB,hg3,hg4⟩:=hc.out;obtain⟨A5,c5,rfl⟩:=o2.form;clear hc;generalize wc=a at o2 bz F hg4⊢;(try replace ba:=ba.q F);(try replace bb:=bb.q F);(try replace m:=m.q F);(try replace f:=f.q F);(try replace l:=l.q F);(try replace o:=o.q F);(try replace x:=x.q F);(try replace C:=C.q F);(try replace u:=u.q F);(try replace s:=s.q F);have V:=F.size;replace QQ:=QQ.trans F;replace R:=QQ.size;clear F;(try replace T:=ba.cell);(try replace cb:=bb.cell);(try replace P:=m.cell);(try replace cd:=f.cell);(try replace ce:=l.cell);(try replace X:=o.cell);have cz:=bz.cell;go_wp2;refine(zt c5 c1 o2.rd (au _) x.rd (au _) HD HD tR tR (decide_eq_true ⟨rfl,rfl,rfl⟩)).mono ?_;rintro e a⟨rfl,M⟩;(try replace ba:=ba.q M);(try replace bb:=bb.q M);(try replace m:=m.q M);(try replace f:=f.q M);(try replace l:=l.q M);(try replace o:=o.q M);(try replace x:=x.q M);(try replace C:=C.q M);(try replace u:=u.q M);(try replace s:=s.q M);have V:=M.size;replace QQ:=QQ.trans M;replace R:=QQ.size;clear M;(try replace T:=ba.cell);(try replace cb:=bb.cell);(try replace P:=m.cell);(try replace cd:=f.cell);(try replace ce:=l.cell);(try replace X:=o.cell);go_wp2;refine(Nr P1 P2 s.1 aa aa aa).mono ?_;rintro e a⟨rfl,N⟩;(try replace ba:=ba.q N);(try replace bb:=bb.q N);(try replace m:=m.q N);(try replace f:=f.q N);(try replace l:=l.q N);(try replace o:=o.q N);(try replace x:=x.q N);(try replace C:=C.q N);(try replace u:=u.q N);(try replace s:=s.q N);have V:=N.size;replace QQ:=QQ.trans N;replace R:=QQ.size;clear N;(try replace T:=ba.cell);(try replace cb:=bb.cell);(try replace P:=m.cell);(try replace cd:=f.cell);(try replace ce:=l.cell);(try replace X:=o.cell);go_wp2;go_ret;exact rfl
end
section
open Go.RowKit Go.WideShapes Go.ChangeShapes
theorem FE{a:aiI}(h:w.cell? a=some v):a.block<w.heap.size/\a.spot=none:=by
 unfold World.cell? at h;rcases de a.block w.heap.size with b|b
 ·refine⟨b,?_⟩;rcases c:a.spot with _|s
  ·rfl
  ·grind
 ·simp_all
def age:Open.vE:=by
 intro w v M N many a h;obtain⟨p,m,c,rfl,hm,y,k,hc⟩:=h.data;have z:=(FE h.e1).1;have B:=(FE h.e2).1
 obtain⟨xs,C,D⟩:∃xs:List Int,xs.length=m/\bB w w.heap.size p xs:=by
  rcases y with⟨rfl,rfl⟩|⟨t,rfl,hd⟩
  ·exact⟨[],rfl,bB.nil _ _ _⟩
  ·by_cases h0:m=0
   ·subst h0;exact⟨[],rfl,bB.nil _ _ _⟩
   ·have l:∀j,∃x:Int,j<m->w.cell? (t.add j)=some (.int .u8 x):=λj=>by
     by_cases P:j<m
     ·simp_all
     ·simp[*]
    obtain⟨f,u⟩:=Classical.axiomOfChoice l;have c0:=FE (u 0 aa);obtain⟨b,o,s⟩:=t;obtain⟨E,F⟩:=c0;subst F;refine⟨(List.range m).map f,aj,λ_=>⟨b,o,rfl,E,λi hi=>?_⟩⟩;have g:i<m:=eg;have hc:=u i g
    have G:(⟨b,o,none⟩:aiI).add i=⟨b,o+i,none⟩:=by
     unfold Addr.add;by_cases r:i=0
     ·simp
     ·rw[if_neg r]
    rw[G] at hc;rw[hc];simp[g]
 refine(MJ c many a D C ⟨k,by unfold maxLen;omega⟩ (au _) ⟨h.e1,h.e2,z,B⟩ h.c1 h.c2).mono ?_;intro e w' d;obtain⟨h1,_⟩:=d;cases J:eW xs many a with
 |none=>simp_all
 |some L=>rw[J] at h1;obtain⟨v,rfl,K⟩:=h1;obtain⟨A,c,rfl⟩:=K.form;exact⟨A,many.toNat,c,true,rfl⟩
end
end Go.Proofs.Q0
namespace Go.Proofs.Q0.aI
section
variable[ag]
open Go.Conc
open Go.ConcN (sumTo upd sumTo_upd upd_same upd_ne)
omit [ag] in
def mapM_pure(ts:Array rl)(f:ResultVar->Sem rl)(a:∀t,f (.tmp t)=pure (ts.getD t undef)):∀(l:List ResultVar),(∀r∈l,∃t,r=.tmp t)->∃vs:List rl,(l.mapM f:Sem (List rl))=pure vs
 |[],_=>⟨[],rfl⟩
 |r::l,h=>by obtain⟨vs,b⟩:=mapM_pure ts f a l λx c=>h x (by simp[c]);obtain⟨t,rfl⟩:=h r aj;refine⟨ts.getD t undef::vs,?_⟩;rw[List.mapM_cons,a,b];rfl
omit [ag] in
def MR{fn:Func}(h:∀r∈fn.results,∃t,r=.tmp t)(ts:Array rl):∃v,results fn ts=pure v:=by
 obtain⟨b,c⟩:=mapM_pure ts (λr=>match r with|.tmp t=>pure (ts.getD t undef)|.cell a t=>do loadVar t (<-asAddr (ts.getD a undef))) (λt=>rfl) fn.results.toList λr d=>h r (j9.1 d);refine⟨if h:b.toArray.size=1 then b.toArray[0] else .tuple b.toArray,?_⟩;unfold results;rw[Array.mapM_eq_mapM_toList]
 erw [c]
 rfl
section
variable{P:Kx}{K:aF}
def afb(F:cJ P){φ:Ren}{g:so}{wg:ns}{a:so}{w:ns}{R:rl->Array Obj->Prop}(h:dE P K [] φ g wg a w)(H:Lv P g)(I:iV P R g wg.heap):
  ∃u v v',R v wg.heap/\Ren.le φ u/\VR u v v'/\a.status=.running/\∀d,aiO P.two true a (w.at d)=.ended (.done v') (w.at d) #[]:=by
 obtain⟨fr,bi,J,L,rfl,rfl,ii,x,M,_,_⟩:=h;obtain⟨f0,e0,_⟩:=H
 have y:J=[]:=by exact Ma
 subst y;cases x;obtain⟨fn,v,oN,D,l,m,⟨n,o⟩,N⟩:=I;change fr.mode=.returning at oN;change fr.defers=[] at D;change P.funcs[fr.fn]?=some fn at l
 have f:bi.mode=.returning:=by exact C8
 have Q:bi.defers=[]:=by have hd:=ii.defers;rw[D] at hd;generalize bi.defers=t' at hd;cases hd;rfl
 have z:=ii.kind.2;obtain⟨S,p,j,c,r,_,A,_⟩:=F fr.fn ii.iU;rw[l] at j;cases j;have c:P.two.funcs[bi.fn]?=some p:=by rw[ii.fn];exact c
 have B:results p bi.tmps=results fn bi.tmps:=by unfold results;rw[r]
 obtain⟨v1,s⟩:=MR n fr.tmps;obtain⟨v',t⟩:=MR n bi.tmps
 have ev:v1=v:=by obtain⟨T,e,_⟩:=m wg rfl;change(results fn fr.tmps).run P wg=.ok v T at e;rw[s] at e;cases e;rfl
 subst ev;have C:WR K φ (wg.on (spliced wg w) wg.drawn) w:=⟨M,λi q=>yO wg w i q⟩;have E:=yY (P:=P) (K:=K) fn A ii.tmps;rw[s,t] at E;obtain⟨u,b,V,d,g1,W,_,_,X,_⟩:=E.run #[] C (show(pure v1:Sem rl).run P _=.ok v1 _ from rfl);have Z:b=v':=eg;subst Z;refine⟨u,v1,b,N,X.le,W,rfl,λd=>?_⟩
 have e0:aiO P.two true (G bi ([]++[])) (w.at d)=unwind P.two true bi [] none (w.at d):=by unfold aiO G;dsimp only;rw[f];rfl
 rw[e0];unfold unwind;rw[Q];rw[f];rw[c];dsimp only;rw[B,t];show GStep.after (seen P.two bi.fn #[]) (doReturn P.two true bi [] none b (w.at d))=_;have k:P.two.inits.idxOf? bi.fn=none:=by rw[ii.fn];exact o
 simp only[doReturn,z,GStep.after,k];rfl
end
section
variable{P:Kx}{Sh:Loc->Prop}{Post:rl->ns->Prop}
def Hh(P:Kx)(Sh:Loc->Prop)(Post:rl->ns->Prop)(c:Nat)(m:Machine)(t:ajy):Prop:=
 ∃(b:Array so)(a:so)(w:ns)(sl:Option (Nat×Nat))(q:Nat->Nat),m=crowd b w sl/\b[0]?=some a/\dO P Sh b w t q/\a.status=.running/\
  (∀d,∃v,aiO P true a (w.at d)=.ended (.done v) (w.at d) #[]/\Post v (w.at d))/\c=sumTo b.size q
theorem aaM(E:Nat)(m:Machine)(t:ajy)(h:Hh P Sh Post E m t):
  (∃o w f,stepT P m=(.ended o w,f)/\Go.Conc.Good P Post m o w (t++f))\/(∃F f s,stepT P m=(.next F,f)/\s<E/\Hh P Sh Post s F (t++f)):=by
 obtain⟨y,a,w,sl,q,rfl,h0,hF,c,l,rfl⟩:=h;obtain⟨i,g,d,r,hi,G,u⟩:=crowd_pick (P:=P) (w:=w) (sl:=sl) (hF.awake h0 c) ⟨0,a,h0,c⟩;rcases jE i with rfl|p
 ·obtain rfl:g=a:=by rw[h0] at hi;exact(aL hi).symm
  obtain⟨v,he,I⟩:=l d;have b:=runT_many_ended (P:=P) (sl:=r) (i:=0) hi (show aiO P (0==0) g (w.at d)=_ from he);have J:MemOp.ofEvents 0 g.frame.fn g.frame.place #[]=#[]:=rfl;rw[J] at b;refine .inl ⟨_,_,_,u.trans b,v,rfl,I,by simpa using hF.ct.nr,by simpa using hF.over,⟨λx z=>?_,rfl⟩,λj x z A=>?_⟩
  ·obtain⟨j,A⟩:=List.mem_iff_getElem?.1 z;rw[List.getElem?_drop] at A;exact⟨_,(hF.lv.old (1+j) x aa (by simpa[crowd] using A)).leaves⟩
  ·have hq:=hF.lv.old j x aa z;refine⟨q j,?_⟩;exact hq.hears _
 ·have hq:=hF.lv.old i g p hi;have tB:(i==0)=false:=eO;have aT:=(bF.1 hi).1;cases DP:q i with
  |zero=>rw[DP] at hq;rw[hq.1] at G;cases G
  |succ k=>
   rw[DP] at hq;rcases hq with⟨M,_⟩|⟨_,L,es,hm,AU,B⟩
   ·simp_all
   have b:=runT_crowd_go (P:=P) (sl:=r) (i:=i) hi xW;have C:=hF.Gl (n:=d) hi p hm B
   have D:woken P g L (w.at d) a=a:=by
    unfold woken;split
    ·exact Go.Conc.again_running _ (.inl c)
    ·rfl
   have H:sumTo y.size (ConcN.upd q i k)+(k+1)=sumTo y.size q+k:=by exact C9
   exact .inr ⟨_,_,sumTo y.size (ConcN.upd q i k),u.trans b,aa,_,a,w.at d,r,ConcN.upd q i k,rfl,by rw[Array.getElem?_setIfInBounds_ne aa,Array.getElem?_map,h0,Option.map_some,D],C,c,λe=>l e,aj⟩
def Yt{b:Array so}{a:so}{w:ns}{sl:Option (Nat×Nat)}{t:ajy}{q:Nat->Nat}(h0:b[0]?=some a)(hF:dO P Sh b w t q)(c:a.status=.running)
  (e:∀d,∃v,aiO P true a (w.at d)=.ended (.done v) (w.at d) #[]/\Post v (w.at d)):
  ∃N last o w' f,runNT P (N+1) (crowd b w sl) t=(.ended o w',f)/\runN P N (crowd b w sl)=.next last/\Go.step P last=.ended o w'/\Go.Conc.Good P Post last o w' f:=
 run_of_inv Nat.lt_wfRel.wf (Hh P Sh Post) (Go.Conc.Good P Post) (λg m t h=>aaM g m t h) _ _ _ ⟨b,a,w,sl,q,rfl,h0,hF,c,e,rfl⟩
end
end
end Go.Proofs.Q0.aI
namespace Go.Proofs.Q0.Open
section
open Go.Conc Go.ConcN aI
variable[aE]
structure nh(K:aF)(φ ψ:Ren)(w w':ns):Prop where
 le:Ren.le φ ψ
 io:iK w w'
 size:w.heap.size<=w'.heap.size
 apart:∀c,c<w.heap.size->(∀b,φ b=some c->K.ro b\/K.tok b)->w'.heap[c]?=w.heap[c]?
 j6:∀b c,ψ b=some c->φ b=some c\/w.heap.size<=c
def nh.refl(K:aF)(φ:Ren)(w:ns):nh K φ φ w w:=⟨Ren.le_refl _,.refl _,au _,λ_ _ _=>rfl,λ_ _ h=>.inl h⟩
def nh.trans{K:aF}{φ ψ f:Ren}{a b c:ns}(h:nh K φ ψ a b)(k:nh K ψ f b c):nh K φ f a c:=
 ⟨Ren.le_trans h.le k.le,h.io.trans k.io,aJ h.size k.size,λx g i=>by
  rw[k.apart x (Nat.lt_of_lt_of_le g h.size) λy j=>?_,h.apart x g i];rcases h.j6 y x j with e|e
  ·simp_all
  ·omega,λx y d=>by
  rcases k.j6 x y d with e|e
  ·exact h.j6 x y e
  ·exact .inr (aJ h.size e)⟩
theorem agf(E:Env)(i:vE){K:aF}(y:K.strict=true)(hG:K.G=Gz.prog.globals.size)(z:∀b,E.J.cl b<->K.tok b)
  (hB:@cJ aE.toag Gz.prog)(hC:@dc aE.toag Gz.prog)(hF:@dn aE.toag Gz.prog K){Q:so->Array Obj->Prop}{x:so×ns}(hx:Acc (fp Gz.prog) x):
  ∀(g:Array so)(a:so)(w:ns)(sl:Option (Nat×Nat))(t:ajy)(q:Nat->Nat)(φ:Ren)(Sh:Loc->Prop),bE Gz.prog Q x.1 x.2->@dE aE.toag Gz.prog K [] φ x.1 x.2 a w->dO Tryz.prog Sh g w t q->g[0]?=some a->kF Sh φ->
   ∃N f a' w' A t' q' ψ g' j B,runNT Tryz.prog N (crowd g w sl) t=(.next (crowd f w' A),t')/\f[0]?=some a'/\dO Tryz.prog B f w' t' q'/\bE Gz.prog Q g' j/\Lv Gz.prog g'/\@dE aE.toag Gz.prog K [] ψ g' j a' w'/\nh K φ ψ w w':=by
 induction hx with
 |intro x _ ih=>
  intro g a w sl t q φ Sh hW hD C ha D;obtain⟨N1,qQ,a1,w1,I2,t1,q1,k,g1,U3,r1,z1,e1,f1,F,H,d,pl,l,I,L⟩:=Yj (Sh:=Sh) hB hC E.Tc hG hF (x:=x) hW.acc (sumTo g.size q) g a w sl t q φ (au _) hW hD (by rw[aE.two];exact C) ha D;rw[aE.two] at r1 f1;have M:nh K φ k w w1:=⟨d.le,⟨d.os,d.out⟩,d.size,λc hc h=>d.apart c hc h,λb c hb=>(d.fresh b c hb).imp_right λh=>h.2⟩;rcases I with hl|hA
  ·grind
  ·obtain⟨N2,P,a2,w2,R,t2,q2,m,g2,n,S,r2,e2,f2,o,T,V,W,p,r,s,u,v,_⟩:=aeY i y hG z hA F L f1 e1 l;have X:nh K k m w1 w2:=⟨p,r,s,λc hc _=>u c hc,v⟩
   have hN:fp Gz.prog (g2,n) x:=by
    rcases H with e|h
    ·grind
    ·exact V.trans h
   obtain⟨N3,Z,a3,w3,sl3,t3,q3,ψ3,g3,wg3,Sh3,r3,e3,f3,qP,wP,hD3,hk3⟩:=ih (g2,n) hN P a2 w2 R t2 q2 m S T W f2 e2 o;refine⟨N1+(N2+N3),Z,a3,w3,sl3,t3,q3,ψ3,g3,wg3,Sh3,?_,e3,f3,qP,wP,hD3,(M.trans X).trans hk3⟩;rw[runNT_add,r1];show runNT _ (N2+N3) _ _=_;rw[runNT_add,r2];exact r3
def aec{a:so}{w:ns}:dO Tryz.prog (λ_=>False) #[a] w #[] (λ_=>0):=by
 have he:∀i x,touchAt (#[]:ajy) i=some x->False:=λi x h=>by simp[touchAt,Trace.act?] at h
 exact⟨leavers_one _ _,⟨λi op x hi=>by simp at hi,λk _ _ l h=>h.elim,λk _ _ l h=>h.elim,λl _ _ i a b=>(he i a b).elim,λl _ _ i a b=>(he i a b).elim,past_nil.clean,λi op hi=>by simp at hi⟩,aj,λi x c=>(he i x c).elim,past_nil.over,rfl,aj,λ_ h=>h.elim⟩
end
end Go.Proofs.Q0.Open
