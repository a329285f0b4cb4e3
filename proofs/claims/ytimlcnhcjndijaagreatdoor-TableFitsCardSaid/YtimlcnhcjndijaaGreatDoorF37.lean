/- Parts of a proof. No condition. -/
import Derived.Test.YtimlcnhcjndijaaGreatDoorF36
set_option linter.all false
set_option maxRecDepth 100000
set_option maxHeartbeats 12800000
namespace Go.Proofs.YtimlcnhcjndijaaGreatDoor
open Go renaming World->WD,Value->VL,Calls->CS
open Go.RowKit renaming Below->BW
open Go.Proofs.Tryz
section
open Go.RowKit Go.Maps Go.Lib
variable {w0 w w':WD} {T T':Tv}
def Dk.uq (h:Dk w0 T w) {j:Nat×aj} (a:j∈T.js):∃ k,Ig T.vs T.pl.ab.length k j.2.pl:=by
 obtain ⟨k,b⟩:=Dg a
 have:T.pl.ab[k]?=some j.2.pl:=by show (T.js.map fun j=>j.2.pl)[k]?=_;simp [b]
 exact ⟨k,h.ie.all k _ this⟩
def Dk.rows (h:Dk w0 T w):(∀ j,j∈T.js->Ab4 j.2)/\(∀ j,j∈T.js->Aje j.2)/\T.js.length<=100:=by
 have i:∀ j,j∈T.js->j.2.sn<=160/\j.2.gn<=16/\j.2.pn<=1000/\mg j.2.pl.sp.cq 1099511627776:=fun j f=>by
  obtain ⟨k,g⟩:=h.uq f;have ok:=h.tab.ok j f;have p:=ok.after.row.len;have r:=ok.ak.row.len;have s:=Jt ok.parts;have t:=g.sh;have u:=Akb g.toFm;obtain ⟨_,_,l,_,o,_⟩:=G6 (Jl g.gg);obtain ⟨_,m⟩:=I9.1 o;have m:j.2.pl.sp.nodes<=16:=m
  have n:j.2.pl.ak.length<=16:=by
   by_cases q:j.2.pl.start<0
   .rw [g.ux q];simp
   .have:=(g.ak (by omega)).1.len;omega
  refine ⟨by omega,by omega,by omega,?_⟩;have l:j.2.pl.sp.cq.right=true:=(Z4.1 l).1;have:=Pl.Fh.1 l;unfold mg;omega
 refine ⟨fun j f=>?_,fun j f=>?_,?_⟩
 .obtain ⟨a,b,c,_⟩:=i j f;exact ⟨by omega,by omega,by omega⟩
 .obtain ⟨_,_,c,d⟩:=i j f;exact ⟨d,c⟩
 .have:=h.ie.len;have e:T.pl.ab.length=T.js.length:=by simp [Tv.pl]
  omega
def Ayj (vs:List au):Fo vs ⟨0,-1,[],List.replicate vs.length j8,[]⟩:=by
 refine ⟨fun k j b=>by simp at b,by simp,⟨Cz 0,by show (0:Int)<=1099511627776;decide⟩,⟨Cz _,by show (-1:Int)<1099511627776;decide⟩,by simp,fun n a=>?_,by simp,fun p c=>by simp at c⟩;have a:n∈List.replicate vs.length j8:=a;rw [(Vc.1 a).2];decide
def Akp {a f d:Nat} {vs:List au} (o:ju w a f d vs) (c:Iq vs):CS prog 14 #[.pointer (some ⟨a,0,none⟩)] w fun e w'=>∃ T:Tv,e=.returned (.pointer (some ⟨T.tb,0,none⟩))/\Dk w T w'/\T.vs=vs/\T.pl=⟨0,-1,[],List.replicate vs.length j8,[]⟩/\T.fb=a/\T.fm=f/\T.fl=d/\T.js=[]/\BW w.heap.size w w':=
 (Aay o c).mono fun e w' h=>by
  obtain ⟨T,n,q,i,p,h1,k,l,g,b⟩:=h;have m:(T.js.map fun j=>j.2.pl)=[]:=by have:=Ca du.ab b;exact this
  exact ⟨T,n,⟨q,p,i,by rw [g,b];exact Ayj vs⟩,g,b,h1,k,l,by simpa using m,i⟩
def Yg (x:cz) (h:Dk w0 T w) (f:x.ok w) (d:∀ g,Mod T.aw w g->Jw g x.so x.m x.de) (a:x.n.kind=6->T.js.length<=20) {t':du} {c:Cl} {r:Int} (b:Sy T.vs T.pl x.pl->Eo T.vs T.pl x.pl=(t',c,r)) :
  CS prog 15 #[.pointer (some ⟨T.tb,0,none⟩),x.val] w fun e w'=>∃ T':Tv,e=.returned (.tuple #[Gv c,.int .i64 r])/\Dk w0 T' w'/\T'.pl=t'/\Ed w T T' w':=
 (Ako x h f d a).mono fun e w' o=>by
  obtain ⟨T',j,h1,i,k,l⟩:=o;rw [b l] at j i;exact ⟨T',j,h1,i,k⟩
def Akq (h:Dk w0 T w) {k:Nat} {jp:Jb} (a:T.pl.ab[k]?=some jp) (d:Int) (m:d=(k:Int)+1) :
  CS prog 16 #[.pointer (some ⟨T.tb,0,none⟩),.int .i64 d] w fun e w'=>∃ y:aj,e=.returned (.tuple #[y.val,.bool true])/\y.pl=jp/\BW w.heap.size w w':=
 (Awb h.tab h.rows.1 d).mono fun e w' n=>by
  obtain ⟨i,⟨f,_⟩ | ⟨g,j,y,o,b,l,f⟩⟩:=n
  .have:k<T.js.length:=by have:=(Ao.1 a).1;simpa [Tv.pl] using this
   omega
  .have c:g=k:=(by omega);subst c;have a:(T.js.map fun j=>j.2.pl)[g]?=some jp:=a;rw [Bh,b] at a;injection a with a;exact ⟨y,l,by rw [f.pl];exact a,i⟩
def Akr (h:Dk w0 T w) (node:Int):CS prog 17 #[.pointer (some ⟨T.tb,0,none⟩),.int .i64 node] w fun e w'=>e=.returned (L5 T.pl.ab node).val/\BW w.heap.size w w':=
 Awf h.tab h.rows.2.1 (by have:=h.rows.2.2;omega) node
def Ach (n:cu) (w:WD) (a:∀ i,-9223372036854775808<=n.get i/\n.get i<=9223372036854775807):(⟨n,none,0,0,[]⟩:cz).ok w:=⟨⟨rfl,Aq _,fun i x b=>by simp at b⟩,Nat.le_refl _,a⟩
def Aci (W:WD):Jw W none 0 []:=⟨rfl,by decide,fun i x a=>by simp at a⟩
end
section
open Go.RowKit Go.Maps Go.Lib
def An.tx {w w':WD} {T:Tv} (h:An w T) {b:Nat} {c:Array VL} {g:TypeId} (p:w.heap[b]?=some (.cells c g (0,0))) (f:Mod (fun k=>k=b) w w') (h1:g≠115) (n:g≠119) (u:g≠125) (v:g≠46) (x:g≠65) (y:g≠30)
  (hj:T.js=[]) (hl:b<T.fb/\b<T.fm/\b<T.fl):An w' T:=by
 have hn:=h.off p h1 n u v x;have m:∀ k,T.aw k->k≠b:=fun k c e=>hn (e▸c)
 have no:∀ {P:Nat×aj->Prop} j,j∈T.js->P j:=fun j l=>by rw [hj] at l;cases l
 refine ⟨f.ar h.head (m _ (.inl rfl)),h.cls.mod f (m _ (.inr (.inl rfl))),A7 h.nodes f (fun k e=>m k (.inr (.inr (.inl e)))),A7 h.ab f (fun k e=>m k (.inr (.inr (.inr (.inl e))))),
  A7 h.ax f (fun k e c=>?_),no,no,h.one,h.two,?_,h.same⟩
 .subst c;exact Bo h.ax p y.symm e
 .obtain ⟨a,s,i,t⟩:=h.dh.ex
  have q:∀ k,k<a.heap.size->(w'.heap.extract 0 a.heap.size)[k]?=w'.heap[k]?:=fun k d=>by
   have h1:=i.size;have n:=f.size;rw [Array.getElem?_extract,Ad (by omega),Da]
  have hs:(w'.heap.extract 0 a.heap.size).size=a.heap.size:=by have h1:=i.size;have n:=f.size;simp;omega
  refine ⟨⟨{ w' with heap:=w'.heap.extract 0 a.heap.size },?_,⟨rfl,rfl,rfl,?_,fun k d=>?_⟩,fun k d=>?_⟩,h.dh.ok⟩
  .refine s.other (by show _<=(w'.heap.extract 0 a.heap.size).size;omega) fun k o r z=>?_;have d:=(Q7.1 r).1;show (w'.heap.extract 0 a.heap.size)[k]?=some o;rw [q k d,f.block k (Bx d i.size) (by rcases z with c | c | c<;>omega),i.block k d];exact r
  .show (w'.heap.extract 0 a.heap.size).size<=_;have h1:=i.size;have n:=f.size;omega
  .have d:k<(w'.heap.extract 0 a.heap.size).size:=d;exact (q k (by omega)).symm
  .show (w'.heap.extract 0 a.heap.size).size<=k;have:=t k d;omega
def S1:VL:=.agg #[.slice none 0 0,.int .i64 0,.int .i64 0,.slice none 0 0,.slice none 0 0,.slice none 0 0]
def Ayn (w:WD) (e:Ending) (w':WD):Prop:=
 (e=.returned (.tuple #[.pointer none,S1,.bool false])/\BW w.heap.size w w') \/
 ∃ (T:Tv) (xs:List aq) (fo:Option Addr) (fn fc:Nat) (so:Option Addr) (n c:Nat),e=.returned (.tuple #[.pointer (some ⟨T.tb,0,none⟩),.agg #[.slice fo fn fc,.int .i64 0,.int .i64 (-1),.slice none 0 0,.slice so n c,.slice none 0 0],.bool true]) /\
  Dk w T w'/\T.pl=⟨0,-1,[],List.replicate T.vs.length j8,[]⟩/\ib w' 0 (.slice fo fn fc) xs/\xs.map aq.pl=T.vs/\Iq T.vs
def Dk.back {d w1 w:WD} {T:Tv} (h:Dk w1 T w) (a:BW d.heap.size d w1):Dk d T w:=⟨h.tab,fun b c=>A5 a.size (h.aw b c),a.trans (h.low.mono a.size),h.ie⟩
def Aks {W:WD} {base:Nat} {a:VL} {xs:List aq} (h:ib W base a xs):∃ d c,a=.slice d xs.length c:=by
 rcases h.row.2 with ⟨e,h0⟩ | ⟨g,cap,b,e,_⟩
 .exact ⟨none,0,by rw [h0,<- e]⟩
 .exact ⟨_,_,e⟩
def Ayo {W:WD} {base:Nat} {a:VL} {xs:List aq} (h:ib W base a xs):ib W 0 a xs:=⟨Aef h.row (Aq _),h.ok⟩
def Dk.nj {w a:WD} {T:Tv} {cs:Array VL} (h:Dk w T a) (l:a.heap[w.heap.size]?=some (.cells cs 59 (0,0))) (m:T.js=[]) (n:w.heap.size<T.fb/\w.heap.size<T.fm/\w.heap.size<T.fl) (c d f g i j:VL) :
  Dk w T ((((((a.setCell ⟨w.heap.size,0,none⟩ c).setCell ⟨w.heap.size,1,none⟩ d).setCell ⟨w.heap.size,2,none⟩ f).setCell ⟨w.heap.size,3,none⟩ g).setCell ⟨w.heap.size,4,none⟩ i).setCell ⟨w.heap.size,5,none⟩ j):=by
 have b:=((((((Mod.refl (fun k=>k=w.heap.size) a).set _ 0 c rfl).set _ 1 d rfl).set _ 2 f rfl).set _ 3 g rfl).set _ 4 i rfl).set _ 5 j rfl;exact ⟨h.tab.tx l b (by decide) (by decide) (by decide) (by decide) (by decide) (by decide) m n,h.aw,h.low.trans (b.below h.low.size fun k e=>by omega),h.ie⟩
def ib.nj {w a:WD} {g:VL} {xs:List aq} {cs:Array VL} (h:ib a 0 g xs) (b:a.heap[w.heap.size]?=some (.cells cs 59 (0,0))) (i j k l m p:VL) :
  ib ((((((a.setCell ⟨w.heap.size,0,none⟩ i).setCell ⟨w.heap.size,1,none⟩ j).setCell ⟨w.heap.size,2,none⟩ k).setCell ⟨w.heap.size,3,none⟩ l).setCell ⟨w.heap.size,4,none⟩ m).setCell ⟨w.heap.size,5,none⟩ p) 0 g xs:=by
 have s:∀ {W:WD} {cs:Array VL} (o:Nat) (v:VL),W.heap[w.heap.size]?=some (.cells cs 59 (0,0))->(W.setCell ⟨w.heap.size,o,none⟩ v).heap[w.heap.size]?=some (.cells (cs.setIfInBounds o v) 59 (0,0)):=fun o v h=>Am h o v;have c:=s 0 i b;have d:=s 1 j c;have e:=s 2 k d;have f:=s 3 l e;have n:=s 4 m f;exact Qa (Qa (Qa (Qa (Qa (Qa h b (by decide) (by decide)) c (by decide) (by decide)) d (by decide) (by decide)) e (by decide) (by decide)) f (by decide) (by decide)) n (by decide) (by decide)
def Ayp (s:ByteArray) (w:WD) (hm:Mx w):CS prog 18 #[.string s] w (Ayn w):=by
 obtain ⟨W0,r⟩:=Ex (w.alloc (.cells #[.slice none 0 0,.int .i64 0,.int .i64 0,.slice none 0 0,.slice none 0 0,.slice none 0 0] 59));have b0:BW w.heap.size w W0:=by rw [r];exact Bn
 have al:W0.heap[w.heap.size]?=some (.cells #[.slice none 0 0,.int .i64 0,.int .i64 0,.slice none 0 0,.slice none 0 0,.slice none 0 0] 59 (0,0)):=by rw [r];exact Ah _ _
 have aE:W0.heap.size=w.heap.size+1:=by rw [r];simp
 have kr:=Ad5 s W0 (hm.low b0)
 have k:Iq (Ej s).1:=by
  unfold Ej;split
  .exact Wg
  .exact Zx _ [] Wg
 replace ⟨b0,al,kr,hm,aE,k⟩:=H6 b0 al kr hm aE k;go_enter func18,ntmps18;go_upto_region 1 with fail;rw [<- r];clear r;go_wp2_with fail;refine kr.mono ?_;intro e w1 h1;obtain ⟨p,rfl,b1,hc⟩:=h1;have a:=Ae b1 al.out (Ab al.out);have d:=b0.trans (b1.mono b0.size);obtain ⟨e2,i⟩:=Ex ((Ej s).2.2);rw [<- i];by_cases u:(Ej s).2.1=0;rotate_left
 .obtain ⟨e1,ap⟩:=Ex ((Ej s).2.1);rw [<- ap] at u ⊢;have d1:(e1 != 0)=true:=by simpa using u
  have r0:=Bk a 0 (.slice none 0 0) rfl;have r1:=Bk a 1 (.int .i64 0) rfl;have r2:=Bk a 2 (.int .i64 0) rfl;have r3:=Bk a 3 (.slice none 0 0) rfl;have r4:=Bk a 4 (.slice none 0 0) rfl;have r5:=Bk a 5 (.slice none 0 0) rfl;have fr:=Af a;clear u;replace ⟨b1,hc,a,d,ap,i⟩:=H6 b1 hc a d ap i;go_wp2_with fail;refine Ak (v:=.tuple #[.pointer none,S1,.bool false]) (by simp [results,results18,go_sem,r0,r1,r2,r3,r4,r5,S1]) rfl (.inl ⟨rfl,?_⟩);exact Ee (Ee (Ee (Ee (Ee (Ee d.out Ln) Ln) Ln) Ln) Ln) Ln
 have kx:=Ano s w1;unfold Wi at kx;rw [u] at hc kx ⊢;by_cases aH:2000<s.size
 .have d1:decide ((2000:Int)<s.size)=true:=Av (by omega);have r0:=Bk a 0 (.slice none 0 0) rfl;have r1:=Bk a 1 (.int .i64 0) rfl;have r2:=Bk a 2 (.int .i64 0) rfl;have r3:=Bk a 3 (.slice none 0 0) rfl;have r4:=Bk a 4 (.slice none 0 0) rfl;have r5:=Bk a 5 (.slice none 0 0) rfl;have fr:=Af a;replace ⟨b1,hc,a,d,u,i,kx⟩:=H7 b1 hc a d u i kx;go_wp2_with fail;refine Ak (v:=.tuple #[.pointer none,S1,.bool false]) (by simp [results,results18,go_sem,r0,r1,r2,r3,r4,r5,S1]) rfl (.inl ⟨rfl,?_⟩);exact Ee (Ee (Ee (Ee (Ee (Ee d.out Ln) Ln) Ln) Ln) Ln) Ln
 have d1:decide ((2000:Int)<s.size)=false:=Ax (by omega)
 obtain ⟨hf,rfl⟩:ju w1 (W0.heap.size+4) (W0.heap.size+3) (W0.heap.size+7) (Ej s).1/\p=some ⟨W0.heap.size+4,0,none⟩:=by
  rcases hc with ⟨c,_⟩ | ⟨_,c,hf⟩
  .exact absurd rfl c
  .exact ⟨hf,c⟩
 clear hc;replace ⟨b1,a,d,u,i,kx,hf,aH⟩:=H8 b1 a d u i kx hf aH;go_wp2_with fail;refine kx.mono ?_;intro e w2 h2;obtain ⟨nv,xs,rfl,b2,o,aC⟩:=h2;obtain ⟨fo,fc,rfl⟩:=Aks o;obtain ⟨fn,ad⟩:=Ex (xs.length);rw [<- ad] at o ⊢;have am:=Ae b2 a.out (Ab a.out);replace ⟨b2,o,aC,am,ad⟩:=H5 b2 o aC am ad;go_upto_region 5 with fail;obtain ⟨q,y⟩:=Ex (w2.heap.size);obtain ⟨z,ac⟩:=Ex (w2.alloc (.cells #[.slice fo fn fc] 54 (0,0)));have b3:BW w2.heap.size w2 z:=by rw [ac];exact Bn
 have l:z.heap[q]?=some (.cells #[.slice fo fn fc] 54 (0,0)):=by rw [ac,y];exact Ah _ _
 have a:=Ae b3 am.out (Ab am.out);have f:=d.trans ((b2.trans (b3.mono b2.size)).mono d.size);have av:=(hf.below b2.out).below b3;have ao:=Ayo (o.below b3);have x:=k.out;have m:=aC (by first | trivial | exact u.out);have j:fn<=4096:=by have h1:=x.len;have h2:=Ca List.length m;rw [At] at h2;have h3:=ad.out;omega
 rw [<- ac,<- y];clear ac y
 have aF:∀ W,BW z.heap.size z W->CS prog 14 #[.pointer (some ⟨W0.heap.size+4,0,none⟩)] W fun e w'=>∃ T:Tv,e=.returned (.pointer (some ⟨T.tb,0,none⟩))/\Dk w T w'/\T.vs=(Ej s).1/\T.pl=⟨0,-1,[],List.replicate T.vs.length j8,[]⟩/\(w.heap.size<T.fb/\w.heap.size<T.fm/\w.heap.size<T.fl)/\T.js=[]/\BW W.heap.size W w':=fun W hW=>
  (Akp (av.below hW) x).mono fun e w' h=>by
   obtain ⟨T,u,hP,h1,h2,h3,h4,h5,h6,h7⟩:=h;have:=aE.out;exact ⟨T,u,hP.back (f.trans (hW.mono f.size)),h1,by rw [h2,h1],by omega,h6,h7⟩
 have aG:=fun W=>Aym fo fn fc j W;have b:=Below.refl z.heap.size z;have x0:=Bk l 0 (.slice fo fn fc) rfl;have r0:=Bk a 0 (.slice none 0 0) rfl;have r1:=Bk a 1 (.int .i64 0) rfl;have r2:=Bk a 2 (.int .i64 0) rfl;have r3:=Bk a 3 (.slice none 0 0) rfl;have r4:=Bk a 4 (.slice none 0 0) rfl;have r5:=Bk a 5 (.slice none 0 0) rfl;have fr:=Af a;replace ⟨b3,l,a,f,av,ao,x,m⟩:=H8 b3 l a f av ao x m;replace ⟨j,aF,aG,b⟩:=H4 j aF aG b
 go_region_with (first
  | (go_at_call 14
     with_reducible refine (aF.out _ (by first | exact b.out | exact b.out.drew)).mono ?_
     rintro e wa ⟨T,rfl,hP,an,aD,aB,aA,t⟩;have y:=t.mono b.size
     replace b:Hid (BW z.heap.size z wa):=by first | exact Hh (b.trans y) | exact Hh (b.drew.trans y)
     clear y r0 r1 r2 r3 r4 r5 fr x0;have a:=Ae t a.out (Ab a.out);have l:=Ae t l.out (Ab l.out);have x0:=Bk l 0 (.slice fo fn fc) rfl;have r0:=Bk a 0 (.slice none 0 0) rfl;have r1:=Bk a 1 (.int .i64 0) rfl;have r2:=Bk a 2 (.int .i64 0) rfl;have r3:=Bk a 3 (.slice none 0 0) rfl;have r4:=Bk a 4 (.slice none 0 0) rfl;have r5:=Bk a 5 (.slice none 0 0) rfl;have fr:=Af a;replace ⟨hP,an,aD,aB,aA,t,a,l⟩:=H8 hP an aD aB aA t a l
     skip)
  | (go_at_call 48
     with_reducible refine (aG.out _).mono ?_
     rintro e wb ⟨so,n,c,rfl,g⟩;have y:=g.mono b.size
     (try (replace hP:Hid (Dk w T wb):=by first | exact Hh (hP.drop g) | exact Hh ((hP.drop (Below.refl _ _).drew).drop g)))
     replace b:Hid (BW z.heap.size z wb):=by first | exact Hh (b.trans y) | exact Hh (b.drew.trans y)
     clear y r0 r1 r2 r3 r4 r5 fr x0;have a:=Ae g a.out (Ab a.out);have l:=Ae g l.out (Ab l.out);have x0:=Bk l 0 (.slice fo fn fc) rfl;have r0:=Bk a 0 (.slice none 0 0) rfl;have r1:=Bk a 1 (.int .i64 0) rfl;have r2:=Bk a 2 (.int .i64 0) rfl;have r3:=Bk a 3 (.slice none 0 0) rfl;have r4:=Bk a 4 (.slice none 0 0) rfl;have r5:=Bk a 5 (.slice none 0 0) rfl;have fr:=Af a;replace ⟨g,a,l⟩:=H3 g a l
     skip))
 all_goals
  go_wp2_with fail;refine Ak (v:=.tuple #[.pointer (some ⟨T.tb,0,none⟩),.agg #[.slice fo fn fc,.int .i64 0,.int .i64 (-1),.slice none 0 0,.slice so n c,.slice none 0 0],.bool true]) (by simp [results,results18,go_sem,r0,r1,r2,r3,r4,r5]) rfl (.inr ⟨T,xs,fo,fn,fc,so,n,c,rfl,hP.nj a.out aA.out aB.out _ _ _ _ _ _,aD.out,(ao.below b.out).nj a.out _ _ _ _ _ _,?_,?_⟩)
  .rw [m.out,an.out]
  .rw [an.out];exact x.out
def ei (i:Int) (j:Jb):Nat:=(j.parts.filter fun p=>decide (p.1=i) && decide (p.2=0)).length
def Gy (n:Nat) (v:V4):V4:=⟨n*v.a,n*v.b,n*v.c,n*v.d⟩
def Ay1 {α:Type} (l:List α) (d:V4):∀ v:V4,l.foldl (fun (v:V4) _=>(⟨v.a+d.a,v.b+d.b,v.c+d.c,v.d+d.d⟩:V4)) v=Pl.As v (Gy l.length d):=by
 induction l with
 | nil=>intro v;simp [Pl.As,Gy]
 | cons x xs ih=>
  intro v;rw [Rh,ih]
  have e:∀ a:Int,((xs.length+1:Nat):Int)*a=a+(xs.length:Int)*a:=fun a=>by
   rw [Int.natCast_add,Int.add_mul];omega
  simp only [Pl.As,Gy,Il,e,V4.mk.injEq];omega
def Ay2 (i:Int) (j:Jb) (v:V4):Rw i j v=Pl.As v (Gy (ei i j) j.sp.cq):=Ay1 _ _ _
def Eu:List V4->V4
 | []=>V4.zero
 | x :: xs=>Pl.As x (Eu xs)
def Cd (i:Int) (j:Jb):V4:=Gy (ei i j) j.sp.cq
def Ack (js:List Jb) (i:Int):L5 js i=Eu (js.map (Cd i)):=by
 have a:∀ (js:List Jb) (v:V4),js.foldl (fun v j=>Rw i j v) v=Pl.As v (Eu (js.map (Cd i))):=fun js=>by
  induction js with
  | nil=>intro v;exact (Pl.Og v).symm
  | cons j js ih=>intro v;rw [Rh,ih,Ay2,Pl.Sh];rfl
 exact (a js _).trans (Pl.Uc _)
def Pw {a b c d:V4} (h:a.leq b) (k:c.leq d):(Pl.As a c).leq (Pl.As b d):=by
 simp only [V4.leq,Pl.As] at *;omega
def U0 {a b c:V4} (h:a.leq b) (k:b.leq c):a.leq c:=by
 simp only [V4.leq] at *;omega
def Lp (a:V4):a.leq a:=by
 simp only [V4.leq];omega
def Akz {m n:Nat} {v:V4} (h:m<=n) (g:V4.zero.leq v):(Gy m v).leq (Gy n v):=by
 have e:∀ a:Int,0<=a->(m:Int)*a<=(n:Int)*a:=fun a f=>Int.mul_le_mul_of_nonneg_right (by omega) f;obtain ⟨h1,b,c,d⟩:=Pl.Ph.1 g;exact ⟨e _ h1,e _ b,e _ c,e _ d⟩
def Acl (v:V4):Gy 0 v=V4.zero:=by simp [Gy,V4.zero]
def Ay3 (v:V4):Gy 1 v=v:=by simp [Gy]
def De (a b:Jb):Prop:=a.sp.cq=b.sp.cq/\∀ i,ei i a<=ei i b
def De.refl (a:Jb):De a a:=⟨rfl,fun _=>Nat.le_refl _⟩
def De.trans {a b c:Jb} (h:De a b) (k:De b c):De a c:=⟨h.1.trans k.1,fun i=>A5 (h.2 i) (k.2 i)⟩
def Ak0 {a b:Jb} (h:a.sp=b.sp) (e:a.parts=b.parts):De a b:=⟨by rw [h],fun i=>by unfold ei;rw [e];exact Nat.le_refl _⟩
def Ak1 {a b:Jb} (h:a.sp=b.sp) (e:a.parts=[]):De a b:=⟨by rw [h],fun i=>by unfold ei;rw [e];exact Aq _⟩
structure B5 (a b:List Jb):Prop where
 len:b.length<=a.length
 each:∀ (k:Nat) (x:Jb),a[k]?=some x->(∃ y,b[k]?=some y/\De x y)\/(b[k]?=none/\∀ i,ei i x=0)
def B5.refl (a:List Jb):B5 a a:=⟨Nat.le_refl _,fun _ x b=>.inl ⟨x,b,De.refl x⟩⟩
def B5.trans {a b c:List Jb} (h:B5 a b) (k:B5 b c):B5 a c:=by
 refine ⟨A5 k.len h.len,fun n x g=>?_⟩;rcases h.each n x g with ⟨y,j,f⟩ | ⟨e,h0⟩
 .rcases k.each n y j with ⟨z,l,d⟩ | ⟨e,h0⟩
  .exact .inl ⟨z,l,f.trans d⟩
  .exact .inr ⟨e,fun i=>by have:=f.2 i;have:=h0 i;omega⟩
 .refine .inr ⟨?_,h0⟩;rw [Yn] at e ⊢;have:=k.len;omega
def B5.modify (l:List Jb) (k:Nat) {f:Jb->Jb} (b:∀ j,De (f j) j):B5 (l.modify k f) l:=by
 refine ⟨by rw [Jp];exact Nat.le_refl _,fun n x a=>?_⟩;rw [Ev] at a
 cases hl:l[n]? with
 | none=>rw [hl] at a;cases a
 | some y=>
  rw [hl] at a;have a:some (if k=n then f y else y)=some x:=a;injection a with a;refine .inl ⟨y,rfl,?_⟩;by_cases e:k=n
  .rw [Ad e] at a;rw [<- a];exact b y
  .rw [Ac e] at a;rw [<- a];exact De.refl y
def B5.map (l:List Jb) {f:Jb->Jb} (b:∀ j,De (f j) j):B5 (l.map f) l:=by
 refine ⟨by rw [At];exact Nat.le_refl _,fun n x a=>?_⟩;rw [Bh] at a;obtain ⟨y,c,rfl⟩:=Nq.1 a;exact .inl ⟨y,c,b y⟩
def B5.snoc {a b:List Jb} (h:B5 a b) {x:Jb} (e:x.parts=[]):B5 (a++[x]) b:=by
 refine ⟨by rw [Cn];have:=h.len;omega,fun n y d=>?_⟩;by_cases c:n<a.length
 .rw [E5 c] at d;exact h.each n y d
 .rw [Gc (by omega)] at d;have h0:n-a.length=0:=by have:=(Ao.1 d).1;simp at this;omega
  rw [h0] at d;injection d with d;subst d;refine .inr ⟨?_,fun i=>by unfold ei;rw [e];rfl⟩;rw [Yn];have:=h.len;omega
def Yh (i:Int):∀ (b a:List Jb),B5 a b->(∀ j,j∈b->V4.zero.leq j.sp.cq)->(Eu (a.map (Cd i))).leq (Eu (b.map (Cd i)))
 | [],[],_,_=>Lp _
 | [],x :: a,h,hd=>by
  have h0:∀ i,ei i x=0:=by
   rcases h.each 0 x rfl with ⟨y,d,_⟩ | ⟨_,c⟩
   .cases d
   .exact c
  have f:=Yh i [] a ⟨Aq _,fun k y d=>.inr ⟨rfl,by
   rcases h.each (k+1) y d with ⟨y,d,_⟩ | ⟨_,c⟩
   .cases d
   .exact c⟩⟩ hd
  show (Pl.As (Cd i x) (Eu (a.map (Cd i)))).leq _;unfold Cd;rw [h0 i,Acl,Pl.Uc];exact f
 | y :: b,[],h,_=>absurd h.len (by simp)
 | y :: b,x :: a,h,hd=>by
  have g:De x y:=by
   rcases h.each 0 x rfl with ⟨z,e,c⟩ | ⟨c,_⟩
   .injection e with e;rw [e];exact c
   .cases c
  have f:=Yh i b a ⟨by have:=h.len;simpa using this,fun k z e=>h.each (k+1) z e⟩ fun j l=>hd j (Ce _ l);refine Pw ?_ f;unfold Cd;rw [g.1];exact Akz (g.2 i) (hd y Dl)
def Ay4 {a b:List Jb} (h:B5 a b) (c:∀ j,j∈b->V4.zero.leq j.sp.cq) (i:Int):(L5 a i).leq (L5 b i):=by
 rw [Ack,Ack];exact Yh i b a h c
def Acm (j:Jb) (s:Int):De (j.move s) j:=Ak0 rfl rfl
def Acn (j:Jb):De j.bare j:=Ak0 rfl rfl
def Ay5 (js:List Jb) (k:Nat):B5 (Fr js k) js:=by
 unfold Fr;split
 .exact B5.modify _ _ fun j=>(Acn _).trans (Acm j 7)
 .exact B5.refl _
def Aco (js:List Jb):∀ n,B5 (Cf js n).1 js
 | 0=>B5.refl _
 | n+1=>(Ay5 _ n).trans (Aco js n)
def Ak2:∀ (n:Nat) (js:List Jb),B5 (Kd n js) js
 | 0,js=>B5.refl _
 | n+1,js=>by
  unfold Kd;split
  .exact (Ak2 n _).trans (Aco js _)
  .exact Aco js _
def Acp (js:List Jb):B5 (Dj js) js:=Ak2 _ _
def Ay6 (j:Jb):De (Dq j) j:=by
 unfold Dq;split
 .exact De.refl _
 split
 .exact Ak1 rfl rfl
 .exact Ak1 rfl rfl
def Acq (js:List Jb):B5 (Gk js) js:=(Acp _).trans (B5.map _ Ay6)
def Ak3 {P:Int×Int->Bool} {f:Int×Int->Int×Int} (a:∀ p,P (f p)=false):∀ (l:List (Int×Int)) (k:Nat),((l.modify k f).filter P).length<=(l.filter P).length
 | [],k=>by simp
 | p :: l,0=>by
  have e:(f p :: l).filter P=l.filter P:=by rw [Nv,a p];rfl
  show ((f p :: l).filter P).length<=_;rw [e,Nv];split
  .exact Dx _
  .exact Nat.le_refl _
 | p :: l,k+1=>by
  show ((p :: l.modify k f).filter P).length<=_;have:=Ak3 a l k;rw [Nv,Nv];by_cases c:P p=true
  .rw [Ad c,Ad c];exact Nat.succ_le_succ this
  .rw [Ac c,Ac c];exact this
def Ak4 (j:Jb) (k:Nat) {a:Int} (h:a≠0):De (Fb j k a) j:=⟨rfl,fun i=>Ak3 (fun p=>by simp [h]) _ _⟩
def Ak5 (j:Jb) (a:Int):∀ n,De (G5 j a n) j
 | 0=>De.refl _
 | n+1=>by
  refine De.trans ?_ (Ak5 j a n);show De (M3 (G5 j a n) n a) _;unfold M3;split
  .exact De.refl _
  split
  .exact Ak4 _ _ (by decide)
  .exact De.refl _
def Ak6 (j:Jb) (a:Int):De (Fc j a) j:=Ak5 j a _
def Ay7 (tick:Int) (js:List Jb):B5 (Cs tick js) js:=(Acq _).trans (B5.map _ fun j=>by
 unfold G9;split
 .exact Ak6 j _
 .exact De.refl _)
def Ay8 (s:Int) (j:Jb):De (J0 s j) j:=by
 unfold J0;split
 .exact Acm j s
 .exact (Acn _).trans (Acm j s)
def Ay9 {e:cu} (h:e.bm≠0) (j:Jb):De (J1 e j) j:=by
 unfold J1;split
 .exact De.refl _
 .exact Ak4 _ _ h
def Ak7 (s:dn) (a:List Int) (js:List Jb):∀ n,B5 (Iu s a js n) js
 | 0=>B5.refl _
 | n+1=>(Ak7 s a js n).snoc rfl
def Ak8:∀ (l:List (dn×List Int)) (js:List Jb),B5 (El l js) js
 | [],_=>B5.refl _
 | _ :: l,_=>(Ak8 l _).trans (Ak7 _ _ _ _)
def Aza {vs:List au} {t:du} {e:ee} (b:e.n.kind≠6) (a:e.n.kind=7->e.n.bm≠0):B5 (dp vs t e).1.ab t.ab:=by
 unfold dp;split
 .exact B5.refl _
 split
 .exact (Acp _).trans (Ak8 _ _)
 split
 .rename_i c;exact (Acq _).trans (B5.modify _ _ (Ay9 (a c)))
 split
 .unfold N9;split
  .exact (Acq _).trans (B5.map _ fun j=>Ak6 j _)
  split
  .exact B5.refl _
  .exact B5.refl _
 .exact (Acp _).trans (B5.modify _ _ (Ay8 _))
def Azb {n:Nat} {zs:List Int} (h:Pl.Dv n zs):zs.Pairwise (·<·):=by
 have e:∀ i,i<zs.length->∀ d,zs[i]?=some d->Pl.zi zs i=d:=fun i m d l=>by
  simp [Pl.zi,List.getD,l]
 have f:∀ d a,a+d+1<zs.length->Pl.zi zs a<Pl.zi zs (a+d+1):=fun d=>by
  induction d with
  | zero=>intro a c;exact h.az a c
  | succ d ih=>
   intro a c;have h1:=ih a (by omega);have j:=h.az (a+d+1) (by omega);exact Vx h1 j
 refine Np.2 fun a b c g k=>?_;have:=f (b-a-1) a (by omega);rw [show a+(b-a-1)+1=b by omega] at this;rw [e a c _ (A4 c),e b g _ (A4 g)] at this;exact this
def Azc {zs:List Int} {i:Nat} (h:(i:Int)∈zs):Pl.Bs zs zs.length i:=by
 obtain ⟨k,a⟩:=Dg h;exact ⟨k,(Ao.1 a).1,by simp [Pl.zi,List.getD,a]⟩
def Ak9 {i:Int}:∀ {zs:List Int},zs.Pairwise (·<·)->(zs.filter fun z=>decide (z=i)).length<=(if i∈zs then 1 else 0)
 | [],_=>by simp
 | z :: zs,h=>by
  have b:=Ou.1 h;have a:=Ak9 (i:=i) b.2;rw [Nv];by_cases e:z=i
  .have f:i∉zs:=fun c=>by have:=b.1 i c;omega
   rw [Ac f] at a;rw [Ad (by simpa using e),Ad (by rw [e];exact Dl),Il];omega
  .rw [Ac (by simpa using e)];by_cases c:i∈zs
   .rw [Ad c] at a;rw [Ad (Ce _ c)];exact a
   .rw [Ac c] at a;rw [Ac (fun d=>by rcases Gf.1 d with d | d;exact e d.symm;exact c d)];exact a
def Ala {zs:List Int} (h:zs.Pairwise (·<·)) {v:V4} (b:V4.zero.leq v) (i:Nat) {fr u d:Int} (h1:fr<=u) (f:u<d):(Gy (zs.filter fun z=>decide (z=(i:Int))).length v).leq (Pl.ir zs fr d v i u):=by
 have a:=Ak9 (i:=(i:Int)) h;unfold Pl.ir;by_cases c:(i:Int)∈zs
 .rw [Ad c] at a;rw [Ad ⟨Azc c,h1,f⟩];have:=Akz a b;rw [Ay3] at this;exact this
 .rw [Ac c] at a;have e:(zs.filter fun z=>decide (z=(i:Int))).length=0:=by omega
  rw [e,Acl];split
  .exact b
  .exact Lp _
def Azd (j:Jb) (i:Int):ei i j=(((j.parts.filter fun p=>decide (p.2=0)).map Prod.fst).filter fun z=>decide (z=i)).length:=by
 unfold ei;rw [Zc,At,List.filter_filter];rfl
def Acr {vs:List au} {now:Int} (i:Nat):∀ (js:List Jb),(∀ j,j∈js->j.live=false->j.parts=[])->(∀ j,j∈js->V4.zero.leq j.sp.cq) ->
  (∀ h,h∈(Dy js).map Jd->Pl.Dv (vs.map au.cap).length h.dq)->(Eu (js.map (Cd i))).leq (Pl.Sk now ((Dy js).map Jd) i now)
 | [],_,_,_=>Lp _
 | j :: js,hl,hd,hg=>by
  have b:=hd j Dl;by_cases c:j.live=true
  .have e:Dy (j :: js)=((j.parts.filter fun p=>decide (p.2=0)).map Prod.fst,j.sp.cq,Ke j) :: Dy js:=(by unfold Dy;rw [Nv,Ad c];rfl);rw [e] at hg ⊢;have f:=Acr (now:=now) i js (fun j a=>hl j (Ce _ a)) (fun j a=>hd j (Ce _ a)) (fun h k=>hg h (Ce _ k));have d:=hg _ Dl;refine Pw ?_ f;show (Gy (ei i j) j.sp.cq).leq (Pl.ir ((j.parts.filter fun p=>decide (p.2=0)).map Prod.fst) now (max (Ke j) (now+1)) j.sp.cq i now);rw [Azd];exact Ala (Azb d) b i (Cz _) (by omega)
  .have c:j.live=false:=(by simpa using c);have e:Dy (j :: js)=Dy js:=(by unfold Dy;rw [Nv,Ac (by rw [c];simp)]);rw [e] at hg ⊢;have f:=Acr (now:=now) i js (fun j a=>hl j (Ce _ a)) (fun j a=>hd j (Ce _ a)) hg;show (Pl.As (Cd i j) (Eu (js.map (Cd i)))).leq _;have g:Cd i j=V4.zero:=(by unfold Cd ei;rw [hl j Dl c];exact Acl _);rw [g,Pl.Uc];exact f
def Alb (i:Int) {f:Jb->Jb} {d:V4} (a:V4.zero.leq d):∀ (js:List Jb) (k:Nat),(∀ j,js[k]?=some j->(Cd i (f j)).leq (Pl.As (Cd i j) d))->(Eu ((js.modify k f).map (Cd i))).leq (Pl.As (Eu (js.map (Cd i))) d)
 | [],k,_=>by
  have e:([]:List Jb).modify k f=[]:=by cases k<;>rfl
  rw [e];show V4.zero.leq (Pl.As V4.zero d);rw [Pl.Uc];exact a
 | j :: js,0,h=>by
  show (Pl.As (Cd i (f j)) (Eu (js.map (Cd i)))).leq (Pl.As (Pl.As (Cd i j) (Eu (js.map (Cd i)))) d);rw [Pl.Sh,Pl.Ahp (Eu _) d,<- Pl.Sh];exact Pw (h j rfl) (Lp _)
 | j :: js,k+1,h=>by
  show (Pl.As (Cd i j) (Eu ((js.modify k f).map (Cd i)))).leq (Pl.As (Pl.As (Cd i j) (Eu (js.map (Cd i)))) d);rw [Pl.Sh];exact Pw (Lp _) (Alb i a js k h)
def Aze (i:Int) (j:Jb) (zs:List Int) (l:Lf) (st:Int) (g:List Int):ei i ⟨j.id,j.sp,l,st,g,j.parts++zs.map fun n=>(n,0)⟩=ei i j+(zs.filter fun z=>decide (z=i)).length:=by
 unfold ei;show ((j.parts++zs.map fun n=>(n,(0:Int))).filter _).length=_;rw [Nt,Cn,Zc,At]
 have e:((fun p:Int×Int=>decide (p.1=i) && decide (p.2=0)) ∘ fun n=>(n,(0:Int)))=fun z=>decide (z=i):=by
  funext z
  simp
 rw [e]
def Azf (m n:Nat) (v:V4):Gy (m+n) v=Pl.As (Gy m v) (Gy n v):=by
 simp only [Gy,Pl.As,Int.natCast_add,Int.add_mul]
def Alc {tick:Int} (h0:0<=tick) (i:Nat):∀ (P:List (Pl.Ask×Pl.Az)) (js:List Jb),(∀ x,x∈P->V4.zero.leq x.1.v/\0<x.1.aa/\x.2.dq.Pairwise (·<·)/\∀ j,js[(x.2.id-1).toNat]?=some j->j.sp.cq=x.1.v) ->
  (Eu ((Ia tick (P.map fun x=>x.2.key) js).map (Cd i))).leq (Pl.As (Eu (js.map (Cd i))) (Pl.Uh P i tick))
 | [],js,_=>by
  show (Eu (js.map (Cd i))).leq (Pl.As (Eu (js.map (Cd i))) V4.zero);rw [Pl.Og];exact Lp _
 | x :: P,js,h=>by
  obtain ⟨m,s,p,n⟩:=h x Dl
  have k:∀ j,(F8 tick x.2.start x.2.dq j).sp=j.sp:=fun j=>by unfold F8;split<;>rfl
  have r:=Alc h0 i P (Dt js x.2.id (F8 tick x.2.start x.2.dq)) fun y q=>by
   obtain ⟨a,b,c,d⟩:=h y (Ce _ q);refine ⟨a,b,c,fun j f=>?_⟩;unfold Dt at f;rw [Ev] at f
   cases hl:js[(y.2.id-1).toNat]? with
   | none=>rw [hl] at f;cases f
   | some z=>
    rw [hl] at f;have f:some (if (x.2.id-1).toNat=(y.2.id-1).toNat then F8 tick x.2.start x.2.dq z else z)=some j:=f;injection f with f;rw [<- d z hl,<- f];split
    .rw [k z]
    .rfl
  have l:V4.zero.leq (Pl.Ic x i tick):=by
   unfold Pl.Ic;split
   .unfold Pl.ir;split
    .exact m
    .exact Lp _
   .exact Lp _
  have o:(Eu ((Dt js x.2.id (F8 tick x.2.start x.2.dq)).map (Cd i))).leq (Pl.As (Eu (js.map (Cd i))) (Pl.Ic x i tick)):=by
   refine Alb i l js _ fun j f=>?_;have g:=n j f;unfold F8;split
   .rename_i e;unfold Cd;rw [Aze];show (Gy (ei i j+_) j.sp.cq).leq _;rw [Azf,g];refine Pw (Lp _) ?_;unfold Pl.Ic;rw [Ad (by omega)];exact Ala p m i (by omega) (by omega)
   .have:Cd i ⟨j.id,j.sp,j.lf,x.2.start,x.2.dq,j.parts⟩=Cd i j:=rfl;rw [this];have:=Pw (Lp (Cd i j)) l;rw [Pl.Og] at this;exact this
  show (Eu ((Ia tick (P.map fun x=>x.2.key) (Dt js x.2.id (F8 tick x.2.start x.2.dq))).map (Cd i))).leq (Pl.As _ (Pl.As (Pl.Ic x i tick) (Pl.Uh P i tick)));rw [<- Pl.Sh];exact U0 r (Pw o (Lp _))
def Lq (vs:List au) (js:List Jb):Prop:=∀ (i:Nat) (v:au),vs[i]?=some v->(L5 js i).leq v.cap
def Lq.less {vs:List au} {a b:List Jb} (h:Lq vs b) (d:B5 a b) (c:∀ j,j∈b->V4.zero.leq j.sp.cq):Lq vs a:=fun i v e=>U0 (Ay4 d c i) (h i v e)
def Ald {vs:List au} {n k:Nat} {j:Jb} (h:Ig vs n k j):V4.zero.leq j.sp.cq:=by
 obtain ⟨_,_,a,_⟩:=G6 (Jl h.gg);exact Pl.Aba (Z4.1 a).1
def U1 {vs:List au} {js:List Jb} (h:Dd vs js):∀ j,j∈js->V4.zero.leq j.sp.cq:=fun j a=>by
 obtain ⟨k,b⟩:=Dg a;exact Ald (h k j b)
def Ale (js:List Jb):B5 (js.map Ff) js:=B5.map _ fun j=>by
 unfold Ff;split
 .exact Acn j
 .exact De.refl _
def Azg {vs:List au} {js:List Jb} {tick:Int} {z:List Bool} (h:Dd vs js) (h0:0<=tick) (ht:tick<1099511627776) (hf:Lq vs js):Lq vs (Mn vs tick z js):=by
 unfold Mn J3;rcases Ajs (vs.map au.cap) tick z ((Dy js).map Jd) (En vs js) with e | ⟨a,hp,e⟩
 .rw [e];exact hf.less (Ale js) (U1 h)
 rw [e];have f:=Pl.Abd hp;have hl:=f.len;intro i v hv;have hi:i<(vs.map au.cap).length:=by rw [At];exact (Ao.1 hv).1
 have p:=f.le i hi tick h0 ht;have m:Pl.vv (vs.map au.cap) i=v.cap:=by simp [Pl.vv,List.getD,hv]
 rw [m] at p;refine U0 ?_ p
 have o:a.map Pl.Az.key=((En vs js).zip a).map fun x=>x.2.key:=by rw [show (fun x:Pl.Ask×Pl.Az=>x.2.key)=Pl.Az.key ∘ Prod.snd from rfl,<- Dn,List.map_snd_zip (by omega)]
 rw [o,Ack]
 have s:(Eu ((js.map Ff).map (Cd i))).leq (Pl.Sk tick ((Dy js).map Jd) i tick):=by
  refine U0 ?_ (Acr (vs:=vs) i js (fun j r y=>?_) (U1 h) fun hh t=>(f.holds hh t).1)
  .exact Yh i js _ (Ale js) (U1 h)
  .obtain ⟨k,hk⟩:=Dg r;exact (h k j hk).toFm.idle y
 refine U0 (Alc h0 i _ _ fun x hx=>?_) (Pw s (Lp _));have q:=f.slot x hx;obtain ⟨k,j,r,hr,l⟩:=Aju h.b (Vj hx).1;have g:=h k j r;obtain ⟨_,_,_,_,_,m6,_⟩:=G6 (Jl g.gg);have u:x.2.id=j.id:=by have:=q.1;rw [l] at this;exact this
 refine ⟨?_,?_,?_,fun j2 d=>?_⟩
 .rw [l];exact Ald g
 .rw [l];show 0<j.sp.wall+8;have m6:1<=j.sp.wall:=(I9.1 m6).1;omega
 .rcases q.2 with ⟨_,c⟩ | ⟨_,_,_,c,_⟩
  .rw [c];exact List.Pairwise.nil
  .rw [l] at c;exact (Ajv c).az
 .have n:=g.toFm.id;rw [u,n,show ((k:Int)+1-1).toNat=k by omega,Bh,r] at d;injection d with d;rw [<- d,l];show (Ff j).sp.cq=j.sp.cq;unfold Ff
  split<;>rfl
def Azh {vs:List au} {t:du} {e:ee} (h:Fo vs t) (d:Lq vs t.ab):Lq vs (Eo vs t e).1.ab:=by
 unfold Eo;split
 .exact d
 .rename_i c;have k:=Yf (vs:=vs) (t:=t) (e:=e) (by simpa using c)
  have a:Lq vs (dp vs t e).1.ab:=by
   have f:=Q5 k.may;by_cases b:e.n.kind=6
   .have i:(dp vs t e).1.ab=Mn vs e.n.tick (r6 { t with tick:=e.n.tick }) (Cs e.n.tick t.ab):=(by unfold dp;rw [Ac (by omega),Ac (by omega),Ad b];rfl);have g:=f.tick (.inl b);rw [i];exact Azg (Abz h.all _) g.1 g.2 (d.less (Ay7 _ _) (U1 h.all))
   .exact d.less (Aza b fun j=>by have:=f.bm j;omega) (U1 h.all)
  show Lq vs (if B4 e.n.kind=true then { (dp vs t e).1 with cls:=Is (dp vs t e).1.cls e.n.ag ⟨e.n.seq,(dp vs t e).2.e,(dp vs t e).2.first,(dp vs t e).2.last⟩ } else (dp vs t e).1).ab;split
  .exact a
  .exact a
def Acs:∀ (l:List Int),(∀ x,x∈l->0<=x)->∀ a:Int,a<=l.foldl (·+·) a
 | [],_,a=>Cz a
 | x :: l,h,a=>by
  have h1:=h x Dl;have c:=Acs l (fun y b=>h y (Ce _ b)) (a+x);show a<=l.foldl (·+·) (a+x);omega
def Alf (l:List dn):0<=Kt l:=Acs _ (fun x a=>by
 obtain ⟨s,_,rfl⟩:=Ba.1 a
 exact (Ay0 s).1) 0
def Azj (es:List ee) (i:Nat):Jn (es.take i)<=Jn es:=by
 have e:Jn es=((es.drop i).map fun e=>Kt e.specs).foldl (·+·) (Jn (es.take i)):=by unfold Jn;rw [<- Kw,<- C9,Or]
 rw [e]
 exact Acs _ (fun x a=>by
  obtain ⟨s,_,rfl⟩:=Ba.1 a
  exact Alf _) _
def Azk {vs:List au} {t:du} {e:ee}:((Eo vs t e).1.ab.length:Int)<=(t.ab.length:Int)+Kt e.specs:=by
 have h0:=Alf e.specs;unfold Eo;split
 .show (t.ab.length:Int)<=_;omega
 .rename_i c;have f:=Yf (vs:=vs) (t:=t) (e:=e) (by simpa using c)
  have a:((dp vs t e).1.ab.length:Int)<=(t.ab.length:Int)+Kt e.specs:=by
   unfold dp;split
   .show (t.ab.length:Int)<=_;omega
   split
   .rename_i q;obtain ⟨g,_,b⟩:=Akl (f.sub q)
    have h:Kt e.specs=G8 e.specs:=by unfold Kt G8;congr 1;refine Va fun s d=>?_;have:=b s d;unfold S4;omega
    show ((Dj (El (e.specs.zip (B7 vs t.ab.length e.specs).1) t.ab)).length:Int)<=_;rw [Tx];omega
   split
   .show ((Mn vs e.n.tick _ (Cs e.n.tick t.ab)).length:Int)<=_;rw [Akk,Akj];omega
   split
   .show ((Gk (Dt t.ab e.n.br (J1 e.n))).length:Int)<=_;unfold Dt;rw [Uz,Jp];omega
   split
   .unfold N9;split
    .show ((Gk _).length:Int)<=_;rw [Uz,At];omega
    split
    .show (t.ab.length:Int)<=_;omega
    .show (t.ab.length:Int)<=_;omega
   .show ((Dj (Dt t.ab e.n.br (J0 (F7 e.n.kind)))).length:Int)<=_;unfold Dt;rw [Tx,Jp];omega
  show (((if B4 e.n.kind=true then { (dp vs t e).1 with cls:=Is (dp vs t e).1.cls e.n.ag ⟨e.n.seq,(dp vs t e).2.e,(dp vs t e).2.first,(dp vs t e).2.last⟩ } else (dp vs t e).1).ab.length:Nat):Int)<=_;split
  .exact a
  .exact a
def Azl {W i:WD} {S:Nat->Prop} {B:Nat} {s:VL} {xs:List aq} (h:ib W B s xs) (n:Mod S W i) (r:∀ b c f,(f=69\/f=9)->W.heap[b]?=some (.cells c f (0,0))->¬ S b):ib i B s xs:=by
 refine ⟨⟨h.row.1,?_⟩,fun x o=>?_⟩
 .rcases h.row.2 with h | ⟨g,cap,j,u,m,p,t⟩
  .exact .inl h
  .exact .inr ⟨g,cap,j,u,m,n.ar p (r _ _ _ (.inl rfl) p),t⟩
 .have q:∀ d a,x.po=some ⟨d,a,none⟩->∃ c,W.heap[d]?=some (.cells c 9 (0,0))/\i.heap[d]?=some (.cells c 9 (0,0)):=fun d a e=>by
   obtain ⟨c,l⟩:=(h.ok x o).2 d a e;exact ⟨c,l,n.ar l (r _ _ _ (.inr rfl) l)⟩
  refine ⟨⟨N1 (h.ok x o).1.parts n.size fun d a e _=>?_,(h.ok x o).1.lg⟩,fun d a e=>?_⟩
  .obtain ⟨c,h1,k⟩:=q d a e;rw [h1,k]
  .obtain ⟨c,_,k⟩:=q d a e;exact ⟨c,k⟩
structure sa (w1:WD) (q:Nat) (bc:Array VL) (vs:List au) (fv:VL) (ns:List aq) (es:List ee) (i:Nat) (T:Tv) (wr:WD):Prop where
 ko:Dk w1 T wr
 vs:T.vs=vs
 box:wr.heap[q]?=some (.cells bc 59 (0,0))
 we:ib wr 0 fv ns
 len:(T.js.length:Int)<=Jn (es.take i)
variable {w1 wr w':WD} {q i:Nat} {bc:Array VL} {vs:List au} {fv:VL} {ns:List aq} {es:List ee} {T T':Tv}
def sa.drop (h:sa w1 q bc vs fv ns es i T wr) (a:BW wr.heap.size wr w'):sa w1 q bc vs fv ns es i T w':=
 ⟨h.ko.drop a,h.vs,Ae a h.box (Ab h.box),h.we.below a,h.len⟩
def sa.ji {e:ee} (h:sa w1 q bc vs fv ns es i T wr) (m:Dk w1 T' w') (f:Ed wr T T' w') (d:T'.pl=(Eo T.vs T.pl e).1) (l:es.take (i+1)=es.take i++[e]):sa w1 q bc vs fv ns es (i+1) T' w':=by
 refine ⟨m,f.vs.trans h.vs,f.mod.ar h.box (h.ko.tab.off h.box (by decide) (by decide) (by decide) (by decide) (by decide)),Azl h.we f.mod fun b c n a g=>?_,?_⟩
 .rcases a with rfl | rfl
  .exact h.ko.tab.off g (by decide) (by decide) (by decide) (by decide) (by decide)
  .exact h.ko.tab.off g (by decide) (by decide) (by decide) (by decide) (by decide)
 .have h1:=Azk (vs:=T.vs) (t:=T.pl) (e:=e);rw [<- d] at h1;have j:T'.pl.ab.length=T'.js.length:=by simp [Tv.pl]
  have k:T.pl.ab.length=T.js.length:=by simp [Tv.pl]
  rw [j,k] at h1;have:=h.len;rw [l,Akx];omega
def Azm {l a:WD} {js:List (Nat×aj)} {i:VL} {L:List aj} (h:Pu l js i L a) {k:Nat} {y:aj} (c:L[k]?=some y) :
  ∃ g cap j,js[k]?=some j/\i=.slice (some ⟨g,0,none⟩) L.length cap/\Gw l a j.2 y/\∀ W,BW a.heap.size a W->∀ o,o<22->W.cell? ⟨g,k*22+o,none⟩=y.cells[o]?:=by
 have u:=(Ao.1 c).1;obtain ⟨j,q,r⟩:=h.each k y c;rcases h.row.2 with ⟨e,h0⟩ | ⟨g,cap,m,f,t,p,v⟩
 .have:L.length=0:=h0;omega
 .refine ⟨g,cap,j,q,f,r,fun W n o s=>?_⟩;rw [Ag n (Ab p)];have d:=h.row;rw [f] at d;have b:∀ x:aj,(aj.cells x).size=22:=fun _=>rfl
  rw [E6 d (k*22+o) (by
   have:(k+1)*22<=L.length*22:=S7 _ (by omega)
   omega),F2 b L c s]
structure se (w:WD) (u:V4) (wr:WD):Prop where
 low:BW w.heap.size w wr
 vec:wr.heap[w.heap.size]?=some (.cells u.cells 30 (0,0))
def se.set {w wr:WD} {v u:V4} (h:se w v wr) (o:Nat) (x:VL) (e:v.cells.setIfInBounds o x=u.cells):se w u ((wr.drew).setCell ⟨w.heap.size,o,none⟩ x):=
 ⟨Ee h.low.drew (by omega),by rw [<- e];exact Am (Rn h.vec) _ _⟩
def Azn {f i:WD} {js:List (Nat×aj)} {a:VL} {L:List aj} (h:Pu f js a L i):∃ d c,a=.slice d L.length c:=by
 rcases h.row.2 with ⟨e,h0⟩ | ⟨g,cap,b,e,_⟩
 .exact ⟨none,0,by rw [h0,<- e]⟩
 .exact ⟨_,_,e⟩
def Azo {s f:WD} {x y:aj} (h:Gw s f x y) {k:Nat} {p:Int×Int} (c:x.pl.parts[k]?=some p):∃ d,y.po=some ⟨d,0,none⟩/\∀ W,BW f.heap.size f W->W.cell? ⟨d,k*2,none⟩=some (.int .i64 p.1)/\W.cell? ⟨d,k*2+1,none⟩=some (.int .i64 p.2):=by
 have t:=(Ao.1 c).1;have b:∀ x:Int×Int,(E1 x).size=2:=fun _=>rfl;have r:(Au E1 x.pl.parts).length=x.pl.parts.length*2:=Afi _;have a:=h.parts;have h1:=a.1;rw [r] at h1;rcases a.2 with ⟨_,e⟩ | ⟨g,cap,n,e,_,j,_⟩
 .omega
 .injection e with e1 e2 e3;refine ⟨g,e1,fun W i=>?_⟩;rw [e1] at a;have l:=E6 a (k*2) (by omega);have m:=E6 a (k*2+1) (by omega);have o:=F2 b x.pl.parts c (show 0<2 by decide);have q:=F2 b x.pl.parts c (show 1<2 by decide);exact ⟨(Ag i (Ab j)).trans (l.trans o),(Ag i (Ab j)).trans (m.trans q)⟩
def Azp {d:Nat} (u v:V4) (h:d<4):(Jm d u v).cells[d]?=some (.int .i64 (u.get d)):=by
 rcases (by omega:d=0\/d=1\/d=2\/d=3) with rfl | rfl | rfl | rfl<;>rfl
def Azq {d:Nat} (u v:V4) (h:d<4):(Jm d u v).cells.setIfInBounds d (.int .i64 (u.get d+v.get d))=(Jm (d+1) u v).cells:=by
 rcases (by omega:d=0\/d=1\/d=2\/d=3) with rfl | rfl | rfl | rfl<;>rfl
def Alg {u:V4} {m:Int} (h:mg u m) {d:Nat} (k:d<4):0<=u.get d/\u.get d<=m:=by
 obtain ⟨a,b,c,e,f,g,i,j⟩:=h;rcases (by omega:d=0\/d=1\/d=2\/d=3) with rfl | rfl | rfl | rfl
 .exact ⟨a,b⟩
 .exact ⟨c,e⟩
 .exact ⟨f,g⟩
 .exact ⟨i,j⟩
def Azr {u v:V4} {m n:Int} (h:mg u m) (k:mg v n) {q:Int} (s:m+n<=q):mg (Jm 4 u v) q:=by
 obtain ⟨a,b,c,e,f,g,i,j⟩:=h;obtain ⟨a2,d,l,o,p,r,t,x⟩:=k
 refine ⟨?_,?_,?_,?_,?_,?_,?_,?_⟩<;>simp [Jm]<;>omega
def mg.le {u:V4} {m n:Int} (h:mg u m) (k:m<=n):mg u n:=by
 obtain ⟨a,b,c,e,f,g,i,j⟩:=h
 refine ⟨?_,?_,?_,?_,?_,?_,?_,?_⟩<;>omega
def Azs {w W:WD} {b o i:Nat} {x:cz} (h:∀ j,j<10->w.cell? ⟨b,o+i*10+j,none⟩=x.cells[j]?) (f:BW w.heap.size w W) (p:b<w.heap.size) {k d t c s j a n e:Int} {so:Option Addr} {m sc:Nat} {r:List ay} (q:x=⟨⟨k,d,t,c,s,j,a,n,e⟩,so,m,sc,r⟩) :
  W.cell? ⟨b,o+i*10,none⟩=some (.int .i64 k)/\W.cell? ⟨b,o+i*10+1,none⟩=some (.int .i64 d)/\W.cell? ⟨b,o+i*10+2,none⟩=some (.int .i64 t)/\W.cell? ⟨b,o+i*10+3,none⟩=some (.int .i64 c)/\W.cell? ⟨b,o+i*10+4,none⟩=some (.int .i64 s)/\W.cell? ⟨b,o+i*10+5,none⟩=some (.int .i64 j)/\W.cell? ⟨b,o+i*10+6,none⟩=some (.int .i64 a)/\W.cell? ⟨b,o+i*10+7,none⟩=some (.int .i64 n)/\W.cell? ⟨b,o+i*10+8,none⟩=some (.int .i64 e)/\W.cell? ⟨b,o+i*10+9,none⟩=some (.slice so m sc):=by
 subst q;have g:=fun j l=>(Ag (o:=o+i*10+j) f p).trans (h j l);exact ⟨g 0 (by omega),g 1 (by omega),g 2 (by omega),g 3 (by omega),g 4 (by omega),g 5 (by omega),g 6 (by omega),g 7 (by omega),g 8 (by omega),g 9 (by omega)⟩
end
section
open Go.RowKit Go.Maps Go.Lib
structure xy (wr:WD) (bv:VL) (wx:WD):Prop where
 eq:bv=.bool false
 low:BW wr.heap.size wr wx
def Azt (bS:∀ W,Mx W->CS prog 12 #[] W fun e w'=>e=.returned (.bool true)/\BW W.heap.size W w') (w:WD) (hm:Mx w) (s:ByteArray) (so:Option Addr) (m c:Nat) (xs:List cz) (hx:S2 w so m xs) :
  CS prog 4 #[.string s,.slice so m c] w fun e w'=>e=.returned (.bool true)/\BW w.heap.size w w':=by
 have bN:=bS w hm;replace ⟨bN,hm,hx⟩:=H3 bN hm hx;clear bS;go_enter func4,ntmps4;go_wp2_with fail;refine bN.mono ?_;rintro e w1 ⟨rfl,b1⟩;have kb:=Ayp s w1 (hm.low b1);have a3:=hx.low b1;replace ⟨b1,kb,a3⟩:=H3 b1 kb a3;go_wp2_with fail;refine kb.mono ?_;intro e w2 hB;rcases hB with ⟨rfl,b2⟩ | ⟨T0,ns,fo,fn,fc,bP,n2,c2,rfl,hP,bi,hR,a2,be⟩
 .unfold S1;have a9:BW w2.heap.size w2 (w2.alloc (.cells #[.slice none 0 0,.int .i64 0,.int .i64 0,.slice none 0 0,.slice none 0 0,.slice none 0 0] 59 (0,0))):=Bn;have ks:=Aky so m c xs ((a3.low b2).low a9);have a:=b1.trans ((b2.trans (a9.mono b2.size)).mono b1.size);replace ⟨b2,a9,ks,a⟩:=H4 b2 a9 ks a;go_wp2_with fail;refine ks.mono ?_;rintro e w4 ⟨b,rfl,-,b4⟩;replace b4:=Hh b4;go_wp2_with fail;go_ret;exact ⟨rfl,a.trans (b4.mono a.size)⟩
 replace ⟨hP,bi,hR,a2,be⟩:=H5 hP bi hR a2 be;go_upto_region 5 with fail;obtain ⟨q,hq⟩:=Ex (w2.heap.size);obtain ⟨W3,a7⟩:=Ex (w2.alloc (.cells #[.slice fo fn fc,.int .i64 0,.int .i64 (-1),.slice none 0 0,.slice bP n2 c2,.slice none 0 0] 59 (0,0)));have b3:BW w2.heap.size w2 W3:=by rw [a7];exact Bn
 obtain ⟨es,aZ⟩:=Ex (xs.map cz.pl);obtain ⟨vs,aA⟩:=Ex (T0.vs);have a1:T0.js=[]:=by have:=Ca (fun t:du=>t.ab.length) bi.out;simpa [Tv.pl] using this
 have a6:sa w1 q #[.slice fo fn fc,.int .i64 0,.int .i64 (-1),.slice none 0 0,.slice bP n2 c2,.slice none 0 0] vs (.slice fo fn fc) ns es 0 T0 W3:=
  ⟨hP.drop b3,aA.symm,by rw [a7,hq];exact Ah _ _,hR.below b3,by rw [a1];simp [Jn]⟩
 have aJ:Lq vs T0.pl.ab:=fun i v hv=>by
  have e:T0.pl.ab=[]:=by rw [bi.out]
  rw [e]
  have:v∈T0.vs:=by rw [<- aA];exact Ai hv
  have hr:=(be.all v this).ok.cap;exact Pl.Aba hr
 have ks:=Aky so m c xs (a3.low (a6.ko.low));rw [<- aZ] at ks;rw [<- a7,<- hq];clear a7 hq;replace ⟨b3,a6,ks,aZ,aA,a1,aJ⟩:=H7 b3 a6 ks aZ aA a1 aJ;go_wp2_with fail;refine ks.mono ?_;rintro e w4 ⟨b,rfl,bl,b4⟩;have aQ:=a6.drop b4;have al:=b1.trans (aQ.ko.low.mono b1.size);cases b
 .replace ⟨b4,bl,aQ,al⟩:=H4 b4 bl aQ al;go_wp2_with fail;go_ret;exact ⟨rfl,al.out⟩
 have aN:=bl rfl;obtain ⟨tb,ht⟩:=Ex (T0.tb);rw [<- ht];have bd:fn=vs.length:=by have h1:=Ca List.length a2.out;rw [At] at h1;obtain ⟨cl,ck,e⟩:=Aks hR.out;injection e with _ e2;rw [e2,h1,aA.out]
 have bL:=hx.len.symm;have ce:m<=60:=by have h1:=aN.len;rw [aZ.out,At] at h1;omega
 have b7:fn<=16:=by have h1:=be.len;rw [<- aA.out] at h1;omega
 clear bl;replace ⟨b4,aQ,al,aN,ht,bd,bL⟩:=H7 b4 aQ al aN ht bd bL;go_wp2_with fail;go_loopw [10,11,12,13,14,15,16] (fun iv _ _ _ _ _ _ wr=>∃ (i:Nat) (T:Tv),iv=.int .i64 i/\i<=m/\Hid (tb=T.tb)/\Hid (Lq vs T.pl.ab)/\Hid (sa w1 q #[.slice fo fn fc,.int .i64 0,.int .i64 (-1),.slice none 0 0,.slice bP n2 c2,.slice none 0 0] vs (.slice fo fn fc) ns es i T wr)) (fun iv _ _ _ _ _ _ _=>m-(intOf iv).toNat)
 case atStart=>exact ⟨0,T0,rfl,Aq _,ht,aJ,aQ⟩
 case round=>
  rename WD=>wi
  obtain ⟨i,T,rfl,hi,bY,bX,hF⟩:=hrel;by_cases hc:i<m
  .have b5:(i:Int)<m:=(by omega);have cv:(0:Int)<=(i:Int):=(by omega);obtain ⟨x,bs⟩:=Ge xs i (by have:=bL.out;omega);obtain ⟨b,cG,rfl,bK,bG,bf⟩:=a3.cell i x bs;have ac:es.take (i+1)=es.take i++[x.pl]:=I7 (by rw [aZ.out,Bh,bs];rfl);have z:=hF.ko
   have ka:=Ako x z (bf.low z.low) (z.de bf) (fun _=>by
    have h1:=hF.len;have h2:=Azj es i;have h3:=aN.sum
    omega)
   have bI:=z.ie;rw [<- bY.out] at ka;obtain ⟨P,bD⟩:=Ex (x.pl);rw [<- bD] at ac ka;obtain ⟨⟨cf,ah,tick,ag,seq,br,attempt,node,bm⟩,ci,em,ec,cj⟩:=x;obtain ⟨e0,e1,e2,e3,e4,e5,e6,e7,e8,e9⟩:=Azs bG z.low bK rfl;replace ⟨bs,bK,bG,bf,ac,z,ka,bI⟩:=H8 bs bK bG bf ac z ka bI;replace bD:=Hh bD;go_wp2_with fail;refine ka.mono ?_;rintro e wA ⟨T',rfl,aR,aO,bE,-⟩;clear e0 e1 e2 e3 e4 e5 e6 e7 e8 e9;have bx:=hF.ji aR bE aO ac.out;have bb:Lq vs T'.pl.ab:=(by rw [aO,hF.vs];exact Azh (by have:=bI.out;rw [hF.vs] at this;exact this) bX.out);have aE:tb=T'.tb:=(by rw [bE.tb];exact bY.out);have ad:=aR.rows;have kj:=Awe aR.tab ad.1 (by have:=ad.2.2;omega);rw [<- aE] at kj;clear bE;replace ⟨aR,aO,bx,bb,aE,ad,kj⟩:=H7 aR aO bx bb aE ad kj;go_wp2_with fail;refine kj.mono ?_;intro e wJ hJ;obtain ⟨sv,L,rfl,bC,hG⟩:=hJ;obtain ⟨jo,jc,rfl⟩:=Azn hG;obtain ⟨jl,aS⟩:=Ex (L.length);rw [<- aS] at hG ⊢;have aG:=bx.drop hG.low;obtain ⟨J,aU⟩:=Ex (T'.pl.ab);have bB:J.length=jl:=(by rw [aU,aS,bC];simp [Tv.pl]);have bZ:jl<=100:=(by have:=ad.2.2;omega);have aL:∀ W,BW wJ.heap.size wJ W->W.cell? ⟨q,0,none⟩=some (.slice fo fn fc):=fun W hW=>(Ag hW (Ab aG.box)).trans (Aa aG.box 0);replace ⟨bC,hG,aS,aG,aU,bB,aL⟩:=H7 bC hG aS aG aU bB aL;go_wp2_with fail;go_loopw [12,13,14,15,16] (fun nv _ _ _ _ wr=>∃ (n:Nat),nv=.int .i64 n/\n<=fn/\Hid (BW wJ.heap.size wJ wr)) (fun nv _ _ _ _ _=>fn-(intOf nv).toNat)
   case atStart=>exact ⟨0,rfl,Aq _,Below.refl _ _⟩
   case round=>
    rename WD=>wn
    obtain ⟨n,rfl,hn,a⟩:=hrel;have q0:=aL wn a.out;by_cases co:n<fn
    .have bV:(n:Int)<fn:=(by omega);have cx:(0:Int)<=(n:Int):=(by omega);go_upto_region 17 with fail;obtain ⟨vb,aK⟩:=Ex (wn.heap.size);obtain ⟨W5,a8⟩:=Ex (wn.alloc (.cells #[.int .i64 0,.int .i64 0,.int .i64 0,.int .i64 0] 30 (0,0)));have bF:se wn V4.zero W5:=⟨by rw [a8];exact Bn,by rw [a8];exact Ah _ _⟩;rw [<- a8,<- aK];clear a8 q0;replace ⟨aK,bF⟩:=H2 aK bF;go_wp2_with fail;go_loopw [14,15,16] (fun kv _ _ wr=>∃ (k:Nat),kv=.int .i64 k/\k<=jl/\Hid (se wn (Iz n J k) wr)/\Hid (mg (Iz n J k) (1099511627776*(1000*(k:Int))))) (fun kv _ _ _=>jl-(intOf kv).toNat)
     case atStart=>exact ⟨0,rfl,Aq _,bF.out,Hh (by simp [Iz,mg])⟩
     case round=>
      rename WD=>wk
      obtain ⟨k,rfl,hk,hV,bT⟩:=hrel;by_cases cm:k<jl
      .have bU:(k:Int)<jl:=(by omega);have cw:(0:Int)<=(k:Int):=(by omega);obtain ⟨y,hy⟩:=Ge L k (by have:=aS.out;omega);obtain ⟨g,cap,⟨jb,jx⟩,a0,bR,aC,av⟩:=Azm hG.out hy;rw [<- aS.out] at bR;injection bR with esv1 esv2 esv3;subst esv1;clear esv2 esv3;obtain ⟨aB,b9⟩:=ad.2.1 _ (Ai a0);have bA:J[k]?=some jx.pl:=(by rw [aU.out];simp [Tv.pl,a0]);have aP:jx.pl.parts.length=jx.pn:=Jt (aR.tab.ok _ (Ai a0)).parts;obtain ⟨A,a5⟩:=Ex (Iz n J k);have am:Iz n J (k+1)=Fn n jx.pl jx.pn A:=(by rw [<- aP,Ajd,a5];unfold Iz;rw [Ov,bA,Kw];rfl);rw [<- a5] at hV bT;obtain ⟨pn,aD⟩:=Ex (jx.pn);obtain ⟨po,bk⟩:=Ex (y.po);obtain ⟨D,aY⟩:=Ex (jx.pl.sp.cq);have a4:y.pn=pn:=by rw [aD];exact aC.pn
       have bg:∀ W,BW wn.heap.size wn W->W.cell? ⟨g,k*22+21,none⟩=some (.slice po pn y.pc):=fun W hW=>by
        have h:=av W (a.trans (hW.mono a.size)) 21 (by omega);rw [h,bk,<- a4];rfl
       have bM:y.pl.sp.cq=D:=by rw [aC.pl,aY]
       have bH:∀ W,BW wn.heap.size wn W->∀ o,o<4->W.cell? ⟨g,k*22+4+o,none⟩=some (.int .i64 (D.get o)):=fun W hW o ho=>by
        have h:=av W (a.trans (hW.mono a.size)) (4+o) (by omega);rw [<- Nat.add_assoc] at h;rw [h,<- bM]
        rcases (by omega:o=0\/o=1\/o=2\/o=3) with rfl | rfl | rfl | rfl<;>rfl
       rw [<- aY] at aB;rw [<- aD] at b9 am;have bO:=bg wk hV.low;replace ⟨hy,a0,aC,av,aB,bA,aP,a5⟩:=H8 hy a0 aC av aB bA aP a5;replace ⟨am,aD,bk,aY,a4,bg,bM,bH⟩:=H8 am aD bk aY a4 bg bM bH;go_wp2_with fail;clear bO;go_loopw [15,16] (fun pv _ wr=>∃ (p:Nat),pv=.int .i64 p/\p<=pn/\Hid (se wn (Fn n jx.pl p A) wr)/\Hid (mg (Fn n jx.pl p A) (1099511627776*(1000*(k:Int)+p)))) (fun pv _ _=>pn-(intOf pv).toNat)
       case atStart=>exact ⟨0,rfl,Aq _,hV.out,Hh (by have:=bT.out;rw [Ajb];simpa using this)⟩
       case round=>
        rename WD=>wp
        obtain ⟨p,rfl,hp,aH,ao⟩:=hrel;have bO:=bg wp aH.low;by_cases cp:p<pn
        .have bW:(p:Int)<pn:=(by omega);have cy:(0:Int)<=(p:Int):=(by omega);obtain ⟨⟨p1,p2⟩,an⟩:=Ge jx.pl.parts p (by have:=aP.out;have:=aD.out;omega);obtain ⟨pb,bQ,j⟩:=Azo aC.out an;obtain ⟨c0,c1⟩:=j wp (a.trans (aH.low.mono a.size));rw [<- bk.out] at bQ;subst bQ;simp only at c0 c1;have ac:=Ajc (i:=(n:Int)) (v:=A) an;obtain ⟨u,hu⟩:=Ex (Fn n jx.pl p A);rw [<- hu] at aH ao ac;by_cases q1:p1=(n:Int)
         .by_cases q2:p2=0
          .subst q1;subst q2;have f:Fn n jx.pl (p+1) A=Jm 4 u D:=(by rw [ac,<- aY.out,Ad (by simp)];rfl);replace ⟨an,j,ac,hu,f⟩:=H5 an j ac hu f;go_wp2_with fail;clear c0 c1 bO;go_loopw [16] (fun dv wr=>∃ (d:Nat),dv=.int .i64 d/\d<=4/\Hid (se wn (Jm d u D) wr)) (fun dv _=>4-(intOf dv).toNat)
           case atStart=>exact ⟨0,rfl,by omega,aH.out⟩
           case round=>
            obtain ⟨d,rfl,cs,aV⟩:=hrel;by_cases aX:d<4
            .have ct:(d:Int)<4:=(by omega);have cr:(0:Int)<=(d:Int):=(by omega);have b1:=Alg ao.out aX;have b2:=Alg aB.out aX;have hn:se wn (Jm (d+1) u D) (wr.drew.setCell ⟨vb,d,none⟩ (.int .i64 (u.get d+D.get d))):=(by rw [aK.out];exact aV.set d _ (Azq u D aX));have u0:wr.cell? ⟨vb,d,none⟩=some (.int .i64 (u.get d)):=(by rw [aK.out,Aa aV.vec d];exact Azp u D aX);have fr:∀ o,wr.frozen? ⟨vb,o,none⟩=false:=(by rw [aK.out];exact Af aV.vec);have e0:=bH wr aV.low d aX;obtain ⟨ud,bn⟩:=Ex (u.get d);obtain ⟨dd,ba⟩:=Ex (D.get d);rw [<- bn,<- ba] at hn;rw [<- bn] at u0 b1;rw [<- ba] at e0 b2;have cB:IntKind.i64.wrap (ud+dd)=ud+dd:=E9 _ (by omega);replace ⟨hn,bn,ba,b1,b2⟩:=H5 hn bn ba b1 b2;go_upto_region 27 with fail;go_still_tail 13,(by kernel_rfl);change wpList _ _ _ _ _ wr.drew;go_wp2_with fail;go_roundw
             case rel=>exact ⟨d+1,by go_num,by omega,hn⟩
             case measure=>simp [intOf];omega
            .have b6:d=4:=(by omega);subst b6;go_wp2_with fail;go_roundw
             case rel=>exact ⟨p+1,by go_num,by omega,Hh (by rw [f.out];exact aV.out),Hh (by rw [f.out];exact Azr ao.out aB.out (by omega))⟩
             case measure=>simp [intOf];omega
          .have f:Fn n jx.pl (p+1) A=u:=(by rw [ac,Ac (by simp;omega)]);replace ⟨an,j,ac,hu,f⟩:=H5 an j ac hu f;go_wp2_with fail;go_roundw
           case rel=>exact ⟨p+1,by go_num,by omega,Hh (by rw [f.out];exact aH.out),Hh (by rw [f.out];exact ao.le (by omega))⟩
           case measure=>simp [intOf];omega
         .have f:Fn n jx.pl (p+1) A=u:=(by rw [ac,Ac (by simp;omega)]);replace ⟨an,j,ac,hu,f⟩:=H5 an j ac hu f;go_wp2_with fail;go_roundw
          case rel=>exact ⟨p+1,by go_num,by omega,Hh (by rw [f.out];exact aH.out),Hh (by rw [f.out];exact ao.le (by omega))⟩
          case measure=>simp [intOf];omega
        .have bW:¬ (p:Int)<pn:=(by omega);have an:p=pn:=(by omega);subst an;go_wp2_with fail;go_roundw
         case rel=>exact ⟨k+1,by go_num,by omega,Hh (by rw [am.out];exact aH.out),Hh (by rw [am.out];exact ao.le (by omega))⟩
         case measure=>simp [intOf];omega
      .have bU:¬ (k:Int)<jl:=(by omega);have b8:k=jl:=(by omega);subst b8;obtain ⟨⟨ua,ub,uc,ud⟩,hu⟩:∃ u,u=Iz n J k:=⟨_,rfl⟩;have aM:L5 T'.pl.ab n=⟨ua,ub,uc,ud⟩:=(by rw [hu,<- aU.out];unfold Iz L5;rw [C8 (by have:=bB.out;omega)]);rw [<- hu] at hV;obtain ⟨v,bo⟩:=Ge vs n (by have:=bd.out;omega)
       obtain ⟨nx,am⟩:=Ge ns n (by
        have h1:=Ca List.length a2.out;rw [At] at h1;have:=bd.out;have:=aA.out;rw [<- aA.out] at h1
        omega)
       have aI:nx.cap=v.cap:=by
        have h1:(ns.map aq.pl)[n]?=some nx.pl:=(by rw [Bh,am];rfl);rw [a2.out,<- aA.out,bo] at h1;injection h1 with h1;rw [h1];rfl
       have bc:=bb n v bo;rw [aM,<- aI] at bc;obtain ⟨ng,ch,b0,ap,_,aT⟩:=aG.we.cell am;injection b0 with efo1 efo2 efo3;subst efo1;clear efo2 efo3;obtain ⟨nm,⟨ca,cb,cc,cd⟩,cE,cD,cC,cF⟩:=nx
       have kb:∀ W,BW wk.heap.size wk W->CS prog 17 #[.pointer (some ⟨tb,0,none⟩),.int .i64 n] W fun e w'=>e=.returned (.agg #[.int .i64 ua,.int .i64 ub,.int .i64 uc,.int .i64 ud])/\BW W.heap.size W w':=fun W hW=>by
        have h1:BW wJ.heap.size wJ W:=a.trans ((hV.low.trans (hW.mono hV.low.size)).mono a.size);have:=Akr (aG.ko.drop h1) n;rw [aM,<- aE.out] at this;exact this
       have kf:∀ W,CS prog 21 #[.agg #[.int .i64 ua,.int .i64 ub,.int .i64 uc,.int .i64 ud],.agg #[.int .i64 ca,.int .i64 cb,.int .i64 cc,.int .i64 cd]] W fun e w'=>e=.returned (.bool true)/\BW W.heap.size W w':=fun W=>by
        have:=Azi ⟨ua,ub,uc,ud⟩ ⟨ca,cb,cc,cd⟩ W;rw [Pl.Kn.2 bc] at this;exact this
       have cA:∀ W:WD,(Op.equalIn 10000 30 (.agg #[.int .i64 ua,.int .i64 ub,.int .i64 uc,.int .i64 ud]) (.agg #[.int .i64 ua,.int .i64 ub,.int .i64 uc,.int .i64 ud])).run prog W=.ok true W:=fun W=>(Z2 ⟨ua,ub,uc,ud⟩ ⟨ua,ub,uc,ud⟩ W).trans (by simp)
       have hS:∀ W',BW wk.heap.size wk W'->W'.cell? ⟨vb,0,none⟩=some (.int .i64 ua)/\W'.cell? ⟨vb,1,none⟩=some (.int .i64 ub)/\W'.cell? ⟨vb,2,none⟩=some (.int .i64 uc)/\W'.cell? ⟨vb,3,none⟩=some (.int .i64 ud)/\W'.cell? ⟨q,0,none⟩=some (.slice (some ⟨ng,0,none⟩) fn fc)/\W'.cell? ⟨ng,n*6+1,none⟩=some (.int .i64 ca)/\W'.cell? ⟨ng,n*6+2,none⟩=some (.int .i64 cb)/\W'.cell? ⟨ng,n*6+3,none⟩=some (.int .i64 cc)/\W'.cell? ⟨ng,n*6+4,none⟩=some (.int .i64 cd):=fun W' hW=>by
        have h1:BW wJ.heap.size wJ W':=a.trans ((hV.low.trans (hW.mono hV.low.size)).mono a.size);have aF:=Ae hW hV.vec (Ab hV.vec);rw [<- aK.out] at aF;exact ⟨Aa aF 0,Aa aF 1,Aa aF 2,Aa aF 3,aL W' h1,(Ag h1 ap).trans (aT 1 (by omega)),(Ag h1 ap).trans (aT 2 (by omega)),(Ag h1 ap).trans (aT 3 (by omega)),(Ag h1 ap).trans (aT 4 (by omega))⟩
       have l:BW wk.heap.size wk wk.drew:=(Below.refl _ _).drew;replace ⟨hu,aM,bo,am,aI,bc,ap,aT⟩:=H8 hu aM bo am aI bc ap aT;replace ⟨kb,kf,hS,l⟩:=H4 kb kf hS l;go_upto_region 28 with fail;go_cut [128] (fun bv wx=>xy wk bv wx)
       case first=>
        go_region_held3 (fun W'=>W'.cell? ⟨vb,0,none⟩=some (.int .i64 ua)/\W'.cell? ⟨vb,1,none⟩=some (.int .i64 ub)/\W'.cell? ⟨vb,2,none⟩=some (.int .i64 uc)/\W'.cell? ⟨vb,3,none⟩=some (.int .i64 ud)/\W'.cell? ⟨q,0,none⟩=some (.slice (some ⟨ng,0,none⟩) fn fc)/\W'.cell? ⟨ng,n*6+1,none⟩=some (.int .i64 ca)/\W'.cell? ⟨ng,n*6+2,none⟩=some (.int .i64 cb)/\W'.cell? ⟨ng,n*6+3,none⟩=some (.int .i64 cc)/\W'.cell? ⟨ng,n*6+4,none⟩=some (.int .i64 cd))
         (first
           | with_reducible exact hS.out _ l.out)
         (first
           | (go_at_call 17
              (with_reducible refine (kb.out _ l.out).mono ?_)
              rintro e wz ⟨rfl,aW⟩;replace l:=Hh (l.trans (aW.mono l.size))
              clear aW)
           | (go_at_call 21
              (with_reducible refine (kf.out _).mono ?_)
              rintro e wz ⟨rfl,aW⟩;replace l:=Hh (l.trans (aW.mono l.size))
              clear aW))
        all_goals
         go_wp2_with fail;go_meet
         case rel=>exact ⟨rfl,l.out⟩
       case rest=>
       obtain ⟨rfl,bJ⟩:=hcut;have r:=a.trans ((hV.low.trans (bJ.mono hV.low.size)).mono a.size);replace ⟨bJ,r⟩:=H2 bJ r;go_wp2_with fail;go_roundw
       case rel=>exact ⟨n+1,by go_num,by omega,r.out⟩
       case measure=>simp [intOf];omega
    .have bV:¬ (n:Int)<fn:=(by omega);have bw:=aG.drop a.out;replace bw:=Hh bw;go_wp2_with fail;go_roundw
     case rel=>exact ⟨i+1,T',by go_num,by omega,aE,bb,bw.out⟩
     case measure=>simp [intOf];omega
  .have b5:¬ (i:Int)<m:=(by omega);have r:=b1.trans (hF.ko.low.mono b1.size);replace r:=Hh r;go_wp2_with fail;go_ret;exact ⟨rfl,r.out⟩
def vi:ByteArray:=⟨#[110,49,32,50,44,50,44,48,44,48,32,109,97,105,110,10]⟩
def Acz:ByteArray:=⟨#[109,97,105,110]⟩
def Jo:ByteArray:=⟨#[97,110,97]⟩
def fy:au:=⟨⟨#[110,49]⟩,⟨2,2,0,0⟩,[Acz]⟩
def Azw:Ej vi=([fy],0,0):=by kernel_rfl
def nw:dn:=⟨Jo,Acz,1,⟨1,0,0,0⟩,5,0,3,0,false,[]⟩
def oj (id:Int):Jb:=⟨id,{ nw with array:=1,after:=[] },⟨1,0,0,false,false⟩,-1,[],[]⟩
def vx (id:Int):Jb:=⟨id,{ nw with array:=1,after:=[] },⟨3,1,0,false,false⟩,1,[0],[(0,0)]⟩
def xt:Jb:=⟨1,{ nw with array:=1,after:=[] },⟨5,1,0,false,false⟩,1,[0],[]⟩
def vw:Jb:=⟨3,{ nw with array:=1,after:=[] },⟨1,0,0,false,false⟩,14,[0],[]⟩
def Alk:du:=⟨0,-1,[],[⟨false,false,-1⟩],[]⟩
def Px:du:=⟨0,-1,[],[⟨true,false,0⟩],[]⟩
def F1:du:=⟨0,-1,[(1,⟨1,0,1,3⟩)],[⟨true,false,0⟩],[oj 1,oj 2,oj 3]⟩
def Yi:du:=⟨0,1,[(1,⟨1,0,1,3⟩)],[⟨true,false,0⟩],[vx 1,vx 2,vw]⟩
def Ac0:du:=⟨0,1,[(1,⟨1,0,1,3⟩)],[⟨true,false,0⟩],[xt,vx 2,vw]⟩
def Azx:ee:=⟨⟨9,0,0,0,0,0,0,0,0⟩,[]⟩
def Ac1:ee:=⟨⟨2,0,0,1,1,0,0,0,0⟩,[nw]⟩
def Yj:ee:=⟨⟨6,0,1,0,0,0,0,0,0⟩,[]⟩
def Azy:ee:=⟨⟨7,0,0,0,0,1,1,0,1⟩,[]⟩
def Azz:Eo [fy] Alk Azx=(Px,⟨0,0,0,0⟩,0):=by kernel_rfl
def Az0:Ga 1 [3] [[]]=([[]],0):=by
 have h1:Ji ([([]:List Int)].map (Kq 1 [3]))=true:=by kernel_rfl
 have a:(Cy 1 [3] ([]:List Int) 0).2=[]:=by kernel_rfl
 unfold Ga;rw [Ac (by decide),Ac (by decide),Ac (by decide),Ac (by rw [h1];simp)];have b:J6 1 [3] []=[]:=by unfold J6;show Lib.compact (J5 (Cy 1 [3] ([]:List Int) 0).2)=[];rw [a];simp [J5,Lib.compact,Lib.compactUpTo]
 simp [b]
def All:B7 [fy] 0 [nw]=([[]],0):=by
 have h:B7 [fy] 0 [nw]=Ga 1 [3] [[]]:=by kernel_rfl
 rw [h,Az0]
def Az1:Eo [fy] Px Ac1=(F1,⟨0,0,1,3⟩,0):=by
 have h1:Fl [fy] Px Ac1=(B7 [fy] 0 [nw]).2:=by kernel_rfl
 have a:Mq [fy] Px [nw]=(⟨0,-1,[],[⟨true,false,0⟩],[oj 1,oj 2,oj 3]⟩,⟨0,0,1,3⟩):=by
  unfold Mq;rw [show B7 [fy] Px.ab.length [nw]=([[]],0) from All]
  kernel_rfl
 have b:dp [fy] Px Ac1=Mq [fy] Px [nw]:=by kernel_rfl
 unfold Eo;rw [Ac (by rw [h1,All];simp),b,a];rfl
def Az2:Eo [fy] Yi Azy=(Ac0,⟨0,0,0,0⟩,0):=by kernel_rfl
def Az3:L5 Ac0.ab 0=⟨1,0,0,0⟩:=by kernel_rfl
def Alm:Cs 1 F1.ab=F1.ab:=by kernel_rfl
def Az4:Br F1.ab=[⟨1,Jo,0,⟨1,0,0,0⟩⟩,⟨2,Jo,0,⟨1,0,0,0⟩⟩,⟨3,Jo,0,⟨1,0,0,0⟩⟩]:=by kernel_rfl
def Aln:Dy F1.ab=[]:=by kernel_rfl
def Az5:Du F1.ab=[]:=by kernel_rfl
def Alo:r6 { F1 with tick:=1 }=[true]:=by kernel_rfl
def Q6:List df:=[⟨1,Jo,0,⟨1,0,0,0⟩⟩,⟨2,Jo,0,⟨1,0,0,0⟩⟩,⟨3,Jo,0,⟨1,0,0,0⟩⟩]
def Az6:C1 [] Q6=[⟨Jo,V4.zero,[0,1,2]⟩]:=by
 have h1:B8 Q6 Q6.length=[⟨Jo,V4.zero,[0,1,2]⟩]:=by kernel_rfl
 have a:Gn Q6 [0,1,2]=[0,1,2]:=by unfold Gn;simp [List.mergeSort,List.MergeSort.Internal.splitInTwo,uu,A6,Q6]
 unfold C1;rw [h1];simp [a]
def Az7 (whole:V4) (b:whole=⟨2,2,0,0⟩):Lb whole [] Q6=[0,1,2]:=by
 subst b;have a:Fu [⟨Jo,V4.zero,[0,1,2]⟩]=[Jo]:=by unfold Fu;simp [List.mergeSort_singleton,Jo]
 unfold Lb;rw [Az6,a];rfl
def Alp:En [fy] F1.ab=[F0 [fy] (oj 1),F0 [fy] (oj 2),F0 [fy] (oj 3)]:=by
 unfold En;rw [Az4,Az5];rw [show ([⟨1,Jo,0,⟨1,0,0,0⟩⟩,⟨2,Jo,0,⟨1,0,0,0⟩⟩,⟨3,Jo,0,⟨1,0,0,0⟩⟩]:List df)=Q6 from rfl,Az7 _ (by kernel_rfl)]
 kernel_rfl
def Ac2 (a:Int):Pl.U2 (F0 [fy] (oj a)) ⟨1,0,0,0⟩ 13:=⟨by show Dc [fy] Acz=[0];kernel_rfl,rfl,rfl,rfl,rfl⟩
def Az8 (h:Q4 [fy] 1 [true] F1.ab):J3 [fy] 1 [true] F1.ab=[(1,1,[0]),(2,1,[0]),(3,14,[0])]:=by
 unfold Q4 at h;unfold J3;rw [Aln,Alp] at h;rw [Aln,Alp];rcases h with ⟨r,h1,d⟩ | ⟨a,c⟩
 .exact absurd (Pl.Azv d (by decide) (by decide) (by decide)) h1
 .have e:=Pl.Azu (a1:=F0 [fy] (oj 1)) (a2:=F0 [fy] (oj 2)) (a3:=F0 [fy] (oj 3)) c (Ac2 1) (Ac2 2) (Ac2 3);have b:=Ah3 c;rw [e] at b;exact b
def Az9 (h:Sy [fy] F1 Yj):Eo [fy] F1 Yj=(Yi,⟨0,0,0,0⟩,0):=by
 have h1:Fl [fy] F1 Yj=0:=by kernel_rfl
 have a:=h h1 rfl;have a:Q4 [fy] 1 (r6 { F1 with tick:=1 }) (Cs 1 F1.ab):=a;rw [Alo,Alm] at a;have b:dp [fy] F1 Yj=(So [fy] F1 1,⟨0,0,0,0⟩):=by kernel_rfl
 have c:So [fy] F1 1=Yi:=by
  unfold So Mn;rw [Alo,Alm,Az8 a]
  kernel_rfl
 unfold Eo;rw [Ac (by rw [h1];simp),b,c];rfl
def A0a:Iq [fy]:=by
 have h:=Zx (Fq vi) [] Wg;have e:(Bf [] (Fq vi)).1=[fy]:=by kernel_rfl
 rw [e] at h;exact h
def A0b (w:WD) (f:Mx w):CS prog 13 #[.string ⟨#[110,49,32,50,44,50,44,48,44,48,32,109,97,105,110,10]⟩] w fun e w'=>e=.returned (.tuple #[.pointer (some ⟨w.heap.size+4,0,none⟩),.int .i64 0,.int .i64 0])/\BW w.heap.size w w'/\ju w' (w.heap.size+4) (w.heap.size+3) (w.heap.size+7) [fy]:=
 (Ad5 vi w f).mono fun e w' h=>by
  obtain ⟨p,b,c,a⟩:=h;rw [Azw] at b a;rcases a with ⟨h1,_⟩ | ⟨_,rfl,d⟩
  .exact absurd rfl h1
  .exact ⟨b,c,d⟩
def A0c {w:WD} {T:Tv} (h:An w T) {b:Nat} {xs:List ay} (f:w.heap[b]?=some (.cells (Au ay.cells xs).toArray 33 (0,0))) (m:xs.length<=1000) (d:∀ a,Mod T.aw w a->∀ x,x∈xs->x.ok a):∀ a,Mod T.aw w a->Jw a (some ⟨b,0,none⟩) xs.length xs:=fun a k=>by
 have c:=k.ar f (h.off f (by decide) (by decide) (by decide) (by decide) (by decide));refine ⟨rfl,by omega,fun i x g=>⟨b,0,rfl,Ab c,fun j l=>?_,d a k x (Ai g)⟩⟩;have e:∀ x:ay,(ay.cells x).size=13:=fun _=>rfl;rw [Da,Aa c (i*13+j),Lr];exact F2 e xs g l
def A0d (w:WD) (hm:Mx w):CS prog 12 #[] w fun e w'=>e=.returned (.bool true)/\BW w.heap.size w w':=by
 have bo:=A0b w hm;have bv:=A0a;replace ⟨bo,bv⟩:=H2 bo bv;go_enter func12,ntmps12;go_wp2_with fail;refine bo.mono ?_;rintro e w1 ⟨rfl,aY,bn⟩;have bs:=Akp bn bv.out;replace ⟨aY,bn,bs⟩:=H3 aY bn bs;go_wp2_with fail;refine bs.mono ?_;rintro e w2 ⟨T,rfl,bb,a7,aM,bQ,bR,bS,bK,bI⟩;obtain ⟨tb,ht⟩:=Ex (T.tb);rw [<- ht];replace aM:T.pl=Alk:=aM;clear bQ bR bS;replace ⟨bb,a7,aM,bK,bI,ht⟩:=H6 bb a7 aM bK bI ht;go_upto_region 6 with fail;obtain ⟨sb,bx⟩:=Ex (w2.heap.size);obtain ⟨W3,aW⟩:=Ex (w2.alloc (.cells #[.string ⟨#[97,110,97]⟩,.string ⟨#[109,97,105,110]⟩,.int .i64 1,.int .i64 1,.int .i64 0,.int .i64 0,.int .i64 0,.int .i64 5,.int .i64 0,.int .i64 3,.int .i64 0,.bool false,.slice none 0 0] 33 (0,0)));have bi:BW w2.heap.size w2 W3:=by rw [aW];exact Bn
 have a8:W3.heap[sb]?=some (.cells (⟨nw,none,0,0⟩:ay).cells 33 (0,0)):=by rw [aW,bx];exact Ah _ _
 have aQ:=bb.drop bi;have f:=Yg ⟨⟨9,0,0,0,0,0,0,0,0⟩,none,0,0,[]⟩ aQ (Ach _ _ (fun i=>by unfold cu.get;split<;>simp)) (fun W' _=>Aci W') (fun c=>absurd c (by decide)) (t':=Px) (c:=⟨0,0,0,0⟩) (r:=0) (by rw [a7.out,aM.out];exact fun _=>Azz);rw [<- ht.out] at f;rw [<- aW,<- bx];clear aW bx;replace ⟨bi,a8,aQ,f⟩:=H4 bi a8 aQ f;go_wp2_with fail;refine f.mono ?_;rintro e w4 ⟨T4,rfl,bc,aN,aU⟩;have bB:=aU.mod.ar a8.out (aQ.tab.off a8.out (by decide) (by decide) (by decide) (by decide) (by decide));have a5:=aU.vs.trans a7.out;have a3:tb=T4.tb:=by rw [aU.tb];exact ht.out
 clear aU;replace ⟨bc,aN,bB,a5,a3⟩:=H5 bc aN bB a5 a3;obtain ⟨y0,y1,y2,y3,y4,y5,y6,y7,y8,y9,bM,bN,bO⟩:=C13 bB.out;(try dsimp only at y0 y1 y2 y3 y4 y5 y6 y7 y8 y9 bM bN bO);have bl:BW w4.heap.size w4 (w4.alloc (.cells #[.string ⟨#[97,110,97]⟩,.string ⟨#[109,97,105,110]⟩,.int .i64 1,.int .i64 1,.int .i64 0,.int .i64 0,.int .i64 0,.int .i64 5,.int .i64 0,.int .i64 3,.int .i64 0,.bool false,.slice none 0 0] 33 (0,0))):=Bn;have bC:(w4.alloc (.cells #[.string ⟨#[97,110,97]⟩,.string ⟨#[109,97,105,110]⟩,.int .i64 1,.int .i64 1,.int .i64 0,.int .i64 0,.int .i64 0,.int .i64 5,.int .i64 0,.int .i64 3,.int .i64 0,.bool false,.slice none 0 0] 33 (0,0))).heap[w4.heap.size]?=some (.cells (Au ay.cells [(⟨nw,none,0,0⟩:ay)]).toArray 33 (0,0)):=Ah _ _;have aT:=bc.drop bl
 have aA:=A0c aT.tab bC (by decide) (fun W' _ x hx=>by
  rw [Jq.1 hx]
  exact ⟨Wl W',Nat.le_refl _,by decide,by decide⟩)
 have f:=Yg ⟨⟨2,0,0,1,1,0,0,0,0⟩,some ⟨w4.heap.size,0,none⟩,1,1,[⟨nw,none,0,0⟩]⟩ aT ⟨aA _ (Mod.refl _ _),Nat.le_refl _,fun i=>by unfold cu.get;split<;>simp⟩ aA (fun c=>absurd (show (2:Int)=6 from c) (by decide)) (t':=F1) (c:=⟨0,0,1,3⟩) (r:=0) (by rw [a5.out,aN.out];exact fun _=>Az1);rw [<- a3.out] at f;replace ⟨bl,bC,aT,aA,f⟩:=H5 bl bC aT aA f;go_wp2_with fail;refine f.mono ?_;rintro e w6 ⟨T6,rfl,bd,ad,bf⟩;have a6:=bf.vs.trans a5.out;have a4:tb=T6.tb:=by rw [bf.tb];exact a3.out
 clear bf y0 y1 y2 y3 y4 y5 y6 y7 y8 y9 bM bN bO;replace ⟨bd,ad,a6,a4⟩:=H4 bd ad a6 a4;go_upto_region 8 with fail;obtain ⟨rb,bw⟩:=Ex (w6.heap.size);obtain ⟨W7,aX⟩:=Ex (w6.alloc (.cells #[.int .i64 0,.int .i64 1,.int .i64 3] 35 (0,0)));have bk:BW w6.heap.size w6 W7:=by rw [aX];exact Bn
 have a0:W7.heap[rb]?=some (.cells #[.int .i64 0,.int .i64 1,.int .i64 3] 35 (0,0)):=by rw [aX,bw];exact Ah _ _
 have aR:=bd.drop bk;have bJ:T6.js.length=3:=by have:=Ca (fun t:du=>t.ab.length) ad.out;simpa [Tv.pl,F1] using this
 have f:=Yg ⟨⟨6,0,1,0,0,0,0,0,0⟩,none,0,0,[]⟩ aR (Ach _ _ (fun i=>by unfold cu.get;split<;>simp)) (fun W' _=>Aci W') (fun _=>by omega) (t':=Yi) (c:=⟨0,0,0,0⟩) (r:=0) (by rw [a6.out,ad.out];exact Az9);rw [<- a4.out] at f;rw [<- aX,<- bw];clear aX bw bJ;replace ⟨bk,a0,aR,f⟩:=H4 bk a0 aR f;go_wp2_with fail;refine f.mono ?_;rintro e w8 ⟨T8,rfl,be,al,aV⟩;have a1:=aV.mod.ar a0.out (aR.tab.off a0.out (by decide) (by decide) (by decide) (by decide) (by decide));have bA:=aV.vs.trans a6.out;have aP:tb=T8.tb:=by rw [aV.tb];exact a4.out
 clear aV;replace ⟨be,al,a1,bA,aP⟩:=H5 be al a1 bA aP;go_upto_region 9 with fail;obtain ⟨W9,bg⟩:=Ex (w8.alloc (.cells #[.int .i64 0,.int .i64 0,.int .i64 0] 35 (0,0)));have aZ:BW w8.heap.size w8 W9:=by rw [bg];exact Bn
 obtain ⟨q8,bL⟩:=Ex (w8.heap.size);have a2:=Ae aZ a1.out (Ab a1.out);have aS:=be.drop aZ;have kj:=Akq aS (k:=2) (jp:=vw) (by rw [al.out];rfl) 3 rfl;rw [<- aP.out] at kj;rw [<- bg,<- bL];clear bg bL;replace ⟨aZ,a2,aS,kj⟩:=H4 aZ a2 aS kj;go_wp2_with fail;refine kj.mono ?_;rintro e j ⟨y,rfl,hy,z⟩;have am:=Ae z a2.out (Ab a2.out);have o:=aS.drop z;have ys:y.pl.start=14:=by rw [hy];rfl
 have bF:y.pl.lf.st=1:=by rw [hy];rfl
 have aG:(j.alloc (.cells Jz 46 (0,0))).heap[j.heap.size]?=some (.cells aj.zero.cells 46 (0,0)):=Ah _ _;replace ⟨am,o,z,hy,ys,bF,aG⟩:=H7 am o z hy ys bF aG;go_upto_region 10 with (refine Nu rfl 46 _ _ rfl j.heap.size y.cells rfl rfl 46 _ aG.out Kr rfl (Pt y) ?_);obtain ⟨bH,hW⟩:=Ex ((j.alloc (.cells Jz 46 (0,0))).setRow j.heap.size y.cells);obtain ⟨jb,m⟩:=Ex (j.heap.size);have b:BW j.heap.size j bH:=by rw [hW];exact Q2 Bn Ln _
 have a:bH.heap[jb]?=some (.cells y.cells 46 (0,0)):=by rw [hW,m];exact My _ _ _ _ 46 (0,0) aG.out
 have n:¬ T8.aw jb:=fun c=>by have:=o.tab.my c;omega
 rw [<- hW,<- m];clear hW m;have an:=Ae b am.out (Ab am.out);have p:=o.drop b;have f:=Yg ⟨⟨7,0,0,0,0,1,1,0,1⟩,none,0,0,[]⟩ p (Ach _ _ (fun i=>by unfold cu.get;split<;>simp)) (fun W' _=>Aci W') (fun c=>absurd c (by decide)) (t':=Ac0) (c:=⟨0,0,0,0⟩) (r:=0) (by rw [bA.out,al.out];exact fun _=>Az2);rw [<- aP.out] at f;clear b;replace ⟨an,p,a,f,n⟩:=H5 an p a f n;go_wp2_with fail;refine f.mono ?_;rintro e a9 ⟨bG,rfl,aJ,d,v⟩;have ao:=v.mod.ar an.out (p.tab.off an.out (by decide) (by decide) (by decide) (by decide) (by decide));have aC:=v.mod.ar a.out n.out;have aB:tb=bG.tb:=by rw [v.tb];exact aP.out
 clear v;replace ⟨aJ,d,ao,aC,aB⟩:=H5 aJ d ao aC aB;go_upto_region 11 with fail;obtain ⟨bP,aK⟩:=Ex (a9.alloc (.cells #[.int .i64 0,.int .i64 0,.int .i64 0] 35 (0,0)));have g:BW a9.heap.size a9 bP:=by rw [aK];exact Bn
 obtain ⟨bT,ba⟩:=Ex (a9.heap.size);have ap:=Ae g ao.out (Ab ao.out);have aD:=Ae g aC.out (Ab aC.out);have q:=aJ.drop g;have kj:=Akq q (k:=0) (jp:=xt) (by rw [d.out];rfl) 1 rfl;rw [<- aB.out] at kj;rw [<- aK,<- ba];clear aK ba;replace ⟨g,ap,aD,q,kj⟩:=H5 g ap aD q kj;go_wp2_with fail;refine kj.mono ?_;rintro e l ⟨y2,rfl,bD,h⟩;have av:=Ae h ap.out (Ab ap.out);have aE:=Ae h aD.out (Ab aD.out);have s:=q.drop h;have aH:(l.alloc (.cells Jz 46 (0,0))).heap[l.heap.size]?=some (.cells aj.zero.cells 46 (0,0)):=Ah _ _;replace ⟨av,aE,s,h,bD,aH⟩:=H6 av aE s h bD aH;go_upto_region 12 with (refine Nu rfl 46 _ _ rfl l.heap.size y2.cells rfl rfl 46 _ aH.out Kr rfl (Pt y2) ?_);replace a:=a;clear a n;obtain ⟨aI,hW⟩:=Ex ((l.alloc (.cells Jz 46 (0,0))).setRow l.heap.size y2.cells);obtain ⟨bE,m⟩:=Ex (l.heap.size);have b:BW l.heap.size l aI:=by rw [hW];exact Q2 Bn Ln _
 have a:aI.heap[bE]?=some (.cells y2.cells 46 (0,0)):=by rw [hW,m];exact My _ _ _ _ 46 (0,0) aH.out
 have n:¬ bG.aw bE:=fun c=>by have:=s.tab.my c;omega
 rw [<- hW,<- m];clear hW m;have aO:=Ae b av.out (Ab av.out);have aF:=Ae b aE.out (Ab aE.out);have u:=s.drop b;obtain ⟨b0,b1,b2⟩:=C3 aO;(try dsimp only at b0 b1 b2);have b3:aI.cell? ⟨jb,19,none⟩=some (.int .i64 14):=by rw [<- ys.out];exact Aa aF 19
 have b4:aI.cell? ⟨jb,14,none⟩=some (.int .i64 1):=by rw [<- bF.out];exact Aa aF 14
 have b5:aI.cell? ⟨bE,14,none⟩=some (.int .i64 5):=by
  have e:y2.pl.lf.st=5:=by rw [bD.out];rfl
  rw [<- e];exact Aa a 14
 have kb:=Akr u 0;rw [d.out,<- aB.out,Az3] at kb;have ac:=aY.trans (u.low.mono aY.size);replace ⟨b,aO,aF,u,a,kb,n,ac⟩:=H8 b aO aF u a kb n ac
 have hq:∀ W:WD,(Op.equalIn 10000 30 (.agg #[.int .i64 1,.int .i64 0,.int .i64 0,.int .i64 0]) (.agg #[.int .i64 1,.int .i64 0,.int .i64 0,.int .i64 0])).run prog W=.ok true W:=fun W=>by
  have:=Z2 ⟨1,0,0,0⟩ ⟨1,0,0,0⟩ W;simpa using this
 go_wp2_with (go_at_call 17;(with_reducible refine (kb.out).mono ?_);rintro e bU ⟨rfl,aL⟩;replace aL:=Hh aL);go_ret;exact ⟨rfl,ac.trans (aL.mono ac.size)⟩
