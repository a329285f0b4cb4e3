/- Parts of a proof. No condition. -/
import Derived.Test.YtimlcnhcjndijaaGreatDoorH26
import Derived.Test.YtimlcnhcjndijaaGreatDoorH28
import Derived.Test.YtimlcnhcjndijaaGreatDoorH29
set_option linter.all false
set_option maxRecDepth 100000
set_option maxHeartbeats 4000000
namespace Go.Proofs.YtimlcnhcjndijaaGreatDoor
open Option renaming some->O,none->I
open Value renaming slice->V,int->Z,bool->Y,tuple->D
open IntKind renaming i64->G
open Obj renaming cells->J
open Ending renaming returned->Q
open Go renaming World->WD,Value->VL,Calls->CS
open Go.RowKit renaming Below->BW
open Go.Proofs.Tryz
section
open Go.RowKit Go.Maps Go.Lib
structure Q9 (w:WD) (ao:Option Addr) (n:Nat) (ls:List (List Int)):Prop where
 len:ls.length=n
 max:n<=1000
 cell:∀i l,ls[i]?=O l->∃b off so sc,ao=O ⟨b,off,I⟩/\b<w.heap.size/\w.cell? ⟨b,off+i,I⟩=O (V so l.length sc)/\Ao w so l.length l/\l.length<=sc/\l.length<=100000
def Q9.get {w:WD} {b:Option Addr} {n:Nat} {a:List (List Int)} (h:Q9 w b n a) {i:Nat} (c:i<n):∃l,a[i]?=O l:=⟨a[i]'(by rw[h.len];exact c),Az _⟩
structure im (w:WD) (n bc:Nat) (svs:List VL) (st:List Int×List (List Int)) (wr:WD):Prop where
 low:BW w.heap.size w wr
 left:Aj wr w.heap.size (V (O ⟨w.heap.size,0,I⟩) n n) st.1
 back:Cy wr w.heap.size (w.heap.size+1) bc svs st.2
 ne:∀(i:Nat) (sv:VL),svs[i]?=O sv->sv.ownBlock≠O w.heap.size
 l1:st.1.length=n
 l2:st.2.length=n
variable {w wr w1:WD} {n bc:Nat} {svs:List VL} {st:List Int×List (List Int)}
def im.tr (h:im w n bc svs st wr) (o:Nat):wr.frozen? ⟨w.heap.size,o,I⟩=false:=by
 obtain⟨c,a,_⟩:=Cq h.left.row (g:=w.heap.size) rfl;exact Ag a o
def im.size (h:im w n bc svs st wr):w.heap.size+1<wr.heap.size:=h.back.ar.2.1
def im.drop (h:im w n bc svs st wr) (a:BW wr.heap.size wr w1):im w n bc svs st w1:=
 ⟨h.low.trans (a.mono h.low.size),h.left.mod (Mod.ag (S:=λ_=>False) a) (λ_ _ c=>c),h.back.low a,h.ne,h.l1,h.l2⟩
def im.ml (h:im w n bc svs st wr) (i:Nat) (y:Int):im w n bc svs (st.1.set i y,st.2) (wr.setCell ⟨w.heap.size,i,I⟩ (Z G y)):=by
 have d:Mod (λk=>k=w.heap.size) wr (wr.setCell ⟨w.heap.size,i,I⟩ (Z G y)):=Mod.setCell wr w.heap.size i _ rfl;refine⟨Db h.low Ln,⟨?_⟩,h.back.off d ao9 (λj f b k c e=>h.ne j f b (by rw[c,e])),h.ne,by rw[Dl];exact h.l1,h.l2⟩;have a:=h.left.row;rw[h.l1]at a;have:=(a.stored i (Z G y)).1;rw[Dl,h.l1];have e:Bj (st.1.set i y)=(Bj st.1).set i (Z G y):=by simp[Bj,Mz]
 rw[e];exact this
def im.grow (h:im w n bc svs st wr) (q:BW wr.heap.size wr w1) {w2:WD} {i:Nat} {c f:VL} {l l':List Int} (g:svs[i]?=O c) (r:st.2[i]?=O l) (m:w1.grownBy w2 c.ownBlock) (t:Aj w2 w.heap.size f l')
  (p:∀k,f.ownBlock=O k->c.ownBlock=O k\/k=w1.heap.size):im w n bc (svs.set i f) (st.1,st.2.set i l') (w2.setCell ⟨w.heap.size+1,i,I⟩ f):=by
 have h1:=h.drop q;have d:=h1.back.put g r m t p;have o:=(h1.back.each i c l g r).lt;have x:=h.size;have v:=q.size;refine⟨Db ?_ ao9,?_,d,?_,h.l1,by rw[Dl];exact h.l2⟩
 .exact h1.low.grown m h1.low.size (λk a=>(o k a).1)
 .have s:=Mod.grown m (λk a=>a);exact(h1.left.mod s (λk a e=>by simp[Value.ownBlock]at a;subst a;exact h.ne i c g e)).mod (Mod.setCell (S:=λk=>k=w.heap.size+1) w2 (w.heap.size+1) i f rfl) (λk a e=>by simp[Value.ownBlock]at a;omega)
 .intro j u b e;rw[Do]at b;split at b
  .split at b
   .injection b with b;subst b;rcases p _ e with e|e
    .exact h.ne i c g e
    .omega
   .cases b
  .exact h.ne j u b e
structure il (w:WD) (n bc:Nat) (svs:List VL) (back:List (List Int)) (fv ov:VL) (s:qz) (wr:WD):Prop where
 or:im w n bc svs (s.left,back) wr
 free:C6 wr w.heap.size fv s.free
 out:Aj wr w.heap.size ov s.out
 f0:fv.ownBlock≠O w.heap.size
 fs:∀(i:Nat) (sv:VL),svs[i]?=O sv->∀k,fv.ownBlock=O k->sv.ownBlock≠O k
 o0:ov.ownBlock≠O w.heap.size
 os:∀(i:Nat) (sv:VL),svs[i]?=O sv->∀k,ov.ownBlock=O k->sv.ownBlock≠O k
 fo:∀k,fv.ownBlock=O k->ov.ownBlock≠O k
variable {back:List (List Int)} {fv ov fv' ov':VL} {s:qz} {w2:WD} {l':List Int}
def C6.uw {v:VL} {l:List Int} {B b:Nat} {c:Array VL} (h:C6 w B v l) (a:w.heap[b]?=O (J c 31 (0,0))):v.ownBlock≠O b:=λe=>by
 obtain⟨f,d⟩:=h.ar e;rw[d]at a;injection a with a;injection a with _ a;exact absurd a ad9
def il.drop (h:il w n bc svs back fv ov s wr) (a:BW wr.heap.size wr w1):il w n bc svs back fv ov s w1:=
 ⟨h.or.drop a,h.free.mod (Mod.ag (S:=λ_=>False) a) (λ_ _ c=>c),h.out.mod (Mod.ag (S:=λ_=>False) a) (λ_ _ c=>c),h.f0,h.fs,h.o0,h.os,h.fo⟩
def il.ml (h:il w n bc svs back fv ov s wr) (i:Nat) (y:Int):il w n bc svs back fv ov ⟨s.left.set i y,s.free,s.out⟩ (wr.setCell ⟨w.heap.size,i,I⟩ (Z G y)):=
 have b:Mod (λk=>k=w.heap.size) wr (wr.setCell ⟨w.heap.size,i,I⟩ (Z G y)):=Mod.setCell wr w.heap.size i _ rfl
 ⟨h.or.ml (st:=(s.left,back)) i y,h.free.mod b (λk a e=>h.f0 (by rw[a,e])),h.out.mod b (λk a e=>h.o0 (by rw[a,e])),h.f0,h.fs,h.o0,h.os,h.fo⟩
def im.iz (h:im w n bc svs st wr) {S:Nat->Prop} (a:Mod S wr w1) (h0:¬S w.heap.size) (h1:¬S (w.heap.size+1)) (f:∀(i:Nat) (d:VL),svs[i]?=O d->∀k,d.ownBlock=O k->¬S k) (e:∀k,S k->w.heap.size<=k):im w n bc svs st w1:=
 ⟨⟨a.os.trans h.low.os,a.tape.trans h.low.tape,a.output.trans h.low.output,Aw h.low.size a.size,λk b=>(a.block k (B4 b h.low.size) (λc=>by have:=e k c;omega)).trans (h.low.block k b)⟩,
  h.left.mod a (λk b=>by simp[Value.ownBlock]at b;subst b;exact h0),h.back.off a h1 f,h.ne,h.l1,h.l2⟩
def il.su (h:il w n bc svs back fv ov s wr) (m:BW wr.heap.size wr w1) (l:Mod (λb=>fv.ownBlock=O b) w1 w2) (r:C6 w2 w.heap.size fv' l') (g:∀k,fv'.ownBlock=O k->fv.ownBlock=O k\/k=w1.heap.size):il w n bc svs back fv' ov ⟨s.left,l',s.out⟩ w2:=by
 have h1:=h.drop m;obtain⟨t,q,c,p⟩:=h1.or.back.ar;refine⟨h1.or.iz l h.f0 (h1.free.uw p) (λi f d k a e=>h.fs i f d k e a) (λk a=>(h.free.lt k a).1),r,h1.out.mod l (λk a e=>h.fo k e a),λe=>?_,λi f d k a e=>?_,h.o0,h.os,λk a e=>?_⟩
 .rcases g _ e with e|e
  .exact h.f0 e
  .omega
 .rcases g k a with c|c
  .exact h.fs i f d k c e
  .have j:i<back.length:=(by have o:svs.length=back.length:=h.or.back.len;have:=(Ap.1 d).1;omega);have:=((h1.or.back.each i f _ d (Az j)).lt k e).2;omega
 .rcases g k a with c|c
  .exact h.fo k c e
  .have:=(h1.out.lt k e).2;omega
def il.ux (h:il w n bc svs back fv ov s wr) (m:BW wr.heap.size wr w1) (l:Mod (λb=>ov.ownBlock=O b) w1 w2) (r:Aj w2 w.heap.size ov' l') (g:∀k,ov'.ownBlock=O k->ov.ownBlock=O k\/k=w1.heap.size):il w n bc svs back fv ov' ⟨s.left,s.free,l'⟩ w2:=by
 have h1:=h.drop m;obtain⟨t,q,c,p⟩:=h1.or.back.ar;refine⟨h1.or.iz l h.o0 (Bx h1.out.row p ad9) (λi f d k a e=>h.os i f d k e a) (λk a=>(h.out.lt k a).1),h1.free.mod l (λk a e=>h.fo k a e),r,h.f0,h.fs,λe=>?_,λi f d k a e=>?_,λk a e=>?_⟩
 .rcases g _ e with e|e
  .exact h.o0 e
  .omega
 .rcases g k a with c|c
  .exact h.os i f d k c e
  .have j:i<back.length:=(by have o:svs.length=back.length:=h.or.back.len;have:=(Ap.1 d).1;omega);have:=((h1.or.back.each i f _ d (Az j)).lt k e).2;omega
 .rcases g k e with c|c
  .exact h.fo k a c
  .have:=(h1.free.lt k a).2;omega
def il.tail {g a m cap:Nat} {x:Int} {l:List Int} (h:il w n bc svs back (V (O ⟨g,a,I⟩) m cap) ov s wr) (c:s.free=x :: l):il w n bc svs back (V (O ⟨g,if cap=1 then a else a+1,I⟩) l.length (cap-1)) ov ⟨s.left,l,s.out⟩ wr:=by
 have b:=h.free;rw[c]at b;exact⟨h.or,b.tail,h.out,h.f0,h.fs,h.o0,h.os,h.fo⟩
structure qy (w:WD) (n bc:Nat) (svs:List VL) (st:List Int×List (List Int)) (fv:VL) (l:List Int) (wr:WD):Prop where
 or:im w n bc svs st wr
 free:Aj wr w.heap.size fv l
 f0:fv.ownBlock≠O w.heap.size
 fs:∀(i:Nat) (sv:VL),svs[i]?=O sv->∀k,fv.ownBlock=O k->sv.ownBlock≠O k
def qy.start (h:im w n bc svs st wr):qy w n bc svs st (V I 0 0) [] wr:=
 ⟨h,Aj.nil _ _,by simp[Value.ownBlock],λ_ _ _ k a=>by simp[Value.ownBlock]at a⟩
def qy.q {l:List Int} (h:qy w n bc svs (s.left,back) fv l wr):il w n bc svs back fv (V I 0 0) ⟨s.left,l,[]⟩ wr:=
 ⟨h.or,C6.of h.free,Aj.nil _ _,h.f0,h.fs,by simp[Value.ownBlock],λ_ _ _ k a=>by simp[Value.ownBlock]at a,λk a=>by simp[Value.ownBlock]⟩
def qy.set {l:List Int} (h:qy w n bc svs st fv l wr) (m:BW wr.heap.size wr w1) (s:Mod (λb=>fv.ownBlock=O b) w1 w2) (t:Aj w2 w.heap.size fv' l') (j:∀k,fv'.ownBlock=O k->fv.ownBlock=O k\/k=w1.heap.size):qy w n bc svs st fv' l' w2:=by
 have h1:=h.or.drop m;have o:=h.free.mod (Mod.ag (S:=λ_=>False) m) (λ_ _ c=>c);obtain⟨u,r,c,q⟩:=h1.back.ar;refine⟨h1.iz s h.f0 (Bx o.row q ad9) (λi f a k d e=>h.fs i f a k e d) (λk d=>(o.lt k d).1),t,λe=>?_,λi f a k d e=>?_⟩
 .rcases j _ e with e|e
  .exact h.f0 e
  .omega
 .rcases j k d with c|c
  .exact h.fs i f a k c e
  .have g:i<st.2.length:=(by have p:=h.or.back.len;have:=(Ap.1 a).1;omega);have:=((h1.back.each i f _ a (Az g)).lt k e).2;omega
def Awh {v:VL} {l:List Int} {B:Nat} (h:C6 w B v l) (i:l.Pairwise (·<=·)) (k:Int) (m:l.length<=1000000) :
  CS prog 264 #[v,Z G k] w λe w'=>(∃b,e=Q (D #[Z G (l.countP (·<k):Nat),Y b]))/\∃q,w'=w.drewN q:=by
 by_cases h0:l=[]
 .obtain ⟨so,c,rfl,_⟩:=h.form;subst h0;refine(Tryz.slices_BinarySearch_int_empty so c k w).mono ?_;rintro e w' ⟨rfl,rfl⟩;exact⟨⟨_,rfl⟩,0,rfl⟩
 .obtain ⟨g,a,cap,rfl,_,_,_,_,f⟩:=h.pos (Zp.2 h0);refine(Tryz.slices_BinarySearch_int g a l.length cap l k w Ln ao9 (λj d=>by rw[f j l[j] (Az d)];simp[List.getD,d]) (by rw[Oy];exact i)).mono ?_;rintro e w' ⟨rfl,q⟩;rw[Oy];exact⟨⟨_,rfl⟩,q⟩
end
section
open Go.RowKit Go.Maps Go.Lib
def Ajr:(prog.info? 31).map (λi=>(i.zero,i.size,i.bytes))=O (O (V I 0 0),1,24):=by kernel_rfl
def Ajs (z:VL) (b:z.cells=#[z]) (n:Nat):madeCells z.cells n=(List.replicate n z).toArray:=by
 apply Wc.1;apply Eg;intro j;by_cases a:j<n
 .simp [madeCells,b,a,Nat.mod_one]
 .simp [madeCells,b,a]
def Ajt (n:Nat) (d:n<=1000000):∀w:WD,(Instr.makeSlice 31 (Z G (n:Int)) (Z G (n:Int))).run prog w=.ok (V (O ⟨w.heap.size,0,I⟩) n n) (w.alloc (J (List.replicate n (Value.int G 0)).toArray 3 (0,0))):=by
 intro w;obtain⟨i,b,c,h1,a⟩:=B6 Lx;have:=Rv (P:=prog) w 31 3 i _ Nx b c G G n n ao9 ao9 (by rw[a];omega) ao9;rw[this];simp only[J7,h1,P6];rw[Ajs _ rfl]
def Aju (n:Nat) (d:n<=1000000):∀w:WD,(Instr.makeSlice 137 (Z G (n:Int)) (Z G (n:Int))).run prog w=.ok (V (O ⟨w.heap.size,0,I⟩) n n) (w.alloc (J (List.replicate n (Value.slice I 0 0)).toArray 31 (0,0))):=by
 intro w;obtain⟨i,b,c,h1,a⟩:=B6 Ajr;have:=Rv (P:=prog) w 137 31 i _ underlying137 b c G G n n ao9 ao9 (by rw[a];omega) ao9;rw[this];simp only[J7,h1,P6];rw[Ajs _ rfl]
def Cy.made (w:WD) (B n:Nat) (f:B<=w.heap.size) (m:n<=1000000):Cy (w.alloc (J (List.replicate n (Value.slice I 0 0)).toArray 31 (0,0))) B w.heap.size n (List.replicate n (Value.slice I 0 0)) (List.replicate n []):=by
 refine⟨?_,λi o l h1 e=>?_,?_,as9⟩
 .rw [Vt];exact World.ownsRow_lit w (List.replicate n (Value.slice I 0 0)).toArray n f (by unfold maxLen;omega) as9
 .have c:=Rg (Ai h1);have d:=Rg (Ai e);subst c d;exact Aj.nil _ _
 .refine Ot.2 λa b h j _ k g=>?_;simp[Value.ownBlock]at g
def Aj.made (w:WD) (B n:Nat) (a:B<=w.heap.size) (b:n<=1000000):Aj (w.alloc (J (List.replicate n (Value.int G 0)).toArray 3 (0,0))) B (V (O ⟨w.heap.size,0,I⟩) n n) (List.replicate n 0):=by
 refine⟨?_⟩;have:=World.ownsRow_lit (base:=B) (e:=3) (size:=1) w (List.replicate n (Value.int G 0)).toArray n a (by unfold maxLen;omega) as9;rw[Vt];simpa[Bj]using this
def Awi (ao:Option Addr) (n c:Nat) (after:List (List Int)) (w:WD) (h:Q9 w ao n after) :
  CS prog 210 #[V ao n c] w λe w'=>(∃v,e=Q (D #[v,Y (G4 after)]))/\BW w.heap.size w w':=by
 have hn:=h.max;have aI:=h.len;have cS:=Ajt n ao9;have cT:=Aju n ao9
 have bH:im w n n (List.replicate n (V I 0 0)) (Ji after 0) ((w.alloc (J (List.replicate n (Value.int G 0)).toArray 3 (0,0))).alloc (J (List.replicate n (Value.slice I 0 0)).toArray 31 (0,0))):=by
  have h1:=Aj.made w w.heap.size n Ln ao9;have h2:=Cy.made (w.alloc (J (List.replicate n (Value.int G 0)).toArray 3 (0,0))) w.heap.size n as9 ao9;have e:Ji after 0=(List.replicate n 0,List.replicate n []):=by simp[Ji,aI]
  rw[e];refine⟨Bn.alloc as9 _,h1.mod (Mod.alloc (λ_=>False) _ _) (λ_ _ c=>c),by simpa using h2,λi sv hi=>?_,as9,as9⟩;have e1:=Rg (Ai hi);subst e1;simp[Value.ownBlock]
 replace⟨h,bH,aI⟩:=H3 h bH aI;go_enter func210,ntmps210;go_wp2_with fail;go_loopw [6,7,9,27,34] (λ_ _ _ iv _ wr=>∃(i:Nat) (u:List VL),iv=Z G i/\i<=n/\Hid (im w n n u (Ji after i) wr)) (λ_ _ _ iv _ _=>n-(intOf iv).toNat)
 case atStart=>exact⟨0,_,rfl,Ar _,bH⟩
 case round=>
  obtain⟨i,u,rfl,cJ,hO⟩:=hrel;by_cases hc:i<n
  .have ce:(i:Int)<n:=ao9;have cZ:(0:Int)<=(i:Int):=ao9;obtain⟨l,hl⟩:=h.out.get hc;obtain⟨b,aW,so,sc,rfl,cv,bG,aQ,b0,cM⟩:=h.out.cell i l hl;obtain⟨m,hm⟩:=Ex (l.length);rw[<-hm]at bG aQ b0 cM;have cl:=(Af hO.out.low cv).trans bG;have z:Ji after (i+1)=Kp n i (Ji after i) l m:=(by show Kp after.length i (Ji after i) ((after[i]?).getD []) ((after[i]?).getD []).length=_;rw[aI.out,Gt hl,<-hm]);obtain⟨aJ,ba⟩:=Ex (Ji after i)
   have bQ:Tok n (100000*i) aJ:=by
    have:=Tok.to (after:=after) (b:=100000) (λl hl=>by
     obtain⟨j,hj⟩:=Dk hl;obtain⟨_,_,_,_,_,_,_,_,_,h6⟩:=h.out.cell j l hj
     exact h6) (i:=i) (by rw[aI.out];exact cJ)
    rw[aI.out]at this;rw[ba];exact this
   rw[<-ba]at z hO;replace⟨hl,hm,z,ba,bQ,aQ,b0,bG⟩:=H8 hl hm z ba bQ aQ b0 bG;go_wp2_with fail;clear cl;go_loopw [9,34] (λ_ jv wr=>∃(j:Nat) (u:List VL),jv=Z G j/\j<=m/\Hid (im w n n u (Kp n i aJ l j) wr)) (λ_ jv _=>m-(intOf jv).toNat)
   case atStart=>exact⟨0,_,rfl,Ar _,hO⟩
   case round=>
    obtain⟨j,u,rfl,cm,hO⟩:=hrel;by_cases hd:j<m
    .have bo:(j:Int)<m:=ao9;have cj:(0:Int)<=(j:Int):=ao9;obtain⟨k,y⟩:∃k,l[j]?=O k:=aQ.out.get hd;obtain⟨b2,cV,rfl,cy,aX⟩:=aQ.out.cell j k y;have ck:=(Af hO.out.low cy).trans aX;have o:Kp n i aJ l (j+1)=Po n i (Kp n i aJ l j) k:=(by show Po n i (Kp n i aJ l j) ((l[j]?).getD 0)=_;rw[Gt y]);have hT:=bQ.out.row hc l j;obtain⟨st,aB⟩:=Ex (Kp n i aJ l j);rw[<-aB]at o hO hT;have aE:=hO.out.l1;have aF:=hO.out.l2;by_cases cn:0<=k
     .by_cases ct:k<(n:Int)
      .obtain ⟨kk,rfl⟩:∃kk:Nat,k=(kk:Int):=⟨k.toNat,ao9⟩;have cp:kk<n:=ao9;obtain⟨x,hx⟩:=Ge st.1 i ao9;have aV:=hT.left.at hx;have lx:=hO.out.left.cell hx;have cO:IntKind.i64.wrap (x+1)=x+1:=Im ao9 ao9;have fl:=hO.out.tr i;obtain⟨W1,aH⟩:=Ex (wr.setCell ⟨w.heap.size,i,I⟩ (Z G (x+1)));have ac:=hO.out.ml i (x+1);rw[<-aH]at ac;obtain⟨cD,n3,c3,l3,g1,g2,g3,g4,g5⟩:=ac.back.get (i:=kk) (by rw[ac.l2];exact cp);have cb:=(hT.back l3 (Ai g2)).1;have b1:=ac.size;have bx:=ac.back.ne g1 g2;have t:BW W1.heap.size W1 (W1.alloc (J #[Z G (i:Int)] 3 (0,0))):=Bn;have bP:=g5.mod (Mod.ag (S:=λ_=>False) t) (λ_ _ c=>c);have cw:(W1.alloc (J #[Z G (i:Int)] 3 (0,0))).cell? ⟨W1.heap.size,0,I⟩=O (Z G (i:Int)):=Aa (Ah _ _) 0;have an:w.heap.size<=(W1.alloc (J #[Z G (i:Int)] 3 (0,0))).heap.size:=(by have:=t.size;omega);have bD:Kp n i aJ l (j+1)=(st.1.set i (x+1),st.2.set kk (l3++[(i:Int)])):=by rw[o];unfold Po;rw[Ad ⟨cn,ct⟩,Q8 _ _ _ hx,J7,Q8 _ _ _ g2]
       have a2:∀w7,(W1.alloc (J #[Z G (i:Int)] 3 (0,0))).grownBy w7 (Value.slice cD n3 c3).ownBlock->w7.cell? ⟨w.heap.size+1,kk,I⟩=O (V cD n3 c3)/\w7.frozen? ⟨w.heap.size+1,kk,I⟩=false:=λw7 hg=>by
        have hb:=hg.block (w.heap.size+1) (by have:=t.size;omega) (λe=>bx e.symm);have ca:=(t.block (w.heap.size+1) b1);exact⟨(Bl (a:=⟨w.heap.size+1,kk,I⟩) (hb.trans ca)).trans g4,(Ov (a:=⟨w.heap.size+1,kk,I⟩) (hb.trans ca)).trans (ac.back.row.frozenAt kk)⟩
       have bW:=g3.symm;have bf:n3<=1000000000:=ao9;replace⟨y,aX,o,aB,hT,aE,aF,hx⟩:=H8 y aX o aB hT aE aF hx;replace⟨aV,ac,g1,g2,g3,g5,cb,b1⟩:=H8 aV ac g1 g2 g3 g5 cb b1;replace⟨t,bP,cw,an,bD,bx,a2,bW⟩:=H8 t bP cw an bD bx a2 bW;replace bf:=Hh bf;go_upto_region 11 with fail;rw[<-aH];have b9:=Hh aH;clear aH lx fl ck;go_wp2_with (at_builtin;refine Mp rfl _ _ rfl w.heap.size n3 _ rfl bP.out bW.out ⟨W1.heap.size,0,I⟩ 1 rfl (i:Int) cw.out bf.out an.out ?_;intro g7 aD w7 h7 af ap;obtain⟨k7,f7⟩:=a2.out w7 af;replace⟨h7,af,ap⟩:=H3 h7 af ap)
       have aY:=ac.out.grow t.out g1.out g2.out af.out h7.out (λk y=>by
        simp[Value.ownBlock]at y;subst y;rcases ap.out with e|e
        .exact .inl e
        .exact .inr e)
       simp only at aY;rw[<-bD.out]at aY;replace aY:=Hh aY;go_roundw
       case rel=>exact⟨j+1,_,by go_num,ao9,aY⟩
       case measure=>simp[intOf];omega
      .have aA:Kp n i aJ l (j+1)=st:=(by rw[o];unfold Po;rw[Ab (λc=>ct c.2)]);rw[<-aA]at hO;replace⟨y,aX,o,aB,hT,aE,aF,aA⟩:=H8 y aX o aB hT aE aF aA;go_wp2;go_roundw
       case rel=>exact⟨j+1,_,by go_num,ao9,hO⟩
       case measure=>simp[intOf];omega
     .have aA:Kp n i aJ l (j+1)=st:=(by rw[o];unfold Po;rw[Ab (λc=>cn c.1)]);rw[<-aA]at hO;replace⟨y,aX,o,aB,hT,aE,aF,aA⟩:=H8 y aX o aB hT aE aF aA;go_wp2;go_roundw
      case rel=>exact⟨j+1,_,by go_num,ao9,hO⟩
      case measure=>simp[intOf];omega
    .have bo:¬(j:Int)<m:=ao9;have cL:j=m:=ao9;subst cL;have aY:Hid (im w n n u (Ji after (i+1)) wr):=(by rw[z.out];exact hO);go_wp2;go_roundw
     case rel=>exact⟨i+1,_,by go_num,ao9,aY⟩
     case measure=>simp[intOf];omega
  .have ce:¬(i:Int)<n:=ao9;have aR:i=n:=ao9;obtain⟨st,o⟩:=Ex (Ji after n)
   have hT:Tok n (100000*n) st:=by
    have:=Tok.to (after:=after) (b:=100000) (λl hl=>by
     obtain⟨j,hj⟩:=Dk hl;obtain⟨_,_,_,_,_,_,_,_,_,h6⟩:=h.out.cell j l hj
     exact h6) (i:=n) (by rw[aI.out];exact Nat.le_refl _)
    rw[aI.out]at this;rw[o];exact this
   have ac:Hid (im w n n u st wr):=(by rw[o];exact aR▸hO);have a9:G4 after = !decide ((Gr st.2 ⟨st.1,G3 st.1 n,[]⟩ (2*n)).out.length<n):=(by unfold G4 Aji;rw[aI.out,<-o]);obtain⟨left,d⟩:=st;have bw:=ac.out.l1;have bL:=ac.out.l2;simp only at bw bL hT;clear hO bH;have cG:Hid (qy w n n u (left,d) (V I 0 0) (G3 left 0) wr):=qy.start ac.out;replace⟨o,hT,a9,aR,bw,bL,ac⟩:=H7 o hT a9 aR bw bL ac;go_wp2_with fail;go_loopw [10,12,13,66] (λfv _ _ jv wr=>∃(j:Nat),jv=Z G j/\j<=n/\Hid (qy w n n u (left,d) fv (G3 left j) wr)) (λ_ _ _ jv _=>n-(intOf jv).toNat)
   case atStart=>exact⟨0,rfl,Ar _,cG⟩
   case round=>
    obtain⟨j,rfl,cm,hF⟩:=hrel;by_cases hd:j<n
    .have bo:(j:Int)<n:=ao9;have cj:(0:Int)<=(j:Int):=ao9;obtain⟨x,hx⟩:=Ge left j (by have:=bw.out;omega);have lx:=hF.out.or.left.cell hx;by_cases b4:x=0
     .subst b4;obtain⟨fl,aC⟩:=Ex (G3 left j);have z:G3 left (j+1)=fl++[(j:Int)]:=(by rw[aC];show(if (left[j]?).getD 0=0 then _ else _)=_;rw[Gt hx,Ad rfl]);rw[<-aC]at hF;have bN:fl.length<=n:=(by have:=(lq.start left j).2;rw[<-aC]at this;omega);obtain⟨so,m,c,e,hm⟩:=hF.out.free.len;subst e;have al:=hm.symm;have av:m<=1000000000:=ao9;have t:BW wr.heap.size wr (wr.alloc (J #[Z G (j:Int)] 3 (0,0))):=Bn;have bV:=hF.out.free.mod (Mod.ag (S:=λ_=>False) t) (λ_ _ c=>c);have cw:(wr.alloc (J #[Z G (j:Int)] 3 (0,0))).cell? ⟨wr.heap.size,0,I⟩=O (Z G (j:Int)):=Aa (Ah _ _) 0;have an:w.heap.size<=(wr.alloc (J #[Z G (j:Int)] 3 (0,0))).heap.size:=(by have:=hF.out.or.low.size;have:=t.size;omega);replace⟨hx,aC,z,bN,hm,al,av,t⟩:=H8 hx aC z bN hm al av t;replace⟨bV,cw,an⟩:=H3 bV cw an;go_wp2_with (at_builtin;refine Mp rfl _ _ rfl w.heap.size m _ rfl bV.out al.out ⟨wr.heap.size,0,I⟩ 1 rfl (j:Int) cw.out av.out an.out ?_;intro g7 aD w7 h7 af ap;replace⟨h7,af,ap⟩:=H3 h7 af ap)
      have aK:=hF.out.set t.out (Mod.grown af.out (S:=λb=>(Value.slice so m c).ownBlock=O b) (λk y=>y)) h7.out (λk y=>by
       simp[Value.ownBlock]at y;subst y;rcases ap.out with e|e
       .exact .inl e
       .exact .inr e)
      rw[<-z.out]at aK;replace aK:=Hh aK;go_roundw
      case rel=>exact⟨j+1,by go_num,ao9,aK⟩
      case measure=>simp[intOf];omega
     .have z:G3 left (j+1)=G3 left j:=(by show(if (left[j]?).getD 0=0 then _ else _)=_;rw[Gt hx,Ab b4]);rw[<-z]at hF;replace⟨hx,z⟩:=H2 hx z;go_wp2;go_roundw
      case rel=>exact⟨j+1,by go_num,ao9,hF⟩
      case measure=>simp[intOf];omega
    .have bo:¬(j:Int)<n:=ao9;have bX:j=n:=ao9;have b7:Hid (il w n n u d u10 (V I 0 0) (Gr d ⟨left,G3 left n,[]⟩ 0) wr):=(by have:=bX▸hF;exact this.out.q (s:=⟨left,[],[]⟩));have bK:=lq.start left n;have b3:Jw (left,G3 left n)<=2*n:=(by unfold Jw;have:left.countP (λx=>decide (0<x))<=left.length:=Vw;have:=bw.out;have:=bK.2;simp only;omega);obtain⟨s0,bB⟩:=Ex ((⟨left,G3 left n,[]⟩:qz));have bT:Gs (-(100000000*(0:Int))) 100000000 left:=hT.out.left.mono ao9 ao9;rw[<-bB]at b7;have aZ:s0.left=left/\s0.free=G3 left n/\s0.out=[]:=(by rw[bB];exact⟨rfl,rfl,rfl⟩);have a1:G4 after = !decide ((Gr d s0 (2*n)).out.length<n):=(by rw[a9.out,bB]);clear a9 hF;replace⟨bK,b3,bB,bT,aZ,a1,bX⟩:=H7 bK b3 bB bT aZ a1 bX;go_wp2_with fail;go_loopg [10,11,14,16,17,18,95] (2*n) (λgk fv ov _ _ _ _ _ wr=>∃(p:Nat),p+gk<=2*n/\Hid (il w n n u d fv ov (Gr d s0 p) wr)/\Hid (lq n (Gr d s0 p).free)/\Hid (Jw ((Gr d s0 p).left,(Gr d s0 p).free)<=gk)/\Hid (Gs (-(100000000*(p:Int))) 100000000 (Gr d s0 p).left)/\Hid ((Gr d s0 p).out.length=p))
     case atStart=>
      refine⟨0,ao9,b7,?_,?_,?_,?_⟩
      .show lq n s0.free;rw[aZ.out.2.1];exact bK.out.1
      .show Jw (s0.left,s0.free)<=2*n;rw[aZ.out.1,aZ.out.2.1];exact b3.out
      .show Gs _ _ s0.left;rw[aZ.out.1];exact bT.out
      .show s0.out.length=0;rw[aZ.out.2.2];rfl
     case round=>
      obtain⟨p,c4,hQ,aO,a5,a0,aT⟩:=hrel;obtain⟨s,hs⟩:=Ex (Gr d s0 p);rw[<-hs]at hQ aO a5 a0 aT;obtain⟨f,cQ,am⟩:=s;simp only at aO a5 a0 aT
      cases cQ with
      | nil=>
       have aG:G4 after = !decide (am.length<n):=(by rw[a1.out,Ajl (s:=s0) (p:=p) (by rw[<-hs]) (2*n) ao9,<-hs]);obtain⟨so,c,e,_⟩:=hQ.out.free.form;subst e;obtain⟨a6,m2,c2,e2,al⟩:=hQ.out.out.len;subst e2;have bd:=aT.out;have aS:m2=am.length:=al;simp only[Ib];replace⟨hs,aO,a5,a0,aT,bd⟩:=H6 hs aO a5 a0 aT bd;by_cases cv:m2<n
       .have cx:(m2:Int)<n:=ao9;have ad:G4 after=false:=(by rw[aG];simp;omega);replace⟨al,aS,aG,ad⟩:=H4 al aS aG ad;go_wp2;refine An (v:=D #[V I 0 0,Y false]) (by simp[results,results210,go_sem]) rfl ⟨⟨_,by rw[ad.out]⟩,hQ.out.or.low⟩
       .have cx:¬(m2:Int)<n:=ao9;have ad:G4 after=true:=(by rw[aG];simp;omega);replace⟨al,aS,aG,ad⟩:=H4 al aS aG ad;go_wp2;refine An (v:=D #[V a6 m2 c2,Y true]) (by simp[results,results210,go_sem]) rfl ⟨⟨_,by rw[ad.out]⟩,hQ.out.or.low⟩
      | cons x r=>
       have aV:=aO.out.ur x (Ef ..);obtain⟨xx,rfl⟩:∃xx:Nat,x=(xx:Int):=⟨x.toNat,ao9⟩;have cU:(xx:Int)<n:=ao9;have b4:(0:Int)<=(xx:Int):=ao9;obtain⟨g,aW,cap,e,b5,bY,cg,ci,bU⟩:=hQ.out.free.pos as9;subst e;obtain⟨M,hM⟩:=Ex (((xx:Int)::r).length);rw[<-hM]at hQ bY;have b6:M=r.length+1:=(by rw[hM];rfl);rw[<-hM];have cW:0<M:=ao9;have cX:(1:Int)<=M:=ao9;have ce:(1:Int)<=cap:=ao9;have c0:wr.cell? ⟨g,aW,I⟩=O (Z G (xx:Int)):=bU 0 _ rfl;have bE:r.length<=2*n/\Jw (f,r)+1<=gk:=(by have:=a5.out;unfold Jw at this ⊢;simp only[D8]at this ⊢;omega);obtain⟨a6,m2,c2,e2,al⟩:=hQ.out.out.len;subst e2;have bd:=aT.out;have aS:m2=am.length:=al;have av:m2<=1000000000:=ao9;obtain⟨cF,bn,cE,bl,q1,q2,q3,q4,q5⟩:=hQ.out.or.back.get (i:=xx) (by have c1:=bL.out;show xx<d.length;omega);have bS:=(hT.out.back bl (Ai q2));have be:Hid (il w n n u d (V (O ⟨g,if cap=1 then aW else aW+1,I⟩) r.length (cap-1)) (V a6 m2 c2) ⟨f,r,am⟩ wr):=hQ.out.tail rfl;obtain⟨bM,bi⟩:=bS;have aM:bn<=100000000:=ao9;have bC:Aj (wr.alloc (J #[Z G (xx:Int)] 3 (0,0))) w.heap.size (V a6 m2 c2) am:=be.out.out.mod (Mod.ag (S:=λ_=>False) Bn) (λ_ _ c=>c);have cw:(wr.alloc (J #[Z G (xx:Int)] 3 (0,0))).cell? ⟨wr.heap.size,0,I⟩=O (Z G (xx:Int)):=Aa (Ah _ _) 0;have t:BW wr.heap.size wr (wr.alloc (J #[Z G (xx:Int)] 3 (0,0))):=Bn;have an:w.heap.size<=(wr.alloc (J #[Z G (xx:Int)] 3 (0,0))).heap.size:=by have:=hQ.out.or.low.size;have:=t.size;omega
       have a2:∀w7,(wr.alloc (J #[Z G (xx:Int)] 3 (0,0))).grownBy w7 (Value.slice a6 m2 c2).ownBlock->w7.cell? ⟨w.heap.size+1,xx,I⟩=O (V cF bn cE):=λw7 hg=>by
        obtain⟨_,cA,cc,cf⟩:=hQ.out.or.back.ar;have cN:=Bx hQ.out.out.row cf ad9;have hb:=hg.block (w.heap.size+1) (by have:=t.size;omega) (λe=>cN e.symm);exact(Bl (a:=⟨w.heap.size+1,xx,I⟩) (hb.trans (t.block (w.heap.size+1) cA))).trans q4
       obtain⟨bO,bv⟩:=Ex (Value.slice (if cap=1 then O ⟨g,aW,I⟩else O ⟨g,aW+1,I⟩) (M-1) (cap-1))
       have bI:Hid (il w n n u d bO (V a6 m2 c2) ⟨f,r,am⟩ wr):=by
        have e:bO=V (O ⟨g,if cap=1 then aW else aW+1,I⟩) r.length (cap-1):=by
         rw[bv,show M-1=r.length by omega]
         split<;>rfl
        rw[e];exact be.out
       replace⟨hs,aO,a5,a0,aT,aV,b5,bY⟩:=H8 hs aO a5 a0 aT aV b5 bY;replace⟨cg,ci,bU,hM,b6,bE,bd,al⟩:=H8 cg ci bU hM b6 bE bd al;replace⟨aS,av,q1,q2,q3,q4,q5,bM⟩:=H8 aS av q1 q2 q3 q4 q5 bM;replace⟨bi,aM,be,bC,cw,t,an,a2⟩:=H8 bi aM be bC cw t an a2;replace bI:=Hh bI;go_upto_region 24 with fail;rw[<-bv];clear bv c0 hQ be;go_wp2_with (at_builtin;refine Mp rfl _ _ rfl w.heap.size m2 _ rfl bC.out aS.out.symm ⟨wr.heap.size,0,I⟩ 1 rfl (xx:Int) cw.out av.out an.out ?_;intro g7 aD w7 h7 af ap;have k7:=a2.out w7 af;replace⟨h7,af,ap⟩:=H3 h7 af ap)
       have b8:=bI.out.ux t.out (Mod.grown af.out (S:=λb=>(Value.slice a6 m2 c2).ownBlock=O b) (λk y=>y)) h7.out (λk y=>by
        simp[Value.ownBlock]at y;subst y;rcases ap.out with e|e
        .exact .inl e
        .exact .inr e)
       have cH:Hid (il w n n u d bO (V (O ⟨g7,0,I⟩) (m2+1) aD) ⟨(Du (f,r) bl 0).1,(Du (f,r) bl 0).2,am++[(xx:Int)]⟩ w7):=b8;have ch:Hid (lq n (Du (f,r) bl 0).2):=Hh aO.out.tail;have cd:Hid (Gs (-(100000000*(p:Int))-((0:Nat):Int)) 100000000 (Du (f,r) bl 0).1):=Hh (show Gs _ _ f from a0.out.mono ao9 ao9);have cB:Hid (Jw (Du (f,r) bl 0)+1<=gk):=Hh bE.out.2;have a4:S8 d ⟨f,(xx:Int)::r,am⟩=⟨(Du (f,r) bl bn).1,(Du (f,r) bl bn).2,am++[(xx:Int)]⟩:=(by unfold S8;simp only[J7,Gt q2.out];rw[<-q3.out]);clear k7 bI b8;replace a4:=Hh a4;go_loopw [10,16,17,18,95] (λfv _ _ _ jv wr=>∃(j:Nat),jv=Z G j/\j<=bn/\Hid (il w n n u d fv (V (O ⟨g7,0,I⟩) (m2+1) aD) ⟨(Du (f,r) bl j).1,(Du (f,r) bl j).2,am++[(xx:Int)]⟩ wr)/\Hid (lq n (Du (f,r) bl j).2)/\Hid (Gs (-(100000000*(p:Int))-(j:Int)) 100000000 (Du (f,r) bl j).1)/\Hid (Jw (Du (f,r) bl j)+1<=gk)) (λ_ _ _ _ jv _=>bn-(intOf jv).toNat)
       case atStart=>exact⟨0,rfl,Ar _,cH,ch,cd,cB⟩
       case round=>
        obtain⟨j,rfl,cm,hQ,aP,a7,aU⟩:=hrel;by_cases hd:j<bn
        .have bo:(j:Int)<bn:=ao9;have cj:(0:Int)<=(j:Int):=ao9;have cI:=aM.out;have ak:=hQ.out.or.back.each xx _ bl q1.out q2.out;obtain⟨bg,cR,e⟩:=Joins.ownsRow_form ak.row (by have:=q3.out;omega);injection e with e1 e2 e3;subst e1;clear e2 e3;obtain⟨k,y⟩:=Ge bl j (by have:=q3.out;omega);have co:=bi.out.at y;obtain⟨kk,rfl⟩:∃kk:Nat,k=(kk:Int):=⟨k.toNat,ao9⟩;have cp:kk<n:=ao9;have cs:(kk:Int)<n:=ao9;have cr:(0:Int)<=(kk:Int):=ao9;have ck:=ak.cell y;obtain⟨st,o⟩:=Ex (Du (f,r) bl j);have z:Du (f,r) bl (j+1)=Q7 st (kk:Int):=(by rw[o];show Q7 _ ((bl[j]?).getD 0)=_;rw[Gt y]);rw[<-o]at hQ aP a7 aU;obtain⟨x,hx⟩:=Ge st.1 kk (by have h9:st.1.length=n:=hQ.out.or.l1;omega);have aV:=a7.out.at hx;have lx:=hQ.out.or.left.cell hx;have fl:=hQ.out.or.tr kk;have cO:IntKind.i64.wrap (x-1)=x-1:=Im (by have:=aM.out;omega) ao9;have hrel:=Avs (st:=st) (k:=(kk:Int)) (x:=x) (by simpa using hx);have bF:=Avr (st:=st) (k:=(kk:Int)) (x:=x) (by simpa using hx);rw[<-z]at hrel bF;obtain⟨W1,aH⟩:=Ex (wr.setCell ⟨w.heap.size,kk,I⟩ (Z G (x-1)));have aL:=hQ.out.ml kk (x-1);rw[<-aH]at aL;have c5:W1.cell? ⟨w.heap.size,kk,I⟩=O (Z G (x-1)):=aL.or.left.cell (by show(st.1.set kk (x-1))[kk]?=_;rw[Do];have:=(Ap.1 hx).1;simp[this]);have a8:Gs (-(100000000*(p:Int))-((j+1:Nat):Int)) 100000000 (Du (f,r) bl (j+1)).1:=(by rw[hrel];exact a7.out.set ao9 ao9 ao9 ao9);have bc:Jw (Du (f,r) bl (j+1))+1<=gk:=(by have:=aU.out;omega);replace⟨ak,y,co,o,z,hx,aV,hrel⟩:=H8 ak y co o z hx aV hrel;replace⟨bF,aL,a8,bc,hQ⟩:=H5 bF aL a8 bc hQ;go_upto_region 29 with fail;rw[<-aH];have b9:=Hh aH;clear aH ck lx fl;by_cases cP:x=1
         .subst cP;obtain⟨je,aN⟩:=Ex (st.2.countP (·<(kk:Int)));have aC:st.2.length<=1000000:=(by have:=aU.out;unfold Jw at this;omega);have bA:C6 W1 w.heap.size u10 st.2:=aL.out.free;have bJ:=Awh bA aP.out.bj (kk:Int) aC;rw[<-aN]at bJ;have bk:∀q,BW W1.heap.size W1 ((W1.drewN q).alloc (J #[Z G (kk:Int)] 3 (0,0))):=λq=>(A6 _ W1 q).alloc Ln _
          have aR:∀q,CS prog 265 #[u10,Z G (je:Int),V (O ⟨W1.heap.size,0,I⟩) 1 1] ((W1.drewN q).alloc (J #[Z G (kk:Int)] 3 (0,0))) (Yp ((W1.drewN q).alloc (J #[Z G (kk:Int)] 3 (0,0))) w.heap.size u10 (gi (kk:Int) st.2)):=λq=>by
           have h9:=bA.mod (Mod.ag (S:=λ_=>False) (bk q)) (λ_ _ c=>c);have:=Avh h9 (kk:Int) je (by rw[aN];exact Vw) aC W1.heap.size (Ah _ _) (λe=>by have:=(bA.lt _ e).2;omega) (by have:=aL.out.or.low.size;have:=(bk q).size;omega);unfold gi;rw[<-aN];exact this
          unfold Yp at aR;replace⟨aN,aC,bA,bJ,aR,bk⟩:=H6 aN aC bA bJ aR bk
          go_wp2_with (first
           | (go_at_call 264;(with_reducible refine bJ.out.mono ?_);rintro e w8 ⟨⟨bb,rfl⟩,q,rfl⟩)
           | (go_at_call 265;(with_reducible refine(aR.out _).mono ?_);rintro e w9 ⟨v9,rfl,bZ,av,bR⟩;replace⟨bZ,av,bR⟩:=H3 bZ av bR))
          have hF:=aL.out.su (bk.out q) av.out bZ.out (λk y=>by
           rcases bR.out with e|e
           .exact .inl (e▸y)
           .rw [e]at y;injection y with y
            exact .inr y.symm)
          have aK:Hid (il w n n u d v9 (V (O ⟨g7,0,I⟩) (m2+1) aD) ⟨(Du (f,r) bl (j+1)).1,(Du (f,r) bl (j+1)).2,am++[(xx:Int)]⟩ w9):=(by rw[hrel.out,Ad ao9];exact hF);have bs:Hid (lq n (Du (f,r) bl (j+1)).2):=(by rw[hrel.out,Ad ao9];exact aP.out.ins cr cs);clear hF;go_roundw
          case rel=>exact⟨j+1,by go_num,ao9,aK,bs,a8,bc⟩
          case measure=>simp[intOf];omega
         .have cC:¬x-1=0:=ao9;have aK:Hid (il w n n u d u10 (V (O ⟨g7,0,I⟩) (m2+1) aD) ⟨(Du (f,r) bl (j+1)).1,(Du (f,r) bl (j+1)).2,am++[(xx:Int)]⟩ W1):=(by rw[hrel.out,Ab cC];exact aL.out);have bs:Hid (lq n (Du (f,r) bl (j+1)).2):=(by rw[hrel.out,Ab cC];exact aP.out);go_wp2_with fail;go_roundw
          case rel=>exact⟨j+1,by go_num,ao9,aK,bs,a8,bc⟩
          case measure=>simp[intOf];omega
        .have bo:¬(j:Int)<bn:=ao9;have cK:j=bn:=ao9;have a3:Gr d s0 (p+1)=⟨(Du (f,r) bl bn).1,(Du (f,r) bl bn).2,am++[(xx:Int)]⟩:=(by show S8 d (Gr d s0 p)=_;rw[<-hs.out];exact a4.out);have cY:=aU.out;have cI:=aM.out;replace a3:=Hh a3;go_wp2;go_roundg (gk-1)
         case measure=>omega
         case rel=>
          have e:=cK;refine⟨p+1,ao9,?_,?_,?_,?_,?_⟩
          .rw [a3.out,<-e];exact hQ
          .rw [a3.out,<-e];exact aP
          .rw [a3.out,<-e];exact Hh (by have:=aU.out;show Jw (Du (f,r) bl j)<=gk-1;omega)
          .rw [a3.out,<-e];exact Hh (a7.out.mono ao9 ao9)
          .rw [a3.out];exact Hh (by have:=bd.out;simp;omega)
def Awj (f:Option Addr) (n c:Nat) (after:List (List Int)) (w:WD) (h:Q9 w f n after) :
  CS prog 156 #[V f n c] w λe w'=>e=Q (Y (!G4 after))/\BW w.heap.size w w':=by
 have d:=Awi f n c after w h;obtain⟨b,g⟩:=Ex (G4 after);rw[<-g]at d ⊢;replace⟨h,d,g⟩:=H3 h d g;go_enter func156,ntmps156;go_wp2_with (go_at_call 210;(with_reducible refine d.out.mono ?_);rintro e w1 ⟨⟨v,rfl⟩,a⟩;replace a:=Hh a)
 all_goals
  go_ret;exact⟨by first|rfl|simp_all,a.out⟩
def Jj (f:Int) (t:Nat):List Int:=(List.range t).map λ(j:Nat)=>f+(j:Int)
def Awo (f:Int) (t:Nat):Jj f (t+1)=Jj f t++[f+(t:Int)]:=by simp[Jj,Wg]
def Dr (next:Int) (sizes:List Int):Nat->Int
 | 0=>next
 | k+1=>Dr next sizes k+(sizes[k]?).getD 0
def Mq (next:Int) (sizes:List Int) (r:List Int×List Int) (n:Int):List Int×List Int:=
 if 0<n then(r.1,r.2++[n])else(r.1++[-1-n],r.2++Jj (Dr next sizes (-1-n).toNat) ((sizes[(-1-n).toNat]?).getD 0).toNat)
def C0 (next:Int) (sizes l:List Int):Nat->List Int×List Int
 | 0=>([],[])
 | j+1=>Mq next sizes (C0 next sizes l j) ((l[j]?).getD 0)
def Jy (next:Int) (sizes l:List Int):List Int:=(C0 next sizes l l.length).1
def G5 (next:Int) (sizes l:List Int):List Int:=Lib.compact (In (C0 next sizes l l.length).2)
def F7 (f:List Int->List Int) (after:List (List Int)):Nat->List (List Int)
 | 0=>List.replicate after.length []
 | i+1=>(F7 f after i).set i (f ((after[i]?).getD []))
def U8 (f:List Int->List Int) (after:List (List Int)):∀i,(F7 f after i).length=after.length
 | 0=>by simp[F7]
 | i+1=>by simp[F7,U8 f after i]
def Yt (f:List Int->List Int) (after:List (List Int)):∀(i k:Nat),k<after.length->(F7 f after i)[k]?=O (if k<i then f ((after[k]?).getD [])else[])
 | 0,k,hk=>by simp[F7,hk]
 | i+1,k,hk=>by
  have c:=Yt f after i k hk;have b:=U8 f after i;show((F7 f after i).set i _)[k]?=_;rw[Do];by_cases h:i=k
  .subst h;simp[b,hk]
  .rw [Ab h,c];by_cases a:k<i
   .rw [Ad a,Ad ao9]
   .rw [Ab a,Ab ao9]
def Ajv (f:List Int->List Int) (after:List (List Int)):F7 f after after.length=after.map f:=by
 apply Eg;intro k;by_cases a:k<after.length
 .rw [Yt f after _ k a,Ad a];simp[a]
 .rw [Rh (by rw[U8];omega),Rh (by simp;omega)]
def Fa (next:Int) (sizes:List Int) (after:List (List Int)):List (List Int)×Int:=
 if next<1\/1099511627776<next\/8<sizes.length\/after.length≠sizes.length then([],1)
 else if (sizes.any λn=>decide (n<1) || decide (20<n))=true then([],1)
 else if (after.any λl=>l.any (F4 next sizes.length))=true then([],90)
 else if G4 (after.map (Jy next sizes))=false then([],91)
 else(after.map (G5 next sizes),0)
def Yu (b:Int) (a l:List Int) (c:∀n,n∈a->n<=20):∀j,(C0 b a l j).1.length<=j/\(C0 b a l j).2.length<=20*j
 | 0=>by simp[C0]
 | j+1=>by
  obtain⟨h1,d⟩:=Yu b a l c j;show(Mq b a (C0 b a l j) _).1.length<=_/\(Mq b a (C0 b a l j) _).2.length<=_;unfold Mq;split
  .simp only[Av,Vu];omega
  .have:∀k:Nat,((a[k]?).getD 0).toNat<=20:=λk=>by
    cases h:a[k]? with
    | none=>simp
    | some n=>have:=c n (Ai h);simp;omega
   simp only[Av,Vu,Jj,As,Zw];have:=this (-1-(l[j]?).getD 0).toNat;omega
def Ajw (b:Int) (a:List Int) (c:∀n,n∈a->1<=n/\n<=20):∀k:Nat,b<=Dr b a k/\Dr b a k<=b+20*(k:Int)
 | 0=>by simp[Dr]
 | k+1=>by
  obtain⟨h1,d⟩:=Ajw b a c k;show b<=Dr b a k+(a[k]?).getD 0/\_
  have:0<=(a[k]?).getD 0/\(a[k]?).getD 0<=20:=by
   cases h:a[k]? with
   | none=>simp
   | some n=>have:=c n (Ai h);simp;omega
  constructor
  .omega
  .show Dr b a k+(a[k]?).getD 0<=_;push_cast;omega
structure ig (B g1 g2 m:Nat) (fl:List Int) (s1 s2:List VL) (l1 l2:List (List Int)) (w:WD):Prop where
 a:Cy w B g1 m s1 l1
 b:Cy w B g2 m s2 l2
 ng:g1≠g2
 b1:B<g1
 b2:B<g2
 na:∀(i:Nat) (sv:VL),s1[i]?=O sv->sv.ownBlock≠O B/\sv.ownBlock≠O g2
 nb:∀(i:Nat) (sv:VL),s2[i]?=O sv->sv.ownBlock≠O B/\sv.ownBlock≠O g1
 two:∀(i j:Nat) (u v:VL),s1[i]?=O u->s2[j]?=O v->∀k,u.ownBlock=O k->v.ownBlock≠O k
 first:Aj w B (V (O ⟨B,0,I⟩) (m+1) (m+1)) fl
variable {B g1 g2 m:Nat} {fl:List Int} {s1 s2:List VL} {l1 l2:List (List Int)}
def ig.symm {w:WD} (h:ig B g1 g2 m fl s1 s2 l1 l2 w):ig B g2 g1 m fl s2 s1 l2 l1 w:=
 ⟨h.b,h.a,λe=>h.ng e.symm,h.b2,h.b1,h.nb,h.na,λi j u v d f k c e=>h.two j i v u f d k e c,h.first⟩
def ig.drop {w w1:WD} (h:ig B g1 g2 m fl s1 s2 l1 l2 w) (d:BW w.heap.size w w1):ig B g1 g2 m fl s1 s2 l1 l2 w1:=
 ⟨h.a.low d,h.b.low d,h.ng,h.b1,h.b2,h.na,h.nb,h.two,h.first.mod (Mod.ag (S:=λ_=>False) d) (λ_ _ c=>c)⟩
def ig.put {w w1 p:WD} (h:ig B g1 g2 m fl s1 s2 l1 l2 w) (x:BW w.heap.size w w1) {i:Nat} {g o:VL} {l l':List Int} (n:s1[i]?=O g) (hl:l1[i]?=O l) (y:w1.grownBy p g.ownBlock) (ho:Aj p B o l')
  (s:∀k,o.ownBlock=O k->g.ownBlock=O k\/k=w1.heap.size):ig B g1 g2 m fl (s1.set i o) s2 (l1.set i l') l2 (p.setCell ⟨g1,i,I⟩ o):=by
 have h1:=h.drop x;have z:=Mod.grown y (λk f=>f);have r:Mod (λk=>k=g1) p (p.setCell ⟨g1,i,I⟩ o):=Mod.setCell p g1 i o rfl;have af:=x.size;have ad:=h.b.ar.2.1;have ac:=h.a.ar.2.1;have hB:=h.b1;refine⟨h1.a.put n hl y ho s,(h1.b.off z (h.na i g n).2 (λj u d k f e=>h.two i j g u n d k e f)).off r (λe=>h.ng e.symm) (λj u d k f e=>(h.nb j u d).2 (by rw[f,e])),h.ng,h.b1,h.b2,?_,h.nb,?_,?_⟩
 .intro j u d;rw[Do]at d;split at d
  .split at d
   .injection d with d;subst d;refine⟨λe=>?_,λe=>?_⟩
    .rcases s _ e with c|c
     .exact (h.na i g n).1 c
     .omega
    .rcases s _ e with c|c
     .exact (h.na i g n).2 c
     .omega
   .cases d
  .exact h.na j u d
 .intro j k u v d t q hq e;rw[Do]at d;split at d
  .split at d
   .injection d with d;subst d;rcases s _ hq with c|c
    .exact h.two i k g v n t q c e
    .have f:k<l2.length:=(by rw[<-h.b.len];exact(Ap.1 t).1);have:=((h.b.each k v _ t (Az f)).lt q e).2;omega
   .cases d
  .exact h.two j k u v d t q hq e
 .exact (h1.first.mod z (λk f e=>by simp[Value.ownBlock]at f;subst f;exact(h.na i g n).1 e)).mod r (λk f e=>by simp[Value.ownBlock]at f;omega)
def ig.below {c w w1 j:WD} (h:ig c.heap.size g1 g2 m fl s1 s2 l1 l2 w) (b:BW c.heap.size c w) (l:BW w.heap.size w w1) {i:Nat} {f p:VL} (g:s1[i]?=O f) (n:w1.grownBy j f.ownBlock):BW c.heap.size c (j.setCell ⟨g1,i,I⟩ p):=by
 have e:=λk o=>by
  have d:i<l1.length:=by rw[<-h.a.len];exact(Ap.1 g).1
  exact((h.a.each i f _ g (Az d)).lt k o).1
 have h1:=b.trans (l.mono b.size);have:=h.b1;exact Db (h1.grown n h1.size e) ao9
def Aj.wh {w:WD} {B g n c:Nat} {l:List Int} (h:Aj w B (V (O ⟨g,0,I⟩) n c) l) (i:Nat) (y:Int):Aj (w.setCell ⟨g,i,I⟩ (Z G y)) B (V (O ⟨g,0,I⟩) n c) (l.set i y):=by
 have a:=h.num;subst a;refine⟨?_⟩;have:=(h.row.stored i (Z G y)).1;rw[Dl];have e:Bj (l.set i y)=(Bj l).set i (Z G y):=by simp[Bj,Mz]
 rw[e];exact this
def ig.app {w:WD} (h:ig B g1 g2 m fl s1 s2 l1 l2 w) {i:Nat} (z:i<l1.length) (x:Int):∃so n c l,s1[i]?=O (V so n c)/\l1[i]?=O l/\l.length=n/\w.cell? ⟨g1,i,I⟩=O (V so n c)/\Aj w B (V so n c) l /\
  BW w.heap.size w (w.alloc (J #[Z G x] 3 (0,0)))/\Aj (w.alloc (J #[Z G x] 3 (0,0))) B (V so n c) l/\(w.alloc (J #[Z G x] 3 (0,0))).cell? ⟨w.heap.size,0,I⟩=O (Z G x)/\B<=(w.alloc (J #[Z G x] 3 (0,0))).heap.size /\
  (∀f,(w.alloc (J #[Z G x] 3 (0,0))).grownBy f (Value.slice so n c).ownBlock->f.cell? ⟨g1,i,I⟩=O (V so n c)/\f.frozen? ⟨g1,i,I⟩=false) /\
  (∀f,Mod (λb=>(Value.slice so n c).ownBlock=O b) w f->f.cell? ⟨g1,i,I⟩=O (V so n c)/\f.frozen? ⟨g1,i,I⟩=false):=by
 obtain⟨q,n3,u,l3,r,s,v,p,t⟩:=h.a.get z;have o:=h.a.ne r s;have k:=h.a.ar.2.1;have hB:=h.b1;have d:BW w.heap.size w (w.alloc (J #[Z G x] 3 (0,0))):=Bn;have h2:=d.size;refine⟨q,n3,u,l3,r,s,v.symm,p,t,d,t.mod (Mod.ag (S:=λ_=>False) d) (λ_ _ c=>c),Aa (Ah _ _) 0,ao9,λf y=>?_,λf hm=>?_⟩
 .have g:=y.block g1 ao9 (λe=>o e.symm);have j:=(d.block g1 k);exact⟨(Bl (a:=⟨g1,i,I⟩) (g.trans j)).trans p,(Ov (a:=⟨g1,i,I⟩) (g.trans j)).trans (h.a.row.frozenAt i)⟩
 .have g:=hm.block g1 k (λe=>o e);exact⟨(Bl (a:=⟨g1,i,I⟩) g).trans p,(Ov (a:=⟨g1,i,I⟩) g).trans (h.a.row.frozenAt i)⟩
def Cy.rows {w:WD} {B g cap:Nat} {k:List VL} {a:List (List Int)} (h:Cy w B g cap k a) (h1:a.length<=1000) (t:∀l,l∈a->l.length<=100000):Q9 w (O ⟨g,0,I⟩) a.length a:=by
 refine⟨rfl,h1,λi l f=>?_⟩;have u:=(Ap.1 f).1;obtain⟨so,n,c,l',y,b,q,r,o⟩:=h.get u;rw[f]at b;injection b with b;subst b;subst q;obtain⟨v,x,d,s⟩:=Aey o;injection d with d _ e8;subst d;subst e8;refine⟨g,0,so,c,rfl,h.ar.2.1,by rw[Dm];exact r,s,?_,t l (Ai f)⟩;rcases o.row.2 with⟨e,h0⟩|⟨z,m,p,e,_,_,j,_⟩
 .have:l.length=0:=h0;omega
 .injection e with _ _ e;subst e;exact j
def Yv {α:Type} {l:List α} {i:Nat} {x:α} (h:l[i]?=O x):l.set i x=l:=by
 apply Eg;intro k;rw[Do];by_cases e:i=k
 .subst e;rw[Ad rfl,Ad (Ap.1 h).1,h]
 .rw [Ab e]
def ig.start {w:WD} {B n:Nat} {fl:List Int} (m:B<w.heap.size) (s:n<=1000) (o:Aj w B (V (O ⟨B,0,I⟩) (n+1) (n+1)) fl):ig B w.heap.size (w.heap.size+1) n fl (List.replicate n (V I 0 0)) (List.replicate n (V I 0 0)) (List.replicate n []) (List.replicate n []) ((w.alloc (J (Array.replicate n (Value.slice I 0 0)) 31 (0,0))).alloc (J (Array.replicate n (Value.slice I 0 0)) 31 (0,0))):=by
 have h1:=Cy.made w B n ao9 ao9;have d:=Cy.made (w.alloc (J (List.replicate n (Value.slice I 0 0)).toArray 31 (0,0))) B n (by simp;omega) ao9;have f:BW w.heap.size w (w.alloc (J (List.replicate n (Value.slice I 0 0)).toArray 31 (0,0))):=Bn;have b:BW (w.alloc (J (List.replicate n (Value.slice I 0 0)).toArray 31 (0,0))).heap.size (w.alloc (J (List.replicate n (Value.slice I 0 0)).toArray 31 (0,0))) ((w.alloc (J (List.replicate n (Value.slice I 0 0)).toArray 31 (0,0))).alloc (J (List.replicate n (Value.slice I 0 0)).toArray 31 (0,0))):=Bn;have h:=h1.low b;have l:=(o.mod (Mod.ag (S:=λ_=>False) f) (λ_ _ c=>c)).mod (Mod.ag (S:=λ_=>False) b) (λ_ _ c=>c);simp only[Zi]at d h l;have e:(w.alloc (J (Array.replicate n (Value.slice I 0 0)) 31 (0,0))).heap.size=w.heap.size+1:=as9
 rw[e]at d;refine⟨h,d,ao9,m,ao9,λi r g=>?_,λi r g=>?_,λi j u v q t k p=>?_,l⟩
 .have a:=Rg (Ai g);subst a;simp[Value.ownBlock]
 .have a:=Rg (Ai g);subst a;simp[Value.ownBlock]
 .have a:=Rg (Ai q);subst a;simp[Value.ownBlock]at p
end
section
open Go.RowKit Go.Maps Go.Lib
def Gv (r:List (List Int)×Int) (w:WD) (e:Ending) (w':WD):Prop:=
 ∃v,e=Q (D #[v,Z G r.2])/\(r.2≠0->v=V I 0 0)/\(r.2=0->∃g s2,v=V (O ⟨g,0,I⟩) r.1.length r.1.length/\Cy w' w.heap.size g r.1.length s2 r.1)/\BW w.heap.size w w'
def Gv.bad {r:List (List Int)×Int} {k:Int} {w w':WD} (h:r=([],k)) (b:k≠0) (a:BW w.heap.size w w'):Gv r w (Q (D #[V I 0 0,Z G k])) w':=by
 subst h;exact⟨_,rfl,λ_=>rfl,λe=>absurd e b,a⟩
def Ac5 {l:List Int} {p:Int->Bool} {i:Nat} {x:Int} (b:l[i]?=O x) (a:p x=true):l.any p=true:=Ku.2 ⟨x,Ai b,a⟩
def Azc (o:Int) (so:Option Addr) (m sc:Nat) (d:List Int) (ao:Option Addr) (n c:Nat) (after:List (List Int)) (w:WD) (hs:Ao w so m d) (h:Q9 w ao n after) (aE:∀l,l∈after->l.length<=1000) :
  CS prog 99 #[Z G o,V so m sc,V ao n c] w (Gv (Fa o d after) w):=by
 have av:=hs.len;have s:=h.len;have ap:BW w.heap.size w w:=Below.refl _ _;by_cases c0:o<1\/1099511627776<o\/8<d.length\/after.length≠d.length
 .have hr:Fa o d after=([],1):=by unfold Fa;rw[Ad c0]
  rw[av,s]at c0;by_cases c1:o<1
  .clear c0;replace⟨hs,h,aE,av,s,hr,ap⟩:=H7 hs h aE av s hr ap;go_enter Tu,Ts;go_wp2_with fail;exact An (v:=D #[V I 0 0,Z G 1]) (by simp[results,results99,go_sem]) rfl (Gv.bad hr.out ad9 ap.out)
  .by_cases c2:o > 1099511627776
   .clear c0;replace⟨hs,h,aE,av,s,hr,ap⟩:=H7 hs h aE av s hr ap;go_enter Tu,Ts;go_wp2_with fail;exact An (v:=D #[V I 0 0,Z G 1]) (by simp[results,results99,go_sem]) rfl (Gv.bad hr.out ad9 ap.out)
   .by_cases c3:(m:Int) > 8
    .clear c0;replace⟨hs,h,aE,av,s,hr,ap⟩:=H7 hs h aE av s hr ap;go_enter Tu,Ts;go_wp2_with fail;exact An (v:=D #[V I 0 0,Z G 1]) (by simp[results,results99,go_sem]) rfl (Gv.bad hr.out ad9 ap.out)
    .have c4:((n:Int) != (m:Int))=true:=(by rw[Gf];omega);clear c0;replace⟨hs,h,aE,av,s,hr,ap⟩:=H7 hs h aE av s hr ap;go_enter Tu,Ts;go_wp2_with fail;exact An (v:=D #[V I 0 0,Z G 1]) (by simp[results,results99,go_sem]) rfl (Gv.bad hr.out ad9 ap.out)
 have a5:Fa o d after=if (d.any λn=>decide (n<1) || decide (20<n))=true then([],1)
   else if (after.any λl=>l.any (F4 o d.length))=true then([],90)
   else if G4 (after.map (Jy o d))=false then([],91)
   else(after.map (G5 o d),0):=by
  unfold Fa;rw[Ab c0]
 obtain⟨r,hr⟩:=Ex (Fa o d after);rw[<-hr];rw[<-hr]at a5;have c1:¬o<1:=λe=>c0 (.inl e);have c2:¬o > 1099511627776:=λe=>c0 (.inr (.inl e));have c3:¬(m:Int) > 8:=λe=>c0 (.inr (.inr (.inl ao9)))
 have cn:n=m:=by
  by_cases e:n=m
  .exact e
  .exact absurd (.inr (.inr (.inr ao9))) c0
 subst cn;have c4:((n:Int) != (n:Int))=false:=as9
 clear c0;have cw:∀w:WD,(Instr.makeSlice 31 (Z G ((n:Int)+1)) (Z G ((n:Int)+1))).run prog w=.ok (V (O ⟨w.heap.size,0,I⟩) (n+1) (n+1)) (w.alloc (J (List.replicate (n+1) (Value.int G 0)).toArray 3 (0,0))):=by have:=Ajt (n+1) ao9;simpa using this
 have cA:=Aju n ao9;obtain⟨W,hW⟩:=Ex (w.alloc (J (Array.replicate (n+1) (Value.int G 0)) 3 (0,0)));have bb:Aj W w.heap.size (V (O ⟨w.heap.size,0,I⟩) (n+1) (n+1)) (List.replicate (n+1) 0):=by rw[hW];simpa using Aj.made w w.heap.size (n+1) Ln ao9
 have bC:BW w.heap.size w W:=by rw[hW];exact Bn
 have b8:W.cell? ⟨w.heap.size,0,I⟩=O (Z G 0):=bb.cell (i:=0) as9;have ca:W.frozen? ⟨w.heap.size,0,I⟩=false:=by obtain⟨c,hc,_⟩:=Cq bb.row (g:=w.heap.size) rfl;exact Ag hc 0
 have bs:=bb.wh 0 o;have a9:BW w.heap.size w (W.setCell ⟨w.heap.size,0,I⟩ (Z G o)):=Db bC Ln;replace⟨hs,h,aE,av,s,hr,a5,ap⟩:=H8 hs h aE av s hr a5 ap;replace⟨bb,bC,bs,a9⟩:=H4 bb bC bs a9;go_enter Tu,Ts;go_upto_region 4 with fail;rw[<-hW];clear hW;go_upto_region 5 with fail;clear b8 ca;obtain⟨W1,bO⟩:=Ex (W.setCell ⟨w.heap.size,0,I⟩ (Z G o));rw[<-bO]at bs a9
 try rw[<-bO]
 clear bO bb bC
 have bL:Hid (∃fl:List Int,fl.length=n+1/\(∀k:Nat,k<=0->fl[k]?=O (Dr o d k))/\(∀k x,k<0->d[k]?=O x->1<=x/\x<=20)/\Aj W1 w.heap.size (V (O ⟨w.heap.size,0,I⟩) (n+1) (n+1)) fl):=Hh ⟨_,as9,λk hk=>by
  have:k=0:=ao9
  subst this
  simp[Dr],λk x hk=>by omega,bs.out⟩
 replace bL:=Hh bL;go_wp2_with fail;go_loopw [6,7,9,10,46] (λ_ _ _ _ iv wr=>∃(i:Nat),iv=Z G i/\i<=n/\Hid (BW w.heap.size w wr)/\Hid (∃fl:List Int,fl.length=n+1/\(∀k:Nat,k<=i->fl[k]?=O (Dr o d k))/\(∀k x,k<i->d[k]?=O x->1<=x/\x<=20)/\Aj wr w.heap.size (V (O ⟨w.heap.size,0,I⟩) (n+1) (n+1)) fl)) (λ_ _ _ _ iv _=>n-(intOf iv).toNat)
 case atStart=>exact⟨0,rfl,Ar _,a9,bL⟩
 case round=>
  obtain⟨i,rfl,ci,hb,hG⟩:=hrel;by_cases hc:i<n
  .have bQ:(i:Int)<n:=ao9;have ch:(0:Int)<=(i:Int):=ao9;obtain⟨x,hx⟩:=hs.out.get hc;obtain⟨b2,cB,rfl,aI,aY⟩:=hs.out.cell i x hx;have ck:=(Af hb.out aI).trans aY;by_cases x1:x<1
   .have p:r=([],1):=(by rw[a5.out,Ad (Ac5 hx (by simp[x1]))]);replace⟨hx,aY,p,aI⟩:=H4 hx aY p aI;go_wp2_with fail;exact An (v:=D #[V I 0 0,Z G 1]) (by simp[results,results99,go_sem]) rfl (Gv.bad p.out ad9 hb.out)
   .by_cases x2:x > 20
    .have p:r=([],1):=(by rw[a5.out,Ad (Ac5 hx (by simp;omega))]);replace⟨hx,aY,p,aI⟩:=H4 hx aY p aI;go_wp2_with fail;exact An (v:=D #[V I 0 0,Z G 1]) (by simp[results,results99,go_sem]) rfl (Gv.bad p.out ad9 hb.out)
    .obtain ⟨fl,bc,aQ,aW,aF⟩:=hG.out
     have aV:∀k:Nat,k<=i->o<=Dr o d k/\Dr o d k<=o+20*(k:Int):=λk=>by
      induction k with
      | zero=>intro _;simp[Dr]
      | succ k ih=>
       intro hk;have ih:=ih ao9;obtain⟨y,hy⟩:=hs.out.get (i:=k) ao9;have cL:=aW k y ao9 hy;have e:Dr o d (k+1)=Dr o d k+y:=(by show Dr o d k+(d[k]?).getD 0=_;rw[Gt hy]);rw[e];push_cast;omega
     obtain⟨f,hf⟩:=Ex (Dr o d i);have bS:=aV i Ln;have bw:=aQ i Ln;rw[<-hf]at bS bw;have cf:=aF.cell bw;obtain⟨y,hy⟩:=Ge fl (i+1) ao9;have cy:=aF.cell hy;have ff:wr.frozen? ⟨w.heap.size,i+1,I⟩=false:=(by obtain⟨c,hc,_⟩:=Cq aF.row (g:=w.heap.size) rfl;exact Ag hc _);have cr:IntKind.i64.wrap (f+x)=f+x:=Im ao9 ao9
     have bv:Hid (∃fl:List Int,fl.length=n+1/\(∀k:Nat,k<=i+1->fl[k]?=O (Dr o d k))/\(∀k x,k<i+1->d[k]?=O x->1<=x/\x<=20)/\Aj (wr.setCell ⟨w.heap.size,i+1,I⟩ (Z G (f+x))) w.heap.size (V (O ⟨w.heap.size,0,I⟩) (n+1) (n+1)) fl):=Hh ⟨fl.set (i+1) (f+x),by rw[Dl];exact bc,λk hk=>by
      rw[Do];by_cases e:i+1=k
      .subst e;rw[Ad rfl,Ad ao9,hf];show _=O (Dr o d i+(d[i]?).getD 0);rw[Gt hx]
      .rw [Ab e]
       exact aQ k ao9,λk z hk hz=>by
      by_cases e:k=i
      .subst e;rw[hx]at hz;injection hz with hz;omega
      .exact aW k z ao9 hz,aF.wh (i+1) (f+x)⟩
     have aP:BW w.heap.size w (wr.setCell ⟨w.heap.size,i+1,I⟩ (Z G (f+x))):=Db hb.out Ln;replace⟨hx,aY,aI,bc,aQ,aW,aF,aV⟩:=H8 hx aY aI bc aQ aW aF aV;replace⟨hf,bS,bw,hy,bv,aP⟩:=H6 hf bS bw hy bv aP;go_upto_region 11 with fail;obtain⟨W2,a0⟩:=Ex (wr.setCell ⟨w.heap.size,i+1,I⟩ (Z G (f+x)));rw[<-a0]at bv aP;rw[<-a0];clear a0 cf cy ff ck;go_wp2_with fail;go_roundw
     case rel=>exact⟨i+1,by go_num,ao9,aP,bv⟩
     case measure=>simp[intOf];omega
  .have bQ:¬(i:Int)<n:=ao9;have a3:n=i:=ao9;subst a3;obtain⟨fl,bc,aQ,aW,aF⟩:=hG.out
   have a7:∀x,x∈d->1<=x/\x<=20:=λx hx=>by
    obtain⟨k,hk⟩:=Dk hx;have:=(Ap.1 hk).1;exact aW k x (by have:=av.out;omega) hk
   have bM:w.heap.size<wr.heap.size:=(by obtain⟨c,hc,_⟩:=Cq aF.row (g:=w.heap.size) rfl;exact Ac hc);have aZ:=ig.start (n:=n) bM ao9 aF
   have bF:r=if (after.any λl=>l.any (F4 o d.length))=true then([],90)
     else if G4 (after.map (Jy o d))=false then([],91)
     else(after.map (G5 o d),0):=by
    rw[a5.out,Ab];intro e;obtain⟨x,hx,hp⟩:=Ku.1 e;have:=a7 x hx;simp at hp;omega
   have aP:BW w.heap.size w ((wr.alloc (J (Array.replicate n (Value.slice I 0 0)) 31 (0,0))).alloc (J (Array.replicate n (Value.slice I 0 0)) 31 (0,0))):=(hb.out.alloc ao9 _).alloc (by simp;omega) _;clear a5;replace⟨bc,aQ,aW,aF,a7,bM,aZ,bF⟩:=H8 bc aQ aW aF a7 bM aZ bF;replace aP:=Hh aP;go_upto_region 14 with fail;obtain⟨W2,a0⟩:=Ex ((wr.alloc (J (Array.replicate n (Value.slice I 0 0)) 31 (0,0))).alloc (J (Array.replicate n (Value.slice I 0 0)) 31 (0,0)));rw[<-a0]at aZ aP;rw[<-a0];clear a0;obtain⟨g2,bU⟩:=Ex (wr.heap.size+1);rw[<-bU]at aZ
   try rw[<-bU]
   obtain⟨g1,bT⟩:=Ex (wr.heap.size);rw[<-bT]at aZ
   try rw[<-bT]
   clear bT bU hG hb aF;have aO:Hid (ig w.heap.size g1 g2 n fl (List.replicate n (V I 0 0)) (List.replicate n (V I 0 0)) (F7 (Jy o d) after 0) (F7 (G5 o d) after 0) W2):=Hh (by have:=aZ.out;simpa[F7,s.out]using this)
   have cb:Hid (∀(k:Nat) (l:List Int),k<0->after[k]?=O l->l.any (F4 o d.length)=false):=Hh λk l hk=>by omega
   clear aZ;go_wp2_with fail;go_loopw [13,14,16,17,18,76,83] (λ_ _ _ _ _ iv _ wr=>∃(i:Nat) (s1 s2:List VL),iv=Z G i/\i<=n/\Hid (BW w.heap.size w wr)/\Hid (ig w.heap.size g1 g2 n fl s1 s2 (F7 (Jy o d) after i) (F7 (G5 o d) after i) wr)/\Hid (∀(k:Nat) (l:List Int),k<i->after[k]?=O l->l.any (F4 o d.length)=false)) (λ_ _ _ _ _ iv _ _=>n-(intOf iv).toNat)
   case atStart=>exact⟨0,_,_,rfl,Ar _,aP,aO,cb⟩
   case round=>
    obtain⟨i,s1,s2,rfl,ci,hb,hT,hB⟩:=hrel;by_cases hc:i<n
    .have bQ:(i:Int)<n:=ao9;have ch:(0:Int)<=(i:Int):=ao9;obtain⟨l,hl⟩:=h.out.get hc;obtain⟨ba,cD,sl,cM,rfl,cm,bo,aX,bX,bV⟩:=h.out.cell i l hl;have aS:=aE.out l (Ai hl);obtain⟨ln,aL⟩:=Ex (l.length);rw[<-aL]at bo aX bX bV aS;have cl:=(Af hb.out cm).trans bo;obtain⟨r1,aM⟩:=Ex (F7 (Jy o d) after i);obtain⟨r2,aN⟩:=Ex (F7 (G5 o d) after i);have q1:r1[i]?=O []:=(by rw[aM,Yt _ _ _ _ (by rw[s.out];exact hc),Ab ao9]);have q2:r2[i]?=O []:=(by rw[aN,Yt _ _ _ _ (by rw[s.out];exact hc),Ab ao9]);have p1:r1.length=n:=(by rw[aM,U8,s.out]);have p2:r2.length=n:=(by rw[aN,U8,s.out]);have n1:F7 (Jy o d) after (i+1)=r1.set i (C0 o d l ln).1:=(by rw[aM,aL];show(F7 (Jy o d) after i).set i (Jy o d ((after[i]?).getD []))=_;rw[Gt hl];rfl);have n2:F7 (G5 o d) after (i+1)=r2.set i (Lib.compact (In (C0 o d l ln).2)):=(by rw[aN,aL];show(F7 (G5 o d) after i).set i (G5 o d ((after[i]?).getD []))=_;rw[Gt hl];rfl);rw[<-aM,<-aN]at hT
     have ce:Hid (ig w.heap.size g1 g2 n fl s1 s2 (r1.set i (C0 o d l 0).1) (r2.set i (C0 o d l 0).2) wr):=Hh (by
      show ig w.heap.size g1 g2 n fl s1 s2 (r1.set i []) (r2.set i []) wr;rw[Yv q1,Yv q2]
      exact hT.out)
     have cc:Hid (∀(k:Nat) (x:Int),k<0->l[k]?=O x->F4 o d.length x=false):=Hh λk x hk=>by omega
     have bx:=Yu o d l (λx hx=>(a7.out x hx).2);clear hT;replace⟨hl,bo,aX,bX,bV,aS,aL,aM⟩:=H8 hl bo aX bX bV aS aL aM;replace⟨aN,q1,q2,p1,p2,n1,n2,bx⟩:=H8 aN q1 q2 p1 p2 n1 n2 bx;go_upto_region 17 with fail;clear cl;go_wp2_with fail;go_loopw [16,17,18,83] (λ_ _ _ jv wr=>∃(j:Nat) (s1 s2:List VL),jv=Z G j/\j<=ln/\Hid (BW w.heap.size w wr)/\Hid (ig w.heap.size g1 g2 n fl s1 s2 (r1.set i (C0 o d l j).1) (r2.set i (C0 o d l j).2) wr)/\Hid (∀(k:Nat) (x:Int),k<j->l[k]?=O x->F4 o d.length x=false)) (λ_ _ _ jv _=>ln-(intOf jv).toNat)
     case atStart=>exact⟨0,_,_,rfl,Ar _,hb,ce,cc⟩
     case round=>
      obtain⟨j,s1,s2,rfl,cF,hb,hT,b1⟩:=hrel;by_cases hd:j<ln
      .have bf:(j:Int)<ln:=ao9;have bA:(0:Int)<=(j:Int):=ao9;obtain⟨x,hx⟩:∃x,l[j]?=O x:=aX.out.get hd;obtain⟨b3,cC,rfl,af,aH⟩:=aX.out.cell j x hx;have cx:=(Af hb.out af).trans aH;obtain⟨nn,aJ⟩:=Ex (-(n:Int));have cJ:IntKind.i64.wrap (-(n:Int))=nn:=(by rw[aJ];exact Im ao9 ao9);by_cases aC:F4 o d.length x=true
       .have p:r=([],90):=(by rw[bF.out,Ad];exact Ku.2 ⟨l,Ai hl.out,Ac5 hx aC⟩);have a1:x=0\/o<=x\/x < -(n:Int):=(by have:=av.out;simp[F4]at aC;omega);clear aC;by_cases e0:x=0
        .subst e0;clear a1;replace⟨hx,aH,af,p,aJ⟩:=H5 hx aH af p aJ;go_wp2_with fail;exact An (v:=D #[V I 0 0,Z G 90]) (by simp[results,results99,go_sem]) rfl (Gv.bad p.out ad9 hb.out)
        .by_cases e1:x>=o
         .clear a1;replace⟨hx,aH,af,p,aJ⟩:=H5 hx aH af p aJ;go_wp2_with fail;exact An (v:=D #[V I 0 0,Z G 90]) (by simp[results,results99,go_sem]) rfl (Gv.bad p.out ad9 hb.out)
         .have e2:x<nn:=ao9;clear a1;replace⟨hx,aH,af,p,aJ⟩:=H5 hx aH af p aJ;go_wp2_with fail;exact An (v:=D #[V I 0 0,Z G 90]) (by simp[results,results99,go_sem]) rfl (Gv.bad p.out ad9 hb.out)
       .have hg:=av.out;have e0:¬x=0:=λe=>aC (by simp[F4,e]);have e1:¬x>=o:=λe=>aC (by simp[F4];omega);have e2:¬x<nn:=λe=>aC (by simp[F4];omega);obtain⟨ra,aA⟩:=Ex ((C0 o d l j).1);obtain⟨rb,aB⟩:=Ex ((C0 o d l j).2);have aK:=bx.out j;rw[<-aA,<-aB]at aK;rw[<-aA,<-aB]at hT
        have b4:Hid (∀(k:Nat) (y:Int),k<j+1->l[k]?=O y->F4 o d.length y=false):=Hh λk y hk hy=>by
         by_cases e:k=j
         .subst e;rw[hx]at hy;injection hy with hy;subst hy;simpa using aC
         .exact b1.out k y ao9 hy
        have q3:(r1.set i ra)[i]?=O ra:=(by rw[Do,Ad rfl,Ad (by have:=p1.out;omega)]);have q4:(r2.set i rb)[i]?=O rb:=(by rw[Do,Ad rfl,Ad (by have:=p2.out;omega)]);clear aC;by_cases cs:x > 0
        .have a4:C0 o d l (j+1)=(ra,rb++[x]):=(by show Mq o d (C0 o d l j) ((l[j]?).getD 0)=_;rw[Gt hx];unfold Mq;rw[Ad cs,aA,aB]);obtain⟨be,n3,c3,l3,t1,t2,t3,t4,t5,t6,t7,t8,t9,aG,_⟩:=hT.out.symm.app (i:=i) (by rw[Dl];have:=p2.out;omega) x;rw[q4]at t2;injection t2 with t2;subst t2;have ad:n3<=1000000000:=(by have:=aS.out;omega);clear t5;replace⟨hx,aH,af,aJ,aA,aB,aK,q3⟩:=H8 hx aH af aJ aA aB aK q3;replace⟨q4,a4,t1,t3,t6,t7,t8,t9⟩:=H8 q4 a4 t1 t3 t6 t7 t8 t9;replace⟨aG,ad,hg⟩:=H3 aG ad hg;go_upto_region 20 with fail;clear bA bf;go_upto_region 23 with fail;clear cx;have cj:=aS.out;have bf:(j:Int)<ln:=ao9;have bA:(0:Int)<=(j:Int):=ao9;go_wp2_with (at_builtin;refine Mp rfl _ _ rfl w.heap.size n3 _ rfl t7.out t3.out ⟨wr.heap.size,0,I⟩ 1 rfl x t8.out ad.out t9.out ?_;intro g7 an w7 h7 ac aD;obtain⟨k7,f7⟩:=aG.out w7 ac;replace⟨h7,ac,aD⟩:=H3 h7 ac aD)
         have u:=(hT.out.symm.put t6.out t1.out q4.out ac.out h7.out (λk hk=>by
          simp[Value.ownBlock]at hk;subst hk;rcases aD.out with e|e
          .exact .inl e
          .exact .inr e)).symm
         have al:BW w.heap.size w (w7.setCell ⟨g2,i,I⟩ (V (O ⟨g7,0,I⟩) (n3+1) an)):=hT.out.symm.below hb.out t6.out t1.out ac.out;rw[P5]at u;have bN:Hid (ig w.heap.size g1 g2 n fl s1 (s2.set i (V (O ⟨g7,0,I⟩) (n3+1) an)) (r1.set i (C0 o d l (j+1)).1) (r2.set i (C0 o d l (j+1)).2) (w7.setCell ⟨g2,i,I⟩ (V (O ⟨g7,0,I⟩) (n3+1) an))):=Hh (by rw[a4.out];exact u);clear u;replace al:=Hh al;go_roundw
         case rel=>
          exact⟨j+1,_,_,by go_num,ao9,al,bN,b4⟩
         case measure=>
          simp[intOf];omega
        .obtain ⟨kk,b5⟩:∃kk:Nat,x=-1-(kk:Int):=⟨(-1-x).toNat,ao9⟩;have cG:kk<n:=ao9;have cv:(kk:Int)<(n:Int)+1:=ao9;have cr:IntKind.i64.wrap (-1-x)=(kk:Int):=(by rw[Im ao9 ao9];omega);obtain⟨z,hz⟩:=Ge d kk ao9;have bn:=a7.out z (Ai hz);obtain⟨f,hf⟩:=Ex (Dr o d kk);have bR:Dr o d (kk+1)=f+z:=(by rw[hf];show Dr o d kk+(d[kk]?).getD 0=_;rw[Gt hz]);have aV:=Ajw o d a7.out kk;rw[<-hf]at aV;have e4:=aQ.out kk ao9;rw[<-hf]at e4;have e5:=aQ.out (kk+1) ao9;rw[bR]at e5;obtain⟨f2,bg⟩:=Ex (f+z);rw[<-bg]at e5
         have a4:C0 o d l (j+1)=(ra++[(kk:Int)],rb++Jj f z.toNat):=by
          show Mq o d (C0 o d l j) ((l[j]?).getD 0)=_;rw[Gt hx];unfold Mq;rw[Ab ao9];have e:-1-x=(kk:Int):=ao9;rw[e,J7,<-hf,Gt hz,aA,aB]
         obtain⟨be,n3,c3,l3,t1,t2,t3,t4,t5,t6,t7,t8,t9,aG,_⟩:=hT.out.app (i:=i) (by rw[Dl];have:=p1.out;omega) (kk:Int);rw[q3]at t2;injection t2 with t2;subst t2;have ad:n3<=1000000000:=(by have:=aS.out;omega);clear t5;replace⟨hx,aH,af,aJ,aA,aB,aK,q3⟩:=H8 hx aH af aJ aA aB aK q3;replace⟨q4,a4,t1,t3,t6,t7,t8,t9⟩:=H8 q4 a4 t1 t3 t6 t7 t8 t9;replace⟨aG,ad,hg,b5,hz,bn,hf,bR⟩:=H8 aG ad hg b5 hz bn hf bR;replace⟨aV,e4,e5,bg⟩:=H4 aV e4 e5 bg;go_upto_region 20 with fail;clear bA bf;go_upto_region 25 with fail;clear cx;go_upto_region 26 with(at_builtin;refine Mp rfl _ _ rfl w.heap.size n3 _ rfl t7.out t3.out ⟨wr.heap.size,0,I⟩ 1 rfl (kk:Int) t8.out ad.out t9.out ?_;intro g7 an w7 h7 ac aD;obtain⟨k7,f7⟩:=aG.out w7 ac;replace⟨h7,ac,aD⟩:=H3 h7 ac aD)
         have u:=hT.out.put t6.out t1.out q3.out ac.out h7.out (λk hk=>by
          simp[Value.ownBlock]at hk;subst hk;rcases aD.out with e|e
          .exact .inl e
          .exact .inr e)
         have al:BW w.heap.size w (w7.setCell ⟨g1,i,I⟩ (V (O ⟨g7,0,I⟩) (n3+1) an)):=hT.out.below hb.out t6.out t1.out ac.out;rw[P5]at u;obtain⟨W3,bP⟩:=Ex (w7.setCell ⟨g1,i,I⟩ (V (O ⟨g7,0,I⟩) (n3+1) an));rw[<-bP]at u al;rw[<-bP]
         have cf:=u.first.cell e4.out
         have bN:Hid (ig w.heap.size g1 g2 n fl (s1.set i (V (O ⟨g7,0,I⟩) (n3+1) an)) s2 (r1.set i (ra++[(kk:Int)])) (r2.set i (rb++Jj f 0)) W3):=Hh (by simpa[Jj]using u);clear u bP k7 f7 t4 h7 ac aD hT t1 t3 t6 t7 t8 t9 aG;have co:Hid (f=f+((0:Nat):Int)):=Hh as9;replace al:=Hh al;go_wp2_with fail;clear cf;go_loopw [18] (λbZ wr=>∃(vt:Int) (t:Nat) (s2:List VL),bZ=Z G vt/\Hid (vt=f+(t:Int))/\t<=z.toNat/\Hid (BW w.heap.size w wr)/\Hid (ig w.heap.size g1 g2 n fl (s1.set i (V (O ⟨g7,0,I⟩) (n3+1) an)) s2 (r1.set i (ra++[(kk:Int)])) (r2.set i (rb++Jj f t)) wr)) (λbZ _=>(f2-intOf bZ).toNat)
         case atStart=>exact⟨f,0,_,rfl,co,Ar _,al,bN⟩
         case round=>
          obtain⟨vt,t,s2,rfl,bl,cI,hb,hT⟩:=hrel
          have b9:=hT.out.first.cell e5.out
          by_cases hm:t<z.toNat
          .have bd:vt<f2:=(by have:=bl.out;have:=bg.out;omega);have cK:IntKind.i64.wrap (vt+1)=vt+1:=(by have:=bl.out;have:=aV.out;have:=bn.out;exact Im ao9 ao9);have cp:Hid (vt+1=f+((t+1:Nat):Int)):=Hh (by have:=bl.out;push_cast;omega);have q5:(r2.set i (rb++Jj f t))[i]?=O (rb++Jj f t):=(by rw[Do,Ad rfl,Ad (by have:=p2.out;omega)]);obtain⟨cN,n4,cE,l4,t1,t2,t3,t4,t5,t6,t7,t8,t9,aG,_⟩:=hT.out.symm.app (i:=i) (by rw[Dl];have:=p2.out;omega) vt;rw[q5]at t2;injection t2 with t2;subst t2;have ad:n4<=1000000000:=(by have:=aS.out;have:=aK.out;have:=bn.out;simp[Jj]at t3;omega);have bi:Hid ((f2-(vt+1)).toNat<(f2-vt).toNat):=Hh ao9;clear t5;replace⟨q5,t1,t3,t6,t7,t8,t9,aG⟩:=H8 q5 t1 t3 t6 t7 t8 t9 aG;replace ad:=Hh ad;go_upto_region 29 with fail;clear b9;go_wp2_with (at_builtin;refine Mp rfl _ _ rfl w.heap.size n4 _ rfl t7.out t3.out ⟨wr.heap.size,0,I⟩ 1 rfl vt t8.out ad.out t9.out ?_;intro g8 b0 w7 h7 ac aD;obtain⟨k7,f7⟩:=aG.out w7 ac;replace⟨h7,ac,aD⟩:=H3 h7 ac aD)
           have u:=(hT.out.symm.put t6.out t1.out q5.out ac.out h7.out (λk hk=>by
          simp[Value.ownBlock]at hk;subst hk;rcases aD.out with e|e
          .exact .inl e
          .exact .inr e)).symm
           have al:BW w.heap.size w (w7.setCell ⟨g2,i,I⟩ (V (O ⟨g8,0,I⟩) (n4+1) b0)):=hT.out.symm.below hb.out t6.out t1.out ac.out;rw[P5]at u;have bK:Jj f t++[vt]=Jj f (t+1):=(by rw[Awo,<-bl.out]);rw[Fd,bK]at u;clear bK;replace⟨al,u⟩:=H2 al u;go_roundw
           case rel=>exact⟨vt+1,t+1,_,by go_num,cp,ao9,al,u⟩
           case measure=>simpa[intOf]using bi.out
          .have bd:¬vt<f2:=(by have:=bl.out;have:=bg.out;have:=bn.out;omega);have b7:t=z.toNat:=ao9;have cg:Hid (ig w.heap.size g1 g2 n fl (s1.set i (V (O ⟨g7,0,I⟩) (n3+1) an)) s2 (r1.set i (C0 o d l (j+1)).1) (r2.set i (C0 o d l (j+1)).2) wr):=Hh (by rw[a4.out,<-b7];exact hT.out);clear b7 hT;have cj:=aS.out;have bf:(j:Int)<ln:=ao9;have bA:(0:Int)<=(j:Int):=ao9;go_wp2_with fail;go_roundw
           case rel=>
            exact⟨j+1,_,_,by go_num,ao9,hb,cg,b4⟩
           case measure=>
            simp[intOf];omega
      .have bf:¬(j:Int)<ln:=ao9;have bB:ln=j:=ao9;obtain⟨ra,aA⟩:=Ex ((C0 o d l j).1);obtain⟨rb,aB⟩:=Ex ((C0 o d l j).2);have aK:=bx.out j;have bH:=n1.out;have bI:=n2.out;rw[bB,<-aA]at bH;rw[bB,<-aB]at bI;rw[<-aA,<-aB]at hT aK;have q4:(r2.set i rb)[i]?=O rb:=(by rw[Do,Ad rfl,Ad (by have:=p2.out;omega)]);obtain⟨be,n3,c3,l3,t1,t2,t3,t4,t5,_,_,_,_,_,bJ⟩:=hT.out.symm.app (i:=i) (by rw[Dl];have:=p2.out;omega) 0;rw[q4]at t2;injection t2 with t2;subst t2;have bD:rb.length<=1000000:=(by have:=aS.out;omega);have a6:=Awm t5 bD;have a2:∀w1,Aj w1 w.heap.size (V be n3 c3) (In rb)->CS prog 155 #[V be n3 c3] w1 λe w'=>∃v',e=Q v'/\Aj w' w.heap.size v' (Lib.compact (In rb))/\Mod (λb=>(Value.slice be n3 c3).ownBlock=O b) w1 w'/\v'.ownBlock=(Value.slice be n3 c3).ownBlock:=λw1 h1=>Awn h1 (by rw[Ys];exact bD)
       have cd:Hid (∀(k:Nat) (l':List Int),k<i+1->after[k]?=O l'->l'.any (F4 o d.length)=false):=Hh λk l' hk aR=>by
        by_cases e:k=i
        .subst e;rw[hl.out]at aR;injection aR with aR;subst aR;refine List.any_eq_false.2 λy hy=>?_;obtain⟨q,hq⟩:=Dk hy;have cH:=(Ap.1 hq).1;rw[b1.out q y (by have:=aL.out;omega) hq];decide
        .exact hB.out k l' ao9 aR
       replace⟨aA,aB,bH,bI,aK,q4,t1,t3⟩:=H8 aA aB bH bI aK q4 t1 t3;replace⟨t5,bJ,bD,a6,a2,bB⟩:=H6 t5 bJ bD a6 a2 bB;go_upto_region 32 with(go_at_call 91;(with_reducible refine(a6.out).mono ?_);rintro e w1 ⟨rfl,bW,bd⟩;obtain⟨k1,f1⟩:=bJ.out w1 bd;replace⟨bW,bd⟩:=H2 bW bd);clear t4;go_wp2_with (go_at_call 155;(with_reducible refine(a2.out _ bW.out).mono ?_);rintro e w2 ⟨v2,rfl,bE,bi,bY⟩;obtain⟨ct,n5,c5,rfl,b6⟩:=bE.len;replace b6:=Hh b6;have bk:=bd.out.trans bi;obtain⟨k2,f2⟩:=bJ.out w2 bk;clear k1 f1;replace⟨bE,bi,bk,bY⟩:=H4 bE bi bk bY);have u:=(hT.out.symm.put (Below.refl _ _) t1.out q4.out (Mod.grownBy bk.out) bE.out (λk hk=>.inl (by rw[<-bY.out];exact hk))).symm;have al:BW w.heap.size w (w2.setCell ⟨g2,i,I⟩ (V ct n5 c5)):=hT.out.symm.below hb.out (Below.refl _ _) t1.out (Mod.grownBy bk.out);rw[P5,<-bH.out,<-bI.out]at u;replace⟨u,al⟩:=H2 u al;go_roundw
       case rel=>exact⟨i+1,_,_,by go_num,ao9,al,u,cd⟩
       case measure=>simp[intOf];omega
    .have bQ:¬(i:Int)<n:=ao9;have a3:n=i:=ao9;have aO:=hT.out;rw[<-a3,<-s.out,Ajv,Ajv]at aO;have p:r=if G4 (after.map (Jy o d))=false then([],91)else(after.map (G5 o d),0):=by rw[bF.out,Ab];intro e;obtain⟨l',aR,hp⟩:=Ku.1 e;obtain⟨k,hk⟩:=Dk aR;have:=(Ap.1 hk).1;rw[hB.out k l' (by have:=s.out;omega) hk]at hp;cases hp
     have bG:=aO.a.rows (by rw[As];have:=s.out;omega) (λl' aR=>by
      obtain⟨l0,h0,rfl⟩:=A7.1 aR;have h1:=aE.out l0 h0;have h2:=(Yu o d l0 (λx hx=>(a7.out x hx).2) l0.length).1;show(C0 o d l0 l0.length).1.length<=100000
      omega)
     rw[As,s.out]at bG;have aU:=Awj (O ⟨g1,0,I⟩) n n (after.map (Jy o d)) wr bG;by_cases a8:G4 (after.map (Jy o d))=true
     .rw [a8]at aU;have am:r=(after.map (G5 o d),0):=(by rw[p,a8,Ab ad9]);clear p a8 bG hT;replace⟨aO,am,aU,a3⟩:=H4 aO am aU a3;go_wp2_with (go_at_call 156;(with_reducible refine(aU.out).mono ?_);rintro e w1 ⟨rfl,aT⟩;replace aT:=Hh aT);refine An (v:=D #[V (O ⟨g2,0,I⟩) n n,Z G 0]) (by simp[results,results99,go_sem]) rfl ⟨_,by rw[am.out],λe=>absurd (by rw[am.out]) e,λ_=>⟨g2,s2,?_,?_⟩,hb.out.trans (aT.out.mono hb.out.size)⟩
      .rw [am.out,As,s.out]
      .have:=aO.out.b.low aT.out;rw[am.out,As];exact this
     .rw [Zz]at a8;rw[a8]at aU;have am:r=([],91):=(by rw[p,a8,Ad rfl]);clear p a8 bG hT;replace⟨aO,am,aU,a3⟩:=H4 aO am aU a3;go_wp2_with (go_at_call 156;(with_reducible refine(aU.out).mono ?_);rintro e w1 ⟨rfl,aT⟩;replace aT:=Hh aT);exact An (v:=D #[V I 0 0,Z G 91]) (by simp[results,results99,go_sem]) rfl (Gv.bad am.out ad9 (hb.out.trans (aT.out.mono hb.out.size)))
