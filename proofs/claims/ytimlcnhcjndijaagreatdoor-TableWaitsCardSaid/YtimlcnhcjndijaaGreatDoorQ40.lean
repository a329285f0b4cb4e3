/- Parts Gd2, Psl, Akw, Akv, Vow, Sbl, Wld, Apm, Apl. Plain theorems: no condition. -/
import Derived.Test.YtimlcnhcjndijaaGreatDoorQ37
import Derived.Test.YtimlcnhcjndijaaGreatDoorQ39
import Derived.Test.YtimlcnhcjndijaaGreatDoorQ32
set_option linter.all false
set_option maxRecDepth 100000
set_option maxHeartbeats 12800000
namespace Go.Proofs.YtimlcnhcjndijaaGreatDoor
variable {vs:List ax} {n k:Nat} {j:Jb} {js:List Jb}
def Ahi (d:List V4) (c:Int) (e:List Bool) (f:List Pl.At) (a:List Pl.Ask):Oc d c e f a=[]\/∃ b,Pl.Kk d c e f a b/\Oc d c e f a=b.map Pl.Au.key:=by
 unfold Oc;split
 .rename_i h;exact .inr ⟨h.choose,h.choose_spec,rfl⟩
 .exact .inl rfl
def Xe (h:F7 vs js) {k:Nat} {j:Jb} (a:js[k]?=some j):Ew js j.id=j:=by
 unfold Ew;rw [(h k j a).id,show ((k:Int)+1-1).toNat=k by omega,a];rfl
def Ahj (h:F7 vs js):(js.map Jb.id).Nodup:=by
 refine Oj.2 fun a b c d e=>?_;rw [Ax] at c d;rw [List.getElem_map,List.getElem_map,(h a _ (Am c)).id,(h b _ (Am d)).id];omega
def Xf (_h:F7 vs js) {i:Nat} (h:i<(Bi js).length):∃ (k:Nat) (j:Jb),js[k]?=some j/\Ji js j=true/\A5 (Bi js) i=⟨j.id,j.sp.user,j.sp.prio,Kg j⟩:=by
 have d:(Bi js)[i]?=some (Bi js)[i]:=Am _;have c:(Bi js)[i]∈Bi js:=Ls _;unfold Bi at c;obtain ⟨j,f,e⟩:=Bd.1 c;obtain ⟨a,b⟩:=Oo.1 f;obtain ⟨k,g⟩:=Dr a;refine ⟨k,j,g,b,?_⟩;unfold A5;rw [d];exact e.symm
def Au3 (h:F7 vs js) {a:Pl.Ask} (b:a∈Dk vs js):∃ (k:Nat) (j:Jb),js[k]?=some j/\Ji js j=true/\a=Ej vs j:=by
 unfold Dk at b;obtain ⟨i,d,rfl⟩:=Bd.1 b;obtain ⟨k,j,c,f,e⟩:=Xf h (Xd _ _ _ d);exact ⟨k,j,c,f,by rw [e,Xe h c]⟩
def Au4 (h:F7 vs js):((Dk vs js).map fun a=>a.id).Nodup:=by
 unfold Dk;rw [Du];refine List.pairwise_map.2 ?_;refine List.Pairwise.imp_of_mem (fun {x y} hx hy hne=>?_) (Au2 (Dv vs ByteArray.empty) (C8 js) (Bi js));have b:=Xd _ _ _ hx;have d:=Xd _ _ _ hy;obtain ⟨p,j,g,_,k⟩:=Xf h b;obtain ⟨q,l,i,_,m⟩:=Xf h d;show (Ej vs (Ew js (A5 (Bi js) x).id)).id≠(Ej vs (Ew js (A5 (Bi js) y).id)).id;rw [k,m,Xe h g,Xe h i];show j.id≠l.id;have f:((Bi js).map cz.id).Nodup:=by unfold Bi;rw [Du];exact (Ahj h).sublist ((List.filter_sublist).map Jb.id)
 have n:((Bi js).map cz.id)[x]?=some j.id:=by
  rw [Bx,Am b]
  have:A5 (Bi js) x=(Bi js)[x]:=by unfold A5;rw [Am b];rfl
  rw [<- this,k];rfl
 have o:((Bi js).map cz.id)[y]?=some l.id:=by
  rw [Bx,Am d]
  have:A5 (Bi js) y=(Bi js)[y]:=by unfold A5;rw [Am d];rfl
  rw [<- this,m];rfl
 intro e;rcases Q7 hne with c | c
 .exact Fl f n o c e
 .exact Fl f o n c e.symm
def Aam (vs:List ax) (tick:Int) (s:dp) (x:Int×Int×List Int):Prop:=(x.2.1=-1/\x.2.2=[])\/(tick<=x.2.1/\Um vs s x.2.2/\x.2.1+8+s.wall<=1099511627776)
def Au5 {n:List Bool} {zs:List Int} (h:Pl.Ng n (Ej vs j) zs):Um vs j.sp zs:=by
 have e:∀ i,i<zs.length->∀ d,zs[i]?=some d->Pl.zi zs i=d:=fun i f d o=>by
  simp [Pl.zi,List.getD,o]
 refine ⟨fun x p=>?_,?_,h.len⟩
 .obtain ⟨i,f⟩:=Dr p;have l:=(Aq.1 f).1;have g:=h.uh i l;rw [e i l x f] at g;unfold Pl.Bl Pl.mr Pl.Nf at g;obtain ⟨q,r,rfl⟩:=Bd.1 g;have:=(Oo.1 r).2;unfold Pl.Qj at this;simp at this;exact this.2
 .have k:∀ d a,a+d+1<zs.length->Pl.zi zs a<Pl.zi zs (a+d+1):=fun d=>by
   induction d with
   | zero=>intro a c;exact h.bh a c
   | succ d ih=>
    intro a c;have h1:=ih a (by omega);have s:=h.bh (a+d+1) (by omega);exact Int.lt_trans h1 s
  refine Oj.2 fun a b c m t=>?_;have:=k (b-a-1) a (by omega);rw [show a+(b-a-1)+1=b by omega] at this;rw [e a c _ (Am c),e b m _ (Am m)] at this;exact this
def Ahk (h:F7 vs js) (tick:Int) (l:List Bool):((Gj vs tick l js).map Prod.fst).Nodup/\∀ x,x∈Gj vs tick l js->∃ (k:Nat) (j:Jb),js[k]?=some j/\x.1=(k:Int)+1/\Ji js j=true/\Aam vs tick j.sp x:=by
 unfold Gj;rcases Ahi (vs.map ax.cap) tick l ((E7 js).map Li) (Dk vs js) with e | ⟨b,t,e⟩
 .rw [e];exact ⟨List.nodup_nil,fun x n=>by simp at n⟩
 .rw [e];have f:=Pl.Zw t;have o:=f.len
  have p:∀ i s,b[i]?=some s->∃ a,(Dk vs js)[i]?=some a/\Pl.Sd (vs.map ax.cap) tick l a s:=fun i s c=>by
   have hl:=(Aq.1 c).1;have d:(Dk vs js)[i]?=some ((Dk vs js)[i]'(by omega)):=Am _;refine ⟨_,d,f.slot (_,s) ?_⟩;refine Aj (i:=i) ?_;rw [List.getElem?_zip_eq_some];exact ⟨d,c⟩
  have g:(b.map Pl.Au.key).map Prod.fst=(Dk vs js).map fun a=>a.id:=by
   apply Ee;intro i;simp only [Bx]
   cases c:b[i]? with
   | none=>
    have:(Dk vs js)[i]?=none:=by rw [List.getElem?_eq_none_iff] at c ⊢;omega
    rw [this];rfl
   | some s=>
    obtain ⟨a,d,m⟩:=p i s c;rw [d];simp only [J1];exact Ca some m.1
  rw [g];refine ⟨Au4 h,fun x n=>?_⟩;obtain ⟨s,c,rfl⟩:=Bd.1 n;obtain ⟨i,u⟩:=Dr c;obtain ⟨a,d,m⟩:=p i s u;obtain ⟨k,j,q,v,rfl⟩:=Au3 h (Aj d);refine ⟨k,j,q,?_,v,?_⟩
  .show s.id=_;rw [m.1];exact (h k j q).id
  .rcases m.2 with ⟨a1,a2⟩ | ⟨_,y,_,z,_,b6⟩
   .exact .inl ⟨a1,a2⟩
   .refine .inr ⟨y,Au5 z,?_⟩;obtain ⟨_,_,r,_⟩:=Pl.O4 b6;have r:s.start+(j.sp.wall+8)<=1099511627776:=r;show s.start+8+j.sp.wall<=_;omega
def Au6 (h:Ik vs n k j) (h1:j.lf.st=1) {tick:Int} (y:0<=tick) {x:Int×Int×List Int} (r:Aam vs tick j.sp x):Ik vs n k (Lb tick x.2.1 x.2.2 j):=by
 obtain ⟨id,st,zs⟩:=x;have f:=h.toFd.idle (by rw [h1];rfl);have m:¬ df j.lf.st=true:=by rw [h1];decide
 unfold Lb;split
 .rename_i e;have e:st=tick:=e;rcases r with ⟨a,_⟩ | ⟨a,b,c⟩
  .have a:st=-1:=a;omega
  .have b:Um vs j.sp zs:=b;have c:st+8+j.sp.wall<=1099511627776:=c;obtain ⟨t,u⟩:=As2 h.ij h1;have v:=Kn h.ga;obtain ⟨_,_,_,_,l,_⟩:=Iu v;have l:=(Ib.1 l).1;have l:1<=j.sp.nodes:=l;have s:=b.len;have o:df (Ay j.lf 3).1.st=true:=by rw [u];rfl
   have g:zs≠[]:=fun e=>by rw [e] at s;simp at s;omega
   have i:j.parts++zs.map (fun n=>(n,(0:Int)))≠[]:=(by rw [f];simpa using g);refine ⟨⟨h.id,h.ga,h.one,h.ju,h.sy,t,by show -1<=st;omega,fun q=>?_,fun _=>⟨b,c⟩,⟨fun _=>i,fun _=>o⟩,fun _=>by show 0<=st;omega,fun q=>?_,fun q=>?_,fun _=>?_,fun p d=>?_⟩,fun _=>?_⟩
   .have q:st<0:=q;omega
   .have q:(Ay j.lf 3).1.st=2:=q;omega
   .have q:5<=(Ay j.lf 3).1.st:=q;omega
   .show (j.parts++zs.map fun n=>(n,(0:Int))).map Prod.fst=zs;rw [f];simp [G6]
   .have d:p∈j.parts++zs.map (fun n=>(n,(0:Int))):=d;rw [f] at d;simp at d;obtain ⟨a,_,rfl⟩:=d;simp
   .show (j.parts++zs.map fun n=>(n,(0:Int))).any (fun p=>decide (p.2=0))=true;rw [f]
    cases zs with
    | nil=>exact absurd rfl g
    | cons z zs=>simp
 .rcases r with ⟨a,b⟩ | ⟨a,b,c⟩
  .have a:st=-1:=a;have b:zs=[]:=b;subst a b;exact Un h.toFd h.ij (.inl h1) j.parts f
  .have a:tick<=st:=a;have b:Um vs j.sp zs:=b;have c:st+8+j.sp.wall<=1099511627776:=c;refine ⟨⟨h.id,h.ga,h.one,h.ju,h.sy,h.ij,by show -1<=st;omega,fun q=>?_,fun _=>⟨b,c⟩,h.live,fun q=>absurd q m,fun q=>?_,fun q=>?_,fun q=>absurd f q,h.sk⟩,h.vr⟩
   .have q:st<0:=q;omega
   .have q:j.lf.st=2:=q;omega
   .have q:5<=j.lf.st:=q;omega
def Ahl {tick:Int} (i:0<=tick):∀ (l:List (Int×Int×List Int)) (js:List Jb),(l.map Prod.fst).Nodup->(∀ x,x∈l->∃ (k:Nat) (j:Jb),js[k]?=some j/\x.1=(k:Int)+1/\j.lf.st=1/\Aam vs tick j.sp x)->Dm vs js->Dm vs (Gh tick l js)
 | [],_,_,_,h=>h
 | x :: l,js,hn,hx,h=>by
  obtain ⟨k,j,m,e,h1,p⟩:=hx x E2;have b:=List.nodup_cons.1 hn;have q:(x.1-1).toNat=k:=by omega
  show Dm vs (Gh tick l (Fn js x.1 (Lb tick x.2.1 x.2.2)));unfold Fn;rw [q];refine Ahl i l _ b.2 (fun y n=>?_) (h.mod fun d a=>?_)
  .obtain ⟨o,d,a,e',f,g⟩:=hx y (D1 _ n);refine ⟨o,d,?_,e',f,g⟩;rw [Fe,a];show some (if k=o then _ else d)=some d;rw [Ac];intro c;apply b.1
   have:x.1=y.1:=by omega
   rw [this];exact Ks n
  .rw [m] at a;injection a with a;subst a;exact Au6 (h k j m) h1 i p
def Au7 (h:Ik vs n k j):Ik vs n k (F4 j):=by
 unfold F4;split
 .rename_i e;exact Un h.toFd h.ij (.inl e) j.parts (h.toFd.idle (by rw [e];rfl))
 .exact h
def Au8 (h:Dm vs js) {tick:Int} (g:0<=tick) (f:List Bool):Dm vs (O5 vs tick f js):=by
 obtain ⟨a,b⟩:=Ahk h.b tick f;unfold O5;refine Ahl g _ _ a (fun x i=>?_) (fun k j c=>?_)
 .obtain ⟨k,j,c,e,d,l⟩:=b x i;have h1:j.lf.st=1:=by unfold Ji at d;simp at d;exact d.1
  refine ⟨k,F4 j,by rw [Bx,c];rfl,e,?_,?_⟩
  .unfold F4;rw [Ad h1];exact h1
  .unfold F4;rw [Ad h1];exact l
 .rw [Ax];rw [Bx] at c;obtain ⟨y,m,rfl⟩:=Pm.1 c;exact Au7 (h k y m)
end Go.Proofs.YtimlcnhcjndijaaGreatDoor
namespace Go.Proofs.YtimlcnhcjndijaaGreatDoor
open Go.RowKit Go.Maps Go.Lib
def Ahm (aw:List V4) (now:Int) (bs:List Bool) (hs:List Pl.At) (asks:List Pl.Ask):Prop:=(∃ r,r≠0/\Pl.Iz aw bs.length now hs r [])\/∃ slots,Pl.Kk aw now bs hs asks slots
def Au9 (aw:List V4) (now:Int) (bs:List Bool) (hs:List Pl.At) (asks:List Pl.Ask) (w:World) (e:Ending) (w':World):Prop:=
 ∃ so n sc r slots,e=.returned (.tuple #[.slice so n sc,.int .i64 r])/\n=slots.length/\slots.map Pl.Au.key=Oc aw now bs (hs.map Pl.At.er) (asks.map Pl.Ask.er)/\Pl.Tu w' so n slots/\(∀ s,s∈slots->∀ b off,s.go=some ⟨b,off,none⟩->w.heap.size<=b)/\Below w.heap.size w w'/\(∀ b off,so=some ⟨b,off,none⟩->w.heap.size<=b)/\Ahm aw now bs (hs.map Pl.At.er) (asks.map Pl.Ask.er)
def Ava {l:List V4} {c:Int} {m:List Bool} {d:List Pl.At} {a:List Pl.Ask} {w w':World} {e:Ending} (h:Pl.Ae7 l c m d a w e w'):Au9 l c m d a w e w':=by
 obtain ⟨n,⟨r,o,rfl,f⟩ | ⟨so,sc,b,rfl,g,j,_,k,p⟩⟩:=h
 .refine ⟨none,0,0,r,[],rfl,rfl,(Art (a.map Pl.Ask.er) f o).symm,⟨rfl,by omega,fun i x q=>by simp at q⟩,fun s d=>by simp at d,n,fun _ _ e=>(by cases e),.inl ⟨r,o,Pl.Zx f⟩⟩
 .have f:=(Pl.Zw g).len;exact ⟨so,a.length,sc,0,b,rfl,f.symm,(Zy g).symm,j,p,n,k,.inr ⟨_,Pl.Aft g⟩⟩
structure pz (w:World) (av:Value) (al:List Pl.Ask) (wr:World):Prop where
 low:Below w.heap.size w wr
 mq:Bh Pl.Ask.cells 10 266 wr w.heap.size av al
 sk:∀ a,a∈al->Ak wr w.heap.size (.slice a.po a.pn a.pc) a.ft
 rq:∀ a,a∈al->Pl.Ap w a.go a.gn a.dv/\a.gn<=a.gc
variable {w wr w1 w2:World} {av:Value} {al:List Pl.Ask}
def pz.drop (h:pz w av al wr) (a:Below wr.heap.size wr w1):pz w av al w1:=
 ⟨h.low.trans (a.mono h.low.size),h.mq.low a,fun x b=>(h.sk x b).mod (Mod.af (S:=fun _=>False) a) (fun _ _ c=>c),h.rq⟩
def pz.add (h:pz w av al wr) (j:Below wr.heap.size wr w1) (i:w1.grownBy w2 av.ownBlock) {b:Value} {x:Pl.Ask} (l:Bh Pl.Ask.cells 10 266 w2 w.heap.size b (al++[x])) (m:Ak w1 w.heap.size (.slice x.po x.pn x.pc) x.ft) (g:Pl.Ap w x.go x.gn x.dv/\x.gn<=x.gc):pz w b (al++[x]) w2:=by
 have h1:=h.drop j;have n:=Mod.grown (S:=fun k=>av.ownBlock=some k) i (fun k d=>d);refine ⟨h1.low.grown i h1.low.size (fun k d=>(h1.mq.lt k d).1),l,fun y a=>?_,fun y a=>?_⟩
 .have f:Ak w1 w.heap.size (.slice y.po y.pn y.pc) y.ft:=by
   rcases Dt.1 a with a | a
   .exact h1.sk y a
   .rw [I7.1 a];exact m
  refine f.mod n (fun k d e=>?_);obtain ⟨c,o⟩:=h1.mq.aq e;exact B2 f.row o (by decide) d
 .rcases Dt.1 a with a | a
  .exact h.rq y a
  .rw [I7.1 a];exact g
end Go.Proofs.YtimlcnhcjndijaaGreatDoor
namespace Go.Proofs.YtimlcnhcjndijaaGreatDoor
open Go.RowKit Go.Maps Go.Lib
def Avm:(Tryz.prog.info? 275).map (fun i=>(i.zero,i.size,i.bytes))=some (some (.agg #[.int .i64 0,.string ByteArray.empty,.int .i64 0,.int .i64 0,.int .i64 0,.int .i64 0,.int .i64 0]),7,64):=by kernel_rfl
def Avn:(Tryz.prog.info? 266).map (fun i=>(i.zero,i.size,i.bytes))=some (some (.agg #[.int .i64 0,.slice none 0 0,.int .i64 0,.int .i64 0,.int .i64 0,.int .i64 0,.int .i64 0,.int .i64 0,.int .i64 0,.slice none 0 0]),10,112):=by kernel_rfl
def Lm (js:List Jb) (k:Nat):List cz:=((js.take k).filter fun j=>Ji js j).map fun j=>⟨j.id,j.sp.user,j.sp.prio,Kg j⟩
def Avo {js:List Jb} {k:Nat} {j:Jb} (h:js[k]?=some j):Lm js (k+1)=Lm js k++if Ji js j=true then [⟨j.id,j.sp.user,j.sp.prio,Kg j⟩] else []:=by
 unfold Lm;rw [J7 h,Om,Ds];congr 1
 by_cases q:Ji js j=true<;>simp [q]
def Aan {js:List Jb} {k:Nat} (h:js.length<=k):Lm js k=Bi js:=by
 unfold Lm Bi;rw [Dn h]
def Aao (js:List Jb) (k:Nat):(Lm js k).length<=k:=by
 unfold Lm;rw [Ax];exact A6 (Nn _ _) (Pn _ _)
structure qx (w:World) (ws:List cz) (wv:Value) (wr:World):Prop where
 low:Below w.heap.size w wr
 row:Bh Qq 7 275 wr w.heap.size wv ws
structure ye (w:World) (ws:List cz) (v:Value) (wx:World):Prop where
 ex:∃ so n c,v=.slice so n c
 at_:qx w ws v wx
variable {w wr w1 w2:World} {ws:List cz} {wv:Value}
def qx.drop (h:qx w ws wv wr) (a:Below wr.heap.size wr w1):qx w ws wv w1:=⟨h.low.trans (a.mono h.low.size),h.row.low a⟩
def qx.add (h:qx w ws wv wr) (b:Below wr.heap.size wr w1) (c:w1.grownBy w2 wv.ownBlock) {a:Value} {y:cz} (d:Bh Qq 7 275 w2 w.heap.size a (ws++[y])):qx w (ws++[y]) a w2:=by
 have h1:=h.drop b;exact ⟨h1.low.grown c h1.low.size (fun k e=>(h1.row.lt k e).1),d⟩
def Aap (vs:List ax) (w:World) (pls:List Jb) (e:Ending) (w':World):Prop:=
 ∃ ao n ac al,e=.returned (.slice ao n ac)/\n=al.length/\Pl.We w' ao n al/\al.map Pl.Ask.er=Dk vs pls/\Below w.heap.size w w'
def Avp {vs:List ax} {js:List Jb} (h:F7 vs js):Ub (Bi js):=fun i j x y f g e=>by
 have a:((Bi js).map cz.id).Nodup:=by unfold Bi;rw [Du];exact (Ahj h).sublist ((List.filter_sublist).map Jb.id)
 have b:((Bi js).map cz.id)[i]?=some x.id:=by rw [Bx,f];rfl
 have d:((Bi js).map cz.id)[j]?=some y.id:=by rw [Bx,g];rfl
 rcases Nat.lt_trichotomy i j with c | c | c
 .exact absurd e (Fl a b d c)
 .exact c
 .exact absurd e.symm (Fl a d b c)
def Avq {vs:List ax} (k:Ir vs):Og (Dv vs ByteArray.empty):=fun d m=>by
 have n:=k.len;have h:=Ahr (vs:=vs) ByteArray.empty (fun v l=>Yk (k.all v l).ok.cap);obtain ⟨a,b,c,e,f,g,i,j⟩:=h
 rcases (show d=0\/d=1\/d=2\/d=3 by omega) with rfl | rfl | rfl | rfl<;>simp [V4.get]<;>omega
def Ahw {w:World} {T:Tv} (h:An w T):(∀ x,x∈Bi T.pl.ab->x.user.size<=maxLen)/\∀ x,x∈C8 T.pl.ab->x.user.size<=maxLen:=by
 have a:∀ j,j∈T.pl.ab->j.sp.user.size<=maxLen:=fun j b=>by
  obtain ⟨y,d,rfl⟩:=Bd.1 b;exact (h.ok y d).user
 refine ⟨fun x c=>?_,fun x c=>?_⟩
 .obtain ⟨j,b,rfl⟩:=Bd.1 c;exact a j (Oo.1 b).1
 .obtain ⟨j,b,rfl⟩:=Bd.1 c;exact a j (Oo.1 b).1
def pz.post {vs:List ax} {b:List Jb} {f:Option Addr} {n c:Nat} {d:List Pl.Ask} {g:World} (h:pz w (.slice f n c) d wr) (o:d.map Pl.Ask.er=Dk vs b) (t:d.length<=1000) (h0:Below g.heap.size g w):Aap vs g b (.returned (.slice f n c)) wr:=by
 obtain ⟨_,_,_,i,l,_⟩:=h.mq.len;injection i with a1 a2 a3;have j:n=d.length:=by omega
 subst j;refine ⟨f,_,c,d,rfl,rfl,Bh.rows (cells:=Pl.Ask.cells) (sz:=10) (ok:=fun w a=>Pl.Ask.ok w a) (fun _=>rfl) h.mq (by omega) (fun x m=>?_),o,h0.trans (h.low.mono h0.size)⟩;obtain ⟨p,u,v,e,k,q,_⟩:=P6 (h.sk x m);injection e with i l e3;subst i l e3;obtain ⟨r,s⟩:=h.rq x m;exact ⟨q.pl,k,r.below h.low Ln,s⟩
end Go.Proofs.YtimlcnhcjndijaaGreatDoor
namespace Go.Proofs.YtimlcnhcjndijaaGreatDoor
open Go.RowKit Go.Maps Go.Lib
def Avr {w:World} {T:Tv} (h:An w T) (hA:F7 T.vs T.pl.ab) (cd:T.js.length<=20) (uo:Option Addr) (un uc:Nat) (hu:Pc w uo un (C8 T.pl.ab)) :
  Calls Tryz.prog 137 #[.pointer (some ⟨T.tb,0,none⟩),.slice uo un uc] w (Aap T.vs w T.pl.ab):=by
 obtain ⟨iW,bR,bS,a0,a1⟩:=C0 Avm;obtain ⟨iA,bT,bU,a2,a3⟩:=C0 Avn;obtain ⟨so,cap,a4,bV,ce,ak⟩:=h.l8;have c4:=Bk h.head 4 T.jv rfl;have c5:=Bk h.head 5 (.pointer (some ⟨T.fb,0,none⟩)) rfl;have aW:=Ab h.head;rw [a4] at c4;obtain ⟨m,hm⟩:=Ex (T.js.length);obtain ⟨tb,ht⟩:=Ex (T.tb);rw [<- hm] at c4 bV ce cd;rw [<- ht] at c4 c5 aW;rw [<- ht];have aX:T.pl.ab.length=m:=by rw [hm];simp [Tv.pl]
 have bW:qx w (Lm T.pl.ab 0) (.slice none 0 0) w:=⟨Below.refl _ _,Bh.nil _ _ _ _ _⟩;replace ⟨h,hA,a4,bV,ak,ht,hm,aX⟩:=H8 h hA a4 bV ak ht hm aX;replace ⟨bW,bR,bS,a0,a1,bT,bU,a2⟩:=H8 bW bR bS a0 a1 bT bU a2;replace ⟨a3,hu,aW⟩:=H3 a3 hu aW;go_enter Tryz.func137,Tryz.ntmps137;go_wp2_with fail;go_loopw [5,7,18] (fun wv _ iv wr=>∃ (k:Nat),iv=.int .i64 k/\k<=m/\Hid (qx w (Lm T.pl.ab k) wv wr)) (fun _ _ iv _=>m-(intOf iv).toNat)
 case atStart=>exact ⟨0,rfl,Av _,bW⟩
 case round=>
  obtain ⟨k,rfl,cx,hW⟩:=hrel;obtain ⟨cf,wn,ch,rfl,aD,_⟩:=hW.out.row.len;by_cases cH:k<m
  .have cy:(k:Int)<m:=(by omega);have cA:(0:Int)<=(k:Int):=(by omega);obtain ⟨j,hj⟩:∃ j,T.js[k]?=some j:=⟨_,Am (by have:=hm.out;omega)⟩;obtain ⟨g,rfl,aY⟩:=ak.out k j hj;have aI:=(h.out.ab.lt g (by rw [a4.out];rfl)).2;have cj:=(Ag hW.out.low aI).trans aY;have an:=Aj hj;have bv:T.pl.ab[k]?=some j.2.pl:=by simp [Tv.pl,hj]
   have a5:∀ W,Below w.heap.size w W->Calls Tryz.prog 189 #[.pointer (some ⟨tb,0,none⟩),.pointer (some ⟨j.1,0,none⟩)] W fun e w'=>e=.returned (.bool (Ji T.pl.ab j.2.pl))/\Below W.heap.size W w':=fun W hW=>by
    rw [ht.out];refine Avb (h.out.low hW) hj fun id cB=>?_;have:=(hA.out k _ bv).ju id cB;have:=aX.out;have:=hm.out;omega
   have aA:=Avo bv;obtain ⟨s,x⟩:=j;have ao:∀ W,Below w.heap.size w W->A9 W s x:=fun W hW=>Ae hW (h.out.box _ an) (Ab (h.out.box _ an));have bX:∀ W,Below w.heap.size w W->N0 W T.ay x:=fun W hW=>(h.out.low hW).ok _ an;obtain ⟨q,hq⟩:=Ex (Ji T.pl.ab x.pl);simp only at a5 aA;rw [<- hq] at aA;simp only [<- hq] at a5;have aQ:=a5 _ hW.out.low;replace ⟨hj,aY,aI,an,bv,a5,aQ,aA⟩:=H8 hj aY aI an bv a5 aQ aA;replace ⟨ao,bX,hq,aD⟩:=H4 ao bX hq aD;go_upto_block 1 with fail;go_cut [5,7] (fun v _ wx=>ye w (Lm T.pl.ab (k+1)) v wx)
   case first=>
    cases q with
    | false=>
     have am:=aA.out;simp at am;replace am:=Hh am;go_wp2_with (go_at_call 189;(with_reducible refine (aQ.out).mono ?_);rintro e w1 ⟨rfl,aJ⟩;replace aJ:=Hh aJ);go_meet
     case rel=>exact ⟨⟨_,_,_,rfl⟩,by rw [am.out];exact hW.out.drop aJ.out⟩
    | true=>
     go_upto_region 6 with (go_at_call 189;(with_reducible refine (aQ.out).mono ?_);rintro e w1 ⟨rfl,aJ⟩;replace aJ:=Hh aJ);have aB:=hW.out.drop aJ.out
     have kn:∀ W,Below w1.heap.size w1 W->Calls Tryz.prog 184 #[.pointer (some ⟨s,0,none⟩)] W fun e w'=>e=.returned (Kg x.pl).val/\Below w1.heap.size w1 w':=fun W aG=>by
      have hl:=aB.low.trans (aG.mono aB.low.size);refine (Age (ao.out _ hl) (bX.out _ hl)).mono ?_;rintro e w' ⟨h1,h2⟩;exact ⟨h1,aG.trans (h2.mono aG.size)⟩
     obtain ⟨⟨n0,n1,n2,n3⟩,aE⟩:∃ v,v=Kg x.pl:=⟨_,rfl⟩;rw [<- aE] at kn;obtain ⟨us,aR⟩:=Ex (x.pl.sp.user);obtain ⟨aK,aS⟩:=Ex (x.pl.id);obtain ⟨pr,bw⟩:=Ex (x.pl.sp.prio)
     have a6:∀ u∈([.int .i64 aK,.string us,.int .i64 pr,.int .i64 n0,.int .i64 n1,.int .i64 n2,.int .i64 n3]:List Value),u.oneCell'=true:=by intro u hu;simp at hu;rcases hu with rfl | rfl | rfl | rfl | rfl | rfl | rfl<;>rfl
     have a7:wn<=20:=(by have:=aD.out;have:=Aao T.pl.ab k;omega);have aL:=Je (n:=wn) (by omega);have aM:(wn+1)*64<=140737488355328:=(by omega);have am:Lm T.pl.ab (k+1)=Lm T.pl.ab k++[⟨aK,us,pr,⟨n0,n1,n2,n3⟩⟩]:=(by have:=aA.out;simp at this;rw [this,aR,aE,aS,bw]);replace ⟨aB,kn,aE,aR,aS,bw,a6,a7⟩:=H8 aB kn aE aR aS bw a6 a7;replace ⟨aL,aM,am⟩:=H3 aL aM am;clear cj
     have ad:∀ p:World,Below w.heap.size w p->p.cell? ⟨s,0,none⟩=some (.int .i64 aK)/\p.cell? ⟨s,1,none⟩=some (.string us)/\p.cell? ⟨s,9,none⟩=some (.int .i64 pr):=fun p bx=>by
      have hx:=ao.out _ bx;rw [aS.out,aR.out,bw.out];exact ⟨Aa hx 0,Aa hx 1,Aa hx 9⟩
     have f:=aB.out.low.drew;have l:Below w1.heap.size w1 w1.drew:=(Below.refl _ _).drew;replace ⟨ad,f,l⟩:=H3 ad f l;go_region_held3 (fun p=>p.cell? ⟨s,0,none⟩=some (.int .i64 aK)/\p.cell? ⟨s,1,none⟩=some (.string us)/\p.cell? ⟨s,9,none⟩=some (.int .i64 pr))
      (first
        | with_reducible exact ad.out _ f.out
        | exact ad.out _ (f.out.alloc f.out.size _)
        | exact ad.out _ (f.out.alloc f.out.size _).drew
        | exact ad.out _ f.out.drew)
      (first
        | (go_at_call 184
           (with_reducible refine (kn.out _ l.out).mono ?_)
           rintro e w2 ⟨rfl,bY⟩;replace f:=Hh (aB.out.low.trans (bY.mono aB.out.low.size));replace l:=Hh bY
           clear bY)
        | (refine Td (by rfl) _ _ _ (by rfl) w.heap.size 275 iW _ 7 64 Tryz.underlying273 bR.out bS.out a0.out a1.out rfl (Kw _) (.slice cf wn ch) wn _ (by rfl) (((aB.out.drop (l.out.alloc l.out.size _)).row).at_ aD.out.symm) ⟨w2.heap.size,0,none⟩ 1 [.int .i64 aK,.string us,.int .i64 pr,.int .i64 n0,.int .i64 n1,.int .i64 n2,.int .i64 n3] (by rfl) (by rfl) (Z7 w2 #[.int .i64 aK,.string us,.int .i64 pr,.int .i64 n0,.int .i64 n1,.int .i64 n2,.int .i64 n3] 275) a6.out aL.out aM.out (A6 aB.out.low.size (l.out.alloc l.out.size _).size) ?_;intro g9 ci w9 ap ac;have bA:=aB.out.add (y:=⟨aK,us,pr,⟨n0,n1,n2,n3⟩⟩) (l.out.alloc l.out.size _) ac (Bh.snoc (cells:=Qq) ap aD.out.symm);replace f:=Hh bA.low;replace bA:=Hh bA
           clear ap ac))
     all_goals
      go_wp2_with fail;go_meet
      case rel=>exact ⟨⟨_,_,_,rfl⟩,by rw [am.out];exact bA.out⟩
   case rest=>
   obtain ⟨⟨cI,vn,vc,rfl⟩,z⟩:=hcut;replace z:=Hh z;clear cj;go_wp2_with fail;go_roundw
   case rel=>exact ⟨k+1,by go_num,by omega,z⟩
   case measure=>simp [intOf];omega
  .have cy:¬ (k:Int)<m:=(by omega);have z:=hW.out;rw [Aan (by have:=aX.out;omega)] at z;have aA:=Bh.wj z.row (by have:=Aao T.pl.ab T.pl.ab.length;rw [Aan Ln] at this;have:=aX.out;omega);have bZ:wn=(Bi T.pl.ab).length:=(by have:=aD;rw [Aan (by have:=aX.out;omega)] at this;exact this);have ck:wn<=20:=(by have:=aD;have:=Aao T.pl.ab k;omega);have a8:∀ W,Below w.heap.size w W->Calls Tryz.prog 191 #[.pointer (some ⟨T.fb,0,none⟩),.string ByteArray.empty] W (Yi T.vs ByteArray.empty W):=fun W aG=>Avl (h.out.low aG).dj.vi h.out.dj.ok _;have bB:Calls Tryz.prog 191 #[.pointer (some ⟨T.fb,0,none⟩),.string { data:=#[] }] wr fun e w'=>e=.returned (Dv T.vs ByteArray.empty).val/\Below wr.heap.size wr w':=a8 _ z.low
   have a9:∀ W,Below wr.heap.size wr W->Calls Tryz.prog 190 #[(Dv T.vs ByteArray.empty).val,.slice uo un uc,.slice cf wn ch] W fun e w'=>∃ v,e=.returned v/\Ak w' W.heap.size v (Cy (Jm (Dv T.vs ByteArray.empty) (C8 T.pl.ab) (Bi T.pl.ab)))/\Below W.heap.size W w':=fun W aG=>
    Avh _ (Avq h.out.dj.ok) uo un uc _ _ (hu.out.low (z.low.trans (aG.mono z.low.size))) (aA.low aG) ck (Ahw h.out).1 (Ahw h.out).2 (Avp hA.out)
   obtain ⟨Lt,ba⟩:=Ex (Jm (Dv T.vs ByteArray.empty) (C8 T.pl.ab) (Bi T.pl.ab));have b0:∀ i,i∈Lt->i<(Bi T.pl.ab).length:=fun i hi=>Xd _ _ _ (by rw [<- ba];exact hi)
   have bb:Dk T.vs T.pl.ab=Lt.map fun i=>Ej T.vs (Ew T.pl.ab (A5 (Bi T.pl.ab) i).id):=by rw [ba];rfl
   have bc:Lt.length<=20:=(by have:=(Xc (Dv T.vs ByteArray.empty) (C8 T.pl.ab) (Bi T.pl.ab)).length_eq;rw [<- ba,List.length_range] at this;omega);rw [<- ba] at a9;obtain ⟨tv,b1⟩:=Ex (Dv T.vs ByteArray.empty);rw [<- b1] at bB a9;have cC:=(Ag z.low aW.out).trans c5;clear ba;replace ⟨hW,z,aA,bZ,a8,bB,a9,b1⟩:=H8 hW z aA bZ a8 bB a9 b1;replace ⟨aD,b0,bb,bc⟩:=H4 aD b0 bb bc;go_wp2_with (first | (go_at_call 191;(with_reducible refine (bB.out).mono ?_);rintro e w3 ⟨rfl,bd⟩;replace bd:=Hh bd) | (go_at_call 190;(with_reducible refine (a9.out _ bd.out).mono ?_);rintro e w4 ⟨v4,rfl,b2,bC⟩;obtain ⟨cJ,tn,tc,rfl,cl,bD,_⟩:=P6 b2;replace ⟨b2,bC,cl,bD⟩:=H4 b2 bC cl bD));clear cC;have aF:=z.out.low.trans (bd.out.mono z.out.low.size);have r:=aF.trans (bC.out.mono aF.size);have b3:=(z.out.drop bd.out).drop bC.out;have aT:tn=Lt.length:=(by have:=bD.out.len;simp [Cy] at this;omega);have b4:pz w4 (.slice none 0 0) [] w4:=⟨Below.refl _ _,Bh.nil _ _ _ _ _,fun x hx=>by simp at hx,fun x hx=>by simp at hx⟩;have b5:([]:List Pl.Ask).map Pl.Ask.er=(Lt.take 0).map fun i=>Ej T.vs (Ew T.pl.ab (A5 (Bi T.pl.ab) i).id):=rfl;have cK:tn<=20:=(by have:=bc.out;omega);replace ⟨aF,r,b3,aT,b4,b5⟩:=H6 aF r b3 aT b4 b5;go_loopw [8,10,11,55] (fun av _ _ iv wr=>∃ (i:Nat) (al:List Pl.Ask),iv=.int .i64 i/\i<=tn/\Hid (pz w4 av al wr)/\Hid (al.map Pl.Ask.er=(Lt.take i).map fun i=>Ej T.vs (Ew T.pl.ab (A5 (Bi T.pl.ab) i).id))) (fun _ _ _ iv _=>tn-(intOf iv).toNat)
   case atStart=>exact ⟨0,[],rfl,Av _,b4,b5⟩
   case round=>
    obtain ⟨i,al,rfl,cL,hK,hE⟩:=hrel;obtain ⟨cm,aZ,kc,rfl,aN,_⟩:=hK.out.mq.len;by_cases cM:i<tn
    .have co:(i:Int)<tn:=(by omega);have cN:(0:Int)<=(i:Int):=(by omega);obtain ⟨t,be⟩:∃ t,Lt[i]?=some t:=⟨_,Am (by have:=aT.out;omega)⟩;have bf:=b0.out t (Aj be);obtain ⟨cO,cF,rfl,bg,cp⟩:=bD.out.cell i (t:Int) (by simp [Cy,be]);have ct:=(Ag hK.out.low bg).trans cp;obtain ⟨kk,j0,bi,bP,b6⟩:=Xf hA.out bf;have b7:=Xe hA.out bi;have bE:=hA.out kk j0 bi;obtain ⟨jx,bk,cD⟩:∃ jx,T.js[kk]?=some jx/\jx.2.pl=j0:=(by have:(T.js.map fun j=>j.2.pl)[kk]?=some j0:=bi;rw [Bx] at this;obtain ⟨y,hy,e⟩:=Pm.1 this;exact ⟨y,hy,e⟩);subst cD;obtain ⟨s,x⟩:=jx;have an:=Aj bk;have cr:kk<m:=(by have:=(Aq.1 bk).1;have:=hm.out;omega);obtain ⟨g,rfl,aY⟩:=ak.out kk (s,x) bk;have aI:=(h.out.ab.lt g (by rw [a4.out];rfl)).2;have o:=r.out.trans (hK.out.low.mono r.out.size);have cj:wr.cell? ⟨g,kk,none⟩=some (.pointer (some ⟨s,0,none⟩)):=(Ag o aI).trans aY;have d4:=(Ag o aW.out).trans c4
     have cs:(Bi T.pl.ab)[t]?=some ⟨x.pl.id,x.pl.sp.user,x.pl.sp.prio,Kg x.pl⟩:=by
      rw [Am bf]
      have:A5 (Bi T.pl.ab) t=(Bi T.pl.ab)[t]:=by unfold A5;rw [Am bf];rfl
      rw [<- this,b6]
     obtain ⟨wg,cG,rfl,b8,rfl,cv⟩:=Bh.cell (sz:=7) (cells:=Qq) (fun _=>rfl) b3.out.row t _ cs;have aH:x.pl.id=(kk:Int)+1:=bE.id;have cw:wr.cell? ⟨wg,t*7,none⟩=some (.int .i64 ((kk:Int)+1)):=(by have:=(Ag hK.out.low b8).trans (cv 0 (by omega));rw [D2,Nt] at this;rw [this,<- aH];rfl);have cP:(0:Int)<=(t:Int):=(by omega);have cQ:(t:Int)<(wn:Int):=(by have:=bZ.out;omega);have cA:(0:Int)<=(kk:Int):=(by omega);have cx:(kk:Int)<(m:Int):=(by omega);have cR:IntKind.i64.wrap ((kk:Int)+1-1)=(kk:Int):=(by rw [show (kk:Int)+1-1=kk by omega];exact F5 (by omega) (by omega));have ao:∀ W,Below w.heap.size w W->A9 W s x:=fun W hW=>Ae hW (h.out.box _ an) (Ab (h.out.box _ an));have aU:=(h.out.low r.out).ok _ an;have bl:(Lt.take (i+1)).map (fun i=>Ej T.vs (Ew T.pl.ab (A5 (Bi T.pl.ab) i).id))=(Lt.take i).map (fun i=>Ej T.vs (Ew T.pl.ab (A5 (Bi T.pl.ab) i).id))++[Ej T.vs x.pl]:=(by rw [J7 be,Ds];simp only [J2,List.map_nil];rw [b6];simp only;rw [b7]);obtain ⟨_,_,_,_,_,m6,_⟩:=Iu (Kn bE.ga);obtain ⟨bF,bG⟩:=Ib.1 m6;obtain ⟨wl,aC⟩:=Ex (x.pl.sp.wall);replace bF:1<=wl:=(by rw [aC];exact bF);replace bG:wl<=1000:=(by rw [aC];exact bG);have cS:IntKind.i64.wrap (wl+8)=wl+8:=F5 (by omega) (by omega)
     have bH:∀ W,Below wr.heap.size wr W->Calls Tryz.prog 154 #[.pointer (some ⟨T.fb,0,none⟩),.string x.pl.sp.part] W fun e w'=>∃ v,e=.returned v/\Ak w' w4.heap.size v (Ce T.vs x.pl.sp.part)/\Below wr.heap.size wr w':=fun W hW=>by
      have hl:=o.trans (hW.mono o.size);refine (Ab1 (h.out.low hl).dj.vi h.out.dj.ok x.pl.sp.part).mono ?_;rintro e w' ⟨v,h1,h2,h3⟩;exact ⟨v,h1,h2.le (A6 hK.out.low.size hW.size),hW.trans (h3.mono hW.size)⟩
     obtain ⟨pt,bn⟩:=Ex (x.pl.sp.part);obtain ⟨nd,aE⟩:=Ex (x.pl.sp.nodes);obtain ⟨⟨da,db,dc,dd⟩,aO⟩:∃ v,v=x.pl.sp.dn:=⟨_,rfl⟩;obtain ⟨aP,aV⟩:=Ex (x.pl.start);obtain ⟨go,bI⟩:=Ex (x.go);obtain ⟨gn,bJ⟩:=Ex (x.gn);obtain ⟨gc,bK⟩:=Ex (x.gc);rw [<- bn] at bH
     have ad:∀ p:World,Below w.heap.size w p->p.cell? ⟨s,0,none⟩=some (.int .i64 ((kk:Int)+1))/\p.cell? ⟨tb,5,none⟩=some (.pointer (some ⟨T.fb,0,none⟩))/\p.cell? ⟨s,2,none⟩=some (.string pt)/\p.cell? ⟨s,3,none⟩=some (.int .i64 nd)/\p.cell? ⟨s,4,none⟩=some (.int .i64 da)/\p.cell? ⟨s,5,none⟩=some (.int .i64 db)/\p.cell? ⟨s,6,none⟩=some (.int .i64 dc)/\p.cell? ⟨s,7,none⟩=some (.int .i64 dd)/\p.cell? ⟨s,8,none⟩=some (.int .i64 wl)/\p.cell? ⟨s,19,none⟩=some (.int .i64 aP)/\p.cell? ⟨s,20,none⟩=some (.slice go gn gc):=fun p bx=>by
      have hx:=ao _ bx;have e4:da=x.pl.sp.dn.a:=(by rw [<- aO]);have e5:db=x.pl.sp.dn.b:=(by rw [<- aO]);have e6:dc=x.pl.sp.dn.c:=(by rw [<- aO]);have e7:dd=x.pl.sp.dn.d:=(by rw [<- aO]);rw [<- aH,bn,aE,e4,e5,e6,e7,aC,aV,bI,bJ,bK];exact ⟨Aa hx 0,(Ag bx aW.out).trans c5,Aa hx 2,Aa hx 3,Aa hx 4,Aa hx 5,Aa hx 6,Aa hx 7,Aa hx 8,Aa hx 19,Aa hx 20⟩
     have b9:Pl.Ap w4 go gn x.pl.aj/\gn<=gc:=(by rw [bI,bJ,bK];exact ⟨aU.aj.row.pl,aU.mi⟩);have a7:aZ<=20:=(by have h1:=aN;have h2:=Ca List.length hE.out;simp only [Ax] at h2;have h3:=Pn i Lt;omega);have aL:=Je (n:=aZ) (by omega);have aM:(aZ+1)*112<=140737488355328:=(by omega);have bs:Pl.Ask.er ⟨(kk:Int)+1,none,0,0,Ce T.vs pt,nd,⟨da,db,dc,dd⟩,wl+8,aP,none,0,0,x.pl.aj⟩=Ej T.vs x.pl:=(by rw [bn,aE,aO,aC,aV,<- aH];rfl);clear ao aY cp cv b6 cs;replace ⟨be,bf,bg,bi,bP,b7,bE,bk⟩:=H8 be bf bg bi bP b7 bE bk;replace ⟨an,cr,aI,o,b8,aH,aU,bl⟩:=H8 an cr aI o b8 aH aU bl;replace ⟨m6,bF,bG,aC,bH,bn,aE,aO⟩:=H8 m6 bF bG aC bH bn aE aO;replace ⟨aV,bI,bJ,bK,ad,b9,a7,aL⟩:=H8 aV bI bJ bK ad b9 a7 aL;replace ⟨aM,bs,aN⟩:=H3 aM bs aN;go_upto_region 12 with fail;clear ct;go_quiet (fail);rename_i nq;obtain ⟨W5,ca⟩:=Ex (wr.drewN nq);have bL:Below wr.heap.size wr W5:=(by rw [ca];exact A8 _ wr nq);rw [<- ca];clear ca cj d4 cw;have f:=(o.out.trans (bL.mono o.out.size)).drew;have l:=bL.drew;replace ⟨bL,f,l⟩:=H3 bL f l;go_upto_region 13 with fail;go_region_held3 (fun p=>p.cell? ⟨s,0,none⟩=some (.int .i64 ((kk:Int)+1))/\p.cell? ⟨tb,5,none⟩=some (.pointer (some ⟨T.fb,0,none⟩))/\p.cell? ⟨s,2,none⟩=some (.string pt)/\p.cell? ⟨s,3,none⟩=some (.int .i64 nd)/\p.cell? ⟨s,4,none⟩=some (.int .i64 da)/\p.cell? ⟨s,5,none⟩=some (.int .i64 db)/\p.cell? ⟨s,6,none⟩=some (.int .i64 dc)/\p.cell? ⟨s,7,none⟩=some (.int .i64 dd)/\p.cell? ⟨s,8,none⟩=some (.int .i64 wl)/\p.cell? ⟨s,19,none⟩=some (.int .i64 aP)/\p.cell? ⟨s,20,none⟩=some (.slice go gn gc))
      (first
        | with_reducible exact ad.out _ f.out
        | exact ad.out _ (f.out.alloc f.out.size _)
        | exact ad.out _ (f.out.alloc f.out.size _).drew
        | exact ad.out _ f.out.drew)
      (first
        | (go_at_call 154
           (with_reducible refine (bH.out _ l.out).mono ?_)
           rintro e w6 ⟨v6,rfl,bM,cb⟩;obtain ⟨po,pn,pc,rfl,bQ⟩:=bM.len;replace f:=Hh (o.out.trans (cb.mono o.out.size));replace l:=Hh cb;replace ⟨bM,bQ⟩:=H2 bM bQ
           clear cb)
        | (refine Td (by rfl) _ _ _ (by rfl) w4.heap.size 266 iA _ 10 112 Tryz.underlying220 bT.out bU.out a2.out a3.out rfl (Kw _) (.slice cm aZ kc) aZ _ (by rfl) (((hK.out.drop (l.out.alloc l.out.size _)).mq).at_ aN.out.symm) ⟨w6.heap.size,0,none⟩ 1 [.int .i64 ((kk:Int)+1),.slice po pn pc,.int .i64 nd,.int .i64 da,.int .i64 db,.int .i64 dc,.int .i64 dd,.int .i64 (wl+8),.int .i64 aP,.slice go gn gc] (by rfl) (by rfl) (Z7 w6 #[.int .i64 ((kk:Int)+1),.slice po pn pc,.int .i64 nd,.int .i64 da,.int .i64 db,.int .i64 dc,.int .i64 dd,.int .i64 (wl+8),.int .i64 aP,.slice go gn gc] 266) (by intro u hu;simp at hu;rcases hu with rfl | rfl | rfl | rfl | rfl | rfl | rfl | rfl | rfl | rfl<;>rfl) aL.out aM.out (A6 hK.out.low.size (l.out.alloc l.out.size _).size) ?_;intro g9 ci w9 ap ac;have bN:=hK.out.add (x:=⟨(kk:Int)+1,po,pn,pc,Ce T.vs pt,nd,⟨da,db,dc,dd⟩,wl+8,aP,go,gn,gc,x.pl.aj⟩) (l.out.alloc l.out.size _) ac (Bh.snoc (cells:=Pl.Ask.cells) ap aN.out.symm) (bM.out.mod (Mod.af (S:=fun _=>False) Bn) (fun _ _ c=>c)) b9.out;replace f:=Hh (r.out.trans (bN.low.mono r.out.size));replace bN:=Hh bN
           clear ap ac))
     have cE:Hid ((al++[(⟨(kk:Int)+1,po,pn,pc,Ce T.vs pt,nd,⟨da,db,dc,dd⟩,wl+8,aP,go,gn,gc,x.pl.aj⟩:Pl.Ask)]).map Pl.Ask.er=(Lt.take (i+1)).map fun i=>Ej T.vs (Ew T.pl.ab (A5 (Bi T.pl.ab) i).id)):=Hh (by
      rw [bl.out,Ds,hE.out,<- bs.out]
      rfl)
     go_wp2_with fail;go_roundw
     case rel=>exact ⟨i+1,_,by go_num,by omega,bN,cE⟩
     case measure=>simp [intOf];omega
    .have co:¬ (i:Int)<tn:=(by omega);have cT:i=tn:=(by omega);have bO:=hE.out;rw [Dn (by have:=aT.out;omega),<- bb.out] at bO;have cc:al.length<=1000:=(by have h2:=Ca List.length hE.out;simp only [Ax] at h2;have h3:=Pn i Lt;omega);replace ⟨bO,cc,aN⟩:=H3 bO cc aN;go_wp2_with fail;exact Ao (v:=.slice cm aZ kc) (by simp [results,Tryz.results137,go_sem]) rfl (hK.out.post bO.out cc.out r.out)
def Avs {w:World} {so:Option Addr} {n c:Nat} {xs:List V4} (h:w.ownsRow 0 30 4 (.slice so n c) xs.length (Ar V4.cells xs)) (f:n=xs.length) (v:n<=1000000):Pl.N9 w so n xs:=by
 subst f;refine ⟨rfl,by omega,fun i k=>?_⟩;obtain ⟨g,cap,e⟩:=Joins.ownsRow_form h (by omega);have l:so=some ⟨g,0,none⟩:=by injection e
 subst l;obtain ⟨x,b⟩:∃ x,xs[i]?=some x:=⟨_,Am k⟩;have a:∀ x:V4,(V4.cells x).size=4:=fun _=>rfl;have m:Pl.vv xs i=x:=by simp [Pl.vv,List.getD,b]
 have o:=Gr h (i*4) (by omega);have p:=Gr h (i*4+1) (by omega);have q:=Gr h (i*4+2) (by omega);have r:=Gr h (i*4+3) (by omega);have d:=Iq a xs (j:=0) b (by omega);have s:=Iq a xs (j:=1) b (by omega);have t:=Iq a xs (j:=2) b (by omega);have u:=Iq a xs (j:=3) b (by omega);rw [Nt] at d;rw [m];exact ⟨g,0,rfl,(Rd h g rfl).2,by rw [D2,o,d];rfl,by rw [D2,p,s];rfl,by rw [D2,q,t];rfl,by rw [D2,r,u];rfl⟩
def Avt (vs:List ax) (js:List Jb):(Dk vs js).length<=js.length:=by
 unfold Dk;rw [Ax,(Xc _ _ _).length_eq,List.length_range];unfold Bi;rw [Ax];exact Nn _ _
def Mo (vs:List ax) (now:Int) (bs:List Bool) (js:List Jb):Prop:=Ahm (vs.map ax.cap) now bs ((E7 js).map Li) (Dk vs js)
def ve (w5:World) (ks:List (Int×Int×List Int)) (v rv:Value) (wx:World):Prop:=
 ∃ so n sc r slots,v=.slice so n sc/\rv=.int .i64 r/\n=slots.length/\slots.map Pl.Au.key=ks/\Pl.Tu wx so n slots/\(∀ s,s∈slots->∀ b off,s.go=some ⟨b,off,none⟩->w5.heap.size<=b)/\Below w5.heap.size w5 wx/\∀ b off,so=some ⟨b,off,none⟩->w5.heap.size<=b
def ve.low {a wx:World} {b:List (Int×Int×List Int)} {v c:Value} (h:ve a b v c wx):Below a.heap.size a wx:=by
 obtain ⟨_,_,_,_,_,_,_,_,_,_,_,d,_⟩:=h;exact d
def xo (w5:World) (vs:List ax) (now:Int) (bs:List Bool) (js:List Jb) (v rv:Value) (wx:World):Prop:=ve w5 (Gj vs now bs js) v rv wx/\Mo vs now bs js
def Avu {k:World} {vs:List ax} {js:List Jb} {o:List Bool} {a:Int} {p q t:Option Addr} {u vc x uc m mc:Nat} {f:List Pl.At}
  (hv:Pl.N9 k p u (vs.map ax.cap)) (g:f.map Pl.At.er=(E7 js).map Li)
  {w1:World} (h1:Below k.heap.size k w1) (hu:Pl.Mf w1 q x o) {y:Option Addr} {l lc:Nat} {z:List Pl.Ask} (ha:Pl.We w1 y l z) (i:z.map Pl.Ask.er=Dk vs js) (hl:l<=1000000) (ac:Pl.V8 w1 t m f) :
  Calls Tryz.prog 136 #[.slice p u vc,.slice q x uc,.int .i64 a,.slice t m mc,.slice y l lc] w1 fun e w'=>∃ v rv,e=.returned (.tuple #[v,rv])/\ve k (Gj vs a o js) v rv w'/\Mo vs a o js:=by
 refine (Pl.Aq5 p q t y u vc x uc m mc l lc (vs.map ax.cap) o a f z w1 (hv.below h1 Ln) hu ac ha hl).mono ?_;intro e w' h;obtain ⟨so,n,sc,r,c,he,hn,hk,ad,hg,hb,am,j⟩:=Ava h;refine ⟨_,_,he,⟨so,n,sc,r,c,rfl,rfl,hn,?_,ad,fun s f b d e=>A6 h1.size (hg s f b d e),h1.trans (hb.mono h1.size),fun b d e=>A6 h1.size (am b d e)⟩,?_⟩
 .rw [hk,g,i];rfl
 .rw [g,i] at j;exact j
def Av5:(Tryz.prog.info? 125).map (fun i=>(i.zero,i.size,i.bytes))=some (some (.pointer none),1,8):=by kernel_rfl
structure oo (w:World) (T:Tv) (rb B g L:Nat) (s2:List Value) (R:List (List Int)) (jv:Value) (js:List (Nat×ai)) (wr:World):Prop where
 sub:Dy w T jv js wr
 res:wr.heap[w.heap.size+1]?=some (.cells #[.int .i64 0,.int .i64 0,.int .i64 0] 35 (0,0))
 rep:wr.heap[rb]?=some (.cells #[.int .i64 0,.int .i64 ((T.js.length:Int)+1),.int .i64 0] 35 (0,0))
 rows:Cx wr B g L s2 R
 du:∀ j,j∈js->(0<j.2.sn->∀ k o,j.2.so=some ⟨k,o,none⟩->k≠rb/\k≠w.heap.size+1)/\(0<j.2.gn->∀ k o,j.2.go=some ⟨k,o,none⟩->k≠rb/\k≠w.heap.size+1)
 stays:Gz w T.js js
variable {w w' wr:World} {T:Tv} {rb B g L:Nat} {s2:List Value} {R:List (List Int)} {jv jv':Value} {js:List (Nat×ai)}
def oo.low (h:oo w T rb B g L s2 R jv js wr) (a:Below wr.heap.size wr w'):oo w T rb B g L s2 R jv js w':=
 ⟨h.sub.low a,Ae a h.res (Ab h.res),Ae a h.rep (Ab h.rep),h.rows.low a,h.du,h.stays⟩
def Dy.stay (h:Dy w T jv js wr) (f:Mod (fun k=>k=T.tb\/jv.ownBlock=some k) wr w') {b:Nat} {c:Array Value} {a:TypeId} (d:wr.heap[b]?=some (.cells c a (0,0))) (h1:a≠115) (g:a≠125):w'.heap[b]?=some (.cells c a (0,0)):=f.aq d fun e=>by
 rcases e with e | e
 .subst e;have:=h.at_.head;rw [show ({ T with jv:=jv,js:=js }:Tv).tb=T.tb from rfl,d] at this;injection this with this;injection this with _ this;exact h1 this
 .exact B2 h.at_.ab d (fun e=>g e.symm) e
def oo.add (h:oo w T rb B g L s2 R jv js wr) {b:Nat} {x:ai} (m:Mod (fun k=>k=T.tb\/jv.ownBlock=some k) wr w')
  (hd:w'.heap[T.tb]?=some (.cells #[.int .i64 T.ah,.int .i64 T.tick,.map (some T.mb),T.nv,jv',.pointer (some ⟨T.fb,0,none⟩),T.cv] 115 (0,0)))
  (hr:w'.ownsRow 0 125 1 jv' (js.length+1) ((js.map fun j=>.pointer (some ⟨j.1,0,none⟩))++[.pointer (some ⟨b,0,none⟩)]))
  (q:∀ k,jv'.ownBlock=some k->jv.ownBlock=some k\/wr.heap.size<=k)
  (hb:wr.heap.size<=b) (n:A9 w' b x) (r:x.po=none/\x.pn=0/\x.pc=0/\x.pl.parts=[]) (l:x.go=none/\x.gn=0/\x.gc=0/\x.pl.aj=[])
  (s:Ap w' x.so x.sn x.pl.sp.after) (d:∀ k o,x.so=some ⟨k,o,none⟩->∃ c,w'.heap[k]?=some (.cells c 3 (0,0))) (t:x.sn<=x.sc) (hu:x.pl.sp.user.size<=maxLen) (hp:x.pl.sp.part.size<=maxLen) (p:∀ k o,x.so=some ⟨k,o,none⟩->w.heap.size<=k) :
  oo w T rb B g L s2 R jv' (js++[(b,x)]) w':=by
 refine ⟨h.sub.add m hd hr q hb n r l s d t hu hp,h.sub.stay m h.res (by decide) (by decide),h.sub.stay m h.rep (by decide) (by decide),h.rows.off m (fun e=>?_) (fun i sv y k z e=>?_),fun j a=>?_,fun j a=>?_⟩
 .obtain ⟨_,_,c,f⟩:=h.rows.aq;rcases e with e | e
  .subst e;have:=h.sub.at_.head;rw [show ({ T with jv:=jv,js:=js }:Tv).tb=T.tb from rfl,f] at this;injection this with this;injection this with _ this;exact absurd this (by decide)
  .exact B2 h.sub.at_.ab f (by decide) e
 .have u:i<R.length:=by rw [<- h.rows.len];exact (Aq.1 y).1
  have ho:=h.rows.each i sv _ y (Am u);obtain ⟨c,f⟩:=ho.aq z;rcases e with e | e
  .subst e;have:=h.sub.at_.head;rw [show ({ T with jv:=jv,js:=js }:Tv).tb=T.tb from rfl,f] at this;injection this with this;injection this with _ this;exact absurd this (by decide)
  .exact B2 h.sub.at_.ab f (by decide) e
 .rcases Dt.1 a with a | a
  .exact h.du j a
  .have a:=I7.1 a;subst a;refine ⟨fun _ k o e=>?_,fun c=>absurd c (by rw [l.2.1];omega)⟩;obtain ⟨c,f⟩:=d k o e;refine ⟨fun v=>?_,fun v=>?_⟩
   .have:=h.sub.stay m h.rep (by decide) (by decide);rw [<- v,f] at this;injection this with this;injection this with _ this;exact absurd this (by decide)
   .have:=h.sub.stay m h.res (by decide) (by decide);rw [<- v,f] at this;injection this with this;injection this with _ this;exact absurd this (by decide)
 .rcases Dt.1 a with a | a
  .exact h.stays j a
  .have a:=I7.1 a;subst a;exact ⟨fun _ k o e z=>by have:=p k o e;omega,fun c=>absurd c (by rw [l.2.1];omega)⟩
def Av6 (X:List Jb):(Dw X).map Jb.sp=X.map Jb.sp:=Ac7 (P:=fun l=>l.map Jb.sp=X.map Jb.sp) (fun js k h _=>(Ac9 js k).trans h) rfl
def Dm.tj {vs:List ax} {X:List Jb} (h:Dm vs (Dw X)):D6 X:=Qa h.b.ju (Av6 X).symm
def oo.vq (h:oo w T rb B g L s2 R jv js wr) (h0:T.tb<w.heap.size) (d:w.heap.size<=rb) (v:Value):Dy w T jv js (wr.setCell ⟨rb,2,none⟩ v):=by
 have a:=Mod.setCell (S:=fun k=>k=rb) wr rb 2 v rfl;exact ⟨An.eo (T:={ T with jv:=jv,js:=js }) h.sub.at_ h.rep a (by show T.tb<rb;omega) (by decide) (by decide) (by decide) (by decide) (by decide) (by decide) (fun j b=>⟨fun c k o e=>((h.du j b).1 c k o e).1,fun c k o e=>((h.du j b).2 c k o e).1⟩),h.sub.ay,h.sub.mod.then a (fun k f e=>by omega)⟩
def Dy.ox {b:World} (h:Dy w T jv js b) (h0:T.tb<w.heap.size) (a:b.heap[w.heap.size+1]?=some (.cells #[.int .i64 0,.int .i64 0,.int .i64 0] 35 (0,0)))
  (i:∀ j,j∈js->(0<j.2.sn->∀ k o,j.2.so=some ⟨k,o,none⟩->k≠w.heap.size+1)/\(0<j.2.gn->∀ k o,j.2.go=some ⟨k,o,none⟩->k≠w.heap.size+1)) (c d f:Value) :
  Dy w T jv js (((b.setCell ⟨w.heap.size+1,0,none⟩ c).setCell ⟨w.heap.size+1,1,none⟩ d).setCell ⟨w.heap.size+1,2,none⟩ f):=by
 have g:=(((Mod.refl (fun k=>k=w.heap.size+1) b).set _ 0 c rfl).set _ 1 d rfl).set _ 2 f rfl;exact ⟨An.eo (T:={ T with jv:=jv,js:=js }) h.at_ a g (by show T.tb<w.heap.size+1;omega) (by decide) (by decide) (by decide) (by decide) (by decide) (by decide) i,h.ay,h.mod.then g (fun k l e=>by omega)⟩
def Av7 {w1:World} {c:Tv} {a:List (Nat×ai)} {n:Nat} (h:Bq w1 c a w') (q:∀ j,j∈c.js->(0<j.2.sn->∀ k o,j.2.so=some ⟨k,o,none⟩->k≠n)/\(0<j.2.gn->∀ k o,j.2.go=some ⟨k,o,none⟩->k≠n)):∀ j,j∈a->(0<j.2.sn->∀ k o,j.2.so=some ⟨k,o,none⟩->k≠n)/\(0<j.2.gn->∀ k o,j.2.go=some ⟨k,o,none⟩->k≠n):=fun j r=>by
 obtain ⟨i,f⟩:=Dr r;have g:i<c.js.length:=by rw [<- h.len];exact (Aq.1 f).1
 have s:=Am g;have d:=h.kp i _ j s f;have l:=q _ (Ls g);refine ⟨fun b k o e=>?_,fun b k o e=>?_⟩
 .rw [d.sn] at b;rw [d.so] at e;exact l.1 b k o e
 .rcases d.aj with ⟨m,p,_⟩ | ⟨m,p,_⟩
  .rw [p] at b;rw [m] at e;exact l.2 b k o e
  .omega
def Ah0 {S:Nat->Prop} {so:Option Addr} {n:Nat} {l:List Int} (h:Ap wr so n l) (c:Mod S wr w') (d:∀ k o,so=some ⟨k,o,none⟩->¬ S k):Ap w' so n l:=
 ⟨h.len,h.max,fun i x f=>by
  obtain ⟨k,a,e,b,g⟩:=h.cell i x f;refine ⟨k,a,e,Br b c.size,?_⟩;rw [<- g]
  simp only [World.cell?,c.block k b (d k a e)]⟩
structure xe (w:World) (T:Tv) (rb B g L:Nat) (s2:List Value) (R:List (List Int)) (X:List Jb) (n:Nat) (g2:Nat) (c2:Array Value) (wx:World):Prop where
 ex:∃ jv js,oo w T rb B g L s2 R jv js wx/\js.map (fun j=>j.2.pl)=X/\js.length<=n
 exp:wx.heap[g2]?=some (.cells c2 33 (0,0))
def Av8 {x:au} {w:World} (f:x.ok w) (b:Di x.pl=true):Calls Tryz.prog 128 #[x.val] w fun e w'=>∃ g xs c,e=.returned (.slice (some ⟨g,0,none⟩) x.pl.array.toNat x.pl.array.toNat)/\xs.length=x.pl.array.toNat/\w'.heap[g]?=some (.cells c 33 (0,0))/\Rv c x.pl.array.toNat xs/\(∀ (j:Nat) (y:au),xs[j]?=some y->y.pl=x.single.pl)/\Below w.heap.size w w':=by
 refine (At8 x w f).mono ?_;rintro e w' (⟨h0,_⟩ | ⟨_,g,xs,rfl,d,a⟩)
 .rw [b] at h0;cases h0
 .have h:P7 x.pl=x.pl.array.toNat:=Ad b;rw [h] at d a ⊢;obtain ⟨c,i,k⟩:=a.row;exact ⟨g,xs,c,rfl,d,i,k,fun j y l=>(a.one j y l).1,a.low⟩
def Av9 {w:World} {T:Tv} (h:An w T) (b:T.js.length<=1000000) (so:Option Addr) (n sc:Nat) (xs:List au) (c:Kc w so n xs) (d:n<=1000) {R:List (List Int)} (f:B5 T.vs T.js.length (xs.map au.pl)=(R,0)) :
  Calls Tryz.prog 58 #[.pointer (some ⟨T.tb,0,none⟩),.slice so n sc] w fun e w'=>∃ g a,e=.returned (.tuple #[.slice (some ⟨g,0,none⟩) R.length R.length,.int .i64 0])/\Cx w' w.heap.size g R.length a R/\Below w.heap.size w w':=by
 refine (Aat h h.dj.ok b so n sc xs c d).mono ?_;rw [f];rintro e w' ⟨v,rfl,_,i,j⟩;obtain ⟨g,a,rfl,k⟩:=i rfl;exact ⟨g,a,rfl,k,j⟩
end Go.Proofs.YtimlcnhcjndijaaGreatDoor
namespace Go.Proofs.YtimlcnhcjndijaaGreatDoor
open Go.RowKit Go.Maps
def Pg (k:Int) (w:World):Calls Tryz.prog 46 #[.int .i64 k] w fun e w'=>e=.returned (.bool (B8 k))/\w'=w:=by
 by_cases h:k=2\/k=3\/k=4\/k=5\/k=10\/k=11
 .have b:B8 k=true:=by rcases h with rfl | rfl | rfl | rfl | rfl | rfl<;>rfl
  obtain ⟨z,a⟩:=Ex (B8 k);rw [<- a] at b ⊢;subst b;clear a;rcases h with rfl | rfl | rfl | rfl | rfl | rfl
  all_goals
   go_enter Tryz.func46,Tryz.ntmps46;go_wp2;go_ret;exact ⟨rfl,rfl⟩
 .have b:B8 k=false:=by rw [I8];intro c;apply h;simp [B8,D3] at c;omega
  obtain ⟨z,a⟩:=Ex (B8 k);rw [<- a] at b ⊢;subst b;clear a;have g:(k == (2:Int))=false:=by rw [Bg];omega
  have i:(k == (3:Int))=false:=by rw [Bg];omega
  have j:(k == (4:Int))=false:=by rw [Bg];omega
  have l:(k == (5:Int))=false:=by rw [Bg];omega
  have d:(k == (10:Int))=false:=by rw [Bg];omega
  have f:(k == (11:Int))=false:=by rw [Bg];omega
  go_enter Tryz.func46,Tryz.ntmps46;go_wp2;go_ret;exact ⟨rfl,rfl⟩
def A7 {e:bz} {f:gl} {fs:List gl} {e':bz} (h:Fm e (f :: fs)=some e'):ig e f=true/\Fm (e.set 0 f.1) fs=some e':=by
 unfold Fm at h;split at h
 .rename_i c;exact ⟨c,h⟩
 .cases h
def Ah1 {e:ed} {fs:List gl} (h:E6 e=true) (a:Dj e.n.kind=some fs):∃ e',Fm e.n fs=some e'/\e.specs.length<=8/\e.specs.all Di=true/\Rx e=true:=by
 cases hc:Fm e.n fs with
 | none=>
  rw [Acu a hc] at h;cases h
 | some e'=>
  rw [Yv a hc] at h;simp at h;exact ⟨e',rfl,h.1.1.2,by simpa using h.1.2,h.1.1.1⟩
structure Awb (e:ed):Prop where
 kind:e.n.kind=1\/e.n.kind=2\/e.n.kind=3\/e.n.kind=4\/e.n.kind=5\/e.n.kind=6\/e.n.kind=7\/e.n.kind=8\/e.n.kind=9\/e.n.kind=10\/e.n.kind=11
 len:e.specs.length<=8
 bp:(e.n.kind=3\/e.n.kind=4\/e.n.kind=5\/e.n.kind=7)->1<=e.n.bp
 node:(e.n.kind=7\/e.n.kind=8\/e.n.kind=9\/e.n.kind=10\/e.n.kind=11)->0<=e.n.node
 bj:e.n.kind=7->1<=e.n.bj/\e.n.bj<=3
 tick:(e.n.kind=6\/e.n.kind=8\/e.n.kind=9)->0<=e.n.tick/\e.n.tick<1099511627776
def So {e:ed} (h:E6 e=true):Awb e:=by
 obtain ⟨⟨f,m,tick,n,seq,o,attempt,node,p⟩,q⟩:=e
 have r:f=1\/f=2\/f=3\/f=4\/f=5\/f=6\/f=7\/f=8\/f=9\/f=10\/f=11:=by
  by_cases c:f=1\/f=2\/f=3\/f=4\/f=5\/f=6\/f=7\/f=8\/f=9\/f=10\/f=11
  .exact c
  .have l:Dj f=none:=(by unfold Dj;rw [Ac (by omega),Ac (by omega),Ac (by omega),Ac (by omega),Ac (by omega),Ac (by omega),Ac (by omega)]);rw [Acs l] at h;cases h
 have g:∀ {k:Int} {fs:List gl},f=k->Dj k=some fs->∃ e',Fm ⟨f,m,tick,n,seq,o,attempt,node,p⟩ fs=some e'/\q.length<=8:=fun {k fs} e l=>by
  obtain ⟨e',h1,s,_⟩:=Ah1 h (fs:=fs) (by rw [<- l,<- e]);exact ⟨e',h1,s⟩
 rcases r with rfl | rfl | rfl | rfl | rfl | rfl | rfl | rfl | rfl | rfl | rfl
 .obtain ⟨e',i,j⟩:=g rfl (k:=1) (fs:=[Ti]) rfl;exact ⟨by simp,j,by simp,by simp,by simp,by simp⟩
 .obtain ⟨e',i,j⟩:=g rfl (k:=2) (fs:=[Cu,Cv]) rfl;exact ⟨by simp,j,by simp,by simp,by simp,by simp⟩
 .obtain ⟨e',i,j⟩:=g rfl (k:=3) (fs:=[Cu,Cv,Eu]) rfl;have a:=(A7 (A7 (A7 i).2).2).1;simp [ig,Cu,Cv,Eu,bz.get,bz.set] at a;exact ⟨by simp,j,fun _=>a.1,by simp,by simp,by simp⟩
 .obtain ⟨e',i,j⟩:=g rfl (k:=4) (fs:=[Cu,Cv,Eu]) rfl;have a:=(A7 (A7 (A7 i).2).2).1;simp [ig,Cu,Cv,Eu,bz.get,bz.set] at a;exact ⟨by simp,j,fun _=>a.1,by simp,by simp,by simp⟩
 .obtain ⟨e',i,j⟩:=g rfl (k:=5) (fs:=[Cu,Cv,Eu]) rfl;have a:=(A7 (A7 (A7 i).2).2).1;simp [ig,Cu,Cv,Eu,bz.get,bz.set] at a;exact ⟨by simp,j,fun _=>a.1,by simp,by simp,by simp⟩
 .obtain ⟨e',i,j⟩:=g rfl (k:=6) (fs:=[L3]) rfl;have a:=(A7 i).1;simp [ig,L3,bz.get] at a;exact ⟨by simp,j,by simp,by simp,by simp,fun _=>⟨a.1,by show tick<_;omega⟩⟩
 .obtain ⟨e',i,j⟩:=g rfl (k:=7) (fs:=[Eu,Tj,E5,Tk]) rfl;have a:=(A7 i).1;have b:=(A7 (A7 (A7 i).2).2).1;have d:=(A7 (A7 (A7 (A7 i).2).2).2).1;simp [ig,Eu,Tj,E5,Tk,bz.get,bz.set] at a b d;exact ⟨by simp,j,fun _=>a.1,fun _=>b.1,fun _=>d,by simp⟩
 .obtain ⟨e',i,j⟩:=g rfl (k:=8) (fs:=[E5,L3]) rfl;have a:=(A7 i).1;have b:=(A7 (A7 i).2).1;simp [ig,E5,L3,bz.get,bz.set] at a b;exact ⟨by simp,j,by simp,fun _=>a.1,by simp,fun _=>⟨b.1,by show tick<_;omega⟩⟩
 .obtain ⟨e',i,j⟩:=g rfl (k:=9) (fs:=[E5,L3]) rfl;have a:=(A7 i).1;have b:=(A7 (A7 i).2).1;simp [ig,E5,L3,bz.get,bz.set] at a b;exact ⟨by simp,j,by simp,fun _=>a.1,by simp,fun _=>⟨b.1,by show tick<_;omega⟩⟩
 .obtain ⟨e',i,j⟩:=g rfl (k:=10) (fs:=[Cu,Cv,E5]) rfl;have a:=(A7 (A7 (A7 i).2).2).1;simp [ig,Cu,Cv,E5,bz.get,bz.set] at a;exact ⟨by simp,j,by simp,fun _=>a.1,by simp,by simp⟩
 .obtain ⟨e',i,j⟩:=g rfl (k:=11) (fs:=[Cu,Cv,E5]) rfl;have a:=(A7 (A7 (A7 i).2).2).1;simp [ig,Cu,Cv,E5,bz.get,bz.set] at a;exact ⟨by simp,j,by simp,fun _=>a.1,by simp,by simp⟩
def Awc (a b c d:Int) (w:World):(Instr.field 123 (.agg #[.int .i64 a,.int .i64 b,.int .i64 c,.int .i64 d]) 0).run Tryz.prog w=.ok (.int .i64 a) w:=by kernel_rfl
structure ym (w:World) (b:Bool) (v:Value) (wx:World):Prop where
 v:v=.bool b
 low:Below w.heap.size w wx
def Ah2 (vs:List ax) (t:di) (e:ed) (cs:Int):Int:=
 if B8 e.n.kind=true/\e.n.seq<=cs then 141
 else if e.n.kind=1 then (if e.n.ah<=t.ah then 141 else 0)
 else if e.n.kind=6 then (if e.n.tick<=t.tick then 141 else 0)
 else if e.n.kind=2 then (B5 vs t.ab.length e.specs).2
 else if 8<=e.n.kind/\e.n.kind<=11 then La t e.n
 else Jo t e.n
def Ah3 (x:cu) (w:World):Calls Tryz.prog 31 #[.pointer none,x.val] w (G2 w 1):=by
 have a:=K8.new w x;replace a:=Hh a;go_enter Lx,Lw;go_wp2;go_ret;exact ⟨rfl,a.out.low⟩
def Awd {w:World} {T:Tv} (x:cu) (h:An w T) (hj:T.js.length<=1000000) (hx:x.ok w) (o:B8 x.n.kind=true) :
  Calls Tryz.prog 31 #[.pointer (some ⟨T.tb,0,none⟩),x.val] w (G2 w (Dl T.vs T.pl x.pl)):=by
 obtain ⟨r,hr⟩:=Ex (Dl T.vs T.pl x.pl);rw [<- hr];have y:=K8.new w x;have s:=Acv x _ (y.ok hx);by_cases hm:E6 x.pl=true;rotate_left
 .have an:E6 x.pl=false:=by simpa using hm
  rw [Vm an] at s;have aL:r=130:=by rw [hr];unfold Dl;rw [Ad an]
  subst aL;obtain ⟨⟨j,ah,tick,ag,seq,bp,attempt,node,bj⟩,so,m,sc,cq⟩:=x;replace ⟨y,s,hm,an,hr,h,hx⟩:=H7 y s hm an hr h hx;go_enter Lx,Lw;go_wp2_with fail;refine s.out.mono ?_;rintro e w1 ⟨rfl,z⟩;have q:=y.out.below z;replace ⟨q,z⟩:=H2 q z;go_wp2;go_ret;exact ⟨rfl,q.out.low⟩
 rw [Acr hm] at s;obtain ⟨hk,aJ,f1,f2,_,_⟩:=So hm;have aK:=hx.cq.len;have aB:x.m<=1000:=by have:x.pl.specs.length=x.cq.length:=Ax _;omega
 have ac:∀ W,Below w.heap.size w W->Calls Tryz.prog 58 #[.pointer (some ⟨T.tb,0,none⟩),.slice x.so x.m x.c] W (Gp (B5 T.vs T.js.length (x.cq.map au.pl)) W):=fun W hW=>Aat (h.low hW) h.dj.ok hj x.so x.m x.c x.cq (hx.cq.low hW) aB;have t:(x.n.kind=8\/x.n.kind=9\/x.n.kind=10\/x.n.kind=11)->∀ W,Below w.heap.size w W->Calls Tryz.prog 59 #[.pointer (some ⟨T.tb,0,none⟩),x.val] W (G2 W (La T.pl x.n)):=fun hk W hW=>Ag6 x (h.low hW) (f2 (.inr hk)) hk;have p:(x.n.kind=3\/x.n.kind=4\/x.n.kind=5\/x.n.kind=7)->∀ W,Below w.heap.size w W->Calls Tryz.prog 60 #[.pointer (some ⟨T.tb,0,none⟩),x.val] W (G2 W (Jo T.pl x.n)):=fun hk W hW=>Ag7 x (h.low hW) (f1 hk);have aC:=hx.vf 3;obtain ⟨⟨cs,ce,cf,aD⟩,aE⟩:∃ c,c=J9 T.cls x.n.ag:=⟨_,rfl⟩
 have ad:∀ W,An W T->(Instr.lookup 108 (.map (some T.mb)) (.int .i64 x.n.ag) false).run Tryz.prog W=.ok (Ic ⟨cs,ce,cf,aD⟩) W:=fun W hW=>by
  rw [aE];exact Agx hW.cls aC.1 aC.2
 unfold Ic at ad
 have l:r=Ah2 T.vs T.pl x.pl cs:=by
  rw [hr];unfold Dl;rw [Ac (by rw [hm];simp)]
  have:(J9 T.pl.cls x.pl.n.ag).seq=cs:=by show (J9 T.cls x.n.ag).seq=cs;rw [<- aE]
  rw [this];rfl
 obtain ⟨tb,ao⟩:=Ex (T.tb);obtain ⟨aM,av⟩:=Ex (T.ah);obtain ⟨aN,aA⟩:=Ex (T.tick)
 have ap:∀ W,An W T->W.cell? ⟨tb,0,none⟩=some (.int .i64 aM)/\W.cell? ⟨tb,1,none⟩=some (.int .i64 aN)/\W.cell? ⟨tb,2,none⟩=some (.map (some T.mb)):=fun W hW=>by
  rw [ao,av,aA];exact ⟨Aa hW.head 0,Aa hW.head 1,Aa hW.head 2⟩
 rw [<- ao];rw [<- ao] at ac t p;have aF:T.pl.ab.length=T.js.length:=by simp [Tv.pl]
 clear hr f1 f2 ao aE aC;obtain ⟨⟨j,ah,tick,ag,seq,bp,attempt,node,bj⟩,so,m,sc,cq⟩:=x;replace ad:∀ W,An W T->(Instr.lookup 108 (.map (some T.mb)) (.int .i64 ag) false).run Tryz.prog W=.ok (.agg #[.int .i64 cs,.int .i64 ce,.int .i64 cf,.int .i64 aD]) W:=ad;replace hk:j=1\/j=2\/j=3\/j=4\/j=5\/j=6\/j=7\/j=8\/j=9\/j=10\/j=11:=hk;replace ⟨y,s,hm,h,hx,aJ,aK,aB⟩:=H8 y s hm h hx aJ aK aB;replace ⟨ac,t,p,ad,l,ap,aF⟩:=H7 ac t p ad l ap aF;replace o:B8 j=true:=o
 have aG:=fun W=>by
  have:=Pg j W;rw [o] at this;exact this
 obtain ⟨b,k⟩:=Ex (decide (seq<=cs));clear av aA;replace ⟨aG,hk,o,k⟩:=H4 aG hk o k;go_enter Lx,Lw;go_wp2_with fail;refine s.out.mono ?_;rintro e w1 ⟨rfl,z⟩;have q:=y.out.below z;have al:=h.out.low q.low;obtain ⟨c0,c1,c2⟩:=ap.out w1 al;obtain ⟨e0,e1,e2,e3,e4,e5,e6,e7,e8,e9⟩:=C10 q.box;(try dsimp only at e0 e1 e2 e3 e4 e5 e6 e7 e8 e9);replace ⟨q,al,z⟩:=H3 q al z;go_upto_region 6 with fail;have vw:=ad.out w1.drew (al.out.low ((Below.refl _ _).drew));have aO:=Awc cs ce cf aD;go_cut [6] (fun v wx=>ym w1 b v wx)
 case first=>
  go_region_law (first
   | (go_simp;go_at_call 46;refine (aG.out _).mono ?_
      rintro e wz ⟨rfl,rfl⟩))
  all_goals
   go_wp2_with fail;go_meet
   case rel=>exact ⟨by rw [k.out],by first | exact Below.refl _ _ | exact (Below.refl _ _).drew | exact A8 _ _ _⟩
 case rest=>
 obtain ⟨rfl,am⟩:=hcut;obtain ⟨u,aH⟩:=Ex (wc);rw [<- aH] at am;have f:=q.out.below am;have aI:=al.out.low am;rw [<- aH];clear aH c0 c1 c2 vw aO e0 e1 e2 e3 e4 e5 e6 e7 e8 e9;obtain ⟨c0,c1,c2⟩:=ap.out u aI;obtain ⟨e0,e1,e2,e3,e4,e5,e6,e7,e8,e9⟩:=C10 f.box;(try dsimp only at e0 e1 e2 e3 e4 e5 e6 e7 e8 e9);replace ⟨am,f,aI⟩:=H3 am f aI;have aP:=hk.out;rcases aP with rfl | rfl | rfl | rfl | rfl | rfl | rfl | rfl | rfl | rfl | rfl
 .exact absurd o.out (by decide)
 .cases b with
  | true=>
   have g:=I9 k.out.symm;have d:=l.out.trans (Ad ⟨rfl,g⟩);subst d;replace g:=Hh g;go_wp2;go_ret;exact ⟨rfl,f.out.low⟩
  | false=>
   have g:=Q9 k.out.symm;have d:r=(B5 T.vs T.pl.ab.length (cq.map au.pl)).2:=l.out.trans ((Ac (fun c=>g c.2)).trans ((Ac (by show ¬ ((2:Int)=1);decide)).trans ((Ac (by show ¬ ((2:Int)=6);decide)).trans (Ad rfl))));replace ⟨d,g⟩:=H2 d g;have a:=ac.out u f.out.low;rw [<- aF.out] at a;replace a:=Hh a;go_wp2_with (go_at_call 58;(with_reducible refine (a.out).mono ?_);rintro e w3 ⟨v,rfl,_,_,i⟩;replace i:=Hh i);go_ret;exact ⟨by rw [d.out];rfl,f.out.low.trans (i.out.mono f.out.low.size)⟩
 .cases b with
  | true=>
   have g:=I9 k.out.symm;have d:=l.out.trans (Ad ⟨rfl,g⟩);subst d;replace g:=Hh g;go_wp2;go_ret;exact ⟨rfl,f.out.low⟩
  | false=>
   have g:=Q9 k.out.symm;have d:r=Jo T.pl ⟨3,ah,tick,ag,seq,bp,attempt,node,bj⟩:=l.out.trans ((Ac (fun c=>g c.2)).trans ((Ac (by show ¬ ((3:Int)=1);decide)).trans ((Ac (by show ¬ ((3:Int)=6);decide)).trans ((Ac (by show ¬ ((3:Int)=2);decide)).trans (Ac (by show ¬ ((8:Int)<=3/\(3:Int)<=11);decide))))));replace ⟨d,g⟩:=H2 d g;have a:Calls Tryz.prog 60 #[.pointer (some ⟨tb,0,none⟩),(Value.agg #[.int .i64 3,.int .i64 ah,.int .i64 tick,.int .i64 ag,.int .i64 seq,.int .i64 bp,.int .i64 attempt,.int .i64 node,.int .i64 bj,.slice so m sc])] u (G2 u r):=(by rw [d.out];exact p.out (by simp) u f.out.low);replace a:=Hh a;go_wp2_with (go_at_call 60;(with_reducible refine (a.out).mono ?_);rintro e w3 ⟨rfl,i⟩;replace i:=Hh i);go_ret;exact ⟨rfl,f.out.low.trans (i.out.mono f.out.low.size)⟩
 .cases b with
  | true=>
   have g:=I9 k.out.symm;have d:=l.out.trans (Ad ⟨rfl,g⟩);subst d;replace g:=Hh g;go_wp2;go_ret;exact ⟨rfl,f.out.low⟩
  | false=>
   have g:=Q9 k.out.symm;have d:r=Jo T.pl ⟨4,ah,tick,ag,seq,bp,attempt,node,bj⟩:=l.out.trans ((Ac (fun c=>g c.2)).trans ((Ac (by show ¬ ((4:Int)=1);decide)).trans ((Ac (by show ¬ ((4:Int)=6);decide)).trans ((Ac (by show ¬ ((4:Int)=2);decide)).trans (Ac (by show ¬ ((8:Int)<=4/\(4:Int)<=11);decide))))));replace ⟨d,g⟩:=H2 d g;have a:Calls Tryz.prog 60 #[.pointer (some ⟨tb,0,none⟩),(Value.agg #[.int .i64 4,.int .i64 ah,.int .i64 tick,.int .i64 ag,.int .i64 seq,.int .i64 bp,.int .i64 attempt,.int .i64 node,.int .i64 bj,.slice so m sc])] u (G2 u r):=(by rw [d.out];exact p.out (by simp) u f.out.low);replace a:=Hh a;go_wp2_with (go_at_call 60;(with_reducible refine (a.out).mono ?_);rintro e w3 ⟨rfl,i⟩;replace i:=Hh i);go_ret;exact ⟨rfl,f.out.low.trans (i.out.mono f.out.low.size)⟩
 .cases b with
  | true=>
   have g:=I9 k.out.symm;have d:=l.out.trans (Ad ⟨rfl,g⟩);subst d;replace g:=Hh g;go_wp2;go_ret;exact ⟨rfl,f.out.low⟩
  | false=>
   have g:=Q9 k.out.symm;have d:r=Jo T.pl ⟨5,ah,tick,ag,seq,bp,attempt,node,bj⟩:=l.out.trans ((Ac (fun c=>g c.2)).trans ((Ac (by show ¬ ((5:Int)=1);decide)).trans ((Ac (by show ¬ ((5:Int)=6);decide)).trans ((Ac (by show ¬ ((5:Int)=2);decide)).trans (Ac (by show ¬ ((8:Int)<=5/\(5:Int)<=11);decide))))));replace ⟨d,g⟩:=H2 d g;have a:Calls Tryz.prog 60 #[.pointer (some ⟨tb,0,none⟩),(Value.agg #[.int .i64 5,.int .i64 ah,.int .i64 tick,.int .i64 ag,.int .i64 seq,.int .i64 bp,.int .i64 attempt,.int .i64 node,.int .i64 bj,.slice so m sc])] u (G2 u r):=(by rw [d.out];exact p.out (by simp) u f.out.low);replace a:=Hh a;go_wp2_with (go_at_call 60;(with_reducible refine (a.out).mono ?_);rintro e w3 ⟨rfl,i⟩;replace i:=Hh i);go_ret;exact ⟨rfl,f.out.low.trans (i.out.mono f.out.low.size)⟩
 .exact absurd o.out (by decide)
 .exact absurd o.out (by decide)
 .exact absurd o.out (by decide)
 .exact absurd o.out (by decide)
 .cases b with
  | true=>
   have g:=I9 k.out.symm;have d:=l.out.trans (Ad ⟨rfl,g⟩);subst d;replace g:=Hh g;go_wp2;go_ret;exact ⟨rfl,f.out.low⟩
  | false=>
   have g:=Q9 k.out.symm;have d:r=La T.pl ⟨10,ah,tick,ag,seq,bp,attempt,node,bj⟩:=l.out.trans ((Ac (fun c=>g c.2)).trans ((Ac (by show ¬ ((10:Int)=1);decide)).trans ((Ac (by show ¬ ((10:Int)=6);decide)).trans ((Ac (by show ¬ ((10:Int)=2);decide)).trans (Ad (by show ((8:Int)<=10/\(10:Int)<=11);decide))))));replace ⟨d,g⟩:=H2 d g;have a:Calls Tryz.prog 59 #[.pointer (some ⟨tb,0,none⟩),(Value.agg #[.int .i64 10,.int .i64 ah,.int .i64 tick,.int .i64 ag,.int .i64 seq,.int .i64 bp,.int .i64 attempt,.int .i64 node,.int .i64 bj,.slice so m sc])] u (G2 u r):=(by rw [d.out];exact t.out (by simp) u f.out.low);replace a:=Hh a;go_wp2_with (go_at_call 59;(with_reducible refine (a.out).mono ?_);rintro e w3 ⟨rfl,i⟩;replace i:=Hh i);go_ret;exact ⟨rfl,f.out.low.trans (i.out.mono f.out.low.size)⟩
 .cases b with
  | true=>
   have g:=I9 k.out.symm;have d:=l.out.trans (Ad ⟨rfl,g⟩);subst d;replace g:=Hh g;go_wp2;go_ret;exact ⟨rfl,f.out.low⟩
  | false=>
   have g:=Q9 k.out.symm;have d:r=La T.pl ⟨11,ah,tick,ag,seq,bp,attempt,node,bj⟩:=l.out.trans ((Ac (fun c=>g c.2)).trans ((Ac (by show ¬ ((11:Int)=1);decide)).trans ((Ac (by show ¬ ((11:Int)=6);decide)).trans ((Ac (by show ¬ ((11:Int)=2);decide)).trans (Ad (by show ((8:Int)<=11/\(11:Int)<=11);decide))))));replace ⟨d,g⟩:=H2 d g;have a:Calls Tryz.prog 59 #[.pointer (some ⟨tb,0,none⟩),(Value.agg #[.int .i64 11,.int .i64 ah,.int .i64 tick,.int .i64 ag,.int .i64 seq,.int .i64 bp,.int .i64 attempt,.int .i64 node,.int .i64 bj,.slice so m sc])] u (G2 u r):=(by rw [d.out];exact t.out (by simp) u f.out.low);replace a:=Hh a;go_wp2_with (go_at_call 59;(with_reducible refine (a.out).mono ?_);rintro e w3 ⟨rfl,i⟩;replace i:=Hh i);go_ret;exact ⟨rfl,f.out.low.trans (i.out.mono f.out.low.size)⟩
def Ah4 {w:World} {T:Tv} (x:cu) (h:An w T) (hj:T.js.length<=1000000) (hx:x.ok w) :
  Calls Tryz.prog 31 #[.pointer (some ⟨T.tb,0,none⟩),x.val] w (G2 w (Dl T.vs T.pl x.pl)):=by
 by_cases aB:B8 x.n.kind=true
 .exact Awd x h hj hx aB
 obtain ⟨r,hr⟩:=Ex (Dl T.vs T.pl x.pl);rw [<- hr];have an:=K8.new w x;have am:=Acv x _ (an.ok hx);by_cases hm:E6 x.pl=true;rotate_left
 .have aF:E6 x.pl=false:=by simpa using hm
  rw [Vm aF] at am;have aP:r=130:=by rw [hr];unfold Dl;rw [Ad aF]
  subst aP;obtain ⟨⟨p,ah,tick,ag,seq,bp,attempt,node,bj⟩,so,m,sc,cq⟩:=x;replace ⟨an,am,hm,aF,hr,h,hx⟩:=H7 an am hm aF hr h hx;go_enter Lx,Lw;go_wp2_with fail;refine am.out.mono ?_;rintro e w1 ⟨rfl,i⟩;have b:=an.out.below i;replace ⟨b,i⟩:=H2 b i;go_wp2;go_ret;exact ⟨rfl,b.out.low⟩
 rw [Acr hm] at am;obtain ⟨hk,aK,f1,f2,_,_⟩:=So hm;have aL:=hx.cq.len;have aH:x.m<=1000:=by have:x.pl.specs.length=x.cq.length:=Ax _;omega
 have aD:∀ W,Below w.heap.size w W->Calls Tryz.prog 58 #[.pointer (some ⟨T.tb,0,none⟩),.slice x.so x.m x.c] W (Gp (B5 T.vs T.js.length (x.cq.map au.pl)) W):=fun W hW=>Aat (h.low hW) h.dj.ok hj x.so x.m x.c x.cq (hx.cq.low hW) aH;have aA:(x.n.kind=8\/x.n.kind=9\/x.n.kind=10\/x.n.kind=11)->∀ W,Below w.heap.size w W->Calls Tryz.prog 59 #[.pointer (some ⟨T.tb,0,none⟩),x.val] W (G2 W (La T.pl x.n)):=fun hk W hW=>Ag6 x (h.low hW) (f2 (.inr hk)) hk;have aC:(x.n.kind=3\/x.n.kind=4\/x.n.kind=5\/x.n.kind=7)->∀ W,Below w.heap.size w W->Calls Tryz.prog 60 #[.pointer (some ⟨T.tb,0,none⟩),x.val] W (G2 W (Jo T.pl x.n)):=fun hk W hW=>Ag7 x (h.low hW) (f1 hk);have aI:=hx.vf 3;obtain ⟨⟨cs,ce,cf,aM⟩,aJ⟩:∃ c,c=J9 T.cls x.n.ag:=⟨_,rfl⟩
 have aE:∀ W,An W T->(Instr.lookup 108 (.map (some T.mb)) (.int .i64 x.n.ag) false).run Tryz.prog W=.ok (Ic ⟨cs,ce,cf,aM⟩) W:=fun W hW=>by
  rw [aJ];exact Agx hW.cls aI.1 aI.2
 unfold Ic at aE
 have av:r=Ah2 T.vs T.pl x.pl cs:=by
  rw [hr];unfold Dl;rw [Ac (by rw [hm];simp)]
  have:(J9 T.pl.cls x.pl.n.ag).seq=cs:=by show (J9 T.cls x.n.ag).seq=cs;rw [<- aJ]
  rw [this];rfl
 obtain ⟨tb,aG⟩:=Ex (T.tb);obtain ⟨aN,ad⟩:=Ex (T.ah);obtain ⟨aO,al⟩:=Ex (T.tick)
 have ac:∀ W,An W T->W.cell? ⟨tb,0,none⟩=some (.int .i64 aN)/\W.cell? ⟨tb,1,none⟩=some (.int .i64 aO)/\W.cell? ⟨tb,2,none⟩=some (.map (some T.mb)):=fun W hW=>by
  rw [aG,ad,al];exact ⟨Aa hW.head 0,Aa hW.head 1,Aa hW.head 2⟩
 rw [<- aG];rw [<- aG] at aD aA aC;clear hr f1 f2 aG aJ aI;obtain ⟨⟨p,ah,tick,ag,seq,bp,attempt,node,bj⟩,so,m,sc,cq⟩:=x;replace aE:∀ W,An W T->(Instr.lookup 108 (.map (some T.mb)) (.int .i64 ag) false).run Tryz.prog W=.ok (.agg #[.int .i64 cs,.int .i64 ce,.int .i64 cf,.int .i64 aM]) W:=aE;replace hk:p=1\/p=2\/p=3\/p=4\/p=5\/p=6\/p=7\/p=8\/p=9\/p=10\/p=11:=hk;replace ⟨an,am,hm,h,hx,aK,aL,aH⟩:=H8 an am hm h hx aK aL aH;replace ⟨aD,aA,aC,aE,av,ac⟩:=H6 aD aA aC aE av ac;rcases hk with rfl | rfl | rfl | rfl | rfl | rfl | rfl | rfl | rfl | rfl | rfl
 .have ao:=Hh fun W=>by
   have:=Pg 1 W;rw [show B8 1=false from rfl] at this;exact this
  by_cases q:ah<=aN
  .have o:=av.out.trans ((Ac (by show ¬ (B8 1=true/\_);exact fun c=>absurd c.1 (by decide))).trans ((Ad rfl).trans (Ad (by rw [ad] at q;exact q))));subst o;clear ad al;go_enter Lx,Lw;go_wp2_with fail;refine am.out.mono ?_;rintro e w1 ⟨rfl,i⟩;have b:=an.out.below i;have f:=h.out.low b.low;obtain ⟨c0,c1,c2⟩:=ac.out w1 f;obtain ⟨t,u,v,y,z,e5,e6,e7,e8,e9⟩:=C10 b.box;(try dsimp only at t u v y z e5 e6 e7 e8 e9);replace ⟨b,f,i⟩:=H3 b f i;go_upto_region 6 with fail;go_quiet (first | (go_at_call 46;(with_reducible exact Kt (ao.out _))));rename_i nq;obtain ⟨s,j⟩:=Ex (w1.drewN nq);have g:Below w1.heap.size w1 s:=(by rw [j];exact A8 _ w1 nq);have a:=b.out.below g;have k:=f.out.low g;rw [<- j];clear j c0 c1 c2;clear t u v y z e5 e6 e7 e8 e9;obtain ⟨c0,c1,c2⟩:=ac.out s k;obtain ⟨t,u,v,y,z,e5,e6,e7,e8,e9⟩:=C10 a.box;(try dsimp only at t u v y z e5 e6 e7 e8 e9);have d:=fun n=>a.low.trans ((A8 _ s n).mono a.low.size);replace ⟨g,a,k,d⟩:=H4 g a k d;go_upto_region 9 with fail;go_quiet (fail);go_wp2;go_ret;exact ⟨rfl,d.out _⟩
  .have o:=av.out.trans ((Ac (by show ¬ (B8 1=true/\_);exact fun c=>absurd c.1 (by decide))).trans ((Ad rfl).trans (Ac (by rw [ad] at q;exact q))));subst o;clear ad al;go_enter Lx,Lw;go_wp2_with fail;refine am.out.mono ?_;rintro e w1 ⟨rfl,i⟩;have b:=an.out.below i;have f:=h.out.low b.low;obtain ⟨c0,c1,c2⟩:=ac.out w1 f;obtain ⟨t,u,v,y,z,e5,e6,e7,e8,e9⟩:=C10 b.box;(try dsimp only at t u v y z e5 e6 e7 e8 e9);replace ⟨b,f,i⟩:=H3 b f i;go_upto_region 6 with fail;go_quiet (first | (go_at_call 46;(with_reducible exact Kt (ao.out _))));rename_i nq;obtain ⟨s,j⟩:=Ex (w1.drewN nq);have g:Below w1.heap.size w1 s:=(by rw [j];exact A8 _ w1 nq);have a:=b.out.below g;have k:=f.out.low g;rw [<- j];clear j c0 c1 c2;clear t u v y z e5 e6 e7 e8 e9;obtain ⟨c0,c1,c2⟩:=ac.out s k;obtain ⟨t,u,v,y,z,e5,e6,e7,e8,e9⟩:=C10 a.box;(try dsimp only at t u v y z e5 e6 e7 e8 e9);have d:=fun n=>a.low.trans ((A8 _ s n).mono a.low.size);replace ⟨g,a,k,d⟩:=H4 g a k d;go_upto_region 9 with fail;go_quiet (fail);go_wp2;go_ret;exact ⟨rfl,d.out _⟩
 .exact absurd rfl aB
 .exact absurd rfl aB
 .exact absurd rfl aB
 .exact absurd rfl aB
 .have ao:=Hh fun W=>by
   have:=Pg 6 W;rw [show B8 6=false from rfl] at this;exact this
  by_cases q:tick<=aO
  .have o:=av.out.trans ((Ac (by show ¬ (B8 6=true/\_);exact fun c=>absurd c.1 (by decide))).trans ((Ac (by show ¬ ((6:Int)=1);decide)).trans ((Ad rfl).trans (Ad (by rw [al] at q;exact q)))));subst o;clear ad al;go_enter Lx,Lw;go_wp2_with fail;refine am.out.mono ?_;rintro e w1 ⟨rfl,i⟩;have b:=an.out.below i;have f:=h.out.low b.low;obtain ⟨c0,c1,c2⟩:=ac.out w1 f;obtain ⟨t,u,v,y,z,e5,e6,e7,e8,e9⟩:=C10 b.box;(try dsimp only at t u v y z e5 e6 e7 e8 e9);replace ⟨b,f,i⟩:=H3 b f i;go_upto_region 6 with fail;go_quiet (first | (go_at_call 46;(with_reducible exact Kt (ao.out _))));rename_i nq;obtain ⟨s,j⟩:=Ex (w1.drewN nq);have g:Below w1.heap.size w1 s:=(by rw [j];exact A8 _ w1 nq);have a:=b.out.below g;have k:=f.out.low g;rw [<- j];clear j c0 c1 c2;clear t u v y z e5 e6 e7 e8 e9;obtain ⟨c0,c1,c2⟩:=ac.out s k;obtain ⟨t,u,v,y,z,e5,e6,e7,e8,e9⟩:=C10 a.box;(try dsimp only at t u v y z e5 e6 e7 e8 e9);have d:=fun n=>a.low.trans ((A8 _ s n).mono a.low.size);replace ⟨g,a,k,d⟩:=H4 g a k d;go_upto_region 11 with fail;go_quiet (fail);go_wp2;go_ret;exact ⟨rfl,d.out _⟩
  .have o:=av.out.trans ((Ac (by show ¬ (B8 6=true/\_);exact fun c=>absurd c.1 (by decide))).trans ((Ac (by show ¬ ((6:Int)=1);decide)).trans ((Ad rfl).trans (Ac (by rw [al] at q;exact q)))));subst o;clear ad al;go_enter Lx,Lw;go_wp2_with fail;refine am.out.mono ?_;rintro e w1 ⟨rfl,i⟩;have b:=an.out.below i;have f:=h.out.low b.low;obtain ⟨c0,c1,c2⟩:=ac.out w1 f;obtain ⟨t,u,v,y,z,e5,e6,e7,e8,e9⟩:=C10 b.box;(try dsimp only at t u v y z e5 e6 e7 e8 e9);replace ⟨b,f,i⟩:=H3 b f i;go_upto_region 6 with fail;go_quiet (first | (go_at_call 46;(with_reducible exact Kt (ao.out _))));rename_i nq;obtain ⟨s,j⟩:=Ex (w1.drewN nq);have g:Below w1.heap.size w1 s:=(by rw [j];exact A8 _ w1 nq);have a:=b.out.below g;have k:=f.out.low g;rw [<- j];clear j c0 c1 c2;clear t u v y z e5 e6 e7 e8 e9;obtain ⟨c0,c1,c2⟩:=ac.out s k;obtain ⟨t,u,v,y,z,e5,e6,e7,e8,e9⟩:=C10 a.box;(try dsimp only at t u v y z e5 e6 e7 e8 e9);have d:=fun n=>a.low.trans ((A8 _ s n).mono a.low.size);replace ⟨g,a,k,d⟩:=H4 g a k d;go_upto_region 11 with fail;go_quiet (fail);go_wp2;go_ret;exact ⟨rfl,d.out _⟩
 .have ao:=Hh fun W=>by
   have:=Pg 7 W;rw [show B8 7=false from rfl] at this;exact this
  have o:r=Jo T.pl ⟨7,ah,tick,ag,seq,bp,attempt,node,bj⟩:=av.out.trans ((Ac (by show ¬ (B8 7=true/\_);exact fun c=>absurd c.1 (by decide))).trans ((Ac (by show ¬ ((7:Int)=1);decide)).trans ((Ac (by show ¬ ((7:Int)=6);decide)).trans ((Ac (by show ¬ ((7:Int)=2);decide)).trans (Ac (by show ¬ ((8:Int)<=7/\(7:Int)<=11);decide))))));clear ad al;replace o:=Hh o;go_enter Lx,Lw;go_wp2_with fail;refine am.out.mono ?_;rintro e w1 ⟨rfl,i⟩;have b:=an.out.below i;have f:=h.out.low b.low;obtain ⟨c0,c1,c2⟩:=ac.out w1 f;obtain ⟨t,u,v,y,z,e5,e6,e7,e8,e9⟩:=C10 b.box;(try dsimp only at t u v y z e5 e6 e7 e8 e9);replace ⟨b,f,i⟩:=H3 b f i;go_upto_region 6 with fail;go_quiet (first | (go_at_call 46;(with_reducible exact Kt (ao.out _))));rename_i nq;obtain ⟨s,j⟩:=Ex (w1.drewN nq);have g:Below w1.heap.size w1 s:=by rw [j];exact A8 _ w1 nq
  have a:=b.out.below g;have k:=f.out.low g;rw [<- j];clear j c0 c1 c2;clear t u v y z e5 e6 e7 e8 e9;obtain ⟨c0,c1,c2⟩:=ac.out s k;obtain ⟨t,u,v,y,z,e5,e6,e7,e8,e9⟩:=C10 a.box;(try dsimp only at t u v y z e5 e6 e7 e8 e9);have d:=fun n=>a.low.trans ((A8 _ s n).mono a.low.size);replace ⟨g,a,k,d⟩:=H4 g a k d;have l:Calls Tryz.prog 60 #[.pointer (some ⟨tb,0,none⟩),(Value.agg #[.int .i64 7,.int .i64 ah,.int .i64 tick,.int .i64 ag,.int .i64 seq,.int .i64 bp,.int .i64 attempt,.int .i64 node,.int .i64 bj,.slice so m sc])] s (G2 s r):=by rw [o.out];exact aC.out (by simp) s a.out.low
  replace l:=Hh l;go_wp2_with (go_at_call 60;(with_reducible refine (l.out).mono ?_);rintro e w3 ⟨rfl,ap⟩;replace ap:=Hh ap);go_ret;exact ⟨rfl,a.out.low.trans (ap.out.mono a.out.low.size)⟩
 .have ao:=Hh fun W=>by
   have:=Pg 8 W;rw [show B8 8=false from rfl] at this;exact this
  have o:r=La T.pl ⟨8,ah,tick,ag,seq,bp,attempt,node,bj⟩:=av.out.trans ((Ac (by show ¬ (B8 8=true/\_);exact fun c=>absurd c.1 (by decide))).trans ((Ac (by show ¬ ((8:Int)=1);decide)).trans ((Ac (by show ¬ ((8:Int)=6);decide)).trans ((Ac (by show ¬ ((8:Int)=2);decide)).trans (Ad (by show ((8:Int)<=8/\(8:Int)<=11);decide))))));clear ad al;replace o:=Hh o;go_enter Lx,Lw;go_wp2_with fail;refine am.out.mono ?_;rintro e w1 ⟨rfl,i⟩;have b:=an.out.below i;have f:=h.out.low b.low;obtain ⟨c0,c1,c2⟩:=ac.out w1 f;obtain ⟨t,u,v,y,z,e5,e6,e7,e8,e9⟩:=C10 b.box;(try dsimp only at t u v y z e5 e6 e7 e8 e9);replace ⟨b,f,i⟩:=H3 b f i;go_upto_region 6 with fail;go_quiet (first | (go_at_call 46;(with_reducible exact Kt (ao.out _))));rename_i nq;obtain ⟨s,j⟩:=Ex (w1.drewN nq);have g:Below w1.heap.size w1 s:=by rw [j];exact A8 _ w1 nq
  have a:=b.out.below g;have k:=f.out.low g;rw [<- j];clear j c0 c1 c2;clear t u v y z e5 e6 e7 e8 e9;obtain ⟨c0,c1,c2⟩:=ac.out s k;obtain ⟨t,u,v,y,z,e5,e6,e7,e8,e9⟩:=C10 a.box;(try dsimp only at t u v y z e5 e6 e7 e8 e9);have d:=fun n=>a.low.trans ((A8 _ s n).mono a.low.size);replace ⟨g,a,k,d⟩:=H4 g a k d;have l:Calls Tryz.prog 59 #[.pointer (some ⟨tb,0,none⟩),(Value.agg #[.int .i64 8,.int .i64 ah,.int .i64 tick,.int .i64 ag,.int .i64 seq,.int .i64 bp,.int .i64 attempt,.int .i64 node,.int .i64 bj,.slice so m sc])] s (G2 s r):=by rw [o.out];exact aA.out (by simp) s a.out.low
  replace l:=Hh l;go_wp2_with (go_at_call 59;(with_reducible refine (l.out).mono ?_);rintro e w3 ⟨rfl,ap⟩;replace ap:=Hh ap);go_ret;exact ⟨rfl,a.out.low.trans (ap.out.mono a.out.low.size)⟩
 .have ao:=Hh fun W=>by
   have:=Pg 9 W;rw [show B8 9=false from rfl] at this;exact this
  have o:r=La T.pl ⟨9,ah,tick,ag,seq,bp,attempt,node,bj⟩:=av.out.trans ((Ac (by show ¬ (B8 9=true/\_);exact fun c=>absurd c.1 (by decide))).trans ((Ac (by show ¬ ((9:Int)=1);decide)).trans ((Ac (by show ¬ ((9:Int)=6);decide)).trans ((Ac (by show ¬ ((9:Int)=2);decide)).trans (Ad (by show ((8:Int)<=9/\(9:Int)<=11);decide))))));clear ad al;replace o:=Hh o;go_enter Lx,Lw;go_wp2_with fail;refine am.out.mono ?_;rintro e w1 ⟨rfl,i⟩;have b:=an.out.below i;have f:=h.out.low b.low;obtain ⟨c0,c1,c2⟩:=ac.out w1 f;obtain ⟨t,u,v,y,z,e5,e6,e7,e8,e9⟩:=C10 b.box;(try dsimp only at t u v y z e5 e6 e7 e8 e9);replace ⟨b,f,i⟩:=H3 b f i;go_upto_region 6 with fail;go_quiet (first | (go_at_call 46;(with_reducible exact Kt (ao.out _))));rename_i nq;obtain ⟨s,j⟩:=Ex (w1.drewN nq);have g:Below w1.heap.size w1 s:=by rw [j];exact A8 _ w1 nq
  have a:=b.out.below g;have k:=f.out.low g;rw [<- j];clear j c0 c1 c2;clear t u v y z e5 e6 e7 e8 e9;obtain ⟨c0,c1,c2⟩:=ac.out s k;obtain ⟨t,u,v,y,z,e5,e6,e7,e8,e9⟩:=C10 a.box;(try dsimp only at t u v y z e5 e6 e7 e8 e9);have d:=fun n=>a.low.trans ((A8 _ s n).mono a.low.size);replace ⟨g,a,k,d⟩:=H4 g a k d;have l:Calls Tryz.prog 59 #[.pointer (some ⟨tb,0,none⟩),(Value.agg #[.int .i64 9,.int .i64 ah,.int .i64 tick,.int .i64 ag,.int .i64 seq,.int .i64 bp,.int .i64 attempt,.int .i64 node,.int .i64 bj,.slice so m sc])] s (G2 s r):=by rw [o.out];exact aA.out (by simp) s a.out.low
  replace l:=Hh l;go_wp2_with (go_at_call 59;(with_reducible refine (l.out).mono ?_);rintro e w3 ⟨rfl,ap⟩;replace ap:=Hh ap);go_ret;exact ⟨rfl,a.out.low.trans (ap.out.mono a.out.low.size)⟩
 .exact absurd rfl aB
 .exact absurd rfl aB
open Go.Lib
variable {w w':World} {T T':Tv}
def An.mm (h:An w T) (l:List (Int×Cl)) (a:Mod (fun k=>k=T.mb) w w') (m:L2 w' T.mb l):An w' { T with cls:=l }:=by
 obtain ⟨r,s,b⟩:=h.cls.aq
 have d:Mod T.ay w w':=a.mono fun k _ e=>by rw [e];exact .inr (.inl rfl)
 have f:∀ {B size n:Nat} {o:TypeId} {v:Value} {xs:List Value},w.ownsRow B o size v n xs->∀ k,v.ownBlock=some k->¬ k=T.mb:=fun p k q e=>by
  subst e;exact Alh p b q
 refine ⟨a.aq h.head (fun e=>h.ei h.head e.symm),m,Bb h.nodes a (f h.nodes),Bb h.ab a (f h.ab),Bb h.aw a (f h.aw),fun j g=>a.aq (h.box j g) (fun e=>h.ei (h.box j g) e.symm),fun j g=>?_,h.one,h.two,h.dj.mod d (fun _ c=>.inl c),h.same⟩;have i:=h.ok j g;exact i.mod d (fun _ _ c=>c) (Bb i.parts a (f i.parts))
def Ek.ph {f:World} {b:Nat} (g:Ek w T T' w') (h:An f T) (h1:f.heap.size<=b) (q:b<w.heap.size) :
  ∀ j,j∈T'.js->(0<j.2.sn->∀ k o,j.2.so=some ⟨k,o,none⟩->k≠b)/\(0<j.2.gn->∀ k o,j.2.go=some ⟨k,o,none⟩->k≠b):=fun j l=>by
 obtain ⟨m,n⟩:=g.du j l;refine ⟨fun h0 k o e p=>?_,fun h0 k o e p=>?_⟩
 .obtain ⟨i,d,a,c⟩:=m h0 k o e (by omega);have:=K9 (h.ok i d).after.row a c;omega
 .obtain ⟨i,d,a,c⟩:=n h0 k o e (by omega);have:=K9 (h.ok i d).aj.row a c;omega
def Aau (w:World) (T:Tv) (P:di×Cl×Int) (e:Ending) (w':World):Prop:=e=.returned (.tuple #[E1 P.2.1,.int .i64 P.2.2])/\∃ T',Ek w T T' w'/\T'.pl=P.1
def Nl (k:Int):Nat:=if k=1 then 81 else if k=2 then 82 else if k=6 then 83 else if k=7 then 84 else if k=8\/k=9\/k=10\/k=11 then 85 else 86
def Ah5 (a:Nat) (k:Int) (w:World) (b:k=1\/k=2\/k=3\/k=4\/k=5\/k=6\/k=7\/k=8\/k=9\/k=10\/k=11) :
  Calls Tryz.prog 45 #[.pointer (some ⟨a,0,none⟩),.int .i64 k] w fun e w'=>e=.returned (.func (.func (Nl k)) #[.pointer (some ⟨a,0,none⟩)] #[])/\w'=w:=by
 rcases b with rfl | rfl | rfl | rfl | rfl | rfl | rfl | rfl | rfl | rfl | rfl
 all_goals
  go_enter Tryz.func45,Tryz.ntmps45;go_wp2;go_ret;exact ⟨rfl,rfl⟩
end Go.Proofs.YtimlcnhcjndijaaGreatDoor
namespace Go.Proofs.YtimlcnhcjndijaaGreatDoor
open Go.RowKit Go.Maps Go.Lib
def Ek.ox {w c:World} {T d:Tv} (h:An w T) (a:Ek w T d c) (m:∀ j,j∈d.js->(0<j.2.sn->∀ k o,j.2.so=some ⟨k,o,none⟩->k≠w.heap.size+1)/\(0<j.2.gn->∀ k o,j.2.go=some ⟨k,o,none⟩->k≠w.heap.size+1)) {n a1 a2:Value} (b:c.heap[w.heap.size+1]?=some (.cells #[n,a1,a2] 35 (0,0))) (f g i:Value) :
  Ek w T d (((c.setCell ⟨w.heap.size+1,0,none⟩ f).setCell ⟨w.heap.size+1,1,none⟩ g).setCell ⟨w.heap.size+1,2,none⟩ i):=by
 have l:=(((Mod.refl (fun k=>k=w.heap.size+1) c).set _ 0 f rfl).set _ 1 g rfl).set _ 2 i rfl;have p:=Ab h.head;exact ⟨a.at_.eo b l (by rw [a.tb];omega) (by decide) (by decide) (by decide) (by decide) (by decide) (by decide) m,a.tb,a.fb,a.fm,a.fl,a.vs,a.ay,a.mod.then l (fun k q e=>by omega),a.du⟩
def Ek.low {w w1 b:World} {T c:Tv} (a:Ek w T c w1) (d:Below w1.heap.size w1 b):Ek w T c b:=⟨a.at_.low d,a.tb,a.fb,a.fm,a.fl,a.vs,a.ay,a.mod.low d,a.du⟩
def Ek.back {w w1 g:World} {T h:Tv} (a:Ek w1 T h g) (d:Below w.heap.size w w1):Ek w T h g:=
 ⟨a.at_,a.tb,a.fb,a.fm,a.fl,a.vs,fun b c=>(a.ay b c).imp id (fun e=>A6 d.size e),(Mod.af d).trans a.mod,fun j i=>⟨fun h0 k o e f=>(a.du j i).1 h0 k o e (Br f d.size),fun h0 k o e f=>(a.du j i).2 h0 k o e (Br f d.size)⟩⟩
def Ek.mm {w w1 d:World} {T b:Tv} (a:Ek w T b w1) (l:List (Int×Cl)) (f:Mod (fun k=>k=b.mb) w1 d) (g:L2 d b.mb l):Ek w T { b with cls:=l } d:=
 ⟨a.at_.mm l f g,a.tb,a.fb,a.fm,a.fl,a.vs,a.ay,a.mod.then f (fun k h e=>by
  rcases a.ay k (by rw [e];exact .inr (.inl rfl)) with c | c
  .exact c
  .omega),a.du⟩
def Ek.same {w:World} {T:Tv} (h:An w T):Ek w T T w:=⟨h,rfl,rfl,rfl,rfl,rfl,fun _ c=>.inl c,Mod.refl _ _,Gz.refl _ _⟩
def Awe {w:World} {T:Tv} (x:cu) (h:An w T) (s:x.ok w) (l:T.js.length<=1000000) (p:Dl T.vs T.pl x.pl≠0) :
  Calls Tryz.prog 15 #[.pointer (some ⟨T.tb,0,none⟩),x.val] w (Aau w T (Cz T.vs T.pl x.pl)):=by
 have n:Cz T.vs T.pl x.pl=(T.pl,⟨0,0,0,0⟩,Dl T.vs T.pl x.pl):=by unfold Cz;rw [Ad p]
 rw [n];have a:=re.new w x;obtain ⟨W0,g⟩:=Ex ((w.alloc (.cells x.cells 40 (0,0))).alloc (.cells #[.int .i64 0,.int .i64 0,.int .i64 0] 35 (0,0)));rw [<- g] at a;have q:=Ah4 x (h.low a.low) l (s.low a.low);obtain ⟨r,i⟩:=Ex (Dl T.vs T.pl x.pl);rw [<- i] at q p;rw [<- i];have ac:(r != 0)=true:=by simpa using p
 obtain ⟨⟨u,ah,tick,ag,seq,bp,attempt,node,bj⟩,so,m,sc,cq⟩:=x;obtain ⟨y,z,e2,e3,e4,e5,e6,e7,e8,e9⟩:=C10 a.box;(try dsimp only at y z e2 e3 e4 e5 e6 e7 e8 e9);clear n i p;replace ⟨h,s,a,q,l⟩:=H5 h s a q l;go_enter Tryz.func15,Tryz.ntmps15;go_upto_region 1 with fail;rw [<- g];clear g;go_upto_region 3 with (go_at_call 31;(with_reducible refine (q.out).mono ?_);rintro e w1 ⟨rfl,f⟩;replace f:=Hh f);clear y z e2 e3 e4 e5 e6 e7 e8 e9;have b:=Ae f.out a.out.res (Ab a.out.res);have d:=a.out.low.trans (f.out.mono a.out.low.size);obtain ⟨r0,r1,r2⟩:=C3 b;(try dsimp only at r0 r1 r2);have fr:=Ah b;have t:=((Ek.same h.out).low d).ox h.out (fun j l=>⟨fun c k o e=>by have:=K9 (h.out.ok j l).after.row c e;omega,fun c k o e=>by have:=K9 (h.out.ok j l).aj.row c e;omega⟩) b (.int .i64 0) (.int .i64 0) (.int .i64 0);replace ⟨b,d,t⟩:=H3 b d t;go_wp2_with fail;exact Ao (v:=.tuple #[E1 ⟨0,0,0,0⟩,.int .i64 r]) (by simp [results,Tryz.results15,go_sem,r0,r1,r2]) rfl ⟨rfl,T,t.out,rfl⟩
end Go.Proofs.YtimlcnhcjndijaaGreatDoor
