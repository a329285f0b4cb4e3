/- Parts of a proof. No condition. -/
import Derived.Test.YtimlcnhcjndijaaGreatDoorF33
import Derived.Test.YtimlcnhcjndijaaGreatDoorF34
import Derived.Test.YtimlcnhcjndijaaGreatDoorF29
set_option linter.all false
set_option maxRecDepth 100000
set_option maxHeartbeats 12800000
namespace Go.Proofs.YtimlcnhcjndijaaGreatDoor
open Go renaming World->WD,Value->VL,Calls->CS
open Go.RowKit renaming Below->BW
open Go.Proofs.Tryz
section
open Go.RowKit Go.Maps Go.Lib
variable {vs:List au} {n k:Nat} {j:Jb} {js:List Jb}
def Ajs (c:List V4) (now:Int) (d:List Bool) (e:List Pl.Ay) (a:List Pl.Ask):Oi c now d e a=[]\/∃ b,Pl.Lj c now d e a b/\Oi c now d e a=b.map Pl.Az.key:=by
 unfold Oi;split
 .rename_i h;exact .inr ⟨h.choose,h.choose_spec,rfl⟩
 .exact .inl rfl
def Yd (h:Gb vs js) {k:Nat} {j:Jb} (a:js[k]?=some j):Fx js j.id=j:=by
 unfold Fx;rw [(h k j a).id,show ((k:Int)+1-1).toNat=k by omega,a];rfl
def Ajt (h:Gb vs js):(js.map Jb.id).Nodup:=by
 refine Np.2 fun a b c d e=>?_;rw [At] at c d;rw [List.getElem_map,List.getElem_map,(h a _ (A4 c)).id,(h b _ (A4 d)).id];omega
def Ye (_h:Gb vs js) {i:Nat} (h:i<(Br js).length):∃ (k:Nat) (j:Jb),js[k]?=some j/\Js js j=true/\A6 (Br js) i=⟨j.id,j.sp.user,j.sp.prio,Kj j⟩:=by
 have g:(Br js)[i]?=some (Br js)[i]:=A4 _;have c:(Br js)[i]∈Br js:=Lw _;unfold Br at c;obtain ⟨j,d,e⟩:=Ba.1 c;obtain ⟨a,b⟩:=O0.1 d;obtain ⟨k,f⟩:=Dg a;refine ⟨k,j,f,b,?_⟩;unfold A6;rw [g];exact e.symm
def Aju (h:Gb vs js) {a:Pl.Ask} (b:a∈En vs js):∃ (k:Nat) (j:Jb),js[k]?=some j/\Js js j=true/\a=F0 vs j:=by
 unfold En at b;obtain ⟨i,d,rfl⟩:=Ba.1 b;obtain ⟨k,j,c,f,e⟩:=Ye h (Yc _ _ _ d);exact ⟨k,j,c,f,by rw [e,Yd h c]⟩
def Aw0 (h:Gb vs js):((En vs js).map fun a=>a.id).Nodup:=by
 unfold En;rw [Dn];refine List.pairwise_map.2 ?_;refine List.Pairwise.imp_of_mem (fun {x y} hx hy hne=>?_) (Awz (D4 vs ByteArray.empty) (Du js) (Br js));have b:=Yc _ _ _ hx;have d:=Yc _ _ _ hy;obtain ⟨p,n,g,_,j⟩:=Ye h b;obtain ⟨q,o,i,_,k⟩:=Ye h d;show (F0 vs (Fx js (A6 (Br js) x).id)).id≠(F0 vs (Fx js (A6 (Br js) y).id)).id;rw [j,k,Yd h g,Yd h i];show n.id≠o.id;have f:((Br js).map df.id).Nodup:=by unfold Br;rw [Dn];exact (Ajt h).sublist ((Yy).map Jb.id)
 have l:((Br js).map df.id)[x]?=some n.id:=by
  rw [Bh,A4 b]
  have:A6 (Br js) x=(Br js)[x]:=by unfold A6;rw [A4 b];rfl
  rw [<- this,j];rfl
 have m:((Br js).map df.id)[y]?=some o.id:=by
  rw [Bh,A4 d]
  have:A6 (Br js) y=(Br js)[y]:=by unfold A6;rw [A4 d];rfl
  rw [<- this,k];rfl
 intro e;rcases Ra hne with c | c
 .exact Fs f l m c e
 .exact Fs f m l c e.symm
def Ab6 (vs:List au) (tick:Int) (s:dn) (x:Int×Int×List Int):Prop:=(x.2.1=-1/\x.2.2=[])\/(tick<=x.2.1/\Uu vs s x.2.2/\x.2.1+8+s.wall<=1099511627776)
def Ajv {n:List Bool} {zs:List Int} (h:Pl.Nh n (F0 vs j) zs):Uu vs j.sp zs:=by
 have e:∀ i,i<zs.length->∀ d,zs[i]?=some d->Pl.zi zs i=d:=fun i f d r=>by
  simp [Pl.zi,List.getD,r]
 refine ⟨fun x t=>?_,?_,h.len⟩
 .obtain ⟨i,f⟩:=Dg t;have m:=(Ao.1 f).1;have g:=h.ur i m;rw [e i m x f] at g;unfold Pl.Bj Pl.ni Pl.Ng at g;obtain ⟨q,s,rfl⟩:=Ba.1 g;have:=(O0.1 s).2;unfold Pl.Qq at this;simp at this;exact this.2
 .have k:∀ d a,a+d+1<zs.length->Pl.zi zs a<Pl.zi zs (a+d+1):=fun d=>by
   induction d with
   | zero=>intro a c;exact h.az a c
   | succ d ih=>
    intro a c;have h1:=ih a (by omega);have o:=h.az (a+d+1) (by omega);exact Vx h1 o
  refine Np.2 fun a b c l p=>?_;have:=k (b-a-1) a (by omega);rw [show a+(b-a-1)+1=b by omega] at this;rw [e a c _ (A4 c),e b l _ (A4 l)] at this;exact this
def Ajw (h:Gb vs js) (tick:Int) (l:List Bool):((J3 vs tick l js).map Prod.fst).Nodup/\∀ x,x∈J3 vs tick l js->∃ (k:Nat) (j:Jb),js[k]?=some j/\x.1=(k:Int)+1/\Js js j=true/\Ab6 vs tick j.sp x:=by
 unfold J3;rcases Ajs (vs.map au.cap) tick l ((Dy js).map Jd) (En vs js) with e | ⟨b,z,e⟩
 .rw [e];exact ⟨List.nodup_nil,fun x n=>by simp at n⟩
 .rw [e];have g:=Pl.Abd z;have q:=g.len
  have r:∀ i s,b[i]?=some s->∃ a,(En vs js)[i]?=some a/\Pl.Sm (vs.map au.cap) tick l a s:=fun i s c=>by
   have hl:=(Ao.1 c).1;have d:(En vs js)[i]?=some ((En vs js)[i]'(by omega)):=A4 _;refine ⟨_,d,g.slot (_,s) ?_⟩;refine Ai (i:=i) ?_;rw [List.getElem?_zip_eq_some];exact ⟨d,c⟩
  have f:(b.map Pl.Az.key).map Prod.fst=(En vs js).map fun a=>a.id:=by
   apply Ea;intro i;simp only [Bh]
   cases c:b[i]? with
   | none=>
    have:(En vs js)[i]?=none:=by rw [Yn] at c ⊢;omega
    rw [this];rfl
   | some s=>
    obtain ⟨a,d,m⟩:=r i s c;rw [d];simp only [J9];exact Ca some m.1
  rw [f];refine ⟨Aw0 h,fun x n=>?_⟩;obtain ⟨s,c,rfl⟩:=Ba.1 n;obtain ⟨i,y⟩:=Dg c;obtain ⟨a,d,m⟩:=r i s y;obtain ⟨k,j,p,hr,rfl⟩:=Aju h (Ai d);refine ⟨k,j,p,?_,hr,?_⟩
  .show s.id=_;rw [m.1];exact (h k j p).id
  .rcases m.2 with ⟨a1,a2⟩ | ⟨_,t,_,u,_,v⟩
   .exact .inl ⟨a1,a2⟩
   .refine .inr ⟨t,Ajv u,?_⟩;obtain ⟨_,_,o,_⟩:=Pl.Pi v;have o:s.start+(j.sp.wall+8)<=1099511627776:=o;show s.start+8+j.sp.wall<=_;omega
def Aw1 (h:Ig vs n k j) (h1:j.lf.st=1) {tick:Int} (y:0<=tick) {x:Int×Int×List Int} (s:Ab6 vs tick j.sp x):Ig vs n k (F8 tick x.2.1 x.2.2 j):=by
 obtain ⟨id,st,zs⟩:=x;have f:=h.toFm.idle (by rw [h1];rfl);have o:¬ di j.lf.st=true:=by rw [h1];decide
 unfold F8;split
 .rename_i e;have e:st=tick:=e;rcases s with ⟨a,_⟩ | ⟨a,b,c⟩
  .have a:st=-1:=a;omega
  .have b:Uu vs j.sp zs:=b;have c:st+8+j.sp.wall<=1099511627776:=c;obtain ⟨u,v⟩:=Au6 h.iu h1;have t:=Jl h.gg;obtain ⟨_,_,_,_,l,_⟩:=G6 t;have l:=(I9.1 l).1;have l:1<=j.sp.nodes:=l;have r:=b.len;have m:di (A2 j.lf 3).1.st=true:=by rw [v];rfl
   have g:zs≠[]:=fun e=>by rw [e] at r;simp at r;omega
   have i:j.parts++zs.map (fun n=>(n,(0:Int)))≠[]:=(by rw [f];simpa using g);refine ⟨⟨h.id,h.gg,h.one,h.jz,h.sh,u,by show -1<=st;omega,fun q=>?_,fun _=>⟨b,c⟩,⟨fun _=>i,fun _=>m⟩,fun _=>by show 0<=st;omega,fun q=>?_,fun q=>?_,fun _=>?_,fun p d=>?_⟩,fun _=>?_⟩
   .have q:st<0:=q;omega
   .have q:(A2 j.lf 3).1.st=2:=q;omega
   .have q:5<=(A2 j.lf 3).1.st:=q;omega
   .show (j.parts++zs.map fun n=>(n,(0:Int))).map Prod.fst=zs;rw [f];simp [Ik]
   .have d:p∈j.parts++zs.map (fun n=>(n,(0:Int))):=d;rw [f] at d;simp at d;obtain ⟨a,_,rfl⟩:=d;simp
   .show (j.parts++zs.map fun n=>(n,(0:Int))).any (fun p=>decide (p.2=0))=true;rw [f]
    cases zs with
    | nil=>exact absurd rfl g
    | cons z zs=>simp
 .rcases s with ⟨a,b⟩ | ⟨a,b,c⟩
  .have a:st=-1:=a;have b:zs=[]:=b;subst a b;exact Uv h.toFm h.iu (.inl h1) j.parts f
  .have a:tick<=st:=a;have b:Uu vs j.sp zs:=b;have c:st+8+j.sp.wall<=1099511627776:=c;refine ⟨⟨h.id,h.gg,h.one,h.jz,h.sh,h.iu,by show -1<=st;omega,fun q=>?_,fun _=>⟨b,c⟩,h.live,fun q=>absurd q o,fun q=>?_,fun q=>?_,fun q=>absurd f q,h.tf⟩,h.xg⟩
   .have q:st<0:=q;omega
   .have q:j.lf.st=2:=q;omega
   .have q:5<=j.lf.st:=q;omega
def Ajx {tick:Int} (m:0<=tick):∀ (l:List (Int×Int×List Int)) (js:List Jb),(l.map Prod.fst).Nodup->(∀ x,x∈l->∃ (k:Nat) (j:Jb),js[k]?=some j/\x.1=(k:Int)+1/\j.lf.st=1/\Ab6 vs tick j.sp x)->Dd vs js->Dd vs (Ia tick l js)
 | [],_,_,_,h=>h
 | x :: l,js,hn,hx,h=>by
  obtain ⟨k,j,i,e,h1,r⟩:=hx x Dl;have b:=List.nodup_cons.1 hn;have q:(x.1-1).toNat=k:=by omega
  show Dd vs (Ia tick l (Dt js x.1 (F8 tick x.2.1 x.2.2)));unfold Dt;rw [q];refine Ajx m l _ b.2 (fun y n=>?_) (h.mod fun d a=>?_)
  .obtain ⟨o,d,a,p,f,g⟩:=hx y (Ce _ n);refine ⟨o,d,?_,p,f,g⟩;rw [Ev,a];show some (if k=o then _ else d)=some d;rw [Ac];intro c;apply b.1
   have:x.1=y.1:=by omega
   rw [this];exact Ku n
  .rw [i] at a;injection a with a;subst a;exact Aw1 (h k j i) h1 m r
def Aw2 (h:Ig vs n k j):Ig vs n k (Ff j):=by
 unfold Ff;split
 .rename_i e;exact Uv h.toFm h.iu (.inl e) j.parts (h.toFm.idle (by rw [e];rfl))
 .exact h
def Aw3 (h:Dd vs js) {tick:Int} (i:0<=tick) (f:List Bool):Dd vs (Mn vs tick f js):=by
 obtain ⟨a,b⟩:=Ajw h.b tick f;unfold Mn;refine Ajx i _ _ a (fun x l=>?_) (fun k j c=>?_)
 .obtain ⟨k,j,c,e,d,g⟩:=b x l;have h1:j.lf.st=1:=by unfold Js at d;simp at d;exact d.1
  refine ⟨k,Ff j,by rw [Bh,c];rfl,e,?_,?_⟩
  .unfold Ff;rw [Ad h1];exact h1
  .unfold Ff;rw [Ad h1];exact g
 .rw [At];rw [Bh] at c;obtain ⟨y,m,rfl⟩:=Nq.1 c;exact Aw2 (h k y m)
end
section
open Go.RowKit Go.Maps Go.Lib
def Ajy (ax:List V4) (now:Int) (bs:List Bool) (hs:List Pl.Ay) (asks:List Pl.Ask):Prop:=(∃ r,r≠0/\Pl.Jc ax bs.length now hs r [])\/∃ slots,Pl.Lj ax now bs hs asks slots
def Aw4 (ax:List V4) (now:Int) (bs:List Bool) (hs:List Pl.Ay) (asks:List Pl.Ask) (w:WD) (e:Ending) (w':WD):Prop:=
 ∃ so n sc r slots,e=.returned (.tuple #[.slice so n sc,.int .i64 r])/\n=slots.length/\slots.map Pl.Az.key=Oi ax now bs (hs.map Pl.Ay.er) (asks.map Pl.Ask.er)/\Pl.Ub w' so n slots/\(∀ s,s∈slots->∀ b off,s.go=some ⟨b,off,none⟩->w.heap.size<=b)/\BW w.heap.size w w'/\(∀ b off,so=some ⟨b,off,none⟩->w.heap.size<=b)/\Ajy ax now bs (hs.map Pl.Ay.er) (asks.map Pl.Ask.er)
def Aw5 {k:List V4} {now:Int} {l:List Bool} {d:List Pl.Ay} {a:List Pl.Ask} {w w':WD} {e:Ending} (h:Pl.Ahg k now l d a w e w'):Aw4 k now l d a w e w':=by
 obtain ⟨m,⟨r,n,rfl,c⟩ | ⟨so,sc,b,rfl,f,g,_,j,o⟩⟩:=h
 .refine ⟨none,0,0,r,[],rfl,rfl,(Aty (a.map Pl.Ask.er) c n).symm,⟨rfl,by omega,fun i x p=>by simp at p⟩,fun s d=>by simp at d,m,fun _ _ e=>(by cases e),.inl ⟨r,n,Pl.Abe c⟩⟩
 .have c:=(Pl.Abd f).len;exact ⟨so,a.length,sc,0,b,rfl,c.symm,(Ah3 f).symm,g,o,m,j,.inr ⟨_,Pl.Ah2 f⟩⟩
structure qh (w:WD) (av:VL) (al:List Pl.Ask) (wr:WD):Prop where
 low:BW w.heap.size w wr
 mr:Be Pl.Ask.cells 10 266 wr w.heap.size av al
 tf:∀ a,a∈al->Al wr w.heap.size (.slice a.po a.pn a.pc) a.gl
 re:∀ a,a∈al->Pl.Ar w a.go a.gn a.dq/\a.gn<=a.gc
variable {w wr w1 w2:WD} {av:VL} {al:List Pl.Ask}
def qh.drop (h:qh w av al wr) (a:BW wr.heap.size wr w1):qh w av al w1:=
 ⟨h.low.trans (a.mono h.low.size),h.mr.low a,fun x b=>(h.tf x b).mod (Mod.af (S:=fun _=>False) a) (fun _ _ c=>c),h.re⟩
def qh.add (h:qh w av al wr) (j:BW wr.heap.size wr w1) (i:w1.grownBy w2 av.ownBlock) {b:VL} {x:Pl.Ask} (n:Be Pl.Ask.cells 10 266 w2 w.heap.size b (al++[x])) (o:Al w1 w.heap.size (.slice x.po x.pn x.pc) x.gl) (g:Pl.Ar w x.go x.gn x.dq/\x.gn<=x.gc):qh w b (al++[x]) w2:=by
 have h1:=h.drop j;have m:=Mod.grown (S:=fun k=>av.ownBlock=some k) i (fun k d=>d);refine ⟨h1.low.grown i h1.low.size (fun k d=>(h1.mr.lt k d).1),n,fun y a=>?_,fun y a=>?_⟩
 .have f:Al w1 w.heap.size (.slice y.po y.pn y.pc) y.gl:=by
   rcases Dh.1 a with a | a
   .exact h1.tf y a
   .rw [Jq.1 a];exact o
  refine f.mod m (fun k d e=>?_);obtain ⟨c,l⟩:=h1.mr.ar e;exact Bo f.row l (by decide) d
 .rcases Dh.1 a with a | a
  .exact h.re y a
  .rw [Jq.1 a];exact g
end
section
open Go.RowKit Go.Maps Go.Lib
def Axh:(prog.info? 275).map (fun i=>(i.zero,i.size,i.bytes))=some (some (.agg #[.int .i64 0,.string ByteArray.empty,.int .i64 0,.int .i64 0,.int .i64 0,.int .i64 0,.int .i64 0]),7,64):=by kernel_rfl
def Axi:(prog.info? 266).map (fun i=>(i.zero,i.size,i.bytes))=some (some (.agg #[.int .i64 0,.slice none 0 0,.int .i64 0,.int .i64 0,.int .i64 0,.int .i64 0,.int .i64 0,.int .i64 0,.int .i64 0,.slice none 0 0]),10,112):=by kernel_rfl
def Lo (js:List Jb) (k:Nat):List df:=((js.take k).filter fun j=>Js js j).map fun j=>⟨j.id,j.sp.user,j.sp.prio,Kj j⟩
def Axj {js:List Jb} {k:Nat} {j:Jb} (h:js[k]?=some j):Lo js (k+1)=Lo js k++if Js js j=true then [⟨j.id,j.sp.user,j.sp.prio,Kj j⟩] else []:=by
 unfold Lo;rw [I7 h,Nt,C9];congr 1
 by_cases q:Js js j=true<;>simp [q]
def Ab7 {js:List Jb} {k:Nat} (h:js.length<=k):Lo js k=Br js:=by
 unfold Lo Br;rw [C8 h]
def Ab8 (js:List Jb) (k:Nat):(Lo js k).length<=k:=by
 unfold Lo;rw [At];exact A5 (Nr _ _) (Pz _ _)
structure qy (w:WD) (ws:List df) (wv:VL) (wr:WD):Prop where
 low:BW w.heap.size w wr
 row:Be Qv 7 275 wr w.heap.size wv ws
structure yk (w:WD) (ws:List df) (v:VL) (wx:WD):Prop where
 ex:∃ so n c,v=.slice so n c
 at_:qy w ws v wx
variable {w wr w1 w2:WD} {ws:List df} {wv:VL}
def qy.drop (h:qy w ws wv wr) (a:BW wr.heap.size wr w1):qy w ws wv w1:=⟨h.low.trans (a.mono h.low.size),h.row.low a⟩
def qy.add (h:qy w ws wv wr) (b:BW wr.heap.size wr w1) (c:w1.grownBy w2 wv.ownBlock) {a:VL} {y:df} (e:Be Qv 7 275 w2 w.heap.size a (ws++[y])):qy w (ws++[y]) a w2:=by
 have h1:=h.drop b;exact ⟨h1.low.grown c h1.low.size (fun k d=>(h1.row.lt k d).1),e⟩
def Ab9 (vs:List au) (w:WD) (fi:List Jb) (e:Ending) (w':WD):Prop:=
 ∃ ao n ac al,e=.returned (.slice ao n ac)/\n=al.length/\Pl.Xl w' ao n al/\al.map Pl.Ask.er=En vs fi/\BW w.heap.size w w'
def Axk {vs:List au} {js:List Jb} (h:Gb vs js):Uj (Br js):=fun i j x y f g e=>by
 have a:((Br js).map df.id).Nodup:=by unfold Br;rw [Dn];exact (Ajt h).sublist ((Yy).map Jb.id)
 have b:((Br js).map df.id)[i]?=some x.id:=by rw [Bh,f];rfl
 have d:((Br js).map df.id)[j]?=some y.id:=by rw [Bh,g];rfl
 rcases Nat.lt_trichotomy i j with c | c | c
 .exact absurd e (Fs a b d c)
 .exact c
 .exact absurd e.symm (Fs a d b c)
def Axl {vs:List au} (k:Iq vs):Ol (D4 vs ByteArray.empty):=fun d m=>by
 have n:=k.len;have h:=Aj3 (vs:=vs) ByteArray.empty (fun v l=>Zy (k.all v l).ok.cap);obtain ⟨a,b,c,e,f,g,i,j⟩:=h
 rcases (show d=0\/d=1\/d=2\/d=3 by omega) with rfl | rfl | rfl | rfl<;>simp [V4.get]<;>omega
def Aj8 {w:WD} {T:Tv} (h:An w T):(∀ x,x∈Br T.pl.ab->x.user.size<=maxLen)/\∀ x,x∈Du T.pl.ab->x.user.size<=maxLen:=by
 have b:∀ j,j∈T.pl.ab->j.sp.user.size<=maxLen:=fun j a=>by
  obtain ⟨y,d,rfl⟩:=Ba.1 a;exact (h.ok y d).user
 refine ⟨fun x c=>?_,fun x c=>?_⟩
 .obtain ⟨j,a,rfl⟩:=Ba.1 c;exact b j (O0.1 a).1
 .obtain ⟨j,a,rfl⟩:=Ba.1 c;exact b j (O0.1 a).1
def qh.post {vs:List au} {l:List Jb} {d:Option Addr} {n c:Nat} {b:List Pl.Ask} {j:WD} (h:qh w (.slice d n c) b wr) (q:b.map Pl.Ask.er=En vs l) (u:b.length<=1000) (h0:BW j.heap.size j w):Ab9 vs j l (.returned (.slice d n c)) wr:=by
 obtain ⟨_,_,_,f,k,_⟩:=h.mr.len;injection f with a1 a2 a3;have i:n=b.length:=by omega
 subst i;refine ⟨d,_,c,b,rfl,rfl,Be.rows (cells:=Pl.Ask.cells) (sz:=10) (ok:=fun w a=>Pl.Ask.ok w a) (fun _=>rfl) h.mr (by omega) (fun x m=>?_),q,h0.trans (h.low.mono h0.size)⟩;obtain ⟨s,v,t,e,g,r,_⟩:=Qe (h.tf x m);injection e with f k e3;subst f k e3;obtain ⟨o,p⟩:=h.re x m;exact ⟨r.pl,g,o.below h.low Ln,p⟩
end
section
open Go.RowKit Go.Maps Go.Lib
def Axm {w:WD} {T:Tv} (h:An w T) (hA:Gb T.vs T.pl.ab) (ci:T.js.length<=20) (uo:Option Addr) (un uc:Nat) (hu:Pq w uo un (Du T.pl.ab)) :
  CS prog 137 #[.pointer (some ⟨T.tb,0,none⟩),.slice uo un uc] w (Ab9 T.vs w T.pl.ab):=by
 obtain ⟨iW,b0,cb,bk,bl⟩:=Cb Axh;obtain ⟨iA,bZ,ca,bg,bi⟩:=Cb Axi;obtain ⟨so,cap,a6,b2,ck,ai⟩:=h.mm;have c4:=Bk h.head 4 T.jv rfl;have c5:=Bk h.head 5 (.pointer (some ⟨T.fb,0,none⟩)) rfl;have aY:=Ab h.head;rw [a6] at c4;obtain ⟨m,hm⟩:=Ex (T.js.length);obtain ⟨tb,ht⟩:=Ex (T.tb);rw [<- hm] at c4 b2 ck ci;rw [<- ht] at c4 c5 aY;rw [<- ht];have aX:T.pl.ab.length=m:=by rw [hm];simp [Tv.pl]
 have bS:qy w (Lo T.pl.ab 0) (.slice none 0 0) w:=⟨Below.refl _ _,Be.nil _ _ _ _ _⟩;replace ⟨h,hA,a6,b2,ai,ht,hm,aX⟩:=H8 h hA a6 b2 ai ht hm aX;replace ⟨bS,b0,cb,bk,bl,bZ,ca,bg⟩:=H8 bS b0 cb bk bl bZ ca bg;replace ⟨bi,hu,aY⟩:=H3 bi hu aY;go_enter func137,ntmps137;go_wp2_with fail;go_loopw [5,7,18] (fun wv _ iv wr=>∃ (k:Nat),iv=.int .i64 k/\k<=m/\Hid (qy w (Lo T.pl.ab k) wv wr)) (fun _ _ iv _=>m-(intOf iv).toNat)
 case atStart=>exact ⟨0,rfl,Aq _,bS⟩
 case round=>
  obtain ⟨k,rfl,cD,hW⟩:=hrel;obtain ⟨cs,wn,cr,rfl,aF,_⟩:=hW.row.len;by_cases cG:k<m
  .have cy:(k:Int)<m:=(by omega);have cC:(0:Int)<=(k:Int):=(by omega);obtain ⟨j,hj⟩:=Ge T.js k (by have:=hm.out;omega);obtain ⟨g,rfl,aW⟩:=ai k j hj;have aM:=(h.ab.lt g (by rw [a6.out];rfl)).2;have cj:=(Ag hW.low aM).trans aW;have ao:=Ai hj;have bH:T.pl.ab[k]?=some j.2.pl:=by simp [Tv.pl,hj]
   have ba:∀ W,BW w.heap.size w W->CS prog 189 #[.pointer (some ⟨tb,0,none⟩),.pointer (some ⟨j.1,0,none⟩)] W fun e w'=>e=.returned (.bool (Js T.pl.ab j.2.pl))/\BW W.heap.size W w':=fun W hW=>by
    rw [ht.out];refine Aw6 (h.low hW) hj fun id cA=>?_;have:=(hA k _ bH).jz id cA;have:=aX.out;have:=hm.out;omega
   have aB:=Axj bH;obtain ⟨s,x⟩:=j;have an:∀ W,BW w.heap.size w W->Bb W s x:=fun W hW=>Ae hW (h.box _ ao) (Ab (h.box _ ao));have b5:∀ W,BW w.heap.size w W->N6 W T.aw x:=fun W hW=>(h.low hW).ok _ ao;obtain ⟨q,hq⟩:=Ex (Js T.pl.ab x.pl);simp only at ba aB;rw [<- hq] at aB;simp only [<- hq] at ba;have aS:=ba _ hW.low;replace ⟨hj,aW,aM,ao,bH,ba,aS,aB⟩:=H8 hj aW aM ao bH ba aS aB;replace ⟨an,b5,hq,aF⟩:=H4 an b5 hq aF;go_upto_block 1 with fail;go_cut [5,7] (fun v _ wx=>yk w (Lo T.pl.ab (k+1)) v wx)
   case first=>
    cases q with
    | false=>
     have am:=aB.out;simp at am;replace am:=Hh am;go_wp2_with (go_at_call 189;(with_reducible refine (aS.out).mono ?_);rintro e w1 ⟨rfl,aJ⟩;replace aJ:=Hh aJ);go_meet
     case rel=>exact ⟨⟨_,_,_,rfl⟩,by rw [am.out];exact hW.drop aJ.out⟩
    | true=>
     go_upto_region 6 with (go_at_call 189;(with_reducible refine (aS.out).mono ?_);rintro e w1 ⟨rfl,aJ⟩;replace aJ:=Hh aJ);have aA:=hW.drop aJ.out
     have kn:∀ W,BW w1.heap.size w1 W->CS prog 184 #[.pointer (some ⟨s,0,none⟩)] W fun e w'=>e=.returned (Kj x.pl).val/\BW w1.heap.size w1 w':=fun W aG=>by
      have hl:=aA.low.trans (aG.mono aA.low.size);refine (Ain (an _ hl) (b5 _ hl)).mono ?_;rintro e w' ⟨h1,h2⟩;exact ⟨h1,aG.trans (h2.mono aG.size)⟩
     obtain ⟨⟨n0,n1,n2,n3⟩,aE⟩:∃ v,v=Kj x.pl:=⟨_,rfl⟩;rw [<- aE] at kn;obtain ⟨us,aV⟩:=Ex (x.pl.sp.user);obtain ⟨aO,aQ⟩:=Ex (x.pl.id);obtain ⟨pr,bI⟩:=Ex (x.pl.sp.prio)
     have a8:∀ u∈([.int .i64 aO,.string us,.int .i64 pr,.int .i64 n0,.int .i64 n1,.int .i64 n2,.int .i64 n3]:List VL),u.oneCell'=true:=by intro u hu;simp at hu;rcases hu with rfl | rfl | rfl | rfl | rfl | rfl | rfl<;>rfl
     have bf:wn<=20:=(by have:=aF.out;have:=Ab8 T.pl.ab k;omega);have aI:=G4 (n:=wn) (by omega);have aK:(wn+1)*64<=140737488355328:=(by omega);have am:Lo T.pl.ab (k+1)=Lo T.pl.ab k++[⟨aO,us,pr,⟨n0,n1,n2,n3⟩⟩]:=(by have:=aB.out;simp at this;rw [this,aV,aE,aQ,bI]);replace ⟨aA,kn,aE,aV,aQ,bI,a8,bf⟩:=H8 aA kn aE aV aQ bI a8 bf;replace ⟨aI,aK,am⟩:=H3 aI aK am;clear cj
     have ad:∀ p:WD,BW w.heap.size w p->p.cell? ⟨s,0,none⟩=some (.int .i64 aO)/\p.cell? ⟨s,1,none⟩=some (.string us)/\p.cell? ⟨s,9,none⟩=some (.int .i64 pr):=fun p bw=>by
      have hx:=an _ bw;rw [aQ.out,aV.out,bI.out];exact ⟨Aa hx 0,Aa hx 1,Aa hx 9⟩
     have l:=aA.low.drew;have f:BW w1.heap.size w1 w1.drew:=(Below.refl _ _).drew;replace ⟨ad,l,f⟩:=H3 ad l f;go_region_held3 (fun p=>p.cell? ⟨s,0,none⟩=some (.int .i64 aO)/\p.cell? ⟨s,1,none⟩=some (.string us)/\p.cell? ⟨s,9,none⟩=some (.int .i64 pr))
      (first
        | with_reducible exact ad.out _ l.out
        | exact ad.out _ (l.alloc l.size _)
        | exact ad.out _ (l.alloc l.size _).drew
        | exact ad.out _ l.drew)
      (first
        | (go_at_call 184
           (with_reducible refine (kn.out _ f.out).mono ?_)
           rintro e w2 ⟨rfl,bW⟩;replace l:=Hh (aA.low.trans (bW.mono aA.low.size));replace f:=Hh bW
           clear bW)
        | (refine Tl (by rfl) _ _ _ (by rfl) w.heap.size 275 iW _ 7 64 underlying273 b0.out cb.out bk.out bl.out rfl (I3 _) (.slice cs wn cr) wn _ (by rfl) (((aA.drop (f.alloc f.size _)).row).at_ aF.symm) ⟨w2.heap.size,0,none⟩ 1 [.int .i64 aO,.string us,.int .i64 pr,.int .i64 n0,.int .i64 n1,.int .i64 n2,.int .i64 n3] (by rfl) (by rfl) (Abn w2 #[.int .i64 aO,.string us,.int .i64 pr,.int .i64 n0,.int .i64 n1,.int .i64 n2,.int .i64 n3] 275) a8.out aI.out aK.out (A5 aA.low.size (f.alloc f.size _).size) ?_;intro g9 cc w9 ap ac;have bx:=aA.add (y:=⟨aO,us,pr,⟨n0,n1,n2,n3⟩⟩) (f.alloc f.size _) ac (Be.snoc (cells:=Qv) ap aF.symm);replace l:=Hh bx.low;replace bx:=Hh bx
           clear ap ac))
     all_goals
      go_wp2_with fail;go_meet
      case rel=>exact ⟨⟨_,_,_,rfl⟩,by rw [am.out];exact bx.out⟩
   case rest=>
   obtain ⟨⟨cS,vn,vc,rfl⟩,z⟩:=hcut;replace z:=Hh z;clear cj;go_wp2_with fail;go_roundw
   case rel=>exact ⟨k+1,by go_num,by omega,z⟩
   case measure=>simp [intOf];omega
  .have cy:¬ (k:Int)<m:=(by omega);have z:=hW.out;rw [Ab7 (by have:=aX.out;omega)] at z;have aB:=Be.xk z.row (by have:=Ab8 T.pl.ab T.pl.ab.length;rw [Ab7 Ln] at this;have:=aX.out;omega);have b9:wn=(Br T.pl.ab).length:=(by have:=aF;rw [Ab7 (by have:=aX.out;omega)] at this;exact this);have cm:wn<=20:=(by have:=aF;have:=Ab8 T.pl.ab k;omega);have bn:∀ W,BW w.heap.size w W->CS prog 191 #[.pointer (some ⟨T.fb,0,none⟩),.string ByteArray.empty] W (Zw T.vs ByteArray.empty W):=fun W aG=>Axg (h.low aG).dh.wh h.dh.ok _;have bL:CS prog 191 #[.pointer (some ⟨T.fb,0,none⟩),.string { data:=#[] }] wr fun e w'=>e=.returned (D4 T.vs ByteArray.empty).val/\BW wr.heap.size wr w':=bn _ z.low
   have bo:∀ W,BW wr.heap.size wr W->CS prog 190 #[(D4 T.vs ByteArray.empty).val,.slice uo un uc,.slice cs wn cr] W fun e w'=>∃ v,e=.returned v/\Al w' W.heap.size v (Cx (Lb (D4 T.vs ByteArray.empty) (Du T.pl.ab) (Br T.pl.ab)))/\BW W.heap.size W w':=fun W aG=>
    Axc _ (Axl h.dh.ok) uo un uc _ _ (hu.low (z.low.trans (aG.mono z.low.size))) (aB.low aG) cm (Aj8 h.out).1 (Aj8 h.out).2 (Axk hA.out)
   obtain ⟨Lt,a1⟩:=Ex (Lb (D4 T.vs ByteArray.empty) (Du T.pl.ab) (Br T.pl.ab));have b3:∀ i,i∈Lt->i<(Br T.pl.ab).length:=fun i hi=>Yc _ _ _ (by rw [<- a1];exact hi)
   have a3:En T.vs T.pl.ab=Lt.map fun i=>F0 T.vs (Fx T.pl.ab (A6 (Br T.pl.ab) i).id):=by rw [a1];rfl
   have a0:Lt.length<=20:=(by have:=(Yb (D4 T.vs ByteArray.empty) (Du T.pl.ab) (Br T.pl.ab)).length_eq;rw [<- a1,Y6] at this;omega);rw [<- a1] at bo;obtain ⟨tv,b6⟩:=Ex (D4 T.vs ByteArray.empty);rw [<- b6] at bL bo;have cv:=(Ag z.low aY.out).trans c5;clear a1;replace ⟨hW,z,aB,b9,bn,bL,bo,b6⟩:=H8 hW z aB b9 bn bL bo b6;replace ⟨aF,b3,a3,a0⟩:=H4 aF b3 a3 a0;go_wp2_with (first | (go_at_call 191;(with_reducible refine (bL.out).mono ?_);rintro e w3 ⟨rfl,a4⟩;replace a4:=Hh a4) | (go_at_call 190;(with_reducible refine (bo.out _ a4.out).mono ?_);rintro e w4 ⟨v4,rfl,b4,bA⟩;obtain ⟨cR,tn,tc,rfl,cl,bJ,_⟩:=Qe b4;replace ⟨b4,bA,cl,bJ⟩:=H4 b4 bA cl bJ));clear cv;have aD:=z.low.trans (a4.mono z.low.size);have r:=aD.trans (bA.mono aD.size);have bT:=(z.drop a4.out).drop bA.out;have aU:tn=Lt.length:=(by have:=bJ.len;simp [Cx] at this;omega);have bR:qh w4 (.slice none 0 0) [] w4:=⟨Below.refl _ _,Be.nil _ _ _ _ _,fun x hx=>by simp at hx,fun x hx=>by simp at hx⟩;have bQ:([]:List Pl.Ask).map Pl.Ask.er=(Lt.take 0).map fun i=>F0 T.vs (Fx T.pl.ab (A6 (Br T.pl.ab) i).id):=rfl;have cN:tn<=20:=(by have:=a0.out;omega);replace ⟨aD,r,bT,aU,bR,bQ⟩:=H6 aD r bT aU bR bQ;go_loopw [8,10,11,55] (fun av _ _ iv wr=>∃ (i:Nat) (al:List Pl.Ask),iv=.int .i64 i/\i<=tn/\Hid (qh w4 av al wr)/\Hid (al.map Pl.Ask.er=(Lt.take i).map fun i=>F0 T.vs (Fx T.pl.ab (A6 (Br T.pl.ab) i).id))) (fun _ _ _ iv _=>tn-(intOf iv).toNat)
   case atStart=>exact ⟨0,[],rfl,Aq _,bR,bQ⟩
   case round=>
    obtain ⟨i,al,rfl,cJ,hK,hE⟩:=hrel;obtain ⟨cp,aZ,kc,rfl,aN,_⟩:=hK.mr.len;by_cases cH:i<tn
    .have cf:(i:Int)<tn:=(by omega);have cI:(0:Int)<=(i:Int):=(by omega);obtain ⟨t,bc⟩:=Ge Lt i (by have:=aU.out;omega);have be:=b3 t (Ai bc);obtain ⟨cQ,cE,rfl,bd,cd⟩:=bJ.cell i (t:Int) (by simp [Cx,bc]);have ct:=(Ag hK.low bd).trans cd;obtain ⟨kk,j0,a5,bP,b7⟩:=Ye hA.out be;have b1:=Yd hA.out a5;have bC:=hA kk j0 a5;obtain ⟨jx,a7,cB⟩:∃ jx,T.js[kk]?=some jx/\jx.2.pl=j0:=(by have:(T.js.map fun j=>j.2.pl)[kk]?=some j0:=a5;rw [Bh] at this;obtain ⟨y,hy,e⟩:=Nq.1 this;exact ⟨y,hy,e⟩);subst cB;obtain ⟨s,x⟩:=jx;have ao:=Ai a7;have ch:kk<m:=(by have:=(Ao.1 a7).1;have:=hm.out;omega);obtain ⟨g,rfl,aW⟩:=ai kk (s,x) a7;have aM:=(h.ab.lt g (by rw [a6.out];rfl)).2;have o:=r.trans (hK.low.mono r.size);have cj:wr.cell? ⟨g,kk,none⟩=some (.pointer (some ⟨s,0,none⟩)):=(Ag o aM).trans aW;have d4:=(Ag o aY.out).trans c4
     have co:(Br T.pl.ab)[t]?=some ⟨x.pl.id,x.pl.sp.user,x.pl.sp.prio,Kj x.pl⟩:=by
      rw [A4 be]
      have:A6 (Br T.pl.ab) t=(Br T.pl.ab)[t]:=by unfold A6;rw [A4 be];rfl
      rw [<- this,b7]
     obtain ⟨wg,cF,rfl,b8,rfl,ce⟩:=Be.cell (sz:=7) (cells:=Qv) (fun _=>rfl) bT.row t _ co;have aH:x.pl.id=(kk:Int)+1:=bC.id;have cw:wr.cell? ⟨wg,t*7,none⟩=some (.int .i64 ((kk:Int)+1)):=(by have:=(Ag hK.low b8).trans (ce 0 (by omega));rw [Da,Io] at this;rw [this,<- aH];rfl);have cL:(0:Int)<=(t:Int):=(by omega);have cM:(t:Int)<(wn:Int):=(by have:=b9.out;omega);have cC:(0:Int)<=(kk:Int):=(by omega);have cD:(kk:Int)<(m:Int):=(by omega);have cO:IntKind.i64.wrap ((kk:Int)+1-1)=(kk:Int):=(by rw [show (kk:Int)+1-1=kk by omega];exact Id (by omega) (by omega));have an:∀ W,BW w.heap.size w W->Bb W s x:=fun W hW=>Ae hW (h.box _ ao) (Ab (h.box _ ao));have aR:=(h.low r.out).ok _ ao;have bb:(Lt.take (i+1)).map (fun i=>F0 T.vs (Fx T.pl.ab (A6 (Br T.pl.ab) i).id))=(Lt.take i).map (fun i=>F0 T.vs (Fx T.pl.ab (A6 (Br T.pl.ab) i).id))++[F0 T.vs x.pl]:=(by rw [I7 bc,C9];simp only [Ka,Tf];rw [b7];simp only;rw [b1]);obtain ⟨_,_,_,_,_,m6,_⟩:=G6 (Jl bC.gg);obtain ⟨bM,bN⟩:=I9.1 m6;obtain ⟨wl,aC⟩:=Ex (x.pl.sp.wall);replace bM:1<=wl:=(by rw [aC];exact bM);replace bN:wl<=1000:=(by rw [aC];exact bN);have cP:IntKind.i64.wrap (wl+8)=wl+8:=Id (by omega) (by omega)
     have bK:∀ W,BW wr.heap.size wr W->CS prog 154 #[.pointer (some ⟨T.fb,0,none⟩),.string x.pl.sp.part] W fun e w'=>∃ v,e=.returned v/\Al w' w4.heap.size v (Dc T.vs x.pl.sp.part)/\BW wr.heap.size wr w':=fun W hW=>by
      have hl:=o.trans (hW.mono o.size);refine (Aeb (h.low hl).dh.wh h.dh.ok x.pl.sp.part).mono ?_;rintro e w' ⟨v,h1,h2,h3⟩;exact ⟨v,h1,h2.le (A5 hK.low.size hW.size),hW.trans (h3.mono hW.size)⟩
     obtain ⟨pt,a9⟩:=Ex (x.pl.sp.part);obtain ⟨nd,aE⟩:=Ex (x.pl.sp.nodes);obtain ⟨⟨da,db,dc,dd⟩,aL⟩:∃ v,v=x.pl.sp.cq:=⟨_,rfl⟩;obtain ⟨aP,aT⟩:=Ex (x.pl.start);obtain ⟨go,bF⟩:=Ex (x.go);obtain ⟨gn,bE⟩:=Ex (x.gn);obtain ⟨gc,bD⟩:=Ex (x.gc);rw [<- a9] at bK
     have ad:∀ p:WD,BW w.heap.size w p->p.cell? ⟨s,0,none⟩=some (.int .i64 ((kk:Int)+1))/\p.cell? ⟨tb,5,none⟩=some (.pointer (some ⟨T.fb,0,none⟩))/\p.cell? ⟨s,2,none⟩=some (.string pt)/\p.cell? ⟨s,3,none⟩=some (.int .i64 nd)/\p.cell? ⟨s,4,none⟩=some (.int .i64 da)/\p.cell? ⟨s,5,none⟩=some (.int .i64 db)/\p.cell? ⟨s,6,none⟩=some (.int .i64 dc)/\p.cell? ⟨s,7,none⟩=some (.int .i64 dd)/\p.cell? ⟨s,8,none⟩=some (.int .i64 wl)/\p.cell? ⟨s,19,none⟩=some (.int .i64 aP)/\p.cell? ⟨s,20,none⟩=some (.slice go gn gc):=fun p bw=>by
      have hx:=an _ bw;have e4:da=x.pl.sp.cq.a:=(by rw [<- aL]);have e5:db=x.pl.sp.cq.b:=(by rw [<- aL]);have e6:dc=x.pl.sp.cq.c:=(by rw [<- aL]);have e7:dd=x.pl.sp.cq.d:=(by rw [<- aL]);rw [<- aH,a9,aE,e4,e5,e6,e7,aC,aT,bF,bE,bD];exact ⟨Aa hx 0,(Ag bw aY.out).trans c5,Aa hx 2,Aa hx 3,Aa hx 4,Aa hx 5,Aa hx 6,Aa hx 7,Aa hx 8,Aa hx 19,Aa hx 20⟩
     have bY:Pl.Ar w4 go gn x.pl.ak/\gn<=gc:=(by rw [bF,bE,bD];exact ⟨aR.ak.row.pl,aR.mw⟩);have bf:aZ<=20:=(by have h1:=aN;have h2:=Ca List.length hE.out;simp only [At] at h2;have h3:=Pz i Lt;omega);have aI:=G4 (n:=aZ) (by omega);have aK:(aZ+1)*112<=140737488355328:=(by omega);have a2:Pl.Ask.er ⟨(kk:Int)+1,none,0,0,Dc T.vs pt,nd,⟨da,db,dc,dd⟩,wl+8,aP,none,0,0,x.pl.ak⟩=F0 T.vs x.pl:=(by rw [a9,aE,aL,aC,aT,<- aH];rfl);clear an aW cd ce b7 co;replace ⟨bc,be,bd,a5,bP,b1,bC,a7⟩:=H8 bc be bd a5 bP b1 bC a7;replace ⟨ao,ch,aM,o,b8,aH,aR,bb⟩:=H8 ao ch aM o b8 aH aR bb;replace ⟨m6,bM,bN,aC,bK,a9,aE,aL⟩:=H8 m6 bM bN aC bK a9 aE aL;replace ⟨aT,bF,bE,bD,ad,bY,bf,aI⟩:=H8 aT bF bE bD ad bY bf aI;replace ⟨aK,a2,aN⟩:=H3 aK a2 aN;go_upto_region 12 with fail;clear ct;go_quiet (fail);rename_i nq;obtain ⟨W5,bU⟩:=Ex (wr.drewN nq);have bB:BW wr.heap.size wr W5:=(by rw [bU];exact A9 _ wr nq);rw [<- bU];clear bU cj d4 cw;have l:=(o.trans (bB.mono o.size)).drew;have f:=bB.drew;replace ⟨bB,l,f⟩:=H3 bB l f;go_upto_region 13 with fail;go_region_held3 (fun p=>p.cell? ⟨s,0,none⟩=some (.int .i64 ((kk:Int)+1))/\p.cell? ⟨tb,5,none⟩=some (.pointer (some ⟨T.fb,0,none⟩))/\p.cell? ⟨s,2,none⟩=some (.string pt)/\p.cell? ⟨s,3,none⟩=some (.int .i64 nd)/\p.cell? ⟨s,4,none⟩=some (.int .i64 da)/\p.cell? ⟨s,5,none⟩=some (.int .i64 db)/\p.cell? ⟨s,6,none⟩=some (.int .i64 dc)/\p.cell? ⟨s,7,none⟩=some (.int .i64 dd)/\p.cell? ⟨s,8,none⟩=some (.int .i64 wl)/\p.cell? ⟨s,19,none⟩=some (.int .i64 aP)/\p.cell? ⟨s,20,none⟩=some (.slice go gn gc))
      (first
        | with_reducible exact ad.out _ l.out
        | exact ad.out _ (l.alloc l.size _)
        | exact ad.out _ (l.alloc l.size _).drew
        | exact ad.out _ l.drew)
      (first
        | (go_at_call 154
           (with_reducible refine (bK.out _ f.out).mono ?_)
           rintro e w6 ⟨v6,rfl,bG,bX⟩;obtain ⟨po,pn,pc,rfl,bO⟩:=bG.len;replace l:=Hh (o.trans (bX.mono o.size));replace f:=Hh bX;replace ⟨bG,bO⟩:=H2 bG bO
           clear bX)
        | (refine Tl (by rfl) _ _ _ (by rfl) w4.heap.size 266 iA _ 10 112 underlying220 bZ.out ca.out bg.out bi.out rfl (I3 _) (.slice cp aZ kc) aZ _ (by rfl) (((hK.drop (f.alloc f.size _)).mr).at_ aN.symm) ⟨w6.heap.size,0,none⟩ 1 [.int .i64 ((kk:Int)+1),.slice po pn pc,.int .i64 nd,.int .i64 da,.int .i64 db,.int .i64 dc,.int .i64 dd,.int .i64 (wl+8),.int .i64 aP,.slice go gn gc] (by rfl) (by rfl) (Abn w6 #[.int .i64 ((kk:Int)+1),.slice po pn pc,.int .i64 nd,.int .i64 da,.int .i64 db,.int .i64 dc,.int .i64 dd,.int .i64 (wl+8),.int .i64 aP,.slice go gn gc] 266) (by intro u hu;simp at hu;rcases hu with rfl | rfl | rfl | rfl | rfl | rfl | rfl | rfl | rfl | rfl<;>rfl) aI.out aK.out (A5 hK.low.size (f.alloc f.size _).size) ?_;intro g9 cc w9 ap ac;have bv:=hK.add (x:=⟨(kk:Int)+1,po,pn,pc,Dc T.vs pt,nd,⟨da,db,dc,dd⟩,wl+8,aP,go,gn,gc,x.pl.ak⟩) (f.alloc f.size _) ac (Be.snoc (cells:=Pl.Ask.cells) ap aN.symm) (bG.mod (Mod.af (S:=fun _=>False) Bn) (fun _ _ c=>c)) bY.out;replace l:=Hh (r.trans (bv.low.mono r.size));replace bv:=Hh bv
           clear ap ac))
     have cx:Hid ((al++[(⟨(kk:Int)+1,po,pn,pc,Dc T.vs pt,nd,⟨da,db,dc,dd⟩,wl+8,aP,go,gn,gc,x.pl.ak⟩:Pl.Ask)]).map Pl.Ask.er=(Lt.take (i+1)).map fun i=>F0 T.vs (Fx T.pl.ab (A6 (Br T.pl.ab) i).id)):=Hh (by
      rw [bb.out,C9,hE.out,<- a2.out]
      rfl)
     go_wp2_with fail;go_roundw
     case rel=>exact ⟨i+1,_,by go_num,by omega,bv,cx⟩
     case measure=>simp [intOf];omega
    .have cf:¬ (i:Int)<tn:=(by omega);have cK:i=tn:=(by omega);have bs:=hE.out;rw [C8 (by have:=aU.out;omega),<- a3.out] at bs;have bV:al.length<=1000:=(by have h2:=Ca List.length hE.out;simp only [At] at h2;have h3:=Pz i Lt;omega);replace ⟨bs,bV,aN⟩:=H3 bs bV aN;go_wp2_with fail;exact Ak (v:=.slice cp aZ kc) (by simp [results,results137,go_sem]) rfl (hK.post bs.out bV.out r.out)
def Axn {w:WD} {so:Option Addr} {n c:Nat} {xs:List V4} (h:w.ownsRow 0 30 4 (.slice so n c) xs.length (Au V4.cells xs)) (t:n=xs.length) (v:n<=1000000):Pl.Oe w so n xs:=by
 subst t;refine ⟨rfl,by omega,fun i s=>?_⟩;obtain ⟨g,cap,e⟩:=Joins.ownsRow_form h (by omega);have o:so=some ⟨g,0,none⟩:=by injection e
 subst o;obtain ⟨x,b⟩:=Ge xs i s;have a:∀ x:V4,(V4.cells x).size=4:=fun _=>rfl;have u:Pl.vv xs i=x:=by simp [Pl.vv,List.getD,b]
 have f:=E6 h (i*4) (by omega);have k:=E6 h (i*4+1) (by omega);have l:=E6 h (i*4+2) (by omega);have m:=E6 h (i*4+3) (by omega);have d:=F2 a xs (j:=0) b (by omega);have p:=F2 a xs (j:=1) b (by omega);have q:=F2 a xs (j:=2) b (by omega);have r:=F2 a xs (j:=3) b (by omega);rw [Io] at d;rw [u];exact ⟨g,0,rfl,(Rf h g rfl).2,by rw [Da,f,d];rfl,by rw [Da,k,p];rfl,by rw [Da,l,q];rfl,by rw [Da,m,r];rfl⟩
def Axo (vs:List au) (js:List Jb):(En vs js).length<=js.length:=by
 unfold En;rw [At,(Yb _ _ _).length_eq,Y6];unfold Br;rw [At];exact Nr _ _
def Q4 (vs:List au) (now:Int) (bs:List Bool) (js:List Jb):Prop:=Ajy (vs.map au.cap) now bs ((Dy js).map Jd) (En vs js)
def vg (w5:WD) (ks:List (Int×Int×List Int)) (v rv:VL) (wx:WD):Prop:=
 ∃ so n sc r slots,v=.slice so n sc/\rv=.int .i64 r/\n=slots.length/\slots.map Pl.Az.key=ks/\Pl.Ub wx so n slots/\(∀ s,s∈slots->∀ b off,s.go=some ⟨b,off,none⟩->w5.heap.size<=b)/\BW w5.heap.size w5 wx/\∀ b off,so=some ⟨b,off,none⟩->w5.heap.size<=b
def vg.low {a wx:WD} {c:List (Int×Int×List Int)} {v d:VL} (h:vg a c v d wx):BW a.heap.size a wx:=by
 obtain ⟨_,_,_,_,_,_,_,_,_,_,_,b,_⟩:=h;exact b
def xr (w5:WD) (vs:List au) (now:Int) (bs:List Bool) (js:List Jb) (v rv:VL) (wx:WD):Prop:=vg w5 (J3 vs now bs js) v rv wx/\Q4 vs now bs js
def Axp {k:WD} {vs:List au} {js:List Jb} {j:List Bool} {now:Int} {vo z t:Option Addr} {vn vc y uc m mc:Nat} {i:List Pl.Ay}
  (hv:Pl.Oe k vo vn (vs.map au.cap)) (f:i.map Pl.Ay.er=(Dy js).map Jd)
  {w1:WD} (h1:BW k.heap.size k w1) (hu:Pl.Mi w1 z y j) {p:Option Addr} {l lc:Nat} {o:List Pl.Ask} (ha:Pl.Xl w1 p l o) (d:o.map Pl.Ask.er=En vs js) (hl:l<=1000000) (q:Pl.Xi w1 t m i) :
  CS prog 136 #[.slice vo vn vc,.slice z y uc,.int .i64 now,.slice t m mc,.slice p l lc] w1 fun e w'=>∃ v rv,e=.returned (.tuple #[v,rv])/\vg k (J3 vs now j js) v rv w'/\Q4 vs now j js:=by
 refine (Pl.Atd vo z t p vn vc y uc m mc l lc (vs.map au.cap) j now i o w1 (hv.below h1 Ln) hu q ha hl).mono ?_;intro e w' h;obtain ⟨so,n,sc,r,c,he,hn,hk,u,hg,hb,x,g⟩:=Aw5 h;refine ⟨_,_,he,⟨so,n,sc,r,c,rfl,rfl,hn,?_,u,fun s i b a e=>A5 h1.size (hg s i b a e),h1.trans (hb.mono h1.size),fun b a e=>A5 h1.size (x b a e)⟩,?_⟩
 .rw [hk,f,d];rfl
 .rw [f,d] at g;exact g
def Ax0:(prog.info? 125).map (fun i=>(i.zero,i.size,i.bytes))=some (some (.pointer none),1,8):=by kernel_rfl
structure oz (w:WD) (T:Tv) (rb B g L:Nat) (s2:List VL) (R:List (List Int)) (jv:VL) (js:List (Nat×aj)) (wr:WD):Prop where
 sub:D1 w T jv js wr
 res:wr.heap[w.heap.size+1]?=some (.cells #[.int .i64 0,.int .i64 0,.int .i64 0] 35 (0,0))
 rep:wr.heap[rb]?=some (.cells #[.int .i64 0,.int .i64 ((T.js.length:Int)+1),.int .i64 0] 35 (0,0))
 rows:Cw wr B g L s2 R
 dz:∀ j,j∈js->(0<j.2.sn->∀ k o,j.2.so=some ⟨k,o,none⟩->k≠rb/\k≠w.heap.size+1)/\(0<j.2.gn->∀ k o,j.2.go=some ⟨k,o,none⟩->k≠rb/\k≠w.heap.size+1)
 stays:If w T.js js
variable {w w' wr:WD} {T:Tv} {rb B g L:Nat} {s2:List VL} {R:List (List Int)} {jv jv':VL} {js:List (Nat×aj)}
def oz.low (h:oz w T rb B g L s2 R jv js wr) (a:BW wr.heap.size wr w'):oz w T rb B g L s2 R jv js w':=
 ⟨h.sub.low a,Ae a h.res (Ab h.res),Ae a h.rep (Ab h.rep),h.rows.low a,h.dz,h.stays⟩
def D1.stay (h:D1 w T jv js wr) (g:Mod (fun k=>k=T.tb\/jv.ownBlock=some k) wr w') {b:Nat} {c:Array VL} {a:TypeId} (d:wr.heap[b]?=some (.cells c a (0,0))) (h1:a≠115) (f:a≠125):w'.heap[b]?=some (.cells c a (0,0)):=g.ar d fun e=>by
 rcases e with e | e
 .subst e;have:=h.at_.head;rw [show ({ T with jv:=jv,js:=js }:Tv).tb=T.tb from rfl,d] at this;injection this with this;injection this with _ this;exact h1 this
 .exact Bo h.at_.ab d (fun e=>f e.symm) e
def oz.add (h:oz w T rb B g L s2 R jv js wr) {b:Nat} {x:aj} (m:Mod (fun k=>k=T.tb\/jv.ownBlock=some k) wr w')
  (hd:w'.heap[T.tb]?=some (.cells #[.int .i64 T.ah,.int .i64 T.tick,.map (some T.mb),T.nv,jv',.pointer (some ⟨T.fb,0,none⟩),T.cv] 115 (0,0)))
  (hr:w'.ownsRow 0 125 1 jv' (js.length+1) ((js.map fun j=>.pointer (some ⟨j.1,0,none⟩))++[.pointer (some ⟨b,0,none⟩)]))
  (s:∀ k,jv'.ownBlock=some k->jv.ownBlock=some k\/wr.heap.size<=k)
  (hb:wr.heap.size<=b) (n:Bb w' b x) (t:x.po=none/\x.pn=0/\x.pc=0/\x.pl.parts=[]) (l:x.go=none/\x.gn=0/\x.gc=0/\x.pl.ak=[])
  (v:Ar w' x.so x.sn x.pl.sp.after) (f:∀ k o,x.so=some ⟨k,o,none⟩->∃ c,w'.heap[k]?=some (.cells c 3 (0,0))) (u:x.sn<=x.sc) (hu:x.pl.sp.user.size<=maxLen) (hp:x.pl.sp.part.size<=maxLen) (p:∀ k o,x.so=some ⟨k,o,none⟩->w.heap.size<=k) :
  oz w T rb B g L s2 R jv' (js++[(b,x)]) w':=by
 refine ⟨h.sub.add m hd hr s hb n t l v f u hu hp,h.sub.stay m h.res (by decide) (by decide),h.sub.stay m h.rep (by decide) (by decide),h.rows.off m (fun e=>?_) (fun i sv y k z e=>?_),fun j a=>?_,fun j a=>?_⟩
 .obtain ⟨_,_,c,d⟩:=h.rows.ar;rcases e with e | e
  .subst e;have:=h.sub.at_.head;rw [show ({ T with jv:=jv,js:=js }:Tv).tb=T.tb from rfl,d] at this;injection this with this;injection this with _ this;exact absurd this (by decide)
  .exact Bo h.sub.at_.ab d (by decide) e
 .have r:i<R.length:=by rw [<- h.rows.len];exact (Ao.1 y).1
  have ho:=h.rows.each i sv _ y (A4 r);obtain ⟨c,d⟩:=ho.ar z;rcases e with e | e
  .subst e;have:=h.sub.at_.head;rw [show ({ T with jv:=jv,js:=js }:Tv).tb=T.tb from rfl,d] at this;injection this with this;injection this with _ this;exact absurd this (by decide)
  .exact Bo h.sub.at_.ab d (by decide) e
 .rcases Dh.1 a with a | a
  .exact h.dz j a
  .have a:=Jq.1 a;subst a;refine ⟨fun _ k o e=>?_,fun c=>absurd c (by rw [l.2.1];omega)⟩;obtain ⟨c,d⟩:=f k o e;refine ⟨fun q=>?_,fun q=>?_⟩
   .have:=h.sub.stay m h.rep (by decide) (by decide);rw [<- q,d] at this;injection this with this;injection this with _ this;exact absurd this (by decide)
   .have:=h.sub.stay m h.res (by decide) (by decide);rw [<- q,d] at this;injection this with this;injection this with _ this;exact absurd this (by decide)
 .rcases Dh.1 a with a | a
  .exact h.stays j a
  .have a:=Jq.1 a;subst a;exact ⟨fun _ k o e z=>by have:=p k o e;omega,fun c=>absurd c (by rw [l.2.1];omega)⟩
def Ax1 (X:List Jb):(Dj X).map Jb.sp=X.map Jb.sp:=Aff (P:=fun l=>l.map Jb.sp=X.map Jb.sp) (fun js k h _=>(Afh js k).trans h) rfl
def Dd.ue {vs:List au} {X:List Jb} (h:Dd vs (Dj X)):D8 X:=Qi h.b.jz (Ax1 X).symm
def oz.xh (h:oz w T rb B g L s2 R jv js wr) (h0:T.tb<w.heap.size) (d:w.heap.size<=rb) (v:VL):D1 w T jv js (wr.setCell ⟨rb,2,none⟩ v):=by
 have b:=Mod.setCell (S:=fun k=>k=rb) wr rb 2 v rfl;exact ⟨An.fp (T:={ T with jv:=jv,js:=js }) h.sub.at_ h.rep b (by show T.tb<rb;omega) (by decide) (by decide) (by decide) (by decide) (by decide) (by decide) (fun j a=>⟨fun c k o e=>((h.dz j a).1 c k o e).1,fun c k o e=>((h.dz j a).2 c k o e).1⟩),h.sub.aw,h.sub.mod.then b (fun k f e=>by omega)⟩
def D1.qb {b:WD} (h:D1 w T jv js b) (h0:T.tb<w.heap.size) (a:b.heap[w.heap.size+1]?=some (.cells #[.int .i64 0,.int .i64 0,.int .i64 0] 35 (0,0)))
  (i:∀ j,j∈js->(0<j.2.sn->∀ k o,j.2.so=some ⟨k,o,none⟩->k≠w.heap.size+1)/\(0<j.2.gn->∀ k o,j.2.go=some ⟨k,o,none⟩->k≠w.heap.size+1)) (d f g:VL) :
  D1 w T jv js (((b.setCell ⟨w.heap.size+1,0,none⟩ d).setCell ⟨w.heap.size+1,1,none⟩ f).setCell ⟨w.heap.size+1,2,none⟩ g):=by
 have c:=(((Mod.refl (fun k=>k=w.heap.size+1) b).set _ 0 d rfl).set _ 1 f rfl).set _ 2 g rfl;exact ⟨An.fp (T:={ T with jv:=jv,js:=js }) h.at_ a c (by show T.tb<w.heap.size+1;omega) (by decide) (by decide) (by decide) (by decide) (by decide) (by decide) i,h.aw,h.mod.then c (fun k l e=>by omega)⟩
def Ax2 {w1:WD} {c:Tv} {a:List (Nat×aj)} {n:Nat} (h:Bq w1 c a w') (q:∀ j,j∈c.js->(0<j.2.sn->∀ k o,j.2.so=some ⟨k,o,none⟩->k≠n)/\(0<j.2.gn->∀ k o,j.2.go=some ⟨k,o,none⟩->k≠n)):∀ j,j∈a->(0<j.2.sn->∀ k o,j.2.so=some ⟨k,o,none⟩->k≠n)/\(0<j.2.gn->∀ k o,j.2.go=some ⟨k,o,none⟩->k≠n):=fun j r=>by
 obtain ⟨i,m⟩:=Dg r;have p:i<c.js.length:=by rw [<- h.len];exact (Ao.1 m).1
 have s:=A4 p;have d:=h.kp i _ j s m;have l:=q _ (Lw p);refine ⟨fun b k o e=>?_,fun b k o e=>?_⟩
 .rw [d.sn] at b;rw [d.so] at e;exact l.1 b k o e
 .rcases d.ak with ⟨f,g,_⟩ | ⟨f,g,_⟩
  .rw [g] at b;rw [f] at e;exact l.2 b k o e
  .omega
def Akc {S:Nat->Prop} {so:Option Addr} {n:Nat} {l:List Int} (h:Ar wr so n l) (c:Mod S wr w') (f:∀ k o,so=some ⟨k,o,none⟩->¬ S k):Ar w' so n l:=
 ⟨h.len,h.max,fun i x g=>by
  obtain ⟨k,b,e,a,d⟩:=h.cell i x g;refine ⟨k,b,e,Bx a c.size,?_⟩;rw [<- d]
  simp only [World.cell?,c.block k a (f k b e)]⟩
structure xq (w:WD) (T:Tv) (rb B g L:Nat) (s2:List VL) (R:List (List Int)) (X:List Jb) (n:Nat) (g2:Nat) (c2:Array VL) (wx:WD):Prop where
 ex:∃ jv js,oz w T rb B g L s2 R jv js wx/\js.map (fun j=>j.2.pl)=X/\js.length<=n
 exp:wx.heap[g2]?=some (.cells c2 33 (0,0))
def Ax3 {x:ay} {w:WD} (k:x.ok w) (d:D6 x.pl=true):CS prog 128 #[x.val] w fun e w'=>∃ g xs c,e=.returned (.slice (some ⟨g,0,none⟩) x.pl.array.toNat x.pl.array.toNat)/\xs.length=x.pl.array.toNat/\w'.heap[g]?=some (.cells c 33 (0,0))/\R3 c x.pl.array.toNat xs/\(∀ (j:Nat) (y:ay),xs[j]?=some y->y.pl=x.single.pl)/\BW w.heap.size w w':=by
 refine (Av9 x w k).mono ?_;rintro e w' (⟨h0,_⟩ | ⟨_,g,xs,rfl,b,a⟩)
 .rw [d] at h0;cases h0
 .have h:Qf x.pl=x.pl.array.toNat:=Ad d;rw [h] at b a ⊢;obtain ⟨c,f,i⟩:=a.row;exact ⟨g,xs,c,rfl,b,f,i,fun j y l=>(a.one j y l).1,a.low⟩
def Ax4 {w:WD} {T:Tv} (h:An w T) (d:T.js.length<=1000000) (so:Option Addr) (n sc:Nat) (xs:List ay) (j:Jw w so n xs) (f:n<=1000) {R:List (List Int)} (b:B7 T.vs T.js.length (xs.map ay.pl)=(R,0)) :
  CS prog 58 #[.pointer (some ⟨T.tb,0,none⟩),.slice so n sc] w fun e w'=>∃ g s2,e=.returned (.tuple #[.slice (some ⟨g,0,none⟩) R.length R.length,.int .i64 0])/\Cw w' w.heap.size g R.length s2 R/\BW w.heap.size w w':=by
 refine (Acd h h.dh.ok d so n sc xs j f).mono ?_;rw [b];rintro e w' ⟨v,rfl,_,a,c⟩;obtain ⟨g,s2,rfl,i⟩:=a rfl;exact ⟨g,s2,rfl,i,c⟩
end
section
open Go.RowKit Go.Maps Go.Lib
def Pv (k:Int) (w:WD):CS prog 46 #[.int .i64 k] w fun e w'=>e=.returned (.bool (B4 k))/\w'=w:=by
 by_cases h:k=2\/k=3\/k=4\/k=5\/k=10\/k=11
 .have b:B4 k=true:=by rcases h with rfl | rfl | rfl | rfl | rfl | rfl<;>rfl
  obtain ⟨z,a⟩:=Ex (B4 k);rw [<- a] at b ⊢;subst b;clear a;rcases h with rfl | rfl | rfl | rfl | rfl | rfl
  all_goals
   go_enter func46,ntmps46;go_wp2;go_ret;exact ⟨rfl,rfl⟩
 .have b:B4 k=false:=by rw [Ij];intro c;apply h;simp [B4,D5] at c;omega
  obtain ⟨z,a⟩:=Ex (B4 k);rw [<- a] at b ⊢;subst b;clear a;have g:(k == (2:Int))=false:=by rw [Bl];omega
  have i:(k == (3:Int))=false:=by rw [Bl];omega
  have j:(k == (4:Int))=false:=by rw [Bl];omega
  have l:(k == (5:Int))=false:=by rw [Bl];omega
  have d:(k == (10:Int))=false:=by rw [Bl];omega
  have f:(k == (11:Int))=false:=by rw [Bl];omega
  go_enter func46,ntmps46;go_wp2;go_ret;exact ⟨rfl,rfl⟩
def A8 {e:cu} {f:gy} {fs:List gy} {a:cu} (h:Fv e (f :: fs)=some a):iq e f=true/\Fv (e.set 0 f.1) fs=some a:=by
 unfold Fv at h;split at h
 .rename_i c;exact ⟨c,h⟩
 .cases h
def Akd {e:ee} {fs:List gy} (h:Fw e=true) (b:Ds e.n.kind=some fs):∃ a,Fv e.n fs=some a/\e.specs.length<=8/\e.specs.all D6=true/\Tu e=true:=by
 cases hc:Fv e.n fs with
 | none=>
  rw [Ae1 b hc] at h;cases h
 | some a=>
  rw [Ae2 b hc] at h;simp at h;exact ⟨a,rfl,h.1.1.2,by simpa using h.1.2,h.1.1.1⟩
structure Ax6 (e:ee):Prop where
 kind:e.n.kind=1\/e.n.kind=2\/e.n.kind=3\/e.n.kind=4\/e.n.kind=5\/e.n.kind=6\/e.n.kind=7\/e.n.kind=8\/e.n.kind=9\/e.n.kind=10\/e.n.kind=11
 len:e.specs.length<=8
 br:(e.n.kind=3\/e.n.kind=4\/e.n.kind=5\/e.n.kind=7)->1<=e.n.br
 node:(e.n.kind=7\/e.n.kind=8\/e.n.kind=9\/e.n.kind=10\/e.n.kind=11)->0<=e.n.node
 bm:e.n.kind=7->1<=e.n.bm/\e.n.bm<=3
 tick:(e.n.kind=6\/e.n.kind=8\/e.n.kind=9)->0<=e.n.tick/\e.n.tick<1099511627776
def Q5 {e:ee} (h:Fw e=true):Ax6 e:=by
 obtain ⟨⟨f,o,tick,n,seq,q,attempt,node,p⟩,r⟩:=e
 have t:f=1\/f=2\/f=3\/f=4\/f=5\/f=6\/f=7\/f=8\/f=9\/f=10\/f=11:=by
  by_cases c:f=1\/f=2\/f=3\/f=4\/f=5\/f=6\/f=7\/f=8\/f=9\/f=10\/f=11
  .exact c
  .have m:Ds f=none:=(by unfold Ds;rw [Ac (by omega),Ac (by omega),Ac (by omega),Ac (by omega),Ac (by omega),Ac (by omega),Ac (by omega)]);rw [Ae0 m] at h;cases h
 have i:∀ {k:Int} {fs:List gy},f=k->Ds k=some fs->∃ l,Fv ⟨f,o,tick,n,seq,q,attempt,node,p⟩ fs=some l/\r.length<=8:=fun {k fs} e m=>by
  obtain ⟨l,h1,s,_⟩:=Akd h (fs:=fs) (by rw [<- m,<- e]);exact ⟨l,h1,s⟩
 rcases t with rfl | rfl | rfl | rfl | rfl | rfl | rfl | rfl | rfl | rfl | rfl
 .obtain ⟨l,g,j⟩:=i rfl (k:=1) (fs:=[Tp]) rfl;exact ⟨by simp,j,by simp,by simp,by simp,by simp⟩
 .obtain ⟨l,g,j⟩:=i rfl (k:=2) (fs:=[C2,C4]) rfl;exact ⟨by simp,j,by simp,by simp,by simp,by simp⟩
 .obtain ⟨l,g,j⟩:=i rfl (k:=3) (fs:=[C2,C4,E3]) rfl;have a:=(A8 (A8 (A8 g).2).2).1;simp [iq,C2,C4,E3,cu.get,cu.set] at a;exact ⟨by simp,j,fun _=>a.1,by simp,by simp,by simp⟩
 .obtain ⟨l,g,j⟩:=i rfl (k:=4) (fs:=[C2,C4,E3]) rfl;have a:=(A8 (A8 (A8 g).2).2).1;simp [iq,C2,C4,E3,cu.get,cu.set] at a;exact ⟨by simp,j,fun _=>a.1,by simp,by simp,by simp⟩
 .obtain ⟨l,g,j⟩:=i rfl (k:=5) (fs:=[C2,C4,E3]) rfl;have a:=(A8 (A8 (A8 g).2).2).1;simp [iq,C2,C4,E3,cu.get,cu.set] at a;exact ⟨by simp,j,fun _=>a.1,by simp,by simp,by simp⟩
 .obtain ⟨l,g,j⟩:=i rfl (k:=6) (fs:=[L7]) rfl;have a:=(A8 g).1;simp [iq,L7,cu.get] at a;exact ⟨by simp,j,by simp,by simp,by simp,fun _=>⟨a.1,by show tick<_;omega⟩⟩
 .obtain ⟨l,g,j⟩:=i rfl (k:=7) (fs:=[E3,Tq,Fe,Tr]) rfl;have a:=(A8 g).1;have b:=(A8 (A8 (A8 g).2).2).1;have d:=(A8 (A8 (A8 (A8 g).2).2).2).1;simp [iq,E3,Tq,Fe,Tr,cu.get,cu.set] at a b d;exact ⟨by simp,j,fun _=>a.1,fun _=>b.1,fun _=>d,by simp⟩
 .obtain ⟨l,g,j⟩:=i rfl (k:=8) (fs:=[Fe,L7]) rfl;have a:=(A8 g).1;have b:=(A8 (A8 g).2).1;simp [iq,Fe,L7,cu.get,cu.set] at a b;exact ⟨by simp,j,by simp,fun _=>a.1,by simp,fun _=>⟨b.1,by show tick<_;omega⟩⟩
 .obtain ⟨l,g,j⟩:=i rfl (k:=9) (fs:=[Fe,L7]) rfl;have a:=(A8 g).1;have b:=(A8 (A8 g).2).1;simp [iq,Fe,L7,cu.get,cu.set] at a b;exact ⟨by simp,j,by simp,fun _=>a.1,by simp,fun _=>⟨b.1,by show tick<_;omega⟩⟩
 .obtain ⟨l,g,j⟩:=i rfl (k:=10) (fs:=[C2,C4,Fe]) rfl;have a:=(A8 (A8 (A8 g).2).2).1;simp [iq,C2,C4,Fe,cu.get,cu.set] at a;exact ⟨by simp,j,by simp,fun _=>a.1,by simp,by simp⟩
 .obtain ⟨l,g,j⟩:=i rfl (k:=11) (fs:=[C2,C4,Fe]) rfl;have a:=(A8 (A8 (A8 g).2).2).1;simp [iq,C2,C4,Fe,cu.get,cu.set] at a;exact ⟨by simp,j,by simp,fun _=>a.1,by simp,by simp⟩
def Ax7 (a b c d:Int) (w:WD):(Instr.field 123 (.agg #[.int .i64 a,.int .i64 b,.int .i64 c,.int .i64 d]) 0).run prog w=.ok (.int .i64 a) w:=by kernel_rfl
structure yf (w:WD) (b:Bool) (v:VL) (wx:WD):Prop where
 v:v=.bool b
 low:BW w.heap.size w wx
def Ake (vs:List au) (t:du) (e:ee) (cs:Int):Int:=
 if B4 e.n.kind=true/\e.n.seq<=cs then 141
 else if e.n.kind=1 then (if e.n.ah<=t.ah then 141 else 0)
 else if e.n.kind=6 then (if e.n.tick<=t.tick then 141 else 0)
 else if e.n.kind=2 then (B7 vs t.ab.length e.specs).2
 else if 8<=e.n.kind/\e.n.kind<=11 then Le t e.n
 else Jy t e.n
def Ax8 {w:WD} {T:Tv} (x:cz) (h:An w T) (hj:T.js.length<=1000000) (hx:x.ok w) (o:B4 x.n.kind=true) :
  CS prog 31 #[.pointer (some ⟨T.tb,0,none⟩),x.val] w (I0 w (Fl T.vs T.pl x.pl)):=by
 obtain ⟨r,hr⟩:=Ex (Fl T.vs T.pl x.pl);rw [<- hr];have y:=Mb.new w x;have t:=Ae3 x _ (y.ok hx);by_cases hm:Fw x.pl=true;rotate_left
 .have ao:Fw x.pl=false:=by simpa using hm
  rw [Wo ao] at t;have aN:r=130:=by rw [hr];unfold Fl;rw [Ad ao]
  subst aN;obtain ⟨⟨j,ah,tick,ag,seq,br,attempt,node,bm⟩,so,m,sc,de⟩:=x;replace ⟨y,t,hm,ao,hr,h,hx⟩:=H7 y t hm ao hr h hx;go_enter M0,Mw;go_wp2_with fail;refine t.mono ?_;rintro e w1 ⟨rfl,z⟩;have q:=y.below z;replace ⟨q,z⟩:=H2 q z;go_wp2;go_ret;exact ⟨rfl,q.low⟩
 rw [Aez hm] at t;obtain ⟨hk,aJ,f1,f2,_,_⟩:=Q5 hm;have aK:=hx.de.len;have aG:x.m<=1000:=by have:x.pl.specs.length=x.de.length:=At _;omega
 have ac:∀ W,BW w.heap.size w W->CS prog 58 #[.pointer (some ⟨T.tb,0,none⟩),.slice x.so x.m x.c] W (Gx (B7 T.vs T.js.length (x.de.map ay.pl)) W):=fun W hW=>Acd (h.low hW) h.dh.ok hj x.so x.m x.c x.de (hx.de.low hW) aG;have u:(x.n.kind=8\/x.n.kind=9\/x.n.kind=10\/x.n.kind=11)->∀ W,BW w.heap.size w W->CS prog 59 #[.pointer (some ⟨T.tb,0,none⟩),x.val] W (I0 W (Le T.pl x.n)):=fun hk W hW=>Ajg x (h.low hW) (f2 (.inr hk)) hk;have p:(x.n.kind=3\/x.n.kind=4\/x.n.kind=5\/x.n.kind=7)->∀ W,BW w.heap.size w W->CS prog 60 #[.pointer (some ⟨T.tb,0,none⟩),x.val] W (I0 W (Jy T.pl x.n)):=fun hk W hW=>Ajh x (h.low hW) (f1 hk);have aH:=hx.vj 3;obtain ⟨⟨cs,ce,cf,aB⟩,aE⟩:∃ c,c=Kf T.cls x.n.ag:=⟨_,rfl⟩
 have ad:∀ W,An W T->(Instr.lookup 108 (.map (some T.mb)) (.int .i64 x.n.ag) false).run prog W=.ok (Ir ⟨cs,ce,cf,aB⟩) W:=fun W hW=>by
  rw [aE];exact Ai5 hW.cls aH.1 aH.2
 unfold Ir at ad
 have l:r=Ake T.vs T.pl x.pl cs:=by
  rw [hr];unfold Fl;rw [Ac (by rw [hm];simp)]
  have:(Kf T.pl.cls x.pl.n.ag).seq=cs:=by show (Kf T.cls x.n.ag).seq=cs;rw [<- aE]
  rw [this];rfl
 obtain ⟨tb,ap⟩:=Ex (T.tb);obtain ⟨aO,av⟩:=Ex (T.ah);obtain ⟨aP,aA⟩:=Ex (T.tick)
 have an:∀ W,An W T->W.cell? ⟨tb,0,none⟩=some (.int .i64 aO)/\W.cell? ⟨tb,1,none⟩=some (.int .i64 aP)/\W.cell? ⟨tb,2,none⟩=some (.map (some T.mb)):=fun W hW=>by
  rw [ap,av,aA];exact ⟨Aa hW.head 0,Aa hW.head 1,Aa hW.head 2⟩
 rw [<- ap];rw [<- ap] at ac u p;have aF:T.pl.ab.length=T.js.length:=by simp [Tv.pl]
 clear hr f1 f2 ap aE aH;obtain ⟨⟨j,ah,tick,ag,seq,br,attempt,node,bm⟩,so,m,sc,de⟩:=x;replace ad:∀ W,An W T->(Instr.lookup 108 (.map (some T.mb)) (.int .i64 ag) false).run prog W=.ok (.agg #[.int .i64 cs,.int .i64 ce,.int .i64 cf,.int .i64 aB]) W:=ad;replace hk:j=1\/j=2\/j=3\/j=4\/j=5\/j=6\/j=7\/j=8\/j=9\/j=10\/j=11:=hk;replace ⟨y,t,hm,h,hx,aJ,aK,aG⟩:=H8 y t hm h hx aJ aK aG;replace ⟨ac,u,p,ad,l,an,aF⟩:=H7 ac u p ad l an aF;replace o:B4 j=true:=o
 have aI:=fun W=>by
  have:=Pv j W;rw [o] at this;exact this
 obtain ⟨b,k⟩:=Ex (decide (seq<=cs));clear av aA;replace ⟨aI,hk,o,k⟩:=H4 aI hk o k;go_enter M0,Mw;go_wp2_with fail;refine t.mono ?_;rintro e w1 ⟨rfl,z⟩;have q:=y.below z;have al:=h.low q.low;obtain ⟨c0,c1,c2⟩:=an w1 al;obtain ⟨e0,e1,e2,e3,e4,e5,e6,e7,e8,e9⟩:=C10 q.box;(try dsimp only at e0 e1 e2 e3 e4 e5 e6 e7 e8 e9);replace ⟨q,al,z⟩:=H3 q al z;go_upto_region 6 with fail;have wt:=ad w1.drew (al.low ((Below.refl _ _).drew));have aL:=Ax7 cs ce cf aB;go_cut [6] (fun v wx=>yf w1 b v wx)
 case first=>
  go_region_law (first
   | (go_simp;go_at_call 46;refine (aI _).mono ?_
      rintro e wz ⟨rfl,rfl⟩))
  all_goals
   go_wp2_with fail;go_meet
   case rel=>exact ⟨by rw [k.out],by first | exact Below.refl _ _ | exact (Below.refl _ _).drew | exact A9 _ _ _⟩
 case rest=>
 obtain ⟨rfl,am⟩:=hcut;obtain ⟨s,aD⟩:=Ex (wc);rw [<- aD] at am;have f:=q.below am;have aC:=al.low am;rw [<- aD];clear aD c0 c1 c2 wt aL e0 e1 e2 e3 e4 e5 e6 e7 e8 e9;obtain ⟨c0,c1,c2⟩:=an s aC;obtain ⟨e0,e1,e2,e3,e4,e5,e6,e7,e8,e9⟩:=C10 f.box;(try dsimp only at e0 e1 e2 e3 e4 e5 e6 e7 e8 e9);replace ⟨am,f,aC⟩:=H3 am f aC;have aM:=hk.out;rcases aM with rfl | rfl | rfl | rfl | rfl | rfl | rfl | rfl | rfl | rfl | rfl
 .exact absurd o.out (by decide)
 .cases b with
  | true=>
   have i:=Kx k.symm;have d:=l.trans (Ad ⟨rfl,i⟩);subst d;replace i:=Hh i;go_wp2;go_ret;exact ⟨rfl,f.low⟩
  | false=>
   have i:=Rc k.symm;have d:r=(B7 T.vs T.pl.ab.length (de.map ay.pl)).2:=l.trans ((Ac (fun c=>i c.2)).trans ((Ac (by show ¬ ((2:Int)=1);decide)).trans ((Ac (by show ¬ ((2:Int)=6);decide)).trans (Ad rfl))));replace ⟨d,i⟩:=H2 d i;have a:=ac s f.low;rw [<- aF.out] at a;replace a:=Hh a;go_wp2_with (go_at_call 58;(with_reducible refine (a.out).mono ?_);rintro e w3 ⟨v,rfl,_,_,g⟩;replace g:=Hh g);go_ret;exact ⟨by rw [d.out];rfl,f.low.trans (g.mono f.low.size)⟩
 .cases b with
  | true=>
   have i:=Kx k.symm;have d:=l.trans (Ad ⟨rfl,i⟩);subst d;replace i:=Hh i;go_wp2;go_ret;exact ⟨rfl,f.low⟩
  | false=>
   have i:=Rc k.symm;have d:r=Jy T.pl ⟨3,ah,tick,ag,seq,br,attempt,node,bm⟩:=l.trans ((Ac (fun c=>i c.2)).trans ((Ac (by show ¬ ((3:Int)=1);decide)).trans ((Ac (by show ¬ ((3:Int)=6);decide)).trans ((Ac (by show ¬ ((3:Int)=2);decide)).trans (Ac (by show ¬ ((8:Int)<=3/\(3:Int)<=11);decide))))));replace ⟨d,i⟩:=H2 d i;have a:CS prog 60 #[.pointer (some ⟨tb,0,none⟩),(Value.agg #[.int .i64 3,.int .i64 ah,.int .i64 tick,.int .i64 ag,.int .i64 seq,.int .i64 br,.int .i64 attempt,.int .i64 node,.int .i64 bm,.slice so m sc])] s (I0 s r):=(by rw [d.out];exact p.out (by simp) s f.low);replace a:=Hh a;go_wp2_with (go_at_call 60;(with_reducible refine (a.out).mono ?_);rintro e w3 ⟨rfl,g⟩;replace g:=Hh g);go_ret;exact ⟨rfl,f.low.trans (g.mono f.low.size)⟩
 .cases b with
  | true=>
   have i:=Kx k.symm;have d:=l.trans (Ad ⟨rfl,i⟩);subst d;replace i:=Hh i;go_wp2;go_ret;exact ⟨rfl,f.low⟩
  | false=>
   have i:=Rc k.symm;have d:r=Jy T.pl ⟨4,ah,tick,ag,seq,br,attempt,node,bm⟩:=l.trans ((Ac (fun c=>i c.2)).trans ((Ac (by show ¬ ((4:Int)=1);decide)).trans ((Ac (by show ¬ ((4:Int)=6);decide)).trans ((Ac (by show ¬ ((4:Int)=2);decide)).trans (Ac (by show ¬ ((8:Int)<=4/\(4:Int)<=11);decide))))));replace ⟨d,i⟩:=H2 d i;have a:CS prog 60 #[.pointer (some ⟨tb,0,none⟩),(Value.agg #[.int .i64 4,.int .i64 ah,.int .i64 tick,.int .i64 ag,.int .i64 seq,.int .i64 br,.int .i64 attempt,.int .i64 node,.int .i64 bm,.slice so m sc])] s (I0 s r):=(by rw [d.out];exact p.out (by simp) s f.low);replace a:=Hh a;go_wp2_with (go_at_call 60;(with_reducible refine (a.out).mono ?_);rintro e w3 ⟨rfl,g⟩;replace g:=Hh g);go_ret;exact ⟨rfl,f.low.trans (g.mono f.low.size)⟩
 .cases b with
  | true=>
   have i:=Kx k.symm;have d:=l.trans (Ad ⟨rfl,i⟩);subst d;replace i:=Hh i;go_wp2;go_ret;exact ⟨rfl,f.low⟩
  | false=>
   have i:=Rc k.symm;have d:r=Jy T.pl ⟨5,ah,tick,ag,seq,br,attempt,node,bm⟩:=l.trans ((Ac (fun c=>i c.2)).trans ((Ac (by show ¬ ((5:Int)=1);decide)).trans ((Ac (by show ¬ ((5:Int)=6);decide)).trans ((Ac (by show ¬ ((5:Int)=2);decide)).trans (Ac (by show ¬ ((8:Int)<=5/\(5:Int)<=11);decide))))));replace ⟨d,i⟩:=H2 d i;have a:CS prog 60 #[.pointer (some ⟨tb,0,none⟩),(Value.agg #[.int .i64 5,.int .i64 ah,.int .i64 tick,.int .i64 ag,.int .i64 seq,.int .i64 br,.int .i64 attempt,.int .i64 node,.int .i64 bm,.slice so m sc])] s (I0 s r):=(by rw [d.out];exact p.out (by simp) s f.low);replace a:=Hh a;go_wp2_with (go_at_call 60;(with_reducible refine (a.out).mono ?_);rintro e w3 ⟨rfl,g⟩;replace g:=Hh g);go_ret;exact ⟨rfl,f.low.trans (g.mono f.low.size)⟩
 .exact absurd o.out (by decide)
 .exact absurd o.out (by decide)
 .exact absurd o.out (by decide)
 .exact absurd o.out (by decide)
 .cases b with
  | true=>
   have i:=Kx k.symm;have d:=l.trans (Ad ⟨rfl,i⟩);subst d;replace i:=Hh i;go_wp2;go_ret;exact ⟨rfl,f.low⟩
  | false=>
   have i:=Rc k.symm;have d:r=Le T.pl ⟨10,ah,tick,ag,seq,br,attempt,node,bm⟩:=l.trans ((Ac (fun c=>i c.2)).trans ((Ac (by show ¬ ((10:Int)=1);decide)).trans ((Ac (by show ¬ ((10:Int)=6);decide)).trans ((Ac (by show ¬ ((10:Int)=2);decide)).trans (Ad (by show ((8:Int)<=10/\(10:Int)<=11);decide))))));replace ⟨d,i⟩:=H2 d i;have a:CS prog 59 #[.pointer (some ⟨tb,0,none⟩),(Value.agg #[.int .i64 10,.int .i64 ah,.int .i64 tick,.int .i64 ag,.int .i64 seq,.int .i64 br,.int .i64 attempt,.int .i64 node,.int .i64 bm,.slice so m sc])] s (I0 s r):=(by rw [d.out];exact u.out (by simp) s f.low);replace a:=Hh a;go_wp2_with (go_at_call 59;(with_reducible refine (a.out).mono ?_);rintro e w3 ⟨rfl,g⟩;replace g:=Hh g);go_ret;exact ⟨rfl,f.low.trans (g.mono f.low.size)⟩
 .cases b with
  | true=>
   have i:=Kx k.symm;have d:=l.trans (Ad ⟨rfl,i⟩);subst d;replace i:=Hh i;go_wp2;go_ret;exact ⟨rfl,f.low⟩
  | false=>
   have i:=Rc k.symm;have d:r=Le T.pl ⟨11,ah,tick,ag,seq,br,attempt,node,bm⟩:=l.trans ((Ac (fun c=>i c.2)).trans ((Ac (by show ¬ ((11:Int)=1);decide)).trans ((Ac (by show ¬ ((11:Int)=6);decide)).trans ((Ac (by show ¬ ((11:Int)=2);decide)).trans (Ad (by show ((8:Int)<=11/\(11:Int)<=11);decide))))));replace ⟨d,i⟩:=H2 d i;have a:CS prog 59 #[.pointer (some ⟨tb,0,none⟩),(Value.agg #[.int .i64 11,.int .i64 ah,.int .i64 tick,.int .i64 ag,.int .i64 seq,.int .i64 br,.int .i64 attempt,.int .i64 node,.int .i64 bm,.slice so m sc])] s (I0 s r):=(by rw [d.out];exact u.out (by simp) s f.low);replace a:=Hh a;go_wp2_with (go_at_call 59;(with_reducible refine (a.out).mono ?_);rintro e w3 ⟨rfl,g⟩;replace g:=Hh g);go_ret;exact ⟨rfl,f.low.trans (g.mono f.low.size)⟩
def Akf {w:WD} {T:Tv} (x:cz) (h:An w T) (hj:T.js.length<=1000000) (hx:x.ok w) :
  CS prog 31 #[.pointer (some ⟨T.tb,0,none⟩),x.val] w (I0 w (Fl T.vs T.pl x.pl)):=by
 by_cases aB:B4 x.n.kind=true
 .exact Ax8 x h hj hx aB
 obtain ⟨r,hr⟩:=Ex (Fl T.vs T.pl x.pl);rw [<- hr];have an:=Mb.new w x;have am:=Ae3 x _ (an.ok hx);by_cases hm:Fw x.pl=true;rotate_left
 .have aF:Fw x.pl=false:=by simpa using hm
  rw [Wo aF] at am;have aP:r=130:=by rw [hr];unfold Fl;rw [Ad aF]
  subst aP;obtain ⟨⟨p,ah,tick,ag,seq,br,attempt,node,bm⟩,so,m,sc,de⟩:=x;replace ⟨an,am,hm,aF,hr,h,hx⟩:=H7 an am hm aF hr h hx;go_enter M0,Mw;go_wp2_with fail;refine am.mono ?_;rintro e w1 ⟨rfl,i⟩;have b:=an.below i;replace ⟨b,i⟩:=H2 b i;go_wp2;go_ret;exact ⟨rfl,b.low⟩
 rw [Aez hm] at am;obtain ⟨hk,aL,f1,f2,_,_⟩:=Q5 hm;have aM:=hx.de.len;have aI:x.m<=1000:=by have:x.pl.specs.length=x.de.length:=At _;omega
 have aE:∀ W,BW w.heap.size w W->CS prog 58 #[.pointer (some ⟨T.tb,0,none⟩),.slice x.so x.m x.c] W (Gx (B7 T.vs T.js.length (x.de.map ay.pl)) W):=fun W hW=>Acd (h.low hW) h.dh.ok hj x.so x.m x.c x.de (hx.de.low hW) aI;have aA:(x.n.kind=8\/x.n.kind=9\/x.n.kind=10\/x.n.kind=11)->∀ W,BW w.heap.size w W->CS prog 59 #[.pointer (some ⟨T.tb,0,none⟩),x.val] W (I0 W (Le T.pl x.n)):=fun hk W hW=>Ajg x (h.low hW) (f2 (.inr hk)) hk;have aC:(x.n.kind=3\/x.n.kind=4\/x.n.kind=5\/x.n.kind=7)->∀ W,BW w.heap.size w W->CS prog 60 #[.pointer (some ⟨T.tb,0,none⟩),x.val] W (I0 W (Jy T.pl x.n)):=fun hk W hW=>Ajh x (h.low hW) (f1 hk);have aJ:=hx.vj 3;obtain ⟨⟨cs,ce,cf,aK⟩,aH⟩:∃ c,c=Kf T.cls x.n.ag:=⟨_,rfl⟩
 have aD:∀ W,An W T->(Instr.lookup 108 (.map (some T.mb)) (.int .i64 x.n.ag) false).run prog W=.ok (Ir ⟨cs,ce,cf,aK⟩) W:=fun W hW=>by
  rw [aH];exact Ai5 hW.cls aJ.1 aJ.2
 unfold Ir at aD
 have av:r=Ake T.vs T.pl x.pl cs:=by
  rw [hr];unfold Fl;rw [Ac (by rw [hm];simp)]
  have:(Kf T.pl.cls x.pl.n.ag).seq=cs:=by show (Kf T.cls x.n.ag).seq=cs;rw [<- aH]
  rw [this];rfl
 obtain ⟨tb,aG⟩:=Ex (T.tb);obtain ⟨aN,ad⟩:=Ex (T.ah);obtain ⟨aO,al⟩:=Ex (T.tick)
 have ac:∀ W,An W T->W.cell? ⟨tb,0,none⟩=some (.int .i64 aN)/\W.cell? ⟨tb,1,none⟩=some (.int .i64 aO)/\W.cell? ⟨tb,2,none⟩=some (.map (some T.mb)):=fun W hW=>by
  rw [aG,ad,al];exact ⟨Aa hW.head 0,Aa hW.head 1,Aa hW.head 2⟩
 rw [<- aG];rw [<- aG] at aE aA aC;clear hr f1 f2 aG aH aJ;obtain ⟨⟨p,ah,tick,ag,seq,br,attempt,node,bm⟩,so,m,sc,de⟩:=x;replace aD:∀ W,An W T->(Instr.lookup 108 (.map (some T.mb)) (.int .i64 ag) false).run prog W=.ok (.agg #[.int .i64 cs,.int .i64 ce,.int .i64 cf,.int .i64 aK]) W:=aD;replace hk:p=1\/p=2\/p=3\/p=4\/p=5\/p=6\/p=7\/p=8\/p=9\/p=10\/p=11:=hk;replace ⟨an,am,hm,h,hx,aL,aM,aI⟩:=H8 an am hm h hx aL aM aI;replace ⟨aE,aA,aC,aD,av,ac⟩:=H6 aE aA aC aD av ac;rcases hk with rfl | rfl | rfl | rfl | rfl | rfl | rfl | rfl | rfl | rfl | rfl
 .have ap:=Hh fun W=>by
   have:=Pv 1 W;rw [show B4 1=false from rfl] at this;exact this
  by_cases q:ah<=aN
  .have o:=av.trans ((Ac (by show ¬ (B4 1=true/\_);exact fun c=>absurd c.1 (by decide))).trans ((Ad rfl).trans (Ad (by rw [ad] at q;exact q))));subst o;clear ad al;go_enter M0,Mw;go_wp2_with fail;refine am.mono ?_;rintro e w1 ⟨rfl,i⟩;have b:=an.below i;have f:=h.low b.low;obtain ⟨c0,c1,c2⟩:=ac w1 f;obtain ⟨t,u,v,y,z,e5,e6,e7,e8,e9⟩:=C10 b.box;(try dsimp only at t u v y z e5 e6 e7 e8 e9);replace ⟨b,f,i⟩:=H3 b f i;go_upto_region 6 with fail;go_quiet (first | (go_at_call 46;(with_reducible exact Kv (ap.out _))));rename_i nq;obtain ⟨s,k⟩:=Ex (w1.drewN nq);have g:BW w1.heap.size w1 s:=(by rw [k];exact A9 _ w1 nq);have a:=b.below g;have j:=f.low g;rw [<- k];clear k c0 c1 c2;clear t u v y z e5 e6 e7 e8 e9;obtain ⟨c0,c1,c2⟩:=ac s j;obtain ⟨t,u,v,y,z,e5,e6,e7,e8,e9⟩:=C10 a.box;(try dsimp only at t u v y z e5 e6 e7 e8 e9);have d:=fun n=>a.low.trans ((A9 _ s n).mono a.low.size);replace ⟨g,a,j,d⟩:=H4 g a j d;go_upto_region 9 with fail;go_quiet (fail);go_wp2;go_ret;exact ⟨rfl,d _⟩
  .have o:=av.trans ((Ac (by show ¬ (B4 1=true/\_);exact fun c=>absurd c.1 (by decide))).trans ((Ad rfl).trans (Ac (by rw [ad] at q;exact q))));subst o;clear ad al;go_enter M0,Mw;go_wp2_with fail;refine am.mono ?_;rintro e w1 ⟨rfl,i⟩;have b:=an.below i;have f:=h.low b.low;obtain ⟨c0,c1,c2⟩:=ac w1 f;obtain ⟨t,u,v,y,z,e5,e6,e7,e8,e9⟩:=C10 b.box;(try dsimp only at t u v y z e5 e6 e7 e8 e9);replace ⟨b,f,i⟩:=H3 b f i;go_upto_region 6 with fail;go_quiet (first | (go_at_call 46;(with_reducible exact Kv (ap.out _))));rename_i nq;obtain ⟨s,k⟩:=Ex (w1.drewN nq);have g:BW w1.heap.size w1 s:=(by rw [k];exact A9 _ w1 nq);have a:=b.below g;have j:=f.low g;rw [<- k];clear k c0 c1 c2;clear t u v y z e5 e6 e7 e8 e9;obtain ⟨c0,c1,c2⟩:=ac s j;obtain ⟨t,u,v,y,z,e5,e6,e7,e8,e9⟩:=C10 a.box;(try dsimp only at t u v y z e5 e6 e7 e8 e9);have d:=fun n=>a.low.trans ((A9 _ s n).mono a.low.size);replace ⟨g,a,j,d⟩:=H4 g a j d;go_upto_region 9 with fail;go_quiet (fail);go_wp2;go_ret;exact ⟨rfl,d _⟩
 .exact absurd rfl aB
 .exact absurd rfl aB
 .exact absurd rfl aB
 .exact absurd rfl aB
 .have ap:=Hh fun W=>by
   have:=Pv 6 W;rw [show B4 6=false from rfl] at this;exact this
  by_cases q:tick<=aO
  .have o:=av.trans ((Ac (by show ¬ (B4 6=true/\_);exact fun c=>absurd c.1 (by decide))).trans ((Ac (by show ¬ ((6:Int)=1);decide)).trans ((Ad rfl).trans (Ad (by rw [al] at q;exact q)))));subst o;clear ad al;go_enter M0,Mw;go_wp2_with fail;refine am.mono ?_;rintro e w1 ⟨rfl,i⟩;have b:=an.below i;have f:=h.low b.low;obtain ⟨c0,c1,c2⟩:=ac w1 f;obtain ⟨t,u,v,y,z,e5,e6,e7,e8,e9⟩:=C10 b.box;(try dsimp only at t u v y z e5 e6 e7 e8 e9);replace ⟨b,f,i⟩:=H3 b f i;go_upto_region 6 with fail;go_quiet (first | (go_at_call 46;(with_reducible exact Kv (ap.out _))));rename_i nq;obtain ⟨s,k⟩:=Ex (w1.drewN nq);have g:BW w1.heap.size w1 s:=(by rw [k];exact A9 _ w1 nq);have a:=b.below g;have j:=f.low g;rw [<- k];clear k c0 c1 c2;clear t u v y z e5 e6 e7 e8 e9;obtain ⟨c0,c1,c2⟩:=ac s j;obtain ⟨t,u,v,y,z,e5,e6,e7,e8,e9⟩:=C10 a.box;(try dsimp only at t u v y z e5 e6 e7 e8 e9);have d:=fun n=>a.low.trans ((A9 _ s n).mono a.low.size);replace ⟨g,a,j,d⟩:=H4 g a j d;go_upto_region 11 with fail;go_quiet (fail);go_wp2;go_ret;exact ⟨rfl,d _⟩
  .have o:=av.trans ((Ac (by show ¬ (B4 6=true/\_);exact fun c=>absurd c.1 (by decide))).trans ((Ac (by show ¬ ((6:Int)=1);decide)).trans ((Ad rfl).trans (Ac (by rw [al] at q;exact q)))));subst o;clear ad al;go_enter M0,Mw;go_wp2_with fail;refine am.mono ?_;rintro e w1 ⟨rfl,i⟩;have b:=an.below i;have f:=h.low b.low;obtain ⟨c0,c1,c2⟩:=ac w1 f;obtain ⟨t,u,v,y,z,e5,e6,e7,e8,e9⟩:=C10 b.box;(try dsimp only at t u v y z e5 e6 e7 e8 e9);replace ⟨b,f,i⟩:=H3 b f i;go_upto_region 6 with fail;go_quiet (first | (go_at_call 46;(with_reducible exact Kv (ap.out _))));rename_i nq;obtain ⟨s,k⟩:=Ex (w1.drewN nq);have g:BW w1.heap.size w1 s:=(by rw [k];exact A9 _ w1 nq);have a:=b.below g;have j:=f.low g;rw [<- k];clear k c0 c1 c2;clear t u v y z e5 e6 e7 e8 e9;obtain ⟨c0,c1,c2⟩:=ac s j;obtain ⟨t,u,v,y,z,e5,e6,e7,e8,e9⟩:=C10 a.box;(try dsimp only at t u v y z e5 e6 e7 e8 e9);have d:=fun n=>a.low.trans ((A9 _ s n).mono a.low.size);replace ⟨g,a,j,d⟩:=H4 g a j d;go_upto_region 11 with fail;go_quiet (fail);go_wp2;go_ret;exact ⟨rfl,d _⟩
 .have ap:=Hh fun W=>by
   have:=Pv 7 W;rw [show B4 7=false from rfl] at this;exact this
  have o:r=Jy T.pl ⟨7,ah,tick,ag,seq,br,attempt,node,bm⟩:=av.trans ((Ac (by show ¬ (B4 7=true/\_);exact fun c=>absurd c.1 (by decide))).trans ((Ac (by show ¬ ((7:Int)=1);decide)).trans ((Ac (by show ¬ ((7:Int)=6);decide)).trans ((Ac (by show ¬ ((7:Int)=2);decide)).trans (Ac (by show ¬ ((8:Int)<=7/\(7:Int)<=11);decide))))));clear ad al;replace o:=Hh o;go_enter M0,Mw;go_wp2_with fail;refine am.mono ?_;rintro e w1 ⟨rfl,i⟩;have b:=an.below i;have f:=h.low b.low;obtain ⟨c0,c1,c2⟩:=ac w1 f;obtain ⟨t,u,v,y,z,e5,e6,e7,e8,e9⟩:=C10 b.box;(try dsimp only at t u v y z e5 e6 e7 e8 e9);replace ⟨b,f,i⟩:=H3 b f i;go_upto_region 6 with fail;go_quiet (first | (go_at_call 46;(with_reducible exact Kv (ap.out _))));rename_i nq;obtain ⟨s,k⟩:=Ex (w1.drewN nq);have g:BW w1.heap.size w1 s:=by rw [k];exact A9 _ w1 nq
  have a:=b.below g;have j:=f.low g;rw [<- k];clear k c0 c1 c2;clear t u v y z e5 e6 e7 e8 e9;obtain ⟨c0,c1,c2⟩:=ac s j;obtain ⟨t,u,v,y,z,e5,e6,e7,e8,e9⟩:=C10 a.box;(try dsimp only at t u v y z e5 e6 e7 e8 e9);have d:=fun n=>a.low.trans ((A9 _ s n).mono a.low.size);replace ⟨g,a,j,d⟩:=H4 g a j d;have l:CS prog 60 #[.pointer (some ⟨tb,0,none⟩),(Value.agg #[.int .i64 7,.int .i64 ah,.int .i64 tick,.int .i64 ag,.int .i64 seq,.int .i64 br,.int .i64 attempt,.int .i64 node,.int .i64 bm,.slice so m sc])] s (I0 s r):=by rw [o.out];exact aC.out (by simp) s a.low
  replace l:=Hh l;go_wp2_with (go_at_call 60;(with_reducible refine (l.out).mono ?_);rintro e w3 ⟨rfl,ao⟩;replace ao:=Hh ao);go_ret;exact ⟨rfl,a.low.trans (ao.mono a.low.size)⟩
 .have ap:=Hh fun W=>by
   have:=Pv 8 W;rw [show B4 8=false from rfl] at this;exact this
  have o:r=Le T.pl ⟨8,ah,tick,ag,seq,br,attempt,node,bm⟩:=av.trans ((Ac (by show ¬ (B4 8=true/\_);exact fun c=>absurd c.1 (by decide))).trans ((Ac (by show ¬ ((8:Int)=1);decide)).trans ((Ac (by show ¬ ((8:Int)=6);decide)).trans ((Ac (by show ¬ ((8:Int)=2);decide)).trans (Ad (by show ((8:Int)<=8/\(8:Int)<=11);decide))))));clear ad al;replace o:=Hh o;go_enter M0,Mw;go_wp2_with fail;refine am.mono ?_;rintro e w1 ⟨rfl,i⟩;have b:=an.below i;have f:=h.low b.low;obtain ⟨c0,c1,c2⟩:=ac w1 f;obtain ⟨t,u,v,y,z,e5,e6,e7,e8,e9⟩:=C10 b.box;(try dsimp only at t u v y z e5 e6 e7 e8 e9);replace ⟨b,f,i⟩:=H3 b f i;go_upto_region 6 with fail;go_quiet (first | (go_at_call 46;(with_reducible exact Kv (ap.out _))));rename_i nq;obtain ⟨s,k⟩:=Ex (w1.drewN nq);have g:BW w1.heap.size w1 s:=by rw [k];exact A9 _ w1 nq
  have a:=b.below g;have j:=f.low g;rw [<- k];clear k c0 c1 c2;clear t u v y z e5 e6 e7 e8 e9;obtain ⟨c0,c1,c2⟩:=ac s j;obtain ⟨t,u,v,y,z,e5,e6,e7,e8,e9⟩:=C10 a.box;(try dsimp only at t u v y z e5 e6 e7 e8 e9);have d:=fun n=>a.low.trans ((A9 _ s n).mono a.low.size);replace ⟨g,a,j,d⟩:=H4 g a j d;have l:CS prog 59 #[.pointer (some ⟨tb,0,none⟩),(Value.agg #[.int .i64 8,.int .i64 ah,.int .i64 tick,.int .i64 ag,.int .i64 seq,.int .i64 br,.int .i64 attempt,.int .i64 node,.int .i64 bm,.slice so m sc])] s (I0 s r):=by rw [o.out];exact aA.out (by simp) s a.low
  replace l:=Hh l;go_wp2_with (go_at_call 59;(with_reducible refine (l.out).mono ?_);rintro e w3 ⟨rfl,ao⟩;replace ao:=Hh ao);go_ret;exact ⟨rfl,a.low.trans (ao.mono a.low.size)⟩
 .have ap:=Hh fun W=>by
   have:=Pv 9 W;rw [show B4 9=false from rfl] at this;exact this
  have o:r=Le T.pl ⟨9,ah,tick,ag,seq,br,attempt,node,bm⟩:=av.trans ((Ac (by show ¬ (B4 9=true/\_);exact fun c=>absurd c.1 (by decide))).trans ((Ac (by show ¬ ((9:Int)=1);decide)).trans ((Ac (by show ¬ ((9:Int)=6);decide)).trans ((Ac (by show ¬ ((9:Int)=2);decide)).trans (Ad (by show ((8:Int)<=9/\(9:Int)<=11);decide))))));clear ad al;replace o:=Hh o;go_enter M0,Mw;go_wp2_with fail;refine am.mono ?_;rintro e w1 ⟨rfl,i⟩;have b:=an.below i;have f:=h.low b.low;obtain ⟨c0,c1,c2⟩:=ac w1 f;obtain ⟨t,u,v,y,z,e5,e6,e7,e8,e9⟩:=C10 b.box;(try dsimp only at t u v y z e5 e6 e7 e8 e9);replace ⟨b,f,i⟩:=H3 b f i;go_upto_region 6 with fail;go_quiet (first | (go_at_call 46;(with_reducible exact Kv (ap.out _))));rename_i nq;obtain ⟨s,k⟩:=Ex (w1.drewN nq);have g:BW w1.heap.size w1 s:=by rw [k];exact A9 _ w1 nq
  have a:=b.below g;have j:=f.low g;rw [<- k];clear k c0 c1 c2;clear t u v y z e5 e6 e7 e8 e9;obtain ⟨c0,c1,c2⟩:=ac s j;obtain ⟨t,u,v,y,z,e5,e6,e7,e8,e9⟩:=C10 a.box;(try dsimp only at t u v y z e5 e6 e7 e8 e9);have d:=fun n=>a.low.trans ((A9 _ s n).mono a.low.size);replace ⟨g,a,j,d⟩:=H4 g a j d;have l:CS prog 59 #[.pointer (some ⟨tb,0,none⟩),(Value.agg #[.int .i64 9,.int .i64 ah,.int .i64 tick,.int .i64 ag,.int .i64 seq,.int .i64 br,.int .i64 attempt,.int .i64 node,.int .i64 bm,.slice so m sc])] s (I0 s r):=by rw [o.out];exact aA.out (by simp) s a.low
  replace l:=Hh l;go_wp2_with (go_at_call 59;(with_reducible refine (l.out).mono ?_);rintro e w3 ⟨rfl,ao⟩;replace ao:=Hh ao);go_ret;exact ⟨rfl,a.low.trans (ao.mono a.low.size)⟩
 .exact absurd rfl aB
 .exact absurd rfl aB
variable {w w':WD} {T T':Tv}
def An.np (h:An w T) (l:List (Int×Cl)) (a:Mod (fun k=>k=T.mb) w w') (o:L6 w' T.mb l):An w' { T with cls:=l }:=by
 obtain ⟨s,r,d⟩:=h.cls.ar
 have b:Mod T.aw w w':=a.mono fun k _ e=>by rw [e];exact .inr (.inl rfl)
 have g:∀ {B size n:Nat} {m:TypeId} {v:VL} {xs:List VL},w.ownsRow B m size v n xs->∀ k,v.ownBlock=some k->¬ k=T.mb:=fun q k p e=>by
  subst e;exact An8 q d p
 refine ⟨a.ar h.head (fun e=>h.eo h.head e.symm),o,A7 h.nodes a (g h.nodes),A7 h.ab a (g h.ab),A7 h.ax a (g h.ax),fun j f=>a.ar (h.box j f) (fun e=>h.eo (h.box j f) e.symm),fun j f=>?_,h.one,h.two,h.dh.mod b (fun _ c=>.inl c),h.same⟩;have i:=h.ok j f;exact i.mod b (fun _ _ c=>c) (A7 i.parts a (g i.parts))
def Ed.pj {f:WD} {b:Nat} (p:Ed w T T' w') (h:An f T) (h1:f.heap.size<=b) (q:b<w.heap.size) :
  ∀ j,j∈T'.js->(0<j.2.sn->∀ k o,j.2.so=some ⟨k,o,none⟩->k≠b)/\(0<j.2.gn->∀ k o,j.2.go=some ⟨k,o,none⟩->k≠b):=fun j m=>by
 obtain ⟨g,l⟩:=p.dz j m;refine ⟨fun h0 k o e n=>?_,fun h0 k o e n=>?_⟩
 .obtain ⟨i,d,a,c⟩:=g h0 k o e (by omega);have:=Ld (h.ok i d).after.row a c;omega
 .obtain ⟨i,d,a,c⟩:=l h0 k o e (by omega);have:=Ld (h.ok i d).ak.row a c;omega
def Ace (w:WD) (T:Tv) (P:du×Cl×Int) (e:Ending) (w':WD):Prop:=e=.returned (.tuple #[Gv P.2.1,.int .i64 P.2.2])/\∃ T',Ed w T T' w'/\T'.pl=P.1
def Nm (k:Int):Nat:=if k=1 then 81 else if k=2 then 82 else if k=6 then 83 else if k=7 then 84 else if k=8\/k=9\/k=10\/k=11 then 85 else 86
def Akg (a:Nat) (k:Int) (w:WD) (b:k=1\/k=2\/k=3\/k=4\/k=5\/k=6\/k=7\/k=8\/k=9\/k=10\/k=11) :
  CS prog 45 #[.pointer (some ⟨a,0,none⟩),.int .i64 k] w fun e w'=>e=.returned (.func (.func (Nm k)) #[.pointer (some ⟨a,0,none⟩)] #[])/\w'=w:=by
 rcases b with rfl | rfl | rfl | rfl | rfl | rfl | rfl | rfl | rfl | rfl | rfl
 all_goals
  go_enter func45,ntmps45;go_wp2;go_ret;exact ⟨rfl,rfl⟩
end
section
open Go.RowKit Go.Maps Go.Lib
variable{T b:Tv}{w:WD}
def Ed.qb {w c:WD} {T d:Tv} (h:An w T) (a:Ed w T d c) (n:∀ j,j∈d.js->(0<j.2.sn->∀ k o,j.2.so=some ⟨k,o,none⟩->k≠w.heap.size+1)/\(0<j.2.gn->∀ k o,j.2.go=some ⟨k,o,none⟩->k≠w.heap.size+1)) {m a1 a2:VL} (b:c.heap[w.heap.size+1]?=some (.cells #[m,a1,a2] 35 (0,0))) (g i l:VL) :
  Ed w T d (((c.setCell ⟨w.heap.size+1,0,none⟩ g).setCell ⟨w.heap.size+1,1,none⟩ i).setCell ⟨w.heap.size+1,2,none⟩ l):=by
 have f:=(((Mod.refl (fun k=>k=w.heap.size+1) c).set _ 0 g rfl).set _ 1 i rfl).set _ 2 l rfl;have p:=Ab h.head;exact ⟨a.at_.fp b f (by rw [a.tb];omega) (by decide) (by decide) (by decide) (by decide) (by decide) (by decide) n,a.tb,a.fb,a.fm,a.fl,a.vs,a.aw,a.mod.then f (fun k q e=>by omega),a.dz⟩
def Ed.low {w w1 d:WD}  (a:Ed w T b w1) (c:BW w1.heap.size w1 d):Ed w T b d:=⟨a.at_.low c,a.tb,a.fb,a.fm,a.fl,a.vs,a.aw,a.mod.low c,a.dz⟩
def Ed.back {w w1 i:WD} {T g:Tv} (a:Ed w1 T g i) (d:BW w.heap.size w w1):Ed w T g i:=
 ⟨a.at_,a.tb,a.fb,a.fm,a.fl,a.vs,fun b c=>(a.aw b c).imp id (fun e=>A5 d.size e),(Mod.af d).trans a.mod,fun j h=>⟨fun h0 k o e f=>(a.dz j h).1 h0 k o e (Bx f d.size),fun h0 k o e f=>(a.dz j h).2 h0 k o e (Bx f d.size)⟩⟩
def Ed.np {w w1 d:WD}  (a:Ed w T b w1) (l:List (Int×Cl)) (f:Mod (fun k=>k=b.mb) w1 d) (g:L6 d b.mb l):Ed w T { b with cls:=l } d:=
 ⟨a.at_.np l f g,a.tb,a.fb,a.fm,a.fl,a.vs,a.aw,a.mod.then f (fun k h e=>by
  rcases a.aw k (by rw [e];exact .inr (.inl rfl)) with c | c
  .exact c
  .omega),a.dz⟩
def Ed.same   (h:An w T):Ed w T T w:=⟨h,rfl,rfl,rfl,rfl,rfl,fun _ c=>.inl c,Mod.refl _ _,If.refl _ _⟩
def Ax9   (x:cz) (h:An w T) (t:x.ok w) (l:T.js.length<=1000000) (p:Fl T.vs T.pl x.pl≠0) :
  CS prog 15 #[.pointer (some ⟨T.tb,0,none⟩),x.val] w (Ace w T (Eo T.vs T.pl x.pl)):=by
 have n:Eo T.vs T.pl x.pl=(T.pl,⟨0,0,0,0⟩,Fl T.vs T.pl x.pl):=by unfold Eo;rw [Ad p]
 rw [n];have a:=r9.new w x;obtain ⟨W0,g⟩:=Ex ((w.alloc (.cells x.cells 40 (0,0))).alloc (.cells #[.int .i64 0,.int .i64 0,.int .i64 0] 35 (0,0)));rw [<- g] at a;have q:=Akf x (h.low a.low) l (t.low a.low);obtain ⟨r,i⟩:=Ex (Fl T.vs T.pl x.pl);rw [<- i] at q p;rw [<- i];have ad:(r != 0)=true:=by simpa using p
 obtain ⟨⟨ac,ah,tick,ag,seq,br,attempt,node,bm⟩,so,m,sc,de⟩:=x;obtain ⟨u,y,z,e3,e4,e5,e6,e7,e8,e9⟩:=C10 a.box;(try dsimp only at u y z e3 e4 e5 e6 e7 e8 e9);clear n i p;replace ⟨h,t,a,q,l⟩:=H5 h t a q l;go_enter func15,ntmps15;go_upto_region 1 with fail;rw [<- g];clear g;go_upto_region 3 with (go_at_call 31;(with_reducible refine (q.out).mono ?_);rintro e w1 ⟨rfl,f⟩;replace f:=Hh f);clear u y z e3 e4 e5 e6 e7 e8 e9;have b:=Ae f.out a.res (Ab a.res);have d:=a.low.trans (f.mono a.low.size);obtain ⟨r0,r1,r2⟩:=C3 b;(try dsimp only at r0 r1 r2);have fr:=Af b;have s:=((Ed.same h.out).low d).qb h.out (fun j l=>⟨fun c k o e=>by have:=Ld (h.ok j l).after.row c e;omega,fun c k o e=>by have:=Ld (h.ok j l).ak.row c e;omega⟩) b (.int .i64 0) (.int .i64 0) (.int .i64 0);replace ⟨b,d,s⟩:=H3 b d s;go_wp2_with fail;exact Ak (v:=.tuple #[Gv ⟨0,0,0,0⟩,.int .i64 r]) (by simp [results,results15,go_sem,r0,r1,r2]) rfl ⟨rfl,T,s.out,rfl⟩
