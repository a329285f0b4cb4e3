/- The table, plain: a scheduling pass; Apply. -/
import Derived.Test.YtimlcnhcjndijaaGreatDoorQ23
import Derived.Test.YtimlcnhcjndijaaGreatDoorQ28
set_option linter.all false
set_option maxRecDepth 100000
set_option maxHeartbeats 1600000
namespace Go.Proofs.YtimlcnhcjndijaaGreatDoor
def Ej (vs:List ax) (j:Jb):Pl.Ask:=⟨j.id,none,0,0,Ce vs j.sp.part,j.sp.nodes,j.sp.dn,j.sp.wall+8,j.start,none,0,0,j.aj⟩
def Li (h:List Int×V4×Int):Pl.At:=⟨none,0,0,h.1,h.2.1,h.2.2⟩
def Dk (vs:List ax) (js:List Jb):List Pl.Ask:=(Jm (Dv vs ByteArray.empty) (C8 js) (Bi js)).map fun i=>Ej vs (Ew js (A5 (Bi js) i).id)
open Classical in
noncomputable def Oc (aw:List V4) (now:Int) (bs:List Bool) (hs:List Pl.At) (asks:List Pl.Ask):List (Int×Int×List Int):=
 if h:∃ slots,Pl.Kk aw now bs hs asks slots then h.choose.map Pl.Au.key else []
def Zy {d:List V4} {c:Int} {e:List Bool} {f:List Pl.At} {b:List Pl.Ask} {a:List Pl.Au} (h:Pl.Kk d c e (f) b a):Oc d c e (f.map Pl.At.er) (b.map Pl.Ask.er)=a.map Pl.Au.key:=by
 have g:=Pl.Aft h;have i:∃ a,Pl.Kk d c e (f.map Pl.At.er) (b.map Pl.Ask.er) a:=⟨_,g⟩;unfold Oc;rw [dif_pos i,Pl.Arp i.choose_spec g];simp [Pl.Au.key,Pl.Au.er,G6]
def Art {d:List V4} {a r:Int} {e:List Bool} {f:List Pl.At} (b:List Pl.Ask) (h:Pl.Iz d e.length a f r []) (g:r≠0):Oc d a e (f.map Pl.At.er) b=[]:=by
 unfold Oc;rw [dif_neg];rintro ⟨c,i⟩;obtain ⟨k,l,m,st,rd,j,_⟩:=i.go;exact g (Pl.Ari (Pl.Zx h) j)
def Cc (tick:Int) (js:List Jb):List Jb:=Is (js.map (If tick))
noncomputable def Gj (vs:List ax) (tick:Int) (bs:List Bool) (js:List Jb):List (Int×Int×List Int):=Oc (vs.map ax.cap) tick bs ((E7 js).map Li) (Dk vs js)
noncomputable def O5 (vs:List ax) (tick:Int) (bs:List Bool) (js:List Jb):List Jb:=Gh tick (Gj vs tick bs js) (js.map F4)
noncomputable def Od (vs:List ax) (t:di) (tick:Int):di:={ t with tick:=tick,ab:=O5 vs tick (nf { t with tick:=tick }) (Cc tick t.ab) }
end Go.Proofs.YtimlcnhcjndijaaGreatDoor
