/- Plain texts of this claim, part 4. By an AI agent. -/
import Derived.Test.YtfpckpgnnplhnaaGreatSwTlP3
import Derived.Carry
import Derived.Deep.Slices
import Derived.KernelRfl
import Derived.Lib.SmallJoins
import Derived.RowKit
import Derived.Shelf.SlSortCmp.Whole1
import Derived.Shelf.Slices.CompactI
import Derived.Shelf.Slices.SearchI
import Derived.Shelf.Sort.Plain
set_option linter.all false
set_option maxRecDepth 100000
namespace TL
def xl:List (List Bd):=[[(1,2,2,0),(2,3,4,0),(2,15,5,0),(3,4,6,0),(3,16,7,0),(4,5,8,0),(4,17,9,0),(5,6,10,0),(5,18,11,0),(6,7,12,0),(6,19,13,0),(7,8,14,0),(7,20,15,0),(8,9,16,0),(8,21,17,0),(9,10,18,0),(9,22,19,0),(10,11,20,0),(10,23,21,0),(11,12,22,0),(11,24,23,0),(12,25,24,0),(14,15,26,0),(15,16,27,0),(16,17,28,0),(17,18,29,0),(18,19,30,0),(19,20,31,0),(20,21,32,0),(21,22,33,0),(22,23,34,0),(23,24,35,0),(24,25,36,0),(1,14,-1,2)],[(0,1,0,0),(0,14,-1,0),(1,14,-1,1)]]
def zm:List cB:=[(1,[(0,13,1,0),(13,14,25,0),(0,14,-1,0)]),(2,[(1,14,3,0),(1,14,-1,1),(1,14,-1,2)])]
theorem E4:gS 4 [dI (c7 13 2)] [] 0 (ft xl zm 3)=true:=by decide+kernel
def xz:List (List Bd):=[[(2,3,4,0),(3,4,6,0),(3,16,7,0),(4,5,8,0),(4,17,9,0),(5,6,10,0),(5,18,11,0),(6,7,12,0),(6,19,13,0),(7,8,14,0),(7,20,15,0),(8,9,16,0),(8,21,17,0),(9,10,18,0),(9,22,19,0),(10,11,20,0),(10,23,21,0),(11,12,22,0),(11,24,23,0),(12,25,24,0),(15,16,27,0),(16,17,28,0),(17,18,29,0),(18,19,30,0),(19,20,31,0),(20,21,32,0),(21,22,33,0),(22,23,34,0),(23,24,35,0),(24,25,36,0),(2,15,-1,5)],[(1,2,2,0),(1,15,-1,3),(2,15,-1,4)],[(0,1,0,0),(0,14,-1,0),(1,14,-1,1)]]
def zL:List cB:=[(1,[(0,13,1,0),(13,14,25,0),(0,14,-1,0)]),(2,[(1,14,3,0),(1,14,-1,1),(1,14,-1,2)]),(1,[(14,15,26,0),(1,14,-1,2),(1,15,-1,3)]),(2,[(2,15,5,0),(2,15,-1,4),(2,15,-1,5)])]
theorem DL:gS 4 xl zm 3 (ft xz zL 6)=true:=by decide+kernel
def wf:List (List Bd):=[[(3,4,6,0),(4,5,8,0),(4,17,9,0),(5,6,10,0),(5,18,11,0),(6,7,12,0),(6,19,13,0),(7,8,14,0),(7,20,15,0),(8,9,16,0),(8,21,17,0),(9,10,18,0),(9,22,19,0),(10,11,20,0),(10,23,21,0),(11,12,22,0),(11,24,23,0),(12,25,24,0),(16,17,28,0),(17,18,29,0),(18,19,30,0),(19,20,31,0),(20,21,32,0),(21,22,33,0),(22,23,34,0),(23,24,35,0),(24,25,36,0),(3,16,-1,8)],[(2,3,4,0),(2,16,-1,6),(3,16,-1,7)],[(1,2,2,0),(1,15,-1,3),(2,15,-1,4)],[(0,1,0,0),(0,14,-1,0),(1,14,-1,1)]]
def xI:List cB:=[(1,[(0,13,1,0),(13,14,25,0),(0,14,-1,0)]),(2,[(1,14,3,0),(1,14,-1,1),(1,14,-1,2)]),(1,[(14,15,26,0),(1,14,-1,2),(1,15,-1,3)]),(2,[(2,15,5,0),(2,15,-1,4),(2,15,-1,5)]),(1,[(15,16,27,0),(2,15,-1,5),(2,16,-1,6)]),(2,[(3,16,7,0),(3,16,-1,7),(3,16,-1,8)])]
theorem D2:gS 4 xz zL 6 (ft wf xI 9)=true:=by decide+kernel
def Ay:List (List Bd):=[[(4,5,8,0),(5,6,10,0),(5,18,11,0),(6,7,12,0),(6,19,13,0),(7,8,14,0),(7,20,15,0),(8,9,16,0),(8,21,17,0),(9,10,18,0),(9,22,19,0),(10,11,20,0),(10,23,21,0),(11,12,22,0),(11,24,23,0),(12,25,24,0),(17,18,29,0),(18,19,30,0),(19,20,31,0),(20,21,32,0),(21,22,33,0),(22,23,34,0),(23,24,35,0),(24,25,36,0),(4,17,-1,11)],[(3,4,6,0),(3,17,-1,9),(4,17,-1,10)],[(2,3,4,0),(2,16,-1,6),(3,16,-1,7)],[(1,2,2,0),(1,15,-1,3),(2,15,-1,4)],[(0,1,0,0),(0,14,-1,0),(1,14,-1,1)]]
def xf:List cB:=[(1,[(0,13,1,0),(13,14,25,0),(0,14,-1,0)]),(2,[(1,14,3,0),(1,14,-1,1),(1,14,-1,2)]),(1,[(14,15,26,0),(1,14,-1,2),(1,15,-1,3)]),(2,[(2,15,5,0),(2,15,-1,4),(2,15,-1,5)]),(1,[(15,16,27,0),(2,15,-1,5),(2,16,-1,6)]),(2,[(3,16,7,0),(3,16,-1,7),(3,16,-1,8)]),(1,[(16,17,28,0),(3,16,-1,8),(3,17,-1,9)]),(2,[(4,17,9,0),(4,17,-1,10),(4,17,-1,11)])]
theorem E8:gS 4 wf xI 9 (ft Ay xf 12)=true:=by decide+kernel
def wD:List (List Bd):=[[(5,6,10,0),(6,7,12,0),(6,19,13,0),(7,8,14,0),(7,20,15,0),(8,9,16,0),(8,21,17,0),(9,10,18,0),(9,22,19,0),(10,11,20,0),(10,23,21,0),(11,12,22,0),(11,24,23,0),(12,25,24,0),(18,19,30,0),(19,20,31,0),(20,21,32,0),(21,22,33,0),(22,23,34,0),(23,24,35,0),(24,25,36,0),(5,18,-1,14)],[(4,5,8,0),(4,18,-1,12),(5,18,-1,13)],[(3,4,6,0),(3,17,-1,9),(4,17,-1,10)],[(2,3,4,0),(2,16,-1,6),(3,16,-1,7)],[(1,2,2,0),(1,15,-1,3),(2,15,-1,4)],[(0,1,0,0),(0,14,-1,0),(1,14,-1,1)]]
def At:List cB:=[(1,[(0,13,1,0),(13,14,25,0),(0,14,-1,0)]),(2,[(1,14,3,0),(1,14,-1,1),(1,14,-1,2)]),(1,[(14,15,26,0),(1,14,-1,2),(1,15,-1,3)]),(2,[(2,15,5,0),(2,15,-1,4),(2,15,-1,5)]),(1,[(15,16,27,0),(2,15,-1,5),(2,16,-1,6)]),(2,[(3,16,7,0),(3,16,-1,7),(3,16,-1,8)]),(1,[(16,17,28,0),(3,16,-1,8),(3,17,-1,9)]),(2,[(4,17,9,0),(4,17,-1,10),(4,17,-1,11)]),(1,[(17,18,29,0),(4,17,-1,11),(4,18,-1,12)]),(2,[(5,18,11,0),(5,18,-1,13),(5,18,-1,14)])]
theorem D5:gS 4 Ay xf 12 (ft wD At 15)=true:=by decide+kernel
def wv:List (List Bd):=[[(6,7,12,0),(7,8,14,0),(7,20,15,0),(8,9,16,0),(8,21,17,0),(9,10,18,0),(9,22,19,0),(10,11,20,0),(10,23,21,0),(11,12,22,0),(11,24,23,0),(12,25,24,0),(19,20,31,0),(20,21,32,0),(21,22,33,0),(22,23,34,0),(23,24,35,0),(24,25,36,0),(6,19,-1,17)],[(5,6,10,0),(5,19,-1,15),(6,19,-1,16)],[(4,5,8,0),(4,18,-1,12),(5,18,-1,13)],[(3,4,6,0),(3,17,-1,9),(4,17,-1,10)],[(2,3,4,0),(2,16,-1,6),(3,16,-1,7)],[(1,2,2,0),(1,15,-1,3),(2,15,-1,4)],[(0,1,0,0),(0,14,-1,0),(1,14,-1,1)]]
def zi:List cB:=[(1,[(0,13,1,0),(13,14,25,0),(0,14,-1,0)]),(2,[(1,14,3,0),(1,14,-1,1),(1,14,-1,2)]),(1,[(14,15,26,0),(1,14,-1,2),(1,15,-1,3)]),(2,[(2,15,5,0),(2,15,-1,4),(2,15,-1,5)]),(1,[(15,16,27,0),(2,15,-1,5),(2,16,-1,6)]),(2,[(3,16,7,0),(3,16,-1,7),(3,16,-1,8)]),(1,[(16,17,28,0),(3,16,-1,8),(3,17,-1,9)]),(2,[(4,17,9,0),(4,17,-1,10),(4,17,-1,11)]),(1,[(17,18,29,0),(4,17,-1,11),(4,18,-1,12)]),(2,[(5,18,11,0),(5,18,-1,13),(5,18,-1,14)]),(1,[(18,19,30,0),(5,18,-1,14),(5,19,-1,15)]),(2,[(6,19,13,0),(6,19,-1,16),(6,19,-1,17)])]
theorem DO:gS 4 wD At 15 (ft wv zi 18)=true:=by decide+kernel
def zo:List (List Bd):=[[(7,8,14,0),(8,9,16,0),(8,21,17,0),(9,10,18,0),(9,22,19,0),(10,11,20,0),(10,23,21,0),(11,12,22,0),(11,24,23,0),(12,25,24,0),(20,21,32,0),(21,22,33,0),(22,23,34,0),(23,24,35,0),(24,25,36,0),(7,20,-1,20)],[(6,7,12,0),(6,20,-1,18),(7,20,-1,19)],[(5,6,10,0),(5,19,-1,15),(6,19,-1,16)],[(4,5,8,0),(4,18,-1,12),(5,18,-1,13)],[(3,4,6,0),(3,17,-1,9),(4,17,-1,10)],[(2,3,4,0),(2,16,-1,6),(3,16,-1,7)],[(1,2,2,0),(1,15,-1,3),(2,15,-1,4)],[(0,1,0,0),(0,14,-1,0),(1,14,-1,1)]]
def wS:List cB:=[(1,[(0,13,1,0),(13,14,25,0),(0,14,-1,0)]),(2,[(1,14,3,0),(1,14,-1,1),(1,14,-1,2)]),(1,[(14,15,26,0),(1,14,-1,2),(1,15,-1,3)]),(2,[(2,15,5,0),(2,15,-1,4),(2,15,-1,5)]),(1,[(15,16,27,0),(2,15,-1,5),(2,16,-1,6)]),(2,[(3,16,7,0),(3,16,-1,7),(3,16,-1,8)]),(1,[(16,17,28,0),(3,16,-1,8),(3,17,-1,9)]),(2,[(4,17,9,0),(4,17,-1,10),(4,17,-1,11)]),(1,[(17,18,29,0),(4,17,-1,11),(4,18,-1,12)]),(2,[(5,18,11,0),(5,18,-1,13),(5,18,-1,14)]),(1,[(18,19,30,0),(5,18,-1,14),(5,19,-1,15)]),(2,[(6,19,13,0),(6,19,-1,16),(6,19,-1,17)]),(1,[(19,20,31,0),(6,19,-1,17),(6,20,-1,18)]),(2,[(7,20,15,0),(7,20,-1,19),(7,20,-1,20)])]
theorem DF:gS 4 wv zi 18 (ft zo wS 21)=true:=by decide+kernel
def x2:List (List Bd):=[[(8,9,16,0),(9,10,18,0),(9,22,19,0),(10,11,20,0),(10,23,21,0),(11,12,22,0),(11,24,23,0),(12,25,24,0),(21,22,33,0),(22,23,34,0),(23,24,35,0),(24,25,36,0),(8,21,-1,23)],[(7,8,14,0),(7,21,-1,21),(8,21,-1,22)],[(6,7,12,0),(6,20,-1,18),(7,20,-1,19)],[(5,6,10,0),(5,19,-1,15),(6,19,-1,16)],[(4,5,8,0),(4,18,-1,12),(5,18,-1,13)],[(3,4,6,0),(3,17,-1,9),(4,17,-1,10)],[(2,3,4,0),(2,16,-1,6),(3,16,-1,7)],[(1,2,2,0),(1,15,-1,3),(2,15,-1,4)],[(0,1,0,0),(0,14,-1,0),(1,14,-1,1)]]
def B2:List cB:=[(1,[(0,13,1,0),(13,14,25,0),(0,14,-1,0)]),(2,[(1,14,3,0),(1,14,-1,1),(1,14,-1,2)]),(1,[(14,15,26,0),(1,14,-1,2),(1,15,-1,3)]),(2,[(2,15,5,0),(2,15,-1,4),(2,15,-1,5)]),(1,[(15,16,27,0),(2,15,-1,5),(2,16,-1,6)]),(2,[(3,16,7,0),(3,16,-1,7),(3,16,-1,8)]),(1,[(16,17,28,0),(3,16,-1,8),(3,17,-1,9)]),(2,[(4,17,9,0),(4,17,-1,10),(4,17,-1,11)]),(1,[(17,18,29,0),(4,17,-1,11),(4,18,-1,12)]),(2,[(5,18,11,0),(5,18,-1,13),(5,18,-1,14)]),(1,[(18,19,30,0),(5,18,-1,14),(5,19,-1,15)]),(2,[(6,19,13,0),(6,19,-1,16),(6,19,-1,17)]),(1,[(19,20,31,0),(6,19,-1,17),(6,20,-1,18)]),(2,[(7,20,15,0),(7,20,-1,19),(7,20,-1,20)]),(1,[(20,21,32,0),(7,20,-1,20),(7,21,-1,21)]),(2,[(8,21,17,0),(8,21,-1,22),(8,21,-1,23)])]
theorem DV:gS 4 zo wS 21 (ft x2 B2 24)=true:=by decide+kernel
def Ah:List (List Bd):=[[(9,10,18,0),(10,11,20,0),(10,23,21,0),(11,12,22,0),(11,24,23,0),(12,25,24,0),(22,23,34,0),(23,24,35,0),(24,25,36,0),(9,22,-1,26)],[(8,9,16,0),(8,22,-1,24),(9,22,-1,25)],[(7,8,14,0),(7,21,-1,21),(8,21,-1,22)],[(6,7,12,0),(6,20,-1,18),(7,20,-1,19)],[(5,6,10,0),(5,19,-1,15),(6,19,-1,16)],[(4,5,8,0),(4,18,-1,12),(5,18,-1,13)],[(3,4,6,0),(3,17,-1,9),(4,17,-1,10)],[(2,3,4,0),(2,16,-1,6),(3,16,-1,7)],[(1,2,2,0),(1,15,-1,3),(2,15,-1,4)],[(0,1,0,0),(0,14,-1,0),(1,14,-1,1)]]
def xy:List cB:=[(1,[(0,13,1,0),(13,14,25,0),(0,14,-1,0)]),(2,[(1,14,3,0),(1,14,-1,1),(1,14,-1,2)]),(1,[(14,15,26,0),(1,14,-1,2),(1,15,-1,3)]),(2,[(2,15,5,0),(2,15,-1,4),(2,15,-1,5)]),(1,[(15,16,27,0),(2,15,-1,5),(2,16,-1,6)]),(2,[(3,16,7,0),(3,16,-1,7),(3,16,-1,8)]),(1,[(16,17,28,0),(3,16,-1,8),(3,17,-1,9)]),(2,[(4,17,9,0),(4,17,-1,10),(4,17,-1,11)]),(1,[(17,18,29,0),(4,17,-1,11),(4,18,-1,12)]),(2,[(5,18,11,0),(5,18,-1,13),(5,18,-1,14)]),(1,[(18,19,30,0),(5,18,-1,14),(5,19,-1,15)]),(2,[(6,19,13,0),(6,19,-1,16),(6,19,-1,17)]),(1,[(19,20,31,0),(6,19,-1,17),(6,20,-1,18)]),(2,[(7,20,15,0),(7,20,-1,19),(7,20,-1,20)]),(1,[(20,21,32,0),(7,20,-1,20),(7,21,-1,21)]),(2,[(8,21,17,0),(8,21,-1,22),(8,21,-1,23)]),(1,[(21,22,33,0),(8,21,-1,23),(8,22,-1,24)]),(2,[(9,22,19,0),(9,22,-1,25),(9,22,-1,26)])]
theorem DE:gS 4 x2 B2 24 (ft Ah xy 27)=true:=by decide+kernel
theorem ES:fq (c7 13 2) 12 11 0:=by
 have h:fK (2*(c7 13 2).2.length) [dI (c7 13 2)] [] 0=fK 38 Ah xy 27:=by
   rw[show 2*(c7 13 2).2.length=38+4*9 from by decide+kernel]
   rw[show 38+4*9=(38+4*8)+4 from rfl,iS E4]
   rw[show 38+4*8=(38+4*7)+4 from rfl,iS DL]
   rw[show 38+4*7=(38+4*6)+4 from rfl,iS D2]
   rw[show 38+4*6=(38+4*5)+4 from rfl,iS E8]
   rw[show 38+4*5=(38+4*4)+4 from rfl,iS D5]
   rw[show 38+4*4=(38+4*3)+4 from rfl,iS DO]
   rw[show 38+4*3=(38+4*2)+4 from rfl,iS DF]
   rw[show 38+4*2=(38+4*1)+4 from rfl,iS DV]
   rw[show 38+4*1=(38+4*0)+4 from rfl,iS DE]
 exact FE (by decide+kernel) h (by decide+kernel)
end TL
set_option linter.all false
set_option maxRecDepth 100000
namespace TL
def Ap:List (List Bd):=[[(1,2,2,0),(2,3,4,0),(2,16,5,0),(3,4,6,0),(3,17,7,0),(4,5,8,0),(4,18,9,0),(5,6,10,0),(5,19,11,0),(6,7,12,0),(6,20,13,0),(7,8,14,0),(7,21,15,0),(8,9,16,0),(8,22,17,0),(9,10,18,0),(9,23,19,0),(10,11,20,0),(10,24,21,0),(11,12,22,0),(11,25,23,0),(12,13,24,0),(12,26,25,0),(13,27,26,0),(15,16,28,0),(16,17,29,0),(17,18,30,0),(18,19,31,0),(19,20,32,0),(20,21,33,0),(21,22,34,0),(22,23,35,0),(23,24,36,0),(24,25,37,0),(25,26,38,0),(26,27,39,0),(1,15,-1,2)],[(0,1,0,0),(0,15,-1,0),(1,15,-1,1)]]
def zN:List cB:=[(1,[(0,14,1,0),(14,15,27,0),(0,15,-1,0)]),(2,[(1,15,3,0),(1,15,-1,1),(1,15,-1,2)])]
theorem E3:gS 4 [dI (c7 14 2)] [] 0 (ft Ap zN 3)=true:=by decide+kernel
def y8:List (List Bd):=[[(2,3,4,0),(3,4,6,0),(3,17,7,0),(4,5,8,0),(4,18,9,0),(5,6,10,0),(5,19,11,0),(6,7,12,0),(6,20,13,0),(7,8,14,0),(7,21,15,0),(8,9,16,0),(8,22,17,0),(9,10,18,0),(9,23,19,0),(10,11,20,0),(10,24,21,0),(11,12,22,0),(11,25,23,0),(12,13,24,0),(12,26,25,0),(13,27,26,0),(16,17,29,0),(17,18,30,0),(18,19,31,0),(19,20,32,0),(20,21,33,0),(21,22,34,0),(22,23,35,0),(23,24,36,0),(24,25,37,0),(25,26,38,0),(26,27,39,0),(2,16,-1,5)],[(1,2,2,0),(1,16,-1,3),(2,16,-1,4)],[(0,1,0,0),(0,15,-1,0),(1,15,-1,1)]]
def Ak:List cB:=[(1,[(0,14,1,0),(14,15,27,0),(0,15,-1,0)]),(2,[(1,15,3,0),(1,15,-1,1),(1,15,-1,2)]),(1,[(15,16,28,0),(1,15,-1,2),(1,16,-1,3)]),(2,[(2,16,5,0),(2,16,-1,4),(2,16,-1,5)])]
theorem DY:gS 4 Ap zN 3 (ft y8 Ak 6)=true:=by decide+kernel
def wl:List (List Bd):=[[(3,4,6,0),(4,5,8,0),(4,18,9,0),(5,6,10,0),(5,19,11,0),(6,7,12,0),(6,20,13,0),(7,8,14,0),(7,21,15,0),(8,9,16,0),(8,22,17,0),(9,10,18,0),(9,23,19,0),(10,11,20,0),(10,24,21,0),(11,12,22,0),(11,25,23,0),(12,13,24,0),(12,26,25,0),(13,27,26,0),(17,18,30,0),(18,19,31,0),(19,20,32,0),(20,21,33,0),(21,22,34,0),(22,23,35,0),(23,24,36,0),(24,25,37,0),(25,26,38,0),(26,27,39,0),(3,17,-1,8)],[(2,3,4,0),(2,17,-1,6),(3,17,-1,7)],[(1,2,2,0),(1,16,-1,3),(2,16,-1,4)],[(0,1,0,0),(0,15,-1,0),(1,15,-1,1)]]
def zq:List cB:=[(1,[(0,14,1,0),(14,15,27,0),(0,15,-1,0)]),(2,[(1,15,3,0),(1,15,-1,1),(1,15,-1,2)]),(1,[(15,16,28,0),(1,15,-1,2),(1,16,-1,3)]),(2,[(2,16,5,0),(2,16,-1,4),(2,16,-1,5)]),(1,[(16,17,29,0),(2,16,-1,5),(2,17,-1,6)]),(2,[(3,17,7,0),(3,17,-1,7),(3,17,-1,8)])]
theorem DH:gS 4 y8 Ak 6 (ft wl zq 9)=true:=by decide+kernel
def AD:List (List Bd):=[[(4,5,8,0),(5,6,10,0),(5,19,11,0),(6,7,12,0),(6,20,13,0),(7,8,14,0),(7,21,15,0),(8,9,16,0),(8,22,17,0),(9,10,18,0),(9,23,19,0),(10,11,20,0),(10,24,21,0),(11,12,22,0),(11,25,23,0),(12,13,24,0),(12,26,25,0),(13,27,26,0),(18,19,31,0),(19,20,32,0),(20,21,33,0),(21,22,34,0),(22,23,35,0),(23,24,36,0),(24,25,37,0),(25,26,38,0),(26,27,39,0),(4,18,-1,11)],[(3,4,6,0),(3,18,-1,9),(4,18,-1,10)],[(2,3,4,0),(2,17,-1,6),(3,17,-1,7)],[(1,2,2,0),(1,16,-1,3),(2,16,-1,4)],[(0,1,0,0),(0,15,-1,0),(1,15,-1,1)]]
def xb:List cB:=[(1,[(0,14,1,0),(14,15,27,0),(0,15,-1,0)]),(2,[(1,15,3,0),(1,15,-1,1),(1,15,-1,2)]),(1,[(15,16,28,0),(1,15,-1,2),(1,16,-1,3)]),(2,[(2,16,5,0),(2,16,-1,4),(2,16,-1,5)]),(1,[(16,17,29,0),(2,16,-1,5),(2,17,-1,6)]),(2,[(3,17,7,0),(3,17,-1,7),(3,17,-1,8)]),(1,[(17,18,30,0),(3,17,-1,8),(3,18,-1,9)]),(2,[(4,18,9,0),(4,18,-1,10),(4,18,-1,11)])]
theorem Dv:gS 4 wl zq 9 (ft AD xb 12)=true:=by decide+kernel
def A9:List (List Bd):=[[(5,6,10,0),(6,7,12,0),(6,20,13,0),(7,8,14,0),(7,21,15,0),(8,9,16,0),(8,22,17,0),(9,10,18,0),(9,23,19,0),(10,11,20,0),(10,24,21,0),(11,12,22,0),(11,25,23,0),(12,13,24,0),(12,26,25,0),(13,27,26,0),(19,20,32,0),(20,21,33,0),(21,22,34,0),(22,23,35,0),(23,24,36,0),(24,25,37,0),(25,26,38,0),(26,27,39,0),(5,19,-1,14)],[(4,5,8,0),(4,19,-1,12),(5,19,-1,13)],[(3,4,6,0),(3,18,-1,9),(4,18,-1,10)],[(2,3,4,0),(2,17,-1,6),(3,17,-1,7)],[(1,2,2,0),(1,16,-1,3),(2,16,-1,4)],[(0,1,0,0),(0,15,-1,0),(1,15,-1,1)]]
def xG:List cB:=[(1,[(0,14,1,0),(14,15,27,0),(0,15,-1,0)]),(2,[(1,15,3,0),(1,15,-1,1),(1,15,-1,2)]),(1,[(15,16,28,0),(1,15,-1,2),(1,16,-1,3)]),(2,[(2,16,5,0),(2,16,-1,4),(2,16,-1,5)]),(1,[(16,17,29,0),(2,16,-1,5),(2,17,-1,6)]),(2,[(3,17,7,0),(3,17,-1,7),(3,17,-1,8)]),(1,[(17,18,30,0),(3,17,-1,8),(3,18,-1,9)]),(2,[(4,18,9,0),(4,18,-1,10),(4,18,-1,11)]),(1,[(18,19,31,0),(4,18,-1,11),(4,19,-1,12)]),(2,[(5,19,11,0),(5,19,-1,13),(5,19,-1,14)])]
theorem DS:gS 4 AD xb 12 (ft A9 xG 15)=true:=by decide+kernel
def Au:List (List Bd):=[[(6,7,12,0),(7,8,14,0),(7,21,15,0),(8,9,16,0),(8,22,17,0),(9,10,18,0),(9,23,19,0),(10,11,20,0),(10,24,21,0),(11,12,22,0),(11,25,23,0),(12,13,24,0),(12,26,25,0),(13,27,26,0),(20,21,33,0),(21,22,34,0),(22,23,35,0),(23,24,36,0),(24,25,37,0),(25,26,38,0),(26,27,39,0),(6,20,-1,17)],[(5,6,10,0),(5,20,-1,15),(6,20,-1,16)],[(4,5,8,0),(4,19,-1,12),(5,19,-1,13)],[(3,4,6,0),(3,18,-1,9),(4,18,-1,10)],[(2,3,4,0),(2,17,-1,6),(3,17,-1,7)],[(1,2,2,0),(1,16,-1,3),(2,16,-1,4)],[(0,1,0,0),(0,15,-1,0),(1,15,-1,1)]]
def AW:List cB:=[(1,[(0,14,1,0),(14,15,27,0),(0,15,-1,0)]),(2,[(1,15,3,0),(1,15,-1,1),(1,15,-1,2)]),(1,[(15,16,28,0),(1,15,-1,2),(1,16,-1,3)]),(2,[(2,16,5,0),(2,16,-1,4),(2,16,-1,5)]),(1,[(16,17,29,0),(2,16,-1,5),(2,17,-1,6)]),(2,[(3,17,7,0),(3,17,-1,7),(3,17,-1,8)]),(1,[(17,18,30,0),(3,17,-1,8),(3,18,-1,9)]),(2,[(4,18,9,0),(4,18,-1,10),(4,18,-1,11)]),(1,[(18,19,31,0),(4,18,-1,11),(4,19,-1,12)]),(2,[(5,19,11,0),(5,19,-1,13),(5,19,-1,14)]),(1,[(19,20,32,0),(5,19,-1,14),(5,20,-1,15)]),(2,[(6,20,13,0),(6,20,-1,16),(6,20,-1,17)])]
theorem D7:gS 4 A9 xG 15 (ft Au AW 18)=true:=by decide+kernel
def wO:List (List Bd):=[[(7,8,14,0),(8,9,16,0),(8,22,17,0),(9,10,18,0),(9,23,19,0),(10,11,20,0),(10,24,21,0),(11,12,22,0),(11,25,23,0),(12,13,24,0),(12,26,25,0),(13,27,26,0),(21,22,34,0),(22,23,35,0),(23,24,36,0),(24,25,37,0),(25,26,38,0),(26,27,39,0),(7,21,-1,20)],[(6,7,12,0),(6,21,-1,18),(7,21,-1,19)],[(5,6,10,0),(5,20,-1,15),(6,20,-1,16)],[(4,5,8,0),(4,19,-1,12),(5,19,-1,13)],[(3,4,6,0),(3,18,-1,9),(4,18,-1,10)],[(2,3,4,0),(2,17,-1,6),(3,17,-1,7)],[(1,2,2,0),(1,16,-1,3),(2,16,-1,4)],[(0,1,0,0),(0,15,-1,0),(1,15,-1,1)]]
def wP:List cB:=[(1,[(0,14,1,0),(14,15,27,0),(0,15,-1,0)]),(2,[(1,15,3,0),(1,15,-1,1),(1,15,-1,2)]),(1,[(15,16,28,0),(1,15,-1,2),(1,16,-1,3)]),(2,[(2,16,5,0),(2,16,-1,4),(2,16,-1,5)]),(1,[(16,17,29,0),(2,16,-1,5),(2,17,-1,6)]),(2,[(3,17,7,0),(3,17,-1,7),(3,17,-1,8)]),(1,[(17,18,30,0),(3,17,-1,8),(3,18,-1,9)]),(2,[(4,18,9,0),(4,18,-1,10),(4,18,-1,11)]),(1,[(18,19,31,0),(4,18,-1,11),(4,19,-1,12)]),(2,[(5,19,11,0),(5,19,-1,13),(5,19,-1,14)]),(1,[(19,20,32,0),(5,19,-1,14),(5,20,-1,15)]),(2,[(6,20,13,0),(6,20,-1,16),(6,20,-1,17)]),(1,[(20,21,33,0),(6,20,-1,17),(6,21,-1,18)]),(2,[(7,21,15,0),(7,21,-1,19),(7,21,-1,20)])]
theorem D9:gS 4 Au AW 18 (ft wO wP 21)=true:=by decide+kernel
def zV:List (List Bd):=[[(8,9,16,0),(9,10,18,0),(9,23,19,0),(10,11,20,0),(10,24,21,0),(11,12,22,0),(11,25,23,0),(12,13,24,0),(12,26,25,0),(13,27,26,0),(22,23,35,0),(23,24,36,0),(24,25,37,0),(25,26,38,0),(26,27,39,0),(8,22,-1,23)],[(7,8,14,0),(7,22,-1,21),(8,22,-1,22)],[(6,7,12,0),(6,21,-1,18),(7,21,-1,19)],[(5,6,10,0),(5,20,-1,15),(6,20,-1,16)],[(4,5,8,0),(4,19,-1,12),(5,19,-1,13)],[(3,4,6,0),(3,18,-1,9),(4,18,-1,10)],[(2,3,4,0),(2,17,-1,6),(3,17,-1,7)],[(1,2,2,0),(1,16,-1,3),(2,16,-1,4)],[(0,1,0,0),(0,15,-1,0),(1,15,-1,1)]]
def zb:List cB:=[(1,[(0,14,1,0),(14,15,27,0),(0,15,-1,0)]),(2,[(1,15,3,0),(1,15,-1,1),(1,15,-1,2)]),(1,[(15,16,28,0),(1,15,-1,2),(1,16,-1,3)]),(2,[(2,16,5,0),(2,16,-1,4),(2,16,-1,5)]),(1,[(16,17,29,0),(2,16,-1,5),(2,17,-1,6)]),(2,[(3,17,7,0),(3,17,-1,7),(3,17,-1,8)]),(1,[(17,18,30,0),(3,17,-1,8),(3,18,-1,9)]),(2,[(4,18,9,0),(4,18,-1,10),(4,18,-1,11)]),(1,[(18,19,31,0),(4,18,-1,11),(4,19,-1,12)]),(2,[(5,19,11,0),(5,19,-1,13),(5,19,-1,14)]),(1,[(19,20,32,0),(5,19,-1,14),(5,20,-1,15)]),(2,[(6,20,13,0),(6,20,-1,16),(6,20,-1,17)]),(1,[(20,21,33,0),(6,20,-1,17),(6,21,-1,18)]),(2,[(7,21,15,0),(7,21,-1,19),(7,21,-1,20)]),(1,[(21,22,34,0),(7,21,-1,20),(7,22,-1,21)]),(2,[(8,22,17,0),(8,22,-1,22),(8,22,-1,23)])]
theorem Dk:gS 4 wO wP 21 (ft zV zb 24)=true:=by decide+kernel
def z7:List (List Bd):=[[(9,10,18,0),(10,11,20,0),(10,24,21,0),(11,12,22,0),(11,25,23,0),(12,13,24,0),(12,26,25,0),(13,27,26,0),(23,24,36,0),(24,25,37,0),(25,26,38,0),(26,27,39,0),(9,23,-1,26)],[(8,9,16,0),(8,23,-1,24),(9,23,-1,25)],[(7,8,14,0),(7,22,-1,21),(8,22,-1,22)],[(6,7,12,0),(6,21,-1,18),(7,21,-1,19)],[(5,6,10,0),(5,20,-1,15),(6,20,-1,16)],[(4,5,8,0),(4,19,-1,12),(5,19,-1,13)],[(3,4,6,0),(3,18,-1,9),(4,18,-1,10)],[(2,3,4,0),(2,17,-1,6),(3,17,-1,7)],[(1,2,2,0),(1,16,-1,3),(2,16,-1,4)],[(0,1,0,0),(0,15,-1,0),(1,15,-1,1)]]
def z8:List cB:=[(1,[(0,14,1,0),(14,15,27,0),(0,15,-1,0)]),(2,[(1,15,3,0),(1,15,-1,1),(1,15,-1,2)]),(1,[(15,16,28,0),(1,15,-1,2),(1,16,-1,3)]),(2,[(2,16,5,0),(2,16,-1,4),(2,16,-1,5)]),(1,[(16,17,29,0),(2,16,-1,5),(2,17,-1,6)]),(2,[(3,17,7,0),(3,17,-1,7),(3,17,-1,8)]),(1,[(17,18,30,0),(3,17,-1,8),(3,18,-1,9)]),(2,[(4,18,9,0),(4,18,-1,10),(4,18,-1,11)]),(1,[(18,19,31,0),(4,18,-1,11),(4,19,-1,12)]),(2,[(5,19,11,0),(5,19,-1,13),(5,19,-1,14)]),(1,[(19,20,32,0),(5,19,-1,14),(5,20,-1,15)]),(2,[(6,20,13,0),(6,20,-1,16),(6,20,-1,17)]),(1,[(20,21,33,0),(6,20,-1,17),(6,21,-1,18)]),(2,[(7,21,15,0),(7,21,-1,19),(7,21,-1,20)]),(1,[(21,22,34,0),(7,21,-1,20),(7,22,-1,21)]),(2,[(8,22,17,0),(8,22,-1,22),(8,22,-1,23)]),(1,[(22,23,35,0),(8,22,-1,23),(8,23,-1,24)]),(2,[(9,23,19,0),(9,23,-1,25),(9,23,-1,26)])]
theorem Df:gS 4 zV zb 24 (ft z7 z8 27)=true:=by decide+kernel
def xL:List (List Bd):=[[(10,11,20,0),(11,12,22,0),(11,25,23,0),(12,13,24,0),(12,26,25,0),(13,27,26,0),(24,25,37,0),(25,26,38,0),(26,27,39,0),(10,24,-1,29)],[(9,10,18,0),(9,24,-1,27),(10,24,-1,28)],[(8,9,16,0),(8,23,-1,24),(9,23,-1,25)],[(7,8,14,0),(7,22,-1,21),(8,22,-1,22)],[(6,7,12,0),(6,21,-1,18),(7,21,-1,19)],[(5,6,10,0),(5,20,-1,15),(6,20,-1,16)],[(4,5,8,0),(4,19,-1,12),(5,19,-1,13)],[(3,4,6,0),(3,18,-1,9),(4,18,-1,10)],[(2,3,4,0),(2,17,-1,6),(3,17,-1,7)],[(1,2,2,0),(1,16,-1,3),(2,16,-1,4)],[(0,1,0,0),(0,15,-1,0),(1,15,-1,1)]]
def zM:List cB:=[(1,[(0,14,1,0),(14,15,27,0),(0,15,-1,0)]),(2,[(1,15,3,0),(1,15,-1,1),(1,15,-1,2)]),(1,[(15,16,28,0),(1,15,-1,2),(1,16,-1,3)]),(2,[(2,16,5,0),(2,16,-1,4),(2,16,-1,5)]),(1,[(16,17,29,0),(2,16,-1,5),(2,17,-1,6)]),(2,[(3,17,7,0),(3,17,-1,7),(3,17,-1,8)]),(1,[(17,18,30,0),(3,17,-1,8),(3,18,-1,9)]),(2,[(4,18,9,0),(4,18,-1,10),(4,18,-1,11)]),(1,[(18,19,31,0),(4,18,-1,11),(4,19,-1,12)]),(2,[(5,19,11,0),(5,19,-1,13),(5,19,-1,14)]),(1,[(19,20,32,0),(5,19,-1,14),(5,20,-1,15)]),(2,[(6,20,13,0),(6,20,-1,16),(6,20,-1,17)]),(1,[(20,21,33,0),(6,20,-1,17),(6,21,-1,18)]),(2,[(7,21,15,0),(7,21,-1,19),(7,21,-1,20)]),(1,[(21,22,34,0),(7,21,-1,20),(7,22,-1,21)]),(2,[(8,22,17,0),(8,22,-1,22),(8,22,-1,23)]),(1,[(22,23,35,0),(8,22,-1,23),(8,23,-1,24)]),(2,[(9,23,19,0),(9,23,-1,25),(9,23,-1,26)]),(1,[(23,24,36,0),(9,23,-1,26),(9,24,-1,27)]),(2,[(10,24,21,0),(10,24,-1,28),(10,24,-1,29)])]
theorem DJ:gS 4 z7 z8 27 (ft xL zM 30)=true:=by decide+kernel
theorem F0:fq (c7 14 2) 13 12 0:=by
 have h:fK (2*(c7 14 2).2.length) [dI (c7 14 2)] [] 0=fK 40 xL zM 30:=by
   rw[show 2*(c7 14 2).2.length=40+4*10 from by decide+kernel]
   rw[show 40+4*10=(40+4*9)+4 from rfl,iS E3]
   rw[show 40+4*9=(40+4*8)+4 from rfl,iS DY]
   rw[show 40+4*8=(40+4*7)+4 from rfl,iS DH]
   rw[show 40+4*7=(40+4*6)+4 from rfl,iS Dv]
   rw[show 40+4*6=(40+4*5)+4 from rfl,iS DS]
   rw[show 40+4*5=(40+4*4)+4 from rfl,iS D7]
   rw[show 40+4*4=(40+4*3)+4 from rfl,iS D9]
   rw[show 40+4*3=(40+4*2)+4 from rfl,iS Dk]
   rw[show 40+4*2=(40+4*1)+4 from rfl,iS Df]
   rw[show 40+4*1=(40+4*0)+4 from rfl,iS DJ]
 exact FE (by decide+kernel) h (by decide+kernel)
end TL
set_option linter.all false
set_option maxRecDepth 100000
namespace TL
theorem known{n:Int}(h0:3<=n)(h1:n<=14):fq (cL n) 1 0 0/\fq (ci n) 0 1 0/\fq (bw n) 0 0 1/\fq (dB (min (n+1) 7)) 0 0 1/\fq (c7 n 2) (n-1) (n-2) 0/\sH (bw n):=by
 rcases(by omega:n=3\/n=4\/n=5\/n=6\/n=7\/n=8\/n=9\/n=10\/n=11\/n=12\/n=13\/n=14) with rfl|rfl|rfl|rfl|rfl|rfl|rfl|rfl|rfl|rfl|rfl|rfl
 · exact⟨Gq,Gb,G5,FM,FI,Gg⟩
 · exact⟨Ge,G3,FS,FV,Gl,FW⟩
 · exact⟨Gh,G4,Gf,Gc,FT,FL⟩
 · exact⟨FY,FZ,Gm,Cx,Gd,Gp⟩
 · exact⟨FU,FJ,Gi,Cx,FX,G7⟩
 · exact⟨FP,FR,Gn,Cx,FQ,FN⟩
 · exact⟨Ga,FO,Gk,Cx,FK,G1⟩
 · exact⟨Ff,Fp,Fq,Cx,Fd,EZ⟩
 · exact⟨Fy,F8,Fx,Cx,F3,F7⟩
 · exact⟨FA,Fw,F5,Cx,Fm,EY⟩
 · exact⟨F6,Fg,F4,Cx,ES,F9⟩
 · exact⟨Fu,ET,EU,Cx,F0,Fs⟩
end TL
set_option linter.all false
namespace TL
section
variable{A B:Int->Prop}{x y z v u n:Int}{g h:bN}{k i f:Nat}{most:Int}
theorem Dz(hx:0<=x/\x<n)(hy:0<=y/\y<n):∀w∈[x,y],0<=w/\w<n:=λw hw=>by
 rcases List.mem_cons.1 hw with q|q
 · rw[q];exact hx
 · rw[List.mem_singleton.1 q];exact hy
end
end TL
set_option linter.all false
namespace TL
section
variable{E:List (Int×Int)}{A:Int->Prop}{g:bN}{p:List Int}{u v x y w q n:Int}{k m i j:Nat}{L:List (List Int)}
theorem E7(hx:0<=x/\x<n):∀w∈[x],0<=w/\w<n:=λw hw=>by rw[List.mem_singleton.1 hw];exact hx
end
end TL
set_option linter.all false
namespace TL
section
variable{g:bN}{p at1 at2:List Int}{u v x y w q n kk:Int}{k m i j:Nat}{l ls ls':List (List Int)}{L:List (Int×Int)}
theorem Az{l:List Int}(hm:bO g):((ox g l).length:Int)=g.1:=by
 have:=hm.1
 have key:∀(l:List Int) (s:List Bool),(l.foldl (λs v=>s.set v.toNat true) s).length=s.length:=λl=>by
   induction l with
   |nil=>intro s;rfl
   |cons a l ih=>intro s;rw[List.foldl_cons,ih];simp
 unfold ox
 rw[key,List.length_replicate];omega
end
end TL
set_option linter.all false
namespace TL
open Go
section
variable{P:Program}{n:Nat}{l:List Oper}{qs:List Nat}{K:Fr->World->Prop}{f:Fr}{w:World}{done D:List Nat}{fuel:Nat}
theorem cU{σ:Type}(D:List Nat)(fD:Nat)(Mid:σ->Fr->World->Prop)(hN:∀s f w,Mid s f w->i6 P n l qs K fD D f w)(h:(∀s f w,Mid s f w->i6 P n l qs K fD D f w)->i6 P n l qs K fuel done f w):i6 P n l qs K fuel done f w:=h hN
theorem bC(h:decide (c9 l.length done=c9 l.length D)=true)(hk:i6 P n l qs K fuel D f w):i6 P n l qs K fuel done f w:=by
 unfold i6 at hk ⊢
 rw[of_decide_eq_true h]
 exact hk
end
end TL
set_option linter.all false
namespace TL
open Go
section
variable{α β:Type}[Rp α][Rp β][Inhabited α][Inhabited β]{γ:ax}{S:cw->Prop}{w w':World}{v:Value}{xs:List (Int×List α×List β)}{r:Int}
theorem se(hs:Sl γ S w v xs)(h0:0<=r)(h1:r<xs.length):∃u1 u2,(∀q,q<3->w.cell? ((bu v 3 r.toNat).add q)=([Value.int .i64 (gI xs r).1,u1,u2]:List Value)[q]?)/\(Sl γ S w u1 (gI xs r).2.1/\Sl γ S w u2 (gI xs r).2.2)/\(bu v 3 r.toNat).block<w.heap.size:=by
 obtain⟨cs,hcs,c1,c2,rfl,e1,c3,c4,rfl,⟨u1,rfl,g1⟩,u2,rfl,g2⟩:=hs.elem (jq h0 h1)
 have e1:c1=[Value.int .i64 (gI xs r).1]:=e1
 subst e1
 have hsz:Rp.sz (Int×List α×List β)=3:=rfl
 rw[hsz] at hcs
 refine⟨u1,u2,λq hq=>hcs q hq,⟨g1,g2⟩,?_⟩
 have:=hcs 0 (by omega)
 exact tt (w:=w) (a:=(bu v 3 r.toNat).add 0) (v:=Value.int .i64 (gI xs r).1) (by rw[this];rfl)
theorem qq{P:Program}{f:Fr}{t:TypeId}{x:Operand}{dst:Option Tmp}{ty:TypeId}{pos:String}{after:Array Edge}{g:Option (Nat×Bool)}{ds:List Value}{v u z:Value}{n q size bytes:Nat}(ht:Tp P t false size bytes z)(hx:ev f x= .pointer (some ⟨(bu v 3 n).block,(bu v 3 n).off+q,none⟩))(hc:∀q,q<3->w.cell? ((bu v 3 n).add q)=ds[q]?)(hq:q<3)(hu:ds[q]? =some u):(execOp (ev f) ⟨dst,.load t x,ty,pos,after,g⟩).run P w= .ok (.value u) w:=
  cv ht hx (by have:=hc q hq;rw[lI,hu] at this;exact this)
end
end TL
set_option linter.all false
namespace TL
open Go
theorem oS{α β:Type}:∀(xs:List α) (P:Nat->α->β->Prop),(∀i x,xs[i]? =some x->∃r,P i x r)->∃rs:List β,rs.length=xs.length/\∀i x r,xs[i]? =some x->rs[i]? =some r->P i x r
 |[],P,_=>⟨[],rfl,λi x r h=>by simp at h⟩
 |x::xs,P,h=>by
   obtain⟨r,hr⟩:=h 0 x rfl
   obtain⟨rs,h1,h2⟩:=oS xs (λi=>P (i+1)) λi y hy=>h (i+1) y (by simpa using hy)
   refine⟨r::rs,by simp[h1],λi y s hy hs=>?_⟩
   cases i with
   |zero=>
     simp at hy hs
     subst hy hs
     exact hr
   |succ i=>exact h2 i y s (by simpa using hy) (by simpa using hs)
section
variable{α β:Type}[Rp α][Rp β]
def kI(γ:ax)(k:Nat)(w:World)(v:Value)(xs:List (Int×List α×List β)):Prop:=Ow γ (row k 0) (row k 1) w v xs
variable{γ γ' δ:ax}{J S:cw->Prop}{w w':World}{v u u1 u2:Value}{xs:List (Int×List α×List β)}{k a b r:Nat}{i:Int}{l1:List α}{l2:List β}
theorem kI.nil:kI (α:=α) (β:=β) γ k w (.slice none 0 0) []:=Ow.nil
theorem kI.chg{K:cw->Prop}(h:kI γ k w v xs)(hc:bg K γ w γ' w')(hK:∀c,is k c->¬K c):kI γ' k w' v xs:=Ow.chg h hc (λc h=>hK c (eb c h)) (λc h=>hK c (eb c h))
theorem kI.sl(h:kI γ k w v xs):Sl γ (is k) w v xs:=Ow.sl h eb eb
theorem kI.glue{B i k:Nat}{ren:Nat->Nat}(h:kI δ i w v xs)(hδ:∀b,b<B->(δ b).1=0)(hi:Nat.beq i 0=false)(hr:ren i=k):kI (TL.glue B γ δ ren) k w v xs:=h.recol (fE hδ hi hr) (fE hδ hi hr)
theorem CK(h:Ow γ J S w v xs):∃raw:List (Int×Vc×Vc),Ow γ J J w v raw/\raw.length=xs.length/\∀(i:Nat) x c,xs[i]? =some x->raw[i]? =some c->c.1=x.1/\Sl γ S w c.2.1.v x.2.1/\Sl γ S w c.2.2.v x.2.2:=by
  rcases h with⟨rfl,rfl⟩|⟨b,cap,c,e,rfl,hc,hm,hJb,hb,hcs,hx⟩
  · exact⟨[],Ow.nil,rfl,λi x c h=>by simp at h⟩
  · have h3:Rp.sz (Int×List α×List β)=3:=rfl
    have h3':Rp.sz (Int×Vc×Vc)=3:=rfl
    obtain⟨raw,h1,h2⟩:=oS xs (λi x (q:Int×Vc×Vc)=>(∀j,j<3->c[i*3+j]? =(Fl.cells q)[j]?)/\q.1=x.1/\Sl γ S w q.2.1.v x.2.1/\Sl γ S w q.2.2.v x.2.2) λi x hi=>by
      obtain⟨cs,g1,g2⟩:=hx i x hi
      have hone:=Rp.one g2
      obtain⟨c1,c2,rfl,e1,c3,c4,rfl,⟨v1,rfl,g3⟩,v2,rfl,g4⟩:=g2
      have e1:c1=[Value.int .i64 x.1]:=e1
      subst e1
      refine⟨(x.1,⟨v1,hone v1 (by simp)⟩,⟨v2,hone v2 (by simp)⟩),λj hj=>?_,rfl,g3,g4⟩
      have:=g1 j hj
      rw[h3] at this
      rw[this];rfl
    refine⟨raw,.inr ⟨b,cap,c,e,by rw[h1],by rw[h1];exact hc,hm,hJb,hb,by rw[h3'];exact hcs,λi q hi=>?_⟩,h1,λi x q hi hq=>(h2 i x q hi hq).2⟩
    have hlt:i<xs.length:=by rw[<-h1];exact(List.getElem?_eq_some_iff.1 hi).1
    have:=(h2 i _ q (List.getElem?_eq_getElem hlt) hi).1
    exact⟨Fl.cells q,λj hj=>this j hj,Fl.rep_iff.2 rfl⟩
theorem Dy{raw:List (Int×Vc×Vc)}(h:Ow γ J J w v raw)(hl:raw.length=xs.length)(hx:∀(i:Nat) x c,xs[i]? =some x->raw[i]? =some c->c.1=x.1/\Sl γ S w c.2.1.v x.2.1/\Sl γ S w c.2.2.v x.2.2):Ow γ J S w v xs:=by
 rcases h with⟨rfl,rfl⟩|⟨b,cap,c,e,rfl,hc,hm,hJb,hb,hcs,hr⟩
 · have:xs=[]:=List.eq_nil_of_length_eq_zero (by simpa using hl.symm)
   subst this;exact Ow.nil
 · refine .inr ⟨b,cap,c,e,by rw[hl],by rw[<-hl];exact hc,hm,hJb,hb,hcs,λi x hi=>?_⟩
   have hlt:i<raw.length:=by rw[hl];exact(List.getElem?_eq_some_iff.1 hi).1
   obtain⟨cs,g1,g2⟩:=hr i _ (List.getElem?_eq_getElem hlt)
   obtain⟨e1,e2,e3⟩:=hx i x _ hi (List.getElem?_eq_getElem hlt)
   have g2:cs=Fl.cells raw[i]:=Fl.rep_iff.1 g2
   subst g2
   exact⟨_,g1,⟨[.int .i64 raw[i].1],[raw[i].2.1.v,raw[i].2.2.v],rfl,by rw[e1];rfl,[raw[i].2.1.v],[raw[i].2.2.v],rfl,⟨_,rfl,e2⟩,_,rfl,e3⟩⟩
def gz(γ:ax)(k a b:Nat):ax:=λq=>if(γ q).1=a then(k,1) else if(γ q).1=b then(k,1) else γ q
theorem iR{q:Nat}(ha:Nat.beq k a=false)(hb:Nat.beq k b=false)(h:row k r (γ q)):row k r (gz γ k a b q):=by
 have h:γ q=(k,r):=h
 have h1:=ku ha
 have h2:=ku hb
 unfold gz row
 rw[h,if_neg (by simpa using h1),if_neg (by simpa using h2)]
theorem qG{q:Nat}(h:is a (γ q)):row k 1 (gz γ k a b q):=by
 have h:(γ q).1=a:=h
 unfold gz row
 rw[if_pos h]
theorem rX{q:Nat}(h:is b (γ q)):row k 1 (gz γ k a b q):=by
 have h:(γ q).1=b:=h
 unfold gz row
 split
 · rfl
 · rfl
theorem sL(γ:ax)(w:World)(k a b:Nat):bg (inl [k,a,b]) γ w (gz γ k a b) w:=
 ⟨rfl,rfl,rfl,Nat.le_refl _,λq _ hn=>by
   unfold inl at hn
   simp only[List.contains_cons,List.contains_nil,Bool.or_false,Bool.or_eq_true,beq_iff_eq,not_or] at hn
   unfold gz
   rw[if_neg hn.2.1,if_neg hn.2.2],λ_ _ _=>rfl,Nat.le_refl _⟩
end
section
variable{α β:Type}[Rp α][Rp β][Fl α][Fl β]{P:Program}{f:Fr}{w:World}{dst:Option Tmp}{t ty:TypeId}{pos:String}{after:Array Edge}{g:Option (Nat×Bool)}{N:Value->World->Prop}{x y:Operand}
theorem pG{c1 c2:Vc}{u1 u2:Value}(hc1:c1.v=u1)(hc2:c2.v=u2){γ:ax}{k a b:Nat}{S':cw->Prop}{e bytes:Nat}{agg:Bool}{z v u:Value}{xs:List (Int×List α×List β)}{i:Int}{l1:List α}{l2:List β}
   (ht:P.underlying t=some (.slice e))(he:Tp P e agg 3 bytes z)(hzc:z.cells.size=3)
   (hx:ev f x=v)(hy:ev f y=u)(hv:kI γ k w v xs)(hu:Sl γ S' w u [(i,c1,c2)])(h1:Ow γ (is a) (is a) w u1 l1)(h2:Ow γ (is b) (is b) w u2 l2)(ha:Nat.beq k a=false)(hb:Nat.beq k b=false)
   (hby:bytes<=128)(hlen2:xs.length+1<=1099511627776)
   (hk:∀γ' w' v',bg (inl [k,a,b]) γ w γ' w'->kI γ' k w' v' (xs++[(i,l1,l2)])->N v' w'):fv P ⟨dst,.call {callee:=.builtin .append,args:= #[x,y],argTypes:= #[t,t]},ty,pos,after,g⟩ f w N:=by
 obtain⟨raw,r1,r2,r3⟩:=CK hv
 have ha':=ku ha
 have hb':=ku hb
 have nka:∀c,is a c->¬row k 0 c:=λc h e=>ha' (by have h:c.1=a:=h;have e:c.1=k:=eb c e;omega)
 have nkb:∀c,is b c->¬row k 0 c:=λc h e=>hb' (by have h:c.1=b:=h;have e:c.1=k:=eb c e;omega)
 have n10:∀c,row k 1 c->¬row k 0 c:=λc h e=>by
   have h:c=(k,1):=h
   have e:c=(k,0):=e
   rw[h] at e
   simp at e
 refine aS γ (J:=row k 0) (S:=row k 0) (k,0) rfl ht he (by show 0<3;decide) hzc hx hy r1 hu hby (by rw[r2];exact hlen2) λγ1 w1 v1 hc ho=>?_
 have g1:Ow (gz γ1 k a b) (row k 1) (row k 1) w1 u1 l1:=(h1.chg hc nka nka).recol (λq h=>qG h) (λq h=>qG h)
 have g2:Ow (gz γ1 k a b) (row k 1) (row k 1) w1 u2 l2:=(h2.chg hc nkb nkb).recol (λq h=>rX h) (λq h=>rX h)
 have go:Ow (gz γ1 k a b) (row k 0) (row k 0) w1 v1 (raw++[(i,c1,c2)]):=ho.recol (λq h=>iR ha hb h) (λq h=>iR ha hb h)
 have hch:bg (inl [k,a,b]) γ w (gz γ1 k a b) w1:=(hc.lr (L:=[k,a,b]) (by simp)).seq (sL γ1 w1 k a b)
 refine hk _ w1 v1 hch (Dy (raw:=raw++[(i,c1,c2)]) go (by simp[r2]) λj x q hj hq=>?_)
 by_cases hl:j<xs.length
 · rw[List.getElem?_append_left hl] at hj
   rw[List.getElem?_append_left (by omega)] at hq
   obtain⟨q1,q2,q3⟩:=r3 j x q hj hq
   exact⟨q1,(q2.chg hc n10).tr (λc _ h=>⟨rfl,iR ha hb h⟩) (Nat.le_refl _),(q3.chg hc n10).tr (λc _ h=>⟨rfl,iR ha hb h⟩) (Nat.le_refl _)⟩
 · have hj':=(List.getElem?_eq_some_iff.1 hj).1
   simp only[List.length_append,List.length_singleton] at hj'
   have e0:j=xs.length:=by omega
   subst e0
   rw[List.getElem?_append_right (Nat.le_refl _),Nat.sub_self] at hj
   rw[List.getElem?_append_right (by omega),r2,Nat.sub_self] at hq
   obtain rfl:(i,l1,l2)=x:=by simpa using hj
   obtain rfl:(i,c1,c2)=q:=by simpa using hq
   exact⟨rfl,by rw[hc1];exact g1.flat,by rw[hc2];exact g2.flat⟩
end
end TL
set_option linter.all false
namespace TL
open Go
abbrev lA(A:List Pp×List (ch Bd))(u:Pp):ch Bd:=gI A.2 ((A.1.idxOf u:Nat):Int)
section
end
section
variable{P:Program}{f:Fr}{w:World}{dst:Option Tmp}{ty:TypeId}{pos:String}{after:Array Edge}{g:Option (Nat×Bool)}{t e:TypeId}{x y:Operand}{N:Value->World->Prop}
theorem iJ{γ:ax}{k:Nat}{S':cw->Prop}{bytes:Nat}{agg:Bool}{z v u:Value}{xs ys:List Bd}(hv:Ow γ (is k) (is k) w v xs)(hu:Sl γ S' w u ys)(ht:P.underlying t=some (.slice e))(he:Tp P e agg 4 bytes z)(hlen2:xs.length+ys.length<=1099511627776)
   (hk:∀γ' w' v',bg (is k) γ w γ' w'->Ow γ' (is k) (is k) w' v' (xs++ys)->N v' w')(hzc:z.cells.size=4:=by exact rfl)(hby:bytes<=128:=by decide)(hx:ev f x=v:=by exact rfl)(hy:ev f y=u:=by exact rfl):fv P ⟨dst,.call {callee:=.builtin .append,args:= #[x,y],argTypes:= #[t,t]},ty,pos,after,g⟩ f w N:=
 aS (α:=Bd) γ (J:=is k) (S:=is k) (k,0) rfl ht he (by decide) hzc hx hy hv hu hby hlen2 hk
theorem kJ{γ:ax}(k:Nat){bytes:Nat}{agg:Bool}{z:Value}{i0:Operand}(a b c d:Int)(ht:P.underlying t=some (.slice e))(he:Tp P e agg 4 bytes z)
   (hk:∀γ' w' v,bg no γ w γ' w'->Ow γ' (is k) (is k) w' v ([(a,b,c,d)]:List Bd)->N v w')(hp:ev f i0= .agg (List.toArray [.int .i64 a,.int .i64 b,.int .i64 c,.int .i64 d]):=by exact rfl):fv P ⟨dst,.buildSlice t 1 (List.toArray [(0,i0)]),ty,pos,after,g⟩ f w N:=
 aq (α:=Bd) γ (is k) (is k) (k,0) rfl [(a,b,c,d)] ht he (by decide) (by decide) (vs:=[(0,.agg (List.toArray [.int .i64 a,.int .i64 b,.int .i64 c,.int .i64 d]))]) (by rw[List.map_cons,List.map_nil,hp]) rfl (.cons rfl .nil) hk
end
section
end
section
variable{α β:Type}[Rp α][Rp β]{δ g:ax}{w:World}{v:Value}{ren:Nat->Nat}{i:Nat}
theorem fi.gl{us:List Pp}{xs:List (ch α)}(h:fi δ i w us xs)(G:Eh δ g w ren)(k:Nat)(hi:Nat.beq i 0=false:=by exact rfl)(hr:ren i=k:=by exact rfl):fi g k w us xs:=by
 obtain⟨B,γ,rfl,h1⟩:=G
 exact h.glue h1 hi hr
theorem kI.gl{xs:List (Int×List α×List β)}(h:kI δ i w v xs)(G:Eh δ g w ren)(k:Nat)(hi:Nat.beq i 0=false:=by exact rfl)(hr:ren i=k:=by exact rfl):kI g k w v xs:=by
 obtain⟨B,γ,rfl,h1⟩:=G
 exact h.glue h1 hi hr
end
section
variable{L:List Nat}{γ γ1 γ2:ax}{w w1 w2:World}{k:Nat}
theorem bg.o(h:bg no γ w γ1 w1)(h2:bg (inl L) γ1 w1 γ2 w2):bg (inl L) γ w γ2 w2:=h.n.seq h2
theorem bg.s(h:bg (is k) γ w γ1 w1)(h2:bg (inl L) γ1 w1 γ2 w2)(hk:L.contains k=true:=by exact rfl):bg (inl L) γ w γ2 w2:=(h.l hk).seq h2
theorem bg.e(h:bg (is k) γ w γ1 w1)(hk:L.contains k=true:=by exact rfl):bg (inl L) γ w γ1 w1:=h.l hk
end
section
variable{P:Program}{n:Nat}{l:List Oper}{S:World->Prop}{K:Fr->World->Prop}{f:Fr}{w:World}{done:List Nat}{fuel:Nat}{qs:List Nat}{dst:Option Tmp}{op:Op}{ty:TypeId}{pos:String}{after:Array Edge}{g:Option (Nat×Bool)}
theorem cE(i:Nat)(hi:l[i]? =some ⟨dst,op,ty,pos,after,g⟩)(h:fv P ⟨dst,op,ty,pos,after,g⟩ f w (λv w'=>i6 P n l qs K fuel (i::done) (gv f dst v) w'))(hc:(decide (Region.ready .any l.toArray (c9 l.length done)=[i])&& !qs.contains i&&kr n ⟨dst,op,ty,pos,after,g⟩)=true:=by kernel_rfl)(hw:cN l ⟨dst,op,ty,pos,after,g⟩ f=true:=by exact rfl):i6 P n l qs K (fuel+1) done f w:=CO i hi hc hw h
theorem bY(i:Nat)(hi:l[i]? =some ⟨dst,op,ty,pos,after,g⟩)(h:fv P ⟨dst,op,ty,pos,after,g⟩ f w (λv w'=>S w'/\tX P n l S K fuel (i::done) (gv f dst v) w'))(hc:(decide (Region.ready .any l.toArray (c9 l.length done)=[i])&&kr n ⟨dst,op,ty,pos,after,g⟩)=true:=by kernel_rfl)(hw:cN l ⟨dst,op,ty,pos,after,g⟩ f=true:=by exact rfl):tX P n l S K (fuel+1) done f w:=Er i hi hc hw h
end
end TL
set_option linter.all false
namespace TL
open Go
def Pv(S:cw->Prop)(γ:ax)(w:World)(γ':ax)(w':World):Prop:=∃J,bg J γ w γ' w'/\∀c,S c->¬J c
section
variable{S J J1:cw->Prop}{γ γ1 γ2:ax}{w w1 w2:World}{i j k:Nat}{L:List Nat}
theorem Pv.r:Pv S γ w γ w:=⟨no,bg.refl _ _ _,dT _⟩
theorem Pv.s(p:Pv S γ w γ1 w1)(h:bg J γ1 w1 γ2 w2)(hS:∀c,S c->¬J c):Pv S γ w γ2 w2:=by
 obtain⟨J1,h1,h2⟩:=p
 refine⟨λc=>J1 c\/J c,⟨h.os.trans h1.os,h.tape.trans h1.tape,h.output.trans h1.output,Nat.le_trans h1.size h.size,λb hb hn=>?_,λb hb hn=>?_,Nat.le_trans h1.drawn h.drawn⟩,λc hc hj=>hj.elim (h2 c hc) (hS c hc)⟩
 · have e:=h1.col b hb λc=>hn (.inl c)
   rw[h.col b (Nat.lt_of_lt_of_le hb h1.size) (by rw[e];exact λc=>hn (.inr c)),e]
 · have e:=h1.col b hb λc=>hn (.inl c)
   rw[h.keep b (Nat.lt_of_lt_of_le hb h1.size) (by rw[e];exact λc=>hn (.inr c)),h1.keep b hb λc=>hn (.inl c)]
theorem Pv.n(p:Pv S γ w γ1 w1)(h:bg no γ1 w1 γ2 w2):Pv S γ w γ2 w2:=p.s h (dT _)
theorem Pv.e(p:Pv (is i) γ w γ1 w1)(h:bg (is k) γ1 w1 γ2 w2)(hS:Nat.beq i k=false):Pv (is i) γ w γ2 w2:=p.s h (me hS)
theorem x5{S K:cw->Prop}(h:∀c,S c->¬K c:=by first|exact dT _|exact me rfl|exact kW rfl|exact nj rfl|exact ze rfl rfl|exact ua rfl rfl|exact kF rfl|exact lZ rfl|exact row_row rfl|exact row_ne2 rfl rfl|exact row_neix rfl rfl|exact is_j3 rfl rfl rfl|exact row_j3 rfl rfl rfl):∀c,S c->¬K c:=h
theorem pv{S:cw->Prop}{γ γ1:ax}{w w1:World}(h:Pv S γ w γ1 w1:=by
   repeat (first
     |exact Pv.r
     |refine Pv.n ?_ (by with_reducible assumption)
     |refine Pv.e ?_ (by with_reducible assumption) (by exact rfl)
     |refine Pv.s ?_ (by with_reducible assumption) (by first|exact dT _|exact me rfl|exact kW rfl|exact nj rfl|exact ze rfl rfl|exact ua rfl rfl|exact kF rfl|exact lZ rfl|exact row_row rfl|exact row_ne2 rfl rfl|exact row_neix rfl rfl|exact is_j3 rfl rfl rfl|exact row_j3 rfl rfl rfl))):Pv S γ w γ1 w1:=h
end
section
variable{γ γ':ax}{w w' w0:World}{v:Value}{j:Nat}{S J:cw->Prop}{α β:Type}[Rp α][Rp β]
theorem aW.t(h:aW w0 γ w)(p:Pv (is 0) γ w γ' w':=by exact pv):aW w0 γ' w':=by obtain⟨J,a,b⟩:=p;exact h.chg a b
theorem aW.a(h:aW w0 γ w){K':cw->Prop}{γ1:ax}{w1:World}(q:bg K' γ1 w1 γ' w')(p:Pv (is 0) γ w γ1 w1:=by exact pv)(hS:∀c,(is 0) c->¬K' c:=by exact x5):aW w0 γ' w':=aW.t h (p.s q hS)
theorem Bx.t{b:Nat}{cs:List Value}(h:Bx γ J w b cs)(p:Pv J γ w γ' w':=by exact pv):Bx γ' J w' b cs:=by obtain⟨J,a,b⟩:=p;exact h.chg a b
theorem Bx.a{b:Nat}{cs:List Value}(h:Bx γ J w b cs){K':cw->Prop}{γ1:ax}{w1:World}(q:bg K' γ1 w1 γ' w')(p:Pv J γ w γ1 w1:=by exact pv)(hS:∀c,J c->¬K' c:=by exact x5):Bx γ' J w' b cs:=Bx.t h (p.s q hS)
theorem Sl.t{xs:List α}(h:Sl γ S w v xs)(p:Pv S γ w γ' w':=by exact pv):Sl γ' S w' v xs:=by obtain⟨J,a,b⟩:=p;exact h.chg a b
theorem Sl.a{xs:List α}(h:Sl γ S w v xs){K':cw->Prop}{γ1:ax}{w1:World}(q:bg K' γ1 w1 γ' w')(p:Pv S γ w γ1 w1:=by exact pv)(hS:∀c,S c->¬K' c:=by exact x5):Sl γ' S w' v xs:=Sl.t h (p.s q hS)
theorem Ow.t{xs:List α}(h:Ow γ S S w v xs)(p:Pv S γ w γ' w':=by exact pv):Ow γ' S S w' v xs:=by obtain⟨J,a,b⟩:=p;exact h.chg a b b
theorem Ow.a{xs:List α}(h:Ow γ S S w v xs){K':cw->Prop}{γ1:ax}{w1:World}(q:bg K' γ1 w1 γ' w')(p:Pv S γ w γ1 w1:=by exact pv)(hS:∀c,S c->¬K' c:=by exact x5):Ow γ' S S w' v xs:=Ow.t h (p.s q hS)
theorem dr.t{xs:List (List α)}(h:dr γ j w v xs)(p:Pv (is j) γ w γ' w':=by exact pv):dr γ' j w' v xs:=by obtain⟨J,a,b⟩:=p;exact h.chg a b
theorem dr.a{xs:List (List α)}(h:dr γ j w v xs){K':cw->Prop}{γ1:ax}{w1:World}(q:bg K' γ1 w1 γ' w')(p:Pv (is j) γ w γ1 w1:=by exact pv)(hS:∀c,(is j) c->¬K' c:=by exact x5):dr γ' j w' v xs:=dr.t h (p.s q hS)
theorem fi.t{us:List Pp}{xs:List (ch α)}(h:fi γ j w us xs)(p:Pv (is j) γ w γ' w':=by exact pv):fi γ' j w' us xs:=by obtain⟨J,a,b⟩:=p;exact h.chg a b
theorem fi.a{us:List Pp}{xs:List (ch α)}(h:fi γ j w us xs){K':cw->Prop}{γ1:ax}{w1:World}(q:bg K' γ1 w1 γ' w')(p:Pv (is j) γ w γ1 w1:=by exact pv)(hS:∀c,(is j) c->¬K' c:=by exact x5):fi γ' j w' us xs:=fi.t h (p.s q hS)
theorem dl.t{us:List Pp}{xs:List (ch α)}{q:Nat}(h:dl γ j q w us xs)(p:Pv (is j) γ w γ' w':=by exact pv):dl γ' j q w' us xs:=by obtain⟨J,a,b⟩:=p;exact h.chg a b
theorem dl.a{us:List Pp}{xs:List (ch α)}{r:Nat}(h:dl γ j r w us xs){K':cw->Prop}{γ1:ax}{w1:World}(q:bg K' γ1 w1 γ' w')(p:Pv (is j) γ w γ1 w1:=by exact pv)(hS:∀c,(is j) c->¬K' c:=by exact x5):dl γ' j r w' us xs:=dl.t h (p.s q hS)
theorem gC.t[Fl α]{us:List Pp}{xs:List (ch α)}(h:gC γ w us xs)(p:Pv (is 0) γ w γ' w':=by exact pv):gC γ' w' us xs:=by obtain⟨J,a,b⟩:=p;exact h.chg a b
theorem gC.a[Fl α]{us:List Pp}{xs:List (ch α)}(h:gC γ w us xs){K':cw->Prop}{γ1:ax}{w1:World}(q:bg K' γ1 w1 γ' w')(p:Pv (is 0) γ w γ1 w1:=by exact pv)(hS:∀c,(is 0) c->¬K' c:=by exact x5):gC γ' w' us xs:=gC.t h (p.s q hS)
theorem kI.t{xs:List (Int×List α×List β)}(h:kI γ j w v xs)(p:Pv (is j) γ w γ' w':=by exact pv):kI γ' j w' v xs:=by obtain⟨J,a,b⟩:=p;exact h.chg a b
theorem kI.a{xs:List (Int×List α×List β)}(h:kI γ j w v xs){K':cw->Prop}{γ1:ax}{w1:World}(q:bg K' γ1 w1 γ' w')(p:Pv (is j) γ w γ1 w1:=by exact pv)(hS:∀c,(is j) c->¬K' c:=by exact x5):kI γ' j w' v xs:=kI.t h (p.s q hS)
end
section
variable{K:Type}[DecidableEq K][Ky K]{γ γ':ax}{w w':World}{v u:Value}{J:cw->Prop}{F:K->Int}{D E:List K}
theorem Md.t(h:Md γ J w v F D)(p:Pv J γ w γ' w':=by exact pv):Md γ' J w' v F D:=by obtain⟨J,a,b⟩:=p;exact h.chg a b
theorem Md.a(h:Md γ J w v F D){K':cw->Prop}{γ1:ax}{w1:World}(q:bg K' γ1 w1 γ' w')(p:Pv J γ w γ1 w1:=by exact pv)(hS:∀c,J c->¬K' c:=by exact x5):Md γ' J w' v F D:=Md.t h (p.s q hS)
theorem Mp.t(h:Mp γ J w v F)(p:Pv J γ w γ' w':=by exact pv):Mp γ' J w' v F:=by obtain⟨J,a,b⟩:=p;exact h.chg a b
theorem Mq.t(h:Mq γ J w v F)(p:Pv J γ w γ' w':=by exact pv):Mq γ' J w' v F:=by obtain⟨J,a,b⟩:=p;exact h.chg a b
theorem Mq.a(h:Mq γ J w v F){K':cw->Prop}{γ1:ax}{w1:World}(q:bg K' γ1 w1 γ' w')(p:Pv J γ w γ1 w1:=by exact pv)(hS:∀c,J c->¬K' c:=by exact x5):Mq γ' J w' v F:=Mq.t h (p.s q hS)
end
end TL
set_option linter.all false
namespace TL
open Go
section
end
theorem kB{α:Type}[Rp α]{γ:ax}{J S:cw->Prop}{w:World}{v:Value}{xs:List α}{hi:Nat}(h:Ow γ J S w v xs)(h2:hi<=xs.length):Ow γ J S w (bP v (Rp.sz α) 0 hi) (xs.take hi):=by
  rcases h with⟨rfl,rfl⟩|⟨b,cap,c,e,rfl,hc,hm,hJ,hb,hcs,hx⟩
  · simp only[List.length_nil] at h2
    have:hi=0:=by omega
    subst this
    exact .inl ⟨rfl,rfl⟩
  · have hl:(xs.take hi).length=hi:=by simp;omega
    refine .inr ⟨b,cap,c,e,?_,⟨by omega,by omega⟩,hm,hJ,hb,hcs,λi x hi'=>hx i x ?_⟩
    · rw[vM]
      simp only[hl]
    · rw[List.getElem?_take] at hi'
      split at hi'
      · exact hi'
      · cases hi'
end TL
set_option linter.all false
namespace TL
open Go
def pQ:Value->Bool
  | .slice none _ _=>false
  |_=>true
section
variable{P:Program}{w w':World}{t t':TypeId}{f:Fr}{x y:Operand}{dst:Option Tmp}{ty:TypeId}{pos:String}{after:Array Edge}{g:Option (Nat×Bool)}{α:Type}[Rp α]{γ:ax}{S:cw->Prop}{v:Value}{xs:List α}
theorem nO{e:TypeId}(ht:P.underlying t=some (.slice e))(hv:∃a l c,v= .slice a l c):(Op.equal t v (.slice none 0 0)).run P w= .ok (Bool.not (pQ v)) w:=by
 obtain⟨a,l,c,rfl⟩:=hv
 unfold Op.equal
 rw[show Op.maxDepth=9999+1 from rfl]
 unfold Op.equalIn
 cases a<;>simp[aO ht,pQ]
theorem Sl.shape(hs:Sl γ S w v xs):∃a l c,v= .slice a l c:=by
 rcases hs with⟨⟨a,rfl⟩,_⟩|⟨b,off,cap,rfl,_⟩
 · exact⟨_,_,_,rfl⟩
 · exact⟨_,_,_,rfl⟩
theorem iP{e:TypeId}(ht:P.underlying t=some (.slice e))(hs:Sl γ S w' v xs)(hx:ev f x=v)(hy:ev f y= .slice none 0 0):(execOp (ev f) ⟨dst,.binOp .neq t x y t',ty,pos,after,g⟩).run P w= .ok (.value (.bool (pQ v))) w:=
 xF .neq hx hy (by simp[eqGuard]) (by simp[binOp,nO ht hs.shape])
theorem A2(hs:Sl γ S w v xs)(h:¬pQ v=true):xs=[]:=by
 rcases hs with⟨_,h2⟩|⟨b,off,cap,rfl,_⟩
 · exact h2
 · exact absurd rfl h
end
end TL
set_option linter.all false
namespace TL
open Go Go.Proofs Go.Shelf Go.Sort Go.Lib
section
variable{α:Type}[Inhabited α]{γ:ax}{w:World}{j b:Nat}
theorem zI(enc:α->Value)(hb:is j (γ b))(m:Nat)(d:Array α)(os:Array Obj):bg (is j) γ w γ (sortWorld enc w b 0 m d os):=by
 refine⟨rfl,rfl,rfl,?_,λ_ _ _=>rfl,λk hk hn=>?_,?_⟩
 · unfold sortWorld;rw[size_grow,Go.Sort.size_putRow];simp only[heap_ahead];omega
 · unfold sortWorld
   rw[heap_grow_old _ _ (by rw[Go.Sort.size_putRow];exact hk)]
   have:b≠k:=λe=>hn (by subst e;exact hb)
   simp[putRow,mapBlock,Array.getElem?_modify,this]
 · show w.drawn<=w.drawn+m
   omega
theorem ut(enc:α->Value){c:Array Value}{e:TypeId}{fr:Nat×Nat}(h:w.heap[b]? =some (.cells c e fr))(m:Nat)(d:Array α)(os:Array Obj):(sortWorld enc w b 0 m d os).heap[b]? =some (.cells (putCells enc 0 d c) e fr):=by
 unfold sortWorld
 rw[heap_grow_old _ _ (by rw[Go.Sort.size_putRow];exact cZ h)]
 simp[putRow,mapBlock,Array.getElem?_modify,h,onCells]
theorem mw(enc:α->Value){d:Array α}{c:Array Value}{k:Nat}(h:k<d.size)(hc:k<c.size):(putCells enc 0 d c)[k]? =some (enc d[k]!):=by
 simp[putCells,h,hc]
end
end TL
set_option linter.all false
namespace TL
open Go Go.Proofs Go.Shelf Go.Sort Go.Lib
section
variable{γ:ax}{w:World}{j b:Nat}
theorem xt(hb:is j (γ b))(q:Nat)(d:Array Int):bg (is j) γ w γ (putRow (Value.int .i64) (Sort.ahead w q) b 0 d):=by
 refine⟨rfl,rfl,rfl,?_,λ_ _ _=>rfl,λk hk hn=>?_,?_⟩
 · rw[Go.Sort.size_putRow];simp only[heap_ahead];omega
 · have:b≠k:=λe=>hn (by subst e;exact hb)
   simp[putRow,mapBlock,Array.getElem?_modify,this]
 · show w.drawn<=w.drawn+q
   omega
theorem vK{c:Array Value}{e:TypeId}{fr:Nat×Nat}(h:w.heap[b]? =some (.cells c e fr))(q:Nat)(d:Array Int):(putRow (Value.int .i64) (Sort.ahead w q) b 0 d).heap[b]? =some (.cells (putCells (Value.int .i64) 0 d c) e fr):=by
 simp[putRow,mapBlock,Array.getElem?_modify,h,onCells]
end
theorem qB(zs:List Int):(compact zs).length<=zs.length:=by
 unfold compact compactUpTo
 rw[List.length_map]
 have:=List.length_filter_le (keeps zs.toArray) (List.range zs.length)
 rw[List.length_range] at this
 exact this
theorem om{P:Program}{ρ:Ren}(L:Lays2.n20 P ρ){γ:ax}{w:World}{j:Nat}{v:Value}{zs:List Int}(hl:Ow γ (is j) (is j) w v zs):
   Calls P (ρ.f 20) #[v] w λe w'=>∃v',e= .returned v'/\bg (is j) γ w γ w'/\Ow γ (is j) (is j) w' v' (compact zs):=by
 by_cases h0:zs=[]
 · subst h0
   obtain⟨a,cp,hv⟩:∃a cp,v= .slice a 0 cp:=by
     rcases hl with⟨h,_⟩|⟨b,cap,c,e,h,_⟩
     · exact⟨_,_,h⟩
     · exact⟨_,_,h⟩
   have ec:compact ([]:List Int)=[]:=List.eq_nil_of_length_eq_zero (by have:=qB [];simpa using this)
   have key:=Any.slices_Compact_int_empty L a cp w
   rw[<-hv] at key
   refine key.mono λe w' ⟨h1,h2⟩=>⟨v,h1,?_⟩
   subst h2
   rw[ec]
   exact⟨bg.refl _ _ _,hl⟩
 · rcases hl with⟨_,h⟩|⟨b,cap,c,e,rfl,hcap,hm,hJ,hb,hcs,hx⟩
   · exact absurd h h0
   · have hsz1:Rp.sz Int=1:=rfl
     rw[hsz1,Nat.mul_one] at hcs
     have hbs:=cZ hb
     have hget:∀i,i<zs.length->c[i]? =some (Value.int .i64 zs.toArray[i]!):=λi hi=>by
       obtain⟨cs,h1,h2⟩:=hx i zs[i] (by simp[hi])
       have h2:cs=[Value.int .i64 zs[i]]:=h2
       have h1:=h1 0 (by decide)
       rw[h2] at h1
       simp only[hsz1,Nat.mul_one,Nat.add_zero] at h1
       rw[h1]
       simp[hi]
     have hH:Holds (Value.int .i64) w b 0 zs.toArray:=λi hi=>by
       have hi:i<zs.length:=by simpa using hi
       constructor
       · have:=hget i hi
         simp only[World.cell?,hb,Nat.zero_add]
         exact this
       · simp[World.frozen?,hb]
     have key:=Any.slices_Compact_int L b 0 cap zs w hH (by omega) hcap.1
     have hcl:=qB zs
     refine key.mono λe' w' ⟨h1,q,hw⟩=>⟨_,h1,?_,?_⟩
     · rw[hw];exact xt hJ q _
     · generalize compact zs=ds at hcl hw
       refine .inr ⟨b,cap,_,e,rfl,by omega,hm,hJ,by rw[hw];exact vK hb q _,by rw[hsz1,Nat.mul_one];simpa[putCells] using hcs,λi x hi=>?_⟩
       have hi':i<ds.length:=(List.getElem?_eq_some_iff.1 hi).1
       refine⟨[Value.int .i64 x],λq hq=>?_,rfl⟩
       have:q=0:=by have:q<1:=hq;omega
       subst this
       have hsz:i<(ds++List.replicate (zs.length-ds.length) 0).toArray.size:=by simp;omega
       have eg:(ds++List.replicate (zs.length-ds.length) 0).toArray[i]! =ds[i]:=by
         rw[getElem!_pos _ i hsz]
         simp only[List.getElem_toArray]
         rw[List.getElem_append_left hi']
       rw[hsz1,Nat.mul_one,Nat.add_zero,mw _ hsz (by rw[hcs];omega),eg]
       simp[hi'] at hi
       simp[hi]
theorem qe{P:Program}{ρ:Ren}(L:Lays2.n25 P ρ){γ:ax}{S:cw->Prop}{w:World}{v:Value}{zs:List Int}(x:Int)(hl:Sl γ S w v zs)(h0:0<zs.length)(hs:zs.Pairwise (· < ·)):
   Calls P (ρ.f 25) #[v,.int .i64 x] w λe w'=>e= .returned (.tuple #[.int .i64 ((zs.countP (· <x):Nat):Int),.bool (decide (x∈zs))])/\eK w.heap.size w w':=by
 rcases hl with⟨_,h⟩|⟨b,off,cap,rfl,hcap,hx⟩
 · rw[h] at h0;simp at h0
 · have hsz1:Rp.sz Int=1:=rfl
   have hc:∀j,j<zs.length->w.cell? ⟨b,off+j,none⟩=some (.int .i64 (zs.getD j 0)):=λi hi=>by
     obtain⟨_,_,cs,h1,h2⟩:=hx i zs[i] (by simp[hi])
     have h2:cs=[Value.int .i64 zs[i]]:=h2
     have h1:=h1 0 (by decide)
     rw[h2] at h1
     simp only[hsz1,Nat.mul_one,Nat.add_zero] at h1
     rw[h1]
     simp[hi]
   have key:=Any.slices_BinarySearch_int L b off zs.length cap zs x w (Nat.le_refl _) (by omega) hc (by rw[List.take_length];exact hs.imp λh=>Int.le_of_lt h)
   rw[List.take_length] at key
   refine key.mono λe w' ⟨h1,q,hw⟩=>⟨?_,?_⟩
   · rw[h1]
     congr 4
     · simp
   · rw[hw]
     exact⟨rfl,rfl,rfl,Nat.le_refl _,λ_ _=>rfl,by show w.drawn<=w.drawn+q;omega⟩
theorem Ct{P:Program}{ρ:Ren}(L:Lays.n189 P ρ){γ:ax}{w:World}{j:Nat}{v:Value}{zs:List Int}(hl:Ow γ (is j) (is j) w v zs)(h0:zs≠[]):
   Calls P (ρ.f 189) #[v] w λe w'=>e= .returned (.tuple #[])/\bg (is j) γ w γ w'/\Ow γ (is j) (is j) w' v (zs.mergeSort λx y=>decide (x<=y)):=by
 rcases hl with⟨_,h⟩|⟨b,cap,c,e,rfl,hcap,hm,hJ,hb,hcs,hx⟩
 · exact absurd h h0
 · have hsz1:Rp.sz Int=1:=rfl
   rw[hsz1,Nat.mul_one] at hcs
   have hbs:=cZ hb
   have hget:∀i,i<zs.length->c[i]? =some (Value.int .i64 zs.toArray[i]!):=λi hi=>by
     obtain⟨cs,h1,h2⟩:=hx i zs[i] (by simp[hi])
     have h2:cs=[Value.int .i64 zs[i]]:=h2
     have h1:=h1 0 (by decide)
     rw[h2] at h1
     simp only[hsz1,Nat.mul_one,Nat.add_zero] at h1
     rw[h1]
     simp[hi]
   have hH:Holds (Value.int .i64) w b 0 zs.toArray:=λi hi=>by
     have hi:i<zs.length:=by simpa using hi
     constructor
     · have:=hget i hi
       simp only[World.cell?,hb,Nat.zero_add]
       exact this
     · simp[World.frozen?,hb]
   have key:=Any.slices_Sort_int L b 0 cap zs w hH hbs (by omega)
   refine key.mono λe' w' ⟨h1,n,os,hw⟩=>⟨h1,?_,?_⟩
   · rw[hw];exact zI _ hJ n _ os
   · have hd:(zs.mergeSort λx y=>decide (x<=y)).length=zs.length:=List.length_mergeSort _
     generalize(zs.mergeSort λx y=>decide (x<=y))=ds at hd hw
     refine .inr ⟨b,cap,_,e,by rw[hd],by rw[hd];exact hcap,hm,hJ,by rw[hw];exact ut (Value.int .i64) hb n ds.toArray os,by rw[hsz1,Nat.mul_one];simpa[putCells] using hcs,λi x hi=>?_⟩
     have hi':i<ds.length:=(List.getElem?_eq_some_iff.1 hi).1
     refine⟨[Value.int .i64 x],λq hq=>?_,rfl⟩
     have:q=0:=by have:q<1:=hq;omega
     subst this
     rw[hsz1,Nat.mul_one,Nat.add_zero,mw _ (by simpa using hi') (by rw[hcs];omega),getElem!_pos ds.toArray _ (by simpa using hi')]
     simp[hi'] at hi
     simp[hi]
end TL
set_option linter.all false
namespace TL
open Go
def nZ(f:Fr)(val:Nat->Value)(S:List Nat):Fr:=λt=>bif S.contains t then val t else f t
theorem uj{f:Fr}{val:Nat->Value}{S S':List Nat}(h:∀t,t∈S↔t∈S'):nZ f val S=nZ f val S':=by
 funext t
 unfold nZ
 have:S.contains t=S'.contains t:=by
   rw[Bool.eq_iff_iff]
   simp only[List.contains_iff_mem];exact h t
 rw[this]
theorem Bt{f:Fr}{val:Nat->Value}{S:List Nat}{d:Nat}{v:Value}(hd:d∉S):gv (nZ f val S) (some d) v=nZ f (λt=>if t=d then v else val t) (d::S):=by
 funext t
 unfold gv nZ
 simp only
 by_cases c:t=d
 · subst c
   have e1:(t::S).contains t=true:=by simp
   rw[e1,Nat.beq_refl];simp
 · have e1:Nat.beq t d=false:=by
     cases h:Nat.beq t d with
     |false=>rfl
     |true=>exact absurd (Nat.eq_of_beq_eq_true h) c
   have e2:(d::S).contains t=S.contains t:=by
     rw[Bool.eq_iff_iff]
     simp[c]
   rw[e1,e2,if_neg c];rfl
def rZ{α:Type}:List α->List (List α)
 |[]=>[[]]
 |a::l=>rZ l++(rZ l).map (a:: ·)
theorem ms{α:Type}(p:α->Bool):∀l:List α,l.filter p∈rZ l
 |[]=>List.mem_singleton.2 rfl
 |a::l=>by
   have ih:=ms p l
   unfold rZ
   rw[List.filter_cons]
   split
   · exact List.mem_append_right _ (List.mem_map.2 ⟨_,ih,rfl⟩)
   · exact List.mem_append_left _ ih
theorem kq:∀(D A:List (Nat×Nat)),D.Nodup->(∀p∈D,p∈A)->D.length<=A.length
 |[],A,_,_=>Nat.zero_le _
 |a::D,A,hn,hs=>by
   have hn':=List.nodup_cons.1 hn
   have ha:=hs a (List.mem_cons_self ..)
   have h3:=kq D (A.erase a) hn'.2 (λx hx=>by
     have hne:x≠a:=λe=>hn'.1 (by rw[<-e];exact hx)
     exact(List.mem_erase_of_ne hne).2 (hs x (List.mem_cons_of_mem _ hx)))
   have h4:=List.length_erase_of_mem ha
   have h5:=List.length_pos_of_mem ha
   rw[List.length_cons];omega
theorem nG:∀{A:List (Nat×Nat)},(A.map Prod.fst).Nodup->A.Nodup
 |[],_=>List.nodup_nil
 |a::A,h=>by
   rw[List.map_cons,List.nodup_cons] at h
   exact List.nodup_cons.2 ⟨λk=>h.1 (List.mem_map.2 ⟨a,k,rfl⟩),nG h.2⟩
theorem oc{A:List (Nat×Nat)}(h:(A.map Prod.snd).Nodup){p q:Nat×Nat}(hp:p∈A)(hq:q∈A)(e:p.2=q.2):p=q:=by
 induction A with
 |nil=>exact absurd hp List.not_mem_nil
 |cons a A ih=>
   rw[List.map_cons,List.nodup_cons] at h
   rcases List.mem_cons.1 hp with e1|e1
   · rcases List.mem_cons.1 hq with e2|e2
     · rw[e1,e2]
     · exact absurd (List.mem_map.2 ⟨q,e2,by rw[<-e,e1]⟩) h.1
   · rcases List.mem_cons.1 hq with e2|e2
     · exact absurd (List.mem_map.2 ⟨p,e1,by rw[e,e2]⟩) h.1
     · exact ih h.2 e1 e2
section
variable{P:Program}{n:Nat}{l:List Oper}{qs:List Nat}{K:Fr->World->Prop}{f:Fr}{w:World}{done:List Nat}{fuel:Nat}
theorem nK{n:Nat}{d d':List Nat}(h:∀t,t∈d↔t∈d'):c9 n d=c9 n d':=by
 unfold c9
 congr 1
 apply List.map_congr_left
 intro t _
 rw[decide_eq_decide];exact h t
theorem uY{done':List Nat}(h:∀t,t∈done↔t∈done')(hw:i6 P n l qs K fuel done f w):i6 P n l qs K fuel done' f w:=by
 unfold i6 at*
 rw[<-nK h];exact hw
def xm(dep:Nat->List Nat)(D:List (Nat×Nat)):Bool:=D.all λp=>(dep p.2).all λt=>(D.map Prod.snd).contains t
def qp(dep:Nat->List Nat)(A D:List (Nat×Nat)):List (Nat×Nat):=A.filter λp=> !(D.map Prod.fst).contains p.1&&(dep p.2).all λt=>(D.map Prod.snd).contains t
def FH(l:List Oper)(done:List Nat)(dep:Nat->List Nat)(A:List (Nat×Nat)):Bool:=(rZ A).all λD=>decide (D.length=A.length)||(xm dep D).not||(decide (Region.ready .any l.toArray (c9 l.length (D.map Prod.fst++done))=(qp dep A D).map Prod.fst)&& !(qp dep A D).isEmpty)
theorem D0(A:List (Nat×Nat))(dep:Nat->List Nat)(Φ:Nat->List Value->ax->World->Value->Prop)(γ:ax)
    (hst:∀p∈A,∀vs γ w γ' w' v,bg no γ w γ' w'->Φ p.2 vs γ w v->Φ p.2 vs γ' w' v)
    (hnd:(A.map Prod.snd).Nodup)(hnf:(A.map Prod.fst).Nodup)
    (hrd:FH l done dep A=true)
    (hop:∀p∈A,qs.contains p.1=false/\∃o,l[p.1]? =some o/\o.dst=some p.2/\kr n o=true/\∀(f':Fr) (val:Nat->Value),(∀t,(A.map Prod.snd).contains t=false->f' t=f t)->(∀t∈dep p.2,f' t=val t)->cN l o f'=true/\∀γ w,(∀t∈dep p.2,Φ t ((dep t).map val) γ w (val t))->fv P o f' w λv w'=>∃γ',bg no γ w γ' w'/\Φ p.2 ((dep p.2).map val) γ' w' v)
    (hk:∀val γ' w',bg no γ w γ' w'->(∀p∈A,Φ p.2 ((dep p.2).map val) γ' w' (val p.2))->i6 P n l qs K fuel (A.map Prod.fst++done) (nZ f val (A.map Prod.snd)) w'):i6 P n l qs K (fuel+A.length) done f w:=by
  have main:∀(m:Nat) (D:List (Nat×Nat)) (val:Nat->Value) (γ':ax) (w':World),D.Nodup->(∀p∈D,p∈A)->(∀p∈D,∀t∈dep p.2,t∈D.map Prod.snd)->D.length+m=A.length->bg no γ w γ' w'->(∀p∈D,Φ p.2 ((dep p.2).map val) γ' w' (val p.2))->i6 P n l qs K (fuel+m) (D.map Prod.fst++done) (nZ f val (D.map Prod.snd)) w':=by
    have hAn:A.Nodup:=nG hnf
    intro m
    induction m with
    |zero=>
      intro D val γ' w' hD hsub hcl hl hc hF
      have hmem:∀p,p∈A↔p∈D:=by
        intro p
        refine⟨λhp=>?_,hsub p⟩
        by_cases c:p∈D
        · exact c
        · exfalso
          have:=kq (p::D) A (List.nodup_cons.2 ⟨c,hD⟩) (λq hq=>(List.mem_cons.1 hq).elim (λe=>by rw[e];exact hp) (hsub q))
          rw[List.length_cons] at this;omega
      have h1:=hk val γ' w' hc (λp hp=>hF p ((hmem p).1 hp))
      have e1:∀t,t∈A.map Prod.fst++done↔t∈D.map Prod.fst++done:=λt=>by
        simp only[List.mem_append,List.mem_map]
        constructor
        · rintro(⟨p,hp,rfl⟩|h)
          · exact .inl ⟨p,(hmem p).1 hp,rfl⟩
          · exact .inr h
        · rintro(⟨p,hp,rfl⟩|h)
          · exact .inl ⟨p,(hmem p).2 hp,rfl⟩
          · exact .inr h
      have e2:nZ f val (A.map Prod.snd)=nZ f val (D.map Prod.snd):=uj λt=>by
        simp only[List.mem_map]
        constructor
        · rintro⟨p,hp,rfl⟩;exact⟨p,(hmem p).1 hp,rfl⟩
        · rintro⟨p,hp,rfl⟩;exact⟨p,(hmem p).2 hp,rfl⟩
      rw[e2] at h1
      exact uY e1 h1
    |succ m ih=>
      intro D val γ' w' hD hsub hcl hl hc hF
      let D':=A.filter λp=>decide (p∈D)
      have hD':∀p,p∈D'↔p∈D:=λp=>by
        show p∈A.filter _↔_
        rw[List.mem_filter,decide_eq_true_iff]
        exact⟨λh=>h.2,λh=>⟨hsub p h,h⟩⟩
      have hD1:∀t,t∈D'.map Prod.fst↔t∈D.map Prod.fst:=λt=>by
        simp only[List.mem_map]
        exact⟨λ⟨p,hp,e⟩=>⟨p,(hD' p).1 hp,e⟩,λ⟨p,hp,e⟩=>⟨p,(hD' p).2 hp,e⟩⟩
      have hD2:∀t,t∈D'.map Prod.snd↔t∈D.map Prod.snd:=λt=>by
        simp only[List.mem_map]
        exact⟨λ⟨p,hp,e⟩=>⟨p,(hD' p).1 hp,e⟩,λ⟨p,hp,e⟩=>⟨p,(hD' p).2 hp,e⟩⟩
      have hlD:D'.length≠A.length:=by
        have h1:=kq D' D (hAn.filter _) (λp hp=>(hD' p).1 hp)
        omega
      have hcD:xm dep D'=true:=by
        unfold xm
        simp only[List.all_eq_true,List.contains_iff_mem]
        exact λp hp t ht=>(hD2 t).2 (hcl p ((hD' p).1 hp) t ht)
      have hr0:=List.all_eq_true.1 hrd D' (ms _ A)
      rw[decide_eq_false hlD,hcD] at hr0
      simp only[Bool.not_true,Bool.or_false,Bool.false_or,Bool.and_eq_true] at hr0
      obtain⟨hr1,hne⟩:=hr0
      have hr:=of_decide_eq_true hr1
      have em:c9 l.length (D'.map Prod.fst++done)=c9 l.length (D.map Prod.fst++done):=nK λt=>by
        simp only[List.mem_append];rw[hD1 t]
      rw[em] at hr
      have hnx:∀p,p∈qp dep A D'->p∈A/\p∉D/\∀t∈dep p.2,t∈D.map Prod.snd:=λp hp=>by
        unfold qp at hp
        rw[List.mem_filter,Bool.and_eq_true,List.all_eq_true] at hp
        obtain⟨h1,h2,h3⟩:=hp
        refine⟨h1,λk=>?_,λt ht=>(hD2 t).1 (List.contains_iff_mem.1 (h3 t ht))⟩
        have:p.1∈D'.map Prod.fst:=List.mem_map.2 ⟨p,(hD' p).2 k,rfl⟩
        simp[this] at h2
      intro a ha
      refine⟨λh0=>?_,λk hk2=>?_⟩
      · rw[hr] at h0
        have h5:qp dep A D'=[]:=List.map_eq_nil_iff.1 h0
        rw[h5] at hne;cases hne
      · rw[hr] at hk2
        obtain⟨p,hp0,rfl⟩:=List.mem_map.1 hk2
        obtain⟨hp,hpD,hdp⟩:=hnx p hp0
        obtain⟨hq,o,hi,hdst,hdk,ho⟩:=hop p hp
        have hlt:p.1<l.length:=(List.getElem?_eq_some_iff.1 hi).1
        have hq':decide (p.1∈qs)=false:=by simpa using hq
        have hd2:p.2∉D.map Prod.snd:=by
          intro k
          obtain⟨q,hq2,e⟩:=List.mem_map.1 k
          have:q=p:=oc hnd (hsub q hq2) hp e
          rw[this] at hq2;exact hpD hq2
        obtain⟨hw1,hw2⟩:=ho (nZ f val (D.map Prod.snd)) val (λt ht=>by
          unfold nZ
          have:(D.map Prod.snd).contains t=false:=by
            cases hc2:(D.map Prod.snd).contains t with
            |false=>rfl
            |true=>
              obtain⟨q,hq2,e⟩:=List.mem_map.1 (List.contains_iff_mem.1 hc2)
              have:(A.map Prod.snd).contains t=true:=List.contains_iff_mem.2 (List.mem_map.2 ⟨q,hsub q hq2,e⟩)
              rw[this] at ht;cases ht
          rw[this];rfl) (λt ht=>by
          unfold nZ
          rw[List.contains_iff_mem.2 (hdp t ht)];rfl)
        simp only[hq',Bool.false_eq_true,if_false]
        refine fg ha hi hw1 (hw2 γ' w' (λt ht=>?_)) λv w2 ⟨γ2,c2,h2⟩=>?_
        · obtain⟨q,hq2,e⟩:=List.mem_map.1 (hdp t ht)
          rw[<-e];exact hF q hq2
        rw[db _ hlt]
        have hc2:bg no γ w γ2 w2:=hc.trans c2 (λ_ _ h=>h.elim id id)
        have hval:∀q:Nat×Nat,(∀t∈dep q.2,t∈D.map Prod.snd)->(dep q.2).map (λt=>if t=p.2 then v else val t)=(dep q.2).map val:=λq hq2=>List.map_congr_left λt ht=>by
          rw[if_neg]
          intro e
          exact hd2 (by rw[<-e];exact hq2 t ht)
        have hnext:=ih (p::D) (λt=>if t=p.2 then v else val t) γ2 w2 (List.nodup_cons.2 ⟨hpD,hD⟩) (λq hq2=>(List.mem_cons.1 hq2).elim (λe=>by rw[e];exact hp) (hsub q)) (λq hq2 t ht=>by
          rw[List.map_cons]
          rcases List.mem_cons.1 hq2 with e|e
          · rw[e] at ht;exact List.mem_cons_of_mem _ (hdp t ht)
          · exact List.mem_cons_of_mem _ (hcl q e t ht)) (by rw[List.length_cons];omega) hc2 (λq hq2=>by
          rcases List.mem_cons.1 hq2 with e|e
          · rw[e,if_pos rfl,hval p hdp];exact h2
          · have hne:q.2≠p.2:=λk=>hd2 (by rw[<-k];exact List.mem_map.2 ⟨q,e,rfl⟩)
            rw[if_neg hne,hval q (hcl q e)]
            exact hst q (hsub q e) _ _ _ _ _ _ c2 (hF q e))
        have ef:gv (nZ f val (D.map Prod.snd)) o.dst v=nZ f (λt=>if t=p.2 then v else val t) ((p::D).map Prod.snd):=by
          rw[hdst,Bt hd2];rfl
        have:=hnext (a.put o.dst v) (by rw[<-ef];exact ha.put hdk v)
        exact this
  have h0:=main A.length [] (λ_=>undef) γ w List.nodup_nil (λp hp=>absurd hp List.not_mem_nil) (λp hp=>absurd hp List.not_mem_nil) (by simp) (bg.refl _ _ _) (λp hp=>absurd hp List.not_mem_nil)
  have e0:nZ f (λ_=>undef) (([]:List (Nat×Nat)).map Prod.snd)=f:=by
    funext t;rfl
  rw[e0] at h0
  exact h0
end
end TL
namespace TL
open Go
structure Mk where
  op:Nat
  slot:Nat
  dep:List Nat
  ok:List Value->ax->World->Value->Prop
def Cp:List Mk->Prop
 |[]=>True
 |p::r=>(∀vs γ w γ' w' v,bg no γ w γ' w'->p.ok vs γ w v->p.ok vs γ' w' v)/\Cp r
def iq:List Mk->Nat->List Nat
 |[],_=>[]
 |p::r,t=>bif Nat.beq t p.slot then p.dep else iq r t
def mD:List Mk->Nat->List Value->ax->World->Value->Prop
 |[],_=>λ_ _ _ _=>False
 |p::r,t=>bif Nat.beq t p.slot then p.ok else mD r t
def BN(P:Program)(n:Nat)(l:List Oper)(qs:List Nat)(f:Fr)(L:List Mk)(S:List Nat):List Mk->Prop
  |[]=>True
  |p::r=>(qs.contains p.op=false/\∃o,l[p.op]? =some o/\o.dst=some p.slot/\kr n o=true/\∀(f':Fr) (val:Nat->Value),(∀t,S.contains t=false->f' t=f t)->(∀t∈p.dep,f' t=val t)->cN l o f'=true/\∀γ w,(∀t∈p.dep,mD L t ((iq L t).map val) γ w (val t))->fv P o f' w λv w'=>∃γ',bg no γ w γ' w'/\p.ok (p.dep.map val) γ' w' v)/\BN P n l qs f L S r
theorem Cp.mem{L:List Mk}(h:Cp L):∀p∈L,∀vs γ w γ' w' v,bg no γ w γ' w'->p.ok vs γ w v->p.ok vs γ' w' v:=by
 induction L with
 |nil=>intro p hp;exact absurd hp List.not_mem_nil
 |cons a L ih=>
   intro p hp
   rcases List.mem_cons.1 hp with e|e
   · rw[e];exact h.1
   · exact ih h.2 p e
theorem oZ{a b:Nat}(h:a≠b):Nat.beq a b=false:=by
 cases k:Nat.beq a b with
 |false=>rfl
 |true=>exact absurd (Nat.eq_of_beq_eq_true k) h
theorem lW:∀{L:List Mk},(L.map Mk.slot).Nodup->∀p∈L,iq L p.slot=p.dep/\mD L p.slot=p.ok
 |[],_,p,hp=>absurd hp List.not_mem_nil
 |a::L,h,p,hp=>by
   rw[List.map_cons,List.nodup_cons] at h
   rcases List.mem_cons.1 hp with e|e
   · rw[e];unfold iq mD;rw[Nat.beq_refl];exact⟨rfl,rfl⟩
   · have hne:p.slot≠a.slot:=λk=>h.1 (by rw[<-k];exact List.mem_map.2 ⟨p,e,rfl⟩)
     unfold iq mD
     rw[oZ hne];exact lW h.2 p e
def kD(K:Fr->Prop)(γ:ax)(w:World):List Mk->List (Nat×Value)->Fr->Prop
  |[],_,f=>K f
  |p::r,env,f=>∀v,p.ok (p.dep.map λt=>(env.lookup t).getD undef) γ w v->kD K γ w r ((p.slot,v)::env) (gv f (some p.slot) v)
def u7:List Mk->List Nat->Bool
 |[],_=>true
 |p::r,S=>(p.dep.all λt=>S.contains t)&&u7 r (p.slot::S)
theorem AK{f:Fr}{val:Nat->Value}{d:Nat}{S:List Nat}:nZ (gv f (some d) (val d)) val S=nZ f val (d::S):=by
 funext t
 unfold nZ gv
 simp only
 by_cases c:t=d
 · subst c
   have e1:(t::S).contains t=true:=by simp
   rw[e1,Nat.beq_refl];cases S.contains t<;>rfl
 · have e1:Nat.beq t d=false:=oZ c
   have e2:(d::S).contains t=S.contains t:=by
     rw[Bool.eq_iff_iff]
     simp[c]
   rw[e1,e2];rfl
theorem kD.use{K:Fr->Prop}{γ:ax}{w:World}{val:Nat->Value}:∀{L:List Mk} {env:List (Nat×Value)} {f:Fr},kD K γ w L env f->(∀t∈env.map Prod.fst,(env.lookup t).getD undef=val t)->u7 L (env.map Prod.fst)=true->(∀p∈L,p.ok (p.dep.map val) γ w (val p.slot))->K (nZ f val (L.map Mk.slot))
 |[],_,f,h,_,_,_=>by
   have:nZ f val (([]:List Mk).map Mk.slot)=f:=by funext t;rfl
   rw[this];exact h
 |p::L,env,f,h,he,ht,hF=>by
   unfold u7 at ht
   rw[Bool.and_eq_true,List.all_eq_true] at ht
   have e1:p.dep.map (λt=>(env.lookup t).getD undef)=p.dep.map val:=List.map_congr_left λt h1=>he t (List.contains_iff_mem.1 (ht.1 t h1))
   have h2:=h (val p.slot) (by rw[e1];exact hF p (List.mem_cons_self ..))
   have:=kD.use h2 (λt h3=>by
     rw[List.lookup_cons]
     by_cases c:t=p.slot
     · rw[c];simp
     · have:(t==p.slot)=false:=by simpa using c
       rw[this]
       exact he t ((List.mem_cons.1 h3).resolve_left c)) ht.2 (λq hq=>hF q (List.mem_cons_of_mem _ hq))
   rw[AK] at this;exact this
section
variable{P:Program}{n:Nat}{l:List Oper}{qs:List Nat}{K:Fr->World->Prop}{f:Fr}{w:World}{done:List Nat}{fuel:Nat}{S:List Nat}
theorem BN.mem{L M:List Mk}(h:BN P n l qs f M S L):∀p∈L,qs.contains p.op=false/\∃o,l[p.op]? =some o/\o.dst=some p.slot/\kr n o=true/\∀(f':Fr) (val:Nat->Value),(∀t,S.contains t=false->f' t=f t)->(∀t∈p.dep,f' t=val t)->cN l o f'=true/\∀γ w,(∀t∈p.dep,mD M t ((iq M t).map val) γ w (val t))->fv P o f' w λv w'=>∃γ',bg no γ w γ' w'/\p.ok (p.dep.map val) γ' w' v:=by
 induction L with
 |nil=>intro p hp;exact absurd hp List.not_mem_nil
 |cons a L ih=>
   intro p hp
   rcases List.mem_cons.1 hp with e|e
   · rw[e];exact h.1
   · exact ih h.2 p e
theorem Ck(γ:ax)(L:List Mk)(A:List (Nat×Nat))(fu:Nat)(hA:L.map (λp=>(p.op,p.slot))=A)(hst:Cp L)(hnd0:(A.map Prod.snd).Nodup)(hnf:(A.map Prod.fst).Nodup)
    (hrd:FH l done (iq L) A=true)(htp:u7 L []=true)
    (hfu:fu=fuel+A.length)(hop:BN P n l qs f L (A.map Prod.snd) L)
    (hk:∀γ' w',bg no γ w γ' w'->kD (λf'=>i6 P n l qs K fuel (A.map Prod.fst++done) f' w') γ' w' L [] f):i6 P n l qs K fu done f w:=by
  subst hfu
  have e1:A.map Prod.snd=L.map Mk.slot:=by rw[<-hA,List.map_map];rfl
  have hnd:(L.map Mk.slot).Nodup:=by rw[<-e1];exact hnd0
  refine D0 A (iq L) (mD L) γ (λq hq=>?_) hnd0 hnf hrd (λq hq=>?_) (λval γ' w' hc hF=>?_)
  · rw[<-hA] at hq
    obtain⟨p,hp,rfl⟩:=List.mem_map.1 hq
    intro vs γ w γ' w' v hc
    show mD L p.slot vs γ w v->mD L p.slot vs γ' w' v
    rw[(lW hnd p hp).2];exact hst.mem p hp vs γ w γ' w' v hc
  · rw[<-hA] at hq
    obtain⟨p,hp,rfl⟩:=List.mem_map.1 hq
    obtain⟨a,o,b,c,d,e⟩:=hop.mem p hp
    show qs.contains p.op=false/\∃o,l[p.op]? =some o/\o.dst=some p.slot/\kr n o=true/\∀(f':Fr) (val:Nat->Value),(∀t,(A.map Prod.snd).contains t=false->f' t=f t)->(∀t∈iq L p.slot,f' t=val t)->cN l o f'=true/\∀γ w,(∀t∈iq L p.slot,mD L t ((iq L t).map val) γ w (val t))->fv P o f' w λv w'=>∃γ',bg no γ w γ' w'/\mD L p.slot ((iq L p.slot).map val) γ' w' v
    rw[(lW hnd p hp).1,(lW hnd p hp).2]
    exact⟨a,o,b,c,d,e⟩
  · have h1:=(hk γ' w' hc).use (val:=val) (λt ht=>absurd ht List.not_mem_nil) htp (λp hp=>by
      have:=hF (p.op,p.slot) (by rw[<-hA];exact List.mem_map.2 ⟨p,hp,rfl⟩)
      have h2:mD L p.slot ((iq L p.slot).map val) γ' w' (val p.slot):=this
      rw[(lW hnd p hp).1,(lW hnd p hp).2] at h2;exact h2)
    rw[e1];exact h1
theorem zk{o:Oper}{v:Value}{N:Value->World->Prop}(h:(execOp (ev f) o).run P w= .ok (.value v) w)(hk:N v w):fv P o f w N:=by unfold fv;rw[h];exact hk
end
theorem jX{t:Nat}{l:List Nat}(h:l.contains t=true):t∈l:=List.contains_iff_mem.1 h
theorem qo{f:Fr}{i:Nat}{x:Operand}{xs:List (Nat×Operand)}{v:Value}{vs:List (Nat×Value)}(h:ev f x=v)(h2:xs.map (λx=>(x.1,ev f x.2))=vs):((i,x)::xs).map (λx=>(x.1,ev f x.2))=(i,v)::vs:=by subst h h2;rfl
end TL
set_option linter.all false
namespace TL
section
variable{V:List cB}{J:List Int×List Bool}{i:Nat}{of1:List Int}{gone:List Bool}{X:cB}{G:List (Int×cB)}{F F':Int->Int}{out out':List Pp}{B B':nY}{u:Pp}{m:Nat}{r c:Int}
def Ci(V:List cB)(J:List Int×List Bool)(i:Nat)(r c:Int)(F:Int->Int)(out:List Pp)(B:nY):Prop:=
 ∃(G:List (Int×cB)) (u:Pp),lR G F out B/\(F r=(u.n:Int)+1/\u∈out)/\(G=fJ V J i\/(r∉(fJ V J i).map (·.1)/\G=fJ V J i++[(r,((c,[]):cB))]))
theorem Ci.old(h:lR (fJ V J i) F out B)(hr:F r=(u.n:Int)+1)(hu:u∈out):Ci V J i r c F out B:=⟨_,u,h,⟨hr,hu⟩,.inl rfl⟩
theorem Ci.new(h0:lR (fJ V J i) F out B)(hz:F r=0)(h:lR (fJ V J i++[(r,(c,[]))]) F' out' B')(hr:F' r=(u.n:Int)+1)(hu:u∈out'):Ci V J i r c F' out' B':=⟨_,u,h,⟨hr,hu⟩,.inr ⟨(h0.f0 _).1 hz,rfl⟩⟩
theorem BG{names:Int}(h:lR G F out B)(hu:u∈out)(hG:G=fJ V J i\/(r∉(fJ V J i).map (·.1)/\G=fJ V J i++[(r,((c,[]):cB))]))(hn:qj V names)(hi:(i:Int)<=V.length):((bt B u).2.length:Int)<=100000*(i:Int):=
 DM h hu (hG.imp id λq=>⟨_,_,q.2⟩) hn hi
theorem Dq(h1:of1=J.1)(h2:gone=J.2)(hv:gI V (i:Int)=X)(h:lR G F out B)(hG:G=fJ V J i\/(dm of1 (i:Int)∉(fJ V J i).map (·.1)/\G=fJ V J i++[(dm of1 (i:Int),((X.1,[]):cB))]))(hr:F (dm of1 (i:Int))=(u.n:Int)+1)(hu:u∈out)(hm:¬(m:Int)<X.2.length):
   lR (fJ V J (i+1)) F out (B.1,B.2.set (B.1.idxOf u) ((bt B u).1,(bt B u).2++iO gone (X.2.take m))):=by
 rcases hG with e|⟨e1,e⟩
 · rw[e] at h
   exact E9 h1 h2 hv h hr hu hm
 · rw[e] at h
   rw[List.take_of_length_le (by omega)]
   have:=h.put (p:=X) (bs:=iO gone X.2) hr hu (h.in_ hr)
   rw[rf e1] at this
   subst h1;subst h2;subst hv
   exact this
end
end TL
set_option linter.all false
namespace TL
end TL
namespace TL
end TL
namespace TL
open Go
theorem D8{P:Program}{f:Fr}{w:World}{dst:Option Tmp}{ty:TypeId}{pos:String}{after:Array Edge}{g:Option (Nat×Bool)}{t t':TypeId}{x y:Operand}{op:BinOp}{k:IntKind}{m n r:Int}(hx:ev f x= .int k m)(hy:ev f y= .int k n)(h:binOp op t (.int k m) (.int k n)=pure (.int k r)):(execOp (ev f) ⟨dst,.binOp op t x y t',ty,pos,after,g⟩).run P w= .ok (.value (.int k r)) w:=
 d8 op x y hx hy (by rw[h];rfl)
end TL
namespace TL
end TL
namespace TL
open Go Go.Proofs Go.ChangeShapes Go.WideShapes Go.RowKit
def u5(P:Program)(ts:List TypeId):Bool:=ts.all λt=>P.readableRec t&&decide (t<P.types.size)
theorem oY{H:Type}{enc:TypeId×Value->H}{P:Program}(hl:laidOutB P=true){W W':World}(hb:Below W.heap.size W W')(sp:Nat->Bool):
   ∀{ts:List TypeId} {vs:List Value} {ds:List (DataW H)} {ps:List MemPlace},u5 P ts=true->DataW.TrodAll enc P W 0 (λ_=>true) true ts vs ds ps->(∀p∈ps,p.block<W.heap.size)->(∀p∈ps,sp p.block=true)->DataW.TrodAll enc P W' 0 sp true ts vs ds ps
 |[],[],[],_,_,h,_,_=>h
 |[],[],_::_,_,_,h,_,_=>h.elim
 |[],_::_,_,_,_,h,_,_=>by cases‹List (DataW H)›<;>exact h.elim
 |_::_,[],_,_,_,h,_,_=>by cases‹List (DataW H)›<;>exact h.elim
 |_::_,_::_,[],_,_,h,_,_=>h.elim
 |t::ts,v::vs,d::ds,ps,hr,h,hlt,hsp=>by
   obtain⟨p,q,h1,h2,rfl⟩:=h
   simp only[u5,List.all_cons,Bool.and_eq_true,decide_eq_true_eq] at hr
   exact⟨p,q,WideElems.Trod_stays hl hr.1.1 hr.1.2 h1 (λx hx=>hb.same (hlt x (by simp[hx]))) (λx hx=>hsp x (by simp[hx])),
     oY hl hb sp hr.2 h2 (λx hx=>hlt x (by simp[hx])) (λx hx=>hsp x (by simp[hx])),rfl⟩
theorem zG{H:Type}{enc:TypeId×Value->H}{P:Program}{f:Func}{s:ChangeSpec}{W W':World}{args:Array Value}{ds gs:List (DataW H)}{before:List MemPlace}{tb:TypeId}
   (hl:laidOutB P=true)(hr:u5 P f.params.toList=true)(hv:s.vars=[])(hrt:f.resultTypes= #[tb])(htb:P.underlying tb=some .bool)
   (hW:DataW.Whole enc P f.params.toList s.vars false W args.toList ds gs before)(hfn:s.fn H (ds++gs)={results:=[.lit (.bool true)],args:=ds})(hB:Below W.heap.size W W'):
   s.post enc P f false true false false W args (.bool true) W':=by
 have hlt:=hW.lt
 have hW0:=hW
 obtain⟨p,q,hA,hV,rfl,hfz,_⟩:=hW
 rw[hv] at hV
 obtain⟨rfl,rfl⟩:=trodVars_none hV
 simp only[List.append_nil] at hlt hfz hW0 hfn
 have hres:∀(b:Nat) (sp:Nat->Bool) (hd:Bool),DataW.TrodAll enc P W' b sp hd f.resultTypes.toList ((Value.bool true).resultList f.resultTypes.size) (s.fn H (ds++[])).results []:=λb sp hd=>by
   rw[hrt,List.append_nil,hfn]
   exact trodAll_cons_mk (shut_bool htb true) trodAll_mk0
 have hargs:∀sp:Nat->Bool,(∀x∈p,sp x.block=true)->DataW.TrodAll enc P W' 0 sp true f.params.toList args.toList (s.fn H (ds++[])).args p:=λsp hsp=>by
   rw[List.append_nil,hfn]
   exact oY hl hB sp hr hA hlt hsp
 have hvars:∀sp:Nat->Bool,DataW.TrodVars enc P W' sp s.vars (s.fn H (ds++[])).vars []:=λsp=>by
   rw[List.append_nil,hfn,hv]
   rfl
 refine⟨ds,[],p,[],p,[],hW0,hres _ _ _,hargs _ (λx hx=>by simpa using hlt x hx),hvars _,World.keptBut_mono (λx hx=>⟨hx,Or.inr (by simpa using hx)⟩) (hB.frame _),λ_=>?_⟩
 refine⟨?_,_,_,([]++p)++[],⟨[]++p,[],trodAll_append (hargs _ (λ_ _=>rfl)) (hres _ _ _),hvars _,rfl,?_,?_⟩,?_⟩
 · exact ok_one hrt rfl (okWide_bool_mk htb true)
 · intro b off hp
   have hp':MemPlace.cell b off∈p:=by simpa using hp
   rw[hB.frozen (p:=⟨b,off,none⟩) (hlt _ hp')]
   exact hfz b off hp'
 · intro ha;cases ha
 · intro x hx _
   simpa using hx
end TL
